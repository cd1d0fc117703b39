/- Some of our texts, one behind the other. -/
import Derived.Test.YtikjpdpgdmbdpaaGreatLtM12
import Derived.Test.YtikjpdpgdmbdpaaGreatLtM25
import Derived.Test.YtikjpdpgdmbdpaaGreatLtM24
import Derived.Test.YtikjpdpgdmbdpaaGreatLtM17
import Derived.Test.YtikjpdpgdmbdpaaGreatLtM18
import Derived.Test.YtikjpdpgdmbdpaaGreatLtM23
import Derived.Test.YtikjpdpgdmbdpaaGreatLtM15
set_option linter.all false
/- Ours. -/
namespace Go.Proofs.YtikjpdpgdmbdpaaGreat
open Go.RowKit
set_option maxRecDepth 20000 in
set_option maxHeartbeats 20000000 in
theorem yg {fu:Nat} (w0:World) {a0v:Value} {a0F:List Nat} (a0:Nat × T Res) {a1g:MG} (a1:Mem) (a2:Cap) (hS:Sep [bw Tryz.prog ar a0 a0v a0F,memK a1g a1] w0) {res:(Nat × T Res) × Bool × Mem} (hD:D.o6 fu a0 a1 a2=some res) :
    Calls Tryz.prog 27 #[a0v,zp a1g.mb,.agg (capC a2).toArray] w0 (fun e w'=>∃ (v0:Value) (F0:List Nat),e=.returned (.tuple #[v0,(.bool res.2.1)])∧Done (fun b=>b∈a0F∨b∈(memK a1g a1).own) No [memK a1g res.2.2,bw Tryz.prog ar res.1 v0 F0] w0 w'∧(res.2.1=false→v0=a0v∧res.1=a0)):=by
 refine enter Tryz.func27 rfl 28 rfl rfl fun fr r=>?_;have hP:Post (fun b=>b∈a0F∨b∈(memK a1g a1).own) [bw Tryz.prog ar a0 a0v a0F,memK a1g a1] w0 w0:=.start hS (by intro c hc b hb; rcases List.mem_cons.1 hc with rfl | hc; exact .inl hb; rcases List.mem_singleton.1 hc with rfl; exact .inr hb)
 unfold D.o6 at hD
 refine wsr ?_;refine kX 57 a0v r rfl rfl fun b1 w2 n3 r=>?_;have hP:Post (fun b=>b∈a0F∨b∈(memK a1g a1).own) [bw Tryz.prog ar a0 a0v a0F,memK a1g a1,aa b1 a0v.cells 57] w0 w2:=hP.new n3
 refine kX 68 (.agg (capC a2).toArray) r rfl rfl fun b5 w6 n7 r=>?_;have hP:Post (fun b=>b∈a0F∨b∈(memK a1g a1).own) [bw Tryz.prog ar a0 a0v a0F,memK a1g a1,aa b1 a0v.cells 57,aa b5 ((capC a2)).toArray 68] w0 w6:=hP.new n7
 refine ai (.cells (af false ar.zero 0 0 0 0 .nilFunc) 57 (0,0)) r (fun R=>ah tz57) rfl fun fr b9 w10 n11 r=>?_;have hP:Post (fun b=>b∈a0F∨b∈(memK a1g a1).own) [bw Tryz.prog ar a0 a0v a0F,memK a1g a1,aa b1 a0v.cells 57,aa b5 ((capC a2)).toArray 68,aa b9 (af false ar.zero 0 0 0 0 .nilFunc) 57] w0 w10:=hP.new n11
 refine kA (.bool false) r rfl rfl fun r=>wn (wp_seq (wsr (ac _ r (fun R=>ay r (b:=b1) (o:=0) (k:=0) rfl qm) rfl fun fr r=>kL (.bool a0.2.bf) r rfl (hP.cell (i:=2) rfl) to4 (Rep.jb (hP.progz (i:=0) rfl)) rfl fun r=>wn ?_)));refine wp_cond_split (t:=a0.2.bf) (r.ev rfl) (fun h13=>?_) (fun h13=>?_)
 ·
  have hD:=(aB h13).symm.trans hD;refine wsr (ac a0v r (fun R=>gI r (hP.progz (i:=0) rfl).shape rfl (hP.cell (i:=2) rfl) ta57) rfl fun fr r=>?_);refine kP r (hP.progz (i:=0) rfl).shape rfl rfl (hP.cell (i:=4) rfl) ts57 rfl rfl fun w14 u15 r=>?_
  have hP:Post (fun b=>b∈a0F∨b∈(memK a1g a1).own) [bw Tryz.prog ar a0 a0v a0F,memK a1g a1,aa b1 a0v.cells 57,aa b5 ((capC a2)).toArray 68,aa b9 a0v.cells 57] w0 w14:=hP.upd (i:=4) rfl u15
  refine kA (.bool false) r rfl rfl fun r=>wn (wp_ret ?_);have hv:(a0,false,a1)=res:=Option.some.inj hD
  try dsimp only [Exit.then,Exit.inBlock]
  have hs:=(hP.progz (i:=0) rfl).shape.cells;refine fI (fn:=Tryz.f27) r rfl rfl (v':=(.bool false)) rfl (hP.cell (i:=4) rfl) (k:=8) hs.1 ta57 ?_;rw [←hs.2.2];subst hv;exact ⟨a0v,a0F,rfl,(hP.pick [1,0] rfl rfl).done (cQ rfl (cQ rfl dw)),fun _=>⟨rfl,rfl⟩⟩
 have hD:=(aD h13).symm.trans hD;refine wp_skip (wsr (kM (zp a1g.mb) r rfl rfl fun r=>kG (capC a2) 2 r rfl (hP.cell (i:=3) rfl) ta68 rfl rfl fun r=>ac _ r (fun R=>ay r (b:=b1) (o:=0) (k:=3) rfl D5) rfl fun fr r=>kG (aZ (T.acc a0.2)) 4 r rfl (hP.cell (i:=2) rfl) ta38 (Rep.vA (hP.progz (i:=0) rfl) h13) rfl fun r=>?_));obtain ⟨x16,hx16,hD⟩:=bc hD
 refine kC r (sA w10 a1 a2 (T.acc a0.2) (hP.sep.pk [1] rfl rfl) hx16) rfl cl86 rfl ?_;rintro _ w17 ⟨rfl,hq⟩;refine ⟨_,rfl,fun fr r=>?_⟩
 have hP:Post (fun b=>b∈a0F∨b∈(memK a1g a1).own) [bw Tryz.prog ar a0 a0v a0F,memK a1g x16.2.2,aa b1 a0v.cells 57,aa b5 ((capC a2)).toArray 68,aa b9 (af false ar.zero 0 0 0 0 .nilFunc) 57] w0 w17:=hP.setN (i:=1) rfl hq
 refine kM (.tuple #[(U x16.1),(.bool x16.2.1)]) r rfl rfl fun r=>ac (U x16.1) r (fun R=>bP r (vs:=#[(U x16.1),(.bool x16.2.1)]) rfl rfl) rfl fun fr r=>ac (.bool x16.2.1) r (fun R=>bP r (vs:=#[(U x16.1),(.bool x16.2.1)]) rfl rfl) rfl fun fr r=>kA (U x16.1) r rfl rfl fun r=>kA (.bool x16.2.1) r rfl rfl fun r=>wn (wp_seq (wsr (kM (.bool x16.2.1) r rfl rfl fun r=>ac (.bool (!x16.2.1)) r (fun R=>y_un r (u:=(.bool x16.2.1)) rfl rfl) rfl fun fr r=>wn ?_)));refine wp_cond_split (t:=(!x16.2.1)) (r.ev rfl) (fun h18=>?_) (fun h18=>?_)
 ·
  have hD:=(aB h18).symm.trans hD;refine wsr (ac a0v r (fun R=>gI r (hP.progz (i:=0) rfl).shape rfl (hP.cell (i:=2) rfl) ta57) rfl fun fr r=>?_);refine kP r (hP.progz (i:=0) rfl).shape rfl rfl (hP.cell (i:=4) rfl) ts57 rfl rfl fun w19 u20 r=>?_
  have hP:Post (fun b=>b∈a0F∨b∈(memK a1g a1).own) [bw Tryz.prog ar a0 a0v a0F,memK a1g x16.2.2,aa b1 a0v.cells 57,aa b5 ((capC a2)).toArray 68,aa b9 a0v.cells 57] w0 w19:=hP.upd (i:=4) rfl u20
  refine kA (.bool false) r rfl rfl fun r=>wn (wp_ret ?_);have hv:(a0,false,x16.2.2)=res:=Option.some.inj hD
  try dsimp only [Exit.then,Exit.inBlock]
  have hs:=(hP.progz (i:=0) rfl).shape.cells;refine fI (fn:=Tryz.f27) r rfl rfl (v':=(.bool false)) rfl (hP.cell (i:=4) rfl) (k:=8) hs.1 ta57 ?_;rw [←hs.2.2];subst hv;exact ⟨a0v,a0F,rfl,(hP.pick [1,0] rfl rfl).done (cQ rfl (cQ rfl dw)),fun _=>⟨rfl,rfl⟩⟩
 have hD:=(aD h18).symm.trans hD;refine wp_skip (wsr (ac _ r (fun R=>ay r (b:=b1) (o:=0) (k:=7) rfl D2) rfl fun fr r=>?_));obtain ⟨nf21,n122,n223,hv24,hk25⟩:=RepL.qk (hP.progl (i:=0) rfl) h13
 refine kL (.func (.func nf21) n122.toArray n223.toArray) r rfl (hP.cell (i:=2) rfl) to55 hv24 rfl fun r=>kM (U x16.1) r rfl rfl fun r=>?_;obtain ⟨x26,hx26,hD⟩:=bc hD
 refine cA r (hk25.at_.2 x26 (by rw [ue hx26]; exact Nat.lt_succ_self _) x16.1 w17 (Same.refl _ _) (Nat.le_refl _)) (fun R hc=>dn r rfl rfl hk25.at_.1 hc) rfl ?_;rintro _ w27 ⟨v28,rfl,hb,hr29⟩
 refine ⟨_,rfl,fun fr r=>?_⟩
 have zw27:=hP.size;have hP:Post (fun b=>b∈a0F∨b∈(memK a1g a1).own) [bw Tryz.prog ar (x26,T.next a0.2 x16.1) v28 (a0F++rg w17.heap.size w27.heap.size),memK a1g x16.2.2,aa b1 a0v.cells 57,aa b5 ((capC a2)).toArray 68,aa b9 (af false ar.zero 0 0 0 0 .nilFunc) 57] w0 w27:=hP.callL (k:=0) rfl hb hr29
 refine kP r (hP.progz (i:=0) rfl).shape rfl rfl (hP.cell (i:=4) rfl) ts57 rfl rfl fun w31 u32 r=>?_;have hP:Post (fun b=>b∈a0F∨b∈(memK a1g a1).own) [bw Tryz.prog ar (x26,T.next a0.2 x16.1) v28 (a0F++rg w17.heap.size w27.heap.size),memK a1g x16.2.2,aa b1 a0v.cells 57,aa b5 ((capC a2)).toArray 68,aa b9 v28.cells 57] w0 w31:=hP.upd (i:=4) rfl u32
 refine kA (.bool true) r rfl rfl fun r=>wn (wp_ret ?_);have hv:((x26,T.next a0.2 x16.1),true,x16.2.2)=res:=Option.some.inj hD
 try dsimp only [Exit.then,Exit.inBlock]
 have hs:=(hP.progz (i:=0) rfl).shape.cells;refine fI (fn:=Tryz.f27) r rfl rfl (v':=(.bool true)) rfl (hP.cell (i:=4) rfl) (k:=8) hs.1 ta57 ?_;rw [←hs.2.2];subst hv;exact ⟨v28,(a0F++rg w17.heap.size w27.heap.size),rfl,(hP.pick [1,0] rfl rfl).done (cQ rfl (cQ rfl dw)),fun h=>by cases h⟩
set_option maxRecDepth 20000 in
set_option maxHeartbeats 20000000 in
theorem gi {fu:Nat} (w0:World) {a0v:Value} {a0F:List Nat} (a0:Nat × T Res) {a1g:MG} (a1:Mem) (a2:Cap) (a3:Int) (hS:Sep [bw Tryz.prog ar a0 a0v a0F,memK a1g a1] w0) {res:Res × Int × Bool × Mem} (hD:D.dT fu a0 a1 a2 a3=some res) :
    Calls Tryz.prog 37 #[a0v,zp a1g.mb,.agg (capC a2).toArray,.int .i64 a3] w0 (fun e w'=>e=.returned (.tuple #[(.agg (resC res.1).toArray),(.int .i64 res.2.1),(.bool res.2.2.1)])∧Done (fun b=>b∈a0F∨b∈(memK a1g a1).own) No [memK a1g res.2.2.2] w0 w'):=by
 refine enter Tryz.func37 rfl 39 rfl rfl fun fr r=>?_;have hP:Post (fun b=>b∈a0F∨b∈(memK a1g a1).own) [bw Tryz.prog ar a0 a0v a0F,memK a1g a1] w0 w0:=.start hS (by intro c hc b hb; rcases List.mem_cons.1 hc with rfl | hc; exact .inl hb; rcases List.mem_singleton.1 hc with rfl; exact .inr hb)
 unfold D.dT at hD
 refine wsr ?_;refine kX 57 a0v r rfl rfl fun b1 w2 n3 r=>?_;have hP:Post (fun b=>b∈a0F∨b∈(memK a1g a1).own) [bw Tryz.prog ar a0 a0v a0F,memK a1g a1,aa b1 a0v.cells 57] w0 w2:=hP.new n3
 refine kX 68 (.agg (capC a2).toArray) r rfl rfl fun b5 w6 n7 r=>?_;have hP:Post (fun b=>b∈a0F∨b∈(memK a1g a1).own) [bw Tryz.prog ar a0 a0v a0F,memK a1g a1,aa b1 a0v.cells 57,aa b5 ((capC a2)).toArray 68] w0 w6:=hP.new n7
 refine ai (.cells ((resC (⟨0,0⟩:Res))).toArray 54 (0,0)) r (fun R=>ah tz54) rfl fun fr b9 w10 n11 r=>?_;have hP:Post (fun b=>b∈a0F∨b∈(memK a1g a1).own) [bw Tryz.prog ar a0 a0v a0F,memK a1g a1,aa b1 a0v.cells 57,aa b5 ((capC a2)).toArray 68,aa b9 ((resC (⟨0,0⟩:Res))).toArray 54] w0 w10:=hP.new n11
 refine kA (I 0) r rfl rfl fun r=>kA (.bool false) r rfl rfl fun r=>wn (wsr (kA (I 0) r rfl rfl fun r=>wn (wp_seq ?_)));refine fq (X:=Int × Mem × (Nat × T Res)) (G:=Value × List Nat) (x0:=(0,a1,a0)) (fun x γ=>[(0,a0v),(1,(zp a1g.mb)),(2,(.agg (capC a2).toArray)),(3,(I a3)),(4,(zp b1)),(6,(zp b5)),(8,(zp b9)),(9,(I 0)),(10,(.bool false)),(11,(I x.1))]) (fun x γ w=>Post (fun b=>b∈a0F∨b∈(memK a1g a1).own) [bw Tryz.prog ar x.2.2 γ.1 γ.2,memK a1g x.2.1,aa b1 γ.1.cells 57,aa b5 ((capC a2)).toArray 68,aa b9 ((resC (⟨0,0⟩:Res))).toArray 54] w0 w) (a0v,a0F) r (kO (kO (aw rfl (aw rfl aP)))) hP hD ?_ ?_
 ·
  rintro x13 γ14 fr w16 g y15 RPy15 nxy15 bky15 rty15 r hP hD;have hP:Post (fun b=>b∈a0F∨b∈(memK a1g a1).own) [bw Tryz.prog ar x13.2.2 γ14.1 γ14.2,memK a1g x13.2.1,aa b1 γ14.1.cells 57,aa b5 ((capC a2)).toArray 68,aa b9 ((resC (⟨0,0⟩:Res))).toArray 54] w0 w16:=hP
  refine wp_seq (wp_seq ?_);refine cZ (N:=39) (Y:=Bool) (G:=Unit) (fun x γ=>[(0,a0v),(1,(zp a1g.mb)),(2,(.agg (capC a2).toArray)),(3,(I a3)),(4,(zp b1)),(6,(zp b5)),(8,(zp b9)),(9,(I 0)),(10,(.bool false)),(11,(I x13.1)),(21,(.bool x))]) (fun x γ w=>Post (fun b=>b∈a0F∨b∈(memK a1g a1).own) [bw Tryz.prog ar x13.2.2 γ14.1 γ14.2,memK a1g x13.2.1,aa b1 γ14.1.cells 57,aa b5 ((capC a2)).toArray 68,aa b9 ((resC (⟨0,0⟩:Res))).toArray 54] w0 w) hD ?_ ?_
  ·
   rintro y17 RPy17 nxy17 hD;refine wp_region_lit (kM (I x13.1) r rfl rfl fun r=>kM (I a3) r rfl rfl fun r=>kB r rfl rfl rfl rfl rfl fun r=>kM (.bool (decide (x13.1<a3))) r rfl rfl fun r=>?_);refine bT (decide (x13.1<a3)) (fun h18=>?_) (fun h18=>?_)
   ·
    have hD:=(aB h18).symm.trans hD;refine s1 r h18 (ac _ r (fun R=>ay r (b:=b1) (o:=0) (k:=0) rfl qm) rfl fun fr r=>s1 r h18 (kL (.bool x13.2.2.2.bf) r rfl (hP.cell (i:=2) rfl) to4 (Rep.jb (hP.progz (i:=0) rfl)) rfl fun r=>s1 r h18 (ac (.bool (!x13.2.2.2.bf)) r (fun R=>y_un r (u:=(.bool x13.2.2.2.bf)) rfl rfl) rfl fun fr r=>ac (.bool (!x13.2.2.2.bf)) r (fun R=>ax r (b:=true) (congrArg Value.bool h18) rfl) rfl fun fr r=>wn ?_)));exact nxy17 (!x13.2.2.2.bf) () _ _ _ hD r (kO (kO (aw rfl (aw rfl (aw rfl aP))))) (hP.pick [0,1,2,3,4] rfl rfl)
   have hD:=(aD h18).symm.trans hD;refine s0 r h18 fun fr r=>s0 r h18 fun fr r=>s0 r h18 fun fr r=>ac (.bool false) r (fun R=>ax r (b:=false) (congrArg Value.bool h18) rfl) rfl fun fr r=>wn ?_;exact nxy17 false () _ _ _ hD r (kO (kO (aw rfl (aw rfl (aw rfl aP))))) (hP.pick [0,1,2,3,4] rfl rfl)
  rintro x19 γ20 fr w21 g r hP hD;have hP:Post (fun b=>b∈a0F∨b∈(memK a1g a1).own) [bw Tryz.prog ar x13.2.2 γ14.1 γ14.2,memK a1g x13.2.1,aa b1 γ14.1.cells 57,aa b5 ((capC a2)).toArray 68,aa b9 ((resC (⟨0,0⟩:Res))).toArray 54] w0 w21:=hP
  refine wp_cond_split (t:=x19) (r.ev rfl) (fun h22=>?_) (fun h22=>?_)
  ·
   have hD:=(aB h22).symm.trans hD;refine wp_skip (wp_block (wsr (ac γ14.1 r (fun R=>gI r (hP.progz (i:=0) rfl).shape rfl (hP.cell (i:=2) rfl) ta57) rfl fun fr r=>kM (zp a1g.mb) r rfl rfl fun r=>kG (capC a2) 2 r rfl (hP.cell (i:=3) rfl) ta68 rfl rfl fun r=>?_)));obtain ⟨x23,hx23,hD⟩:=bc hD
   have hsh:=(hP.progz (i:=0) rfl).shape.cells.1;refine kC r (yg w21 x13.2.2 x13.2.1 a2 (hP.sep.pk [0,1] rfl rfl) hx23) rfl cl27 rfl ?_;rintro _ w24 ⟨v25,F26,rfl,hq,hsame⟩;refine ⟨_,rfl,fun fr r=>?_⟩
   have hP:Post (fun b=>b∈a0F∨b∈(memK a1g a1).own) [bw Tryz.prog ar x23.1 v25 F26,memK a1g x23.2.2,aa b1 γ14.1.cells 57,aa b5 ((capC a2)).toArray 68,aa b9 ((resC (⟨0,0⟩:Res))).toArray 54] w0 w24:=(Post.frame (A:=[aa b1 γ14.1.cells 57,aa b5 ((capC a2)).toArray 68,aa b9 ((resC (⟨0,0⟩:Res))).toArray 54]) (B:=[bw Tryz.prog ar x13.2.2 γ14.1 γ14.2,memK a1g x13.2.1,]) (hP.pick [2,3,4,0,1] rfl rfl) hq (fun b hb=>hb.elim (fun h=>⟨_,List.mem_cons_self ..,h⟩) fun h=>⟨_,List.mem_cons_of_mem _ (List.mem_singleton.2 rfl),h⟩)).pick [4,3,0,1,2] rfl rfl
   refine kM (.tuple #[v25,(.bool x23.2.1)]) r rfl rfl fun r=>ac v25 r (fun R=>bP r (vs:=#[v25,(.bool x23.2.1)]) rfl rfl) rfl fun fr r=>ac (.bool x23.2.1) r (fun R=>bP r (vs:=#[v25,(.bool x23.2.1)]) rfl rfl) rfl fun fr r=>?_;refine ai (.cells (af false ar.zero 0 0 0 0 .nilFunc) 57 (0,0)) r (fun R=>ah tz57) rfl fun fr b28 w29 n30 r=>?_
   have hP:Post (fun b=>b∈a0F∨b∈(memK a1g a1).own) [bw Tryz.prog ar x23.1 v25 F26,memK a1g x23.2.2,aa b1 γ14.1.cells 57,aa b5 ((capC a2)).toArray 68,aa b9 ((resC (⟨0,0⟩:Res))).toArray 54,aa b28 (af false ar.zero 0 0 0 0 .nilFunc) 57] w0 w29:=hP.new n30
   refine kP r (hP.progz (i:=0) rfl).shape rfl rfl (hP.cell (i:=5) rfl) ts57 rfl rfl fun w32 u33 r=>?_;have hP:Post (fun b=>b∈a0F∨b∈(memK a1g a1).own) [bw Tryz.prog ar x23.1 v25 F26,memK a1g x23.2.2,aa b1 γ14.1.cells 57,aa b5 ((capC a2)).toArray 68,aa b9 ((resC (⟨0,0⟩:Res))).toArray 54,aa b28 v25.cells 57] w0 w32:=hP.upd (i:=5) rfl u33
   refine kA (.bool x23.2.1) r rfl rfl fun r=>wn (wp_seq (wsr (kM (.bool x23.2.1) r rfl rfl fun r=>ac (.bool (!x23.2.1)) r (fun R=>y_un r (u:=(.bool x23.2.1)) rfl rfl) rfl fun fr r=>wn ?_)));refine wp_cond_split (t:=(!x23.2.1)) (r.ev rfl) (fun h34=>?_) (fun h34=>?_)
   ·
    have hD:=(aB h34).symm.trans hD;refine wp_exit ?_;obtain ⟨e1,e2⟩:=hsame (by simpa using h34)
    rw [e1,e2] at hP
    exact bky15 (x13.1,x23.2.2,x13.2.2) (γ14.1,F26) _ _ _ hD r (kO (kO (aw rfl (aw rfl aP)))) (hP.pick [0,1,2,3,4] rfl rfl)
   have hD:=(aD h34).symm.trans hD;refine wp_skip (wsr (ac v25 r (fun R=>gI r (hP.progz (i:=0) rfl).shape rfl (hP.cell (i:=5) rfl) ta57) rfl fun fr r=>?_));refine kP r (hP.progz (i:=0) rfl).shape rfl rfl (hP.cell (i:=2) rfl) ts57 (by have h:=hsh; simpa using h) rfl fun w35 u36 r=>?_
   have hP:Post (fun b=>b∈a0F∨b∈(memK a1g a1).own) [bw Tryz.prog ar x23.1 v25 F26,memK a1g x23.2.2,aa b1 v25.cells 57,aa b5 ((capC a2)).toArray 68,aa b9 ((resC (⟨0,0⟩:Res))).toArray 54,aa b28 v25.cells 57] w0 w35:=hP.upd (i:=2) rfl u36
   refine wn ?_;refine wp_region_lit (kM (I x13.1) r rfl rfl fun r=>kB r rfl rfl rfl rfl rfl fun r=>kA (I (W (x13.1+1))) r rfl rfl fun r=>wn ?_);exact nxy15 ((W (x13.1+1)),x23.2.2,x23.1) (v25,F26) _ _ _ hD r (kO (kO (aw rfl (aw rfl aP)))) (hP.pick [0,1,2,3,4] rfl rfl)
  have hD:=(aD h22).symm.trans hD;refine wp_exit ?_;exact bky15 (x13.1,x13.2.1,x13.2.2) (γ14.1,γ14.2) _ _ _ hD r (kO (kO (aw rfl (aw rfl aP)))) (hP.pick [0,1,2,3,4] rfl rfl)
 rintro x37 γ38 fr w39 g r hP hD;have hP:Post (fun b=>b∈a0F∨b∈(memK a1g a1).own) [bw Tryz.prog ar x37.2.2 γ38.1 γ38.2,memK a1g x37.2.1,aa b1 γ38.1.cells 57,aa b5 ((capC a2)).toArray 68,aa b9 ((resC (⟨0,0⟩:Res))).toArray 54] w0 w39:=hP
 refine wp_seq ?_;refine mS [b9] [.val (.pointer (some ⟨b1,1,none⟩)),.val (.agg (resC (T.res (⟨0,0⟩:Res) x37.2.2.2)).toArray),.val (I x37.1),.val (zp b1),.val (.bool x37.2.2.2.bf),.eff (EffP w39.heap.size (aa b9 ((resC (T.res (⟨0,0⟩:Res) x37.2.2.2))).toArray 54) (fun _:Unit=>undef) (fun _:Unit=>[])) (EffP.st _ _ _ _),.val (I x37.1),.val (.bool x37.2.2.2.bf)] mixed r (fun b hb=>hP.sep.lt (i:=4) rfl (.inl hb)) kz ?_ ?_
 ·
  refine dl r rfl kz (fun fr1 g w' hb' hd r'=>?_) ?_
  · exact ay r' (b:=b1) (o:=0) (k:=1) rfl D9 ⟨Below.refl _ _,rfl⟩
  refine dl r rfl kz (fun fr1 g w' hb' hd r'=>?_) ?_
  · exact aT r' (cs:=(resC (T.res (⟨0,0⟩:Res) x37.2.2.2))) (n:=2) (hd 0 rfl).1 ((hP.below (dr hb')).cell (i:=2) rfl) ta54 (Rep.Db (d:=(⟨0,0⟩:Res)) rfl ((hP.below (dr hb')).progz (i:=0) rfl)) ⟨Below.refl _ _,rfl⟩
  refine bF r rfl (fun fr1 g w' hk' hd r'=>?_) ?_
  · exact aH r' (v:=(I x37.1)) rfl ⟨Below.refl _ _,rfl⟩
  refine bF r rfl (fun fr1 g w' hk' hd r'=>?_) ?_
  · exact ay r' (b:=b1) (o:=0) (k:=0) rfl qm ⟨Below.refl _ _,rfl⟩
  refine bF r rfl (fun fr1 g w' hk' hd r'=>?_) ?_
  · exact av r' (v:=(.bool x37.2.2.2.bf)) (hd 3 rfl).1 (hP.cellK (j:=4) rfl (drK hk') (i:=2) rfl rfl) to4 (Rep.jb (RepL.zero (show RepL _ _ _ _ _ _ _ from hP.okK (j:=4) rfl (drK hk') (i:=0) rfl rfl))) ⟨Below.refl _ _,rfl⟩
  refine dl r rfl kz (fun fr1 g w' hb' hd r'=>?_) ?_
  · exact aV r' (o:=0) (v:=(.agg (resC (T.res (⟨0,0⟩:Res) x37.2.2.2)).toArray)) rfl (hd 1 rfl).1 ((hP.below (dr hb')).cell (i:=4) rfl) ts54 (Nat.le_of_ble_eq_true rfl) rfl rfl (fun w2 u2=>⟨u2.kept,(),rfl,u2.at_,(fun b hb=>hP.sep.lt (i:=4) rfl hb),pK⟩)
  refine bF r rfl (fun fr1 g w' hk' hd r'=>?_) ?_
  · exact cL r' (v:=(I x37.1)) (hd 2 rfl).1 ⟨Below.refl _ _,rfl⟩
  refine bF r rfl (fun fr1 g w' hk' hd r'=>?_) ?_
  · exact cL r' (v:=(.bool x37.2.2.2.bf)) (hd 4 rfl).1 ⟨Below.refl _ _,rfl⟩
  exact cw
 intro fr gg w40 hb hΦ hap r;obtain ⟨⟨⟩,g5,hcE,_,hs5⟩:=(hΦ 5 rfl).1;have r:=r.congr (sc ((hΦ 7 rfl).1) (sc ((hΦ 6 rfl).1) (sc ((hΦ 4 rfl).1) (sc ((hΦ 3 rfl).1) (sc ((hΦ 2 rfl).1) (sc ((hΦ 1 rfl).1) (sc ((hΦ 0 rfl).1) rfl)))))));have hP:Post (fun b=>b∈a0F∨b∈(memK a1g a1).own) [bw Tryz.prog ar x37.2.2 γ38.1 γ38.2,memK a1g x37.2.1,aa b1 γ38.1.cells 57,aa b5 ((capC a2)).toArray 68,aa b9 ((resC (T.res (⟨0,0⟩:Res) x37.2.2.2))).toArray 54] w0 w40:=hP.effL (i:=4) (l:=[]) rfl hb hcE rfl rfl trivial
 refine wp_ret ?_;have hv:((T.res (⟨0,0⟩:Res) x37.2.2.2),x37.1,x37.2.2.2.bf,x37.2.1)=res:=Option.some.inj hD
 try dsimp only [Exit.then,Exit.inBlock]
 refine sQ (fn:=Tryz.f37) r rfl rfl (v':=(I x37.1)) (v2:=(.bool x37.2.2.2.bf)) rfl rfl (hP.cell (i:=4) rfl) (k:=2) rfl ta54 ?_;subst hv;exact ⟨rfl,(hP.pick [1] rfl rfl).done (cQ rfl dw)⟩
end Go.Proofs.YtikjpdpgdmbdpaaGreat

/- Ours. -/
set_option maxRecDepth 20000
set_option maxHeartbeats 2000000
namespace Go.Proofs.YtikjpdpgdmbdpaaGreat
open Go.RowKit
abbrev pL0:Plan:=⟨2,1,4,1,1,1⟩
abbrev sL00:Seat:=⟨pL0,0,0⟩
theorem cl51:ag Tryz.prog 51:=kz
theorem EJ:isSlice Tryz.prog 107:=kz
theorem DE:rowTy Tryz.prog 107 110 2:=kz
def D.p5 (fu:Nat) (a0:Plan) (a1:Mem) (a2:Int) (a3:Int):Option (List Entry):=((D.iI fu a1 a2 a3).bind (fun (x5:Int)=>(loopThen (fun (x8:List Entry × Int × Int)=>(Option.bind (bif (decide (x8.2.2<a0.nodes)) then (some (decide ((D.aL x8.2.1)≥0))) else (some false)) (fun (x15:Bool)=>(bif x15 then ((D.iI fu a1 a2 (D.aS a0 (D.aL x8.2.1) 2)).bind (fun (x21:Int)=>(Option.bind (bif ((co .u64 x21 1)==0) then ((D.iI fu a1 a2 (D.aS a0 (D.aL x8.2.1) 0)).bind (fun (x25:Int)=>((D.iI fu a1 a2 (D.aS a0 (D.aL x8.2.1) 1)).bind (fun (x26:Int)=>((appD x8.1 ([(⟨x25,x26⟩:Entry)])).bind (fun (x30:List Entry)=>(some x30))))))) else (some x8.1)) (fun (x34:List Entry)=>(some (Lp.next (x34,x21,(IntKind.i64.wrap (x8.2.2+1))))))))) else (some (Lp.brk (x8.1,x8.2.1,x8.2.2))))))) fu ([],x5,0) (fun (x37:List Entry × Int × Int)=>(some x37.1)))))
set_option maxRecDepth 20000 in
set_option maxHeartbeats 20000000 in
theorem Ac {fu:Nat} (w0:World) (a0:Plan) {a1g:MG} (a1:Mem) (a1h:MemAt a1g a1 w0) (a2:Int) (a3:Int) {res:List Entry} (hD:D.p5 fu a0 a1 a2 a3=some res) :
    Calls Tryz.prog 51 #[.agg (ae a0).toArray,zp a1g.mb,.int .i64 a2,.int .i64 a3] w0 (fun e w'=>∃ (v0:Value),e=.returned v0∧Done No No [rowK 110 2 entryC v0 res] w0 w'):=by
 refine enter Tryz.func51 rfl 56 rfl rfl fun fr r=>?_;have hP:Post No [] w0 w0:=Post.nil w0
 have hP:Post No [memR a1g a1] w0 w0:=hP.addRo dW a1h rfl a1h.lt;unfold D.p5 at hD
 refine wsr ?_;refine kX 23 (.agg (ae a0).toArray) r rfl rfl fun b1 w2 n3 r=>?_;have hP:Post No [memR a1g a1,aa b1 ((ae a0)).toArray 23] w0 w2:=hP.new n3
 refine kA kS r rfl rfl fun r=>wn (wsr (kA kS r rfl rfl fun r=>wn (wsr (kM (zp a1g.mb) r rfl rfl fun r=>kM (I a2) r rfl rfl fun r=>kM (I a3) r rfl rfl fun r=>?_))));obtain ⟨x5,hx5,hD⟩:=bc hD
 refine kE r (lL w2 a1 (hP.memr (i:=0) rfl) a2 a3 hx5) rfl cl29 rfl fun w6 hb r=>?_;have hP:=hP.below hb
 refine kA (U x5) r rfl rfl fun r=>wn (wp_seq (wsr (kA (I 0) r rfl rfl fun r=>wn ?_)));have hP:Post No [memR a1g a1,aa b1 ((ae a0)).toArray 23,rowK 110 2 entryC kS ([])] w0 w6:=hP.nilRow 110 2 entryC
 refine fq (X:=List Entry × Int × Int) (G:=Value) (x0:=([],x5,0)) (fun x γ=>[(0,(.agg (ae a0).toArray)),(1,(zp a1g.mb)),(2,(I a2)),(3,(I a3)),(4,(zp b1)),(8,kS),(9,γ),(10,(U x.2.1)),(11,(I x.2.2))]) (fun x γ w=>Post No [memR a1g a1,aa b1 ((ae a0)).toArray 23,rowK 110 2 entryC γ x.1] w0 w) kS r (kO (kO (aw rfl aP))) hP hD ?_ ?_
 ·
  rintro x8 γ9 fr w11 g y10 RPy10 nxy10 bky10 rty10 r hP hD;have hP:Post No [memR a1g a1,aa b1 ((ae a0)).toArray 23,rowK 110 2 entryC γ9 x8.1] w0 w11:=hP;refine wp_seq (wp_seq ?_);refine cZ (N:=56) (Y:=Bool) (G:=Unit) (fun x γ=>[(0,(.agg (ae a0).toArray)),(1,(zp a1g.mb)),(2,(I a2)),(3,(I a3)),(4,(zp b1)),(8,kS),(9,γ9),(10,(U x8.2.1)),(11,(I x8.2.2)),(25,(.bool x))]) (fun x γ w=>Post No [memR a1g a1,aa b1 ((ae a0)).toArray 23,rowK 110 2 entryC γ9 x8.1] w0 w) hD ?_ ?_
  ·
   rintro y12 RPy12 nxy12 hD;refine wp_region_lit (kM (I x8.2.2) r rfl rfl fun r=>kF 0 r rfl gL rfl fun r=>kL (I a0.nodes) r rfl (hP.cell (i:=1) rfl) to3 rfl rfl fun r=>kB r rfl rfl rfl rfl rfl fun r=>kM (.bool (decide (x8.2.2<a0.nodes))) r rfl rfl fun r=>?_);refine bT (decide (x8.2.2<a0.nodes)) (fun h13=>?_) (fun h13=>?_)
   ·
    have hD:=(aB h13).symm.trans hD;refine s1 r h13 (kM (U x8.2.1) r rfl rfl fun r=>s1 r h13 ?_);refine kE r (fJ w11 x8.2.1) rfl fT rfl fun w14 hb r=>?_
    have hP:=hP.below hb;refine s1 r h13 (kB r rfl rfl rfl rfl rfl fun r=>ac (.bool (decide ((D.aL x8.2.1)≥0))) r (fun R=>ax r (b:=true) (congrArg Value.bool h13) rfl) rfl fun fr r=>wn ?_);exact nxy12 (decide ((D.aL x8.2.1)≥0)) () _ _ _ hD r (kO (kO (aw rfl (aw rfl aP)))) (hP.pick [0,1,2] rfl rfl)
   have hD:=(aD h13).symm.trans hD;refine s0 r h13 fun fr r=>s0 r h13 fun fr r=>s0 r h13 fun fr r=>ac (.bool false) r (fun R=>ax r (b:=false) (congrArg Value.bool h13) rfl) rfl fun fr r=>wn ?_;exact nxy12 false () _ _ _ hD r (kO (kO (aw rfl (aw rfl aP)))) (hP.pick [0,1,2] rfl rfl)
  rintro x15 γ16 fr w17 g r hP hD;have hP:Post No [memR a1g a1,aa b1 ((ae a0)).toArray 23,rowK 110 2 entryC γ9 x8.1] w0 w17:=hP;refine wp_cond_split (t:=x15) (r.ev rfl) (fun h18=>?_) (fun h18=>?_)
  ·
   have hD:=(aB h18).symm.trans hD;refine wp_skip (wp_seq (wp_block (wsr (kM (U x8.2.1) r rfl rfl fun r=>?_))));refine kE r (fJ w17 x8.2.1) rfl fT rfl fun w19 hb r=>?_
   have hP:=hP.below hb;refine kA (I (D.aL x8.2.1)) r rfl rfl fun r=>wn (wsr (kM (zp a1g.mb) r rfl rfl fun r=>kM (I a2) r rfl rfl fun r=>kG (ae a0) 6 r rfl (hP.cell (i:=1) rfl) ta23 rfl rfl fun r=>kM (I (D.aL x8.2.1)) r rfl rfl fun r=>?_));refine kE r (dL w19 a0 (D.aL x8.2.1) 2) rfl cl85 rfl fun w20 hb r=>?_
   have hP:=hP.below hb;obtain ⟨x21,hx21,hD⟩:=bc hD;refine kE r (lL w20 a1 (hP.memr (i:=0) rfl) a2 (D.aS a0 (D.aL x8.2.1) 2) hx21) rfl cl29 rfl fun w22 hb r=>?_;have hP:=hP.below hb
   refine kA (U x21) r rfl rfl fun r=>wn (wsr (kM (U x21) r rfl rfl fun r=>kB r rfl rfl rfl rfl rfl fun r=>kB r rfl rfl rfl rfl rfl fun r=>wn ?_));refine cZ (N:=56) (Y:=List Entry) (G:=Value) (fun x γ=>[(0,(.agg (ae a0).toArray)),(1,(zp a1g.mb)),(2,(I a2)),(3,(I a3)),(4,(zp b1)),(8,kS),(10,(U x21)),(11,(I x8.2.2)),(25,(.bool x15)),(12,(I (D.aL x8.2.1))),(38,(.bool ((co .u64 x21 1)==0))),(9,γ)]) (fun x γ w=>Post No [memR a1g a1,aa b1 ((ae a0)).toArray 23,rowK 110 2 entryC γ x] w0 w) hD ?_ ?_
   ·
    rintro y23 RPy23 nxy23 hD;refine wp_cond_split (t:=((co .u64 x21 1)==0)) (r.ev rfl) (fun h24=>?_) (fun h24=>?_)
    ·
     have hD:=(aB h24).symm.trans hD;obtain ⟨x25,hx25,hD⟩:=bc hD;obtain ⟨x26,hx26,hD⟩:=bc hD;refine Ch 15 [.val γ9,.val (zp a1g.mb),.val (I a2),.val (.agg (ae a0).toArray),.val (I (D.aL x8.2.1)),.val (I (D.aS a0 (D.aL x8.2.1) 0)),.val (U x25),.val (zp a1g.mb),.val (I a2),.val (.agg (ae a0).toArray),.val (I (D.aL x8.2.1)),.val (I (D.aS a0 (D.aL x8.2.1) 1)),.val (U x26),.val (.agg (entryC (⟨x25,x26⟩:Entry)).toArray),.pred (MkP (fun v:Value=>v) (fun v:Value=>[rowK 110 2 entryC v ([(⟨x25,x26⟩:Entry)])])) (MkP.st _ _)] mixed r kz ?_ ?_
     ·
      refine fc r (fun fr1 g w' hb' hd r'=>aH r' rfl bz) ?_;refine fc r (fun fr1 g w' hb' hd r'=>aH r' rfl bz) ?_
      refine fc r (fun fr1 g w' hb' hd r'=>aH r' rfl bz) ?_;refine fc r (fun fr1 g w' hb' hd r'=>aT r' (cs:=(ae a0)) (n:=6) rfl ((hP.below (dr hb')).cell (i:=1) rfl) ta23 rfl bz) ?_
      refine fc r (fun fr1 g w' hb' hd r'=>aH r' rfl bz) ?_;refine fc r (fun fr1 g w' hb' hd r'=>aN r' (args:=[(.agg (ae a0).toArray),(I (D.aL x8.2.1)),(I 0)]) (lc (hd 3 rfl).1 (lc (hd 4 rfl).1 (lc rfl l0))) cl85 ((dL _ a0 (D.aL x8.2.1) 0).mono (by rintro _ w2 ⟨rfl,hb2⟩; exact ⟨_,rfl,hb2,rfl⟩))) ?_
      refine fc r (fun fr1 g w' hb' hd r'=>aN r' (args:=[(zp a1g.mb),(I a2),(I (D.aS a0 (D.aL x8.2.1) 0))]) (lc (hd 1 rfl).1 (lc (hd 2 rfl).1 (lc (hd 5 rfl).1 l0))) cl29 ((lL _ a1 ((hP.below (dr hb')).memr (i:=0) rfl) a2 (D.aS a0 (D.aL x8.2.1) 0) hx25).mono (by rintro _ w2 ⟨rfl,hb2⟩; exact ⟨_,rfl,hb2,rfl⟩))) ?_;refine fc r (fun fr1 g w' hb' hd r'=>aH r' rfl bz) ?_
      refine fc r (fun fr1 g w' hb' hd r'=>aH r' rfl bz) ?_;refine fc r (fun fr1 g w' hb' hd r'=>aT r' (cs:=(ae a0)) (n:=6) rfl ((hP.below (dr hb')).cell (i:=1) rfl) ta23 rfl bz) ?_
      refine fc r (fun fr1 g w' hb' hd r'=>aH r' rfl bz) ?_;refine fc r (fun fr1 g w' hb' hd r'=>aN r' (args:=[(.agg (ae a0).toArray),(I (D.aL x8.2.1)),(I 1)]) (lc (hd 9 rfl).1 (lc (hd 10 rfl).1 (lc rfl l0))) cl85 ((dL _ a0 (D.aL x8.2.1) 1).mono (by rintro _ w2 ⟨rfl,hb2⟩; exact ⟨_,rfl,hb2,rfl⟩))) ?_
      refine fc r (fun fr1 g w' hb' hd r'=>aN r' (args:=[(zp a1g.mb),(I a2),(I (D.aS a0 (D.aL x8.2.1) 1))]) (lc (hd 7 rfl).1 (lc (hd 8 rfl).1 (lc (hd 11 rfl).1 l0))) cl29 ((lL _ a1 ((hP.below (dr hb')).memr (i:=0) rfl) a2 (D.aS a0 (D.aL x8.2.1) 1) hx26).mono (by rintro _ w2 ⟨rfl,hb2⟩; exact ⟨_,rfl,hb2,rfl⟩))) ?_;refine fc r (fun fr1 g w' hb' hd r'=>eJ r' (v:=(.agg (entryC (⟨x25,x26⟩:Entry)).toArray)) (bs2 (congrArg (fun z=>(0,z)) (hd 6 rfl).1) (congrArg (fun z=>(1,z)) (hd 12 rfl).1) kz) bz) ?_
      refine fc r (fun fr1 g w' hb' hd r'=>dH r' (c:=(([(⟨x25,x26⟩:Entry)]).flatMap entryC).toArray) (E:=110) (bs1 (congrArg (fun z=>(0,z)) (hd 13 rfl).1) kz) (fun b w2 n2=>⟨n2.below,MkP.newRow n2 (fun _=>rfl) rfl⟩)) ?_;exact cw
     intro fr gg w29 hb hΦ hap r;obtain ⟨v27,g14,hs14⟩:=(hΦ 14 rfl).1;have r:=r.congr (sc g14 (sc ((hΦ 13 rfl).1) (sc ((hΦ 12 rfl).1) (sc ((hΦ 11 rfl).1) (sc ((hΦ 10 rfl).1) (sc ((hΦ 9 rfl).1) (sc ((hΦ 8 rfl).1) (sc ((hΦ 7 rfl).1) (sc ((hΦ 6 rfl).1) (sc ((hΦ 5 rfl).1) (sc ((hΦ 4 rfl).1) (sc ((hΦ 3 rfl).1) (sc ((hΦ 2 rfl).1) (sc ((hΦ 1 rfl).1) (sc ((hΦ 0 rfl).1) rfl)))))))))))))));have hP:Post No [memR a1g a1,aa b1 ((ae a0)).toArray 23,rowK 110 2 entryC γ9 x8.1,rowK 110 2 entryC v27 ([(⟨x25,x26⟩:Entry)])] w0 w29:=hP.addL (l:=[([rowK 110 2 entryC v27 ([(⟨x25,x26⟩:Entry)])],(gg 14).lo,(gg 14).hi)]) hb ⟨hs14,(hΦ 14 rfl).2.1,fo,trivial⟩;obtain ⟨x30,hx30,hD⟩:=bc hD;refine vq 110 2 entryC γ9 r (fun R=>uK r DE (fun _=>rfl) (fun _=>rfl) (hP.row (i:=2) rfl) (hP.row (i:=3) rfl).ro hx30 rfl rfl) rfl fun fr v31 w32 ha33 r=>?_;have hP:Post No [memR a1g a1,aa b1 ((ae a0)).toArray 23,rowK 110 2 entryC v31 x30,rowK 110 2 entryC v27 ([(⟨x25,x26⟩:Entry)])] w0 w32:=hP.append (i:=2) rfl ha33
     refine kA v31 r rfl rfl fun r=>wn ?_;exact nxy23 x30 v31 _ _ _ hD r (kO (kO (kO aP))) (hP.pick [0,1,2] rfl rfl)
    have hD:=(aD h24).symm.trans hD;refine wp_skip ?_;exact nxy23 x8.1 γ9 _ _ _ hD r (kO (kO (kO aP))) (hP.pick [0,1,2] rfl rfl)
   rintro x34 γ35 fr w36 g r hP hD;have hP:Post No [memR a1g a1,aa b1 ((ae a0)).toArray 23,rowK 110 2 entryC γ35 x34] w0 w36:=hP;refine wp_region_lit (kM (I x8.2.2) r rfl rfl fun r=>kB r rfl rfl rfl rfl rfl fun r=>kA (I (W (x8.2.2+1))) r rfl rfl fun r=>wn ?_);exact nxy10 (x34,x21,(W (x8.2.2+1))) γ35 _ _ _ hD r (kO (kO (aw rfl aP))) (hP.pick [0,1,2] rfl rfl)
  have hD:=(aD h18).symm.trans hD;refine wp_exit ?_;exact bky10 (x8.1,x8.2.1,x8.2.2) γ9 _ _ _ hD r (kO (kO (aw rfl aP))) (hP.pick [0,1,2] rfl rfl)
 rintro x37 γ38 fr w39 g r hP hD;have hP:Post No [memR a1g a1,aa b1 ((ae a0)).toArray 23,rowK 110 2 entryC γ38 x37.1] w0 w39:=hP;refine wsr (kM γ38 r rfl rfl fun r=>kA γ38 r rfl rfl fun r=>wn (wp_ret ?_));have hv:x37.1=res:=Option.some.inj hD
 try dsimp only [Exit.then,Exit.inBlock]
 refine bk (fn:=Tryz.f51) r (t:=8) rfl (v:=γ38) rfl ?_;subst hv;exact ⟨γ38,rfl,(hP.pick [2] rfl rfl).done (cQ rfl dw)⟩
def D.jw (fu:Nat) :Option (Bool):=((D.fZ fu (⟨2,1,4,1,1,1⟩:Plan)).bind (fun (x7:Mem)=>((D.dS fu x7 0).bind (fun (x12:Cap)=>((D.dT fu (fu,(D.cH (fu+1) (⟨(⟨2,1,4,1,1,1⟩:Plan),0,0⟩:Seat) (D.bo (⟨2,1,4,1,1,1⟩:Plan) 0 0) 5 7)) x7 x12 99).bind (fun (x13:Res × Int × Bool × Mem)=>(Option.bind (bif x13.2.2.1 then (bif (x13.1.e==0) then ((D.p5 fu (⟨2,1,4,1,1,1⟩:Plan) x13.2.2.2 0 (D.bo (⟨2,1,4,1,1,1⟩:Plan) 0 0)).bind (fun (x19:List Entry)=>(some ((x19.length:Int)==1)))) else (some false)) else (some false)) (fun (x25:Bool)=>(some x25)))))))))
set_option maxRecDepth 20000 in
set_option maxHeartbeats 20000000 in
theorem rK {fu:Nat} (w0:World) {res:Bool} (hD:D.jw fu =some res) :
    Calls Tryz.prog 48 #[] w0 (bC (.bool res) w0):=by
 refine enter Tryz.func48 rfl 39 rfl rfl fun fr r=>?_;have hP:Post No [] w0 w0:=Post.nil w0
 unfold D.jw at hD
 refine wsr (kA (.bool false) r rfl rfl fun r=>wn (wsr (kU (.agg (ae pL0).toArray) r kz rfl fun r=>?_)));refine ai (.cells ((ae (⟨0,0,0,0,0,0⟩:Plan))).toArray 23 (0,0)) r (fun R=>ah tz23) rfl fun fr b1 w2 n3 r=>?_
 have hP:Post No [aa b1 ((ae (⟨0,0,0,0,0,0⟩:Plan))).toArray 23] w0 w2:=hP.new n3;refine bd (.cells ((ae pL0)).toArray 23 (0,0)) r (fun R=>aV r (o:=0) (v:=(.agg (ae pL0).toArray)) rfl rfl (hP.cell (i:=0) rfl) ts23 (Nat.le_of_ble_eq_true rfl) rfl rfl) rfl fun fr w5 u6 r=>?_;have hP:Post No [aa b1 ((ae pL0)).toArray 23] w0 w5:=hP.upd (i:=0) rfl u6
 refine wn (wsr (kG (ae pL0) 6 r rfl (hP.cell (i:=0) rfl) ta23 rfl rfl fun r=>?_));obtain ⟨x7,hx7,hD⟩:=bc hD
 refine kC r (rN w5 pL0 hx7) rfl cl17 rfl ?_;rintro _ w8 ⟨mg9,rfl,hq⟩;refine ⟨_,rfl,fun fr r=>?_⟩
 have hP:Post No [aa b1 ((ae pL0)).toArray 23,memK mg9 x7] w0 w8:=hP.add hq;refine kA (zp mg9.mb) r rfl rfl fun r=>wn (wp_seq (wsr (kM (zp mg9.mb) r rfl rfl fun r=>kB r rfl rfl rfl rfl rfl fun r=>wn ?_)));refine wp_cond_split (t:=false) (r.ev rfl) (fun h=>absurd ((rfl:false=_).symm.trans h) ke) (fun _=>wp_skip (wp_seq ?_))
 obtain ⟨x12,hx12,hD⟩:=bc hD;obtain ⟨x13,hx13,hD⟩:=bc hD;refine Fc.Cf mg9.bs [.val (.agg (ae pL0).toArray),.val (.agg (au sL00).toArray),.val (.agg (ae pL0).toArray),.val (I (D.bo pL0 0 0)),.cons 8 (PrL Tryz.prog ar (fu,(D.cH (fu+1) sL00 (D.bo pL0 0 0) 5 7))) (PrL.st _),.val (zp mg9.mb),.val (zp mg9.mb),.val (.agg (capC x12).toArray),.effC [4] (EffP w8.heap.size (memK mg9 x13.2.2.2) (fun _:Unit=>(.tuple #[(.agg (resC x13.1).toArray),(I x13.2.1),(.bool x13.2.2.1)])) (fun _:Unit=>[])) (EffP.st _ _ _ _),.val (.tuple #[(.agg (resC x13.1).toArray),(I x13.2.1),(.bool x13.2.2.1)]),.val (.agg (resC x13.1).toArray),.val (I x13.2.1),.val (.bool x13.2.2.1),.cell 54 2,.stored 13 ((resC x13.1)).toArray 54 2 rfl,.val (I x13.2.1),.val (.bool x13.2.2.1)] mixed r (fun b hb=>hP.sep.lt (i:=1) rfl (.inl hb)) ⟨_,List.mem_cons_self ..⟩ kz ?_ ?_
 ·
  refine Fc.bF r rfl (fun fr1 g w' hk' hd r'=>?_) ?_
  · exact aT r' (cs:=(ae pL0)) (n:=6) rfl (hP.cellK (j:=1) rfl (drK hk') (i:=0) rfl rfl) ta23 rfl ⟨Below.refl _ _,rfl⟩
  refine Fc.bF r rfl (fun fr1 g w' hk' hd r'=>?_) ?_
  · exact eJ r' (v:=(.agg (au sL00).toArray)) (bs1 (congrArg (fun z=>(0,z)) (hd 0 rfl).1) kz) ⟨Below.refl _ _,rfl⟩
  refine Fc.bF r rfl (fun fr1 g w' hk' hd r'=>?_) ?_
  · exact aT r' (cs:=(ae pL0)) (n:=6) rfl (hP.cellK (j:=1) rfl (drK hk') (i:=0) rfl rfl) ta23 rfl ⟨Below.refl _ _,rfl⟩
  refine Fc.bF r rfl (fun fr1 g w' hk' hd r'=>?_) ?_
  · exact aN r' (args:=[(.agg (ae pL0).toArray),(I 0),(I 0)]) (lc (hd 2 rfl).1 (lc rfl (lc rfl l0))) cl49 ((oG _ pL0 0 0).mono (by rintro _ w2 ⟨rfl,hb2⟩; exact ⟨_,rfl,hb2,rfl⟩))
  refine Fc.dl r rfl kz (fun fr1 g w' hb' hd r'=>?_) ?_
  · exact aN r' (args:=[(.agg (au sL00).toArray),(I (D.bo pL0 0 0)),(U 5),(U 7)]) (lc (hd 1 rfl).1 (lc (hd 3 rfl).1 (lc rfl (lc rfl l0)))) cl50 ((mC (F:=No) (n:=fu) (j:=fu+1) (fun _ h=>h.elim) kw sL00 (D.bo pL0 0 0) 5 7).mono (by rintro _ w2 ⟨y,rfl,hb2,hr2⟩; exact ⟨_,rfl,hb2.below,tw hr2⟩))
  refine Fc.dl r rfl kz (fun fr1 g w' hb' hd r'=>?_) ?_
  · exact aH r' (v:=(zp mg9.mb)) rfl ⟨Below.refl _ _,rfl⟩
  refine Fc.bF r rfl (fun fr1 g w' hk' hd r'=>?_) ?_
  · exact aH r' (v:=(zp mg9.mb)) rfl ⟨Below.refl _ _,rfl⟩
  refine Fc.dl r rfl kz (fun fr1 g w' hb' hd r'=>?_) ?_
  · exact aN r' (args:=[(zp mg9.mb),(I 0)]) (lc (hd 6 rfl).1 (lc rfl l0)) cl28 ((fF _ x7 ((hP.below (dr hb')).mem (i:=1) rfl) 0 hx12).mono (by rintro _ w2 ⟨rfl,hb2⟩; exact ⟨_,rfl,hb2,rfl⟩))
  refine Fc.eachC r rfl kz (fun fr1 g w' h0 hb' hd r'=>?_) ?_
  · exact aN r' (args:=[(g 4).v,(zp mg9.mb),(.agg (capC x12).toArray),(I 99)]) (lc rfl (lc (hd 5 rfl).1 (lc (hd 7 rfl).1 (lc rfl l0)))) cl37 ((gi _ (fu,(D.cH (fu+1) sL00 (D.bo pL0 0 0) 5 7)) x7 x12 99 (Sep.beside ((hd 4 rfl).1 h0) ((hP.below (dr hb')).sep.pk [1] rfl rfl) (by intro c hc b hb; simp only [List.mem_cons,List.not_mem_nil,or_false] at hc; rcases hc with rfl; exact hP.sep.lt (i:=1) rfl hb) (hd 4 rfl).2.1) hx13).mono (by rintro _ w2 ⟨rfl,hq⟩; exact ⟨_,rfl,Chg.keptC hq.chg,EffP.ofC hq (fun b hb=>hP.sep.lt (i:=1) rfl hb)⟩))
  refine Fc.bF r rfl (fun fr1 g w' hk' hd r'=>?_) ?_
  · exact aH r' (v:=(.tuple #[(.agg (resC x13.1).toArray),(I x13.2.1),(.bool x13.2.2.1)])) (EffP.val (hd 8 rfl).1) ⟨Below.refl _ _,rfl⟩
  refine Fc.bF r rfl (fun fr1 g w' hk' hd r'=>?_) ?_
  · exact bP r' (vs:=#[(.agg (resC x13.1).toArray),(I x13.2.1),(.bool x13.2.2.1)]) (hd 9 rfl).1 rfl ⟨Below.refl _ _,rfl⟩
  refine Fc.bF r rfl (fun fr1 g w' hk' hd r'=>?_) ?_
  · exact bP r' (vs:=#[(.agg (resC x13.1).toArray),(I x13.2.1),(.bool x13.2.2.1)]) (hd 9 rfl).1 rfl ⟨Below.refl _ _,rfl⟩
  refine Fc.bF r rfl (fun fr1 g w' hk' hd r'=>?_) ?_
  · exact bP r' (vs:=#[(.agg (resC x13.1).toArray),(I x13.2.1),(.bool x13.2.2.1)]) (hd 9 rfl).1 rfl ⟨Below.refl _ _,rfl⟩
  refine Fc.bF r rfl (fun fr1 g w' hk' hd r'=>?_) ?_
  · exact ah tz54 (fun b w2 n2=>⟨n2.below,b,rfl,n2.eq,_,n2.at_,rfl⟩)
  refine Fc.bF r rfl (fun fr1 g w' hk' hd r'=>?_) ?_
  · obtain ⟨hp,_,c,hc,hn⟩:=(hd 13 rfl).1; exact aV r' (o:=0) (c:=c) (v:=(.agg (resC x13.1).toArray)) hp (hd 10 rfl).1 hc ts54 (by rw [hn]; exact Nat.le_of_ble_eq_true rfl) rfl (kn (hn.trans rfl)) (fun w2 u2=>⟨u2,rfl⟩)
  refine Fc.bF r rfl (fun fr1 g w' hk' hd r'=>?_) ?_
  · exact cL r' (v:=(I x13.2.1)) (hd 11 rfl).1 ⟨Below.refl _ _,rfl⟩
  refine Fc.bF r rfl (fun fr1 g w' hk' hd r'=>?_) ?_
  · exact cL r' (v:=(.bool x13.2.2.1)) (hd 12 rfl).1 ⟨Below.refl _ _,rfl⟩
  exact Fc.cw
 intro fr gg w15 hb hΦ hap r;obtain ⟨v11,hv4⟩:∃ v,v=(gg 4).v:=⟨_,rfl⟩;have g4:(gg 4).v=v11:=hv4.symm;obtain ⟨⟨⟩,g8,hcE,_,hs8⟩:=(hΦ 8 rfl).1;obtain ⟨b14,ee_b14⟩:∃ b,b=(gg 13).lo:=⟨_,rfl⟩;have g13:(gg 13).v=(zp b14):=by rw [ee_b14]; exact (hΦ 13 rfl).1.1
 have H14:w15.heap[b14]?=some (.cells ((resC x13.1)).toArray 54 (0,0)):=by rw [ee_b14]; exact (hΦ 14 rfl).1.2
 have hs13:Fresh [aa b14 ((resC x13.1)).toArray 54] (gg 13).lo (gg 13).hi w15:=by subst ee_b14; exact Fresh.cell (hΦ 13 rfl).1.2.1 H14
 have r:=r.congr (sc ((hΦ 16 rfl).1) (sc ((hΦ 15 rfl).1) (sc g13 (sc ((hΦ 12 rfl).1) (sc ((hΦ 11 rfl).1) (sc ((hΦ 10 rfl).1) (sc ((hΦ 9 rfl).1) (sc g8 (sc ((hΦ 7 rfl).1) (sc ((hΦ 6 rfl).1) (sc ((hΦ 5 rfl).1) (sc g4 (sc ((hΦ 3 rfl).1) (sc ((hΦ 2 rfl).1) (sc ((hΦ 1 rfl).1) (sc ((hΦ 0 rfl).1) rfl))))))))))))))));have hP:Post No [aa b1 ((ae pL0)).toArray 23,memK mg9 x13.2.2.2,aa b14 ((resC x13.1)).toArray 54] w0 w15:=hP.effL (i:=1) (l:=[([aa b14 ((resC x13.1)).toArray 54],(gg 13).lo,(gg 13).hi)]) rfl hb hcE rfl rfl ⟨hs13,(hΦ 13 rfl).2.1,fo,trivial⟩;refine wp_seq ?_;refine cZ (N:=39) (Y:=Bool) (G:=Unit) (fun x γ=>[(1,(zp b1)),(2,(zp mg9.mb)),(10,(.bool false)),(3,(zp b14)),(5,(.bool x13.2.2.1)),(0,(.bool x))]) (fun x γ w=>Post No [aa b1 ((ae pL0)).toArray 23,memK mg9 x13.2.2.2,aa b14 ((resC x13.1)).toArray 54] w0 w) hD ?_ ?_
 ·
  rintro y16 RPy16 nxy16 hD;refine bT x13.2.2.1 (fun h17=>?_) (fun h17=>?_)
  ·
   have hD:=(aB h17).symm.trans hD;refine bT (x13.1.e==0) (fun h18=>?_) (fun h18=>?_)
   ·
    have hD:=(aB h18).symm.trans hD;obtain ⟨x19,hx19,hD⟩:=bc hD;refine dI [.val (.bool x13.2.2.1),.val (.bool x13.2.2.1),.val (zp b14),.val (I x13.1.e),.val (.bool (x13.1.e==0)),.val (.bool (x13.1.e==0)),.val (.bool (x13.1.e==0)),.val (.agg (ae pL0).toArray),.val (zp mg9.mb),.val (.agg (ae pL0).toArray),.val (I (D.bo pL0 0 0)),.pred (MkP (fun v20:Value=>v20) (fun v20:Value=>[rowK 110 2 entryC v20 x19])) (MkP.st _ _),.val (I (x19.length:Int)),.val (.bool ((x19.length:Int)==1)),.val (.bool ((x19.length:Int)==1)),.val (.bool ((x19.length:Int)==1))] mixed r kz ?_ ?_
    ·
     refine fc r (fun fr1 g w' hb' hd r'=>aH r' rfl bz) ?_;refine fc r (fun fr1 g w' hb' hd r'=>aH r' (hd 0 rfl).1 bz) ?_
     refine bp true r rfl rfl rfl (fun g w' hd=>Eq.trans (show (g 1).v=.bool x13.2.2.1 from (hd 1 rfl).1) (congrArg Value.bool h17)) (fun fr1 g w' hb' hd r'=>?_) ?_
     · exact ay r' (b:=b14) (o:=0) (k:=0) rfl nA ⟨Below.refl _ _,rfl⟩
     refine bp true r rfl rfl rfl (fun g w' hd=>Eq.trans (show (g 1).v=.bool x13.2.2.1 from (hd 1 rfl).1) (congrArg Value.bool h17)) (fun fr1 g w' hb' hd r'=>?_) ?_
     · exact av r' (v:=(I x13.1.e)) (hd 2 rfl).1 ((hP.below (dr hb')).cell (i:=2) rfl) to33 rfl ⟨Below.refl _ _,rfl⟩
     refine bp true r rfl rfl rfl (fun g w' hd=>Eq.trans (show (g 1).v=.bool x13.2.2.1 from (hd 1 rfl).1) (congrArg Value.bool h17)) (fun fr1 g w' hb' hd r'=>?_) ?_
     · exact ba r' (u:=(I x13.1.e)) (u':=(I 0)) (v:=(.bool (x13.1.e==0))) (hd 3 rfl).1 rfl rfl rfl ⟨Below.refl _ _,rfl⟩
     refine fc r (fun fr1 g w' hb' hd r'=>ax r' (b:=true) (v:=(.bool (x13.1.e==0))) (Eq.trans (show (g 1).v=.bool x13.2.2.1 from (hd 1 rfl).1) (congrArg Value.bool h17)) (hd 4 rfl).1 bz) ?_;refine fc r (fun fr1 g w' hb' hd r'=>aH r' (hd 5 rfl).1 bz) ?_
     refine bp true r rfl rfl rfl (fun g w' hd=>Eq.trans (show (g 6).v=.bool (x13.1.e==0) from (hd 6 rfl).1) (congrArg Value.bool h18)) (fun fr1 g w' hb' hd r'=>?_) ?_
     · exact aT r' (cs:=(ae pL0)) (n:=6) rfl ((hP.below (dr hb')).cell (i:=0) rfl) ta23 rfl ⟨Below.refl _ _,rfl⟩
     refine bp true r rfl rfl rfl (fun g w' hd=>Eq.trans (show (g 6).v=.bool (x13.1.e==0) from (hd 6 rfl).1) (congrArg Value.bool h18)) (fun fr1 g w' hb' hd r'=>?_) ?_
     · exact aH r' (v:=(zp mg9.mb)) rfl ⟨Below.refl _ _,rfl⟩
     refine bp true r rfl rfl rfl (fun g w' hd=>Eq.trans (show (g 6).v=.bool (x13.1.e==0) from (hd 6 rfl).1) (congrArg Value.bool h18)) (fun fr1 g w' hb' hd r'=>?_) ?_
     · exact aT r' (cs:=(ae pL0)) (n:=6) rfl ((hP.below (dr hb')).cell (i:=0) rfl) ta23 rfl ⟨Below.refl _ _,rfl⟩
     refine bp true r rfl rfl rfl (fun g w' hd=>Eq.trans (show (g 6).v=.bool (x13.1.e==0) from (hd 6 rfl).1) (congrArg Value.bool h18)) (fun fr1 g w' hb' hd r'=>?_) ?_
     · exact aN r' (args:=[(.agg (ae pL0).toArray),(I 0),(I 0)]) (lc (hd 9 rfl).1 (lc rfl (lc rfl l0))) cl49 ((oG _ pL0 0 0).mono (by rintro _ w2 ⟨rfl,hb2⟩; exact ⟨_,rfl,hb2,rfl⟩))
     refine bp true r rfl rfl rfl (fun g w' hd=>Eq.trans (show (g 6).v=.bool (x13.1.e==0) from (hd 6 rfl).1) (congrArg Value.bool h18)) (fun fr1 g w' hb' hd r'=>?_) ?_
     · exact aN r' (args:=[(.agg (ae pL0).toArray),(zp mg9.mb),(I 0),(I (D.bo pL0 0 0))]) (lc (hd 7 rfl).1 (lc (hd 8 rfl).1 (lc rfl (lc (hd 10 rfl).1 l0)))) cl51 ((Ac _ pL0 x13.2.2.2 ((hP.below (dr hb')).mem (i:=1) rfl) 0 (D.bo pL0 0 0) hx19).mono (by rintro _ w2 ⟨y,rfl,hq⟩; exact ⟨_,rfl,hq.chg.below,MkP.of y hq⟩))
     refine bp true r rfl rfl rfl (fun g w' hd=>Eq.trans (show (g 6).v=.bool (x13.1.e==0) from (hd 6 rfl).1) (congrArg Value.bool h18)) (fun fr1 g w' hb' hd r'=>?_) ?_
     · obtain ⟨y,hy,hs,_⟩:=(hd 11 rfl).1; exact eG r' (RowAt.ro (hs.get (i:=0) rfl)) EJ hy ⟨Below.refl _ _,rfl⟩
     refine bp true r rfl rfl rfl (fun g w' hd=>Eq.trans (show (g 6).v=.bool (x13.1.e==0) from (hd 6 rfl).1) (congrArg Value.bool h18)) (fun fr1 g w' hb' hd r'=>?_) ?_
     · exact ba r' (u:=(I (x19.length:Int))) (u':=(I 1)) (v:=(.bool ((x19.length:Int)==1))) (hd 12 rfl).1 rfl rfl rfl ⟨Below.refl _ _,rfl⟩
     refine fc r (fun fr1 g w' hb' hd r'=>ax r' (b:=true) (v:=(.bool ((x19.length:Int)==1))) (Eq.trans (show (g 6).v=.bool (x13.1.e==0) from (hd 6 rfl).1) (congrArg Value.bool h18)) (hd 13 rfl).1 bz) ?_;refine fc r (fun fr1 g w' hb' hd r'=>cL r' (hd 14 rfl).1 bz) ?_
     exact cw
    intro fr gg w22 hb hΦ hap r;obtain ⟨v20,g11,hs11⟩:=(hΦ 11 rfl).1;have r:=r.congr (sc ((hΦ 15 rfl).1) (sc ((hΦ 14 rfl).1) (sc ((hΦ 13 rfl).1) (sc ((hΦ 12 rfl).1) (sc g11 (sc ((hΦ 10 rfl).1) (sc ((hΦ 9 rfl).1) (sc ((hΦ 8 rfl).1) (sc ((hΦ 7 rfl).1) (sc ((hΦ 6 rfl).1) (sc ((hΦ 5 rfl).1) (sc ((hΦ 4 rfl).1) (sc ((hΦ 3 rfl).1) (sc ((hΦ 2 rfl).1) (sc ((hΦ 1 rfl).1) (sc ((hΦ 0 rfl).1) rfl))))))))))))))));have hP:Post No [aa b1 ((ae pL0)).toArray 23,memK mg9 x13.2.2.2,aa b14 ((resC x13.1)).toArray 54,rowK 110 2 entryC v20 x19] w0 w22:=hP.addL (l:=[([rowK 110 2 entryC v20 x19],(gg 11).lo,(gg 11).hi)]) hb ⟨hs11,(hΦ 11 rfl).2.1,fo,trivial⟩;exact nxy16 ((x19.length:Int)==1) () _ _ _ hD r (kO (aw rfl (aw rfl aP))) (hP.pick [0,1,2] rfl rfl)
   have hD:=(aD h18).symm.trans hD;refine dI [.val (.bool x13.2.2.1),.val (.bool x13.2.2.1),.val (zp b14),.val (I x13.1.e),.val (.bool (x13.1.e==0)),.val (.bool (x13.1.e==0)),.val (.bool (x13.1.e==0)),.val undef,.val undef,.val undef,.val undef,.val undef,.val undef,.val undef,.val (.bool false),.val (.bool false)] mixed r kz ?_ ?_
   ·
    refine fc r (fun fr1 g w' hb' hd r'=>aH r' rfl bz) ?_;refine fc r (fun fr1 g w' hb' hd r'=>aH r' (hd 0 rfl).1 bz) ?_
    refine bp true r rfl rfl rfl (fun g w' hd=>Eq.trans (show (g 1).v=.bool x13.2.2.1 from (hd 1 rfl).1) (congrArg Value.bool h17)) (fun fr1 g w' hb' hd r'=>?_) ?_
    · exact ay r' (b:=b14) (o:=0) (k:=0) rfl nA ⟨Below.refl _ _,rfl⟩
    refine bp true r rfl rfl rfl (fun g w' hd=>Eq.trans (show (g 1).v=.bool x13.2.2.1 from (hd 1 rfl).1) (congrArg Value.bool h17)) (fun fr1 g w' hb' hd r'=>?_) ?_
    · exact av r' (v:=(I x13.1.e)) (hd 2 rfl).1 ((hP.below (dr hb')).cell (i:=2) rfl) to33 rfl ⟨Below.refl _ _,rfl⟩
    refine bp true r rfl rfl rfl (fun g w' hd=>Eq.trans (show (g 1).v=.bool x13.2.2.1 from (hd 1 rfl).1) (congrArg Value.bool h17)) (fun fr1 g w' hb' hd r'=>?_) ?_
    · exact ba r' (u:=(I x13.1.e)) (u':=(I 0)) (v:=(.bool (x13.1.e==0))) (hd 3 rfl).1 rfl rfl rfl ⟨Below.refl _ _,rfl⟩
    refine fc r (fun fr1 g w' hb' hd r'=>ax r' (b:=true) (v:=(.bool (x13.1.e==0))) (Eq.trans (show (g 1).v=.bool x13.2.2.1 from (hd 1 rfl).1) (congrArg Value.bool h17)) (hd 4 rfl).1 bz) ?_;refine fc r (fun fr1 g w' hb' hd r'=>aH r' (hd 5 rfl).1 bz) ?_
    refine bu true (.bool false) r rfl rfl rfl (fun g w' hd=>Eq.trans (show (g 6).v=.bool (x13.1.e==0) from (hd 6 rfl).1) (congrArg Value.bool h18)) (by simp [bn]) (fun _ _=>⟨Below.refl _ _,rfl⟩) ?_;refine bu true (.bool false) r rfl rfl rfl (fun g w' hd=>Eq.trans (show (g 6).v=.bool (x13.1.e==0) from (hd 6 rfl).1) (congrArg Value.bool h18)) (by simp [bn]) (fun _ _=>⟨Below.refl _ _,rfl⟩) ?_
    refine bu true (.bool false) r rfl rfl rfl (fun g w' hd=>Eq.trans (show (g 6).v=.bool (x13.1.e==0) from (hd 6 rfl).1) (congrArg Value.bool h18)) (by simp [bn]) (fun _ _=>⟨Below.refl _ _,rfl⟩) ?_;refine bu true (.bool false) r rfl rfl rfl (fun g w' hd=>Eq.trans (show (g 6).v=.bool (x13.1.e==0) from (hd 6 rfl).1) (congrArg Value.bool h18)) (by simp [bn]) (fun _ _=>⟨Below.refl _ _,rfl⟩) ?_
    refine bu true (.bool false) r rfl rfl rfl (fun g w' hd=>Eq.trans (show (g 6).v=.bool (x13.1.e==0) from (hd 6 rfl).1) (congrArg Value.bool h18)) (by simp [bn]) (fun _ _=>⟨Below.refl _ _,rfl⟩) ?_;refine bu true (.bool false) r rfl rfl rfl (fun g w' hd=>Eq.trans (show (g 6).v=.bool (x13.1.e==0) from (hd 6 rfl).1) (congrArg Value.bool h18)) (by simp [bn]) (fun _ _=>⟨Below.refl _ _,rfl⟩) ?_
    refine bu true (.bool false) r rfl rfl rfl (fun g w' hd=>Eq.trans (show (g 6).v=.bool (x13.1.e==0) from (hd 6 rfl).1) (congrArg Value.bool h18)) (by simp [bn]) (fun _ _=>⟨Below.refl _ _,rfl⟩) ?_;refine fc r (fun fr1 g w' hb' hd r'=>ax r' (b:=false) (v:=(.bool false)) (Eq.trans (show (g 6).v=.bool (x13.1.e==0) from (hd 6 rfl).1) (congrArg Value.bool h18)) rfl bz) ?_
    refine fc r (fun fr1 g w' hb' hd r'=>cL r' (hd 14 rfl).1 bz) ?_;exact cw
   intro fr gg w23 hb hΦ hap r;have r:=r.congr (sc ((hΦ 15 rfl).1) (sc ((hΦ 14 rfl).1) (sc ((hΦ 13 rfl).1) (sc ((hΦ 12 rfl).1) (sc ((hΦ 11 rfl).1) (sc ((hΦ 10 rfl).1) (sc ((hΦ 9 rfl).1) (sc ((hΦ 8 rfl).1) (sc ((hΦ 7 rfl).1) (sc ((hΦ 6 rfl).1) (sc ((hΦ 5 rfl).1) (sc ((hΦ 4 rfl).1) (sc ((hΦ 3 rfl).1) (sc ((hΦ 2 rfl).1) (sc ((hΦ 1 rfl).1) (sc ((hΦ 0 rfl).1) rfl))))))))))))))));have hP:=hP.below hb;exact nxy16 false () _ _ _ hD r (kO (aw rfl (aw rfl aP))) (hP.pick [0,1,2] rfl rfl)
  have hD:=(aD h17).symm.trans hD;refine dI [.val (.bool x13.2.2.1),.val (.bool x13.2.2.1),.val undef,.val undef,.val undef,.val (.bool false),.val (.bool false),.val undef,.val undef,.val undef,.val undef,.val undef,.val undef,.val undef,.val (.bool false),.val (.bool false)] mixed r kz ?_ ?_
  ·
   refine fc r (fun fr1 g w' hb' hd r'=>aH r' rfl bz) ?_;refine fc r (fun fr1 g w' hb' hd r'=>aH r' (hd 0 rfl).1 bz) ?_
   refine bu true (.bool false) r rfl rfl rfl (fun g w' hd=>Eq.trans (show (g 1).v=.bool x13.2.2.1 from (hd 1 rfl).1) (congrArg Value.bool h17)) (by simp [bn]) (fun _ _=>⟨Below.refl _ _,rfl⟩) ?_;refine bu true (.bool false) r rfl rfl rfl (fun g w' hd=>Eq.trans (show (g 1).v=.bool x13.2.2.1 from (hd 1 rfl).1) (congrArg Value.bool h17)) (by simp [bn]) (fun _ _=>⟨Below.refl _ _,rfl⟩) ?_
   refine bu true (.bool false) r rfl rfl rfl (fun g w' hd=>Eq.trans (show (g 1).v=.bool x13.2.2.1 from (hd 1 rfl).1) (congrArg Value.bool h17)) (by simp [bn]) (fun _ _=>⟨Below.refl _ _,rfl⟩) ?_;refine fc r (fun fr1 g w' hb' hd r'=>ax r' (b:=false) (v:=(.bool false)) (Eq.trans (show (g 1).v=.bool x13.2.2.1 from (hd 1 rfl).1) (congrArg Value.bool h17)) rfl bz) ?_
   refine fc r (fun fr1 g w' hb' hd r'=>aH r' (hd 5 rfl).1 bz) ?_;refine bu true (.bool false) r rfl rfl rfl (fun g w' hd=>Eq.trans (show (g 6).v=.bool false from (hd 6 rfl).1) (congrArg Value.bool (rfl:false=_))) (by simp [bn]) (fun _ _=>⟨Below.refl _ _,rfl⟩) ?_
   refine bu true (.bool false) r rfl rfl rfl (fun g w' hd=>Eq.trans (show (g 6).v=.bool false from (hd 6 rfl).1) (congrArg Value.bool (rfl:false=_))) (by simp [bn]) (fun _ _=>⟨Below.refl _ _,rfl⟩) ?_;refine bu true (.bool false) r rfl rfl rfl (fun g w' hd=>Eq.trans (show (g 6).v=.bool false from (hd 6 rfl).1) (congrArg Value.bool (rfl:false=_))) (by simp [bn]) (fun _ _=>⟨Below.refl _ _,rfl⟩) ?_
   refine bu true (.bool false) r rfl rfl rfl (fun g w' hd=>Eq.trans (show (g 6).v=.bool false from (hd 6 rfl).1) (congrArg Value.bool (rfl:false=_))) (by simp [bn]) (fun _ _=>⟨Below.refl _ _,rfl⟩) ?_;refine bu true (.bool false) r rfl rfl rfl (fun g w' hd=>Eq.trans (show (g 6).v=.bool false from (hd 6 rfl).1) (congrArg Value.bool (rfl:false=_))) (by simp [bn]) (fun _ _=>⟨Below.refl _ _,rfl⟩) ?_
   refine bu true (.bool false) r rfl rfl rfl (fun g w' hd=>Eq.trans (show (g 6).v=.bool false from (hd 6 rfl).1) (congrArg Value.bool (rfl:false=_))) (by simp [bn]) (fun _ _=>⟨Below.refl _ _,rfl⟩) ?_;refine bu true (.bool false) r rfl rfl rfl (fun g w' hd=>Eq.trans (show (g 6).v=.bool false from (hd 6 rfl).1) (congrArg Value.bool (rfl:false=_))) (by simp [bn]) (fun _ _=>⟨Below.refl _ _,rfl⟩) ?_
   refine fc r (fun fr1 g w' hb' hd r'=>ax r' (b:=false) (v:=(.bool false)) (Eq.trans (show (g 6).v=.bool false from (hd 6 rfl).1) (congrArg Value.bool (rfl:false=_))) rfl bz) ?_;refine fc r (fun fr1 g w' hb' hd r'=>cL r' (hd 14 rfl).1 bz) ?_
   exact cw
  intro fr gg w24 hb hΦ hap r;have r:=r.congr (sc ((hΦ 15 rfl).1) (sc ((hΦ 14 rfl).1) (sc ((hΦ 13 rfl).1) (sc ((hΦ 12 rfl).1) (sc ((hΦ 11 rfl).1) (sc ((hΦ 10 rfl).1) (sc ((hΦ 9 rfl).1) (sc ((hΦ 8 rfl).1) (sc ((hΦ 7 rfl).1) (sc ((hΦ 6 rfl).1) (sc ((hΦ 5 rfl).1) (sc ((hΦ 4 rfl).1) (sc ((hΦ 3 rfl).1) (sc ((hΦ 2 rfl).1) (sc ((hΦ 1 rfl).1) (sc ((hΦ 0 rfl).1) rfl))))))))))))))));have hP:=hP.below hb;exact nxy16 false () _ _ _ hD r (kO (aw rfl (aw rfl aP))) (hP.pick [0,1,2] rfl rfl)
 rintro x25 γ26 fr w27 g r hP hD;have hP:Post No [aa b1 ((ae pL0)).toArray 23,memK mg9 x13.2.2.2,aa b14 ((resC x13.1)).toArray 54] w0 w27:=hP;refine wp_ret ?_;have hv:x25=res:=Option.some.inj hD
 try dsimp only [Exit.then,Exit.inBlock]
 refine bk (fn:=Tryz.f48) r (t:=0) rfl (v:=(.bool x25)) rfl ?_;subst hv;exact ⟨rfl,hP.chg.below⟩
theorem CH:D.jw 4000=some true:=by decide +kernel
theorem LAt.start {p:Plan} (hp:PF p) {ws:List Int} (h:LaidAt p ws) {t:Int} (ht:0≤t∧t<p.threads) {c:Int} (hc:rd ws c=0):LAt p t ws ⟨allN p,[],fun _=>⟨0,0,0⟩⟩ 0 c []∧Alone p ws:=by
  have hP:=PoolAt.start hp h ht;refine ⟨⟨hP.toH,fun j j0 j1=>?_,hc,List.nodup_nil,fun q hq=>(by cases hq),List.Pairwise.nil⟩,hP.hz⟩
  have:=hP.hz (t * 3+j) kw kw
  rw [←Int.add_assoc] at this
  exact this
inductive Went (R:Type) where
  | over (r:R)
  | bad
  | went (x:Int) (ws:List Int)
section
variable {A B R : Type}
def went (t:T R) (ws:List Int):Went R:=match t with
  | .done r=>.over r
  | .cut=>.bad
  | .act op at_ a b _=>if 0≤op∧op≤3 then (match getI ws at_ with
    | some x=>.went x (acted op at_ a b x ws)
    | none=>.bad) else .bad
theorem uq {t:T R} {ws:List Int} {r:R} (h:went t ws=.over r):t=.done r:=by
  cases t with
  | done r'=>simp only [went,Went.over.injEq] at h; rw [h]
  | cut=>cases h
  | act op at_ a b k=>
    simp only [went] at h
    split at h
    · split at h <;> cases h
    · cases h
theorem pL {t:T R} {ws ws':List Int} {x:Int} (h:went t ws=.went x ws'):∃ op at_ a b k,t=.act op at_ a b k∧(0≤op∧op≤3)∧getI ws at_=some x∧ws'=acted op at_ a b x ws:=by
  cases t with
  | done r'=>cases h
  | cut=>cases h
  | act op at_ a b k=>
    simp only [went] at h
    split at h
    · rename_i h1
      split at h
      · rename_i y h2
        simp only [Went.went.injEq] at h
        obtain ⟨rfl,rfl⟩:=h;exact ⟨op,at_,a,b,k,rfl,h1,h2,rfl⟩
      · cases h
    · cases h
inductive Safe (Q:A→B→List Int→Prop):Nat→T A→T B→List Int→Prop
  | over {n:Nat} {ra:A} {rb:B} {ws:List Int} (h:Q ra rb ws):Safe Q n (.done ra) (.done rb) ws
  | left {n:Nat} {ta:T A} {rb:B} {ws ws':List Int} {x:Int} (h1:went ta ws=.went x ws') (h:Safe Q n (ta.next x) (.done rb) ws'):Safe Q (n+1) ta (.done rb) ws
  | right {n:Nat} {ra:A} {tb:T B} {ws ws':List Int} {x:Int} (h1:went tb ws=.went x ws') (h:Safe Q n (.done ra) (tb.next x) ws'):Safe Q (n+1) (.done ra) tb ws
  | both {n:Nat} {ta:T A} {tb:T B} {ws wa wb:List Int} {x y:Int} (h1:went ta ws=.went x wa) (h2:went tb ws=.went y wb) (h:Safe Q n (ta.next x) tb wa) (h':Safe Q n ta (tb.next y) wb):Safe Q (n+1) ta tb ws
theorem Safe.mono {Q Q':A→B→List Int→Prop} (hQ:∀ a b w,Q a b w→Q' a b w) {n:Nat} {ta:T A} {tb:T B} {ws:List Int} (h:Safe Q n ta tb ws):Safe Q' n ta tb ws:=by
  induction h with
  | over h=>exact .over (hQ _ _ _ h)
  | left h1 _ ih=>exact .left h1 ih
  | right h1 _ ih=>exact .right h1 ih
  | both h1 h2 _ _ ih ih'=>exact .both h1 h2 ih ih'
theorem Runs.CP {t:T R} {ws ws' ws'':List Int} {x:Int} {n:Nat} {r:R} (h:went t ws=.went x ws') (h2:Runs (t.next x) ws' n r ws''):Runs t ws (n+1) r ws'':=by
  obtain ⟨op,at_,a,b,k,rfl,h1,h3,rfl⟩:=pL h;exact .act h1 h3 h2
/-! ### States looked at, each once -/
structure RSt where
  ha:List Int
  hb:List Int
  ws:List Int
  deriving DecidableEq
end
section
variable {R : Type}
def prefs (chk:List Int→Bool):Nat→T R→List Int→Bool
  | 0,_,ws=>chk ws
  | n+1,t,ws=>chk ws&&(match went t ws with
    | .over _=>true
    | .bad=>false
    | .went x w=>prefs chk n (t.next x) w)
end
end Go.Proofs.YtikjpdpgdmbdpaaGreat

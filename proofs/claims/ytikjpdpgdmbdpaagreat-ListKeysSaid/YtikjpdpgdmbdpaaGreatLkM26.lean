/- Some of our texts, one behind the other. -/
import Derived.Test.YtikjpdpgdmbdpaaGreatLkM13
import Derived.Test.YtikjpdpgdmbdpaaGreatLkM25
import Derived.Test.YtikjpdpgdmbdpaaGreatLkM24
import Derived.Test.YtikjpdpgdmbdpaaGreatLkM18
import Derived.Test.YtikjpdpgdmbdpaaGreatLkM19
set_option linter.all false
/- Ours. -/
namespace Go.Proofs.YtikjpdpgdmbdpaaGreat
open Go.RowKit
set_option maxRecDepth 20000 in
set_option maxHeartbeats 20000000 in
theorem xk {fu:Nat} (w0:World) {a0v:Value} {a0F:List Nat} (a0:Nat × T Res) {a1g:MG} (a1:Mem) (a2:Cap) (hS:Sep [bO Tryz.prog ay a0 a0v a0F,memK a1g a1] w0) {res:(Nat × T Res) × Bool × Mem} (hD:D.nM fu a0 a1 a2=some res) :
    Calls Tryz.prog 27 #[a0v,zp a1g.mb,.agg (capC a2).toArray] w0 (fun e w'=>∃ (v0:Value) (F0:List Nat),e=.returned (.tuple #[v0,(.bool res.2.1)])∧Done (fun b=>b∈a0F∨b∈(memK a1g a1).own) No [memK a1g res.2.2,bO Tryz.prog ay res.1 v0 F0] w0 w'∧(res.2.1=false→v0=a0v∧res.1=a0)):=by
 refine enter Tryz.func27 rfl 28 rfl rfl fun fr r=>?_;have hP:Post (fun b=>b∈a0F∨b∈(memK a1g a1).own) [bO Tryz.prog ay a0 a0v a0F,memK a1g a1] w0 w0:=.start hS (by intro c hc b hb; rcases List.mem_cons.1 hc with rfl | hc; exact .inl hb; rcases List.mem_singleton.1 hc with rfl; exact .inr hb)
 unfold D.nM at hD
 refine wsr ?_;refine kX 57 a0v r rfl rfl fun b1 w2 n3 r=>?_;have hP:Post (fun b=>b∈a0F∨b∈(memK a1g a1).own) [bO Tryz.prog ay a0 a0v a0F,memK a1g a1,af b1 a0v.cells 57] w0 w2:=hP.new n3
 refine kX 68 (.agg (capC a2).toArray) r rfl rfl fun b5 w6 n7 r=>?_;have hP:Post (fun b=>b∈a0F∨b∈(memK a1g a1).own) [bO Tryz.prog ay a0 a0v a0F,memK a1g a1,af b1 a0v.cells 57,af b5 ((capC a2)).toArray 68] w0 w6:=hP.new n7
 refine ai (.cells (ae false ay.zero 0 0 0 0 .nilFunc) 57 (0,0)) r (fun R=>ah tz57) rfl fun fr b9 w10 n11 r=>?_;have hP:Post (fun b=>b∈a0F∨b∈(memK a1g a1).own) [bO Tryz.prog ay a0 a0v a0F,memK a1g a1,af b1 a0v.cells 57,af b5 ((capC a2)).toArray 68,af b9 (ae false ay.zero 0 0 0 0 .nilFunc) 57] w0 w10:=hP.new n11
 refine kA (.bool false) r rfl rfl fun r=>wn (wp_seq (wsr (ac _ r (fun R=>ax r (b:=b1) (o:=0) (k:=0) rfl qd) rfl fun fr r=>kL (.bool a0.2.bn) r rfl (hP.cell (i:=2) rfl) to4 (Rep.iT (hP.progz (i:=0) rfl)) rfl fun r=>wn ?_)));refine wp_cond_split (t:=a0.2.bn) (r.ev rfl) (fun h13=>?_) (fun h13=>?_)
 ·
  have hD:=(aC h13).symm.trans hD;refine wsr (ac a0v r (fun R=>fU r (hP.progz (i:=0) rfl).shape rfl (hP.cell (i:=2) rfl) ta57) rfl fun fr r=>?_);refine kP r (hP.progz (i:=0) rfl).shape rfl rfl (hP.cell (i:=4) rfl) ts57 rfl rfl fun w14 u15 r=>?_
  have hP:Post (fun b=>b∈a0F∨b∈(memK a1g a1).own) [bO Tryz.prog ay a0 a0v a0F,memK a1g a1,af b1 a0v.cells 57,af b5 ((capC a2)).toArray 68,af b9 a0v.cells 57] w0 w14:=hP.upd (i:=4) rfl u15
  refine kA (.bool false) r rfl rfl fun r=>wn (wp_ret ?_);have hv:(a0,false,a1)=res:=Option.some.inj hD
  try dsimp only [Exit.then,Exit.inBlock]
  have hs:=(hP.progz (i:=0) rfl).shape.cells;refine eS (fn:=Tryz.f27) r rfl rfl (v':=(.bool false)) rfl (hP.cell (i:=4) rfl) (k:=8) hs.1 ta57 ?_;rw [←hs.2.2];subst hv;exact ⟨a0v,a0F,rfl,(hP.pick [1,0] rfl rfl).done (cP rfl (cP rfl di)),fun _=>⟨rfl,rfl⟩⟩
 have hD:=(aF h13).symm.trans hD;refine wp_skip (wsr (kM (zp a1g.mb) r rfl rfl fun r=>kG (capC a2) 2 r rfl (hP.cell (i:=3) rfl) ta68 rfl rfl fun r=>ac _ r (fun R=>ax r (b:=b1) (o:=0) (k:=3) rfl Cl) rfl fun fr r=>kG (bb (T.acc a0.2)) 4 r rfl (hP.cell (i:=2) rfl) ta38 (Rep.uV (hP.progz (i:=0) rfl) h13) rfl fun r=>?_));obtain ⟨x16,hx16,hD⟩:=aY hD
 refine kC r (rR w10 a1 a2 (T.acc a0.2) (hP.sep.pk [1] rfl rfl) hx16) rfl cl86 rfl ?_;rintro _ w17 ⟨rfl,hq⟩;refine ⟨_,rfl,fun fr r=>?_⟩
 have hP:Post (fun b=>b∈a0F∨b∈(memK a1g a1).own) [bO Tryz.prog ay a0 a0v a0F,memK a1g x16.2.2,af b1 a0v.cells 57,af b5 ((capC a2)).toArray 68,af b9 (ae false ay.zero 0 0 0 0 .nilFunc) 57] w0 w17:=hP.setN (i:=1) rfl hq
 refine kM (.tuple #[(U x16.1),(.bool x16.2.1)]) r rfl rfl fun r=>ac (U x16.1) r (fun R=>ce r (vs:=#[(U x16.1),(.bool x16.2.1)]) rfl rfl) rfl fun fr r=>ac (.bool x16.2.1) r (fun R=>ce r (vs:=#[(U x16.1),(.bool x16.2.1)]) rfl rfl) rfl fun fr r=>kA (U x16.1) r rfl rfl fun r=>kA (.bool x16.2.1) r rfl rfl fun r=>wn (wp_seq (wsr (kM (.bool x16.2.1) r rfl rfl fun r=>ac (.bool (!x16.2.1)) r (fun R=>y_un r (u:=(.bool x16.2.1)) rfl rfl) rfl fun fr r=>wn ?_)));refine wp_cond_split (t:=(!x16.2.1)) (r.ev rfl) (fun h18=>?_) (fun h18=>?_)
 ·
  have hD:=(aC h18).symm.trans hD;refine wsr (ac a0v r (fun R=>fU r (hP.progz (i:=0) rfl).shape rfl (hP.cell (i:=2) rfl) ta57) rfl fun fr r=>?_);refine kP r (hP.progz (i:=0) rfl).shape rfl rfl (hP.cell (i:=4) rfl) ts57 rfl rfl fun w19 u20 r=>?_
  have hP:Post (fun b=>b∈a0F∨b∈(memK a1g a1).own) [bO Tryz.prog ay a0 a0v a0F,memK a1g x16.2.2,af b1 a0v.cells 57,af b5 ((capC a2)).toArray 68,af b9 a0v.cells 57] w0 w19:=hP.upd (i:=4) rfl u20
  refine kA (.bool false) r rfl rfl fun r=>wn (wp_ret ?_);have hv:(a0,false,x16.2.2)=res:=Option.some.inj hD
  try dsimp only [Exit.then,Exit.inBlock]
  have hs:=(hP.progz (i:=0) rfl).shape.cells;refine eS (fn:=Tryz.f27) r rfl rfl (v':=(.bool false)) rfl (hP.cell (i:=4) rfl) (k:=8) hs.1 ta57 ?_;rw [←hs.2.2];subst hv;exact ⟨a0v,a0F,rfl,(hP.pick [1,0] rfl rfl).done (cP rfl (cP rfl di)),fun _=>⟨rfl,rfl⟩⟩
 have hD:=(aF h18).symm.trans hD;refine wp_skip (wsr (ac _ r (fun R=>ax r (b:=b1) (o:=0) (k:=7) rfl Cw) rfl fun fr r=>?_));obtain ⟨nf21,n122,n223,hv24,hk25⟩:=RepL.pL (hP.progl (i:=0) rfl) h13
 refine kL (.func (.func nf21) n122.toArray n223.toArray) r rfl (hP.cell (i:=2) rfl) to55 hv24 rfl fun r=>kM (U x16.1) r rfl rfl fun r=>?_;obtain ⟨x26,hx26,hD⟩:=aY hD
 refine cz r (hk25.at_.2 x26 (by rw [tD hx26]; exact Nat.lt_succ_self _) x16.1 w17 (Same.refl _ _) (Nat.le_refl _)) (fun R hc=>df r rfl rfl hk25.at_.1 hc) rfl ?_;rintro _ w27 ⟨v28,rfl,hb,hr29⟩
 refine ⟨_,rfl,fun fr r=>?_⟩
 have zw27:=hP.size;have hP:Post (fun b=>b∈a0F∨b∈(memK a1g a1).own) [bO Tryz.prog ay (x26,T.next a0.2 x16.1) v28 (a0F++rg w17.heap.size w27.heap.size),memK a1g x16.2.2,af b1 a0v.cells 57,af b5 ((capC a2)).toArray 68,af b9 (ae false ay.zero 0 0 0 0 .nilFunc) 57] w0 w27:=hP.callL (k:=0) rfl hb hr29
 refine kP r (hP.progz (i:=0) rfl).shape rfl rfl (hP.cell (i:=4) rfl) ts57 rfl rfl fun w31 u32 r=>?_;have hP:Post (fun b=>b∈a0F∨b∈(memK a1g a1).own) [bO Tryz.prog ay (x26,T.next a0.2 x16.1) v28 (a0F++rg w17.heap.size w27.heap.size),memK a1g x16.2.2,af b1 a0v.cells 57,af b5 ((capC a2)).toArray 68,af b9 v28.cells 57] w0 w31:=hP.upd (i:=4) rfl u32
 refine kA (.bool true) r rfl rfl fun r=>wn (wp_ret ?_);have hv:((x26,T.next a0.2 x16.1),true,x16.2.2)=res:=Option.some.inj hD
 try dsimp only [Exit.then,Exit.inBlock]
 have hs:=(hP.progz (i:=0) rfl).shape.cells;refine eS (fn:=Tryz.f27) r rfl rfl (v':=(.bool true)) rfl (hP.cell (i:=4) rfl) (k:=8) hs.1 ta57 ?_;rw [←hs.2.2];subst hv;exact ⟨v28,(a0F++rg w17.heap.size w27.heap.size),rfl,(hP.pick [1,0] rfl rfl).done (cP rfl (cP rfl di)),fun h=>by cases h⟩
set_option maxRecDepth 20000 in
set_option maxHeartbeats 20000000 in
theorem o8 {fu:Nat} (w0:World) {a0v:Value} {a0F:List Nat} (a0:Nat × T Res) {a1g:MG} (a1:Mem) (a2:Cap) (a3:Int) (hS:Sep [bO Tryz.prog ay a0 a0v a0F,memK a1g a1] w0) {res:Res × Int × Bool × Mem} (hD:D.iw fu a0 a1 a2 a3=some res) :
    Calls Tryz.prog 37 #[a0v,zp a1g.mb,.agg (capC a2).toArray,.int .i64 a3] w0 (fun e w'=>e=.returned (.tuple #[(.agg (resC res.1).toArray),(.int .i64 res.2.1),(.bool res.2.2.1)])∧Done (fun b=>b∈a0F∨b∈(memK a1g a1).own) No [memK a1g res.2.2.2] w0 w'):=by
 refine enter Tryz.func37 rfl 39 rfl rfl fun fr r=>?_;have hP:Post (fun b=>b∈a0F∨b∈(memK a1g a1).own) [bO Tryz.prog ay a0 a0v a0F,memK a1g a1] w0 w0:=.start hS (by intro c hc b hb; rcases List.mem_cons.1 hc with rfl | hc; exact .inl hb; rcases List.mem_singleton.1 hc with rfl; exact .inr hb)
 unfold D.iw at hD
 refine wsr ?_;refine kX 57 a0v r rfl rfl fun b1 w2 n3 r=>?_;have hP:Post (fun b=>b∈a0F∨b∈(memK a1g a1).own) [bO Tryz.prog ay a0 a0v a0F,memK a1g a1,af b1 a0v.cells 57] w0 w2:=hP.new n3
 refine kX 68 (.agg (capC a2).toArray) r rfl rfl fun b5 w6 n7 r=>?_;have hP:Post (fun b=>b∈a0F∨b∈(memK a1g a1).own) [bO Tryz.prog ay a0 a0v a0F,memK a1g a1,af b1 a0v.cells 57,af b5 ((capC a2)).toArray 68] w0 w6:=hP.new n7
 refine ai (.cells ((resC (⟨0,0⟩:Res))).toArray 54 (0,0)) r (fun R=>ah tz54) rfl fun fr b9 w10 n11 r=>?_;have hP:Post (fun b=>b∈a0F∨b∈(memK a1g a1).own) [bO Tryz.prog ay a0 a0v a0F,memK a1g a1,af b1 a0v.cells 57,af b5 ((capC a2)).toArray 68,af b9 ((resC (⟨0,0⟩:Res))).toArray 54] w0 w10:=hP.new n11
 refine kA (I 0) r rfl rfl fun r=>kA (.bool false) r rfl rfl fun r=>wn (wsr (kA (I 0) r rfl rfl fun r=>wn (wp_seq ?_)));refine dN (X:=Int × Mem × (Nat × T Res)) (G:=Value × List Nat) (x0:=(0,a1,a0)) (fun x γ=>[(0,a0v),(1,(zp a1g.mb)),(2,(.agg (capC a2).toArray)),(3,(I a3)),(4,(zp b1)),(6,(zp b5)),(8,(zp b9)),(9,(I 0)),(10,(.bool false)),(11,(I x.1))]) (fun x γ w=>Post (fun b=>b∈a0F∨b∈(memK a1g a1).own) [bO Tryz.prog ay x.2.2 γ.1 γ.2,memK a1g x.2.1,af b1 γ.1.cells 57,af b5 ((capC a2)).toArray 68,af b9 ((resC (⟨0,0⟩:Res))).toArray 54] w0 w) (a0v,a0F) r (kO (kO (aw rfl (aw rfl aO)))) hP hD ?_ ?_
 ·
  rintro x13 γ14 fr w16 g y15 RPy15 nxy15 bky15 rty15 r hP hD;have hP:Post (fun b=>b∈a0F∨b∈(memK a1g a1).own) [bO Tryz.prog ay x13.2.2 γ14.1 γ14.2,memK a1g x13.2.1,af b1 γ14.1.cells 57,af b5 ((capC a2)).toArray 68,af b9 ((resC (⟨0,0⟩:Res))).toArray 54] w0 w16:=hP
  refine wp_seq (wp_seq ?_);refine cK (N:=39) (Y:=Bool) (G:=Unit) (fun x γ=>[(0,a0v),(1,(zp a1g.mb)),(2,(.agg (capC a2).toArray)),(3,(I a3)),(4,(zp b1)),(6,(zp b5)),(8,(zp b9)),(9,(I 0)),(10,(.bool false)),(11,(I x13.1)),(21,(.bool x))]) (fun x γ w=>Post (fun b=>b∈a0F∨b∈(memK a1g a1).own) [bO Tryz.prog ay x13.2.2 γ14.1 γ14.2,memK a1g x13.2.1,af b1 γ14.1.cells 57,af b5 ((capC a2)).toArray 68,af b9 ((resC (⟨0,0⟩:Res))).toArray 54] w0 w) hD ?_ ?_
  ·
   rintro y17 RPy17 nxy17 hD;refine wp_region_lit (kM (I x13.1) r rfl rfl fun r=>kM (I a3) r rfl rfl fun r=>kB r rfl rfl rfl rfl rfl fun r=>kM (.bool (decide (x13.1<a3))) r rfl rfl fun r=>?_);refine bX (decide (x13.1<a3)) (fun h18=>?_) (fun h18=>?_)
   ·
    have hD:=(aC h18).symm.trans hD;refine s1 r h18 (ac _ r (fun R=>ax r (b:=b1) (o:=0) (k:=0) rfl qd) rfl fun fr r=>s1 r h18 (kL (.bool x13.2.2.2.bn) r rfl (hP.cell (i:=2) rfl) to4 (Rep.iT (hP.progz (i:=0) rfl)) rfl fun r=>s1 r h18 (ac (.bool (!x13.2.2.2.bn)) r (fun R=>y_un r (u:=(.bool x13.2.2.2.bn)) rfl rfl) rfl fun fr r=>ac (.bool (!x13.2.2.2.bn)) r (fun R=>aJ r (b:=true) (congrArg Value.bool h18) rfl) rfl fun fr r=>wn ?_)));exact nxy17 (!x13.2.2.2.bn) () _ _ _ hD r (kO (kO (aw rfl (aw rfl (aw rfl aO))))) (hP.pick [0,1,2,3,4] rfl rfl)
   have hD:=(aF h18).symm.trans hD;refine s0 r h18 fun fr r=>s0 r h18 fun fr r=>s0 r h18 fun fr r=>ac (.bool false) r (fun R=>aJ r (b:=false) (congrArg Value.bool h18) rfl) rfl fun fr r=>wn ?_;exact nxy17 false () _ _ _ hD r (kO (kO (aw rfl (aw rfl (aw rfl aO))))) (hP.pick [0,1,2,3,4] rfl rfl)
  rintro x19 γ20 fr w21 g r hP hD;have hP:Post (fun b=>b∈a0F∨b∈(memK a1g a1).own) [bO Tryz.prog ay x13.2.2 γ14.1 γ14.2,memK a1g x13.2.1,af b1 γ14.1.cells 57,af b5 ((capC a2)).toArray 68,af b9 ((resC (⟨0,0⟩:Res))).toArray 54] w0 w21:=hP
  refine wp_cond_split (t:=x19) (r.ev rfl) (fun h22=>?_) (fun h22=>?_)
  ·
   have hD:=(aC h22).symm.trans hD;refine wp_skip (wp_block (wsr (ac γ14.1 r (fun R=>fU r (hP.progz (i:=0) rfl).shape rfl (hP.cell (i:=2) rfl) ta57) rfl fun fr r=>kM (zp a1g.mb) r rfl rfl fun r=>kG (capC a2) 2 r rfl (hP.cell (i:=3) rfl) ta68 rfl rfl fun r=>?_)));obtain ⟨x23,hx23,hD⟩:=aY hD
   have hsh:=(hP.progz (i:=0) rfl).shape.cells.1;refine kC r (xk w21 x13.2.2 x13.2.1 a2 (hP.sep.pk [0,1] rfl rfl) hx23) rfl cl27 rfl ?_;rintro _ w24 ⟨v25,F26,rfl,hq,hsame⟩;refine ⟨_,rfl,fun fr r=>?_⟩
   have hP:Post (fun b=>b∈a0F∨b∈(memK a1g a1).own) [bO Tryz.prog ay x23.1 v25 F26,memK a1g x23.2.2,af b1 γ14.1.cells 57,af b5 ((capC a2)).toArray 68,af b9 ((resC (⟨0,0⟩:Res))).toArray 54] w0 w24:=(Post.frame (A:=[af b1 γ14.1.cells 57,af b5 ((capC a2)).toArray 68,af b9 ((resC (⟨0,0⟩:Res))).toArray 54]) (B:=[bO Tryz.prog ay x13.2.2 γ14.1 γ14.2,memK a1g x13.2.1,]) (hP.pick [2,3,4,0,1] rfl rfl) hq (fun b hb=>hb.elim (fun h=>⟨_,List.mem_cons_self ..,h⟩) fun h=>⟨_,List.mem_cons_of_mem _ (List.mem_singleton.2 rfl),h⟩)).pick [4,3,0,1,2] rfl rfl
   refine kM (.tuple #[v25,(.bool x23.2.1)]) r rfl rfl fun r=>ac v25 r (fun R=>ce r (vs:=#[v25,(.bool x23.2.1)]) rfl rfl) rfl fun fr r=>ac (.bool x23.2.1) r (fun R=>ce r (vs:=#[v25,(.bool x23.2.1)]) rfl rfl) rfl fun fr r=>?_;refine ai (.cells (ae false ay.zero 0 0 0 0 .nilFunc) 57 (0,0)) r (fun R=>ah tz57) rfl fun fr b28 w29 n30 r=>?_
   have hP:Post (fun b=>b∈a0F∨b∈(memK a1g a1).own) [bO Tryz.prog ay x23.1 v25 F26,memK a1g x23.2.2,af b1 γ14.1.cells 57,af b5 ((capC a2)).toArray 68,af b9 ((resC (⟨0,0⟩:Res))).toArray 54,af b28 (ae false ay.zero 0 0 0 0 .nilFunc) 57] w0 w29:=hP.new n30
   refine kP r (hP.progz (i:=0) rfl).shape rfl rfl (hP.cell (i:=5) rfl) ts57 rfl rfl fun w32 u33 r=>?_;have hP:Post (fun b=>b∈a0F∨b∈(memK a1g a1).own) [bO Tryz.prog ay x23.1 v25 F26,memK a1g x23.2.2,af b1 γ14.1.cells 57,af b5 ((capC a2)).toArray 68,af b9 ((resC (⟨0,0⟩:Res))).toArray 54,af b28 v25.cells 57] w0 w32:=hP.upd (i:=5) rfl u33
   refine kA (.bool x23.2.1) r rfl rfl fun r=>wn (wp_seq (wsr (kM (.bool x23.2.1) r rfl rfl fun r=>ac (.bool (!x23.2.1)) r (fun R=>y_un r (u:=(.bool x23.2.1)) rfl rfl) rfl fun fr r=>wn ?_)));refine wp_cond_split (t:=(!x23.2.1)) (r.ev rfl) (fun h34=>?_) (fun h34=>?_)
   ·
    have hD:=(aC h34).symm.trans hD;refine wp_exit ?_;obtain ⟨e1,e2⟩:=hsame (by simpa using h34)
    rw [e1,e2] at hP
    exact bky15 (x13.1,x23.2.2,x13.2.2) (γ14.1,F26) _ _ _ hD r (kO (kO (aw rfl (aw rfl aO)))) (hP.pick [0,1,2,3,4] rfl rfl)
   have hD:=(aF h34).symm.trans hD;refine wp_skip (wsr (ac v25 r (fun R=>fU r (hP.progz (i:=0) rfl).shape rfl (hP.cell (i:=5) rfl) ta57) rfl fun fr r=>?_));refine kP r (hP.progz (i:=0) rfl).shape rfl rfl (hP.cell (i:=2) rfl) ts57 (by have h:=hsh; simpa using h) rfl fun w35 u36 r=>?_
   have hP:Post (fun b=>b∈a0F∨b∈(memK a1g a1).own) [bO Tryz.prog ay x23.1 v25 F26,memK a1g x23.2.2,af b1 v25.cells 57,af b5 ((capC a2)).toArray 68,af b9 ((resC (⟨0,0⟩:Res))).toArray 54,af b28 v25.cells 57] w0 w35:=hP.upd (i:=2) rfl u36
   refine wn ?_;refine wp_region_lit (kM (I x13.1) r rfl rfl fun r=>kB r rfl rfl rfl rfl rfl fun r=>kA (I (W (x13.1+1))) r rfl rfl fun r=>wn ?_);exact nxy15 ((W (x13.1+1)),x23.2.2,x23.1) (v25,F26) _ _ _ hD r (kO (kO (aw rfl (aw rfl aO)))) (hP.pick [0,1,2,3,4] rfl rfl)
  have hD:=(aF h22).symm.trans hD;refine wp_exit ?_;exact bky15 (x13.1,x13.2.1,x13.2.2) (γ14.1,γ14.2) _ _ _ hD r (kO (kO (aw rfl (aw rfl aO)))) (hP.pick [0,1,2,3,4] rfl rfl)
 rintro x37 γ38 fr w39 g r hP hD;have hP:Post (fun b=>b∈a0F∨b∈(memK a1g a1).own) [bO Tryz.prog ay x37.2.2 γ38.1 γ38.2,memK a1g x37.2.1,af b1 γ38.1.cells 57,af b5 ((capC a2)).toArray 68,af b9 ((resC (⟨0,0⟩:Res))).toArray 54] w0 w39:=hP
 refine wp_seq ?_;refine mg [b9] [.val (.pointer (some ⟨b1,1,none⟩)),.val (.agg (resC (T.res (⟨0,0⟩:Res) x37.2.2.2)).toArray),.val (I x37.1),.val (zp b1),.val (.bool x37.2.2.2.bn),.eff (EffP w39.heap.size (af b9 ((resC (T.res (⟨0,0⟩:Res) x37.2.2.2))).toArray 54) (fun _:Unit=>undef) (fun _:Unit=>[])) (EffP.st _ _ _ _),.val (I x37.1),.val (.bool x37.2.2.2.bn)] mixed r (fun b hb=>hP.sep.lt (i:=4) rfl (.inl hb)) (by kernel_rfl) ?_ ?_
 ·
  refine cE r rfl (by kernel_rfl) (fun fr1 g w' hb' hd r'=>?_) ?_
  · exact ax r' (b:=b1) (o:=0) (k:=1) rfl Cm ⟨Below.refl _ _,rfl⟩
  refine cE r rfl (by kernel_rfl) (fun fr1 g w' hb' hd r'=>?_) ?_
  · exact aW r' (cs:=(resC (T.res (⟨0,0⟩:Res) x37.2.2.2))) (n:=2) (hd 0 rfl).1 ((hP.below (dr hb')).cell (i:=2) rfl) ta54 (Rep.Ct (d:=(⟨0,0⟩:Res)) rfl ((hP.below (dr hb')).progz (i:=0) rfl)) ⟨Below.refl _ _,rfl⟩
  refine aU r rfl (fun fr1 g w' hk' hd r'=>?_) ?_
  · exact aj r' (v:=(I x37.1)) rfl ⟨Below.refl _ _,rfl⟩
  refine aU r rfl (fun fr1 g w' hk' hd r'=>?_) ?_
  · exact ax r' (b:=b1) (o:=0) (k:=0) rfl qd ⟨Below.refl _ _,rfl⟩
  refine aU r rfl (fun fr1 g w' hk' hd r'=>?_) ?_
  · exact av r' (v:=(.bool x37.2.2.2.bn)) (hd 3 rfl).1 (hP.cellK (j:=4) rfl (drK hk') (i:=2) rfl rfl) to4 (Rep.iT (RepL.zero (show RepL _ _ _ _ _ _ _ from hP.okK (j:=4) rfl (drK hk') (i:=0) rfl rfl))) ⟨Below.refl _ _,rfl⟩
  refine cE r rfl (by kernel_rfl) (fun fr1 g w' hb' hd r'=>?_) ?_
  · exact aZ r' (o:=0) (v:=(.agg (resC (T.res (⟨0,0⟩:Res) x37.2.2.2)).toArray)) rfl (hd 1 rfl).1 ((hP.below (dr hb')).cell (i:=4) rfl) ts54 (Nat.le_of_ble_eq_true rfl) rfl rfl (fun w2 u2=>⟨u2.kept,(),rfl,u2.at_,(fun b hb=>hP.sep.lt (i:=4) rfl hb),pg⟩)
  refine aU r rfl (fun fr1 g w' hk' hd r'=>?_) ?_
  · exact cw r' (v:=(I x37.1)) (hd 2 rfl).1 ⟨Below.refl _ _,rfl⟩
  refine aU r rfl (fun fr1 g w' hk' hd r'=>?_) ?_
  · exact cw r' (v:=(.bool x37.2.2.2.bn)) (hd 4 rfl).1 ⟨Below.refl _ _,rfl⟩
  exact bV
 intro fr gg w40 hb hΦ hap r;obtain ⟨⟨⟩,g5,hcE,_,hs5⟩:=(hΦ 5 rfl).1;have r:=r.congr (sc ((hΦ 7 rfl).1) (sc ((hΦ 6 rfl).1) (sc ((hΦ 4 rfl).1) (sc ((hΦ 3 rfl).1) (sc ((hΦ 2 rfl).1) (sc ((hΦ 1 rfl).1) (sc ((hΦ 0 rfl).1) rfl)))))));have hP:Post (fun b=>b∈a0F∨b∈(memK a1g a1).own) [bO Tryz.prog ay x37.2.2 γ38.1 γ38.2,memK a1g x37.2.1,af b1 γ38.1.cells 57,af b5 ((capC a2)).toArray 68,af b9 ((resC (T.res (⟨0,0⟩:Res) x37.2.2.2))).toArray 54] w0 w40:=hP.effL (i:=4) (l:=[]) rfl hb hcE rfl rfl trivial
 refine wp_ret ?_;have hv:((T.res (⟨0,0⟩:Res) x37.2.2.2),x37.1,x37.2.2.2.bn,x37.2.1)=res:=Option.some.inj hD
 try dsimp only [Exit.then,Exit.inBlock]
 refine su (fn:=Tryz.f37) r rfl rfl (v':=(I x37.1)) (v2:=(.bool x37.2.2.2.bn)) rfl rfl (hP.cell (i:=4) rfl) (k:=2) rfl ta54 ?_;subst hv;exact ⟨rfl,(hP.pick [1] rfl rfl).done (cP rfl di)⟩
end Go.Proofs.YtikjpdpgdmbdpaaGreat

/- Ours. -/
set_option maxRecDepth 20000
set_option maxHeartbeats 2000000
namespace Go.Proofs.YtikjpdpgdmbdpaaGreat
open Go.RowKit
abbrev pL0:Plan:=⟨2,1,4,1,1,1⟩
abbrev sL00:Seat:=⟨pL0,0,0⟩
theorem cl51:ag Tryz.prog 51:=by kernel_rfl
theorem mY:isSlice Tryz.prog 107:=by kernel_rfl
theorem CS:rowTy Tryz.prog 107 110 2:=by kernel_rfl
def D.gC (fu:Nat) (a0:Plan) (a1:Mem) (a2:Int) (a3:Int):Option (List Entry):=((D.fF fu a1 a2 a3).bind (fun (x5:Int)=>(loopThen (fun (x8:List Entry × Int × Int)=>(Option.bind (bif (decide (x8.2.2<a0.nodes)) then (some (decide ((D.aV x8.2.1)≥0))) else (some false)) (fun (x15:Bool)=>(bif x15 then ((D.fF fu a1 a2 (D.bf a0 (D.aV x8.2.1) 2)).bind (fun (x21:Int)=>(Option.bind (bif ((cv .u64 x21 1)==0) then ((D.fF fu a1 a2 (D.bf a0 (D.aV x8.2.1) 0)).bind (fun (x25:Int)=>((D.fF fu a1 a2 (D.bf a0 (D.aV x8.2.1) 1)).bind (fun (x26:Int)=>((appD x8.1 ([(⟨x25,x26⟩:Entry)])).bind (fun (x30:List Entry)=>(some x30))))))) else (some x8.1)) (fun (x34:List Entry)=>(some (Lp.next (x34,x21,(IntKind.i64.wrap (x8.2.2+1))))))))) else (some (Lp.brk (x8.1,x8.2.1,x8.2.2))))))) fu ([],x5,0) (fun (x37:List Entry × Int × Int)=>(some x37.1)))))
set_option maxRecDepth 20000 in
set_option maxHeartbeats 20000000 in
theorem oh {fu:Nat} (w0:World) (a0:Plan) {a1g:MG} (a1:Mem) (a1h:MemAt a1g a1 w0) (a2:Int) (a3:Int) {res:List Entry} (hD:D.gC fu a0 a1 a2 a3=some res) :
    Calls Tryz.prog 51 #[.agg (aa a0).toArray,zp a1g.mb,.int .i64 a2,.int .i64 a3] w0 (fun e w'=>∃ (v0:Value),e=.returned v0∧Done No No [rowK 110 2 bp v0 res] w0 w'):=by
 refine enter Tryz.func51 rfl 56 rfl rfl fun fr r=>?_;have hP:Post No [] w0 w0:=Post.nil w0
 have hP:Post No [memR a1g a1] w0 w0:=hP.addRo dM a1h rfl a1h.lt;unfold D.gC at hD
 refine wsr ?_;refine kX 23 (.agg (aa a0).toArray) r rfl rfl fun b1 w2 n3 r=>?_;have hP:Post No [memR a1g a1,af b1 ((aa a0)).toArray 23] w0 w2:=hP.new n3
 refine kA kS r rfl rfl fun r=>wn (wsr (kA kS r rfl rfl fun r=>wn (wsr (kM (zp a1g.mb) r rfl rfl fun r=>kM (I a2) r rfl rfl fun r=>kM (I a3) r rfl rfl fun r=>?_))));obtain ⟨x5,hx5,hD⟩:=aY hD
 refine kE r (l9 w2 a1 (hP.memr (i:=0) rfl) a2 a3 hx5) rfl cl29 rfl fun w6 hb r=>?_;have hP:=hP.below hb
 refine kA (U x5) r rfl rfl fun r=>wn (wp_seq (wsr (kA (I 0) r rfl rfl fun r=>wn ?_)));have hP:Post No [memR a1g a1,af b1 ((aa a0)).toArray 23,rowK 110 2 bp kS ([])] w0 w6:=hP.nilRow 110 2 bp
 refine dN (X:=List Entry × Int × Int) (G:=Value) (x0:=([],x5,0)) (fun x γ=>[(0,(.agg (aa a0).toArray)),(1,(zp a1g.mb)),(2,(I a2)),(3,(I a3)),(4,(zp b1)),(8,kS),(9,γ),(10,(U x.2.1)),(11,(I x.2.2))]) (fun x γ w=>Post No [memR a1g a1,af b1 ((aa a0)).toArray 23,rowK 110 2 bp γ x.1] w0 w) kS r (kO (kO (aw rfl aO))) hP hD ?_ ?_
 ·
  rintro x8 γ9 fr w11 g y10 RPy10 nxy10 bky10 rty10 r hP hD;have hP:Post No [memR a1g a1,af b1 ((aa a0)).toArray 23,rowK 110 2 bp γ9 x8.1] w0 w11:=hP;refine wp_seq (wp_seq ?_);refine cK (N:=56) (Y:=Bool) (G:=Unit) (fun x γ=>[(0,(.agg (aa a0).toArray)),(1,(zp a1g.mb)),(2,(I a2)),(3,(I a3)),(4,(zp b1)),(8,kS),(9,γ9),(10,(U x8.2.1)),(11,(I x8.2.2)),(25,(.bool x))]) (fun x γ w=>Post No [memR a1g a1,af b1 ((aa a0)).toArray 23,rowK 110 2 bp γ9 x8.1] w0 w) hD ?_ ?_
  ·
   rintro y12 RPy12 nxy12 hD;refine wp_region_lit (kM (I x8.2.2) r rfl rfl fun r=>kF 0 r rfl ga rfl fun r=>kL (I a0.nodes) r rfl (hP.cell (i:=1) rfl) to3 rfl rfl fun r=>kB r rfl rfl rfl rfl rfl fun r=>kM (.bool (decide (x8.2.2<a0.nodes))) r rfl rfl fun r=>?_);refine bX (decide (x8.2.2<a0.nodes)) (fun h13=>?_) (fun h13=>?_)
   ·
    have hD:=(aC h13).symm.trans hD;refine s1 r h13 (kM (U x8.2.1) r rfl rfl fun r=>s1 r h13 ?_);refine kE r (fI w11 x8.2.1) rfl gj rfl fun w14 hb r=>?_
    have hP:=hP.below hb;refine s1 r h13 (kB r rfl rfl rfl rfl rfl fun r=>ac (.bool (decide ((D.aV x8.2.1)≥0))) r (fun R=>aJ r (b:=true) (congrArg Value.bool h13) rfl) rfl fun fr r=>wn ?_);exact nxy12 (decide ((D.aV x8.2.1)≥0)) () _ _ _ hD r (kO (kO (aw rfl (aw rfl aO)))) (hP.pick [0,1,2] rfl rfl)
   have hD:=(aF h13).symm.trans hD;refine s0 r h13 fun fr r=>s0 r h13 fun fr r=>s0 r h13 fun fr r=>ac (.bool false) r (fun R=>aJ r (b:=false) (congrArg Value.bool h13) rfl) rfl fun fr r=>wn ?_;exact nxy12 false () _ _ _ hD r (kO (kO (aw rfl (aw rfl aO)))) (hP.pick [0,1,2] rfl rfl)
  rintro x15 γ16 fr w17 g r hP hD;have hP:Post No [memR a1g a1,af b1 ((aa a0)).toArray 23,rowK 110 2 bp γ9 x8.1] w0 w17:=hP;refine wp_cond_split (t:=x15) (r.ev rfl) (fun h18=>?_) (fun h18=>?_)
  ·
   have hD:=(aC h18).symm.trans hD;refine wp_skip (wp_seq (wp_block (wsr (kM (U x8.2.1) r rfl rfl fun r=>?_))));refine kE r (fI w17 x8.2.1) rfl gj rfl fun w19 hb r=>?_
   have hP:=hP.below hb;refine kA (I (D.aV x8.2.1)) r rfl rfl fun r=>wn (wsr (kM (zp a1g.mb) r rfl rfl fun r=>kM (I a2) r rfl rfl fun r=>kG (aa a0) 6 r rfl (hP.cell (i:=1) rfl) ta23 rfl rfl fun r=>kM (I (D.aV x8.2.1)) r rfl rfl fun r=>?_));refine kE r (dJ w19 a0 (D.aV x8.2.1) 2) rfl cl85 rfl fun w20 hb r=>?_
   have hP:=hP.below hb;obtain ⟨x21,hx21,hD⟩:=aY hD;refine kE r (l9 w20 a1 (hP.memr (i:=0) rfl) a2 (D.bf a0 (D.aV x8.2.1) 2) hx21) rfl cl29 rfl fun w22 hb r=>?_;have hP:=hP.below hb
   refine kA (U x21) r rfl rfl fun r=>wn (wsr (kM (U x21) r rfl rfl fun r=>kB r rfl rfl rfl rfl rfl fun r=>kB r rfl rfl rfl rfl rfl fun r=>wn ?_));refine cK (N:=56) (Y:=List Entry) (G:=Value) (fun x γ=>[(0,(.agg (aa a0).toArray)),(1,(zp a1g.mb)),(2,(I a2)),(3,(I a3)),(4,(zp b1)),(8,kS),(10,(U x21)),(11,(I x8.2.2)),(25,(.bool x15)),(12,(I (D.aV x8.2.1))),(38,(.bool ((cv .u64 x21 1)==0))),(9,γ)]) (fun x γ w=>Post No [memR a1g a1,af b1 ((aa a0)).toArray 23,rowK 110 2 bp γ x] w0 w) hD ?_ ?_
   ·
    rintro y23 RPy23 nxy23 hD;refine wp_cond_split (t:=((cv .u64 x21 1)==0)) (r.ev rfl) (fun h24=>?_) (fun h24=>?_)
    ·
     have hD:=(aC h24).symm.trans hD;obtain ⟨x25,hx25,hD⟩:=aY hD;obtain ⟨x26,hx26,hD⟩:=aY hD;refine Bt 15 [.val γ9,.val (zp a1g.mb),.val (I a2),.val (.agg (aa a0).toArray),.val (I (D.aV x8.2.1)),.val (I (D.bf a0 (D.aV x8.2.1) 0)),.val (U x25),.val (zp a1g.mb),.val (I a2),.val (.agg (aa a0).toArray),.val (I (D.aV x8.2.1)),.val (I (D.bf a0 (D.aV x8.2.1) 1)),.val (U x26),.val (.agg (bp (⟨x25,x26⟩:Entry)).toArray),.pred (MkP (fun v:Value=>v) (fun v:Value=>[rowK 110 2 bp v ([(⟨x25,x26⟩:Entry)])])) (MkP.st _ _)] mixed r (by kernel_rfl) ?_ ?_
     ·
      refine fc r (fun fr1 g w' hb' hd r'=>aj r' rfl bz) ?_;refine fc r (fun fr1 g w' hb' hd r'=>aj r' rfl bz) ?_
      refine fc r (fun fr1 g w' hb' hd r'=>aj r' rfl bz) ?_;refine fc r (fun fr1 g w' hb' hd r'=>aW r' (cs:=(aa a0)) (n:=6) rfl ((hP.below (dr hb')).cell (i:=1) rfl) ta23 rfl bz) ?_
      refine fc r (fun fr1 g w' hb' hd r'=>aj r' rfl bz) ?_;refine fc r (fun fr1 g w' hb' hd r'=>aN r' (args:=[(.agg (aa a0).toArray),(I (D.aV x8.2.1)),(I 0)]) (lc (hd 3 rfl).1 (lc (hd 4 rfl).1 (lc rfl l0))) cl85 ((dJ _ a0 (D.aV x8.2.1) 0).mono (by rintro _ w2 ⟨rfl,hb2⟩; exact ⟨_,rfl,hb2,rfl⟩))) ?_
      refine fc r (fun fr1 g w' hb' hd r'=>aN r' (args:=[(zp a1g.mb),(I a2),(I (D.bf a0 (D.aV x8.2.1) 0))]) (lc (hd 1 rfl).1 (lc (hd 2 rfl).1 (lc (hd 5 rfl).1 l0))) cl29 ((l9 _ a1 ((hP.below (dr hb')).memr (i:=0) rfl) a2 (D.bf a0 (D.aV x8.2.1) 0) hx25).mono (by rintro _ w2 ⟨rfl,hb2⟩; exact ⟨_,rfl,hb2,rfl⟩))) ?_;refine fc r (fun fr1 g w' hb' hd r'=>aj r' rfl bz) ?_
      refine fc r (fun fr1 g w' hb' hd r'=>aj r' rfl bz) ?_;refine fc r (fun fr1 g w' hb' hd r'=>aW r' (cs:=(aa a0)) (n:=6) rfl ((hP.below (dr hb')).cell (i:=1) rfl) ta23 rfl bz) ?_
      refine fc r (fun fr1 g w' hb' hd r'=>aj r' rfl bz) ?_;refine fc r (fun fr1 g w' hb' hd r'=>aN r' (args:=[(.agg (aa a0).toArray),(I (D.aV x8.2.1)),(I 1)]) (lc (hd 9 rfl).1 (lc (hd 10 rfl).1 (lc rfl l0))) cl85 ((dJ _ a0 (D.aV x8.2.1) 1).mono (by rintro _ w2 ⟨rfl,hb2⟩; exact ⟨_,rfl,hb2,rfl⟩))) ?_
      refine fc r (fun fr1 g w' hb' hd r'=>aN r' (args:=[(zp a1g.mb),(I a2),(I (D.bf a0 (D.aV x8.2.1) 1))]) (lc (hd 7 rfl).1 (lc (hd 8 rfl).1 (lc (hd 11 rfl).1 l0))) cl29 ((l9 _ a1 ((hP.below (dr hb')).memr (i:=0) rfl) a2 (D.bf a0 (D.aV x8.2.1) 1) hx26).mono (by rintro _ w2 ⟨rfl,hb2⟩; exact ⟨_,rfl,hb2,rfl⟩))) ?_;refine fc r (fun fr1 g w' hb' hd r'=>eF r' (v:=(.agg (bp (⟨x25,x26⟩:Entry)).toArray)) (bs2 (congrArg (fun z=>(0,z)) (hd 6 rfl).1) (congrArg (fun z=>(1,z)) (hd 12 rfl).1) (by kernel_rfl)) bz) ?_
      refine fc r (fun fr1 g w' hb' hd r'=>dB r' (c:=(([(⟨x25,x26⟩:Entry)]).flatMap bp).toArray) (E:=110) (bs1 (congrArg (fun z=>(0,z)) (hd 13 rfl).1) (by kernel_rfl)) (fun b w2 n2=>⟨n2.below,MkP.newRow n2 (fun _=>rfl) rfl⟩)) ?_;exact bV
     intro fr gg w29 hb hΦ hap r;obtain ⟨v27,g14,hs14⟩:=(hΦ 14 rfl).1;have r:=r.congr (sc g14 (sc ((hΦ 13 rfl).1) (sc ((hΦ 12 rfl).1) (sc ((hΦ 11 rfl).1) (sc ((hΦ 10 rfl).1) (sc ((hΦ 9 rfl).1) (sc ((hΦ 8 rfl).1) (sc ((hΦ 7 rfl).1) (sc ((hΦ 6 rfl).1) (sc ((hΦ 5 rfl).1) (sc ((hΦ 4 rfl).1) (sc ((hΦ 3 rfl).1) (sc ((hΦ 2 rfl).1) (sc ((hΦ 1 rfl).1) (sc ((hΦ 0 rfl).1) rfl)))))))))))))));have hP:Post No [memR a1g a1,af b1 ((aa a0)).toArray 23,rowK 110 2 bp γ9 x8.1,rowK 110 2 bp v27 ([(⟨x25,x26⟩:Entry)])] w0 w29:=hP.addL (l:=[([rowK 110 2 bp v27 ([(⟨x25,x26⟩:Entry)])],(gg 14).lo,(gg 14).hi)]) hb ⟨hs14,(hΦ 14 rfl).2.1,eD,trivial⟩;obtain ⟨x30,hx30,hD⟩:=aY hD;refine uB 110 2 bp γ9 r (fun R=>ui r CS (fun _=>rfl) (fun _=>rfl) (hP.row (i:=2) rfl) (hP.row (i:=3) rfl).ro hx30 rfl rfl) rfl fun fr v31 w32 ha33 r=>?_;have hP:Post No [memR a1g a1,af b1 ((aa a0)).toArray 23,rowK 110 2 bp v31 x30,rowK 110 2 bp v27 ([(⟨x25,x26⟩:Entry)])] w0 w32:=hP.append (i:=2) rfl ha33
     refine kA v31 r rfl rfl fun r=>wn ?_;exact nxy23 x30 v31 _ _ _ hD r (kO (kO (kO aO))) (hP.pick [0,1,2] rfl rfl)
    have hD:=(aF h24).symm.trans hD;refine wp_skip ?_;exact nxy23 x8.1 γ9 _ _ _ hD r (kO (kO (kO aO))) (hP.pick [0,1,2] rfl rfl)
   rintro x34 γ35 fr w36 g r hP hD;have hP:Post No [memR a1g a1,af b1 ((aa a0)).toArray 23,rowK 110 2 bp γ35 x34] w0 w36:=hP;refine wp_region_lit (kM (I x8.2.2) r rfl rfl fun r=>kB r rfl rfl rfl rfl rfl fun r=>kA (I (W (x8.2.2+1))) r rfl rfl fun r=>wn ?_);exact nxy10 (x34,x21,(W (x8.2.2+1))) γ35 _ _ _ hD r (kO (kO (aw rfl aO))) (hP.pick [0,1,2] rfl rfl)
  have hD:=(aF h18).symm.trans hD;refine wp_exit ?_;exact bky10 (x8.1,x8.2.1,x8.2.2) γ9 _ _ _ hD r (kO (kO (aw rfl aO))) (hP.pick [0,1,2] rfl rfl)
 rintro x37 γ38 fr w39 g r hP hD;have hP:Post No [memR a1g a1,af b1 ((aa a0)).toArray 23,rowK 110 2 bp γ38 x37.1] w0 w39:=hP;refine wsr (kM γ38 r rfl rfl fun r=>kA γ38 r rfl rfl fun r=>wn (wp_ret ?_));have hv:x37.1=res:=Option.some.inj hD
 try dsimp only [Exit.then,Exit.inBlock]
 refine bd (fn:=Tryz.f51) r (t:=8) rfl (v:=γ38) rfl ?_;subst hv;exact ⟨γ38,rfl,(hP.pick [2] rfl rfl).done (cP rfl di)⟩
def D.jg (fu:Nat) :Option (Bool):=((D.gZ fu (⟨2,1,4,1,1,1⟩:Plan)).bind (fun (x7:Mem)=>((D.gz fu x7 0).bind (fun (x12:Cap)=>((D.iw fu (fu,(D.eY (fu+1) (⟨(⟨2,1,4,1,1,1⟩:Plan),0,0⟩:Seat) (D.bE (⟨2,1,4,1,1,1⟩:Plan) 0 0) 5 7)) x7 x12 99).bind (fun (x13:Res × Int × Bool × Mem)=>(Option.bind (bif x13.2.2.1 then (bif (x13.1.e==0) then ((D.gC fu (⟨2,1,4,1,1,1⟩:Plan) x13.2.2.2 0 (D.bE (⟨2,1,4,1,1,1⟩:Plan) 0 0)).bind (fun (x19:List Entry)=>(some ((x19.length:Int)==1)))) else (some false)) else (some false)) (fun (x25:Bool)=>(some x25)))))))))
set_option maxRecDepth 20000 in
set_option maxHeartbeats 20000000 in
theorem rm {fu:Nat} (w0:World) {res:Bool} (hD:D.jg fu =some res) :
    Calls Tryz.prog 48 #[] w0 (bw (.bool res) w0):=by
 refine enter Tryz.func48 rfl 39 rfl rfl fun fr r=>?_;have hP:Post No [] w0 w0:=Post.nil w0
 unfold D.jg at hD
 refine wsr (kA (.bool false) r rfl rfl fun r=>wn (wsr (kU (.agg (aa pL0).toArray) r (by kernel_rfl) rfl fun r=>?_)));refine ai (.cells ((aa (⟨0,0,0,0,0,0⟩:Plan))).toArray 23 (0,0)) r (fun R=>ah tz23) rfl fun fr b1 w2 n3 r=>?_
 have hP:Post No [af b1 ((aa (⟨0,0,0,0,0,0⟩:Plan))).toArray 23] w0 w2:=hP.new n3;refine bi (.cells ((aa pL0)).toArray 23 (0,0)) r (fun R=>aZ r (o:=0) (v:=(.agg (aa pL0).toArray)) rfl rfl (hP.cell (i:=0) rfl) ts23 (Nat.le_of_ble_eq_true rfl) rfl rfl) rfl fun fr w5 u6 r=>?_;have hP:Post No [af b1 ((aa pL0)).toArray 23] w0 w5:=hP.upd (i:=0) rfl u6
 refine wn (wsr (kG (aa pL0) 6 r rfl (hP.cell (i:=0) rfl) ta23 rfl rfl fun r=>?_));obtain ⟨x7,hx7,hD⟩:=aY hD
 refine kC r (ru w5 pL0 hx7) rfl cl17 rfl ?_;rintro _ w8 ⟨mg9,rfl,hq⟩;refine ⟨_,rfl,fun fr r=>?_⟩
 have hP:Post No [af b1 ((aa pL0)).toArray 23,memK mg9 x7] w0 w8:=hP.add hq;refine kA (zp mg9.mb) r rfl rfl fun r=>wn (wp_seq (wsr (kM (zp mg9.mb) r rfl rfl fun r=>kB r rfl rfl rfl rfl rfl fun r=>wn ?_)));refine wp_cond_split (t:=false) (r.ev rfl) (fun h=>absurd ((rfl:false=_).symm.trans h) (by decide)) (fun _=>wp_skip (wp_seq ?_))
 obtain ⟨x12,hx12,hD⟩:=aY hD;obtain ⟨x13,hx13,hD⟩:=aY hD;refine Fc.pF mg9.bs [.val (.agg (aa pL0).toArray),.val (.agg (aS sL00).toArray),.val (.agg (aa pL0).toArray),.val (I (D.bE pL0 0 0)),.cons 8 (PrL Tryz.prog ay (fu,(D.eY (fu+1) sL00 (D.bE pL0 0 0) 5 7))) (PrL.st _),.val (zp mg9.mb),.val (zp mg9.mb),.val (.agg (capC x12).toArray),.effC [4] (EffP w8.heap.size (memK mg9 x13.2.2.2) (fun _:Unit=>(.tuple #[(.agg (resC x13.1).toArray),(I x13.2.1),(.bool x13.2.2.1)])) (fun _:Unit=>[])) (EffP.st _ _ _ _),.val (.tuple #[(.agg (resC x13.1).toArray),(I x13.2.1),(.bool x13.2.2.1)]),.val (.agg (resC x13.1).toArray),.val (I x13.2.1),.val (.bool x13.2.2.1),.cell 54 2,.stored 13 ((resC x13.1)).toArray 54 2 rfl,.val (I x13.2.1),.val (.bool x13.2.2.1)] mixed r (fun b hb=>hP.sep.lt (i:=1) rfl (.inl hb)) ⟨_,List.mem_cons_self ..⟩ (by kernel_rfl) ?_ ?_
 ·
  refine Fc.aU r rfl (fun fr1 g w' hk' hd r'=>?_) ?_
  · exact aW r' (cs:=(aa pL0)) (n:=6) rfl (hP.cellK (j:=1) rfl (drK hk') (i:=0) rfl rfl) ta23 rfl ⟨Below.refl _ _,rfl⟩
  refine Fc.aU r rfl (fun fr1 g w' hk' hd r'=>?_) ?_
  · exact eF r' (v:=(.agg (aS sL00).toArray)) (bs1 (congrArg (fun z=>(0,z)) (hd 0 rfl).1) (by kernel_rfl)) ⟨Below.refl _ _,rfl⟩
  refine Fc.aU r rfl (fun fr1 g w' hk' hd r'=>?_) ?_
  · exact aW r' (cs:=(aa pL0)) (n:=6) rfl (hP.cellK (j:=1) rfl (drK hk') (i:=0) rfl rfl) ta23 rfl ⟨Below.refl _ _,rfl⟩
  refine Fc.aU r rfl (fun fr1 g w' hk' hd r'=>?_) ?_
  · exact aN r' (args:=[(.agg (aa pL0).toArray),(I 0),(I 0)]) (lc (hd 2 rfl).1 (lc rfl (lc rfl l0))) cl49 ((nV _ pL0 0 0).mono (by rintro _ w2 ⟨rfl,hb2⟩; exact ⟨_,rfl,hb2,rfl⟩))
  refine Fc.cE r rfl (by kernel_rfl) (fun fr1 g w' hb' hd r'=>?_) ?_
  · exact aN r' (args:=[(.agg (aS sL00).toArray),(I (D.bE pL0 0 0)),(U 5),(U 7)]) (lc (hd 1 rfl).1 (lc (hd 3 rfl).1 (lc rfl (lc rfl l0)))) cl50 ((sN (F:=No) (n:=fu) (j:=fu+1) (fun _ h=>h.elim) (by omega) sL00 (D.bE pL0 0 0) 5 7).mono (by rintro _ w2 ⟨y,rfl,hb2,hr2⟩; exact ⟨_,rfl,hb2.below,oO hr2⟩))
  refine Fc.cE r rfl (by kernel_rfl) (fun fr1 g w' hb' hd r'=>?_) ?_
  · exact aj r' (v:=(zp mg9.mb)) rfl ⟨Below.refl _ _,rfl⟩
  refine Fc.aU r rfl (fun fr1 g w' hk' hd r'=>?_) ?_
  · exact aj r' (v:=(zp mg9.mb)) rfl ⟨Below.refl _ _,rfl⟩
  refine Fc.cE r rfl (by kernel_rfl) (fun fr1 g w' hb' hd r'=>?_) ?_
  · exact aN r' (args:=[(zp mg9.mb),(I 0)]) (lc (hd 6 rfl).1 (lc rfl l0)) cl28 ((lz _ x7 ((hP.below (dr hb')).mem (i:=1) rfl) 0 hx12).mono (by rintro _ w2 ⟨rfl,hb2⟩; exact ⟨_,rfl,hb2,rfl⟩))
  refine Fc.eachC r rfl (by kernel_rfl) (fun fr1 g w' h0 hb' hd r'=>?_) ?_
  · exact aN r' (args:=[(g 4).v,(zp mg9.mb),(.agg (capC x12).toArray),(I 99)]) (lc rfl (lc (hd 5 rfl).1 (lc (hd 7 rfl).1 (lc rfl l0)))) cl37 ((o8 _ (fu,(D.eY (fu+1) sL00 (D.bE pL0 0 0) 5 7)) x7 x12 99 (Sep.beside ((hd 4 rfl).1 h0) ((hP.below (dr hb')).sep.pk [1] rfl rfl) (by intro c hc b hb; simp only [List.mem_cons,List.not_mem_nil,or_false] at hc; rcases hc with rfl; exact hP.sep.lt (i:=1) rfl hb) (hd 4 rfl).2.1) hx13).mono (by rintro _ w2 ⟨rfl,hq⟩; exact ⟨_,rfl,Chg.keptC hq.chg,EffP.ofC hq (fun b hb=>hP.sep.lt (i:=1) rfl hb)⟩))
  refine Fc.aU r rfl (fun fr1 g w' hk' hd r'=>?_) ?_
  · exact aj r' (v:=(.tuple #[(.agg (resC x13.1).toArray),(I x13.2.1),(.bool x13.2.2.1)])) (EffP.val (hd 8 rfl).1) ⟨Below.refl _ _,rfl⟩
  refine Fc.aU r rfl (fun fr1 g w' hk' hd r'=>?_) ?_
  · exact ce r' (vs:=#[(.agg (resC x13.1).toArray),(I x13.2.1),(.bool x13.2.2.1)]) (hd 9 rfl).1 rfl ⟨Below.refl _ _,rfl⟩
  refine Fc.aU r rfl (fun fr1 g w' hk' hd r'=>?_) ?_
  · exact ce r' (vs:=#[(.agg (resC x13.1).toArray),(I x13.2.1),(.bool x13.2.2.1)]) (hd 9 rfl).1 rfl ⟨Below.refl _ _,rfl⟩
  refine Fc.aU r rfl (fun fr1 g w' hk' hd r'=>?_) ?_
  · exact ce r' (vs:=#[(.agg (resC x13.1).toArray),(I x13.2.1),(.bool x13.2.2.1)]) (hd 9 rfl).1 rfl ⟨Below.refl _ _,rfl⟩
  refine Fc.aU r rfl (fun fr1 g w' hk' hd r'=>?_) ?_
  · exact ah tz54 (fun b w2 n2=>⟨n2.below,b,rfl,n2.eq,_,n2.at_,rfl⟩)
  refine Fc.aU r rfl (fun fr1 g w' hk' hd r'=>?_) ?_
  · obtain ⟨hp,_,c,hc,hn⟩:=(hd 13 rfl).1; exact aZ r' (o:=0) (c:=c) (v:=(.agg (resC x13.1).toArray)) hp (hd 10 rfl).1 hc ts54 (by rw [hn]; exact Nat.le_of_ble_eq_true rfl) rfl (iB (hn.trans rfl)) (fun w2 u2=>⟨u2,rfl⟩)
  refine Fc.aU r rfl (fun fr1 g w' hk' hd r'=>?_) ?_
  · exact cw r' (v:=(I x13.2.1)) (hd 11 rfl).1 ⟨Below.refl _ _,rfl⟩
  refine Fc.aU r rfl (fun fr1 g w' hk' hd r'=>?_) ?_
  · exact cw r' (v:=(.bool x13.2.2.1)) (hd 12 rfl).1 ⟨Below.refl _ _,rfl⟩
  exact Fc.bV
 intro fr gg w15 hb hΦ hap r;obtain ⟨v11,hv4⟩:∃ v,v=(gg 4).v:=⟨_,rfl⟩;have g4:(gg 4).v=v11:=hv4.symm;obtain ⟨⟨⟩,g8,hcE,_,hs8⟩:=(hΦ 8 rfl).1;obtain ⟨b14,ee_b14⟩:∃ b,b=(gg 13).lo:=⟨_,rfl⟩;have g13:(gg 13).v=(zp b14):=by rw [ee_b14]; exact (hΦ 13 rfl).1.1
 have H14:w15.heap[b14]?=some (.cells ((resC x13.1)).toArray 54 (0,0)):=by rw [ee_b14]; exact (hΦ 14 rfl).1.2
 have hs13:Fresh [af b14 ((resC x13.1)).toArray 54] (gg 13).lo (gg 13).hi w15:=by subst ee_b14; exact Fresh.cell (hΦ 13 rfl).1.2.1 H14
 have r:=r.congr (sc ((hΦ 16 rfl).1) (sc ((hΦ 15 rfl).1) (sc g13 (sc ((hΦ 12 rfl).1) (sc ((hΦ 11 rfl).1) (sc ((hΦ 10 rfl).1) (sc ((hΦ 9 rfl).1) (sc g8 (sc ((hΦ 7 rfl).1) (sc ((hΦ 6 rfl).1) (sc ((hΦ 5 rfl).1) (sc g4 (sc ((hΦ 3 rfl).1) (sc ((hΦ 2 rfl).1) (sc ((hΦ 1 rfl).1) (sc ((hΦ 0 rfl).1) rfl))))))))))))))));have hP:Post No [af b1 ((aa pL0)).toArray 23,memK mg9 x13.2.2.2,af b14 ((resC x13.1)).toArray 54] w0 w15:=hP.effL (i:=1) (l:=[([af b14 ((resC x13.1)).toArray 54],(gg 13).lo,(gg 13).hi)]) rfl hb hcE rfl rfl ⟨hs13,(hΦ 13 rfl).2.1,eD,trivial⟩;refine wp_seq ?_;refine cK (N:=39) (Y:=Bool) (G:=Unit) (fun x γ=>[(1,(zp b1)),(2,(zp mg9.mb)),(10,(.bool false)),(3,(zp b14)),(5,(.bool x13.2.2.1)),(0,(.bool x))]) (fun x γ w=>Post No [af b1 ((aa pL0)).toArray 23,memK mg9 x13.2.2.2,af b14 ((resC x13.1)).toArray 54] w0 w) hD ?_ ?_
 ·
  rintro y16 RPy16 nxy16 hD;refine bX x13.2.2.1 (fun h17=>?_) (fun h17=>?_)
  ·
   have hD:=(aC h17).symm.trans hD;refine bX (x13.1.e==0) (fun h18=>?_) (fun h18=>?_)
   ·
    have hD:=(aC h18).symm.trans hD;obtain ⟨x19,hx19,hD⟩:=aY hD;refine cL [.val (.bool x13.2.2.1),.val (.bool x13.2.2.1),.val (zp b14),.val (I x13.1.e),.val (.bool (x13.1.e==0)),.val (.bool (x13.1.e==0)),.val (.bool (x13.1.e==0)),.val (.agg (aa pL0).toArray),.val (zp mg9.mb),.val (.agg (aa pL0).toArray),.val (I (D.bE pL0 0 0)),.pred (MkP (fun v20:Value=>v20) (fun v20:Value=>[rowK 110 2 bp v20 x19])) (MkP.st _ _),.val (I (x19.length:Int)),.val (.bool ((x19.length:Int)==1)),.val (.bool ((x19.length:Int)==1)),.val (.bool ((x19.length:Int)==1))] mixed r (by kernel_rfl) ?_ ?_
    ·
     refine fc r (fun fr1 g w' hb' hd r'=>aj r' rfl bz) ?_;refine fc r (fun fr1 g w' hb' hd r'=>aj r' (hd 0 rfl).1 bz) ?_
     refine ar true r rfl rfl rfl (fun g w' hd=>Eq.trans (show (g 1).v=.bool x13.2.2.1 from (hd 1 rfl).1) (congrArg Value.bool h17)) (fun fr1 g w' hb' hd r'=>?_) ?_
     · exact ax r' (b:=b14) (o:=0) (k:=0) rfl mM ⟨Below.refl _ _,rfl⟩
     refine ar true r rfl rfl rfl (fun g w' hd=>Eq.trans (show (g 1).v=.bool x13.2.2.1 from (hd 1 rfl).1) (congrArg Value.bool h17)) (fun fr1 g w' hb' hd r'=>?_) ?_
     · exact av r' (v:=(I x13.1.e)) (hd 2 rfl).1 ((hP.below (dr hb')).cell (i:=2) rfl) to33 rfl ⟨Below.refl _ _,rfl⟩
     refine ar true r rfl rfl rfl (fun g w' hd=>Eq.trans (show (g 1).v=.bool x13.2.2.1 from (hd 1 rfl).1) (congrArg Value.bool h17)) (fun fr1 g w' hb' hd r'=>?_) ?_
     · exact aP r' (u:=(I x13.1.e)) (u':=(I 0)) (v:=(.bool (x13.1.e==0))) (hd 3 rfl).1 rfl rfl rfl ⟨Below.refl _ _,rfl⟩
     refine fc r (fun fr1 g w' hb' hd r'=>aJ r' (b:=true) (v:=(.bool (x13.1.e==0))) (Eq.trans (show (g 1).v=.bool x13.2.2.1 from (hd 1 rfl).1) (congrArg Value.bool h17)) (hd 4 rfl).1 bz) ?_;refine fc r (fun fr1 g w' hb' hd r'=>aj r' (hd 5 rfl).1 bz) ?_
     refine ar true r rfl rfl rfl (fun g w' hd=>Eq.trans (show (g 6).v=.bool (x13.1.e==0) from (hd 6 rfl).1) (congrArg Value.bool h18)) (fun fr1 g w' hb' hd r'=>?_) ?_
     · exact aW r' (cs:=(aa pL0)) (n:=6) rfl ((hP.below (dr hb')).cell (i:=0) rfl) ta23 rfl ⟨Below.refl _ _,rfl⟩
     refine ar true r rfl rfl rfl (fun g w' hd=>Eq.trans (show (g 6).v=.bool (x13.1.e==0) from (hd 6 rfl).1) (congrArg Value.bool h18)) (fun fr1 g w' hb' hd r'=>?_) ?_
     · exact aj r' (v:=(zp mg9.mb)) rfl ⟨Below.refl _ _,rfl⟩
     refine ar true r rfl rfl rfl (fun g w' hd=>Eq.trans (show (g 6).v=.bool (x13.1.e==0) from (hd 6 rfl).1) (congrArg Value.bool h18)) (fun fr1 g w' hb' hd r'=>?_) ?_
     · exact aW r' (cs:=(aa pL0)) (n:=6) rfl ((hP.below (dr hb')).cell (i:=0) rfl) ta23 rfl ⟨Below.refl _ _,rfl⟩
     refine ar true r rfl rfl rfl (fun g w' hd=>Eq.trans (show (g 6).v=.bool (x13.1.e==0) from (hd 6 rfl).1) (congrArg Value.bool h18)) (fun fr1 g w' hb' hd r'=>?_) ?_
     · exact aN r' (args:=[(.agg (aa pL0).toArray),(I 0),(I 0)]) (lc (hd 9 rfl).1 (lc rfl (lc rfl l0))) cl49 ((nV _ pL0 0 0).mono (by rintro _ w2 ⟨rfl,hb2⟩; exact ⟨_,rfl,hb2,rfl⟩))
     refine ar true r rfl rfl rfl (fun g w' hd=>Eq.trans (show (g 6).v=.bool (x13.1.e==0) from (hd 6 rfl).1) (congrArg Value.bool h18)) (fun fr1 g w' hb' hd r'=>?_) ?_
     · exact aN r' (args:=[(.agg (aa pL0).toArray),(zp mg9.mb),(I 0),(I (D.bE pL0 0 0))]) (lc (hd 7 rfl).1 (lc (hd 8 rfl).1 (lc rfl (lc (hd 10 rfl).1 l0)))) cl51 ((oh _ pL0 x13.2.2.2 ((hP.below (dr hb')).mem (i:=1) rfl) 0 (D.bE pL0 0 0) hx19).mono (by rintro _ w2 ⟨y,rfl,hq⟩; exact ⟨_,rfl,hq.chg.below,MkP.of y hq⟩))
     refine ar true r rfl rfl rfl (fun g w' hd=>Eq.trans (show (g 6).v=.bool (x13.1.e==0) from (hd 6 rfl).1) (congrArg Value.bool h18)) (fun fr1 g w' hb' hd r'=>?_) ?_
     · obtain ⟨y,hy,hs,_⟩:=(hd 11 rfl).1; exact cQ r' (RowAt.ro (hs.get (i:=0) rfl)) mY hy ⟨Below.refl _ _,rfl⟩
     refine ar true r rfl rfl rfl (fun g w' hd=>Eq.trans (show (g 6).v=.bool (x13.1.e==0) from (hd 6 rfl).1) (congrArg Value.bool h18)) (fun fr1 g w' hb' hd r'=>?_) ?_
     · exact aP r' (u:=(I (x19.length:Int))) (u':=(I 1)) (v:=(.bool ((x19.length:Int)==1))) (hd 12 rfl).1 rfl rfl rfl ⟨Below.refl _ _,rfl⟩
     refine fc r (fun fr1 g w' hb' hd r'=>aJ r' (b:=true) (v:=(.bool ((x19.length:Int)==1))) (Eq.trans (show (g 6).v=.bool (x13.1.e==0) from (hd 6 rfl).1) (congrArg Value.bool h18)) (hd 13 rfl).1 bz) ?_;refine fc r (fun fr1 g w' hb' hd r'=>cw r' (hd 14 rfl).1 bz) ?_
     exact bV
    intro fr gg w22 hb hΦ hap r;obtain ⟨v20,g11,hs11⟩:=(hΦ 11 rfl).1;have r:=r.congr (sc ((hΦ 15 rfl).1) (sc ((hΦ 14 rfl).1) (sc ((hΦ 13 rfl).1) (sc ((hΦ 12 rfl).1) (sc g11 (sc ((hΦ 10 rfl).1) (sc ((hΦ 9 rfl).1) (sc ((hΦ 8 rfl).1) (sc ((hΦ 7 rfl).1) (sc ((hΦ 6 rfl).1) (sc ((hΦ 5 rfl).1) (sc ((hΦ 4 rfl).1) (sc ((hΦ 3 rfl).1) (sc ((hΦ 2 rfl).1) (sc ((hΦ 1 rfl).1) (sc ((hΦ 0 rfl).1) rfl))))))))))))))));have hP:Post No [af b1 ((aa pL0)).toArray 23,memK mg9 x13.2.2.2,af b14 ((resC x13.1)).toArray 54,rowK 110 2 bp v20 x19] w0 w22:=hP.addL (l:=[([rowK 110 2 bp v20 x19],(gg 11).lo,(gg 11).hi)]) hb ⟨hs11,(hΦ 11 rfl).2.1,eD,trivial⟩;exact nxy16 ((x19.length:Int)==1) () _ _ _ hD r (kO (aw rfl (aw rfl aO))) (hP.pick [0,1,2] rfl rfl)
   have hD:=(aF h18).symm.trans hD;refine cL [.val (.bool x13.2.2.1),.val (.bool x13.2.2.1),.val (zp b14),.val (I x13.1.e),.val (.bool (x13.1.e==0)),.val (.bool (x13.1.e==0)),.val (.bool (x13.1.e==0)),.val undef,.val undef,.val undef,.val undef,.val undef,.val undef,.val undef,.val (.bool false),.val (.bool false)] mixed r (by kernel_rfl) ?_ ?_
   ·
    refine fc r (fun fr1 g w' hb' hd r'=>aj r' rfl bz) ?_;refine fc r (fun fr1 g w' hb' hd r'=>aj r' (hd 0 rfl).1 bz) ?_
    refine ar true r rfl rfl rfl (fun g w' hd=>Eq.trans (show (g 1).v=.bool x13.2.2.1 from (hd 1 rfl).1) (congrArg Value.bool h17)) (fun fr1 g w' hb' hd r'=>?_) ?_
    · exact ax r' (b:=b14) (o:=0) (k:=0) rfl mM ⟨Below.refl _ _,rfl⟩
    refine ar true r rfl rfl rfl (fun g w' hd=>Eq.trans (show (g 1).v=.bool x13.2.2.1 from (hd 1 rfl).1) (congrArg Value.bool h17)) (fun fr1 g w' hb' hd r'=>?_) ?_
    · exact av r' (v:=(I x13.1.e)) (hd 2 rfl).1 ((hP.below (dr hb')).cell (i:=2) rfl) to33 rfl ⟨Below.refl _ _,rfl⟩
    refine ar true r rfl rfl rfl (fun g w' hd=>Eq.trans (show (g 1).v=.bool x13.2.2.1 from (hd 1 rfl).1) (congrArg Value.bool h17)) (fun fr1 g w' hb' hd r'=>?_) ?_
    · exact aP r' (u:=(I x13.1.e)) (u':=(I 0)) (v:=(.bool (x13.1.e==0))) (hd 3 rfl).1 rfl rfl rfl ⟨Below.refl _ _,rfl⟩
    refine fc r (fun fr1 g w' hb' hd r'=>aJ r' (b:=true) (v:=(.bool (x13.1.e==0))) (Eq.trans (show (g 1).v=.bool x13.2.2.1 from (hd 1 rfl).1) (congrArg Value.bool h17)) (hd 4 rfl).1 bz) ?_;refine fc r (fun fr1 g w' hb' hd r'=>aj r' (hd 5 rfl).1 bz) ?_
    refine aD true (.bool false) r rfl rfl rfl (fun g w' hd=>Eq.trans (show (g 6).v=.bool (x13.1.e==0) from (hd 6 rfl).1) (congrArg Value.bool h18)) (by simp [aA]) (fun _ _=>⟨Below.refl _ _,rfl⟩) ?_;refine aD true (.bool false) r rfl rfl rfl (fun g w' hd=>Eq.trans (show (g 6).v=.bool (x13.1.e==0) from (hd 6 rfl).1) (congrArg Value.bool h18)) (by simp [aA]) (fun _ _=>⟨Below.refl _ _,rfl⟩) ?_
    refine aD true (.bool false) r rfl rfl rfl (fun g w' hd=>Eq.trans (show (g 6).v=.bool (x13.1.e==0) from (hd 6 rfl).1) (congrArg Value.bool h18)) (by simp [aA]) (fun _ _=>⟨Below.refl _ _,rfl⟩) ?_;refine aD true (.bool false) r rfl rfl rfl (fun g w' hd=>Eq.trans (show (g 6).v=.bool (x13.1.e==0) from (hd 6 rfl).1) (congrArg Value.bool h18)) (by simp [aA]) (fun _ _=>⟨Below.refl _ _,rfl⟩) ?_
    refine aD true (.bool false) r rfl rfl rfl (fun g w' hd=>Eq.trans (show (g 6).v=.bool (x13.1.e==0) from (hd 6 rfl).1) (congrArg Value.bool h18)) (by simp [aA]) (fun _ _=>⟨Below.refl _ _,rfl⟩) ?_;refine aD true (.bool false) r rfl rfl rfl (fun g w' hd=>Eq.trans (show (g 6).v=.bool (x13.1.e==0) from (hd 6 rfl).1) (congrArg Value.bool h18)) (by simp [aA]) (fun _ _=>⟨Below.refl _ _,rfl⟩) ?_
    refine aD true (.bool false) r rfl rfl rfl (fun g w' hd=>Eq.trans (show (g 6).v=.bool (x13.1.e==0) from (hd 6 rfl).1) (congrArg Value.bool h18)) (by simp [aA]) (fun _ _=>⟨Below.refl _ _,rfl⟩) ?_;refine fc r (fun fr1 g w' hb' hd r'=>aJ r' (b:=false) (v:=(.bool false)) (Eq.trans (show (g 6).v=.bool (x13.1.e==0) from (hd 6 rfl).1) (congrArg Value.bool h18)) rfl bz) ?_
    refine fc r (fun fr1 g w' hb' hd r'=>cw r' (hd 14 rfl).1 bz) ?_;exact bV
   intro fr gg w23 hb hΦ hap r;have r:=r.congr (sc ((hΦ 15 rfl).1) (sc ((hΦ 14 rfl).1) (sc ((hΦ 13 rfl).1) (sc ((hΦ 12 rfl).1) (sc ((hΦ 11 rfl).1) (sc ((hΦ 10 rfl).1) (sc ((hΦ 9 rfl).1) (sc ((hΦ 8 rfl).1) (sc ((hΦ 7 rfl).1) (sc ((hΦ 6 rfl).1) (sc ((hΦ 5 rfl).1) (sc ((hΦ 4 rfl).1) (sc ((hΦ 3 rfl).1) (sc ((hΦ 2 rfl).1) (sc ((hΦ 1 rfl).1) (sc ((hΦ 0 rfl).1) rfl))))))))))))))));have hP:=hP.below hb;exact nxy16 false () _ _ _ hD r (kO (aw rfl (aw rfl aO))) (hP.pick [0,1,2] rfl rfl)
  have hD:=(aF h17).symm.trans hD;refine cL [.val (.bool x13.2.2.1),.val (.bool x13.2.2.1),.val undef,.val undef,.val undef,.val (.bool false),.val (.bool false),.val undef,.val undef,.val undef,.val undef,.val undef,.val undef,.val undef,.val (.bool false),.val (.bool false)] mixed r (by kernel_rfl) ?_ ?_
  ·
   refine fc r (fun fr1 g w' hb' hd r'=>aj r' rfl bz) ?_;refine fc r (fun fr1 g w' hb' hd r'=>aj r' (hd 0 rfl).1 bz) ?_
   refine aD true (.bool false) r rfl rfl rfl (fun g w' hd=>Eq.trans (show (g 1).v=.bool x13.2.2.1 from (hd 1 rfl).1) (congrArg Value.bool h17)) (by simp [aA]) (fun _ _=>⟨Below.refl _ _,rfl⟩) ?_;refine aD true (.bool false) r rfl rfl rfl (fun g w' hd=>Eq.trans (show (g 1).v=.bool x13.2.2.1 from (hd 1 rfl).1) (congrArg Value.bool h17)) (by simp [aA]) (fun _ _=>⟨Below.refl _ _,rfl⟩) ?_
   refine aD true (.bool false) r rfl rfl rfl (fun g w' hd=>Eq.trans (show (g 1).v=.bool x13.2.2.1 from (hd 1 rfl).1) (congrArg Value.bool h17)) (by simp [aA]) (fun _ _=>⟨Below.refl _ _,rfl⟩) ?_;refine fc r (fun fr1 g w' hb' hd r'=>aJ r' (b:=false) (v:=(.bool false)) (Eq.trans (show (g 1).v=.bool x13.2.2.1 from (hd 1 rfl).1) (congrArg Value.bool h17)) rfl bz) ?_
   refine fc r (fun fr1 g w' hb' hd r'=>aj r' (hd 5 rfl).1 bz) ?_;refine aD true (.bool false) r rfl rfl rfl (fun g w' hd=>Eq.trans (show (g 6).v=.bool false from (hd 6 rfl).1) (congrArg Value.bool (rfl:false=_))) (by simp [aA]) (fun _ _=>⟨Below.refl _ _,rfl⟩) ?_
   refine aD true (.bool false) r rfl rfl rfl (fun g w' hd=>Eq.trans (show (g 6).v=.bool false from (hd 6 rfl).1) (congrArg Value.bool (rfl:false=_))) (by simp [aA]) (fun _ _=>⟨Below.refl _ _,rfl⟩) ?_;refine aD true (.bool false) r rfl rfl rfl (fun g w' hd=>Eq.trans (show (g 6).v=.bool false from (hd 6 rfl).1) (congrArg Value.bool (rfl:false=_))) (by simp [aA]) (fun _ _=>⟨Below.refl _ _,rfl⟩) ?_
   refine aD true (.bool false) r rfl rfl rfl (fun g w' hd=>Eq.trans (show (g 6).v=.bool false from (hd 6 rfl).1) (congrArg Value.bool (rfl:false=_))) (by simp [aA]) (fun _ _=>⟨Below.refl _ _,rfl⟩) ?_;refine aD true (.bool false) r rfl rfl rfl (fun g w' hd=>Eq.trans (show (g 6).v=.bool false from (hd 6 rfl).1) (congrArg Value.bool (rfl:false=_))) (by simp [aA]) (fun _ _=>⟨Below.refl _ _,rfl⟩) ?_
   refine aD true (.bool false) r rfl rfl rfl (fun g w' hd=>Eq.trans (show (g 6).v=.bool false from (hd 6 rfl).1) (congrArg Value.bool (rfl:false=_))) (by simp [aA]) (fun _ _=>⟨Below.refl _ _,rfl⟩) ?_;refine aD true (.bool false) r rfl rfl rfl (fun g w' hd=>Eq.trans (show (g 6).v=.bool false from (hd 6 rfl).1) (congrArg Value.bool (rfl:false=_))) (by simp [aA]) (fun _ _=>⟨Below.refl _ _,rfl⟩) ?_
   refine fc r (fun fr1 g w' hb' hd r'=>aJ r' (b:=false) (v:=(.bool false)) (Eq.trans (show (g 6).v=.bool false from (hd 6 rfl).1) (congrArg Value.bool (rfl:false=_))) rfl bz) ?_;refine fc r (fun fr1 g w' hb' hd r'=>cw r' (hd 14 rfl).1 bz) ?_
   exact bV
  intro fr gg w24 hb hΦ hap r;have r:=r.congr (sc ((hΦ 15 rfl).1) (sc ((hΦ 14 rfl).1) (sc ((hΦ 13 rfl).1) (sc ((hΦ 12 rfl).1) (sc ((hΦ 11 rfl).1) (sc ((hΦ 10 rfl).1) (sc ((hΦ 9 rfl).1) (sc ((hΦ 8 rfl).1) (sc ((hΦ 7 rfl).1) (sc ((hΦ 6 rfl).1) (sc ((hΦ 5 rfl).1) (sc ((hΦ 4 rfl).1) (sc ((hΦ 3 rfl).1) (sc ((hΦ 2 rfl).1) (sc ((hΦ 1 rfl).1) (sc ((hΦ 0 rfl).1) rfl))))))))))))))));have hP:=hP.below hb;exact nxy16 false () _ _ _ hD r (kO (aw rfl (aw rfl aO))) (hP.pick [0,1,2] rfl rfl)
 rintro x25 γ26 fr w27 g r hP hD;have hP:Post No [af b1 ((aa pL0)).toArray 23,memK mg9 x13.2.2.2,af b14 ((resC x13.1)).toArray 54] w0 w27:=hP;refine wp_ret ?_;have hv:x25=res:=Option.some.inj hD
 try dsimp only [Exit.then,Exit.inBlock]
 refine bd (fn:=Tryz.f48) r (t:=0) rfl (v:=(.bool x25)) rfl ?_;subst hv;exact ⟨rfl,hP.chg.below⟩
theorem sZ {p:Plan} (hp:PF p) (hnn:p.nodes≤1000) {M:Mem} (hl:Len p M.ws) {c:Int} (hc:0≤c∧c<D.br p) {l:List Int} (hL:bk p M.ws c l) (hle:(l.length:Int)≤p.nodes) {fu:Nat} (hfu:1001<fu) :
    D.gC fu p M 0 c=some (ents p M.ws l):=by
  have hN:=co hp;unfold Len at hl
  unfold D.gC;rw [mF (by omega) (by omega),hL.word];simp only [Option.bind_some];refine jW (fun o=>o=some (ents p M.ws l)) (fun (i:Nat) (x:List Entry × Int × Int)=>∃ pre suf,l=pre++suf∧pre.length=i∧x=(ents p M.ws pre,lw suf,(i:Int))) l.length fu ⟨[],l,rfl,rfl,rfl⟩ (by omega) ?_ ?_
  · rintro i _ hi ⟨pre,suf,e,hpl,rfl⟩
    obtain ⟨q,s,rfl⟩:∃ q s,suf=q::s:=by
      cases suf with
      | nil=>rw [e] at hi; simp at hi; omega
      | cons q s=>exact ⟨q,s,rfl⟩
    have hLq:=bk.app (e ▸ hL);have hq:=hLq.2.1;obtain ⟨q1,q2,q3⟩:=j9 hp hq;have ec:D.aV (lw (q::s))=q:=lnode (by omega) (by omega)
    have hfp:∀ f,fp p q f=sp p q+2+f:=fun f=>rfl
    have hfl:∀ f,0≤f→f<3→D.bf p q f=fp p q f:=fun f f0 f1=>nr hp hq ⟨f0,f1⟩
    simp only
    rw [show decide ((i:Int)<p.nodes)=true from by simp; omega,ec,show decide (q≥0)=true from by simpa using hq.1]
    simp only [cond_true,Option.bind_some]
    rw [hfl 2 (by omega) (by omega),hfl 0 (by omega) (by omega),hfl 1 (by omega) (by omega),mF (by rw [hfp]; omega) (by rw [hfp]; omega),hLq.2.2.word]
    simp only [Option.bind_some]
    rw [uF hLq.2.2 hnn]
    simp only [show ((0:Int)==0)=true from rfl,cond_true]
    rw [mF (by rw [hfp]; omega) (by rw [hfp]; omega),mF (by rw [hfp]; omega) (by rw [hfp]; omega)]
    simp only [Option.bind_some]
    have hpn:(pre.length:Int)≤1000:=by omega
    have ha:appD (ents p M.ws pre) [(⟨rd M.ws (fp p q 0),rd M.ws (fp p q 1)⟩:Entry)]=some (ents p M.ws (pre++[q])):=by
      unfold appD;rw [if_pos (by simp only [uE,List.length_singleton,ents,List.length_map]; omega)];unfold ents;rw [List.map_append]
      rfl
    rw [ha]
    simp only [Option.bind_some]
    rw [bS (show -1000000≤(i:Int)+1 by omega) (by omega)]
    exact ⟨_,rfl,pre++[q],s,by rw [e]; simp,by simp [hpl],rfl⟩
  · rintro _ ⟨pre,suf,e,hpl,rfl⟩
    have hs:suf=[]:=by
      have:=congrArg List.length e;rw [List.length_append] at this
      exact List.length_eq_zero_iff.1 (by omega)
    subst hs;rw [List.append_nil] at e
    subst e;have ec:D.aV (lw [])=-1:=qc;simp only;rw [ec];refine ⟨(ents p M.ws l,lw [],(l.length:Int)),?_,rfl⟩;cases decide ((l.length:Int)<p.nodes) <;> rfl
theorem BI:D.jg 4000=some true:=by decide +kernel
theorem LAt.start {p:Plan} (hp:PF p) {ws:List Int} (h:LaidAt p ws) {t:Int} (ht:0≤t∧t<p.threads) {c:Int} (hc:rd ws c=0):LAt p t ws ⟨allN p,[],fun _=>⟨0,0,0⟩⟩ 0 c []∧Alone p ws:=by
  have hP:=PoolAt.start hp h ht;refine ⟨⟨hP.toH,fun j j0 j1=>?_,hc,List.nodup_nil,fun q hq=>(by cases hq),List.Pairwise.nil⟩,hP.hz⟩
  have:=hP.hz (t * 3+j) (by omega) (by omega)
  rw [←Int.add_assoc] at this
  exact this
theorem Bm {k:Int} {E:List Entry}:(getE k E).e=if hasE k E=true then 0 else 6:=by
  unfold getE hasE;cases hiE k E with
  | nil=>rfl
  | cons a r=>
    by_cases h:a.key=k
    · simp [h]
    · simp [h]
end Go.Proofs.YtikjpdpgdmbdpaaGreat

/- Some of our texts, one behind the other. -/
import Derived.Test.YtbbipmelhmgmfaaGreatTcM14
import Derived.Test.YtbbipmelhmgmfaaGreatTcM20
import Derived.Test.YtbbipmelhmgmfaaGreatTcM16
import Derived.Test.YtbbipmelhmgmfaaGreatTcM4
import Derived.Test.YtbbipmelhmgmfaaGreatTcLListp
import Derived.Shelf.SlSortCmp.NoneTotal
import Derived.Test.YtbbipmelhmgmfaaGreatProg
import Derived.Lib.Walk
set_option linter.all false
set_option maxRecDepth 100000
set_option maxHeartbeats 20000000
/- Ours. -/
namespace Go.Proofs.YtbbipmelhmgmfaaGreat
open Go.RowKit
theorem cl_prog_Prog_Res_Step {fu:Nat} (w0:World) {a0v:Value} {a0F:List Nat} (a0:Nat × T Res) {a1g:MG} (a1:Mem) (a2:Cap) (hS:Sep [progL Tryz.prog encRes a0 a0v a0F,memK a1g a1] w0) {res:(Nat × T Res) × Bool × Mem} (hD:D.prog_Prog_Res_Step fu a0 a1 a2=some res) :
    Calls Tryz.prog 19 #[a0v,zp a1g.mb,.agg (capC a2).toArray] w0 (fun e w'=>∃ (v0:Value) (F0:List Nat),e=.returned (.tuple #[v0,(.bool res.2.1)])∧Done (fun b=>b∈a0F∨b∈(memK a1g a1).own) No [memK a1g res.2.2,progL Tryz.prog encRes res.1 v0 F0] w0 w'∧(res.2.1=false→v0=a0v∧res.1=a0)):=by
 refine enter Tryz.func19 rfl 28 rfl rfl fun fr r=>?_;have hP:Post (fun b=>b∈a0F∨b∈(memK a1g a1).own) [progL Tryz.prog encRes a0 a0v a0F,memK a1g a1] w0 w0:=.start hS (by intro c hc b hb; rcases List.mem_cons.1 hc with rfl | hc; exact .inl hb; rcases List.mem_singleton.1 hc with rfl; exact .inr hb)
 unfold D.prog_Prog_Res_Step at hD
 refine wsr ?_;refine kX 41 a0v r rfl rfl fun b1 w2 n3 r=>?_;have hP:Post (fun b=>b∈a0F∨b∈(memK a1g a1).own) [progL Tryz.prog encRes a0 a0v a0F,memK a1g a1,cellC b1 a0v.cells 41] w0 w2:=hP.new n3
 refine kX 52 (.agg (capC a2).toArray) r rfl rfl fun b5 w6 n7 r=>?_;have hP:Post (fun b=>b∈a0F∨b∈(memK a1g a1).own) [progL Tryz.prog encRes a0 a0v a0F,memK a1g a1,cellC b1 a0v.cells 41,cellC b5 ((capC a2)).toArray 52] w0 w6:=hP.new n7
 refine seq_new (.cells (kq encRes) 41 (0,0)) r (fun R=>y_alloc tz41) rfl fun fr b9 w10 n11 r=>?_;have hP:Post (fun b=>b∈a0F∨b∈(memK a1g a1).own) [progL Tryz.prog encRes a0 a0v a0F,memK a1g a1,cellC b1 a0v.cells 41,cellC b5 ((capC a2)).toArray 52,cellC b9 (kq encRes) 41] w0 w10:=hP.new n11
 refine kA (.bool false) r rfl rfl fun r=>wn (wp_seq (wsr (seq_val _ r (fun R=>y_fieldAddr r (b:=b1) (o:=0) (k:=0) rfl fo41_0) rfl fun fr r=>kL (.bool a0.2.isDone) r rfl (hP.cell (i:=2) rfl) to4 (Rep.over_at (hP.progz (i:=0) rfl)) rfl fun r=>wn ?_)));refine wp_cond_split (t:=a0.2.isDone) (r.ev rfl) (fun h13=>?_) (fun h13=>?_)
 ·
  have hD:=(cond_t h13).symm.trans hD;refine wsr (seq_val a0v r (fun R=>y_loadp r (hP.progz (i:=0) rfl).shape rfl (hP.cell (i:=2) rfl) ta41) rfl fun fr r=>?_);refine kP r (hP.progz (i:=0) rfl).shape rfl rfl (hP.cell (i:=4) rfl) ts41 rfl rfl fun w14 u15 r=>?_
  have hP:Post (fun b=>b∈a0F∨b∈(memK a1g a1).own) [progL Tryz.prog encRes a0 a0v a0F,memK a1g a1,cellC b1 a0v.cells 41,cellC b5 ((capC a2)).toArray 52,cellC b9 a0v.cells 41] w0 w14:=hP.upd (i:=4) rfl u15
  refine kA (.bool false) r rfl rfl fun r=>wn (wp_ret ?_);have hv:(a0,false,a1)=res:=Option.some.inj hD
  try dsimp only [Exit.then,Exit.inBlock]
  have hs:=(hP.progz (i:=0) rfl).shape.cells;refine ret_cell_tmp (fn:=Tryz.f19) r rfl rfl (v':=(.bool false)) rfl (hP.cell (i:=4) rfl) (k:=8) hs.1 ta41 ?_;rw [←hs.2.2];subst hv;exact ⟨a0v,a0F,rfl,(hP.pick [1,0] rfl rfl).done (rest_cons rfl (rest_cons rfl rest_nil)),fun _=>⟨rfl,rfl⟩⟩
 have hD:=(cond_f h13).symm.trans hD;refine wp_skip (wsr (kM (zp a1g.mb) r rfl rfl fun r=>kG (capC a2) 2 r rfl (hP.cell (i:=3) rfl) ta52 rfl rfl fun r=>seq_val _ r (fun R=>y_fieldAddr r (b:=b1) (o:=0) (k:=3) rfl fo41_2) rfl fun fr r=>kG (accessC (T.acc a0.2)) 4 r rfl (hP.cell (i:=2) rfl) ta38 (Rep.acc_at (hP.progz (i:=0) rfl) h13) rfl fun r=>?_));obtain ⟨x16,hx16,hD⟩:=bindD_elim hD
 refine kC r (c_mem_Memory_Do w10 a1 a2 (T.acc a0.2) (hP.sep.pk [1] rfl rfl) hx16) rfl cl65 rfl ?_;rintro _ w17 ⟨rfl,hq⟩;refine ⟨_,rfl,fun fr r=>?_⟩
 have hP:Post (fun b=>b∈a0F∨b∈(memK a1g a1).own) [progL Tryz.prog encRes a0 a0v a0F,memK a1g x16.2.2,cellC b1 a0v.cells 41,cellC b5 ((capC a2)).toArray 52,cellC b9 (kq encRes) 41] w0 w17:=hP.setN (i:=1) rfl hq
 refine kM (.tuple #[(U x16.1),(.bool x16.2.1)]) r rfl rfl fun r=>seq_val (U x16.1) r (fun R=>y_extract r (vs:=#[(U x16.1),(.bool x16.2.1)]) rfl rfl) rfl fun fr r=>seq_val (.bool x16.2.1) r (fun R=>y_extract r (vs:=#[(U x16.1),(.bool x16.2.1)]) rfl rfl) rfl fun fr r=>kA (U x16.1) r rfl rfl fun r=>kA (.bool x16.2.1) r rfl rfl fun r=>wn (wp_seq (wsr (kM (.bool x16.2.1) r rfl rfl fun r=>seq_val (.bool (!x16.2.1)) r (fun R=>y_un r (u:=(.bool x16.2.1)) rfl rfl) rfl fun fr r=>wn ?_)));refine wp_cond_split (t:=(!x16.2.1)) (r.ev rfl) (fun h18=>?_) (fun h18=>?_)
 ·
  have hD:=(cond_t h18).symm.trans hD;refine wsr (seq_val a0v r (fun R=>y_loadp r (hP.progz (i:=0) rfl).shape rfl (hP.cell (i:=2) rfl) ta41) rfl fun fr r=>?_);refine kP r (hP.progz (i:=0) rfl).shape rfl rfl (hP.cell (i:=4) rfl) ts41 rfl rfl fun w19 u20 r=>?_
  have hP:Post (fun b=>b∈a0F∨b∈(memK a1g a1).own) [progL Tryz.prog encRes a0 a0v a0F,memK a1g x16.2.2,cellC b1 a0v.cells 41,cellC b5 ((capC a2)).toArray 52,cellC b9 a0v.cells 41] w0 w19:=hP.upd (i:=4) rfl u20
  refine kA (.bool false) r rfl rfl fun r=>wn (wp_ret ?_);have hv:(a0,false,x16.2.2)=res:=Option.some.inj hD
  try dsimp only [Exit.then,Exit.inBlock]
  have hs:=(hP.progz (i:=0) rfl).shape.cells;refine ret_cell_tmp (fn:=Tryz.f19) r rfl rfl (v':=(.bool false)) rfl (hP.cell (i:=4) rfl) (k:=8) hs.1 ta41 ?_;rw [←hs.2.2];subst hv;exact ⟨a0v,a0F,rfl,(hP.pick [1,0] rfl rfl).done (rest_cons rfl (rest_cons rfl rest_nil)),fun _=>⟨rfl,rfl⟩⟩
 have hD:=(cond_f h18).symm.trans hD;refine wp_skip (wsr (seq_val _ r (fun R=>y_fieldAddr r (b:=b1) (o:=0) (k:=7) rfl fo41_3) rfl fun fr r=>?_));obtain ⟨nf21,n122,n223,hv24,hk25⟩:=RepL.next_at (hP.progl (i:=0) rfl) h13
 refine kL (kf nf21 n122 n223) r rfl (hP.cell (i:=2) rfl) to39 hv24 rfl fun r=>kM (U x16.1) r rfl rfl fun r=>?_;obtain ⟨x26,hx26,hD⟩:=bindD_elim hD
 refine seq_call r (hk25.at_.2 x26 (by rw [depthI_eq hx26]; exact Nat.lt_succ_self _) x16.1 w17 (Same.refl _ _) (Nat.le_refl _)) (fun R hc=>y_callv1 r rfl rfl hk25.at_.1 hc) rfl ?_;rintro _ w27 ⟨v28,rfl,hb,hr29⟩
 refine ⟨_,rfl,fun fr r=>?_⟩
 have zw27:=hP.size;have hP:Post (fun b=>b∈a0F∨b∈(memK a1g a1).own) [progL Tryz.prog encRes (x26,T.next a0.2 x16.1) v28 (a0F++rg w17.heap.size w27.heap.size),memK a1g x16.2.2,cellC b1 a0v.cells 41,cellC b5 ((capC a2)).toArray 52,cellC b9 (kq encRes) 41] w0 w27:=hP.callL (k:=0) rfl hb hr29
 refine kP r (hP.progz (i:=0) rfl).shape rfl rfl (hP.cell (i:=4) rfl) ts41 rfl rfl fun w31 u32 r=>?_;have hP:Post (fun b=>b∈a0F∨b∈(memK a1g a1).own) [progL Tryz.prog encRes (x26,T.next a0.2 x16.1) v28 (a0F++rg w17.heap.size w27.heap.size),memK a1g x16.2.2,cellC b1 a0v.cells 41,cellC b5 ((capC a2)).toArray 52,cellC b9 v28.cells 41] w0 w31:=hP.upd (i:=4) rfl u32
 refine kA (.bool true) r rfl rfl fun r=>wn (wp_ret ?_);have hv:((x26,T.next a0.2 x16.1),true,x16.2.2)=res:=Option.some.inj hD
 try dsimp only [Exit.then,Exit.inBlock]
 have hs:=(hP.progz (i:=0) rfl).shape.cells;refine ret_cell_tmp (fn:=Tryz.f19) r rfl rfl (v':=(.bool true)) rfl (hP.cell (i:=4) rfl) (k:=8) hs.1 ta41 ?_;rw [←hs.2.2];subst hv;exact ⟨v28,(a0F++rg w17.heap.size w27.heap.size),rfl,(hP.pick [1,0] rfl rfl).done (rest_cons rfl (rest_cons rfl rest_nil)),fun h=>by cases h⟩
theorem cl_prog_Run_Res {fu:Nat} (w0:World) {a0v:Value} {a0F:List Nat} (a0:Nat × T Res) {a1g:MG} (a1:Mem) (a2:Cap) (a3:Int) (hS:Sep [progL Tryz.prog encRes a0 a0v a0F,memK a1g a1] w0) {res:Res × Int × Bool × Mem} (hD:D.prog_Run_Res fu a0 a1 a2 a3=some res) :
    Calls Tryz.prog 29 #[a0v,zp a1g.mb,.agg (capC a2).toArray,.int .i64 a3] w0 (fun e w'=>e=.returned (.tuple #[(.agg (resC res.1).toArray),(.int .i64 res.2.1),(.bool res.2.2.1)])∧Done (fun b=>b∈a0F∨b∈(memK a1g a1).own) No [memK a1g res.2.2.2] w0 w'):=by
 refine enter Tryz.func29 rfl 39 rfl rfl fun fr r=>?_;have hP:Post (fun b=>b∈a0F∨b∈(memK a1g a1).own) [progL Tryz.prog encRes a0 a0v a0F,memK a1g a1] w0 w0:=.start hS (by intro c hc b hb; rcases List.mem_cons.1 hc with rfl | hc; exact .inl hb; rcases List.mem_singleton.1 hc with rfl; exact .inr hb)
 unfold D.prog_Run_Res at hD
 refine wsr ?_;refine kX 41 a0v r rfl rfl fun b1 w2 n3 r=>?_;have hP:Post (fun b=>b∈a0F∨b∈(memK a1g a1).own) [progL Tryz.prog encRes a0 a0v a0F,memK a1g a1,cellC b1 a0v.cells 41] w0 w2:=hP.new n3
 refine kX 52 (.agg (capC a2).toArray) r rfl rfl fun b5 w6 n7 r=>?_;have hP:Post (fun b=>b∈a0F∨b∈(memK a1g a1).own) [progL Tryz.prog encRes a0 a0v a0F,memK a1g a1,cellC b1 a0v.cells 41,cellC b5 ((capC a2)).toArray 52] w0 w6:=hP.new n7
 refine seq_new (.cells ((resC (⟨0,0⟩:Res))).toArray 36 (0,0)) r (fun R=>y_alloc tz36) rfl fun fr b9 w10 n11 r=>?_;have hP:Post (fun b=>b∈a0F∨b∈(memK a1g a1).own) [progL Tryz.prog encRes a0 a0v a0F,memK a1g a1,cellC b1 a0v.cells 41,cellC b5 ((capC a2)).toArray 52,cellC b9 ((resC (⟨0,0⟩:Res))).toArray 36] w0 w10:=hP.new n11
 refine kA (I 0) r rfl rfl fun r=>kA (.bool false) r rfl rfl fun r=>wn (wsr (kA (I 0) r rfl rfl fun r=>wn (wp_seq ?_)));refine wp_loopG (X:=Int × Mem × (Nat × T Res)) (G:=Value × List Nat) (x0:=(0,a1,a0)) (fun x γ=>[(0,a0v),(1,(zp a1g.mb)),(2,(.agg (capC a2).toArray)),(3,(I a3)),(4,(zp b1)),(6,(zp b5)),(8,(zp b9)),(9,(I 0)),(10,(.bool false)),(11,(I x.1))]) (fun x γ w=>Post (fun b=>b∈a0F∨b∈(memK a1g a1).own) [progL Tryz.prog encRes x.2.2 γ.1 γ.2,memK a1g x.2.1,cellC b1 γ.1.cells 41,cellC b5 ((capC a2)).toArray 52,cellC b9 ((resC (⟨0,0⟩:Res))).toArray 36] w0 w) (a0v,a0F) r (kO (kO (hs_cons rfl (hs_cons rfl hs_nil)))) hP hD ?_ ?_
 ·
  rintro x13 γ14 fr w16 g y15 RPy15 nxy15 bky15 rty15 r hP hD;have hP:Post (fun b=>b∈a0F∨b∈(memK a1g a1).own) [progL Tryz.prog encRes x13.2.2 γ14.1 γ14.2,memK a1g x13.2.1,cellC b1 γ14.1.cells 41,cellC b5 ((capC a2)).toArray 52,cellC b9 ((resC (⟨0,0⟩:Res))).toArray 36] w0 w16:=hP
  refine wp_seq (wp_seq ?_);refine wp_joinG (N:=39) (Y:=Bool) (G:=Unit) (fun x γ=>[(0,a0v),(1,(zp a1g.mb)),(2,(.agg (capC a2).toArray)),(3,(I a3)),(4,(zp b1)),(6,(zp b5)),(8,(zp b9)),(9,(I 0)),(10,(.bool false)),(11,(I x13.1)),(21,(.bool x))]) (fun x γ w=>Post (fun b=>b∈a0F∨b∈(memK a1g a1).own) [progL Tryz.prog encRes x13.2.2 γ14.1 γ14.2,memK a1g x13.2.1,cellC b1 γ14.1.cells 41,cellC b5 ((capC a2)).toArray 52,cellC b9 ((resC (⟨0,0⟩:Res))).toArray 36] w0 w) hD ?_ ?_
  ·
   rintro y17 RPy17 nxy17 hD;refine wp_region_lit (kM (I x13.1) r rfl rfl fun r=>kM (I a3) r rfl rfl fun r=>kB r rfl rfl rfl rfl rfl fun r=>kM (.bool (decide (x13.1<a3))) r rfl rfl fun r=>?_);refine seq_split (decide (x13.1<a3)) (fun h18=>?_) (fun h18=>?_)
   ·
    have hD:=(cond_t h18).symm.trans hD;refine s1 r h18 (seq_val _ r (fun R=>y_fieldAddr r (b:=b1) (o:=0) (k:=0) rfl fo41_0) rfl fun fr r=>s1 r h18 (kL (.bool x13.2.2.2.isDone) r rfl (hP.cell (i:=2) rfl) to4 (Rep.over_at (hP.progz (i:=0) rfl)) rfl fun r=>s1 r h18 (seq_val (.bool (!x13.2.2.2.isDone)) r (fun R=>y_un r (u:=(.bool x13.2.2.2.isDone)) rfl rfl) rfl fun fr r=>seq_val (.bool (!x13.2.2.2.isDone)) r (fun R=>y_pick r (b:=true) (kb h18) rfl) rfl fun fr r=>wn ?_)));exact nxy17 (!x13.2.2.2.isDone) () _ _ _ hD r (kO (kO (hs_cons rfl (hs_cons rfl (hs_cons rfl hs_nil))))) (hP.pick [0,1,2,3,4] rfl rfl)
   have hD:=(cond_f h18).symm.trans hD;refine s0 r h18 fun fr r=>s0 r h18 fun fr r=>s0 r h18 fun fr r=>seq_val (.bool false) r (fun R=>y_pick r (b:=false) (kb h18) rfl) rfl fun fr r=>wn ?_;exact nxy17 false () _ _ _ hD r (kO (kO (hs_cons rfl (hs_cons rfl (hs_cons rfl hs_nil))))) (hP.pick [0,1,2,3,4] rfl rfl)
  rintro x19 γ20 fr w21 g r hP hD;have hP:Post (fun b=>b∈a0F∨b∈(memK a1g a1).own) [progL Tryz.prog encRes x13.2.2 γ14.1 γ14.2,memK a1g x13.2.1,cellC b1 γ14.1.cells 41,cellC b5 ((capC a2)).toArray 52,cellC b9 ((resC (⟨0,0⟩:Res))).toArray 36] w0 w21:=hP
  refine wp_cond_split (t:=x19) (r.ev rfl) (fun h22=>?_) (fun h22=>?_)
  ·
   have hD:=(cond_t h22).symm.trans hD;refine wp_skip (wp_block (wsr (seq_val γ14.1 r (fun R=>y_loadp r (hP.progz (i:=0) rfl).shape rfl (hP.cell (i:=2) rfl) ta41) rfl fun fr r=>kM (zp a1g.mb) r rfl rfl fun r=>kG (capC a2) 2 r rfl (hP.cell (i:=3) rfl) ta52 rfl rfl fun r=>?_)));obtain ⟨x23,hx23,hD⟩:=bindD_elim hD
   have hsh:=(hP.progz (i:=0) rfl).shape.cells.1;refine kC r (cl_prog_Prog_Res_Step w21 x13.2.2 x13.2.1 a2 (hP.sep.pk [0,1] rfl rfl) hx23) rfl cl19 rfl ?_;rintro _ w24 ⟨v25,F26,rfl,hq,hsame⟩;refine ⟨_,rfl,fun fr r=>?_⟩
   have hP:Post (fun b=>b∈a0F∨b∈(memK a1g a1).own) [progL Tryz.prog encRes x23.1 v25 F26,memK a1g x23.2.2,cellC b1 γ14.1.cells 41,cellC b5 ((capC a2)).toArray 52,cellC b9 ((resC (⟨0,0⟩:Res))).toArray 36] w0 w24:=(Post.frame (A:=[cellC b1 γ14.1.cells 41,cellC b5 ((capC a2)).toArray 52,cellC b9 ((resC (⟨0,0⟩:Res))).toArray 36]) (B:=[progL Tryz.prog encRes x13.2.2 γ14.1 γ14.2,memK a1g x13.2.1,]) (hP.pick [2,3,4,0,1] rfl rfl) hq (fun b hb=>hb.elim (fun h=>⟨_,List.mem_cons_self ..,h⟩) fun h=>⟨_,List.mem_cons_of_mem _ (List.mem_singleton.2 rfl),h⟩)).pick [4,3,0,1,2] rfl rfl
   refine kM (.tuple #[v25,(.bool x23.2.1)]) r rfl rfl fun r=>seq_val v25 r (fun R=>y_extract r (vs:=#[v25,(.bool x23.2.1)]) rfl rfl) rfl fun fr r=>seq_val (.bool x23.2.1) r (fun R=>y_extract r (vs:=#[v25,(.bool x23.2.1)]) rfl rfl) rfl fun fr r=>?_;refine seq_new (.cells (kq encRes) 41 (0,0)) r (fun R=>y_alloc tz41) rfl fun fr b28 w29 n30 r=>?_
   have hP:Post (fun b=>b∈a0F∨b∈(memK a1g a1).own) [progL Tryz.prog encRes x23.1 v25 F26,memK a1g x23.2.2,cellC b1 γ14.1.cells 41,cellC b5 ((capC a2)).toArray 52,cellC b9 ((resC (⟨0,0⟩:Res))).toArray 36,cellC b28 (kq encRes) 41] w0 w29:=hP.new n30
   refine kP r (hP.progz (i:=0) rfl).shape rfl rfl (hP.cell (i:=5) rfl) ts41 rfl rfl fun w32 u33 r=>?_;have hP:Post (fun b=>b∈a0F∨b∈(memK a1g a1).own) [progL Tryz.prog encRes x23.1 v25 F26,memK a1g x23.2.2,cellC b1 γ14.1.cells 41,cellC b5 ((capC a2)).toArray 52,cellC b9 ((resC (⟨0,0⟩:Res))).toArray 36,cellC b28 v25.cells 41] w0 w32:=hP.upd (i:=5) rfl u33
   refine kA (.bool x23.2.1) r rfl rfl fun r=>wn (wp_seq (wsr (kM (.bool x23.2.1) r rfl rfl fun r=>seq_val (.bool (!x23.2.1)) r (fun R=>y_un r (u:=(.bool x23.2.1)) rfl rfl) rfl fun fr r=>wn ?_)));refine wp_cond_split (t:=(!x23.2.1)) (r.ev rfl) (fun h34=>?_) (fun h34=>?_)
   ·
    have hD:=(cond_t h34).symm.trans hD;refine wp_exit ?_;obtain ⟨e1,e2⟩:=hsame (by simpa using h34)
    rw [e1,e2] at hP
    exact bky15 (x13.1,x23.2.2,x13.2.2) (γ14.1,F26) _ _ _ hD r (kO (kO (hs_cons rfl (hs_cons rfl hs_nil)))) (hP.pick [0,1,2,3,4] rfl rfl)
   have hD:=(cond_f h34).symm.trans hD;refine wp_skip (wsr (seq_val v25 r (fun R=>y_loadp r (hP.progz (i:=0) rfl).shape rfl (hP.cell (i:=5) rfl) ta41) rfl fun fr r=>?_));refine kP r (hP.progz (i:=0) rfl).shape rfl rfl (hP.cell (i:=2) rfl) ts41 (by have h:=hsh; simpa using h) rfl fun w35 u36 r=>?_
   have hP:Post (fun b=>b∈a0F∨b∈(memK a1g a1).own) [progL Tryz.prog encRes x23.1 v25 F26,memK a1g x23.2.2,cellC b1 v25.cells 41,cellC b5 ((capC a2)).toArray 52,cellC b9 ((resC (⟨0,0⟩:Res))).toArray 36,cellC b28 v25.cells 41] w0 w35:=hP.upd (i:=2) rfl u36
   refine wn ?_;refine wp_region_lit (kM (I x13.1) r rfl rfl fun r=>kB r rfl rfl rfl rfl rfl fun r=>kA (I (W (x13.1+1))) r rfl rfl fun r=>wn ?_);exact nxy15 ((W (x13.1+1)),x23.2.2,x23.1) (v25,F26) _ _ _ hD r (kO (kO (hs_cons rfl (hs_cons rfl hs_nil)))) (hP.pick [0,1,2,3,4] rfl rfl)
  have hD:=(cond_f h22).symm.trans hD;refine wp_exit ?_;exact bky15 (x13.1,x13.2.1,x13.2.2) (γ14.1,γ14.2) _ _ _ hD r (kO (kO (hs_cons rfl (hs_cons rfl hs_nil)))) (hP.pick [0,1,2,3,4] rfl rfl)
 rintro x37 γ38 fr w39 g r hP hD;have hP:Post (fun b=>b∈a0F∨b∈(memK a1g a1).own) [progL Tryz.prog encRes x37.2.2 γ38.1 γ38.2,memK a1g x37.2.1,cellC b1 γ38.1.cells 41,cellC b5 ((capC a2)).toArray 52,cellC b9 ((resC (⟨0,0⟩:Res))).toArray 36] w0 w39:=hP
 refine wp_seq ?_;refine wp_freeE [b9] [.val (.pointer (some ⟨b1,1,none⟩)),.val (.agg (resC (T.res (⟨0,0⟩:Res) x37.2.2.2)).toArray),.val (I x37.1),.val (zp b1),.val (.bool x37.2.2.2.isDone),.eff (EffP w39.heap.size (cellC b9 ((resC (T.res (⟨0,0⟩:Res) x37.2.2.2))).toArray 36) (fun _:Unit=>undef) (fun _:Unit=>[])) (EffP.st _ _ _ _),.val (I x37.1),.val (.bool x37.2.2.2.isDone)] mixed r (fun b hb=>hP.sep.lt (i:=4) rfl (.inl hb)) (by kernel_rfl) ?_ ?_
 ·
  refine eachE_early r rfl (by kernel_rfl) (fun fr1 g w' hb' hd r'=>?_) ?_
  · exact y_fieldAddr r' (b:=b1) (o:=0) (k:=1) rfl fo41_1 bz
  refine eachE_early r rfl (by kernel_rfl) (fun fr1 g w' hb' hd r'=>?_) ?_
  · exact y_load_agg r' (cs:=(resC (T.res (⟨0,0⟩:Res) x37.2.2.2))) (n:=2) (hd 0 rfl).1 ((hP.below (dr hb')).cell (i:=2) rfl) ta36 (Rep.res_at (d:=(⟨0,0⟩:Res)) rfl ((hP.below (dr hb')).progz (i:=0) rfl)) bz
  refine eachE_late r rfl (fun fr1 g w' hk' hd r'=>?_) ?_
  · exact y_move r' (v:=(I x37.1)) rfl bz
  refine eachE_late r rfl (fun fr1 g w' hk' hd r'=>?_) ?_
  · exact y_fieldAddr r' (b:=b1) (o:=0) (k:=0) rfl fo41_0 bz
  refine eachE_late r rfl (fun fr1 g w' hk' hd r'=>?_) ?_
  · exact y_load_one r' (v:=(.bool x37.2.2.2.isDone)) (hd 3 rfl).1 (hP.cellK (j:=4) rfl (drK hk') (i:=2) rfl rfl) to4 (Rep.over_at (RepL.zero (show RepL _ _ _ _ _ _ _ from hP.okK (j:=4) rfl (drK hk') (i:=0) rfl rfl))) bz
  refine eachE_early r rfl (by kernel_rfl) (fun fr1 g w' hb' hd r'=>?_) ?_
  · exact y_store r' (o:=0) (v:=(.agg (resC (T.res (⟨0,0⟩:Res) x37.2.2.2)).toArray)) rfl (hd 1 rfl).1 ((hP.below (dr hb')).cell (i:=4) rfl) ts36 (Nat.le_of_ble_eq_true rfl) rfl rfl (fun w2 u2=>⟨u2.kept,(),rfl,u2.at_,(fun b hb=>hP.sep.lt (i:=4) rfl hb),fresh_nil⟩)
  refine eachE_late r rfl (fun fr1 g w' hk' hd r'=>?_) ?_
  · exact y_assign r' (v:=(I x37.1)) (hd 2 rfl).1 bz
  refine eachE_late r rfl (fun fr1 g w' hk' hd r'=>?_) ?_
  · exact y_assign r' (v:=(.bool x37.2.2.2.isDone)) (hd 4 rfl).1 bz
  exact eachF_nil
 intro fr gg w40 hb hΦ hap r;obtain ⟨⟨⟩,g5,hcE,_,hs5⟩:=(hΦ 5 rfl).1;have r:=r.congr (sc ((hΦ 7 rfl).1) (sc ((hΦ 6 rfl).1) (sc ((hΦ 4 rfl).1) (sc ((hΦ 3 rfl).1) (sc ((hΦ 2 rfl).1) (sc ((hΦ 1 rfl).1) (sc ((hΦ 0 rfl).1) rfl)))))));have hP:Post (fun b=>b∈a0F∨b∈(memK a1g a1).own) [progL Tryz.prog encRes x37.2.2 γ38.1 γ38.2,memK a1g x37.2.1,cellC b1 γ38.1.cells 41,cellC b5 ((capC a2)).toArray 52,cellC b9 ((resC (T.res (⟨0,0⟩:Res) x37.2.2.2))).toArray 36] w0 w40:=hP.effL (i:=4) (l:=[]) rfl hb hcE rfl rfl trivial
 refine wp_ret ?_;have hv:((T.res (⟨0,0⟩:Res) x37.2.2.2),x37.1,x37.2.2.2.isDone,x37.2.1)=res:=Option.some.inj hD
 try dsimp only [Exit.then,Exit.inBlock]
 refine ret_cell_tmp2 (fn:=Tryz.f29) r rfl rfl (v':=(I x37.1)) (v2:=(.bool x37.2.2.2.isDone)) rfl rfl (hP.cell (i:=4) rfl) (k:=2) rfl ta36 ?_;subst hv;exact ⟨rfl,(hP.pick [1] rfl rfl).done (rest_cons rfl rest_nil)⟩
theorem cl14:callable Tryz.prog 14:=by kernel_rfl
theorem ts23:sized Tryz.prog 23 6:=by kernel_rfl
theorem tz23:zeroOf Tryz.prog 23=some (.agg (planC (⟨0,0,0,0,0,0⟩:Plan)).toArray):=by kernel_rfl
inductive FP where
  | val (c:Value)
  | put (k:Nat) (c:Array Value) (T:TypeId)
def FP.v:FP→Value
  | .val c=>c
  | .put _ _ _=>undef
def FP.slot:FP→Option Nat
  | .put k _ _=>some k
  | .val _=>none
def FP.mk (bs:List Nat) (w' w'':World):FP→Prop
  | .val _=>Below w'.heap.size w' w''
  | .put k c T=>∃ b,bs[k]?=some b∧Upd w' w'' b (.cells c T (0,0))
def fct:List FP→Nat→FP
  | [],_=>.val undef
  | f::_,0=>f
  | _::l,n+1=>fct l n
section
variable {P : Program} {Q : Exit → Act → World → Prop} {L : List Oper} {a : Act} {w : World} {fl : List FP} {bs : List Nat}
structure PInv (L:List Oper) (fl:List FP) (bs:List Nat) (a:Act) (w0:World) (listed:Array Bool) (g:Nat→Value) (a':Act) (w':World):Prop where
  act:a'=puts L g 0 a
  closed:∀ i o,L[i]?=some o→listed.getD i false=true→∀ e,e∈o.after→Region.binds .any e=true→listed.getD e.on false=true
  os:w'.os=w0.os
  tape:w'.tape=w0.tape
  output:w'.output=w0.output
  size:w0.heap.size≤w'.heap.size
  old:∀ b,b<w0.heap.size→b ∉ bs→w'.heap[b]?=w0.heap[b]?
  vals:∀ i,i<L.length→listed.getD i false=true→g i=(fct fl i).v
  un:∀ k b,bs[k]?=some b→(∀ i,i<L.length→listed.getD i false=true→(fct fl i).slot≠some k)→w'.heap[b]?=w0.heap[b]?
  done:∀ i k c T b,i<L.length→listed.getD i false=true→fct fl i=.put k c T→bs[k]?=some b→w'.heap[b]?=some (.cells c T (0,0))
variable {N : Nat} {s : SL}
end
/-! ### Chunks -/
section
variable {L : List Ck} {d : Ck} {w w' w0 : World} {i i1 i2 b1 b2 : Nat} {a1 a2 c1 c2 : Array Value} {T1 T2 S1 S2 : TypeId} {Z : Nat → Prop}
end
theorem cl29:callable Tryz.prog 29:=by kernel_rfl
theorem cl42:callable Tryz.prog 42:=by kernel_rfl
theorem fo36_0:fieldOff Tryz.prog 36 0 0:=by kernel_rfl
theorem is82:isSlice Tryz.prog 82:=by kernel_rfl
theorem rt82:rowTy Tryz.prog 82 104 2:=by kernel_rfl
def D.list_Entries (fu:Nat) (a0:Plan) (a1:Mem) (a2:Int) (a3:Int):Option (List Entry):=((D.mem_Memory_Peek fu a1 a2 a3).bind (fun (x5:Int)=>(loopThen (fun (x8:List Entry × Int × Int)=>(Option.bind (bif (decide (x8.2.2<a0.nodes)) then (some (decide ((D.list_node x8.2.1)≥0))) else (some false)) (fun (x15:Bool)=>(bif x15 then ((D.mem_Memory_Peek fu a1 a2 (D.plan_Plan_Field a0 (D.list_node x8.2.1) 2)).bind (fun (x21:Int)=>(Option.bind (bif ((bits_and .u64 x21 1)==0) then ((D.mem_Memory_Peek fu a1 a2 (D.plan_Plan_Field a0 (D.list_node x8.2.1) 0)).bind (fun (x25:Int)=>((D.mem_Memory_Peek fu a1 a2 (D.plan_Plan_Field a0 (D.list_node x8.2.1) 1)).bind (fun (x26:Int)=>((appD x8.1 ([(⟨x25,x26⟩:Entry)])).bind (fun (x30:List Entry)=>(some x30))))))) else (some x8.1)) (fun (x34:List Entry)=>(some (Lp.next (x34,x21,(IntKind.i64.wrap (x8.2.2+1))))))))) else (some (Lp.brk (x8.1,x8.2.1,x8.2.2))))))) fu ([],x5,0) (fun (x37:List Entry × Int × Int)=>(some x37.1)))))
theorem c_list_Entries {fu:Nat} (w0:World) (a0:Plan) {a1g:MG} (a1:Mem) (a1h:MemAt a1g a1 w0) (a2:Int) (a3:Int) {res:List Entry} (hD:D.list_Entries fu a0 a1 a2 a3=some res) :
    Calls Tryz.prog 42 #[.agg (planC a0).toArray,zp a1g.mb,.int .i64 a2,.int .i64 a3] w0 (fun e w'=>∃ (v0:Value),e=.returned v0∧Done No No [rowK 104 2 entryC v0 res] w0 w'):=by
 refine enter Tryz.func42 rfl 56 rfl rfl fun fr r=>?_;have hP:Post No [] w0 w0:=Post.nil w0
 have hP:Post No [memR a1g a1] w0 w0:=hP.addRo norw_nil a1h rfl a1h.lt;unfold D.list_Entries at hD
 refine wsr ?_;refine kX 23 (.agg (planC a0).toArray) r rfl rfl fun b1 w2 n3 r=>?_;have hP:Post No [memR a1g a1,cellC b1 ((planC a0)).toArray 23] w0 w2:=hP.new n3
 refine kA kS r rfl rfl fun r=>wn (wsr (kA kS r rfl rfl fun r=>wn (wsr (kM (zp a1g.mb) r rfl rfl fun r=>kM (I a2) r rfl rfl fun r=>kM (I a3) r rfl rfl fun r=>?_))));obtain ⟨x5,hx5,hD⟩:=bindD_elim hD
 refine kE r (c_mem_Memory_Peek w2 a1 (hP.memr (i:=0) rfl) a2 a3 hx5) rfl cl21 rfl fun w6 hb r=>?_;have hP:=hP.below hb
 refine kA (U x5) r rfl rfl fun r=>wn (wp_seq (wsr (kA (I 0) r rfl rfl fun r=>wn ?_)));have hP:Post No [memR a1g a1,cellC b1 ((planC a0)).toArray 23,rowK 104 2 entryC kS ([])] w0 w6:=hP.nilRow 104 2 entryC
 refine wp_loopG (X:=List Entry × Int × Int) (G:=Value) (x0:=([],x5,0)) (fun x γ=>[(0,(.agg (planC a0).toArray)),(1,(zp a1g.mb)),(2,(I a2)),(3,(I a3)),(4,(zp b1)),(8,kS),(9,γ),(10,(U x.2.1)),(11,(I x.2.2))]) (fun x γ w=>Post No [memR a1g a1,cellC b1 ((planC a0)).toArray 23,rowK 104 2 entryC γ x.1] w0 w) kS r (kO (kO (hs_cons rfl hs_nil))) hP hD ?_ ?_
 ·
  rintro x8 γ9 fr w11 g y10 RPy10 nxy10 bky10 rty10 r hP hD;have hP:Post No [memR a1g a1,cellC b1 ((planC a0)).toArray 23,rowK 104 2 entryC γ9 x8.1] w0 w11:=hP;refine wp_seq (wp_seq ?_);refine wp_joinG (N:=56) (Y:=Bool) (G:=Unit) (fun x γ=>[(0,(.agg (planC a0).toArray)),(1,(zp a1g.mb)),(2,(I a2)),(3,(I a3)),(4,(zp b1)),(8,kS),(9,γ9),(10,(U x8.2.1)),(11,(I x8.2.2)),(25,(.bool x))]) (fun x γ w=>Post No [memR a1g a1,cellC b1 ((planC a0)).toArray 23,rowK 104 2 entryC γ9 x8.1] w0 w) hD ?_ ?_
  ·
   rintro y12 RPy12 nxy12 hD;refine wp_region_lit (kM (I x8.2.2) r rfl rfl fun r=>kF 0 r rfl fo23_0 rfl fun r=>kL (I a0.nodes) r rfl (hP.cell (i:=1) rfl) to3 rfl rfl fun r=>kB r rfl rfl rfl rfl rfl fun r=>kM (.bool (decide (x8.2.2<a0.nodes))) r rfl rfl fun r=>?_);refine seq_split (decide (x8.2.2<a0.nodes)) (fun h13=>?_) (fun h13=>?_)
   ·
    have hD:=(cond_t h13).symm.trans hD;refine s1 r h13 (kM (U x8.2.1) r rfl rfl fun r=>s1 r h13 ?_);refine kE r (cl_list_node w11 x8.2.1) rfl cl88 rfl fun w14 hb r=>?_
    have hP:=hP.below hb;refine s1 r h13 (kB r rfl rfl rfl rfl rfl fun r=>seq_val (.bool (decide ((D.list_node x8.2.1)≥0))) r (fun R=>y_pick r (b:=true) (kb h13) rfl) rfl fun fr r=>wn ?_);exact nxy12 (decide ((D.list_node x8.2.1)≥0)) () _ _ _ hD r (kO (kO (hs_cons rfl (hs_cons rfl hs_nil)))) (hP.pick [0,1,2] rfl rfl)
   have hD:=(cond_f h13).symm.trans hD;refine s0 r h13 fun fr r=>s0 r h13 fun fr r=>s0 r h13 fun fr r=>seq_val (.bool false) r (fun R=>y_pick r (b:=false) (kb h13) rfl) rfl fun fr r=>wn ?_;exact nxy12 false () _ _ _ hD r (kO (kO (hs_cons rfl (hs_cons rfl hs_nil)))) (hP.pick [0,1,2] rfl rfl)
  rintro x15 γ16 fr w17 g r hP hD;have hP:Post No [memR a1g a1,cellC b1 ((planC a0)).toArray 23,rowK 104 2 entryC γ9 x8.1] w0 w17:=hP;refine wp_cond_split (t:=x15) (r.ev rfl) (fun h18=>?_) (fun h18=>?_)
  ·
   have hD:=(cond_t h18).symm.trans hD;refine wp_skip (wp_seq (wp_block (wsr (kM (U x8.2.1) r rfl rfl fun r=>?_))));refine kE r (cl_list_node w17 x8.2.1) rfl cl88 rfl fun w19 hb r=>?_
   have hP:=hP.below hb;refine kA (I (D.list_node x8.2.1)) r rfl rfl fun r=>wn (wsr (kM (zp a1g.mb) r rfl rfl fun r=>kM (I a2) r rfl rfl fun r=>kG (planC a0) 6 r rfl (hP.cell (i:=1) rfl) ta23 rfl rfl fun r=>kM (I (D.list_node x8.2.1)) r rfl rfl fun r=>?_));refine kE r (c_plan_Plan_Field w19 a0 (D.list_node x8.2.1) 2) rfl cl89 rfl fun w20 hb r=>?_
   have hP:=hP.below hb;obtain ⟨x21,hx21,hD⟩:=bindD_elim hD;refine kE r (c_mem_Memory_Peek w20 a1 (hP.memr (i:=0) rfl) a2 (D.plan_Plan_Field a0 (D.list_node x8.2.1) 2) hx21) rfl cl21 rfl fun w22 hb r=>?_;have hP:=hP.below hb
   refine kA (U x21) r rfl rfl fun r=>wn (wsr (kM (U x21) r rfl rfl fun r=>kB r rfl rfl rfl rfl rfl fun r=>kB r rfl rfl rfl rfl rfl fun r=>wn ?_));refine wp_joinG (N:=56) (Y:=List Entry) (G:=Value) (fun x γ=>[(0,(.agg (planC a0).toArray)),(1,(zp a1g.mb)),(2,(I a2)),(3,(I a3)),(4,(zp b1)),(8,kS),(10,(U x21)),(11,(I x8.2.2)),(25,(.bool x15)),(12,(I (D.list_node x8.2.1))),(38,(.bool ((bits_and .u64 x21 1)==0))),(9,γ)]) (fun x γ w=>Post No [memR a1g a1,cellC b1 ((planC a0)).toArray 23,rowK 104 2 entryC γ x] w0 w) hD ?_ ?_
   ·
    rintro y23 RPy23 nxy23 hD;refine wp_cond_split (t:=((bits_and .u64 x21 1)==0)) (r.ev rfl) (fun h24=>?_) (fun h24=>?_)
    ·
     have hD:=(cond_t h24).symm.trans hD;obtain ⟨x25,hx25,hD⟩:=bindD_elim hD;obtain ⟨x26,hx26,hD⟩:=bindD_elim hD;refine wp_freeS 15 [.val γ9,.val (zp a1g.mb),.val (I a2),.val (.agg (planC a0).toArray),.val (I (D.list_node x8.2.1)),.val (I (D.plan_Plan_Field a0 (D.list_node x8.2.1) 0)),.val (U x25),.val (zp a1g.mb),.val (I a2),.val (.agg (planC a0).toArray),.val (I (D.list_node x8.2.1)),.val (I (D.plan_Plan_Field a0 (D.list_node x8.2.1) 1)),.val (U x26),.val (.agg (entryC (⟨x25,x26⟩:Entry)).toArray),.pred (MkP (fun v:Value=>v) (fun v:Value=>[rowK 104 2 entryC v ([(⟨x25,x26⟩:Entry)])])) (MkP.st _ _)] mixed r (by kernel_rfl) ?_ ?_
     ·
      refine fc r (fun fr1 g w' hb' hd r'=>y_move r' rfl bz) ?_;refine fc r (fun fr1 g w' hb' hd r'=>y_move r' rfl bz) ?_
      refine fc r (fun fr1 g w' hb' hd r'=>y_move r' rfl bz) ?_;refine fc r (fun fr1 g w' hb' hd r'=>y_load_agg r' (cs:=(planC a0)) (n:=6) rfl ((hP.below (dr hb')).cell (i:=1) rfl) ta23 rfl bz) ?_
      refine fc r (fun fr1 g w' hb' hd r'=>y_move r' rfl bz) ?_;refine fc r (fun fr1 g w' hb' hd r'=>y_call r' (args:=[(.agg (planC a0).toArray),(I (D.list_node x8.2.1)),(I 0)]) (lc (hd 3 rfl).1 (lc (hd 4 rfl).1 (lc rfl l0))) cl89 ((c_plan_Plan_Field _ a0 (D.list_node x8.2.1) 0).mono (by rintro _ w2 ⟨rfl,hb2⟩; exact ⟨_,rfl,hb2,rfl⟩))) ?_
      refine fc r (fun fr1 g w' hb' hd r'=>y_call r' (args:=[(zp a1g.mb),(I a2),(I (D.plan_Plan_Field a0 (D.list_node x8.2.1) 0))]) (lc (hd 1 rfl).1 (lc (hd 2 rfl).1 (lc (hd 5 rfl).1 l0))) cl21 ((c_mem_Memory_Peek _ a1 ((hP.below (dr hb')).memr (i:=0) rfl) a2 (D.plan_Plan_Field a0 (D.list_node x8.2.1) 0) hx25).mono (by rintro _ w2 ⟨rfl,hb2⟩; exact ⟨_,rfl,hb2,rfl⟩))) ?_;refine fc r (fun fr1 g w' hb' hd r'=>y_move r' rfl bz) ?_
      refine fc r (fun fr1 g w' hb' hd r'=>y_move r' rfl bz) ?_;refine fc r (fun fr1 g w' hb' hd r'=>y_load_agg r' (cs:=(planC a0)) (n:=6) rfl ((hP.below (dr hb')).cell (i:=1) rfl) ta23 rfl bz) ?_
      refine fc r (fun fr1 g w' hb' hd r'=>y_move r' rfl bz) ?_;refine fc r (fun fr1 g w' hb' hd r'=>y_call r' (args:=[(.agg (planC a0).toArray),(I (D.list_node x8.2.1)),(I 1)]) (lc (hd 9 rfl).1 (lc (hd 10 rfl).1 (lc rfl l0))) cl89 ((c_plan_Plan_Field _ a0 (D.list_node x8.2.1) 1).mono (by rintro _ w2 ⟨rfl,hb2⟩; exact ⟨_,rfl,hb2,rfl⟩))) ?_
      refine fc r (fun fr1 g w' hb' hd r'=>y_call r' (args:=[(zp a1g.mb),(I a2),(I (D.plan_Plan_Field a0 (D.list_node x8.2.1) 1))]) (lc (hd 7 rfl).1 (lc (hd 8 rfl).1 (lc (hd 11 rfl).1 l0))) cl21 ((c_mem_Memory_Peek _ a1 ((hP.below (dr hb')).memr (i:=0) rfl) a2 (D.plan_Plan_Field a0 (D.list_node x8.2.1) 1) hx26).mono (by rintro _ w2 ⟨rfl,hb2⟩; exact ⟨_,rfl,hb2,rfl⟩))) ?_;refine fc r (fun fr1 g w' hb' hd r'=>y_build r' (v:=(.agg (entryC (⟨x25,x26⟩:Entry)).toArray)) (bs2 (congrArg (fun z=>(0,z)) (hd 6 rfl).1) (congrArg (fun z=>(1,z)) (hd 12 rfl).1) (by kernel_rfl)) bz) ?_
      refine fc r (fun fr1 g w' hb' hd r'=>y_bslice r' (c:=(([(⟨x25,x26⟩:Entry)]).flatMap entryC).toArray) (E:=104) (bs1 (congrArg (fun z=>(0,z)) (hd 13 rfl).1) (by kernel_rfl)) (fun b w2 n2=>⟨n2.below,MkP.newRow n2 (fun _=>rfl) rfl⟩)) ?_;exact eachF_nil
     intro fr gg w29 hb hΦ hap r;obtain ⟨v27,g14,hs14⟩:=(hΦ 14 rfl).1;have r:=r.congr (sc g14 (sc ((hΦ 13 rfl).1) (sc ((hΦ 12 rfl).1) (sc ((hΦ 11 rfl).1) (sc ((hΦ 10 rfl).1) (sc ((hΦ 9 rfl).1) (sc ((hΦ 8 rfl).1) (sc ((hΦ 7 rfl).1) (sc ((hΦ 6 rfl).1) (sc ((hΦ 5 rfl).1) (sc ((hΦ 4 rfl).1) (sc ((hΦ 3 rfl).1) (sc ((hΦ 2 rfl).1) (sc ((hΦ 1 rfl).1) (sc ((hΦ 0 rfl).1) rfl)))))))))))))));have hP:Post No [memR a1g a1,cellC b1 ((planC a0)).toArray 23,rowK 104 2 entryC γ9 x8.1,rowK 104 2 entryC v27 ([(⟨x25,x26⟩:Entry)])] w0 w29:=hP.addL (l:=[([rowK 104 2 entryC v27 ([(⟨x25,x26⟩:Entry)])],(gg 14).lo,(gg 14).hi)]) hb ⟨hs14,(hΦ 14 rfl).2.1,disj_nil,trivial⟩;obtain ⟨x30,hx30,hD⟩:=bindD_elim hD;refine seq_app 104 2 entryC γ9 r (fun R=>y_append r rt82 (fun _=>rfl) (fun _=>rfl) (hP.row (i:=2) rfl) (hP.row (i:=3) rfl).ro hx30 rfl rfl) rfl fun fr v31 w32 ha33 r=>?_;have hP:Post No [memR a1g a1,cellC b1 ((planC a0)).toArray 23,rowK 104 2 entryC v31 x30,rowK 104 2 entryC v27 ([(⟨x25,x26⟩:Entry)])] w0 w32:=hP.append (i:=2) rfl ha33
     refine kA v31 r rfl rfl fun r=>wn ?_;exact nxy23 x30 v31 _ _ _ hD r (kO (kO (kO hs_nil))) (hP.pick [0,1,2] rfl rfl)
    have hD:=(cond_f h24).symm.trans hD;refine wp_skip ?_;exact nxy23 x8.1 γ9 _ _ _ hD r (kO (kO (kO hs_nil))) (hP.pick [0,1,2] rfl rfl)
   rintro x34 γ35 fr w36 g r hP hD;have hP:Post No [memR a1g a1,cellC b1 ((planC a0)).toArray 23,rowK 104 2 entryC γ35 x34] w0 w36:=hP;refine wp_region_lit (kM (I x8.2.2) r rfl rfl fun r=>kB r rfl rfl rfl rfl rfl fun r=>kA (I (W (x8.2.2+1))) r rfl rfl fun r=>wn ?_);exact nxy10 (x34,x21,(W (x8.2.2+1))) γ35 _ _ _ hD r (kO (kO (hs_cons rfl hs_nil))) (hP.pick [0,1,2] rfl rfl)
  have hD:=(cond_f h18).symm.trans hD;refine wp_exit ?_;exact bky10 (x8.1,x8.2.1,x8.2.2) γ9 _ _ _ hD r (kO (kO (hs_cons rfl hs_nil))) (hP.pick [0,1,2] rfl rfl)
 rintro x37 γ38 fr w39 g r hP hD;have hP:Post No [memR a1g a1,cellC b1 ((planC a0)).toArray 23,rowK 104 2 entryC γ38 x37.1] w0 w39:=hP;refine wsr (kM γ38 r rfl rfl fun r=>kA γ38 r rfl rfl fun r=>wn (wp_ret ?_));have hv:x37.1=res:=Option.some.inj hD
 try dsimp only [Exit.then,Exit.inBlock]
 refine ret_tmp (fn:=Tryz.f42) r (t:=8) rfl (v:=γ38) rfl ?_;subst hv;exact ⟨γ38,rfl,(hP.pick [2] rfl rfl).done (rest_cons rfl rest_nil)⟩
end Go.Proofs.YtbbipmelhmgmfaaGreat

/- Ours. -/
namespace Go.Proofs.YtbbipmelhmgmfaaGreat
open Go.Shelf
def sortL_ren:Go.Shelf.Ren:=⟨fun | 6=>93 | 15=>168 | 14=>167 | 28=>263 | 29=>264 | 20=>255 | 21=>256 | 22=>257 | 23=>258 | 24=>259 | 25=>260 | 26=>261 | 27=>262 | 46=>323 | 47=>324 | 48=>325 | 49=>326 | 50=>327 | 57=>369 | n=>n,fun | 22=>82 | 24=>104 | 25=>170 | 3=>3 | 39=>217 | 0=>0 | 53=>282 | 55=>34 | 4=>4 | 46=>276 | 45=>275 | 50=>186 | 5=>5 | 9=>9 | 66=>307 | 70=>310 | 76=>327 | 77=>328 | n=>n,fun | n=>n⟩
theorem sortL:Go.Proofs.SlLaysF0.n6 Tryz.prog sortL_ren:={
  mixed:=by kernel_rfl
  f6:=⟨Tryz.f93.name,by decide,Tryz.func93.trans (congrArg some (by kernel_rfl))⟩
  f14:=⟨Tryz.f167.name,by decide,Tryz.func167.trans (congrArg some (by kernel_rfl))⟩
  f15:=Tryz.func168.trans (congrArg some (by kernel_rfl))
  f20:=⟨Tryz.f255.name,by decide,Tryz.func255.trans (congrArg some (by kernel_rfl))⟩
  f21:=⟨Tryz.f256.name,by decide,Tryz.func256.trans (congrArg some (by kernel_rfl))⟩
  f22:=⟨Tryz.f257.name,by decide,Tryz.func257.trans (congrArg some (by kernel_rfl))⟩
  f23:=⟨Tryz.f258.name,by decide,Tryz.func258.trans (congrArg some (by kernel_rfl))⟩
  f24:=⟨Tryz.f259.name,by decide,Tryz.func259.trans (congrArg some (by kernel_rfl))⟩
  f25:=⟨Tryz.f260.name,by decide,Tryz.func260.trans (congrArg some (by kernel_rfl))⟩
  f26:=⟨Tryz.f261.name,by decide,Tryz.func261.trans (congrArg some (by kernel_rfl))⟩
  f27:=⟨Tryz.f262.name,by decide,Tryz.func262.trans (congrArg some (by kernel_rfl))⟩
  f28:=Tryz.func263.trans (congrArg some (by kernel_rfl))
  f29:=Tryz.func264.trans (congrArg some (by kernel_rfl))
  f46:=⟨Tryz.f323.name,by decide,Tryz.func323.trans (congrArg some (by kernel_rfl))⟩
  f47:=Tryz.func324.trans (congrArg some (by kernel_rfl))
  f48:=Tryz.func325.trans (congrArg some (by kernel_rfl))
  f49:=⟨Tryz.f326.name,by decide,Tryz.func326.trans (congrArg some (by kernel_rfl))⟩
  f50:=⟨Tryz.f327.name,by decide,Tryz.func327.trans (congrArg some (by kernel_rfl))⟩
  f57:=⟨Tryz.f369.name,by decide,Tryz.func369.trans (congrArg some (by kernel_rfl))⟩
  t0:=Tryz.underlying0
  a0:=Tryz.isAgg0
  z0:=Tryz.sizeOf0
  v0:=Tryz.zeroValue0
  t3:=Tryz.underlying3
  a3:=Tryz.isAgg3
  z3:=Tryz.sizeOf3
  v3:=Tryz.zeroValue3
  t4:=Tryz.underlying4
  a4:=Tryz.isAgg4
  z4:=Tryz.sizeOf4
  v4:=Tryz.zeroValue4
  t5:=Tryz.underlying5
  a5:=Tryz.isAgg5
  z5:=Tryz.sizeOf5
  v5:=Tryz.zeroValue5
  t9:=Tryz.underlying9
  a9:=Tryz.isAgg9
  z9:=Tryz.sizeOf9
  v9:=Tryz.zeroValue9
  t22:=Tryz.underlying82
  a22:=Tryz.isAgg82
  z22:=Tryz.sizeOf82
  v22:=Tryz.zeroValue82
  t25:=Tryz.underlying170
  a25:=Tryz.isAgg170
  z25:=Tryz.sizeOf170
  v25:=Tryz.zeroValue170
  t39:=Tryz.underlying217
  a39:=Tryz.isAgg217
  z39:=Tryz.sizeOf217
  v39:=Tryz.zeroValue217
  t45:=Tryz.underlying275
  a45:=Tryz.isAgg275
  z45:=Tryz.sizeOf275
  v45:=Tryz.zeroValue275
  t46:=Tryz.underlying276
  a46:=Tryz.isAgg276
  z46:=Tryz.sizeOf276
  v46:=Tryz.zeroValue276
  t50:=Tryz.underlying186
  a50:=Tryz.isAgg186
  z50:=Tryz.sizeOf186
  v50:=Tryz.zeroValue186
  t53:=Tryz.underlying282
  a53:=Tryz.isAgg282
  z53:=Tryz.sizeOf282
  v53:=Tryz.zeroValue282
  t55:=Tryz.underlying34
  a55:=Tryz.isAgg34
  z55:=Tryz.sizeOf34
  v55:=Tryz.zeroValue34
  t66:=Tryz.underlying307
  a66:=Tryz.isAgg307
  z66:=Tryz.sizeOf307
  v66:=Tryz.zeroValue307
  t70:=Tryz.underlying310
  a70:=Tryz.isAgg310
  z70:=Tryz.sizeOf310
  v70:=Tryz.zeroValue310
  t76:=Tryz.underlying327
  a76:=Tryz.isAgg327
  z76:=Tryz.sizeOf327
  v76:=Tryz.zeroValue327
  t77:=Tryz.underlying328
  a77:=Tryz.isAgg328
  z77:=Tryz.sizeOf328
  v77:=Tryz.zeroValue328 }
end Go.Proofs.YtbbipmelhmgmfaaGreat

/- Ours. -/
namespace Go.Proofs.YtbbipmelhmgmfaaGreat
open Go.RowKit Go.Shelf Go.Lib
open Go.Sort (flatK get_flatK size_flatK HoldsK)
instance:Inhabited Entry:=⟨⟨0,0⟩⟩
def cfE (x y:Entry):Int:=if x.key<y.key then -1 else if x.key > y.key then 1 else 0
theorem nanE (x:Int) (w:World):Calls Tryz.prog 169 #[.int .u64 x] w fun e w'=>e=.returned (.bool false)∧w'=w:=by
  go_enter Tryz.func169,Tryz.ntmps169
  go_wp2
  go_ret
  exact ⟨by simp,rfl⟩
theorem cmpE (x y:Int) (w:World):Calls Tryz.prog 95 #[.int .u64 x,.int .u64 y] w fun e w'=>e=.returned (.int .i64 (if x<y then -1 else if x > y then 1 else 0))∧w'=w:=by
  go_enter Tryz.func95,Tryz.ntmps95
  go_wp2_with (go_at_call 169; refine (nanE _ _).mono ?_; rintro e w' ⟨rfl,hw⟩; rw [hw])
  all_goals (go_ret; refine ⟨?_,rfl⟩; (repeat' split) <;> first | rfl | (exfalso; omega))
theorem closeE (x y:Entry) (W:World):Calls Tryz.prog 94 #[.agg #[.int .u64 x.key,.int .u64 x.value],.agg #[.int .u64 y.key,.int .u64 y.value]] W fun e w'=>e=.returned (.int .i64 (cfE x y))∧∃ q os',w'=Go.Sort.grow (W.drewN q) os':=by
  have hcon:=fun W'=>cmpE x.key y.key W'
  change ∀ W',Calls Tryz.prog 95 _ _ (fun e w'=>e=.returned (.int .i64 (cfE x y))∧w'=W') at hcon
  generalize cfE x y=r at hcon ⊢
  go_enter Tryz.func94,Tryz.ntmps94
  go_wp2_with (go_at_call 95; refine (hcon _).mono ?_; rintro e w' ⟨rfl,rfl⟩)
  go_ret
  exact ⟨rfl,0,_,by rw [Go.Sort.alloc_eq_grow,Go.Sort.alloc_eq_grow,Go.Sort.grow_grow]; rfl⟩
/-! ### What the row holds: sorted, where no two keys are one -/
def insK (e:Entry):List Entry→List Entry
  | []=>[e]
  | x::l=>if e.key<x.key then e::x::l else x::insK e l
def sortK:List Entry→List Entry
  | []=>[]
  | x::l=>insK x (sortK l)
def sortD (l:List Entry):Option (List Entry):=if l.length≤2147483648∧(l.map Entry.key).Nodup then some (sortK l) else none
theorem insK_perm (e:Entry):∀ l,(insK e l).Perm (e::l)
  | []=>.refl _
  | x::l=>by
    unfold insK
    split
    · exact .refl _
    · exact (List.Perm.cons x (insK_perm e l)).trans (List.Perm.swap _ _ _)
theorem sortK_perm:∀ l,(sortK l).Perm l
  | []=>.refl _
  | x::l=>(insK_perm x _).trans (.cons x (sortK_perm l))
theorem insK_sorted (e:Entry):∀ l,l.Pairwise (fun a b=>a.key≤b.key)→(insK e l).Pairwise fun a b=>a.key≤b.key
  | [],_=>List.pairwise_singleton _ _
  | x::l,h=>by
    obtain ⟨h1,h2⟩:=List.pairwise_cons.1 h;unfold insK
    split
    · rename_i hlt
      refine List.pairwise_cons.2 ⟨fun y hy=>?_,h⟩
      rcases List.mem_cons.1 hy with rfl | hy
      · omega
      · have:=h1 y hy; omega
    · rename_i hlt
      refine List.pairwise_cons.2 ⟨fun y hy=>?_,insK_sorted e l h2⟩
      rcases List.mem_cons.1 ((insK_perm e l).mem_iff.1 hy) with rfl | hy
      · omega
      · exact h1 y hy
theorem sortK_sorted:∀ l,(sortK l).Pairwise fun a b=>a.key≤b.key
  | []=>.nil
  | x::l=>insK_sorted x _ (sortK_sorted l)
theorem key_one:∀ {l:List Entry},(l.map Entry.key).Nodup→∀ {a b:Entry},a∈l→b∈l→a.key=b.key→a=b
  | x::l,h,a,b,ha,hb,e=>by
    rw [List.map_cons,List.nodup_cons] at h
    rcases List.mem_cons.1 ha with ha | ha
    · rcases List.mem_cons.1 hb with hb | hb
      · rw [ha,hb]
      · exact absurd (List.mem_map.2 ⟨b,hb,by rw [←e,ha]⟩) h.1
    · rcases List.mem_cons.1 hb with hb | hb
      · exact absurd (List.mem_map.2 ⟨a,ha,by rw [e,hb]⟩) h.1
      · exact key_one h.2 ha hb e
theorem sortD_eq {l zs ys:List Entry} (h:sortD l=some zs) (hp:ys.Perm l) (hs:ys.Pairwise fun a b=>a.key≤b.key):ys=zs∧l.length≤2147483648:=by
  unfold sortD at h
  split at h
  · rename_i h1
    obtain rfl:=Option.some.inj h;refine ⟨List.Perm.eq_of_pairwise (fun a b ha hb h2 h3=>?_) hs (sortK_sorted l) (hp.trans (sortK_perm l).symm),h1.1⟩
    exact key_one h1.2 (hp.mem_iff.1 ha) ((sortK_perm l).mem_iff.1 hb) (by omega)
  · cases h
theorem ltE (x y:Entry):ltOf cfE x y=decide (x.key<y.key):=by
  unfold ltOf cfE
  by_cases h1:x.key<y.key
  · simp [h1]
  · by_cases h2:x.key > y.key <;> simp [h1,h2]
theorem swoE:Go.Sort.SWO (ltOf cfE) where
  irrefl x:=by rw [ltE]; simp
  trans x y z h1 h2:=by rw [ltE] at *; simp at *; omega
  ntrans x y z h1 h2:=by rw [ltE] at *; simp at *; omega
theorem flat_get {l:List Entry} {j:Nat} (hj:j<l.length * 2):(l.flatMap entryC)[j]?=some ((flatK entryC 2 l.toArray)[j]!):=by
  have h1:j / 2<l.length:=by omega
  rw [get_flatK _ _ _ _ (by simpa using hj)]
  have h2:(entryC l[j / 2])[j % 2]?=some (entryC l[j / 2])[j % 2]!:=by
    have h3:j % 2<(entryC l[j / 2]).length:=Nat.mod_lt _ (by omega)
    rw [getElem!_pos (entryC l[j / 2]) (j % 2) h3,List.getElem?_eq_getElem h3]
  have h4:=flatMap_at (f:=entryC) (sz:=2) (fun _=>rfl) l (j / 2) h1 (j % 2) _ h2
  rw [show j / 2 * 2+j % 2=j from by omega] at h4
  rw [h4]
  congr 3
  rw [getElem!_pos _ _ (by simpa using h1)]
  simp
theorem eg94:∀ args w,(callFunc 94 args).run Tryz.prog w=.ok (.enter 94 args) w:=enters_of Tryz.func94 (by kernel_rfl) rfl
theorem c_sort {v:Value} {xs zs:List Entry} {w:World} (hr:RowAt 104 2 entryC v xs w) (hz:sortD xs=some zs) :
    Calls Tryz.prog 93 #[v,.func (.func 94) #[] #[]] w fun e w'=>e=.returned (.tuple #[])∧Appended 104 2 entryC v zs w v w':=by
  rcases hr with ⟨ad,rfl,rfl⟩ | ⟨g,o,cap,cur,rfl,h2,h3,h4,h5,h6⟩
  · obtain ⟨rfl,_⟩:=sortD_eq hz (ys:=[]) (.refl _) .nil
    refine (AnyF.slices_SortFunc_none sortL ad 0 _ w).mono ?_;rintro e w' ⟨rfl,rfl⟩;exact ⟨rfl,.inl ⟨ad,rfl,rfl⟩,Chg.refl _ _,fun b hb=>.inl hb⟩
  · have hlen:xs.length≤2147483648:=(sortD_eq hz (sortK_perm xs) (sortK_sorted xs)).2
    have hcur:∀ j,j<xs.length * 2→cur[o+j]?=(xs.flatMap entryC)[j]?:=fun j hj=>by
      rw [←h5,List.getElem?_take,if_pos hj,List.getElem?_drop,Array.getElem?_toList]
    have hH:HoldsK entryC 2 w g o xs.toArray:=fun j hj=>by
      have hj':j<xs.length * 2:=by rw [size_flatK] at hj; simpa using hj
      refine ⟨?_,?_⟩
      · simp only [World.cell?,h3]
        rw [hcur j hj',flat_get hj']
        rfl
      · simp only [World.frozen?,h3]
        simp
    have hb:g<w.heap.size:=lt_of_block h3;have hc:=AnyQ.slices_SortFunc sortL 2 Tryz.isAgg104 Tryz.sizeOf104 entryC (fun _=>rfl) (fun x v hv=>by simp [entryC] at hv; rcases hv with rfl | rfl <;> rfl) cfE swoE 94 #[] g o cap xs.toArray w eg94 (fun _ _ _ _ x y=>closeE x y _) hH hb (by simp; omega)
    change Calls Tryz.prog 93 _ _ _ at hc
    refine hc.mono ?_;rintro e w' ⟨rfl,d,n,os,hp,hs,rfl⟩;have hds:d.size=xs.length:=by have:=hp.1; simpa using this
    have hperm:d.toList.Perm xs:=by
      have:=hp.2.2;rw [Array.extract_eq_self_of_le (by simp; omega),Array.extract_eq_self_of_le (by simp)] at this
      simpa using this
    have hsort:d.toList.Pairwise fun a b=>a.key≤b.key:=by
      rw [List.pairwise_iff_getElem]
      intro i j hi hj hij;simp only [Array.length_toList] at hi hj
      have:=hs i j (Nat.zero_le _) hij (by simp; omega)
      rw [ltE,getElem!_pos d j hj,getElem!_pos d i hi] at this
      simp only [Array.getElem_toList]
      simpa using this
    obtain ⟨rfl,_⟩:=sortD_eq hz hperm hsort;refine ⟨rfl,?_,?_,fun b hb=>.inl hb⟩
    · refine .inr ⟨g,o,cap,Go.Sort.putCells id o (flatK entryC 2 d) cur,by simp [hds],by rw [Array.length_toList,hds]; exact h2,?_,?_,?_,h6⟩
      · show ((w.heap.modify g _)++os)[g]?=_
        rw [Array.getElem?_append_left (by simpa using hb),Array.getElem?_modify,if_pos rfl,h3]
        rfl
      · simpa [Go.Sort.putCells] using h4
      · have hzl:d.toList.length=xs.length:=by rw [Array.length_toList,hds]
        have hle:xs.length * 2≤cap * 2:=Nat.mul_le_mul_right 2 h2;refine List.ext_getElem? fun j=>?_;rw [List.getElem?_take]
        split
        · rename_i hj
          rw [flat_get hj,List.getElem?_drop,Array.getElem?_toList]
          have hj2:o+j<cur.size:=by omega
          simp only [Go.Sort.putCells,Array.getElem?_mapIdx,Array.getElem?_eq_getElem hj2,Option.map_some,size_flatK]
          rw [if_pos ⟨by omega,by omega⟩,show o+j - o=j from by omega]
          rfl
        · rename_i hj
          symm
          rw [List.getElem?_eq_none_iff,flatMap_len (f:=entryC) (sz:=2) (fun _=>rfl)]
          omega
    · refine ⟨rfl,rfl,rfl,?_,fun b hb hn=>?_⟩
      · show w.heap.size≤((w.heap.modify g _)++os).size
        simp
      · show ((w.heap.modify g _)++os)[b]?=_
        rw [Array.getElem?_append_left (by simpa using hb),Array.getElem?_modify,if_neg (fun e=>hn (by subst e; exact at_rowBs (a:=⟨g,o,none⟩) h6))]
theorem cl93:callable Tryz.prog 93:=by kernel_rfl
def D.dict_Entries (fu:Nat) (a0:Plan) (a1:Mem) (a2:Int) (a3:Int):Option (List Entry):=(loopThen (fun (x6:List Entry × Int)=>(bif (decide (x6.2<a0.buckets)) then ((D.list_Entries fu a0 a1 a2 (D.plan_Plan_Cell a0 a3 x6.2)).bind (fun (x11:List Entry)=>((appD x6.1 x11).bind (fun (x15:List Entry)=>(some (Lp.next (x15,(IntKind.i64.wrap (x6.2+1))))))))) else (some (Lp.brk (x6.1,x6.2))))) fu ([],0) (fun (x19:List Entry × Int)=>((sortD x19.1).bind (fun (x22:List Entry)=>(some x22)))))
theorem c_dict_Entries {fu:Nat} (w0:World) (a0:Plan) {a1g:MG} (a1:Mem) (a1h:MemAt a1g a1 w0) (a2:Int) (a3:Int) {res:List Entry} (hD:D.dict_Entries fu a0 a1 a2 a3=some res) :
    Calls Tryz.prog 47 #[.agg (planC a0).toArray,zp a1g.mb,.int .i64 a2,.int .i64 a3] w0 (fun e w'=>∃ (v0:Value),e=.returned v0∧Done No No [rowK 104 2 entryC v0 res] w0 w'):=by
 refine enter Tryz.func47 rfl 30 rfl rfl fun fr r=>?_;have hP:Post No [] w0 w0:=Post.nil w0
 have hP:Post No [memR a1g a1] w0 w0:=hP.addRo norw_nil a1h rfl a1h.lt;unfold D.dict_Entries at hD
 refine wsr ?_;refine kX 23 (.agg (planC a0).toArray) r rfl rfl fun b1 w2 n3 r=>?_;have hP:Post No [memR a1g a1,cellC b1 ((planC a0)).toArray 23] w0 w2:=hP.new n3
 refine kA kS r rfl rfl fun r=>wn (wsr (kA kS r rfl rfl fun r=>wn (wp_seq (wsr (kF 0 r rfl fo23_4 rfl fun r=>kL (I a0.buckets) r rfl (hP.cell (i:=1) rfl) to3 rfl rfl fun r=>kM (I 0) r rfl rfl fun r=>wn ?_)))));have hP:Post No [memR a1g a1,cellC b1 ((planC a0)).toArray 23,rowK 104 2 entryC kS ([])] w0 w2:=hP.nilRow 104 2 entryC
 refine wp_loopG (X:=List Entry × Int) (G:=Value) (x0:=([],0)) (fun x γ=>[(0,(.agg (planC a0).toArray)),(1,(zp a1g.mb)),(2,(I a2)),(3,(I a3)),(4,(zp b1)),(8,kS),(12,(I a0.buckets)),(9,γ),(13,(I x.2))]) (fun x γ w=>Post No [memR a1g a1,cellC b1 ((planC a0)).toArray 23,rowK 104 2 entryC γ x.1] w0 w) kS r (kO (kO (hs_cons rfl hs_nil))) hP hD ?_ ?_
 ·
  rintro x6 γ7 fr w9 g y8 RPy8 nxy8 bky8 rty8 r hP hD;have hP:Post No [memR a1g a1,cellC b1 ((planC a0)).toArray 23,rowK 104 2 entryC γ7 x6.1] w0 w9:=hP;refine wsr (kB r rfl rfl rfl rfl rfl fun r=>wn (wp_seq ?_));refine wp_cond_split (t:=(decide (x6.2<a0.buckets))) (r.ev rfl) (fun h10=>?_) (fun h10=>?_)
  ·
   have hD:=(cond_t h10).symm.trans hD;refine wp_skip (wp_seq (wp_block (wsr (kM (I x6.2) r rfl rfl fun r=>kA (I x6.2) r rfl rfl fun r=>wn ?_))));obtain ⟨x11,hx11,hD⟩:=bindD_elim hD
   refine wp_freeS 9 [.val γ7,.val (.agg (planC a0).toArray),.val (zp a1g.mb),.val (I a2),.val (.agg (planC a0).toArray),.val (I a3),.val (I x6.2),.val (I (D.plan_Plan_Cell a0 a3 x6.2)),.pred (MkP (fun v12:Value=>v12) (fun v12:Value=>[rowK 104 2 entryC v12 x11])) (MkP.st _ _)] mixed r (by kernel_rfl) ?_ ?_
   ·
    refine fc r (fun fr1 g w' hb' hd r'=>y_move r' rfl bz) ?_;refine fc r (fun fr1 g w' hb' hd r'=>y_load_agg r' (cs:=(planC a0)) (n:=6) rfl ((hP.below (dr hb')).cell (i:=1) rfl) ta23 rfl bz) ?_
    refine fc r (fun fr1 g w' hb' hd r'=>y_move r' rfl bz) ?_;refine fc r (fun fr1 g w' hb' hd r'=>y_move r' rfl bz) ?_
    refine fc r (fun fr1 g w' hb' hd r'=>y_load_agg r' (cs:=(planC a0)) (n:=6) rfl ((hP.below (dr hb')).cell (i:=1) rfl) ta23 rfl bz) ?_;refine fc r (fun fr1 g w' hb' hd r'=>y_move r' rfl bz) ?_
    refine fc r (fun fr1 g w' hb' hd r'=>y_move r' rfl bz) ?_;refine fc r (fun fr1 g w' hb' hd r'=>y_call r' (args:=[(.agg (planC a0).toArray),(I a3),(I x6.2)]) (lc (hd 4 rfl).1 (lc (hd 5 rfl).1 (lc (hd 6 rfl).1 l0))) cl36 ((c_plan_Plan_Cell _ a0 a3 x6.2).mono (by rintro _ w2 ⟨rfl,hb2⟩; exact ⟨_,rfl,hb2,rfl⟩))) ?_
    refine fc r (fun fr1 g w' hb' hd r'=>y_call r' (args:=[(.agg (planC a0).toArray),(zp a1g.mb),(I a2),(I (D.plan_Plan_Cell a0 a3 x6.2))]) (lc (hd 1 rfl).1 (lc (hd 2 rfl).1 (lc (hd 3 rfl).1 (lc (hd 7 rfl).1 l0)))) cl42 ((c_list_Entries _ a0 a1 ((hP.below (dr hb')).memr (i:=0) rfl) a2 (D.plan_Plan_Cell a0 a3 x6.2) hx11).mono (by rintro _ w2 ⟨y,rfl,hq⟩; exact ⟨_,rfl,hq.chg.below,MkP.of y hq⟩))) ?_;exact eachF_nil
   intro fr gg w14 hb hΦ hap r;obtain ⟨v12,g8,hs8⟩:=(hΦ 8 rfl).1;have r:=r.congr (sc g8 (sc ((hΦ 7 rfl).1) (sc ((hΦ 6 rfl).1) (sc ((hΦ 5 rfl).1) (sc ((hΦ 4 rfl).1) (sc ((hΦ 3 rfl).1) (sc ((hΦ 2 rfl).1) (sc ((hΦ 1 rfl).1) (sc ((hΦ 0 rfl).1) rfl)))))))));have hP:Post No [memR a1g a1,cellC b1 ((planC a0)).toArray 23,rowK 104 2 entryC γ7 x6.1,rowK 104 2 entryC v12 x11] w0 w14:=hP.addL (l:=[([rowK 104 2 entryC v12 x11],(gg 8).lo,(gg 8).hi)]) hb ⟨hs8,(hΦ 8 rfl).2.1,disj_nil,trivial⟩;obtain ⟨x15,hx15,hD⟩:=bindD_elim hD;refine seq_app 104 2 entryC γ7 r (fun R=>y_append r rt82 (fun _=>rfl) (fun _=>rfl) (hP.row (i:=2) rfl) (hP.row (i:=3) rfl).ro hx15 rfl rfl) rfl fun fr v16 w17 ha18 r=>?_;have hP:Post No [memR a1g a1,cellC b1 ((planC a0)).toArray 23,rowK 104 2 entryC v16 x15,rowK 104 2 entryC v12 x11] w0 w17:=hP.append (i:=2) rfl ha18
   refine kA v16 r rfl rfl fun r=>wn ?_;refine wp_region_lit (kB r rfl rfl rfl rfl rfl fun r=>kM (I (W (x6.2+1))) r rfl rfl fun r=>wn ?_)
   exact nxy8 (x15,(W (x6.2+1))) v16 _ _ _ hD r (kO (kO (hs_cons rfl hs_nil))) (hP.pick [0,1,2] rfl rfl)
  have hD:=(cond_f h10).symm.trans hD;refine wp_exit ?_;exact bky8 (x6.1,x6.2) γ7 _ _ _ hD r (kO (kO (hs_cons rfl hs_nil))) (hP.pick [0,1,2] rfl rfl)
 rintro x19 γ20 fr w21 g r hP hD;have hP:Post No [memR a1g a1,cellC b1 ((planC a0)).toArray 23,rowK 104 2 entryC γ20 x19.1] w0 w21:=hP;refine wsr (kM γ20 r rfl rfl fun r=>?_);obtain ⟨x22,hx22,hD⟩:=bindD_elim hD
 refine kC r (c_sort (hP.row (i:=2) rfl) hx22) rfl cl93 rfl ?_;rintro _ w23 ⟨rfl,ha24⟩;refine ⟨_,rfl,fun fr r=>?_⟩
 have hP:Post No [memR a1g a1,cellC b1 ((planC a0)).toArray 23,rowK 104 2 entryC γ20 x22] w0 w23:=hP.append (i:=2) rfl ha24;refine wn (wsr (kM γ20 r rfl rfl fun r=>kA γ20 r rfl rfl fun r=>wn (wp_ret ?_)));have hv:x22=res:=Option.some.inj hD
 try dsimp only [Exit.then,Exit.inBlock]
 refine ret_tmp (fn:=Tryz.f47) r (t:=8) rfl (v:=γ20) rfl ?_;subst hv;exact ⟨γ20,rfl,(hP.pick [2] rfl rfl).done (rest_cons rfl rest_nil)⟩
abbrev pL0:Plan:=⟨2,1,4,1,2,1⟩
abbrev sL00:Seat:=⟨pL0,0,0⟩
theorem cl47:callable Tryz.prog 47:=by kernel_rfl
def D.cubiclelaw16_awake (fu:Nat) :Option (Bool):=((D.cubiclelaw09_Laid fu (⟨2,1,4,1,2,1⟩:Plan)).bind (fun (x7:Mem)=>((D.mem_Memory_Cap fu x7 0).bind (fun (x15:Cap)=>((D.prog_Run_Res fu (fu,(D.dict_Add (fu+1) (⟨(⟨2,1,4,1,2,1⟩:Plan),0,0⟩:Seat) 0 5 7)) x7 x15 99).bind (fun (x17:Res × Int × Bool × Mem)=>(Option.bind (bif x17.2.2.1 then (bif (x17.1.e==0) then (bif ((D.dict_Cell (⟨2,1,4,1,2,1⟩:Plan) 0 5)==3) then ((D.dict_Entries fu (⟨2,1,4,1,2,1⟩:Plan) x17.2.2.2 0 0).bind (fun (x30:List Entry)=>(some ((x30.length:Int)==1)))) else (some false)) else (some false)) else (some false)) (fun (x34:Bool)=>(some x34)))))))))
theorem c_cubiclelaw16_awake {fu:Nat} (w0:World) {res:Bool} (hD:D.cubiclelaw16_awake fu =some res) :
    Calls Tryz.prog 43 #[] w0 (PureRes (.bool res) w0):=by
 refine enter Tryz.func43 rfl 40 rfl rfl fun fr r=>?_;have hP:Post No [] w0 w0:=Post.nil w0
 unfold D.cubiclelaw16_awake at hD
 refine wsr (kA (.bool false) r rfl rfl fun r=>wn (wsr (kU (.agg (planC pL0).toArray) r (by kernel_rfl) rfl fun r=>?_)));refine seq_new (.cells ((planC (⟨0,0,0,0,0,0⟩:Plan))).toArray 23 (0,0)) r (fun R=>y_alloc tz23) rfl fun fr b1 w2 n3 r=>?_
 have hP:Post No [cellC b1 ((planC (⟨0,0,0,0,0,0⟩:Plan))).toArray 23] w0 w2:=hP.new n3;refine seq_upd (.cells ((planC pL0)).toArray 23 (0,0)) r (fun R=>y_store r (o:=0) (v:=(.agg (planC pL0).toArray)) rfl rfl (hP.cell (i:=0) rfl) ts23 (Nat.le_of_ble_eq_true rfl) rfl rfl) rfl fun fr w5 u6 r=>?_;have hP:Post No [cellC b1 ((planC pL0)).toArray 23] w0 w5:=hP.upd (i:=0) rfl u6
 refine wn (wsr (kG (planC pL0) 6 r rfl (hP.cell (i:=0) rfl) ta23 rfl rfl fun r=>?_));obtain ⟨x7,hx7,hD⟩:=bindD_elim hD
 refine kC r (c_cubiclelaw09_Laid w5 pL0 hx7) rfl cl14 rfl ?_;rintro _ w8 ⟨mg9,rfl,hq⟩;refine ⟨_,rfl,fun fr r=>?_⟩
 have hP:Post No [cellC b1 ((planC pL0)).toArray 23,memK mg9 x7] w0 w8:=hP.add hq;refine kA (zp mg9.mb) r rfl rfl fun r=>wn (wp_seq (wsr (kM (zp mg9.mb) r rfl rfl fun r=>kB r rfl rfl rfl rfl rfl fun r=>wn ?_)));refine wp_cond_split (t:=false) (r.ev rfl) (fun h=>absurd ((rfl:false=_).symm.trans h) (by decide)) (fun _=>wp_skip (wsr (kG (planC pL0) 6 r rfl (hP.cell (i:=0) rfl) ta23 rfl rfl fun r=>kU (.agg (seatC sL00).toArray) r (by kernel_rfl) rfl fun r=>?_)))
 refine kJ r (cl_dict_Add (F:=No) (n:=fu) (j:=fu+1) (fun _ h=>h.elim) (by omega) sL00 0 5 7) rfl cl90 rfl fun w11 v12 hb hr13 r=>?_;have hP:Post No [cellC b1 ((planC pL0)).toArray 23,memK mg9 x7,progL Tryz.prog encRes (fu,(D.dict_Add (fu+1) sL00 0 5 7)) v12 (rg w8.heap.size w11.heap.size)] w0 w11:=hP.addProgL hb.below hr13
 refine kM (zp mg9.mb) r rfl rfl fun r=>kM (zp mg9.mb) r rfl rfl fun r=>?_;obtain ⟨x15,hx15,hD⟩:=bindD_elim hD
 refine kE r (c_mem_Memory_Cap w11 x7 (hP.mem (i:=1) rfl) 0 hx15) rfl cl20 rfl fun w16 hb r=>?_;have hP:=hP.below hb
 obtain ⟨x17,hx17,hD⟩:=bindD_elim hD;refine kC r (cl_prog_Run_Res w16 (fu,(D.dict_Add (fu+1) sL00 0 5 7)) x7 x15 99 (hP.sep.pk [2,1] rfl rfl) hx17) rfl cl29 rfl ?_;rintro _ w18 ⟨rfl,hq⟩;refine ⟨_,rfl,fun fr r=>?_⟩
 have hP:Post No [cellC b1 ((planC pL0)).toArray 23,memK mg9 x17.2.2.2] w0 w18:=(Post.frame (A:=[cellC b1 ((planC pL0)).toArray 23]) (B:=[progL Tryz.prog encRes (fu,(D.dict_Add (fu+1) sL00 0 5 7)) v12 (rg w8.heap.size w11.heap.size),memK mg9 x7]) (hP.pick [0,2,1] rfl rfl) hq (fun b hb=>hb.elim (fun h=>⟨_,List.mem_cons_self ..,h⟩) fun h=>⟨_,List.mem_cons_of_mem _ (List.mem_singleton.2 rfl),h⟩)).pick [0,1] rfl rfl
 refine kM (.tuple #[(.agg (resC x17.1).toArray),(I x17.2.1),(.bool x17.2.2.1)]) r rfl rfl fun r=>seq_val (.agg (resC x17.1).toArray) r (fun R=>y_extract r (vs:=#[(.agg (resC x17.1).toArray),(I x17.2.1),(.bool x17.2.2.1)]) rfl rfl) rfl fun fr r=>seq_val (I x17.2.1) r (fun R=>y_extract r (vs:=#[(.agg (resC x17.1).toArray),(I x17.2.1),(.bool x17.2.2.1)]) rfl rfl) rfl fun fr r=>seq_val (.bool x17.2.2.1) r (fun R=>y_extract r (vs:=#[(.agg (resC x17.1).toArray),(I x17.2.1),(.bool x17.2.2.1)]) rfl rfl) rfl fun fr r=>?_;refine seq_new (.cells ((resC (⟨0,0⟩:Res))).toArray 36 (0,0)) r (fun R=>y_alloc tz36) rfl fun fr b19 w20 n21 r=>?_
 have hP:Post No [cellC b1 ((planC pL0)).toArray 23,memK mg9 x17.2.2.2,cellC b19 ((resC (⟨0,0⟩:Res))).toArray 36] w0 w20:=hP.new n21;refine seq_upd (.cells ((resC x17.1)).toArray 36 (0,0)) r (fun R=>y_store r (o:=0) (v:=(.agg (resC x17.1).toArray)) rfl rfl (hP.cell (i:=2) rfl) ts36 (Nat.le_of_ble_eq_true rfl) rfl rfl) rfl fun fr w23 u24 r=>?_;have hP:Post No [cellC b1 ((planC pL0)).toArray 23,memK mg9 x17.2.2.2,cellC b19 ((resC x17.1)).toArray 36] w0 w23:=hP.upd (i:=2) rfl u24
 refine kA (I x17.2.1) r rfl rfl fun r=>kA (.bool x17.2.2.1) r rfl rfl fun r=>wn (wp_seq ?_);refine wp_joinG (N:=40) (Y:=Bool) (G:=Unit) (fun x γ=>[(1,(zp b1)),(2,(zp mg9.mb)),(10,(.bool false)),(3,(zp b19)),(5,(.bool x17.2.2.1)),(0,(.bool x))]) (fun x γ w=>Post No [cellC b1 ((planC pL0)).toArray 23,memK mg9 x17.2.2.2,cellC b19 ((resC x17.1)).toArray 36] w0 w) hD ?_ ?_
 ·
  rintro y25 RPy25 nxy25 hD;refine wp_region_lit (kM (.bool x17.2.2.1) r rfl rfl fun r=>kM (.bool x17.2.2.1) r rfl rfl fun r=>?_);refine seq_split x17.2.2.1 (fun h26=>?_) (fun h26=>?_)
  ·
   have hD:=(cond_t h26).symm.trans hD;refine s1 r h26 (kF 0 r rfl fo36_0 rfl fun r=>s1 r h26 (kL (I x17.1.e) r rfl (hP.cell (i:=2) rfl) to33 rfl rfl fun r=>s1 r h26 (kB r rfl rfl rfl rfl rfl fun r=>seq_val (.bool (x17.1.e==0)) r (fun R=>y_pick r (b:=true) (kb h26) rfl) rfl fun fr r=>kM (.bool (x17.1.e==0)) r rfl rfl fun r=>?_)));refine seq_split (x17.1.e==0) (fun h27=>?_) (fun h27=>?_)
   ·
    have hD:=(cond_t h27).symm.trans hD;refine s1 r h27 (kG (planC pL0) 6 r rfl (hP.cell (i:=0) rfl) ta23 rfl rfl fun r=>s1 r h27 ?_);refine kE r (c_dict_Cell w23 pL0 0 5) rfl cl44 rfl fun w28 hb r=>?_
    have hP:=hP.below hb;refine s1 r h27 (kB r rfl rfl rfl rfl rfl fun r=>seq_val (.bool ((D.dict_Cell pL0 0 5)==3)) r (fun R=>y_pick r (b:=true) (kb h27) rfl) rfl fun fr r=>kM (.bool ((D.dict_Cell pL0 0 5)==3)) r rfl rfl fun r=>?_);refine seq_split ((D.dict_Cell pL0 0 5)==3) (fun h29=>?_) (fun h29=>?_)
    ·
     have hD:=(cond_t h29).symm.trans hD;refine s1 r h29 (kG (planC pL0) 6 r rfl (hP.cell (i:=0) rfl) ta23 rfl rfl fun r=>s1 r h29 (kM (zp mg9.mb) r rfl rfl fun r=>s1 r h29 ?_));obtain ⟨x30,hx30,hD⟩:=bindD_elim hD
     refine kC r (c_dict_Entries w28 pL0 x17.2.2.2 (hP.mem (i:=1) rfl) 0 0 hx30) rfl cl47 rfl ?_;rintro _ w31 ⟨v32,rfl,hq⟩;refine ⟨_,rfl,fun fr r=>?_⟩
     have hP:Post No [cellC b1 ((planC pL0)).toArray 23,memK mg9 x17.2.2.2,cellC b19 ((resC x17.1)).toArray 36,rowK 104 2 entryC v32 x30] w0 w31:=hP.add hq;refine s1 r h29 (seq_val (I (x30.length:Int)) r (fun R=>y_rowLen r (hP.row (i:=3) rfl).ro is82 rfl) rfl fun fr r=>s1 r h29 (kB r rfl rfl rfl rfl rfl fun r=>seq_val (.bool ((x30.length:Int)==1)) r (fun R=>y_pick r (b:=true) (kb h29) rfl) rfl fun fr r=>kA (.bool ((x30.length:Int)==1)) r rfl rfl fun r=>wn ?_));exact nxy25 ((x30.length:Int)==1) () _ _ _ hD r (kO (hs_cons rfl (hs_cons rfl hs_nil))) (hP.pick [0,1,2] rfl rfl)
    have hD:=(cond_f h29).symm.trans hD;refine s0 r h29 fun fr r=>s0 r h29 fun fr r=>s0 r h29 fun fr r=>s0 r h29 fun fr r=>s0 r h29 fun fr r=>seq_val (.bool false) r (fun R=>y_pick r (b:=false) (kb h29) rfl) rfl fun fr r=>kA (.bool false) r rfl rfl fun r=>wn ?_;exact nxy25 false () _ _ _ hD r (kO (hs_cons rfl (hs_cons rfl hs_nil))) (hP.pick [0,1,2] rfl rfl)
   have hD:=(cond_f h27).symm.trans hD;refine s0 r h27 fun fr r=>s0 r h27 fun fr r=>s0 r h27 fun fr r=>seq_val (.bool false) r (fun R=>y_pick r (b:=false) (kb h27) rfl) rfl fun fr r=>kM (.bool false) r rfl rfl fun r=>s0 r (rfl:false=_) fun fr r=>s0 r (rfl:false=_) fun fr r=>s0 r (rfl:false=_) fun fr r=>s0 r (rfl:false=_) fun fr r=>s0 r (rfl:false=_) fun fr r=>seq_val (.bool false) r (fun R=>y_pick r (b:=false) (kb (rfl:false=_)) rfl) rfl fun fr r=>kA (.bool false) r rfl rfl fun r=>wn ?_;exact nxy25 false () _ _ _ hD r (kO (hs_cons rfl (hs_cons rfl hs_nil))) (hP.pick [0,1,2] rfl rfl)
  have hD:=(cond_f h26).symm.trans hD;refine s0 r h26 fun fr r=>s0 r h26 fun fr r=>s0 r h26 fun fr r=>seq_val (.bool false) r (fun R=>y_pick r (b:=false) (kb h26) rfl) rfl fun fr r=>kM (.bool false) r rfl rfl fun r=>s0 r (rfl:false=_) fun fr r=>s0 r (rfl:false=_) fun fr r=>s0 r (rfl:false=_) fun fr r=>seq_val (.bool false) r (fun R=>y_pick r (b:=false) (kb (rfl:false=_)) rfl) rfl fun fr r=>kM (.bool false) r rfl rfl fun r=>s0 r (rfl:false=_) fun fr r=>s0 r (rfl:false=_) fun fr r=>s0 r (rfl:false=_) fun fr r=>s0 r (rfl:false=_) fun fr r=>s0 r (rfl:false=_) fun fr r=>seq_val (.bool false) r (fun R=>y_pick r (b:=false) (kb (rfl:false=_)) rfl) rfl fun fr r=>kA (.bool false) r rfl rfl fun r=>wn ?_;exact nxy25 false () _ _ _ hD r (kO (hs_cons rfl (hs_cons rfl hs_nil))) (hP.pick [0,1,2] rfl rfl)
 rintro x34 γ35 fr w36 g r hP hD;have hP:Post No [cellC b1 ((planC pL0)).toArray 23,memK mg9 x17.2.2.2,cellC b19 ((resC x17.1)).toArray 36] w0 w36:=hP;refine wp_ret ?_;have hv:x34=res:=Option.some.inj hD
 try dsimp only [Exit.then,Exit.inBlock]
 refine ret_tmp (fn:=Tryz.f43) r (t:=0) rfl (v:=(.bool x34)) rfl ?_;subst hv;exact ⟨rfl,hP.chg.below⟩
end Go.Proofs.YtbbipmelhmgmfaaGreat

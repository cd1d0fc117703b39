/- Some of our texts, one behind the other. -/
import Derived.Test.YtbbipmelhmgmfaaGreatTcMems
import Derived.Test.YtbbipmelhmgmfaaGreatTcHazards
set_option linter.all false
set_option maxRecDepth 100000
set_option maxHeartbeats 20000000
/- Ours. -/
namespace Go.Proofs.YtbbipmelhmgmfaaGreat
open Go.RowKit
theorem cl115:callable Tryz.prog 115:=by kernel_rfl
theorem cl19:callable Tryz.prog 19:=by kernel_rfl
theorem cl65:callable Tryz.prog 65:=by kernel_rfl
theorem ts128:sized Tryz.prog 128 0:=by kernel_rfl
theorem ts36:sized Tryz.prog 36 2:=by kernel_rfl
theorem tz128:zeroOf Tryz.prog 128=some (.agg #[]):=by kernel_rfl
theorem tz36:zeroOf Tryz.prog 36=some (.agg (resC (⟨0,0⟩:Res)).toArray):=by kernel_rfl
def D.prog_Prog_None_Step (fu:Nat) (a0:Nat × T Unit) (a1:Mem) (a2:Cap):Option ((Nat × T Unit) × Bool × Mem):=(bif a0.2.isDone then (some (a0,false,a1)) else ((D.mem_Memory_Do fu a1 a2 (T.acc a0.2)).bind (fun (x16:Int × Bool × Mem)=>(bif (!x16.2.1) then (some (a0,false,x16.2.2)) else ((depthI a0.1).bind (fun (x26:Nat)=>(some ((x26,T.next a0.2 x16.1),true,x16.2.2))))))))
theorem c_prog_Prog_None_Step {fu:Nat} (w0:World) {a0v:Value} {a0F:List Nat} (a0:Nat × T Unit) {a1g:MG} (a1:Mem) (a2:Cap) (hS:Sep [progK Tryz.prog encNone a0 a0v a0F,memK a1g a1] w0) {res:(Nat × T Unit) × Bool × Mem} (hD:D.prog_Prog_None_Step fu a0 a1 a2=some res) :
    Calls Tryz.prog 115 #[a0v,zp a1g.mb,.agg (capC a2).toArray] w0 (fun e w'=>∃ (v0:Value) (F0:List Nat),e=.returned (.tuple #[v0,(.bool res.2.1)])∧Done (fun b=>b∈(memK a1g a1).own) (fun b=>b∈a0F) [memK a1g res.2.2,progK Tryz.prog encNone res.1 v0 F0] w0 w'):=by
 refine enter Tryz.func115 rfl 28 rfl rfl fun fr r=>?_;have hP:Post (fun b=>b∈(memK a1g a1).own) [progK Tryz.prog encNone a0 a0v a0F,memK a1g a1] w0 w0:=.start hS (by simp [memK,progK])
 unfold D.prog_Prog_None_Step at hD
 refine wsr ?_;refine kX 133 a0v r rfl rfl fun b1 w2 n3 r=>?_;have hP:Post (fun b=>b∈(memK a1g a1).own) [progK Tryz.prog encNone a0 a0v a0F,memK a1g a1,cellC b1 a0v.cells 133] w0 w2:=hP.new n3
 refine kX 52 (.agg (capC a2).toArray) r rfl rfl fun b5 w6 n7 r=>?_;have hP:Post (fun b=>b∈(memK a1g a1).own) [progK Tryz.prog encNone a0 a0v a0F,memK a1g a1,cellC b1 a0v.cells 133,cellC b5 ((capC a2)).toArray 52] w0 w6:=hP.new n7
 refine seq_new (.cells (kq encNone) 133 (0,0)) r (fun R=>y_alloc tz133) rfl fun fr b9 w10 n11 r=>?_;have hP:Post (fun b=>b∈(memK a1g a1).own) [progK Tryz.prog encNone a0 a0v a0F,memK a1g a1,cellC b1 a0v.cells 133,cellC b5 ((capC a2)).toArray 52,cellC b9 (kq encNone) 133] w0 w10:=hP.new n11
 refine kA (.bool false) r rfl rfl fun r=>wn (wp_seq (wsr (seq_val _ r (fun R=>y_fieldAddr r (b:=b1) (o:=0) (k:=0) rfl fo133_0) rfl fun fr r=>kL (.bool a0.2.isDone) r rfl (hP.cell (i:=2) rfl) to4 (Rep.over_at (hP.prog (i:=0) rfl)) rfl fun r=>wn ?_)));refine wp_cond_split (t:=a0.2.isDone) (r.ev rfl) (fun h13=>?_) (fun h13=>?_)
 ·
  have hD:=(cond_t h13).symm.trans hD;refine wsr (seq_val a0v r (fun R=>y_loadp r (hP.prog (i:=0) rfl).shape rfl (hP.cell (i:=2) rfl) ta133) rfl fun fr r=>?_);refine kP r (hP.prog (i:=0) rfl).shape rfl rfl (hP.cell (i:=4) rfl) ts133 rfl rfl fun w14 u15 r=>?_
  have hP:Post (fun b=>b∈(memK a1g a1).own) [progK Tryz.prog encNone a0 a0v a0F,memK a1g a1,cellC b1 a0v.cells 133,cellC b5 ((capC a2)).toArray 52,cellC b9 a0v.cells 133] w0 w14:=hP.upd (i:=4) rfl u15
  refine kA (.bool false) r rfl rfl fun r=>wn (wp_ret ?_);have hv:(a0,false,a1)=res:=Option.some.inj hD
  try dsimp only [Exit.then,Exit.inBlock]
  have hs:=(hP.prog (i:=0) rfl).shape.cells;refine ret_cell_tmp (fn:=Tryz.f115) r rfl rfl (v':=(.bool false)) rfl (hP.cell (i:=4) rfl) (k:=6) hs.1 ta133 ?_;rw [←hs.2.2];subst hv;exact ⟨a0v,a0F,rfl,(hP.pick [1,0] rfl rfl).done (rest_cons rfl (rest_consP (fun b h=>.inl h) rest_nil))⟩
 have hD:=(cond_f h13).symm.trans hD;refine wp_skip (wsr (kM (zp a1g.mb) r rfl rfl fun r=>kG (capC a2) 2 r rfl (hP.cell (i:=3) rfl) ta52 rfl rfl fun r=>seq_val _ r (fun R=>y_fieldAddr r (b:=b1) (o:=0) (k:=1) rfl fo133_2) rfl fun fr r=>kG (accessC (T.acc a0.2)) 4 r rfl (hP.cell (i:=2) rfl) ta38 (Rep.acc_at (hP.prog (i:=0) rfl) h13) rfl fun r=>?_));obtain ⟨x16,hx16,hD⟩:=bindD_elim hD
 refine kC r (c_mem_Memory_Do w10 a1 a2 (T.acc a0.2) (hP.sep.pk [1] rfl rfl) hx16) rfl cl65 rfl ?_;rintro _ w17 ⟨rfl,hq⟩;refine ⟨_,rfl,fun fr r=>?_⟩
 have hP:Post (fun b=>b∈(memK a1g a1).own) [progK Tryz.prog encNone a0 a0v a0F,memK a1g x16.2.2,cellC b1 a0v.cells 133,cellC b5 ((capC a2)).toArray 52,cellC b9 (kq encNone) 133] w0 w17:=hP.setN (i:=1) rfl hq
 refine kM (.tuple #[(U x16.1),(.bool x16.2.1)]) r rfl rfl fun r=>seq_val (U x16.1) r (fun R=>y_extract r (vs:=#[(U x16.1),(.bool x16.2.1)]) rfl rfl) rfl fun fr r=>seq_val (.bool x16.2.1) r (fun R=>y_extract r (vs:=#[(U x16.1),(.bool x16.2.1)]) rfl rfl) rfl fun fr r=>kA (U x16.1) r rfl rfl fun r=>kA (.bool x16.2.1) r rfl rfl fun r=>wn (wp_seq (wsr (kM (.bool x16.2.1) r rfl rfl fun r=>seq_val (.bool (!x16.2.1)) r (fun R=>y_un r (u:=(.bool x16.2.1)) rfl rfl) rfl fun fr r=>wn ?_)));refine wp_cond_split (t:=(!x16.2.1)) (r.ev rfl) (fun h18=>?_) (fun h18=>?_)
 ·
  have hD:=(cond_t h18).symm.trans hD;refine wsr (seq_val a0v r (fun R=>y_loadp r (hP.prog (i:=0) rfl).shape rfl (hP.cell (i:=2) rfl) ta133) rfl fun fr r=>?_);refine kP r (hP.prog (i:=0) rfl).shape rfl rfl (hP.cell (i:=4) rfl) ts133 rfl rfl fun w19 u20 r=>?_
  have hP:Post (fun b=>b∈(memK a1g a1).own) [progK Tryz.prog encNone a0 a0v a0F,memK a1g x16.2.2,cellC b1 a0v.cells 133,cellC b5 ((capC a2)).toArray 52,cellC b9 a0v.cells 133] w0 w19:=hP.upd (i:=4) rfl u20
  refine kA (.bool false) r rfl rfl fun r=>wn (wp_ret ?_);have hv:(a0,false,x16.2.2)=res:=Option.some.inj hD
  try dsimp only [Exit.then,Exit.inBlock]
  have hs:=(hP.prog (i:=0) rfl).shape.cells;refine ret_cell_tmp (fn:=Tryz.f115) r rfl rfl (v':=(.bool false)) rfl (hP.cell (i:=4) rfl) (k:=6) hs.1 ta133 ?_;rw [←hs.2.2];subst hv;exact ⟨a0v,a0F,rfl,(hP.pick [1,0] rfl rfl).done (rest_cons rfl (rest_consP (fun b h=>.inl h) rest_nil))⟩
 have hD:=(cond_f h18).symm.trans hD;refine wp_skip (wsr (seq_val _ r (fun R=>y_fieldAddr r (b:=b1) (o:=0) (k:=5) rfl fo133_3) rfl fun fr r=>?_));obtain ⟨nf21,n122,n223,hv24,hk25⟩:=Rep.next_at (hP.prog (i:=0) rfl) h13
 refine kL (kf nf21 n122 n223) r rfl (hP.cell (i:=2) rfl) to131 hv24 rfl fun r=>kM (U x16.1) r rfl rfl fun r=>?_;obtain ⟨x26,hx26,hD⟩:=bindD_elim hD
 refine seq_call r (hk25.at_.2 x26 (by rw [depthI_eq hx26]; exact Nat.lt_succ_self _) x16.1 w17 (Same.refl _ _) (Nat.le_refl _)) (fun R hc=>y_callv1 r rfl rfl hk25.at_.1 hc) rfl ?_;rintro _ w27 ⟨v28,rfl,hb,hr29⟩
 refine ⟨_,rfl,fun fr r=>?_⟩
 have zw27:=hP.size;have hP:Post (fun b=>b∈(memK a1g a1).own) [progK Tryz.prog encNone a0 a0v a0F,memK a1g x16.2.2,cellC b1 a0v.cells 133,cellC b5 ((capC a2)).toArray 52,cellC b9 (kq encNone) 133,progK Tryz.prog encNone (x26,T.next a0.2 x16.1) v28 (a0F++rg w17.heap.size w27.heap.size)] w0 w27:=hP.addProgF (k:=0) rfl hb hr29
 refine kP r (hP.prog (i:=5) rfl).shape rfl rfl (hP.cell (i:=4) rfl) ts133 rfl rfl fun w31 u32 r=>?_;have hP:Post (fun b=>b∈(memK a1g a1).own) [progK Tryz.prog encNone a0 a0v a0F,memK a1g x16.2.2,cellC b1 a0v.cells 133,cellC b5 ((capC a2)).toArray 52,cellC b9 v28.cells 133,progK Tryz.prog encNone (x26,T.next a0.2 x16.1) v28 (a0F++rg w17.heap.size w27.heap.size)] w0 w31:=hP.upd (i:=4) rfl u32
 refine kA (.bool true) r rfl rfl fun r=>wn (wp_ret ?_);have hv:((x26,T.next a0.2 x16.1),true,x16.2.2)=res:=Option.some.inj hD
 try dsimp only [Exit.then,Exit.inBlock]
 have hs:=(hP.prog (i:=5) rfl).shape.cells;refine ret_cell_tmp (fn:=Tryz.f115) r rfl rfl (v':=(.bool true)) rfl (hP.cell (i:=4) rfl) (k:=6) hs.1 ta133 ?_;rw [←hs.2.2];subst hv;exact ⟨v28,(a0F++rg w17.heap.size w27.heap.size),rfl,(hP.pick [1,5] rfl rfl).done (rest_cons rfl (rest_consP (fun b h=>(List.mem_append.1 h).elim .inl (fun h=>.inr (by have:=(mem_rg.1 h).1; omega))) rest_nil))⟩
def D.prog_Run_None (fu:Nat) (a0:Nat × T Unit) (a1:Mem) (a2:Cap) (a3:Int):Option (Unit × Int × Bool × Mem):=(loopThen (fun (x13:Int × Mem × (Nat × T Unit))=>(Option.bind (bif (decide (x13.1<a3)) then (some (!x13.2.2.2.isDone)) else (some false)) (fun (x19:Bool)=>(bif x19 then ((D.prog_Prog_None_Step fu x13.2.2 x13.2.1 a2).bind (fun (x23:(Nat × T Unit) × Bool × Mem)=>(bif (!x23.2.1) then (some (Lp.brk (x13.1,x23.2.2,x13.2.2))) else (some (Lp.next ((IntKind.i64.wrap (x13.1+1)),x23.2.2,x23.1)))))) else (some (Lp.brk (x13.1,x13.2.1,x13.2.2))))))) fu (0,a1,a0) (fun (x37:Int × Mem × (Nat × T Unit))=>(some ((),x37.1,x37.2.2.2.isDone,x37.2.1))))
theorem c_prog_Run_None {fu:Nat} (w0:World) {a0v:Value} {a0F:List Nat} (a0:Nat × T Unit) {a1g:MG} (a1:Mem) (a2:Cap) (a3:Int) (hS:Sep [progK Tryz.prog encNone a0 a0v a0F,memK a1g a1] w0) {res:Unit × Int × Bool × Mem} (hD:D.prog_Run_None fu a0 a1 a2 a3=some res) :
    Calls Tryz.prog 61 #[a0v,zp a1g.mb,.agg (capC a2).toArray,.int .i64 a3] w0 (fun e w'=>e=.returned (.tuple #[(.agg #[]),(.int .i64 res.2.1),(.bool res.2.2.1)])∧Done (fun b=>b∈(memK a1g a1).own) No [memK a1g res.2.2.2] w0 w'):=by
 refine enter Tryz.func61 rfl 39 rfl rfl fun fr r=>?_;have hP:Post (fun b=>b∈(memK a1g a1).own) [progK Tryz.prog encNone a0 a0v a0F,memK a1g a1] w0 w0:=.start hS (by simp [memK,progK])
 unfold D.prog_Run_None at hD
 refine wsr ?_;refine kX 133 a0v r rfl rfl fun b1 w2 n3 r=>?_;have hP:Post (fun b=>b∈(memK a1g a1).own) [progK Tryz.prog encNone a0 a0v a0F,memK a1g a1,cellC b1 a0v.cells 133] w0 w2:=hP.new n3
 refine kX 52 (.agg (capC a2).toArray) r rfl rfl fun b5 w6 n7 r=>?_;have hP:Post (fun b=>b∈(memK a1g a1).own) [progK Tryz.prog encNone a0 a0v a0F,memK a1g a1,cellC b1 a0v.cells 133,cellC b5 ((capC a2)).toArray 52] w0 w6:=hP.new n7
 refine seq_new (.cells #[] 128 (0,0)) r (fun R=>y_alloc tz128) rfl fun fr b9 w10 n11 r=>?_;have hP:Post (fun b=>b∈(memK a1g a1).own) [progK Tryz.prog encNone a0 a0v a0F,memK a1g a1,cellC b1 a0v.cells 133,cellC b5 ((capC a2)).toArray 52,cellC b9 #[] 128] w0 w10:=hP.new n11
 refine kA (I 0) r rfl rfl fun r=>kA (.bool false) r rfl rfl fun r=>wn (wsr (kA (I 0) r rfl rfl fun r=>wn (wp_seq ?_)));refine wp_loopG (X:=Int × Mem × (Nat × T Unit)) (G:=Value × List Nat) (x0:=(0,a1,a0)) (fun x γ=>[(0,a0v),(1,(zp a1g.mb)),(2,(.agg (capC a2).toArray)),(3,(I a3)),(4,(zp b1)),(6,(zp b5)),(8,(zp b9)),(9,(I 0)),(10,(.bool false)),(11,(I x.1))]) (fun x γ w=>Post (fun b=>b∈(memK a1g a1).own) [progK Tryz.prog encNone x.2.2 γ.1 γ.2,memK a1g x.2.1,cellC b1 γ.1.cells 133,cellC b5 ((capC a2)).toArray 52,cellC b9 #[] 128] w0 w) (a0v,a0F) r (kO (kO (hs_cons rfl (hs_cons rfl hs_nil)))) hP hD ?_ ?_
 ·
  rintro x13 γ14 fr w16 g y15 RPy15 nxy15 bky15 rty15 r hP hD;have hP:Post (fun b=>b∈(memK a1g a1).own) [progK Tryz.prog encNone x13.2.2 γ14.1 γ14.2,memK a1g x13.2.1,cellC b1 γ14.1.cells 133,cellC b5 ((capC a2)).toArray 52,cellC b9 #[] 128] w0 w16:=hP
  refine wp_seq (wp_seq ?_);refine wp_joinG (N:=39) (Y:=Bool) (G:=Unit) (fun x γ=>[(0,a0v),(1,(zp a1g.mb)),(2,(.agg (capC a2).toArray)),(3,(I a3)),(4,(zp b1)),(6,(zp b5)),(8,(zp b9)),(9,(I 0)),(10,(.bool false)),(11,(I x13.1)),(21,(.bool x))]) (fun x γ w=>Post (fun b=>b∈(memK a1g a1).own) [progK Tryz.prog encNone x13.2.2 γ14.1 γ14.2,memK a1g x13.2.1,cellC b1 γ14.1.cells 133,cellC b5 ((capC a2)).toArray 52,cellC b9 #[] 128] w0 w) hD ?_ ?_
  ·
   rintro y17 RPy17 nxy17 hD;refine wp_region_lit (kM (I x13.1) r rfl rfl fun r=>kM (I a3) r rfl rfl fun r=>kB r rfl rfl rfl rfl rfl fun r=>kM (.bool (decide (x13.1<a3))) r rfl rfl fun r=>?_);refine seq_split (decide (x13.1<a3)) (fun h18=>?_) (fun h18=>?_)
   ·
    have hD:=(cond_t h18).symm.trans hD;refine s1 r h18 (seq_val _ r (fun R=>y_fieldAddr r (b:=b1) (o:=0) (k:=0) rfl fo133_0) rfl fun fr r=>s1 r h18 (kL (.bool x13.2.2.2.isDone) r rfl (hP.cell (i:=2) rfl) to4 (Rep.over_at (hP.prog (i:=0) rfl)) rfl fun r=>s1 r h18 (seq_val (.bool (!x13.2.2.2.isDone)) r (fun R=>y_un r (u:=(.bool x13.2.2.2.isDone)) rfl rfl) rfl fun fr r=>seq_val (.bool (!x13.2.2.2.isDone)) r (fun R=>y_pick r (b:=true) (kb h18) rfl) rfl fun fr r=>wn ?_)));exact nxy17 (!x13.2.2.2.isDone) () _ _ _ hD r (kO (kO (hs_cons rfl (hs_cons rfl (hs_cons rfl hs_nil))))) (hP.pick [0,1,2,3,4] rfl rfl)
   have hD:=(cond_f h18).symm.trans hD;refine s0 r h18 fun fr r=>s0 r h18 fun fr r=>s0 r h18 fun fr r=>seq_val (.bool false) r (fun R=>y_pick r (b:=false) (kb h18) rfl) rfl fun fr r=>wn ?_;exact nxy17 false () _ _ _ hD r (kO (kO (hs_cons rfl (hs_cons rfl (hs_cons rfl hs_nil))))) (hP.pick [0,1,2,3,4] rfl rfl)
  rintro x19 γ20 fr w21 g r hP hD;have hP:Post (fun b=>b∈(memK a1g a1).own) [progK Tryz.prog encNone x13.2.2 γ14.1 γ14.2,memK a1g x13.2.1,cellC b1 γ14.1.cells 133,cellC b5 ((capC a2)).toArray 52,cellC b9 #[] 128] w0 w21:=hP
  refine wp_cond_split (t:=x19) (r.ev rfl) (fun h22=>?_) (fun h22=>?_)
  ·
   have hD:=(cond_t h22).symm.trans hD;refine wp_skip (wp_block (wsr (seq_val γ14.1 r (fun R=>y_loadp r (hP.prog (i:=0) rfl).shape rfl (hP.cell (i:=2) rfl) ta133) rfl fun fr r=>kM (zp a1g.mb) r rfl rfl fun r=>kG (capC a2) 2 r rfl (hP.cell (i:=3) rfl) ta52 rfl rfl fun r=>?_)));obtain ⟨x23,hx23,hD⟩:=bindD_elim hD
   refine kC r (c_prog_Prog_None_Step w21 x13.2.2 x13.2.1 a2 (hP.sep.pk [0,1] rfl rfl) hx23) rfl cl115 rfl ?_;rintro _ w24 ⟨v25,F26,rfl,hq⟩;refine ⟨_,rfl,fun fr r=>?_⟩
   have hP:Post (fun b=>b∈(memK a1g a1).own) [progK Tryz.prog encNone x13.2.2 γ14.1 γ14.2,memK a1g x23.2.2,cellC b1 γ14.1.cells 133,cellC b5 ((capC a2)).toArray 52,cellC b9 #[] 128,progK Tryz.prog encNone x23.1 v25 F26] w0 w24:=hP.setR (i:=1) (k:=0) rfl rfl rfl hq
   refine kM (.tuple #[v25,(.bool x23.2.1)]) r rfl rfl fun r=>seq_val v25 r (fun R=>y_extract r (vs:=#[v25,(.bool x23.2.1)]) rfl rfl) rfl fun fr r=>seq_val (.bool x23.2.1) r (fun R=>y_extract r (vs:=#[v25,(.bool x23.2.1)]) rfl rfl) rfl fun fr r=>?_;refine seq_new (.cells (kq encNone) 133 (0,0)) r (fun R=>y_alloc tz133) rfl fun fr b28 w29 n30 r=>?_
   have hP:Post (fun b=>b∈(memK a1g a1).own) [progK Tryz.prog encNone x13.2.2 γ14.1 γ14.2,memK a1g x23.2.2,cellC b1 γ14.1.cells 133,cellC b5 ((capC a2)).toArray 52,cellC b9 #[] 128,progK Tryz.prog encNone x23.1 v25 F26,cellC b28 (kq encNone) 133] w0 w29:=hP.new n30
   refine kP r (hP.prog (i:=5) rfl).shape rfl rfl (hP.cell (i:=6) rfl) ts133 rfl rfl fun w32 u33 r=>?_;have hP:Post (fun b=>b∈(memK a1g a1).own) [progK Tryz.prog encNone x13.2.2 γ14.1 γ14.2,memK a1g x23.2.2,cellC b1 γ14.1.cells 133,cellC b5 ((capC a2)).toArray 52,cellC b9 #[] 128,progK Tryz.prog encNone x23.1 v25 F26,cellC b28 v25.cells 133] w0 w32:=hP.upd (i:=6) rfl u33
   refine kA (.bool x23.2.1) r rfl rfl fun r=>wn (wp_seq (wsr (kM (.bool x23.2.1) r rfl rfl fun r=>seq_val (.bool (!x23.2.1)) r (fun R=>y_un r (u:=(.bool x23.2.1)) rfl rfl) rfl fun fr r=>wn ?_)));refine wp_cond_split (t:=(!x23.2.1)) (r.ev rfl) (fun h34=>?_) (fun h34=>?_)
   ·
    have hD:=(cond_t h34).symm.trans hD;refine wp_exit ?_;exact bky15 (x13.1,x23.2.2,x13.2.2) (γ14.1,γ14.2) _ _ _ hD r (kO (kO (hs_cons rfl (hs_cons rfl hs_nil)))) (hP.pick [0,1,2,3,4] rfl rfl)
   have hD:=(cond_f h34).symm.trans hD;refine wp_skip (wsr (seq_val v25 r (fun R=>y_loadp r (hP.prog (i:=5) rfl).shape rfl (hP.cell (i:=6) rfl) ta133) rfl fun fr r=>?_));refine kP r (hP.prog (i:=5) rfl).shape rfl rfl (hP.cell (i:=2) rfl) ts133 (by have h:=(hP.prog (i:=0) rfl).shape.cells.1; simpa using h) rfl fun w35 u36 r=>?_
   have hP:Post (fun b=>b∈(memK a1g a1).own) [progK Tryz.prog encNone x13.2.2 γ14.1 γ14.2,memK a1g x23.2.2,cellC b1 v25.cells 133,cellC b5 ((capC a2)).toArray 52,cellC b9 #[] 128,progK Tryz.prog encNone x23.1 v25 F26,cellC b28 v25.cells 133] w0 w35:=hP.upd (i:=2) rfl u36
   refine wn ?_;refine wp_region_lit (kM (I x13.1) r rfl rfl fun r=>kB r rfl rfl rfl rfl rfl fun r=>kA (I (W (x13.1+1))) r rfl rfl fun r=>wn ?_);exact nxy15 ((W (x13.1+1)),x23.2.2,x23.1) (v25,F26) _ _ _ hD r (kO (kO (hs_cons rfl (hs_cons rfl hs_nil)))) (hP.pick [5,1,2,3,4] rfl rfl)
  have hD:=(cond_f h22).symm.trans hD;refine wp_exit ?_;exact bky15 (x13.1,x13.2.1,x13.2.2) (γ14.1,γ14.2) _ _ _ hD r (kO (kO (hs_cons rfl (hs_cons rfl hs_nil)))) (hP.pick [0,1,2,3,4] rfl rfl)
 rintro x37 γ38 fr w39 g r hP hD;have hP:Post (fun b=>b∈(memK a1g a1).own) [progK Tryz.prog encNone x37.2.2 γ38.1 γ38.2,memK a1g x37.2.1,cellC b1 γ38.1.cells 133,cellC b5 ((capC a2)).toArray 52,cellC b9 #[] 128] w0 w39:=hP
 refine wp_seq ?_;refine wp_freeE [b9] [.pred (fun v _ _ _=>∃ sp,v=.pointer (some ⟨b1,1,sp⟩)) (fun _ _ _ _ _ h _=>h),.val (.agg #[]),.val (I x37.1),.val (zp b1),.val (.bool x37.2.2.2.isDone),.eff (EffP w39.heap.size (cellC b9 #[] 128) (fun _:Unit=>undef) (fun _:Unit=>[])) (EffP.st _ _ _ _),.val (I x37.1),.val (.bool x37.2.2.2.isDone)] mixed r (fun b hb=>hP.sep.lt (i:=4) rfl (.inl hb)) (by kernel_rfl) ?_ ?_
 ·
  refine eachE_early r rfl (by kernel_rfl) (fun fr1 g w' hb' hd r'=>?_) ?_
  · exact y_fieldAddrZ r' rfl fz133 ((hP.below (dr hb')).cell (i:=2) rfl) (fun sp=>⟨Below.refl _ _,sp,rfl⟩)
  refine eachE_early r rfl (by kernel_rfl) (fun fr1 g w' hb' hd r'=>?_) ?_
  · obtain ⟨sp,hsp⟩:=(hd 0 rfl).1; exact y_load_zero r' hsp ta128 bz
  refine eachE_late r rfl (fun fr1 g w' hk' hd r'=>?_) ?_
  · exact y_move r' (v:=(I x37.1)) rfl bz
  refine eachE_late r rfl (fun fr1 g w' hk' hd r'=>?_) ?_
  · exact y_fieldAddr r' (b:=b1) (o:=0) (k:=0) rfl fo133_0 bz
  refine eachE_late r rfl (fun fr1 g w' hk' hd r'=>?_) ?_
  · exact y_load_one r' (v:=(.bool x37.2.2.2.isDone)) (hd 3 rfl).1 (hP.cellK (j:=4) rfl (drK hk') (i:=2) rfl rfl) to4 (Rep.over_at (show Rep _ _ _ _ _ _ _ from hP.okK (j:=4) rfl (drK hk') (i:=0) rfl rfl)) bz
  refine eachE_early r rfl (by kernel_rfl) (fun fr1 g w' hb' hd r'=>?_) ?_
  · exact y_store r' (o:=0) (v:=(.agg #[])) rfl (hd 1 rfl).1 ((hP.below (dr hb')).cell (i:=4) rfl) ts128 (Nat.le_of_ble_eq_true rfl) rfl rfl (fun w2 u2=>⟨u2.kept,(),rfl,u2.at_,(fun b hb=>hP.sep.lt (i:=4) rfl hb),fresh_nil⟩)
  refine eachE_late r rfl (fun fr1 g w' hk' hd r'=>?_) ?_
  · exact y_assign r' (v:=(I x37.1)) (hd 2 rfl).1 bz
  refine eachE_late r rfl (fun fr1 g w' hk' hd r'=>?_) ?_
  · exact y_assign r' (v:=(.bool x37.2.2.2.isDone)) (hd 4 rfl).1 bz
  exact eachF_nil
 intro fr gg w40 hb hΦ hap r;obtain ⟨⟨⟩,g5,hcE,_,hs5⟩:=(hΦ 5 rfl).1;have r:=r.congr (sc ((hΦ 7 rfl).1) (sc ((hΦ 6 rfl).1) (sc ((hΦ 4 rfl).1) (sc ((hΦ 3 rfl).1) (sc ((hΦ 2 rfl).1) (sc ((hΦ 1 rfl).1) (sc rfl rfl)))))));have hP:Post (fun b=>b∈(memK a1g a1).own) [progK Tryz.prog encNone x37.2.2 γ38.1 γ38.2,memK a1g x37.2.1,cellC b1 γ38.1.cells 133,cellC b5 ((capC a2)).toArray 52,cellC b9 #[] 128] w0 w40:=hP.effL (i:=4) (l:=[]) rfl hb hcE rfl rfl trivial
 refine wp_ret ?_;have hv:((),x37.1,x37.2.2.2.isDone,x37.2.1)=res:=Option.some.inj hD
 try dsimp only [Exit.then,Exit.inBlock]
 refine ret_cell_tmp2 (fn:=Tryz.f61) r rfl rfl (v':=(I x37.1)) (v2:=(.bool x37.2.2.2.isDone)) rfl rfl (hP.cell (i:=4) rfl) (k:=0) rfl ta128 ?_;subst hv;exact ⟨rfl,(hP.pick [1] rfl rfl).done (rest_cons rfl rest_nil)⟩
def D.prog_Prog_Res_Step (fu:Nat) (a0:Nat × T Res) (a1:Mem) (a2:Cap):Option ((Nat × T Res) × Bool × Mem):=(bif a0.2.isDone then (some (a0,false,a1)) else ((D.mem_Memory_Do fu a1 a2 (T.acc a0.2)).bind (fun (x16:Int × Bool × Mem)=>(bif (!x16.2.1) then (some (a0,false,x16.2.2)) else ((depthI a0.1).bind (fun (x26:Nat)=>(some ((x26,T.next a0.2 x16.1),true,x16.2.2))))))))
def D.prog_Run_Res (fu:Nat) (a0:Nat × T Res) (a1:Mem) (a2:Cap) (a3:Int):Option (Res × Int × Bool × Mem):=(loopThen (fun (x13:Int × Mem × (Nat × T Res))=>(Option.bind (bif (decide (x13.1<a3)) then (some (!x13.2.2.2.isDone)) else (some false)) (fun (x19:Bool)=>(bif x19 then ((D.prog_Prog_Res_Step fu x13.2.2 x13.2.1 a2).bind (fun (x23:(Nat × T Res) × Bool × Mem)=>(bif (!x23.2.1) then (some (Lp.brk (x13.1,x23.2.2,x13.2.2))) else (some (Lp.next ((IntKind.i64.wrap (x13.1+1)),x23.2.2,x23.1)))))) else (some (Lp.brk (x13.1,x13.2.1,x13.2.2))))))) fu (0,a1,a0) (fun (x37:Int × Mem × (Nat × T Res))=>(some ((T.res (⟨0,0⟩:Res) x37.2.2.2),x37.1,x37.2.2.2.isDone,x37.2.1))))
theorem cl20:callable Tryz.prog 20:=by kernel_rfl
theorem cl59:callable Tryz.prog 59:=by kernel_rfl
theorem cl60:callable Tryz.prog 60:=by kernel_rfl
theorem cl61:callable Tryz.prog 61:=by kernel_rfl
theorem cl62:callable Tryz.prog 62:=by kernel_rfl
def D.cubiclelaw09_Laid (fu:Nat) (a0:Plan):Option (Mem):=((D.mem_New fu ([(D.plan_Plan_Size a0)])).bind (fun (x10:Mem × Int)=>(Option.bind (bif (x10.2 !=0) then (some true) else (some false)) (fun (x16:Bool)=>(bif x16 then none else ((D.mem_Memory_Cap fu x10.1 0).bind (fun (x21:Cap)=>((D.prog_Run_None fu (fu,(D.free_Fresh (fu+1) a0)) x10.1 x21 (IntKind.i64.wrap (a0.nodes+1))).bind (fun (x22:Unit × Int × Bool × Mem)=>(bif (!x22.2.2.1) then none else (some x22.2.2.2)))))))))))
theorem c_cubiclelaw09_Laid {fu:Nat} (w0:World) (a0:Plan) {res:Mem} (hD:D.cubiclelaw09_Laid fu a0=some res) :
    Calls Tryz.prog 14 #[.agg (planC a0).toArray] w0 (fun e w'=>∃ (g0:MG),e=.returned (zp g0.mb)∧Done No No [memK g0 res] w0 w'):=by
 refine enter Tryz.func14 rfl 37 rfl rfl fun fr r=>?_;have hP:Post No [] w0 w0:=Post.nil w0
 unfold D.cubiclelaw09_Laid at hD
 refine wsr ?_;refine kX 23 (.agg (planC a0).toArray) r rfl rfl fun b1 w2 n3 r=>?_;have hP:Post No [cellC b1 ((planC a0)).toArray 23] w0 w2:=hP.new n3
 refine kA (.pointer none) r rfl rfl fun r=>wn (wsr (kG (planC a0) 6 r rfl (hP.cell (i:=0) rfl) ta23 rfl rfl fun r=>?_));refine kE r (c_plan_Plan_Size w2 a0) rfl cl60 rfl fun w5 hb r=>?_
 have hP:=hP.below hb;refine seq_newS (.cells (([(D.plan_Plan_Size a0)]).flatMap i64).toArray 3 (0,0)) 1 r (fun R=>y_bslice r (by kernel_rfl)) rfl fun fr b6 w7 n8 r=>?_;have hP:Post No [cellC b1 ((planC a0)).toArray 23,rowK 3 1 i64 (.slice (some ⟨b6,0,none⟩) 1 1) ([(D.plan_Plan_Size a0)])] w0 w7:=hP.newRow n8 (fun _=>rfl) rfl
 obtain ⟨x10,hx10,hD⟩:=bindD_elim hD;refine kC r (c_mem_New w7 ([(D.plan_Plan_Size a0)]) (hP.row (i:=1) rfl).ro hx10) rfl cl59 rfl ?_;rintro _ w11 ⟨mg12,rfl,hq⟩;refine ⟨_,rfl,fun fr r=>?_⟩
 have hP:Post No [cellC b1 ((planC a0)).toArray 23,rowK 3 1 i64 (.slice (some ⟨b6,0,none⟩) 1 1) ([(D.plan_Plan_Size a0)]),memK mg12 x10.1] w0 w11:=hP.add hq;refine kM (.tuple #[(zp mg12.mb),(I x10.2)]) r rfl rfl fun r=>seq_val (zp mg12.mb) r (fun R=>y_extract r (vs:=#[(zp mg12.mb),(I x10.2)]) rfl rfl) rfl fun fr r=>seq_val (I x10.2) r (fun R=>y_extract r (vs:=#[(zp mg12.mb),(I x10.2)]) rfl rfl) rfl fun fr r=>kA (zp mg12.mb) r rfl rfl fun r=>kA (I x10.2) r rfl rfl fun r=>wn (wp_seq (wp_seq ?_));have hP:Post No [cellC b1 ((planC a0)).toArray 23,memK mg12 x10.1] w0 w11:=hP.pick [0,2] rfl rfl
 refine wp_joinG (N:=37) (Y:=Bool) (G:=Unit) (fun x γ=>[(0,(.agg (planC a0).toArray)),(1,(zp b1)),(2,(.pointer none)),(3,(zp mg12.mb)),(4,(I x10.2)),(20,(.bool x))]) (fun x γ w=>Post No [cellC b1 ((planC a0)).toArray 23,memK mg12 x10.1] w0 w) hD ?_ ?_
 ·
  rintro y14 RPy14 nxy14 hD;refine wp_region_lit (kM (I x10.2) r rfl rfl fun r=>kB r rfl rfl rfl rfl rfl fun r=>kM (.bool (x10.2 !=0)) r rfl rfl fun r=>?_);refine seq_split (x10.2 !=0) (fun h15=>?_) (fun h15=>?_)
  ·
   have hD:=(cond_t h15).symm.trans hD;refine s0 r h15 fun fr r=>s0 r h15 fun fr r=>seq_val (.bool true) r (fun R=>y_pick r (b:=true) (kb h15) rfl) rfl fun fr r=>wn ?_;exact nxy14 true () _ _ _ hD r (kO (hs_cons rfl (hs_cons rfl hs_nil))) (hP.pick [0,1] rfl rfl)
  have hD:=(cond_f h15).symm.trans hD;refine s1 r h15 (kM (zp mg12.mb) r rfl rfl fun r=>s1 r h15 (kB r rfl rfl rfl rfl rfl fun r=>seq_val (.bool false) r (fun R=>y_pick r (b:=false) (kb h15) rfl) rfl fun fr r=>wn ?_));exact nxy14 false () _ _ _ hD r (kO (hs_cons rfl (hs_cons rfl hs_nil))) (hP.pick [0,1] rfl rfl)
 rintro x16 γ17 fr w18 g r hP hD;have hP:Post No [cellC b1 ((planC a0)).toArray 23,memK mg12 x10.1] w0 w18:=hP;refine wp_cond_split (t:=x16) (r.ev rfl) (fun h19=>?_) (fun h19=>?_)
 ·
  have hD:=(cond_t h19).symm.trans hD;refine wsr (kA (.pointer none) r rfl rfl fun r=>wn (wp_ret ?_));exact nomatch hD
 have hD:=(cond_f h19).symm.trans hD;refine wp_skip (wp_seq ?_);obtain ⟨x21,hx21,hD⟩:=bindD_elim hD;obtain ⟨x22,hx22,hD⟩:=bindD_elim hD;refine wp_freeE mg12.bs [.val (.agg (planC a0).toArray),.pred (PrP Tryz.prog encNone (fu,(D.free_Fresh (fu+1) a0))) (PrP.st _),.val (zp mg12.mb),.val (zp mg12.mb),.val (.agg (capC x21).toArray),.val (zp b1),.val (I a0.nodes),.val (I (W (a0.nodes+1))),.eff (EffP w18.heap.size (memK mg12 x22.2.2.2) (fun _:Unit=>(.tuple #[(.agg #[]),(I x22.2.1),(.bool x22.2.2.1)])) (fun _:Unit=>[])) (EffP.st _ _ _ _),.val (.tuple #[(.agg #[]),(I x22.2.1),(.bool x22.2.2.1)]),.val (.agg #[]),.val (I x22.2.1),.val (.bool x22.2.2.1),.cell 128 0,.stored 13 #[] 128 0 rfl,.val (I x22.2.1),.val (.bool x22.2.2.1)] mixed r (fun b hb=>hP.sep.lt (i:=1) rfl (.inl hb)) (by kernel_rfl) ?_ ?_
 ·
  refine eachE_late r rfl (fun fr1 g w' hk' hd r'=>?_) ?_
  · exact y_load_agg r' (cs:=(planC a0)) (n:=6) rfl (hP.cellK (j:=1) rfl (drK hk') (i:=0) rfl rfl) ta23 rfl bz
  refine eachE_early r rfl (by kernel_rfl) (fun fr1 g w' hb' hd r'=>?_) ?_
  · exact y_call r' (args:=[(.agg (planC a0).toArray)]) (lc (hd 0 rfl).1 l0) cl62 ((c_free_Fresh (F:=No) (n:=fu) (j:=fu+1) (fun _ h=>h.elim) (by omega) a0).mono (by rintro _ w2 ⟨y,rfl,hb2,hr2⟩; exact ⟨_,rfl,hb2,fresh_prog hr2⟩))
  refine eachE_early r rfl (by kernel_rfl) (fun fr1 g w' hb' hd r'=>?_) ?_
  · exact y_move r' (v:=(zp mg12.mb)) rfl bz
  refine eachE_late r rfl (fun fr1 g w' hk' hd r'=>?_) ?_
  · exact y_move r' (v:=(zp mg12.mb)) rfl bz
  refine eachE_early r rfl (by kernel_rfl) (fun fr1 g w' hb' hd r'=>?_) ?_
  · exact y_call r' (args:=[(zp mg12.mb),(I 0)]) (lc (hd 3 rfl).1 (lc rfl l0)) cl20 ((c_mem_Memory_Cap _ x10.1 ((hP.below (dr hb')).mem (i:=1) rfl) 0 hx21).mono (by rintro _ w2 ⟨rfl,hb2⟩; exact ⟨_,rfl,hb2,rfl⟩))
  refine eachE_late r rfl (fun fr1 g w' hk' hd r'=>?_) ?_
  · exact y_fieldAddr r' (b:=b1) (o:=0) (k:=0) rfl fo23_0 bz
  refine eachE_late r rfl (fun fr1 g w' hk' hd r'=>?_) ?_
  · exact y_load_one r' (v:=(I a0.nodes)) (hd 5 rfl).1 (hP.cellK (j:=1) rfl (drK hk') (i:=0) rfl rfl) to3 rfl bz
  refine eachE_early r rfl (by kernel_rfl) (fun fr1 g w' hb' hd r'=>?_) ?_
  · exact y_bin r' (u:=(I a0.nodes)) (u':=(I 1)) (v:=(I (W (a0.nodes+1)))) (hd 6 rfl).1 rfl rfl rfl bz
  refine eachE_early r rfl (by kernel_rfl) (fun fr1 g w' hb' hd r'=>?_) ?_
  · exact y_call r' (args:=[(g 1).v,(zp mg12.mb),(.agg (capC x21).toArray),(I (W (a0.nodes+1)))]) (lc rfl (lc (hd 2 rfl).1 (lc (hd 4 rfl).1 (lc (hd 7 rfl).1 l0)))) cl61 ((c_prog_Run_None _ (fu,(D.free_Fresh (fu+1) a0)) x10.1 x21 (W (a0.nodes+1)) (Sep.beside (hd 1 rfl).1 ((hP.below (dr hb')).sep.pk [1] rfl rfl) (by intro c hc b hb; simp only [List.mem_cons,List.not_mem_nil,or_false] at hc; rcases hc with rfl; exact hP.sep.lt (i:=1) rfl hb) (hd 1 rfl).2.1) hx22).mono (by rintro _ w2 ⟨rfl,hq⟩; exact ⟨_,rfl,hq.chg.kept,EffP.of () hq rfl (fun b hb=>hP.sep.lt (i:=1) rfl hb)⟩))
  refine eachE_late r rfl (fun fr1 g w' hk' hd r'=>?_) ?_
  · exact y_move r' (v:=(.tuple #[(.agg #[]),(I x22.2.1),(.bool x22.2.2.1)])) (EffP.val (hd 8 rfl).1) bz
  refine eachE_late r rfl (fun fr1 g w' hk' hd r'=>?_) ?_
  · exact y_extract r' (vs:=#[(.agg #[]),(I x22.2.1),(.bool x22.2.2.1)]) (hd 9 rfl).1 rfl bz
  refine eachE_late r rfl (fun fr1 g w' hk' hd r'=>?_) ?_
  · exact y_extract r' (vs:=#[(.agg #[]),(I x22.2.1),(.bool x22.2.2.1)]) (hd 9 rfl).1 rfl bz
  refine eachE_late r rfl (fun fr1 g w' hk' hd r'=>?_) ?_
  · exact y_extract r' (vs:=#[(.agg #[]),(I x22.2.1),(.bool x22.2.2.1)]) (hd 9 rfl).1 rfl bz
  refine eachE_late r rfl (fun fr1 g w' hk' hd r'=>?_) ?_
  · exact y_alloc tz128 (fun b w2 n2=>⟨n2.below,b,rfl,n2.eq,_,n2.at_,rfl⟩)
  refine eachE_late r rfl (fun fr1 g w' hk' hd r'=>?_) ?_
  · obtain ⟨hp,_,c,hc,hn⟩:=(hd 13 rfl).1; exact y_store r' (o:=0) (c:=c) (v:=(.agg #[])) hp (hd 10 rfl).1 hc ts128 (by rw [hn]; exact Nat.le_of_ble_eq_true rfl) rfl (over2_full (hn.trans rfl)) (fun w2 u2=>⟨u2,rfl⟩)
  refine eachE_late r rfl (fun fr1 g w' hk' hd r'=>?_) ?_
  · exact y_assign r' (v:=(I x22.2.1)) (hd 11 rfl).1 bz
  refine eachE_late r rfl (fun fr1 g w' hk' hd r'=>?_) ?_
  · exact y_assign r' (v:=(.bool x22.2.2.1)) (hd 12 rfl).1 bz
  exact eachF_nil
 intro fr gg w24 hb hΦ hap r;obtain ⟨v20,hv1⟩:∃ v,v=(gg 1).v:=⟨_,rfl⟩;have g1:(gg 1).v=v20:=hv1.symm;obtain ⟨F25,eF25⟩:∃ F,F=rg (gg 1).lo (gg 1).hi:=⟨_,rfl⟩;have hs1:Fresh [progK Tryz.prog encNone (fu,(D.free_Fresh (fu+1) a0)) v20 F25] (gg 1).lo (gg 1).hi w24:=by subst hv1; subst eF25; exact (hΦ 1 rfl).1
 obtain ⟨⟨⟩,g8,hcE,_,hs8⟩:=(hΦ 8 rfl).1;obtain ⟨b23,ee_b23⟩:∃ b,b=(gg 13).lo:=⟨_,rfl⟩;have g13:(gg 13).v=(zp b23):=by rw [ee_b23]; exact (hΦ 13 rfl).1.1
 have H23:w24.heap[b23]?=some (.cells #[] 128 (0,0)):=by rw [ee_b23]; exact (hΦ 14 rfl).1.2
 have hs13:Fresh [cellC b23 #[] 128] (gg 13).lo (gg 13).hi w24:=by subst ee_b23; exact Fresh.cell (hΦ 13 rfl).1.2.1 H23
 have r:=r.congr (sc ((hΦ 16 rfl).1) (sc ((hΦ 15 rfl).1) (sc g13 (sc ((hΦ 12 rfl).1) (sc ((hΦ 11 rfl).1) (sc ((hΦ 10 rfl).1) (sc ((hΦ 9 rfl).1) (sc g8 (sc ((hΦ 7 rfl).1) (sc ((hΦ 6 rfl).1) (sc ((hΦ 5 rfl).1) (sc ((hΦ 4 rfl).1) (sc ((hΦ 3 rfl).1) (sc ((hΦ 2 rfl).1) (sc g1 (sc ((hΦ 0 rfl).1) rfl))))))))))))))));have hP:Post No [cellC b1 ((planC a0)).toArray 23,memK mg12 x22.2.2.2,progK Tryz.prog encNone (fu,(D.free_Fresh (fu+1) a0)) v20 F25,cellC b23 #[] 128] w0 w24:=hP.effL (i:=1) (l:=[([progK Tryz.prog encNone (fu,(D.free_Fresh (fu+1) a0)) v20 F25],(gg 1).lo,(gg 1).hi),([cellC b23 #[] 128],(gg 13).lo,(gg 13).hi)]) rfl hb hcE rfl rfl ⟨hs1,(hΦ 1 rfl).2.1,(disj_cons (hap 1 13 rfl) disj_nil),⟨hs13,(hΦ 13 rfl).2.1,disj_nil,trivial⟩⟩;refine wp_seq (wsr (kM (.bool x22.2.2.1) r rfl rfl fun r=>seq_val (.bool (!x22.2.2.1)) r (fun R=>y_un r (u:=(.bool x22.2.2.1)) rfl rfl) rfl fun fr r=>wn ?_));refine wp_cond_split (t:=(!x22.2.2.1)) (r.ev rfl) (fun h26=>?_) (fun h26=>?_)
 ·
  have hD:=(cond_t h26).symm.trans hD;refine wsr (kA (.pointer none) r rfl rfl fun r=>wn (wp_ret ?_));exact nomatch hD
 have hD:=(cond_f h26).symm.trans hD;refine wp_skip (wsr (kM (zp mg12.mb) r rfl rfl fun r=>kA (zp mg12.mb) r rfl rfl fun r=>wn (wp_ret ?_)));have hv:x22.2.2.2=res:=Option.some.inj hD
 try dsimp only [Exit.then,Exit.inBlock]
 refine ret_tmp (fn:=Tryz.f14) r (t:=2) rfl (v:=(zp mg12.mb)) rfl ?_;subst hv;exact ⟨mg12,rfl,(hP.pick [1] rfl rfl).done (rest_cons rfl rest_nil)⟩
theorem cl21:callable Tryz.prog 21:=by kernel_rfl
end Go.Proofs.YtbbipmelhmgmfaaGreat

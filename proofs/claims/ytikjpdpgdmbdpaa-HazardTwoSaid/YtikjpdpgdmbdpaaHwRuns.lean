/- Written by a program of ours (wip/gen.py): programs run -/
import Derived.Test.YtikjpdpgdmbdpaaHwMems
import Derived.Test.YtikjpdpgdmbdpaaHwHazards
set_option linter.all false
set_option linter.unusedVariables false
set_option maxRecDepth 20000
set_option maxHeartbeats 2000000
namespace Go.Proofs.Ytikjpdpgdmbdpaa
open Go.RowKit
theorem cl49:callable Try.prog 49=true:=by kernel_rfl

theorem cl52:callable Try.prog 52=true:=by kernel_rfl

theorem cl8:callable Try.prog 8=true:=by kernel_rfl

theorem fo39_0:fieldOff Try.prog 39 0 0=true:=by kernel_rfl

theorem fo39_1:fieldOff Try.prog 39 1 1=true:=by kernel_rfl

theorem fo39_2:fieldOff Try.prog 39 2 2=true:=by kernel_rfl

theorem fo39_3:fieldOff Try.prog 39 3 6=true:=by kernel_rfl

theorem fo76_0:fieldOff Try.prog 76 0 0=true:=by kernel_rfl

theorem fo76_1:fieldOff Try.prog 76 1 1=true:=by kernel_rfl

theorem fo76_2:fieldOff Try.prog 76 2 2=true:=by kernel_rfl

theorem fo76_3:fieldOff Try.prog 76 3 6=true:=by kernel_rfl

theorem to37:tyO Try.prog 37=true:=by kernel_rfl

theorem to74:tyO Try.prog 74=true:=by kernel_rfl

theorem ts65:sized Try.prog 65 0=true:=by kernel_rfl

theorem tz65:zeroOf Try.prog 65=some (.agg #[]):=by kernel_rfl

def D.prog_Prog_None_Step (fu:Nat) (a0:Nat × T Unit) (a1:Mem) (a2:Cap):Option ((Nat × T Unit) × Bool × Mem):=(bif a0.2.isDone then (some (a0,false,a1)) else ((D.mem_Memory_Do fu a1 a2 (T.acc a0.2)).bind (fun (x16:Int × Bool × Mem)=>(bif (!x16.2.1) then (some (a0,false,x16.2.2)) else ((depthI a0.1).bind (fun (x26:Nat)=>(some ((x26,T.next a0.2 x16.1),true,x16.2.2))))))))

set_option maxRecDepth 20000 in
set_option maxHeartbeats 20000000 in
theorem c_prog_Prog_None_Step {fu:Nat} (w0:World) {a0_v:Value} {a0_F:List Nat} (a0:Nat × T Unit) {a1_g:MG} (a1:Mem) (a2:Cap) (hS:Sep [progK Try.prog encNone a0 a0_v a0_F,memK a1_g a1] w0) {res:(Nat × T Unit) × Bool × Mem} (hD:D.prog_Prog_None_Step fu a0 a1 a2=some res) :
    Calls Try.prog 49 #[a0_v,.pointer (some ⟨a1_g.mb,0,none⟩),.agg (capC a2).toArray] w0 (fun e w'=>∃ (v0:Value) (F0:List Nat),e=.returned (.tuple #[v0,(.bool res.2.1)])∧Done (fun b=>b∈(memK a1_g a1).own) (fun b=>b∈a0_F) [memK a1_g res.2.2,progK Try.prog encNone res.1 v0 F0] w0 w'):=by
 refine enter Try.func49 rfl 28 rfl rfl fun fr r=>?_;have hP:Post (fun b=>b∈(memK a1_g a1).own) [progK Try.prog encNone a0 a0_v a0_F,memK a1_g a1] w0 w0:=.start hS (by simp [memK,progK])
 unfold D.prog_Prog_None_Step at hD
 refine wsr ?_;refine seq_new (.cells a0_v.cells 70 (0,0)) r (fun R=>y_box r (v:=a0_v) rfl) rfl fun fr b1 w2 n3 r=>?_;have hP:Post (fun b=>b∈(memK a1_g a1).own) [progK Try.prog encNone a0 a0_v a0_F,memK a1_g a1,cellC b1 a0_v.cells 70] w0 w2:=hP.new n3
 refine seq_new (.cells ((capC a2)).toArray 33 (0,0)) r (fun R=>y_box r (v:=(.agg (capC a2).toArray)) rfl) rfl fun fr b5 w6 n7 r=>?_;have hP:Post (fun b=>b∈(memK a1_g a1).own) [progK Try.prog encNone a0 a0_v a0_F,memK a1_g a1,cellC b1 a0_v.cells 70,cellC b5 ((capC a2)).toArray 33] w0 w6:=hP.new n7
 refine seq_new (.cells (progCells false encNone.zero 0 0 0 0 .nilFunc) 70 (0,0)) r (fun R=>y_alloc tz70) rfl fun fr b9 w10 n11 r=>?_;have hP:Post (fun b=>b∈(memK a1_g a1).own) [progK Try.prog encNone a0 a0_v a0_F,memK a1_g a1,cellC b1 a0_v.cells 70,cellC b5 ((capC a2)).toArray 33,cellC b9 (progCells false encNone.zero 0 0 0 0 .nilFunc) 70] w0 w10:=hP.new n11
 refine seq_val (.bool false) r (fun R=>y_assign r rfl) rfl fun fr r=>?_;refine wn ?_
 refine wp_seq ?_;refine wsr ?_;refine seq_val _ r (fun R=>y_fieldAddr r (b:=b1) (o:=0) (k:=0) rfl fo70_0) rfl fun fr r=>?_;refine seq_val (.bool a0.2.isDone) r (fun R=>y_load_one r rfl (hP.cell (i:=2) rfl) to4 (Rep.over_at (hP.prog (i:=0) rfl))) rfl fun fr r=>?_
 refine wn ?_;refine wp_cond_split (t:=a0.2.isDone) (r.ev rfl) (fun h13=>?_) (fun h13=>?_)
 ·
  have hD:=(cond_t h13).symm.trans hD;refine wsr ?_;refine seq_val a0_v r (fun R=>y_loadp r (hP.prog (i:=0) rfl).shape rfl (hP.cell (i:=2) rfl) ta70) rfl fun fr r=>?_;refine seq_upd (.cells a0_v.cells 70 (0,0)) r (fun R=>y_storep r (hP.prog (i:=0) rfl).shape rfl rfl (hP.cell (i:=4) rfl) ts70 rfl) rfl fun fr w14 u15 r=>?_
  have hP:Post (fun b=>b∈(memK a1_g a1).own) [progK Try.prog encNone a0 a0_v a0_F,memK a1_g a1,cellC b1 a0_v.cells 70,cellC b5 ((capC a2)).toArray 33,cellC b9 a0_v.cells 70] w0 w14:=hP.upd (i:=4) rfl u15
  refine seq_val (.bool false) r (fun R=>y_assign r rfl) rfl fun fr r=>?_;refine wn ?_
  refine wp_ret ?_;have hv:(a0,false,a1)=res:=Option.some.inj hD
  try dsimp only [Exit.then,Exit.inBlock]
  have hs:=(hP.prog (i:=0) rfl).shape.cells;refine ret_cell_tmp (fn:=Try.f49) r rfl rfl (v':=(.bool false)) rfl (hP.cell (i:=4) rfl) (k:=6) hs.1 ta70 ?_;rw [←hs.2.2];subst hv;exact ⟨a0_v,a0_F,rfl,(hP.pick [1,0] rfl rfl).done (rest_cons rfl (rest_consP (fun b h=>.inl h) rest_nil))⟩
 have hD:=(cond_f h13).symm.trans hD;refine wp_skip ?_;refine wsr ?_;refine seq_val (.pointer (some ⟨a1_g.mb,0,none⟩)) r (fun R=>y_move r rfl) rfl fun fr r=>?_;refine seq_val (.agg (capC a2).toArray) r (fun R=>y_load_agg r (cs:=(capC a2)) (n:=2) rfl (hP.cell (i:=3) rfl) ta33 rfl) rfl fun fr r=>?_
 refine seq_val _ r (fun R=>y_fieldAddr r (b:=b1) (o:=0) (k:=1) rfl fo70_2) rfl fun fr r=>?_;refine seq_val (.agg (accessC (T.acc a0.2)).toArray) r (fun R=>y_load_agg r (cs:=(accessC (T.acc a0.2))) (n:=4) rfl (hP.cell (i:=2) rfl) ta36 (Rep.acc_at (hP.prog (i:=0) rfl) h13)) rfl fun fr r=>?_
 obtain ⟨x16,hx16,hD⟩:=bindD_elim hD;refine seq_call r (c_mem_Memory_Do w10 a1 a2 (T.acc a0.2) (hP.sep.pk [1] rfl rfl) hx16) (fun R hc=>y_call r rfl cl8 hc) rfl ?_;rintro _ w17 ⟨rfl,hq⟩
 refine ⟨_,rfl,fun fr r=>?_⟩
 have hP:Post (fun b=>b∈(memK a1_g a1).own) [progK Try.prog encNone a0 a0_v a0_F,memK a1_g x16.2.2,cellC b1 a0_v.cells 70,cellC b5 ((capC a2)).toArray 33,cellC b9 (progCells false encNone.zero 0 0 0 0 .nilFunc) 70] w0 w17:=hP.setN (i:=1) rfl hq
 refine seq_val (.tuple #[(U x16.1),(.bool x16.2.1)]) r (fun R=>y_move r rfl) rfl fun fr r=>?_;refine seq_val (U x16.1) r (fun R=>y_extract r (vs:=#[(U x16.1),(.bool x16.2.1)]) rfl rfl) rfl fun fr r=>?_
 refine seq_val (.bool x16.2.1) r (fun R=>y_extract r (vs:=#[(U x16.1),(.bool x16.2.1)]) rfl rfl) rfl fun fr r=>?_;refine seq_val (U x16.1) r (fun R=>y_assign r rfl) rfl fun fr r=>?_
 refine seq_val (.bool x16.2.1) r (fun R=>y_assign r rfl) rfl fun fr r=>?_;refine wn ?_
 refine wp_seq ?_;refine wsr ?_;refine seq_val (.bool x16.2.1) r (fun R=>y_move r rfl) rfl fun fr r=>?_;refine seq_val (.bool (!x16.2.1)) r (fun R=>y_un r (u:=(.bool x16.2.1)) rfl rfl) rfl fun fr r=>?_
 refine wn ?_;refine wp_cond_split (t:=(!x16.2.1)) (r.ev rfl) (fun h18=>?_) (fun h18=>?_)
 ·
  have hD:=(cond_t h18).symm.trans hD;refine wsr ?_;refine seq_val a0_v r (fun R=>y_loadp r (hP.prog (i:=0) rfl).shape rfl (hP.cell (i:=2) rfl) ta70) rfl fun fr r=>?_;refine seq_upd (.cells a0_v.cells 70 (0,0)) r (fun R=>y_storep r (hP.prog (i:=0) rfl).shape rfl rfl (hP.cell (i:=4) rfl) ts70 rfl) rfl fun fr w19 u20 r=>?_
  have hP:Post (fun b=>b∈(memK a1_g a1).own) [progK Try.prog encNone a0 a0_v a0_F,memK a1_g x16.2.2,cellC b1 a0_v.cells 70,cellC b5 ((capC a2)).toArray 33,cellC b9 a0_v.cells 70] w0 w19:=hP.upd (i:=4) rfl u20
  refine seq_val (.bool false) r (fun R=>y_assign r rfl) rfl fun fr r=>?_;refine wn ?_
  refine wp_ret ?_;have hv:(a0,false,x16.2.2)=res:=Option.some.inj hD
  try dsimp only [Exit.then,Exit.inBlock]
  have hs:=(hP.prog (i:=0) rfl).shape.cells;refine ret_cell_tmp (fn:=Try.f49) r rfl rfl (v':=(.bool false)) rfl (hP.cell (i:=4) rfl) (k:=6) hs.1 ta70 ?_;rw [←hs.2.2];subst hv;exact ⟨a0_v,a0_F,rfl,(hP.pick [1,0] rfl rfl).done (rest_cons rfl (rest_consP (fun b h=>.inl h) rest_nil))⟩
 have hD:=(cond_f h18).symm.trans hD;refine wp_skip ?_;refine wsr ?_;refine seq_val _ r (fun R=>y_fieldAddr r (b:=b1) (o:=0) (k:=5) rfl fo70_3) rfl fun fr r=>?_;obtain ⟨nf21,n122,n223,hv24,hk25⟩:=Rep.next_at (hP.prog (i:=0) rfl) h13
 refine seq_val (.func (.func nf21) n122.toArray n223.toArray) r (fun R=>y_load_one r rfl (hP.cell (i:=2) rfl) to68 hv24) rfl fun fr r=>?_;refine seq_val (U x16.1) r (fun R=>y_move r rfl) rfl fun fr r=>?_
 obtain ⟨x26,hx26,hD⟩:=bindD_elim hD;refine seq_call r (hk25.at_.2 x26 (by rw [depthI_eq hx26]; exact Nat.lt_succ_self _) x16.1 w17 (Same.refl _ _) (Nat.le_refl _)) (fun R hc=>y_callv1 r rfl rfl hk25.at_.1 hc) rfl ?_;rintro _ w27 ⟨v28,rfl,hb,hr29⟩
 refine ⟨_,rfl,fun fr r=>?_⟩
 have zw27:=hP.size;have hP:Post (fun b=>b∈(memK a1_g a1).own) [progK Try.prog encNone a0 a0_v a0_F,memK a1_g x16.2.2,cellC b1 a0_v.cells 70,cellC b5 ((capC a2)).toArray 33,cellC b9 (progCells false encNone.zero 0 0 0 0 .nilFunc) 70,progK Try.prog encNone (x26,T.next a0.2 x16.1) v28 (a0_F++rg w17.heap.size w27.heap.size)] w0 w27:=hP.addProgF (k:=0) rfl hb hr29
 refine seq_upd (.cells v28.cells 70 (0,0)) r (fun R=>y_storep r (hP.prog (i:=5) rfl).shape rfl rfl (hP.cell (i:=4) rfl) ts70 rfl) rfl fun fr w31 u32 r=>?_;have hP:Post (fun b=>b∈(memK a1_g a1).own) [progK Try.prog encNone a0 a0_v a0_F,memK a1_g x16.2.2,cellC b1 a0_v.cells 70,cellC b5 ((capC a2)).toArray 33,cellC b9 v28.cells 70,progK Try.prog encNone (x26,T.next a0.2 x16.1) v28 (a0_F++rg w17.heap.size w27.heap.size)] w0 w31:=hP.upd (i:=4) rfl u32
 refine seq_val (.bool true) r (fun R=>y_assign r rfl) rfl fun fr r=>?_;refine wn ?_
 refine wp_ret ?_;have hv:((x26,T.next a0.2 x16.1),true,x16.2.2)=res:=Option.some.inj hD
 try dsimp only [Exit.then,Exit.inBlock]
 have hs:=(hP.prog (i:=5) rfl).shape.cells;refine ret_cell_tmp (fn:=Try.f49) r rfl rfl (v':=(.bool true)) rfl (hP.cell (i:=4) rfl) (k:=6) hs.1 ta70 ?_;rw [←hs.2.2];subst hv;exact ⟨v28,(a0_F++rg w17.heap.size w27.heap.size),rfl,(hP.pick [1,5] rfl rfl).done (rest_cons rfl (rest_consP (fun b h=>(List.mem_append.1 h).elim .inl (fun h=>.inr (by have:=(mem_rg.1 h).1; omega))) rest_nil))⟩

def D.prog_Run_None (fu:Nat) (a0:Nat × T Unit) (a1:Mem) (a2:Cap) (a3:Int):Option (Unit × Int × Bool × Mem):=(loopThen (fun (x13:Int × Mem × (Nat × T Unit))=>(Option.bind (bif (decide (x13.1<a3)) then (some (!x13.2.2.2.isDone)) else (some false)) (fun (x19:Bool)=>(bif x19 then ((D.prog_Prog_None_Step fu x13.2.2 x13.2.1 a2).bind (fun (x23:(Nat × T Unit) × Bool × Mem)=>(bif (!x23.2.1) then (some (Lp.brk (x13.1,x23.2.2,x13.2.2))) else (some (Lp.next ((IntKind.i64.wrap (x13.1+1)),x23.2.2,x23.1)))))) else (some (Lp.brk (x13.1,x13.2.1,x13.2.2))))))) fu (0,a1,a0) (fun (x37:Int × Mem × (Nat × T Unit))=>(some ((),x37.1,x37.2.2.2.isDone,x37.2.1))))

set_option maxRecDepth 20000 in
set_option maxHeartbeats 20000000 in
theorem c_prog_Run_None {fu:Nat} (w0:World) {a0_v:Value} {a0_F:List Nat} (a0:Nat × T Unit) {a1_g:MG} (a1:Mem) (a2:Cap) (a3:Int) (hS:Sep [progK Try.prog encNone a0 a0_v a0_F,memK a1_g a1] w0) {res:Unit × Int × Bool × Mem} (hD:D.prog_Run_None fu a0 a1 a2 a3=some res) :
    Calls Try.prog 23 #[a0_v,.pointer (some ⟨a1_g.mb,0,none⟩),.agg (capC a2).toArray,.int .i64 a3] w0 (fun e w'=>e=.returned (.tuple #[(.agg #[]),(.int .i64 res.2.1),(.bool res.2.2.1)])∧Done (fun b=>b∈(memK a1_g a1).own) No [memK a1_g res.2.2.2] w0 w'):=by
 refine enter Try.func23 rfl 39 rfl rfl fun fr r=>?_;have hP:Post (fun b=>b∈(memK a1_g a1).own) [progK Try.prog encNone a0 a0_v a0_F,memK a1_g a1] w0 w0:=.start hS (by simp [memK,progK])
 unfold D.prog_Run_None at hD
 refine wsr ?_;refine seq_new (.cells a0_v.cells 70 (0,0)) r (fun R=>y_box r (v:=a0_v) rfl) rfl fun fr b1 w2 n3 r=>?_;have hP:Post (fun b=>b∈(memK a1_g a1).own) [progK Try.prog encNone a0 a0_v a0_F,memK a1_g a1,cellC b1 a0_v.cells 70] w0 w2:=hP.new n3
 refine seq_new (.cells ((capC a2)).toArray 33 (0,0)) r (fun R=>y_box r (v:=(.agg (capC a2).toArray)) rfl) rfl fun fr b5 w6 n7 r=>?_;have hP:Post (fun b=>b∈(memK a1_g a1).own) [progK Try.prog encNone a0 a0_v a0_F,memK a1_g a1,cellC b1 a0_v.cells 70,cellC b5 ((capC a2)).toArray 33] w0 w6:=hP.new n7
 refine seq_new (.cells #[] 65 (0,0)) r (fun R=>y_alloc tz65) rfl fun fr b9 w10 n11 r=>?_;have hP:Post (fun b=>b∈(memK a1_g a1).own) [progK Try.prog encNone a0 a0_v a0_F,memK a1_g a1,cellC b1 a0_v.cells 70,cellC b5 ((capC a2)).toArray 33,cellC b9 #[] 65] w0 w10:=hP.new n11
 refine seq_val (I 0) r (fun R=>y_assign r rfl) rfl fun fr r=>?_;refine seq_val (.bool false) r (fun R=>y_assign r rfl) rfl fun fr r=>?_
 refine wn ?_;refine wsr ?_;refine seq_val (I 0) r (fun R=>y_assign r rfl) rfl fun fr r=>?_;refine wn ?_
 refine wp_seq ?_;refine wp_loopG (X:=Int × Mem × (Nat × T Unit)) (G:=Value × List Nat) (x0:=(0,a1,a0)) (fun x γ=>[(0,a0_v),(1,(.pointer (some ⟨a1_g.mb,0,none⟩))),(2,(.agg (capC a2).toArray)),(3,(I a3)),(4,(.pointer (some ⟨b1,0,none⟩))),(6,(.pointer (some ⟨b5,0,none⟩))),(8,(.pointer (some ⟨b9,0,none⟩))),(9,(I 0)),(10,(.bool false)),(11,(I x.1))]) (fun x γ w=>Post (fun b=>b∈(memK a1_g a1).own) [progK Try.prog encNone x.2.2 γ.1 γ.2,memK a1_g x.2.1,cellC b1 γ.1.cells 70,cellC b5 ((capC a2)).toArray 33,cellC b9 #[] 65] w0 w) (a0_v,a0_F) r (hs_cons rfl (hs_cons rfl (hs_cons rfl (hs_cons rfl (hs_cons rfl (hs_cons rfl (hs_cons rfl (hs_cons rfl (hs_cons rfl (hs_cons rfl hs_nil)))))))))) hP hD ?_ ?_
 ·
  rintro x13 γ14 fr w16 g y15 RPy15 nxy15 bky15 rty15 r hP hD;have hP:Post (fun b=>b∈(memK a1_g a1).own) [progK Try.prog encNone x13.2.2 γ14.1 γ14.2,memK a1_g x13.2.1,cellC b1 γ14.1.cells 70,cellC b5 ((capC a2)).toArray 33,cellC b9 #[] 65] w0 w16:=hP
  refine wp_seq ?_;refine wp_seq ?_;refine wp_joinG (N:=39) (Y:=Bool) (G:=Unit) (fun x γ=>[(0,a0_v),(1,(.pointer (some ⟨a1_g.mb,0,none⟩))),(2,(.agg (capC a2).toArray)),(3,(I a3)),(4,(.pointer (some ⟨b1,0,none⟩))),(6,(.pointer (some ⟨b5,0,none⟩))),(8,(.pointer (some ⟨b9,0,none⟩))),(9,(I 0)),(10,(.bool false)),(11,(I x13.1)),(21,(.bool x))]) (fun x γ w=>Post (fun b=>b∈(memK a1_g a1).own) [progK Try.prog encNone x13.2.2 γ14.1 γ14.2,memK a1_g x13.2.1,cellC b1 γ14.1.cells 70,cellC b5 ((capC a2)).toArray 33,cellC b9 #[] 65] w0 w) hD ?_ ?_
  ·
   rintro y17 RPy17 nxy17 hD;refine wp_region_lit ?_;refine seq_val (I x13.1) r (fun R=>y_move r rfl) rfl fun fr r=>?_;refine seq_val (I a3) r (fun R=>y_move r rfl) rfl fun fr r=>?_
   refine seq_val _ r (fun R=>y_bin r rfl rfl rfl rfl) rfl fun fr r=>?_;refine seq_val (.bool (decide (x13.1<a3))) r (fun R=>y_move r rfl) rfl fun fr r=>?_
   refine seq_split (decide (x13.1<a3)) (fun h18=>?_) (fun h18=>?_)
   ·
    have hD:=(cond_t h18).symm.trans hD;refine s1 r h18 ?_;refine seq_val _ r (fun R=>y_fieldAddr r (b:=b1) (o:=0) (k:=0) rfl fo70_0) rfl fun fr r=>?_;refine s1 r h18 ?_
    refine seq_val (.bool x13.2.2.2.isDone) r (fun R=>y_load_one r rfl (hP.cell (i:=2) rfl) to4 (Rep.over_at (hP.prog (i:=0) rfl))) rfl fun fr r=>?_;refine s1 r h18 ?_
    refine seq_val (.bool (!x13.2.2.2.isDone)) r (fun R=>y_un r (u:=(.bool x13.2.2.2.isDone)) rfl rfl) rfl fun fr r=>?_;refine seq_val (.bool (!x13.2.2.2.isDone)) r (fun R=>y_pick r (b:=true) (congrArg Value.bool h18) rfl) rfl fun fr r=>?_
    refine wn ?_;exact nxy17 (!x13.2.2.2.isDone) () _ _ _ hD r (hs_cons rfl (hs_cons rfl (hs_cons rfl (hs_cons rfl (hs_cons rfl (hs_cons rfl (hs_cons rfl (hs_cons rfl (hs_cons rfl (hs_cons rfl (hs_cons rfl hs_nil))))))))))) (hP.pick [0,1,2,3,4] rfl rfl)
   have hD:=(cond_f h18).symm.trans hD;refine s0 r h18 fun fr r=>?_;refine s0 r h18 fun fr r=>?_
   refine s0 r h18 fun fr r=>?_;refine seq_val (.bool false) r (fun R=>y_pick r (b:=false) (congrArg Value.bool h18) rfl) rfl fun fr r=>?_
   refine wn ?_;exact nxy17 false () _ _ _ hD r (hs_cons rfl (hs_cons rfl (hs_cons rfl (hs_cons rfl (hs_cons rfl (hs_cons rfl (hs_cons rfl (hs_cons rfl (hs_cons rfl (hs_cons rfl (hs_cons rfl hs_nil))))))))))) (hP.pick [0,1,2,3,4] rfl rfl)
  rintro x19 γ20 fr w21 g r hP hD;have hP:Post (fun b=>b∈(memK a1_g a1).own) [progK Try.prog encNone x13.2.2 γ14.1 γ14.2,memK a1_g x13.2.1,cellC b1 γ14.1.cells 70,cellC b5 ((capC a2)).toArray 33,cellC b9 #[] 65] w0 w21:=hP
  refine wp_cond_split (t:=x19) (r.ev rfl) (fun h22=>?_) (fun h22=>?_)
  ·
   have hD:=(cond_t h22).symm.trans hD;refine wp_skip ?_;refine wp_block ?_;refine wsr ?_;refine seq_val γ14.1 r (fun R=>y_loadp r (hP.prog (i:=0) rfl).shape rfl (hP.cell (i:=2) rfl) ta70) rfl fun fr r=>?_;refine seq_val (.pointer (some ⟨a1_g.mb,0,none⟩)) r (fun R=>y_move r rfl) rfl fun fr r=>?_
   refine seq_val (.agg (capC a2).toArray) r (fun R=>y_load_agg r (cs:=(capC a2)) (n:=2) rfl (hP.cell (i:=3) rfl) ta33 rfl) rfl fun fr r=>?_;obtain ⟨x23,hx23,hD⟩:=bindD_elim hD
   refine seq_call r (c_prog_Prog_None_Step w21 x13.2.2 x13.2.1 a2 (hP.sep.pk [0,1] rfl rfl) hx23) (fun R hc=>y_call r rfl cl49 hc) rfl ?_;rintro _ w24 ⟨v25,F26,rfl,hq⟩
   refine ⟨_,rfl,fun fr r=>?_⟩
   have hP:Post (fun b=>b∈(memK a1_g a1).own) [progK Try.prog encNone x13.2.2 γ14.1 γ14.2,memK a1_g x23.2.2,cellC b1 γ14.1.cells 70,cellC b5 ((capC a2)).toArray 33,cellC b9 #[] 65,progK Try.prog encNone x23.1 v25 F26] w0 w24:=hP.setR (i:=1) (k:=0) rfl rfl rfl hq
   refine seq_val (.tuple #[v25,(.bool x23.2.1)]) r (fun R=>y_move r rfl) rfl fun fr r=>?_;refine seq_val v25 r (fun R=>y_extract r (vs:=#[v25,(.bool x23.2.1)]) rfl rfl) rfl fun fr r=>?_
   refine seq_val (.bool x23.2.1) r (fun R=>y_extract r (vs:=#[v25,(.bool x23.2.1)]) rfl rfl) rfl fun fr r=>?_;refine seq_new (.cells (progCells false encNone.zero 0 0 0 0 .nilFunc) 70 (0,0)) r (fun R=>y_alloc tz70) rfl fun fr b28 w29 n30 r=>?_
   have hP:Post (fun b=>b∈(memK a1_g a1).own) [progK Try.prog encNone x13.2.2 γ14.1 γ14.2,memK a1_g x23.2.2,cellC b1 γ14.1.cells 70,cellC b5 ((capC a2)).toArray 33,cellC b9 #[] 65,progK Try.prog encNone x23.1 v25 F26,cellC b28 (progCells false encNone.zero 0 0 0 0 .nilFunc) 70] w0 w29:=hP.new n30
   refine seq_upd (.cells v25.cells 70 (0,0)) r (fun R=>y_storep r (hP.prog (i:=5) rfl).shape rfl rfl (hP.cell (i:=6) rfl) ts70 rfl) rfl fun fr w32 u33 r=>?_;have hP:Post (fun b=>b∈(memK a1_g a1).own) [progK Try.prog encNone x13.2.2 γ14.1 γ14.2,memK a1_g x23.2.2,cellC b1 γ14.1.cells 70,cellC b5 ((capC a2)).toArray 33,cellC b9 #[] 65,progK Try.prog encNone x23.1 v25 F26,cellC b28 v25.cells 70] w0 w32:=hP.upd (i:=6) rfl u33
   refine seq_val (.bool x23.2.1) r (fun R=>y_assign r rfl) rfl fun fr r=>?_;refine wn ?_
   refine wp_seq ?_;refine wsr ?_;refine seq_val (.bool x23.2.1) r (fun R=>y_move r rfl) rfl fun fr r=>?_;refine seq_val (.bool (!x23.2.1)) r (fun R=>y_un r (u:=(.bool x23.2.1)) rfl rfl) rfl fun fr r=>?_
   refine wn ?_;refine wp_cond_split (t:=(!x23.2.1)) (r.ev rfl) (fun h34=>?_) (fun h34=>?_)
   ·
    have hD:=(cond_t h34).symm.trans hD;refine wp_exit ?_;exact bky15 (x13.1,x23.2.2,x13.2.2) (γ14.1,γ14.2) _ _ _ hD r (hs_cons rfl (hs_cons rfl (hs_cons rfl (hs_cons rfl (hs_cons rfl (hs_cons rfl (hs_cons rfl (hs_cons rfl (hs_cons rfl (hs_cons rfl hs_nil)))))))))) (hP.pick [0,1,2,3,4] rfl rfl)
   have hD:=(cond_f h34).symm.trans hD;refine wp_skip ?_;refine wsr ?_;refine seq_val v25 r (fun R=>y_loadp r (hP.prog (i:=5) rfl).shape rfl (hP.cell (i:=6) rfl) ta70) rfl fun fr r=>?_;refine seq_upd (.cells v25.cells 70 (0,0)) r (fun R=>y_storep r (hP.prog (i:=5) rfl).shape rfl rfl (hP.cell (i:=2) rfl) ts70 (by have h:=(hP.prog (i:=0) rfl).shape.cells.1; simpa using h)) rfl fun fr w35 u36 r=>?_
   have hP:Post (fun b=>b∈(memK a1_g a1).own) [progK Try.prog encNone x13.2.2 γ14.1 γ14.2,memK a1_g x23.2.2,cellC b1 v25.cells 70,cellC b5 ((capC a2)).toArray 33,cellC b9 #[] 65,progK Try.prog encNone x23.1 v25 F26,cellC b28 v25.cells 70] w0 w35:=hP.upd (i:=2) rfl u36
   refine wn ?_;refine wp_region_lit ?_;refine seq_val (I x13.1) r (fun R=>y_move r rfl) rfl fun fr r=>?_;refine seq_val _ r (fun R=>y_bin r rfl rfl rfl rfl) rfl fun fr r=>?_
   refine seq_val (I (W (x13.1+1))) r (fun R=>y_assign r rfl) rfl fun fr r=>?_;refine wn ?_
   exact nxy15 ((W (x13.1+1)),x23.2.2,x23.1) (v25,F26) _ _ _ hD r (hs_cons rfl (hs_cons rfl (hs_cons rfl (hs_cons rfl (hs_cons rfl (hs_cons rfl (hs_cons rfl (hs_cons rfl (hs_cons rfl (hs_cons rfl hs_nil)))))))))) (hP.pick [5,1,2,3,4] rfl rfl)
  have hD:=(cond_f h22).symm.trans hD;refine wp_exit ?_;exact bky15 (x13.1,x13.2.1,x13.2.2) (γ14.1,γ14.2) _ _ _ hD r (hs_cons rfl (hs_cons rfl (hs_cons rfl (hs_cons rfl (hs_cons rfl (hs_cons rfl (hs_cons rfl (hs_cons rfl (hs_cons rfl (hs_cons rfl hs_nil)))))))))) (hP.pick [0,1,2,3,4] rfl rfl)
 rintro x37 γ38 fr w39 g r hP hD;have hP:Post (fun b=>b∈(memK a1_g a1).own) [progK Try.prog encNone x37.2.2 γ38.1 γ38.2,memK a1_g x37.2.1,cellC b1 γ38.1.cells 70,cellC b5 ((capC a2)).toArray 33,cellC b9 #[] 65] w0 w39:=hP
 refine wp_seq ?_;refine wp_freeE [b9] [.pred (fun v _ _ _=>∃ sp,v=.pointer (some ⟨b1,1,sp⟩)) (fun _ _ _ _ _ h _=>h),.val (.agg #[]),.val (I x37.1),.val (.pointer (some ⟨b1,0,none⟩)),.val (.bool x37.2.2.2.isDone),.eff (EffP w39.heap.size (cellC b9 #[] 65) (fun _:Unit=>undef) (fun _:Unit=>[])) (EffP.st _ _ _ _),.val (I x37.1),.val (.bool x37.2.2.2.isDone)] mixed r (fun b hb=>hP.sep.lt (i:=4) rfl (.inl hb)) (by kernel_rfl) ?_ ?_
 ·
  refine eachE_early r rfl (by kernel_rfl) (fun fr1 g w' hb' hd r'=>?_) ?_
  · exact y_fieldAddrZ r' rfl fz70 ((hP.below (dr hb')).cell (i:=2) rfl) (fun sp=>⟨Below.refl _ _,sp,rfl⟩)
  refine eachE_early r rfl (by kernel_rfl) (fun fr1 g w' hb' hd r'=>?_) ?_
  · obtain ⟨sp,hsp⟩:=(hd 0 rfl).1; exact y_load_zero r' hsp ta65 ⟨Below.refl _ _,rfl⟩
  refine eachE_late r rfl (fun fr1 g w' hk' hd r'=>?_) ?_
  · exact y_move r' (v:=(I x37.1)) rfl ⟨Below.refl _ _,rfl⟩
  refine eachE_late r rfl (fun fr1 g w' hk' hd r'=>?_) ?_
  · exact y_fieldAddr r' (b:=b1) (o:=0) (k:=0) rfl fo70_0 ⟨Below.refl _ _,rfl⟩
  refine eachE_late r rfl (fun fr1 g w' hk' hd r'=>?_) ?_
  · exact y_load_one r' (v:=(.bool x37.2.2.2.isDone)) (hd 3 rfl).1 (hP.cellK (j:=4) rfl (drK hk') (i:=2) rfl rfl) to4 (Rep.over_at (show Rep _ _ _ _ _ _ _ from hP.okK (j:=4) rfl (drK hk') (i:=0) rfl rfl)) ⟨Below.refl _ _,rfl⟩
  refine eachE_early r rfl (by kernel_rfl) (fun fr1 g w' hb' hd r'=>?_) ?_
  · exact y_store r' (o:=0) (v:=(.agg #[])) rfl (hd 1 rfl).1 ((hP.below (dr hb')).cell (i:=4) rfl) ts65 (Nat.le_of_ble_eq_true rfl) rfl rfl (fun w2 u2=>⟨u2.kept,(),rfl,u2.at_,(fun b hb=>hP.sep.lt (i:=4) rfl hb),fresh_nil⟩)
  refine eachE_late r rfl (fun fr1 g w' hk' hd r'=>?_) ?_
  · exact y_assign r' (v:=(I x37.1)) (hd 2 rfl).1 ⟨Below.refl _ _,rfl⟩
  refine eachE_late r rfl (fun fr1 g w' hk' hd r'=>?_) ?_
  · exact y_assign r' (v:=(.bool x37.2.2.2.isDone)) (hd 4 rfl).1 ⟨Below.refl _ _,rfl⟩
  exact eachF_nil
 intro fr gg w40 hb hΦ hap r;obtain ⟨⟨⟩,g5,hcE,_,hs5⟩:=(hΦ 5 rfl).1;have r:=r.congr (sc ((hΦ 7 rfl).1) (sc ((hΦ 6 rfl).1) (sc ((hΦ 4 rfl).1) (sc ((hΦ 3 rfl).1) (sc ((hΦ 2 rfl).1) (sc ((hΦ 1 rfl).1) (sc rfl rfl)))))));have hP:Post (fun b=>b∈(memK a1_g a1).own) [progK Try.prog encNone x37.2.2 γ38.1 γ38.2,memK a1_g x37.2.1,cellC b1 γ38.1.cells 70,cellC b5 ((capC a2)).toArray 33,cellC b9 #[] 65] w0 w40:=hP.effL (i:=4) (l:=[]) rfl hb hcE rfl rfl trivial
 refine wp_ret ?_;have hv:((),x37.1,x37.2.2.2.isDone,x37.2.1)=res:=Option.some.inj hD
 try dsimp only [Exit.then,Exit.inBlock]
 refine ret_cell_tmp2 (fn:=Try.f23) r rfl rfl (v':=(I x37.1)) (v2:=(.bool x37.2.2.2.isDone)) rfl rfl (hP.cell (i:=4) rfl) (k:=0) rfl ta65 ?_;subst hv;exact ⟨rfl,(hP.pick [1] rfl rfl).done (rest_cons rfl rest_nil)⟩

def D.prog_Prog_bool_Step (fu:Nat) (a0:Nat × T Bool) (a1:Mem) (a2:Cap):Option ((Nat × T Bool) × Bool × Mem):=(bif a0.2.isDone then (some (a0,false,a1)) else ((D.mem_Memory_Do fu a1 a2 (T.acc a0.2)).bind (fun (x16:Int × Bool × Mem)=>(bif (!x16.2.1) then (some (a0,false,x16.2.2)) else ((depthI a0.1).bind (fun (x26:Nat)=>(some ((x26,T.next a0.2 x16.1),true,x16.2.2))))))))

set_option maxRecDepth 20000 in
set_option maxHeartbeats 20000000 in
theorem c_prog_Prog_bool_Step {fu:Nat} (w0:World) {a0_v:Value} {a0_F:List Nat} (a0:Nat × T Bool) {a1_g:MG} (a1:Mem) (a2:Cap) (hS:Sep [progK Try.prog encBool a0 a0_v a0_F,memK a1_g a1] w0) {res:(Nat × T Bool) × Bool × Mem} (hD:D.prog_Prog_bool_Step fu a0 a1 a2=some res) :
    Calls Try.prog 52 #[a0_v,.pointer (some ⟨a1_g.mb,0,none⟩),.agg (capC a2).toArray] w0 (fun e w'=>∃ (v0:Value) (F0:List Nat),e=.returned (.tuple #[v0,(.bool res.2.1)])∧Done (fun b=>b∈(memK a1_g a1).own) (fun b=>b∈a0_F) [memK a1_g res.2.2,progK Try.prog encBool res.1 v0 F0] w0 w'):=by
 refine enter Try.func52 rfl 28 rfl rfl fun fr r=>?_;have hP:Post (fun b=>b∈(memK a1_g a1).own) [progK Try.prog encBool a0 a0_v a0_F,memK a1_g a1] w0 w0:=.start hS (by simp [memK,progK])
 unfold D.prog_Prog_bool_Step at hD
 refine wsr ?_;refine seq_new (.cells a0_v.cells 76 (0,0)) r (fun R=>y_box r (v:=a0_v) rfl) rfl fun fr b1 w2 n3 r=>?_;have hP:Post (fun b=>b∈(memK a1_g a1).own) [progK Try.prog encBool a0 a0_v a0_F,memK a1_g a1,cellC b1 a0_v.cells 76] w0 w2:=hP.new n3
 refine seq_new (.cells ((capC a2)).toArray 33 (0,0)) r (fun R=>y_box r (v:=(.agg (capC a2).toArray)) rfl) rfl fun fr b5 w6 n7 r=>?_;have hP:Post (fun b=>b∈(memK a1_g a1).own) [progK Try.prog encBool a0 a0_v a0_F,memK a1_g a1,cellC b1 a0_v.cells 76,cellC b5 ((capC a2)).toArray 33] w0 w6:=hP.new n7
 refine seq_new (.cells (progCells false encBool.zero 0 0 0 0 .nilFunc) 76 (0,0)) r (fun R=>y_alloc tz76) rfl fun fr b9 w10 n11 r=>?_;have hP:Post (fun b=>b∈(memK a1_g a1).own) [progK Try.prog encBool a0 a0_v a0_F,memK a1_g a1,cellC b1 a0_v.cells 76,cellC b5 ((capC a2)).toArray 33,cellC b9 (progCells false encBool.zero 0 0 0 0 .nilFunc) 76] w0 w10:=hP.new n11
 refine seq_val (.bool false) r (fun R=>y_assign r rfl) rfl fun fr r=>?_;refine wn ?_
 refine wp_seq ?_;refine wsr ?_;refine seq_val _ r (fun R=>y_fieldAddr r (b:=b1) (o:=0) (k:=0) rfl fo76_0) rfl fun fr r=>?_;refine seq_val (.bool a0.2.isDone) r (fun R=>y_load_one r rfl (hP.cell (i:=2) rfl) to4 (Rep.over_at (hP.prog (i:=0) rfl))) rfl fun fr r=>?_
 refine wn ?_;refine wp_cond_split (t:=a0.2.isDone) (r.ev rfl) (fun h13=>?_) (fun h13=>?_)
 ·
  have hD:=(cond_t h13).symm.trans hD;refine wsr ?_;refine seq_val a0_v r (fun R=>y_loadp r (hP.prog (i:=0) rfl).shape rfl (hP.cell (i:=2) rfl) ta76) rfl fun fr r=>?_;refine seq_upd (.cells a0_v.cells 76 (0,0)) r (fun R=>y_storep r (hP.prog (i:=0) rfl).shape rfl rfl (hP.cell (i:=4) rfl) ts76 rfl) rfl fun fr w14 u15 r=>?_
  have hP:Post (fun b=>b∈(memK a1_g a1).own) [progK Try.prog encBool a0 a0_v a0_F,memK a1_g a1,cellC b1 a0_v.cells 76,cellC b5 ((capC a2)).toArray 33,cellC b9 a0_v.cells 76] w0 w14:=hP.upd (i:=4) rfl u15
  refine seq_val (.bool false) r (fun R=>y_assign r rfl) rfl fun fr r=>?_;refine wn ?_
  refine wp_ret ?_;have hv:(a0,false,a1)=res:=Option.some.inj hD
  try dsimp only [Exit.then,Exit.inBlock]
  have hs:=(hP.prog (i:=0) rfl).shape.cells;refine ret_cell_tmp (fn:=Try.f52) r rfl rfl (v':=(.bool false)) rfl (hP.cell (i:=4) rfl) (k:=7) hs.1 ta76 ?_;rw [←hs.2.2];subst hv;exact ⟨a0_v,a0_F,rfl,(hP.pick [1,0] rfl rfl).done (rest_cons rfl (rest_consP (fun b h=>.inl h) rest_nil))⟩
 have hD:=(cond_f h13).symm.trans hD;refine wp_skip ?_;refine wsr ?_;refine seq_val (.pointer (some ⟨a1_g.mb,0,none⟩)) r (fun R=>y_move r rfl) rfl fun fr r=>?_;refine seq_val (.agg (capC a2).toArray) r (fun R=>y_load_agg r (cs:=(capC a2)) (n:=2) rfl (hP.cell (i:=3) rfl) ta33 rfl) rfl fun fr r=>?_
 refine seq_val _ r (fun R=>y_fieldAddr r (b:=b1) (o:=0) (k:=2) rfl fo76_2) rfl fun fr r=>?_;refine seq_val (.agg (accessC (T.acc a0.2)).toArray) r (fun R=>y_load_agg r (cs:=(accessC (T.acc a0.2))) (n:=4) rfl (hP.cell (i:=2) rfl) ta36 (Rep.acc_at (hP.prog (i:=0) rfl) h13)) rfl fun fr r=>?_
 obtain ⟨x16,hx16,hD⟩:=bindD_elim hD;refine seq_call r (c_mem_Memory_Do w10 a1 a2 (T.acc a0.2) (hP.sep.pk [1] rfl rfl) hx16) (fun R hc=>y_call r rfl cl8 hc) rfl ?_;rintro _ w17 ⟨rfl,hq⟩
 refine ⟨_,rfl,fun fr r=>?_⟩
 have hP:Post (fun b=>b∈(memK a1_g a1).own) [progK Try.prog encBool a0 a0_v a0_F,memK a1_g x16.2.2,cellC b1 a0_v.cells 76,cellC b5 ((capC a2)).toArray 33,cellC b9 (progCells false encBool.zero 0 0 0 0 .nilFunc) 76] w0 w17:=hP.setN (i:=1) rfl hq
 refine seq_val (.tuple #[(U x16.1),(.bool x16.2.1)]) r (fun R=>y_move r rfl) rfl fun fr r=>?_;refine seq_val (U x16.1) r (fun R=>y_extract r (vs:=#[(U x16.1),(.bool x16.2.1)]) rfl rfl) rfl fun fr r=>?_
 refine seq_val (.bool x16.2.1) r (fun R=>y_extract r (vs:=#[(U x16.1),(.bool x16.2.1)]) rfl rfl) rfl fun fr r=>?_;refine seq_val (U x16.1) r (fun R=>y_assign r rfl) rfl fun fr r=>?_
 refine seq_val (.bool x16.2.1) r (fun R=>y_assign r rfl) rfl fun fr r=>?_;refine wn ?_
 refine wp_seq ?_;refine wsr ?_;refine seq_val (.bool x16.2.1) r (fun R=>y_move r rfl) rfl fun fr r=>?_;refine seq_val (.bool (!x16.2.1)) r (fun R=>y_un r (u:=(.bool x16.2.1)) rfl rfl) rfl fun fr r=>?_
 refine wn ?_;refine wp_cond_split (t:=(!x16.2.1)) (r.ev rfl) (fun h18=>?_) (fun h18=>?_)
 ·
  have hD:=(cond_t h18).symm.trans hD;refine wsr ?_;refine seq_val a0_v r (fun R=>y_loadp r (hP.prog (i:=0) rfl).shape rfl (hP.cell (i:=2) rfl) ta76) rfl fun fr r=>?_;refine seq_upd (.cells a0_v.cells 76 (0,0)) r (fun R=>y_storep r (hP.prog (i:=0) rfl).shape rfl rfl (hP.cell (i:=4) rfl) ts76 rfl) rfl fun fr w19 u20 r=>?_
  have hP:Post (fun b=>b∈(memK a1_g a1).own) [progK Try.prog encBool a0 a0_v a0_F,memK a1_g x16.2.2,cellC b1 a0_v.cells 76,cellC b5 ((capC a2)).toArray 33,cellC b9 a0_v.cells 76] w0 w19:=hP.upd (i:=4) rfl u20
  refine seq_val (.bool false) r (fun R=>y_assign r rfl) rfl fun fr r=>?_;refine wn ?_
  refine wp_ret ?_;have hv:(a0,false,x16.2.2)=res:=Option.some.inj hD
  try dsimp only [Exit.then,Exit.inBlock]
  have hs:=(hP.prog (i:=0) rfl).shape.cells;refine ret_cell_tmp (fn:=Try.f52) r rfl rfl (v':=(.bool false)) rfl (hP.cell (i:=4) rfl) (k:=7) hs.1 ta76 ?_;rw [←hs.2.2];subst hv;exact ⟨a0_v,a0_F,rfl,(hP.pick [1,0] rfl rfl).done (rest_cons rfl (rest_consP (fun b h=>.inl h) rest_nil))⟩
 have hD:=(cond_f h18).symm.trans hD;refine wp_skip ?_;refine wsr ?_;refine seq_val _ r (fun R=>y_fieldAddr r (b:=b1) (o:=0) (k:=6) rfl fo76_3) rfl fun fr r=>?_;obtain ⟨nf21,n122,n223,hv24,hk25⟩:=Rep.next_at (hP.prog (i:=0) rfl) h13
 refine seq_val (.func (.func nf21) n122.toArray n223.toArray) r (fun R=>y_load_one r rfl (hP.cell (i:=2) rfl) to74 hv24) rfl fun fr r=>?_;refine seq_val (U x16.1) r (fun R=>y_move r rfl) rfl fun fr r=>?_
 obtain ⟨x26,hx26,hD⟩:=bindD_elim hD;refine seq_call r (hk25.at_.2 x26 (by rw [depthI_eq hx26]; exact Nat.lt_succ_self _) x16.1 w17 (Same.refl _ _) (Nat.le_refl _)) (fun R hc=>y_callv1 r rfl rfl hk25.at_.1 hc) rfl ?_;rintro _ w27 ⟨v28,rfl,hb,hr29⟩
 refine ⟨_,rfl,fun fr r=>?_⟩
 have zw27:=hP.size;have hP:Post (fun b=>b∈(memK a1_g a1).own) [progK Try.prog encBool a0 a0_v a0_F,memK a1_g x16.2.2,cellC b1 a0_v.cells 76,cellC b5 ((capC a2)).toArray 33,cellC b9 (progCells false encBool.zero 0 0 0 0 .nilFunc) 76,progK Try.prog encBool (x26,T.next a0.2 x16.1) v28 (a0_F++rg w17.heap.size w27.heap.size)] w0 w27:=hP.addProgF (k:=0) rfl hb hr29
 refine seq_upd (.cells v28.cells 76 (0,0)) r (fun R=>y_storep r (hP.prog (i:=5) rfl).shape rfl rfl (hP.cell (i:=4) rfl) ts76 rfl) rfl fun fr w31 u32 r=>?_;have hP:Post (fun b=>b∈(memK a1_g a1).own) [progK Try.prog encBool a0 a0_v a0_F,memK a1_g x16.2.2,cellC b1 a0_v.cells 76,cellC b5 ((capC a2)).toArray 33,cellC b9 v28.cells 76,progK Try.prog encBool (x26,T.next a0.2 x16.1) v28 (a0_F++rg w17.heap.size w27.heap.size)] w0 w31:=hP.upd (i:=4) rfl u32
 refine seq_val (.bool true) r (fun R=>y_assign r rfl) rfl fun fr r=>?_;refine wn ?_
 refine wp_ret ?_;have hv:((x26,T.next a0.2 x16.1),true,x16.2.2)=res:=Option.some.inj hD
 try dsimp only [Exit.then,Exit.inBlock]
 have hs:=(hP.prog (i:=5) rfl).shape.cells;refine ret_cell_tmp (fn:=Try.f52) r rfl rfl (v':=(.bool true)) rfl (hP.cell (i:=4) rfl) (k:=7) hs.1 ta76 ?_;rw [←hs.2.2];subst hv;exact ⟨v28,(a0_F++rg w17.heap.size w27.heap.size),rfl,(hP.pick [1,5] rfl rfl).done (rest_cons rfl (rest_consP (fun b h=>(List.mem_append.1 h).elim .inl (fun h=>.inr (by have:=(mem_rg.1 h).1; omega))) rest_nil))⟩

def D.prog_Run_bool (fu:Nat) (a0:Nat × T Bool) (a1:Mem) (a2:Cap) (a3:Int):Option (Bool × Int × Bool × Mem):=(loopThen (fun (x9:Int × Mem × (Nat × T Bool))=>(Option.bind (bif (decide (x9.1<a3)) then (some (!x9.2.2.2.isDone)) else (some false)) (fun (x15:Bool)=>(bif x15 then ((D.prog_Prog_bool_Step fu x9.2.2 x9.2.1 a2).bind (fun (x19:(Nat × T Bool) × Bool × Mem)=>(bif (!x19.2.1) then (some (Lp.brk (x9.1,x19.2.2,x9.2.2))) else (some (Lp.next ((IntKind.i64.wrap (x9.1+1)),x19.2.2,x19.1)))))) else (some (Lp.brk (x9.1,x9.2.1,x9.2.2))))))) fu (0,a1,a0) (fun (x33:Int × Mem × (Nat × T Bool))=>(some ((T.res false x33.2.2.2),x33.1,x33.2.2.2.isDone,x33.2.1))))

set_option maxRecDepth 20000 in
set_option maxHeartbeats 20000000 in
theorem c_prog_Run_bool {fu:Nat} (w0:World) {a0_v:Value} {a0_F:List Nat} (a0:Nat × T Bool) {a1_g:MG} (a1:Mem) (a2:Cap) (a3:Int) (hS:Sep [progK Try.prog encBool a0 a0_v a0_F,memK a1_g a1] w0) {res:Bool × Int × Bool × Mem} (hD:D.prog_Run_bool fu a0 a1 a2 a3=some res) :
    Calls Try.prog 25 #[a0_v,.pointer (some ⟨a1_g.mb,0,none⟩),.agg (capC a2).toArray,.int .i64 a3] w0 (fun e w'=>e=.returned (.tuple #[(.bool res.1),(.int .i64 res.2.1),(.bool res.2.2.1)])∧Done (fun b=>b∈(memK a1_g a1).own) No [memK a1_g res.2.2.2] w0 w'):=by
 refine enter Try.func25 rfl 39 rfl rfl fun fr r=>?_;have hP:Post (fun b=>b∈(memK a1_g a1).own) [progK Try.prog encBool a0 a0_v a0_F,memK a1_g a1] w0 w0:=.start hS (by simp [memK,progK])
 unfold D.prog_Run_bool at hD
 refine wsr ?_;refine seq_new (.cells a0_v.cells 76 (0,0)) r (fun R=>y_box r (v:=a0_v) rfl) rfl fun fr b1 w2 n3 r=>?_;have hP:Post (fun b=>b∈(memK a1_g a1).own) [progK Try.prog encBool a0 a0_v a0_F,memK a1_g a1,cellC b1 a0_v.cells 76] w0 w2:=hP.new n3
 refine seq_new (.cells ((capC a2)).toArray 33 (0,0)) r (fun R=>y_box r (v:=(.agg (capC a2).toArray)) rfl) rfl fun fr b5 w6 n7 r=>?_;have hP:Post (fun b=>b∈(memK a1_g a1).own) [progK Try.prog encBool a0 a0_v a0_F,memK a1_g a1,cellC b1 a0_v.cells 76,cellC b5 ((capC a2)).toArray 33] w0 w6:=hP.new n7
 refine seq_val (.bool false) r (fun R=>y_assign r rfl) rfl fun fr r=>?_;refine seq_val (I 0) r (fun R=>y_assign r rfl) rfl fun fr r=>?_
 refine seq_val (.bool false) r (fun R=>y_assign r rfl) rfl fun fr r=>?_;refine wn ?_
 refine wsr ?_;refine seq_val (I 0) r (fun R=>y_assign r rfl) rfl fun fr r=>?_;refine wn ?_
 refine wp_seq ?_;refine wp_loopG (X:=Int × Mem × (Nat × T Bool)) (G:=Value × List Nat) (x0:=(0,a1,a0)) (fun x γ=>[(0,a0_v),(1,(.pointer (some ⟨a1_g.mb,0,none⟩))),(2,(.agg (capC a2).toArray)),(3,(I a3)),(4,(.pointer (some ⟨b1,0,none⟩))),(6,(.pointer (some ⟨b5,0,none⟩))),(8,(.bool false)),(9,(I 0)),(10,(.bool false)),(11,(I x.1))]) (fun x γ w=>Post (fun b=>b∈(memK a1_g a1).own) [progK Try.prog encBool x.2.2 γ.1 γ.2,memK a1_g x.2.1,cellC b1 γ.1.cells 76,cellC b5 ((capC a2)).toArray 33] w0 w) (a0_v,a0_F) r (hs_cons rfl (hs_cons rfl (hs_cons rfl (hs_cons rfl (hs_cons rfl (hs_cons rfl (hs_cons rfl (hs_cons rfl (hs_cons rfl (hs_cons rfl hs_nil)))))))))) hP hD ?_ ?_
 ·
  rintro x9 γ10 fr w12 g y11 RPy11 nxy11 bky11 rty11 r hP hD;have hP:Post (fun b=>b∈(memK a1_g a1).own) [progK Try.prog encBool x9.2.2 γ10.1 γ10.2,memK a1_g x9.2.1,cellC b1 γ10.1.cells 76,cellC b5 ((capC a2)).toArray 33] w0 w12:=hP
  refine wp_seq ?_;refine wp_seq ?_;refine wp_joinG (N:=39) (Y:=Bool) (G:=Unit) (fun x γ=>[(0,a0_v),(1,(.pointer (some ⟨a1_g.mb,0,none⟩))),(2,(.agg (capC a2).toArray)),(3,(I a3)),(4,(.pointer (some ⟨b1,0,none⟩))),(6,(.pointer (some ⟨b5,0,none⟩))),(8,(.bool false)),(9,(I 0)),(10,(.bool false)),(11,(I x9.1)),(21,(.bool x))]) (fun x γ w=>Post (fun b=>b∈(memK a1_g a1).own) [progK Try.prog encBool x9.2.2 γ10.1 γ10.2,memK a1_g x9.2.1,cellC b1 γ10.1.cells 76,cellC b5 ((capC a2)).toArray 33] w0 w) hD ?_ ?_
  ·
   rintro y13 RPy13 nxy13 hD;refine wp_region_lit ?_;refine seq_val (I x9.1) r (fun R=>y_move r rfl) rfl fun fr r=>?_;refine seq_val (I a3) r (fun R=>y_move r rfl) rfl fun fr r=>?_
   refine seq_val _ r (fun R=>y_bin r rfl rfl rfl rfl) rfl fun fr r=>?_;refine seq_val (.bool (decide (x9.1<a3))) r (fun R=>y_move r rfl) rfl fun fr r=>?_
   refine seq_split (decide (x9.1<a3)) (fun h14=>?_) (fun h14=>?_)
   ·
    have hD:=(cond_t h14).symm.trans hD;refine s1 r h14 ?_;refine seq_val _ r (fun R=>y_fieldAddr r (b:=b1) (o:=0) (k:=0) rfl fo76_0) rfl fun fr r=>?_;refine s1 r h14 ?_
    refine seq_val (.bool x9.2.2.2.isDone) r (fun R=>y_load_one r rfl (hP.cell (i:=2) rfl) to4 (Rep.over_at (hP.prog (i:=0) rfl))) rfl fun fr r=>?_;refine s1 r h14 ?_
    refine seq_val (.bool (!x9.2.2.2.isDone)) r (fun R=>y_un r (u:=(.bool x9.2.2.2.isDone)) rfl rfl) rfl fun fr r=>?_;refine seq_val (.bool (!x9.2.2.2.isDone)) r (fun R=>y_pick r (b:=true) (congrArg Value.bool h14) rfl) rfl fun fr r=>?_
    refine wn ?_;exact nxy13 (!x9.2.2.2.isDone) () _ _ _ hD r (hs_cons rfl (hs_cons rfl (hs_cons rfl (hs_cons rfl (hs_cons rfl (hs_cons rfl (hs_cons rfl (hs_cons rfl (hs_cons rfl (hs_cons rfl (hs_cons rfl hs_nil))))))))))) (hP.pick [0,1,2,3] rfl rfl)
   have hD:=(cond_f h14).symm.trans hD;refine s0 r h14 fun fr r=>?_;refine s0 r h14 fun fr r=>?_
   refine s0 r h14 fun fr r=>?_;refine seq_val (.bool false) r (fun R=>y_pick r (b:=false) (congrArg Value.bool h14) rfl) rfl fun fr r=>?_
   refine wn ?_;exact nxy13 false () _ _ _ hD r (hs_cons rfl (hs_cons rfl (hs_cons rfl (hs_cons rfl (hs_cons rfl (hs_cons rfl (hs_cons rfl (hs_cons rfl (hs_cons rfl (hs_cons rfl (hs_cons rfl hs_nil))))))))))) (hP.pick [0,1,2,3] rfl rfl)
  rintro x15 γ16 fr w17 g r hP hD;have hP:Post (fun b=>b∈(memK a1_g a1).own) [progK Try.prog encBool x9.2.2 γ10.1 γ10.2,memK a1_g x9.2.1,cellC b1 γ10.1.cells 76,cellC b5 ((capC a2)).toArray 33] w0 w17:=hP
  refine wp_cond_split (t:=x15) (r.ev rfl) (fun h18=>?_) (fun h18=>?_)
  ·
   have hD:=(cond_t h18).symm.trans hD;refine wp_skip ?_;refine wp_block ?_;refine wsr ?_;refine seq_val γ10.1 r (fun R=>y_loadp r (hP.prog (i:=0) rfl).shape rfl (hP.cell (i:=2) rfl) ta76) rfl fun fr r=>?_;refine seq_val (.pointer (some ⟨a1_g.mb,0,none⟩)) r (fun R=>y_move r rfl) rfl fun fr r=>?_
   refine seq_val (.agg (capC a2).toArray) r (fun R=>y_load_agg r (cs:=(capC a2)) (n:=2) rfl (hP.cell (i:=3) rfl) ta33 rfl) rfl fun fr r=>?_;obtain ⟨x19,hx19,hD⟩:=bindD_elim hD
   refine seq_call r (c_prog_Prog_bool_Step w17 x9.2.2 x9.2.1 a2 (hP.sep.pk [0,1] rfl rfl) hx19) (fun R hc=>y_call r rfl cl52 hc) rfl ?_;rintro _ w20 ⟨v21,F22,rfl,hq⟩
   refine ⟨_,rfl,fun fr r=>?_⟩
   have hP:Post (fun b=>b∈(memK a1_g a1).own) [progK Try.prog encBool x9.2.2 γ10.1 γ10.2,memK a1_g x19.2.2,cellC b1 γ10.1.cells 76,cellC b5 ((capC a2)).toArray 33,progK Try.prog encBool x19.1 v21 F22] w0 w20:=hP.setR (i:=1) (k:=0) rfl rfl rfl hq
   refine seq_val (.tuple #[v21,(.bool x19.2.1)]) r (fun R=>y_move r rfl) rfl fun fr r=>?_;refine seq_val v21 r (fun R=>y_extract r (vs:=#[v21,(.bool x19.2.1)]) rfl rfl) rfl fun fr r=>?_
   refine seq_val (.bool x19.2.1) r (fun R=>y_extract r (vs:=#[v21,(.bool x19.2.1)]) rfl rfl) rfl fun fr r=>?_;refine seq_new (.cells (progCells false encBool.zero 0 0 0 0 .nilFunc) 76 (0,0)) r (fun R=>y_alloc tz76) rfl fun fr b24 w25 n26 r=>?_
   have hP:Post (fun b=>b∈(memK a1_g a1).own) [progK Try.prog encBool x9.2.2 γ10.1 γ10.2,memK a1_g x19.2.2,cellC b1 γ10.1.cells 76,cellC b5 ((capC a2)).toArray 33,progK Try.prog encBool x19.1 v21 F22,cellC b24 (progCells false encBool.zero 0 0 0 0 .nilFunc) 76] w0 w25:=hP.new n26
   refine seq_upd (.cells v21.cells 76 (0,0)) r (fun R=>y_storep r (hP.prog (i:=4) rfl).shape rfl rfl (hP.cell (i:=5) rfl) ts76 rfl) rfl fun fr w28 u29 r=>?_;have hP:Post (fun b=>b∈(memK a1_g a1).own) [progK Try.prog encBool x9.2.2 γ10.1 γ10.2,memK a1_g x19.2.2,cellC b1 γ10.1.cells 76,cellC b5 ((capC a2)).toArray 33,progK Try.prog encBool x19.1 v21 F22,cellC b24 v21.cells 76] w0 w28:=hP.upd (i:=5) rfl u29
   refine seq_val (.bool x19.2.1) r (fun R=>y_assign r rfl) rfl fun fr r=>?_;refine wn ?_
   refine wp_seq ?_;refine wsr ?_;refine seq_val (.bool x19.2.1) r (fun R=>y_move r rfl) rfl fun fr r=>?_;refine seq_val (.bool (!x19.2.1)) r (fun R=>y_un r (u:=(.bool x19.2.1)) rfl rfl) rfl fun fr r=>?_
   refine wn ?_;refine wp_cond_split (t:=(!x19.2.1)) (r.ev rfl) (fun h30=>?_) (fun h30=>?_)
   ·
    have hD:=(cond_t h30).symm.trans hD;refine wp_exit ?_;exact bky11 (x9.1,x19.2.2,x9.2.2) (γ10.1,γ10.2) _ _ _ hD r (hs_cons rfl (hs_cons rfl (hs_cons rfl (hs_cons rfl (hs_cons rfl (hs_cons rfl (hs_cons rfl (hs_cons rfl (hs_cons rfl (hs_cons rfl hs_nil)))))))))) (hP.pick [0,1,2,3] rfl rfl)
   have hD:=(cond_f h30).symm.trans hD;refine wp_skip ?_;refine wsr ?_;refine seq_val v21 r (fun R=>y_loadp r (hP.prog (i:=4) rfl).shape rfl (hP.cell (i:=5) rfl) ta76) rfl fun fr r=>?_;refine seq_upd (.cells v21.cells 76 (0,0)) r (fun R=>y_storep r (hP.prog (i:=4) rfl).shape rfl rfl (hP.cell (i:=2) rfl) ts76 (by have h:=(hP.prog (i:=0) rfl).shape.cells.1; simpa using h)) rfl fun fr w31 u32 r=>?_
   have hP:Post (fun b=>b∈(memK a1_g a1).own) [progK Try.prog encBool x9.2.2 γ10.1 γ10.2,memK a1_g x19.2.2,cellC b1 v21.cells 76,cellC b5 ((capC a2)).toArray 33,progK Try.prog encBool x19.1 v21 F22,cellC b24 v21.cells 76] w0 w31:=hP.upd (i:=2) rfl u32
   refine wn ?_;refine wp_region_lit ?_;refine seq_val (I x9.1) r (fun R=>y_move r rfl) rfl fun fr r=>?_;refine seq_val _ r (fun R=>y_bin r rfl rfl rfl rfl) rfl fun fr r=>?_
   refine seq_val (I (W (x9.1+1))) r (fun R=>y_assign r rfl) rfl fun fr r=>?_;refine wn ?_
   exact nxy11 ((W (x9.1+1)),x19.2.2,x19.1) (v21,F22) _ _ _ hD r (hs_cons rfl (hs_cons rfl (hs_cons rfl (hs_cons rfl (hs_cons rfl (hs_cons rfl (hs_cons rfl (hs_cons rfl (hs_cons rfl (hs_cons rfl hs_nil)))))))))) (hP.pick [4,1,2,3] rfl rfl)
  have hD:=(cond_f h18).symm.trans hD;refine wp_exit ?_;exact bky11 (x9.1,x9.2.1,x9.2.2) (γ10.1,γ10.2) _ _ _ hD r (hs_cons rfl (hs_cons rfl (hs_cons rfl (hs_cons rfl (hs_cons rfl (hs_cons rfl (hs_cons rfl (hs_cons rfl (hs_cons rfl (hs_cons rfl hs_nil)))))))))) (hP.pick [0,1,2,3] rfl rfl)
 rintro x33 γ34 fr w35 g r hP hD;have hP:Post (fun b=>b∈(memK a1_g a1).own) [progK Try.prog encBool x33.2.2 γ34.1 γ34.2,memK a1_g x33.2.1,cellC b1 γ34.1.cells 76,cellC b5 ((capC a2)).toArray 33] w0 w35:=hP
 refine wp_seq ?_;refine wp_freeF [.val (.pointer (some ⟨b1,1,none⟩)),.val (.bool (T.res false x33.2.2.2)),.val (I x33.1),.val (.pointer (some ⟨b1,0,none⟩)),.val (.bool x33.2.2.2.isDone),.val (.bool (T.res false x33.2.2.2)),.val (I x33.1),.val (.bool x33.2.2.2.isDone)] mixed r (by kernel_rfl) ?_ ?_
 ·
  refine fc r (fun fr1 g w' hb' hd r'=>y_fieldAddr r' (b:=b1) (o:=0) rfl fo76_1 bz) ?_;refine fc r (fun fr1 g w' hb' hd r'=>y_load_one r' (hd 0 rfl).1 ((hP.below (dr hb')).cell (i:=2) rfl) to4 (Rep.res_at1 (d:=false) rfl rfl ((hP.below (dr hb')).prog (i:=0) rfl)) bz) ?_
  refine fc r (fun fr1 g w' hb' hd r'=>y_move r' rfl bz) ?_;refine fc r (fun fr1 g w' hb' hd r'=>y_fieldAddr r' (b:=b1) (o:=0) rfl fo76_0 bz) ?_
  refine fc r (fun fr1 g w' hb' hd r'=>y_load_one r' (hd 3 rfl).1 ((hP.below (dr hb')).cell (i:=2) rfl) to4 (Rep.over_at ((hP.below (dr hb')).prog (i:=0) rfl)) bz) ?_;refine fc r (fun fr1 g w' hb' hd r'=>y_assign r' (hd 1 rfl).1 bz) ?_
  refine fc r (fun fr1 g w' hb' hd r'=>y_assign r' (hd 2 rfl).1 bz) ?_;refine fc r (fun fr1 g w' hb' hd r'=>y_assign r' (hd 4 rfl).1 bz) ?_
  exact eachF_nil
 intro fr gg w36 hb hΦ hap r;have r:=r.congr (sc ((hΦ 7 rfl).1) (sc ((hΦ 6 rfl).1) (sc ((hΦ 5 rfl).1) (sc ((hΦ 4 rfl).1) (sc ((hΦ 3 rfl).1) (sc ((hΦ 2 rfl).1) (sc ((hΦ 1 rfl).1) (sc ((hΦ 0 rfl).1) rfl))))))));have hP:Post (fun b=>b∈(memK a1_g a1).own) [progK Try.prog encBool x33.2.2 γ34.1 γ34.2,memK a1_g x33.2.1,cellC b1 γ34.1.cells 76,cellC b5 ((capC a2)).toArray 33] w0 w36:=hP.below hb
 refine wp_ret ?_;have hv:((T.res false x33.2.2.2),x33.1,x33.2.2.2.isDone,x33.2.1)=res:=Option.some.inj hD
 try dsimp only [Exit.then,Exit.inBlock]
 refine ret_tmp3 (fn:=Try.f25) r (t:=8) (t':=9) (t3:=10) rfl (v:=(.bool (T.res false x33.2.2.2))) (v':=(I x33.1)) (v3:=(.bool x33.2.2.2.isDone)) rfl rfl rfl ?_;subst hv;exact ⟨rfl,(hP.pick [1] rfl rfl).done (rest_cons rfl rest_nil)⟩

def D.prog_Prog_uint64_Step (fu:Nat) (a0:Nat × T Int) (a1:Mem) (a2:Cap):Option ((Nat × T Int) × Bool × Mem):=(bif a0.2.isDone then (some (a0,false,a1)) else ((D.mem_Memory_Do fu a1 a2 (T.acc a0.2)).bind (fun (x16:Int × Bool × Mem)=>(bif (!x16.2.1) then (some (a0,false,x16.2.2)) else ((depthI a0.1).bind (fun (x26:Nat)=>(some ((x26,T.next a0.2 x16.1),true,x16.2.2))))))))

set_option maxRecDepth 20000 in
set_option maxHeartbeats 20000000 in
theorem c_prog_Prog_uint64_Step {fu:Nat} (w0:World) {a0_v:Value} {a0_F:List Nat} (a0:Nat × T Int) {a1_g:MG} (a1:Mem) (a2:Cap) (hS:Sep [progK Try.prog encWord a0 a0_v a0_F,memK a1_g a1] w0) {res:(Nat × T Int) × Bool × Mem} (hD:D.prog_Prog_uint64_Step fu a0 a1 a2=some res) :
    Calls Try.prog 11 #[a0_v,.pointer (some ⟨a1_g.mb,0,none⟩),.agg (capC a2).toArray] w0 (fun e w'=>∃ (v0:Value) (F0:List Nat),e=.returned (.tuple #[v0,(.bool res.2.1)])∧Done (fun b=>b∈(memK a1_g a1).own) (fun b=>b∈a0_F) [memK a1_g res.2.2,progK Try.prog encWord res.1 v0 F0] w0 w'):=by
 refine enter Try.func11 rfl 28 rfl rfl fun fr r=>?_;have hP:Post (fun b=>b∈(memK a1_g a1).own) [progK Try.prog encWord a0 a0_v a0_F,memK a1_g a1] w0 w0:=.start hS (by simp [memK,progK])
 unfold D.prog_Prog_uint64_Step at hD
 refine wsr ?_;refine seq_new (.cells a0_v.cells 39 (0,0)) r (fun R=>y_box r (v:=a0_v) rfl) rfl fun fr b1 w2 n3 r=>?_;have hP:Post (fun b=>b∈(memK a1_g a1).own) [progK Try.prog encWord a0 a0_v a0_F,memK a1_g a1,cellC b1 a0_v.cells 39] w0 w2:=hP.new n3
 refine seq_new (.cells ((capC a2)).toArray 33 (0,0)) r (fun R=>y_box r (v:=(.agg (capC a2).toArray)) rfl) rfl fun fr b5 w6 n7 r=>?_;have hP:Post (fun b=>b∈(memK a1_g a1).own) [progK Try.prog encWord a0 a0_v a0_F,memK a1_g a1,cellC b1 a0_v.cells 39,cellC b5 ((capC a2)).toArray 33] w0 w6:=hP.new n7
 refine seq_new (.cells (progCells false encWord.zero 0 0 0 0 .nilFunc) 39 (0,0)) r (fun R=>y_alloc tz39) rfl fun fr b9 w10 n11 r=>?_;have hP:Post (fun b=>b∈(memK a1_g a1).own) [progK Try.prog encWord a0 a0_v a0_F,memK a1_g a1,cellC b1 a0_v.cells 39,cellC b5 ((capC a2)).toArray 33,cellC b9 (progCells false encWord.zero 0 0 0 0 .nilFunc) 39] w0 w10:=hP.new n11
 refine seq_val (.bool false) r (fun R=>y_assign r rfl) rfl fun fr r=>?_;refine wn ?_
 refine wp_seq ?_;refine wsr ?_;refine seq_val _ r (fun R=>y_fieldAddr r (b:=b1) (o:=0) (k:=0) rfl fo39_0) rfl fun fr r=>?_;refine seq_val (.bool a0.2.isDone) r (fun R=>y_load_one r rfl (hP.cell (i:=2) rfl) to4 (Rep.over_at (hP.prog (i:=0) rfl))) rfl fun fr r=>?_
 refine wn ?_;refine wp_cond_split (t:=a0.2.isDone) (r.ev rfl) (fun h13=>?_) (fun h13=>?_)
 ·
  have hD:=(cond_t h13).symm.trans hD;refine wsr ?_;refine seq_val a0_v r (fun R=>y_loadp r (hP.prog (i:=0) rfl).shape rfl (hP.cell (i:=2) rfl) ta39) rfl fun fr r=>?_;refine seq_upd (.cells a0_v.cells 39 (0,0)) r (fun R=>y_storep r (hP.prog (i:=0) rfl).shape rfl rfl (hP.cell (i:=4) rfl) ts39 rfl) rfl fun fr w14 u15 r=>?_
  have hP:Post (fun b=>b∈(memK a1_g a1).own) [progK Try.prog encWord a0 a0_v a0_F,memK a1_g a1,cellC b1 a0_v.cells 39,cellC b5 ((capC a2)).toArray 33,cellC b9 a0_v.cells 39] w0 w14:=hP.upd (i:=4) rfl u15
  refine seq_val (.bool false) r (fun R=>y_assign r rfl) rfl fun fr r=>?_;refine wn ?_
  refine wp_ret ?_;have hv:(a0,false,a1)=res:=Option.some.inj hD
  try dsimp only [Exit.then,Exit.inBlock]
  have hs:=(hP.prog (i:=0) rfl).shape.cells;refine ret_cell_tmp (fn:=Try.f11) r rfl rfl (v':=(.bool false)) rfl (hP.cell (i:=4) rfl) (k:=7) hs.1 ta39 ?_;rw [←hs.2.2];subst hv;exact ⟨a0_v,a0_F,rfl,(hP.pick [1,0] rfl rfl).done (rest_cons rfl (rest_consP (fun b h=>.inl h) rest_nil))⟩
 have hD:=(cond_f h13).symm.trans hD;refine wp_skip ?_;refine wsr ?_;refine seq_val (.pointer (some ⟨a1_g.mb,0,none⟩)) r (fun R=>y_move r rfl) rfl fun fr r=>?_;refine seq_val (.agg (capC a2).toArray) r (fun R=>y_load_agg r (cs:=(capC a2)) (n:=2) rfl (hP.cell (i:=3) rfl) ta33 rfl) rfl fun fr r=>?_
 refine seq_val _ r (fun R=>y_fieldAddr r (b:=b1) (o:=0) (k:=2) rfl fo39_2) rfl fun fr r=>?_;refine seq_val (.agg (accessC (T.acc a0.2)).toArray) r (fun R=>y_load_agg r (cs:=(accessC (T.acc a0.2))) (n:=4) rfl (hP.cell (i:=2) rfl) ta36 (Rep.acc_at (hP.prog (i:=0) rfl) h13)) rfl fun fr r=>?_
 obtain ⟨x16,hx16,hD⟩:=bindD_elim hD;refine seq_call r (c_mem_Memory_Do w10 a1 a2 (T.acc a0.2) (hP.sep.pk [1] rfl rfl) hx16) (fun R hc=>y_call r rfl cl8 hc) rfl ?_;rintro _ w17 ⟨rfl,hq⟩
 refine ⟨_,rfl,fun fr r=>?_⟩
 have hP:Post (fun b=>b∈(memK a1_g a1).own) [progK Try.prog encWord a0 a0_v a0_F,memK a1_g x16.2.2,cellC b1 a0_v.cells 39,cellC b5 ((capC a2)).toArray 33,cellC b9 (progCells false encWord.zero 0 0 0 0 .nilFunc) 39] w0 w17:=hP.setN (i:=1) rfl hq
 refine seq_val (.tuple #[(U x16.1),(.bool x16.2.1)]) r (fun R=>y_move r rfl) rfl fun fr r=>?_;refine seq_val (U x16.1) r (fun R=>y_extract r (vs:=#[(U x16.1),(.bool x16.2.1)]) rfl rfl) rfl fun fr r=>?_
 refine seq_val (.bool x16.2.1) r (fun R=>y_extract r (vs:=#[(U x16.1),(.bool x16.2.1)]) rfl rfl) rfl fun fr r=>?_;refine seq_val (U x16.1) r (fun R=>y_assign r rfl) rfl fun fr r=>?_
 refine seq_val (.bool x16.2.1) r (fun R=>y_assign r rfl) rfl fun fr r=>?_;refine wn ?_
 refine wp_seq ?_;refine wsr ?_;refine seq_val (.bool x16.2.1) r (fun R=>y_move r rfl) rfl fun fr r=>?_;refine seq_val (.bool (!x16.2.1)) r (fun R=>y_un r (u:=(.bool x16.2.1)) rfl rfl) rfl fun fr r=>?_
 refine wn ?_;refine wp_cond_split (t:=(!x16.2.1)) (r.ev rfl) (fun h18=>?_) (fun h18=>?_)
 ·
  have hD:=(cond_t h18).symm.trans hD;refine wsr ?_;refine seq_val a0_v r (fun R=>y_loadp r (hP.prog (i:=0) rfl).shape rfl (hP.cell (i:=2) rfl) ta39) rfl fun fr r=>?_;refine seq_upd (.cells a0_v.cells 39 (0,0)) r (fun R=>y_storep r (hP.prog (i:=0) rfl).shape rfl rfl (hP.cell (i:=4) rfl) ts39 rfl) rfl fun fr w19 u20 r=>?_
  have hP:Post (fun b=>b∈(memK a1_g a1).own) [progK Try.prog encWord a0 a0_v a0_F,memK a1_g x16.2.2,cellC b1 a0_v.cells 39,cellC b5 ((capC a2)).toArray 33,cellC b9 a0_v.cells 39] w0 w19:=hP.upd (i:=4) rfl u20
  refine seq_val (.bool false) r (fun R=>y_assign r rfl) rfl fun fr r=>?_;refine wn ?_
  refine wp_ret ?_;have hv:(a0,false,x16.2.2)=res:=Option.some.inj hD
  try dsimp only [Exit.then,Exit.inBlock]
  have hs:=(hP.prog (i:=0) rfl).shape.cells;refine ret_cell_tmp (fn:=Try.f11) r rfl rfl (v':=(.bool false)) rfl (hP.cell (i:=4) rfl) (k:=7) hs.1 ta39 ?_;rw [←hs.2.2];subst hv;exact ⟨a0_v,a0_F,rfl,(hP.pick [1,0] rfl rfl).done (rest_cons rfl (rest_consP (fun b h=>.inl h) rest_nil))⟩
 have hD:=(cond_f h18).symm.trans hD;refine wp_skip ?_;refine wsr ?_;refine seq_val _ r (fun R=>y_fieldAddr r (b:=b1) (o:=0) (k:=6) rfl fo39_3) rfl fun fr r=>?_;obtain ⟨nf21,n122,n223,hv24,hk25⟩:=Rep.next_at (hP.prog (i:=0) rfl) h13
 refine seq_val (.func (.func nf21) n122.toArray n223.toArray) r (fun R=>y_load_one r rfl (hP.cell (i:=2) rfl) to37 hv24) rfl fun fr r=>?_;refine seq_val (U x16.1) r (fun R=>y_move r rfl) rfl fun fr r=>?_
 obtain ⟨x26,hx26,hD⟩:=bindD_elim hD;refine seq_call r (hk25.at_.2 x26 (by rw [depthI_eq hx26]; exact Nat.lt_succ_self _) x16.1 w17 (Same.refl _ _) (Nat.le_refl _)) (fun R hc=>y_callv1 r rfl rfl hk25.at_.1 hc) rfl ?_;rintro _ w27 ⟨v28,rfl,hb,hr29⟩
 refine ⟨_,rfl,fun fr r=>?_⟩
 have zw27:=hP.size;have hP:Post (fun b=>b∈(memK a1_g a1).own) [progK Try.prog encWord a0 a0_v a0_F,memK a1_g x16.2.2,cellC b1 a0_v.cells 39,cellC b5 ((capC a2)).toArray 33,cellC b9 (progCells false encWord.zero 0 0 0 0 .nilFunc) 39,progK Try.prog encWord (x26,T.next a0.2 x16.1) v28 (a0_F++rg w17.heap.size w27.heap.size)] w0 w27:=hP.addProgF (k:=0) rfl hb hr29
 refine seq_upd (.cells v28.cells 39 (0,0)) r (fun R=>y_storep r (hP.prog (i:=5) rfl).shape rfl rfl (hP.cell (i:=4) rfl) ts39 rfl) rfl fun fr w31 u32 r=>?_;have hP:Post (fun b=>b∈(memK a1_g a1).own) [progK Try.prog encWord a0 a0_v a0_F,memK a1_g x16.2.2,cellC b1 a0_v.cells 39,cellC b5 ((capC a2)).toArray 33,cellC b9 v28.cells 39,progK Try.prog encWord (x26,T.next a0.2 x16.1) v28 (a0_F++rg w17.heap.size w27.heap.size)] w0 w31:=hP.upd (i:=4) rfl u32
 refine seq_val (.bool true) r (fun R=>y_assign r rfl) rfl fun fr r=>?_;refine wn ?_
 refine wp_ret ?_;have hv:((x26,T.next a0.2 x16.1),true,x16.2.2)=res:=Option.some.inj hD
 try dsimp only [Exit.then,Exit.inBlock]
 have hs:=(hP.prog (i:=5) rfl).shape.cells;refine ret_cell_tmp (fn:=Try.f11) r rfl rfl (v':=(.bool true)) rfl (hP.cell (i:=4) rfl) (k:=7) hs.1 ta39 ?_;rw [←hs.2.2];subst hv;exact ⟨v28,(a0_F++rg w17.heap.size w27.heap.size),rfl,(hP.pick [1,5] rfl rfl).done (rest_cons rfl (rest_consP (fun b h=>(List.mem_append.1 h).elim .inl (fun h=>.inr (by have:=(mem_rg.1 h).1; omega))) rest_nil))⟩

def D.prog_Prog_uint64_Over (fu:Nat) (a0:Nat × T Int):Option (Int × Bool):=(some ((T.res 0 a0.2),a0.2.isDone))

set_option maxRecDepth 20000 in
set_option maxHeartbeats 20000000 in
theorem c_prog_Prog_uint64_Over {fu:Nat} (w0:World) {a0_v:Value} {a0_F:List Nat} (a0:Nat × T Int) (a0_h:Rep Try.prog encWord a0.1 a0.2 (fun b=>b∈a0_F) w0 a0_v) (a0_l:∀ b,b∈a0_F→b<w0.heap.size) {res:Int × Bool} (hD:D.prog_Prog_uint64_Over fu a0=some res) :
    Calls Try.prog 12 #[a0_v] w0 (PureRes (.tuple #[(.int .u64 res.1),(.bool res.2)]) w0):=by
 refine enter Try.func12 rfl 8 rfl rfl fun fr r=>?_;have hP:Post No [] w0 w0:=Post.nil w0
 have hP:Post No [progK Try.prog encWord a0 a0_v a0_F] w0 w0:=hP.addRo norw_nil a0_h rfl a0_l;unfold D.prog_Prog_uint64_Over at hD
 refine wsr ?_;refine seq_new (.cells a0_v.cells 39 (0,0)) r (fun R=>y_box r (v:=a0_v) rfl) rfl fun fr b1 w2 n3 r=>?_;have hP:Post No [progK Try.prog encWord a0 a0_v a0_F,cellC b1 a0_v.cells 39] w0 w2:=hP.new n3
 refine seq_val (U 0) r (fun R=>y_assign r rfl) rfl fun fr r=>?_;refine seq_val (.bool false) r (fun R=>y_assign r rfl) rfl fun fr r=>?_
 refine wn ?_;refine wp_seq ?_;refine wp_freeF [.val (.pointer (some ⟨b1,1,none⟩)),.val (U (T.res 0 a0.2)),.val (.pointer (some ⟨b1,0,none⟩)),.val (.bool a0.2.isDone),.val (U (T.res 0 a0.2)),.val (.bool a0.2.isDone)] mixed r (by kernel_rfl) ?_ ?_
 ·
  refine fc r (fun fr1 g w' hb' hd r'=>y_fieldAddr r' (b:=b1) (o:=0) rfl fo39_1 bz) ?_;refine fc r (fun fr1 g w' hb' hd r'=>y_load_one r' (hd 0 rfl).1 ((hP.below (dr hb')).cell (i:=1) rfl) to22 (Rep.res_at1 (d:=0) rfl rfl ((hP.below (dr hb')).prog (i:=0) rfl)) bz) ?_
  refine fc r (fun fr1 g w' hb' hd r'=>y_fieldAddr r' (b:=b1) (o:=0) rfl fo39_0 bz) ?_;refine fc r (fun fr1 g w' hb' hd r'=>y_load_one r' (hd 2 rfl).1 ((hP.below (dr hb')).cell (i:=1) rfl) to4 (Rep.over_at ((hP.below (dr hb')).prog (i:=0) rfl)) bz) ?_
  refine fc r (fun fr1 g w' hb' hd r'=>y_assign r' (hd 1 rfl).1 bz) ?_;refine fc r (fun fr1 g w' hb' hd r'=>y_assign r' (hd 3 rfl).1 bz) ?_
  exact eachF_nil
 intro fr gg w5 hb hΦ hap r;have r:=r.congr (sc ((hΦ 5 rfl).1) (sc ((hΦ 4 rfl).1) (sc ((hΦ 3 rfl).1) (sc ((hΦ 2 rfl).1) (sc ((hΦ 1 rfl).1) (sc ((hΦ 0 rfl).1) rfl))))));have hP:Post No [progK Try.prog encWord a0 a0_v a0_F,cellC b1 a0_v.cells 39] w0 w5:=hP.below hb;refine wp_ret ?_;have hv:((T.res 0 a0.2),a0.2.isDone)=res:=Option.some.inj hD
 try dsimp only [Exit.then,Exit.inBlock]
 refine ret_tmp2 (fn:=Try.f12) r (t:=2) (t':=3) rfl (v:=(U (T.res 0 a0.2))) (v':=(.bool a0.2.isDone)) rfl rfl ?_;subst hv;exact ⟨rfl,hP.chg.below⟩

end Go.Proofs.Ytikjpdpgdmbdpaa

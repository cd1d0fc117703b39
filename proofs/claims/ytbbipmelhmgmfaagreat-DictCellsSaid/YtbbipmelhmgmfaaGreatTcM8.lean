/- Some of our texts, one behind the other. -/
import Derived.Test.YtbbipmelhmgmfaaGreatTcM7
set_option linter.all false
set_option maxRecDepth 100000
set_option maxHeartbeats 20000000
/- Ours. -/
namespace Go.Proofs.YtbbipmelhmgmfaaGreat.St
open Go.RowKit
theorem ar244:arrTy Tryz.prog 244 3 2:=by kernel_rfl
theorem cl191:callable Tryz.prog 191:=by kernel_rfl
theorem cl196:callable Tryz.prog 196:=by kernel_rfl
theorem cl197:callable Tryz.prog 197:=by kernel_rfl
theorem cl198:callable Tryz.prog 198:=by kernel_rfl
theorem cl217:callable Tryz.prog 217:=by kernel_rfl
theorem cl288:callable Tryz.prog 288:=by kernel_rfl
theorem cl296:callable Tryz.prog 296:=by kernel_rfl
theorem is248:isSlice Tryz.prog 248:=by kernel_rfl
theorem is66:isSlice Tryz.prog 66:=by kernel_rfl
theorem rt66:rowTy Tryz.prog 66 34 1:=by kernel_rfl
theorem sl248:sliceTy Tryz.prog 248 2:=by kernel_rfl
theorem sl66:sliceTy Tryz.prog 66 1:=by kernel_rfl
theorem ta244:tyA Tryz.prog 244 6:=by kernel_rfl
theorem ti3:intTy Tryz.prog 3 .i64:=by kernel_rfl
theorem ti34:intTy Tryz.prog 34 .u64:=by kernel_rfl
theorem to34:tyO Tryz.prog 34:=by kernel_rfl
theorem ts241:sized Tryz.prog 241 2:=by kernel_rfl
theorem ts244:sized Tryz.prog 244 6:=by kernel_rfl
theorem tz241:zeroOf Tryz.prog 241=some (.agg (fieldC (⟨0,0⟩:Field)).toArray):=by kernel_rfl
theorem tz244:zeroOf Tryz.prog 244=some (.agg (arr3FC (⟨(⟨0,0⟩:Field),(⟨0,0⟩:Field),(⟨0,0⟩:Field)⟩:Arr3F)).toArray):=by kernel_rfl
def D.state_layout (fu:Nat) :Option (Arr3F):=(some (⟨(⟨0,30⟩:Field),(⟨30,2⟩:Field),(⟨32,2⟩:Field)⟩:Arr3F))
theorem c_state_layout {fu:Nat} (w0:World) {res:Arr3F} (hD:D.state_layout fu =some res) :
    Calls Tryz.prog 196 #[] w0 (PureRes (.agg (arr3FC res).toArray) w0):=by
 refine enter Tryz.func196 rfl 5 rfl rfl fun fr r=>?_;have hP:Post No [] w0 w0:=Post.nil w0
 unfold D.state_layout at hD
 refine wsr ?_;refine seq_new (.cells ((arr3FC (⟨(⟨0,0⟩:Field),(⟨0,0⟩:Field),(⟨0,0⟩:Field)⟩:Arr3F))).toArray 244 (0,0)) r (fun R=>y_alloc tz244) rfl fun fr b1 w2 n3 r=>?_;have hP:Post No [cellC b1 ((arr3FC (⟨(⟨0,0⟩:Field),(⟨0,0⟩:Field),(⟨0,0⟩:Field)⟩:Arr3F))).toArray 244] w0 w2:=hP.new n3
 refine wn (wsr (kU (.agg (fieldC (⟨0,30⟩:Field)).toArray) r (by kernel_rfl) rfl fun r=>kU (.agg (fieldC (⟨30,2⟩:Field)).toArray) r (by kernel_rfl) rfl fun r=>kU (.agg (fieldC (⟨32,2⟩:Field)).toArray) r (by kernel_rfl) rfl fun r=>kU (.agg (arr3FC (⟨(⟨0,30⟩:Field),(⟨30,2⟩:Field),(⟨32,2⟩:Field)⟩:Arr3F)).toArray) r (by kernel_rfl) rfl fun r=>?_));refine seq_upd (.cells ((arr3FC (⟨(⟨0,30⟩:Field),(⟨30,2⟩:Field),(⟨32,2⟩:Field)⟩:Arr3F))).toArray 244 (0,0)) r (fun R=>y_store r (o:=0) (v:=(.agg (arr3FC (⟨(⟨0,30⟩:Field),(⟨30,2⟩:Field),(⟨32,2⟩:Field)⟩:Arr3F)).toArray)) rfl rfl (hP.cell (i:=0) rfl) ts244 (Nat.le_of_ble_eq_true rfl) rfl rfl) rfl fun fr w5 u6 r=>?_
 have hP:Post No [cellC b1 ((arr3FC (⟨(⟨0,30⟩:Field),(⟨30,2⟩:Field),(⟨32,2⟩:Field)⟩:Arr3F))).toArray 244] w0 w5:=hP.upd (i:=0) rfl u6;refine wn (wp_ret ?_);have hv:(⟨(⟨0,30⟩:Field),(⟨30,2⟩:Field),(⟨32,2⟩:Field)⟩:Arr3F)=res:=Option.some.inj hD
 try dsimp only [Exit.then,Exit.inBlock]
 refine ret_cell r rfl rfl (hP.cell (i:=0) rfl) (k:=6) rfl ta244 ?_;subst hv;exact ⟨rfl,hP.chg.below⟩
def D.field_Formed (fu:Nat) (a0:List Field):Option (Bool):=(loopThen (fun (x1:Bool × Int × Int)=>(bif (decide (x1.2.2<(a0.length:Int))) then ((getI a0 x1.2.2).bind (fun (x6:Field)=>(Option.bind (bif (!(D.field_Field_Formed x6)) then (some true) else (some ((bits_and .u64 x1.2.1 (D.field_Field_mask x6)) !=0))) (fun (x17:Bool)=>(bif x17 then (some (Lp.ret false)) else (some (Lp.next (x1.1,(bits_or .u64 x1.2.1 (D.field_Field_mask x6)),(IntKind.i64.wrap (x1.2.2+1)))))))))) else (some (Lp.brk (x1.1,x1.2.1,x1.2.2))))) fu (false,0,0) (fun (x22:Bool × Int × Int)=>(some true)))
theorem c_field_Formed {fu:Nat} (w0:World) {a0v:Value} (a0:List Field) (a0h:RoAt 241 2 fieldC a0v a0 w0) {res:Bool} (hD:D.field_Formed fu a0=some res) :
    Calls Tryz.prog 288 #[a0v] w0 (PureRes (.bool res) w0):=by
 refine enter Tryz.func288 rfl 27 rfl rfl fun fr r=>?_;have hP:Post No [] w0 w0:=Post.nil w0
 have hP:Post No [roK 241 2 fieldC a0v a0] w0 w0:=hP.addRo norw_nil a0h rfl a0h.lt;unfold D.field_Formed at hD
 refine wsr (kA (.bool false) r rfl rfl fun r=>wn (wsr (kA (U 0) r rfl rfl fun r=>wn (wp_seq (wsr (kM a0v r rfl rfl fun r=>seq_val (I (a0.length:Int)) r (fun R=>y_rowLen r (hP.ro (i:=0) rfl) is248 rfl) rfl fun fr r=>kM (I 0) r rfl rfl fun r=>wn ?_))))));refine wp_loopG (X:=Bool × Int × Int) (G:=Unit) (x0:=(false,0,0)) (fun x γ=>[(0,a0v),(6,a0v),(7,(I (a0.length:Int))),(2,(.bool x.1)),(3,(U x.2.1)),(8,(I x.2.2))]) (fun x γ w=>Post No [roK 241 2 fieldC a0v a0] w0 w) () r (kO (hs_cons rfl (hs_cons rfl hs_nil))) hP hD ?_ ?_
 ·
  rintro x1 γ2 fr w4 g y3 RPy3 nxy3 bky3 rty3 r hP hD;have hP:Post No [roK 241 2 fieldC a0v a0] w0 w4:=hP;refine wsr (kB r rfl rfl rfl rfl rfl fun r=>wn (wp_seq ?_));refine wp_cond_split (t:=(decide (x1.2.2<(a0.length:Int)))) (r.ev rfl) (fun h5=>?_) (fun h5=>?_)
  ·
   have hD:=(cond_t h5).symm.trans hD;refine wp_skip (wp_seq (wp_block (wsr ?_)));obtain ⟨x6,hx6,hD⟩:=bindD_elim hD;refine seq_val (.pointer (some ⟨rowB a0v,rowO a0v+x1.2.2.toNat * 2,none⟩)) r (fun R=>y_rowAddr r (hP.ro (i:=0) rfl) hx6 sl248 rfl rfl) rfl fun fr r=>seq_val (.agg (fieldC x6).toArray) r (fun R=>y_loadL_agg r (cs:=(fieldC x6)) (RoAt.at_ (f:=fieldC) (x:=x6) (hP.ro (i:=0) rfl) (fun _=>rfl) hx6) rfl ta241) rfl fun fr r=>?_;refine seq_new (.cells ((fieldC (⟨0,0⟩:Field))).toArray 241 (0,0)) r (fun R=>y_alloc tz241) rfl fun fr b7 w8 n9 r=>?_
   have hP:Post No [roK 241 2 fieldC a0v a0,cellC b7 ((fieldC (⟨0,0⟩:Field))).toArray 241] w0 w8:=hP.new n9;refine seq_upd (.cells ((fieldC x6)).toArray 241 (0,0)) r (fun R=>y_store r (o:=0) (v:=(.agg (fieldC x6).toArray)) rfl rfl (hP.cell (i:=1) rfl) ts241 (Nat.le_of_ble_eq_true rfl) rfl rfl) rfl fun fr w11 u12 r=>?_;have hP:Post No [roK 241 2 fieldC a0v a0,cellC b7 ((fieldC x6)).toArray 241] w0 w11:=hP.upd (i:=1) rfl u12
   refine wn (wp_seq (wp_seq ?_));refine wp_joinG (N:=27) (Y:=Bool) (G:=Unit) (fun x γ=>[(0,a0v),(6,a0v),(7,(I (a0.length:Int))),(2,(.bool x1.1)),(3,(U x1.2.1)),(8,(I x1.2.2)),(9,(.bool (decide (x1.2.2<(a0.length:Int))))),(5,(zp b7)),(21,(.bool x))]) (fun x γ w=>Post No [roK 241 2 fieldC a0v a0,cellC b7 ((fieldC x6)).toArray 241] w0 w) hD ?_ ?_
   ·
    rintro y13 RPy13 nxy13 hD;refine wp_region_lit (kG (fieldC x6) 2 r rfl (hP.cell (i:=1) rfl) ta241 rfl rfl fun r=>?_);refine kE r (c_field_Field_Formed w11 x6) rfl cl285 rfl fun w14 hb r=>?_
    have hP:=hP.below hb;refine seq_val (.bool (!(D.field_Field_Formed x6))) r (fun R=>y_un r (u:=(.bool (D.field_Field_Formed x6))) rfl rfl) rfl fun fr r=>kM (.bool (!(D.field_Field_Formed x6))) r rfl rfl fun r=>?_;refine seq_split (!(D.field_Field_Formed x6)) (fun h15=>?_) (fun h15=>?_)
    ·
     have hD:=(cond_t h15).symm.trans hD;refine s0 r h15 fun fr r=>s0 r h15 fun fr r=>s0 r h15 fun fr r=>s0 r h15 fun fr r=>s0 r h15 fun fr r=>seq_val (.bool true) r (fun R=>y_pick r (b:=true) (kb h15) rfl) rfl fun fr r=>wn ?_;exact nxy13 true () _ _ _ hD r (kO (kO (hs_cons rfl hs_nil))) (hP.pick [0,1] rfl rfl)
    have hD:=(cond_f h15).symm.trans hD;refine s1 r h15 (kM (U x1.2.1) r rfl rfl fun r=>s1 r h15 (kG (fieldC x6) 2 r rfl (hP.cell (i:=1) rfl) ta241 rfl rfl fun r=>s1 r h15 ?_));refine kE r (c_field_Field_mask w14 x6) rfl cl289 rfl fun w16 hb r=>?_
    have hP:=hP.below hb;refine s1 r h15 (kB r rfl rfl rfl rfl rfl fun r=>s1 r h15 (kB r rfl rfl rfl rfl rfl fun r=>seq_val (.bool ((bits_and .u64 x1.2.1 (D.field_Field_mask x6)) !=0)) r (fun R=>y_pick r (b:=false) (kb h15) rfl) rfl fun fr r=>wn ?_));exact nxy13 ((bits_and .u64 x1.2.1 (D.field_Field_mask x6)) !=0) () _ _ _ hD r (kO (kO (hs_cons rfl hs_nil))) (hP.pick [0,1] rfl rfl)
   rintro x17 γ18 fr w19 g r hP hD;have hP:Post No [roK 241 2 fieldC a0v a0,cellC b7 ((fieldC x6)).toArray 241] w0 w19:=hP;refine wp_cond_split (t:=x17) (r.ev rfl) (fun h20=>?_) (fun h20=>?_)
   ·
    have hD:=(cond_t h20).symm.trans hD;refine wsr (kA (.bool false) r rfl rfl fun r=>wn (wp_ret ?_));refine rty3 false _ _ hD fun hD=>?_
    have hv:false=res:=Option.some.inj hD
    try dsimp only [Exit.then,Exit.inBlock]
    refine ret_tmp (fn:=Tryz.f288) r (t:=2) rfl (v:=(.bool false)) rfl ?_;subst hv;exact ⟨rfl,hP.chg.below⟩
   have hD:=(cond_f h20).symm.trans hD;refine wp_skip ?_;refine wp_region_lit (kM (U x1.2.1) r rfl rfl fun r=>kG (fieldC x6) 2 r rfl (hP.cell (i:=1) rfl) ta241 rfl rfl fun r=>?_);refine kE r (c_field_Field_mask w19 x6) rfl cl289 rfl fun w21 hb r=>?_
   have hP:=hP.below hb;refine kB r rfl rfl rfl rfl rfl fun r=>kA (U (bits_or .u64 x1.2.1 (D.field_Field_mask x6))) r rfl rfl fun r=>wn ?_;refine wp_region_lit (kB r rfl rfl rfl rfl rfl fun r=>kM (I (W (x1.2.2+1))) r rfl rfl fun r=>wn ?_)
   exact nxy3 (x1.1,(bits_or .u64 x1.2.1 (D.field_Field_mask x6)),(W (x1.2.2+1))) () _ _ _ hD r (kO (hs_cons rfl (hs_cons rfl hs_nil))) (hP.pick [0] rfl rfl)
  have hD:=(cond_f h5).symm.trans hD;refine wp_exit ?_;exact bky3 (x1.1,x1.2.1,x1.2.2) () _ _ _ hD r (kO (hs_cons rfl (hs_cons rfl hs_nil))) (hP.pick [0] rfl rfl)
 rintro x22 γ23 fr w24 g r hP hD;have hP:Post No [roK 241 2 fieldC a0v a0] w0 w24:=hP;refine wsr (kA (.bool true) r rfl rfl fun r=>wn (wp_ret ?_));have hv:true=res:=Option.some.inj hD
 try dsimp only [Exit.then,Exit.inBlock]
 refine ret_tmp (fn:=Tryz.f288) r (t:=2) rfl (v:=(.bool true)) rfl ?_;subst hv;exact ⟨rfl,hP.chg.below⟩
def D.field_Split (fu:Nat) (a0:List Field) (a1:Int):Option (List Int × Int):=((D.field_Formed fu a0).bind (fun (x1:Bool)=>(bif (!x1) then (some ([],1)) else (loopThen (fun (x6:List Int × Int × Int)=>(bif (decide (x6.2.2<(a0.length:Int))) then ((getI a0 x6.2.2).bind (fun (x11:Field)=>((appD x6.1 ([(D.field_Field_Get x11 a1)])).bind (fun (x23:List Int)=>(some (Lp.next (x23,(bits_andNot .u64 x6.2.1 (D.field_Field_mask x11)),(IntKind.i64.wrap (x6.2.2+1))))))))) else (some (Lp.brk (x6.1,x6.2.1,x6.2.2))))) fu ([],a1,0) (fun (x28:List Int × Int × Int)=>(bif (x28.2.1 !=0) then (some ([],10)) else (some (x28.1,0))))))))
theorem c_field_Split {fu:Nat} (w0:World) {a0v:Value} (a0:List Field) (a0h:RoAt 241 2 fieldC a0v a0 w0) (a1:Int) {res:List Int × Int} (hD:D.field_Split fu a0 a1=some res) :
    Calls Tryz.prog 197 #[a0v,.int .u64 a1] w0 (fun e w'=>∃ (v0:Value),e=.returned (.tuple #[v0,(.int .i64 res.2)])∧Done No No [rowK 34 1 u64 v0 res.1] w0 w'):=by
 refine enter Tryz.func197 rfl 34 rfl rfl fun fr r=>?_;have hP:Post No [] w0 w0:=Post.nil w0
 have hP:Post No [roK 241 2 fieldC a0v a0] w0 w0:=hP.addRo norw_nil a0h rfl a0h.lt;unfold D.field_Split at hD
 refine wsr (kA kS r rfl rfl fun r=>kA (I 0) r rfl rfl fun r=>wn (wp_seq (wsr (kM a0v r rfl rfl fun r=>?_))));obtain ⟨x1,hx1,hD⟩:=bindD_elim hD
 refine kE r (c_field_Formed w0 a0 (hP.ro (i:=0) rfl) hx1) rfl cl288 rfl fun w2 hb r=>?_;have hP:=hP.below hb
 refine seq_val (.bool (!x1)) r (fun R=>y_un r (u:=(.bool x1)) rfl rfl) rfl fun fr r=>wn ?_;refine wp_cond_split (t:=(!x1)) (r.ev rfl) (fun h3=>?_) (fun h3=>?_)
 ·
  have hD:=(cond_t h3).symm.trans hD;refine wsr (kA kS r rfl rfl fun r=>kA (I 1) r rfl rfl fun r=>wn (wp_ret ?_));have hP:Post No [roK 241 2 fieldC a0v a0,rowK 34 1 u64 kS ([])] w0 w2:=hP.nilRow 34 1 u64
  have hv:([],1)=res:=Option.some.inj hD
  try dsimp only [Exit.then,Exit.inBlock]
  refine ret_tmp2 (fn:=Tryz.f197) r (t:=4) (t':=5) rfl (v:=kS) (v':=(I 1)) rfl rfl ?_;subst hv;exact ⟨kS,rfl,(hP.pick [1] rfl rfl).done (rest_cons rfl rest_nil)⟩
 have hD:=(cond_f h3).symm.trans hD;refine wp_skip (wsr (kA kS r rfl rfl fun r=>wn (wsr (kM (U a1) r rfl rfl fun r=>kA (U a1) r rfl rfl fun r=>wn (wp_seq (wsr (kM a0v r rfl rfl fun r=>seq_val (I (a0.length:Int)) r (fun R=>y_rowLen r (hP.ro (i:=0) rfl) is248 rfl) rfl fun fr r=>kM (I 0) r rfl rfl fun r=>wn ?_)))))));have hP:Post No [roK 241 2 fieldC a0v a0,rowK 34 1 u64 kS ([])] w0 w2:=hP.nilRow 34 1 u64
 refine wp_loopG (X:=List Int × Int × Int) (G:=Value) (x0:=([],a1,0)) (fun x γ=>[(0,a0v),(1,(U a1)),(4,kS),(5,(I 0)),(12,(.bool (!x1))),(14,a0v),(15,(I (a0.length:Int))),(6,γ),(7,(U x.2.1)),(16,(I x.2.2))]) (fun x γ w=>Post No [roK 241 2 fieldC a0v a0,rowK 34 1 u64 γ x.1] w0 w) kS r (kO (kO (hs_cons rfl (hs_cons rfl hs_nil)))) hP hD ?_ ?_
 ·
  rintro x6 γ7 fr w9 g y8 RPy8 nxy8 bky8 rty8 r hP hD;have hP:Post No [roK 241 2 fieldC a0v a0,rowK 34 1 u64 γ7 x6.1] w0 w9:=hP;refine wsr (kB r rfl rfl rfl rfl rfl fun r=>wn (wp_seq ?_));refine wp_cond_split (t:=(decide (x6.2.2<(a0.length:Int)))) (r.ev rfl) (fun h10=>?_) (fun h10=>?_)
  ·
   have hD:=(cond_t h10).symm.trans hD;refine wp_skip (wp_seq (wp_block (wsr ?_)));obtain ⟨x11,hx11,hD⟩:=bindD_elim hD;refine seq_val (.pointer (some ⟨rowB a0v,rowO a0v+x6.2.2.toNat * 2,none⟩)) r (fun R=>y_rowAddr r (hP.ro (i:=0) rfl) hx11 sl248 rfl rfl) rfl fun fr r=>seq_val (.agg (fieldC x11).toArray) r (fun R=>y_loadL_agg r (cs:=(fieldC x11)) (RoAt.at_ (f:=fieldC) (x:=x11) (hP.ro (i:=0) rfl) (fun _=>rfl) hx11) rfl ta241) rfl fun fr r=>?_;refine seq_new (.cells ((fieldC (⟨0,0⟩:Field))).toArray 241 (0,0)) r (fun R=>y_alloc tz241) rfl fun fr b12 w13 n14 r=>?_
   have hP:Post No [roK 241 2 fieldC a0v a0,rowK 34 1 u64 γ7 x6.1,cellC b12 ((fieldC (⟨0,0⟩:Field))).toArray 241] w0 w13:=hP.new n14;refine seq_upd (.cells ((fieldC x11)).toArray 241 (0,0)) r (fun R=>y_store r (o:=0) (v:=(.agg (fieldC x11).toArray)) rfl rfl (hP.cell (i:=2) rfl) ts241 (Nat.le_of_ble_eq_true rfl) rfl rfl) rfl fun fr w16 u17 r=>?_;have hP:Post No [roK 241 2 fieldC a0v a0,rowK 34 1 u64 γ7 x6.1,cellC b12 ((fieldC x11)).toArray 241] w0 w16:=hP.upd (i:=2) rfl u17
   refine wn (wsr (kM γ7 r rfl rfl fun r=>kG (fieldC x11) 2 r rfl (hP.cell (i:=2) rfl) ta241 rfl rfl fun r=>kM (U a1) r rfl rfl fun r=>?_));refine kE r (c_field_Field_Get w16 x11 a1) rfl cl191 rfl fun w18 hb r=>?_
   have hP:=hP.below hb;refine seq_newS (.cells (([(D.field_Field_Get x11 a1)]).flatMap u64).toArray 34 (0,0)) 1 r (fun R=>y_bslice r (by kernel_rfl)) rfl fun fr b19 w20 n21 r=>?_;have hP:Post No [roK 241 2 fieldC a0v a0,rowK 34 1 u64 γ7 x6.1,cellC b12 ((fieldC x11)).toArray 241,rowK 34 1 u64 (.slice (some ⟨b19,0,none⟩) 1 1) ([(D.field_Field_Get x11 a1)])] w0 w20:=hP.newRow n21 (fun _=>rfl) rfl
   obtain ⟨x23,hx23,hD⟩:=bindD_elim hD;refine seq_app 34 1 u64 γ7 r (fun R=>y_append r rt66 (fun _=>rfl) (fun _=>rfl) (hP.row (i:=1) rfl) (hP.row (i:=3) rfl).ro hx23 rfl rfl) rfl fun fr v24 w25 ha26 r=>?_;have hP:Post No [roK 241 2 fieldC a0v a0,rowK 34 1 u64 v24 x23,cellC b12 ((fieldC x11)).toArray 241,rowK 34 1 u64 (.slice (some ⟨b19,0,none⟩) 1 1) ([(D.field_Field_Get x11 a1)])] w0 w25:=hP.append (i:=1) rfl ha26
   refine kA v24 r rfl rfl fun r=>wn ?_;refine wp_region_lit (kM (U x6.2.1) r rfl rfl fun r=>kG (fieldC x11) 2 r rfl (hP.cell (i:=2) rfl) ta241 rfl rfl fun r=>?_)
   refine kE r (c_field_Field_mask w25 x11) rfl cl289 rfl fun w27 hb r=>?_;have hP:=hP.below hb
   refine kB r rfl rfl rfl rfl rfl fun r=>kA (U (bits_andNot .u64 x6.2.1 (D.field_Field_mask x11))) r rfl rfl fun r=>wn ?_;refine wp_region_lit (kB r rfl rfl rfl rfl rfl fun r=>kM (I (W (x6.2.2+1))) r rfl rfl fun r=>wn ?_)
   exact nxy8 (x23,(bits_andNot .u64 x6.2.1 (D.field_Field_mask x11)),(W (x6.2.2+1))) v24 _ _ _ hD r (kO (kO (hs_cons rfl (hs_cons rfl hs_nil)))) (hP.pick [0,1] rfl rfl)
  have hD:=(cond_f h10).symm.trans hD;refine wp_exit ?_;exact bky8 (x6.1,x6.2.1,x6.2.2) γ7 _ _ _ hD r (kO (kO (hs_cons rfl (hs_cons rfl hs_nil)))) (hP.pick [0,1] rfl rfl)
 rintro x28 γ29 fr w30 g r hP hD;have hP:Post No [roK 241 2 fieldC a0v a0,rowK 34 1 u64 γ29 x28.1] w0 w30:=hP;refine wp_seq (wsr (kM (U x28.2.1) r rfl rfl fun r=>kB r rfl rfl rfl rfl rfl fun r=>wn ?_));refine wp_cond_split (t:=(x28.2.1 !=0)) (r.ev rfl) (fun h31=>?_) (fun h31=>?_)
 ·
  have hD:=(cond_t h31).symm.trans hD;refine wsr (kA kS r rfl rfl fun r=>kA (I 10) r rfl rfl fun r=>wn (wp_ret ?_));have hP:Post No [roK 241 2 fieldC a0v a0,rowK 34 1 u64 γ29 x28.1,rowK 34 1 u64 kS ([])] w0 w30:=hP.nilRow 34 1 u64
  have hv:([],10)=res:=Option.some.inj hD
  try dsimp only [Exit.then,Exit.inBlock]
  refine ret_tmp2 (fn:=Tryz.f197) r (t:=4) (t':=5) rfl (v:=kS) (v':=(I 10)) rfl rfl ?_;subst hv;exact ⟨kS,rfl,(hP.pick [2] rfl rfl).done (rest_cons rfl rest_nil)⟩
 have hD:=(cond_f h31).symm.trans hD;refine wp_skip (wsr (kM γ29 r rfl rfl fun r=>kA γ29 r rfl rfl fun r=>kA (I 0) r rfl rfl fun r=>wn (wp_ret ?_)));have hv:(x28.1,0)=res:=Option.some.inj hD
 try dsimp only [Exit.then,Exit.inBlock]
 refine ret_tmp2 (fn:=Tryz.f197) r (t:=4) (t':=5) rfl (v:=γ29) (v':=(I 0)) rfl rfl ?_;subst hv;exact ⟨γ29,rfl,(hP.pick [1] rfl rfl).done (rest_cons rfl rest_nil)⟩
def D.state_Of (fu:Nat) (a0:Int):Option (State × Bool):=((D.state_layout fu ).bind (fun (x5:Arr3F)=>((D.field_Split fu ([x5.f0,x5.f1,x5.f2]) a0).bind (fun (x13:List Int × Int)=>(bif (x13.2 !=0) then (some ((⟨0,0,0⟩:State),false)) else ((getI x13.1 0).bind (fun (x20:Int)=>((getI x13.1 1).bind (fun (x21:Int)=>((getI x13.1 2).bind (fun (x22:Int)=>(bif (!(D.state_State_Formed (⟨(IntKind.i64.wrap x20),(IntKind.i64.wrap x21),(IntKind.i64.wrap x22)⟩:State))) then (some ((⟨0,0,0⟩:State),false)) else (some ((⟨(IntKind.i64.wrap x20),(IntKind.i64.wrap x21),(IntKind.i64.wrap x22)⟩:State),true))))))))))))))
theorem c_state_Of {fu:Nat} (w0:World) (a0:Int) {res:State × Bool} (hD:D.state_Of fu a0=some res) :
    Calls Tryz.prog 111 #[.int .u64 a0] w0 (PureRes (.tuple #[(.agg (stateC res.1).toArray),(.bool res.2)]) w0):=by
 refine enter Tryz.func111 rfl 36 rfl rfl fun fr r=>?_;have hP:Post No [] w0 w0:=Post.nil w0
 unfold D.state_Of at hD
 refine wsr ?_;refine seq_new (.cells ((stateC (⟨0,0,0⟩:State))).toArray 190 (0,0)) r (fun R=>y_alloc tz190) rfl fun fr b1 w2 n3 r=>?_;have hP:Post No [cellC b1 ((stateC (⟨0,0,0⟩:State))).toArray 190] w0 w2:=hP.new n3
 refine kA (.bool false) r rfl rfl fun r=>wn (wsr ?_);obtain ⟨x5,hx5,hD⟩:=bindD_elim hD
 refine kE r (c_state_layout w2  hx5) rfl cl196 rfl fun w6 hb r=>?_;have hP:=hP.below hb
 refine seq_new (.cells ((arr3FC (⟨(⟨0,0⟩:Field),(⟨0,0⟩:Field),(⟨0,0⟩:Field)⟩:Arr3F))).toArray 244 (0,0)) r (fun R=>y_alloc tz244) rfl fun fr b7 w8 n9 r=>?_;have hP:Post No [cellC b1 ((stateC (⟨0,0,0⟩:State))).toArray 190,cellC b7 ((arr3FC (⟨(⟨0,0⟩:Field),(⟨0,0⟩:Field),(⟨0,0⟩:Field)⟩:Arr3F))).toArray 244] w0 w8:=hP.new n9
 refine seq_upd (.cells ((arr3FC x5)).toArray 244 (0,0)) r (fun R=>y_store r (o:=0) (v:=(.agg (arr3FC x5).toArray)) rfl rfl (hP.cell (i:=1) rfl) ts244 (Nat.le_of_ble_eq_true rfl) rfl rfl) rfl fun fr w11 u12 r=>?_;have hP:Post No [cellC b1 ((stateC (⟨0,0,0⟩:State))).toArray 190,cellC b7 ((arr3FC x5)).toArray 244] w0 w11:=hP.upd (i:=1) rfl u12
 refine wn (wsr (seq_val (.slice (some ⟨b7,0,none⟩) 3 3) r (fun R=>y_arr r ar244 rfl) rfl fun fr r=>kM (U a0) r rfl rfl fun r=>?_));obtain ⟨x13,hx13,hD⟩:=bindD_elim hD
 refine kC r (c_field_Split w11 ([x5.f0,x5.f1,x5.f2]) (RoAt.ofCell (hP.cell (i:=1) rfl) rfl (List.cons_ne_nil _ _) rfl) a0 hx13) rfl cl197 rfl ?_;rintro _ w14 ⟨v15,rfl,hq⟩;refine ⟨_,rfl,fun fr r=>?_⟩
 have hP:Post No [cellC b1 ((stateC (⟨0,0,0⟩:State))).toArray 190,cellC b7 ((arr3FC x5)).toArray 244,rowK 34 1 u64 v15 x13.1] w0 w14:=hP.add hq;refine kM (.tuple #[v15,(I x13.2)]) r rfl rfl fun r=>seq_val v15 r (fun R=>y_extract r (vs:=#[v15,(I x13.2)]) rfl rfl) rfl fun fr r=>seq_val (I x13.2) r (fun R=>y_extract r (vs:=#[v15,(I x13.2)]) rfl rfl) rfl fun fr r=>kA v15 r rfl rfl fun r=>kA (I x13.2) r rfl rfl fun r=>wn (wp_seq (wsr (kM (I x13.2) r rfl rfl fun r=>kB r rfl rfl rfl rfl rfl fun r=>wn ?_)));refine wp_cond_split (t:=(x13.2 !=0)) (r.ev rfl) (fun h17=>?_) (fun h17=>?_)
 ·
  have hD:=(cond_t h17).symm.trans hD;refine wsr (kU (.agg (stateC (⟨0,0,0⟩:State)).toArray) r (by kernel_rfl) rfl fun r=>?_)
  refine seq_upd (.cells ((stateC (⟨0,0,0⟩:State))).toArray 190 (0,0)) r (fun R=>y_store r (o:=0) (v:=(.agg (stateC (⟨0,0,0⟩:State)).toArray)) rfl rfl (hP.cell (i:=0) rfl) ts190 (Nat.le_of_ble_eq_true rfl) rfl rfl) rfl fun fr w18 u19 r=>?_;have hP:Post No [cellC b1 ((stateC (⟨0,0,0⟩:State))).toArray 190,cellC b7 ((arr3FC x5)).toArray 244,rowK 34 1 u64 v15 x13.1] w0 w18:=hP.upd (i:=0) rfl u19
  refine kA (.bool false) r rfl rfl fun r=>wn (wp_ret ?_);have hv:((⟨0,0,0⟩:State),false)=res:=Option.some.inj hD
  try dsimp only [Exit.then,Exit.inBlock]
  refine ret_cell_tmp (fn:=Tryz.f111) r rfl rfl (v':=(.bool false)) rfl (hP.cell (i:=0) rfl) (k:=3) rfl ta190 ?_;subst hv;exact ⟨rfl,hP.chg.below⟩
 have hD:=(cond_f h17).symm.trans hD;refine wp_skip (wp_seq ?_);obtain ⟨x20,hx20,hD⟩:=bindD_elim hD;obtain ⟨x21,hx21,hD⟩:=bindD_elim hD;obtain ⟨x22,hx22,hD⟩:=bindD_elim hD;refine wp_freeF [.val v15,.val (.pointer (some ⟨rowB v15,rowO v15+(0:Int).toNat * 1,none⟩)),.val (U x20),.val (I (W x20)),.val v15,.val (.pointer (some ⟨rowB v15,rowO v15+(1:Int).toNat * 1,none⟩)),.val (U x21),.val (I (W x21)),.val v15,.val (.pointer (some ⟨rowB v15,rowO v15+(2:Int).toNat * 1,none⟩)),.val (U x22),.val (I (W x22)),.val (.agg (stateC (⟨(W x20),(W x21),(W x22)⟩:State)).toArray),.cell 190 3,.stored 13 ((stateC (⟨(W x20),(W x21),(W x22)⟩:State))).toArray 190 3 rfl] mixed r (by kernel_rfl) ?_ ?_
 ·
  refine fc r (fun fr1 g w' hb' hd r'=>y_move r' rfl bz) ?_;refine fc r (fun fr1 g w' hb' hd r'=>y_rowAddr r' ((hP.below (dr hb')).row (i:=2) rfl).ro hx20 sl66 (hd 0 rfl).1 rfl bz) ?_
  refine fc r (fun fr1 g w' hb' hd r'=>y_loadL_one r' (u:=(U x20)) (RoAt.at_ (f:=u64) (x:=x20) ((hP.below (dr hb')).row (i:=2) rfl).ro (fun _=>rfl) hx20) (hd 1 rfl).1 to34 bz) ?_;refine fc r (fun fr1 g w' hb' hd r'=>y_convert r' (n:=x20) (hd 2 rfl).1 ti34 ti3 bz) ?_
  refine fc r (fun fr1 g w' hb' hd r'=>y_move r' rfl bz) ?_;refine fc r (fun fr1 g w' hb' hd r'=>y_rowAddr r' ((hP.below (dr hb')).row (i:=2) rfl).ro hx21 sl66 (hd 4 rfl).1 rfl bz) ?_
  refine fc r (fun fr1 g w' hb' hd r'=>y_loadL_one r' (u:=(U x21)) (RoAt.at_ (f:=u64) (x:=x21) ((hP.below (dr hb')).row (i:=2) rfl).ro (fun _=>rfl) hx21) (hd 5 rfl).1 to34 bz) ?_;refine fc r (fun fr1 g w' hb' hd r'=>y_convert r' (n:=x21) (hd 6 rfl).1 ti34 ti3 bz) ?_
  refine fc r (fun fr1 g w' hb' hd r'=>y_move r' rfl bz) ?_;refine fc r (fun fr1 g w' hb' hd r'=>y_rowAddr r' ((hP.below (dr hb')).row (i:=2) rfl).ro hx22 sl66 (hd 8 rfl).1 rfl bz) ?_
  refine fc r (fun fr1 g w' hb' hd r'=>y_loadL_one r' (u:=(U x22)) (RoAt.at_ (f:=u64) (x:=x22) ((hP.below (dr hb')).row (i:=2) rfl).ro (fun _=>rfl) hx22) (hd 9 rfl).1 to34 bz) ?_;refine fc r (fun fr1 g w' hb' hd r'=>y_convert r' (n:=x22) (hd 10 rfl).1 ti34 ti3 bz) ?_
  refine fc r (fun fr1 g w' hb' hd r'=>y_build r' (v:=(.agg (stateC (⟨(W x20),(W x21),(W x22)⟩:State)).toArray)) (bs3 (congrArg (fun z=>(0,z)) (hd 3 rfl).1) (congrArg (fun z=>(1,z)) (hd 7 rfl).1) (congrArg (fun z=>(2,z)) (hd 11 rfl).1) (by kernel_rfl)) bz) ?_;refine fc r (fun fr1 g w' hb' hd r'=>y_alloc tz190 (fun b w2 n2=>⟨n2.below,b,rfl,n2.eq,_,n2.at_,rfl⟩)) ?_
  refine eachF_cons r rfl (fun fr1 g w' hb' hd r'=>?_) ?_
  · obtain ⟨hp,_,c,hc,hn⟩:=(hd 13 rfl).1; exact y_store r' (o:=0) (c:=c) (v:=(.agg (stateC (⟨(W x20),(W x21),(W x22)⟩:State)).toArray)) hp (hd 12 rfl).1 hc ts190 (by rw [hn]; exact Nat.le_of_ble_eq_true rfl) rfl (over2_full (hn.trans rfl)) (fun w2 u2=>⟨u2,rfl⟩)
  exact eachF_nil
 intro fr gg w24 hb hΦ hap r;obtain ⟨b23,ee_b23⟩:∃ b,b=(gg 13).lo:=⟨_,rfl⟩;have g13:(gg 13).v=(zp b23):=by rw [ee_b23]; exact (hΦ 13 rfl).1.1
 have H23:w24.heap[b23]?=some (.cells ((stateC (⟨(W x20),(W x21),(W x22)⟩:State))).toArray 190 (0,0)):=by rw [ee_b23]; exact (hΦ 14 rfl).1.2
 have hs13:Fresh [cellC b23 ((stateC (⟨(W x20),(W x21),(W x22)⟩:State))).toArray 190] (gg 13).lo (gg 13).hi w24:=by subst ee_b23; exact Fresh.cell (hΦ 13 rfl).1.2.1 H23
 have r:=r.congr (sc g13 (sc ((hΦ 12 rfl).1) (sc ((hΦ 11 rfl).1) (sc ((hΦ 10 rfl).1) (sc ((hΦ 9 rfl).1) (sc ((hΦ 8 rfl).1) (sc ((hΦ 7 rfl).1) (sc ((hΦ 6 rfl).1) (sc ((hΦ 5 rfl).1) (sc ((hΦ 4 rfl).1) (sc ((hΦ 3 rfl).1) (sc ((hΦ 2 rfl).1) (sc ((hΦ 1 rfl).1) (sc ((hΦ 0 rfl).1) rfl))))))))))))));have hP:Post No [cellC b1 ((stateC (⟨0,0,0⟩:State))).toArray 190,cellC b7 ((arr3FC x5)).toArray 244,rowK 34 1 u64 v15 x13.1,cellC b23 ((stateC (⟨(W x20),(W x21),(W x22)⟩:State))).toArray 190] w0 w24:=hP.addL (l:=[([cellC b23 ((stateC (⟨(W x20),(W x21),(W x22)⟩:State))).toArray 190],(gg 13).lo,(gg 13).hi)]) hb ⟨hs13,(hΦ 13 rfl).2.1,disj_nil,trivial⟩;refine wp_seq (wsr (kG (stateC (⟨(W x20),(W x21),(W x22)⟩:State)) 3 r rfl (hP.cell (i:=3) rfl) ta190 rfl rfl fun r=>?_));refine kE r (c_state_State_Formed w24 (⟨(W x20),(W x21),(W x22)⟩:State)) rfl cl198 rfl fun w25 hb r=>?_
 have hP:=hP.below hb;refine seq_val (.bool (!(D.state_State_Formed (⟨(W x20),(W x21),(W x22)⟩:State)))) r (fun R=>y_un r (u:=(.bool (D.state_State_Formed (⟨(W x20),(W x21),(W x22)⟩:State)))) rfl rfl) rfl fun fr r=>wn ?_;refine wp_cond_split (t:=(!(D.state_State_Formed (⟨(W x20),(W x21),(W x22)⟩:State)))) (r.ev rfl) (fun h26=>?_) (fun h26=>?_)
 ·
  have hD:=(cond_t h26).symm.trans hD;refine wsr (kU (.agg (stateC (⟨0,0,0⟩:State)).toArray) r (by kernel_rfl) rfl fun r=>?_)
  refine seq_upd (.cells ((stateC (⟨0,0,0⟩:State))).toArray 190 (0,0)) r (fun R=>y_store r (o:=0) (v:=(.agg (stateC (⟨0,0,0⟩:State)).toArray)) rfl rfl (hP.cell (i:=0) rfl) ts190 (Nat.le_of_ble_eq_true rfl) rfl rfl) rfl fun fr w27 u28 r=>?_;have hP:Post No [cellC b1 ((stateC (⟨0,0,0⟩:State))).toArray 190,cellC b7 ((arr3FC x5)).toArray 244,rowK 34 1 u64 v15 x13.1,cellC b23 ((stateC (⟨(W x20),(W x21),(W x22)⟩:State))).toArray 190] w0 w27:=hP.upd (i:=0) rfl u28
  refine kA (.bool false) r rfl rfl fun r=>wn (wp_ret ?_);have hv:((⟨0,0,0⟩:State),false)=res:=Option.some.inj hD
  try dsimp only [Exit.then,Exit.inBlock]
  refine ret_cell_tmp (fn:=Tryz.f111) r rfl rfl (v':=(.bool false)) rfl (hP.cell (i:=0) rfl) (k:=3) rfl ta190 ?_;subst hv;exact ⟨rfl,hP.chg.below⟩
 have hD:=(cond_f h26).symm.trans hD;refine wp_skip (wsr (kG (stateC (⟨(W x20),(W x21),(W x22)⟩:State)) 3 r rfl (hP.cell (i:=3) rfl) ta190 rfl rfl fun r=>?_));refine seq_upd (.cells ((stateC (⟨(W x20),(W x21),(W x22)⟩:State))).toArray 190 (0,0)) r (fun R=>y_store r (o:=0) (v:=(.agg (stateC (⟨(W x20),(W x21),(W x22)⟩:State)).toArray)) rfl rfl (hP.cell (i:=0) rfl) ts190 (Nat.le_of_ble_eq_true rfl) rfl rfl) rfl fun fr w29 u30 r=>?_
 have hP:Post No [cellC b1 ((stateC (⟨(W x20),(W x21),(W x22)⟩:State))).toArray 190,cellC b7 ((arr3FC x5)).toArray 244,rowK 34 1 u64 v15 x13.1,cellC b23 ((stateC (⟨(W x20),(W x21),(W x22)⟩:State))).toArray 190] w0 w29:=hP.upd (i:=0) rfl u30;refine kA (.bool true) r rfl rfl fun r=>wn (wp_ret ?_);have hv:((⟨(W x20),(W x21),(W x22)⟩:State),true)=res:=Option.some.inj hD
 try dsimp only [Exit.then,Exit.inBlock]
 refine ret_cell_tmp (fn:=Tryz.f111) r rfl rfl (v':=(.bool true)) rfl (hP.cell (i:=0) rfl) (k:=3) rfl ta190 ?_;subst hv;exact ⟨rfl,hP.chg.below⟩
def D.field_Pack (fu:Nat) (a0:List Field) (a1:List Int):Option (Int × Int):=(Option.bind ((D.field_Formed fu a0).bind (fun (x2:Bool)=>(bif (!x2) then (some true) else (some ((a0.length:Int) !=(a1.length:Int)))))) (fun (x5:Bool)=>(bif x5 then (some (0,1)) else (loopThen (fun (x9:Int × Int × Int × Int)=>(bif (decide (x9.2.2.2<(a0.length:Int))) then ((getI a0 x9.2.2.2).bind (fun (x14:Field)=>((getI a1 x9.2.2.2).bind (fun (x21:Int)=>(bif (decide (x21 > (D.field_Field_Most x14))) then (some (Lp.ret (0,1))) else ((getI a1 x9.2.2.2).bind (fun (x24:Int)=>(some (Lp.next (x9.1,x9.2.1,(D.field_Field_Put x14 x9.2.2.1 x24),(IntKind.i64.wrap (x9.2.2.2+1)))))))))))) else (some (Lp.brk (x9.1,x9.2.1,x9.2.2.1,x9.2.2.2))))) fu (0,0,0,0) (fun (x26:Int × Int × Int × Int)=>(some (x26.2.2.1,0)))))))
theorem c_field_Pack {fu:Nat} (w0:World) {a0v:Value} (a0:List Field) (a0h:RoAt 241 2 fieldC a0v a0 w0) {a1v:Value} (a1:List Int) (a1h:RoAt 34 1 u64 a1v a1 w0) {res:Int × Int} (hD:D.field_Pack fu a0 a1=some res) :
    Calls Tryz.prog 217 #[a0v,a1v] w0 (PureRes (.tuple #[(.int .u64 res.1),(.int .i64 res.2)]) w0):=by
 refine enter Tryz.func217 rfl 42 rfl rfl fun fr r=>?_;have hP:Post No [] w0 w0:=Post.nil w0
 have hP:Post No [roK 241 2 fieldC a0v a0] w0 w0:=hP.addRo norw_nil a0h rfl a0h.lt;have hP:Post No [roK 241 2 fieldC a0v a0,roK 34 1 u64 a1v a1] w0 w0:=hP.addRo (norw_cons rfl norw_nil) a1h rfl a1h.lt;unfold D.field_Pack at hD
 refine wsr (kA (U 0) r rfl rfl fun r=>kA (I 0) r rfl rfl fun r=>wn (wp_seq (wp_seq ?_)));refine wp_joinG (N:=42) (Y:=Bool) (G:=Unit) (fun x γ=>[(0,a0v),(1,a1v),(4,(U 0)),(5,(I 0)),(18,(.bool x))]) (fun x γ w=>Post No [roK 241 2 fieldC a0v a0,roK 34 1 u64 a1v a1] w0 w) hD ?_ ?_
 ·
  rintro y1 RPy1 nxy1 hD;refine wp_region_lit (kM a0v r rfl rfl fun r=>?_);obtain ⟨x2,hx2,hD⟩:=bindD_elim hD
  refine kE r (c_field_Formed w0 a0 (hP.ro (i:=0) rfl) hx2) rfl cl288 rfl fun w3 hb r=>?_;have hP:=hP.below hb
  refine seq_val (.bool (!x2)) r (fun R=>y_un r (u:=(.bool x2)) rfl rfl) rfl fun fr r=>kM (.bool (!x2)) r rfl rfl fun r=>?_;refine seq_split (!x2) (fun h4=>?_) (fun h4=>?_)
  ·
   have hD:=(cond_t h4).symm.trans hD;refine s0 r h4 fun fr r=>s0 r h4 fun fr r=>s0 r h4 fun fr r=>s0 r h4 fun fr r=>s0 r h4 fun fr r=>seq_val (.bool true) r (fun R=>y_pick r (b:=true) (kb h4) rfl) rfl fun fr r=>wn ?_;exact nxy1 true () _ _ _ hD r (kO (hs_cons rfl hs_nil)) (hP.pick [0,1] rfl rfl)
  have hD:=(cond_f h4).symm.trans hD;refine s1 r h4 (kM a0v r rfl rfl fun r=>s1 r h4 (seq_val (I (a0.length:Int)) r (fun R=>y_rowLen r (hP.ro (i:=0) rfl) is248 rfl) rfl fun fr r=>s1 r h4 (kM a1v r rfl rfl fun r=>s1 r h4 (seq_val (I (a1.length:Int)) r (fun R=>y_rowLen r (hP.ro (i:=1) rfl) is66 rfl) rfl fun fr r=>s1 r h4 (kB r rfl rfl rfl rfl rfl fun r=>seq_val (.bool ((a0.length:Int) !=(a1.length:Int))) r (fun R=>y_pick r (b:=false) (kb h4) rfl) rfl fun fr r=>wn ?_)))));exact nxy1 ((a0.length:Int) !=(a1.length:Int)) () _ _ _ hD r (kO (hs_cons rfl hs_nil)) (hP.pick [0,1] rfl rfl)
 rintro x5 γ6 fr w7 g r hP hD;have hP:Post No [roK 241 2 fieldC a0v a0,roK 34 1 u64 a1v a1] w0 w7:=hP;refine wp_cond_split (t:=x5) (r.ev rfl) (fun h8=>?_) (fun h8=>?_)
 ·
  have hD:=(cond_t h8).symm.trans hD;refine wsr (kA (U 0) r rfl rfl fun r=>kA (I 1) r rfl rfl fun r=>wn (wp_ret ?_));have hv:(0,1)=res:=Option.some.inj hD
  try dsimp only [Exit.then,Exit.inBlock]
  refine ret_tmp2 (fn:=Tryz.f217) r (t:=4) (t':=5) rfl (v:=(U 0)) (v':=(I 1)) rfl rfl ?_;subst hv;exact ⟨rfl,hP.chg.below⟩
 have hD:=(cond_f h8).symm.trans hD;refine wp_skip (wsr (kA (U 0) r rfl rfl fun r=>wn (wp_seq (wsr (kM a0v r rfl rfl fun r=>seq_val (I (a0.length:Int)) r (fun R=>y_rowLen r (hP.ro (i:=0) rfl) is248 rfl) rfl fun fr r=>kM (I 0) r rfl rfl fun r=>wn ?_)))));refine wp_loopG (X:=Int × Int × Int × Int) (G:=Unit) (x0:=(0,0,0,0)) (fun x γ=>[(0,a0v),(1,a1v),(18,(.bool x5)),(19,a0v),(20,(I (a0.length:Int))),(4,(U x.1)),(5,(I x.2.1)),(6,(U x.2.2.1)),(21,(I x.2.2.2))]) (fun x γ w=>Post No [roK 241 2 fieldC a0v a0,roK 34 1 u64 a1v a1] w0 w) () r (kO (kO (hs_cons rfl hs_nil))) hP hD ?_ ?_
 ·
  rintro x9 γ10 fr w12 g y11 RPy11 nxy11 bky11 rty11 r hP hD;have hP:Post No [roK 241 2 fieldC a0v a0,roK 34 1 u64 a1v a1] w0 w12:=hP;refine wsr (kB r rfl rfl rfl rfl rfl fun r=>wn (wp_seq ?_));refine wp_cond_split (t:=(decide (x9.2.2.2<(a0.length:Int)))) (r.ev rfl) (fun h13=>?_) (fun h13=>?_)
  ·
   have hD:=(cond_t h13).symm.trans hD;refine wp_skip (wp_seq (wp_block (wsr (kM (I x9.2.2.2) r rfl rfl fun r=>?_))));obtain ⟨x14,hx14,hD⟩:=bindD_elim hD
   refine seq_val (.pointer (some ⟨rowB a0v,rowO a0v+x9.2.2.2.toNat * 2,none⟩)) r (fun R=>y_rowAddr r (hP.ro (i:=0) rfl) hx14 sl248 rfl rfl) rfl fun fr r=>seq_val (.agg (fieldC x14).toArray) r (fun R=>y_loadL_agg r (cs:=(fieldC x14)) (RoAt.at_ (f:=fieldC) (x:=x14) (hP.ro (i:=0) rfl) (fun _=>rfl) hx14) rfl ta241) rfl fun fr r=>?_;refine seq_new (.cells ((fieldC (⟨0,0⟩:Field))).toArray 241 (0,0)) r (fun R=>y_alloc tz241) rfl fun fr b15 w16 n17 r=>?_
   have hP:Post No [roK 241 2 fieldC a0v a0,roK 34 1 u64 a1v a1,cellC b15 ((fieldC (⟨0,0⟩:Field))).toArray 241] w0 w16:=hP.new n17;refine kA (I x9.2.2.2) r rfl rfl fun r=>?_;refine seq_upd (.cells ((fieldC x14)).toArray 241 (0,0)) r (fun R=>y_store r (o:=0) (v:=(.agg (fieldC x14).toArray)) rfl rfl (hP.cell (i:=2) rfl) ts241 (Nat.le_of_ble_eq_true rfl) rfl rfl) rfl fun fr w19 u20 r=>?_
   have hP:Post No [roK 241 2 fieldC a0v a0,roK 34 1 u64 a1v a1,cellC b15 ((fieldC x14)).toArray 241] w0 w19:=hP.upd (i:=2) rfl u20;refine wn (wp_seq (wp_seq ?_));obtain ⟨x21,hx21,hD⟩:=bindD_elim hD;refine wp_freeF [.val a1v,.val (I x9.2.2.2),.val (.pointer (some ⟨rowB a1v,rowO a1v+x9.2.2.2.toNat * 1,none⟩)),.val (U x21),.val (.agg (fieldC x14).toArray),.val (U (D.field_Field_Most x14)),.val (.bool (decide (x21 > (D.field_Field_Most x14))))] mixed r (by kernel_rfl) ?_ ?_
   ·
    refine fc r (fun fr1 g w' hb' hd r'=>y_move r' rfl bz) ?_;refine fc r (fun fr1 g w' hb' hd r'=>y_move r' rfl bz) ?_
    refine fc r (fun fr1 g w' hb' hd r'=>y_rowAddr r' ((hP.below (dr hb')).ro (i:=1) rfl) hx21 sl66 (hd 0 rfl).1 (hd 1 rfl).1 bz) ?_;refine fc r (fun fr1 g w' hb' hd r'=>y_loadL_one r' (u:=(U x21)) (RoAt.at_ (f:=u64) (x:=x21) ((hP.below (dr hb')).ro (i:=1) rfl) (fun _=>rfl) hx21) (hd 2 rfl).1 to34 bz) ?_
    refine fc r (fun fr1 g w' hb' hd r'=>y_load_agg r' (cs:=(fieldC x14)) (n:=2) rfl ((hP.below (dr hb')).cell (i:=2) rfl) ta241 rfl bz) ?_;refine fc r (fun fr1 g w' hb' hd r'=>y_call r' (args:=[(.agg (fieldC x14).toArray)]) (lc (hd 4 rfl).1 l0) cl286 ((c_field_Field_Most _ x14).mono (by rintro _ w2 ⟨rfl,hb2⟩; exact ⟨_,rfl,hb2,rfl⟩))) ?_
    refine fc r (fun fr1 g w' hb' hd r'=>y_bin r' (hd 3 rfl).1 (hd 5 rfl).1 rfl rfl bz) ?_;exact eachF_nil
   intro fr gg w22 hb hΦ hap r;have r:=r.congr (sc ((hΦ 6 rfl).1) (sc ((hΦ 5 rfl).1) (sc ((hΦ 4 rfl).1) (sc ((hΦ 3 rfl).1) (sc ((hΦ 2 rfl).1) (sc ((hΦ 1 rfl).1) (sc ((hΦ 0 rfl).1) rfl)))))));have hP:=hP.below hb;refine wp_cond_split (t:=(decide (x21 > (D.field_Field_Most x14)))) (r.ev rfl) (fun h23=>?_) (fun h23=>?_)
   ·
    have hD:=(cond_t h23).symm.trans hD;refine wsr (kA (U 0) r rfl rfl fun r=>kA (I 1) r rfl rfl fun r=>wn (wp_ret ?_));refine rty11 (0,1) _ _ hD fun hD=>?_
    have hv:(0,1)=res:=Option.some.inj hD
    try dsimp only [Exit.then,Exit.inBlock]
    refine ret_tmp2 (fn:=Tryz.f217) r (t:=4) (t':=5) rfl (v:=(U 0)) (v':=(I 1)) rfl rfl ?_;subst hv;exact ⟨rfl,hP.chg.below⟩
   have hD:=(cond_f h23).symm.trans hD;refine wp_skip ?_;obtain ⟨x24,hx24,hD⟩:=bindD_elim hD;refine wp_drawnF 7 [.val (.agg (fieldC x14).toArray),.val (U x9.2.2.1),.val a1v,.val (I x9.2.2.2),.val (.pointer (some ⟨rowB a1v,rowO a1v+x9.2.2.2.toNat * 1,none⟩)),.val (U x24),.val (U (D.field_Field_Put x14 x9.2.2.1 x24))] mixed r (by kernel_rfl) (kV (kV (kV (kV (kV (kV (kV within_nil))))))) ?_ ?_
   ·
    refine ec r (fun _ u _ b d s=>y_load_agg s (cs:=(fieldC x14)) (n:=2) rfl ((hP.below (dr b)).cell (i:=2) rfl) ta241 rfl bz) (ec r (fun _ u _ b d s=>y_move s rfl bz) (ec r (fun _ u _ b d s=>y_move s rfl bz) (ec r (fun _ u _ b d s=>y_move s rfl bz) (ec r (fun _ u _ b d s=>y_rowAddr s ((hP.below (dr b)).ro (i:=1) rfl) hx24 sl66 d.1 d.2.1 bz) (ec r (fun fr1 u w' hb' hd r'=>y_loadL_one r' (u:=(U x24)) (RoAt.at_ (f:=u64) (x:=x24) ((hP.below (dr hb')).ro (i:=1) rfl) (fun _=>rfl) hx24) hd.1 to34 bz) (ec r (fun fr1 u w' hb' hd r'=>y_call r' (args:=[(.agg (fieldC x14).toArray),(U x9.2.2.1),(U x24)]) (lc hd.1 (lc hd.2.1 (lc hd.2.2.1 l0))) cl296 ((c_field_Field_Put _ x14 x9.2.2.1 x24).mono (by rintro _ w2 ⟨rfl,hb2⟩; exact ⟨_,rfl,hb2,rfl⟩))) ?_))))));exact each_nil
   intro fr u w25 hb hΦ hne r;have r:=r.congr (sc (hΦ 6 (by decide)) (sc (hΦ 5 (by decide)) (sc (hΦ 4 (by decide)) (sc (hΦ 3 (by decide)) (sc (hΦ 2 (by decide)) (sc (hΦ 1 (by decide)) (sc (hΦ 0 (by decide)) rfl)))))));have hP:=hP.below hb;refine kA (U (D.field_Field_Put x14 x9.2.2.1 x24)) r rfl rfl fun r=>wn ?_;refine wp_region_lit (kB r rfl rfl rfl rfl rfl fun r=>kM (I (W (x9.2.2.2+1))) r rfl rfl fun r=>wn ?_)
   exact nxy11 (x9.1,x9.2.1,(D.field_Field_Put x14 x9.2.2.1 x24),(W (x9.2.2.2+1))) () _ _ _ hD r (kO (kO (hs_cons rfl hs_nil))) (hP.pick [0,1] rfl rfl)
  have hD:=(cond_f h13).symm.trans hD;refine wp_exit ?_;exact bky11 (x9.1,x9.2.1,x9.2.2.1,x9.2.2.2) () _ _ _ hD r (kO (kO (hs_cons rfl hs_nil))) (hP.pick [0,1] rfl rfl)
 rintro x26 γ27 fr w28 g r hP hD;have hP:Post No [roK 241 2 fieldC a0v a0,roK 34 1 u64 a1v a1] w0 w28:=hP;refine wsr (kM (U x26.2.2.1) r rfl rfl fun r=>kA (U x26.2.2.1) r rfl rfl fun r=>kA (I 0) r rfl rfl fun r=>wn (wp_ret ?_));have hv:(x26.2.2.1,0)=res:=Option.some.inj hD
 try dsimp only [Exit.then,Exit.inBlock]
 refine ret_tmp2 (fn:=Tryz.f217) r (t:=4) (t':=5) rfl (v:=(U x26.2.2.1)) (v':=(I 0)) rfl rfl ?_;subst hv;exact ⟨rfl,hP.chg.below⟩
def D.state_State_Word (fu:Nat) (a0:State):Option (Int):=(bif (!(D.state_State_Formed a0)) then (some 0) else ((D.state_layout fu ).bind (fun (x7:Arr3F)=>((D.field_Pack fu ([x7.f0,x7.f1,x7.f2]) ([(IntKind.u64.wrap a0.gen),(IntKind.u64.wrap a0.mode),(IntKind.u64.wrap a0.kind)])).bind (fun (x17:Int × Int)=>(some x17.1))))))
theorem c_state_State_Word {fu:Nat} (w0:World) (a0:State) {res:Int} (hD:D.state_State_Word fu a0=some res) :
    Calls Tryz.prog 137 #[.agg (stateC a0).toArray] w0 (PureRes (.int .u64 res) w0):=by
 refine enter Tryz.func137 rfl 26 rfl rfl fun fr r=>?_;have hP:Post No [] w0 w0:=Post.nil w0
 unfold D.state_State_Word at hD
 refine wsr ?_;refine kX 190 (.agg (stateC a0).toArray) r rfl rfl fun b1 w2 n3 r=>?_;have hP:Post No [cellC b1 ((stateC a0)).toArray 190] w0 w2:=hP.new n3
 refine kA (U 0) r rfl rfl fun r=>wn (wp_seq (wsr (kG (stateC a0) 3 r rfl (hP.cell (i:=0) rfl) ta190 rfl rfl fun r=>?_)));refine kE r (c_state_State_Formed w2 a0) rfl cl198 rfl fun w5 hb r=>?_
 have hP:=hP.below hb;refine seq_val (.bool (!(D.state_State_Formed a0))) r (fun R=>y_un r (u:=(.bool (D.state_State_Formed a0))) rfl rfl) rfl fun fr r=>wn ?_;refine wp_cond_split (t:=(!(D.state_State_Formed a0))) (r.ev rfl) (fun h6=>?_) (fun h6=>?_)
 ·
  have hD:=(cond_t h6).symm.trans hD;refine wsr (kA (U 0) r rfl rfl fun r=>wn (wp_ret ?_));have hv:0=res:=Option.some.inj hD
  try dsimp only [Exit.then,Exit.inBlock]
  refine ret_tmp (fn:=Tryz.f137) r (t:=2) rfl (v:=(U 0)) rfl ?_;subst hv;exact ⟨rfl,hP.chg.below⟩
 have hD:=(cond_f h6).symm.trans hD;refine wp_skip (wsr ?_);obtain ⟨x7,hx7,hD⟩:=bindD_elim hD;refine kE r (c_state_layout w5  hx7) rfl cl196 rfl fun w8 hb r=>?_;have hP:=hP.below hb
 refine seq_new (.cells ((arr3FC (⟨(⟨0,0⟩:Field),(⟨0,0⟩:Field),(⟨0,0⟩:Field)⟩:Arr3F))).toArray 244 (0,0)) r (fun R=>y_alloc tz244) rfl fun fr b9 w10 n11 r=>?_;have hP:Post No [cellC b1 ((stateC a0)).toArray 190,cellC b9 ((arr3FC (⟨(⟨0,0⟩:Field),(⟨0,0⟩:Field),(⟨0,0⟩:Field)⟩:Arr3F))).toArray 244] w0 w10:=hP.new n11
 refine seq_upd (.cells ((arr3FC x7)).toArray 244 (0,0)) r (fun R=>y_store r (o:=0) (v:=(.agg (arr3FC x7).toArray)) rfl rfl (hP.cell (i:=1) rfl) ts244 (Nat.le_of_ble_eq_true rfl) rfl rfl) rfl fun fr w13 u14 r=>?_;have hP:Post No [cellC b1 ((stateC a0)).toArray 190,cellC b9 ((arr3FC x7)).toArray 244] w0 w13:=hP.upd (i:=1) rfl u14
 refine wn (wp_seq ?_);obtain ⟨x17,hx17,hD⟩:=bindD_elim hD;refine wp_freeF [.val (.slice (some ⟨b9,0,none⟩) 3 3),.val (zp b1),.val (I a0.gen),.val (U (V a0.gen)),.val (.pointer (some ⟨b1,1,none⟩)),.val (I a0.mode),.val (U (V a0.mode)),.val (.pointer (some ⟨b1,2,none⟩)),.val (I a0.kind),.val (U (V a0.kind)),.pred (MkP (fun v:Value=>v) (fun v:Value=>[rowK 34 1 u64 v ([(V a0.gen),(V a0.mode),(V a0.kind)])])) (MkP.st _ _),.val (.tuple #[(U x17.1),(I x17.2)]),.val (.tuple #[(U x17.1),(I x17.2)]),.val (U x17.1),.val (I x17.2),.val (U x17.1),.val (I x17.2)] mixed r (by kernel_rfl) ?_ ?_
 ·
  refine fc r (fun fr1 g w' hb' hd r'=>y_arr r' ar244 rfl bz) ?_;refine fc r (fun fr1 g w' hb' hd r'=>y_fieldAddr r' (b:=b1) (o:=0) rfl fo190_0 bz) ?_
  refine fc r (fun fr1 g w' hb' hd r'=>y_load_one r' (hd 1 rfl).1 ((hP.below (dr hb')).cell (i:=0) rfl) to3 rfl bz) ?_;refine fc r (fun fr1 g w' hb' hd r'=>y_convert r' (n:=a0.gen) (hd 2 rfl).1 ti3 ti34 bz) ?_
  refine fc r (fun fr1 g w' hb' hd r'=>y_fieldAddr r' (b:=b1) (o:=0) rfl fo190_1 bz) ?_;refine fc r (fun fr1 g w' hb' hd r'=>y_load_one r' (hd 4 rfl).1 ((hP.below (dr hb')).cell (i:=0) rfl) to3 rfl bz) ?_
  refine fc r (fun fr1 g w' hb' hd r'=>y_convert r' (n:=a0.mode) (hd 5 rfl).1 ti3 ti34 bz) ?_;refine fc r (fun fr1 g w' hb' hd r'=>y_fieldAddr r' (b:=b1) (o:=0) rfl fo190_2 bz) ?_
  refine fc r (fun fr1 g w' hb' hd r'=>y_load_one r' (hd 7 rfl).1 ((hP.below (dr hb')).cell (i:=0) rfl) to3 rfl bz) ?_;refine fc r (fun fr1 g w' hb' hd r'=>y_convert r' (n:=a0.kind) (hd 8 rfl).1 ti3 ti34 bz) ?_
  refine fc r (fun fr1 g w' hb' hd r'=>y_bslice r' (c:=(([(V a0.gen),(V a0.mode),(V a0.kind)]).flatMap u64).toArray) (E:=34) (bs3 (congrArg (fun z=>(0,z)) (hd 3 rfl).1) (congrArg (fun z=>(1,z)) (hd 6 rfl).1) (congrArg (fun z=>(2,z)) (hd 9 rfl).1) (by kernel_rfl)) (fun b w2 n2=>⟨n2.below,MkP.newRow n2 (fun _=>rfl) rfl⟩)) ?_;refine fc r (fun fr1 g w' hb' hd r'=>y_call r' (args:=[(.slice (some ⟨b9,0,none⟩) 3 3),(g 10).v]) (lc (hd 0 rfl).1 (lc rfl l0)) cl217 ((c_field_Pack _ ([x7.f0,x7.f1,x7.f2]) (RoAt.ofCell ((hP.below (dr hb')).cell (i:=1) rfl) rfl (List.cons_ne_nil _ _) rfl) ([(V a0.gen),(V a0.mode),(V a0.kind)]) (MkP.row (hd 10 rfl).1) hx17).mono (by rintro _ w2 ⟨rfl,hb2⟩; exact ⟨_,rfl,hb2,rfl⟩))) ?_
  refine fc r (fun fr1 g w' hb' hd r'=>y_move r' (hd 11 rfl).1 bz) ?_;refine fc r (fun fr1 g w' hb' hd r'=>y_extract r' (vs:=#[(U x17.1),(I x17.2)]) (hd 12 rfl).1 rfl bz) ?_
  refine fc r (fun fr1 g w' hb' hd r'=>y_extract r' (vs:=#[(U x17.1),(I x17.2)]) (hd 12 rfl).1 rfl bz) ?_;refine fc r (fun fr1 g w' hb' hd r'=>y_assign r' (hd 13 rfl).1 bz) ?_
  refine fc r (fun fr1 g w' hb' hd r'=>y_assign r' (hd 14 rfl).1 bz) ?_;exact eachF_nil
 intro fr gg w18 hb hΦ hap r;obtain ⟨v15,g10,hs10⟩:=(hΦ 10 rfl).1;have r:=r.congr (sc ((hΦ 16 rfl).1) (sc ((hΦ 15 rfl).1) (sc ((hΦ 14 rfl).1) (sc ((hΦ 13 rfl).1) (sc ((hΦ 12 rfl).1) (sc ((hΦ 11 rfl).1) (sc g10 (sc ((hΦ 9 rfl).1) (sc ((hΦ 8 rfl).1) (sc ((hΦ 7 rfl).1) (sc ((hΦ 6 rfl).1) (sc ((hΦ 5 rfl).1) (sc ((hΦ 4 rfl).1) (sc ((hΦ 3 rfl).1) (sc ((hΦ 2 rfl).1) (sc ((hΦ 1 rfl).1) (sc ((hΦ 0 rfl).1) rfl)))))))))))))))));have hP:Post No [cellC b1 ((stateC a0)).toArray 190,cellC b9 ((arr3FC x7)).toArray 244,rowK 34 1 u64 v15 ([(V a0.gen),(V a0.mode),(V a0.kind)])] w0 w18:=hP.addL (l:=[([rowK 34 1 u64 v15 ([(V a0.gen),(V a0.mode),(V a0.kind)])],(gg 10).lo,(gg 10).hi)]) hb ⟨hs10,(hΦ 10 rfl).2.1,disj_nil,trivial⟩;refine wsr (kM (U x17.1) r rfl rfl fun r=>kA (U x17.1) r rfl rfl fun r=>wn (wp_ret ?_));have hv:x17.1=res:=Option.some.inj hD
 try dsimp only [Exit.then,Exit.inBlock]
 refine ret_tmp (fn:=Tryz.f137) r (t:=2) rfl (v:=(U x17.1)) rfl ?_;subst hv;exact ⟨rfl,hP.chg.below⟩
end Go.Proofs.YtbbipmelhmgmfaaGreat.St

/- Ours. -/
namespace Go.Proofs.YtbbipmelhmgmfaaGreat
open Go.RowKit
def fGen:Field:=⟨0,30⟩
def fMode:Field:=⟨30,2⟩
def fKind:Field:=⟨32,2⟩
theorem lay_formed:St.D.field_Formed 10 [fGen,fMode,fKind]=some true:=by decide +kernel
theorem split_lay (w:Int):St.D.field_Split 10 [fGen,fMode,fKind] w=bif (bits_andNot .u64 (bits_andNot .u64 (bits_andNot .u64 w (D.field_Field_mask fGen)) (D.field_Field_mask fMode)) (D.field_Field_mask fKind) !=0) then some ([],10)
    else some ([D.field_Field_Get fGen w,D.field_Field_Get fMode w,D.field_Field_Get fKind w],0):=by
  unfold St.D.field_Split;rw [lay_formed]
  rfl
theorem pack_lay (a b c:Int):St.D.field_Pack 10 [fGen,fMode,fKind] [a,b,c]=bif (decide (a > D.field_Field_Most fGen)) then some (0,1) else bif (decide (b > D.field_Field_Most fMode)) then some (0,1) else bif (decide (c > D.field_Field_Most fKind)) then some (0,1)
    else some (D.field_Field_Put fKind (D.field_Field_Put fMode (D.field_Field_Put fGen 0 a) b) c,0):=by
  unfold St.D.field_Pack;rw [lay_formed];have w1:IntKind.i64.wrap ((0:Int)+1)=1:=rfl;have w2:IntKind.i64.wrap ((1:Int)+1)=2:=rfl;have w3:IntKind.i64.wrap ((2:Int)+1)=3:=rfl;have g0:∀ {α:Type} (x y z:α),getI [x,y,z] 0=some x:=fun _ _ _=>rfl
  have g1:∀ {α:Type} (x y z:α),getI [x,y,z] 1=some y:=fun _ _ _=>rfl
  have g2:∀ {α:Type} (x y z:α),getI [x,y,z] 2=some z:=fun _ _ _=>rfl
  have l3:∀ {α:Type} (x y z:α),(([x,y,z]:List α).length:Int)=3:=fun _ _ _=>rfl
  cases h1:decide (a > D.field_Field_Most fGen) <;> cases h2:decide (b > D.field_Field_Most fMode) <;> cases h3:decide (c > D.field_Field_Most fKind) <;>
    simp only [loopThen,runLoop,goOn,afterLoop,w1,w2,w3,g0,g1,g2,l3,h1,h2,h3,Option.bind_some,cond_true,cond_false,Bool.not_true,bne_self_eq_false,show decide ((0:Int)<3)=true from rfl,show decide ((1:Int)<3)=true from rfl,show decide ((2:Int)<3)=true from rfl,show decide ((3:Int)<3)=false from rfl]
def D.state_State_Word (s:State):Int:=(St.D.state_State_Word 10 s).getD 0
def D.state_Of (w:Int):State × Bool:=(St.D.state_Of 10 w).getD (⟨0,0,0⟩,false)
theorem word_some (s:State):∃ r,St.D.state_State_Word 10 s=some r:=by
  unfold St.D.state_State_Word;cases (!(D.state_State_Formed s))
  · show ∃ r,(((St.D.field_Pack 10 [fGen,fMode,fKind] [IntKind.u64.wrap s.gen,IntKind.u64.wrap s.mode,IntKind.u64.wrap s.kind]).bind (fun (x17:Int × Int)=>(some x17.1))))=some r
    rw [pack_lay]
    generalize decide (IntKind.u64.wrap s.gen > D.field_Field_Most fGen)=b1
    generalize decide (IntKind.u64.wrap s.mode > D.field_Field_Most fMode)=b2
    generalize decide (IntKind.u64.wrap s.kind > D.field_Field_Most fKind)=b3
    cases b1 <;> cases b2 <;> cases b3 <;> exact ⟨_,rfl⟩
  · exact ⟨_,rfl⟩
theorem of_some (w:Int):∃ r,St.D.state_Of 10 w=some r:=by
  unfold St.D.state_Of;show ∃ r,(St.D.field_Split 10 [fGen,fMode,fKind] w).bind _=some r
  rw [split_lay]
  generalize (bits_andNot .u64 (bits_andNot .u64 (bits_andNot .u64 w (D.field_Field_mask fGen)) (D.field_Field_mask fMode)) (D.field_Field_mask fKind) !=0)=b
  cases b
  · show ∃ r,(bif (!(D.state_State_Formed (⟨(IntKind.i64.wrap (D.field_Field_Get fGen w)),(IntKind.i64.wrap (D.field_Field_Get fMode w)),(IntKind.i64.wrap (D.field_Field_Get fKind w))⟩:State))) then _ else _)=some r
    generalize (!(D.state_State_Formed (⟨(IntKind.i64.wrap (D.field_Field_Get fGen w)),(IntKind.i64.wrap (D.field_Field_Get fMode w)),(IntKind.i64.wrap (D.field_Field_Get fKind w))⟩:State)))=b
    cases b <;> exact ⟨_,rfl⟩
  · exact ⟨_,rfl⟩
theorem c_state_State_Word (w0:World) (a0:State):Calls Tryz.prog 137 #[.agg (stateC a0).toArray] w0 (PureRes (.int .u64 (D.state_State_Word a0)) w0):=by
  obtain ⟨r,hr⟩:=word_some a0;unfold D.state_State_Word;rw [hr];exact St.c_state_State_Word w0 a0 hr
theorem c_state_Of (w0:World) (a0:Int):Calls Tryz.prog 111 #[.int .u64 a0] w0 (PureRes (.tuple #[(.agg (stateC (D.state_Of a0).1).toArray),(.bool (D.state_Of a0).2)]) w0):=by
  obtain ⟨r,hr⟩:=of_some a0;unfold D.state_Of;rw [hr];exact St.c_state_Of w0 a0 hr
end Go.Proofs.YtbbipmelhmgmfaaGreat

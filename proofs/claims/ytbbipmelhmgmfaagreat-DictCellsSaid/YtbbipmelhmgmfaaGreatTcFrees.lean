/- Ours. -/
import Derived.Test.YtbbipmelhmgmfaaGreatTcLoads
import Derived.Test.YtbbipmelhmgmfaaGreatTcM7
set_option linter.all false
set_option maxRecDepth 100000
set_option maxHeartbeats 20000000
namespace Go.Proofs.YtbbipmelhmgmfaaGreat
open Go.RowKit
section
variable {n : Nat} {F : Nat → Prop} {j : Nat} {w0 : World}
theorem cl116:callable Tryz.prog 116:=by kernel_rfl
theorem cl182:callable Tryz.prog 182:=by kernel_rfl
theorem cl186:callable Tryz.prog 186:=by kernel_rfl
theorem cl188:callable Tryz.prog 188:=by kernel_rfl
theorem cl190:callable Tryz.prog 190:=by kernel_rfl
theorem cl191:callable Tryz.prog 191:=by kernel_rfl
theorem cl192:callable Tryz.prog 192:=by kernel_rfl
theorem cl193:callable Tryz.prog 193:=by kernel_rfl
theorem cl200:callable Tryz.prog 200:=by kernel_rfl
theorem cl201:callable Tryz.prog 201:=by kernel_rfl
theorem cl203:callable Tryz.prog 203:=by kernel_rfl
theorem cl222:callable Tryz.prog 222:=by kernel_rfl
theorem cl276:callable Tryz.prog 276:=by kernel_rfl
theorem cl277:callable Tryz.prog 277:=by kernel_rfl
theorem cl278:callable Tryz.prog 278:=by kernel_rfl
theorem cl279:callable Tryz.prog 279:=by kernel_rfl
theorem cl280:callable Tryz.prog 280:=by kernel_rfl
theorem cl296:callable Tryz.prog 296:=by kernel_rfl
theorem cl310:callable Tryz.prog 310:=by kernel_rfl
theorem cl346:callable Tryz.prog 346:=by kernel_rfl
theorem cl355:callable Tryz.prog 355:=by kernel_rfl
theorem cl356:callable Tryz.prog 356:=by kernel_rfl
theorem cl357:callable Tryz.prog 357:=by kernel_rfl
theorem ti3:intTy Tryz.prog 3 .i64:=by kernel_rfl
theorem ti34:intTy Tryz.prog 34 .u64:=by kernel_rfl
theorem ts241:sized Tryz.prog 241 2:=by kernel_rfl
theorem tz241:zeroOf Tryz.prog 241=some (.agg (fieldC (⟨0,0⟩:Field)).toArray):=by kernel_rfl
theorem tz3:zeroOf Tryz.prog 3=some (.int .i64 0):=by kernel_rfl
def D.free_link (a0:Int):Int:=(IntKind.u64.wrap (IntKind.i64.wrap (a0+1)))
theorem c_free_link (w0:World) 
    (a0:Int) :
    Calls Tryz.prog 201 #[.int .i64 a0] w0 (PureRes (.int .u64 (D.free_link a0)) w0):=by
 refine kN Tryz.func201 rfl 6 rfl rfl fun fr r hB=>?_;refine wsr (kA (U 0) r rfl rfl fun r=>wn (wsr (kM (I a0) r rfl rfl fun r=>kB r rfl rfl rfl rfl rfl fun r=>seq_val (U (V (W (a0+1)))) r (fun R=>y_convert r rfl ti3 ti34) rfl fun fr r=>kA (U (V (W (a0+1)))) r rfl rfl fun r=>wn (wp_ret ?_))))
 refine ret_tmp r rfl rfl ?_;exact ⟨rfl,hB⟩
def D.free_fresh_1 (r_free_fresh:Plan→Int→T Unit) (c0:Plan) (c1:Int):T Unit:=(r_free_fresh c0 (IntKind.i64.wrap (c1+1)))
def D.free_fresh_body (r_free_fresh:Plan→Int→T Unit) (a0:Plan) (a1:Int):T Unit:=(bif (a1==a0.nodes) then (D.prog_Set (D.plan_Plan_Head a0) (D.free_link 0)) else (let x19:Int:=(bif ((IntKind.i64.wrap (a1+1))==a0.nodes) then 0 else (D.free_link (IntKind.i64.wrap (a1+1)))); (D.prog_Store_None (D.plan_Plan_Next a0 a1) x19 (fun _=>(D.free_fresh_1 r_free_fresh a0 a1)))))
def D.free_fresh:Nat→Plan→Int→T Unit
  | 0,_,_=>.cut
  | k+1,a0,a1=>D.free_fresh_body (D.free_fresh k) a0 a1
def Spec_free_fresh (r:Plan→Int→T Unit) (n:Nat):Prop:=∀ (F:Nat→Prop) (w0:World),(∀ b,F b→b<w0.heap.size)→∀ (a0:Plan) (a1:Int),Calls Tryz.prog 116 #[.agg (planC a0).toArray,.int .i64 a1] w0 (RepRes Tryz.prog encNone n (r a0 a1) F w0)
theorem c_free_fresh_1 {r_free_fresh:Plan→Int→T Unit} (hF:kH F w0) (ih_free_fresh:∀ m,m≤n→Spec_free_fresh r_free_fresh m)
    (c0:Plan) {c0b:Nat} (c0F:F c0b) (c0h:w0.heap[c0b]?=some (.cells ((planC c0)).toArray 23 (0,0))) (c1:Int) {c1b:Nat} (c1F:F c1b) (c1h:w0.heap[c1b]?=some (.cells ([(.int .i64 c1)]).toArray 3 (0,0))) :
    Calls Tryz.prog 203 #[zp c0b,zp c1b] w0 (RepRes Tryz.prog encNone n (D.free_fresh_1 r_free_fresh c0 c1) F w0):=by
 refine kN Tryz.func203 rfl 7 rfl rfl fun fr r hB=>?_;have lc0b:=lt_of_block c0h
 have lc1b:=lt_of_block c1h;refine wsr ?_;refine seq_new (.cells (kq encNone) 133 (0,0)) r (fun R=>y_alloc tz133) rfl fun fr b1 w2 n3 r=>?_;obtain ⟨E1,Z2,H1,hB,zB⟩:=n3.all hB
 refine wn (wsr (kG (planC c0) 6 r rfl (keep hB c0h) ta23 rfl rfl fun r=>kL (I c1) r rfl (keep hB c1h) to3 rfl rfl fun r=>kB r rfl rfl rfl rfl rfl fun r=>?_));have hF1:=fgrow hF hB b1
 refine kD r ((ih_free_fresh n (by omega)) (kW F w0 w2 b1) _ hF1 c0 (W (c1+1))) rfl cl116 rfl fun w4 v5 hb hr6 r=>?_;have Z4:=hb.size
 have H1:=keep hb H1;obtain ⟨hB,zB⟩:=bon hb hB;refine kP r hr6.shape rfl rfl H1 ts133 rfl rfl fun w7 u8 r=>?_;have Z7:=u8.size
 have H1:=u8.at_;obtain ⟨hB,zB⟩:=u8.on hB (by omega)
 exact wn (wp_ret (kR r hr6 rfl rfl H1 rfl ta133 hF hB u8 (by omega) (by omega) (by omega)))
theorem b_free_fresh {n:Nat} {F:Nat→Prop} {r_free_fresh:Plan→Int→T Unit} {w0:World} (hF:∀ b,F b→b<w0.heap.size) (ih_free_fresh:∀ m,m<n→Spec_free_fresh r_free_fresh m)
    (a0:Plan) (a1:Int) :
    Calls Tryz.prog 116 #[.agg (planC a0).toArray,.int .i64 a1] w0 (RepRes Tryz.prog encNone n (D.free_fresh_body r_free_fresh a0 a1) F w0):=by
 refine kN Tryz.func116 rfl 28 rfl rfl fun fr r hB=>?_;refine wsr ?_
 refine kX 23 (.agg (planC a0).toArray) r rfl rfl fun b1 w2 n3 r=>?_;obtain ⟨E1,Z2,H1,hB,zB⟩:=n3.all hB
 refine kX 3 (I a1) r rfl rfl fun b4 w5 n6 r=>?_;have H1:=keep n6.below H1
 obtain ⟨E4,Z5,H4,hB,zB⟩:=n6.all hB;refine seq_new (.cells (kq encNone) 133 (0,0)) r (fun R=>y_alloc tz133) rfl fun fr b7 w8 n9 r=>?_;have H1:=keep n9.below H1
 have H4:=keep n9.below H4;obtain ⟨E7,Z8,H7,hB,zB⟩:=n9.all hB;refine wn (wp_seq (wsr (kL (I a1) r rfl H4 to3 rfl rfl fun r=>kF 0 r rfl fo23_0 rfl fun r=>kL (I a0.nodes) r rfl H1 to3 rfl rfl fun r=>kB r rfl rfl rfl rfl rfl fun r=>wn ?_)));refine wp_cond_split (t:=(a1==a0.nodes)) (r.ev rfl) (fun h10=>?_) (fun h10=>?_)
 ·
  refine wsr (kG (planC a0) 6 r rfl H1 ta23 rfl rfl fun r=>?_);refine kE r (c_plan_Plan_Head w8 a0) rfl cl192 rfl fun w11 hb r=>?_
  have Z11:=hb.size;have H1:=keep hb H1;have H4:=keep hb H4;have H7:=keep hb H7;obtain ⟨hB,zB⟩:=bon hb hB;refine kE r (c_free_link w11 0) rfl cl201 rfl fun w12 hb r=>?_;have Z12:=hb.size
  have H1:=keep hb H1;have H4:=keep hb H4;have H7:=keep hb H7;obtain ⟨hB,zB⟩:=bon hb hB;have hF1:=fgrow hF hB b7;refine kD r (c_prog_Set (F:=(kW F w0 w12 b7)) (n:=n) hF1 (D.plan_Plan_Head a0) (D.free_link 0)) rfl cl200 rfl fun w13 v14 hb hr15 r=>?_;have Z13:=hb.size
  have H1:=keep hb H1;have H4:=keep hb H4;have H7:=keep hb H7;obtain ⟨hB,zB⟩:=bon hb hB;refine kP r hr15.shape rfl rfl H7 ts133 rfl rfl fun w16 u17 r=>?_;have Z16:=u17.size
  have H1:=u17.keep H1 (by omega)
  have H4:=u17.keep H4 (by omega)
  have H7:=u17.at_;obtain ⟨hB,zB⟩:=u17.on hB (by omega)
  refine wn (wp_ret ?_);have hd:D.free_fresh_body r_free_fresh a0 a1=(D.prog_Set (D.plan_Plan_Head a0) (D.free_link 0)):=(cond_t h10).trans (rfl);have hs:=hr15.shape.cells;refine ret_cell r rfl rfl H7 (k:=6) hs.1 ta133 ?_;rw [←hs.2.2,hd];exact rfin hF hB hr15 u17 (by omega) (by omega) (by omega)
 refine wp_skip (wsr (kL (I a1) r rfl H4 to3 rfl rfl fun r=>kB r rfl rfl rfl rfl rfl fun r=>?_));refine kE r (c_free_link w8 (W (a1+1))) rfl cl201 rfl fun w18 hb r=>?_
 have Z18:=hb.size;have H1:=keep hb H1;have H4:=keep hb H4;have H7:=keep hb H7;obtain ⟨hB,zB⟩:=bon hb hB;refine kA (U (D.free_link (W (a1+1)))) r rfl rfl fun r=>wn (wp_seq (wsr (kL (I a1) r rfl H4 to3 rfl rfl fun r=>kB r rfl rfl rfl rfl rfl fun r=>kF 0 r rfl fo23_0 rfl fun r=>kL (I a0.nodes) r rfl H1 to3 rfl rfl fun r=>kB r rfl rfl rfl rfl rfl fun r=>wn ?_)));obtain ⟨x19,hx19⟩:∃ x:Int,x=(bif ((W (a1+1))==a0.nodes) then 0 else (D.free_link (W (a1+1)))):=⟨_,rfl⟩
 refine wp_join (N:=28) [(0,(.agg (planC a0).toArray)),(1,(I a1)),(2,(zp b1)),(3,(zp b4)),(4,(zp b7)),(5,(U x19))] (fun w=>Below w0.heap.size w0 w∧w18.heap.size≤w.heap.size∧w.heap[b1]?=some (.cells ((planC a0)).toArray 23 (0,0))∧w.heap[b4]?=some (.cells #[(I a1)] 3 (0,0))∧w.heap[b7]?=some (.cells (kq encNone) 133 (0,0))) ?_ ?_
 ·
  refine wp_cond_split (t:=((W (a1+1))==a0.nodes)) (r.ev rfl) (fun h20=>?_) (fun h20=>?_)
  ·
   refine wp_region_lit (kA (U 0) r rfl rfl fun r=>wn ?_);exact ⟨rfl,_,r,(hs_cons rfl (hs_cons rfl (hs_cons rfl (hs_cons rfl (hs_cons rfl (hs_cons (by rw [hx19,cond_t h20]; rfl) hs_nil)))))),hB,(by omega),H1,H4,H7⟩
  refine wp_skip ?_;exact ⟨rfl,_,r,(hs_cons rfl (hs_cons rfl (hs_cons rfl (hs_cons rfl (hs_cons rfl (hs_cons (by rw [hx19,cond_f h20]; rfl) hs_nil)))))),hB,(by omega),H1,H4,H7⟩
 rintro fr w21 g r ⟨hB,Z21,H1,H4,H7⟩;have zB:=hB.size;refine wsr (kG (planC a0) 6 r rfl H1 ta23 rfl rfl fun r=>kL (I a1) r rfl H4 to3 rfl rfl fun r=>?_);refine kE r (c_plan_Plan_Next w21 a0 a1) rfl cl193 rfl fun w22 hb r=>?_
 have Z22:=hb.size;have H1:=keep hb H1;have H4:=keep hb H4;have H7:=keep hb H7;obtain ⟨hB,zB⟩:=bon hb hB;refine kM (U x19) r rfl rfl fun r=>seq_val (.func (.func 203) #[] #[zp b1,zp b4]) r (fun R=>y_makeFunc r rfl) rfl fun fr r=>?_;have hF1:=fgrow hF hB b7
 have f23:((kW F w0 w22 b7)) b1:=(.inr ⟨by omega,by omega,by omega⟩)
 have f24:((kW F w0 w22 b7)) b4:=(.inr ⟨by omega,by omega,by omega⟩)
 refine kD r (c_prog_Store_None (F:=(kW F w0 w22 b7)) (n:=n) hF1 (D.plan_Plan_Next a0 a1) x19 ⟨203,[],[zp b1,zp b4],cl203,rfl,fun m hm _ w' hs hz=>c_free_fresh_1 (fun b hb=>Nat.lt_of_lt_of_le (hF1 b hb) hz) (fun m' hm'=>ih_free_fresh m' (by omega)) a0 f23 (hs.at_ f23 H1) a1 f24 (hs.at_ f24 H4)⟩) rfl cl202 rfl fun w25 v26 hb hr27 r=>?_;have Z25:=hb.size
 have H1:=keep hb H1;have H4:=keep hb H4;have H7:=keep hb H7;obtain ⟨hB,zB⟩:=bon hb hB;refine kP r hr27.shape rfl rfl H7 ts133 rfl rfl fun w28 u29 r=>?_;have Z28:=u29.size
 have H1:=u29.keep H1 (by omega)
 have H4:=u29.keep H4 (by omega)
 have H7:=u29.at_;obtain ⟨hB,zB⟩:=u29.on hB (by omega)
 refine wn (wp_ret ?_);have hd:D.free_fresh_body r_free_fresh a0 a1=(D.prog_Store_None (D.plan_Plan_Next a0 a1) x19 (fun _=>(D.free_fresh_1 r_free_fresh a0 a1))):=by subst hx19; exact (cond_f h10).trans (rfl)
 have hs:=hr27.shape.cells;refine ret_cell r rfl rfl H7 (k:=6) hs.1 ta133 ?_;rw [←hs.2.2,hd];exact rfin hF hB hr27 u29 (by omega) (by omega) (by omega)
theorem c_free_fresh {n:Nat} {k:Nat} (hk:n<k):Spec_free_fresh (D.free_fresh k) n:=by
  induction n using Nat.strongRecOn generalizing k with
  | _ n ih=>
    obtain ⟨k,rfl⟩:∃ q,k=q+1:=⟨k - 1,by omega⟩
    intro F w0 hF;have h:=@b_free_fresh n F (D.free_fresh k) w0 hF (fun m hm=>ih m hm (by omega))
    exact h
def D.free_Fresh (j:Nat) (a0:Plan):T Unit:=(D.free_fresh j a0 0)
theorem c_free_Fresh (hF:kH F w0) (hj:n<j)
    (a0:Plan) :
    Calls Tryz.prog 62 #[.agg (planC a0).toArray] w0 (RepRes Tryz.prog encNone n (D.free_Fresh j a0) F w0):=by
 refine kN Tryz.func62 rfl 5 rfl rfl fun fr r hB=>?_;refine wsr ?_
 refine kX 23 (.agg (planC a0).toArray) r rfl rfl fun b1 w2 n3 r=>?_;obtain ⟨E1,Z2,H1,hB,zB⟩:=n3.all hB
 refine seq_new (.cells (kq encNone) 133 (0,0)) r (fun R=>y_alloc tz133) rfl fun fr b4 w5 n6 r=>?_;have H1:=keep n6.below H1
 obtain ⟨E4,Z5,H4,hB,zB⟩:=n6.all hB;refine wn (wsr (kG (planC a0) 6 r rfl H1 ta23 rfl rfl fun r=>?_));have hF1:=fgrow hF hB b4
 refine kD r ((c_free_fresh (k:=j) (n:=n) (by omega)) (kW F w0 w5 b4) _ hF1 a0 0) rfl cl116 rfl fun w7 v8 hb hr9 r=>?_;have Z7:=hb.size
 have H1:=keep hb H1;have H4:=keep hb H4;obtain ⟨hB,zB⟩:=bon hb hB;refine kP r hr9.shape rfl rfl H4 ts133 rfl rfl fun w10 u11 r=>?_;have Z10:=u11.size
 have H1:=u11.keep H1 (by omega)
 have H4:=u11.at_;obtain ⟨hB,zB⟩:=u11.on hB (by omega)
 exact wn (wp_ret (kR r hr9 rfl rfl H4 rfl ta133 hF hB u11 (by omega) (by omega) (by omega)))
def D.free_node :Field:=(⟨0,21⟩:Field)
theorem c_free_node (w0:World) 
     :
    Calls Tryz.prog 190 #[] w0 (PureRes (.agg (fieldC D.free_node).toArray) w0):=by
 refine kN Tryz.func190 rfl 2 rfl rfl fun fr r hB=>?_;refine wsr ?_
 refine seq_new (.cells ((fieldC (⟨0,0⟩:Field))).toArray 241 (0,0)) r (fun R=>y_alloc tz241) rfl fun fr b1 w2 n3 r=>?_;obtain ⟨E1,Z2,H1,hB,zB⟩:=n3.all hB
 refine wn (wsr (kU (.agg (fieldC (⟨0,21⟩:Field)).toArray) r (by kernel_rfl) rfl fun r=>?_));refine seq_upd (.cells ((fieldC (⟨0,21⟩:Field))).toArray 241 (0,0)) r (fun R=>y_store r (o:=0) (v:=(.agg (fieldC (⟨0,21⟩:Field)).toArray)) rfl rfl H1 ts241 (Nat.le_of_ble_eq_true rfl) rfl rfl) rfl fun fr w4 u5 r=>?_
 have Z4:=u5.size;have H1:=u5.at_;obtain ⟨hB,zB⟩:=u5.on hB (by omega)
 refine wn (wp_ret ?_);refine ret_cell r rfl rfl H1 (k:=2) rfl ta241 ?_;exact ⟨rfl,hB⟩
def D.free_tag :Field:=(⟨21,43⟩:Field)
theorem c_free_tag (w0:World) 
     :
    Calls Tryz.prog 346 #[] w0 (PureRes (.agg (fieldC D.free_tag).toArray) w0):=by
 refine kN Tryz.func346 rfl 2 rfl rfl fun fr r hB=>?_;refine wsr ?_
 refine seq_new (.cells ((fieldC (⟨0,0⟩:Field))).toArray 241 (0,0)) r (fun R=>y_alloc tz241) rfl fun fr b1 w2 n3 r=>?_;obtain ⟨E1,Z2,H1,hB,zB⟩:=n3.all hB
 refine wn (wsr (kU (.agg (fieldC (⟨21,43⟩:Field)).toArray) r (by kernel_rfl) rfl fun r=>?_));refine seq_upd (.cells ((fieldC (⟨21,43⟩:Field))).toArray 241 (0,0)) r (fun R=>y_store r (o:=0) (v:=(.agg (fieldC (⟨21,43⟩:Field)).toArray)) rfl rfl H1 ts241 (Nat.le_of_ble_eq_true rfl) rfl rfl) rfl fun fr w4 u5 r=>?_
 have Z4:=u5.size;have H1:=u5.at_;obtain ⟨hB,zB⟩:=u5.on hB (by omega)
 refine wn (wp_ret ?_);refine ret_cell r rfl rfl H1 (k:=2) rfl ta241 ?_;exact ⟨rfl,hB⟩
def D.free_turned (a0:Int) (a1:Int):Int:=(D.field_Field_Put D.free_tag (D.field_Field_Put D.free_node 0 a1) (IntKind.u64.wrap ((D.field_Field_Get D.free_tag a0)+1)))
theorem c_free_turned (w0:World) 
    (a0:Int) (a1:Int) :
    Calls Tryz.prog 279 #[.int .u64 a0,.int .u64 a1] w0 (PureRes (.int .u64 (D.free_turned a0 a1)) w0):=by
 refine kN Tryz.func279 rfl 14 rfl rfl fun fr r hB=>?_;refine wsr (kA (U 0) r rfl rfl fun r=>wn (wsr ?_))
 refine kE r (c_free_tag w0 ) rfl cl346 rfl fun w1 hb r=>?_;have Z1:=hb.size
 obtain ⟨hB,zB⟩:=bon hb hB;refine kE r (c_free_node w1 ) rfl cl190 rfl fun w2 hb r=>?_;have Z2:=hb.size
 obtain ⟨hB,zB⟩:=bon hb hB;refine kM (U a1) r rfl rfl fun r=>?_;refine kE r (c_field_Field_Put w2 D.free_node 0 a1) rfl cl296 rfl fun w3 hb r=>?_
 have Z3:=hb.size;obtain ⟨hB,zB⟩:=bon hb hB;refine kE r (c_free_tag w3 ) rfl cl346 rfl fun w4 hb r=>?_;have Z4:=hb.size
 obtain ⟨hB,zB⟩:=bon hb hB;refine kM (U a0) r rfl rfl fun r=>?_;refine kE r (c_field_Field_Get w4 D.free_tag a0) rfl cl191 rfl fun w5 hb r=>?_
 have Z5:=hb.size;obtain ⟨hB,zB⟩:=bon hb hB;refine kB r rfl rfl rfl rfl rfl fun r=>?_;refine kE r (c_field_Field_Put w5 D.free_tag (D.field_Field_Put D.free_node 0 a1) (V ((D.field_Field_Get D.free_tag a0)+1))) rfl cl296 rfl fun w6 hb r=>?_
 have Z6:=hb.size;obtain ⟨hB,zB⟩:=bon hb hB;refine kA (U (D.field_Field_Put D.free_tag (D.field_Field_Put D.free_node 0 a1) (V ((D.field_Field_Get D.free_tag a0)+1)))) r rfl rfl fun r=>wn (wp_ret ?_);refine ret_tmp r rfl rfl ?_
 exact ⟨rfl,hB⟩
def D.free_Pop_1_1_1 (r_free_Pop:Plan→T Int) (c0:Plan) (c1:Int) (a0:Bool):T Int:=(bif (!a0) then (r_free_Pop c0) else (D.prog_Done_int c1))
def D.free_Pop_1_1 (r_free_Pop:Plan→T Int) (c0:Plan) (c1:Int) (c2:Int) (a0:Int):T Int:=(D.prog_Swap_int (D.plan_Plan_Head c0) c1 (D.free_turned c1 a0) (fun x=>(D.free_Pop_1_1_1 r_free_Pop c0 c2 x)))
def D.free_Pop_1 (r_free_Pop:Plan→T Int) (c0:Plan) (a0:Int):T Int:=(bif (decide ((IntKind.i64.wrap ((IntKind.i64.wrap (D.field_Field_Get D.free_node a0)) - 1))<0)) then (D.prog_Done_int (-1)) else (D.prog_Load_int (D.plan_Plan_Next c0 (IntKind.i64.wrap ((IntKind.i64.wrap (D.field_Field_Get D.free_node a0)) - 1))) (fun x=>(D.free_Pop_1_1 r_free_Pop c0 a0 (IntKind.i64.wrap ((IntKind.i64.wrap (D.field_Field_Get D.free_node a0)) - 1)) x))))
def D.free_Pop_body (r_free_Pop:Plan→T Int) (a0:Plan):T Int:=(D.prog_Load_int (D.plan_Plan_Head a0) (fun x=>(D.free_Pop_1 r_free_Pop a0 x)))
def D.free_Pop:Nat→Plan→T Int
  | 0,_=>.cut
  | k+1,a0=>D.free_Pop_body (D.free_Pop k) a0
def Spec_free_Pop (r:Plan→T Int) (n:Nat):Prop:=∀ (F:Nat→Prop) (w0:World),(∀ b,F b→b<w0.heap.size)→∀ (a0:Plan),Calls Tryz.prog 182 #[.agg (planC a0).toArray] w0 (RepRes Tryz.prog encInt n (r a0) F w0)
theorem c_free_Pop_1_1_1 {r_free_Pop:Plan→T Int} (hF:kH F w0) (ih_free_Pop:∀ m,m≤n→Spec_free_Pop r_free_Pop m)
    (c0:Plan) {c0b:Nat} (c0F:F c0b) (c0h:w0.heap[c0b]?=some (.cells ((planC c0)).toArray 23 (0,0))) (c1:Int) {c1b:Nat} (c1F:F c1b) (c1h:w0.heap[c1b]?=some (.cells ([(.int .i64 c1)]).toArray 3 (0,0))) (a0:Bool) :
    Calls Tryz.prog 280 #[.bool a0,zp c0b,zp c1b] w0 (RepRes Tryz.prog encInt n (D.free_Pop_1_1_1 r_free_Pop c0 c1 a0) F w0):=by
 refine kN Tryz.func280 rfl 11 rfl rfl fun fr r hB=>?_;have lc0b:=lt_of_block c0h
 have lc1b:=lt_of_block c1h;refine wsr ?_;refine seq_new (.cells (kq encInt) 119 (0,0)) r (fun R=>y_alloc tz119) rfl fun fr b1 w2 n3 r=>?_;obtain ⟨E1,Z2,H1,hB,zB⟩:=n3.all hB
 refine wn (wp_seq (wsr (kM (.bool a0) r rfl rfl fun r=>seq_val (.bool (!a0)) r (fun R=>y_un r (u:=(.bool a0)) rfl rfl) rfl fun fr r=>wn ?_)));refine wp_cond_split (t:=(!a0)) (r.ev rfl) (fun h4=>?_) (fun h4=>?_)
 ·
  refine wsr (kG (planC c0) 6 r rfl (keep hB c0h) ta23 rfl rfl fun r=>?_);have hF1:=fgrow hF hB b1
  refine kD r ((ih_free_Pop n (by omega)) (kW F w0 w2 b1) _ hF1 c0) rfl cl182 rfl fun w5 v6 hb hr7 r=>?_;have Z5:=hb.size
  have H1:=keep hb H1;obtain ⟨hB,zB⟩:=bon hb hB;refine kP r hr7.shape rfl rfl H1 ts119 rfl rfl fun w8 u9 r=>?_;have Z8:=u9.size
  have H1:=u9.at_;obtain ⟨hB,zB⟩:=u9.on hB (by omega)
  refine wn (wp_ret ?_);have hd:D.free_Pop_1_1_1 r_free_Pop c0 c1 a0=(r_free_Pop c0):=(cond_t h4).trans (rfl);have hs:=hr7.shape.cells;refine ret_cell r rfl rfl H1 (k:=7) hs.1 ta119 ?_;rw [←hs.2.2,hd];exact rfin hF hB hr7 u9 (by omega) (by omega) (by omega)
 refine wp_skip (wsr (kL (I c1) r rfl (keep hB c1h) to3 rfl rfl fun r=>?_));have hF1:=fgrow hF hB b1
 refine kD r (c_prog_Done_int (F:=(kW F w0 w2 b1)) (n:=n) hF1 c1) rfl cl222 rfl fun w10 v11 hb hr12 r=>?_;have Z10:=hb.size
 have H1:=keep hb H1;obtain ⟨hB,zB⟩:=bon hb hB;refine kP r hr12.shape rfl rfl H1 ts119 rfl rfl fun w13 u14 r=>?_;have Z13:=u14.size
 have H1:=u14.at_;obtain ⟨hB,zB⟩:=u14.on hB (by omega)
 refine wn (wp_ret ?_);have hd:D.free_Pop_1_1_1 r_free_Pop c0 c1 a0=(D.prog_Done_int c1):=(cond_f h4).trans (rfl);have hs:=hr12.shape.cells;refine ret_cell r rfl rfl H1 (k:=7) hs.1 ta119 ?_;rw [←hs.2.2,hd];exact rfin hF hB hr12 u14 (by omega) (by omega) (by omega)
theorem c_free_Pop_1_1 {r_free_Pop:Plan→T Int} (hF:kH F w0) (ih_free_Pop:∀ m,m<n→Spec_free_Pop r_free_Pop m)
    (c0:Plan) {c0b:Nat} (c0F:F c0b) (c0h:w0.heap[c0b]?=some (.cells ((planC c0)).toArray 23 (0,0))) (c1:Int) {c1b:Nat} (c1F:F c1b) (c1h:w0.heap[c1b]?=some (.cells ([(.int .u64 c1)]).toArray 34 (0,0))) (c2:Int) {c2b:Nat} (c2F:F c2b) (c2h:w0.heap[c2b]?=some (.cells ([(.int .i64 c2)]).toArray 3 (0,0))) (a0:Int) :
    Calls Tryz.prog 277 #[.int .u64 a0,zp c0b,zp c1b,zp c2b] w0 (RepRes Tryz.prog encInt n (D.free_Pop_1_1 r_free_Pop c0 c1 c2 a0) F w0):=by
 refine kN Tryz.func277 rfl 14 rfl rfl fun fr r hB=>?_;have lc0b:=lt_of_block c0h
 have lc1b:=lt_of_block c1h;have lc2b:=lt_of_block c2h;refine wsr ?_;refine seq_new (.cells (kq encInt) 119 (0,0)) r (fun R=>y_alloc tz119) rfl fun fr b1 w2 n3 r=>?_;obtain ⟨E1,Z2,H1,hB,zB⟩:=n3.all hB
 refine wn (wp_seq ?_);refine wp_drawnF 7 [.val (.agg (planC c0).toArray),.val (I (D.plan_Plan_Head c0)),.val (U c1),.val (U c1),.val (U a0),.val (U (D.free_turned c1 a0)),.val (.func (.func 280) #[] #[zp c0b,zp c2b])] mixed r (by kernel_rfl) (kV (kV (kV (kV (kV (kV (kV within_nil))))))) ?_ ?_
 ·
  refine ec r (fun _ u _ b d s=>y_load_agg s (cs:=(planC c0)) (n:=6) rfl (keep2 hB b c0h) ta23 rfl bz) (ec r (fun fr1 u w' hb' hd r'=>y_call r' (args:=[(.agg (planC c0).toArray)]) (lc hd.1 l0) cl192 ((c_plan_Plan_Head _ c0).mono (by rintro _ w2 ⟨rfl,hb2⟩; exact ⟨_,rfl,hb2,rfl⟩))) (ec r (fun _ u _ b d s=>y_load_one s rfl (keep2 hB b c1h) to34 rfl bz) (ec r (fun _ u _ b d s=>y_load_one s rfl (keep2 hB b c1h) to34 rfl bz) (ec r (fun _ u _ b d s=>y_move s rfl bz) (ec r (fun fr1 u w' hb' hd r'=>y_call r' (args:=[(U c1),(U a0)]) (lc hd.1 (lc hd.2.1 l0)) cl279 ((c_free_turned _ c1 a0).mono (by rintro _ w2 ⟨rfl,hb2⟩; exact ⟨_,rfl,hb2,rfl⟩))) (ec r (fun _ u _ b d s=>y_makeFunc s (v:=(.func (.func 280) #[] #[zp c0b,zp c2b])) rfl bz) ?_))))));exact each_nil
 intro fr u w4 hb hΦ hne r;have r:=r.congr (sc (hΦ 6 (by decide)) (sc (hΦ 5 (by decide)) (sc (hΦ 4 (by decide)) (sc (hΦ 3 (by decide)) (sc (hΦ 2 (by decide)) (sc (hΦ 1 (by decide)) (sc (hΦ 0 (by decide)) rfl)))))));have Z4:=hb.size;have H1:=keep hb H1;obtain ⟨hB,zB⟩:=bon hb hB;have hF1:=fgrow hF hB b1;have f5:((kW F w0 w4 b1)) c0b:=(.inl c0F);have f6:((kW F w0 w4 b1)) c2b:=(.inl c2F);refine kD r (c_prog_Swap_int (F:=(kW F w0 w4 b1)) (n:=n) hF1 (D.plan_Plan_Head c0) c1 (D.free_turned c1 a0) ⟨280,[],[zp c0b,zp c2b],cl280,rfl,fun m hm x w' hs hz=>c_free_Pop_1_1_1 (fun b hb=>Nat.lt_of_lt_of_le (hF1 b hb) hz) (fun m' hm'=>ih_free_Pop m' (by omega)) c0 f5 (hs.at_ f5 (keep hB c0h)) c2 f6 (hs.at_ f6 (keep hB c2h)) x⟩) rfl cl278 rfl fun w7 v8 hb hr9 r=>?_;have Z7:=hb.size
 have H1:=keep hb H1;obtain ⟨hB,zB⟩:=bon hb hB;refine kP r hr9.shape rfl rfl H1 ts119 rfl rfl fun w10 u11 r=>?_;have Z10:=u11.size
 have H1:=u11.at_;obtain ⟨hB,zB⟩:=u11.on hB (by omega)
 exact wn (wp_ret (kR r hr9 rfl rfl H1 rfl ta119 hF hB u11 (by omega) (by omega) (by omega)))
theorem c_free_Pop_1 {r_free_Pop:Plan→T Int} (hF:kH F w0) (ih_free_Pop:∀ m,m<n→Spec_free_Pop r_free_Pop m)
    (c0:Plan) {c0b:Nat} (c0F:F c0b) (c0h:w0.heap[c0b]?=some (.cells ((planC c0)).toArray 23 (0,0))) (a0:Int) :
    Calls Tryz.prog 276 #[.int .u64 a0,zp c0b] w0 (RepRes Tryz.prog encInt n (D.free_Pop_1 r_free_Pop c0 a0) F w0):=by
 refine kN Tryz.func276 rfl 18 rfl rfl fun fr r hB=>?_;have lc0b:=lt_of_block c0h
 refine wsr ?_;refine kX 34 (U a0) r rfl rfl fun b1 w2 n3 r=>?_;obtain ⟨E1,Z2,H1,hB,zB⟩:=n3.all hB
 refine seq_new (.cells (kq encInt) 119 (0,0)) r (fun R=>y_alloc tz119) rfl fun fr b4 w5 n6 r=>?_;have H1:=keep n6.below H1
 obtain ⟨E4,Z5,H4,hB,zB⟩:=n6.all hB;refine wn (wp_seq ?_);refine wp_drawnF 6 [.val (.agg (fieldC D.free_node).toArray),.val (U a0),.val (U (D.field_Field_Get D.free_node a0)),.val (I (W (D.field_Field_Get D.free_node a0))),.val (I (W ((W (D.field_Field_Get D.free_node a0)) - 1))),.new w5.heap.size (.cells #[(I 0)] 3 (0,0))] mixed r (by kernel_rfl) (kV (kV (kV (kV (kV (within_cons (Nat.le_refl _) within_nil)))))) ?_ ?_
 ·
  refine ec r (fun fr1 u w' hb' hd r'=>y_call r' (args:=[]) (l0) cl190 ((c_free_node _ ).mono (by rintro _ w2 ⟨rfl,hb2⟩; exact ⟨_,rfl,hb2,rfl⟩))) (ec r (fun _ u _ b d s=>y_load_one s rfl (keep b H1) to34 rfl bz) (ec r (fun fr1 u w' hb' hd r'=>y_call r' (args:=[(.agg (fieldC D.free_node).toArray),(U a0)]) (lc hd.1 (lc hd.2.1 l0)) cl191 ((c_field_Field_Get _ D.free_node a0).mono (by rintro _ w2 ⟨rfl,hb2⟩; exact ⟨_,rfl,hb2,rfl⟩))) (ec r (fun _ u _ b d s=>y_convert s (n:=(D.field_Field_Get D.free_node a0)) d.1 ti34 ti3 bz) (ec r (fun _ u _ b d s=>y_bin s d.1 rfl rfl rfl bz) (ec r (fun fr1 u w' hb' hd r'=>y_alloc tz3 (fun b w2 n2=>⟨n2.below,b,rfl,Nat.le_of_eq n2.eq.symm,n2.at_⟩)) ?_)))));exact each_nil
 intro fr u w7 hb hΦ hne r;obtain ⟨b8,g5,E8,H8⟩:=hΦ 5 (by decide);have l_b8:=lt_of_block H8;have r:=r.congr (sc g5 (sc (hΦ 4 (by decide)) (sc (hΦ 3 (by decide)) (sc (hΦ 2 (by decide)) (sc (hΦ 1 (by decide)) (sc (hΦ 0 (by decide)) rfl))))));have Z7:=hb.size;have H1:=keep hb H1;have H4:=keep hb H4;obtain ⟨hB,zB⟩:=bon hb hB;refine seq_upd (.cells #[(I (W ((W (D.field_Field_Get D.free_node a0)) - 1)))] 3 (0,0)) r (fun R=>y_store r (o:=0) (v:=(I (W ((W (D.field_Field_Get D.free_node a0)) - 1)))) rfl rfl H8 ts3 (Nat.le_of_ble_eq_true rfl) rfl rfl) rfl fun fr w9 u10 r=>?_;have Z9:=u10.size
 have H1:=u10.keep H1 (by omega)
 have H4:=u10.keep H4 (by omega)
 have H8:=u10.at_;obtain ⟨hB,zB⟩:=u10.on hB (by omega)
 refine wn (wp_seq (wsr (kL (I (W ((W (D.field_Field_Get D.free_node a0)) - 1))) r rfl H8 to3 rfl rfl fun r=>kB r rfl rfl rfl rfl rfl fun r=>wn ?_)));refine wp_cond_split (t:=(decide ((W ((W (D.field_Field_Get D.free_node a0)) - 1))<0))) (r.ev rfl) (fun h11=>?_) (fun h11=>?_)
 ·
  refine wsr ?_;have hF1:=fgrow hF hB b4;refine kD r (c_prog_Done_int (F:=(kW F w0 w9 b4)) (n:=n) hF1 (-1)) rfl cl222 rfl fun w12 v13 hb hr14 r=>?_;have Z12:=hb.size
  have H1:=keep hb H1;have H4:=keep hb H4;have H8:=keep hb H8;obtain ⟨hB,zB⟩:=bon hb hB;refine kP r hr14.shape rfl rfl H4 ts119 rfl rfl fun w15 u16 r=>?_;have Z15:=u16.size
  have H1:=u16.keep H1 (by omega)
  have H8:=u16.keep H8 (by omega)
  have H4:=u16.at_;obtain ⟨hB,zB⟩:=u16.on hB (by omega)
  refine wn (wp_ret ?_);have hd:D.free_Pop_1 r_free_Pop c0 a0=(D.prog_Done_int (-1)):=(cond_t h11).trans (rfl);have hs:=hr14.shape.cells;refine ret_cell r rfl rfl H4 (k:=7) hs.1 ta119 ?_;rw [←hs.2.2,hd];exact rfin hF hB hr14 u16 (by omega) (by omega) (by omega)
 refine wp_skip (wsr (kG (planC c0) 6 r rfl (keep hB c0h) ta23 rfl rfl fun r=>kL (I (W ((W (D.field_Field_Get D.free_node a0)) - 1))) r rfl H8 to3 rfl rfl fun r=>?_));refine kE r (c_plan_Plan_Next w9 c0 (W ((W (D.field_Field_Get D.free_node a0)) - 1))) rfl cl193 rfl fun w17 hb r=>?_
 have Z17:=hb.size;have H1:=keep hb H1;have H4:=keep hb H4;have H8:=keep hb H8;obtain ⟨hB,zB⟩:=bon hb hB;refine seq_val (.func (.func 277) #[] #[zp c0b,zp b1,zp b8]) r (fun R=>y_makeFunc r rfl) rfl fun fr r=>?_;have hF1:=fgrow hF hB b4
 have f18:((kW F w0 w17 b4)) c0b:=(.inl c0F);have f19:((kW F w0 w17 b4)) b1:=(.inr ⟨by omega,by omega,by omega⟩)
 have f20:((kW F w0 w17 b4)) b8:=(.inr ⟨by omega,by omega,by omega⟩)
 refine kD r (c_prog_Load_int (F:=(kW F w0 w17 b4)) (n:=n) hF1 (D.plan_Plan_Next c0 (W ((W (D.field_Field_Get D.free_node a0)) - 1))) ⟨277,[],[zp c0b,zp b1,zp b8],cl277,rfl,fun m hm x w' hs hz=>c_free_Pop_1_1 (fun b hb=>Nat.lt_of_lt_of_le (hF1 b hb) hz) (fun m' hm'=>ih_free_Pop m' (by omega)) c0 f18 (hs.at_ f18 (keep hB c0h)) a0 f19 (hs.at_ f19 H1) (W ((W (D.field_Field_Get D.free_node a0)) - 1)) f20 (hs.at_ f20 H8) x⟩) rfl cl186 rfl fun w21 v22 hb hr23 r=>?_;have Z21:=hb.size
 have H1:=keep hb H1;have H4:=keep hb H4;have H8:=keep hb H8;obtain ⟨hB,zB⟩:=bon hb hB;refine kP r hr23.shape rfl rfl H4 ts119 rfl rfl fun w24 u25 r=>?_;have Z24:=u25.size
 have H1:=u25.keep H1 (by omega)
 have H8:=u25.keep H8 (by omega)
 have H4:=u25.at_;obtain ⟨hB,zB⟩:=u25.on hB (by omega)
 refine wn (wp_ret ?_);have hd:D.free_Pop_1 r_free_Pop c0 a0=(D.prog_Load_int (D.plan_Plan_Next c0 (W ((W (D.field_Field_Get D.free_node a0)) - 1))) (fun x=>(D.free_Pop_1_1 r_free_Pop c0 a0 (W ((W (D.field_Field_Get D.free_node a0)) - 1)) x))):=(cond_f h11).trans (rfl)
 have hs:=hr23.shape.cells;refine ret_cell r rfl rfl H4 (k:=7) hs.1 ta119 ?_;rw [←hs.2.2,hd];exact rfin hF hB hr23 u25 (by omega) (by omega) (by omega)
theorem b_free_Pop {n:Nat} {F:Nat→Prop} {r_free_Pop:Plan→T Int} {w0:World} (hF:∀ b,F b→b<w0.heap.size) (ih_free_Pop:∀ m,m<n→Spec_free_Pop r_free_Pop m)
    (a0:Plan) :
    Calls Tryz.prog 182 #[.agg (planC a0).toArray] w0 (RepRes Tryz.prog encInt n (D.free_Pop_body r_free_Pop a0) F w0):=by
 refine kN Tryz.func182 rfl 7 rfl rfl fun fr r hB=>?_;refine wsr ?_
 refine kX 23 (.agg (planC a0).toArray) r rfl rfl fun b1 w2 n3 r=>?_;obtain ⟨E1,Z2,H1,hB,zB⟩:=n3.all hB
 refine seq_new (.cells (kq encInt) 119 (0,0)) r (fun R=>y_alloc tz119) rfl fun fr b4 w5 n6 r=>?_;have H1:=keep n6.below H1
 obtain ⟨E4,Z5,H4,hB,zB⟩:=n6.all hB;refine wn (wsr (kG (planC a0) 6 r rfl H1 ta23 rfl rfl fun r=>?_));refine kE r (c_plan_Plan_Head w5 a0) rfl cl192 rfl fun w7 hb r=>?_
 have Z7:=hb.size;have H1:=keep hb H1;have H4:=keep hb H4;obtain ⟨hB,zB⟩:=bon hb hB;refine seq_val (.func (.func 276) #[] #[zp b1]) r (fun R=>y_makeFunc r rfl) rfl fun fr r=>?_;have hF1:=fgrow hF hB b4
 have f8:((kW F w0 w7 b4)) b1:=(.inr ⟨by omega,by omega,by omega⟩)
 refine kD r (c_prog_Load_int (F:=(kW F w0 w7 b4)) (n:=n) hF1 (D.plan_Plan_Head a0) ⟨276,[],[zp b1],cl276,rfl,fun m hm x w' hs hz=>c_free_Pop_1 (fun b hb=>Nat.lt_of_lt_of_le (hF1 b hb) hz) (fun m' hm'=>ih_free_Pop m' (by omega)) a0 f8 (hs.at_ f8 H1) x⟩) rfl cl186 rfl fun w9 v10 hb hr11 r=>?_;have Z9:=hb.size
 have H1:=keep hb H1;have H4:=keep hb H4;obtain ⟨hB,zB⟩:=bon hb hB;refine kP r hr11.shape rfl rfl H4 ts119 rfl rfl fun w12 u13 r=>?_;have Z12:=u13.size
 have H1:=u13.keep H1 (by omega)
 have H4:=u13.at_;obtain ⟨hB,zB⟩:=u13.on hB (by omega)
 exact wn (wp_ret (kR r hr11 rfl rfl H4 rfl ta119 hF hB u13 (by omega) (by omega) (by omega)))
theorem c_free_Pop {n:Nat} {k:Nat} (hk:n<k):Spec_free_Pop (D.free_Pop k) n:=by
  induction n using Nat.strongRecOn generalizing k with
  | _ n ih=>
    obtain ⟨k,rfl⟩:∃ q,k=q+1:=⟨k - 1,by omega⟩
    intro F w0 hF;have h:=@b_free_Pop n F (D.free_Pop k) w0 hF (fun m hm=>ih m hm (by omega))
    exact h
def D.free_Push_1_1_1 (r_free_Push:Plan→Int→T Int) (c0:Plan) (c1:Int) (a0:Bool):T Int:=(bif (!a0) then (r_free_Push c0 c1) else (D.prog_Done_int c1))
def D.free_Push_1_1 (r_free_Push:Plan→Int→T Int) (c0:Plan) (c1:Int) (c2:Int):T Int:=(D.prog_Swap_int (D.plan_Plan_Head c0) c1 (D.free_turned c1 (D.free_link c2)) (fun x=>(D.free_Push_1_1_1 r_free_Push c0 c2 x)))
def D.free_Push_1 (r_free_Push:Plan→Int→T Int) (c0:Plan) (c1:Int) (a0:Int):T Int:=(D.prog_Store_int (D.plan_Plan_Next c0 c1) (D.field_Field_Get D.free_node a0) (fun _=>(D.free_Push_1_1 r_free_Push c0 a0 c1)))
def D.free_Push_body (r_free_Push:Plan→Int→T Int) (a0:Plan) (a1:Int):T Int:=(bif ((D.plan_Plan_Next a0 a1)==(-1)) then (D.prog_Done_int (-1)) else (D.prog_Load_int (D.plan_Plan_Head a0) (fun x=>(D.free_Push_1 r_free_Push a0 a1 x))))
def D.free_Push:Nat→Plan→Int→T Int
  | 0,_,_=>.cut
  | k+1,a0,a1=>D.free_Push_body (D.free_Push k) a0 a1
def Spec_free_Push (r:Plan→Int→T Int) (n:Nat):Prop:=∀ (F:Nat→Prop) (w0:World),(∀ b,F b→b<w0.heap.size)→∀ (a0:Plan) (a1:Int),Calls Tryz.prog 310 #[.agg (planC a0).toArray,.int .i64 a1] w0 (RepRes Tryz.prog encInt n (r a0 a1) F w0)
theorem c_free_Push_1_1_1 {r_free_Push:Plan→Int→T Int} (hF:kH F w0) (ih_free_Push:∀ m,m≤n→Spec_free_Push r_free_Push m)
    (c0:Plan) {c0b:Nat} (c0F:F c0b) (c0h:w0.heap[c0b]?=some (.cells ((planC c0)).toArray 23 (0,0))) (c1:Int) {c1b:Nat} (c1F:F c1b) (c1h:w0.heap[c1b]?=some (.cells ([(.int .i64 c1)]).toArray 3 (0,0))) (a0:Bool) :
    Calls Tryz.prog 357 #[.bool a0,zp c0b,zp c1b] w0 (RepRes Tryz.prog encInt n (D.free_Push_1_1_1 r_free_Push c0 c1 a0) F w0):=by
 refine kN Tryz.func357 rfl 12 rfl rfl fun fr r hB=>?_;have lc0b:=lt_of_block c0h
 have lc1b:=lt_of_block c1h;refine wsr ?_;refine seq_new (.cells (kq encInt) 119 (0,0)) r (fun R=>y_alloc tz119) rfl fun fr b1 w2 n3 r=>?_;obtain ⟨E1,Z2,H1,hB,zB⟩:=n3.all hB
 refine wn (wp_seq (wsr (kM (.bool a0) r rfl rfl fun r=>seq_val (.bool (!a0)) r (fun R=>y_un r (u:=(.bool a0)) rfl rfl) rfl fun fr r=>wn ?_)));refine wp_cond_split (t:=(!a0)) (r.ev rfl) (fun h4=>?_) (fun h4=>?_)
 ·
  refine wsr (kG (planC c0) 6 r rfl (keep hB c0h) ta23 rfl rfl fun r=>kL (I c1) r rfl (keep hB c1h) to3 rfl rfl fun r=>?_);have hF1:=fgrow hF hB b1
  refine kD r ((ih_free_Push n (by omega)) (kW F w0 w2 b1) _ hF1 c0 c1) rfl cl310 rfl fun w5 v6 hb hr7 r=>?_;have Z5:=hb.size
  have H1:=keep hb H1;obtain ⟨hB,zB⟩:=bon hb hB;refine kP r hr7.shape rfl rfl H1 ts119 rfl rfl fun w8 u9 r=>?_;have Z8:=u9.size
  have H1:=u9.at_;obtain ⟨hB,zB⟩:=u9.on hB (by omega)
  refine wn (wp_ret ?_);have hd:D.free_Push_1_1_1 r_free_Push c0 c1 a0=(r_free_Push c0 c1):=(cond_t h4).trans (rfl);have hs:=hr7.shape.cells;refine ret_cell r rfl rfl H1 (k:=7) hs.1 ta119 ?_;rw [←hs.2.2,hd];exact rfin hF hB hr7 u9 (by omega) (by omega) (by omega)
 refine wp_skip (wsr (kL (I c1) r rfl (keep hB c1h) to3 rfl rfl fun r=>?_));have hF1:=fgrow hF hB b1
 refine kD r (c_prog_Done_int (F:=(kW F w0 w2 b1)) (n:=n) hF1 c1) rfl cl222 rfl fun w10 v11 hb hr12 r=>?_;have Z10:=hb.size
 have H1:=keep hb H1;obtain ⟨hB,zB⟩:=bon hb hB;refine kP r hr12.shape rfl rfl H1 ts119 rfl rfl fun w13 u14 r=>?_;have Z13:=u14.size
 have H1:=u14.at_;obtain ⟨hB,zB⟩:=u14.on hB (by omega)
 refine wn (wp_ret ?_);have hd:D.free_Push_1_1_1 r_free_Push c0 c1 a0=(D.prog_Done_int c1):=(cond_f h4).trans (rfl);have hs:=hr12.shape.cells;refine ret_cell r rfl rfl H1 (k:=7) hs.1 ta119 ?_;rw [←hs.2.2,hd];exact rfin hF hB hr12 u14 (by omega) (by omega) (by omega)
theorem c_free_Push_1_1 {r_free_Push:Plan→Int→T Int} (hF:kH F w0) (ih_free_Push:∀ m,m<n→Spec_free_Push r_free_Push m)
    (c0:Plan) {c0b:Nat} (c0F:F c0b) (c0h:w0.heap[c0b]?=some (.cells ((planC c0)).toArray 23 (0,0))) (c1:Int) {c1b:Nat} (c1F:F c1b) (c1h:w0.heap[c1b]?=some (.cells ([(.int .u64 c1)]).toArray 34 (0,0))) (c2:Int) {c2b:Nat} (c2F:F c2b) (c2h:w0.heap[c2b]?=some (.cells ([(.int .i64 c2)]).toArray 3 (0,0))) :
    Calls Tryz.prog 356 #[zp c0b,zp c1b,zp c2b] w0 (RepRes Tryz.prog encInt n (D.free_Push_1_1 r_free_Push c0 c1 c2) F w0):=by
 refine kN Tryz.func356 rfl 13 rfl rfl fun fr r hB=>?_;have lc0b:=lt_of_block c0h
 have lc1b:=lt_of_block c1h;have lc2b:=lt_of_block c2h;refine wsr ?_;refine seq_new (.cells (kq encInt) 119 (0,0)) r (fun R=>y_alloc tz119) rfl fun fr b1 w2 n3 r=>?_;obtain ⟨E1,Z2,H1,hB,zB⟩:=n3.all hB
 refine wn (wp_seq ?_);refine wp_drawnF 8 [.val (.agg (planC c0).toArray),.val (I (D.plan_Plan_Head c0)),.val (U c1),.val (U c1),.val (I c2),.val (U (D.free_link c2)),.val (U (D.free_turned c1 (D.free_link c2))),.val (.func (.func 357) #[] #[zp c0b,zp c2b])] mixed r (by kernel_rfl) (kV (kV (kV (kV (kV (kV (kV (kV within_nil)))))))) ?_ ?_
 ·
  refine ec r (fun _ u _ b d s=>y_load_agg s (cs:=(planC c0)) (n:=6) rfl (keep2 hB b c0h) ta23 rfl bz) (ec r (fun fr1 u w' hb' hd r'=>y_call r' (args:=[(.agg (planC c0).toArray)]) (lc hd.1 l0) cl192 ((c_plan_Plan_Head _ c0).mono (by rintro _ w2 ⟨rfl,hb2⟩; exact ⟨_,rfl,hb2,rfl⟩))) (ec r (fun _ u _ b d s=>y_load_one s rfl (keep2 hB b c1h) to34 rfl bz) (ec r (fun _ u _ b d s=>y_load_one s rfl (keep2 hB b c1h) to34 rfl bz) (ec r (fun _ u _ b d s=>y_load_one s rfl (keep2 hB b c2h) to3 rfl bz) (ec r (fun fr1 u w' hb' hd r'=>y_call r' (args:=[(I c2)]) (lc hd.1 l0) cl201 ((c_free_link _ c2).mono (by rintro _ w2 ⟨rfl,hb2⟩; exact ⟨_,rfl,hb2,rfl⟩))) (ec r (fun fr1 u w' hb' hd r'=>y_call r' (args:=[(U c1),(U (D.free_link c2))]) (lc hd.1 (lc hd.2.1 l0)) cl279 ((c_free_turned _ c1 (D.free_link c2)).mono (by rintro _ w2 ⟨rfl,hb2⟩; exact ⟨_,rfl,hb2,rfl⟩))) (ec r (fun _ u _ b d s=>y_makeFunc s (v:=(.func (.func 357) #[] #[zp c0b,zp c2b])) rfl bz) ?_)))))));exact each_nil
 intro fr u w4 hb hΦ hne r;have r:=r.congr (sc (hΦ 7 (by decide)) (sc (hΦ 6 (by decide)) (sc (hΦ 5 (by decide)) (sc (hΦ 4 (by decide)) (sc (hΦ 3 (by decide)) (sc (hΦ 2 (by decide)) (sc (hΦ 1 (by decide)) (sc (hΦ 0 (by decide)) rfl))))))));have Z4:=hb.size;have H1:=keep hb H1;obtain ⟨hB,zB⟩:=bon hb hB;have hF1:=fgrow hF hB b1;have f5:((kW F w0 w4 b1)) c0b:=(.inl c0F);have f6:((kW F w0 w4 b1)) c2b:=(.inl c2F);refine kD r (c_prog_Swap_int (F:=(kW F w0 w4 b1)) (n:=n) hF1 (D.plan_Plan_Head c0) c1 (D.free_turned c1 (D.free_link c2)) ⟨357,[],[zp c0b,zp c2b],cl357,rfl,fun m hm x w' hs hz=>c_free_Push_1_1_1 (fun b hb=>Nat.lt_of_lt_of_le (hF1 b hb) hz) (fun m' hm'=>ih_free_Push m' (by omega)) c0 f5 (hs.at_ f5 (keep hB c0h)) c2 f6 (hs.at_ f6 (keep hB c2h)) x⟩) rfl cl278 rfl fun w7 v8 hb hr9 r=>?_;have Z7:=hb.size
 have H1:=keep hb H1;obtain ⟨hB,zB⟩:=bon hb hB;refine kP r hr9.shape rfl rfl H1 ts119 rfl rfl fun w10 u11 r=>?_;have Z10:=u11.size
 have H1:=u11.at_;obtain ⟨hB,zB⟩:=u11.on hB (by omega)
 exact wn (wp_ret (kR r hr9 rfl rfl H1 rfl ta119 hF hB u11 (by omega) (by omega) (by omega)))
theorem c_free_Push_1 {r_free_Push:Plan→Int→T Int} (hF:kH F w0) (ih_free_Push:∀ m,m<n→Spec_free_Push r_free_Push m)
    (c0:Plan) {c0b:Nat} (c0F:F c0b) (c0h:w0.heap[c0b]?=some (.cells ((planC c0)).toArray 23 (0,0))) (c1:Int) {c1b:Nat} (c1F:F c1b) (c1h:w0.heap[c1b]?=some (.cells ([(.int .i64 c1)]).toArray 3 (0,0))) (a0:Int) :
    Calls Tryz.prog 355 #[.int .u64 a0,zp c0b,zp c1b] w0 (RepRes Tryz.prog encInt n (D.free_Push_1 r_free_Push c0 c1 a0) F w0):=by
 refine kN Tryz.func355 rfl 13 rfl rfl fun fr r hB=>?_;have lc0b:=lt_of_block c0h
 have lc1b:=lt_of_block c1h;refine wsr ?_;refine kX 34 (U a0) r rfl rfl fun b1 w2 n3 r=>?_;obtain ⟨E1,Z2,H1,hB,zB⟩:=n3.all hB
 refine seq_new (.cells (kq encInt) 119 (0,0)) r (fun R=>y_alloc tz119) rfl fun fr b4 w5 n6 r=>?_;have H1:=keep n6.below H1
 obtain ⟨E4,Z5,H4,hB,zB⟩:=n6.all hB;refine wn (wp_seq ?_);refine wp_drawnF 7 [.val (.agg (planC c0).toArray),.val (I c1),.val (I (D.plan_Plan_Next c0 c1)),.val (.agg (fieldC D.free_node).toArray),.val (U a0),.val (U (D.field_Field_Get D.free_node a0)),.val (.func (.func 356) #[] #[zp c0b,zp b1,zp c1b])] mixed r (by kernel_rfl) (kV (kV (kV (kV (kV (kV (kV within_nil))))))) ?_ ?_
 ·
  refine ec r (fun _ u _ b d s=>y_load_agg s (cs:=(planC c0)) (n:=6) rfl (keep2 hB b c0h) ta23 rfl bz) (ec r (fun _ u _ b d s=>y_load_one s rfl (keep2 hB b c1h) to3 rfl bz) (ec r (fun fr1 u w' hb' hd r'=>y_call r' (args:=[(.agg (planC c0).toArray),(I c1)]) (lc hd.1 (lc hd.2.1 l0)) cl193 ((c_plan_Plan_Next _ c0 c1).mono (by rintro _ w2 ⟨rfl,hb2⟩; exact ⟨_,rfl,hb2,rfl⟩))) (ec r (fun fr1 u w' hb' hd r'=>y_call r' (args:=[]) (l0) cl190 ((c_free_node _ ).mono (by rintro _ w2 ⟨rfl,hb2⟩; exact ⟨_,rfl,hb2,rfl⟩))) (ec r (fun _ u _ b d s=>y_load_one s rfl (keep b H1) to34 rfl bz) (ec r (fun fr1 u w' hb' hd r'=>y_call r' (args:=[(.agg (fieldC D.free_node).toArray),(U a0)]) (lc hd.1 (lc hd.2.1 l0)) cl191 ((c_field_Field_Get _ D.free_node a0).mono (by rintro _ w2 ⟨rfl,hb2⟩; exact ⟨_,rfl,hb2,rfl⟩))) (ec r (fun _ u _ b d s=>y_makeFunc s (v:=(.func (.func 356) #[] #[zp c0b,zp b1,zp c1b])) rfl bz) ?_))))));exact each_nil
 intro fr u w7 hb hΦ hne r;have r:=r.congr (sc (hΦ 6 (by decide)) (sc (hΦ 5 (by decide)) (sc (hΦ 4 (by decide)) (sc (hΦ 3 (by decide)) (sc (hΦ 2 (by decide)) (sc (hΦ 1 (by decide)) (sc (hΦ 0 (by decide)) rfl)))))));have Z7:=hb.size;have H1:=keep hb H1;have H4:=keep hb H4;obtain ⟨hB,zB⟩:=bon hb hB;have hF1:=fgrow hF hB b4;have f8:((kW F w0 w7 b4)) c0b:=(.inl c0F);have f9:((kW F w0 w7 b4)) b1:=(.inr ⟨by omega,by omega,by omega⟩)
 have f10:((kW F w0 w7 b4)) c1b:=(.inl c1F);refine kD r (c_prog_Store_int (F:=(kW F w0 w7 b4)) (n:=n) hF1 (D.plan_Plan_Next c0 c1) (D.field_Field_Get D.free_node a0) ⟨356,[],[zp c0b,zp b1,zp c1b],cl356,rfl,fun m hm _ w' hs hz=>c_free_Push_1_1 (fun b hb=>Nat.lt_of_lt_of_le (hF1 b hb) hz) (fun m' hm'=>ih_free_Push m' (by omega)) c0 f8 (hs.at_ f8 (keep hB c0h)) a0 f9 (hs.at_ f9 H1) c1 f10 (hs.at_ f10 (keep hB c1h))⟩) rfl cl188 rfl fun w11 v12 hb hr13 r=>?_;have Z11:=hb.size
 have H1:=keep hb H1;have H4:=keep hb H4;obtain ⟨hB,zB⟩:=bon hb hB;refine kP r hr13.shape rfl rfl H4 ts119 rfl rfl fun w14 u15 r=>?_;have Z14:=u15.size
 have H1:=u15.keep H1 (by omega)
 have H4:=u15.at_;obtain ⟨hB,zB⟩:=u15.on hB (by omega)
 exact wn (wp_ret (kR r hr13 rfl rfl H4 rfl ta119 hF hB u15 (by omega) (by omega) (by omega)))
theorem b_free_Push {n:Nat} {F:Nat→Prop} {r_free_Push:Plan→Int→T Int} {w0:World} (hF:∀ b,F b→b<w0.heap.size) (ih_free_Push:∀ m,m<n→Spec_free_Push r_free_Push m)
    (a0:Plan) (a1:Int) :
    Calls Tryz.prog 310 #[.agg (planC a0).toArray,.int .i64 a1] w0 (RepRes Tryz.prog encInt n (D.free_Push_body r_free_Push a0 a1) F w0):=by
 refine kN Tryz.func310 rfl 14 rfl rfl fun fr r hB=>?_;refine wsr ?_
 refine kX 23 (.agg (planC a0).toArray) r rfl rfl fun b1 w2 n3 r=>?_;obtain ⟨E1,Z2,H1,hB,zB⟩:=n3.all hB
 refine kX 3 (I a1) r rfl rfl fun b4 w5 n6 r=>?_;have H1:=keep n6.below H1
 obtain ⟨E4,Z5,H4,hB,zB⟩:=n6.all hB;refine seq_new (.cells (kq encInt) 119 (0,0)) r (fun R=>y_alloc tz119) rfl fun fr b7 w8 n9 r=>?_;have H1:=keep n9.below H1
 have H4:=keep n9.below H4;obtain ⟨E7,Z8,H7,hB,zB⟩:=n9.all hB;refine wn (wp_seq (wsr (kG (planC a0) 6 r rfl H1 ta23 rfl rfl fun r=>kL (I a1) r rfl H4 to3 rfl rfl fun r=>?_)));refine kE r (c_plan_Plan_Next w8 a0 a1) rfl cl193 rfl fun w10 hb r=>?_
 have Z10:=hb.size;have H1:=keep hb H1;have H4:=keep hb H4;have H7:=keep hb H7;obtain ⟨hB,zB⟩:=bon hb hB;refine kB r rfl rfl rfl rfl rfl fun r=>wn ?_;refine wp_cond_split (t:=((D.plan_Plan_Next a0 a1)==(-1))) (r.ev rfl) (fun h11=>?_) (fun h11=>?_)
 ·
  refine wsr ?_;have hF1:=fgrow hF hB b7;refine kD r (c_prog_Done_int (F:=(kW F w0 w10 b7)) (n:=n) hF1 (-1)) rfl cl222 rfl fun w12 v13 hb hr14 r=>?_;have Z12:=hb.size
  have H1:=keep hb H1;have H4:=keep hb H4;have H7:=keep hb H7;obtain ⟨hB,zB⟩:=bon hb hB;refine kP r hr14.shape rfl rfl H7 ts119 rfl rfl fun w15 u16 r=>?_;have Z15:=u16.size
  have H1:=u16.keep H1 (by omega)
  have H4:=u16.keep H4 (by omega)
  have H7:=u16.at_;obtain ⟨hB,zB⟩:=u16.on hB (by omega)
  refine wn (wp_ret ?_);have hd:D.free_Push_body r_free_Push a0 a1=(D.prog_Done_int (-1)):=(cond_t h11).trans (rfl);have hs:=hr14.shape.cells;refine ret_cell r rfl rfl H7 (k:=7) hs.1 ta119 ?_;rw [←hs.2.2,hd];exact rfin hF hB hr14 u16 (by omega) (by omega) (by omega)
 refine wp_skip (wsr (kG (planC a0) 6 r rfl H1 ta23 rfl rfl fun r=>?_));refine kE r (c_plan_Plan_Head w10 a0) rfl cl192 rfl fun w17 hb r=>?_
 have Z17:=hb.size;have H1:=keep hb H1;have H4:=keep hb H4;have H7:=keep hb H7;obtain ⟨hB,zB⟩:=bon hb hB;refine seq_val (.func (.func 355) #[] #[zp b1,zp b4]) r (fun R=>y_makeFunc r rfl) rfl fun fr r=>?_;have hF1:=fgrow hF hB b7
 have f18:((kW F w0 w17 b7)) b1:=(.inr ⟨by omega,by omega,by omega⟩)
 have f19:((kW F w0 w17 b7)) b4:=(.inr ⟨by omega,by omega,by omega⟩)
 refine kD r (c_prog_Load_int (F:=(kW F w0 w17 b7)) (n:=n) hF1 (D.plan_Plan_Head a0) ⟨355,[],[zp b1,zp b4],cl355,rfl,fun m hm x w' hs hz=>c_free_Push_1 (fun b hb=>Nat.lt_of_lt_of_le (hF1 b hb) hz) (fun m' hm'=>ih_free_Push m' (by omega)) a0 f18 (hs.at_ f18 H1) a1 f19 (hs.at_ f19 H4) x⟩) rfl cl186 rfl fun w20 v21 hb hr22 r=>?_;have Z20:=hb.size
 have H1:=keep hb H1;have H4:=keep hb H4;have H7:=keep hb H7;obtain ⟨hB,zB⟩:=bon hb hB;refine kP r hr22.shape rfl rfl H7 ts119 rfl rfl fun w23 u24 r=>?_;have Z23:=u24.size
 have H1:=u24.keep H1 (by omega)
 have H4:=u24.keep H4 (by omega)
 have H7:=u24.at_;obtain ⟨hB,zB⟩:=u24.on hB (by omega)
 refine wn (wp_ret ?_);have hd:D.free_Push_body r_free_Push a0 a1=(D.prog_Load_int (D.plan_Plan_Head a0) (fun x=>(D.free_Push_1 r_free_Push a0 a1 x))):=(cond_f h11).trans (rfl)
 have hs:=hr22.shape.cells;refine ret_cell r rfl rfl H7 (k:=7) hs.1 ta119 ?_;rw [←hs.2.2,hd];exact rfin hF hB hr22 u24 (by omega) (by omega) (by omega)
theorem c_free_Push {n:Nat} {k:Nat} (hk:n<k):Spec_free_Push (D.free_Push k) n:=by
  induction n using Nat.strongRecOn generalizing k with
  | _ n ih=>
    obtain ⟨k,rfl⟩:∃ q,k=q+1:=⟨k - 1,by omega⟩
    intro F w0 hF;have h:=@b_free_Push n F (D.free_Push k) w0 hF (fun m hm=>ih m hm (by omega))
    exact h
end
end Go.Proofs.YtbbipmelhmgmfaaGreat

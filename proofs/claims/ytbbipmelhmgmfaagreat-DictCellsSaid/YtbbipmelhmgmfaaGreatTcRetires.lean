/- Ours. -/
import Derived.Test.YtbbipmelhmgmfaaGreatTcM8
import Derived.Test.YtbbipmelhmgmfaaGreatTcM14
set_option linter.all false
set_option maxRecDepth 100000
set_option maxHeartbeats 20000000
namespace Go.Proofs.YtbbipmelhmgmfaaGreat
open Go.RowKit
section
variable {n : Nat} {F : Nat → Prop} {j : Nat} {w0 : World}
theorem cl111:callable Tryz.prog 111:=by kernel_rfl
theorem cl112:callable Tryz.prog 112:=by kernel_rfl
theorem cl137:callable Tryz.prog 137:=by kernel_rfl
theorem cl194:callable Tryz.prog 194:=by kernel_rfl
theorem cl195:callable Tryz.prog 195:=by kernel_rfl
theorem cl240:callable Tryz.prog 240:=by kernel_rfl
theorem cl281:callable Tryz.prog 281:=by kernel_rfl
theorem cl282:callable Tryz.prog 282:=by kernel_rfl
theorem cl298:callable Tryz.prog 298:=by kernel_rfl
theorem cl299:callable Tryz.prog 299:=by kernel_rfl
theorem cl300:callable Tryz.prog 300:=by kernel_rfl
theorem cl305:callable Tryz.prog 305:=by kernel_rfl
theorem cl306:callable Tryz.prog 306:=by kernel_rfl
theorem cl307:callable Tryz.prog 307:=by kernel_rfl
theorem cl308:callable Tryz.prog 308:=by kernel_rfl
theorem cl309:callable Tryz.prog 309:=by kernel_rfl
theorem cl347:callable Tryz.prog 347:=by kernel_rfl
theorem cl349:callable Tryz.prog 349:=by kernel_rfl
theorem cl350:callable Tryz.prog 350:=by kernel_rfl
theorem cl351:callable Tryz.prog 351:=by kernel_rfl
theorem cl354:callable Tryz.prog 354:=by kernel_rfl
theorem cl381:callable Tryz.prog 381:=by kernel_rfl
theorem cl382:callable Tryz.prog 382:=by kernel_rfl
theorem cl383:callable Tryz.prog 383:=by kernel_rfl
theorem cl384:callable Tryz.prog 384:=by kernel_rfl
theorem cl89:callable Tryz.prog 89:=by kernel_rfl
theorem fo293_0:fieldOff Tryz.prog 293 0 0:=by kernel_rfl
theorem fo293_1:fieldOff Tryz.prog 293 1 1:=by kernel_rfl
theorem fo293_2:fieldOff Tryz.prog 293 2 2:=by kernel_rfl
theorem ta293:tyA Tryz.prog 293 3:=by kernel_rfl
theorem ts239:sized Tryz.prog 239 1:=by kernel_rfl
theorem ts293:sized Tryz.prog 293 3:=by kernel_rfl
theorem tz239:zeroOf Tryz.prog 239=some .nilFunc:=by kernel_rfl
theorem tz293:zeroOf Tryz.prog 293=some (.agg (scanC (⟨0,0,0⟩:Scan)).toArray):=by kernel_rfl
def D.retire_zero_1 (r_retire_zero:Plan→Int→Int→(Unit→T Int)→T Int) (c0:Plan) (c1:Int) (c2:Int) (c3:(Unit→T Int)):T Int:=(r_retire_zero c0 c1 (IntKind.i64.wrap (c2+1)) c3)
def D.retire_zero_body (r_retire_zero:Plan→Int→Int→(Unit→T Int)→T Int) (a0:Plan) (a1:Int) (a2:Int) (a3:(Unit→T Int)):T Int:=(bif (a2==3) then (a3 ()) else (D.prog_Store_int (D.plan_Plan_Field a0 a1 a2) 0 (fun _=>(D.retire_zero_1 r_retire_zero a0 a1 a2 a3))))
def D.retire_zero:Nat→Plan→Int→Int→(Unit→T Int)→T Int
  | 0,_,_,_,_=>.cut
  | k+1,a0,a1,a2,a3=>D.retire_zero_body (D.retire_zero k) a0 a1 a2 a3
def Spec_retire_zero (r:Plan→Int→Int→(Unit→T Int)→T Int) (n:Nat):Prop:=∀ (F:Nat→Prop) (w0:World),(∀ b,F b→b<w0.heap.size)→∀ (a0:Plan) (a1:Int) (a2:Int) {a3f:FuncId} {a3_1 a3_2:List Value} {a3:(Unit→T Int)} (a3n:FnT Tryz.prog encInt unitE (n+1) F w0 (kf a3f a3_1 a3_2) a3),Calls Tryz.prog 305 #[.agg (planC a0).toArray,.int .i64 a1,.int .i64 a2,kf a3f a3_1 a3_2] w0 (RepRes Tryz.prog encInt n (r a0 a1 a2 a3) F w0)
theorem c_retire_zero_1 {r_retire_zero:Plan→Int→Int→(Unit→T Int)→T Int} (hF:kH F w0) (ih_retire_zero:∀ m,m≤n→Spec_retire_zero r_retire_zero m)
    (c0:Plan) {c0b:Nat} (c0F:F c0b) (c0h:w0.heap[c0b]?=some (.cells ((planC c0)).toArray 23 (0,0))) (c1:Int) {c1b:Nat} (c1F:F c1b) (c1h:w0.heap[c1b]?=some (.cells ([(.int .i64 c1)]).toArray 3 (0,0))) (c2:Int) {c2b:Nat} (c2F:F c2b) (c2h:w0.heap[c2b]?=some (.cells ([(.int .i64 c2)]).toArray 3 (0,0))) {c3f:FuncId} {c3_1 c3_2:List Value} {c3:(Unit→T Int)} {c3b:Nat} (c3F:F c3b) (c3h:w0.heap[c3b]?=some (.cells #[kf c3f c3_1 c3_2] 239 (0,0))) (c3n:FnT Tryz.prog encInt unitE (n+1) F w0 (kf c3f c3_1 c3_2) c3) :
    Calls Tryz.prog 354 #[zp c0b,zp c1b,zp c2b,zp c3b] w0 (RepRes Tryz.prog encInt n (D.retire_zero_1 r_retire_zero c0 c1 c2 c3) F w0):=by
 refine kN Tryz.func354 rfl 11 rfl rfl fun fr r hB=>?_;have lc0b:=lt_of_block c0h
 have lc1b:=lt_of_block c1h;have lc2b:=lt_of_block c2h;have lc3b:=lt_of_block c3h;refine wsr ?_;refine seq_new (.cells (kq encInt) 119 (0,0)) r (fun R=>y_alloc tz119) rfl fun fr b1 w2 n3 r=>?_;obtain ⟨E1,Z2,H1,hB,zB⟩:=n3.all hB
 refine wn (wsr (kG (planC c0) 6 r rfl (keep hB c0h) ta23 rfl rfl fun r=>kL (I c1) r rfl (keep hB c1h) to3 rfl rfl fun r=>kL (I c2) r rfl (keep hB c2h) to3 rfl rfl fun r=>kB r rfl rfl rfl rfl rfl fun r=>kL (kf c3f c3_1 c3_2) r rfl (keep hB c3h) to239 rfl rfl fun r=>?_));have hF1:=fgrow hF hB b1
 refine kD r ((ih_retire_zero n (by omega)) (kW F w0 w2 b1) _ hF1 c0 c1 (W (c2+1)) (c3n.mono (by omega) (fun b h=>.inl h) (Same.below hB hF) hB.size)) rfl cl305 rfl fun w4 v5 hb hr6 r=>?_;have Z4:=hb.size
 have H1:=keep hb H1;obtain ⟨hB,zB⟩:=bon hb hB;refine kP r hr6.shape rfl rfl H1 ts119 rfl rfl fun w7 u8 r=>?_;have Z7:=u8.size
 have H1:=u8.at_;obtain ⟨hB,zB⟩:=u8.on hB (by omega)
 exact wn (wp_ret (kR r hr6 rfl rfl H1 rfl ta119 hF hB u8 (by omega) (by omega) (by omega)))
theorem b_retire_zero {n:Nat} {F:Nat→Prop} {r_retire_zero:Plan→Int→Int→(Unit→T Int)→T Int} {w0:World} (hF:∀ b,F b→b<w0.heap.size) (ih_retire_zero:∀ m,m<n→Spec_retire_zero r_retire_zero m)
    (a0:Plan) (a1:Int) (a2:Int) {a3f:FuncId} {a3_1 a3_2:List Value} {a3:(Unit→T Int)} (a3n:FnT Tryz.prog encInt unitE (n+1) F w0 (kf a3f a3_1 a3_2) a3) :
    Calls Tryz.prog 305 #[.agg (planC a0).toArray,.int .i64 a1,.int .i64 a2,kf a3f a3_1 a3_2] w0 (RepRes Tryz.prog encInt n (D.retire_zero_body r_retire_zero a0 a1 a2 a3) F w0):=by
 refine kN Tryz.func305 rfl 19 rfl rfl fun fr r hB=>?_;refine wsr ?_
 refine kX 23 (.agg (planC a0).toArray) r rfl rfl fun b1 w2 n3 r=>?_;obtain ⟨E1,Z2,H1,hB,zB⟩:=n3.all hB
 refine kX 3 (I a1) r rfl rfl fun b4 w5 n6 r=>?_;have H1:=keep n6.below H1
 obtain ⟨E4,Z5,H4,hB,zB⟩:=n6.all hB;refine kX 3 (I a2) r rfl rfl fun b7 w8 n9 r=>?_;have H1:=keep n9.below H1
 have H4:=keep n9.below H4;obtain ⟨E7,Z8,H7,hB,zB⟩:=n9.all hB;refine kX 239 (kf a3f a3_1 a3_2) r rfl rfl fun b10 w11 n12 r=>?_;have H1:=keep n12.below H1
 have H4:=keep n12.below H4;have H7:=keep n12.below H7;obtain ⟨E10,Z11,H10,hB,zB⟩:=n12.all hB;refine seq_new (.cells (kq encInt) 119 (0,0)) r (fun R=>y_alloc tz119) rfl fun fr b13 w14 n15 r=>?_;have H1:=keep n15.below H1
 have H4:=keep n15.below H4;have H7:=keep n15.below H7;have H10:=keep n15.below H10;obtain ⟨E13,Z14,H13,hB,zB⟩:=n15.all hB;refine wn (wp_seq (wsr (kL (I a2) r rfl H7 to3 rfl rfl fun r=>kB r rfl rfl rfl rfl rfl fun r=>wn ?_)));refine wp_cond_split (t:=(a2==3)) (r.ev rfl) (fun h16=>?_) (fun h16=>?_)
 ·
  refine wsr (kL (kf a3f a3_1 a3_2) r rfl H10 to239 rfl rfl fun r=>?_);refine seq_call r (a3n.at_.2 n (Nat.lt_succ_self n) () w14 (Same.below hB hF) hB.size) (fun R hc=>y_callv0 r rfl a3n.at_.1 hc) rfl ?_
  rintro _ w17 ⟨v18,rfl,hb,hr19⟩;refine ⟨_,rfl,fun fr r=>?_⟩
  have Z17:=hb.size;have H1:=keep hb H1;have H4:=keep hb H4;have H7:=keep hb H7;have H10:=keep hb H10;have H13:=keep hb H13;obtain ⟨hB,zB⟩:=bon hb hB;refine kP r hr19.shape rfl rfl H13 ts119 rfl rfl fun w20 u21 r=>?_;have Z20:=u21.size
  have H1:=u21.keep H1 (by omega)
  have H4:=u21.keep H4 (by omega)
  have H7:=u21.keep H7 (by omega)
  have H10:=u21.keep H10 (by omega)
  have H13:=u21.at_;obtain ⟨hB,zB⟩:=u21.on hB (by omega)
  refine wn (wp_ret ?_);have hd:D.retire_zero_body r_retire_zero a0 a1 a2 a3=(a3 ()):=(cond_t h16).trans (rfl);have hs:=hr19.shape.cells;refine ret_cell r rfl rfl H13 (k:=7) hs.1 ta119 ?_;rw [←hs.2.2,hd];exact RepRes.fin hB hr19 u21 (fun b hb=>.inl hb) (fun h=>by have:=hF _ h; omega) (by omega) (by omega) (by omega)
 refine wp_skip (wsr (kG (planC a0) 6 r rfl H1 ta23 rfl rfl fun r=>kL (I a1) r rfl H4 to3 rfl rfl fun r=>kL (I a2) r rfl H7 to3 rfl rfl fun r=>?_));refine kE r (c_plan_Plan_Field w14 a0 a1 a2) rfl cl89 rfl fun w22 hb r=>?_
 have Z22:=hb.size;have H1:=keep hb H1;have H4:=keep hb H4;have H7:=keep hb H7;have H10:=keep hb H10;have H13:=keep hb H13;obtain ⟨hB,zB⟩:=bon hb hB;refine seq_val (.func (.func 354) #[] #[zp b1,zp b4,zp b7,zp b10]) r (fun R=>y_makeFunc r rfl) rfl fun fr r=>?_;have hF1:=fgrow hF hB b13
 have f23:((kW F w0 w22 b13)) b1:=(.inr ⟨by omega,by omega,by omega⟩)
 have f24:((kW F w0 w22 b13)) b4:=(.inr ⟨by omega,by omega,by omega⟩)
 have f25:((kW F w0 w22 b13)) b7:=(.inr ⟨by omega,by omega,by omega⟩)
 have f26:((kW F w0 w22 b13)) b10:=(.inr ⟨by omega,by omega,by omega⟩)
 refine kD r (c_prog_Store_int (F:=(kW F w0 w22 b13)) (n:=n) hF1 (D.plan_Plan_Field a0 a1 a2) 0 ⟨354,[],[zp b1,zp b4,zp b7,zp b10],cl354,rfl,fun m hm _ w' hs hz=>c_retire_zero_1 (fun b hb=>Nat.lt_of_lt_of_le (hF1 b hb) hz) (fun m' hm'=>ih_retire_zero m' (by omega)) a0 f23 (hs.at_ f23 H1) a1 f24 (hs.at_ f24 H4) a2 f25 (hs.at_ f25 H7) f26 (hs.at_ f26 H10) (a3n.mono (by omega) (fun b h=>.inl h) ((Same.below hB hF).trans (hs.sub (fun b h=>.inl h))) (Nat.le_trans hB.size hz))⟩) rfl cl188 rfl fun w27 v28 hb hr29 r=>?_;have Z27:=hb.size
 have H1:=keep hb H1;have H4:=keep hb H4;have H7:=keep hb H7;have H10:=keep hb H10;have H13:=keep hb H13;obtain ⟨hB,zB⟩:=bon hb hB;refine kP r hr29.shape rfl rfl H13 ts119 rfl rfl fun w30 u31 r=>?_;have Z30:=u31.size
 have H1:=u31.keep H1 (by omega)
 have H4:=u31.keep H4 (by omega)
 have H7:=u31.keep H7 (by omega)
 have H10:=u31.keep H10 (by omega)
 have H13:=u31.at_;obtain ⟨hB,zB⟩:=u31.on hB (by omega)
 refine wn (wp_ret ?_);have hd:D.retire_zero_body r_retire_zero a0 a1 a2 a3=(D.prog_Store_int (D.plan_Plan_Field a0 a1 a2) 0 (fun _=>(D.retire_zero_1 r_retire_zero a0 a1 a2 a3))):=(cond_f h16).trans (rfl)
 have hs:=hr29.shape.cells;refine ret_cell r rfl rfl H13 (k:=7) hs.1 ta119 ?_;rw [←hs.2.2,hd];exact rfin hF hB hr29 u31 (by omega) (by omega) (by omega)
theorem c_retire_zero {n:Nat} {k:Nat} (hk:n<k):Spec_retire_zero (D.retire_zero k) n:=by
  induction n using Nat.strongRecOn generalizing k with
  | _ n ih=>
    obtain ⟨k,rfl⟩:∃ q,k=q+1:=⟨k - 1,by omega⟩
    intro F w0 hF;have h:=@b_retire_zero n F (D.retire_zero k) w0 hF (fun m hm=>ih m hm (by omega))
    exact h
def D.retire_Reclaim_1_1_1 (j:Nat) (c0:State) (c1:Plan) (c2:Int):T Int:=(bif (c0.mode==3) then (D.prog_Done_int (-1)) else (D.free_Push j c1 c2))
theorem c_retire_Reclaim_1_1_1 (hF:kH F w0) (hj:n<j)
    (c0:State) {c0b:Nat} (c0F:F c0b) (c0h:w0.heap[c0b]?=some (.cells ((stateC c0)).toArray 190 (0,0))) (c1:Plan) {c1b:Nat} (c1F:F c1b) (c1h:w0.heap[c1b]?=some (.cells ((planC c1)).toArray 23 (0,0))) (c2:Int) {c2b:Nat} (c2F:F c2b) (c2h:w0.heap[c2b]?=some (.cells ([(.int .i64 c2)]).toArray 3 (0,0))) :
    Calls Tryz.prog 309 #[zp c0b,zp c1b,zp c2b] w0 (RepRes Tryz.prog encInt n (D.retire_Reclaim_1_1_1 j c0 c1 c2) F w0):=by
 refine kN Tryz.func309 rfl 11 rfl rfl fun fr r hB=>?_;have lc0b:=lt_of_block c0h
 have lc1b:=lt_of_block c1h;have lc2b:=lt_of_block c2h;refine wsr ?_;refine seq_new (.cells (kq encInt) 119 (0,0)) r (fun R=>y_alloc tz119) rfl fun fr b1 w2 n3 r=>?_;obtain ⟨E1,Z2,H1,hB,zB⟩:=n3.all hB
 refine wn (wp_seq (wsr (kF 0 r rfl fo190_1 rfl fun r=>kL (I c0.mode) r rfl (keep hB c0h) to3 rfl rfl fun r=>kB r rfl rfl rfl rfl rfl fun r=>wn ?_)));refine wp_cond_split (t:=(c0.mode==3)) (r.ev rfl) (fun h4=>?_) (fun h4=>?_)
 ·
  refine wsr ?_;have hF1:=fgrow hF hB b1;refine kD r (c_prog_Done_int (F:=(kW F w0 w2 b1)) (n:=n) hF1 (-1)) rfl cl222 rfl fun w5 v6 hb hr7 r=>?_;have Z5:=hb.size
  have H1:=keep hb H1;obtain ⟨hB,zB⟩:=bon hb hB;refine kP r hr7.shape rfl rfl H1 ts119 rfl rfl fun w8 u9 r=>?_;have Z8:=u9.size
  have H1:=u9.at_;obtain ⟨hB,zB⟩:=u9.on hB (by omega)
  refine wn (wp_ret ?_);have hd:D.retire_Reclaim_1_1_1 j c0 c1 c2=(D.prog_Done_int (-1)):=(cond_t h4).trans (rfl);have hs:=hr7.shape.cells;refine ret_cell r rfl rfl H1 (k:=7) hs.1 ta119 ?_;rw [←hs.2.2,hd];exact rfin hF hB hr7 u9 (by omega) (by omega) (by omega)
 refine wp_skip (wsr (kG (planC c1) 6 r rfl (keep hB c1h) ta23 rfl rfl fun r=>kL (I c2) r rfl (keep hB c2h) to3 rfl rfl fun r=>?_));have hF1:=fgrow hF hB b1
 refine kD r ((c_free_Push (k:=j) (n:=n) (by omega)) (kW F w0 w2 b1) _ hF1 c1 c2) rfl cl310 rfl fun w10 v11 hb hr12 r=>?_;have Z10:=hb.size
 have H1:=keep hb H1;obtain ⟨hB,zB⟩:=bon hb hB;refine kP r hr12.shape rfl rfl H1 ts119 rfl rfl fun w13 u14 r=>?_;have Z13:=u14.size
 have H1:=u14.at_;obtain ⟨hB,zB⟩:=u14.on hB (by omega)
 refine wn (wp_ret ?_);have hd:D.retire_Reclaim_1_1_1 j c0 c1 c2=(D.free_Push j c1 c2):=(cond_f h4).trans (rfl);have hs:=hr12.shape.cells;refine ret_cell r rfl rfl H1 (k:=7) hs.1 ta119 ?_;rw [←hs.2.2,hd];exact rfin hF hB hr12 u14 (by omega) (by omega) (by omega)
def D.retire_Reclaim_1_1 (j:Nat) (c0:Plan) (c1:Int) (a0:Int):T Int:=(D.prog_Store_int (D.plan_Plan_State c0 c1) (D.state_State_Word (D.state_State_Freed ((D.state_Of a0).1) c0.gen)) (fun _=>(D.retire_Reclaim_1_1_1 j (D.state_State_Freed ((D.state_Of a0).1) c0.gen) c0 c1)))
theorem c_retire_Reclaim_1_1 (hF:kH F w0) (hj:n<j)
    (c0:Plan) {c0b:Nat} (c0F:F c0b) (c0h:w0.heap[c0b]?=some (.cells ((planC c0)).toArray 23 (0,0))) (c1:Int) {c1b:Nat} (c1F:F c1b) (c1h:w0.heap[c1b]?=some (.cells ([(.int .i64 c1)]).toArray 3 (0,0))) (a0:Int) :
    Calls Tryz.prog 307 #[.int .u64 a0,zp c0b,zp c1b] w0 (RepRes Tryz.prog encInt n (D.retire_Reclaim_1_1 j c0 c1 a0) F w0):=by
 refine kN Tryz.func307 rfl 24 rfl rfl fun fr r hB=>?_;have lc0b:=lt_of_block c0h
 have lc1b:=lt_of_block c1h;refine wsr ?_;refine seq_new (.cells (kq encInt) 119 (0,0)) r (fun R=>y_alloc tz119) rfl fun fr b1 w2 n3 r=>?_;obtain ⟨E1,Z2,H1,hB,zB⟩:=n3.all hB
 refine wn (wsr (kM (U a0) r rfl rfl fun r=>?_));refine kE r (c_state_Of w2 a0) rfl cl111 rfl fun w4 hb r=>?_
 have Z4:=hb.size;have H1:=keep hb H1;obtain ⟨hB,zB⟩:=bon hb hB;refine kM (.tuple #[(.agg (stateC (D.state_Of a0).1).toArray),(.bool (D.state_Of a0).2)]) r rfl rfl fun r=>seq_val (.agg (stateC (D.state_Of a0).1).toArray) r (fun R=>y_extract r (vs:=#[(.agg (stateC (D.state_Of a0).1).toArray),(.bool (D.state_Of a0).2)]) rfl rfl) rfl fun fr r=>seq_val (.bool (D.state_Of a0).2) r (fun R=>y_extract r (vs:=#[(.agg (stateC (D.state_Of a0).1).toArray),(.bool (D.state_Of a0).2)]) rfl rfl) rfl fun fr r=>?_;refine seq_new (.cells ((stateC (⟨0,0,0⟩:State))).toArray 190 (0,0)) r (fun R=>y_alloc tz190) rfl fun fr b5 w6 n7 r=>?_
 have H1:=keep n7.below H1;obtain ⟨E5,Z6,H5,hB,zB⟩:=n7.all hB;refine seq_upd (.cells ((stateC ((D.state_Of a0).1))).toArray 190 (0,0)) r (fun R=>y_store r (o:=0) (v:=(.agg (stateC (D.state_Of a0).1).toArray)) rfl rfl H5 ts190 (Nat.le_of_ble_eq_true rfl) rfl rfl) rfl fun fr w8 u9 r=>?_;have Z8:=u9.size
 have H1:=u9.keep H1 (by omega)
 have H5:=u9.at_;obtain ⟨hB,zB⟩:=u9.on hB (by omega)
 refine kA (.bool (D.state_Of a0).2) r rfl rfl fun r=>wn (wsr (seq_val (.agg (stateC (D.state_Of a0).1).toArray) r (fun R=>y_load_agg r (cs:=(stateC ((D.state_Of a0).1))) (n:=3) rfl H5 ta190 rfl) rfl fun fr r=>kF 0 r rfl fo23_5 rfl fun r=>kL (I c0.gen) r rfl (keep hB c0h) to3 rfl rfl fun r=>?_));refine kE r (c_state_State_Freed w8 ((D.state_Of a0).1) c0.gen) rfl cl308 rfl fun w10 hb r=>?_
 have Z10:=hb.size;have H1:=keep hb H1;have H5:=keep hb H5;obtain ⟨hB,zB⟩:=bon hb hB;refine seq_new (.cells ((stateC (⟨0,0,0⟩:State))).toArray 190 (0,0)) r (fun R=>y_alloc tz190) rfl fun fr b11 w12 n13 r=>?_;have H1:=keep n13.below H1
 have H5:=keep n13.below H5;obtain ⟨E11,Z12,H11,hB,zB⟩:=n13.all hB;refine seq_upd (.cells ((stateC (D.state_State_Freed ((D.state_Of a0).1) c0.gen))).toArray 190 (0,0)) r (fun R=>y_store r (o:=0) (v:=(.agg (stateC (D.state_State_Freed ((D.state_Of a0).1) c0.gen)).toArray)) rfl rfl H11 ts190 (Nat.le_of_ble_eq_true rfl) rfl rfl) rfl fun fr w14 u15 r=>?_;have Z14:=u15.size
 have H1:=u15.keep H1 (by omega)
 have H5:=u15.keep H5 (by omega)
 have H11:=u15.at_;obtain ⟨hB,zB⟩:=u15.on hB (by omega)
 refine wn (wp_seq ?_);refine wp_drawnF 6 [.val (.agg (planC c0).toArray),.val (I c1),.val (I (D.plan_Plan_State c0 c1)),.val (.agg (stateC (D.state_State_Freed ((D.state_Of a0).1) c0.gen)).toArray),.val (U (D.state_State_Word (D.state_State_Freed ((D.state_Of a0).1) c0.gen))),.val (.func (.func 309) #[] #[zp b11,zp c0b,zp c1b])] mixed r (by kernel_rfl) (kV (kV (kV (kV (kV (kV within_nil)))))) ?_ ?_
 ·
  refine ec r (fun _ u _ b d s=>y_load_agg s (cs:=(planC c0)) (n:=6) rfl (keep2 hB b c0h) ta23 rfl bz) (ec r (fun _ u _ b d s=>y_load_one s rfl (keep2 hB b c1h) to3 rfl bz) (ec r (fun fr1 u w' hb' hd r'=>y_call r' (args:=[(.agg (planC c0).toArray),(I c1)]) (lc hd.1 (lc hd.2.1 l0)) cl112 ((c_plan_Plan_State _ c0 c1).mono (by rintro _ w2 ⟨rfl,hb2⟩; exact ⟨_,rfl,hb2,rfl⟩))) (ec r (fun _ u _ b d s=>y_load_agg s (cs:=(stateC (D.state_State_Freed ((D.state_Of a0).1) c0.gen))) (n:=3) rfl (keep b H11) ta190 rfl bz) (ec r (fun fr1 u w' hb' hd r'=>y_call r' (args:=[(.agg (stateC (D.state_State_Freed ((D.state_Of a0).1) c0.gen)).toArray)]) (lc hd.1 l0) cl137 ((c_state_State_Word _ (D.state_State_Freed ((D.state_Of a0).1) c0.gen)).mono (by rintro _ w2 ⟨rfl,hb2⟩; exact ⟨_,rfl,hb2,rfl⟩))) (ec r (fun _ u _ b d s=>y_makeFunc s (v:=(.func (.func 309) #[] #[zp b11,zp c0b,zp c1b])) rfl bz) ?_)))));exact each_nil
 intro fr u w16 hb hΦ hne r;have r:=r.congr (sc (hΦ 5 (by decide)) (sc (hΦ 4 (by decide)) (sc (hΦ 3 (by decide)) (sc (hΦ 2 (by decide)) (sc (hΦ 1 (by decide)) (sc (hΦ 0 (by decide)) rfl))))));have Z16:=hb.size;have H1:=keep hb H1;have H5:=keep hb H5;have H11:=keep hb H11;obtain ⟨hB,zB⟩:=bon hb hB;have hF1:=fgrow hF hB b1;have f17:((kW F w0 w16 b1)) b11:=(.inr ⟨by omega,by omega,by omega⟩)
 have f18:((kW F w0 w16 b1)) c0b:=(.inl c0F);have f19:((kW F w0 w16 b1)) c1b:=(.inl c1F);refine kD r (c_prog_Store_int (F:=(kW F w0 w16 b1)) (n:=n) hF1 (D.plan_Plan_State c0 c1) (D.state_State_Word (D.state_State_Freed ((D.state_Of a0).1) c0.gen)) ⟨309,[],[zp b11,zp c0b,zp c1b],cl309,rfl,fun m hm _ w' hs hz=>c_retire_Reclaim_1_1_1 (j:=j) (fun b hb=>Nat.lt_of_lt_of_le (hF1 b hb) hz) (by omega) (D.state_State_Freed ((D.state_Of a0).1) c0.gen) f17 (hs.at_ f17 H11) c0 f18 (hs.at_ f18 (keep hB c0h)) c1 f19 (hs.at_ f19 (keep hB c1h))⟩) rfl cl188 rfl fun w20 v21 hb hr22 r=>?_;have Z20:=hb.size
 have H1:=keep hb H1;have H5:=keep hb H5;have H11:=keep hb H11;obtain ⟨hB,zB⟩:=bon hb hB;refine kP r hr22.shape rfl rfl H1 ts119 rfl rfl fun w23 u24 r=>?_;have Z23:=u24.size
 have H5:=u24.keep H5 (by omega)
 have H11:=u24.keep H11 (by omega)
 have H1:=u24.at_;obtain ⟨hB,zB⟩:=u24.on hB (by omega)
 exact wn (wp_ret (kR r hr22 rfl rfl H1 rfl ta119 hF hB u24 (by omega) (by omega) (by omega)))
def D.retire_Reclaim_1 (j:Nat) (c0:Plan) (c1:Int):T Int:=(D.prog_Load_int (D.plan_Plan_State c0 c1) (fun x=>(D.retire_Reclaim_1_1 j c0 c1 x)))
theorem c_retire_Reclaim_1 (hF:kH F w0) (hj:n<j)
    (c0:Plan) {c0b:Nat} (c0F:F c0b) (c0h:w0.heap[c0b]?=some (.cells ((planC c0)).toArray 23 (0,0))) (c1:Int) {c1b:Nat} (c1F:F c1b) (c1h:w0.heap[c1b]?=some (.cells ([(.int .i64 c1)]).toArray 3 (0,0))) :
    Calls Tryz.prog 306 #[zp c0b,zp c1b] w0 (RepRes Tryz.prog encInt n (D.retire_Reclaim_1 j c0 c1) F w0):=by
 refine kN Tryz.func306 rfl 8 rfl rfl fun fr r hB=>?_;have lc0b:=lt_of_block c0h
 have lc1b:=lt_of_block c1h;refine wsr ?_;refine seq_new (.cells (kq encInt) 119 (0,0)) r (fun R=>y_alloc tz119) rfl fun fr b1 w2 n3 r=>?_;obtain ⟨E1,Z2,H1,hB,zB⟩:=n3.all hB
 refine wn (wsr (kG (planC c0) 6 r rfl (keep hB c0h) ta23 rfl rfl fun r=>kL (I c1) r rfl (keep hB c1h) to3 rfl rfl fun r=>?_));refine kE r (c_plan_Plan_State w2 c0 c1) rfl cl112 rfl fun w4 hb r=>?_
 have Z4:=hb.size;have H1:=keep hb H1;obtain ⟨hB,zB⟩:=bon hb hB;refine seq_val (.func (.func 307) #[] #[zp c0b,zp c1b]) r (fun R=>y_makeFunc r rfl) rfl fun fr r=>?_;have hF1:=fgrow hF hB b1
 have f5:((kW F w0 w4 b1)) c0b:=(.inl c0F);have f6:((kW F w0 w4 b1)) c1b:=(.inl c1F);refine kD r (c_prog_Load_int (F:=(kW F w0 w4 b1)) (n:=n) hF1 (D.plan_Plan_State c0 c1) ⟨307,[],[zp c0b,zp c1b],cl307,rfl,fun m hm x w' hs hz=>c_retire_Reclaim_1_1 (j:=j) (fun b hb=>Nat.lt_of_lt_of_le (hF1 b hb) hz) (by omega) c0 f5 (hs.at_ f5 (keep hB c0h)) c1 f6 (hs.at_ f6 (keep hB c1h)) x⟩) rfl cl186 rfl fun w7 v8 hb hr9 r=>?_;have Z7:=hb.size
 have H1:=keep hb H1;obtain ⟨hB,zB⟩:=bon hb hB;refine kP r hr9.shape rfl rfl H1 ts119 rfl rfl fun w10 u11 r=>?_;have Z10:=u11.size
 have H1:=u11.at_;obtain ⟨hB,zB⟩:=u11.on hB (by omega)
 exact wn (wp_ret (kR r hr9 rfl rfl H1 rfl ta119 hF hB u11 (by omega) (by omega) (by omega)))
def D.retire_Reclaim (j:Nat) (a0:Plan) (a1:Int):T Int:=(D.retire_zero j a0 a1 0 (fun _=>(D.retire_Reclaim_1 j a0 a1)))
theorem c_retire_Reclaim (hF:kH F w0) (hj:n<j)
    (a0:Plan) (a1:Int) :
    Calls Tryz.prog 240 #[.agg (planC a0).toArray,.int .i64 a1] w0 (RepRes Tryz.prog encInt n (D.retire_Reclaim j a0 a1) F w0):=by
 refine kN Tryz.func240 rfl 9 rfl rfl fun fr r hB=>?_;refine wsr ?_
 refine kX 23 (.agg (planC a0).toArray) r rfl rfl fun b1 w2 n3 r=>?_;obtain ⟨E1,Z2,H1,hB,zB⟩:=n3.all hB
 refine kX 3 (I a1) r rfl rfl fun b4 w5 n6 r=>?_;have H1:=keep n6.below H1
 obtain ⟨E4,Z5,H4,hB,zB⟩:=n6.all hB;refine seq_new (.cells (kq encInt) 119 (0,0)) r (fun R=>y_alloc tz119) rfl fun fr b7 w8 n9 r=>?_;have H1:=keep n9.below H1
 have H4:=keep n9.below H4;obtain ⟨E7,Z8,H7,hB,zB⟩:=n9.all hB;refine wn (wsr (kG (planC a0) 6 r rfl H1 ta23 rfl rfl fun r=>kL (I a1) r rfl H4 to3 rfl rfl fun r=>seq_val (.func (.func 306) #[] #[zp b1,zp b4]) r (fun R=>y_makeFunc r rfl) rfl fun fr r=>?_));have hF1:=fgrow hF hB b7
 have f10:((kW F w0 w8 b7)) b1:=(.inr ⟨by omega,by omega,by omega⟩)
 have f11:((kW F w0 w8 b7)) b4:=(.inr ⟨by omega,by omega,by omega⟩)
 refine kD r ((c_retire_zero (k:=j) (n:=n) (by omega)) (kW F w0 w8 b7) _ hF1 a0 a1 0 ⟨306,[],[zp b1,zp b4],cl306,rfl,fun m hm _ w' hs hz=>c_retire_Reclaim_1 (j:=j) (fun b hb=>Nat.lt_of_lt_of_le (hF1 b hb) hz) (by omega) a0 f10 (hs.at_ f10 H1) a1 f11 (hs.at_ f11 H4)⟩) rfl cl305 rfl fun w12 v13 hb hr14 r=>?_;have Z12:=hb.size
 have H1:=keep hb H1;have H4:=keep hb H4;have H7:=keep hb H7;obtain ⟨hB,zB⟩:=bon hb hB;refine kP r hr14.shape rfl rfl H7 ts119 rfl rfl fun w15 u16 r=>?_;have Z15:=u16.size
 have H1:=u16.keep H1 (by omega)
 have H4:=u16.keep H4 (by omega)
 have H7:=u16.at_;obtain ⟨hB,zB⟩:=u16.on hB (by omega)
 exact wn (wp_ret (kR r hr14 rfl rfl H7 rfl ta119 hF hB u16 (by omega) (by omega) (by omega)))
def D.retire_removed_2 (c0:Plan) (c1:Int) (c2:Scan) (c3:(Unit→T Int)) (a0:Int):T Int:=(D.prog_Store_int (D.plan_Plan_Retired c0 c1 c2.at_) a0 c3)
theorem c_retire_removed_2 (hF:kH F w0)
    (c0:Plan) {c0b:Nat} (c0F:F c0b) (c0h:w0.heap[c0b]?=some (.cells ((planC c0)).toArray 23 (0,0))) (c1:Int) {c1b:Nat} (c1F:F c1b) (c1h:w0.heap[c1b]?=some (.cells ([(.int .i64 c1)]).toArray 3 (0,0))) (c2:Scan) {c2b:Nat} (c2F:F c2b) (c2h:w0.heap[c2b]?=some (.cells ((scanC c2)).toArray 293 (0,0))) {c3f:FuncId} {c3_1 c3_2:List Value} {c3:(Unit→T Int)} {c3b:Nat} (c3F:F c3b) (c3h:w0.heap[c3b]?=some (.cells #[kf c3f c3_1 c3_2] 239 (0,0))) (c3n:FnT Tryz.prog encInt unitE (n+1) F w0 (kf c3f c3_1 c3_2) c3) (a0:Int) :
    Calls Tryz.prog 384 #[.int .u64 a0,zp c0b,zp c1b,zp c2b,zp c3b] w0 (RepRes Tryz.prog encInt n (D.retire_removed_2 c0 c1 c2 c3 a0) F w0):=by
 refine kN Tryz.func384 rfl 15 rfl rfl fun fr r hB=>?_;have lc0b:=lt_of_block c0h
 have lc1b:=lt_of_block c1h;have lc2b:=lt_of_block c2h;have lc3b:=lt_of_block c3h;refine wsr ?_;refine seq_new (.cells (kq encInt) 119 (0,0)) r (fun R=>y_alloc tz119) rfl fun fr b1 w2 n3 r=>?_;obtain ⟨E1,Z2,H1,hB,zB⟩:=n3.all hB
 refine wn (wp_seq ?_);refine wp_drawnF 7 [.val (.agg (planC c0).toArray),.val (I c1),.val (zp c2b),.val (I c2.at_),.val (I (D.plan_Plan_Retired c0 c1 c2.at_)),.val (U a0),.val (kf c3f c3_1 c3_2)] mixed r (by kernel_rfl) (kV (kV (kV (kV (kV (kV (kV within_nil))))))) ?_ ?_
 ·
  refine ec r (fun _ u _ b d s=>y_load_agg s (cs:=(planC c0)) (n:=6) rfl (keep2 hB b c0h) ta23 rfl bz) (ec r (fun _ u _ b d s=>y_load_one s rfl (keep2 hB b c1h) to3 rfl bz) (ec r (fun _ u _ b d s=>y_fieldAddr s (b:=c2b) (o:=0) rfl fo293_0 bz) (ec r (fun _ u _ b d s=>y_load_one s d.1 (keep2 hB b c2h) to3 rfl bz) (ec r (fun fr1 u w' hb' hd r'=>y_call r' (args:=[(.agg (planC c0).toArray),(I c1),(I c2.at_)]) (lc hd.1 (lc hd.2.1 (lc hd.2.2.1 l0))) cl195 ((c_plan_Plan_Retired _ c0 c1 c2.at_).mono (by rintro _ w2 ⟨rfl,hb2⟩; exact ⟨_,rfl,hb2,rfl⟩))) (ec r (fun _ u _ b d s=>y_move s rfl bz) (ec r (fun _ u _ b d s=>y_load_one s rfl (keep2 hB b c3h) to239 rfl bz) ?_))))));exact each_nil
 intro fr u w4 hb hΦ hne r;have r:=r.congr (sc (hΦ 6 (by decide)) (sc (hΦ 5 (by decide)) (sc (hΦ 4 (by decide)) (sc (hΦ 3 (by decide)) (sc (hΦ 2 (by decide)) (sc (hΦ 1 (by decide)) (sc (hΦ 0 (by decide)) rfl)))))));have Z4:=hb.size;have H1:=keep hb H1;obtain ⟨hB,zB⟩:=bon hb hB;have hF1:=fgrow hF hB b1;refine kD r (c_prog_Store_int (F:=(kW F w0 w4 b1)) (n:=n) hF1 (D.plan_Plan_Retired c0 c1 c2.at_) a0 (c3n.mono (by omega) (fun b h=>.inl h) (Same.below hB hF) hB.size)) rfl cl188 rfl fun w5 v6 hb hr7 r=>?_;have Z5:=hb.size
 have H1:=keep hb H1;obtain ⟨hB,zB⟩:=bon hb hB;refine kP r hr7.shape rfl rfl H1 ts119 rfl rfl fun w8 u9 r=>?_;have Z8:=u9.size
 have H1:=u9.at_;obtain ⟨hB,zB⟩:=u9.on hB (by omega)
 exact wn (wp_ret (kR r hr7 rfl rfl H1 rfl ta119 hF hB u9 (by omega) (by omega) (by omega)))
def D.retire_removed_1_1_1 (j:Nat) (r_retire_scanned:Plan→Int→Scan→T Int) (c0:Plan) (c1:Int) (c2:Scan) (c3:Int) (a0:Int):T Int:=(r_retire_scanned c0 c1 (⟨(IntKind.i64.wrap (c2.at_ - 1)),c3,(IntKind.i64.wrap (c2.done+1))⟩:Scan))
def D.retire_removed_1_1 (j:Nat) (r_retire_scanned:Plan→Int→Scan→T Int) (c0:Plan) (c1:Int) (c2:Int) (c3:Scan) (c4:Int):T Int:=(T.bind (D.retire_Reclaim j c0 c1) (fun x=>(D.retire_removed_1_1_1 j r_retire_scanned c0 c2 c3 c4 x)))
def D.retire_removed_1 (j:Nat) (r_retire_scanned:Plan→Int→Scan→T Int) (c0:Plan) (c1:Int) (c2:Int) (c3:Int) (c4:Scan):T Int:=(D.prog_Store_int (D.plan_Plan_Count c0 c1) (IntKind.u64.wrap c2) (fun _=>(D.retire_removed_1_1 j r_retire_scanned c0 c3 c1 c4 c2)))
def D.retire_removed (j:Nat) (r_retire_scanned:Plan→Int→Scan→T Int) (a0:Plan) (a1:Int) (a2:Scan) (a3:Int):T Int:=(bif (a2.at_==(IntKind.i64.wrap (a2.left - 1))) then ((fun _=>(D.retire_removed_1 j r_retire_scanned a0 a1 (IntKind.i64.wrap (a2.left - 1)) a3 a2)) ()) else (D.prog_Load_int (D.plan_Plan_Retired a0 a1 (IntKind.i64.wrap (a2.left - 1))) (fun x=>(D.retire_removed_2 a0 a1 a2 (fun _=>(D.retire_removed_1 j r_retire_scanned a0 a1 (IntKind.i64.wrap (a2.left - 1)) a3 a2)) x))))
def D.retire_scanned_1_1 (j:Nat) (r_retire_scanned:Plan→Int→Scan→T Int) (c0:Plan) (c1:Int) (c2:Scan) (c3:Scan) (c4:Int) (a0:Bool):T Int:=(bif a0 then (r_retire_scanned c0 c1 c2) else (D.retire_removed j r_retire_scanned c0 c1 c3 (IntKind.i64.wrap ((IntKind.i64.wrap c4) - 1))))
def D.retire_scanned_1 (j:Nat) (r_retire_scanned:Plan→Int→Scan→T Int) (c0:Plan) (c1:Int) (c2:Scan) (c3:Scan) (a0:Int):T Int:=(bif (decide (a0<1)) then (r_retire_scanned c0 c1 c2) else (bif (decide (a0 > (IntKind.u64.wrap c0.nodes))) then (r_retire_scanned c0 c1 c2) else (T.bind (D.hazard_Held j c0 (IntKind.i64.wrap ((IntKind.i64.wrap a0) - 1))) (fun x=>(D.retire_scanned_1_1 j r_retire_scanned c0 c1 c2 c3 a0 x)))))
def D.retire_scanned_body (j:Nat) (r_retire_scanned:Plan→Int→Scan→T Int) (a0:Plan) (a1:Int) (a2:Scan):T Int:=(bif (decide (a2.at_<0)) then (D.prog_Done_int a2.done) else (D.prog_Load_int (D.plan_Plan_Retired a0 a1 a2.at_) (fun x=>(D.retire_scanned_1 j r_retire_scanned a0 a1 (⟨(IntKind.i64.wrap (a2.at_ - 1)),a2.left,a2.done⟩:Scan) a2 x))))
def D.retire_scanned (j:Nat):Nat→Plan→Int→Scan→T Int
  | 0,_,_,_=>.cut
  | k+1,a0,a1,a2=>D.retire_scanned_body j (D.retire_scanned j k) a0 a1 a2
def Spec_retire_scanned (r:Plan→Int→Scan→T Int) (n:Nat):Prop:=∀ (F:Nat→Prop) (w0:World),(∀ b,F b→b<w0.heap.size)→∀ (a0:Plan) (a1:Int) (a2:Scan),Calls Tryz.prog 282 #[.agg (planC a0).toArray,.int .i64 a1,.agg (scanC a2).toArray] w0 (RepRes Tryz.prog encInt n (r a0 a1 a2) F w0)
theorem c_retire_removed_1_1_1 {r_retire_scanned:Plan→Int→Scan→T Int} (hF:kH F w0) (hj:n<j) (ih_retire_scanned:∀ m,m≤n→Spec_retire_scanned r_retire_scanned m)
    (c0:Plan) {c0b:Nat} (c0F:F c0b) (c0h:w0.heap[c0b]?=some (.cells ((planC c0)).toArray 23 (0,0))) (c1:Int) {c1b:Nat} (c1F:F c1b) (c1h:w0.heap[c1b]?=some (.cells ([(.int .i64 c1)]).toArray 3 (0,0))) (c2:Scan) {c2b:Nat} (c2F:F c2b) (c2h:w0.heap[c2b]?=some (.cells ((scanC c2)).toArray 293 (0,0))) (c3:Int) {c3b:Nat} (c3F:F c3b) (c3h:w0.heap[c3b]?=some (.cells ([(.int .i64 c3)]).toArray 3 (0,0))) (a0:Int) :
    Calls Tryz.prog 383 #[.int .i64 a0,zp c0b,zp c1b,zp c2b,zp c3b] w0 (RepRes Tryz.prog encInt n (D.retire_removed_1_1_1 j r_retire_scanned c0 c1 c2 c3 a0) F w0):=by
 refine kN Tryz.func383 rfl 18 rfl rfl fun fr r hB=>?_;have lc0b:=lt_of_block c0h
 have lc1b:=lt_of_block c1h;have lc2b:=lt_of_block c2h;have lc3b:=lt_of_block c3h;refine wsr ?_;refine seq_new (.cells (kq encInt) 119 (0,0)) r (fun R=>y_alloc tz119) rfl fun fr b1 w2 n3 r=>?_;obtain ⟨E1,Z2,H1,hB,zB⟩:=n3.all hB
 refine wn (wsr (kG (planC c0) 6 r rfl (keep hB c0h) ta23 rfl rfl fun r=>kL (I c1) r rfl (keep hB c1h) to3 rfl rfl fun r=>kF 0 r rfl fo293_0 rfl fun r=>kL (I c2.at_) r rfl (keep hB c2h) to3 rfl rfl fun r=>kB r rfl rfl rfl rfl rfl fun r=>kL (I c3) r rfl (keep hB c3h) to3 rfl rfl fun r=>kF 0 r rfl fo293_2 rfl fun r=>kL (I c2.done) r rfl (keep hB c2h) to3 rfl rfl fun r=>kB r rfl rfl rfl rfl rfl fun r=>kU (.agg (scanC (⟨(W (c2.at_ - 1)),c3,(W (c2.done+1))⟩:Scan)).toArray) r (by kernel_rfl) rfl fun r=>?_));have hF1:=fgrow hF hB b1
 refine kD r ((ih_retire_scanned n (by omega)) (kW F w0 w2 b1) _ hF1 c0 c1 (⟨(W (c2.at_ - 1)),c3,(W (c2.done+1))⟩:Scan)) rfl cl282 rfl fun w4 v5 hb hr6 r=>?_;have Z4:=hb.size
 have H1:=keep hb H1;obtain ⟨hB,zB⟩:=bon hb hB;refine kP r hr6.shape rfl rfl H1 ts119 rfl rfl fun w7 u8 r=>?_;have Z7:=u8.size
 have H1:=u8.at_;obtain ⟨hB,zB⟩:=u8.on hB (by omega)
 exact wn (wp_ret (kR r hr6 rfl rfl H1 rfl ta119 hF hB u8 (by omega) (by omega) (by omega)))
theorem c_retire_removed_1_1 {r_retire_scanned:Plan→Int→Scan→T Int} (hF:kH F w0) (hj:n<j) (ih_retire_scanned:∀ m,m<n→Spec_retire_scanned r_retire_scanned m)
    (c0:Plan) {c0b:Nat} (c0F:F c0b) (c0h:w0.heap[c0b]?=some (.cells ((planC c0)).toArray 23 (0,0))) (c1:Int) {c1b:Nat} (c1F:F c1b) (c1h:w0.heap[c1b]?=some (.cells ([(.int .i64 c1)]).toArray 3 (0,0))) (c2:Int) {c2b:Nat} (c2F:F c2b) (c2h:w0.heap[c2b]?=some (.cells ([(.int .i64 c2)]).toArray 3 (0,0))) (c3:Scan) {c3b:Nat} (c3F:F c3b) (c3h:w0.heap[c3b]?=some (.cells ((scanC c3)).toArray 293 (0,0))) (c4:Int) {c4b:Nat} (c4F:F c4b) (c4h:w0.heap[c4b]?=some (.cells ([(.int .i64 c4)]).toArray 3 (0,0))) :
    Calls Tryz.prog 382 #[zp c0b,zp c1b,zp c2b,zp c3b,zp c4b] w0 (RepRes Tryz.prog encInt n (D.retire_removed_1_1 j r_retire_scanned c0 c1 c2 c3 c4) F w0):=by
 refine kN Tryz.func382 rfl 11 rfl rfl fun fr r hB=>?_;have lc0b:=lt_of_block c0h
 have lc1b:=lt_of_block c1h;have lc2b:=lt_of_block c2h;have lc3b:=lt_of_block c3h;have lc4b:=lt_of_block c4h;refine wsr ?_;refine seq_new (.cells (kq encInt) 119 (0,0)) r (fun R=>y_alloc tz119) rfl fun fr b1 w2 n3 r=>?_;obtain ⟨E1,Z2,H1,hB,zB⟩:=n3.all hB
 refine wn (wsr (kG (planC c0) 6 r rfl (keep hB c0h) ta23 rfl rfl fun r=>kL (I c1) r rfl (keep hB c1h) to3 rfl rfl fun r=>?_));have hF1:=fgrow hF hB b1
 refine kD r (c_retire_Reclaim (j:=j) (F:=(kW F w0 w2 b1)) (n:=n) hF1 (by omega) c0 c1) rfl cl240 rfl fun w4 v5 hb hr6 r=>?_;have Z4:=hb.size
 have H1:=keep hb H1;obtain ⟨hB,zB⟩:=bon hb hB;refine seq_val (.func (.func 383) #[] #[zp c0b,zp c2b,zp c3b,zp c4b]) r (fun R=>y_makeFunc r rfl) rfl fun fr r=>?_;have hF1:=fgrow hF hB b1
 have f7:((kW F w0 w4 b1)) c0b:=(.inl c0F);have f8:((kW F w0 w4 b1)) c2b:=(.inl c2F);have f9:((kW F w0 w4 b1)) c3b:=(.inl c3F);have f10:((kW F w0 w4 b1)) c4b:=(.inl c4F);refine kD r (c_prog_Then_int_int_lt (F:=(kW F w0 w4 b1)) (n:=n) hF1 (Rep.mono (by rintro b (h | h); (rcases h with h | ⟨h1,h2,h3⟩; exact .inl h; exact .inr ⟨h1,by omega,h3⟩); exact .inr ⟨by omega,by omega,by omega⟩) (Same.refl _ _) (by omega) n _ _ hr6) ⟨383,[],[zp c0b,zp c2b,zp c3b,zp c4b],cl383,rfl,fun m hm x w' hs hz=>c_retire_removed_1_1_1 (j:=j) (fun b hb=>Nat.lt_of_lt_of_le (hF1 b hb) hz) (by omega) (fun m' hm'=>ih_retire_scanned m' (by omega)) c0 f7 (hs.at_ f7 (keep hB c0h)) c2 f8 (hs.at_ f8 (keep hB c2h)) c3 f9 (hs.at_ f9 (keep hB c3h)) c4 f10 (hs.at_ f10 (keep hB c4h)) x⟩ (by first | rfl | (cases j with | zero=>omega | succ q=>rfl))) rfl cl223 rfl fun w11 v12 hb hr13 r=>?_
 have Z11:=hb.size;have H1:=keep hb H1;obtain ⟨hB,zB⟩:=bon hb hB;refine kP r hr13.shape rfl rfl H1 ts119 rfl rfl fun w14 u15 r=>?_;have Z14:=u15.size
 have H1:=u15.at_;obtain ⟨hB,zB⟩:=u15.on hB (by omega)
 exact wn (wp_ret (kR r hr13 rfl rfl H1 rfl ta119 hF hB u15 (by omega) (by omega) (by omega)))
theorem c_retire_removed_1 {r_retire_scanned:Plan→Int→Scan→T Int} (hF:kH F w0) (hj:n<j) (ih_retire_scanned:∀ m,m<n→Spec_retire_scanned r_retire_scanned m)
    (c0:Plan) {c0b:Nat} (c0F:F c0b) (c0h:w0.heap[c0b]?=some (.cells ((planC c0)).toArray 23 (0,0))) (c1:Int) {c1b:Nat} (c1F:F c1b) (c1h:w0.heap[c1b]?=some (.cells ([(.int .i64 c1)]).toArray 3 (0,0))) (c2:Int) {c2b:Nat} (c2F:F c2b) (c2h:w0.heap[c2b]?=some (.cells ([(.int .i64 c2)]).toArray 3 (0,0))) (c3:Int) {c3b:Nat} (c3F:F c3b) (c3h:w0.heap[c3b]?=some (.cells ([(.int .i64 c3)]).toArray 3 (0,0))) (c4:Scan) {c4b:Nat} (c4F:F c4b) (c4h:w0.heap[c4b]?=some (.cells ((scanC c4)).toArray 293 (0,0))) :
    Calls Tryz.prog 381 #[zp c0b,zp c1b,zp c2b,zp c3b,zp c4b] w0 (RepRes Tryz.prog encInt n (D.retire_removed_1 j r_retire_scanned c0 c1 c2 c3 c4) F w0):=by
 refine kN Tryz.func381 rfl 13 rfl rfl fun fr r hB=>?_;have lc0b:=lt_of_block c0h
 have lc1b:=lt_of_block c1h;have lc2b:=lt_of_block c2h;have lc3b:=lt_of_block c3h;have lc4b:=lt_of_block c4h;refine wsr ?_;refine seq_new (.cells (kq encInt) 119 (0,0)) r (fun R=>y_alloc tz119) rfl fun fr b1 w2 n3 r=>?_;obtain ⟨E1,Z2,H1,hB,zB⟩:=n3.all hB
 refine wn (wp_seq ?_);refine wp_drawnF 6 [.val (.agg (planC c0).toArray),.val (I c1),.val (I (D.plan_Plan_Count c0 c1)),.val (I c2),.val (U (V c2)),.val (.func (.func 382) #[] #[zp c0b,zp c3b,zp c1b,zp c4b,zp c2b])] mixed r (by kernel_rfl) (kV (kV (kV (kV (kV (kV within_nil)))))) ?_ ?_
 ·
  refine ec r (fun _ u _ b d s=>y_load_agg s (cs:=(planC c0)) (n:=6) rfl (keep2 hB b c0h) ta23 rfl bz) (ec r (fun _ u _ b d s=>y_load_one s rfl (keep2 hB b c1h) to3 rfl bz) (ec r (fun fr1 u w' hb' hd r'=>y_call r' (args:=[(.agg (planC c0).toArray),(I c1)]) (lc hd.1 (lc hd.2.1 l0)) cl194 ((c_plan_Plan_Count _ c0 c1).mono (by rintro _ w2 ⟨rfl,hb2⟩; exact ⟨_,rfl,hb2,rfl⟩))) (ec r (fun _ u _ b d s=>y_load_one s rfl (keep2 hB b c2h) to3 rfl bz) (ec r (fun _ u _ b d s=>y_convert s (n:=c2) d.1 ti3 ti34 bz) (ec r (fun _ u _ b d s=>y_makeFunc s (v:=(.func (.func 382) #[] #[zp c0b,zp c3b,zp c1b,zp c4b,zp c2b])) rfl bz) ?_)))));exact each_nil
 intro fr u w4 hb hΦ hne r;have r:=r.congr (sc (hΦ 5 (by decide)) (sc (hΦ 4 (by decide)) (sc (hΦ 3 (by decide)) (sc (hΦ 2 (by decide)) (sc (hΦ 1 (by decide)) (sc (hΦ 0 (by decide)) rfl))))));have Z4:=hb.size;have H1:=keep hb H1;obtain ⟨hB,zB⟩:=bon hb hB;have hF1:=fgrow hF hB b1;have f5:((kW F w0 w4 b1)) c0b:=(.inl c0F);have f6:((kW F w0 w4 b1)) c3b:=(.inl c3F);have f7:((kW F w0 w4 b1)) c1b:=(.inl c1F);have f8:((kW F w0 w4 b1)) c4b:=(.inl c4F);have f9:((kW F w0 w4 b1)) c2b:=(.inl c2F);refine kD r (c_prog_Store_int (F:=(kW F w0 w4 b1)) (n:=n) hF1 (D.plan_Plan_Count c0 c1) (V c2) ⟨382,[],[zp c0b,zp c3b,zp c1b,zp c4b,zp c2b],cl382,rfl,fun m hm _ w' hs hz=>c_retire_removed_1_1 (j:=j) (fun b hb=>Nat.lt_of_lt_of_le (hF1 b hb) hz) (by omega) (fun m' hm'=>ih_retire_scanned m' (by omega)) c0 f5 (hs.at_ f5 (keep hB c0h)) c3 f6 (hs.at_ f6 (keep hB c3h)) c1 f7 (hs.at_ f7 (keep hB c1h)) c4 f8 (hs.at_ f8 (keep hB c4h)) c2 f9 (hs.at_ f9 (keep hB c2h))⟩) rfl cl188 rfl fun w10 v11 hb hr12 r=>?_;have Z10:=hb.size
 have H1:=keep hb H1;obtain ⟨hB,zB⟩:=bon hb hB;refine kP r hr12.shape rfl rfl H1 ts119 rfl rfl fun w13 u14 r=>?_;have Z13:=u14.size
 have H1:=u14.at_;obtain ⟨hB,zB⟩:=u14.on hB (by omega)
 exact wn (wp_ret (kR r hr12 rfl rfl H1 rfl ta119 hF hB u14 (by omega) (by omega) (by omega)))
theorem c_retire_removed {r_retire_scanned:Plan→Int→Scan→T Int} (hF:kH F w0) (hj:n<j) (ih_retire_scanned:∀ m,m<n→Spec_retire_scanned r_retire_scanned m)
    (a0:Plan) (a1:Int) (a2:Scan) (a3:Int) :
    Calls Tryz.prog 351 #[.agg (planC a0).toArray,.int .i64 a1,.agg (scanC a2).toArray,.int .i64 a3] w0 (RepRes Tryz.prog encInt n (D.retire_removed j r_retire_scanned a0 a1 a2 a3) F w0):=by
 refine kN Tryz.func351 rfl 27 rfl rfl fun fr r hB=>?_;refine wsr ?_
 refine kX 23 (.agg (planC a0).toArray) r rfl rfl fun b1 w2 n3 r=>?_;obtain ⟨E1,Z2,H1,hB,zB⟩:=n3.all hB
 refine kX 3 (I a1) r rfl rfl fun b4 w5 n6 r=>?_;have H1:=keep n6.below H1
 obtain ⟨E4,Z5,H4,hB,zB⟩:=n6.all hB;refine kX 293 (.agg (scanC a2).toArray) r rfl rfl fun b7 w8 n9 r=>?_;have H1:=keep n9.below H1
 have H4:=keep n9.below H4;obtain ⟨E7,Z8,H7,hB,zB⟩:=n9.all hB;refine kX 3 (I a3) r rfl rfl fun b10 w11 n12 r=>?_;have H1:=keep n12.below H1
 have H4:=keep n12.below H4;have H7:=keep n12.below H7;obtain ⟨E10,Z11,H10,hB,zB⟩:=n12.all hB;refine seq_new (.cells (kq encInt) 119 (0,0)) r (fun R=>y_alloc tz119) rfl fun fr b13 w14 n15 r=>?_;have H1:=keep n15.below H1
 have H4:=keep n15.below H4;have H7:=keep n15.below H7;have H10:=keep n15.below H10;obtain ⟨E13,Z14,H13,hB,zB⟩:=n15.all hB;refine wn (wsr (kF 0 r rfl fo293_1 rfl fun r=>kL (I a2.left) r rfl H7 to3 rfl rfl fun r=>kB r rfl rfl rfl rfl rfl fun r=>?_));refine seq_new (.cells #[(I 0)] 3 (0,0)) r (fun R=>y_alloc tz3) rfl fun fr b16 w17 n18 r=>?_
 have H1:=keep n18.below H1;have H4:=keep n18.below H4;have H7:=keep n18.below H7;have H10:=keep n18.below H10;have H13:=keep n18.below H13;obtain ⟨E16,Z17,H16,hB,zB⟩:=n18.all hB;refine seq_upd (.cells #[(I (W (a2.left - 1)))] 3 (0,0)) r (fun R=>y_store r (o:=0) (v:=(I (W (a2.left - 1)))) rfl rfl H16 ts3 (Nat.le_of_ble_eq_true rfl) rfl rfl) rfl fun fr w19 u20 r=>?_;have Z19:=u20.size
 have H1:=u20.keep H1 (by omega)
 have H4:=u20.keep H4 (by omega)
 have H7:=u20.keep H7 (by omega)
 have H10:=u20.keep H10 (by omega)
 have H13:=u20.keep H13 (by omega)
 have H16:=u20.at_;obtain ⟨hB,zB⟩:=u20.on hB (by omega)
 refine wn (wsr (seq_val (.func (.func 381) #[] #[zp b1,zp b4,zp b16,zp b10,zp b7]) r (fun R=>y_makeFunc r rfl) rfl fun fr r=>?_));refine seq_new (.cells #[.nilFunc] 239 (0,0)) r (fun R=>y_alloc tz239) rfl fun fr b21 w22 n23 r=>?_
 have H1:=keep n23.below H1;have H4:=keep n23.below H4;have H7:=keep n23.below H7;have H10:=keep n23.below H10;have H13:=keep n23.below H13;have H16:=keep n23.below H16;obtain ⟨E21,Z22,H21,hB,zB⟩:=n23.all hB;refine seq_upd (.cells #[.func (.func 381) #[] #[zp b1,zp b4,zp b16,zp b10,zp b7]] 239 (0,0)) r (fun R=>y_store r (o:=0) (v:=(.func (.func 381) #[] #[zp b1,zp b4,zp b16,zp b10,zp b7])) rfl rfl H21 ts239 (Nat.le_of_ble_eq_true rfl) rfl rfl) rfl fun fr w24 u25 r=>?_;have Z24:=u25.size
 have H1:=u25.keep H1 (by omega)
 have H4:=u25.keep H4 (by omega)
 have H7:=u25.keep H7 (by omega)
 have H10:=u25.keep H10 (by omega)
 have H13:=u25.keep H13 (by omega)
 have H16:=u25.keep H16 (by omega)
 have H21:=u25.at_;obtain ⟨hB,zB⟩:=u25.on hB (by omega)
 refine wn (wp_seq (wsr (kF 0 r rfl fo293_0 rfl fun r=>kL (I a2.at_) r rfl H7 to3 rfl rfl fun r=>kL (I (W (a2.left - 1))) r rfl H16 to3 rfl rfl fun r=>kB r rfl rfl rfl rfl rfl fun r=>wn ?_)));refine wp_cond_split (t:=(a2.at_==(W (a2.left - 1)))) (r.ev rfl) (fun h26=>?_) (fun h26=>?_)
 ·
  refine wsr (kL (.func (.func 381) #[] #[zp b1,zp b4,zp b16,zp b10,zp b7]) r rfl H21 to239 rfl rfl fun r=>?_);have hF1:=fgrow hF hB b13
  have f27:((kW F w0 w24 b13)) b1:=(.inr ⟨by omega,by omega,by omega⟩)
  have f28:((kW F w0 w24 b13)) b4:=(.inr ⟨by omega,by omega,by omega⟩)
  have f29:((kW F w0 w24 b13)) b16:=(.inr ⟨by omega,by omega,by omega⟩)
  have f30:((kW F w0 w24 b13)) b10:=(.inr ⟨by omega,by omega,by omega⟩)
  have f31:((kW F w0 w24 b13)) b7:=(.inr ⟨by omega,by omega,by omega⟩)
  have q32:FnT Tryz.prog encInt unitE (n+1) (kW F w0 w24 b13) w24 (.func (.func 381) #[] #[zp b1,zp b4,zp b16,zp b10,zp b7]) (fun _=>(D.retire_removed_1 j r_retire_scanned a0 a1 (W (a2.left - 1)) a3 a2)):=⟨381,[],[zp b1,zp b4,zp b16,zp b10,zp b7],cl381,rfl,fun m hm _ w' hs hz=>c_retire_removed_1 (j:=j) (fun b hb=>Nat.lt_of_lt_of_le (hF1 b hb) hz) (by omega) (fun m' hm'=>ih_retire_scanned m' (by omega)) a0 f27 (hs.at_ f27 H1) a1 f28 (hs.at_ f28 H4) (W (a2.left - 1)) f29 (hs.at_ f29 H16) a3 f30 (hs.at_ f30 H10) a2 f31 (hs.at_ f31 H7)⟩
  refine seq_call r (q32.at_.2 n (Nat.lt_succ_self n) () w24 (Same.refl _ _) (Nat.le_refl _)) (fun R hc=>y_callv0 r rfl q32.at_.1 hc) rfl ?_;rintro _ w33 ⟨v34,rfl,hb,hr35⟩
  refine ⟨_,rfl,fun fr r=>?_⟩
  have Z33:=hb.size;have H1:=keep hb H1;have H4:=keep hb H4;have H7:=keep hb H7;have H10:=keep hb H10;have H13:=keep hb H13;have H16:=keep hb H16;have H21:=keep hb H21;obtain ⟨hB,zB⟩:=bon hb hB;refine kP r hr35.shape rfl rfl H13 ts119 rfl rfl fun w36 u37 r=>?_;have Z36:=u37.size
  have H1:=u37.keep H1 (by omega)
  have H4:=u37.keep H4 (by omega)
  have H7:=u37.keep H7 (by omega)
  have H10:=u37.keep H10 (by omega)
  have H16:=u37.keep H16 (by omega)
  have H21:=u37.keep H21 (by omega)
  have H13:=u37.at_;obtain ⟨hB,zB⟩:=u37.on hB (by omega)
  refine wn (wp_ret ?_);have hd:D.retire_removed j r_retire_scanned a0 a1 a2 a3=((fun _=>(D.retire_removed_1 j r_retire_scanned a0 a1 (W (a2.left - 1)) a3 a2)) ()):=(cond_t h26).trans (rfl)
  have hs:=hr35.shape.cells;refine ret_cell r rfl rfl H13 (k:=7) hs.1 ta119 ?_;rw [←hs.2.2,hd];exact rfin hF hB hr35 u37 (by omega) (by omega) (by omega)
 refine wp_skip (wsr (kG (planC a0) 6 r rfl H1 ta23 rfl rfl fun r=>kL (I a1) r rfl H4 to3 rfl rfl fun r=>kL (I (W (a2.left - 1))) r rfl H16 to3 rfl rfl fun r=>?_));refine kE r (c_plan_Plan_Retired w24 a0 a1 (W (a2.left - 1))) rfl cl195 rfl fun w38 hb r=>?_
 have Z38:=hb.size;have H1:=keep hb H1;have H4:=keep hb H4;have H7:=keep hb H7;have H10:=keep hb H10;have H13:=keep hb H13;have H16:=keep hb H16;have H21:=keep hb H21;obtain ⟨hB,zB⟩:=bon hb hB;refine seq_val (.func (.func 384) #[] #[zp b1,zp b4,zp b7,zp b21]) r (fun R=>y_makeFunc r rfl) rfl fun fr r=>?_;have hF1:=fgrow hF hB b13
 have f39:((kW F w0 w38 b13)) b1:=(.inr ⟨by omega,by omega,by omega⟩)
 have f40:((kW F w0 w38 b13)) b4:=(.inr ⟨by omega,by omega,by omega⟩)
 have f41:((kW F w0 w38 b13)) b7:=(.inr ⟨by omega,by omega,by omega⟩)
 have f42:((kW F w0 w38 b13)) b21:=(.inr ⟨by omega,by omega,by omega⟩)
 have f44:((kW F w0 w38 b13)) b1:=(.inr ⟨by omega,by omega,by omega⟩)
 have f45:((kW F w0 w38 b13)) b4:=(.inr ⟨by omega,by omega,by omega⟩)
 have f46:((kW F w0 w38 b13)) b16:=(.inr ⟨by omega,by omega,by omega⟩)
 have f47:((kW F w0 w38 b13)) b10:=(.inr ⟨by omega,by omega,by omega⟩)
 have f48:((kW F w0 w38 b13)) b7:=(.inr ⟨by omega,by omega,by omega⟩)
 have q43:FnT Tryz.prog encInt unitE (n) (kW F w0 w38 b13) w38 (.func (.func 381) #[] #[zp b1,zp b4,zp b16,zp b10,zp b7]) (fun _=>(D.retire_removed_1 j r_retire_scanned a0 a1 (W (a2.left - 1)) a3 a2)):=⟨381,[],[zp b1,zp b4,zp b16,zp b10,zp b7],cl381,rfl,fun m hm _ w' hs hz=>c_retire_removed_1 (j:=j) (fun b hb=>Nat.lt_of_lt_of_le (hF1 b hb) hz) (by omega) (fun m' hm'=>ih_retire_scanned m' (by omega)) a0 f44 (hs.at_ f44 H1) a1 f45 (hs.at_ f45 H4) (W (a2.left - 1)) f46 (hs.at_ f46 H16) a3 f47 (hs.at_ f47 H10) a2 f48 (hs.at_ f48 H7)⟩
 refine kD r (c_prog_Load_int (F:=(kW F w0 w38 b13)) (n:=n) hF1 (D.plan_Plan_Retired a0 a1 (W (a2.left - 1))) ⟨384,[],[zp b1,zp b4,zp b7,zp b21],cl384,rfl,fun m hm x w' hs hz=>c_retire_removed_2 (fun b hb=>Nat.lt_of_lt_of_le (hF1 b hb) hz) a0 f39 (hs.at_ f39 H1) a1 f40 (hs.at_ f40 H4) a2 f41 (hs.at_ f41 H7) f42 (hs.at_ f42 H21) (q43.mono (by omega) (fun b h=>h) hs hz) x⟩) rfl cl186 rfl fun w49 v50 hb hr51 r=>?_;have Z49:=hb.size
 have H1:=keep hb H1;have H4:=keep hb H4;have H7:=keep hb H7;have H10:=keep hb H10;have H13:=keep hb H13;have H16:=keep hb H16;have H21:=keep hb H21;obtain ⟨hB,zB⟩:=bon hb hB;refine kP r hr51.shape rfl rfl H13 ts119 rfl rfl fun w52 u53 r=>?_;have Z52:=u53.size
 have H1:=u53.keep H1 (by omega)
 have H4:=u53.keep H4 (by omega)
 have H7:=u53.keep H7 (by omega)
 have H10:=u53.keep H10 (by omega)
 have H16:=u53.keep H16 (by omega)
 have H21:=u53.keep H21 (by omega)
 have H13:=u53.at_;obtain ⟨hB,zB⟩:=u53.on hB (by omega)
 refine wn (wp_ret ?_);have hd:D.retire_removed j r_retire_scanned a0 a1 a2 a3=(D.prog_Load_int (D.plan_Plan_Retired a0 a1 (W (a2.left - 1))) (fun x=>(D.retire_removed_2 a0 a1 a2 (fun _=>(D.retire_removed_1 j r_retire_scanned a0 a1 (W (a2.left - 1)) a3 a2)) x))):=(cond_f h26).trans (rfl)
 have hs:=hr51.shape.cells;refine ret_cell r rfl rfl H13 (k:=7) hs.1 ta119 ?_;rw [←hs.2.2,hd];exact rfin hF hB hr51 u53 (by omega) (by omega) (by omega)
theorem c_retire_scanned_1_1 {r_retire_scanned:Plan→Int→Scan→T Int} (hF:kH F w0) (hj:n<j) (ih_retire_scanned:∀ m,m≤n→Spec_retire_scanned r_retire_scanned m)
    (c0:Plan) {c0b:Nat} (c0F:F c0b) (c0h:w0.heap[c0b]?=some (.cells ((planC c0)).toArray 23 (0,0))) (c1:Int) {c1b:Nat} (c1F:F c1b) (c1h:w0.heap[c1b]?=some (.cells ([(.int .i64 c1)]).toArray 3 (0,0))) (c2:Scan) {c2b:Nat} (c2F:F c2b) (c2h:w0.heap[c2b]?=some (.cells ((scanC c2)).toArray 293 (0,0))) (c3:Scan) {c3b:Nat} (c3F:F c3b) (c3h:w0.heap[c3b]?=some (.cells ((scanC c3)).toArray 293 (0,0))) (c4:Int) {c4b:Nat} (c4F:F c4b) (c4h:w0.heap[c4b]?=some (.cells ([(.int .u64 c4)]).toArray 34 (0,0))) (a0:Bool) :
    Calls Tryz.prog 350 #[.bool a0,zp c0b,zp c1b,zp c2b,zp c3b,zp c4b] w0 (RepRes Tryz.prog encInt n (D.retire_scanned_1_1 j r_retire_scanned c0 c1 c2 c3 c4 a0) F w0):=by
 refine kN Tryz.func350 rfl 20 rfl rfl fun fr r hB=>?_;have lc0b:=lt_of_block c0h
 have lc1b:=lt_of_block c1h;have lc2b:=lt_of_block c2h;have lc3b:=lt_of_block c3h;have lc4b:=lt_of_block c4h;refine wsr ?_;refine seq_new (.cells (kq encInt) 119 (0,0)) r (fun R=>y_alloc tz119) rfl fun fr b1 w2 n3 r=>?_;obtain ⟨E1,Z2,H1,hB,zB⟩:=n3.all hB
 refine wn (wp_seq (wsr (kM (.bool a0) r rfl rfl fun r=>wn ?_)));refine wp_cond_split (t:=a0) (r.ev rfl) (fun h4=>?_) (fun h4=>?_)
 ·
  refine wsr (kG (planC c0) 6 r rfl (keep hB c0h) ta23 rfl rfl fun r=>kL (I c1) r rfl (keep hB c1h) to3 rfl rfl fun r=>kG (scanC c2) 3 r rfl (keep hB c2h) ta293 rfl rfl fun r=>?_);have hF1:=fgrow hF hB b1
  refine kD r ((ih_retire_scanned n (by omega)) (kW F w0 w2 b1) _ hF1 c0 c1 c2) rfl cl282 rfl fun w5 v6 hb hr7 r=>?_;have Z5:=hb.size
  have H1:=keep hb H1;obtain ⟨hB,zB⟩:=bon hb hB;refine kP r hr7.shape rfl rfl H1 ts119 rfl rfl fun w8 u9 r=>?_;have Z8:=u9.size
  have H1:=u9.at_;obtain ⟨hB,zB⟩:=u9.on hB (by omega)
  refine wn (wp_ret ?_);have hd:D.retire_scanned_1_1 j r_retire_scanned c0 c1 c2 c3 c4 a0=(r_retire_scanned c0 c1 c2):=(cond_t h4).trans (rfl);have hs:=hr7.shape.cells;refine ret_cell r rfl rfl H1 (k:=7) hs.1 ta119 ?_;rw [←hs.2.2,hd];exact rfin hF hB hr7 u9 (by omega) (by omega) (by omega)
 refine wp_skip (wsr (kG (planC c0) 6 r rfl (keep hB c0h) ta23 rfl rfl fun r=>kL (I c1) r rfl (keep hB c1h) to3 rfl rfl fun r=>kG (scanC c3) 3 r rfl (keep hB c3h) ta293 rfl rfl fun r=>kL (U c4) r rfl (keep hB c4h) to34 rfl rfl fun r=>seq_val (I (W c4)) r (fun R=>y_convert r rfl ti34 ti3) rfl fun fr r=>kB r rfl rfl rfl rfl rfl fun r=>?_));have hF1:=fgrow hF hB b1
 refine kD r (c_retire_removed (j:=j) (F:=(kW F w0 w2 b1)) (n:=n) hF1 (by omega) (fun m' hm'=>ih_retire_scanned m' (by omega)) c0 c1 c3 (W ((W c4) - 1))) rfl cl351 rfl fun w10 v11 hb hr12 r=>?_;have Z10:=hb.size
 have H1:=keep hb H1;obtain ⟨hB,zB⟩:=bon hb hB;refine kP r hr12.shape rfl rfl H1 ts119 rfl rfl fun w13 u14 r=>?_;have Z13:=u14.size
 have H1:=u14.at_;obtain ⟨hB,zB⟩:=u14.on hB (by omega)
 refine wn (wp_ret ?_);have hd:D.retire_scanned_1_1 j r_retire_scanned c0 c1 c2 c3 c4 a0=(D.retire_removed j r_retire_scanned c0 c1 c3 (W ((W c4) - 1))):=(cond_f h4).trans (rfl);have hs:=hr12.shape.cells;refine ret_cell r rfl rfl H1 (k:=7) hs.1 ta119 ?_;rw [←hs.2.2,hd];exact rfin hF hB hr12 u14 (by omega) (by omega) (by omega)
theorem c_retire_scanned_1 {r_retire_scanned:Plan→Int→Scan→T Int} (hF:kH F w0) (hj:n<j) (ih_retire_scanned:∀ m,m≤n→Spec_retire_scanned r_retire_scanned m)
    (c0:Plan) {c0b:Nat} (c0F:F c0b) (c0h:w0.heap[c0b]?=some (.cells ((planC c0)).toArray 23 (0,0))) (c1:Int) {c1b:Nat} (c1F:F c1b) (c1h:w0.heap[c1b]?=some (.cells ([(.int .i64 c1)]).toArray 3 (0,0))) (c2:Scan) {c2b:Nat} (c2F:F c2b) (c2h:w0.heap[c2b]?=some (.cells ((scanC c2)).toArray 293 (0,0))) (c3:Scan) {c3b:Nat} (c3F:F c3b) (c3h:w0.heap[c3b]?=some (.cells ((scanC c3)).toArray 293 (0,0))) (a0:Int) :
    Calls Tryz.prog 347 #[.int .u64 a0,zp c0b,zp c1b,zp c2b,zp c3b] w0 (RepRes Tryz.prog encInt n (D.retire_scanned_1 j r_retire_scanned c0 c1 c2 c3 a0) F w0):=by
 refine kN Tryz.func347 rfl 27 rfl rfl fun fr r hB=>?_;have lc0b:=lt_of_block c0h
 have lc1b:=lt_of_block c1h;have lc2b:=lt_of_block c2h;have lc3b:=lt_of_block c3h;refine wsr ?_;refine kX 34 (U a0) r rfl rfl fun b1 w2 n3 r=>?_;obtain ⟨E1,Z2,H1,hB,zB⟩:=n3.all hB
 refine seq_new (.cells (kq encInt) 119 (0,0)) r (fun R=>y_alloc tz119) rfl fun fr b4 w5 n6 r=>?_;have H1:=keep n6.below H1
 obtain ⟨E4,Z5,H4,hB,zB⟩:=n6.all hB;refine wn (wp_seq (wsr (kL (U a0) r rfl H1 to34 rfl rfl fun r=>kB r rfl rfl rfl rfl rfl fun r=>kM (.bool (decide (a0<1))) r rfl rfl fun r=>?_)));refine seq_split (decide (a0<1)) (fun h7=>?_) (fun h7=>?_)
 ·
  refine s0 r h7 fun fr r=>s0 r h7 fun fr r=>s0 r h7 fun fr r=>s0 r h7 fun fr r=>s0 r h7 fun fr r=>seq_val (.bool true) r (fun R=>y_pick r (b:=true) (kb h7) rfl) rfl fun fr r=>wn ?_;refine wp_cond_split (t:=true) (r.ev rfl) (fun _=>?_) (fun h=>absurd ((rfl:true=_).symm.trans h) (by decide))
  refine wsr (kG (planC c0) 6 r rfl (keep hB c0h) ta23 rfl rfl fun r=>kL (I c1) r rfl (keep hB c1h) to3 rfl rfl fun r=>kG (scanC c2) 3 r rfl (keep hB c2h) ta293 rfl rfl fun r=>?_);have hF1:=fgrow hF hB b4
  refine kD r ((ih_retire_scanned n (by omega)) (kW F w0 w5 b4) _ hF1 c0 c1 c2) rfl cl282 rfl fun w8 v9 hb hr10 r=>?_;have Z8:=hb.size
  have H1:=keep hb H1;have H4:=keep hb H4;obtain ⟨hB,zB⟩:=bon hb hB;refine kP r hr10.shape rfl rfl H4 ts119 rfl rfl fun w11 u12 r=>?_;have Z11:=u12.size
  have H1:=u12.keep H1 (by omega)
  have H4:=u12.at_;obtain ⟨hB,zB⟩:=u12.on hB (by omega)
  refine wn (wp_ret ?_);have hd:D.retire_scanned_1 j r_retire_scanned c0 c1 c2 c3 a0=(r_retire_scanned c0 c1 c2):=(cond_t h7).trans (rfl);have hs:=hr10.shape.cells;refine ret_cell r rfl rfl H4 (k:=7) hs.1 ta119 ?_;rw [←hs.2.2,hd];exact rfin hF hB hr10 u12 (by omega) (by omega) (by omega)
 refine s1 r h7 (kL (U a0) r rfl H1 to34 rfl rfl fun r=>s1 r h7 (kF 0 r rfl fo23_0 rfl fun r=>s1 r h7 (kL (I c0.nodes) r rfl (keep hB c0h) to3 rfl rfl fun r=>s1 r h7 (seq_val (U (V c0.nodes)) r (fun R=>y_convert r rfl ti3 ti34) rfl fun fr r=>s1 r h7 (kB r rfl rfl rfl rfl rfl fun r=>seq_val (.bool (decide (a0 > (V c0.nodes)))) r (fun R=>y_pick r (b:=false) (kb h7) rfl) rfl fun fr r=>wn ?_)))));refine wp_cond_split (t:=(decide (a0 > (V c0.nodes)))) (r.ev rfl) (fun h13=>?_) (fun h13=>?_)
 ·
  refine wsr (kG (planC c0) 6 r rfl (keep hB c0h) ta23 rfl rfl fun r=>kL (I c1) r rfl (keep hB c1h) to3 rfl rfl fun r=>kG (scanC c2) 3 r rfl (keep hB c2h) ta293 rfl rfl fun r=>?_);have hF1:=fgrow hF hB b4
  refine kD r ((ih_retire_scanned n (by omega)) (kW F w0 w5 b4) _ hF1 c0 c1 c2) rfl cl282 rfl fun w14 v15 hb hr16 r=>?_;have Z14:=hb.size
  have H1:=keep hb H1;have H4:=keep hb H4;obtain ⟨hB,zB⟩:=bon hb hB;refine kP r hr16.shape rfl rfl H4 ts119 rfl rfl fun w17 u18 r=>?_;have Z17:=u18.size
  have H1:=u18.keep H1 (by omega)
  have H4:=u18.at_;obtain ⟨hB,zB⟩:=u18.on hB (by omega)
  refine wn (wp_ret ?_);have hd:D.retire_scanned_1 j r_retire_scanned c0 c1 c2 c3 a0=(r_retire_scanned c0 c1 c2):=(cond_f h7).trans ((cond_t h13).trans (rfl));have hs:=hr16.shape.cells;refine ret_cell r rfl rfl H4 (k:=7) hs.1 ta119 ?_;rw [←hs.2.2,hd];exact rfin hF hB hr16 u18 (by omega) (by omega) (by omega)
 refine wp_skip (wsr (kG (planC c0) 6 r rfl (keep hB c0h) ta23 rfl rfl fun r=>kL (U a0) r rfl H1 to34 rfl rfl fun r=>seq_val (I (W a0)) r (fun R=>y_convert r rfl ti34 ti3) rfl fun fr r=>kB r rfl rfl rfl rfl rfl fun r=>?_));have hF1:=fgrow hF hB b4
 refine kD r (c_hazard_Held (j:=j) (F:=(kW F w0 w5 b4)) (n:=n) hF1 (by omega) c0 (W ((W a0) - 1))) rfl cl349 rfl fun w19 v20 hb hr21 r=>?_;have Z19:=hb.size
 have H1:=keep hb H1;have H4:=keep hb H4;obtain ⟨hB,zB⟩:=bon hb hB;refine seq_val (.func (.func 350) #[] #[zp c0b,zp c1b,zp c2b,zp c3b,zp b1]) r (fun R=>y_makeFunc r rfl) rfl fun fr r=>?_;have hF1:=fgrow hF hB b4
 have f22:((kW F w0 w19 b4)) c0b:=(.inl c0F);have f23:((kW F w0 w19 b4)) c1b:=(.inl c1F);have f24:((kW F w0 w19 b4)) c2b:=(.inl c2F);have f25:((kW F w0 w19 b4)) c3b:=(.inl c3F);have f26:((kW F w0 w19 b4)) b1:=(.inr ⟨by omega,by omega,by omega⟩)
 refine kD r (c_prog_Then_bool_int_le (F:=(kW F w0 w19 b4)) (n:=n) hF1 (Rep.mono (by rintro b (h | h); (rcases h with h | ⟨h1,h2,h3⟩; exact .inl h; exact .inr ⟨h1,by omega,h3⟩); exact .inr ⟨by omega,by omega,by omega⟩) (Same.refl _ _) (by omega) n _ _ hr21) ⟨350,[],[zp c0b,zp c1b,zp c2b,zp c3b,zp b1],cl350,rfl,fun m hm x w' hs hz=>c_retire_scanned_1_1 (j:=j) (fun b hb=>Nat.lt_of_lt_of_le (hF1 b hb) hz) (by omega) (fun m' hm'=>ih_retire_scanned m' (by omega)) c0 f22 (hs.at_ f22 (keep hB c0h)) c1 f23 (hs.at_ f23 (keep hB c1h)) c2 f24 (hs.at_ f24 (keep hB c2h)) c3 f25 (hs.at_ f25 (keep hB c3h)) a0 f26 (hs.at_ f26 H1) x⟩) rfl cl348 rfl fun w27 v28 hb hr29 r=>?_
 have Z27:=hb.size;have H1:=keep hb H1;have H4:=keep hb H4;obtain ⟨hB,zB⟩:=bon hb hB;refine kP r hr29.shape rfl rfl H4 ts119 rfl rfl fun w30 u31 r=>?_;have Z30:=u31.size
 have H1:=u31.keep H1 (by omega)
 have H4:=u31.at_;obtain ⟨hB,zB⟩:=u31.on hB (by omega)
 refine wn (wp_ret ?_);have hd:D.retire_scanned_1 j r_retire_scanned c0 c1 c2 c3 a0=(T.bind (D.hazard_Held j c0 (W ((W a0) - 1))) (fun x=>(D.retire_scanned_1_1 j r_retire_scanned c0 c1 c2 c3 a0 x))):=(cond_f h7).trans ((cond_f h13).trans (rfl))
 have hs:=hr29.shape.cells;refine ret_cell r rfl rfl H4 (k:=7) hs.1 ta119 ?_;rw [←hs.2.2,hd];exact rfin hF hB hr29 u31 (by omega) (by omega) (by omega)
theorem b_retire_scanned {n:Nat} {F:Nat→Prop} {j:Nat} {r_retire_scanned:Plan→Int→Scan→T Int} {w0:World} (hF:∀ b,F b→b<w0.heap.size) (hj:n<j) (ih_retire_scanned:∀ m,m<n→Spec_retire_scanned r_retire_scanned m)
    (a0:Plan) (a1:Int) (a2:Scan) :
    Calls Tryz.prog 282 #[.agg (planC a0).toArray,.int .i64 a1,.agg (scanC a2).toArray] w0 (RepRes Tryz.prog encInt n (D.retire_scanned_body j r_retire_scanned a0 a1 a2) F w0):=by
 refine kN Tryz.func282 rfl 29 rfl rfl fun fr r hB=>?_;refine wsr ?_
 refine kX 23 (.agg (planC a0).toArray) r rfl rfl fun b1 w2 n3 r=>?_;obtain ⟨E1,Z2,H1,hB,zB⟩:=n3.all hB
 refine kX 3 (I a1) r rfl rfl fun b4 w5 n6 r=>?_;have H1:=keep n6.below H1
 obtain ⟨E4,Z5,H4,hB,zB⟩:=n6.all hB;refine kX 293 (.agg (scanC a2).toArray) r rfl rfl fun b7 w8 n9 r=>?_;have H1:=keep n9.below H1
 have H4:=keep n9.below H4;obtain ⟨E7,Z8,H7,hB,zB⟩:=n9.all hB;refine seq_new (.cells (kq encInt) 119 (0,0)) r (fun R=>y_alloc tz119) rfl fun fr b10 w11 n12 r=>?_;have H1:=keep n12.below H1
 have H4:=keep n12.below H4;have H7:=keep n12.below H7;obtain ⟨E10,Z11,H10,hB,zB⟩:=n12.all hB;refine wn (wp_seq (wsr (kF 0 r rfl fo293_0 rfl fun r=>kL (I a2.at_) r rfl H7 to3 rfl rfl fun r=>kB r rfl rfl rfl rfl rfl fun r=>wn ?_)));refine wp_cond_split (t:=(decide (a2.at_<0))) (r.ev rfl) (fun h13=>?_) (fun h13=>?_)
 ·
  refine wsr (kF 0 r rfl fo293_2 rfl fun r=>kL (I a2.done) r rfl H7 to3 rfl rfl fun r=>?_);have hF1:=fgrow hF hB b10
  refine kD r (c_prog_Done_int (F:=(kW F w0 w11 b10)) (n:=n) hF1 a2.done) rfl cl222 rfl fun w14 v15 hb hr16 r=>?_;have Z14:=hb.size
  have H1:=keep hb H1;have H4:=keep hb H4;have H7:=keep hb H7;have H10:=keep hb H10;obtain ⟨hB,zB⟩:=bon hb hB;refine kP r hr16.shape rfl rfl H10 ts119 rfl rfl fun w17 u18 r=>?_;have Z17:=u18.size
  have H1:=u18.keep H1 (by omega)
  have H4:=u18.keep H4 (by omega)
  have H7:=u18.keep H7 (by omega)
  have H10:=u18.at_;obtain ⟨hB,zB⟩:=u18.on hB (by omega)
  refine wn (wp_ret ?_);have hd:D.retire_scanned_body j r_retire_scanned a0 a1 a2=(D.prog_Done_int a2.done):=(cond_t h13).trans (rfl);have hs:=hr16.shape.cells;refine ret_cell r rfl rfl H10 (k:=7) hs.1 ta119 ?_;rw [←hs.2.2,hd];exact rfin hF hB hr16 u18 (by omega) (by omega) (by omega)
 refine wp_skip (wsr (kF 0 r rfl fo293_0 rfl fun r=>kL (I a2.at_) r rfl H7 to3 rfl rfl fun r=>kB r rfl rfl rfl rfl rfl fun r=>kF 0 r rfl fo293_1 rfl fun r=>kL (I a2.left) r rfl H7 to3 rfl rfl fun r=>kF 0 r rfl fo293_2 rfl fun r=>kL (I a2.done) r rfl H7 to3 rfl rfl fun r=>kU (.agg (scanC (⟨(W (a2.at_ - 1)),a2.left,a2.done⟩:Scan)).toArray) r (by kernel_rfl) rfl fun r=>?_));refine seq_new (.cells ((scanC (⟨0,0,0⟩:Scan))).toArray 293 (0,0)) r (fun R=>y_alloc tz293) rfl fun fr b19 w20 n21 r=>?_
 have H1:=keep n21.below H1;have H4:=keep n21.below H4;have H7:=keep n21.below H7;have H10:=keep n21.below H10;obtain ⟨E19,Z20,H19,hB,zB⟩:=n21.all hB;refine seq_upd (.cells ((scanC (⟨(W (a2.at_ - 1)),a2.left,a2.done⟩:Scan))).toArray 293 (0,0)) r (fun R=>y_store r (o:=0) (v:=(.agg (scanC (⟨(W (a2.at_ - 1)),a2.left,a2.done⟩:Scan)).toArray)) rfl rfl H19 ts293 (Nat.le_of_ble_eq_true rfl) rfl rfl) rfl fun fr w22 u23 r=>?_;have Z22:=u23.size
 have H1:=u23.keep H1 (by omega)
 have H4:=u23.keep H4 (by omega)
 have H7:=u23.keep H7 (by omega)
 have H10:=u23.keep H10 (by omega)
 have H19:=u23.at_;obtain ⟨hB,zB⟩:=u23.on hB (by omega)
 refine wn (wsr (kG (planC a0) 6 r rfl H1 ta23 rfl rfl fun r=>kL (I a1) r rfl H4 to3 rfl rfl fun r=>kF 0 r rfl fo293_0 rfl fun r=>kL (I a2.at_) r rfl H7 to3 rfl rfl fun r=>?_));refine kE r (c_plan_Plan_Retired w22 a0 a1 a2.at_) rfl cl195 rfl fun w24 hb r=>?_
 have Z24:=hb.size;have H1:=keep hb H1;have H4:=keep hb H4;have H7:=keep hb H7;have H10:=keep hb H10;have H19:=keep hb H19;obtain ⟨hB,zB⟩:=bon hb hB;refine seq_val (.func (.func 347) #[] #[zp b1,zp b4,zp b19,zp b7]) r (fun R=>y_makeFunc r rfl) rfl fun fr r=>?_;have hF1:=fgrow hF hB b10
 have f25:((kW F w0 w24 b10)) b1:=(.inr ⟨by omega,by omega,by omega⟩)
 have f26:((kW F w0 w24 b10)) b4:=(.inr ⟨by omega,by omega,by omega⟩)
 have f27:((kW F w0 w24 b10)) b19:=(.inr ⟨by omega,by omega,by omega⟩)
 have f28:((kW F w0 w24 b10)) b7:=(.inr ⟨by omega,by omega,by omega⟩)
 refine kD r (c_prog_Load_int (F:=(kW F w0 w24 b10)) (n:=n) hF1 (D.plan_Plan_Retired a0 a1 a2.at_) ⟨347,[],[zp b1,zp b4,zp b19,zp b7],cl347,rfl,fun m hm x w' hs hz=>c_retire_scanned_1 (j:=j) (fun b hb=>Nat.lt_of_lt_of_le (hF1 b hb) hz) (by omega) (fun m' hm'=>ih_retire_scanned m' (by omega)) a0 f25 (hs.at_ f25 H1) a1 f26 (hs.at_ f26 H4) (⟨(W (a2.at_ - 1)),a2.left,a2.done⟩:Scan) f27 (hs.at_ f27 H19) a2 f28 (hs.at_ f28 H7) x⟩) rfl cl186 rfl fun w29 v30 hb hr31 r=>?_;have Z29:=hb.size
 have H1:=keep hb H1;have H4:=keep hb H4;have H7:=keep hb H7;have H10:=keep hb H10;have H19:=keep hb H19;obtain ⟨hB,zB⟩:=bon hb hB;refine kP r hr31.shape rfl rfl H10 ts119 rfl rfl fun w32 u33 r=>?_;have Z32:=u33.size
 have H1:=u33.keep H1 (by omega)
 have H4:=u33.keep H4 (by omega)
 have H7:=u33.keep H7 (by omega)
 have H19:=u33.keep H19 (by omega)
 have H10:=u33.at_;obtain ⟨hB,zB⟩:=u33.on hB (by omega)
 refine wn (wp_ret ?_);have hd:D.retire_scanned_body j r_retire_scanned a0 a1 a2=(D.prog_Load_int (D.plan_Plan_Retired a0 a1 a2.at_) (fun x=>(D.retire_scanned_1 j r_retire_scanned a0 a1 (⟨(W (a2.at_ - 1)),a2.left,a2.done⟩:Scan) a2 x))):=(cond_f h13).trans (rfl)
 have hs:=hr31.shape.cells;refine ret_cell r rfl rfl H10 (k:=7) hs.1 ta119 ?_;rw [←hs.2.2,hd];exact rfin hF hB hr31 u33 (by omega) (by omega) (by omega)
theorem c_retire_scanned {n:Nat} {j:Nat} (hj:n<j) {k:Nat} (hk:n<k):Spec_retire_scanned (D.retire_scanned j k) n:=by
  induction n using Nat.strongRecOn generalizing k with
  | _ n ih=>
    obtain ⟨k,rfl⟩:∃ q,k=q+1:=⟨k - 1,by omega⟩
    intro F w0 hF;have h:=@b_retire_scanned n F j (D.retire_scanned j k) w0 hF hj (fun m hm=>ih m hm (by omega) (by omega))
    exact h
def D.retire_Scan_1 (j:Nat) (c0:Plan) (c1:Int) (a0:Int):T Int:=(D.retire_scanned j j c0 c1 (⟨(IntKind.i64.wrap ((IntKind.i64.wrap (minI a0 (IntKind.u64.wrap c0.retire))) - 1)),(IntKind.i64.wrap (minI a0 (IntKind.u64.wrap c0.retire))),0⟩:Scan))
theorem c_retire_Scan_1 (hF:kH F w0) (hj:n<j)
    (c0:Plan) {c0b:Nat} (c0F:F c0b) (c0h:w0.heap[c0b]?=some (.cells ((planC c0)).toArray 23 (0,0))) (c1:Int) {c1b:Nat} (c1F:F c1b) (c1h:w0.heap[c1b]?=some (.cells ([(.int .i64 c1)]).toArray 3 (0,0))) (a0:Int) :
    Calls Tryz.prog 281 #[.int .u64 a0,zp c0b,zp c1b] w0 (RepRes Tryz.prog encInt n (D.retire_Scan_1 j c0 c1 a0) F w0):=by
 refine kN Tryz.func281 rfl 19 rfl rfl fun fr r hB=>?_;have lc0b:=lt_of_block c0h
 have lc1b:=lt_of_block c1h;refine wsr ?_;refine seq_new (.cells (kq encInt) 119 (0,0)) r (fun R=>y_alloc tz119) rfl fun fr b1 w2 n3 r=>?_;obtain ⟨E1,Z2,H1,hB,zB⟩:=n3.all hB
 refine wn (wsr (kM (U a0) r rfl rfl fun r=>kF 0 r rfl fo23_2 rfl fun r=>kL (I c0.retire) r rfl (keep hB c0h) to3 rfl rfl fun r=>seq_val (U (V c0.retire)) r (fun R=>y_convert r rfl ti3 ti34) rfl fun fr r=>seq_val (U (minI a0 (V c0.retire))) r (fun R=>y_min r (m:=a0) (n:=(V c0.retire)) rfl rfl) rfl fun fr r=>seq_val (I (W (minI a0 (V c0.retire)))) r (fun R=>y_convert r rfl ti34 ti3) rfl fun fr r=>kA (I (W (minI a0 (V c0.retire)))) r rfl rfl fun r=>wn (wsr (kG (planC c0) 6 r rfl (keep hB c0h) ta23 rfl rfl fun r=>kL (I c1) r rfl (keep hB c1h) to3 rfl rfl fun r=>kM (I (W (minI a0 (V c0.retire)))) r rfl rfl fun r=>kB r rfl rfl rfl rfl rfl fun r=>kM (I (W (minI a0 (V c0.retire)))) r rfl rfl fun r=>kU (.agg (scanC (⟨(W ((W (minI a0 (V c0.retire))) - 1)),(W (minI a0 (V c0.retire))),0⟩:Scan)).toArray) r (by kernel_rfl) rfl fun r=>?_))));have hF1:=fgrow hF hB b1
 refine kD r ((c_retire_scanned (j:=j) (k:=j) (n:=n) (by omega) (by omega)) (kW F w0 w2 b1) _ hF1 c0 c1 (⟨(W ((W (minI a0 (V c0.retire))) - 1)),(W (minI a0 (V c0.retire))),0⟩:Scan)) rfl cl282 rfl fun w4 v5 hb hr6 r=>?_;have Z4:=hb.size
 have H1:=keep hb H1;obtain ⟨hB,zB⟩:=bon hb hB;refine kP r hr6.shape rfl rfl H1 ts119 rfl rfl fun w7 u8 r=>?_;have Z7:=u8.size
 have H1:=u8.at_;obtain ⟨hB,zB⟩:=u8.on hB (by omega)
 exact wn (wp_ret (kR r hr6 rfl rfl H1 rfl ta119 hF hB u8 (by omega) (by omega) (by omega)))
def D.retire_Scan (j:Nat) (a0:Plan) (a1:Int):T Int:=(D.prog_Load_int (D.plan_Plan_Count a0 a1) (fun x=>(D.retire_Scan_1 j a0 a1 x)))
theorem c_retire_Scan (hF:kH F w0) (hj:n<j)
    (a0:Plan) (a1:Int) :
    Calls Tryz.prog 184 #[.agg (planC a0).toArray,.int .i64 a1] w0 (RepRes Tryz.prog encInt n (D.retire_Scan j a0 a1) F w0):=by
 refine kN Tryz.func184 rfl 10 rfl rfl fun fr r hB=>?_;refine wsr ?_
 refine kX 23 (.agg (planC a0).toArray) r rfl rfl fun b1 w2 n3 r=>?_;obtain ⟨E1,Z2,H1,hB,zB⟩:=n3.all hB
 refine kX 3 (I a1) r rfl rfl fun b4 w5 n6 r=>?_;have H1:=keep n6.below H1
 obtain ⟨E4,Z5,H4,hB,zB⟩:=n6.all hB;refine seq_new (.cells (kq encInt) 119 (0,0)) r (fun R=>y_alloc tz119) rfl fun fr b7 w8 n9 r=>?_;have H1:=keep n9.below H1
 have H4:=keep n9.below H4;obtain ⟨E7,Z8,H7,hB,zB⟩:=n9.all hB;refine wn (wsr (kG (planC a0) 6 r rfl H1 ta23 rfl rfl fun r=>kL (I a1) r rfl H4 to3 rfl rfl fun r=>?_));refine kE r (c_plan_Plan_Count w8 a0 a1) rfl cl194 rfl fun w10 hb r=>?_
 have Z10:=hb.size;have H1:=keep hb H1;have H4:=keep hb H4;have H7:=keep hb H7;obtain ⟨hB,zB⟩:=bon hb hB;refine seq_val (.func (.func 281) #[] #[zp b1,zp b4]) r (fun R=>y_makeFunc r rfl) rfl fun fr r=>?_;have hF1:=fgrow hF hB b7
 have f11:((kW F w0 w10 b7)) b1:=(.inr ⟨by omega,by omega,by omega⟩)
 have f12:((kW F w0 w10 b7)) b4:=(.inr ⟨by omega,by omega,by omega⟩)
 refine kD r (c_prog_Load_int (F:=(kW F w0 w10 b7)) (n:=n) hF1 (D.plan_Plan_Count a0 a1) ⟨281,[],[zp b1,zp b4],cl281,rfl,fun m hm x w' hs hz=>c_retire_Scan_1 (j:=j) (fun b hb=>Nat.lt_of_lt_of_le (hF1 b hb) hz) (by omega) a0 f11 (hs.at_ f11 H1) a1 f12 (hs.at_ f12 H4) x⟩) rfl cl186 rfl fun w13 v14 hb hr15 r=>?_;have Z13:=hb.size
 have H1:=keep hb H1;have H4:=keep hb H4;have H7:=keep hb H7;obtain ⟨hB,zB⟩:=bon hb hB;refine kP r hr15.shape rfl rfl H7 ts119 rfl rfl fun w16 u17 r=>?_;have Z16:=u17.size
 have H1:=u17.keep H1 (by omega)
 have H4:=u17.keep H4 (by omega)
 have H7:=u17.at_;obtain ⟨hB,zB⟩:=u17.on hB (by omega)
 exact wn (wp_ret (kR r hr15 rfl rfl H7 rfl ta119 hF hB u17 (by omega) (by omega) (by omega)))
def D.retire_Put_1_1_1 (c0:Int):T Int:=(D.prog_Done_int (IntKind.i64.wrap ((IntKind.i64.wrap c0)+1)))
theorem c_retire_Put_1_1_1 (hF:kH F w0)
    (c0:Int) {c0b:Nat} (c0F:F c0b) (c0h:w0.heap[c0b]?=some (.cells ([(.int .u64 c0)]).toArray 34 (0,0))) :
    Calls Tryz.prog 300 #[zp c0b] w0 (RepRes Tryz.prog encInt n (D.retire_Put_1_1_1 c0) F w0):=by
 refine kN Tryz.func300 rfl 6 rfl rfl fun fr r hB=>?_;have lc0b:=lt_of_block c0h
 refine wsr ?_;refine seq_new (.cells (kq encInt) 119 (0,0)) r (fun R=>y_alloc tz119) rfl fun fr b1 w2 n3 r=>?_;obtain ⟨E1,Z2,H1,hB,zB⟩:=n3.all hB
 refine wn (wsr (kL (U c0) r rfl (keep hB c0h) to34 rfl rfl fun r=>seq_val (I (W c0)) r (fun R=>y_convert r rfl ti34 ti3) rfl fun fr r=>kB r rfl rfl rfl rfl rfl fun r=>?_));have hF1:=fgrow hF hB b1
 refine kD r (c_prog_Done_int (F:=(kW F w0 w2 b1)) (n:=n) hF1 (W ((W c0)+1))) rfl cl222 rfl fun w4 v5 hb hr6 r=>?_;have Z4:=hb.size
 have H1:=keep hb H1;obtain ⟨hB,zB⟩:=bon hb hB;refine kP r hr6.shape rfl rfl H1 ts119 rfl rfl fun w7 u8 r=>?_;have Z7:=u8.size
 have H1:=u8.at_;obtain ⟨hB,zB⟩:=u8.on hB (by omega)
 exact wn (wp_ret (kR r hr6 rfl rfl H1 rfl ta119 hF hB u8 (by omega) (by omega) (by omega)))
def D.retire_Put_1_1 (c0:Plan) (c1:Int) (c2:Int):T Int:=(D.prog_Store_int (D.plan_Plan_Count c0 c1) (IntKind.u64.wrap (c2+1)) (fun _=>(D.retire_Put_1_1_1 c2)))
theorem c_retire_Put_1_1 (hF:kH F w0)
    (c0:Plan) {c0b:Nat} (c0F:F c0b) (c0h:w0.heap[c0b]?=some (.cells ((planC c0)).toArray 23 (0,0))) (c1:Int) {c1b:Nat} (c1F:F c1b) (c1h:w0.heap[c1b]?=some (.cells ([(.int .i64 c1)]).toArray 3 (0,0))) (c2:Int) {c2b:Nat} (c2F:F c2b) (c2h:w0.heap[c2b]?=some (.cells ([(.int .u64 c2)]).toArray 34 (0,0))) :
    Calls Tryz.prog 299 #[zp c0b,zp c1b,zp c2b] w0 (RepRes Tryz.prog encInt n (D.retire_Put_1_1 c0 c1 c2) F w0):=by
 refine kN Tryz.func299 rfl 11 rfl rfl fun fr r hB=>?_;have lc0b:=lt_of_block c0h
 have lc1b:=lt_of_block c1h;have lc2b:=lt_of_block c2h;refine wsr ?_;refine seq_new (.cells (kq encInt) 119 (0,0)) r (fun R=>y_alloc tz119) rfl fun fr b1 w2 n3 r=>?_;obtain ⟨E1,Z2,H1,hB,zB⟩:=n3.all hB
 refine wn (wp_seq ?_);refine wp_drawnF 6 [.val (.agg (planC c0).toArray),.val (I c1),.val (I (D.plan_Plan_Count c0 c1)),.val (U c2),.val (U (V (c2+1))),.val (.func (.func 300) #[] #[zp c2b])] mixed r (by kernel_rfl) (kV (kV (kV (kV (kV (kV within_nil)))))) ?_ ?_
 ·
  refine ec r (fun _ u _ b d s=>y_load_agg s (cs:=(planC c0)) (n:=6) rfl (keep2 hB b c0h) ta23 rfl bz) (ec r (fun _ u _ b d s=>y_load_one s rfl (keep2 hB b c1h) to3 rfl bz) (ec r (fun fr1 u w' hb' hd r'=>y_call r' (args:=[(.agg (planC c0).toArray),(I c1)]) (lc hd.1 (lc hd.2.1 l0)) cl194 ((c_plan_Plan_Count _ c0 c1).mono (by rintro _ w2 ⟨rfl,hb2⟩; exact ⟨_,rfl,hb2,rfl⟩))) (ec r (fun _ u _ b d s=>y_load_one s rfl (keep2 hB b c2h) to34 rfl bz) (ec r (fun _ u _ b d s=>y_bin s d.1 rfl rfl rfl bz) (ec r (fun _ u _ b d s=>y_makeFunc s (v:=(.func (.func 300) #[] #[zp c2b])) rfl bz) ?_)))));exact each_nil
 intro fr u w4 hb hΦ hne r;have r:=r.congr (sc (hΦ 5 (by decide)) (sc (hΦ 4 (by decide)) (sc (hΦ 3 (by decide)) (sc (hΦ 2 (by decide)) (sc (hΦ 1 (by decide)) (sc (hΦ 0 (by decide)) rfl))))));have Z4:=hb.size;have H1:=keep hb H1;obtain ⟨hB,zB⟩:=bon hb hB;have hF1:=fgrow hF hB b1;have f5:((kW F w0 w4 b1)) c2b:=(.inl c2F);refine kD r (c_prog_Store_int (F:=(kW F w0 w4 b1)) (n:=n) hF1 (D.plan_Plan_Count c0 c1) (V (c2+1)) ⟨300,[],[zp c2b],cl300,rfl,fun m hm _ w' hs hz=>c_retire_Put_1_1_1 (fun b hb=>Nat.lt_of_lt_of_le (hF1 b hb) hz) c2 f5 (hs.at_ f5 (keep hB c2h))⟩) rfl cl188 rfl fun w6 v7 hb hr8 r=>?_;have Z6:=hb.size
 have H1:=keep hb H1;obtain ⟨hB,zB⟩:=bon hb hB;refine kP r hr8.shape rfl rfl H1 ts119 rfl rfl fun w9 u10 r=>?_;have Z9:=u10.size
 have H1:=u10.at_;obtain ⟨hB,zB⟩:=u10.on hB (by omega)
 exact wn (wp_ret (kR r hr8 rfl rfl H1 rfl ta119 hF hB u10 (by omega) (by omega) (by omega)))
def D.retire_Put_1 (c0:Plan) (c1:Int) (c2:Int) (a0:Int):T Int:=(bif (decide (a0≥(IntKind.u64.wrap c0.retire))) then (D.prog_Done_int (-1)) else (D.prog_Store_int (D.plan_Plan_Retired c0 c1 (IntKind.i64.wrap a0)) (IntKind.u64.wrap (IntKind.i64.wrap (c2+1))) (fun _=>(D.retire_Put_1_1 c0 c1 a0))))
theorem c_retire_Put_1 (hF:kH F w0)
    (c0:Plan) {c0b:Nat} (c0F:F c0b) (c0h:w0.heap[c0b]?=some (.cells ((planC c0)).toArray 23 (0,0))) (c1:Int) {c1b:Nat} (c1F:F c1b) (c1h:w0.heap[c1b]?=some (.cells ([(.int .i64 c1)]).toArray 3 (0,0))) (c2:Int) {c2b:Nat} (c2F:F c2b) (c2h:w0.heap[c2b]?=some (.cells ([(.int .i64 c2)]).toArray 3 (0,0))) (a0:Int) :
    Calls Tryz.prog 298 #[.int .u64 a0,zp c0b,zp c1b,zp c2b] w0 (RepRes Tryz.prog encInt n (D.retire_Put_1 c0 c1 c2 a0) F w0):=by
 refine kN Tryz.func298 rfl 22 rfl rfl fun fr r hB=>?_;have lc0b:=lt_of_block c0h
 have lc1b:=lt_of_block c1h;have lc2b:=lt_of_block c2h;refine wsr ?_;refine kX 34 (U a0) r rfl rfl fun b1 w2 n3 r=>?_;obtain ⟨E1,Z2,H1,hB,zB⟩:=n3.all hB
 refine seq_new (.cells (kq encInt) 119 (0,0)) r (fun R=>y_alloc tz119) rfl fun fr b4 w5 n6 r=>?_;have H1:=keep n6.below H1
 obtain ⟨E4,Z5,H4,hB,zB⟩:=n6.all hB;refine wn (wp_seq (wsr (kL (U a0) r rfl H1 to34 rfl rfl fun r=>kF 0 r rfl fo23_2 rfl fun r=>kL (I c0.retire) r rfl (keep hB c0h) to3 rfl rfl fun r=>seq_val (U (V c0.retire)) r (fun R=>y_convert r rfl ti3 ti34) rfl fun fr r=>kB r rfl rfl rfl rfl rfl fun r=>wn ?_)));refine wp_cond_split (t:=(decide (a0≥(V c0.retire)))) (r.ev rfl) (fun h7=>?_) (fun h7=>?_)
 ·
  refine wsr ?_;have hF1:=fgrow hF hB b4;refine kD r (c_prog_Done_int (F:=(kW F w0 w5 b4)) (n:=n) hF1 (-1)) rfl cl222 rfl fun w8 v9 hb hr10 r=>?_;have Z8:=hb.size
  have H1:=keep hb H1;have H4:=keep hb H4;obtain ⟨hB,zB⟩:=bon hb hB;refine kP r hr10.shape rfl rfl H4 ts119 rfl rfl fun w11 u12 r=>?_;have Z11:=u12.size
  have H1:=u12.keep H1 (by omega)
  have H4:=u12.at_;obtain ⟨hB,zB⟩:=u12.on hB (by omega)
  refine wn (wp_ret ?_);have hd:D.retire_Put_1 c0 c1 c2 a0=(D.prog_Done_int (-1)):=(cond_t h7).trans (rfl);have hs:=hr10.shape.cells;refine ret_cell r rfl rfl H4 (k:=7) hs.1 ta119 ?_;rw [←hs.2.2,hd];exact rfin hF hB hr10 u12 (by omega) (by omega) (by omega)
 refine wp_skip (wp_seq ?_);refine wp_drawnF 9 [.val (.agg (planC c0).toArray),.val (I c1),.val (U a0),.val (I (W a0)),.val (I (D.plan_Plan_Retired c0 c1 (W a0))),.val (I c2),.val (I (W (c2+1))),.val (U (V (W (c2+1)))),.val (.func (.func 299) #[] #[zp c0b,zp c1b,zp b1])] mixed r (by kernel_rfl) (kV (kV (kV (kV (kV (kV (kV (kV (kV within_nil))))))))) ?_ ?_
 ·
  refine ec r (fun _ u _ b d s=>y_load_agg s (cs:=(planC c0)) (n:=6) rfl (keep2 hB b c0h) ta23 rfl bz) (ec r (fun _ u _ b d s=>y_load_one s rfl (keep2 hB b c1h) to3 rfl bz) (ec r (fun _ u _ b d s=>y_load_one s rfl (keep b H1) to34 rfl bz) (ec r (fun _ u _ b d s=>y_convert s (n:=a0) d.1 ti34 ti3 bz) (ec r (fun fr1 u w' hb' hd r'=>y_call r' (args:=[(.agg (planC c0).toArray),(I c1),(I (W a0))]) (lc hd.1 (lc hd.2.1 (lc hd.2.2.1 l0))) cl195 ((c_plan_Plan_Retired _ c0 c1 (W a0)).mono (by rintro _ w2 ⟨rfl,hb2⟩; exact ⟨_,rfl,hb2,rfl⟩))) (ec r (fun _ u _ b d s=>y_load_one s rfl (keep2 hB b c2h) to3 rfl bz) (ec r (fun _ u _ b d s=>y_bin s d.1 rfl rfl rfl bz) (ec r (fun _ u _ b d s=>y_convert s (n:=(W (c2+1))) d.1 ti3 ti34 bz) (ec r (fun _ u _ b d s=>y_makeFunc s (v:=(.func (.func 299) #[] #[zp c0b,zp c1b,zp b1])) rfl bz) ?_))))))));exact each_nil
 intro fr u w13 hb hΦ hne r;have r:=r.congr (sc (hΦ 8 (by decide)) (sc (hΦ 7 (by decide)) (sc (hΦ 6 (by decide)) (sc (hΦ 5 (by decide)) (sc (hΦ 4 (by decide)) (sc (hΦ 3 (by decide)) (sc (hΦ 2 (by decide)) (sc (hΦ 1 (by decide)) (sc (hΦ 0 (by decide)) rfl)))))))));have Z13:=hb.size;have H1:=keep hb H1;have H4:=keep hb H4;obtain ⟨hB,zB⟩:=bon hb hB;have hF1:=fgrow hF hB b4;have f14:((kW F w0 w13 b4)) c0b:=(.inl c0F);have f15:((kW F w0 w13 b4)) c1b:=(.inl c1F);have f16:((kW F w0 w13 b4)) b1:=(.inr ⟨by omega,by omega,by omega⟩)
 refine kD r (c_prog_Store_int (F:=(kW F w0 w13 b4)) (n:=n) hF1 (D.plan_Plan_Retired c0 c1 (W a0)) (V (W (c2+1))) ⟨299,[],[zp c0b,zp c1b,zp b1],cl299,rfl,fun m hm _ w' hs hz=>c_retire_Put_1_1 (fun b hb=>Nat.lt_of_lt_of_le (hF1 b hb) hz) c0 f14 (hs.at_ f14 (keep hB c0h)) c1 f15 (hs.at_ f15 (keep hB c1h)) a0 f16 (hs.at_ f16 H1)⟩) rfl cl188 rfl fun w17 v18 hb hr19 r=>?_;have Z17:=hb.size
 have H1:=keep hb H1;have H4:=keep hb H4;obtain ⟨hB,zB⟩:=bon hb hB;refine kP r hr19.shape rfl rfl H4 ts119 rfl rfl fun w20 u21 r=>?_;have Z20:=u21.size
 have H1:=u21.keep H1 (by omega)
 have H4:=u21.at_;obtain ⟨hB,zB⟩:=u21.on hB (by omega)
 refine wn (wp_ret ?_);have hd:D.retire_Put_1 c0 c1 c2 a0=(D.prog_Store_int (D.plan_Plan_Retired c0 c1 (W a0)) (V (W (c2+1))) (fun _=>(D.retire_Put_1_1 c0 c1 a0))):=(cond_f h7).trans (rfl)
 have hs:=hr19.shape.cells;refine ret_cell r rfl rfl H4 (k:=7) hs.1 ta119 ?_;rw [←hs.2.2,hd];exact rfin hF hB hr19 u21 (by omega) (by omega) (by omega)
def D.retire_Put (a0:Plan) (a1:Int) (a2:Int):T Int:=(D.prog_Load_int (D.plan_Plan_Count a0 a1) (fun x=>(D.retire_Put_1 a0 a1 a2 x)))
theorem c_retire_Put (hF:kH F w0)
    (a0:Plan) (a1:Int) (a2:Int) :
    Calls Tryz.prog 224 #[.agg (planC a0).toArray,.int .i64 a1,.int .i64 a2] w0 (RepRes Tryz.prog encInt n (D.retire_Put a0 a1 a2) F w0):=by
 refine kN Tryz.func224 rfl 12 rfl rfl fun fr r hB=>?_;refine wsr ?_
 refine kX 23 (.agg (planC a0).toArray) r rfl rfl fun b1 w2 n3 r=>?_;obtain ⟨E1,Z2,H1,hB,zB⟩:=n3.all hB
 refine kX 3 (I a1) r rfl rfl fun b4 w5 n6 r=>?_;have H1:=keep n6.below H1
 obtain ⟨E4,Z5,H4,hB,zB⟩:=n6.all hB;refine kX 3 (I a2) r rfl rfl fun b7 w8 n9 r=>?_;have H1:=keep n9.below H1
 have H4:=keep n9.below H4;obtain ⟨E7,Z8,H7,hB,zB⟩:=n9.all hB;refine seq_new (.cells (kq encInt) 119 (0,0)) r (fun R=>y_alloc tz119) rfl fun fr b10 w11 n12 r=>?_;have H1:=keep n12.below H1
 have H4:=keep n12.below H4;have H7:=keep n12.below H7;obtain ⟨E10,Z11,H10,hB,zB⟩:=n12.all hB;refine wn (wsr (kG (planC a0) 6 r rfl H1 ta23 rfl rfl fun r=>kL (I a1) r rfl H4 to3 rfl rfl fun r=>?_));refine kE r (c_plan_Plan_Count w11 a0 a1) rfl cl194 rfl fun w13 hb r=>?_
 have Z13:=hb.size;have H1:=keep hb H1;have H4:=keep hb H4;have H7:=keep hb H7;have H10:=keep hb H10;obtain ⟨hB,zB⟩:=bon hb hB;refine seq_val (.func (.func 298) #[] #[zp b1,zp b4,zp b7]) r (fun R=>y_makeFunc r rfl) rfl fun fr r=>?_;have hF1:=fgrow hF hB b10
 have f14:((kW F w0 w13 b10)) b1:=(.inr ⟨by omega,by omega,by omega⟩)
 have f15:((kW F w0 w13 b10)) b4:=(.inr ⟨by omega,by omega,by omega⟩)
 have f16:((kW F w0 w13 b10)) b7:=(.inr ⟨by omega,by omega,by omega⟩)
 refine kD r (c_prog_Load_int (F:=(kW F w0 w13 b10)) (n:=n) hF1 (D.plan_Plan_Count a0 a1) ⟨298,[],[zp b1,zp b4,zp b7],cl298,rfl,fun m hm x w' hs hz=>c_retire_Put_1 (fun b hb=>Nat.lt_of_lt_of_le (hF1 b hb) hz) a0 f14 (hs.at_ f14 H1) a1 f15 (hs.at_ f15 H4) a2 f16 (hs.at_ f16 H7) x⟩) rfl cl186 rfl fun w17 v18 hb hr19 r=>?_;have Z17:=hb.size
 have H1:=keep hb H1;have H4:=keep hb H4;have H7:=keep hb H7;have H10:=keep hb H10;obtain ⟨hB,zB⟩:=bon hb hB;refine kP r hr19.shape rfl rfl H10 ts119 rfl rfl fun w20 u21 r=>?_;have Z20:=u21.size
 have H1:=u21.keep H1 (by omega)
 have H4:=u21.keep H4 (by omega)
 have H7:=u21.keep H7 (by omega)
 have H10:=u21.at_;obtain ⟨hB,zB⟩:=u21.on hB (by omega)
 exact wn (wp_ret (kR r hr19 rfl rfl H10 rfl ta119 hF hB u21 (by omega) (by omega) (by omega)))
end
end Go.Proofs.YtbbipmelhmgmfaaGreat

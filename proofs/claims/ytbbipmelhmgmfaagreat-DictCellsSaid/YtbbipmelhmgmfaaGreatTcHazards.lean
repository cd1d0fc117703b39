/- Ours. -/
import Derived.Test.YtbbipmelhmgmfaaGreatTcFrees
set_option linter.all false
set_option maxRecDepth 100000
set_option maxHeartbeats 20000000
namespace Go.Proofs.YtbbipmelhmgmfaaGreat
open Go.RowKit
section
variable {n : Nat} {F : Nat → Prop} {j : Nat} {w0 : World}
theorem cl229:callable Tryz.prog 229:=by kernel_rfl
theorem cl302:callable Tryz.prog 302:=by kernel_rfl
theorem cl303:callable Tryz.prog 303:=by kernel_rfl
theorem cl304:callable Tryz.prog 304:=by kernel_rfl
theorem cl313:callable Tryz.prog 313:=by kernel_rfl
theorem cl314:callable Tryz.prog 314:=by kernel_rfl
theorem cl315:callable Tryz.prog 315:=by kernel_rfl
theorem cl353:callable Tryz.prog 353:=by kernel_rfl
theorem cl359:callable Tryz.prog 359:=by kernel_rfl
theorem cl361:callable Tryz.prog 361:=by kernel_rfl
theorem cl362:callable Tryz.prog 362:=by kernel_rfl
theorem cl380:callable Tryz.prog 380:=by kernel_rfl
theorem cl395:callable Tryz.prog 395:=by kernel_rfl
theorem cl396:callable Tryz.prog 396:=by kernel_rfl
theorem cl397:callable Tryz.prog 397:=by kernel_rfl
def D.hazard_word (a0:Int):Int:=(IntKind.u64.wrap (IntKind.i64.wrap (a0+1)))
theorem c_hazard_word (w0:World) 
    (a0:Int) :
    Calls Tryz.prog 303 #[.int .i64 a0] w0 (PureRes (.int .u64 (D.hazard_word a0)) w0):=by
 refine kN Tryz.func303 rfl 6 rfl rfl fun fr r hB=>?_;refine wsr (kA (U 0) r rfl rfl fun r=>wn (wsr (kM (I a0) r rfl rfl fun r=>kB r rfl rfl rfl rfl rfl fun r=>seq_val (U (V (W (a0+1)))) r (fun R=>y_convert r rfl ti3 ti34) rfl fun fr r=>kA (U (V (W (a0+1)))) r rfl rfl fun r=>wn (wp_ret ?_))))
 refine ret_tmp r rfl rfl ?_;exact ⟨rfl,hB⟩
def D.hazard_held_1 (r_hazard_held:Plan→Int→Int→T Bool) (c0:Int) (c1:Plan) (c2:Int) (a0:Int):T Bool:=(bif (a0==(D.hazard_word c0)) then (D.prog_Done_bool true) else (r_hazard_held c1 c0 (IntKind.i64.wrap (c2+1))))
def D.hazard_held_body (r_hazard_held:Plan→Int→Int→T Bool) (a0:Plan) (a1:Int) (a2:Int):T Bool:=(bif (a2==(IntKind.i64.wrap (a0.threads * 3))) then (D.prog_Done_bool false) else (D.prog_Load_bool (D.plan_Plan_Hazard a0 (IntKind.i64.wrap (a2.tdiv 3)) (a2.tmod 3)) (fun x=>(D.hazard_held_1 r_hazard_held a1 a0 a2 x))))
def D.hazard_held:Nat→Plan→Int→Int→T Bool
  | 0,_,_,_=>.cut
  | k+1,a0,a1,a2=>D.hazard_held_body (D.hazard_held k) a0 a1 a2
def Spec_hazard_held (r:Plan→Int→Int→T Bool) (n:Nat):Prop:=∀ (F:Nat→Prop) (w0:World),(∀ b,F b→b<w0.heap.size)→∀ (a0:Plan) (a1:Int) (a2:Int),Calls Tryz.prog 380 #[.agg (planC a0).toArray,.int .i64 a1,.int .i64 a2] w0 (RepRes Tryz.prog encBool n (r a0 a1 a2) F w0)
theorem c_hazard_held_1 {r_hazard_held:Plan→Int→Int→T Bool} (hF:kH F w0) (ih_hazard_held:∀ m,m≤n→Spec_hazard_held r_hazard_held m)
    (c0:Int) {c0b:Nat} (c0F:F c0b) (c0h:w0.heap[c0b]?=some (.cells ([(.int .i64 c0)]).toArray 3 (0,0))) (c1:Plan) {c1b:Nat} (c1F:F c1b) (c1h:w0.heap[c1b]?=some (.cells ((planC c1)).toArray 23 (0,0))) (c2:Int) {c2b:Nat} (c2F:F c2b) (c2h:w0.heap[c2b]?=some (.cells ([(.int .i64 c2)]).toArray 3 (0,0))) (a0:Int) :
    Calls Tryz.prog 397 #[.int .u64 a0,zp c0b,zp c1b,zp c2b] w0 (RepRes Tryz.prog encBool n (D.hazard_held_1 r_hazard_held c0 c1 c2 a0) F w0):=by
 refine kN Tryz.func397 rfl 16 rfl rfl fun fr r hB=>?_;have lc0b:=lt_of_block c0h
 have lc1b:=lt_of_block c1h;have lc2b:=lt_of_block c2h;refine wsr ?_;refine seq_new (.cells (kq encBool) 318 (0,0)) r (fun R=>y_alloc tz318) rfl fun fr b1 w2 n3 r=>?_;obtain ⟨eb1,zw2,hb1,hB,zB⟩:=n3.all hB
 refine wn (wp_seq (wsr (kM (U a0) r rfl rfl fun r=>kL (I c0) r rfl (keep hB c0h) to3 rfl rfl fun r=>?_)));refine kE r (c_hazard_word w2 c0) rfl cl303 rfl fun w4 hb r=>?_
 have zw4:=hb.size;have hb1:=keep hb hb1;obtain ⟨hB,zB⟩:=bon hb hB;refine kB r rfl rfl rfl rfl rfl fun r=>wn ?_;refine wp_cond_split (t:=(a0==(D.hazard_word c0))) (r.ev rfl) (fun h5=>?_) (fun h5=>?_)
 ·
  refine wsr ?_;have hF1:=fgrow hF hB b1;refine kD r (c_prog_Done_bool (F:=(kW F w0 w4 b1)) (n:=n) hF1 true) rfl cl395 rfl fun w6 v7 hb hr8 r=>?_;have zw6:=hb.size
  have hb1:=keep hb hb1;obtain ⟨hB,zB⟩:=bon hb hB;refine kP r hr8.shape rfl rfl hb1 ts318 rfl rfl fun w9 u10 r=>?_;have zw9:=u10.size
  have hb1:=u10.at_;obtain ⟨hB,zB⟩:=u10.on hB (by omega)
  refine wn (wp_ret ?_);have hd:D.hazard_held_1 r_hazard_held c0 c1 c2 a0=(D.prog_Done_bool true):=(cond_t h5).trans (rfl);have hs:=hr8.shape.cells;refine ret_cell r rfl rfl hb1 (k:=7) hs.1 ta318 ?_;rw [←hs.2.2,hd];exact rfin hF hB hr8 u10 (by omega) (by omega) (by omega)
 refine wp_skip (wsr (kG (planC c1) 6 r rfl (keep hB c1h) ta23 rfl rfl fun r=>kL (I c0) r rfl (keep hB c0h) to3 rfl rfl fun r=>kL (I c2) r rfl (keep hB c2h) to3 rfl rfl fun r=>kB r rfl rfl rfl rfl rfl fun r=>?_));have hF1:=fgrow hF hB b1
 refine kD r ((ih_hazard_held n (by omega)) (kW F w0 w4 b1) _ hF1 c1 c0 (W (c2+1))) rfl cl380 rfl fun w11 v12 hb hr13 r=>?_;have zw11:=hb.size
 have hb1:=keep hb hb1;obtain ⟨hB,zB⟩:=bon hb hB;refine kP r hr13.shape rfl rfl hb1 ts318 rfl rfl fun w14 u15 r=>?_;have zw14:=u15.size
 have hb1:=u15.at_;obtain ⟨hB,zB⟩:=u15.on hB (by omega)
 refine wn (wp_ret ?_);have hd:D.hazard_held_1 r_hazard_held c0 c1 c2 a0=(r_hazard_held c1 c0 (W (c2+1))):=(cond_f h5).trans (rfl);have hs:=hr13.shape.cells;refine ret_cell r rfl rfl hb1 (k:=7) hs.1 ta318 ?_;rw [←hs.2.2,hd];exact rfin hF hB hr13 u15 (by omega) (by omega) (by omega)
theorem b_hazard_held {n:Nat} {F:Nat→Prop} {r_hazard_held:Plan→Int→Int→T Bool} {w0:World} (hF:∀ b,F b→b<w0.heap.size) (ih_hazard_held:∀ m,m<n→Spec_hazard_held r_hazard_held m)
    (a0:Plan) (a1:Int) (a2:Int) :
    Calls Tryz.prog 380 #[.agg (planC a0).toArray,.int .i64 a1,.int .i64 a2] w0 (RepRes Tryz.prog encBool n (D.hazard_held_body r_hazard_held a0 a1 a2) F w0):=by
 refine kN Tryz.func380 rfl 21 rfl rfl fun fr r hB=>?_;refine wsr ?_
 refine kX 23 (.agg (planC a0).toArray) r rfl rfl fun b1 w2 n3 r=>?_;obtain ⟨eb1,zw2,hb1,hB,zB⟩:=n3.all hB
 refine kX 3 (I a1) r rfl rfl fun b4 w5 n6 r=>?_;have hb1:=keep n6.below hb1
 obtain ⟨eb4,zw5,hb4,hB,zB⟩:=n6.all hB;refine kX 3 (I a2) r rfl rfl fun b7 w8 n9 r=>?_;have hb1:=keep n9.below hb1
 have hb4:=keep n9.below hb4;obtain ⟨eb7,zw8,hb7,hB,zB⟩:=n9.all hB;refine seq_new (.cells (kq encBool) 318 (0,0)) r (fun R=>y_alloc tz318) rfl fun fr b10 w11 n12 r=>?_;have hb1:=keep n12.below hb1
 have hb4:=keep n12.below hb4;have hb7:=keep n12.below hb7;obtain ⟨eb10,zw11,hb10,hB,zB⟩:=n12.all hB;refine wn (wp_seq (wsr (kL (I a2) r rfl hb7 to3 rfl rfl fun r=>kF 0 r rfl fo23_1 rfl fun r=>kL (I a0.threads) r rfl hb1 to3 rfl rfl fun r=>kB r rfl rfl rfl rfl rfl fun r=>kB r rfl rfl rfl rfl rfl fun r=>wn ?_)));refine wp_cond_split (t:=(a2==(W (a0.threads * 3)))) (r.ev rfl) (fun h13=>?_) (fun h13=>?_)
 ·
  refine wsr ?_;have hF1:=fgrow hF hB b10;refine kD r (c_prog_Done_bool (F:=(kW F w0 w11 b10)) (n:=n) hF1 false) rfl cl395 rfl fun w14 v15 hb hr16 r=>?_;have zw14:=hb.size
  have hb1:=keep hb hb1;have hb4:=keep hb hb4;have hb7:=keep hb hb7;have hb10:=keep hb hb10;obtain ⟨hB,zB⟩:=bon hb hB;refine kP r hr16.shape rfl rfl hb10 ts318 rfl rfl fun w17 u18 r=>?_;have zw17:=u18.size
  have hb1:=u18.keep hb1 (by omega)
  have hb4:=u18.keep hb4 (by omega)
  have hb7:=u18.keep hb7 (by omega)
  have hb10:=u18.at_;obtain ⟨hB,zB⟩:=u18.on hB (by omega)
  refine wn (wp_ret ?_);have hd:D.hazard_held_body r_hazard_held a0 a1 a2=(D.prog_Done_bool false):=(cond_t h13).trans (rfl);have hs:=hr16.shape.cells;refine ret_cell r rfl rfl hb10 (k:=7) hs.1 ta318 ?_;rw [←hs.2.2,hd];exact rfin hF hB hr16 u18 (by omega) (by omega) (by omega)
 refine wp_skip (wsr (kG (planC a0) 6 r rfl hb1 ta23 rfl rfl fun r=>kL (I a2) r rfl hb7 to3 rfl rfl fun r=>kB r rfl rfl rfl rfl rfl fun r=>kL (I a2) r rfl hb7 to3 rfl rfl fun r=>kB r rfl rfl rfl rfl rfl fun r=>?_));refine kE r (c_plan_Plan_Hazard w11 a0 (W (a2.tdiv 3)) (a2.tmod 3)) rfl cl302 rfl fun w19 hb r=>?_
 have zw19:=hb.size;have hb1:=keep hb hb1;have hb4:=keep hb hb4;have hb7:=keep hb hb7;have hb10:=keep hb hb10;obtain ⟨hB,zB⟩:=bon hb hB;refine seq_val (.func (.func 397) #[] #[zp b4,zp b1,zp b7]) r (fun R=>y_makeFunc r rfl) rfl fun fr r=>?_;have hF1:=fgrow hF hB b10
 have f20:((kW F w0 w19 b10)) b4:=(.inr ⟨by omega,by omega,by omega⟩)
 have f21:((kW F w0 w19 b10)) b1:=(.inr ⟨by omega,by omega,by omega⟩)
 have f22:((kW F w0 w19 b10)) b7:=(.inr ⟨by omega,by omega,by omega⟩)
 refine kD r (c_prog_Load_bool (F:=(kW F w0 w19 b10)) (n:=n) hF1 (D.plan_Plan_Hazard a0 (W (a2.tdiv 3)) (a2.tmod 3)) ⟨397,[],[zp b4,zp b1,zp b7],cl397,rfl,fun m hm x w' hs hz=>c_hazard_held_1 (fun b hb=>Nat.lt_of_lt_of_le (hF1 b hb) hz) (fun m' hm'=>ih_hazard_held m' (by omega)) a1 f20 (hs.at_ f20 hb4) a0 f21 (hs.at_ f21 hb1) a2 f22 (hs.at_ f22 hb7) x⟩) rfl cl396 rfl fun w23 v24 hb hr25 r=>?_;have zw23:=hb.size
 have hb1:=keep hb hb1;have hb4:=keep hb hb4;have hb7:=keep hb hb7;have hb10:=keep hb hb10;obtain ⟨hB,zB⟩:=bon hb hB;refine kP r hr25.shape rfl rfl hb10 ts318 rfl rfl fun w26 u27 r=>?_;have zw26:=u27.size
 have hb1:=u27.keep hb1 (by omega)
 have hb4:=u27.keep hb4 (by omega)
 have hb7:=u27.keep hb7 (by omega)
 have hb10:=u27.at_;obtain ⟨hB,zB⟩:=u27.on hB (by omega)
 refine wn (wp_ret ?_);have hd:D.hazard_held_body r_hazard_held a0 a1 a2=(D.prog_Load_bool (D.plan_Plan_Hazard a0 (W (a2.tdiv 3)) (a2.tmod 3)) (fun x=>(D.hazard_held_1 r_hazard_held a1 a0 a2 x))):=(cond_f h13).trans (rfl)
 have hs:=hr25.shape.cells;refine ret_cell r rfl rfl hb10 (k:=7) hs.1 ta318 ?_;rw [←hs.2.2,hd];exact rfin hF hB hr25 u27 (by omega) (by omega) (by omega)
theorem c_hazard_held {n:Nat} {k:Nat} (hk:n<k):Spec_hazard_held (D.hazard_held k) n:=by
  induction n using Nat.strongRecOn generalizing k with
  | _ n ih=>
    obtain ⟨k,rfl⟩:∃ q,k=q+1:=⟨k - 1,by omega⟩
    intro F w0 hF;have h:=@b_hazard_held n F (D.hazard_held k) w0 hF (fun m hm=>ih m hm (by omega))
    exact h
def D.hazard_Held (j:Nat) (a0:Plan) (a1:Int):T Bool:=(D.hazard_held j a0 a1 0)
theorem c_hazard_Held (hF:kH F w0) (hj:n<j)
    (a0:Plan) (a1:Int) :
    Calls Tryz.prog 349 #[.agg (planC a0).toArray,.int .i64 a1] w0 (RepRes Tryz.prog encBool n (D.hazard_Held j a0 a1) F w0):=by
 refine kN Tryz.func349 rfl 8 rfl rfl fun fr r hB=>?_;refine wsr ?_
 refine kX 23 (.agg (planC a0).toArray) r rfl rfl fun b1 w2 n3 r=>?_;obtain ⟨eb1,zw2,hb1,hB,zB⟩:=n3.all hB
 refine seq_new (.cells (kq encBool) 318 (0,0)) r (fun R=>y_alloc tz318) rfl fun fr b4 w5 n6 r=>?_;have hb1:=keep n6.below hb1
 obtain ⟨eb4,zw5,hb4,hB,zB⟩:=n6.all hB;refine wn (wsr (kG (planC a0) 6 r rfl hb1 ta23 rfl rfl fun r=>kM (I a1) r rfl rfl fun r=>?_));have hF1:=fgrow hF hB b4
 refine kD r ((c_hazard_held (k:=j) (n:=n) (by omega)) (kW F w0 w5 b4) _ hF1 a0 a1 0) rfl cl380 rfl fun w7 v8 hb hr9 r=>?_;have zw7:=hb.size
 have hb1:=keep hb hb1;have hb4:=keep hb hb4;obtain ⟨hB,zB⟩:=bon hb hB;refine kP r hr9.shape rfl rfl hb4 ts318 rfl rfl fun w10 u11 r=>?_;have zw10:=u11.size
 have hb1:=u11.keep hb1 (by omega)
 have hb4:=u11.at_;obtain ⟨hB,zB⟩:=u11.on hB (by omega)
 exact wn (wp_ret (kR r hr9 rfl rfl hb4 rfl ta318 hF hB u11 (by omega) (by omega) (by omega)))
def D.hazard_Set (a0:Plan) (a1:Int) (a2:Int) (a3:Int):T Unit:=(D.prog_Set (D.plan_Plan_Hazard a0 a1 a2) (D.hazard_word a3))
theorem c_hazard_Set (hF:kH F w0)
    (a0:Plan) (a1:Int) (a2:Int) (a3:Int) :
    Calls Tryz.prog 229 #[.agg (planC a0).toArray,.int .i64 a1,.int .i64 a2,.int .i64 a3] w0 (RepRes Tryz.prog encNone n (D.hazard_Set a0 a1 a2 a3) F w0):=by
 refine kN Tryz.func229 rfl 16 rfl rfl fun fr r hB=>?_;refine wsr ?_
 refine kX 23 (.agg (planC a0).toArray) r rfl rfl fun b1 w2 n3 r=>?_;obtain ⟨eb1,zw2,hb1,hB,zB⟩:=n3.all hB
 refine seq_new (.cells (kq encNone) 133 (0,0)) r (fun R=>y_alloc tz133) rfl fun fr b4 w5 n6 r=>?_;have hb1:=keep n6.below hb1
 obtain ⟨eb4,zw5,hb4,hB,zB⟩:=n6.all hB;refine wn (wsr (kG (planC a0) 6 r rfl hb1 ta23 rfl rfl fun r=>kM (I a1) r rfl rfl fun r=>kM (I a2) r rfl rfl fun r=>?_));refine kE r (c_plan_Plan_Hazard w5 a0 a1 a2) rfl cl302 rfl fun w7 hb r=>?_
 have zw7:=hb.size;have hb1:=keep hb hb1;have hb4:=keep hb hb4;obtain ⟨hB,zB⟩:=bon hb hB;refine kM (I a3) r rfl rfl fun r=>?_;refine kE r (c_hazard_word w7 a3) rfl cl303 rfl fun w8 hb r=>?_
 have zw8:=hb.size;have hb1:=keep hb hb1;have hb4:=keep hb hb4;obtain ⟨hB,zB⟩:=bon hb hB;have hF1:=fgrow hF hB b4;refine kD r (c_prog_Set (F:=(kW F w0 w8 b4)) (n:=n) hF1 (D.plan_Plan_Hazard a0 a1 a2) (D.hazard_word a3)) rfl cl200 rfl fun w9 v10 hb hr11 r=>?_;have zw9:=hb.size
 have hb1:=keep hb hb1;have hb4:=keep hb hb4;obtain ⟨hB,zB⟩:=bon hb hB;refine kP r hr11.shape rfl rfl hb4 ts133 rfl rfl fun w12 u13 r=>?_;have zw12:=u13.size
 have hb1:=u13.keep hb1 (by omega)
 have hb4:=u13.at_;obtain ⟨hB,zB⟩:=u13.on hB (by omega)
 exact wn (wp_ret (kR r hr11 rfl rfl hb4 rfl ta133 hF hB u13 (by omega) (by omega) (by omega)))
def D.hazard_guard_1_1 (r_hazard_guard:Plan→Int→Int→Int→Int→Int→T Int) (c0:Int) (c1:Plan) (c2:Int) (c3:Int) (c4:Int) (c5:Int) (a0:Int):T Int:=(bif (a0==c0) then (D.prog_Done_uint64 c0) else (r_hazard_guard c1 c2 c3 c4 c5 a0))
def D.hazard_guard_1 (r_hazard_guard:Plan→Int→Int→Int→Int→Int→T Int) (c0:Int) (c1:Int) (c2:Plan) (c3:Int) (c4:Int) (c5:Int):T Int:=(D.prog_Load_uint64 c0 (fun x=>(D.hazard_guard_1_1 r_hazard_guard c1 c2 c3 c4 c0 c5 x)))
def D.hazard_guard_body (r_hazard_guard:Plan→Int→Int→Int→Int→Int→T Int) (a0:Plan) (a1:Int) (a2:Int) (a3:Int) (a4:Int) (a5:Int):T Int:=(bif (decide ((IntKind.i64.wrap ((IntKind.i64.wrap (shrI .u64 a5 a4)) - 1))<0)) then (D.prog_Done_uint64 a5) else (T.bind (D.hazard_Set a0 a1 a2 (IntKind.i64.wrap ((IntKind.i64.wrap (shrI .u64 a5 a4)) - 1))) (fun _=>(D.hazard_guard_1 r_hazard_guard a3 a5 a0 a1 a2 a4))))
def D.hazard_guard:Nat→Plan→Int→Int→Int→Int→Int→T Int
  | 0,_,_,_,_,_,_=>.cut
  | k+1,a0,a1,a2,a3,a4,a5=>D.hazard_guard_body (D.hazard_guard k) a0 a1 a2 a3 a4 a5
def Spec_hazard_guard (r:Plan→Int→Int→Int→Int→Int→T Int) (n:Nat):Prop:=∀ (F:Nat→Prop) (w0:World),(∀ b,F b→b<w0.heap.size)→∀ (a0:Plan) (a1:Int) (a2:Int) (a3:Int) (a4:Int) (a5:Int) (_:0≤a4),Calls Tryz.prog 315 #[.agg (planC a0).toArray,.int .i64 a1,.int .i64 a2,.int .i64 a3,.int .i64 a4,.int .u64 a5] w0 (RepRes Tryz.prog encWord n (r a0 a1 a2 a3 a4 a5) F w0)
theorem c_hazard_guard_1_1 {r_hazard_guard:Plan→Int→Int→Int→Int→Int→T Int} (hF:kH F w0) (ih_hazard_guard:∀ m,m≤n→Spec_hazard_guard r_hazard_guard m)
    (c0:Int) {c0b:Nat} (c0F:F c0b) (c0h:w0.heap[c0b]?=some (.cells ([(.int .u64 c0)]).toArray 34 (0,0))) (c1:Plan) {c1b:Nat} (c1F:F c1b) (c1h:w0.heap[c1b]?=some (.cells ((planC c1)).toArray 23 (0,0))) (c2:Int) {c2b:Nat} (c2F:F c2b) (c2h:w0.heap[c2b]?=some (.cells ([(.int .i64 c2)]).toArray 3 (0,0))) (c3:Int) {c3b:Nat} (c3F:F c3b) (c3h:w0.heap[c3b]?=some (.cells ([(.int .i64 c3)]).toArray 3 (0,0))) (c4:Int) {c4b:Nat} (c4F:F c4b) (c4h:w0.heap[c4b]?=some (.cells ([(.int .i64 c4)]).toArray 3 (0,0))) (c5:Int) {c5b:Nat} (c5F:F c5b) (c5h:w0.heap[c5b]?=some (.cells ([(.int .i64 c5)]).toArray 3 (0,0))) (a0:Int) (pre0:0≤c5) :
    Calls Tryz.prog 362 #[.int .u64 a0,zp c0b,zp c1b,zp c2b,zp c3b,zp c4b,zp c5b] w0 (RepRes Tryz.prog encWord n (D.hazard_guard_1_1 r_hazard_guard c0 c1 c2 c3 c4 c5 a0) F w0):=by
 refine kN Tryz.func362 rfl 21 rfl rfl fun fr r hB=>?_;have lc0b:=lt_of_block c0h
 have lc1b:=lt_of_block c1h;have lc2b:=lt_of_block c2h;have lc3b:=lt_of_block c3h;have lc4b:=lt_of_block c4h;have lc5b:=lt_of_block c5h;refine wsr ?_;refine seq_new (.cells (kq encWord) 271 (0,0)) r (fun R=>y_alloc tz271) rfl fun fr b1 w2 n3 r=>?_;obtain ⟨eb1,zw2,hb1,hB,zB⟩:=n3.all hB
 refine wn (wp_seq (wsr (kM (U a0) r rfl rfl fun r=>kL (U c0) r rfl (keep hB c0h) to34 rfl rfl fun r=>kB r rfl rfl rfl rfl rfl fun r=>wn ?_)));refine wp_cond_split (t:=(a0==c0)) (r.ev rfl) (fun h4=>?_) (fun h4=>?_)
 ·
  refine wsr (kL (U c0) r rfl (keep hB c0h) to34 rfl rfl fun r=>?_);have hF1:=fgrow hF hB b1
  refine kD r (c_prog_Done_uint64 (F:=(kW F w0 w2 b1)) (n:=n) hF1 c0) rfl cl359 rfl fun w5 v6 hb hr7 r=>?_;have zw5:=hb.size
  have hb1:=keep hb hb1;obtain ⟨hB,zB⟩:=bon hb hB;refine kP r hr7.shape rfl rfl hb1 ts271 rfl rfl fun w8 u9 r=>?_;have zw8:=u9.size
  have hb1:=u9.at_;obtain ⟨hB,zB⟩:=u9.on hB (by omega)
  refine wn (wp_ret ?_);have hd:D.hazard_guard_1_1 r_hazard_guard c0 c1 c2 c3 c4 c5 a0=(D.prog_Done_uint64 c0):=(cond_t h4).trans (rfl);have hs:=hr7.shape.cells;refine ret_cell r rfl rfl hb1 (k:=7) hs.1 ta271 ?_;rw [←hs.2.2,hd];exact rfin hF hB hr7 u9 (by omega) (by omega) (by omega)
 refine wp_skip (wsr (kG (planC c1) 6 r rfl (keep hB c1h) ta23 rfl rfl fun r=>kL (I c2) r rfl (keep hB c2h) to3 rfl rfl fun r=>kL (I c3) r rfl (keep hB c3h) to3 rfl rfl fun r=>kL (I c4) r rfl (keep hB c4h) to3 rfl rfl fun r=>kL (I c5) r rfl (keep hB c5h) to3 rfl rfl fun r=>kM (U a0) r rfl rfl fun r=>?_));have hF1:=fgrow hF hB b1
 refine kD r ((ih_hazard_guard n (by omega)) (kW F w0 w2 b1) _ hF1 c1 c2 c3 c4 c5 a0 (by first | assumption | decide)) rfl cl315 rfl fun w10 v11 hb hr12 r=>?_;have zw10:=hb.size
 have hb1:=keep hb hb1;obtain ⟨hB,zB⟩:=bon hb hB;refine kP r hr12.shape rfl rfl hb1 ts271 rfl rfl fun w13 u14 r=>?_;have zw13:=u14.size
 have hb1:=u14.at_;obtain ⟨hB,zB⟩:=u14.on hB (by omega)
 refine wn (wp_ret ?_);have hd:D.hazard_guard_1_1 r_hazard_guard c0 c1 c2 c3 c4 c5 a0=(r_hazard_guard c1 c2 c3 c4 c5 a0):=(cond_f h4).trans (rfl);have hs:=hr12.shape.cells;refine ret_cell r rfl rfl hb1 (k:=7) hs.1 ta271 ?_;rw [←hs.2.2,hd];exact rfin hF hB hr12 u14 (by omega) (by omega) (by omega)
theorem c_hazard_guard_1 {r_hazard_guard:Plan→Int→Int→Int→Int→Int→T Int} (hF:kH F w0) (ih_hazard_guard:∀ m,m<n→Spec_hazard_guard r_hazard_guard m)
    (c0:Int) {c0b:Nat} (c0F:F c0b) (c0h:w0.heap[c0b]?=some (.cells ([(.int .i64 c0)]).toArray 3 (0,0))) (c1:Int) {c1b:Nat} (c1F:F c1b) (c1h:w0.heap[c1b]?=some (.cells ([(.int .u64 c1)]).toArray 34 (0,0))) (c2:Plan) {c2b:Nat} (c2F:F c2b) (c2h:w0.heap[c2b]?=some (.cells ((planC c2)).toArray 23 (0,0))) (c3:Int) {c3b:Nat} (c3F:F c3b) (c3h:w0.heap[c3b]?=some (.cells ([(.int .i64 c3)]).toArray 3 (0,0))) (c4:Int) {c4b:Nat} (c4F:F c4b) (c4h:w0.heap[c4b]?=some (.cells ([(.int .i64 c4)]).toArray 3 (0,0))) (c5:Int) {c5b:Nat} (c5F:F c5b) (c5h:w0.heap[c5b]?=some (.cells ([(.int .i64 c5)]).toArray 3 (0,0))) (pre0:0≤c5) :
    Calls Tryz.prog 361 #[.agg #[],zp c0b,zp c1b,zp c2b,zp c3b,zp c4b,zp c5b] w0 (RepRes Tryz.prog encWord n (D.hazard_guard_1 r_hazard_guard c0 c1 c2 c3 c4 c5) F w0):=by
 refine kN Tryz.func361 rfl 12 rfl rfl fun fr r hB=>?_;have lc0b:=lt_of_block c0h
 have lc1b:=lt_of_block c1h;have lc2b:=lt_of_block c2h;have lc3b:=lt_of_block c3h;have lc4b:=lt_of_block c4h;have lc5b:=lt_of_block c5h;refine wsr ?_;refine kX 128 (.agg #[]) r rfl rfl fun b1 w2 n3 r=>?_;obtain ⟨eb1,zw2,hb1,hB,zB⟩:=n3.all hB
 refine seq_new (.cells (kq encWord) 271 (0,0)) r (fun R=>y_alloc tz271) rfl fun fr b4 w5 n6 r=>?_;have hb1:=keep n6.below hb1
 obtain ⟨eb4,zw5,hb4,hB,zB⟩:=n6.all hB;refine wn (wsr (kL (I c0) r rfl (keep hB c0h) to3 rfl rfl fun r=>seq_val (.func (.func 362) #[] #[zp c1b,zp c2b,zp c3b,zp c4b,zp c0b,zp c5b]) r (fun R=>y_makeFunc r rfl) rfl fun fr r=>?_));have hF1:=fgrow hF hB b4
 have f7:((kW F w0 w5 b4)) c1b:=(.inl c1F);have f8:((kW F w0 w5 b4)) c2b:=(.inl c2F);have f9:((kW F w0 w5 b4)) c3b:=(.inl c3F);have f10:((kW F w0 w5 b4)) c4b:=(.inl c4F);have f11:((kW F w0 w5 b4)) c0b:=(.inl c0F);have f12:((kW F w0 w5 b4)) c5b:=(.inl c5F);refine kD r (c_prog_Load_uint64 (F:=(kW F w0 w5 b4)) (n:=n) hF1 c0 ⟨362,[],[zp c1b,zp c2b,zp c3b,zp c4b,zp c0b,zp c5b],cl362,rfl,fun m hm x w' hs hz=>c_hazard_guard_1_1 (fun b hb=>Nat.lt_of_lt_of_le (hF1 b hb) hz) (fun m' hm'=>ih_hazard_guard m' (by omega)) c1 f7 (hs.at_ f7 (keep hB c1h)) c2 f8 (hs.at_ f8 (keep hB c2h)) c3 f9 (hs.at_ f9 (keep hB c3h)) c4 f10 (hs.at_ f10 (keep hB c4h)) c0 f11 (hs.at_ f11 (keep hB c0h)) c5 f12 (hs.at_ f12 (keep hB c5h)) x (by first | assumption | decide)⟩) rfl cl313 rfl fun w13 v14 hb hr15 r=>?_;have zw13:=hb.size
 have hb1:=keep hb hb1;have hb4:=keep hb hb4;obtain ⟨hB,zB⟩:=bon hb hB;refine kP r hr15.shape rfl rfl hb4 ts271 rfl rfl fun w16 u17 r=>?_;have zw16:=u17.size
 have hb1:=u17.keep hb1 (by omega)
 have hb4:=u17.at_;obtain ⟨hB,zB⟩:=u17.on hB (by omega)
 exact wn (wp_ret (kR r hr15 rfl rfl hb4 rfl ta271 hF hB u17 (by omega) (by omega) (by omega)))
theorem b_hazard_guard {n:Nat} {F:Nat→Prop} {r_hazard_guard:Plan→Int→Int→Int→Int→Int→T Int} {w0:World} (hF:∀ b,F b→b<w0.heap.size) (ih_hazard_guard:∀ m,m<n→Spec_hazard_guard r_hazard_guard m)
    (a0:Plan) (a1:Int) (a2:Int) (a3:Int) (a4:Int) (a5:Int) (pre0:0≤a4) :
    Calls Tryz.prog 315 #[.agg (planC a0).toArray,.int .i64 a1,.int .i64 a2,.int .i64 a3,.int .i64 a4,.int .u64 a5] w0 (RepRes Tryz.prog encWord n (D.hazard_guard_body r_hazard_guard a0 a1 a2 a3 a4 a5) F w0):=by
 refine kN Tryz.func315 rfl 30 rfl rfl fun fr r hB=>?_;refine wsr ?_
 refine kX 23 (.agg (planC a0).toArray) r rfl rfl fun b1 w2 n3 r=>?_;obtain ⟨eb1,zw2,hb1,hB,zB⟩:=n3.all hB
 refine kX 3 (I a1) r rfl rfl fun b4 w5 n6 r=>?_;have hb1:=keep n6.below hb1
 obtain ⟨eb4,zw5,hb4,hB,zB⟩:=n6.all hB;refine kX 3 (I a2) r rfl rfl fun b7 w8 n9 r=>?_;have hb1:=keep n9.below hb1
 have hb4:=keep n9.below hb4;obtain ⟨eb7,zw8,hb7,hB,zB⟩:=n9.all hB;refine kX 3 (I a3) r rfl rfl fun b10 w11 n12 r=>?_;have hb1:=keep n12.below hb1
 have hb4:=keep n12.below hb4;have hb7:=keep n12.below hb7;obtain ⟨eb10,zw11,hb10,hB,zB⟩:=n12.all hB;refine kX 3 (I a4) r rfl rfl fun b13 w14 n15 r=>?_;have hb1:=keep n15.below hb1
 have hb4:=keep n15.below hb4;have hb7:=keep n15.below hb7;have hb10:=keep n15.below hb10;obtain ⟨eb13,zw14,hb13,hB,zB⟩:=n15.all hB;refine kX 34 (U a5) r rfl rfl fun b16 w17 n18 r=>?_;have hb1:=keep n18.below hb1
 have hb4:=keep n18.below hb4;have hb7:=keep n18.below hb7;have hb10:=keep n18.below hb10;have hb13:=keep n18.below hb13;obtain ⟨eb16,zw17,hb16,hB,zB⟩:=n18.all hB;refine seq_new (.cells (kq encWord) 271 (0,0)) r (fun R=>y_alloc tz271) rfl fun fr b19 w20 n21 r=>?_;have hb1:=keep n21.below hb1
 have hb4:=keep n21.below hb4;have hb7:=keep n21.below hb7;have hb10:=keep n21.below hb10;have hb13:=keep n21.below hb13;have hb16:=keep n21.below hb16;obtain ⟨eb19,zw20,hb19,hB,zB⟩:=n21.all hB;refine wn (wsr (kL (U a5) r rfl hb16 to34 rfl rfl fun r=>kL (I a4) r rfl hb13 to3 rfl rfl fun r=>kB r rfl rfl rfl (bin_shr (by first | assumption | decide)) rfl fun r=>seq_val (I (W (shrI .u64 a5 a4))) r (fun R=>y_convert r rfl ti34 ti3) rfl fun fr r=>kB r rfl rfl rfl rfl rfl fun r=>kA (I (W ((W (shrI .u64 a5 a4)) - 1))) r rfl rfl fun r=>wn (wp_seq (wsr (kM (I (W ((W (shrI .u64 a5 a4)) - 1))) r rfl rfl fun r=>kB r rfl rfl rfl rfl rfl fun r=>wn ?_)))));refine wp_cond_split (t:=(decide ((W ((W (shrI .u64 a5 a4)) - 1))<0))) (r.ev rfl) (fun h22=>?_) (fun h22=>?_)
 ·
  refine wsr (kL (U a5) r rfl hb16 to34 rfl rfl fun r=>?_);have hF1:=fgrow hF hB b19
  refine kD r (c_prog_Done_uint64 (F:=(kW F w0 w20 b19)) (n:=n) hF1 a5) rfl cl359 rfl fun w23 v24 hb hr25 r=>?_;have zw23:=hb.size
  have hb1:=keep hb hb1;have hb4:=keep hb hb4;have hb7:=keep hb hb7;have hb10:=keep hb hb10;have hb13:=keep hb hb13;have hb16:=keep hb hb16;have hb19:=keep hb hb19;obtain ⟨hB,zB⟩:=bon hb hB;refine kP r hr25.shape rfl rfl hb19 ts271 rfl rfl fun w26 u27 r=>?_;have zw26:=u27.size
  have hb1:=u27.keep hb1 (by omega)
  have hb4:=u27.keep hb4 (by omega)
  have hb7:=u27.keep hb7 (by omega)
  have hb10:=u27.keep hb10 (by omega)
  have hb13:=u27.keep hb13 (by omega)
  have hb16:=u27.keep hb16 (by omega)
  have hb19:=u27.at_;obtain ⟨hB,zB⟩:=u27.on hB (by omega)
  refine wn (wp_ret ?_);have hd:D.hazard_guard_body r_hazard_guard a0 a1 a2 a3 a4 a5=(D.prog_Done_uint64 a5):=(cond_t h22).trans (rfl);have hs:=hr25.shape.cells;refine ret_cell r rfl rfl hb19 (k:=7) hs.1 ta271 ?_;rw [←hs.2.2,hd];exact rfin hF hB hr25 u27 (by omega) (by omega) (by omega)
 refine wp_skip (wsr (kG (planC a0) 6 r rfl hb1 ta23 rfl rfl fun r=>kL (I a1) r rfl hb4 to3 rfl rfl fun r=>kL (I a2) r rfl hb7 to3 rfl rfl fun r=>kM (I (W ((W (shrI .u64 a5 a4)) - 1))) r rfl rfl fun r=>?_));have hF1:=fgrow hF hB b19
 refine kD r (c_hazard_Set (F:=(kW F w0 w20 b19)) (n:=n) hF1 a0 a1 a2 (W ((W (shrI .u64 a5 a4)) - 1))) rfl cl229 rfl fun w28 v29 hb hr30 r=>?_;have zw28:=hb.size
 have hb1:=keep hb hb1;have hb4:=keep hb hb4;have hb7:=keep hb hb7;have hb10:=keep hb hb10;have hb13:=keep hb hb13;have hb16:=keep hb hb16;have hb19:=keep hb hb19;obtain ⟨hB,zB⟩:=bon hb hB;refine seq_val (.func (.func 361) #[] #[zp b10,zp b16,zp b1,zp b4,zp b7,zp b13]) r (fun R=>y_makeFunc r rfl) rfl fun fr r=>?_;have hF1:=fgrow hF hB b19
 have f31:((kW F w0 w28 b19)) b10:=(.inr ⟨by omega,by omega,by omega⟩)
 have f32:((kW F w0 w28 b19)) b16:=(.inr ⟨by omega,by omega,by omega⟩)
 have f33:((kW F w0 w28 b19)) b1:=(.inr ⟨by omega,by omega,by omega⟩)
 have f34:((kW F w0 w28 b19)) b4:=(.inr ⟨by omega,by omega,by omega⟩)
 have f35:((kW F w0 w28 b19)) b7:=(.inr ⟨by omega,by omega,by omega⟩)
 have f36:((kW F w0 w28 b19)) b13:=(.inr ⟨by omega,by omega,by omega⟩)
 refine kD r (c_prog_Then_None_uint64_le (F:=(kW F w0 w28 b19)) (n:=n) hF1 (Rep.mono (by rintro b (h | h); (rcases h with h | ⟨h1,h2,h3⟩; exact .inl h; exact .inr ⟨h1,by omega,h3⟩); exact .inr ⟨by omega,by omega,by omega⟩) (Same.refl _ _) (by omega) n _ _ hr30) ⟨361,[],[zp b10,zp b16,zp b1,zp b4,zp b7,zp b13],cl361,rfl,fun m hm _ w' hs hz=>c_hazard_guard_1 (fun b hb=>Nat.lt_of_lt_of_le (hF1 b hb) hz) (fun m' hm'=>ih_hazard_guard m' (by omega)) a3 f31 (hs.at_ f31 hb10) a5 f32 (hs.at_ f32 hb16) a0 f33 (hs.at_ f33 hb1) a1 f34 (hs.at_ f34 hb4) a2 f35 (hs.at_ f35 hb7) a4 f36 (hs.at_ f36 hb13) (by first | assumption | decide)⟩) rfl cl360 rfl fun w37 v38 hb hr39 r=>?_
 have zw37:=hb.size;have hb1:=keep hb hb1;have hb4:=keep hb hb4;have hb7:=keep hb hb7;have hb10:=keep hb hb10;have hb13:=keep hb hb13;have hb16:=keep hb hb16;have hb19:=keep hb hb19;obtain ⟨hB,zB⟩:=bon hb hB;refine kP r hr39.shape rfl rfl hb19 ts271 rfl rfl fun w40 u41 r=>?_;have zw40:=u41.size
 have hb1:=u41.keep hb1 (by omega)
 have hb4:=u41.keep hb4 (by omega)
 have hb7:=u41.keep hb7 (by omega)
 have hb10:=u41.keep hb10 (by omega)
 have hb13:=u41.keep hb13 (by omega)
 have hb16:=u41.keep hb16 (by omega)
 have hb19:=u41.at_;obtain ⟨hB,zB⟩:=u41.on hB (by omega)
 refine wn (wp_ret ?_);have hd:D.hazard_guard_body r_hazard_guard a0 a1 a2 a3 a4 a5=(T.bind (D.hazard_Set a0 a1 a2 (W ((W (shrI .u64 a5 a4)) - 1))) (fun _=>(D.hazard_guard_1 r_hazard_guard a3 a5 a0 a1 a2 a4))):=(cond_f h22).trans (rfl)
 have hs:=hr39.shape.cells;refine ret_cell r rfl rfl hb19 (k:=7) hs.1 ta271 ?_;rw [←hs.2.2,hd];exact rfin hF hB hr39 u41 (by omega) (by omega) (by omega)
theorem c_hazard_guard {n:Nat} {k:Nat} (hk:n<k):Spec_hazard_guard (D.hazard_guard k) n:=by
  induction n using Nat.strongRecOn generalizing k with
  | _ n ih=>
    obtain ⟨k,rfl⟩:∃ q,k=q+1:=⟨k - 1,by omega⟩
    intro F w0 hF;have h:=@b_hazard_guard n F (D.hazard_guard k) w0 hF (fun m hm=>ih m hm (by omega))
    exact h
def D.hazard_Guard_1 (j:Nat) (c0:Plan) (c1:Int) (c2:Int) (c3:Int) (c4:Int) (a0:Int):T Int:=(D.hazard_guard j c0 c1 c2 c3 c4 a0)
theorem c_hazard_Guard_1 (hF:kH F w0) (hj:n<j)
    (c0:Plan) {c0b:Nat} (c0F:F c0b) (c0h:w0.heap[c0b]?=some (.cells ((planC c0)).toArray 23 (0,0))) (c1:Int) {c1b:Nat} (c1F:F c1b) (c1h:w0.heap[c1b]?=some (.cells ([(.int .i64 c1)]).toArray 3 (0,0))) (c2:Int) {c2b:Nat} (c2F:F c2b) (c2h:w0.heap[c2b]?=some (.cells ([(.int .i64 c2)]).toArray 3 (0,0))) (c3:Int) {c3b:Nat} (c3F:F c3b) (c3h:w0.heap[c3b]?=some (.cells ([(.int .i64 c3)]).toArray 3 (0,0))) (c4:Int) {c4b:Nat} (c4F:F c4b) (c4h:w0.heap[c4b]?=some (.cells ([(.int .i64 c4)]).toArray 3 (0,0))) (a0:Int) (pre0:0≤c4) :
    Calls Tryz.prog 314 #[.int .u64 a0,zp c0b,zp c1b,zp c2b,zp c3b,zp c4b] w0 (RepRes Tryz.prog encWord n (D.hazard_Guard_1 j c0 c1 c2 c3 c4 a0) F w0):=by
 refine kN Tryz.func314 rfl 15 rfl rfl fun fr r hB=>?_;have lc0b:=lt_of_block c0h
 have lc1b:=lt_of_block c1h;have lc2b:=lt_of_block c2h;have lc3b:=lt_of_block c3h;have lc4b:=lt_of_block c4h;refine wsr ?_;refine seq_new (.cells (kq encWord) 271 (0,0)) r (fun R=>y_alloc tz271) rfl fun fr b1 w2 n3 r=>?_;obtain ⟨eb1,zw2,hb1,hB,zB⟩:=n3.all hB
 refine wn (wsr (kG (planC c0) 6 r rfl (keep hB c0h) ta23 rfl rfl fun r=>kL (I c1) r rfl (keep hB c1h) to3 rfl rfl fun r=>kL (I c2) r rfl (keep hB c2h) to3 rfl rfl fun r=>kL (I c3) r rfl (keep hB c3h) to3 rfl rfl fun r=>kL (I c4) r rfl (keep hB c4h) to3 rfl rfl fun r=>kM (U a0) r rfl rfl fun r=>?_));have hF1:=fgrow hF hB b1
 refine kD r ((c_hazard_guard (k:=j) (n:=n) (by omega)) (kW F w0 w2 b1) _ hF1 c0 c1 c2 c3 c4 a0 (by first | assumption | decide)) rfl cl315 rfl fun w4 v5 hb hr6 r=>?_;have zw4:=hb.size
 have hb1:=keep hb hb1;obtain ⟨hB,zB⟩:=bon hb hB;refine kP r hr6.shape rfl rfl hb1 ts271 rfl rfl fun w7 u8 r=>?_;have zw7:=u8.size
 have hb1:=u8.at_;obtain ⟨hB,zB⟩:=u8.on hB (by omega)
 exact wn (wp_ret (kR r hr6 rfl rfl hb1 rfl ta271 hF hB u8 (by omega) (by omega) (by omega)))
def D.hazard_Guard (j:Nat) (a0:Plan) (a1:Int) (a2:Int) (a3:Int) (a4:Int):T Int:=(D.prog_Load_uint64 a3 (fun x=>(D.hazard_Guard_1 j a0 a1 a2 a3 a4 x)))
theorem c_hazard_Guard (hF:kH F w0) (hj:n<j)
    (a0:Plan) (a1:Int) (a2:Int) (a3:Int) (a4:Int) (pre0:0≤a4) :
    Calls Tryz.prog 247 #[.agg (planC a0).toArray,.int .i64 a1,.int .i64 a2,.int .i64 a3,.int .i64 a4] w0 (RepRes Tryz.prog encWord n (D.hazard_Guard j a0 a1 a2 a3 a4) F w0):=by
 refine kN Tryz.func247 rfl 14 rfl rfl fun fr r hB=>?_;refine wsr ?_
 refine kX 23 (.agg (planC a0).toArray) r rfl rfl fun b1 w2 n3 r=>?_;obtain ⟨eb1,zw2,hb1,hB,zB⟩:=n3.all hB
 refine kX 3 (I a1) r rfl rfl fun b4 w5 n6 r=>?_;have hb1:=keep n6.below hb1
 obtain ⟨eb4,zw5,hb4,hB,zB⟩:=n6.all hB;refine kX 3 (I a2) r rfl rfl fun b7 w8 n9 r=>?_;have hb1:=keep n9.below hb1
 have hb4:=keep n9.below hb4;obtain ⟨eb7,zw8,hb7,hB,zB⟩:=n9.all hB;refine kX 3 (I a3) r rfl rfl fun b10 w11 n12 r=>?_;have hb1:=keep n12.below hb1
 have hb4:=keep n12.below hb4;have hb7:=keep n12.below hb7;obtain ⟨eb10,zw11,hb10,hB,zB⟩:=n12.all hB;refine kX 3 (I a4) r rfl rfl fun b13 w14 n15 r=>?_;have hb1:=keep n15.below hb1
 have hb4:=keep n15.below hb4;have hb7:=keep n15.below hb7;have hb10:=keep n15.below hb10;obtain ⟨eb13,zw14,hb13,hB,zB⟩:=n15.all hB;refine seq_new (.cells (kq encWord) 271 (0,0)) r (fun R=>y_alloc tz271) rfl fun fr b16 w17 n18 r=>?_;have hb1:=keep n18.below hb1
 have hb4:=keep n18.below hb4;have hb7:=keep n18.below hb7;have hb10:=keep n18.below hb10;have hb13:=keep n18.below hb13;obtain ⟨eb16,zw17,hb16,hB,zB⟩:=n18.all hB;refine wn (wsr (kL (I a3) r rfl hb10 to3 rfl rfl fun r=>seq_val (.func (.func 314) #[] #[zp b1,zp b4,zp b7,zp b10,zp b13]) r (fun R=>y_makeFunc r rfl) rfl fun fr r=>?_));have hF1:=fgrow hF hB b16
 have f19:((kW F w0 w17 b16)) b1:=(.inr ⟨by omega,by omega,by omega⟩)
 have f20:((kW F w0 w17 b16)) b4:=(.inr ⟨by omega,by omega,by omega⟩)
 have f21:((kW F w0 w17 b16)) b7:=(.inr ⟨by omega,by omega,by omega⟩)
 have f22:((kW F w0 w17 b16)) b10:=(.inr ⟨by omega,by omega,by omega⟩)
 have f23:((kW F w0 w17 b16)) b13:=(.inr ⟨by omega,by omega,by omega⟩)
 refine kD r (c_prog_Load_uint64 (F:=(kW F w0 w17 b16)) (n:=n) hF1 a3 ⟨314,[],[zp b1,zp b4,zp b7,zp b10,zp b13],cl314,rfl,fun m hm x w' hs hz=>c_hazard_Guard_1 (j:=j) (fun b hb=>Nat.lt_of_lt_of_le (hF1 b hb) hz) (by omega) a0 f19 (hs.at_ f19 hb1) a1 f20 (hs.at_ f20 hb4) a2 f21 (hs.at_ f21 hb7) a3 f22 (hs.at_ f22 hb10) a4 f23 (hs.at_ f23 hb13) x (by first | assumption | decide)⟩) rfl cl313 rfl fun w24 v25 hb hr26 r=>?_;have zw24:=hb.size
 have hb1:=keep hb hb1;have hb4:=keep hb hb4;have hb7:=keep hb hb7;have hb10:=keep hb hb10;have hb13:=keep hb hb13;have hb16:=keep hb hb16;obtain ⟨hB,zB⟩:=bon hb hB;refine kP r hr26.shape rfl rfl hb16 ts271 rfl rfl fun w27 u28 r=>?_;have zw27:=u28.size
 have hb1:=u28.keep hb1 (by omega)
 have hb4:=u28.keep hb4 (by omega)
 have hb7:=u28.keep hb7 (by omega)
 have hb10:=u28.keep hb10 (by omega)
 have hb13:=u28.keep hb13 (by omega)
 have hb16:=u28.at_;obtain ⟨hB,zB⟩:=u28.on hB (by omega)
 exact wn (wp_ret (kR r hr26 rfl rfl hb16 rfl ta271 hF hB u28 (by omega) (by omega) (by omega)))
def D.hazard_clear_1 (r_hazard_clear:Plan→Int→Int→T Unit) (c0:Plan) (c1:Int) (c2:Int):T Unit:=(r_hazard_clear c0 c1 (IntKind.i64.wrap (c2+1)))
def D.hazard_clear_body (r_hazard_clear:Plan→Int→Int→T Unit) (a0:Plan) (a1:Int) (a2:Int):T Unit:=(bif (a2==3) then D.prog_Done_None else (T.bind (D.hazard_Set a0 a1 a2 (-1)) (fun _=>(D.hazard_clear_1 r_hazard_clear a0 a1 a2))))
def D.hazard_clear:Nat→Plan→Int→Int→T Unit
  | 0,_,_,_=>.cut
  | k+1,a0,a1,a2=>D.hazard_clear_body (D.hazard_clear k) a0 a1 a2
def Spec_hazard_clear (r:Plan→Int→Int→T Unit) (n:Nat):Prop:=∀ (F:Nat→Prop) (w0:World),(∀ b,F b→b<w0.heap.size)→∀ (a0:Plan) (a1:Int) (a2:Int),Calls Tryz.prog 304 #[.agg (planC a0).toArray,.int .i64 a1,.int .i64 a2] w0 (RepRes Tryz.prog encNone n (r a0 a1 a2) F w0)
theorem c_hazard_clear_1 {r_hazard_clear:Plan→Int→Int→T Unit} (hF:kH F w0) (ih_hazard_clear:∀ m,m≤n→Spec_hazard_clear r_hazard_clear m)
    (c0:Plan) {c0b:Nat} (c0F:F c0b) (c0h:w0.heap[c0b]?=some (.cells ((planC c0)).toArray 23 (0,0))) (c1:Int) {c1b:Nat} (c1F:F c1b) (c1h:w0.heap[c1b]?=some (.cells ([(.int .i64 c1)]).toArray 3 (0,0))) (c2:Int) {c2b:Nat} (c2F:F c2b) (c2h:w0.heap[c2b]?=some (.cells ([(.int .i64 c2)]).toArray 3 (0,0))) :
    Calls Tryz.prog 353 #[.agg #[],zp c0b,zp c1b,zp c2b] w0 (RepRes Tryz.prog encNone n (D.hazard_clear_1 r_hazard_clear c0 c1 c2) F w0):=by
 refine kN Tryz.func353 rfl 11 rfl rfl fun fr r hB=>?_;have lc0b:=lt_of_block c0h
 have lc1b:=lt_of_block c1h;have lc2b:=lt_of_block c2h;refine wsr ?_;refine kX 128 (.agg #[]) r rfl rfl fun b1 w2 n3 r=>?_;obtain ⟨eb1,zw2,hb1,hB,zB⟩:=n3.all hB
 refine seq_new (.cells (kq encNone) 133 (0,0)) r (fun R=>y_alloc tz133) rfl fun fr b4 w5 n6 r=>?_;have hb1:=keep n6.below hb1
 obtain ⟨eb4,zw5,hb4,hB,zB⟩:=n6.all hB;refine wn (wsr (kG (planC c0) 6 r rfl (keep hB c0h) ta23 rfl rfl fun r=>kL (I c1) r rfl (keep hB c1h) to3 rfl rfl fun r=>kL (I c2) r rfl (keep hB c2h) to3 rfl rfl fun r=>kB r rfl rfl rfl rfl rfl fun r=>?_));have hF1:=fgrow hF hB b4
 refine kD r ((ih_hazard_clear n (by omega)) (kW F w0 w5 b4) _ hF1 c0 c1 (W (c2+1))) rfl cl304 rfl fun w7 v8 hb hr9 r=>?_;have zw7:=hb.size
 have hb1:=keep hb hb1;have hb4:=keep hb hb4;obtain ⟨hB,zB⟩:=bon hb hB;refine kP r hr9.shape rfl rfl hb4 ts133 rfl rfl fun w10 u11 r=>?_;have zw10:=u11.size
 have hb1:=u11.keep hb1 (by omega)
 have hb4:=u11.at_;obtain ⟨hB,zB⟩:=u11.on hB (by omega)
 exact wn (wp_ret (kR r hr9 rfl rfl hb4 rfl ta133 hF hB u11 (by omega) (by omega) (by omega)))
theorem b_hazard_clear {n:Nat} {F:Nat→Prop} {r_hazard_clear:Plan→Int→Int→T Unit} {w0:World} (hF:∀ b,F b→b<w0.heap.size) (ih_hazard_clear:∀ m,m<n→Spec_hazard_clear r_hazard_clear m)
    (a0:Plan) (a1:Int) (a2:Int) :
    Calls Tryz.prog 304 #[.agg (planC a0).toArray,.int .i64 a1,.int .i64 a2] w0 (RepRes Tryz.prog encNone n (D.hazard_clear_body r_hazard_clear a0 a1 a2) F w0):=by
 refine kN Tryz.func304 rfl 17 rfl rfl fun fr r hB=>?_;refine wsr ?_
 refine kX 23 (.agg (planC a0).toArray) r rfl rfl fun b1 w2 n3 r=>?_;obtain ⟨eb1,zw2,hb1,hB,zB⟩:=n3.all hB
 refine kX 3 (I a1) r rfl rfl fun b4 w5 n6 r=>?_;have hb1:=keep n6.below hb1
 obtain ⟨eb4,zw5,hb4,hB,zB⟩:=n6.all hB;refine kX 3 (I a2) r rfl rfl fun b7 w8 n9 r=>?_;have hb1:=keep n9.below hb1
 have hb4:=keep n9.below hb4;obtain ⟨eb7,zw8,hb7,hB,zB⟩:=n9.all hB;refine seq_new (.cells (kq encNone) 133 (0,0)) r (fun R=>y_alloc tz133) rfl fun fr b10 w11 n12 r=>?_;have hb1:=keep n12.below hb1
 have hb4:=keep n12.below hb4;have hb7:=keep n12.below hb7;obtain ⟨eb10,zw11,hb10,hB,zB⟩:=n12.all hB;refine wn (wp_seq (wsr (kL (I a2) r rfl hb7 to3 rfl rfl fun r=>kB r rfl rfl rfl rfl rfl fun r=>wn ?_)));refine wp_cond_split (t:=(a2==3)) (r.ev rfl) (fun h13=>?_) (fun h13=>?_)
 ·
  refine wsr (kU (.agg #[]) r (by kernel_rfl) rfl fun r=>?_);have hF1:=fgrow hF hB b10
  refine kD r (c_prog_Done_None (F:=(kW F w0 w11 b10)) (n:=n) hF1 ) rfl cl292 rfl fun w14 v15 hb hr16 r=>?_;have zw14:=hb.size
  have hb1:=keep hb hb1;have hb4:=keep hb hb4;have hb7:=keep hb hb7;have hb10:=keep hb hb10;obtain ⟨hB,zB⟩:=bon hb hB;refine kP r hr16.shape rfl rfl hb10 ts133 rfl rfl fun w17 u18 r=>?_;have zw17:=u18.size
  have hb1:=u18.keep hb1 (by omega)
  have hb4:=u18.keep hb4 (by omega)
  have hb7:=u18.keep hb7 (by omega)
  have hb10:=u18.at_;obtain ⟨hB,zB⟩:=u18.on hB (by omega)
  refine wn (wp_ret ?_);have hd:D.hazard_clear_body r_hazard_clear a0 a1 a2=D.prog_Done_None:=(cond_t h13).trans (rfl);have hs:=hr16.shape.cells;refine ret_cell r rfl rfl hb10 (k:=6) hs.1 ta133 ?_;rw [←hs.2.2,hd];exact rfin hF hB hr16 u18 (by omega) (by omega) (by omega)
 refine wp_skip (wsr (kG (planC a0) 6 r rfl hb1 ta23 rfl rfl fun r=>kL (I a1) r rfl hb4 to3 rfl rfl fun r=>kL (I a2) r rfl hb7 to3 rfl rfl fun r=>?_));have hF1:=fgrow hF hB b10
 refine kD r (c_hazard_Set (F:=(kW F w0 w11 b10)) (n:=n) hF1 a0 a1 a2 (-1)) rfl cl229 rfl fun w19 v20 hb hr21 r=>?_;have zw19:=hb.size
 have hb1:=keep hb hb1;have hb4:=keep hb hb4;have hb7:=keep hb hb7;have hb10:=keep hb hb10;obtain ⟨hB,zB⟩:=bon hb hB;refine seq_val (.func (.func 353) #[] #[zp b1,zp b4,zp b7]) r (fun R=>y_makeFunc r rfl) rfl fun fr r=>?_;have hF1:=fgrow hF hB b10
 have f22:((kW F w0 w19 b10)) b1:=(.inr ⟨by omega,by omega,by omega⟩)
 have f23:((kW F w0 w19 b10)) b4:=(.inr ⟨by omega,by omega,by omega⟩)
 have f24:((kW F w0 w19 b10)) b7:=(.inr ⟨by omega,by omega,by omega⟩)
 refine kD r (c_prog_Then_None_None_lt (F:=(kW F w0 w19 b10)) (n:=n) hF1 (Rep.mono (by rintro b (h | h); (rcases h with h | ⟨h1,h2,h3⟩; exact .inl h; exact .inr ⟨h1,by omega,h3⟩); exact .inr ⟨by omega,by omega,by omega⟩) (Same.refl _ _) (by omega) n _ _ hr21) ⟨353,[],[zp b1,zp b4,zp b7],cl353,rfl,fun m hm _ w' hs hz=>c_hazard_clear_1 (fun b hb=>Nat.lt_of_lt_of_le (hF1 b hb) hz) (fun m' hm'=>ih_hazard_clear m' (by omega)) a0 f22 (hs.at_ f22 hb1) a1 f23 (hs.at_ f23 hb4) a2 f24 (hs.at_ f24 hb7)⟩ rfl) rfl cl352 rfl fun w25 v26 hb hr27 r=>?_
 have zw25:=hb.size;have hb1:=keep hb hb1;have hb4:=keep hb hb4;have hb7:=keep hb hb7;have hb10:=keep hb hb10;obtain ⟨hB,zB⟩:=bon hb hB;refine kP r hr27.shape rfl rfl hb10 ts133 rfl rfl fun w28 u29 r=>?_;have zw28:=u29.size
 have hb1:=u29.keep hb1 (by omega)
 have hb4:=u29.keep hb4 (by omega)
 have hb7:=u29.keep hb7 (by omega)
 have hb10:=u29.at_;obtain ⟨hB,zB⟩:=u29.on hB (by omega)
 refine wn (wp_ret ?_);have hd:D.hazard_clear_body r_hazard_clear a0 a1 a2=(T.bind (D.hazard_Set a0 a1 a2 (-1)) (fun _=>(D.hazard_clear_1 r_hazard_clear a0 a1 a2))):=(cond_f h13).trans (rfl)
 have hs:=hr27.shape.cells;refine ret_cell r rfl rfl hb10 (k:=6) hs.1 ta133 ?_;rw [←hs.2.2,hd];exact rfin hF hB hr27 u29 (by omega) (by omega) (by omega)
theorem c_hazard_clear {n:Nat} {k:Nat} (hk:n<k):Spec_hazard_clear (D.hazard_clear k) n:=by
  induction n using Nat.strongRecOn generalizing k with
  | _ n ih=>
    obtain ⟨k,rfl⟩:∃ q,k=q+1:=⟨k - 1,by omega⟩
    intro F w0 hF;have h:=@b_hazard_clear n F (D.hazard_clear k) w0 hF (fun m hm=>ih m hm (by omega))
    exact h
def D.hazard_Clear (j:Nat) (a0:Plan) (a1:Int):T Unit:=(D.hazard_clear j a0 a1 0)
theorem c_hazard_Clear (hF:kH F w0) (hj:n<j)
    (a0:Plan) (a1:Int) :
    Calls Tryz.prog 238 #[.agg (planC a0).toArray,.int .i64 a1] w0 (RepRes Tryz.prog encNone n (D.hazard_Clear j a0 a1) F w0):=by
 refine kN Tryz.func238 rfl 8 rfl rfl fun fr r hB=>?_;refine wsr ?_
 refine kX 23 (.agg (planC a0).toArray) r rfl rfl fun b1 w2 n3 r=>?_;obtain ⟨eb1,zw2,hb1,hB,zB⟩:=n3.all hB
 refine seq_new (.cells (kq encNone) 133 (0,0)) r (fun R=>y_alloc tz133) rfl fun fr b4 w5 n6 r=>?_;have hb1:=keep n6.below hb1
 obtain ⟨eb4,zw5,hb4,hB,zB⟩:=n6.all hB;refine wn (wsr (kG (planC a0) 6 r rfl hb1 ta23 rfl rfl fun r=>kM (I a1) r rfl rfl fun r=>?_));have hF1:=fgrow hF hB b4
 refine kD r ((c_hazard_clear (k:=j) (n:=n) (by omega)) (kW F w0 w5 b4) _ hF1 a0 a1 0) rfl cl304 rfl fun w7 v8 hb hr9 r=>?_;have zw7:=hb.size
 have hb1:=keep hb hb1;have hb4:=keep hb hb4;obtain ⟨hB,zB⟩:=bon hb hB;refine kP r hr9.shape rfl rfl hb4 ts133 rfl rfl fun w10 u11 r=>?_;have zw10:=u11.size
 have hb1:=u11.keep hb1 (by omega)
 have hb4:=u11.at_;obtain ⟨hB,zB⟩:=u11.on hB (by omega)
 exact wn (wp_ret (kR r hr9 rfl rfl hb4 rfl ta133 hF hB u11 (by omega) (by omega) (by omega)))
end
end Go.Proofs.YtbbipmelhmgmfaaGreat

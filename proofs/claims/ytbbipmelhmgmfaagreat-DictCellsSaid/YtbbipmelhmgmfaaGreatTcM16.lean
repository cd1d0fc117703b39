/- Some of our texts, one behind the other. -/
import Derived.Test.YtbbipmelhmgmfaaGreatTcM4
import Derived.Test.YtbbipmelhmgmfaaGreatTcRetires
import Derived.Test.YtbbipmelhmgmfaaGreatTcM8
import Derived.Test.YtbbipmelhmgmfaaGreatTcM7
import Derived.Test.YtbbipmelhmgmfaaGreatTcOps
set_option linter.all false
set_option maxRecDepth 100000
set_option maxHeartbeats 20000000
/- Ours. -/
namespace Go.Proofs.YtbbipmelhmgmfaaGreat
open Go.RowKit
def PrepP {R:Type} (P:Program) (E:Enc R) (n:Nat) (t:T R) (F:Nat→Prop) (w:World):Value→World→Prop:=fun v x=>Below w.heap.size w x∧Rep P E n t (grow F w x) x v
theorem PrepP.st {R:Type} {P:Program} {E:Enc R} {n:Nat} {t:T R} {F:Nat→Prop} {w:World} (hF:∀ b,F b→b<w.heap.size):∀ v w1 w2,PrepP P E n t F w v w1→Below w1.heap.size w1 w2→PrepP P E n t F w v w2:=by
  rintro v w1 w2 ⟨h1,h2⟩ hb;refine ⟨h1.trans (hb.mono h1.size),Rep.mono ?_ ?_ hb.size n _ _ h2⟩
  · rintro b (h | ⟨h3,h4⟩)
    · exact .inl h
    · exact .inr ⟨h3,Nat.lt_of_lt_of_le h4 hb.size⟩
  · rintro b (h | ⟨h3,h4⟩)
    · exact hb.block b (Nat.lt_of_lt_of_le (hF b h) h1.size)
    · exact hb.block b h4
theorem PrepP.of {R:Type} {P:Program} {E:Enc R} {n:Nat} {t:T R} {F:Nat→Prop} {w w1 w2:World} {v:Value} (h1:Below w.heap.size w w1) (hb:Below w1.heap.size w1 w2) (h:Rep P E n t (grow F w1 w2) w2 v):PrepP P E n t F w v w2:=by
  refine ⟨h1.trans (hb.mono h1.size),Rep.mono ?_ (fun b _=>rfl) (Nat.le_refl _) n _ _ h⟩
  rintro b (h | ⟨h3,h4⟩)
  · exact .inl h
  · exact .inr ⟨Nat.le_trans h1.size h3,h4⟩
theorem drB {w w':World} {d:Nat} (h:Below w.heap.size { w with drawn:=d } w'):Below w.heap.size w w':=⟨h.os,h.tape,h.output,h.size,h.block⟩
section
variable {n : Nat} {F : Nat → Prop} {j : Nat} {w0 : World}
theorem cl138:callable Tryz.prog 138:=by kernel_rfl
theorem cl141:callable Tryz.prog 141:=by kernel_rfl
theorem cl178:callable Tryz.prog 178:=by kernel_rfl
theorem cl179:callable Tryz.prog 179:=by kernel_rfl
theorem cl180:callable Tryz.prog 180:=by kernel_rfl
theorem cl183:callable Tryz.prog 183:=by kernel_rfl
theorem cl184:callable Tryz.prog 184:=by kernel_rfl
theorem cl185:callable Tryz.prog 185:=by kernel_rfl
theorem cl187:callable Tryz.prog 187:=by kernel_rfl
theorem cl189:callable Tryz.prog 189:=by kernel_rfl
theorem cl221:callable Tryz.prog 221:=by kernel_rfl
theorem cl224:callable Tryz.prog 224:=by kernel_rfl
theorem cl225:callable Tryz.prog 225:=by kernel_rfl
theorem cl226:callable Tryz.prog 226:=by kernel_rfl
theorem cl269:callable Tryz.prog 269:=by kernel_rfl
theorem cl270:callable Tryz.prog 270:=by kernel_rfl
theorem cl271:callable Tryz.prog 271:=by kernel_rfl
theorem cl272:callable Tryz.prog 272:=by kernel_rfl
theorem cl273:callable Tryz.prog 273:=by kernel_rfl
theorem ts233:sized Tryz.prog 233 1:=by kernel_rfl
theorem ts261:sized Tryz.prog 261 1:=by kernel_rfl
theorem tz233:zeroOf Tryz.prog 233=some .nilFunc:=by kernel_rfl
theorem tz261:zeroOf Tryz.prog 261=some .nilFunc:=by kernel_rfl
def D.alloc_grant_1_1 (c0:Int) (c1:State):T Grant:=(D.prog_Done_Grant (⟨c0,c1.gen,0⟩:Grant))
theorem c_alloc_grant_1_1 (hF:kH F w0)
    (c0:Int) {c0b:Nat} (c0F:F c0b) (c0h:w0.heap[c0b]?=some (.cells ([(.int .i64 c0)]).toArray 3 (0,0))) (c1:State) {c1b:Nat} (c1F:F c1b) (c1h:w0.heap[c1b]?=some (.cells ((stateC c1)).toArray 190 (0,0))) :
    Calls Tryz.prog 273 #[zp c0b,zp c1b] w0 (RepRes Tryz.prog encGrant n (D.alloc_grant_1_1 c0 c1) F w0):=by
 refine kN Tryz.func273 rfl 8 rfl rfl fun fr r hB=>?_;have lc0b:=lt_of_block c0h
 have lc1b:=lt_of_block c1h;refine wsr ?_;refine seq_new (.cells (kq encGrant) 116 (0,0)) r (fun R=>y_alloc tz116) rfl fun fr b1 w2 n3 r=>?_;obtain ⟨E1,Z2,H1,hB,zB⟩:=n3.all hB
 refine wn (wsr (kL (I c0) r rfl (keep hB c0h) to3 rfl rfl fun r=>kF 0 r rfl fo190_0 rfl fun r=>kL (I c1.gen) r rfl (keep hB c1h) to3 rfl rfl fun r=>kU (.agg (grantC (⟨c0,c1.gen,0⟩:Grant)).toArray) r (by kernel_rfl) rfl fun r=>?_));have hF1:=fgrow hF hB b1
 refine kD r (c_prog_Done_Grant (F:=(kW F w0 w2 b1)) (n:=n) hF1 (⟨c0,c1.gen,0⟩:Grant)) rfl cl179 rfl fun w4 v5 hb hr6 r=>?_;have Z4:=hb.size
 have H1:=keep hb H1;obtain ⟨hB,zB⟩:=bon hb hB;refine kP r hr6.shape rfl rfl H1 ts116 rfl rfl fun w7 u8 r=>?_;have Z7:=u8.size
 have H1:=u8.at_;obtain ⟨hB,zB⟩:=u8.on hB (by omega)
 exact wn (wp_ret (kR r hr6 rfl rfl H1 rfl ta116 hF hB u8 (by omega) (by omega) (by omega)))
def D.alloc_grant_1 (c0:Plan) (c1:Int) (c2:Int) (a0:Int):T Grant:=(D.prog_Store_Grant (D.plan_Plan_State c0 c1) (D.state_State_Word (D.state_State_Live ((D.state_Of a0).1) c2)) (fun _=>(D.alloc_grant_1_1 c1 ((D.state_Of a0).1))))
theorem c_alloc_grant_1 (hF:kH F w0)
    (c0:Plan) {c0b:Nat} (c0F:F c0b) (c0h:w0.heap[c0b]?=some (.cells ((planC c0)).toArray 23 (0,0))) (c1:Int) {c1b:Nat} (c1F:F c1b) (c1h:w0.heap[c1b]?=some (.cells ([(.int .i64 c1)]).toArray 3 (0,0))) (c2:Int) {c2b:Nat} (c2F:F c2b) (c2h:w0.heap[c2b]?=some (.cells ([(.int .i64 c2)]).toArray 3 (0,0))) (a0:Int) :
    Calls Tryz.prog 270 #[.int .u64 a0,zp c0b,zp c1b,zp c2b] w0 (RepRes Tryz.prog encGrant n (D.alloc_grant_1 c0 c1 c2 a0) F w0):=by
 refine kN Tryz.func270 rfl 22 rfl rfl fun fr r hB=>?_;have lc0b:=lt_of_block c0h
 have lc1b:=lt_of_block c1h;have lc2b:=lt_of_block c2h;refine wsr ?_;refine seq_new (.cells (kq encGrant) 116 (0,0)) r (fun R=>y_alloc tz116) rfl fun fr b1 w2 n3 r=>?_;obtain ⟨E1,Z2,H1,hB,zB⟩:=n3.all hB
 refine wn (wsr (kM (U a0) r rfl rfl fun r=>?_));refine kE r (c_state_Of w2 a0) rfl cl111 rfl fun w4 hb r=>?_
 have Z4:=hb.size;have H1:=keep hb H1;obtain ⟨hB,zB⟩:=bon hb hB;refine kM (.tuple #[(.agg (stateC (D.state_Of a0).1).toArray),(.bool (D.state_Of a0).2)]) r rfl rfl fun r=>seq_val (.agg (stateC (D.state_Of a0).1).toArray) r (fun R=>y_extract r (vs:=#[(.agg (stateC (D.state_Of a0).1).toArray),(.bool (D.state_Of a0).2)]) rfl rfl) rfl fun fr r=>seq_val (.bool (D.state_Of a0).2) r (fun R=>y_extract r (vs:=#[(.agg (stateC (D.state_Of a0).1).toArray),(.bool (D.state_Of a0).2)]) rfl rfl) rfl fun fr r=>?_;refine seq_new (.cells ((stateC (⟨0,0,0⟩:State))).toArray 190 (0,0)) r (fun R=>y_alloc tz190) rfl fun fr b5 w6 n7 r=>?_
 have H1:=keep n7.below H1;obtain ⟨E5,Z6,H5,hB,zB⟩:=n7.all hB;refine seq_upd (.cells ((stateC ((D.state_Of a0).1))).toArray 190 (0,0)) r (fun R=>y_store r (o:=0) (v:=(.agg (stateC (D.state_Of a0).1).toArray)) rfl rfl H5 ts190 (Nat.le_of_ble_eq_true rfl) rfl rfl) rfl fun fr w8 u9 r=>?_;have Z8:=u9.size
 have H1:=u9.keep H1 (by omega)
 have H5:=u9.at_;obtain ⟨hB,zB⟩:=u9.on hB (by omega)
 refine kA (.bool (D.state_Of a0).2) r rfl rfl fun r=>wn (wp_seq ?_);refine wp_drawnF 8 [.val (.agg (planC c0).toArray),.val (I c1),.val (I (D.plan_Plan_State c0 c1)),.val (.agg (stateC (D.state_Of a0).1).toArray),.val (I c2),.val (.agg (stateC (D.state_State_Live ((D.state_Of a0).1) c2)).toArray),.val (U (D.state_State_Word (D.state_State_Live ((D.state_Of a0).1) c2))),.val (.func (.func 273) #[] #[zp c1b,zp b5])] mixed r (by kernel_rfl) (kV (kV (kV (kV (kV (kV (kV (kV within_nil)))))))) ?_ ?_
 ·
  refine ec r (fun _ u _ b d s=>y_load_agg s (cs:=(planC c0)) (n:=6) rfl (keep2 hB b c0h) ta23 rfl bz) (ec r (fun _ u _ b d s=>y_load_one s rfl (keep2 hB b c1h) to3 rfl bz) (ec r (fun fr1 u w' hb' hd r'=>y_call r' (args:=[(.agg (planC c0).toArray),(I c1)]) (lc hd.1 (lc hd.2.1 l0)) cl112 ((c_plan_Plan_State _ c0 c1).mono (by rintro _ w2 ⟨rfl,hb2⟩; exact ⟨_,rfl,hb2,rfl⟩))) (ec r (fun _ u _ b d s=>y_load_agg s (cs:=(stateC ((D.state_Of a0).1))) (n:=3) rfl (keep b H5) ta190 rfl bz) (ec r (fun _ u _ b d s=>y_load_one s rfl (keep2 hB b c2h) to3 rfl bz) (ec r (fun fr1 u w' hb' hd r'=>y_call r' (args:=[(.agg (stateC (D.state_Of a0).1).toArray),(I c2)]) (lc hd.1 (lc hd.2.1 l0)) cl272 ((c_state_State_Live _ ((D.state_Of a0).1) c2).mono (by rintro _ w2 ⟨rfl,hb2⟩; exact ⟨_,rfl,hb2,rfl⟩))) (ec r (fun fr1 u w' hb' hd r'=>y_call r' (args:=[(.agg (stateC (D.state_State_Live ((D.state_Of a0).1) c2)).toArray)]) (lc hd.1 l0) cl137 ((c_state_State_Word _ (D.state_State_Live ((D.state_Of a0).1) c2)).mono (by rintro _ w2 ⟨rfl,hb2⟩; exact ⟨_,rfl,hb2,rfl⟩))) (ec r (fun _ u _ b d s=>y_makeFunc s (v:=(.func (.func 273) #[] #[zp c1b,zp b5])) rfl bz) ?_)))))));exact each_nil
 intro fr u w10 hb hΦ hne r;have r:=r.congr (sc (hΦ 7 (by decide)) (sc (hΦ 6 (by decide)) (sc (hΦ 5 (by decide)) (sc (hΦ 4 (by decide)) (sc (hΦ 3 (by decide)) (sc (hΦ 2 (by decide)) (sc (hΦ 1 (by decide)) (sc (hΦ 0 (by decide)) rfl))))))));have Z10:=hb.size;have H1:=keep hb H1;have H5:=keep hb H5;obtain ⟨hB,zB⟩:=bon hb hB;have hF1:=fgrow hF hB b1;have f11:((kW F w0 w10 b1)) c1b:=(.inl c1F);have f12:((kW F w0 w10 b1)) b5:=(.inr ⟨by omega,by omega,by omega⟩)
 refine kD r (c_prog_Store_Grant (F:=(kW F w0 w10 b1)) (n:=n) hF1 (D.plan_Plan_State c0 c1) (D.state_State_Word (D.state_State_Live ((D.state_Of a0).1) c2)) ⟨273,[],[zp c1b,zp b5],cl273,rfl,fun m hm _ w' hs hz=>c_alloc_grant_1_1 (fun b hb=>Nat.lt_of_lt_of_le (hF1 b hb) hz) c1 f11 (hs.at_ f11 (keep hB c1h)) ((D.state_Of a0).1) f12 (hs.at_ f12 H5)⟩) rfl cl271 rfl fun w13 v14 hb hr15 r=>?_;have Z13:=hb.size
 have H1:=keep hb H1;have H5:=keep hb H5;obtain ⟨hB,zB⟩:=bon hb hB;refine kP r hr15.shape rfl rfl H1 ts116 rfl rfl fun w16 u17 r=>?_;have Z16:=u17.size
 have H5:=u17.keep H5 (by omega)
 have H1:=u17.at_;obtain ⟨hB,zB⟩:=u17.on hB (by omega)
 exact wn (wp_ret (kR r hr15 rfl rfl H1 rfl ta116 hF hB u17 (by omega) (by omega) (by omega)))
def D.alloc_grant (a0:Plan) (a1:Int) (a2:Int):T Grant:=(D.prog_Load_Grant (D.plan_Plan_State a0 a1) (fun x=>(D.alloc_grant_1 a0 a1 a2 x)))
theorem c_alloc_grant (hF:kH F w0)
    (a0:Plan) (a1:Int) (a2:Int) :
    Calls Tryz.prog 180 #[.agg (planC a0).toArray,.int .i64 a1,.int .i64 a2] w0 (RepRes Tryz.prog encGrant n (D.alloc_grant a0 a1 a2) F w0):=by
 refine kN Tryz.func180 rfl 12 rfl rfl fun fr r hB=>?_;refine wsr ?_
 refine kX 23 (.agg (planC a0).toArray) r rfl rfl fun b1 w2 n3 r=>?_;obtain ⟨E1,Z2,H1,hB,zB⟩:=n3.all hB
 refine kX 3 (I a1) r rfl rfl fun b4 w5 n6 r=>?_;have H1:=keep n6.below H1
 obtain ⟨E4,Z5,H4,hB,zB⟩:=n6.all hB;refine kX 3 (I a2) r rfl rfl fun b7 w8 n9 r=>?_;have H1:=keep n9.below H1
 have H4:=keep n9.below H4;obtain ⟨E7,Z8,H7,hB,zB⟩:=n9.all hB;refine seq_new (.cells (kq encGrant) 116 (0,0)) r (fun R=>y_alloc tz116) rfl fun fr b10 w11 n12 r=>?_;have H1:=keep n12.below H1
 have H4:=keep n12.below H4;have H7:=keep n12.below H7;obtain ⟨E10,Z11,H10,hB,zB⟩:=n12.all hB;refine wn (wsr (kG (planC a0) 6 r rfl H1 ta23 rfl rfl fun r=>kL (I a1) r rfl H4 to3 rfl rfl fun r=>?_));refine kE r (c_plan_Plan_State w11 a0 a1) rfl cl112 rfl fun w13 hb r=>?_
 have Z13:=hb.size;have H1:=keep hb H1;have H4:=keep hb H4;have H7:=keep hb H7;have H10:=keep hb H10;obtain ⟨hB,zB⟩:=bon hb hB;refine seq_val (.func (.func 270) #[] #[zp b1,zp b4,zp b7]) r (fun R=>y_makeFunc r rfl) rfl fun fr r=>?_;have hF1:=fgrow hF hB b10
 have f14:((kW F w0 w13 b10)) b1:=(.inr ⟨by omega,by omega,by omega⟩)
 have f15:((kW F w0 w13 b10)) b4:=(.inr ⟨by omega,by omega,by omega⟩)
 have f16:((kW F w0 w13 b10)) b7:=(.inr ⟨by omega,by omega,by omega⟩)
 refine kD r (c_prog_Load_Grant (F:=(kW F w0 w13 b10)) (n:=n) hF1 (D.plan_Plan_State a0 a1) ⟨270,[],[zp b1,zp b4,zp b7],cl270,rfl,fun m hm x w' hs hz=>c_alloc_grant_1 (fun b hb=>Nat.lt_of_lt_of_le (hF1 b hb) hz) a0 f14 (hs.at_ f14 H1) a1 f15 (hs.at_ f15 H4) a2 f16 (hs.at_ f16 H7) x⟩) rfl cl269 rfl fun w17 v18 hb hr19 r=>?_;have Z17:=hb.size
 have H1:=keep hb H1;have H4:=keep hb H4;have H7:=keep hb H7;have H10:=keep hb H10;obtain ⟨hB,zB⟩:=bon hb hB;refine kP r hr19.shape rfl rfl H10 ts116 rfl rfl fun w20 u21 r=>?_;have Z20:=u21.size
 have H1:=u21.keep H1 (by omega)
 have H4:=u21.keep H4 (by omega)
 have H7:=u21.keep H7 (by omega)
 have H10:=u21.at_;obtain ⟨hB,zB⟩:=u21.on hB (by omega)
 exact wn (wp_ret (kR r hr19 rfl rfl H10 rfl ta116 hF hB u21 (by omega) (by omega) (by omega)))
def D.alloc_New_1 (c0:Plan) (c1:Int) (a0:Int):T Grant:=(bif (a0==(-1)) then (D.prog_Done_Grant (⟨(-1),0,4⟩:Grant)) else (D.alloc_grant c0 a0 c1))
theorem c_alloc_New_1 (hF:kH F w0)
    (c0:Plan) {c0b:Nat} (c0F:F c0b) (c0h:w0.heap[c0b]?=some (.cells ((planC c0)).toArray 23 (0,0))) (c1:Int) {c1b:Nat} (c1F:F c1b) (c1h:w0.heap[c1b]?=some (.cells ([(.int .i64 c1)]).toArray 3 (0,0))) (a0:Int) :
    Calls Tryz.prog 178 #[.int .i64 a0,zp c0b,zp c1b] w0 (RepRes Tryz.prog encGrant n (D.alloc_New_1 c0 c1 a0) F w0):=by
 refine kN Tryz.func178 rfl 13 rfl rfl fun fr r hB=>?_;have lc0b:=lt_of_block c0h
 have lc1b:=lt_of_block c1h;refine wsr ?_;refine seq_new (.cells (kq encGrant) 116 (0,0)) r (fun R=>y_alloc tz116) rfl fun fr b1 w2 n3 r=>?_;obtain ⟨E1,Z2,H1,hB,zB⟩:=n3.all hB
 refine wn (wp_seq (wsr (kM (I a0) r rfl rfl fun r=>kB r rfl rfl rfl rfl rfl fun r=>wn ?_)));refine wp_cond_split (t:=(a0==(-1))) (r.ev rfl) (fun h4=>?_) (fun h4=>?_)
 ·
  refine wsr (kU (.agg (grantC (⟨(-1),0,4⟩:Grant)).toArray) r (by kernel_rfl) rfl fun r=>?_);have hF1:=fgrow hF hB b1
  refine kD r (c_prog_Done_Grant (F:=(kW F w0 w2 b1)) (n:=n) hF1 (⟨(-1),0,4⟩:Grant)) rfl cl179 rfl fun w5 v6 hb hr7 r=>?_;have Z5:=hb.size
  have H1:=keep hb H1;obtain ⟨hB,zB⟩:=bon hb hB;refine kP r hr7.shape rfl rfl H1 ts116 rfl rfl fun w8 u9 r=>?_;have Z8:=u9.size
  have H1:=u9.at_;obtain ⟨hB,zB⟩:=u9.on hB (by omega)
  refine wn (wp_ret ?_);have hd:D.alloc_New_1 c0 c1 a0=(D.prog_Done_Grant (⟨(-1),0,4⟩:Grant)):=(cond_t h4).trans (rfl);have hs:=hr7.shape.cells;refine ret_cell r rfl rfl H1 (k:=9) hs.1 ta116 ?_;rw [←hs.2.2,hd];exact rfin hF hB hr7 u9 (by omega) (by omega) (by omega)
 refine wp_skip (wsr (kG (planC c0) 6 r rfl (keep hB c0h) ta23 rfl rfl fun r=>kM (I a0) r rfl rfl fun r=>kL (I c1) r rfl (keep hB c1h) to3 rfl rfl fun r=>?_));have hF1:=fgrow hF hB b1
 refine kD r (c_alloc_grant (F:=(kW F w0 w2 b1)) (n:=n) hF1 c0 a0 c1) rfl cl180 rfl fun w10 v11 hb hr12 r=>?_;have Z10:=hb.size
 have H1:=keep hb H1;obtain ⟨hB,zB⟩:=bon hb hB;refine kP r hr12.shape rfl rfl H1 ts116 rfl rfl fun w13 u14 r=>?_;have Z13:=u14.size
 have H1:=u14.at_;obtain ⟨hB,zB⟩:=u14.on hB (by omega)
 refine wn (wp_ret ?_);have hd:D.alloc_New_1 c0 c1 a0=(D.alloc_grant c0 a0 c1):=(cond_f h4).trans (rfl);have hs:=hr12.shape.cells;refine ret_cell r rfl rfl H1 (k:=9) hs.1 ta116 ?_;rw [←hs.2.2,hd];exact rfin hF hB hr12 u14 (by omega) (by omega) (by omega)
def D.alloc_New_2_1 (j:Nat) (c0:Plan) (c1:(Int→T Grant)) (a0:Int):T Grant:=(T.bind (D.free_Pop j c0) c1)
theorem c_alloc_New_2_1 (hF:kH F w0) (hj:n<j)
    (c0:Plan) {c0b:Nat} (c0F:F c0b) (c0h:w0.heap[c0b]?=some (.cells ((planC c0)).toArray 23 (0,0))) {c1f:FuncId} {c1_1 c1_2:List Value} {c1:(Int→T Grant)} {c1b:Nat} (c1F:F c1b) (c1h:w0.heap[c1b]?=some (.cells #[kf c1f c1_1 c1_2] 233 (0,0))) (c1n:FnT Tryz.prog encGrant i64 (n+1) F w0 (kf c1f c1_1 c1_2) c1) (a0:Int) :
    Calls Tryz.prog 185 #[.int .i64 a0,zp c0b,zp c1b] w0 (RepRes Tryz.prog encGrant n (D.alloc_New_2_1 j c0 c1 a0) F w0):=by
 refine kN Tryz.func185 rfl 9 rfl rfl fun fr r hB=>?_;have lc0b:=lt_of_block c0h
 have lc1b:=lt_of_block c1h;refine wsr ?_;refine seq_new (.cells (kq encGrant) 116 (0,0)) r (fun R=>y_alloc tz116) rfl fun fr b1 w2 n3 r=>?_;obtain ⟨E1,Z2,H1,hB,zB⟩:=n3.all hB
 refine wn (wp_seq ?_);have hF1:=fgrow hF hB b1;refine wp_drawnF 3 [.val (.agg (planC c0).toArray),.pred (PrepP Tryz.prog encInt n (D.free_Pop j c0) ((kW F w0 w2 b1)) w2) (PrepP.st hF1),.val (kf c1f c1_1 c1_2)] mixed r (by kernel_rfl) (kV (kV (kV within_nil))) ?_ ?_
 ·
  refine ec r (fun _ u _ b d s=>y_load_agg s (cs:=(planC c0)) (n:=6) rfl (keep2 hB b c0h) ta23 rfl bz) (ec r (fun fr1 u w' hb' hd r'=>y_call r' (args:=[(.agg (planC c0).toArray)]) (lc hd.1 l0) cl182 (((c_free_Pop (k:=j) (n:=n) (by omega)) ((kW F w0 w2 b1)) _ (fun b h=>Nat.lt_of_lt_of_le (hF1 b h) hb'.size) c0).mono (by rintro _ w2 ⟨y,rfl,hb2,hr2⟩; exact ⟨_,rfl,hb2,PrepP.of (drB hb') hb2 hr2⟩))) (ec r (fun _ u _ b d s=>y_load_one s rfl (keep2 hB b c1h) to233 rfl bz) ?_));exact each_nil
 intro fr u w4 hb hΦ hne r;obtain ⟨v5,hv1⟩:∃ v,v=u 1:=⟨_,rfl⟩;have g1:u 1=v5:=hv1.symm;have hr6:=(hΦ 1 (by decide)).2;rw [g1] at hr6
 have r:=r.congr (sc (hΦ 2 (by decide)) (sc g1 (sc (hΦ 0 (by decide)) rfl)))
 have Z4:=hb.size;have H1:=keep hb H1;obtain ⟨hB,zB⟩:=bon hb hB;have hF1:=fgrow hF hB b1;refine kD r (c_prog_Then_int_Grant_le (F:=(kW F w0 w4 b1)) (n:=n) hF1 (Rep.mono (by rintro b (h | h); (rcases h with h | ⟨h1,h2,h3⟩; exact .inl h; exact .inr ⟨h1,by omega,h3⟩); exact .inr ⟨by omega,by omega,by omega⟩) (Same.refl _ _) (by omega) n _ _ hr6) (c1n.mono (by omega) (fun b h=>.inl h) (Same.below hB hF) hB.size)) rfl cl181 rfl fun w7 v8 hb hr9 r=>?_
 have Z7:=hb.size;have H1:=keep hb H1;obtain ⟨hB,zB⟩:=bon hb hB;refine kP r hr9.shape rfl rfl H1 ts116 rfl rfl fun w10 u11 r=>?_;have Z10:=u11.size
 have H1:=u11.at_;obtain ⟨hB,zB⟩:=u11.on hB (by omega)
 exact wn (wp_ret (kR r hr9 rfl rfl H1 rfl ta116 hF hB u11 (by omega) (by omega) (by omega)))
def D.alloc_New_2 (j:Nat) (c0:Plan) (c1:Int) (c2:Int) (c3:(Int→T Grant)) (a0:Int):T Grant:=(bif (a0 !=(-1)) then (D.alloc_grant c0 a0 c1) else (T.bind (D.retire_Scan j c0 c2) (fun x=>(D.alloc_New_2_1 j c0 c3 x))))
theorem c_alloc_New_2 (hF:kH F w0) (hj:n<j)
    (c0:Plan) {c0b:Nat} (c0F:F c0b) (c0h:w0.heap[c0b]?=some (.cells ((planC c0)).toArray 23 (0,0))) (c1:Int) {c1b:Nat} (c1F:F c1b) (c1h:w0.heap[c1b]?=some (.cells ([(.int .i64 c1)]).toArray 3 (0,0))) (c2:Int) {c2b:Nat} (c2F:F c2b) (c2h:w0.heap[c2b]?=some (.cells ([(.int .i64 c2)]).toArray 3 (0,0))) {c3f:FuncId} {c3_1 c3_2:List Value} {c3:(Int→T Grant)} {c3b:Nat} (c3F:F c3b) (c3h:w0.heap[c3b]?=some (.cells #[kf c3f c3_1 c3_2] 233 (0,0))) (c3n:FnT Tryz.prog encGrant i64 (n+1) F w0 (kf c3f c3_1 c3_2) c3) (a0:Int) :
    Calls Tryz.prog 183 #[.int .i64 a0,zp c0b,zp c1b,zp c2b,zp c3b] w0 (RepRes Tryz.prog encGrant n (D.alloc_New_2 j c0 c1 c2 c3 a0) F w0):=by
 refine kN Tryz.func183 rfl 18 rfl rfl fun fr r hB=>?_;have lc0b:=lt_of_block c0h
 have lc1b:=lt_of_block c1h;have lc2b:=lt_of_block c2h;have lc3b:=lt_of_block c3h;refine wsr ?_;refine seq_new (.cells (kq encGrant) 116 (0,0)) r (fun R=>y_alloc tz116) rfl fun fr b1 w2 n3 r=>?_;obtain ⟨E1,Z2,H1,hB,zB⟩:=n3.all hB
 refine wn (wp_seq (wsr (kM (I a0) r rfl rfl fun r=>kB r rfl rfl rfl rfl rfl fun r=>wn ?_)));refine wp_cond_split (t:=(a0 !=(-1))) (r.ev rfl) (fun h4=>?_) (fun h4=>?_)
 ·
  refine wsr (kG (planC c0) 6 r rfl (keep hB c0h) ta23 rfl rfl fun r=>kM (I a0) r rfl rfl fun r=>kL (I c1) r rfl (keep hB c1h) to3 rfl rfl fun r=>?_);have hF1:=fgrow hF hB b1
  refine kD r (c_alloc_grant (F:=(kW F w0 w2 b1)) (n:=n) hF1 c0 a0 c1) rfl cl180 rfl fun w5 v6 hb hr7 r=>?_;have Z5:=hb.size
  have H1:=keep hb H1;obtain ⟨hB,zB⟩:=bon hb hB;refine kP r hr7.shape rfl rfl H1 ts116 rfl rfl fun w8 u9 r=>?_;have Z8:=u9.size
  have H1:=u9.at_;obtain ⟨hB,zB⟩:=u9.on hB (by omega)
  refine wn (wp_ret ?_);have hd:D.alloc_New_2 j c0 c1 c2 c3 a0=(D.alloc_grant c0 a0 c1):=(cond_t h4).trans (rfl);have hs:=hr7.shape.cells;refine ret_cell r rfl rfl H1 (k:=9) hs.1 ta116 ?_;rw [←hs.2.2,hd];exact rfin hF hB hr7 u9 (by omega) (by omega) (by omega)
 refine wp_skip (wsr (kG (planC c0) 6 r rfl (keep hB c0h) ta23 rfl rfl fun r=>kL (I c2) r rfl (keep hB c2h) to3 rfl rfl fun r=>?_));have hF1:=fgrow hF hB b1
 refine kD r (c_retire_Scan (j:=j) (F:=(kW F w0 w2 b1)) (n:=n) hF1 (by omega) c0 c2) rfl cl184 rfl fun w10 v11 hb hr12 r=>?_;have Z10:=hb.size
 have H1:=keep hb H1;obtain ⟨hB,zB⟩:=bon hb hB;refine seq_val (.func (.func 185) #[] #[zp c0b,zp c3b]) r (fun R=>y_makeFunc r rfl) rfl fun fr r=>?_;have hF1:=fgrow hF hB b1
 have f13:((kW F w0 w10 b1)) c0b:=(.inl c0F);have f14:((kW F w0 w10 b1)) c3b:=(.inl c3F);refine kD r (c_prog_Then_int_Grant_le (F:=(kW F w0 w10 b1)) (n:=n) hF1 (Rep.mono (by rintro b (h | h); (rcases h with h | ⟨h1,h2,h3⟩; exact .inl h; exact .inr ⟨h1,by omega,h3⟩); exact .inr ⟨by omega,by omega,by omega⟩) (Same.refl _ _) (by omega) n _ _ hr12) ⟨185,[],[zp c0b,zp c3b],cl185,rfl,fun m hm x w' hs hz=>c_alloc_New_2_1 (j:=j) (fun b hb=>Nat.lt_of_lt_of_le (hF1 b hb) hz) (by omega) c0 f13 (hs.at_ f13 (keep hB c0h)) f14 (hs.at_ f14 (keep hB c3h)) (c3n.mono (by omega) (fun b h=>.inl h) ((Same.below hB hF).trans (hs.sub (fun b h=>.inl h))) (Nat.le_trans hB.size hz)) x⟩) rfl cl181 rfl fun w15 v16 hb hr17 r=>?_
 have Z15:=hb.size;have H1:=keep hb H1;obtain ⟨hB,zB⟩:=bon hb hB;refine kP r hr17.shape rfl rfl H1 ts116 rfl rfl fun w18 u19 r=>?_;have Z18:=u19.size
 have H1:=u19.at_;obtain ⟨hB,zB⟩:=u19.on hB (by omega)
 refine wn (wp_ret ?_);have hd:D.alloc_New_2 j c0 c1 c2 c3 a0=(T.bind (D.retire_Scan j c0 c2) (fun x=>(D.alloc_New_2_1 j c0 c3 x))):=(cond_f h4).trans (rfl)
 have hs:=hr17.shape.cells;refine ret_cell r rfl rfl H1 (k:=9) hs.1 ta116 ?_;rw [←hs.2.2,hd];exact rfin hF hB hr17 u19 (by omega) (by omega) (by omega)
def D.alloc_New (j:Nat) (a0:Plan) (a1:Int) (a2:Int):T Grant:=(T.bind (D.free_Pop j a0) (fun x=>(D.alloc_New_2 j a0 a2 a1 (fun x=>(D.alloc_New_1 a0 a2 x)) x)))
theorem c_alloc_New (hF:kH F w0) (hj:n<j)
    (a0:Plan) (a1:Int) (a2:Int) :
    Calls Tryz.prog 102 #[.agg (planC a0).toArray,.int .i64 a1,.int .i64 a2] w0 (RepRes Tryz.prog encGrant n (D.alloc_New j a0 a1 a2) F w0):=by
 refine kN Tryz.func102 rfl 13 rfl rfl fun fr r hB=>?_;refine wsr ?_
 refine kX 23 (.agg (planC a0).toArray) r rfl rfl fun b1 w2 n3 r=>?_;obtain ⟨E1,Z2,H1,hB,zB⟩:=n3.all hB
 refine kX 3 (I a1) r rfl rfl fun b4 w5 n6 r=>?_;have H1:=keep n6.below H1
 obtain ⟨E4,Z5,H4,hB,zB⟩:=n6.all hB;refine kX 3 (I a2) r rfl rfl fun b7 w8 n9 r=>?_;have H1:=keep n9.below H1
 have H4:=keep n9.below H4;obtain ⟨E7,Z8,H7,hB,zB⟩:=n9.all hB;refine seq_new (.cells (kq encGrant) 116 (0,0)) r (fun R=>y_alloc tz116) rfl fun fr b10 w11 n12 r=>?_;have H1:=keep n12.below H1
 have H4:=keep n12.below H4;have H7:=keep n12.below H7;obtain ⟨E10,Z11,H10,hB,zB⟩:=n12.all hB;refine wn (wsr (seq_val (.func (.func 178) #[] #[zp b1,zp b7]) r (fun R=>y_makeFunc r rfl) rfl fun fr r=>?_));refine seq_new (.cells #[.nilFunc] 233 (0,0)) r (fun R=>y_alloc tz233) rfl fun fr b13 w14 n15 r=>?_
 have H1:=keep n15.below H1;have H4:=keep n15.below H4;have H7:=keep n15.below H7;have H10:=keep n15.below H10;obtain ⟨E13,Z14,H13,hB,zB⟩:=n15.all hB;refine seq_upd (.cells #[.func (.func 178) #[] #[zp b1,zp b7]] 233 (0,0)) r (fun R=>y_store r (o:=0) (v:=(.func (.func 178) #[] #[zp b1,zp b7])) rfl rfl H13 ts233 (Nat.le_of_ble_eq_true rfl) rfl rfl) rfl fun fr w16 u17 r=>?_;have Z16:=u17.size
 have H1:=u17.keep H1 (by omega)
 have H4:=u17.keep H4 (by omega)
 have H7:=u17.keep H7 (by omega)
 have H10:=u17.keep H10 (by omega)
 have H13:=u17.at_;obtain ⟨hB,zB⟩:=u17.on hB (by omega)
 refine wn (wsr (kG (planC a0) 6 r rfl H1 ta23 rfl rfl fun r=>?_));have hF1:=fgrow hF hB b10
 refine kD r ((c_free_Pop (k:=j) (n:=n) (by omega)) (kW F w0 w16 b10) _ hF1 a0) rfl cl182 rfl fun w18 v19 hb hr20 r=>?_;have Z18:=hb.size
 have H1:=keep hb H1;have H4:=keep hb H4;have H7:=keep hb H7;have H10:=keep hb H10;have H13:=keep hb H13;obtain ⟨hB,zB⟩:=bon hb hB;refine seq_val (.func (.func 183) #[] #[zp b1,zp b7,zp b4,zp b13]) r (fun R=>y_makeFunc r rfl) rfl fun fr r=>?_;have hF1:=fgrow hF hB b10
 have f21:((kW F w0 w18 b10)) b1:=(.inr ⟨by omega,by omega,by omega⟩)
 have f22:((kW F w0 w18 b10)) b7:=(.inr ⟨by omega,by omega,by omega⟩)
 have f23:((kW F w0 w18 b10)) b4:=(.inr ⟨by omega,by omega,by omega⟩)
 have f24:((kW F w0 w18 b10)) b13:=(.inr ⟨by omega,by omega,by omega⟩)
 have f26:((kW F w0 w18 b10)) b1:=(.inr ⟨by omega,by omega,by omega⟩)
 have f27:((kW F w0 w18 b10)) b7:=(.inr ⟨by omega,by omega,by omega⟩)
 have q25:FnT Tryz.prog encGrant i64 (n+1) (kW F w0 w18 b10) w18 (.func (.func 178) #[] #[zp b1,zp b7]) (fun x=>(D.alloc_New_1 a0 a2 x)):=⟨178,[],[zp b1,zp b7],cl178,rfl,fun m hm x w' hs hz=>c_alloc_New_1 (fun b hb=>Nat.lt_of_lt_of_le (hF1 b hb) hz) a0 f26 (hs.at_ f26 H1) a2 f27 (hs.at_ f27 H7) x⟩
 refine kD r (c_prog_Then_int_Grant_le (F:=(kW F w0 w18 b10)) (n:=n) hF1 (Rep.mono (by rintro b (h | h); (rcases h with h | ⟨h1,h2,h3⟩; exact .inl h; exact .inr ⟨h1,by omega,h3⟩); exact .inr ⟨by omega,by omega,by omega⟩) (Same.refl _ _) (by omega) n _ _ hr20) ⟨183,[],[zp b1,zp b7,zp b4,zp b13],cl183,rfl,fun m hm x w' hs hz=>c_alloc_New_2 (j:=j) (fun b hb=>Nat.lt_of_lt_of_le (hF1 b hb) hz) (by omega) a0 f21 (hs.at_ f21 H1) a2 f22 (hs.at_ f22 H7) a1 f23 (hs.at_ f23 H4) f24 (hs.at_ f24 H13) (q25.mono (by omega) (fun b h=>h) hs hz) x⟩) rfl cl181 rfl fun w28 v29 hb hr30 r=>?_
 have Z28:=hb.size;have H1:=keep hb H1;have H4:=keep hb H4;have H7:=keep hb H7;have H10:=keep hb H10;have H13:=keep hb H13;obtain ⟨hB,zB⟩:=bon hb hB;refine kP r hr30.shape rfl rfl H10 ts116 rfl rfl fun w31 u32 r=>?_;have Z31:=u32.size
 have H1:=u32.keep H1 (by omega)
 have H4:=u32.keep H4 (by omega)
 have H7:=u32.keep H7 (by omega)
 have H13:=u32.keep H13 (by omega)
 have H10:=u32.at_;obtain ⟨hB,zB⟩:=u32.on hB (by omega)
 exact wn (wp_ret (kR r hr30 rfl rfl H10 rfl ta116 hF hB u32 (by omega) (by omega) (by omega)))
def D.alloc_Stash_1 (c0:Int) (a0:Int):T Int:=(bif (a0==(-1)) then (D.prog_Done_int (-1)) else (D.prog_Done_int c0))
theorem c_alloc_Stash_1 (hF:kH F w0)
    (c0:Int) {c0b:Nat} (c0F:F c0b) (c0h:w0.heap[c0b]?=some (.cells ([(.int .i64 c0)]).toArray 3 (0,0))) (a0:Int) :
    Calls Tryz.prog 221 #[.int .i64 a0,zp c0b] w0 (RepRes Tryz.prog encInt n (D.alloc_Stash_1 c0 a0) F w0):=by
 refine kN Tryz.func221 rfl 9 rfl rfl fun fr r hB=>?_;have lc0b:=lt_of_block c0h
 refine wsr ?_;refine seq_new (.cells (kq encInt) 119 (0,0)) r (fun R=>y_alloc tz119) rfl fun fr b1 w2 n3 r=>?_;obtain ⟨E1,Z2,H1,hB,zB⟩:=n3.all hB
 refine wn (wp_seq (wsr (kM (I a0) r rfl rfl fun r=>kB r rfl rfl rfl rfl rfl fun r=>wn ?_)));refine wp_cond_split (t:=(a0==(-1))) (r.ev rfl) (fun h4=>?_) (fun h4=>?_)
 ·
  refine wsr ?_;have hF1:=fgrow hF hB b1;refine kD r (c_prog_Done_int (F:=(kW F w0 w2 b1)) (n:=n) hF1 (-1)) rfl cl222 rfl fun w5 v6 hb hr7 r=>?_;have Z5:=hb.size
  have H1:=keep hb H1;obtain ⟨hB,zB⟩:=bon hb hB;refine kP r hr7.shape rfl rfl H1 ts119 rfl rfl fun w8 u9 r=>?_;have Z8:=u9.size
  have H1:=u9.at_;obtain ⟨hB,zB⟩:=u9.on hB (by omega)
  refine wn (wp_ret ?_);have hd:D.alloc_Stash_1 c0 a0=(D.prog_Done_int (-1)):=(cond_t h4).trans (rfl);have hs:=hr7.shape.cells;refine ret_cell r rfl rfl H1 (k:=7) hs.1 ta119 ?_;rw [←hs.2.2,hd];exact rfin hF hB hr7 u9 (by omega) (by omega) (by omega)
 refine wp_skip (wsr (kL (I c0) r rfl (keep hB c0h) to3 rfl rfl fun r=>?_));have hF1:=fgrow hF hB b1
 refine kD r (c_prog_Done_int (F:=(kW F w0 w2 b1)) (n:=n) hF1 c0) rfl cl222 rfl fun w10 v11 hb hr12 r=>?_;have Z10:=hb.size
 have H1:=keep hb H1;obtain ⟨hB,zB⟩:=bon hb hB;refine kP r hr12.shape rfl rfl H1 ts119 rfl rfl fun w13 u14 r=>?_;have Z13:=u14.size
 have H1:=u14.at_;obtain ⟨hB,zB⟩:=u14.on hB (by omega)
 refine wn (wp_ret ?_);have hd:D.alloc_Stash_1 c0 a0=(D.prog_Done_int c0):=(cond_f h4).trans (rfl);have hs:=hr12.shape.cells;refine ret_cell r rfl rfl H1 (k:=7) hs.1 ta119 ?_;rw [←hs.2.2,hd];exact rfin hF hB hr12 u14 (by omega) (by omega) (by omega)
def D.alloc_Stash_2_1 (c0:Plan) (c1:Int) (c2:Int) (c3:(Int→T Int)) (a0:Int):T Int:=(T.bind (D.retire_Put c0 c1 c2) c3)
theorem c_alloc_Stash_2_1 (hF:kH F w0)
    (c0:Plan) {c0b:Nat} (c0F:F c0b) (c0h:w0.heap[c0b]?=some (.cells ((planC c0)).toArray 23 (0,0))) (c1:Int) {c1b:Nat} (c1F:F c1b) (c1h:w0.heap[c1b]?=some (.cells ([(.int .i64 c1)]).toArray 3 (0,0))) (c2:Int) {c2b:Nat} (c2F:F c2b) (c2h:w0.heap[c2b]?=some (.cells ([(.int .i64 c2)]).toArray 3 (0,0))) {c3f:FuncId} {c3_1 c3_2:List Value} {c3:(Int→T Int)} {c3b:Nat} (c3F:F c3b) (c3h:w0.heap[c3b]?=some (.cells #[kf c3f c3_1 c3_2] 261 (0,0))) (c3n:FnT Tryz.prog encInt i64 (n+1) F w0 (kf c3f c3_1 c3_2) c3) (a0:Int) :
    Calls Tryz.prog 226 #[.int .i64 a0,zp c0b,zp c1b,zp c2b,zp c3b] w0 (RepRes Tryz.prog encInt n (D.alloc_Stash_2_1 c0 c1 c2 c3 a0) F w0):=by
 refine kN Tryz.func226 rfl 13 rfl rfl fun fr r hB=>?_;have lc0b:=lt_of_block c0h
 have lc1b:=lt_of_block c1h;have lc2b:=lt_of_block c2h;have lc3b:=lt_of_block c3h;refine wsr ?_;refine seq_new (.cells (kq encInt) 119 (0,0)) r (fun R=>y_alloc tz119) rfl fun fr b1 w2 n3 r=>?_;obtain ⟨E1,Z2,H1,hB,zB⟩:=n3.all hB
 refine wn (wp_seq ?_);have hF1:=fgrow hF hB b1;refine wp_drawnF 5 [.val (.agg (planC c0).toArray),.val (I c1),.val (I c2),.pred (PrepP Tryz.prog encInt n (D.retire_Put c0 c1 c2) ((kW F w0 w2 b1)) w2) (PrepP.st hF1),.val (kf c3f c3_1 c3_2)] mixed r (by kernel_rfl) (kV (kV (kV (kV (kV within_nil))))) ?_ ?_
 ·
  refine ec r (fun _ u _ b d s=>y_load_agg s (cs:=(planC c0)) (n:=6) rfl (keep2 hB b c0h) ta23 rfl bz) (ec r (fun _ u _ b d s=>y_load_one s rfl (keep2 hB b c1h) to3 rfl bz) (ec r (fun _ u _ b d s=>y_load_one s rfl (keep2 hB b c2h) to3 rfl bz) (ec r (fun fr1 u w' hb' hd r'=>y_call r' (args:=[(.agg (planC c0).toArray),(I c1),(I c2)]) (lc hd.1 (lc hd.2.1 (lc hd.2.2.1 l0))) cl224 ((c_retire_Put (F:=(kW F w0 w2 b1)) (n:=n) (fun b h=>Nat.lt_of_lt_of_le (hF1 b h) hb'.size) c0 c1 c2).mono (by rintro _ w2 ⟨y,rfl,hb2,hr2⟩; exact ⟨_,rfl,hb2,PrepP.of (drB hb') hb2 hr2⟩))) (ec r (fun _ u _ b d s=>y_load_one s rfl (keep2 hB b c3h) to261 rfl bz) ?_))));exact each_nil
 intro fr u w4 hb hΦ hne r;obtain ⟨v5,hv3⟩:∃ v,v=u 3:=⟨_,rfl⟩;have g3:u 3=v5:=hv3.symm;have hr6:=(hΦ 3 (by decide)).2;rw [g3] at hr6
 have r:=r.congr (sc (hΦ 4 (by decide)) (sc g3 (sc (hΦ 2 (by decide)) (sc (hΦ 1 (by decide)) (sc (hΦ 0 (by decide)) rfl)))))
 have Z4:=hb.size;have H1:=keep hb H1;obtain ⟨hB,zB⟩:=bon hb hB;have hF1:=fgrow hF hB b1;refine kD r (c_prog_Then_int_int_le (F:=(kW F w0 w4 b1)) (n:=n) hF1 (Rep.mono (by rintro b (h | h); (rcases h with h | ⟨h1,h2,h3⟩; exact .inl h; exact .inr ⟨h1,by omega,h3⟩); exact .inr ⟨by omega,by omega,by omega⟩) (Same.refl _ _) (by omega) n _ _ hr6) (c3n.mono (by omega) (fun b h=>.inl h) (Same.below hB hF) hB.size)) rfl cl223 rfl fun w7 v8 hb hr9 r=>?_
 have Z7:=hb.size;have H1:=keep hb H1;obtain ⟨hB,zB⟩:=bon hb hB;refine kP r hr9.shape rfl rfl H1 ts119 rfl rfl fun w10 u11 r=>?_;have Z10:=u11.size
 have H1:=u11.at_;obtain ⟨hB,zB⟩:=u11.on hB (by omega)
 exact wn (wp_ret (kR r hr9 rfl rfl H1 rfl ta119 hF hB u11 (by omega) (by omega) (by omega)))
def D.alloc_Stash_2 (j:Nat) (c0:Int) (c1:Plan) (c2:Int) (c3:(Int→T Int)) (a0:Int):T Int:=(bif (a0 !=(-1)) then (D.prog_Done_int c0) else (T.bind (D.retire_Scan j c1 c2) (fun x=>(D.alloc_Stash_2_1 c1 c2 c0 c3 x))))
theorem c_alloc_Stash_2 (hF:kH F w0) (hj:n<j)
    (c0:Int) {c0b:Nat} (c0F:F c0b) (c0h:w0.heap[c0b]?=some (.cells ([(.int .i64 c0)]).toArray 3 (0,0))) (c1:Plan) {c1b:Nat} (c1F:F c1b) (c1h:w0.heap[c1b]?=some (.cells ((planC c1)).toArray 23 (0,0))) (c2:Int) {c2b:Nat} (c2F:F c2b) (c2h:w0.heap[c2b]?=some (.cells ([(.int .i64 c2)]).toArray 3 (0,0))) {c3f:FuncId} {c3_1 c3_2:List Value} {c3:(Int→T Int)} {c3b:Nat} (c3F:F c3b) (c3h:w0.heap[c3b]?=some (.cells #[kf c3f c3_1 c3_2] 261 (0,0))) (c3n:FnT Tryz.prog encInt i64 (n+1) F w0 (kf c3f c3_1 c3_2) c3) (a0:Int) :
    Calls Tryz.prog 225 #[.int .i64 a0,zp c0b,zp c1b,zp c2b,zp c3b] w0 (RepRes Tryz.prog encInt n (D.alloc_Stash_2 j c0 c1 c2 c3 a0) F w0):=by
 refine kN Tryz.func225 rfl 16 rfl rfl fun fr r hB=>?_;have lc0b:=lt_of_block c0h
 have lc1b:=lt_of_block c1h;have lc2b:=lt_of_block c2h;have lc3b:=lt_of_block c3h;refine wsr ?_;refine seq_new (.cells (kq encInt) 119 (0,0)) r (fun R=>y_alloc tz119) rfl fun fr b1 w2 n3 r=>?_;obtain ⟨E1,Z2,H1,hB,zB⟩:=n3.all hB
 refine wn (wp_seq (wsr (kM (I a0) r rfl rfl fun r=>kB r rfl rfl rfl rfl rfl fun r=>wn ?_)));refine wp_cond_split (t:=(a0 !=(-1))) (r.ev rfl) (fun h4=>?_) (fun h4=>?_)
 ·
  refine wsr (kL (I c0) r rfl (keep hB c0h) to3 rfl rfl fun r=>?_);have hF1:=fgrow hF hB b1
  refine kD r (c_prog_Done_int (F:=(kW F w0 w2 b1)) (n:=n) hF1 c0) rfl cl222 rfl fun w5 v6 hb hr7 r=>?_;have Z5:=hb.size
  have H1:=keep hb H1;obtain ⟨hB,zB⟩:=bon hb hB;refine kP r hr7.shape rfl rfl H1 ts119 rfl rfl fun w8 u9 r=>?_;have Z8:=u9.size
  have H1:=u9.at_;obtain ⟨hB,zB⟩:=u9.on hB (by omega)
  refine wn (wp_ret ?_);have hd:D.alloc_Stash_2 j c0 c1 c2 c3 a0=(D.prog_Done_int c0):=(cond_t h4).trans (rfl);have hs:=hr7.shape.cells;refine ret_cell r rfl rfl H1 (k:=7) hs.1 ta119 ?_;rw [←hs.2.2,hd];exact rfin hF hB hr7 u9 (by omega) (by omega) (by omega)
 refine wp_skip (wsr (kG (planC c1) 6 r rfl (keep hB c1h) ta23 rfl rfl fun r=>kL (I c2) r rfl (keep hB c2h) to3 rfl rfl fun r=>?_));have hF1:=fgrow hF hB b1
 refine kD r (c_retire_Scan (j:=j) (F:=(kW F w0 w2 b1)) (n:=n) hF1 (by omega) c1 c2) rfl cl184 rfl fun w10 v11 hb hr12 r=>?_;have Z10:=hb.size
 have H1:=keep hb H1;obtain ⟨hB,zB⟩:=bon hb hB;refine seq_val (.func (.func 226) #[] #[zp c1b,zp c2b,zp c0b,zp c3b]) r (fun R=>y_makeFunc r rfl) rfl fun fr r=>?_;have hF1:=fgrow hF hB b1
 have f13:((kW F w0 w10 b1)) c1b:=(.inl c1F);have f14:((kW F w0 w10 b1)) c2b:=(.inl c2F);have f15:((kW F w0 w10 b1)) c0b:=(.inl c0F);have f16:((kW F w0 w10 b1)) c3b:=(.inl c3F);refine kD r (c_prog_Then_int_int_le (F:=(kW F w0 w10 b1)) (n:=n) hF1 (Rep.mono (by rintro b (h | h); (rcases h with h | ⟨h1,h2,h3⟩; exact .inl h; exact .inr ⟨h1,by omega,h3⟩); exact .inr ⟨by omega,by omega,by omega⟩) (Same.refl _ _) (by omega) n _ _ hr12) ⟨226,[],[zp c1b,zp c2b,zp c0b,zp c3b],cl226,rfl,fun m hm x w' hs hz=>c_alloc_Stash_2_1 (fun b hb=>Nat.lt_of_lt_of_le (hF1 b hb) hz) c1 f13 (hs.at_ f13 (keep hB c1h)) c2 f14 (hs.at_ f14 (keep hB c2h)) c0 f15 (hs.at_ f15 (keep hB c0h)) f16 (hs.at_ f16 (keep hB c3h)) (c3n.mono (by omega) (fun b h=>.inl h) ((Same.below hB hF).trans (hs.sub (fun b h=>.inl h))) (Nat.le_trans hB.size hz)) x⟩) rfl cl223 rfl fun w17 v18 hb hr19 r=>?_
 have Z17:=hb.size;have H1:=keep hb H1;obtain ⟨hB,zB⟩:=bon hb hB;refine kP r hr19.shape rfl rfl H1 ts119 rfl rfl fun w20 u21 r=>?_;have Z20:=u21.size
 have H1:=u21.at_;obtain ⟨hB,zB⟩:=u21.on hB (by omega)
 refine wn (wp_ret ?_);have hd:D.alloc_Stash_2 j c0 c1 c2 c3 a0=(T.bind (D.retire_Scan j c1 c2) (fun x=>(D.alloc_Stash_2_1 c1 c2 c0 c3 x))):=(cond_f h4).trans (rfl)
 have hs:=hr19.shape.cells;refine ret_cell r rfl rfl H1 (k:=7) hs.1 ta119 ?_;rw [←hs.2.2,hd];exact rfin hF hB hr19 u21 (by omega) (by omega) (by omega)
def D.alloc_Stash (j:Nat) (a0:Plan) (a1:Int) (a2:Int):T Int:=(T.bind (D.retire_Put a0 a1 a2) (fun x=>(D.alloc_Stash_2 j a2 a0 a1 (fun x=>(D.alloc_Stash_1 a2 x)) x)))
theorem c_alloc_Stash (hF:kH F w0) (hj:n<j)
    (a0:Plan) (a1:Int) (a2:Int) :
    Calls Tryz.prog 141 #[.agg (planC a0).toArray,.int .i64 a1,.int .i64 a2] w0 (RepRes Tryz.prog encInt n (D.alloc_Stash j a0 a1 a2) F w0):=by
 refine kN Tryz.func141 rfl 15 rfl rfl fun fr r hB=>?_;refine wsr ?_
 refine kX 23 (.agg (planC a0).toArray) r rfl rfl fun b1 w2 n3 r=>?_;obtain ⟨E1,Z2,H1,hB,zB⟩:=n3.all hB
 refine kX 3 (I a1) r rfl rfl fun b4 w5 n6 r=>?_;have H1:=keep n6.below H1
 obtain ⟨E4,Z5,H4,hB,zB⟩:=n6.all hB;refine kX 3 (I a2) r rfl rfl fun b7 w8 n9 r=>?_;have H1:=keep n9.below H1
 have H4:=keep n9.below H4;obtain ⟨E7,Z8,H7,hB,zB⟩:=n9.all hB;refine seq_new (.cells (kq encInt) 119 (0,0)) r (fun R=>y_alloc tz119) rfl fun fr b10 w11 n12 r=>?_;have H1:=keep n12.below H1
 have H4:=keep n12.below H4;have H7:=keep n12.below H7;obtain ⟨E10,Z11,H10,hB,zB⟩:=n12.all hB;refine wn (wsr (seq_val (.func (.func 221) #[] #[zp b7]) r (fun R=>y_makeFunc r rfl) rfl fun fr r=>?_));refine seq_new (.cells #[.nilFunc] 261 (0,0)) r (fun R=>y_alloc tz261) rfl fun fr b13 w14 n15 r=>?_
 have H1:=keep n15.below H1;have H4:=keep n15.below H4;have H7:=keep n15.below H7;have H10:=keep n15.below H10;obtain ⟨E13,Z14,H13,hB,zB⟩:=n15.all hB;refine seq_upd (.cells #[.func (.func 221) #[] #[zp b7]] 261 (0,0)) r (fun R=>y_store r (o:=0) (v:=(.func (.func 221) #[] #[zp b7])) rfl rfl H13 ts261 (Nat.le_of_ble_eq_true rfl) rfl rfl) rfl fun fr w16 u17 r=>?_;have Z16:=u17.size
 have H1:=u17.keep H1 (by omega)
 have H4:=u17.keep H4 (by omega)
 have H7:=u17.keep H7 (by omega)
 have H10:=u17.keep H10 (by omega)
 have H13:=u17.at_;obtain ⟨hB,zB⟩:=u17.on hB (by omega)
 refine wn (wsr (kG (planC a0) 6 r rfl H1 ta23 rfl rfl fun r=>kL (I a1) r rfl H4 to3 rfl rfl fun r=>kL (I a2) r rfl H7 to3 rfl rfl fun r=>?_));have hF1:=fgrow hF hB b10
 refine kD r (c_retire_Put (F:=(kW F w0 w16 b10)) (n:=n) hF1 a0 a1 a2) rfl cl224 rfl fun w18 v19 hb hr20 r=>?_;have Z18:=hb.size
 have H1:=keep hb H1;have H4:=keep hb H4;have H7:=keep hb H7;have H10:=keep hb H10;have H13:=keep hb H13;obtain ⟨hB,zB⟩:=bon hb hB;refine seq_val (.func (.func 225) #[] #[zp b7,zp b1,zp b4,zp b13]) r (fun R=>y_makeFunc r rfl) rfl fun fr r=>?_;have hF1:=fgrow hF hB b10
 have f21:((kW F w0 w18 b10)) b7:=(.inr ⟨by omega,by omega,by omega⟩)
 have f22:((kW F w0 w18 b10)) b1:=(.inr ⟨by omega,by omega,by omega⟩)
 have f23:((kW F w0 w18 b10)) b4:=(.inr ⟨by omega,by omega,by omega⟩)
 have f24:((kW F w0 w18 b10)) b13:=(.inr ⟨by omega,by omega,by omega⟩)
 have f26:((kW F w0 w18 b10)) b7:=(.inr ⟨by omega,by omega,by omega⟩)
 have q25:FnT Tryz.prog encInt i64 (n+1) (kW F w0 w18 b10) w18 (.func (.func 221) #[] #[zp b7]) (fun x=>(D.alloc_Stash_1 a2 x)):=⟨221,[],[zp b7],cl221,rfl,fun m hm x w' hs hz=>c_alloc_Stash_1 (fun b hb=>Nat.lt_of_lt_of_le (hF1 b hb) hz) a2 f26 (hs.at_ f26 H7) x⟩
 refine kD r (c_prog_Then_int_int_le (F:=(kW F w0 w18 b10)) (n:=n) hF1 (Rep.mono (by rintro b (h | h); (rcases h with h | ⟨h1,h2,h3⟩; exact .inl h; exact .inr ⟨h1,by omega,h3⟩); exact .inr ⟨by omega,by omega,by omega⟩) (Same.refl _ _) (by omega) n _ _ hr20) ⟨225,[],[zp b7,zp b1,zp b4,zp b13],cl225,rfl,fun m hm x w' hs hz=>c_alloc_Stash_2 (j:=j) (fun b hb=>Nat.lt_of_lt_of_le (hF1 b hb) hz) (by omega) a2 f21 (hs.at_ f21 H7) a0 f22 (hs.at_ f22 H1) a1 f23 (hs.at_ f23 H4) f24 (hs.at_ f24 H13) (q25.mono (by omega) (fun b h=>h) hs hz) x⟩) rfl cl223 rfl fun w27 v28 hb hr29 r=>?_
 have Z27:=hb.size;have H1:=keep hb H1;have H4:=keep hb H4;have H7:=keep hb H7;have H10:=keep hb H10;have H13:=keep hb H13;obtain ⟨hB,zB⟩:=bon hb hB;refine kP r hr29.shape rfl rfl H10 ts119 rfl rfl fun w30 u31 r=>?_;have Z30:=u31.size
 have H1:=u31.keep H1 (by omega)
 have H4:=u31.keep H4 (by omega)
 have H7:=u31.keep H7 (by omega)
 have H13:=u31.keep H13 (by omega)
 have H10:=u31.at_;obtain ⟨hB,zB⟩:=u31.on hB (by omega)
 exact wn (wp_ret (kR r hr29 rfl rfl H10 rfl ta119 hF hB u31 (by omega) (by omega) (by omega)))
def D.alloc_Retire_1_1 (j:Nat) (c0:Plan) (c1:Int) (c2:Int):T Int:=(D.alloc_Stash j c0 c1 c2)
theorem c_alloc_Retire_1_1 (hF:kH F w0) (hj:n<j)
    (c0:Plan) {c0b:Nat} (c0F:F c0b) (c0h:w0.heap[c0b]?=some (.cells ((planC c0)).toArray 23 (0,0))) (c1:Int) {c1b:Nat} (c1F:F c1b) (c1h:w0.heap[c1b]?=some (.cells ([(.int .i64 c1)]).toArray 3 (0,0))) (c2:Int) {c2b:Nat} (c2F:F c2b) (c2h:w0.heap[c2b]?=some (.cells ([(.int .i64 c2)]).toArray 3 (0,0))) :
    Calls Tryz.prog 189 #[zp c0b,zp c1b,zp c2b] w0 (RepRes Tryz.prog encInt n (D.alloc_Retire_1_1 j c0 c1 c2) F w0):=by
 refine kN Tryz.func189 rfl 8 rfl rfl fun fr r hB=>?_;have lc0b:=lt_of_block c0h
 have lc1b:=lt_of_block c1h;have lc2b:=lt_of_block c2h;refine wsr ?_;refine seq_new (.cells (kq encInt) 119 (0,0)) r (fun R=>y_alloc tz119) rfl fun fr b1 w2 n3 r=>?_;obtain ⟨E1,Z2,H1,hB,zB⟩:=n3.all hB
 refine wn (wsr (kG (planC c0) 6 r rfl (keep hB c0h) ta23 rfl rfl fun r=>kL (I c1) r rfl (keep hB c1h) to3 rfl rfl fun r=>kL (I c2) r rfl (keep hB c2h) to3 rfl rfl fun r=>?_));have hF1:=fgrow hF hB b1
 refine kD r (c_alloc_Stash (j:=j) (F:=(kW F w0 w2 b1)) (n:=n) hF1 (by omega) c0 c1 c2) rfl cl141 rfl fun w4 v5 hb hr6 r=>?_;have Z4:=hb.size
 have H1:=keep hb H1;obtain ⟨hB,zB⟩:=bon hb hB;refine kP r hr6.shape rfl rfl H1 ts119 rfl rfl fun w7 u8 r=>?_;have Z7:=u8.size
 have H1:=u8.at_;obtain ⟨hB,zB⟩:=u8.on hB (by omega)
 exact wn (wp_ret (kR r hr6 rfl rfl H1 rfl ta119 hF hB u8 (by omega) (by omega) (by omega)))
def D.alloc_Retire_1 (j:Nat) (c0:Plan) (c1:Int) (c2:Int) (a0:Int):T Int:=(D.prog_Store_int (D.plan_Plan_State c0 c1) (D.state_State_Word (D.state_State_Retire ((D.state_Of a0).1))) (fun _=>(D.alloc_Retire_1_1 j c0 c2 c1)))
theorem c_alloc_Retire_1 (hF:kH F w0) (hj:n<j)
    (c0:Plan) {c0b:Nat} (c0F:F c0b) (c0h:w0.heap[c0b]?=some (.cells ((planC c0)).toArray 23 (0,0))) (c1:Int) {c1b:Nat} (c1F:F c1b) (c1h:w0.heap[c1b]?=some (.cells ([(.int .i64 c1)]).toArray 3 (0,0))) (c2:Int) {c2b:Nat} (c2F:F c2b) (c2h:w0.heap[c2b]?=some (.cells ([(.int .i64 c2)]).toArray 3 (0,0))) (a0:Int) :
    Calls Tryz.prog 187 #[.int .u64 a0,zp c0b,zp c1b,zp c2b] w0 (RepRes Tryz.prog encInt n (D.alloc_Retire_1 j c0 c1 c2 a0) F w0):=by
 refine kN Tryz.func187 rfl 21 rfl rfl fun fr r hB=>?_;have lc0b:=lt_of_block c0h
 have lc1b:=lt_of_block c1h;have lc2b:=lt_of_block c2h;refine wsr ?_;refine seq_new (.cells (kq encInt) 119 (0,0)) r (fun R=>y_alloc tz119) rfl fun fr b1 w2 n3 r=>?_;obtain ⟨E1,Z2,H1,hB,zB⟩:=n3.all hB
 refine wn (wsr (kM (U a0) r rfl rfl fun r=>?_));refine kE r (c_state_Of w2 a0) rfl cl111 rfl fun w4 hb r=>?_
 have Z4:=hb.size;have H1:=keep hb H1;obtain ⟨hB,zB⟩:=bon hb hB;refine kM (.tuple #[(.agg (stateC (D.state_Of a0).1).toArray),(.bool (D.state_Of a0).2)]) r rfl rfl fun r=>seq_val (.agg (stateC (D.state_Of a0).1).toArray) r (fun R=>y_extract r (vs:=#[(.agg (stateC (D.state_Of a0).1).toArray),(.bool (D.state_Of a0).2)]) rfl rfl) rfl fun fr r=>seq_val (.bool (D.state_Of a0).2) r (fun R=>y_extract r (vs:=#[(.agg (stateC (D.state_Of a0).1).toArray),(.bool (D.state_Of a0).2)]) rfl rfl) rfl fun fr r=>?_;refine seq_new (.cells ((stateC (⟨0,0,0⟩:State))).toArray 190 (0,0)) r (fun R=>y_alloc tz190) rfl fun fr b5 w6 n7 r=>?_
 have H1:=keep n7.below H1;obtain ⟨E5,Z6,H5,hB,zB⟩:=n7.all hB;refine seq_upd (.cells ((stateC ((D.state_Of a0).1))).toArray 190 (0,0)) r (fun R=>y_store r (o:=0) (v:=(.agg (stateC (D.state_Of a0).1).toArray)) rfl rfl H5 ts190 (Nat.le_of_ble_eq_true rfl) rfl rfl) rfl fun fr w8 u9 r=>?_;have Z8:=u9.size
 have H1:=u9.keep H1 (by omega)
 have H5:=u9.at_;obtain ⟨hB,zB⟩:=u9.on hB (by omega)
 refine kA (.bool (D.state_Of a0).2) r rfl rfl fun r=>wn (wp_seq ?_);refine wp_drawnF 7 [.val (.agg (planC c0).toArray),.val (I c1),.val (I (D.plan_Plan_State c0 c1)),.val (.agg (stateC (D.state_Of a0).1).toArray),.val (.agg (stateC (D.state_State_Retire ((D.state_Of a0).1))).toArray),.val (U (D.state_State_Word (D.state_State_Retire ((D.state_Of a0).1)))),.val (.func (.func 189) #[] #[zp c0b,zp c2b,zp c1b])] mixed r (by kernel_rfl) (kV (kV (kV (kV (kV (kV (kV within_nil))))))) ?_ ?_
 ·
  refine ec r (fun _ u _ b d s=>y_load_agg s (cs:=(planC c0)) (n:=6) rfl (keep2 hB b c0h) ta23 rfl bz) (ec r (fun _ u _ b d s=>y_load_one s rfl (keep2 hB b c1h) to3 rfl bz) (ec r (fun fr1 u w' hb' hd r'=>y_call r' (args:=[(.agg (planC c0).toArray),(I c1)]) (lc hd.1 (lc hd.2.1 l0)) cl112 ((c_plan_Plan_State _ c0 c1).mono (by rintro _ w2 ⟨rfl,hb2⟩; exact ⟨_,rfl,hb2,rfl⟩))) (ec r (fun _ u _ b d s=>y_load_agg s (cs:=(stateC ((D.state_Of a0).1))) (n:=3) rfl (keep b H5) ta190 rfl bz) (ec r (fun fr1 u w' hb' hd r'=>y_call r' (args:=[(.agg (stateC (D.state_Of a0).1).toArray)]) (lc hd.1 l0) cl138 ((c_state_State_Retire _ ((D.state_Of a0).1)).mono (by rintro _ w2 ⟨rfl,hb2⟩; exact ⟨_,rfl,hb2,rfl⟩))) (ec r (fun fr1 u w' hb' hd r'=>y_call r' (args:=[(.agg (stateC (D.state_State_Retire ((D.state_Of a0).1))).toArray)]) (lc hd.1 l0) cl137 ((c_state_State_Word _ (D.state_State_Retire ((D.state_Of a0).1))).mono (by rintro _ w2 ⟨rfl,hb2⟩; exact ⟨_,rfl,hb2,rfl⟩))) (ec r (fun _ u _ b d s=>y_makeFunc s (v:=(.func (.func 189) #[] #[zp c0b,zp c2b,zp c1b])) rfl bz) ?_))))));exact each_nil
 intro fr u w10 hb hΦ hne r;have r:=r.congr (sc (hΦ 6 (by decide)) (sc (hΦ 5 (by decide)) (sc (hΦ 4 (by decide)) (sc (hΦ 3 (by decide)) (sc (hΦ 2 (by decide)) (sc (hΦ 1 (by decide)) (sc (hΦ 0 (by decide)) rfl)))))));have Z10:=hb.size;have H1:=keep hb H1;have H5:=keep hb H5;obtain ⟨hB,zB⟩:=bon hb hB;have hF1:=fgrow hF hB b1;have f11:((kW F w0 w10 b1)) c0b:=(.inl c0F);have f12:((kW F w0 w10 b1)) c2b:=(.inl c2F);have f13:((kW F w0 w10 b1)) c1b:=(.inl c1F);refine kD r (c_prog_Store_int (F:=(kW F w0 w10 b1)) (n:=n) hF1 (D.plan_Plan_State c0 c1) (D.state_State_Word (D.state_State_Retire ((D.state_Of a0).1))) ⟨189,[],[zp c0b,zp c2b,zp c1b],cl189,rfl,fun m hm _ w' hs hz=>c_alloc_Retire_1_1 (j:=j) (fun b hb=>Nat.lt_of_lt_of_le (hF1 b hb) hz) (by omega) c0 f11 (hs.at_ f11 (keep hB c0h)) c2 f12 (hs.at_ f12 (keep hB c2h)) c1 f13 (hs.at_ f13 (keep hB c1h))⟩) rfl cl188 rfl fun w14 v15 hb hr16 r=>?_;have Z14:=hb.size
 have H1:=keep hb H1;have H5:=keep hb H5;obtain ⟨hB,zB⟩:=bon hb hB;refine kP r hr16.shape rfl rfl H1 ts119 rfl rfl fun w17 u18 r=>?_;have Z17:=u18.size
 have H5:=u18.keep H5 (by omega)
 have H1:=u18.at_;obtain ⟨hB,zB⟩:=u18.on hB (by omega)
 exact wn (wp_ret (kR r hr16 rfl rfl H1 rfl ta119 hF hB u18 (by omega) (by omega) (by omega)))
def D.alloc_Retire (j:Nat) (a0:Plan) (a1:Int) (a2:Int):T Int:=(D.prog_Load_int (D.plan_Plan_State a0 a2) (fun x=>(D.alloc_Retire_1 j a0 a2 a1 x)))
theorem c_alloc_Retire (hF:kH F w0) (hj:n<j)
    (a0:Plan) (a1:Int) (a2:Int) :
    Calls Tryz.prog 104 #[.agg (planC a0).toArray,.int .i64 a1,.int .i64 a2] w0 (RepRes Tryz.prog encInt n (D.alloc_Retire j a0 a1 a2) F w0):=by
 refine kN Tryz.func104 rfl 12 rfl rfl fun fr r hB=>?_;refine wsr ?_
 refine kX 23 (.agg (planC a0).toArray) r rfl rfl fun b1 w2 n3 r=>?_;obtain ⟨E1,Z2,H1,hB,zB⟩:=n3.all hB
 refine kX 3 (I a1) r rfl rfl fun b4 w5 n6 r=>?_;have H1:=keep n6.below H1
 obtain ⟨E4,Z5,H4,hB,zB⟩:=n6.all hB;refine kX 3 (I a2) r rfl rfl fun b7 w8 n9 r=>?_;have H1:=keep n9.below H1
 have H4:=keep n9.below H4;obtain ⟨E7,Z8,H7,hB,zB⟩:=n9.all hB;refine seq_new (.cells (kq encInt) 119 (0,0)) r (fun R=>y_alloc tz119) rfl fun fr b10 w11 n12 r=>?_;have H1:=keep n12.below H1
 have H4:=keep n12.below H4;have H7:=keep n12.below H7;obtain ⟨E10,Z11,H10,hB,zB⟩:=n12.all hB;refine wn (wsr (kG (planC a0) 6 r rfl H1 ta23 rfl rfl fun r=>kL (I a2) r rfl H7 to3 rfl rfl fun r=>?_));refine kE r (c_plan_Plan_State w11 a0 a2) rfl cl112 rfl fun w13 hb r=>?_
 have Z13:=hb.size;have H1:=keep hb H1;have H4:=keep hb H4;have H7:=keep hb H7;have H10:=keep hb H10;obtain ⟨hB,zB⟩:=bon hb hB;refine seq_val (.func (.func 187) #[] #[zp b1,zp b7,zp b4]) r (fun R=>y_makeFunc r rfl) rfl fun fr r=>?_;have hF1:=fgrow hF hB b10
 have f14:((kW F w0 w13 b10)) b1:=(.inr ⟨by omega,by omega,by omega⟩)
 have f15:((kW F w0 w13 b10)) b7:=(.inr ⟨by omega,by omega,by omega⟩)
 have f16:((kW F w0 w13 b10)) b4:=(.inr ⟨by omega,by omega,by omega⟩)
 refine kD r (c_prog_Load_int (F:=(kW F w0 w13 b10)) (n:=n) hF1 (D.plan_Plan_State a0 a2) ⟨187,[],[zp b1,zp b7,zp b4],cl187,rfl,fun m hm x w' hs hz=>c_alloc_Retire_1 (j:=j) (fun b hb=>Nat.lt_of_lt_of_le (hF1 b hb) hz) (by omega) a0 f14 (hs.at_ f14 H1) a2 f15 (hs.at_ f15 H7) a1 f16 (hs.at_ f16 H4) x⟩) rfl cl186 rfl fun w17 v18 hb hr19 r=>?_;have Z17:=hb.size
 have H1:=keep hb H1;have H4:=keep hb H4;have H7:=keep hb H7;have H10:=keep hb H10;obtain ⟨hB,zB⟩:=bon hb hB;refine kP r hr19.shape rfl rfl H10 ts119 rfl rfl fun w20 u21 r=>?_;have Z20:=u21.size
 have H1:=u21.keep H1 (by omega)
 have H4:=u21.keep H4 (by omega)
 have H7:=u21.keep H7 (by omega)
 have H10:=u21.at_;obtain ⟨hB,zB⟩:=u21.on hB (by omega)
 exact wn (wp_ret (kR r hr19 rfl rfl H10 rfl ta119 hF hB u21 (by omega) (by omega) (by omega)))
end
def FnHAt {R:Type} (P:Program) (E:Enc R) (F:Nat→Prop) (w:World) (f:FuncId) (first cap:List Value) (d:Int→(Int→T R)→T R):Prop:=
  ∀ (m:Nat) (x:Int) {nf:FuncId} {n1 n2:List Value} {g:Int→T R} (F':Nat→Prop) (w':World),(∀ b,F b→F' b)→Same F w w'→w.heap.size≤w'.heap.size→(∀ b,F' b→b<w'.heap.size)→
    FnT P E u64 m F' w' (.func (.func nf) n1.toArray n2.toArray) g→Calls P f (first++[Value.int .i64 x,Value.func (.func nf) n1.toArray n2.toArray]++cap).toArray w' (RepRes P E m (d x g) F' w')
def FnH {R:Type} (P:Program) (E:Enc R) (F:Nat→Prop) (w:World) (fv:Value) (d:Int→(Int→T R)→T R):Prop:=
  ∃ (f:FuncId) (first cap:List Value),callable P f=true∧fv=.func (.func f) first.toArray cap.toArray∧FnHAt P E F w f first cap d
section
variable {R : Type} {P : Program} {E : Enc R}
theorem FnH.mono {F F':Nat→Prop} {w w':World} {fv:Value} {d:Int→(Int→T R)→T R} (h:FnH P E F w fv d)
    (hs:∀ b,F b→F' b) (h1:Same F w w') (h2:w.heap.size≤w'.heap.size):FnH P E F' w' fv d:=by
  obtain ⟨f,first,cap,hc,hv,h⟩:=h;exact ⟨f,first,cap,hc,hv,fun m x nf n1 n2 g F1 w1 k1 k2 k3 k4 k5=>h m x F1 w1 (fun b hb=>k1 b (hs b hb)) (h1.trans (k2.sub hs)) (by omega) k4 k5⟩
theorem FnH.at_ {F:Nat→Prop} {w:World} {f:FuncId} {first cap:List Value} {d:Int→(Int→T R)→T R} (h:FnH P E F w (.func (.func f) first.toArray cap.toArray) d) :
    callable P f=true∧FnHAt P E F w f first cap d:=by
  obtain ⟨f',first',cap',hc,he,hf⟩:=h;simp only [Value.func.injEq,Fn.func.injEq] at he
  obtain ⟨e1,e2,e3⟩:=he;have e2':first=first':=by simpa using congrArg Array.toList e2
  have e3':cap=cap':=by simpa using congrArg Array.toList e3
  subst e1; subst e2'; subst e3';exact ⟨hc,hf⟩
end
theorem cl102:callable Tryz.prog 102:=by kernel_rfl
theorem cl118:callable Tryz.prog 118:=by kernel_rfl
theorem cl124:callable Tryz.prog 124:=by kernel_rfl
theorem cl15:callable Tryz.prog 15:=by kernel_rfl
theorem fo113_0:fieldOff Tryz.prog 113 0 0:=by kernel_rfl
theorem fo113_2:fieldOff Tryz.prog 113 2 2:=by kernel_rfl
theorem fo47_0:fieldOff Tryz.prog 47 0 0:=by kernel_rfl
theorem fo47_2:fieldOff Tryz.prog 47 2 7:=by kernel_rfl
theorem ta47:tyA Tryz.prog 47 8:=by kernel_rfl
theorem to33:tyO Tryz.prog 33:=by kernel_rfl
end Go.Proofs.YtbbipmelhmgmfaaGreat

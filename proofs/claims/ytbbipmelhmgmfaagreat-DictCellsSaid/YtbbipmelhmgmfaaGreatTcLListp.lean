/- Ours. -/
import Derived.Test.YtbbipmelhmgmfaaGreatTcLLoads
set_option linter.all false
set_option maxRecDepth 100000
set_option maxHeartbeats 20000000
namespace Go.Proofs.YtbbipmelhmgmfaaGreat
open Go.RowKit
section
variable {n : Nat} {F : Nat → Prop} {j : Nat} {w0 : World}
theorem cl104:callable Tryz.prog 104:=by kernel_rfl
theorem cl152:callable Tryz.prog 152:=by kernel_rfl
theorem cl153:callable Tryz.prog 153:=by kernel_rfl
theorem cl154:callable Tryz.prog 154:=by kernel_rfl
theorem cl155:callable Tryz.prog 155:=by kernel_rfl
theorem cl156:callable Tryz.prog 156:=by kernel_rfl
theorem cl158:callable Tryz.prog 158:=by kernel_rfl
theorem cl160:callable Tryz.prog 160:=by kernel_rfl
theorem cl237:callable Tryz.prog 237:=by kernel_rfl
theorem cl238:callable Tryz.prog 238:=by kernel_rfl
theorem cl239:callable Tryz.prog 239:=by kernel_rfl
theorem cl241:callable Tryz.prog 241:=by kernel_rfl
theorem cl242:callable Tryz.prog 242:=by kernel_rfl
theorem cl243:callable Tryz.prog 243:=by kernel_rfl
theorem cl244:callable Tryz.prog 244:=by kernel_rfl
theorem cl247:callable Tryz.prog 247:=by kernel_rfl
theorem cl248:callable Tryz.prog 248:=by kernel_rfl
theorem cl249:callable Tryz.prog 249:=by kernel_rfl
theorem cl250:callable Tryz.prog 250:=by kernel_rfl
theorem cl253:callable Tryz.prog 253:=by kernel_rfl
theorem cl316:callable Tryz.prog 316:=by kernel_rfl
theorem cl317:callable Tryz.prog 317:=by kernel_rfl
theorem cl318:callable Tryz.prog 318:=by kernel_rfl
theorem cl319:callable Tryz.prog 319:=by kernel_rfl
theorem cl320:callable Tryz.prog 320:=by kernel_rfl
theorem cl321:callable Tryz.prog 321:=by kernel_rfl
theorem cl322:callable Tryz.prog 322:=by kernel_rfl
theorem cl364:callable Tryz.prog 364:=by kernel_rfl
theorem cl365:callable Tryz.prog 365:=by kernel_rfl
theorem cl366:callable Tryz.prog 366:=by kernel_rfl
theorem cl367:callable Tryz.prog 367:=by kernel_rfl
theorem cl368:callable Tryz.prog 368:=by kernel_rfl
theorem cl388:callable Tryz.prog 388:=by kernel_rfl
theorem cl389:callable Tryz.prog 389:=by kernel_rfl
theorem cl391:callable Tryz.prog 391:=by kernel_rfl
theorem cl392:callable Tryz.prog 392:=by kernel_rfl
theorem cl393:callable Tryz.prog 393:=by kernel_rfl
theorem cl88:callable Tryz.prog 88:=by kernel_rfl
theorem fo221_0:fieldOff Tryz.prog 221 0 0:=by kernel_rfl
theorem fo221_1:fieldOff Tryz.prog 221 1 8:=by kernel_rfl
theorem fo221_2:fieldOff Tryz.prog 221 2 9:=by kernel_rfl
theorem fo221_3:fieldOff Tryz.prog 221 3 10:=by kernel_rfl
theorem fo221_4:fieldOff Tryz.prog 221 4 11:=by kernel_rfl
theorem fo221_5:fieldOff Tryz.prog 221 5 12:=by kernel_rfl
theorem fo221_6:fieldOff Tryz.prog 221 6 13:=by kernel_rfl
theorem to273:tyO Tryz.prog 273:=by kernel_rfl
theorem ts4:sized Tryz.prog 4 1:=by kernel_rfl
def D.list_fail (a0:Int):T Res:=(D.prog_Done_Res (⟨a0,0⟩:Res))
theorem cl_list_fail (hF:kH F w0)
    (a0:Int) :
    Calls Tryz.prog 153 #[.int .i64 a0] w0 (RepResL Tryz.prog encRes n (D.list_fail a0) F w0):=by
 refine kN Tryz.func153 rfl 6 rfl rfl fun fr r hB=>?_;refine wsr ?_
 refine seq_new (.cells (kq encRes) 41 (0,0)) r (fun R=>y_alloc tz41) rfl fun fr b1 w2 n3 r=>?_;obtain ⟨E1,Z2,H1,hB,zB⟩:=n3.all hB
 refine wn (wsr (kM (I a0) r rfl rfl fun r=>kU (.agg (resC (⟨a0,0⟩:Res)).toArray) r (by kernel_rfl) rfl fun r=>?_));refine kJ r (cl_prog_Done_Res (F:=No) (n:=n) (fun _ h=>h.elim) (⟨a0,0⟩:Res)) rfl cl15 rfl fun w4 v5 hb hr6 r=>?_
 have hb:=hb.below;have Z4:=hb.size;have H1:=keep hb H1;obtain ⟨hB,zB⟩:=bon hb hB;refine kP r hr6.shape rfl rfl H1 ts41 rfl rfl fun w7 u8 r=>?_;have Z7:=u8.size
 have H1:=u8.at_;obtain ⟨hB,zB⟩:=u8.on hB (by omega)
 refine wn (wp_ret ?_);have hs:=hr6.shape.cells;refine ret_cell r rfl rfl H1 (k:=8) hs.1 ta41 ?_;rw [←hs.2.2];exact RepResL.fin (Chg.belowZ hB) hr6 u8 (fun _ h=>h.elim) (fun h=>h) (by omega) (by omega) (by omega)
def D.list_node (a0:Int):Int:=(IntKind.i64.wrap ((IntKind.i64.wrap (shrI .u64 a0 1)) - 1))
theorem cl_list_node (w0:World) 
    (a0:Int) :
    Calls Tryz.prog 88 #[.int .u64 a0] w0 (PureRes (.int .i64 (D.list_node a0)) w0):=by
 refine kN Tryz.func88 rfl 7 rfl rfl fun fr r hB=>?_;refine wsr (kA (I 0) r rfl rfl fun r=>wn (wsr (kM (U a0) r rfl rfl fun r=>kB r rfl rfl rfl (bin_shr (by first | assumption | decide)) rfl fun r=>seq_val (I (W (shrI .u64 a0 1))) r (fun R=>y_convert r rfl ti34 ti3) rfl fun fr r=>kB r rfl rfl rfl rfl rfl fun r=>kA (I (W ((W (shrI .u64 a0 1)) - 1))) r rfl rfl fun r=>wn (wp_ret ?_))))
 refine ret_tmp r rfl rfl ?_;exact ⟨rfl,hB⟩
def D.list_walk_set_1 (c0:(Unit→T Walk)):T Walk:=(c0 ())
theorem cl_list_walk_set_1 (hF:kH F w0)
    {c0f:FuncId} {c0_1 c0_2:List Value} {c0:(Unit→T Walk)} {c0b:Nat} (c0F:F c0b) (c0h:w0.heap[c0b]?=some (.cells #[kf c0f c0_1 c0_2] 273 (0,0))) (c0n:FnL Tryz.prog encWalk unitE (n+1) F w0 (kf c0f c0_1 c0_2) c0) :
    Calls Tryz.prog 364 #[.agg #[],zp c0b] w0 (RepResL Tryz.prog encWalk n (D.list_walk_set_1 c0) F w0):=by
 refine kN Tryz.func364 rfl 6 rfl rfl fun fr r hB=>?_;have lc0b:=lt_of_block c0h
 refine wsr ?_;refine kX 128 (.agg #[]) r rfl rfl fun b1 w2 n3 r=>?_;have c0h:=keep n3.below c0h
 obtain ⟨E1,Z2,H1,hB,zB⟩:=n3.all hB;refine seq_new (.cells (kq encWalk) 224 (0,0)) r (fun R=>y_alloc tz224) rfl fun fr b4 w5 n6 r=>?_;have c0h:=keep n6.below c0h
 have H1:=keep n6.below H1;obtain ⟨E4,Z5,H4,hB,zB⟩:=n6.all hB;refine wn (wsr (kL (kf c0f c0_1 c0_2) r rfl c0h to273 rfl rfl fun r=>?_));refine seq_call r (c0n.at_.2 n (Nat.lt_succ_self n) () w5 (Same.below hB hF) hB.size) (fun R hc=>y_callv0 r rfl c0n.at_.1 hc) rfl ?_
 rintro _ w7 ⟨v8,rfl,hb,hr9⟩;refine ⟨_,rfl,fun fr r=>?_⟩
 have Z7:=hb.size;have H4:=keepC hb H4 (fun h=>by have:=hF _ h; omega)
 have hB:=Chg.belowZ (Z:=F) hB;have hB:=hB.thenF hb (fun _ _ h=>h)
 have zB:=hB.size;refine kP r hr9.shape rfl rfl H4 ts224 rfl rfl fun w10 u11 r=>?_;have Z10:=u11.size
 have H4:=u11.at_;have hB:=hB.thenU u11 (.inl (by omega))
 have zB:=hB.size;refine wn (wp_ret ?_);have hs:=hr9.shape.cells;refine ret_cell r rfl rfl H4 (k:=20) hs.1 ta224 ?_;rw [←hs.2.2];exact RepResL.fin hB hr9 u11 (fun b hb=>.inl hb) (fun h=>by have:=hF _ h; omega) (by omega) (by omega) (by omega)
def D.list_walk_set (a0:Walk) (a1:Int) (a2:Int) (a3:(Unit→T Walk)):T Walk:=(T.bind (D.hazard_Set a0.seat.p a0.seat.thread a1 a2) (fun _=>(D.list_walk_set_1 a3)))
theorem cl_list_walk_set (hF:kH F w0)
    (a0:Walk) (a1:Int) (a2:Int) {a3f:FuncId} {a3_1 a3_2:List Value} {a3:(Unit→T Walk)} (a3n:FnL Tryz.prog encWalk unitE (n) F w0 (kf a3f a3_1 a3_2) a3) :
    Calls Tryz.prog 319 #[.agg (walkC a0).toArray,.int .i64 a1,.int .i64 a2,kf a3f a3_1 a3_2] w0 (RepResL Tryz.prog encWalk n (D.list_walk_set a0 a1 a2 a3) F w0):=by
 refine kN Tryz.func319 rfl 20 rfl rfl fun fr r hB=>?_;refine wsr ?_
 refine kX 221 (.agg (walkC a0).toArray) r rfl rfl fun b1 w2 n3 r=>?_;obtain ⟨E1,Z2,H1,hB,zB⟩:=n3.all hB
 refine kX 273 (kf a3f a3_1 a3_2) r rfl rfl fun b4 w5 n6 r=>?_;have H1:=keep n6.below H1
 obtain ⟨E4,Z5,H4,hB,zB⟩:=n6.all hB;refine seq_new (.cells (kq encWalk) 224 (0,0)) r (fun R=>y_alloc tz224) rfl fun fr b7 w8 n9 r=>?_;have H1:=keep n9.below H1
 have H4:=keep n9.below H4;obtain ⟨E7,Z8,H7,hB,zB⟩:=n9.all hB;refine wn (wsr (kF 0 r rfl fo221_0 rfl fun r=>kF 0 r rfl fo47_0 rfl fun r=>kG (planC a0.seat.p) 6 r rfl H1 ta23 rfl rfl fun r=>kF 0 r rfl fo221_0 rfl fun r=>kF 0 r rfl fo47_2 rfl fun r=>kL (I a0.seat.thread) r rfl H1 to3 rfl rfl fun r=>kM (I a1) r rfl rfl fun r=>kM (I a2) r rfl rfl fun r=>?_));refine kD r (c_hazard_Set (F:=No) (n:=n) (fun _ h=>h.elim) a0.seat.p a0.seat.thread a1 a2) rfl cl229 rfl fun w10 v11 hb hr12 r=>?_
 have hr12:=hr12.loud;have Z10:=hb.size;have H1:=keep hb H1;have H4:=keep hb H4;have H7:=keep hb H7;obtain ⟨hB,zB⟩:=bon hb hB;refine seq_val (.func (.func 364) #[] #[zp b4]) r (fun R=>y_makeFunc r rfl) rfl fun fr r=>?_;have hF1:∀ b,(kW F w0 w8 b7) b→b<w10.heap.size:=by rintro b (h | ⟨_,h,_⟩); exact Nat.lt_of_lt_of_le (hF b h) hB.size; exact Nat.lt_of_lt_of_le h (by omega)
 have f16:((kW F w0 w8 b7)) b4:=(.inr ⟨by omega,by omega,by omega⟩)
 have hF2:=fgrowC hF hB.size b7;refine kJ r (cl_prog_Then_None_walk_lt (F:=(kW F w0 w10 b7)) (F2:=(kW F w0 w8 b7)) (n:=n) hF2 (by rintro b ⟨h,h'⟩; exact .inr ⟨by omega,by omega,by omega⟩) (by rintro b (h | ⟨h1,h2,h3⟩); exact .inl h; exact .inr ⟨h1,by omega,h3⟩) (by rintro b ⟨h1,h2⟩ (h | ⟨h3,h4,_⟩); (have:=hF b h; omega); omega) (RepL.mono (F':=fun b=>w8.heap.size≤b∧b<w10.heap.size) (by rintro b (h | h); exact h.elim; exact h) (Same.refl _ _) (Nat.le_refl _) n _ _ hr12) ⟨364,[],[zp b4],cl364,rfl,fun m hm _ w' hs hz=>cl_list_walk_set_1 (fun b hb=>Nat.lt_of_lt_of_le (hF1 b hb) hz) f16 (hs.at_ f16 H4) (a3n.mono (by omega) (fun b h=>.inl h) ((Same.below hB hF).trans (hs.sub (fun b h=>.inl h))) (Nat.le_trans hB.size hz))⟩ rfl) rfl cl363 rfl fun w13 v14 hb hr15 r=>?_
 have Z13:=hb.size;have H7:=keepC hb H7 (by rintro (h | ⟨_,_,h⟩); (have:=hF _ h; omega); exact h rfl)
 have hB:=Chg.belowZ (Z:=F) hB;have hB:=hB.thenF hb (by rintro b hlt (h | ⟨h,_⟩); exact h; omega)
 have zB:=hB.size;refine kP r hr15.shape rfl rfl H7 ts224 rfl rfl fun w17 u18 r=>?_;have Z17:=u18.size
 have H7:=u18.at_;have hB:=hB.thenU u18 (.inl (by omega))
 have zB:=hB.size;refine wn (wp_ret ?_);have hs:=hr15.shape.cells;refine ret_cell r rfl rfl H7 (k:=20) hs.1 ta224 ?_;rw [←hs.2.2];exact RepResL.fin hB hr15 u18 (by rintro b (h | ⟨h1,h2,_⟩); exact .inl h; exact .inr ⟨h1,h2⟩) (by rintro (h | ⟨_,_,h⟩); (have:=hF _ h; omega); exact h rfl) (by omega) (by omega) (by omega)
def D.list_walk_on_1_1 (j:Nat) (r_list_walk_step:Walk→T Walk) (c0:Walk) (c1:Int):T Walk:=(r_list_walk_step ({ ({ c0 with place:=(D.plan_Plan_Field c0.seat.p c1 2) }) with cur:=c0.next }))
def D.list_walk_on_1 (j:Nat) (r_list_walk_step:Walk→T Walk) (c0:Walk) (c1:Int):T Walk:=(D.list_walk_set c0 1 (D.list_node c0.next) (fun _=>(D.list_walk_on_1_1 j r_list_walk_step c0 c1)))
def D.list_walk_on (j:Nat) (r_list_walk_step:Walk→T Walk) (a0:Walk) (a1:Int):T Walk:=(D.list_walk_set a0 2 a1 (fun _=>(D.list_walk_on_1 j r_list_walk_step a0 a1)))
def D.list_walk_unlinked_1_1 (j:Nat) (r_list_walk_step:Walk→T Walk) (c0:Int) (c1:Walk) (a0:Int):T Walk:=(D.list_walk_set ({ c1 with cur:=c0 }) 1 (D.list_node c0) (fun _=>(r_list_walk_step ({ c1 with cur:=c0 }))))
def D.list_find_1 (j:Nat) (r_list_walk_step:Walk→T Walk) (c0:Seat) (c1:Int) (c2:Int) (a0:Int):T Walk:=(r_list_walk_step (⟨c0,c1,c2,c1,a0,0,false⟩:Walk))
def D.list_find (j:Nat) (r_list_walk_step:Walk→T Walk) (a0:Seat) (a1:Int) (a2:Int):T Walk:=(T.bind (D.hazard_Guard j a0.p a0.thread 1 a1 1) (fun x=>(D.list_find_1 j r_list_walk_step a0 a1 a2 x)))
def D.list_walk_anew (j:Nat) (r_list_walk_step:Walk→T Walk) (a0:Walk):T Walk:=(D.list_find j r_list_walk_step a0.seat a0.cell a0.k)
def D.list_walk_unlinked_1 (j:Nat) (r_list_walk_step:Walk→T Walk) (c0:Walk) (c1:Int) (c2:Int) (a0:Bool):T Walk:=(bif (!a0) then (D.list_walk_anew j r_list_walk_step c0) else (T.bind (D.alloc_Retire j c0.seat.p c0.seat.thread c1) (fun x=>(D.list_walk_unlinked_1_1 j r_list_walk_step c2 c0 x))))
def D.list_walk_unlinked (j:Nat) (r_list_walk_step:Walk→T Walk) (a0:Walk) (a1:Int):T Walk:=(D.prog_Swap_walk a0.place a0.cur (bits_andNot .u64 a0.next 1) (fun x=>(D.list_walk_unlinked_1 j r_list_walk_step a0 a1 (bits_andNot .u64 a0.next 1) x)))
def D.list_walk_keyed_1_1 (j:Nat) (r_list_walk_step:Walk→T Walk) (c0:Walk) (c1:Int) (c2:Int) (a0:Int):T Walk:=(bif (a0 !=c0.cur) then (D.list_walk_anew j r_list_walk_step c0) else (bif ((bits_and .u64 c0.next 1) !=0) then (D.list_walk_unlinked j r_list_walk_step c0 c1) else (bif (decide (c2≥c0.k)) then (D.prog_Done_walk ({ c0 with there:=(c2==c0.k) })) else (D.list_walk_on j r_list_walk_step c0 c1))))
def D.list_walk_keyed_1 (j:Nat) (r_list_walk_step:Walk→T Walk) (c0:Walk) (c1:Int) (a0:Int):T Walk:=(D.prog_Load_walk c0.place (fun x=>(D.list_walk_keyed_1_1 j r_list_walk_step c0 c1 a0 x)))
def D.list_walk_keyed (j:Nat) (r_list_walk_step:Walk→T Walk) (a0:Walk) (a1:Int):T Walk:=(D.prog_Load_walk (D.plan_Plan_Field a0.seat.p a1 0) (fun x=>(D.list_walk_keyed_1 j r_list_walk_step a0 a1 x)))
def D.list_walk_step_1_1_1 (j:Nat) (r_list_walk_step:Walk→T Walk) (c0:Int) (c1:Walk) (c2:Int) (a0:Int):T Walk:=(bif (a0 !=c0) then (D.list_walk_anew j r_list_walk_step c1) else (D.list_walk_keyed j r_list_walk_step ({ c1 with next:=c0 }) c2))
def D.list_walk_step_1_1 (j:Nat) (r_list_walk_step:Walk→T Walk) (c0:Int) (c1:Int) (c2:Walk) (c3:Int):T Walk:=(D.prog_Load_walk c0 (fun x=>(D.list_walk_step_1_1_1 j r_list_walk_step c1 c2 c3 x)))
def D.list_walk_step_1 (j:Nat) (r_list_walk_step:Walk→T Walk) (c0:Walk) (c1:Int) (c2:Int) (a0:Int):T Walk:=(D.list_walk_set c0 0 (D.list_node a0) (fun _=>(D.list_walk_step_1_1 j r_list_walk_step c1 a0 c0 c2)))
def D.list_walk_step_body (j:Nat) (r_list_walk_step:Walk→T Walk) (a0:Walk):T Walk:=(bif (decide ((D.list_node a0.cur)<0)) then (D.prog_Done_walk ({ a0 with there:=false })) else (D.prog_Load_walk (D.plan_Plan_Field a0.seat.p (D.list_node a0.cur) 2) (fun x=>(D.list_walk_step_1 j r_list_walk_step a0 (D.plan_Plan_Field a0.seat.p (D.list_node a0.cur) 2) (D.list_node a0.cur) x))))
def D.list_walk_step (j:Nat):Nat→Walk→T Walk
  | 0,_=>.cut
  | k+1,a0=>D.list_walk_step_body j (D.list_walk_step j k) a0
def Spec_list_walk_step (r:Walk→T Walk) (n:Nat):Prop:=∀ (F:Nat→Prop) (w0:World),(∀ b,F b→b<w0.heap.size)→∀ (a0:Walk),Calls Tryz.prog 249 #[.agg (walkC a0).toArray] w0 (RepResL Tryz.prog encWalk n (r a0) F w0)
theorem cl_list_walk_on_1_1 {r_list_walk_step:Walk→T Walk} (hF:kH F w0) (hj:n<j) (ih_list_walk_step:∀ m,m≤n→Spec_list_walk_step r_list_walk_step m)
    (c0:Walk) {c0b:Nat} (c0F:F c0b) (c0h:w0.heap[c0b]?=some (.cells ((walkC c0)).toArray 221 (0,0))) (c1:Int) {c1b:Nat} (c1F:F c1b) (c1h:w0.heap[c1b]?=some (.cells ([(.int .i64 c1)]).toArray 3 (0,0))) :
    Calls Tryz.prog 393 #[zp c0b,zp c1b] w0 (RepResL Tryz.prog encWalk n (D.list_walk_on_1_1 j r_list_walk_step c0 c1) F w0):=by
 refine kN Tryz.func393 rfl 14 rfl rfl fun fr r hB=>?_;have lc0b:=lt_of_block c0h
 have lc1b:=lt_of_block c1h;refine wsr ?_;refine seq_new (.cells (kq encWalk) 224 (0,0)) r (fun R=>y_alloc tz224) rfl fun fr b1 w2 n3 r=>?_;have c0h:=keep n3.below c0h
 have c1h:=keep n3.below c1h;obtain ⟨E1,Z2,H1,hB,zB⟩:=n3.all hB;refine wn (wp_seq ?_);refine wp_drawnF 8 [.val (zp c0b),.val (zp c0b),.val (.agg (planC c0.seat.p).toArray),.val (I c1),.val (I (D.plan_Plan_Field c0.seat.p c1 2)),.val (.pointer (some ⟨c0b,12,none⟩)),.val (U c0.next),.val (.pointer (some ⟨c0b,10,none⟩))] mixed r (by kernel_rfl) (kV (kV (kV (kV (kV (kV (kV (kV within_nil)))))))) ?_ ?_
 ·
  refine ec r (fun _ u _ b d s=>y_fieldAddr s (b:=c0b) (o:=0) rfl fo221_0 bz) (ec r (fun _ u _ b d s=>y_fieldAddr s (b:=c0b) (o:=0) d.1 fo47_0 bz) (ec r (fun _ u _ b d s=>y_load_agg s (cs:=(planC c0.seat.p)) (n:=6) d.1 (keep b c0h) ta23 rfl bz) (ec r (fun _ u _ b d s=>y_load_one s rfl (keep b c1h) to3 rfl bz) (ec r (fun fr1 u w' hb' hd r'=>y_call r' (args:=[(.agg (planC c0.seat.p).toArray),(I c1),(I 2)]) (lc hd.1 (lc hd.2.1 (lc rfl l0))) cl89 ((c_plan_Plan_Field _ c0.seat.p c1 2).mono (by rintro _ w2 ⟨rfl,hb2⟩; exact ⟨_,rfl,hb2,rfl⟩))) (ec r (fun _ u _ b d s=>y_fieldAddr s (b:=c0b) (o:=0) rfl fo221_5 bz) (ec r (fun _ u _ b d s=>y_load_one s d.1 (keep b c0h) to34 rfl bz) (ec r (fun _ u _ b d s=>y_fieldAddr s (b:=c0b) (o:=0) rfl fo221_3 bz) ?_)))))));exact each_nil
 intro fr u w4 hb hΦ hne r;have r:=r.congr (sc (hΦ 7 (by decide)) (sc (hΦ 6 (by decide)) (sc (hΦ 5 (by decide)) (sc (hΦ 4 (by decide)) (sc (hΦ 3 (by decide)) (sc (hΦ 2 (by decide)) (sc (hΦ 1 (by decide)) (sc (hΦ 0 (by decide)) rfl))))))));have Z4:=hb.size;have c0h:=keep hb c0h;have c1h:=keep hb c1h;have H1:=keep hb H1;obtain ⟨hB,zB⟩:=bon hb hB;refine seq_upd (.cells ((walkC ({ c0 with place:=(D.plan_Plan_Field c0.seat.p c1 2) }))).toArray 221 (0,0)) r (fun R=>y_store r (o:=10) (v:=(I (D.plan_Plan_Field c0.seat.p c1 2))) rfl rfl c0h ts3 (Nat.le_of_ble_eq_true rfl) rfl rfl) rfl fun fr w5 u6 r=>?_
 have Z5:=u6.size;have c1h:=u6.keep c1h (blk_tne c1h c0h rfl);have H1:=u6.keep H1 (by omega)
 have c0h:=u6.at_;have hB:=Chg.belowZ (Z:=F) hB;have hB:=hB.thenU u6 (.inr c0F);have zB:=hB.size;obtain ⟨zs7,ezs7⟩:∃ z,z=({ c0 with place:=(D.plan_Plan_Field c0.seat.p c1 2) }):=⟨_,rfl⟩
 rw [←ezs7] at c0h
 refine kF 0 r rfl fo221_4 rfl fun r=>?_;refine seq_upd (.cells ((walkC ({ zs7 with cur:=c0.next }))).toArray 221 (0,0)) r (fun R=>y_store r (o:=11) (v:=(U c0.next)) rfl rfl c0h ts34 (Nat.le_of_ble_eq_true rfl) rfl rfl) rfl fun fr w8 u9 r=>?_
 have Z8:=u9.size;have c1h:=u9.keep c1h (blk_tne c1h c0h rfl);have H1:=u9.keep H1 (by omega)
 have c0h:=u9.at_;have hB:=hB.thenU u9 (.inr c0F);have zB:=hB.size;obtain ⟨zs10,ezs10⟩:∃ z,z=({ zs7 with cur:=c0.next }):=⟨_,rfl⟩
 rw [←ezs10] at c0h
 refine wn (wsr (kG (walkC zs10) 14 r rfl c0h ta221 rfl rfl fun r=>?_));refine kJ r ((ih_list_walk_step n (by omega)) (No) _ (fun _ h=>h.elim) zs10) rfl cl249 rfl fun w11 v12 hb hr13 r=>?_
 have hb:=hb.below;have Z11:=hb.size;have c0h:=keep hb c0h;have c1h:=keep hb c1h;have H1:=keep hb H1;have hB:=hB.thenB hb;have zB:=hB.size;refine kP r hr13.shape rfl rfl H1 ts224 rfl rfl fun w14 u15 r=>?_;have Z14:=u15.size
 have c0h:=u15.keep c0h (by omega)
 have c1h:=u15.keep c1h (by omega)
 have H1:=u15.at_;have hB:=hB.thenU u15 (.inl (by omega))
 have zB:=hB.size;refine wn (wp_ret ?_);have hd:D.list_walk_on_1_1 j r_list_walk_step c0 c1=(r_list_walk_step zs10):=by subst ezs10 ezs7; exact rfl
 have hs:=hr13.shape.cells;refine ret_cell r rfl rfl H1 (k:=20) hs.1 ta224 ?_;rw [←hs.2.2,hd];exact RepResL.fin hB hr13 u15 (fun _ h=>h.elim) (fun h=>h) (by omega) (by omega) (by omega)
theorem cl_list_walk_on_1 {r_list_walk_step:Walk→T Walk} (hF:kH F w0) (hj:n<j) (ih_list_walk_step:∀ m,m<n→Spec_list_walk_step r_list_walk_step m)
    (c0:Walk) {c0b:Nat} (c0F:F c0b) (c0h:w0.heap[c0b]?=some (.cells ((walkC c0)).toArray 221 (0,0))) (c1:Int) {c1b:Nat} (c1F:F c1b) (c1h:w0.heap[c1b]?=some (.cells ([(.int .i64 c1)]).toArray 3 (0,0))) :
    Calls Tryz.prog 392 #[zp c0b,zp c1b] w0 (RepResL Tryz.prog encWalk n (D.list_walk_on_1 j r_list_walk_step c0 c1) F w0):=by
 refine kN Tryz.func392 rfl 9 rfl rfl fun fr r hB=>?_;have lc0b:=lt_of_block c0h
 have lc1b:=lt_of_block c1h;refine wsr ?_;refine seq_new (.cells (kq encWalk) 224 (0,0)) r (fun R=>y_alloc tz224) rfl fun fr b1 w2 n3 r=>?_;have c0h:=keep n3.below c0h
 have c1h:=keep n3.below c1h;obtain ⟨E1,Z2,H1,hB,zB⟩:=n3.all hB;refine wn (wp_seq ?_);refine wp_drawnF 5 [.val (.agg (walkC c0).toArray),.val (.pointer (some ⟨c0b,12,none⟩)),.val (U c0.next),.val (I (D.list_node c0.next)),.val (.func (.func 393) #[] #[zp c0b,zp c1b])] mixed r (by kernel_rfl) (kV (kV (kV (kV (kV within_nil))))) ?_ ?_
 ·
  refine ec r (fun _ u _ b d s=>y_load_agg s (cs:=(walkC c0)) (n:=14) rfl (keep b c0h) ta221 rfl bz) (ec r (fun _ u _ b d s=>y_fieldAddr s (b:=c0b) (o:=0) rfl fo221_5 bz) (ec r (fun _ u _ b d s=>y_load_one s d.1 (keep b c0h) to34 rfl bz) (ec r (fun fr1 u w' hb' hd r'=>y_call r' (args:=[(U c0.next)]) (lc hd.1 l0) cl88 ((cl_list_node _ c0.next).mono (by rintro _ w2 ⟨rfl,hb2⟩; exact ⟨_,rfl,hb2,rfl⟩))) (ec r (fun _ u _ b d s=>y_makeFunc s (v:=(.func (.func 393) #[] #[zp c0b,zp c1b])) rfl bz) ?_))));exact each_nil
 intro fr u w4 hb hΦ hne r;have r:=r.congr (sc (hΦ 4 (by decide)) (sc (hΦ 3 (by decide)) (sc (hΦ 2 (by decide)) (sc (hΦ 1 (by decide)) (sc (hΦ 0 (by decide)) rfl)))));have Z4:=hb.size;have c0h:=keep hb c0h;have c1h:=keep hb c1h;have H1:=keep hb H1;obtain ⟨hB,zB⟩:=bon hb hB;have hF1:=fgrowC hF hB.size b1;have f8:((kW F w0 w4 b1)) c0b:=(.inl c0F);have f9:((kW F w0 w4 b1)) c1b:=(.inl c1F);refine kJ r (cl_list_walk_set (F:=(kW F w0 w4 b1)) (n:=n) hF1 c0 1 (D.list_node c0.next) ⟨393,[],[zp c0b,zp c1b],cl393,rfl,fun m hm _ w' hs hz=>cl_list_walk_on_1_1 (j:=j) (fun b hb=>Nat.lt_of_lt_of_le (hF1 b hb) hz) (by omega) (fun m' hm'=>ih_list_walk_step m' (by omega)) c0 f8 (hs.at_ f8 c0h) c1 f9 (hs.at_ f9 c1h)⟩) rfl cl319 rfl fun w5 v6 hb hr7 r=>?_;have Z5:=hb.size
 have H1:=keepC hb H1 (by rintro (h | ⟨_,_,h⟩); (have:=hF _ h; omega); exact h rfl)
 have hB:=Chg.belowZ (Z:=F) hB;have hB:=hB.thenF hb (by rintro b hlt (h | ⟨h,_⟩); exact h; omega)
 have zB:=hB.size;refine kP r hr7.shape rfl rfl H1 ts224 rfl rfl fun w10 u11 r=>?_;have Z10:=u11.size
 have H1:=u11.at_;have hB:=hB.thenU u11 (.inl (by omega))
 have zB:=hB.size;refine wn (wp_ret ?_);have hs:=hr7.shape.cells;refine ret_cell r rfl rfl H1 (k:=20) hs.1 ta224 ?_;rw [←hs.2.2];exact RepResL.fin hB hr7 u11 (by rintro b (h | ⟨h1,h2,_⟩); exact .inl h; exact .inr ⟨h1,h2⟩) (by rintro (h | ⟨_,_,h⟩); (have:=hF _ h; omega); exact h rfl) (by omega) (by omega) (by omega)
theorem cl_list_walk_on {r_list_walk_step:Walk→T Walk} (hF:kH F w0) (hj:n<j) (ih_list_walk_step:∀ m,m<n→Spec_list_walk_step r_list_walk_step m)
    (a0:Walk) (a1:Int) :
    Calls Tryz.prog 368 #[.agg (walkC a0).toArray,.int .i64 a1] w0 (RepResL Tryz.prog encWalk n (D.list_walk_on j r_list_walk_step a0 a1) F w0):=by
 refine kN Tryz.func368 rfl 9 rfl rfl fun fr r hB=>?_;refine wsr ?_
 refine kX 221 (.agg (walkC a0).toArray) r rfl rfl fun b1 w2 n3 r=>?_;obtain ⟨E1,Z2,H1,hB,zB⟩:=n3.all hB
 refine kX 3 (I a1) r rfl rfl fun b4 w5 n6 r=>?_;have H1:=keep n6.below H1
 obtain ⟨E4,Z5,H4,hB,zB⟩:=n6.all hB;refine seq_new (.cells (kq encWalk) 224 (0,0)) r (fun R=>y_alloc tz224) rfl fun fr b7 w8 n9 r=>?_;have H1:=keep n9.below H1
 have H4:=keep n9.below H4;obtain ⟨E7,Z8,H7,hB,zB⟩:=n9.all hB;refine wn (wsr (kG (walkC a0) 14 r rfl H1 ta221 rfl rfl fun r=>kL (I a1) r rfl H4 to3 rfl rfl fun r=>seq_val (.func (.func 392) #[] #[zp b1,zp b4]) r (fun R=>y_makeFunc r rfl) rfl fun fr r=>?_));have hF1:=fgrowC hF hB.size b7
 have f13:((kW F w0 w8 b7)) b1:=(.inr ⟨by omega,by omega,by omega⟩)
 have f14:((kW F w0 w8 b7)) b4:=(.inr ⟨by omega,by omega,by omega⟩)
 refine kJ r (cl_list_walk_set (F:=(kW F w0 w8 b7)) (n:=n) hF1 a0 2 a1 ⟨392,[],[zp b1,zp b4],cl392,rfl,fun m hm _ w' hs hz=>cl_list_walk_on_1 (j:=j) (fun b hb=>Nat.lt_of_lt_of_le (hF1 b hb) hz) (by omega) (fun m' hm'=>ih_list_walk_step m' (by omega)) a0 f13 (hs.at_ f13 H1) a1 f14 (hs.at_ f14 H4)⟩) rfl cl319 rfl fun w10 v11 hb hr12 r=>?_;have Z10:=hb.size
 have H7:=keepC hb H7 (by rintro (h | ⟨_,_,h⟩); (have:=hF _ h; omega); exact h rfl)
 have hB:=Chg.belowZ (Z:=F) hB;have hB:=hB.thenF hb (by rintro b hlt (h | ⟨h,_⟩); exact h; omega)
 have zB:=hB.size;refine kP r hr12.shape rfl rfl H7 ts224 rfl rfl fun w15 u16 r=>?_;have Z15:=u16.size
 have H7:=u16.at_;have hB:=hB.thenU u16 (.inl (by omega))
 have zB:=hB.size;refine wn (wp_ret ?_);have hs:=hr12.shape.cells;refine ret_cell r rfl rfl H7 (k:=20) hs.1 ta224 ?_;rw [←hs.2.2];exact RepResL.fin hB hr12 u16 (by rintro b (h | ⟨h1,h2,_⟩); exact .inl h; exact .inr ⟨h1,h2⟩) (by rintro (h | ⟨_,_,h⟩); (have:=hF _ h; omega); exact h rfl) (by omega) (by omega) (by omega)
theorem cl_list_walk_unlinked_1_1 {r_list_walk_step:Walk→T Walk} (hF:kH F w0) (hj:n<j) (ih_list_walk_step:∀ m,m<n→Spec_list_walk_step r_list_walk_step m)
    (c0:Int) {c0b:Nat} (c0F:F c0b) (c0h:w0.heap[c0b]?=some (.cells ([(.int .u64 c0)]).toArray 34 (0,0))) (c1:Walk) {c1b:Nat} (c1F:F c1b) (c1h:w0.heap[c1b]?=some (.cells ((walkC c1)).toArray 221 (0,0))) (a0:Int) :
    Calls Tryz.prog 391 #[.int .i64 a0,zp c0b,zp c1b] w0 (RepResL Tryz.prog encWalk n (D.list_walk_unlinked_1_1 j r_list_walk_step c0 c1 a0) F w0):=by
 refine kN Tryz.func391 rfl 13 rfl rfl fun fr r hB=>?_;have lc0b:=lt_of_block c0h
 have lc1b:=lt_of_block c1h;refine wsr ?_;refine seq_new (.cells (kq encWalk) 224 (0,0)) r (fun R=>y_alloc tz224) rfl fun fr b1 w2 n3 r=>?_;have c0h:=keep n3.below c0h
 have c1h:=keep n3.below c1h;obtain ⟨E1,Z2,H1,hB,zB⟩:=n3.all hB;refine wn (wsr (kL (U c0) r rfl c0h to34 rfl rfl fun r=>kF 0 r rfl fo221_4 rfl fun r=>?_));refine seq_upd (.cells ((walkC ({ c1 with cur:=c0 }))).toArray 221 (0,0)) r (fun R=>y_store r (o:=11) (v:=(U c0)) rfl rfl c1h ts34 (Nat.le_of_ble_eq_true rfl) rfl rfl) rfl fun fr w4 u5 r=>?_
 have Z4:=u5.size;have c0h:=u5.keep c0h (blk_tne c0h c1h rfl);have H1:=u5.keep H1 (by omega)
 have c1h:=u5.at_;have hB:=Chg.belowZ (Z:=F) hB;have hB:=hB.thenU u5 (.inr c1F);have zB:=hB.size;obtain ⟨zs6,ezs6⟩:∃ z,z=({ c1 with cur:=c0 }):=⟨_,rfl⟩
 rw [←ezs6] at c1h
 refine wn (wp_seq ?_);refine wp_drawnF 5 [.val (.agg (walkC zs6).toArray),.val (U c0),.val (I (D.list_node c0)),.val (.agg (walkC zs6).toArray),.val (.func (.func 249) #[(.agg (walkC zs6).toArray)] #[])] mixed r (by kernel_rfl) (kV (kV (kV (kV (kV within_nil))))) ?_ ?_
 ·
  refine ec r (fun _ u _ b d s=>y_load_agg s (cs:=(walkC zs6)) (n:=14) rfl (keep b c1h) ta221 rfl bz) (ec r (fun _ u _ b d s=>y_load_one s rfl (keep b c0h) to34 rfl bz) (ec r (fun fr1 u w' hb' hd r'=>y_call r' (args:=[(U c0)]) (lc hd.1 l0) cl88 ((cl_list_node _ c0).mono (by rintro _ w2 ⟨rfl,hb2⟩; exact ⟨_,rfl,hb2,rfl⟩))) (ec r (fun _ u _ b d s=>y_load_agg s (cs:=(walkC zs6)) (n:=14) rfl (keep b c1h) ta221 rfl bz) (ec r (fun fr1 u w' hb' hd r'=>y_makeFunc r' (v:=(.func (.func 249) #[(.agg (walkC zs6).toArray)] #[])) (congrArg (fun z=>Value.func (.func 249) #[z] #[]) hd.1) bz) ?_))));exact each_nil
 intro fr u w7 hb hΦ hne r;have r:=r.congr (sc (hΦ 4 (by decide)) (sc (hΦ 3 (by decide)) (sc (hΦ 2 (by decide)) (sc (hΦ 1 (by decide)) (sc (hΦ 0 (by decide)) rfl)))));have Z7:=hb.size;have c0h:=keep hb c0h;have c1h:=keep hb c1h;have H1:=keep hb H1;have hB:=hB.thenB hb;have zB:=hB.size;have hF1:=fgrowC hF hB.size b1;refine kJ r (cl_list_walk_set (F:=(kW F w0 w7 b1)) (n:=n) hF1 zs6 1 (D.list_node c0) ⟨249,[(.agg (walkC zs6).toArray)],[],cl249,rfl,fun m hm _ w' hs hz=>(ih_list_walk_step m (by omega)) _ _ (fun b hb=>Nat.lt_of_lt_of_le (hF1 b hb) hz) zs6⟩) rfl cl319 rfl fun w8 v9 hb hr10 r=>?_;have Z8:=hb.size
 have H1:=keepC hb H1 (by rintro (h | ⟨_,_,h⟩); (have:=hF _ h; omega); exact h rfl)
 have hB:=hB.thenF hb (by rintro b hlt (h | ⟨h,_⟩); exact h; omega)
 have zB:=hB.size;refine kP r hr10.shape rfl rfl H1 ts224 rfl rfl fun w11 u12 r=>?_;have Z11:=u12.size
 have H1:=u12.at_;have hB:=hB.thenU u12 (.inl (by omega))
 have zB:=hB.size;refine wn (wp_ret ?_);have hd:D.list_walk_unlinked_1_1 j r_list_walk_step c0 c1 a0=(D.list_walk_set zs6 1 (D.list_node c0) (fun _=>(r_list_walk_step zs6))):=by subst ezs6; exact rfl
 have hs:=hr10.shape.cells;refine ret_cell r rfl rfl H1 (k:=20) hs.1 ta224 ?_;rw [←hs.2.2,hd];exact RepResL.fin hB hr10 u12 (by rintro b (h | ⟨h1,h2,_⟩); exact .inl h; exact .inr ⟨h1,h2⟩) (by rintro (h | ⟨_,_,h⟩); (have:=hF _ h; omega); exact h rfl) (by omega) (by omega) (by omega)
theorem cl_list_find_1 {r_list_walk_step:Walk→T Walk} (hF:kH F w0) (hj:n<j) (ih_list_walk_step:∀ m,m≤n→Spec_list_walk_step r_list_walk_step m)
    (c0:Seat) {c0b:Nat} (c0F:F c0b) (c0h:w0.heap[c0b]?=some (.cells ((seatC c0)).toArray 47 (0,0))) (c1:Int) {c1b:Nat} (c1F:F c1b) (c1h:w0.heap[c1b]?=some (.cells ([(.int .i64 c1)]).toArray 3 (0,0))) (c2:Int) {c2b:Nat} (c2F:F c2b) (c2h:w0.heap[c2b]?=some (.cells ([(.int .u64 c2)]).toArray 34 (0,0))) (a0:Int) :
    Calls Tryz.prog 248 #[.int .u64 a0,zp c0b,zp c1b,zp c2b] w0 (RepResL Tryz.prog encWalk n (D.list_find_1 j r_list_walk_step c0 c1 c2 a0) F w0):=by
 refine kN Tryz.func248 rfl 13 rfl rfl fun fr r hB=>?_;have lc0b:=lt_of_block c0h
 have lc1b:=lt_of_block c1h;have lc2b:=lt_of_block c2h;refine wsr ?_;refine seq_new (.cells (kq encWalk) 224 (0,0)) r (fun R=>y_alloc tz224) rfl fun fr b1 w2 n3 r=>?_;obtain ⟨E1,Z2,H1,hB,zB⟩:=n3.all hB
 refine wn (wsr (kG (seatC c0) 8 r rfl (keep hB c0h) ta47 rfl rfl fun r=>kL (I c1) r rfl (keep hB c1h) to3 rfl rfl fun r=>kL (U c2) r rfl (keep hB c2h) to34 rfl rfl fun r=>kL (I c1) r rfl (keep hB c1h) to3 rfl rfl fun r=>kM (U a0) r rfl rfl fun r=>kU (.agg (walkC (⟨c0,c1,c2,c1,a0,0,false⟩:Walk)).toArray) r (by kernel_rfl) rfl fun r=>?_));refine kJ r ((ih_list_walk_step n (by omega)) (No) _ (fun _ h=>h.elim) (⟨c0,c1,c2,c1,a0,0,false⟩:Walk)) rfl cl249 rfl fun w4 v5 hb hr6 r=>?_
 have hb:=hb.below;have Z4:=hb.size;have H1:=keep hb H1;obtain ⟨hB,zB⟩:=bon hb hB;refine kP r hr6.shape rfl rfl H1 ts224 rfl rfl fun w7 u8 r=>?_;have Z7:=u8.size
 have H1:=u8.at_;obtain ⟨hB,zB⟩:=u8.on hB (by omega)
 refine wn (wp_ret ?_);have hs:=hr6.shape.cells;refine ret_cell r rfl rfl H1 (k:=20) hs.1 ta224 ?_;rw [←hs.2.2];exact RepResL.fin (Chg.belowZ hB) hr6 u8 (fun _ h=>h.elim) (fun h=>h) (by omega) (by omega) (by omega)
theorem cl_list_find {r_list_walk_step:Walk→T Walk} (hF:kH F w0) (hj:n<j) (ih_list_walk_step:∀ m,m<n→Spec_list_walk_step r_list_walk_step m)
    (a0:Seat) (a1:Int) (a2:Int) :
    Calls Tryz.prog 158 #[.agg (seatC a0).toArray,.int .i64 a1,.int .u64 a2] w0 (RepResL Tryz.prog encWalk n (D.list_find j r_list_walk_step a0 a1 a2) F w0):=by
 refine kN Tryz.func158 rfl 15 rfl rfl fun fr r hB=>?_;refine wsr ?_
 refine kX 47 (.agg (seatC a0).toArray) r rfl rfl fun b1 w2 n3 r=>?_;obtain ⟨E1,Z2,H1,hB,zB⟩:=n3.all hB
 refine kX 3 (I a1) r rfl rfl fun b4 w5 n6 r=>?_;have H1:=keep n6.below H1
 obtain ⟨E4,Z5,H4,hB,zB⟩:=n6.all hB;refine kX 34 (U a2) r rfl rfl fun b7 w8 n9 r=>?_;have H1:=keep n9.below H1
 have H4:=keep n9.below H4;obtain ⟨E7,Z8,H7,hB,zB⟩:=n9.all hB;refine seq_new (.cells (kq encWalk) 224 (0,0)) r (fun R=>y_alloc tz224) rfl fun fr b10 w11 n12 r=>?_;have H1:=keep n12.below H1
 have H4:=keep n12.below H4;have H7:=keep n12.below H7;obtain ⟨E10,Z11,H10,hB,zB⟩:=n12.all hB;refine wn (wsr (kF 0 r rfl fo47_0 rfl fun r=>kG (planC a0.p) 6 r rfl H1 ta23 rfl rfl fun r=>kF 0 r rfl fo47_2 rfl fun r=>kL (I a0.thread) r rfl H1 to3 rfl rfl fun r=>kL (I a1) r rfl H4 to3 rfl rfl fun r=>?_));refine kD r (c_hazard_Guard (j:=j) (F:=No) (n:=n) (fun _ h=>h.elim) (by omega) a0.p a0.thread 1 a1 1 (by first | assumption | decide)) rfl cl247 rfl fun w13 v14 hb hr15 r=>?_
 have hr15:=hr15.loud;have Z13:=hb.size;have H1:=keep hb H1;have H4:=keep hb H4;have H7:=keep hb H7;have H10:=keep hb H10;obtain ⟨hB,zB⟩:=bon hb hB;refine seq_val (.func (.func 248) #[] #[zp b1,zp b4,zp b7]) r (fun R=>y_makeFunc r rfl) rfl fun fr r=>?_;have hF1:∀ b,(kW F w0 w11 b10) b→b<w13.heap.size:=by rintro b (h | ⟨_,h,_⟩); exact Nat.lt_of_lt_of_le (hF b h) hB.size; exact Nat.lt_of_lt_of_le h (by omega)
 have f19:((kW F w0 w11 b10)) b1:=(.inr ⟨by omega,by omega,by omega⟩)
 have f20:((kW F w0 w11 b10)) b4:=(.inr ⟨by omega,by omega,by omega⟩)
 have f21:((kW F w0 w11 b10)) b7:=(.inr ⟨by omega,by omega,by omega⟩)
 have hF2:=fgrowC hF hB.size b10;refine kJ r (cl_prog_Then_uint64_walk_lt (F:=(kW F w0 w13 b10)) (F2:=(kW F w0 w11 b10)) (n:=n) hF2 (by rintro b ⟨h,h'⟩; exact .inr ⟨by omega,by omega,by omega⟩) (by rintro b (h | ⟨h1,h2,h3⟩); exact .inl h; exact .inr ⟨h1,by omega,h3⟩) (by rintro b ⟨h1,h2⟩ (h | ⟨h3,h4,_⟩); (have:=hF b h; omega); omega) (RepL.mono (F':=fun b=>w11.heap.size≤b∧b<w13.heap.size) (by rintro b (h | h); exact h.elim; exact h) (Same.refl _ _) (Nat.le_refl _) n _ _ hr15) ⟨248,[],[zp b1,zp b4,zp b7],cl248,rfl,fun m hm x w' hs hz=>cl_list_find_1 (j:=j) (fun b hb=>Nat.lt_of_lt_of_le (hF1 b hb) hz) (by omega) (fun m' hm'=>ih_list_walk_step m' (by omega)) a0 f19 (hs.at_ f19 H1) a1 f20 (hs.at_ f20 H4) a2 f21 (hs.at_ f21 H7) x⟩ (by first | rfl | (cases j with | zero=>omega | succ q=>rfl))) rfl cl246 rfl fun w16 v17 hb hr18 r=>?_
 have Z16:=hb.size;have H10:=keepC hb H10 (by rintro (h | ⟨_,_,h⟩); (have:=hF _ h; omega); exact h rfl)
 have hB:=Chg.belowZ (Z:=F) hB;have hB:=hB.thenF hb (by rintro b hlt (h | ⟨h,_⟩); exact h; omega)
 have zB:=hB.size;refine kP r hr18.shape rfl rfl H10 ts224 rfl rfl fun w22 u23 r=>?_;have Z22:=u23.size
 have H10:=u23.at_;have hB:=hB.thenU u23 (.inl (by omega))
 have zB:=hB.size;refine wn (wp_ret ?_);have hs:=hr18.shape.cells;refine ret_cell r rfl rfl H10 (k:=20) hs.1 ta224 ?_;rw [←hs.2.2];exact RepResL.fin hB hr18 u23 (by rintro b (h | ⟨h1,h2,_⟩); exact .inl h; exact .inr ⟨h1,h2⟩) (by rintro (h | ⟨_,_,h⟩); (have:=hF _ h; omega); exact h rfl) (by omega) (by omega) (by omega)
theorem cl_list_walk_anew {r_list_walk_step:Walk→T Walk} (hF:kH F w0) (hj:n<j) (ih_list_walk_step:∀ m,m<n→Spec_list_walk_step r_list_walk_step m)
    (a0:Walk) :
    Calls Tryz.prog 253 #[.agg (walkC a0).toArray] w0 (RepResL Tryz.prog encWalk n (D.list_walk_anew j r_list_walk_step a0) F w0):=by
 refine kN Tryz.func253 rfl 10 rfl rfl fun fr r hB=>?_;refine wsr ?_
 refine kX 221 (.agg (walkC a0).toArray) r rfl rfl fun b1 w2 n3 r=>?_;obtain ⟨E1,Z2,H1,hB,zB⟩:=n3.all hB
 refine seq_new (.cells (kq encWalk) 224 (0,0)) r (fun R=>y_alloc tz224) rfl fun fr b4 w5 n6 r=>?_;have H1:=keep n6.below H1
 obtain ⟨E4,Z5,H4,hB,zB⟩:=n6.all hB;refine wn (wsr (kF 0 r rfl fo221_0 rfl fun r=>kG (seatC a0.seat) 8 r rfl H1 ta47 rfl rfl fun r=>kF 0 r rfl fo221_1 rfl fun r=>kL (I a0.cell) r rfl H1 to3 rfl rfl fun r=>kF 0 r rfl fo221_2 rfl fun r=>kL (U a0.k) r rfl H1 to34 rfl rfl fun r=>?_));refine kJ r (cl_list_find (j:=j) (F:=No) (n:=n) (fun _ h=>h.elim) (by omega) (fun m' hm'=>ih_list_walk_step m' (by omega)) a0.seat a0.cell a0.k) rfl cl158 rfl fun w7 v8 hb hr9 r=>?_
 have hb:=hb.below;have Z7:=hb.size;have H1:=keep hb H1;have H4:=keep hb H4;obtain ⟨hB,zB⟩:=bon hb hB;refine kP r hr9.shape rfl rfl H4 ts224 rfl rfl fun w10 u11 r=>?_;have Z10:=u11.size
 have H1:=u11.keep H1 (by omega)
 have H4:=u11.at_;obtain ⟨hB,zB⟩:=u11.on hB (by omega)
 refine wn (wp_ret ?_);have hs:=hr9.shape.cells;refine ret_cell r rfl rfl H4 (k:=20) hs.1 ta224 ?_;rw [←hs.2.2];exact RepResL.fin (Chg.belowZ hB) hr9 u11 (fun _ h=>h.elim) (fun h=>h) (by omega) (by omega) (by omega)
theorem cl_list_walk_unlinked_1 {r_list_walk_step:Walk→T Walk} (hF:kH F w0) (hj:n<j) (ih_list_walk_step:∀ m,m<n→Spec_list_walk_step r_list_walk_step m)
    (c0:Walk) {c0b:Nat} (c0F:F c0b) (c0h:w0.heap[c0b]?=some (.cells ((walkC c0)).toArray 221 (0,0))) (c1:Int) {c1b:Nat} (c1F:F c1b) (c1h:w0.heap[c1b]?=some (.cells ([(.int .i64 c1)]).toArray 3 (0,0))) (c2:Int) {c2b:Nat} (c2F:F c2b) (c2h:w0.heap[c2b]?=some (.cells ([(.int .u64 c2)]).toArray 34 (0,0))) (a0:Bool) :
    Calls Tryz.prog 389 #[.bool a0,zp c0b,zp c1b,zp c2b] w0 (RepResL Tryz.prog encWalk n (D.list_walk_unlinked_1 j r_list_walk_step c0 c1 c2 a0) F w0):=by
 refine kN Tryz.func389 rfl 20 rfl rfl fun fr r hB=>?_;have lc0b:=lt_of_block c0h
 have lc1b:=lt_of_block c1h;have lc2b:=lt_of_block c2h;refine wsr ?_;refine seq_new (.cells (kq encWalk) 224 (0,0)) r (fun R=>y_alloc tz224) rfl fun fr b1 w2 n3 r=>?_;have c0h:=keep n3.below c0h
 have c1h:=keep n3.below c1h;have c2h:=keep n3.below c2h;obtain ⟨E1,Z2,H1,hB,zB⟩:=n3.all hB;refine wn (wp_seq (wsr (kM (.bool a0) r rfl rfl fun r=>seq_val (.bool (!a0)) r (fun R=>y_un r (u:=(.bool a0)) rfl rfl) rfl fun fr r=>wn ?_)));refine wp_cond_split (t:=(!a0)) (r.ev rfl) (fun h4=>?_) (fun h4=>?_)
 ·
  refine wsr (kG (walkC c0) 14 r rfl c0h ta221 rfl rfl fun r=>?_);refine kJ r (cl_list_walk_anew (j:=j) (F:=No) (n:=n) (fun _ h=>h.elim) (by omega) (fun m' hm'=>ih_list_walk_step m' (by omega)) c0) rfl cl253 rfl fun w5 v6 hb hr7 r=>?_
  have hb:=hb.below;have Z5:=hb.size;have c0h:=keep hb c0h;have c1h:=keep hb c1h;have c2h:=keep hb c2h;have H1:=keep hb H1;obtain ⟨hB,zB⟩:=bon hb hB;refine kP r hr7.shape rfl rfl H1 ts224 rfl rfl fun w8 u9 r=>?_;have Z8:=u9.size
  have c0h:=u9.keep c0h (by omega)
  have c1h:=u9.keep c1h (by omega)
  have c2h:=u9.keep c2h (by omega)
  have H1:=u9.at_;obtain ⟨hB,zB⟩:=u9.on hB (by omega)
  refine wn (wp_ret ?_);have hd:D.list_walk_unlinked_1 j r_list_walk_step c0 c1 c2 a0=(D.list_walk_anew j r_list_walk_step c0):=(cond_t h4).trans (rfl);have hs:=hr7.shape.cells;refine ret_cell r rfl rfl H1 (k:=20) hs.1 ta224 ?_;rw [←hs.2.2,hd];exact RepResL.fin (Chg.belowZ hB) hr7 u9 (fun _ h=>h.elim) (fun h=>h) (by omega) (by omega) (by omega)
 refine wp_skip (wsr (kF 0 r rfl fo221_0 rfl fun r=>kF 0 r rfl fo47_0 rfl fun r=>kG (planC c0.seat.p) 6 r rfl c0h ta23 rfl rfl fun r=>kF 0 r rfl fo221_0 rfl fun r=>kF 0 r rfl fo47_2 rfl fun r=>kL (I c0.seat.thread) r rfl c0h to3 rfl rfl fun r=>kL (I c1) r rfl c1h to3 rfl rfl fun r=>?_));refine kD r (c_alloc_Retire (j:=j) (F:=No) (n:=n) (fun _ h=>h.elim) (by omega) c0.seat.p c0.seat.thread c1) rfl cl104 rfl fun w10 v11 hb hr12 r=>?_
 have hr12:=hr12.loud;have Z10:=hb.size;have c0h:=keep hb c0h;have c1h:=keep hb c1h;have c2h:=keep hb c2h;have H1:=keep hb H1;obtain ⟨hB,zB⟩:=bon hb hB;refine seq_val (.func (.func 391) #[] #[zp c2b,zp c0b]) r (fun R=>y_makeFunc r rfl) rfl fun fr r=>?_;have hF1:∀ b,(kW F w0 w2 b1) b→b<w10.heap.size:=by rintro b (h | ⟨_,h,_⟩); exact Nat.lt_of_lt_of_le (hF b h) hB.size; exact Nat.lt_of_lt_of_le h (by omega)
 have f16:((kW F w0 w2 b1)) c2b:=(.inl c2F);have f17:((kW F w0 w2 b1)) c0b:=(.inl c0F);have hF2:=fgrowC hF hB.size b1;refine kJ r (cl_prog_Then_int_walk_le (F:=(kW F w0 w10 b1)) (F2:=(kW F w0 w2 b1)) (n:=n) hF2 (by rintro b ⟨h,h'⟩; exact .inr ⟨by omega,by omega,by omega⟩) (by rintro b (h | ⟨h1,h2,h3⟩); exact .inl h; exact .inr ⟨h1,by omega,h3⟩) (by rintro b ⟨h1,h2⟩ (h | ⟨h3,h4,_⟩); (have:=hF b h; omega); omega) (RepL.mono (F':=fun b=>w2.heap.size≤b∧b<w10.heap.size) (by rintro b (h | h); exact h.elim; exact h) (Same.refl _ _) (Nat.le_refl _) n _ _ hr12) ⟨391,[],[zp c2b,zp c0b],cl391,rfl,fun m hm x w' hs hz=>cl_list_walk_unlinked_1_1 (j:=j) (fun b hb=>Nat.lt_of_lt_of_le (hF1 b hb) hz) (by omega) (fun m' hm'=>ih_list_walk_step m' (by omega)) c2 f16 (hs.at_ f16 c2h) c0 f17 (hs.at_ f17 c0h) x⟩) rfl cl390 rfl fun w13 v14 hb hr15 r=>?_
 have Z13:=hb.size;have H1:=keepC hb H1 (by rintro (h | ⟨_,_,h⟩); (have:=hF _ h; omega); exact h rfl)
 have hB:=Chg.belowZ (Z:=F) hB;have hB:=hB.thenF hb (by rintro b hlt (h | ⟨h,_⟩); exact h; omega)
 have zB:=hB.size;refine kP r hr15.shape rfl rfl H1 ts224 rfl rfl fun w18 u19 r=>?_;have Z18:=u19.size
 have H1:=u19.at_;have hB:=hB.thenU u19 (.inl (by omega))
 have zB:=hB.size;refine wn (wp_ret ?_);have hd:D.list_walk_unlinked_1 j r_list_walk_step c0 c1 c2 a0=(T.bind (D.alloc_Retire j c0.seat.p c0.seat.thread c1) (fun x=>(D.list_walk_unlinked_1_1 j r_list_walk_step c2 c0 x))):=(cond_f h4).trans (rfl)
 have hs:=hr15.shape.cells;refine ret_cell r rfl rfl H1 (k:=20) hs.1 ta224 ?_;rw [←hs.2.2,hd];exact RepResL.fin hB hr15 u19 (by rintro b (h | ⟨h1,h2,_⟩); exact .inl h; exact .inr ⟨h1,h2⟩) (by rintro (h | ⟨_,_,h⟩); (have:=hF _ h; omega); exact h rfl) (by omega) (by omega) (by omega)
theorem cl_list_walk_unlinked {r_list_walk_step:Walk→T Walk} (hF:kH F w0) (hj:n<j) (ih_list_walk_step:∀ m,m<n→Spec_list_walk_step r_list_walk_step m)
    (a0:Walk) (a1:Int) :
    Calls Tryz.prog 367 #[.agg (walkC a0).toArray,.int .i64 a1] w0 (RepResL Tryz.prog encWalk n (D.list_walk_unlinked j r_list_walk_step a0 a1) F w0):=by
 refine kN Tryz.func367 rfl 16 rfl rfl fun fr r hB=>?_;refine wsr ?_
 refine kX 221 (.agg (walkC a0).toArray) r rfl rfl fun b1 w2 n3 r=>?_;obtain ⟨E1,Z2,H1,hB,zB⟩:=n3.all hB
 refine kX 3 (I a1) r rfl rfl fun b4 w5 n6 r=>?_;have H1:=keep n6.below H1
 obtain ⟨E4,Z5,H4,hB,zB⟩:=n6.all hB;refine seq_new (.cells (kq encWalk) 224 (0,0)) r (fun R=>y_alloc tz224) rfl fun fr b7 w8 n9 r=>?_;have H1:=keep n9.below H1
 have H4:=keep n9.below H4;obtain ⟨E7,Z8,H7,hB,zB⟩:=n9.all hB;refine wn (wsr (kF 0 r rfl fo221_5 rfl fun r=>kL (U a0.next) r rfl H1 to34 rfl rfl fun r=>kB r rfl rfl rfl rfl rfl fun r=>?_));refine seq_new (.cells #[(U 0)] 34 (0,0)) r (fun R=>y_alloc tz34) rfl fun fr b10 w11 n12 r=>?_
 have H1:=keep n12.below H1;have H4:=keep n12.below H4;have H7:=keep n12.below H7;obtain ⟨E10,Z11,H10,hB,zB⟩:=n12.all hB;refine seq_upd (.cells #[(U (bits_andNot .u64 a0.next 1))] 34 (0,0)) r (fun R=>y_store r (o:=0) (v:=(U (bits_andNot .u64 a0.next 1))) rfl rfl H10 ts34 (Nat.le_of_ble_eq_true rfl) rfl rfl) rfl fun fr w13 u14 r=>?_;have Z13:=u14.size
 have H1:=u14.keep H1 (by omega)
 have H4:=u14.keep H4 (by omega)
 have H7:=u14.keep H7 (by omega)
 have H10:=u14.at_;obtain ⟨hB,zB⟩:=u14.on hB (by omega)
 refine wn (wsr (kF 0 r rfl fo221_3 rfl fun r=>kL (I a0.place) r rfl H1 to3 rfl rfl fun r=>kF 0 r rfl fo221_4 rfl fun r=>kL (U a0.cur) r rfl H1 to34 rfl rfl fun r=>kL (U (bits_andNot .u64 a0.next 1)) r rfl H10 to34 rfl rfl fun r=>seq_val (.func (.func 389) #[] #[zp b1,zp b4,zp b10]) r (fun R=>y_makeFunc r rfl) rfl fun fr r=>?_));have hF1:=fgrowC hF hB.size b7
 have f18:((kW F w0 w13 b7)) b1:=(.inr ⟨by omega,by omega,by omega⟩)
 have f19:((kW F w0 w13 b7)) b4:=(.inr ⟨by omega,by omega,by omega⟩)
 have f20:((kW F w0 w13 b7)) b10:=(.inr ⟨by omega,by omega,by omega⟩)
 refine kJ r (cl_prog_Swap_walk (F:=(kW F w0 w13 b7)) (n:=n) hF1 a0.place a0.cur (bits_andNot .u64 a0.next 1) ⟨389,[],[zp b1,zp b4,zp b10],cl389,rfl,fun m hm x w' hs hz=>cl_list_walk_unlinked_1 (j:=j) (fun b hb=>Nat.lt_of_lt_of_le (hF1 b hb) hz) (by omega) (fun m' hm'=>ih_list_walk_step m' (by omega)) a0 f18 (hs.at_ f18 H1) a1 f19 (hs.at_ f19 H4) (bits_andNot .u64 a0.next 1) f20 (hs.at_ f20 H10) x⟩) rfl cl388 rfl fun w15 v16 hb hr17 r=>?_;have Z15:=hb.size
 have H7:=keepC hb H7 (by rintro (h | ⟨_,_,h⟩); (have:=hF _ h; omega); exact h rfl)
 have hB:=Chg.belowZ (Z:=F) hB;have hB:=hB.thenF hb (by rintro b hlt (h | ⟨h,_⟩); exact h; omega)
 have zB:=hB.size;refine kP r hr17.shape rfl rfl H7 ts224 rfl rfl fun w21 u22 r=>?_;have Z21:=u22.size
 have H7:=u22.at_;have hB:=hB.thenU u22 (.inl (by omega))
 have zB:=hB.size;refine wn (wp_ret ?_);have hs:=hr17.shape.cells;refine ret_cell r rfl rfl H7 (k:=20) hs.1 ta224 ?_;rw [←hs.2.2];exact RepResL.fin hB hr17 u22 (by rintro b (h | ⟨h1,h2,_⟩); exact .inl h; exact .inr ⟨h1,h2⟩) (by rintro (h | ⟨_,_,h⟩); (have:=hF _ h; omega); exact h rfl) (by omega) (by omega) (by omega)
theorem cl_list_walk_keyed_1_1 {r_list_walk_step:Walk→T Walk} (hF:kH F w0) (hj:n<j) (ih_list_walk_step:∀ m,m<n→Spec_list_walk_step r_list_walk_step m)
    (c0:Walk) {c0b:Nat} (c0F:F c0b) (c0h:w0.heap[c0b]?=some (.cells ((walkC c0)).toArray 221 (0,0))) (c1:Int) {c1b:Nat} (c1F:F c1b) (c1h:w0.heap[c1b]?=some (.cells ([(.int .i64 c1)]).toArray 3 (0,0))) (c2:Int) {c2b:Nat} (c2F:F c2b) (c2h:w0.heap[c2b]?=some (.cells ([(.int .u64 c2)]).toArray 34 (0,0))) (a0:Int) :
    Calls Tryz.prog 366 #[.int .u64 a0,zp c0b,zp c1b,zp c2b] w0 (RepResL Tryz.prog encWalk n (D.list_walk_keyed_1_1 j r_list_walk_step c0 c1 c2 a0) F w0):=by
 refine kN Tryz.func366 rfl 36 rfl rfl fun fr r hB=>?_;have lc0b:=lt_of_block c0h
 have lc1b:=lt_of_block c1h;have lc2b:=lt_of_block c2h;refine wsr ?_;refine seq_new (.cells (kq encWalk) 224 (0,0)) r (fun R=>y_alloc tz224) rfl fun fr b1 w2 n3 r=>?_;have c0h:=keep n3.below c0h
 have c1h:=keep n3.below c1h;have c2h:=keep n3.below c2h;obtain ⟨E1,Z2,H1,hB,zB⟩:=n3.all hB;refine wn (wp_seq (wp_block (wsr (kM (U a0) r rfl rfl fun r=>kF 0 r rfl fo221_4 rfl fun r=>kL (U c0.cur) r rfl c0h to34 rfl rfl fun r=>kB r rfl rfl rfl rfl rfl fun r=>kA (.bool (a0 !=c0.cur)) r rfl rfl fun r=>wn ?_))));refine wp_cond_split (t:=(a0 !=c0.cur)) (r.ev rfl) (fun h4=>?_) (fun h4=>?_)
 ·
  refine wsr (kG (walkC c0) 14 r rfl c0h ta221 rfl rfl fun r=>?_);refine kJ r (cl_list_walk_anew (j:=j) (F:=No) (n:=n) (fun _ h=>h.elim) (by omega) (fun m' hm'=>ih_list_walk_step m' (by omega)) c0) rfl cl253 rfl fun w5 v6 hb hr7 r=>?_
  have hb:=hb.below;have Z5:=hb.size;have c0h:=keep hb c0h;have c1h:=keep hb c1h;have c2h:=keep hb c2h;have H1:=keep hb H1;obtain ⟨hB,zB⟩:=bon hb hB;refine kP r hr7.shape rfl rfl H1 ts224 rfl rfl fun w8 u9 r=>?_;have Z8:=u9.size
  have c0h:=u9.keep c0h (by omega)
  have c1h:=u9.keep c1h (by omega)
  have c2h:=u9.keep c2h (by omega)
  have H1:=u9.at_;obtain ⟨hB,zB⟩:=u9.on hB (by omega)
  refine wn (wp_ret ?_);have hd:D.list_walk_keyed_1_1 j r_list_walk_step c0 c1 c2 a0=(D.list_walk_anew j r_list_walk_step c0):=(cond_t h4).trans (rfl);have hs:=hr7.shape.cells;refine ret_cell r rfl rfl H1 (k:=20) hs.1 ta224 ?_;rw [←hs.2.2,hd];exact RepResL.fin (Chg.belowZ hB) hr7 u9 (fun _ h=>h.elim) (fun h=>h) (by omega) (by omega) (by omega)
 refine wsr (kF 0 r rfl fo221_5 rfl fun r=>kL (U c0.next) r rfl c0h to34 rfl rfl fun r=>kB r rfl rfl rfl rfl rfl fun r=>kB r rfl rfl rfl rfl rfl fun r=>kA (.bool ((bits_and .u64 c0.next 1) !=0)) r rfl rfl fun r=>wn ?_);refine wp_cond_split (t:=((bits_and .u64 c0.next 1) !=0)) (r.ev rfl) (fun h10=>?_) (fun h10=>?_)
 ·
  refine wsr (kG (walkC c0) 14 r rfl c0h ta221 rfl rfl fun r=>kL (I c1) r rfl c1h to3 rfl rfl fun r=>?_);refine kJ r (cl_list_walk_unlinked (j:=j) (F:=No) (n:=n) (fun _ h=>h.elim) (by omega) (fun m' hm'=>ih_list_walk_step m' (by omega)) c0 c1) rfl cl367 rfl fun w11 v12 hb hr13 r=>?_
  have hb:=hb.below;have Z11:=hb.size;have c0h:=keep hb c0h;have c1h:=keep hb c1h;have c2h:=keep hb c2h;have H1:=keep hb H1;obtain ⟨hB,zB⟩:=bon hb hB;refine kP r hr13.shape rfl rfl H1 ts224 rfl rfl fun w14 u15 r=>?_;have Z14:=u15.size
  have c0h:=u15.keep c0h (by omega)
  have c1h:=u15.keep c1h (by omega)
  have c2h:=u15.keep c2h (by omega)
  have H1:=u15.at_;obtain ⟨hB,zB⟩:=u15.on hB (by omega)
  refine wn (wp_ret ?_);have hd:D.list_walk_keyed_1_1 j r_list_walk_step c0 c1 c2 a0=(D.list_walk_unlinked j r_list_walk_step c0 c1):=(cond_f h4).trans ((cond_t h10).trans (rfl));have hs:=hr13.shape.cells;refine ret_cell r rfl rfl H1 (k:=20) hs.1 ta224 ?_;rw [←hs.2.2,hd];exact RepResL.fin (Chg.belowZ hB) hr13 u15 (fun _ h=>h.elim) (fun h=>h) (by omega) (by omega) (by omega)
 refine wsr (kL (U c2) r rfl c2h to34 rfl rfl fun r=>kF 0 r rfl fo221_2 rfl fun r=>kL (U c0.k) r rfl c0h to34 rfl rfl fun r=>kB r rfl rfl rfl rfl rfl fun r=>kA (.bool (decide (c2≥c0.k))) r rfl rfl fun r=>wn ?_);refine wp_cond_split (t:=(decide (c2≥c0.k))) (r.ev rfl) (fun h16=>?_) (fun h16=>?_)
 ·
  refine wsr (kL (U c2) r rfl c2h to34 rfl rfl fun r=>kF 0 r rfl fo221_2 rfl fun r=>kL (U c0.k) r rfl c0h to34 rfl rfl fun r=>kB r rfl rfl rfl rfl rfl fun r=>kF 0 r rfl fo221_6 rfl fun r=>?_);refine seq_upd (.cells ((walkC ({ c0 with there:=(c2==c0.k) }))).toArray 221 (0,0)) r (fun R=>y_store r (o:=13) (v:=(.bool (c2==c0.k))) rfl rfl c0h ts4 (Nat.le_of_ble_eq_true rfl) rfl rfl) rfl fun fr w17 u18 r=>?_
  have Z17:=u18.size;have c1h:=u18.keep c1h (blk_tne c1h c0h rfl);have c2h:=u18.keep c2h (blk_tne c2h c0h rfl);have H1:=u18.keep H1 (by omega)
  have c0h:=u18.at_;have hB:=Chg.belowZ (Z:=F) hB;have hB:=hB.thenU u18 (.inr c0F);have zB:=hB.size;obtain ⟨zs19,ezs19⟩:∃ z,z=({ c0 with there:=(c2==c0.k) }):=⟨_,rfl⟩
  rw [←ezs19] at c0h
  refine wn (wsr (kG (walkC zs19) 14 r rfl c0h ta221 rfl rfl fun r=>?_));refine kJ r (cl_prog_Done_walk (F:=No) (n:=n) (fun _ h=>h.elim) zs19) rfl cl316 rfl fun w20 v21 hb hr22 r=>?_
  have hb:=hb.below;have Z20:=hb.size;have c0h:=keep hb c0h;have c1h:=keep hb c1h;have c2h:=keep hb c2h;have H1:=keep hb H1;have hB:=hB.thenB hb;have zB:=hB.size;refine kP r hr22.shape rfl rfl H1 ts224 rfl rfl fun w23 u24 r=>?_;have Z23:=u24.size
  have c0h:=u24.keep c0h (by omega)
  have c1h:=u24.keep c1h (by omega)
  have c2h:=u24.keep c2h (by omega)
  have H1:=u24.at_;have hB:=hB.thenU u24 (.inl (by omega))
  have zB:=hB.size;refine wn (wp_ret ?_);have hd:D.list_walk_keyed_1_1 j r_list_walk_step c0 c1 c2 a0=(D.prog_Done_walk zs19):=by subst ezs19; exact (cond_f h4).trans ((cond_f h10).trans ((cond_t h16).trans (rfl)))
  have hs:=hr22.shape.cells;refine ret_cell r rfl rfl H1 (k:=20) hs.1 ta224 ?_;rw [←hs.2.2,hd];exact RepResL.fin hB hr22 u24 (fun _ h=>h.elim) (fun h=>h) (by omega) (by omega) (by omega)
 refine wp_skip (wsr (kG (walkC c0) 14 r rfl c0h ta221 rfl rfl fun r=>kL (I c1) r rfl c1h to3 rfl rfl fun r=>?_));refine kJ r (cl_list_walk_on (j:=j) (F:=No) (n:=n) (fun _ h=>h.elim) (by omega) (fun m' hm'=>ih_list_walk_step m' (by omega)) c0 c1) rfl cl368 rfl fun w25 v26 hb hr27 r=>?_
 have hb:=hb.below;have Z25:=hb.size;have c0h:=keep hb c0h;have c1h:=keep hb c1h;have c2h:=keep hb c2h;have H1:=keep hb H1;obtain ⟨hB,zB⟩:=bon hb hB;refine kP r hr27.shape rfl rfl H1 ts224 rfl rfl fun w28 u29 r=>?_;have Z28:=u29.size
 have c0h:=u29.keep c0h (by omega)
 have c1h:=u29.keep c1h (by omega)
 have c2h:=u29.keep c2h (by omega)
 have H1:=u29.at_;obtain ⟨hB,zB⟩:=u29.on hB (by omega)
 refine wn (wp_ret ?_);have hd:D.list_walk_keyed_1_1 j r_list_walk_step c0 c1 c2 a0=(D.list_walk_on j r_list_walk_step c0 c1):=(cond_f h4).trans ((cond_f h10).trans ((cond_f h16).trans (rfl)));have hs:=hr27.shape.cells;refine ret_cell r rfl rfl H1 (k:=20) hs.1 ta224 ?_;rw [←hs.2.2,hd];exact RepResL.fin (Chg.belowZ hB) hr27 u29 (fun _ h=>h.elim) (fun h=>h) (by omega) (by omega) (by omega)
theorem cl_list_walk_keyed_1 {r_list_walk_step:Walk→T Walk} (hF:kH F w0) (hj:n<j) (ih_list_walk_step:∀ m,m<n→Spec_list_walk_step r_list_walk_step m)
    (c0:Walk) {c0b:Nat} (c0F:F c0b) (c0h:w0.heap[c0b]?=some (.cells ((walkC c0)).toArray 221 (0,0))) (c1:Int) {c1b:Nat} (c1F:F c1b) (c1h:w0.heap[c1b]?=some (.cells ([(.int .i64 c1)]).toArray 3 (0,0))) (a0:Int) :
    Calls Tryz.prog 365 #[.int .u64 a0,zp c0b,zp c1b] w0 (RepResL Tryz.prog encWalk n (D.list_walk_keyed_1 j r_list_walk_step c0 c1 a0) F w0):=by
 refine kN Tryz.func365 rfl 9 rfl rfl fun fr r hB=>?_;have lc0b:=lt_of_block c0h
 have lc1b:=lt_of_block c1h;refine wsr ?_;refine kX 34 (U a0) r rfl rfl fun b1 w2 n3 r=>?_;have c0h:=keep n3.below c0h
 have c1h:=keep n3.below c1h;obtain ⟨E1,Z2,H1,hB,zB⟩:=n3.all hB;refine seq_new (.cells (kq encWalk) 224 (0,0)) r (fun R=>y_alloc tz224) rfl fun fr b4 w5 n6 r=>?_;have c0h:=keep n6.below c0h
 have c1h:=keep n6.below c1h;have H1:=keep n6.below H1;obtain ⟨E4,Z5,H4,hB,zB⟩:=n6.all hB;refine wn (wsr (kF 0 r rfl fo221_3 rfl fun r=>kL (I c0.place) r rfl c0h to3 rfl rfl fun r=>seq_val (.func (.func 366) #[] #[zp c0b,zp c1b,zp b1]) r (fun R=>y_makeFunc r rfl) rfl fun fr r=>?_));have hF1:=fgrowC hF hB.size b4
 have f10:((kW F w0 w5 b4)) c0b:=(.inl c0F);have f11:((kW F w0 w5 b4)) c1b:=(.inl c1F);have f12:((kW F w0 w5 b4)) b1:=(.inr ⟨by omega,by omega,by omega⟩)
 refine kJ r (cl_prog_Load_walk (F:=(kW F w0 w5 b4)) (n:=n) hF1 c0.place ⟨366,[],[zp c0b,zp c1b,zp b1],cl366,rfl,fun m hm x w' hs hz=>cl_list_walk_keyed_1_1 (j:=j) (fun b hb=>Nat.lt_of_lt_of_le (hF1 b hb) hz) (by omega) (fun m' hm'=>ih_list_walk_step m' (by omega)) c0 f10 (hs.at_ f10 c0h) c1 f11 (hs.at_ f11 c1h) a0 f12 (hs.at_ f12 H1) x⟩) rfl cl317 rfl fun w7 v8 hb hr9 r=>?_;have Z7:=hb.size
 have H4:=keepC hb H4 (by rintro (h | ⟨_,_,h⟩); (have:=hF _ h; omega); exact h rfl)
 have hB:=Chg.belowZ (Z:=F) hB;have hB:=hB.thenF hb (by rintro b hlt (h | ⟨h,_⟩); exact h; omega)
 have zB:=hB.size;refine kP r hr9.shape rfl rfl H4 ts224 rfl rfl fun w13 u14 r=>?_;have Z13:=u14.size
 have H4:=u14.at_;have hB:=hB.thenU u14 (.inl (by omega))
 have zB:=hB.size;refine wn (wp_ret ?_);have hs:=hr9.shape.cells;refine ret_cell r rfl rfl H4 (k:=20) hs.1 ta224 ?_;rw [←hs.2.2];exact RepResL.fin hB hr9 u14 (by rintro b (h | ⟨h1,h2,_⟩); exact .inl h; exact .inr ⟨h1,h2⟩) (by rintro (h | ⟨_,_,h⟩); (have:=hF _ h; omega); exact h rfl) (by omega) (by omega) (by omega)
theorem cl_list_walk_keyed {r_list_walk_step:Walk→T Walk} (hF:kH F w0) (hj:n<j) (ih_list_walk_step:∀ m,m<n→Spec_list_walk_step r_list_walk_step m)
    (a0:Walk) (a1:Int) :
    Calls Tryz.prog 322 #[.agg (walkC a0).toArray,.int .i64 a1] w0 (RepResL Tryz.prog encWalk n (D.list_walk_keyed j r_list_walk_step a0 a1) F w0):=by
 refine kN Tryz.func322 rfl 12 rfl rfl fun fr r hB=>?_;refine wsr ?_
 refine kX 221 (.agg (walkC a0).toArray) r rfl rfl fun b1 w2 n3 r=>?_;obtain ⟨E1,Z2,H1,hB,zB⟩:=n3.all hB
 refine kX 3 (I a1) r rfl rfl fun b4 w5 n6 r=>?_;have H1:=keep n6.below H1
 obtain ⟨E4,Z5,H4,hB,zB⟩:=n6.all hB;refine seq_new (.cells (kq encWalk) 224 (0,0)) r (fun R=>y_alloc tz224) rfl fun fr b7 w8 n9 r=>?_;have H1:=keep n9.below H1
 have H4:=keep n9.below H4;obtain ⟨E7,Z8,H7,hB,zB⟩:=n9.all hB;refine wn (wsr (kF 0 r rfl fo221_0 rfl fun r=>kF 0 r rfl fo47_0 rfl fun r=>kG (planC a0.seat.p) 6 r rfl H1 ta23 rfl rfl fun r=>kL (I a1) r rfl H4 to3 rfl rfl fun r=>?_));refine kE r (c_plan_Plan_Field w8 a0.seat.p a1 0) rfl cl89 rfl fun w10 hb r=>?_
 have Z10:=hb.size;have H1:=keep hb H1;have H4:=keep hb H4;have H7:=keep hb H7;obtain ⟨hB,zB⟩:=bon hb hB;refine seq_val (.func (.func 365) #[] #[zp b1,zp b4]) r (fun R=>y_makeFunc r rfl) rfl fun fr r=>?_;have hF1:=fgrowC hF hB.size b7
 have f14:((kW F w0 w10 b7)) b1:=(.inr ⟨by omega,by omega,by omega⟩)
 have f15:((kW F w0 w10 b7)) b4:=(.inr ⟨by omega,by omega,by omega⟩)
 refine kJ r (cl_prog_Load_walk (F:=(kW F w0 w10 b7)) (n:=n) hF1 (D.plan_Plan_Field a0.seat.p a1 0) ⟨365,[],[zp b1,zp b4],cl365,rfl,fun m hm x w' hs hz=>cl_list_walk_keyed_1 (j:=j) (fun b hb=>Nat.lt_of_lt_of_le (hF1 b hb) hz) (by omega) (fun m' hm'=>ih_list_walk_step m' (by omega)) a0 f14 (hs.at_ f14 H1) a1 f15 (hs.at_ f15 H4) x⟩) rfl cl317 rfl fun w11 v12 hb hr13 r=>?_;have Z11:=hb.size
 have H7:=keepC hb H7 (by rintro (h | ⟨_,_,h⟩); (have:=hF _ h; omega); exact h rfl)
 have hB:=Chg.belowZ (Z:=F) hB;have hB:=hB.thenF hb (by rintro b hlt (h | ⟨h,_⟩); exact h; omega)
 have zB:=hB.size;refine kP r hr13.shape rfl rfl H7 ts224 rfl rfl fun w16 u17 r=>?_;have Z16:=u17.size
 have H7:=u17.at_;have hB:=hB.thenU u17 (.inl (by omega))
 have zB:=hB.size;refine wn (wp_ret ?_);have hs:=hr13.shape.cells;refine ret_cell r rfl rfl H7 (k:=20) hs.1 ta224 ?_;rw [←hs.2.2];exact RepResL.fin hB hr13 u17 (by rintro b (h | ⟨h1,h2,_⟩); exact .inl h; exact .inr ⟨h1,h2⟩) (by rintro (h | ⟨_,_,h⟩); (have:=hF _ h; omega); exact h rfl) (by omega) (by omega) (by omega)
theorem cl_list_walk_step_1_1_1 {r_list_walk_step:Walk→T Walk} (hF:kH F w0) (hj:n<j) (ih_list_walk_step:∀ m,m<n→Spec_list_walk_step r_list_walk_step m)
    (c0:Int) {c0b:Nat} (c0F:F c0b) (c0h:w0.heap[c0b]?=some (.cells ([(.int .u64 c0)]).toArray 34 (0,0))) (c1:Walk) {c1b:Nat} (c1F:F c1b) (c1h:w0.heap[c1b]?=some (.cells ((walkC c1)).toArray 221 (0,0))) (c2:Int) {c2b:Nat} (c2F:F c2b) (c2h:w0.heap[c2b]?=some (.cells ([(.int .i64 c2)]).toArray 3 (0,0))) (a0:Int) :
    Calls Tryz.prog 321 #[.int .u64 a0,zp c0b,zp c1b,zp c2b] w0 (RepResL Tryz.prog encWalk n (D.list_walk_step_1_1_1 j r_list_walk_step c0 c1 c2 a0) F w0):=by
 refine kN Tryz.func321 rfl 16 rfl rfl fun fr r hB=>?_;have lc0b:=lt_of_block c0h
 have lc1b:=lt_of_block c1h;have lc2b:=lt_of_block c2h;refine wsr ?_;refine seq_new (.cells (kq encWalk) 224 (0,0)) r (fun R=>y_alloc tz224) rfl fun fr b1 w2 n3 r=>?_;have c0h:=keep n3.below c0h
 have c1h:=keep n3.below c1h;have c2h:=keep n3.below c2h;obtain ⟨E1,Z2,H1,hB,zB⟩:=n3.all hB;refine wn (wp_seq (wsr (kM (U a0) r rfl rfl fun r=>kL (U c0) r rfl c0h to34 rfl rfl fun r=>kB r rfl rfl rfl rfl rfl fun r=>wn ?_)));refine wp_cond_split (t:=(a0 !=c0)) (r.ev rfl) (fun h4=>?_) (fun h4=>?_)
 ·
  refine wsr (kG (walkC c1) 14 r rfl c1h ta221 rfl rfl fun r=>?_);refine kJ r (cl_list_walk_anew (j:=j) (F:=No) (n:=n) (fun _ h=>h.elim) (by omega) (fun m' hm'=>ih_list_walk_step m' (by omega)) c1) rfl cl253 rfl fun w5 v6 hb hr7 r=>?_
  have hb:=hb.below;have Z5:=hb.size;have c0h:=keep hb c0h;have c1h:=keep hb c1h;have c2h:=keep hb c2h;have H1:=keep hb H1;obtain ⟨hB,zB⟩:=bon hb hB;refine kP r hr7.shape rfl rfl H1 ts224 rfl rfl fun w8 u9 r=>?_;have Z8:=u9.size
  have c0h:=u9.keep c0h (by omega)
  have c1h:=u9.keep c1h (by omega)
  have c2h:=u9.keep c2h (by omega)
  have H1:=u9.at_;obtain ⟨hB,zB⟩:=u9.on hB (by omega)
  refine wn (wp_ret ?_);have hd:D.list_walk_step_1_1_1 j r_list_walk_step c0 c1 c2 a0=(D.list_walk_anew j r_list_walk_step c1):=(cond_t h4).trans (rfl);have hs:=hr7.shape.cells;refine ret_cell r rfl rfl H1 (k:=20) hs.1 ta224 ?_;rw [←hs.2.2,hd];exact RepResL.fin (Chg.belowZ hB) hr7 u9 (fun _ h=>h.elim) (fun h=>h) (by omega) (by omega) (by omega)
 refine wp_skip (wsr (kL (U c0) r rfl c0h to34 rfl rfl fun r=>kF 0 r rfl fo221_5 rfl fun r=>?_));refine seq_upd (.cells ((walkC ({ c1 with next:=c0 }))).toArray 221 (0,0)) r (fun R=>y_store r (o:=12) (v:=(U c0)) rfl rfl c1h ts34 (Nat.le_of_ble_eq_true rfl) rfl rfl) rfl fun fr w10 u11 r=>?_
 have Z10:=u11.size;have c0h:=u11.keep c0h (blk_tne c0h c1h rfl);have c2h:=u11.keep c2h (blk_tne c2h c1h rfl);have H1:=u11.keep H1 (by omega)
 have c1h:=u11.at_;have hB:=Chg.belowZ (Z:=F) hB;have hB:=hB.thenU u11 (.inr c1F);have zB:=hB.size;obtain ⟨zs12,ezs12⟩:∃ z,z=({ c1 with next:=c0 }):=⟨_,rfl⟩
 rw [←ezs12] at c1h
 refine wn (wsr (kG (walkC zs12) 14 r rfl c1h ta221 rfl rfl fun r=>kL (I c2) r rfl c2h to3 rfl rfl fun r=>?_));refine kJ r (cl_list_walk_keyed (j:=j) (F:=No) (n:=n) (fun _ h=>h.elim) (by omega) (fun m' hm'=>ih_list_walk_step m' (by omega)) zs12 c2) rfl cl322 rfl fun w13 v14 hb hr15 r=>?_
 have hb:=hb.below;have Z13:=hb.size;have c0h:=keep hb c0h;have c1h:=keep hb c1h;have c2h:=keep hb c2h;have H1:=keep hb H1;have hB:=hB.thenB hb;have zB:=hB.size;refine kP r hr15.shape rfl rfl H1 ts224 rfl rfl fun w16 u17 r=>?_;have Z16:=u17.size
 have c0h:=u17.keep c0h (by omega)
 have c1h:=u17.keep c1h (by omega)
 have c2h:=u17.keep c2h (by omega)
 have H1:=u17.at_;have hB:=hB.thenU u17 (.inl (by omega))
 have zB:=hB.size;refine wn (wp_ret ?_);have hd:D.list_walk_step_1_1_1 j r_list_walk_step c0 c1 c2 a0=(D.list_walk_keyed j r_list_walk_step zs12 c2):=by subst ezs12; exact (cond_f h4).trans (rfl)
 have hs:=hr15.shape.cells;refine ret_cell r rfl rfl H1 (k:=20) hs.1 ta224 ?_;rw [←hs.2.2,hd];exact RepResL.fin hB hr15 u17 (fun _ h=>h.elim) (fun h=>h) (by omega) (by omega) (by omega)
theorem cl_list_walk_step_1_1 {r_list_walk_step:Walk→T Walk} (hF:kH F w0) (hj:n<j) (ih_list_walk_step:∀ m,m<n→Spec_list_walk_step r_list_walk_step m)
    (c0:Int) {c0b:Nat} (c0F:F c0b) (c0h:w0.heap[c0b]?=some (.cells ([(.int .i64 c0)]).toArray 3 (0,0))) (c1:Int) {c1b:Nat} (c1F:F c1b) (c1h:w0.heap[c1b]?=some (.cells ([(.int .u64 c1)]).toArray 34 (0,0))) (c2:Walk) {c2b:Nat} (c2F:F c2b) (c2h:w0.heap[c2b]?=some (.cells ((walkC c2)).toArray 221 (0,0))) (c3:Int) {c3b:Nat} (c3F:F c3b) (c3h:w0.heap[c3b]?=some (.cells ([(.int .i64 c3)]).toArray 3 (0,0))) :
    Calls Tryz.prog 320 #[zp c0b,zp c1b,zp c2b,zp c3b] w0 (RepResL Tryz.prog encWalk n (D.list_walk_step_1_1 j r_list_walk_step c0 c1 c2 c3) F w0):=by
 refine kN Tryz.func320 rfl 8 rfl rfl fun fr r hB=>?_;have lc0b:=lt_of_block c0h
 have lc1b:=lt_of_block c1h;have lc2b:=lt_of_block c2h;have lc3b:=lt_of_block c3h;refine wsr ?_;refine seq_new (.cells (kq encWalk) 224 (0,0)) r (fun R=>y_alloc tz224) rfl fun fr b1 w2 n3 r=>?_;have c0h:=keep n3.below c0h
 have c1h:=keep n3.below c1h;have c2h:=keep n3.below c2h;have c3h:=keep n3.below c3h;obtain ⟨E1,Z2,H1,hB,zB⟩:=n3.all hB;refine wn (wsr (kL (I c0) r rfl c0h to3 rfl rfl fun r=>seq_val (.func (.func 321) #[] #[zp c1b,zp c2b,zp c3b]) r (fun R=>y_makeFunc r rfl) rfl fun fr r=>?_));have hF1:=fgrowC hF hB.size b1
 have f7:((kW F w0 w2 b1)) c1b:=(.inl c1F);have f8:((kW F w0 w2 b1)) c2b:=(.inl c2F);have f9:((kW F w0 w2 b1)) c3b:=(.inl c3F);refine kJ r (cl_prog_Load_walk (F:=(kW F w0 w2 b1)) (n:=n) hF1 c0 ⟨321,[],[zp c1b,zp c2b,zp c3b],cl321,rfl,fun m hm x w' hs hz=>cl_list_walk_step_1_1_1 (j:=j) (fun b hb=>Nat.lt_of_lt_of_le (hF1 b hb) hz) (by omega) (fun m' hm'=>ih_list_walk_step m' (by omega)) c1 f7 (hs.at_ f7 c1h) c2 f8 (hs.at_ f8 c2h) c3 f9 (hs.at_ f9 c3h) x⟩) rfl cl317 rfl fun w4 v5 hb hr6 r=>?_;have Z4:=hb.size
 have H1:=keepC hb H1 (by rintro (h | ⟨_,_,h⟩); (have:=hF _ h; omega); exact h rfl)
 have hB:=Chg.belowZ (Z:=F) hB;have hB:=hB.thenF hb (by rintro b hlt (h | ⟨h,_⟩); exact h; omega)
 have zB:=hB.size;refine kP r hr6.shape rfl rfl H1 ts224 rfl rfl fun w10 u11 r=>?_;have Z10:=u11.size
 have H1:=u11.at_;have hB:=hB.thenU u11 (.inl (by omega))
 have zB:=hB.size;refine wn (wp_ret ?_);have hs:=hr6.shape.cells;refine ret_cell r rfl rfl H1 (k:=20) hs.1 ta224 ?_;rw [←hs.2.2];exact RepResL.fin hB hr6 u11 (by rintro b (h | ⟨h1,h2,_⟩); exact .inl h; exact .inr ⟨h1,h2⟩) (by rintro (h | ⟨_,_,h⟩); (have:=hF _ h; omega); exact h rfl) (by omega) (by omega) (by omega)
theorem cl_list_walk_step_1 {r_list_walk_step:Walk→T Walk} (hF:kH F w0) (hj:n<j) (ih_list_walk_step:∀ m,m<n→Spec_list_walk_step r_list_walk_step m)
    (c0:Walk) {c0b:Nat} (c0F:F c0b) (c0h:w0.heap[c0b]?=some (.cells ((walkC c0)).toArray 221 (0,0))) (c1:Int) {c1b:Nat} (c1F:F c1b) (c1h:w0.heap[c1b]?=some (.cells ([(.int .i64 c1)]).toArray 3 (0,0))) (c2:Int) {c2b:Nat} (c2F:F c2b) (c2h:w0.heap[c2b]?=some (.cells ([(.int .i64 c2)]).toArray 3 (0,0))) (a0:Int) :
    Calls Tryz.prog 318 #[.int .u64 a0,zp c0b,zp c1b,zp c2b] w0 (RepResL Tryz.prog encWalk n (D.list_walk_step_1 j r_list_walk_step c0 c1 c2 a0) F w0):=by
 refine kN Tryz.func318 rfl 11 rfl rfl fun fr r hB=>?_;have lc0b:=lt_of_block c0h
 have lc1b:=lt_of_block c1h;have lc2b:=lt_of_block c2h;refine wsr ?_;refine kX 34 (U a0) r rfl rfl fun b1 w2 n3 r=>?_;have c0h:=keep n3.below c0h
 have c1h:=keep n3.below c1h;have c2h:=keep n3.below c2h;obtain ⟨E1,Z2,H1,hB,zB⟩:=n3.all hB;refine seq_new (.cells (kq encWalk) 224 (0,0)) r (fun R=>y_alloc tz224) rfl fun fr b4 w5 n6 r=>?_;have c0h:=keep n6.below c0h
 have c1h:=keep n6.below c1h;have c2h:=keep n6.below c2h;have H1:=keep n6.below H1;obtain ⟨E4,Z5,H4,hB,zB⟩:=n6.all hB;refine wn (wp_seq ?_);refine wp_drawnF 4 [.val (.agg (walkC c0).toArray),.val (U a0),.val (I (D.list_node a0)),.val (.func (.func 320) #[] #[zp c1b,zp b1,zp c0b,zp c2b])] mixed r (by kernel_rfl) (kV (kV (kV (kV within_nil)))) ?_ ?_
 ·
  refine ec r (fun _ u _ b d s=>y_load_agg s (cs:=(walkC c0)) (n:=14) rfl (keep b c0h) ta221 rfl bz) (ec r (fun _ u _ b d s=>y_load_one s rfl (keep b H1) to34 rfl bz) (ec r (fun fr1 u w' hb' hd r'=>y_call r' (args:=[(U a0)]) (lc hd.1 l0) cl88 ((cl_list_node _ a0).mono (by rintro _ w2 ⟨rfl,hb2⟩; exact ⟨_,rfl,hb2,rfl⟩))) (ec r (fun _ u _ b d s=>y_makeFunc s (v:=(.func (.func 320) #[] #[zp c1b,zp b1,zp c0b,zp c2b])) rfl bz) ?_)));exact each_nil
 intro fr u w7 hb hΦ hne r;have r:=r.congr (sc (hΦ 3 (by decide)) (sc (hΦ 2 (by decide)) (sc (hΦ 1 (by decide)) (sc (hΦ 0 (by decide)) rfl))));have Z7:=hb.size;have c0h:=keep hb c0h;have c1h:=keep hb c1h;have c2h:=keep hb c2h;have H1:=keep hb H1;have H4:=keep hb H4;obtain ⟨hB,zB⟩:=bon hb hB;have hF1:=fgrowC hF hB.size b4;have f11:((kW F w0 w7 b4)) c1b:=(.inl c1F);have f12:((kW F w0 w7 b4)) b1:=(.inr ⟨by omega,by omega,by omega⟩)
 have f13:((kW F w0 w7 b4)) c0b:=(.inl c0F);have f14:((kW F w0 w7 b4)) c2b:=(.inl c2F);refine kJ r (cl_list_walk_set (F:=(kW F w0 w7 b4)) (n:=n) hF1 c0 0 (D.list_node a0) ⟨320,[],[zp c1b,zp b1,zp c0b,zp c2b],cl320,rfl,fun m hm _ w' hs hz=>cl_list_walk_step_1_1 (j:=j) (fun b hb=>Nat.lt_of_lt_of_le (hF1 b hb) hz) (by omega) (fun m' hm'=>ih_list_walk_step m' (by omega)) c1 f11 (hs.at_ f11 c1h) a0 f12 (hs.at_ f12 H1) c0 f13 (hs.at_ f13 c0h) c2 f14 (hs.at_ f14 c2h)⟩) rfl cl319 rfl fun w8 v9 hb hr10 r=>?_;have Z8:=hb.size
 have H4:=keepC hb H4 (by rintro (h | ⟨_,_,h⟩); (have:=hF _ h; omega); exact h rfl)
 have hB:=Chg.belowZ (Z:=F) hB;have hB:=hB.thenF hb (by rintro b hlt (h | ⟨h,_⟩); exact h; omega)
 have zB:=hB.size;refine kP r hr10.shape rfl rfl H4 ts224 rfl rfl fun w15 u16 r=>?_;have Z15:=u16.size
 have H4:=u16.at_;have hB:=hB.thenU u16 (.inl (by omega))
 have zB:=hB.size;refine wn (wp_ret ?_);have hs:=hr10.shape.cells;refine ret_cell r rfl rfl H4 (k:=20) hs.1 ta224 ?_;rw [←hs.2.2];exact RepResL.fin hB hr10 u16 (by rintro b (h | ⟨h1,h2,_⟩); exact .inl h; exact .inr ⟨h1,h2⟩) (by rintro (h | ⟨_,_,h⟩); (have:=hF _ h; omega); exact h rfl) (by omega) (by omega) (by omega)
theorem b_list_walk_step {n:Nat} {F:Nat→Prop} {j:Nat} {r_list_walk_step:Walk→T Walk} {w0:World} (hF:∀ b,F b→b<w0.heap.size) (hj:n<j) (ih_list_walk_step:∀ m,m<n→Spec_list_walk_step r_list_walk_step m)
    (a0:Walk) :
    Calls Tryz.prog 249 #[.agg (walkC a0).toArray] w0 (RepResL Tryz.prog encWalk n (D.list_walk_step_body j r_list_walk_step a0) F w0):=by
 refine kN Tryz.func249 rfl 21 rfl rfl fun fr r hB=>?_;refine wsr ?_
 refine kX 221 (.agg (walkC a0).toArray) r rfl rfl fun b1 w2 n3 r=>?_;obtain ⟨E1,Z2,H1,hB,zB⟩:=n3.all hB
 refine seq_new (.cells (kq encWalk) 224 (0,0)) r (fun R=>y_alloc tz224) rfl fun fr b4 w5 n6 r=>?_;have H1:=keep n6.below H1
 obtain ⟨E4,Z5,H4,hB,zB⟩:=n6.all hB;refine wn (wsr (kF 0 r rfl fo221_4 rfl fun r=>kL (U a0.cur) r rfl H1 to34 rfl rfl fun r=>?_));refine kE r (cl_list_node w5 a0.cur) rfl cl88 rfl fun w7 hb r=>?_
 have Z7:=hb.size;have H1:=keep hb H1;have H4:=keep hb H4;obtain ⟨hB,zB⟩:=bon hb hB;refine seq_new (.cells #[(I 0)] 3 (0,0)) r (fun R=>y_alloc tz3) rfl fun fr b8 w9 n10 r=>?_;have H1:=keep n10.below H1
 have H4:=keep n10.below H4;obtain ⟨E8,Z9,H8,hB,zB⟩:=n10.all hB;refine seq_upd (.cells #[(I (D.list_node a0.cur))] 3 (0,0)) r (fun R=>y_store r (o:=0) (v:=(I (D.list_node a0.cur))) rfl rfl H8 ts3 (Nat.le_of_ble_eq_true rfl) rfl rfl) rfl fun fr w11 u12 r=>?_;have Z11:=u12.size
 have H1:=u12.keep H1 (by omega)
 have H4:=u12.keep H4 (by omega)
 have H8:=u12.at_;obtain ⟨hB,zB⟩:=u12.on hB (by omega)
 refine wn (wp_seq (wsr (kL (I (D.list_node a0.cur)) r rfl H8 to3 rfl rfl fun r=>kB r rfl rfl rfl rfl rfl fun r=>wn ?_)));refine wp_cond_split (t:=(decide ((D.list_node a0.cur)<0))) (r.ev rfl) (fun h13=>?_) (fun h13=>?_)
 ·
  refine wsr (kF 0 r rfl fo221_6 rfl fun r=>?_);refine seq_upd (.cells ((walkC ({ a0 with there:=false }))).toArray 221 (0,0)) r (fun R=>y_store r (o:=13) (v:=(.bool false)) rfl rfl H1 ts4 (Nat.le_of_ble_eq_true rfl) rfl rfl) rfl fun fr w14 u15 r=>?_
  have Z14:=u15.size;have H4:=u15.keep H4 (by omega)
  have H8:=u15.keep H8 (by omega)
  have H1:=u15.at_;obtain ⟨hB,zB⟩:=u15.on hB (by omega)
  obtain ⟨zs16,ezs16⟩:∃ z,z=({ a0 with there:=false }):=⟨_,rfl⟩
  rw [←ezs16] at H1
  refine wn (wsr (kG (walkC zs16) 14 r rfl H1 ta221 rfl rfl fun r=>?_));refine kJ r (cl_prog_Done_walk (F:=No) (n:=n) (fun _ h=>h.elim) zs16) rfl cl316 rfl fun w17 v18 hb hr19 r=>?_
  have hb:=hb.below;have Z17:=hb.size;have H1:=keep hb H1;have H4:=keep hb H4;have H8:=keep hb H8;obtain ⟨hB,zB⟩:=bon hb hB;refine kP r hr19.shape rfl rfl H4 ts224 rfl rfl fun w20 u21 r=>?_;have Z20:=u21.size
  have H1:=u21.keep H1 (by omega)
  have H8:=u21.keep H8 (by omega)
  have H4:=u21.at_;obtain ⟨hB,zB⟩:=u21.on hB (by omega)
  refine wn (wp_ret ?_);have hd:D.list_walk_step_body j r_list_walk_step a0=(D.prog_Done_walk zs16):=by subst ezs16; exact (cond_t h13).trans (rfl)
  have hs:=hr19.shape.cells;refine ret_cell r rfl rfl H4 (k:=20) hs.1 ta224 ?_;rw [←hs.2.2,hd];exact RepResL.fin (Chg.belowZ hB) hr19 u21 (fun _ h=>h.elim) (fun h=>h) (by omega) (by omega) (by omega)
 refine wp_skip (wsr (kF 0 r rfl fo221_0 rfl fun r=>kF 0 r rfl fo47_0 rfl fun r=>kG (planC a0.seat.p) 6 r rfl H1 ta23 rfl rfl fun r=>kL (I (D.list_node a0.cur)) r rfl H8 to3 rfl rfl fun r=>?_));refine kE r (c_plan_Plan_Field w11 a0.seat.p (D.list_node a0.cur) 2) rfl cl89 rfl fun w22 hb r=>?_
 have Z22:=hb.size;have H1:=keep hb H1;have H4:=keep hb H4;have H8:=keep hb H8;obtain ⟨hB,zB⟩:=bon hb hB;refine seq_new (.cells #[(I 0)] 3 (0,0)) r (fun R=>y_alloc tz3) rfl fun fr b23 w24 n25 r=>?_;have H1:=keep n25.below H1
 have H4:=keep n25.below H4;have H8:=keep n25.below H8;obtain ⟨E23,Z24,H23,hB,zB⟩:=n25.all hB;refine seq_upd (.cells #[(I (D.plan_Plan_Field a0.seat.p (D.list_node a0.cur) 2))] 3 (0,0)) r (fun R=>y_store r (o:=0) (v:=(I (D.plan_Plan_Field a0.seat.p (D.list_node a0.cur) 2))) rfl rfl H23 ts3 (Nat.le_of_ble_eq_true rfl) rfl rfl) rfl fun fr w26 u27 r=>?_;have Z26:=u27.size
 have H1:=u27.keep H1 (by omega)
 have H4:=u27.keep H4 (by omega)
 have H8:=u27.keep H8 (by omega)
 have H23:=u27.at_;obtain ⟨hB,zB⟩:=u27.on hB (by omega)
 refine wn (wsr (kL (I (D.plan_Plan_Field a0.seat.p (D.list_node a0.cur) 2)) r rfl H23 to3 rfl rfl fun r=>seq_val (.func (.func 318) #[] #[zp b1,zp b23,zp b8]) r (fun R=>y_makeFunc r rfl) rfl fun fr r=>?_));have hF1:=fgrowC hF hB.size b4
 have f31:((kW F w0 w26 b4)) b1:=(.inr ⟨by omega,by omega,by omega⟩)
 have f32:((kW F w0 w26 b4)) b23:=(.inr ⟨by omega,by omega,by omega⟩)
 have f33:((kW F w0 w26 b4)) b8:=(.inr ⟨by omega,by omega,by omega⟩)
 refine kJ r (cl_prog_Load_walk (F:=(kW F w0 w26 b4)) (n:=n) hF1 (D.plan_Plan_Field a0.seat.p (D.list_node a0.cur) 2) ⟨318,[],[zp b1,zp b23,zp b8],cl318,rfl,fun m hm x w' hs hz=>cl_list_walk_step_1 (j:=j) (fun b hb=>Nat.lt_of_lt_of_le (hF1 b hb) hz) (by omega) (fun m' hm'=>ih_list_walk_step m' (by omega)) a0 f31 (hs.at_ f31 H1) (D.plan_Plan_Field a0.seat.p (D.list_node a0.cur) 2) f32 (hs.at_ f32 H23) (D.list_node a0.cur) f33 (hs.at_ f33 H8) x⟩) rfl cl317 rfl fun w28 v29 hb hr30 r=>?_;have Z28:=hb.size
 have H4:=keepC hb H4 (by rintro (h | ⟨_,_,h⟩); (have:=hF _ h; omega); exact h rfl)
 have hB:=Chg.belowZ (Z:=F) hB;have hB:=hB.thenF hb (by rintro b hlt (h | ⟨h,_⟩); exact h; omega)
 have zB:=hB.size;refine kP r hr30.shape rfl rfl H4 ts224 rfl rfl fun w34 u35 r=>?_;have Z34:=u35.size
 have H4:=u35.at_;have hB:=hB.thenU u35 (.inl (by omega))
 have zB:=hB.size;refine wn (wp_ret ?_);have hd:D.list_walk_step_body j r_list_walk_step a0=(D.prog_Load_walk (D.plan_Plan_Field a0.seat.p (D.list_node a0.cur) 2) (fun x=>(D.list_walk_step_1 j r_list_walk_step a0 (D.plan_Plan_Field a0.seat.p (D.list_node a0.cur) 2) (D.list_node a0.cur) x))):=(cond_f h13).trans (rfl)
 have hs:=hr30.shape.cells;refine ret_cell r rfl rfl H4 (k:=20) hs.1 ta224 ?_;rw [←hs.2.2,hd];exact RepResL.fin hB hr30 u35 (by rintro b (h | ⟨h1,h2,_⟩); exact .inl h; exact .inr ⟨h1,h2⟩) (by rintro (h | ⟨_,_,h⟩); (have:=hF _ h; omega); exact h rfl) (by omega) (by omega) (by omega)
theorem cl_list_walk_step {n:Nat} {j:Nat} (hj:n<j) {k:Nat} (hk:n<k):Spec_list_walk_step (D.list_walk_step j k) n:=by
  induction n using Nat.strongRecOn generalizing k with
  | _ n ih=>
    obtain ⟨k,rfl⟩:∃ q,k=q+1:=⟨k - 1,by omega⟩
    intro F w0 hF;have h:=@b_list_walk_step n F j (D.list_walk_step j k) w0 hF hj (fun m hm=>ih m hm (by omega) (by omega))
    exact h
def D.list_put_1_1_1 (a0:Int):T Res:=(D.list_fail 7)
theorem cl_list_put_1_1_1 (hF:kH F w0)
    (a0:Int) :
    Calls Tryz.prog 241 #[.int .i64 a0] w0 (RepResL Tryz.prog encRes n (D.list_put_1_1_1 a0) F w0):=by
 refine kN Tryz.func241 rfl 4 rfl rfl fun fr r hB=>?_;refine wsr ?_
 refine seq_new (.cells (kq encRes) 41 (0,0)) r (fun R=>y_alloc tz41) rfl fun fr b1 w2 n3 r=>?_;obtain ⟨E1,Z2,H1,hB,zB⟩:=n3.all hB
 refine wn (wsr ?_);refine kJ r (cl_list_fail (F:=No) (n:=n) (fun _ h=>h.elim) 7) rfl cl153 rfl fun w4 v5 hb hr6 r=>?_;have hb:=hb.below
 have Z4:=hb.size;have H1:=keep hb H1;obtain ⟨hB,zB⟩:=bon hb hB;refine kP r hr6.shape rfl rfl H1 ts41 rfl rfl fun w7 u8 r=>?_;have Z7:=u8.size
 have H1:=u8.at_;obtain ⟨hB,zB⟩:=u8.on hB (by omega)
 refine wn (wp_ret ?_);have hs:=hr6.shape.cells;refine ret_cell r rfl rfl H1 (k:=8) hs.1 ta41 ?_;rw [←hs.2.2];exact RepResL.fin (Chg.belowZ hB) hr6 u8 (fun _ h=>h.elim) (fun h=>h) (by omega) (by omega) (by omega)
def D.list_put_1_1 (j:Nat) (c0:Seat) (c1:Int):T Res:=(T.bind (D.retire_Reclaim j c0.p c1) (fun x=>(D.list_put_1_1_1 x)))
theorem cl_list_put_1_1 (hF:kH F w0) (hj:n<j)
    (c0:Seat) {c0b:Nat} (c0F:F c0b) (c0h:w0.heap[c0b]?=some (.cells ((seatC c0)).toArray 47 (0,0))) (c1:Int) {c1b:Nat} (c1F:F c1b) (c1h:w0.heap[c1b]?=some (.cells ([(.int .i64 c1)]).toArray 3 (0,0))) :
    Calls Tryz.prog 239 #[.agg #[],zp c0b,zp c1b] w0 (RepResL Tryz.prog encRes n (D.list_put_1_1 j c0 c1) F w0):=by
 refine kN Tryz.func239 rfl 10 rfl rfl fun fr r hB=>?_;have lc0b:=lt_of_block c0h
 have lc1b:=lt_of_block c1h;refine wsr ?_;refine kX 128 (.agg #[]) r rfl rfl fun b1 w2 n3 r=>?_;have c0h:=keep n3.below c0h
 have c1h:=keep n3.below c1h;obtain ⟨E1,Z2,H1,hB,zB⟩:=n3.all hB;refine seq_new (.cells (kq encRes) 41 (0,0)) r (fun R=>y_alloc tz41) rfl fun fr b4 w5 n6 r=>?_;have c0h:=keep n6.below c0h
 have c1h:=keep n6.below c1h;have H1:=keep n6.below H1;obtain ⟨E4,Z5,H4,hB,zB⟩:=n6.all hB;refine wn (wsr (kF 0 r rfl fo47_0 rfl fun r=>kG (planC c0.p) 6 r rfl c0h ta23 rfl rfl fun r=>kL (I c1) r rfl c1h to3 rfl rfl fun r=>?_));refine kD r (c_retire_Reclaim (j:=j) (F:=No) (n:=n) (fun _ h=>h.elim) (by omega) c0.p c1) rfl cl240 rfl fun w7 v8 hb hr9 r=>?_
 have hr9:=hr9.loud;have Z7:=hb.size;have c0h:=keep hb c0h;have c1h:=keep hb c1h;have H1:=keep hb H1;have H4:=keep hb H4;obtain ⟨hB,zB⟩:=bon hb hB;have hF1:∀ b,(kW F w0 w5 b4) b→b<w7.heap.size:=by rintro b (h | ⟨_,h,_⟩); exact Nat.lt_of_lt_of_le (hF b h) hB.size; exact Nat.lt_of_lt_of_le h (by omega)
 have hF2:=fgrowC hF hB.size b4;refine kJ r (cl_prog_Then_int_Res_le (F:=(kW F w0 w7 b4)) (F2:=(kW F w0 w5 b4)) (n:=n) hF2 (by rintro b ⟨h,h'⟩; exact .inr ⟨by omega,by omega,by omega⟩) (by rintro b (h | ⟨h1,h2,h3⟩); exact .inl h; exact .inr ⟨h1,by omega,h3⟩) (by rintro b ⟨h1,h2⟩ (h | ⟨h3,h4,_⟩); (have:=hF b h; omega); omega) (RepL.mono (F':=fun b=>w5.heap.size≤b∧b<w7.heap.size) (by rintro b (h | h); exact h.elim; exact h) (Same.refl _ _) (Nat.le_refl _) n _ _ hr9) ⟨241,[],[],cl241,rfl,fun m hm x w' hs hz=>cl_list_put_1_1_1 (fun b hb=>Nat.lt_of_lt_of_le (hF1 b hb) hz)  x⟩) rfl cl140 rfl fun w10 v11 hb hr12 r=>?_
 have Z10:=hb.size;have H4:=keepC hb H4 (by rintro (h | ⟨_,_,h⟩); (have:=hF _ h; omega); exact h rfl)
 have hB:=Chg.belowZ (Z:=F) hB;have hB:=hB.thenF hb (by rintro b hlt (h | ⟨h,_⟩); exact h; omega)
 have zB:=hB.size;refine kP r hr12.shape rfl rfl H4 ts41 rfl rfl fun w13 u14 r=>?_;have Z13:=u14.size
 have H4:=u14.at_;have hB:=hB.thenU u14 (.inl (by omega))
 have zB:=hB.size;refine wn (wp_ret ?_);have hs:=hr12.shape.cells;refine ret_cell r rfl rfl H4 (k:=8) hs.1 ta41 ?_;rw [←hs.2.2];exact RepResL.fin hB hr12 u14 (by rintro b (h | ⟨h1,h2,_⟩); exact .inl h; exact .inr ⟨h1,h2⟩) (by rintro (h | ⟨_,_,h⟩); (have:=hF _ h; omega); exact h rfl) (by omega) (by omega) (by omega)
def D.list_word (a0:Int):Int:=(shlI .u64 (IntKind.u64.wrap (IntKind.i64.wrap (a0+1))) 1)
theorem cl_list_word (w0:World) 
    (a0:Int) :
    Calls Tryz.prog 243 #[.int .i64 a0] w0 (PureRes (.int .u64 (D.list_word a0)) w0):=by
 refine kN Tryz.func243 rfl 7 rfl rfl fun fr r hB=>?_;refine wsr (kA (U 0) r rfl rfl fun r=>wn (wsr (kM (I a0) r rfl rfl fun r=>kB r rfl rfl rfl rfl rfl fun r=>seq_val (U (V (W (a0+1)))) r (fun R=>y_convert r rfl ti3 ti34) rfl fun fr r=>kB r rfl rfl rfl (bin_shl (by first | assumption | decide)) rfl fun r=>kA (U (shlI .u64 (V (W (a0+1))) 1)) r rfl rfl fun r=>wn (wp_ret ?_))))
 refine ret_tmp r rfl rfl ?_;exact ⟨rfl,hB⟩
def D.list_leave_1 (c0:Res):T Res:=(D.prog_Done_Res c0)
theorem cl_list_leave_1 (hF:kH F w0)
    (c0:Res) {c0b:Nat} (c0F:F c0b) (c0h:w0.heap[c0b]?=some (.cells ((resC c0)).toArray 36 (0,0))) :
    Calls Tryz.prog 250 #[.agg #[],zp c0b] w0 (RepResL Tryz.prog encRes n (D.list_leave_1 c0) F w0):=by
 refine kN Tryz.func250 rfl 6 rfl rfl fun fr r hB=>?_;have lc0b:=lt_of_block c0h
 refine wsr ?_;refine kX 128 (.agg #[]) r rfl rfl fun b1 w2 n3 r=>?_;obtain ⟨E1,Z2,H1,hB,zB⟩:=n3.all hB
 refine seq_new (.cells (kq encRes) 41 (0,0)) r (fun R=>y_alloc tz41) rfl fun fr b4 w5 n6 r=>?_;have H1:=keep n6.below H1
 obtain ⟨E4,Z5,H4,hB,zB⟩:=n6.all hB;refine wn (wsr (kG (resC c0) 2 r rfl (keep hB c0h) ta36 rfl rfl fun r=>?_));refine kJ r (cl_prog_Done_Res (F:=No) (n:=n) (fun _ h=>h.elim) c0) rfl cl15 rfl fun w7 v8 hb hr9 r=>?_
 have hb:=hb.below;have Z7:=hb.size;have H1:=keep hb H1;have H4:=keep hb H4;obtain ⟨hB,zB⟩:=bon hb hB;refine kP r hr9.shape rfl rfl H4 ts41 rfl rfl fun w10 u11 r=>?_;have Z10:=u11.size
 have H1:=u11.keep H1 (by omega)
 have H4:=u11.at_;obtain ⟨hB,zB⟩:=u11.on hB (by omega)
 refine wn (wp_ret ?_);have hs:=hr9.shape.cells;refine ret_cell r rfl rfl H4 (k:=8) hs.1 ta41 ?_;rw [←hs.2.2];exact RepResL.fin (Chg.belowZ hB) hr9 u11 (fun _ h=>h.elim) (fun h=>h) (by omega) (by omega) (by omega)
def D.list_leave (j:Nat) (a0:Seat) (a1:Res):T Res:=(T.bind (D.hazard_Clear j a0.p a0.thread) (fun _=>(D.list_leave_1 a1)))
theorem cl_list_leave (hF:kH F w0) (hj:n<j)
    (a0:Seat) (a1:Res) :
    Calls Tryz.prog 160 #[.agg (seatC a0).toArray,.agg (resC a1).toArray] w0 (RepResL Tryz.prog encRes n (D.list_leave j a0 a1) F w0):=by
 refine kN Tryz.func160 rfl 12 rfl rfl fun fr r hB=>?_;refine wsr ?_
 refine kX 47 (.agg (seatC a0).toArray) r rfl rfl fun b1 w2 n3 r=>?_;obtain ⟨E1,Z2,H1,hB,zB⟩:=n3.all hB
 refine kX 36 (.agg (resC a1).toArray) r rfl rfl fun b4 w5 n6 r=>?_;have H1:=keep n6.below H1
 obtain ⟨E4,Z5,H4,hB,zB⟩:=n6.all hB;refine seq_new (.cells (kq encRes) 41 (0,0)) r (fun R=>y_alloc tz41) rfl fun fr b7 w8 n9 r=>?_;have H1:=keep n9.below H1
 have H4:=keep n9.below H4;obtain ⟨E7,Z8,H7,hB,zB⟩:=n9.all hB;refine wn (wsr (kF 0 r rfl fo47_0 rfl fun r=>kG (planC a0.p) 6 r rfl H1 ta23 rfl rfl fun r=>kF 0 r rfl fo47_2 rfl fun r=>kL (I a0.thread) r rfl H1 to3 rfl rfl fun r=>?_));refine kD r (c_hazard_Clear (j:=j) (F:=No) (n:=n) (fun _ h=>h.elim) (by omega) a0.p a0.thread) rfl cl238 rfl fun w10 v11 hb hr12 r=>?_
 have hr12:=hr12.loud;have Z10:=hb.size;have H1:=keep hb H1;have H4:=keep hb H4;have H7:=keep hb H7;obtain ⟨hB,zB⟩:=bon hb hB;refine seq_val (.func (.func 250) #[] #[zp b4]) r (fun R=>y_makeFunc r rfl) rfl fun fr r=>?_;have hF1:∀ b,(kW F w0 w8 b7) b→b<w10.heap.size:=by rintro b (h | ⟨_,h,_⟩); exact Nat.lt_of_lt_of_le (hF b h) hB.size; exact Nat.lt_of_lt_of_le h (by omega)
 have f16:((kW F w0 w8 b7)) b4:=(.inr ⟨by omega,by omega,by omega⟩)
 have hF2:=fgrowC hF hB.size b7;refine kJ r (cl_prog_Then_None_Res_le (F:=(kW F w0 w10 b7)) (F2:=(kW F w0 w8 b7)) (n:=n) hF2 (by rintro b ⟨h,h'⟩; exact .inr ⟨by omega,by omega,by omega⟩) (by rintro b (h | ⟨h1,h2,h3⟩); exact .inl h; exact .inr ⟨h1,by omega,h3⟩) (by rintro b ⟨h1,h2⟩ (h | ⟨h3,h4,_⟩); (have:=hF b h; omega); omega) (RepL.mono (F':=fun b=>w8.heap.size≤b∧b<w10.heap.size) (by rintro b (h | h); exact h.elim; exact h) (Same.refl _ _) (Nat.le_refl _) n _ _ hr12) ⟨250,[],[zp b4],cl250,rfl,fun m hm _ w' hs hz=>cl_list_leave_1 (fun b hb=>Nat.lt_of_lt_of_le (hF1 b hb) hz) a1 f16 (hs.at_ f16 H4)⟩) rfl cl228 rfl fun w13 v14 hb hr15 r=>?_
 have Z13:=hb.size;have H7:=keepC hb H7 (by rintro (h | ⟨_,_,h⟩); (have:=hF _ h; omega); exact h rfl)
 have hB:=Chg.belowZ (Z:=F) hB;have hB:=hB.thenF hb (by rintro b hlt (h | ⟨h,_⟩); exact h; omega)
 have zB:=hB.size;refine kP r hr15.shape rfl rfl H7 ts41 rfl rfl fun w17 u18 r=>?_;have Z17:=u18.size
 have H7:=u18.at_;have hB:=hB.thenU u18 (.inl (by omega))
 have zB:=hB.size;refine wn (wp_ret ?_);have hs:=hr15.shape.cells;refine ret_cell r rfl rfl H7 (k:=8) hs.1 ta41 ?_;rw [←hs.2.2];exact RepResL.fin hB hr15 u18 (by rintro b (h | ⟨h1,h2,_⟩); exact .inl h; exact .inr ⟨h1,h2⟩) (by rintro (h | ⟨_,_,h⟩); (have:=hF _ h; omega); exact h rfl) (by omega) (by omega) (by omega)
def D.list_put_1_2_1 (j:Nat) (r_list_put:Seat→Int→Int→Int→T Res) (c0:Seat) (c1:Int) (c2:Int) (c3:Int) (a0:Bool):T Res:=(bif (!a0) then (r_list_put c0 c1 c2 c3) else (D.list_leave j c0 (⟨0,0⟩:Res)))
def D.list_put_1_2 (j:Nat) (r_list_put:Seat→Int→Int→Int→T Res) (c0:Walk) (c1:Int) (c2:Seat) (c3:Int) (c4:Int):T Res:=(D.prog_Swap_Res c0.place c0.cur (D.list_word c1) (fun x=>(D.list_put_1_2_1 j r_list_put c2 c3 c4 c1 x)))
def D.list_put_1 (j:Nat) (r_list_put:Seat→Int→Int→Int→T Res) (c0:Seat) (c1:Int) (c2:Int) (c3:Int) (a0:Walk):T Res:=(bif a0.there then (T.bind (D.hazard_Clear j c0.p c0.thread) (fun _=>(D.list_put_1_1 j c0 c1))) else (D.prog_Store_Res (D.plan_Plan_Field c0.p c1 2) a0.cur (fun _=>(D.list_put_1_2 j r_list_put a0 c1 c0 c2 c3))))
def D.list_put_body (j:Nat) (r_list_put:Seat→Int→Int→Int→T Res) (a0:Seat) (a1:Int) (a2:Int) (a3:Int):T Res:=(T.bind (D.list_find j (D.list_walk_step j j) a0 a1 a2) (fun x=>(D.list_put_1 j r_list_put a0 a3 a1 a2 x)))
def D.list_put (j:Nat):Nat→Seat→Int→Int→Int→T Res
  | 0,_,_,_,_=>.cut
  | k+1,a0,a1,a2,a3=>D.list_put_body j (D.list_put j k) a0 a1 a2 a3
def Spec_list_put (r:Seat→Int→Int→Int→T Res) (n:Nat):Prop:=∀ (F:Nat→Prop) (w0:World),(∀ b,F b→b<w0.heap.size)→∀ (a0:Seat) (a1:Int) (a2:Int) (a3:Int),Calls Tryz.prog 156 #[.agg (seatC a0).toArray,.int .i64 a1,.int .u64 a2,.int .i64 a3] w0 (RepResL Tryz.prog encRes n (r a0 a1 a2 a3) F w0)
theorem cl_list_put_1_2_1 {r_list_put:Seat→Int→Int→Int→T Res} (hF:kH F w0) (hj:n<j) (ih_list_put:∀ m,m≤n→Spec_list_put r_list_put m)
    (c0:Seat) {c0b:Nat} (c0F:F c0b) (c0h:w0.heap[c0b]?=some (.cells ((seatC c0)).toArray 47 (0,0))) (c1:Int) {c1b:Nat} (c1F:F c1b) (c1h:w0.heap[c1b]?=some (.cells ([(.int .i64 c1)]).toArray 3 (0,0))) (c2:Int) {c2b:Nat} (c2F:F c2b) (c2h:w0.heap[c2b]?=some (.cells ([(.int .u64 c2)]).toArray 34 (0,0))) (c3:Int) {c3b:Nat} (c3F:F c3b) (c3h:w0.heap[c3b]?=some (.cells ([(.int .i64 c3)]).toArray 3 (0,0))) (a0:Bool) :
    Calls Tryz.prog 244 #[.bool a0,zp c0b,zp c1b,zp c2b,zp c3b] w0 (RepResL Tryz.prog encRes n (D.list_put_1_2_1 j r_list_put c0 c1 c2 c3 a0) F w0):=by
 refine kN Tryz.func244 rfl 17 rfl rfl fun fr r hB=>?_;have lc0b:=lt_of_block c0h
 have lc1b:=lt_of_block c1h;have lc2b:=lt_of_block c2h;have lc3b:=lt_of_block c3h;refine wsr ?_;refine seq_new (.cells (kq encRes) 41 (0,0)) r (fun R=>y_alloc tz41) rfl fun fr b1 w2 n3 r=>?_;obtain ⟨E1,Z2,H1,hB,zB⟩:=n3.all hB
 refine wn (wp_seq (wsr (kM (.bool a0) r rfl rfl fun r=>seq_val (.bool (!a0)) r (fun R=>y_un r (u:=(.bool a0)) rfl rfl) rfl fun fr r=>wn ?_)));refine wp_cond_split (t:=(!a0)) (r.ev rfl) (fun h4=>?_) (fun h4=>?_)
 ·
  refine wsr (kG (seatC c0) 8 r rfl (keep hB c0h) ta47 rfl rfl fun r=>kL (I c1) r rfl (keep hB c1h) to3 rfl rfl fun r=>kL (U c2) r rfl (keep hB c2h) to34 rfl rfl fun r=>kL (I c3) r rfl (keep hB c3h) to3 rfl rfl fun r=>?_);refine kJ r ((ih_list_put n (by omega)) (No) _ (fun _ h=>h.elim) c0 c1 c2 c3) rfl cl156 rfl fun w5 v6 hb hr7 r=>?_
  have hb:=hb.below;have Z5:=hb.size;have H1:=keep hb H1;obtain ⟨hB,zB⟩:=bon hb hB;refine kP r hr7.shape rfl rfl H1 ts41 rfl rfl fun w8 u9 r=>?_;have Z8:=u9.size
  have H1:=u9.at_;obtain ⟨hB,zB⟩:=u9.on hB (by omega)
  refine wn (wp_ret ?_);have hd:D.list_put_1_2_1 j r_list_put c0 c1 c2 c3 a0=(r_list_put c0 c1 c2 c3):=(cond_t h4).trans (rfl);have hs:=hr7.shape.cells;refine ret_cell r rfl rfl H1 (k:=8) hs.1 ta41 ?_;rw [←hs.2.2,hd];exact RepResL.fin (Chg.belowZ hB) hr7 u9 (fun _ h=>h.elim) (fun h=>h) (by omega) (by omega) (by omega)
 refine wp_skip (wsr (kG (seatC c0) 8 r rfl (keep hB c0h) ta47 rfl rfl fun r=>kU (.agg (resC (⟨0,0⟩:Res)).toArray) r (by kernel_rfl) rfl fun r=>?_));refine kJ r (cl_list_leave (j:=j) (F:=No) (n:=n) (fun _ h=>h.elim) (by omega) c0 (⟨0,0⟩:Res)) rfl cl160 rfl fun w10 v11 hb hr12 r=>?_
 have hb:=hb.below;have Z10:=hb.size;have H1:=keep hb H1;obtain ⟨hB,zB⟩:=bon hb hB;refine kP r hr12.shape rfl rfl H1 ts41 rfl rfl fun w13 u14 r=>?_;have Z13:=u14.size
 have H1:=u14.at_;obtain ⟨hB,zB⟩:=u14.on hB (by omega)
 refine wn (wp_ret ?_);have hd:D.list_put_1_2_1 j r_list_put c0 c1 c2 c3 a0=(D.list_leave j c0 (⟨0,0⟩:Res)):=(cond_f h4).trans (rfl);have hs:=hr12.shape.cells;refine ret_cell r rfl rfl H1 (k:=8) hs.1 ta41 ?_;rw [←hs.2.2,hd];exact RepResL.fin (Chg.belowZ hB) hr12 u14 (fun _ h=>h.elim) (fun h=>h) (by omega) (by omega) (by omega)
theorem cl_list_put_1_2 {r_list_put:Seat→Int→Int→Int→T Res} (hF:kH F w0) (hj:n<j) (ih_list_put:∀ m,m<n→Spec_list_put r_list_put m)
    (c0:Walk) {c0b:Nat} (c0F:F c0b) (c0h:w0.heap[c0b]?=some (.cells ((walkC c0)).toArray 221 (0,0))) (c1:Int) {c1b:Nat} (c1F:F c1b) (c1h:w0.heap[c1b]?=some (.cells ([(.int .i64 c1)]).toArray 3 (0,0))) (c2:Seat) {c2b:Nat} (c2F:F c2b) (c2h:w0.heap[c2b]?=some (.cells ((seatC c2)).toArray 47 (0,0))) (c3:Int) {c3b:Nat} (c3F:F c3b) (c3h:w0.heap[c3b]?=some (.cells ([(.int .i64 c3)]).toArray 3 (0,0))) (c4:Int) {c4b:Nat} (c4F:F c4b) (c4h:w0.heap[c4b]?=some (.cells ([(.int .u64 c4)]).toArray 34 (0,0))) :
    Calls Tryz.prog 242 #[zp c0b,zp c1b,zp c2b,zp c3b,zp c4b] w0 (RepResL Tryz.prog encRes n (D.list_put_1_2 j r_list_put c0 c1 c2 c3 c4) F w0):=by
 refine kN Tryz.func242 rfl 14 rfl rfl fun fr r hB=>?_;have lc0b:=lt_of_block c0h
 have lc1b:=lt_of_block c1h;have lc2b:=lt_of_block c2h;have lc3b:=lt_of_block c3h;have lc4b:=lt_of_block c4h;refine wsr ?_;refine seq_new (.cells (kq encRes) 41 (0,0)) r (fun R=>y_alloc tz41) rfl fun fr b1 w2 n3 r=>?_;have c0h:=keep n3.below c0h
 have c1h:=keep n3.below c1h;have c2h:=keep n3.below c2h;have c3h:=keep n3.below c3h;have c4h:=keep n3.below c4h;obtain ⟨E1,Z2,H1,hB,zB⟩:=n3.all hB;refine wn (wp_seq ?_);refine wp_drawnF 7 [.val (.pointer (some ⟨c0b,10,none⟩)),.val (I c0.place),.val (.pointer (some ⟨c0b,11,none⟩)),.val (U c0.cur),.val (I c1),.val (U (D.list_word c1)),.val (.func (.func 244) #[] #[zp c2b,zp c3b,zp c4b,zp c1b])] mixed r (by kernel_rfl) (kV (kV (kV (kV (kV (kV (kV within_nil))))))) ?_ ?_
 ·
  refine ec r (fun _ u _ b d s=>y_fieldAddr s (b:=c0b) (o:=0) rfl fo221_3 bz) (ec r (fun _ u _ b d s=>y_load_one s d.1 (keep b c0h) to3 rfl bz) (ec r (fun _ u _ b d s=>y_fieldAddr s (b:=c0b) (o:=0) rfl fo221_4 bz) (ec r (fun _ u _ b d s=>y_load_one s d.1 (keep b c0h) to34 rfl bz) (ec r (fun _ u _ b d s=>y_load_one s rfl (keep b c1h) to3 rfl bz) (ec r (fun fr1 u w' hb' hd r'=>y_call r' (args:=[(I c1)]) (lc hd.1 l0) cl243 ((cl_list_word _ c1).mono (by rintro _ w2 ⟨rfl,hb2⟩; exact ⟨_,rfl,hb2,rfl⟩))) (ec r (fun _ u _ b d s=>y_makeFunc s (v:=(.func (.func 244) #[] #[zp c2b,zp c3b,zp c4b,zp c1b])) rfl bz) ?_))))));exact each_nil
 intro fr u w4 hb hΦ hne r;have r:=r.congr (sc (hΦ 6 (by decide)) (sc (hΦ 5 (by decide)) (sc (hΦ 4 (by decide)) (sc (hΦ 3 (by decide)) (sc (hΦ 2 (by decide)) (sc (hΦ 1 (by decide)) (sc (hΦ 0 (by decide)) rfl)))))));have Z4:=hb.size;have c0h:=keep hb c0h;have c1h:=keep hb c1h;have c2h:=keep hb c2h;have c3h:=keep hb c3h;have c4h:=keep hb c4h;have H1:=keep hb H1;obtain ⟨hB,zB⟩:=bon hb hB;have hF1:=fgrowC hF hB.size b1;have f8:((kW F w0 w4 b1)) c2b:=(.inl c2F);have f9:((kW F w0 w4 b1)) c3b:=(.inl c3F);have f10:((kW F w0 w4 b1)) c4b:=(.inl c4F);have f11:((kW F w0 w4 b1)) c1b:=(.inl c1F);refine kJ r (cl_prog_Swap_Res (F:=(kW F w0 w4 b1)) (n:=n) hF1 c0.place c0.cur (D.list_word c1) ⟨244,[],[zp c2b,zp c3b,zp c4b,zp c1b],cl244,rfl,fun m hm x w' hs hz=>cl_list_put_1_2_1 (j:=j) (fun b hb=>Nat.lt_of_lt_of_le (hF1 b hb) hz) (by omega) (fun m' hm'=>ih_list_put m' (by omega)) c2 f8 (hs.at_ f8 c2h) c3 f9 (hs.at_ f9 c3h) c4 f10 (hs.at_ f10 c4h) c1 f11 (hs.at_ f11 c1h) x⟩) rfl cl118 rfl fun w5 v6 hb hr7 r=>?_;have Z5:=hb.size
 have H1:=keepC hb H1 (by rintro (h | ⟨_,_,h⟩); (have:=hF _ h; omega); exact h rfl)
 have hB:=Chg.belowZ (Z:=F) hB;have hB:=hB.thenF hb (by rintro b hlt (h | ⟨h,_⟩); exact h; omega)
 have zB:=hB.size;refine kP r hr7.shape rfl rfl H1 ts41 rfl rfl fun w12 u13 r=>?_;have Z12:=u13.size
 have H1:=u13.at_;have hB:=hB.thenU u13 (.inl (by omega))
 have zB:=hB.size;refine wn (wp_ret ?_);have hs:=hr7.shape.cells;refine ret_cell r rfl rfl H1 (k:=8) hs.1 ta41 ?_;rw [←hs.2.2];exact RepResL.fin hB hr7 u13 (by rintro b (h | ⟨h1,h2,_⟩); exact .inl h; exact .inr ⟨h1,h2⟩) (by rintro (h | ⟨_,_,h⟩); (have:=hF _ h; omega); exact h rfl) (by omega) (by omega) (by omega)
theorem cl_list_put_1 {r_list_put:Seat→Int→Int→Int→T Res} (hF:kH F w0) (hj:n<j) (ih_list_put:∀ m,m<n→Spec_list_put r_list_put m)
    (c0:Seat) {c0b:Nat} (c0F:F c0b) (c0h:w0.heap[c0b]?=some (.cells ((seatC c0)).toArray 47 (0,0))) (c1:Int) {c1b:Nat} (c1F:F c1b) (c1h:w0.heap[c1b]?=some (.cells ([(.int .i64 c1)]).toArray 3 (0,0))) (c2:Int) {c2b:Nat} (c2F:F c2b) (c2h:w0.heap[c2b]?=some (.cells ([(.int .i64 c2)]).toArray 3 (0,0))) (c3:Int) {c3b:Nat} (c3F:F c3b) (c3h:w0.heap[c3b]?=some (.cells ([(.int .u64 c3)]).toArray 34 (0,0))) (a0:Walk) :
    Calls Tryz.prog 237 #[.agg (walkC a0).toArray,zp c0b,zp c1b,zp c2b,zp c3b] w0 (RepResL Tryz.prog encRes n (D.list_put_1 j r_list_put c0 c1 c2 c3 a0) F w0):=by
 refine kN Tryz.func237 rfl 24 rfl rfl fun fr r hB=>?_;have lc0b:=lt_of_block c0h
 have lc1b:=lt_of_block c1h;have lc2b:=lt_of_block c2h;have lc3b:=lt_of_block c3h;refine wsr ?_;refine kX 221 (.agg (walkC a0).toArray) r rfl rfl fun b1 w2 n3 r=>?_;have c0h:=keep n3.below c0h
 have c1h:=keep n3.below c1h;have c2h:=keep n3.below c2h;have c3h:=keep n3.below c3h;obtain ⟨E1,Z2,H1,hB,zB⟩:=n3.all hB;refine seq_new (.cells (kq encRes) 41 (0,0)) r (fun R=>y_alloc tz41) rfl fun fr b4 w5 n6 r=>?_;have c0h:=keep n6.below c0h
 have c1h:=keep n6.below c1h;have c2h:=keep n6.below c2h;have c3h:=keep n6.below c3h;have H1:=keep n6.below H1;obtain ⟨E4,Z5,H4,hB,zB⟩:=n6.all hB;refine wn (wp_seq (wsr (kF 0 r rfl fo221_6 rfl fun r=>kL (.bool a0.there) r rfl H1 to4 rfl rfl fun r=>wn ?_)));refine wp_cond_split (t:=a0.there) (r.ev rfl) (fun h7=>?_) (fun h7=>?_)
 ·
  refine wsr (kF 0 r rfl fo47_0 rfl fun r=>kG (planC c0.p) 6 r rfl c0h ta23 rfl rfl fun r=>kF 0 r rfl fo47_2 rfl fun r=>kL (I c0.thread) r rfl c0h to3 rfl rfl fun r=>?_);refine kD r (c_hazard_Clear (j:=j) (F:=No) (n:=n) (fun _ h=>h.elim) (by omega) c0.p c0.thread) rfl cl238 rfl fun w8 v9 hb hr10 r=>?_
  have hr10:=hr10.loud;have Z8:=hb.size;have c0h:=keep hb c0h;have c1h:=keep hb c1h;have c2h:=keep hb c2h;have c3h:=keep hb c3h;have H1:=keep hb H1;have H4:=keep hb H4;obtain ⟨hB,zB⟩:=bon hb hB;refine seq_val (.func (.func 239) #[] #[zp c0b,zp c1b]) r (fun R=>y_makeFunc r rfl) rfl fun fr r=>?_;have hF1:∀ b,(kW F w0 w5 b4) b→b<w8.heap.size:=by rintro b (h | ⟨_,h,_⟩); exact Nat.lt_of_lt_of_le (hF b h) hB.size; exact Nat.lt_of_lt_of_le h (by omega)
  have f14:((kW F w0 w5 b4)) c0b:=(.inl c0F);have f15:((kW F w0 w5 b4)) c1b:=(.inl c1F);have hF2:=fgrowC hF hB.size b4;refine kJ r (cl_prog_Then_None_Res_le (F:=(kW F w0 w8 b4)) (F2:=(kW F w0 w5 b4)) (n:=n) hF2 (by rintro b ⟨h,h'⟩; exact .inr ⟨by omega,by omega,by omega⟩) (by rintro b (h | ⟨h1,h2,h3⟩); exact .inl h; exact .inr ⟨h1,by omega,h3⟩) (by rintro b ⟨h1,h2⟩ (h | ⟨h3,h4,_⟩); (have:=hF b h; omega); omega) (RepL.mono (F':=fun b=>w5.heap.size≤b∧b<w8.heap.size) (by rintro b (h | h); exact h.elim; exact h) (Same.refl _ _) (Nat.le_refl _) n _ _ hr10) ⟨239,[],[zp c0b,zp c1b],cl239,rfl,fun m hm _ w' hs hz=>cl_list_put_1_1 (j:=j) (fun b hb=>Nat.lt_of_lt_of_le (hF1 b hb) hz) (by omega) c0 f14 (hs.at_ f14 c0h) c1 f15 (hs.at_ f15 c1h)⟩) rfl cl228 rfl fun w11 v12 hb hr13 r=>?_
  have Z11:=hb.size;have H4:=keepC hb H4 (by rintro (h | ⟨_,_,h⟩); (have:=hF _ h; omega); exact h rfl)
  have hB:=Chg.belowZ (Z:=F) hB;have hB:=hB.thenF hb (by rintro b hlt (h | ⟨h,_⟩); exact h; omega)
  have zB:=hB.size;refine kP r hr13.shape rfl rfl H4 ts41 rfl rfl fun w16 u17 r=>?_;have Z16:=u17.size
  have H4:=u17.at_;have hB:=hB.thenU u17 (.inl (by omega))
  have zB:=hB.size;refine wn (wp_ret ?_);have hd:D.list_put_1 j r_list_put c0 c1 c2 c3 a0=(T.bind (D.hazard_Clear j c0.p c0.thread) (fun _=>(D.list_put_1_1 j c0 c1))):=(cond_t h7).trans (rfl)
  have hs:=hr13.shape.cells;refine ret_cell r rfl rfl H4 (k:=8) hs.1 ta41 ?_;rw [←hs.2.2,hd];exact RepResL.fin hB hr13 u17 (by rintro b (h | ⟨h1,h2,_⟩); exact .inl h; exact .inr ⟨h1,h2⟩) (by rintro (h | ⟨_,_,h⟩); (have:=hF _ h; omega); exact h rfl) (by omega) (by omega) (by omega)
 refine wp_skip (wp_seq ?_);refine wp_drawnF 7 [.val (zp c0b),.val (.agg (planC c0.p).toArray),.val (I c1),.val (I (D.plan_Plan_Field c0.p c1 2)),.val (.pointer (some ⟨b1,11,none⟩)),.val (U a0.cur),.val (.func (.func 242) #[] #[zp b1,zp c1b,zp c0b,zp c2b,zp c3b])] mixed r (by kernel_rfl) (kV (kV (kV (kV (kV (kV (kV within_nil))))))) ?_ ?_
 ·
  refine ec r (fun _ u _ b d s=>y_fieldAddr s (b:=c0b) (o:=0) rfl fo47_0 bz) (ec r (fun _ u _ b d s=>y_load_agg s (cs:=(planC c0.p)) (n:=6) d.1 (keep b c0h) ta23 rfl bz) (ec r (fun _ u _ b d s=>y_load_one s rfl (keep b c1h) to3 rfl bz) (ec r (fun fr1 u w' hb' hd r'=>y_call r' (args:=[(.agg (planC c0.p).toArray),(I c1),(I 2)]) (lc hd.1 (lc hd.2.1 (lc rfl l0))) cl89 ((c_plan_Plan_Field _ c0.p c1 2).mono (by rintro _ w2 ⟨rfl,hb2⟩; exact ⟨_,rfl,hb2,rfl⟩))) (ec r (fun _ u _ b d s=>y_fieldAddr s (b:=b1) (o:=0) rfl fo221_4 bz) (ec r (fun _ u _ b d s=>y_load_one s d.1 (keep b H1) to34 rfl bz) (ec r (fun _ u _ b d s=>y_makeFunc s (v:=(.func (.func 242) #[] #[zp b1,zp c1b,zp c0b,zp c2b,zp c3b])) rfl bz) ?_))))));exact each_nil
 intro fr u w18 hb hΦ hne r;have r:=r.congr (sc (hΦ 6 (by decide)) (sc (hΦ 5 (by decide)) (sc (hΦ 4 (by decide)) (sc (hΦ 3 (by decide)) (sc (hΦ 2 (by decide)) (sc (hΦ 1 (by decide)) (sc (hΦ 0 (by decide)) rfl)))))));have Z18:=hb.size;have c0h:=keep hb c0h;have c1h:=keep hb c1h;have c2h:=keep hb c2h;have c3h:=keep hb c3h;have H1:=keep hb H1;have H4:=keep hb H4;obtain ⟨hB,zB⟩:=bon hb hB;have hF1:=fgrowC hF hB.size b4;have f22:((kW F w0 w18 b4)) b1:=(.inr ⟨by omega,by omega,by omega⟩)
 have f23:((kW F w0 w18 b4)) c1b:=(.inl c1F);have f24:((kW F w0 w18 b4)) c0b:=(.inl c0F);have f25:((kW F w0 w18 b4)) c2b:=(.inl c2F);have f26:((kW F w0 w18 b4)) c3b:=(.inl c3F);refine kJ r (cl_prog_Store_Res (F:=(kW F w0 w18 b4)) (n:=n) hF1 (D.plan_Plan_Field c0.p c1 2) a0.cur ⟨242,[],[zp b1,zp c1b,zp c0b,zp c2b,zp c3b],cl242,rfl,fun m hm _ w' hs hz=>cl_list_put_1_2 (j:=j) (fun b hb=>Nat.lt_of_lt_of_le (hF1 b hb) hz) (by omega) (fun m' hm'=>ih_list_put m' (by omega)) a0 f22 (hs.at_ f22 H1) c1 f23 (hs.at_ f23 c1h) c0 f24 (hs.at_ f24 c0h) c2 f25 (hs.at_ f25 c2h) c3 f26 (hs.at_ f26 c3h)⟩) rfl cl124 rfl fun w19 v20 hb hr21 r=>?_;have Z19:=hb.size
 have H4:=keepC hb H4 (by rintro (h | ⟨_,_,h⟩); (have:=hF _ h; omega); exact h rfl)
 have hB:=Chg.belowZ (Z:=F) hB;have hB:=hB.thenF hb (by rintro b hlt (h | ⟨h,_⟩); exact h; omega)
 have zB:=hB.size;refine kP r hr21.shape rfl rfl H4 ts41 rfl rfl fun w27 u28 r=>?_;have Z27:=u28.size
 have H4:=u28.at_;have hB:=hB.thenU u28 (.inl (by omega))
 have zB:=hB.size;refine wn (wp_ret ?_);have hd:D.list_put_1 j r_list_put c0 c1 c2 c3 a0=(D.prog_Store_Res (D.plan_Plan_Field c0.p c1 2) a0.cur (fun _=>(D.list_put_1_2 j r_list_put a0 c1 c0 c2 c3))):=(cond_f h7).trans (rfl)
 have hs:=hr21.shape.cells;refine ret_cell r rfl rfl H4 (k:=8) hs.1 ta41 ?_;rw [←hs.2.2,hd];exact RepResL.fin hB hr21 u28 (by rintro b (h | ⟨h1,h2,_⟩); exact .inl h; exact .inr ⟨h1,h2⟩) (by rintro (h | ⟨_,_,h⟩); (have:=hF _ h; omega); exact h rfl) (by omega) (by omega) (by omega)
theorem b_list_put {n:Nat} {F:Nat→Prop} {j:Nat} {r_list_put:Seat→Int→Int→Int→T Res} {w0:World} (hF:∀ b,F b→b<w0.heap.size) (hj:n<j) (ih_list_put:∀ m,m<n→Spec_list_put r_list_put m)
    (a0:Seat) (a1:Int) (a2:Int) (a3:Int) :
    Calls Tryz.prog 156 #[.agg (seatC a0).toArray,.int .i64 a1,.int .u64 a2,.int .i64 a3] w0 (RepResL Tryz.prog encRes n (D.list_put_body j r_list_put a0 a1 a2 a3) F w0):=by
 refine kN Tryz.func156 rfl 15 rfl rfl fun fr r hB=>?_;refine wsr ?_
 refine kX 47 (.agg (seatC a0).toArray) r rfl rfl fun b1 w2 n3 r=>?_;obtain ⟨E1,Z2,H1,hB,zB⟩:=n3.all hB
 refine kX 3 (I a1) r rfl rfl fun b4 w5 n6 r=>?_;have H1:=keep n6.below H1
 obtain ⟨E4,Z5,H4,hB,zB⟩:=n6.all hB;refine kX 34 (U a2) r rfl rfl fun b7 w8 n9 r=>?_;have H1:=keep n9.below H1
 have H4:=keep n9.below H4;obtain ⟨E7,Z8,H7,hB,zB⟩:=n9.all hB;refine kX 3 (I a3) r rfl rfl fun b10 w11 n12 r=>?_;have H1:=keep n12.below H1
 have H4:=keep n12.below H4;have H7:=keep n12.below H7;obtain ⟨E10,Z11,H10,hB,zB⟩:=n12.all hB;refine seq_new (.cells (kq encRes) 41 (0,0)) r (fun R=>y_alloc tz41) rfl fun fr b13 w14 n15 r=>?_;have H1:=keep n15.below H1
 have H4:=keep n15.below H4;have H7:=keep n15.below H7;have H10:=keep n15.below H10;obtain ⟨E13,Z14,H13,hB,zB⟩:=n15.all hB;refine wn (wsr (kG (seatC a0) 8 r rfl H1 ta47 rfl rfl fun r=>kL (I a1) r rfl H4 to3 rfl rfl fun r=>kL (U a2) r rfl H7 to34 rfl rfl fun r=>?_));refine kJ r (cl_list_find (j:=j) (F:=No) (n:=n) (fun _ h=>h.elim) (by omega) (fun m' hm'=>cl_list_walk_step (j:=j) (k:=j) (by omega) (by omega)) a0 a1 a2) rfl cl158 rfl fun w16 v17 hb hr18 r=>?_
 have hb:=hb.below;have Z16:=hb.size;have H1:=keep hb H1;have H4:=keep hb H4;have H7:=keep hb H7;have H10:=keep hb H10;have H13:=keep hb H13;obtain ⟨hB,zB⟩:=bon hb hB;refine seq_val (.func (.func 237) #[] #[zp b1,zp b10,zp b4,zp b7]) r (fun R=>y_makeFunc r rfl) rfl fun fr r=>?_;have hF1:∀ b,(kW F w0 w14 b13) b→b<w16.heap.size:=by rintro b (h | ⟨_,h,_⟩); exact Nat.lt_of_lt_of_le (hF b h) hB.size; exact Nat.lt_of_lt_of_le h (by omega)
 have f22:((kW F w0 w14 b13)) b1:=(.inr ⟨by omega,by omega,by omega⟩)
 have f23:((kW F w0 w14 b13)) b10:=(.inr ⟨by omega,by omega,by omega⟩)
 have f24:((kW F w0 w14 b13)) b4:=(.inr ⟨by omega,by omega,by omega⟩)
 have f25:((kW F w0 w14 b13)) b7:=(.inr ⟨by omega,by omega,by omega⟩)
 have hF2:=fgrowC hF hB.size b13;refine kJ r (cl_prog_Then_walk_Res_le (F:=(kW F w0 w16 b13)) (F2:=(kW F w0 w14 b13)) (n:=n) hF2 (by rintro b ⟨h,h'⟩; exact .inr ⟨by omega,by omega,by omega⟩) (by rintro b (h | ⟨h1,h2,h3⟩); exact .inl h; exact .inr ⟨h1,by omega,h3⟩) (by rintro b ⟨h1,h2⟩ (h | ⟨h3,h4,_⟩); (have:=hF b h; omega); omega) (RepL.mono (F':=fun b=>w14.heap.size≤b∧b<w16.heap.size) (by rintro b (h | h); exact h.elim; exact h) (Same.refl _ _) (Nat.le_refl _) n _ _ hr18) ⟨237,[],[zp b1,zp b10,zp b4,zp b7],cl237,rfl,fun m hm x w' hs hz=>cl_list_put_1 (j:=j) (fun b hb=>Nat.lt_of_lt_of_le (hF1 b hb) hz) (by omega) (fun m' hm'=>ih_list_put m' (by omega)) a0 f22 (hs.at_ f22 H1) a3 f23 (hs.at_ f23 H10) a1 f24 (hs.at_ f24 H4) a2 f25 (hs.at_ f25 H7) x⟩) rfl cl157 rfl fun w19 v20 hb hr21 r=>?_
 have Z19:=hb.size;have H13:=keepC hb H13 (by rintro (h | ⟨_,_,h⟩); (have:=hF _ h; omega); exact h rfl)
 have hB:=Chg.belowZ (Z:=F) hB;have hB:=hB.thenF hb (by rintro b hlt (h | ⟨h,_⟩); exact h; omega)
 have zB:=hB.size;refine kP r hr21.shape rfl rfl H13 ts41 rfl rfl fun w26 u27 r=>?_;have Z26:=u27.size
 have H13:=u27.at_;have hB:=hB.thenU u27 (.inl (by omega))
 have zB:=hB.size;refine wn (wp_ret ?_);have hs:=hr21.shape.cells;refine ret_cell r rfl rfl H13 (k:=8) hs.1 ta41 ?_;rw [←hs.2.2];exact RepResL.fin hB hr21 u27 (by rintro b (h | ⟨h1,h2,_⟩); exact .inl h; exact .inr ⟨h1,h2⟩) (by rintro (h | ⟨_,_,h⟩); (have:=hF _ h; omega); exact h rfl) (by omega) (by omega) (by omega)
theorem cl_list_put {n:Nat} {j:Nat} (hj:n<j) {k:Nat} (hk:n<k):Spec_list_put (D.list_put j k) n:=by
  induction n using Nat.strongRecOn generalizing k with
  | _ n ih=>
    obtain ⟨k,rfl⟩:∃ q,k=q+1:=⟨k - 1,by omega⟩
    intro F w0 hF;have h:=@b_list_put n F j (D.list_put j k) w0 hF hj (fun m hm=>ih m hm (by omega) (by omega))
    exact h
def D.list_Add_1_1_1 (j:Nat) (c0:Seat) (c1:Int) (c2:Int) (c3:Grant):T Res:=(D.list_put j j c0 c1 c2 c3.node)
theorem cl_list_Add_1_1_1 (hF:kH F w0) (hj:n<j)
    (c0:Seat) {c0b:Nat} (c0F:F c0b) (c0h:w0.heap[c0b]?=some (.cells ((seatC c0)).toArray 47 (0,0))) (c1:Int) {c1b:Nat} (c1F:F c1b) (c1h:w0.heap[c1b]?=some (.cells ([(.int .i64 c1)]).toArray 3 (0,0))) (c2:Int) {c2b:Nat} (c2F:F c2b) (c2h:w0.heap[c2b]?=some (.cells ([(.int .u64 c2)]).toArray 34 (0,0))) (c3:Grant) {c3b:Nat} (c3F:F c3b) (c3h:w0.heap[c3b]?=some (.cells ((grantC c3)).toArray 113 (0,0))) :
    Calls Tryz.prog 155 #[zp c0b,zp c1b,zp c2b,zp c3b] w0 (RepResL Tryz.prog encRes n (D.list_Add_1_1_1 j c0 c1 c2 c3) F w0):=by
 refine kN Tryz.func155 rfl 11 rfl rfl fun fr r hB=>?_;have lc0b:=lt_of_block c0h
 have lc1b:=lt_of_block c1h;have lc2b:=lt_of_block c2h;have lc3b:=lt_of_block c3h;refine wsr ?_;refine seq_new (.cells (kq encRes) 41 (0,0)) r (fun R=>y_alloc tz41) rfl fun fr b1 w2 n3 r=>?_;obtain ⟨E1,Z2,H1,hB,zB⟩:=n3.all hB
 refine wn (wsr (kG (seatC c0) 8 r rfl (keep hB c0h) ta47 rfl rfl fun r=>kL (I c1) r rfl (keep hB c1h) to3 rfl rfl fun r=>kL (U c2) r rfl (keep hB c2h) to34 rfl rfl fun r=>kF 0 r rfl fo113_0 rfl fun r=>kL (I c3.node) r rfl (keep hB c3h) to3 rfl rfl fun r=>?_));refine kJ r ((cl_list_put (j:=j) (k:=j) (n:=n) (by omega) (by omega)) (No) _ (fun _ h=>h.elim) c0 c1 c2 c3.node) rfl cl156 rfl fun w4 v5 hb hr6 r=>?_
 have hb:=hb.below;have Z4:=hb.size;have H1:=keep hb H1;obtain ⟨hB,zB⟩:=bon hb hB;refine kP r hr6.shape rfl rfl H1 ts41 rfl rfl fun w7 u8 r=>?_;have Z7:=u8.size
 have H1:=u8.at_;obtain ⟨hB,zB⟩:=u8.on hB (by omega)
 refine wn (wp_ret ?_);have hs:=hr6.shape.cells;refine ret_cell r rfl rfl H1 (k:=8) hs.1 ta41 ?_;rw [←hs.2.2];exact RepResL.fin (Chg.belowZ hB) hr6 u8 (fun _ h=>h.elim) (fun h=>h) (by omega) (by omega) (by omega)
def D.list_Add_1_1 (j:Nat) (c0:Seat) (c1:Grant) (c2:Int) (c3:Int) (c4:Int):T Res:=(D.prog_Store_Res (D.plan_Plan_Field c0.p c1.node 1) c2 (fun _=>(D.list_Add_1_1_1 j c0 c3 c4 c1)))
theorem cl_list_Add_1_1 (hF:kH F w0) (hj:n<j)
    (c0:Seat) {c0b:Nat} (c0F:F c0b) (c0h:w0.heap[c0b]?=some (.cells ((seatC c0)).toArray 47 (0,0))) (c1:Grant) {c1b:Nat} (c1F:F c1b) (c1h:w0.heap[c1b]?=some (.cells ((grantC c1)).toArray 113 (0,0))) (c2:Int) {c2b:Nat} (c2F:F c2b) (c2h:w0.heap[c2b]?=some (.cells ([(.int .u64 c2)]).toArray 34 (0,0))) (c3:Int) {c3b:Nat} (c3F:F c3b) (c3h:w0.heap[c3b]?=some (.cells ([(.int .i64 c3)]).toArray 3 (0,0))) (c4:Int) {c4b:Nat} (c4F:F c4b) (c4h:w0.heap[c4b]?=some (.cells ([(.int .u64 c4)]).toArray 34 (0,0))) :
    Calls Tryz.prog 154 #[zp c0b,zp c1b,zp c2b,zp c3b,zp c4b] w0 (RepResL Tryz.prog encRes n (D.list_Add_1_1 j c0 c1 c2 c3 c4) F w0):=by
 refine kN Tryz.func154 rfl 14 rfl rfl fun fr r hB=>?_;have lc0b:=lt_of_block c0h
 have lc1b:=lt_of_block c1h;have lc2b:=lt_of_block c2h;have lc3b:=lt_of_block c3h;have lc4b:=lt_of_block c4h;refine wsr ?_;refine seq_new (.cells (kq encRes) 41 (0,0)) r (fun R=>y_alloc tz41) rfl fun fr b1 w2 n3 r=>?_;have c0h:=keep n3.below c0h
 have c1h:=keep n3.below c1h;have c2h:=keep n3.below c2h;have c3h:=keep n3.below c3h;have c4h:=keep n3.below c4h;obtain ⟨E1,Z2,H1,hB,zB⟩:=n3.all hB;refine wn (wp_seq ?_);refine wp_drawnF 7 [.val (zp c0b),.val (.agg (planC c0.p).toArray),.val (zp c1b),.val (I c1.node),.val (I (D.plan_Plan_Field c0.p c1.node 1)),.val (U c2),.val (.func (.func 155) #[] #[zp c0b,zp c3b,zp c4b,zp c1b])] mixed r (by kernel_rfl) (kV (kV (kV (kV (kV (kV (kV within_nil))))))) ?_ ?_
 ·
  refine ec r (fun _ u _ b d s=>y_fieldAddr s (b:=c0b) (o:=0) rfl fo47_0 bz) (ec r (fun _ u _ b d s=>y_load_agg s (cs:=(planC c0.p)) (n:=6) d.1 (keep b c0h) ta23 rfl bz) (ec r (fun _ u _ b d s=>y_fieldAddr s (b:=c1b) (o:=0) rfl fo113_0 bz) (ec r (fun _ u _ b d s=>y_load_one s d.1 (keep b c1h) to3 rfl bz) (ec r (fun fr1 u w' hb' hd r'=>y_call r' (args:=[(.agg (planC c0.p).toArray),(I c1.node),(I 1)]) (lc hd.1 (lc hd.2.1 (lc rfl l0))) cl89 ((c_plan_Plan_Field _ c0.p c1.node 1).mono (by rintro _ w2 ⟨rfl,hb2⟩; exact ⟨_,rfl,hb2,rfl⟩))) (ec r (fun _ u _ b d s=>y_load_one s rfl (keep b c2h) to34 rfl bz) (ec r (fun _ u _ b d s=>y_makeFunc s (v:=(.func (.func 155) #[] #[zp c0b,zp c3b,zp c4b,zp c1b])) rfl bz) ?_))))));exact each_nil
 intro fr u w4 hb hΦ hne r;have r:=r.congr (sc (hΦ 6 (by decide)) (sc (hΦ 5 (by decide)) (sc (hΦ 4 (by decide)) (sc (hΦ 3 (by decide)) (sc (hΦ 2 (by decide)) (sc (hΦ 1 (by decide)) (sc (hΦ 0 (by decide)) rfl)))))));have Z4:=hb.size;have c0h:=keep hb c0h;have c1h:=keep hb c1h;have c2h:=keep hb c2h;have c3h:=keep hb c3h;have c4h:=keep hb c4h;have H1:=keep hb H1;obtain ⟨hB,zB⟩:=bon hb hB;have hF1:=fgrowC hF hB.size b1;have f8:((kW F w0 w4 b1)) c0b:=(.inl c0F);have f9:((kW F w0 w4 b1)) c3b:=(.inl c3F);have f10:((kW F w0 w4 b1)) c4b:=(.inl c4F);have f11:((kW F w0 w4 b1)) c1b:=(.inl c1F);refine kJ r (cl_prog_Store_Res (F:=(kW F w0 w4 b1)) (n:=n) hF1 (D.plan_Plan_Field c0.p c1.node 1) c2 ⟨155,[],[zp c0b,zp c3b,zp c4b,zp c1b],cl155,rfl,fun m hm _ w' hs hz=>cl_list_Add_1_1_1 (j:=j) (fun b hb=>Nat.lt_of_lt_of_le (hF1 b hb) hz) (by omega) c0 f8 (hs.at_ f8 c0h) c3 f9 (hs.at_ f9 c3h) c4 f10 (hs.at_ f10 c4h) c1 f11 (hs.at_ f11 c1h)⟩) rfl cl124 rfl fun w5 v6 hb hr7 r=>?_;have Z5:=hb.size
 have H1:=keepC hb H1 (by rintro (h | ⟨_,_,h⟩); (have:=hF _ h; omega); exact h rfl)
 have hB:=Chg.belowZ (Z:=F) hB;have hB:=hB.thenF hb (by rintro b hlt (h | ⟨h,_⟩); exact h; omega)
 have zB:=hB.size;refine kP r hr7.shape rfl rfl H1 ts41 rfl rfl fun w12 u13 r=>?_;have Z12:=u13.size
 have H1:=u13.at_;have hB:=hB.thenU u13 (.inl (by omega))
 have zB:=hB.size;refine wn (wp_ret ?_);have hs:=hr7.shape.cells;refine ret_cell r rfl rfl H1 (k:=8) hs.1 ta41 ?_;rw [←hs.2.2];exact RepResL.fin hB hr7 u13 (by rintro b (h | ⟨h1,h2,_⟩); exact .inl h; exact .inr ⟨h1,h2⟩) (by rintro (h | ⟨_,_,h⟩); (have:=hF _ h; omega); exact h rfl) (by omega) (by omega) (by omega)
def D.list_Add_1 (j:Nat) (c0:Seat) (c1:Int) (c2:Int) (c3:Int) (a0:Grant):T Res:=(bif (a0.e !=0) then (D.list_fail a0.e) else (D.prog_Store_Res (D.plan_Plan_Field c0.p a0.node 0) c1 (fun _=>(D.list_Add_1_1 j c0 a0 c2 c3 c1))))
theorem cl_list_Add_1 (hF:kH F w0) (hj:n<j)
    (c0:Seat) {c0b:Nat} (c0F:F c0b) (c0h:w0.heap[c0b]?=some (.cells ((seatC c0)).toArray 47 (0,0))) (c1:Int) {c1b:Nat} (c1F:F c1b) (c1h:w0.heap[c1b]?=some (.cells ([(.int .u64 c1)]).toArray 34 (0,0))) (c2:Int) {c2b:Nat} (c2F:F c2b) (c2h:w0.heap[c2b]?=some (.cells ([(.int .u64 c2)]).toArray 34 (0,0))) (c3:Int) {c3b:Nat} (c3F:F c3b) (c3h:w0.heap[c3b]?=some (.cells ([(.int .i64 c3)]).toArray 3 (0,0))) (a0:Grant) :
    Calls Tryz.prog 152 #[.agg (grantC a0).toArray,zp c0b,zp c1b,zp c2b,zp c3b] w0 (RepResL Tryz.prog encRes n (D.list_Add_1 j c0 c1 c2 c3 a0) F w0):=by
 refine kN Tryz.func152 rfl 21 rfl rfl fun fr r hB=>?_;have lc0b:=lt_of_block c0h
 have lc1b:=lt_of_block c1h;have lc2b:=lt_of_block c2h;have lc3b:=lt_of_block c3h;refine wsr ?_;refine kX 113 (.agg (grantC a0).toArray) r rfl rfl fun b1 w2 n3 r=>?_;have c0h:=keep n3.below c0h
 have c1h:=keep n3.below c1h;have c2h:=keep n3.below c2h;have c3h:=keep n3.below c3h;obtain ⟨E1,Z2,H1,hB,zB⟩:=n3.all hB;refine seq_new (.cells (kq encRes) 41 (0,0)) r (fun R=>y_alloc tz41) rfl fun fr b4 w5 n6 r=>?_;have c0h:=keep n6.below c0h
 have c1h:=keep n6.below c1h;have c2h:=keep n6.below c2h;have c3h:=keep n6.below c3h;have H1:=keep n6.below H1;obtain ⟨E4,Z5,H4,hB,zB⟩:=n6.all hB;refine wn (wp_seq (wsr (kF 0 r rfl fo113_2 rfl fun r=>kL (I a0.e) r rfl H1 to33 rfl rfl fun r=>kB r rfl rfl rfl rfl rfl fun r=>wn ?_)));refine wp_cond_split (t:=(a0.e !=0)) (r.ev rfl) (fun h7=>?_) (fun h7=>?_)
 ·
  refine wsr (kF 0 r rfl fo113_2 rfl fun r=>kL (I a0.e) r rfl H1 to33 rfl rfl fun r=>?_);refine kJ r (cl_list_fail (F:=No) (n:=n) (fun _ h=>h.elim) a0.e) rfl cl153 rfl fun w8 v9 hb hr10 r=>?_
  have hb:=hb.below;have Z8:=hb.size;have c0h:=keep hb c0h;have c1h:=keep hb c1h;have c2h:=keep hb c2h;have c3h:=keep hb c3h;have H1:=keep hb H1;have H4:=keep hb H4;obtain ⟨hB,zB⟩:=bon hb hB;refine kP r hr10.shape rfl rfl H4 ts41 rfl rfl fun w11 u12 r=>?_;have Z11:=u12.size
  have c0h:=u12.keep c0h (by omega)
  have c1h:=u12.keep c1h (by omega)
  have c2h:=u12.keep c2h (by omega)
  have c3h:=u12.keep c3h (by omega)
  have H1:=u12.keep H1 (by omega)
  have H4:=u12.at_;obtain ⟨hB,zB⟩:=u12.on hB (by omega)
  refine wn (wp_ret ?_);have hd:D.list_Add_1 j c0 c1 c2 c3 a0=(D.list_fail a0.e):=(cond_t h7).trans (rfl);have hs:=hr10.shape.cells;refine ret_cell r rfl rfl H4 (k:=8) hs.1 ta41 ?_;rw [←hs.2.2,hd];exact RepResL.fin (Chg.belowZ hB) hr10 u12 (fun _ h=>h.elim) (fun h=>h) (by omega) (by omega) (by omega)
 refine wp_skip (wp_seq ?_);refine wp_drawnF 7 [.val (zp c0b),.val (.agg (planC c0.p).toArray),.val (zp b1),.val (I a0.node),.val (I (D.plan_Plan_Field c0.p a0.node 0)),.val (U c1),.val (.func (.func 154) #[] #[zp c0b,zp b1,zp c2b,zp c3b,zp c1b])] mixed r (by kernel_rfl) (kV (kV (kV (kV (kV (kV (kV within_nil))))))) ?_ ?_
 ·
  refine ec r (fun _ u _ b d s=>y_fieldAddr s (b:=c0b) (o:=0) rfl fo47_0 bz) (ec r (fun _ u _ b d s=>y_load_agg s (cs:=(planC c0.p)) (n:=6) d.1 (keep b c0h) ta23 rfl bz) (ec r (fun _ u _ b d s=>y_fieldAddr s (b:=b1) (o:=0) rfl fo113_0 bz) (ec r (fun _ u _ b d s=>y_load_one s d.1 (keep b H1) to3 rfl bz) (ec r (fun fr1 u w' hb' hd r'=>y_call r' (args:=[(.agg (planC c0.p).toArray),(I a0.node),(I 0)]) (lc hd.1 (lc hd.2.1 (lc rfl l0))) cl89 ((c_plan_Plan_Field _ c0.p a0.node 0).mono (by rintro _ w2 ⟨rfl,hb2⟩; exact ⟨_,rfl,hb2,rfl⟩))) (ec r (fun _ u _ b d s=>y_load_one s rfl (keep b c1h) to34 rfl bz) (ec r (fun _ u _ b d s=>y_makeFunc s (v:=(.func (.func 154) #[] #[zp c0b,zp b1,zp c2b,zp c3b,zp c1b])) rfl bz) ?_))))));exact each_nil
 intro fr u w13 hb hΦ hne r;have r:=r.congr (sc (hΦ 6 (by decide)) (sc (hΦ 5 (by decide)) (sc (hΦ 4 (by decide)) (sc (hΦ 3 (by decide)) (sc (hΦ 2 (by decide)) (sc (hΦ 1 (by decide)) (sc (hΦ 0 (by decide)) rfl)))))));have Z13:=hb.size;have c0h:=keep hb c0h;have c1h:=keep hb c1h;have c2h:=keep hb c2h;have c3h:=keep hb c3h;have H1:=keep hb H1;have H4:=keep hb H4;obtain ⟨hB,zB⟩:=bon hb hB;have hF1:=fgrowC hF hB.size b4;have f17:((kW F w0 w13 b4)) c0b:=(.inl c0F);have f18:((kW F w0 w13 b4)) b1:=(.inr ⟨by omega,by omega,by omega⟩)
 have f19:((kW F w0 w13 b4)) c2b:=(.inl c2F);have f20:((kW F w0 w13 b4)) c3b:=(.inl c3F);have f21:((kW F w0 w13 b4)) c1b:=(.inl c1F);refine kJ r (cl_prog_Store_Res (F:=(kW F w0 w13 b4)) (n:=n) hF1 (D.plan_Plan_Field c0.p a0.node 0) c1 ⟨154,[],[zp c0b,zp b1,zp c2b,zp c3b,zp c1b],cl154,rfl,fun m hm _ w' hs hz=>cl_list_Add_1_1 (j:=j) (fun b hb=>Nat.lt_of_lt_of_le (hF1 b hb) hz) (by omega) c0 f17 (hs.at_ f17 c0h) a0 f18 (hs.at_ f18 H1) c2 f19 (hs.at_ f19 c2h) c3 f20 (hs.at_ f20 c3h) c1 f21 (hs.at_ f21 c1h)⟩) rfl cl124 rfl fun w14 v15 hb hr16 r=>?_;have Z14:=hb.size
 have H4:=keepC hb H4 (by rintro (h | ⟨_,_,h⟩); (have:=hF _ h; omega); exact h rfl)
 have hB:=Chg.belowZ (Z:=F) hB;have hB:=hB.thenF hb (by rintro b hlt (h | ⟨h,_⟩); exact h; omega)
 have zB:=hB.size;refine kP r hr16.shape rfl rfl H4 ts41 rfl rfl fun w22 u23 r=>?_;have Z22:=u23.size
 have H4:=u23.at_;have hB:=hB.thenU u23 (.inl (by omega))
 have zB:=hB.size;refine wn (wp_ret ?_);have hd:D.list_Add_1 j c0 c1 c2 c3 a0=(D.prog_Store_Res (D.plan_Plan_Field c0.p a0.node 0) c1 (fun _=>(D.list_Add_1_1 j c0 a0 c2 c3 c1))):=(cond_f h7).trans (rfl)
 have hs:=hr16.shape.cells;refine ret_cell r rfl rfl H4 (k:=8) hs.1 ta41 ?_;rw [←hs.2.2,hd];exact RepResL.fin hB hr16 u23 (by rintro b (h | ⟨h1,h2,_⟩); exact .inl h; exact .inr ⟨h1,h2⟩) (by rintro (h | ⟨_,_,h⟩); (have:=hF _ h; omega); exact h rfl) (by omega) (by omega) (by omega)
def D.list_Add (j:Nat) (a0:Seat) (a1:Int) (a2:Int) (a3:Int):T Res:=(T.bind (D.alloc_New j a0.p a0.thread 2) (fun x=>(D.list_Add_1 j a0 a2 a3 a1 x)))
theorem cl_list_Add (hF:kH F w0) (hj:n<j)
    (a0:Seat) (a1:Int) (a2:Int) (a3:Int) :
    Calls Tryz.prog 82 #[.agg (seatC a0).toArray,.int .i64 a1,.int .u64 a2,.int .u64 a3] w0 (RepResL Tryz.prog encRes n (D.list_Add j a0 a1 a2 a3) F w0):=by
 refine kN Tryz.func82 rfl 16 rfl rfl fun fr r hB=>?_;refine wsr ?_
 refine kX 47 (.agg (seatC a0).toArray) r rfl rfl fun b1 w2 n3 r=>?_;obtain ⟨E1,Z2,H1,hB,zB⟩:=n3.all hB
 refine kX 3 (I a1) r rfl rfl fun b4 w5 n6 r=>?_;have H1:=keep n6.below H1
 obtain ⟨E4,Z5,H4,hB,zB⟩:=n6.all hB;refine kX 34 (U a2) r rfl rfl fun b7 w8 n9 r=>?_;have H1:=keep n9.below H1
 have H4:=keep n9.below H4;obtain ⟨E7,Z8,H7,hB,zB⟩:=n9.all hB;refine kX 34 (U a3) r rfl rfl fun b10 w11 n12 r=>?_;have H1:=keep n12.below H1
 have H4:=keep n12.below H4;have H7:=keep n12.below H7;obtain ⟨E10,Z11,H10,hB,zB⟩:=n12.all hB;refine seq_new (.cells (kq encRes) 41 (0,0)) r (fun R=>y_alloc tz41) rfl fun fr b13 w14 n15 r=>?_;have H1:=keep n15.below H1
 have H4:=keep n15.below H4;have H7:=keep n15.below H7;have H10:=keep n15.below H10;obtain ⟨E13,Z14,H13,hB,zB⟩:=n15.all hB;refine wn (wsr (kF 0 r rfl fo47_0 rfl fun r=>kG (planC a0.p) 6 r rfl H1 ta23 rfl rfl fun r=>kF 0 r rfl fo47_2 rfl fun r=>kL (I a0.thread) r rfl H1 to3 rfl rfl fun r=>?_));refine kD r (c_alloc_New (j:=j) (F:=No) (n:=n) (fun _ h=>h.elim) (by omega) a0.p a0.thread 2) rfl cl102 rfl fun w16 v17 hb hr18 r=>?_
 have hr18:=hr18.loud;have Z16:=hb.size;have H1:=keep hb H1;have H4:=keep hb H4;have H7:=keep hb H7;have H10:=keep hb H10;have H13:=keep hb H13;obtain ⟨hB,zB⟩:=bon hb hB;refine seq_val (.func (.func 152) #[] #[zp b1,zp b7,zp b10,zp b4]) r (fun R=>y_makeFunc r rfl) rfl fun fr r=>?_;have hF1:∀ b,(kW F w0 w14 b13) b→b<w16.heap.size:=by rintro b (h | ⟨_,h,_⟩); exact Nat.lt_of_lt_of_le (hF b h) hB.size; exact Nat.lt_of_lt_of_le h (by omega)
 have f22:((kW F w0 w14 b13)) b1:=(.inr ⟨by omega,by omega,by omega⟩)
 have f23:((kW F w0 w14 b13)) b7:=(.inr ⟨by omega,by omega,by omega⟩)
 have f24:((kW F w0 w14 b13)) b10:=(.inr ⟨by omega,by omega,by omega⟩)
 have f25:((kW F w0 w14 b13)) b4:=(.inr ⟨by omega,by omega,by omega⟩)
 have hF2:=fgrowC hF hB.size b13;refine kJ r (cl_prog_Then_Grant_Res_le (F:=(kW F w0 w16 b13)) (F2:=(kW F w0 w14 b13)) (n:=n) hF2 (by rintro b ⟨h,h'⟩; exact .inr ⟨by omega,by omega,by omega⟩) (by rintro b (h | ⟨h1,h2,h3⟩); exact .inl h; exact .inr ⟨h1,by omega,h3⟩) (by rintro b ⟨h1,h2⟩ (h | ⟨h3,h4,_⟩); (have:=hF b h; omega); omega) (RepL.mono (F':=fun b=>w14.heap.size≤b∧b<w16.heap.size) (by rintro b (h | h); exact h.elim; exact h) (Same.refl _ _) (Nat.le_refl _) n _ _ hr18) ⟨152,[],[zp b1,zp b7,zp b10,zp b4],cl152,rfl,fun m hm x w' hs hz=>cl_list_Add_1 (j:=j) (fun b hb=>Nat.lt_of_lt_of_le (hF1 b hb) hz) (by omega) a0 f22 (hs.at_ f22 H1) a2 f23 (hs.at_ f23 H7) a3 f24 (hs.at_ f24 H10) a1 f25 (hs.at_ f25 H4) x⟩) rfl cl130 rfl fun w19 v20 hb hr21 r=>?_
 have Z19:=hb.size;have H13:=keepC hb H13 (by rintro (h | ⟨_,_,h⟩); (have:=hF _ h; omega); exact h rfl)
 have hB:=Chg.belowZ (Z:=F) hB;have hB:=hB.thenF hb (by rintro b hlt (h | ⟨h,_⟩); exact h; omega)
 have zB:=hB.size;refine kP r hr21.shape rfl rfl H13 ts41 rfl rfl fun w26 u27 r=>?_;have Z26:=u27.size
 have H13:=u27.at_;have hB:=hB.thenU u27 (.inl (by omega))
 have zB:=hB.size;refine wn (wp_ret ?_);have hs:=hr21.shape.cells;refine ret_cell r rfl rfl H13 (k:=8) hs.1 ta41 ?_;rw [←hs.2.2];exact RepResL.fin hB hr21 u27 (by rintro b (h | ⟨h1,h2,_⟩); exact .inl h; exact .inr ⟨h1,h2⟩) (by rintro (h | ⟨_,_,h⟩); (have:=hF _ h; omega); exact h rfl) (by omega) (by omega) (by omega)
end
end Go.Proofs.YtbbipmelhmgmfaaGreat

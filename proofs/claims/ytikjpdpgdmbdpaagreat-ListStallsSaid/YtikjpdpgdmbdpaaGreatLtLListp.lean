/- Ours. -/
import Derived.Test.YtikjpdpgdmbdpaaGreatLtLLoads
import Derived.Test.YtikjpdpgdmbdpaaGreatLtM18
set_option linter.all false
set_option maxRecDepth 20000
set_option maxHeartbeats 2000000
namespace Go.Proofs.YtikjpdpgdmbdpaaGreat
open Go.RowKit
section
variable {n : Nat} {F : Nat → Prop} {j : Nat} {w0 : World}
theorem FG:ag Tryz.prog 114:=kz
theorem wg:ag Tryz.prog 115:=kz
theorem DK:ag Tryz.prog 117:=kz
theorem Fa:ag Tryz.prog 118:=kz
theorem xe:ag Tryz.prog 119:=kz
theorem fT:ag Tryz.prog 120:=kz
theorem nK:ag Tryz.prog 122:=kz
theorem Ep:ag Tryz.prog 123:=kz
theorem jm:ag Tryz.prog 124:=kz
theorem Fe:ag Tryz.prog 126:=kz
theorem FE:ag Tryz.prog 128:=kz
theorem Fp:ag Tryz.prog 129:=kz
theorem FO:ag Tryz.prog 133:=kz
theorem Dw:ag Tryz.prog 134:=kz
theorem Eg:ag Tryz.prog 213:=kz
theorem wk:ag Tryz.prog 215:=kz
theorem En:ag Tryz.prog 216:=kz
theorem DN:ag Tryz.prog 218:=kz
theorem FD:ag Tryz.prog 219:=kz
theorem DF:ag Tryz.prog 220:=kz
theorem EI:ag Tryz.prog 221:=kz
theorem DY:ag Tryz.prog 225:=kz
theorem qF:ag Tryz.prog 226:=kz
theorem Em:ag Tryz.prog 227:=kz
theorem Eo:ag Tryz.prog 229:=kz
theorem DC:ag Tryz.prog 230:=kz
theorem nH:ag Tryz.prog 231:=kz
theorem Ej:ag Tryz.prog 232:=kz
theorem xb:ag Tryz.prog 319:=kz
theorem nG:ag Tryz.prog 320:=kz
theorem EU:ag Tryz.prog 321:=kz
theorem nF:ag Tryz.prog 322:=kz
theorem DI:ag Tryz.prog 323:=kz
theorem Fq:ag Tryz.prog 324:=kz
theorem Fl:ag Tryz.prog 325:=kz
theorem ES:ag Tryz.prog 368:=kz
theorem EW:ag Tryz.prog 369:=kz
theorem FX:ag Tryz.prog 370:=kz
theorem Fs:ag Tryz.prog 371:=kz
theorem Ea:ag Tryz.prog 372:=kz
theorem FV:ag Tryz.prog 393:=kz
theorem EA:ag Tryz.prog 394:=kz
theorem Fh:ag Tryz.prog 396:=kz
theorem Ex:ag Tryz.prog 397:=kz
theorem ED:ag Tryz.prog 398:=kz
theorem cl52:ag Tryz.prog 52:=kz
theorem gH:aX Tryz.prog 206 0 0:=kz
theorem Cq:aX Tryz.prog 206 1 8:=kz
theorem qf:aX Tryz.prog 206 2 9:=kz
theorem kY:aX Tryz.prog 206 3 10:=kz
theorem eI:aX Tryz.prog 206 4 11:=kz
theorem gD:aX Tryz.prog 206 5 12:=kz
theorem l5:aX Tryz.prog 206 6 13:=kz
theorem DU:tyO Tryz.prog 270:=kz
theorem ts4:sized Tryz.prog 4 1:=kz
def D.kp (a0:Int):T Res:=(D.m9 (⟨a0,0⟩:Res))
set_option maxRecDepth 20000 in
set_option maxHeartbeats 8000000 in
theorem sV (hF:kH F w0)
    (a0:Int) :
    Calls Tryz.prog 115 #[.int .i64 a0] w0 (aq Tryz.prog ar n (D.kp a0) F w0):=by
 refine kN Tryz.func115 rfl 6 rfl rfl fun fr r hB=>?_;refine wsr ?_
 refine ai (.cells (af false ar.zero 0 0 0 0 .nilFunc) 57 (0,0)) r (fun R=>ah tz57) rfl fun fr b1 w2 n3 r=>?_;obtain ⟨E1,Z2,H1,hB,zB⟩:=n3.all hB
 refine wn (wsr (kM (I a0) r rfl rfl fun r=>kU (.agg (resC (⟨a0,0⟩:Res)).toArray) r kz rfl fun r=>?_));refine kJ r (s5 (F:=No) (n:=n) (fun _ h=>h.elim) (⟨a0,0⟩:Res)) rfl cl23 rfl fun w4 v5 hb hr6 r=>?_
 have hb:=hb.below;have Z4:=hb.size;have H1:=keep hb H1;obtain ⟨hB,zB⟩:=bon hb hB;refine kP r hr6.shape rfl rfl H1 ts57 rfl rfl fun w7 u8 r=>?_;have Z7:=u8.size
 have H1:=u8.at_;obtain ⟨hB,zB⟩:=u8.on hB kw
 refine wn (wp_ret ?_);have hs:=hr6.shape.cells;refine ak r rfl rfl H1 (k:=8) hs.1 ta57 ?_;rw [←hs.2.2];exact aq.fin (Chg.aM hB) hr6 u8 (fun _ h=>h.elim) (fun h=>h) kw kw kw
def D.aL (a0:Int):Int:=(IntKind.i64.wrap ((IntKind.i64.wrap (shrI .u64 a0 1)) - 1))
set_option maxRecDepth 20000 in
set_option maxHeartbeats 8000000 in
theorem fJ (w0:World) 
    (a0:Int) :
    Calls Tryz.prog 120 #[.int .u64 a0] w0 (bC (.int .i64 (D.aL a0)) w0):=by
 refine kN Tryz.func120 rfl 7 rfl rfl fun fr r hB=>?_;refine wsr (kA (I 0) r rfl rfl fun r=>wn (wsr (kM (U a0) r rfl rfl fun r=>kB r rfl rfl rfl (qg (by first | assumption | decide)) rfl fun r=>ac (I (W (shrI .u64 a0 1))) r (fun R=>cr r rfl ti36 ti3) rfl fun fr r=>kB r rfl rfl rfl rfl rfl fun r=>kA (I (W ((W (shrI .u64 a0 1)) - 1))) r rfl rfl fun r=>wn (wp_ret ?_))))
 refine bk r rfl rfl ?_;exact ⟨rfl,hB⟩
def D.ee (c0:(Unit→T Walk)):T Walk:=(c0 ())
set_option maxRecDepth 20000 in
set_option maxHeartbeats 8000000 in
theorem yM (hF:kH F w0)
    {c0f:FuncId} {c0_1 c0_2:List Value} {c0:(Unit→T Walk)} {c0b:Nat} (c0F:F c0b) (c0h:w0.heap[c0b]?=some (.cells #[.func (.func c0f) c0_1.toArray c0_2.toArray] 270 (0,0))) (c0n:FnL Tryz.prog aJ unitE (n+1) F w0 (.func (.func c0f) c0_1.toArray c0_2.toArray) c0) :
    Calls Tryz.prog 368 #[.agg #[],zp c0b] w0 (aq Tryz.prog aJ n (D.ee c0) F w0):=by
 refine kN Tryz.func368 rfl 6 rfl rfl fun fr r hB=>?_;have lc0b:=lt_of_block c0h
 refine wsr ?_;refine kX 152 (.agg #[]) r rfl rfl fun b1 w2 n3 r=>?_;have c0h:=keep n3.below c0h
 obtain ⟨E1,Z2,H1,hB,zB⟩:=n3.all hB;refine ai (.cells (af false aJ.zero 0 0 0 0 .nilFunc) 209 (0,0)) r (fun R=>ah ck) rfl fun fr b4 w5 n6 r=>?_;have c0h:=keep n6.below c0h
 have H1:=keep n6.below H1;obtain ⟨E4,Z5,H4,hB,zB⟩:=n6.all hB;refine wn (wsr (kL (.func (.func c0f) c0_1.toArray c0_2.toArray) r rfl c0h DU rfl rfl fun r=>?_));refine cA r (c0n.at_.2 n (Nat.lt_succ_self n) () w5 (Same.below hB hF) hB.size) (fun R hc=>il r rfl c0n.at_.1 hc) rfl ?_
 rintro _ w7 ⟨v8,rfl,hb,hr9⟩;refine ⟨_,rfl,fun fr r=>?_⟩
 have Z7:=hb.size;have H4:=aR hb H4 (fun h=>by have:=hF _ h; omega)
 have hB:=Chg.aM (Z:=F) hB;have hB:=hB.bi hb (fun _ _ h=>h)
 have zB:=hB.size;refine kP r hr9.shape rfl rfl H4 bV rfl rfl fun w10 u11 r=>?_;have Z10:=u11.size
 have H4:=u11.at_;have hB:=hB.bg u11 (.inl kw)
 have zB:=hB.size;refine wn (wp_ret ?_);have hs:=hr9.shape.cells;refine ak r rfl rfl H4 (k:=20) hs.1 bU ?_;rw [←hs.2.2];exact aq.fin hB hr9 u11 (fun b hb=>.inl hb) (fun h=>by have:=hF _ h; omega) kw kw kw
def D.du (a0:Walk) (a1:Int) (a2:Int) (a3:(Unit→T Walk)):T Walk:=(T.bind (D.dM a0.seat.p a0.seat.thread a1 a2) (fun _=>(D.ee a3)))
set_option maxRecDepth 20000 in
set_option maxHeartbeats 8000000 in
theorem lT (hF:kH F w0)
    (a0:Walk) (a1:Int) (a2:Int) {a3f:FuncId} {a3_1 a3_2:List Value} {a3:(Unit→T Walk)} (a3n:FnL Tryz.prog aJ unitE (n) F w0 (.func (.func a3f) a3_1.toArray a3_2.toArray) a3) :
    Calls Tryz.prog 322 #[.agg (aW a0).toArray,.int .i64 a1,.int .i64 a2,.func (.func a3f) a3_1.toArray a3_2.toArray] w0 (aq Tryz.prog aJ n (D.du a0 a1 a2 a3) F w0):=by
 refine kN Tryz.func322 rfl 20 rfl rfl fun fr r hB=>?_;refine wsr ?_
 refine kX 206 (.agg (aW a0).toArray) r rfl rfl fun b1 w2 n3 r=>?_;obtain ⟨E1,Z2,H1,hB,zB⟩:=n3.all hB
 refine kX 270 (.func (.func a3f) a3_1.toArray a3_2.toArray) r rfl rfl fun b4 w5 n6 r=>?_;have H1:=keep n6.below H1
 obtain ⟨E4,Z5,H4,hB,zB⟩:=n6.all hB;refine ai (.cells (af false aJ.zero 0 0 0 0 .nilFunc) 209 (0,0)) r (fun R=>ah ck) rfl fun fr b7 w8 n9 r=>?_;have H1:=keep n9.below H1
 have H4:=keep n9.below H4;obtain ⟨E7,Z8,H7,hB,zB⟩:=n9.all hB;refine wn (wsr (kF 0 r rfl gH rfl fun r=>kF 0 r rfl dq rfl fun r=>kG (ae a0.seat.p) 6 r rfl H1 ta23 rfl rfl fun r=>kF 0 r rfl gH rfl fun r=>kF 0 r rfl iz rfl fun r=>kL (I a0.seat.thread) r rfl H1 to3 rfl rfl fun r=>kM (I a1) r rfl rfl fun r=>kM (I a2) r rfl rfl fun r=>?_));refine kD r (oY (F:=No) (n:=n) (fun _ h=>h.elim) a0.seat.p a0.seat.thread a1 a2) rfl rl rfl fun w10 v11 hb hr12 r=>?_
 have hr12:=hr12.loud;have Z10:=hb.size;have H1:=keep hb H1;have H4:=keep hb H4;have H7:=keep hb H7;obtain ⟨hB,zB⟩:=bon hb hB;refine ac (.func (.func 368) #[] #[zp b4]) r (fun R=>aQ r rfl) rfl fun fr r=>?_;have hF1:∀ b,(kW F w0 w8 b7) b→b<w10.heap.size:=by rintro b (h | ⟨_,h,_⟩); exact Nat.lt_of_lt_of_le (hF b h) hB.size; exact Nat.lt_of_lt_of_le h kw
 have f16:((kW F w0 w8 b7)) b4:=(.inr ⟨kw,kw,kw⟩)
 have hF2:=cf hF hB.size b7;refine kJ r (xx (F:=(kW F w0 w10 b7)) (F2:=(kW F w0 w8 b7)) (n:=n) hF2 (by rintro b ⟨h,h'⟩; exact .inr ⟨kw,kw,kw⟩) (by rintro b (h | ⟨h1,h2,h3⟩); exact .inl h; exact .inr ⟨h1,kw,h3⟩) (by rintro b ⟨h1,h2⟩ (h | ⟨h3,h4,_⟩); (have:=hF b h; omega); omega) (RepL.mono (F':=fun b=>w8.heap.size≤b∧b<w10.heap.size) (by rintro b (h | h); exact h.elim; exact h) (Same.refl _ _) (Nat.le_refl _) n _ _ hr12) ⟨368,[],[zp b4],ES,rfl,fun m hm _ w' hs hz=>yM (fun b hb=>Nat.lt_of_lt_of_le (hF1 b hb) hz) f16 (hs.at_ f16 H4) (a3n.mono kw (fun b h=>.inl h) ((Same.below hB hF).trans (hs.sub (fun b h=>.inl h))) (Nat.le_trans hB.size hz))⟩ rfl) rfl vR rfl fun w13 v14 hb hr15 r=>?_
 have Z13:=hb.size;have H7:=aR hb H7 (by rintro (h | ⟨_,_,h⟩); (have:=hF _ h; omega); exact h rfl)
 have hB:=Chg.aM (Z:=F) hB;have hB:=hB.bi hb (by rintro b hlt (h | ⟨h,_⟩); exact h; omega)
 have zB:=hB.size;refine kP r hr15.shape rfl rfl H7 bV rfl rfl fun w17 u18 r=>?_;have Z17:=u18.size
 have H7:=u18.at_;have hB:=hB.bg u18 (.inl kw)
 have zB:=hB.size;refine wn (wp_ret ?_);have hs:=hr15.shape.cells;refine ak r rfl rfl H7 (k:=20) hs.1 bU ?_;rw [←hs.2.2];exact aq.fin hB hr15 u18 (by rintro b (h | ⟨h1,h2,_⟩); exact .inl h; exact .inr ⟨h1,h2⟩) (by rintro (h | ⟨_,_,h⟩); (have:=hF _ h; omega); exact h rfl) kw kw kw
def D.iG (j:Nat) (r_list_walk_step:Walk→T Walk) (c0:Walk) (c1:Int):T Walk:=(r_list_walk_step ({ ({ c0 with place:=(D.aS c0.seat.p c1 2) }) with cur:=c0.next }))
def D.jL (j:Nat) (r_list_walk_step:Walk→T Walk) (c0:Walk) (c1:Int):T Walk:=(D.du c0 1 (D.aL c0.next) (fun _=>(D.iG j r_list_walk_step c0 c1)))
def D.gp (j:Nat) (r_list_walk_step:Walk→T Walk) (a0:Walk) (a1:Int):T Walk:=(D.du a0 2 a1 (fun _=>(D.jL j r_list_walk_step a0 a1)))
def D.iD (j:Nat) (r_list_walk_step:Walk→T Walk) (c0:Int) (c1:Walk) (a0:Int):T Walk:=(D.du ({ c1 with cur:=c0 }) 1 (D.aL c0) (fun _=>(r_list_walk_step ({ c1 with cur:=c0 }))))
def D.pd (j:Nat) (r_list_walk_step:Walk→T Walk) (c0:Seat) (c1:Int) (c2:Int) (a0:Int):T Walk:=(r_list_walk_step (⟨c0,c1,c2,c1,a0,0,false⟩:Walk))
def D.gy (j:Nat) (r_list_walk_step:Walk→T Walk) (a0:Seat) (a1:Int) (a2:Int):T Walk:=(T.bind (D.eY j a0.p a0.thread 1 a1 1) (fun x=>(D.pd j r_list_walk_step a0 a1 a2 x)))
def D.ep (j:Nat) (r_list_walk_step:Walk→T Walk) (a0:Walk):T Walk:=(D.gy j r_list_walk_step a0.seat a0.cell a0.k)
def D.jt (j:Nat) (r_list_walk_step:Walk→T Walk) (c0:Walk) (c1:Int) (c2:Int) (a0:Bool):T Walk:=(bif (!a0) then (D.ep j r_list_walk_step c0) else (T.bind (D.eZ j c0.seat.p c0.seat.thread c1) (fun x=>(D.iD j r_list_walk_step c2 c0 x))))
def D.lD (j:Nat) (r_list_walk_step:Walk→T Walk) (a0:Walk) (a1:Int):T Walk:=(D.oO a0.place a0.cur (cj .u64 a0.next 1) (fun x=>(D.jt j r_list_walk_step a0 a1 (cj .u64 a0.next 1) x)))
def D.fA (j:Nat) (r_list_walk_step:Walk→T Walk) (c0:Walk) (c1:Int) (c2:Int) (a0:Int):T Walk:=(bif (a0 !=c0.cur) then (D.ep j r_list_walk_step c0) else (bif ((co .u64 c0.next 1) !=0) then (D.lD j r_list_walk_step c0 c1) else (bif (decide (c2≥c0.k)) then (D.iK ({ c0 with there:=(c2==c0.k) })) else (D.gp j r_list_walk_step c0 c1))))
def D.gb (j:Nat) (r_list_walk_step:Walk→T Walk) (c0:Walk) (c1:Int) (a0:Int):T Walk:=(D.gZ c0.place (fun x=>(D.fA j r_list_walk_step c0 c1 a0 x)))
def D.eT (j:Nat) (r_list_walk_step:Walk→T Walk) (a0:Walk) (a1:Int):T Walk:=(D.gZ (D.aS a0.seat.p a1 0) (fun x=>(D.gb j r_list_walk_step a0 a1 x)))
def D.gT (j:Nat) (r_list_walk_step:Walk→T Walk) (c0:Int) (c1:Walk) (c2:Int) (a0:Int):T Walk:=(bif (a0 !=c0) then (D.ep j r_list_walk_step c1) else (D.eT j r_list_walk_step ({ c1 with next:=c0 }) c2))
def D.fD (j:Nat) (r_list_walk_step:Walk→T Walk) (c0:Int) (c1:Int) (c2:Walk) (c3:Int):T Walk:=(D.gZ c0 (fun x=>(D.gT j r_list_walk_step c1 c2 c3 x)))
def D.iF (j:Nat) (r_list_walk_step:Walk→T Walk) (c0:Walk) (c1:Int) (c2:Int) (a0:Int):T Walk:=(D.du c0 0 (D.aL a0) (fun _=>(D.fD j r_list_walk_step c1 a0 c0 c2)))
def D.dR (j:Nat) (r_list_walk_step:Walk→T Walk) (a0:Walk):T Walk:=(bif (decide ((D.aL a0.cur)<0)) then (D.iK ({ a0 with there:=false })) else (D.gZ (D.aS a0.seat.p (D.aL a0.cur) 2) (fun x=>(D.iF j r_list_walk_step a0 (D.aS a0.seat.p (D.aL a0.cur) 2) (D.aL a0.cur) x))))
def D.bN (j:Nat):Nat→Walk→T Walk
  | 0,_=>.cut
  | k+1,a0=>D.dR j (D.bN j k) a0
def df (r:Walk→T Walk) (n:Nat):Prop:=∀ (F:Nat→Prop) (w0:World),(∀ b,F b→b<w0.heap.size)→∀ (a0:Walk),Calls Tryz.prog 226 #[.agg (aW a0).toArray] w0 (aq Tryz.prog aJ n (r a0) F w0)
set_option maxRecDepth 20000 in
set_option maxHeartbeats 8000000 in
theorem yH {r_list_walk_step:Walk→T Walk} (hF:kH F w0) (hj:n<j) (ih_list_walk_step:∀ m,m≤n→df r_list_walk_step m)
    (c0:Walk) {c0b:Nat} (c0F:F c0b) (c0h:w0.heap[c0b]?=some (.cells ((aW c0)).toArray 206 (0,0))) (c1:Int) {c1b:Nat} (c1F:F c1b) (c1h:w0.heap[c1b]?=some (.cells ([(.int .i64 c1)]).toArray 3 (0,0))) :
    Calls Tryz.prog 398 #[zp c0b,zp c1b] w0 (aq Tryz.prog aJ n (D.iG j r_list_walk_step c0 c1) F w0):=by
 refine kN Tryz.func398 rfl 14 rfl rfl fun fr r hB=>?_;have lc0b:=lt_of_block c0h
 have lc1b:=lt_of_block c1h;refine wsr ?_;refine ai (.cells (af false aJ.zero 0 0 0 0 .nilFunc) 209 (0,0)) r (fun R=>ah ck) rfl fun fr b1 w2 n3 r=>?_;have c0h:=keep n3.below c0h
 have c1h:=keep n3.below c1h;obtain ⟨E1,Z2,H1,hB,zB⟩:=n3.all hB;refine wn (wp_seq ?_);refine bK 8 [.val (zp c0b),.val (zp c0b),.val (.agg (ae c0.seat.p).toArray),.val (I c1),.val (I (D.aS c0.seat.p c1 2)),.val (.pointer (some ⟨c0b,12,none⟩)),.val (U c0.next),.val (.pointer (some ⟨c0b,10,none⟩))] mixed r kz (kV (kV (kV (kV (kV (kV (kV (kV bJ)))))))) ?_ ?_
 ·
  refine ec r (fun _ u _ b d s=>ay s (b:=c0b) (o:=0) rfl gH bz) (ec r (fun _ u _ b d s=>ay s (b:=c0b) (o:=0) d.1 dq bz) (ec r (fun _ u _ b d s=>aT s (cs:=(ae c0.seat.p)) (n:=6) d.1 (keep b c0h) ta23 rfl bz) (ec r (fun _ u _ b d s=>av s rfl (keep b c1h) to3 rfl bz) (ec r (fun fr1 u w' hb' hd r'=>aN r' (args:=[(.agg (ae c0.seat.p).toArray),(I c1),(I 2)]) (lc hd.1 (lc hd.2.1 (lc rfl l0))) cl85 ((dL _ c0.seat.p c1 2).mono (by rintro _ w2 ⟨rfl,hb2⟩; exact ⟨_,rfl,hb2,rfl⟩))) (ec r (fun _ u _ b d s=>ay s (b:=c0b) (o:=0) rfl gD bz) (ec r (fun _ u _ b d s=>av s d.1 (keep b c0h) to36 rfl bz) (ec r (fun _ u _ b d s=>ay s (b:=c0b) (o:=0) rfl kY bz) ?_)))))));exact bL
 intro fr u w4 hb hΦ hne r;have r:=r.congr (sc (hΦ 7 ke) (sc (hΦ 6 ke) (sc (hΦ 5 ke) (sc (hΦ 4 ke) (sc (hΦ 3 ke) (sc (hΦ 2 ke) (sc (hΦ 1 ke) (sc (hΦ 0 ke) rfl))))))));have Z4:=hb.size;have c0h:=keep hb c0h;have c1h:=keep hb c1h;have H1:=keep hb H1;obtain ⟨hB,zB⟩:=bon hb hB;refine bd (.cells ((aW ({ c0 with place:=(D.aS c0.seat.p c1 2) }))).toArray 206 (0,0)) r (fun R=>aV r (o:=10) (v:=(I (D.aS c0.seat.p c1 2))) rfl rfl c0h ts3 (Nat.le_of_ble_eq_true rfl) rfl rfl) rfl fun fr w5 u6 r=>?_
 have Z5:=u6.size;have c1h:=u6.keep c1h (iq c1h c0h rfl);have H1:=u6.keep H1 kw
 have c0h:=u6.at_;have hB:=Chg.aM (Z:=F) hB;have hB:=hB.bg u6 (.inr c0F);have zB:=hB.size;obtain ⟨zs7,ezs7⟩:∃ z,z=({ c0 with place:=(D.aS c0.seat.p c1 2) }):=⟨_,rfl⟩
 rw [←ezs7] at c0h
 refine kF 0 r rfl eI rfl fun r=>?_;refine bd (.cells ((aW ({ zs7 with cur:=c0.next }))).toArray 206 (0,0)) r (fun R=>aV r (o:=11) (v:=(U c0.next)) rfl rfl c0h ts36 (Nat.le_of_ble_eq_true rfl) rfl rfl) rfl fun fr w8 u9 r=>?_
 have Z8:=u9.size;have c1h:=u9.keep c1h (iq c1h c0h rfl);have H1:=u9.keep H1 kw
 have c0h:=u9.at_;have hB:=hB.bg u9 (.inr c0F);have zB:=hB.size;obtain ⟨zs10,ezs10⟩:∃ z,z=({ zs7 with cur:=c0.next }):=⟨_,rfl⟩
 rw [←ezs10] at c0h
 refine wn (wsr (kG (aW zs10) 14 r rfl c0h db rfl rfl fun r=>?_));refine kJ r ((ih_list_walk_step n kw) (No) _ (fun _ h=>h.elim) zs10) rfl qF rfl fun w11 v12 hb hr13 r=>?_
 have hb:=hb.below;have Z11:=hb.size;have c0h:=keep hb c0h;have c1h:=keep hb c1h;have H1:=keep hb H1;have hB:=hB.thenB hb;have zB:=hB.size;refine kP r hr13.shape rfl rfl H1 bV rfl rfl fun w14 u15 r=>?_;have Z14:=u15.size
 have c0h:=u15.keep c0h kw
 have c1h:=u15.keep c1h kw
 have H1:=u15.at_;have hB:=hB.bg u15 (.inl kw)
 have zB:=hB.size;refine wn (wp_ret ?_);have hd:D.iG j r_list_walk_step c0 c1=(r_list_walk_step zs10):=by subst ezs10 ezs7; exact rfl
 have hs:=hr13.shape.cells;refine ak r rfl rfl H1 (k:=20) hs.1 bU ?_;rw [←hs.2.2,hd];exact aq.fin hB hr13 u15 (fun _ h=>h.elim) (fun h=>h) kw kw kw
set_option maxRecDepth 20000 in
set_option maxHeartbeats 8000000 in
theorem zn {r_list_walk_step:Walk→T Walk} (hF:kH F w0) (hj:n<j) (ih_list_walk_step:∀ m,m<n→df r_list_walk_step m)
    (c0:Walk) {c0b:Nat} (c0F:F c0b) (c0h:w0.heap[c0b]?=some (.cells ((aW c0)).toArray 206 (0,0))) (c1:Int) {c1b:Nat} (c1F:F c1b) (c1h:w0.heap[c1b]?=some (.cells ([(.int .i64 c1)]).toArray 3 (0,0))) :
    Calls Tryz.prog 397 #[zp c0b,zp c1b] w0 (aq Tryz.prog aJ n (D.jL j r_list_walk_step c0 c1) F w0):=by
 refine kN Tryz.func397 rfl 9 rfl rfl fun fr r hB=>?_;have lc0b:=lt_of_block c0h
 have lc1b:=lt_of_block c1h;refine wsr ?_;refine ai (.cells (af false aJ.zero 0 0 0 0 .nilFunc) 209 (0,0)) r (fun R=>ah ck) rfl fun fr b1 w2 n3 r=>?_;have c0h:=keep n3.below c0h
 have c1h:=keep n3.below c1h;obtain ⟨E1,Z2,H1,hB,zB⟩:=n3.all hB;refine wn (wp_seq ?_);refine bK 5 [.val (.agg (aW c0).toArray),.val (.pointer (some ⟨c0b,12,none⟩)),.val (U c0.next),.val (I (D.aL c0.next)),.val (.func (.func 398) #[] #[zp c0b,zp c1b])] mixed r kz (kV (kV (kV (kV (kV bJ))))) ?_ ?_
 ·
  refine ec r (fun _ u _ b d s=>aT s (cs:=(aW c0)) (n:=14) rfl (keep b c0h) db rfl bz) (ec r (fun _ u _ b d s=>ay s (b:=c0b) (o:=0) rfl gD bz) (ec r (fun _ u _ b d s=>av s d.1 (keep b c0h) to36 rfl bz) (ec r (fun fr1 u w' hb' hd r'=>aN r' (args:=[(U c0.next)]) (lc hd.1 l0) fT ((fJ _ c0.next).mono (by rintro _ w2 ⟨rfl,hb2⟩; exact ⟨_,rfl,hb2,rfl⟩))) (ec r (fun _ u _ b d s=>aQ s (v:=(.func (.func 398) #[] #[zp c0b,zp c1b])) rfl bz) ?_))));exact bL
 intro fr u w4 hb hΦ hne r;have r:=r.congr (sc (hΦ 4 ke) (sc (hΦ 3 ke) (sc (hΦ 2 ke) (sc (hΦ 1 ke) (sc (hΦ 0 ke) rfl)))));have Z4:=hb.size;have c0h:=keep hb c0h;have c1h:=keep hb c1h;have H1:=keep hb H1;obtain ⟨hB,zB⟩:=bon hb hB;have hF1:=cf hF hB.size b1;have f8:((kW F w0 w4 b1)) c0b:=(.inl c0F);have f9:((kW F w0 w4 b1)) c1b:=(.inl c1F);refine kJ r (lT (F:=(kW F w0 w4 b1)) (n:=n) hF1 c0 1 (D.aL c0.next) ⟨398,[],[zp c0b,zp c1b],ED,rfl,fun m hm _ w' hs hz=>yH (j:=j) (fun b hb=>Nat.lt_of_lt_of_le (hF1 b hb) hz) kw (fun m' hm'=>ih_list_walk_step m' kw) c0 f8 (hs.at_ f8 c0h) c1 f9 (hs.at_ f9 c1h)⟩) rfl nF rfl fun w5 v6 hb hr7 r=>?_;have Z5:=hb.size
 have H1:=aR hb H1 (by rintro (h | ⟨_,_,h⟩); (have:=hF _ h; omega); exact h rfl)
 have hB:=Chg.aM (Z:=F) hB;have hB:=hB.bi hb (by rintro b hlt (h | ⟨h,_⟩); exact h; omega)
 have zB:=hB.size;refine kP r hr7.shape rfl rfl H1 bV rfl rfl fun w10 u11 r=>?_;have Z10:=u11.size
 have H1:=u11.at_;have hB:=hB.bg u11 (.inl kw)
 have zB:=hB.size;refine wn (wp_ret ?_);have hs:=hr7.shape.cells;refine ak r rfl rfl H1 (k:=20) hs.1 bU ?_;rw [←hs.2.2];exact aq.fin hB hr7 u11 (by rintro b (h | ⟨h1,h2,_⟩); exact .inl h; exact .inr ⟨h1,h2⟩) (by rintro (h | ⟨_,_,h⟩); (have:=hF _ h; omega); exact h rfl) kw kw kw
set_option maxRecDepth 20000 in
set_option maxHeartbeats 8000000 in
theorem zJ {r_list_walk_step:Walk→T Walk} (hF:kH F w0) (hj:n<j) (ih_list_walk_step:∀ m,m<n→df r_list_walk_step m)
    (a0:Walk) (a1:Int) :
    Calls Tryz.prog 372 #[.agg (aW a0).toArray,.int .i64 a1] w0 (aq Tryz.prog aJ n (D.gp j r_list_walk_step a0 a1) F w0):=by
 refine kN Tryz.func372 rfl 9 rfl rfl fun fr r hB=>?_;refine wsr ?_
 refine kX 206 (.agg (aW a0).toArray) r rfl rfl fun b1 w2 n3 r=>?_;obtain ⟨E1,Z2,H1,hB,zB⟩:=n3.all hB
 refine kX 3 (I a1) r rfl rfl fun b4 w5 n6 r=>?_;have H1:=keep n6.below H1
 obtain ⟨E4,Z5,H4,hB,zB⟩:=n6.all hB;refine ai (.cells (af false aJ.zero 0 0 0 0 .nilFunc) 209 (0,0)) r (fun R=>ah ck) rfl fun fr b7 w8 n9 r=>?_;have H1:=keep n9.below H1
 have H4:=keep n9.below H4;obtain ⟨E7,Z8,H7,hB,zB⟩:=n9.all hB;refine wn (wsr (kG (aW a0) 14 r rfl H1 db rfl rfl fun r=>kL (I a1) r rfl H4 to3 rfl rfl fun r=>ac (.func (.func 397) #[] #[zp b1,zp b4]) r (fun R=>aQ r rfl) rfl fun fr r=>?_));have hF1:=cf hF hB.size b7
 have f13:((kW F w0 w8 b7)) b1:=(.inr ⟨kw,kw,kw⟩)
 have f14:((kW F w0 w8 b7)) b4:=(.inr ⟨kw,kw,kw⟩)
 refine kJ r (lT (F:=(kW F w0 w8 b7)) (n:=n) hF1 a0 2 a1 ⟨397,[],[zp b1,zp b4],Ex,rfl,fun m hm _ w' hs hz=>zn (j:=j) (fun b hb=>Nat.lt_of_lt_of_le (hF1 b hb) hz) kw (fun m' hm'=>ih_list_walk_step m' kw) a0 f13 (hs.at_ f13 H1) a1 f14 (hs.at_ f14 H4)⟩) rfl nF rfl fun w10 v11 hb hr12 r=>?_;have Z10:=hb.size
 have H7:=aR hb H7 (by rintro (h | ⟨_,_,h⟩); (have:=hF _ h; omega); exact h rfl)
 have hB:=Chg.aM (Z:=F) hB;have hB:=hB.bi hb (by rintro b hlt (h | ⟨h,_⟩); exact h; omega)
 have zB:=hB.size;refine kP r hr12.shape rfl rfl H7 bV rfl rfl fun w15 u16 r=>?_;have Z15:=u16.size
 have H7:=u16.at_;have hB:=hB.bg u16 (.inl kw)
 have zB:=hB.size;refine wn (wp_ret ?_);have hs:=hr12.shape.cells;refine ak r rfl rfl H7 (k:=20) hs.1 bU ?_;rw [←hs.2.2];exact aq.fin hB hr12 u16 (by rintro b (h | ⟨h1,h2,_⟩); exact .inl h; exact .inr ⟨h1,h2⟩) (by rintro (h | ⟨_,_,h⟩); (have:=hF _ h; omega); exact h rfl) kw kw kw
set_option maxRecDepth 20000 in
set_option maxHeartbeats 8000000 in
theorem xu {r_list_walk_step:Walk→T Walk} (hF:kH F w0) (hj:n<j) (ih_list_walk_step:∀ m,m<n→df r_list_walk_step m)
    (c0:Int) {c0b:Nat} (c0F:F c0b) (c0h:w0.heap[c0b]?=some (.cells ([(.int .u64 c0)]).toArray 36 (0,0))) (c1:Walk) {c1b:Nat} (c1F:F c1b) (c1h:w0.heap[c1b]?=some (.cells ((aW c1)).toArray 206 (0,0))) (a0:Int) :
    Calls Tryz.prog 396 #[.int .i64 a0,zp c0b,zp c1b] w0 (aq Tryz.prog aJ n (D.iD j r_list_walk_step c0 c1 a0) F w0):=by
 refine kN Tryz.func396 rfl 13 rfl rfl fun fr r hB=>?_;have lc0b:=lt_of_block c0h
 have lc1b:=lt_of_block c1h;refine wsr ?_;refine ai (.cells (af false aJ.zero 0 0 0 0 .nilFunc) 209 (0,0)) r (fun R=>ah ck) rfl fun fr b1 w2 n3 r=>?_;have c0h:=keep n3.below c0h
 have c1h:=keep n3.below c1h;obtain ⟨E1,Z2,H1,hB,zB⟩:=n3.all hB;refine wn (wsr (kL (U c0) r rfl c0h to36 rfl rfl fun r=>kF 0 r rfl eI rfl fun r=>?_));refine bd (.cells ((aW ({ c1 with cur:=c0 }))).toArray 206 (0,0)) r (fun R=>aV r (o:=11) (v:=(U c0)) rfl rfl c1h ts36 (Nat.le_of_ble_eq_true rfl) rfl rfl) rfl fun fr w4 u5 r=>?_
 have Z4:=u5.size;have c0h:=u5.keep c0h (iq c0h c1h rfl);have H1:=u5.keep H1 kw
 have c1h:=u5.at_;have hB:=Chg.aM (Z:=F) hB;have hB:=hB.bg u5 (.inr c1F);have zB:=hB.size;obtain ⟨zs6,ezs6⟩:∃ z,z=({ c1 with cur:=c0 }):=⟨_,rfl⟩
 rw [←ezs6] at c1h
 refine wn (wp_seq ?_);refine bK 5 [.val (.agg (aW zs6).toArray),.val (U c0),.val (I (D.aL c0)),.val (.agg (aW zs6).toArray),.val (.func (.func 226) #[(.agg (aW zs6).toArray)] #[])] mixed r kz (kV (kV (kV (kV (kV bJ))))) ?_ ?_
 ·
  refine ec r (fun _ u _ b d s=>aT s (cs:=(aW zs6)) (n:=14) rfl (keep b c1h) db rfl bz) (ec r (fun _ u _ b d s=>av s rfl (keep b c0h) to36 rfl bz) (ec r (fun fr1 u w' hb' hd r'=>aN r' (args:=[(U c0)]) (lc hd.1 l0) fT ((fJ _ c0).mono (by rintro _ w2 ⟨rfl,hb2⟩; exact ⟨_,rfl,hb2,rfl⟩))) (ec r (fun _ u _ b d s=>aT s (cs:=(aW zs6)) (n:=14) rfl (keep b c1h) db rfl bz) (ec r (fun fr1 u w' hb' hd r'=>aQ r' (v:=(.func (.func 226) #[(.agg (aW zs6).toArray)] #[])) (congrArg (fun z=>Value.func (.func 226) #[z] #[]) hd.1) bz) ?_))));exact bL
 intro fr u w7 hb hΦ hne r;have r:=r.congr (sc (hΦ 4 ke) (sc (hΦ 3 ke) (sc (hΦ 2 ke) (sc (hΦ 1 ke) (sc (hΦ 0 ke) rfl)))));have Z7:=hb.size;have c0h:=keep hb c0h;have c1h:=keep hb c1h;have H1:=keep hb H1;have hB:=hB.thenB hb;have zB:=hB.size;have hF1:=cf hF hB.size b1;refine kJ r (lT (F:=(kW F w0 w7 b1)) (n:=n) hF1 zs6 1 (D.aL c0) ⟨226,[(.agg (aW zs6).toArray)],[],qF,rfl,fun m hm _ w' hs hz=>(ih_list_walk_step m kw) _ _ (fun b hb=>Nat.lt_of_lt_of_le (hF1 b hb) hz) zs6⟩) rfl nF rfl fun w8 v9 hb hr10 r=>?_;have Z8:=hb.size
 have H1:=aR hb H1 (by rintro (h | ⟨_,_,h⟩); (have:=hF _ h; omega); exact h rfl)
 have hB:=hB.bi hb (by rintro b hlt (h | ⟨h,_⟩); exact h; omega)
 have zB:=hB.size;refine kP r hr10.shape rfl rfl H1 bV rfl rfl fun w11 u12 r=>?_;have Z11:=u12.size
 have H1:=u12.at_;have hB:=hB.bg u12 (.inl kw)
 have zB:=hB.size;refine wn (wp_ret ?_);have hd:D.iD j r_list_walk_step c0 c1 a0=(D.du zs6 1 (D.aL c0) (fun _=>(r_list_walk_step zs6))):=by subst ezs6; exact rfl
 have hs:=hr10.shape.cells;refine ak r rfl rfl H1 (k:=20) hs.1 bU ?_;rw [←hs.2.2,hd];exact aq.fin hB hr10 u12 (by rintro b (h | ⟨h1,h2,_⟩); exact .inl h; exact .inr ⟨h1,h2⟩) (by rintro (h | ⟨_,_,h⟩); (have:=hF _ h; omega); exact h rfl) kw kw kw
set_option maxRecDepth 20000 in
set_option maxHeartbeats 8000000 in
theorem Ae {r_list_walk_step:Walk→T Walk} (hF:kH F w0) (hj:n<j) (ih_list_walk_step:∀ m,m≤n→df r_list_walk_step m)
    (c0:Seat) {c0b:Nat} (c0F:F c0b) (c0h:w0.heap[c0b]?=some (.cells ((au c0)).toArray 63 (0,0))) (c1:Int) {c1b:Nat} (c1F:F c1b) (c1h:w0.heap[c1b]?=some (.cells ([(.int .i64 c1)]).toArray 3 (0,0))) (c2:Int) {c2b:Nat} (c2F:F c2b) (c2h:w0.heap[c2b]?=some (.cells ([(.int .u64 c2)]).toArray 36 (0,0))) (a0:Int) :
    Calls Tryz.prog 225 #[.int .u64 a0,zp c0b,zp c1b,zp c2b] w0 (aq Tryz.prog aJ n (D.pd j r_list_walk_step c0 c1 c2 a0) F w0):=by
 refine kN Tryz.func225 rfl 13 rfl rfl fun fr r hB=>?_;have lc0b:=lt_of_block c0h
 have lc1b:=lt_of_block c1h;have lc2b:=lt_of_block c2h;refine wsr ?_;refine ai (.cells (af false aJ.zero 0 0 0 0 .nilFunc) 209 (0,0)) r (fun R=>ah ck) rfl fun fr b1 w2 n3 r=>?_;obtain ⟨E1,Z2,H1,hB,zB⟩:=n3.all hB
 refine wn (wsr (kG (au c0) 8 r rfl (keep hB c0h) ta63 rfl rfl fun r=>kL (I c1) r rfl (keep hB c1h) to3 rfl rfl fun r=>kL (U c2) r rfl (keep hB c2h) to36 rfl rfl fun r=>kL (I c1) r rfl (keep hB c1h) to3 rfl rfl fun r=>kM (U a0) r rfl rfl fun r=>kU (.agg (aW (⟨c0,c1,c2,c1,a0,0,false⟩:Walk)).toArray) r kz rfl fun r=>?_));refine kJ r ((ih_list_walk_step n kw) (No) _ (fun _ h=>h.elim) (⟨c0,c1,c2,c1,a0,0,false⟩:Walk)) rfl qF rfl fun w4 v5 hb hr6 r=>?_
 have hb:=hb.below;have Z4:=hb.size;have H1:=keep hb H1;obtain ⟨hB,zB⟩:=bon hb hB;refine kP r hr6.shape rfl rfl H1 bV rfl rfl fun w7 u8 r=>?_;have Z7:=u8.size
 have H1:=u8.at_;obtain ⟨hB,zB⟩:=u8.on hB kw
 refine wn (wp_ret ?_);have hs:=hr6.shape.cells;refine ak r rfl rfl H1 (k:=20) hs.1 bU ?_;rw [←hs.2.2];exact aq.fin (Chg.aM hB) hr6 u8 (fun _ h=>h.elim) (fun h=>h) kw kw kw
set_option maxRecDepth 20000 in
set_option maxHeartbeats 8000000 in
theorem mi {r_list_walk_step:Walk→T Walk} (hF:kH F w0) (hj:n<j) (ih_list_walk_step:∀ m,m<n→df r_list_walk_step m)
    (a0:Seat) (a1:Int) (a2:Int) :
    Calls Tryz.prog 122 #[.agg (au a0).toArray,.int .i64 a1,.int .u64 a2] w0 (aq Tryz.prog aJ n (D.gy j r_list_walk_step a0 a1 a2) F w0):=by
 refine kN Tryz.func122 rfl 15 rfl rfl fun fr r hB=>?_;refine wsr ?_
 refine kX 63 (.agg (au a0).toArray) r rfl rfl fun b1 w2 n3 r=>?_;obtain ⟨E1,Z2,H1,hB,zB⟩:=n3.all hB
 refine kX 3 (I a1) r rfl rfl fun b4 w5 n6 r=>?_;have H1:=keep n6.below H1
 obtain ⟨E4,Z5,H4,hB,zB⟩:=n6.all hB;refine kX 36 (U a2) r rfl rfl fun b7 w8 n9 r=>?_;have H1:=keep n9.below H1
 have H4:=keep n9.below H4;obtain ⟨E7,Z8,H7,hB,zB⟩:=n9.all hB;refine ai (.cells (af false aJ.zero 0 0 0 0 .nilFunc) 209 (0,0)) r (fun R=>ah ck) rfl fun fr b10 w11 n12 r=>?_;have H1:=keep n12.below H1
 have H4:=keep n12.below H4;have H7:=keep n12.below H7;obtain ⟨E10,Z11,H10,hB,zB⟩:=n12.all hB;refine wn (wsr (kF 0 r rfl dq rfl fun r=>kG (ae a0.p) 6 r rfl H1 ta23 rfl rfl fun r=>kF 0 r rfl iz rfl fun r=>kL (I a0.thread) r rfl H1 to3 rfl rfl fun r=>kL (I a1) r rfl H4 to3 rfl rfl fun r=>?_));refine kD r (Ag (j:=j) (F:=No) (n:=n) (fun _ h=>h.elim) kw a0.p a0.thread 1 a1 1 (by first | assumption | decide)) rfl Er rfl fun w13 v14 hb hr15 r=>?_
 have hr15:=hr15.loud;have Z13:=hb.size;have H1:=keep hb H1;have H4:=keep hb H4;have H7:=keep hb H7;have H10:=keep hb H10;obtain ⟨hB,zB⟩:=bon hb hB;refine ac (.func (.func 225) #[] #[zp b1,zp b4,zp b7]) r (fun R=>aQ r rfl) rfl fun fr r=>?_;have hF1:∀ b,(kW F w0 w11 b10) b→b<w13.heap.size:=by rintro b (h | ⟨_,h,_⟩); exact Nat.lt_of_lt_of_le (hF b h) hB.size; exact Nat.lt_of_lt_of_le h kw
 have f19:((kW F w0 w11 b10)) b1:=(.inr ⟨kw,kw,kw⟩)
 have f20:((kW F w0 w11 b10)) b4:=(.inr ⟨kw,kw,kw⟩)
 have f21:((kW F w0 w11 b10)) b7:=(.inr ⟨kw,kw,kw⟩)
 have hF2:=cf hF hB.size b10;refine kJ r (xo (F:=(kW F w0 w13 b10)) (F2:=(kW F w0 w11 b10)) (n:=n) hF2 (by rintro b ⟨h,h'⟩; exact .inr ⟨kw,kw,kw⟩) (by rintro b (h | ⟨h1,h2,h3⟩); exact .inl h; exact .inr ⟨h1,kw,h3⟩) (by rintro b ⟨h1,h2⟩ (h | ⟨h3,h4,_⟩); (have:=hF b h; omega); omega) (RepL.mono (F':=fun b=>w11.heap.size≤b∧b<w13.heap.size) (by rintro b (h | h); exact h.elim; exact h) (Same.refl _ _) (Nat.le_refl _) n _ _ hr15) ⟨225,[],[zp b1,zp b4,zp b7],DY,rfl,fun m hm x w' hs hz=>Ae (j:=j) (fun b hb=>Nat.lt_of_lt_of_le (hF1 b hb) hz) kw (fun m' hm'=>ih_list_walk_step m' kw) a0 f19 (hs.at_ f19 H1) a1 f20 (hs.at_ f20 H4) a2 f21 (hs.at_ f21 H7) x⟩ (by first | rfl | (cases j with | zero=>omega | succ q=>rfl))) rfl vW rfl fun w16 v17 hb hr18 r=>?_
 have Z16:=hb.size;have H10:=aR hb H10 (by rintro (h | ⟨_,_,h⟩); (have:=hF _ h; omega); exact h rfl)
 have hB:=Chg.aM (Z:=F) hB;have hB:=hB.bi hb (by rintro b hlt (h | ⟨h,_⟩); exact h; omega)
 have zB:=hB.size;refine kP r hr18.shape rfl rfl H10 bV rfl rfl fun w22 u23 r=>?_;have Z22:=u23.size
 have H10:=u23.at_;have hB:=hB.bg u23 (.inl kw)
 have zB:=hB.size;refine wn (wp_ret ?_);have hs:=hr18.shape.cells;refine ak r rfl rfl H10 (k:=20) hs.1 bU ?_;rw [←hs.2.2];exact aq.fin hB hr18 u23 (by rintro b (h | ⟨h1,h2,_⟩); exact .inl h; exact .inr ⟨h1,h2⟩) (by rintro (h | ⟨_,_,h⟩); (have:=hF _ h; omega); exact h rfl) kw kw kw
set_option maxRecDepth 20000 in
set_option maxHeartbeats 8000000 in
theorem lQ {r_list_walk_step:Walk→T Walk} (hF:kH F w0) (hj:n<j) (ih_list_walk_step:∀ m,m<n→df r_list_walk_step m)
    (a0:Walk) :
    Calls Tryz.prog 231 #[.agg (aW a0).toArray] w0 (aq Tryz.prog aJ n (D.ep j r_list_walk_step a0) F w0):=by
 refine kN Tryz.func231 rfl 10 rfl rfl fun fr r hB=>?_;refine wsr ?_
 refine kX 206 (.agg (aW a0).toArray) r rfl rfl fun b1 w2 n3 r=>?_;obtain ⟨E1,Z2,H1,hB,zB⟩:=n3.all hB
 refine ai (.cells (af false aJ.zero 0 0 0 0 .nilFunc) 209 (0,0)) r (fun R=>ah ck) rfl fun fr b4 w5 n6 r=>?_;have H1:=keep n6.below H1
 obtain ⟨E4,Z5,H4,hB,zB⟩:=n6.all hB;refine wn (wsr (kF 0 r rfl gH rfl fun r=>kG (au a0.seat) 8 r rfl H1 ta63 rfl rfl fun r=>kF 0 r rfl Cq rfl fun r=>kL (I a0.cell) r rfl H1 to3 rfl rfl fun r=>kF 0 r rfl qf rfl fun r=>kL (U a0.k) r rfl H1 to36 rfl rfl fun r=>?_));refine kJ r (mi (j:=j) (F:=No) (n:=n) (fun _ h=>h.elim) kw (fun m' hm'=>ih_list_walk_step m' kw) a0.seat a0.cell a0.k) rfl nK rfl fun w7 v8 hb hr9 r=>?_
 have hb:=hb.below;have Z7:=hb.size;have H1:=keep hb H1;have H4:=keep hb H4;obtain ⟨hB,zB⟩:=bon hb hB;refine kP r hr9.shape rfl rfl H4 bV rfl rfl fun w10 u11 r=>?_;have Z10:=u11.size
 have H1:=u11.keep H1 kw
 have H4:=u11.at_;obtain ⟨hB,zB⟩:=u11.on hB kw
 refine wn (wp_ret ?_);have hs:=hr9.shape.cells;refine ak r rfl rfl H4 (k:=20) hs.1 bU ?_;rw [←hs.2.2];exact aq.fin (Chg.aM hB) hr9 u11 (fun _ h=>h.elim) (fun h=>h) kw kw kw
set_option maxRecDepth 20000 in
set_option maxHeartbeats 8000000 in
theorem xE {r_list_walk_step:Walk→T Walk} (hF:kH F w0) (hj:n<j) (ih_list_walk_step:∀ m,m<n→df r_list_walk_step m)
    (c0:Walk) {c0b:Nat} (c0F:F c0b) (c0h:w0.heap[c0b]?=some (.cells ((aW c0)).toArray 206 (0,0))) (c1:Int) {c1b:Nat} (c1F:F c1b) (c1h:w0.heap[c1b]?=some (.cells ([(.int .i64 c1)]).toArray 3 (0,0))) (c2:Int) {c2b:Nat} (c2F:F c2b) (c2h:w0.heap[c2b]?=some (.cells ([(.int .u64 c2)]).toArray 36 (0,0))) (a0:Bool) :
    Calls Tryz.prog 394 #[.bool a0,zp c0b,zp c1b,zp c2b] w0 (aq Tryz.prog aJ n (D.jt j r_list_walk_step c0 c1 c2 a0) F w0):=by
 refine kN Tryz.func394 rfl 20 rfl rfl fun fr r hB=>?_;have lc0b:=lt_of_block c0h
 have lc1b:=lt_of_block c1h;have lc2b:=lt_of_block c2h;refine wsr ?_;refine ai (.cells (af false aJ.zero 0 0 0 0 .nilFunc) 209 (0,0)) r (fun R=>ah ck) rfl fun fr b1 w2 n3 r=>?_;have c0h:=keep n3.below c0h
 have c1h:=keep n3.below c1h;have c2h:=keep n3.below c2h;obtain ⟨E1,Z2,H1,hB,zB⟩:=n3.all hB;refine wn (wp_seq (wsr (kM (.bool a0) r rfl rfl fun r=>ac (.bool (!a0)) r (fun R=>y_un r (u:=(.bool a0)) rfl rfl) rfl fun fr r=>wn ?_)));refine wp_cond_split (t:=(!a0)) (r.ev rfl) (fun h4=>?_) (fun h4=>?_)
 ·
  refine wsr (kG (aW c0) 14 r rfl c0h db rfl rfl fun r=>?_);refine kJ r (lQ (j:=j) (F:=No) (n:=n) (fun _ h=>h.elim) kw (fun m' hm'=>ih_list_walk_step m' kw) c0) rfl nH rfl fun w5 v6 hb hr7 r=>?_
  have hb:=hb.below;have Z5:=hb.size;have c0h:=keep hb c0h;have c1h:=keep hb c1h;have c2h:=keep hb c2h;have H1:=keep hb H1;obtain ⟨hB,zB⟩:=bon hb hB;refine kP r hr7.shape rfl rfl H1 bV rfl rfl fun w8 u9 r=>?_;have Z8:=u9.size
  have c0h:=u9.keep c0h kw
  have c1h:=u9.keep c1h kw
  have c2h:=u9.keep c2h kw
  have H1:=u9.at_;obtain ⟨hB,zB⟩:=u9.on hB kw
  refine wn (wp_ret ?_);have hd:D.jt j r_list_walk_step c0 c1 c2 a0=(D.ep j r_list_walk_step c0):=(aB h4).trans (rfl);have hs:=hr7.shape.cells;refine ak r rfl rfl H1 (k:=20) hs.1 bU ?_;rw [←hs.2.2,hd];exact aq.fin (Chg.aM hB) hr7 u9 (fun _ h=>h.elim) (fun h=>h) kw kw kw
 refine wp_skip (wsr (kF 0 r rfl gH rfl fun r=>kF 0 r rfl dq rfl fun r=>kG (ae c0.seat.p) 6 r rfl c0h ta23 rfl rfl fun r=>kF 0 r rfl gH rfl fun r=>kF 0 r rfl iz rfl fun r=>kL (I c0.seat.thread) r rfl c0h to3 rfl rfl fun r=>kL (I c1) r rfl c1h to3 rfl rfl fun r=>?_));refine kD r (sJ (j:=j) (F:=No) (n:=n) (fun _ h=>h.elim) kw c0.seat.p c0.seat.thread c1) rfl cl82 rfl fun w10 v11 hb hr12 r=>?_
 have hr12:=hr12.loud;have Z10:=hb.size;have c0h:=keep hb c0h;have c1h:=keep hb c1h;have c2h:=keep hb c2h;have H1:=keep hb H1;obtain ⟨hB,zB⟩:=bon hb hB;refine ac (.func (.func 396) #[] #[zp c2b,zp c0b]) r (fun R=>aQ r rfl) rfl fun fr r=>?_;have hF1:∀ b,(kW F w0 w2 b1) b→b<w10.heap.size:=by rintro b (h | ⟨_,h,_⟩); exact Nat.lt_of_lt_of_le (hF b h) hB.size; exact Nat.lt_of_lt_of_le h kw
 have f16:((kW F w0 w2 b1)) c2b:=(.inl c2F);have f17:((kW F w0 w2 b1)) c0b:=(.inl c0F);have hF2:=cf hF hB.size b1;refine kJ r (xB (F:=(kW F w0 w10 b1)) (F2:=(kW F w0 w2 b1)) (n:=n) hF2 (by rintro b ⟨h,h'⟩; exact .inr ⟨kw,kw,kw⟩) (by rintro b (h | ⟨h1,h2,h3⟩); exact .inl h; exact .inr ⟨h1,kw,h3⟩) (by rintro b ⟨h1,h2⟩ (h | ⟨h3,h4,_⟩); (have:=hF b h; omega); omega) (RepL.mono (F':=fun b=>w2.heap.size≤b∧b<w10.heap.size) (by rintro b (h | h); exact h.elim; exact h) (Same.refl _ _) (Nat.le_refl _) n _ _ hr12) ⟨396,[],[zp c2b,zp c0b],Fh,rfl,fun m hm x w' hs hz=>xu (j:=j) (fun b hb=>Nat.lt_of_lt_of_le (hF1 b hb) hz) kw (fun m' hm'=>ih_list_walk_step m' kw) c2 f16 (hs.at_ f16 c2h) c0 f17 (hs.at_ f17 c0h) x⟩) rfl wT rfl fun w13 v14 hb hr15 r=>?_
 have Z13:=hb.size;have H1:=aR hb H1 (by rintro (h | ⟨_,_,h⟩); (have:=hF _ h; omega); exact h rfl)
 have hB:=Chg.aM (Z:=F) hB;have hB:=hB.bi hb (by rintro b hlt (h | ⟨h,_⟩); exact h; omega)
 have zB:=hB.size;refine kP r hr15.shape rfl rfl H1 bV rfl rfl fun w18 u19 r=>?_;have Z18:=u19.size
 have H1:=u19.at_;have hB:=hB.bg u19 (.inl kw)
 have zB:=hB.size;refine wn (wp_ret ?_);have hd:D.jt j r_list_walk_step c0 c1 c2 a0=(T.bind (D.eZ j c0.seat.p c0.seat.thread c1) (fun x=>(D.iD j r_list_walk_step c2 c0 x))):=(aD h4).trans (rfl)
 have hs:=hr15.shape.cells;refine ak r rfl rfl H1 (k:=20) hs.1 bU ?_;rw [←hs.2.2,hd];exact aq.fin hB hr15 u19 (by rintro b (h | ⟨h1,h2,_⟩); exact .inl h; exact .inr ⟨h1,h2⟩) (by rintro (h | ⟨_,_,h⟩); (have:=hF _ h; omega); exact h rfl) kw kw kw
set_option maxRecDepth 20000 in
set_option maxHeartbeats 8000000 in
theorem xY {r_list_walk_step:Walk→T Walk} (hF:kH F w0) (hj:n<j) (ih_list_walk_step:∀ m,m<n→df r_list_walk_step m)
    (a0:Walk) (a1:Int) :
    Calls Tryz.prog 371 #[.agg (aW a0).toArray,.int .i64 a1] w0 (aq Tryz.prog aJ n (D.lD j r_list_walk_step a0 a1) F w0):=by
 refine kN Tryz.func371 rfl 16 rfl rfl fun fr r hB=>?_;refine wsr ?_
 refine kX 206 (.agg (aW a0).toArray) r rfl rfl fun b1 w2 n3 r=>?_;obtain ⟨E1,Z2,H1,hB,zB⟩:=n3.all hB
 refine kX 3 (I a1) r rfl rfl fun b4 w5 n6 r=>?_;have H1:=keep n6.below H1
 obtain ⟨E4,Z5,H4,hB,zB⟩:=n6.all hB;refine ai (.cells (af false aJ.zero 0 0 0 0 .nilFunc) 209 (0,0)) r (fun R=>ah ck) rfl fun fr b7 w8 n9 r=>?_;have H1:=keep n9.below H1
 have H4:=keep n9.below H4;obtain ⟨E7,Z8,H7,hB,zB⟩:=n9.all hB;refine wn (wsr (kF 0 r rfl gD rfl fun r=>kL (U a0.next) r rfl H1 to36 rfl rfl fun r=>kB r rfl rfl rfl rfl rfl fun r=>?_));refine ai (.cells #[(U 0)] 36 (0,0)) r (fun R=>ah tz36) rfl fun fr b10 w11 n12 r=>?_
 have H1:=keep n12.below H1;have H4:=keep n12.below H4;have H7:=keep n12.below H7;obtain ⟨E10,Z11,H10,hB,zB⟩:=n12.all hB;refine bd (.cells #[(U (cj .u64 a0.next 1))] 36 (0,0)) r (fun R=>aV r (o:=0) (v:=(U (cj .u64 a0.next 1))) rfl rfl H10 ts36 (Nat.le_of_ble_eq_true rfl) rfl rfl) rfl fun fr w13 u14 r=>?_;have Z13:=u14.size
 have H1:=u14.keep H1 kw
 have H4:=u14.keep H4 kw
 have H7:=u14.keep H7 kw
 have H10:=u14.at_;obtain ⟨hB,zB⟩:=u14.on hB kw
 refine wn (wsr (kF 0 r rfl kY rfl fun r=>kL (I a0.place) r rfl H1 to3 rfl rfl fun r=>kF 0 r rfl eI rfl fun r=>kL (U a0.cur) r rfl H1 to36 rfl rfl fun r=>kL (U (cj .u64 a0.next 1)) r rfl H10 to36 rfl rfl fun r=>ac (.func (.func 394) #[] #[zp b1,zp b4,zp b10]) r (fun R=>aQ r rfl) rfl fun fr r=>?_));have hF1:=cf hF hB.size b7
 have f18:((kW F w0 w13 b7)) b1:=(.inr ⟨kw,kw,kw⟩)
 have f19:((kW F w0 w13 b7)) b4:=(.inr ⟨kw,kw,kw⟩)
 have f20:((kW F w0 w13 b7)) b10:=(.inr ⟨kw,kw,kw⟩)
 refine kJ r (zt (F:=(kW F w0 w13 b7)) (n:=n) hF1 a0.place a0.cur (cj .u64 a0.next 1) ⟨394,[],[zp b1,zp b4,zp b10],EA,rfl,fun m hm x w' hs hz=>xE (j:=j) (fun b hb=>Nat.lt_of_lt_of_le (hF1 b hb) hz) kw (fun m' hm'=>ih_list_walk_step m' kw) a0 f18 (hs.at_ f18 H1) a1 f19 (hs.at_ f19 H4) (cj .u64 a0.next 1) f20 (hs.at_ f20 H10) x⟩) rfl FV rfl fun w15 v16 hb hr17 r=>?_;have Z15:=hb.size
 have H7:=aR hb H7 (by rintro (h | ⟨_,_,h⟩); (have:=hF _ h; omega); exact h rfl)
 have hB:=Chg.aM (Z:=F) hB;have hB:=hB.bi hb (by rintro b hlt (h | ⟨h,_⟩); exact h; omega)
 have zB:=hB.size;refine kP r hr17.shape rfl rfl H7 bV rfl rfl fun w21 u22 r=>?_;have Z21:=u22.size
 have H7:=u22.at_;have hB:=hB.bg u22 (.inl kw)
 have zB:=hB.size;refine wn (wp_ret ?_);have hs:=hr17.shape.cells;refine ak r rfl rfl H7 (k:=20) hs.1 bU ?_;rw [←hs.2.2];exact aq.fin hB hr17 u22 (by rintro b (h | ⟨h1,h2,_⟩); exact .inl h; exact .inr ⟨h1,h2⟩) (by rintro (h | ⟨_,_,h⟩); (have:=hF _ h; omega); exact h rfl) kw kw kw
set_option maxRecDepth 20000 in
set_option maxHeartbeats 8000000 in
theorem xL {r_list_walk_step:Walk→T Walk} (hF:kH F w0) (hj:n<j) (ih_list_walk_step:∀ m,m<n→df r_list_walk_step m)
    (c0:Walk) {c0b:Nat} (c0F:F c0b) (c0h:w0.heap[c0b]?=some (.cells ((aW c0)).toArray 206 (0,0))) (c1:Int) {c1b:Nat} (c1F:F c1b) (c1h:w0.heap[c1b]?=some (.cells ([(.int .i64 c1)]).toArray 3 (0,0))) (c2:Int) {c2b:Nat} (c2F:F c2b) (c2h:w0.heap[c2b]?=some (.cells ([(.int .u64 c2)]).toArray 36 (0,0))) (a0:Int) :
    Calls Tryz.prog 370 #[.int .u64 a0,zp c0b,zp c1b,zp c2b] w0 (aq Tryz.prog aJ n (D.fA j r_list_walk_step c0 c1 c2 a0) F w0):=by
 refine kN Tryz.func370 rfl 36 rfl rfl fun fr r hB=>?_;have lc0b:=lt_of_block c0h
 have lc1b:=lt_of_block c1h;have lc2b:=lt_of_block c2h;refine wsr ?_;refine ai (.cells (af false aJ.zero 0 0 0 0 .nilFunc) 209 (0,0)) r (fun R=>ah ck) rfl fun fr b1 w2 n3 r=>?_;have c0h:=keep n3.below c0h
 have c1h:=keep n3.below c1h;have c2h:=keep n3.below c2h;obtain ⟨E1,Z2,H1,hB,zB⟩:=n3.all hB;refine wn (wp_seq (wp_block (wsr (kM (U a0) r rfl rfl fun r=>kF 0 r rfl eI rfl fun r=>kL (U c0.cur) r rfl c0h to36 rfl rfl fun r=>kB r rfl rfl rfl rfl rfl fun r=>kA (.bool (a0 !=c0.cur)) r rfl rfl fun r=>wn ?_))));refine wp_cond_split (t:=(a0 !=c0.cur)) (r.ev rfl) (fun h4=>?_) (fun h4=>?_)
 ·
  refine wsr (kG (aW c0) 14 r rfl c0h db rfl rfl fun r=>?_);refine kJ r (lQ (j:=j) (F:=No) (n:=n) (fun _ h=>h.elim) kw (fun m' hm'=>ih_list_walk_step m' kw) c0) rfl nH rfl fun w5 v6 hb hr7 r=>?_
  have hb:=hb.below;have Z5:=hb.size;have c0h:=keep hb c0h;have c1h:=keep hb c1h;have c2h:=keep hb c2h;have H1:=keep hb H1;obtain ⟨hB,zB⟩:=bon hb hB;refine kP r hr7.shape rfl rfl H1 bV rfl rfl fun w8 u9 r=>?_;have Z8:=u9.size
  have c0h:=u9.keep c0h kw
  have c1h:=u9.keep c1h kw
  have c2h:=u9.keep c2h kw
  have H1:=u9.at_;obtain ⟨hB,zB⟩:=u9.on hB kw
  refine wn (wp_ret ?_);have hd:D.fA j r_list_walk_step c0 c1 c2 a0=(D.ep j r_list_walk_step c0):=(aB h4).trans (rfl);have hs:=hr7.shape.cells;refine ak r rfl rfl H1 (k:=20) hs.1 bU ?_;rw [←hs.2.2,hd];exact aq.fin (Chg.aM hB) hr7 u9 (fun _ h=>h.elim) (fun h=>h) kw kw kw
 refine wsr (kF 0 r rfl gD rfl fun r=>kL (U c0.next) r rfl c0h to36 rfl rfl fun r=>kB r rfl rfl rfl rfl rfl fun r=>kB r rfl rfl rfl rfl rfl fun r=>kA (.bool ((co .u64 c0.next 1) !=0)) r rfl rfl fun r=>wn ?_);refine wp_cond_split (t:=((co .u64 c0.next 1) !=0)) (r.ev rfl) (fun h10=>?_) (fun h10=>?_)
 ·
  refine wsr (kG (aW c0) 14 r rfl c0h db rfl rfl fun r=>kL (I c1) r rfl c1h to3 rfl rfl fun r=>?_);refine kJ r (xY (j:=j) (F:=No) (n:=n) (fun _ h=>h.elim) kw (fun m' hm'=>ih_list_walk_step m' kw) c0 c1) rfl Fs rfl fun w11 v12 hb hr13 r=>?_
  have hb:=hb.below;have Z11:=hb.size;have c0h:=keep hb c0h;have c1h:=keep hb c1h;have c2h:=keep hb c2h;have H1:=keep hb H1;obtain ⟨hB,zB⟩:=bon hb hB;refine kP r hr13.shape rfl rfl H1 bV rfl rfl fun w14 u15 r=>?_;have Z14:=u15.size
  have c0h:=u15.keep c0h kw
  have c1h:=u15.keep c1h kw
  have c2h:=u15.keep c2h kw
  have H1:=u15.at_;obtain ⟨hB,zB⟩:=u15.on hB kw
  refine wn (wp_ret ?_);have hd:D.fA j r_list_walk_step c0 c1 c2 a0=(D.lD j r_list_walk_step c0 c1):=(aD h4).trans ((aB h10).trans (rfl));have hs:=hr13.shape.cells;refine ak r rfl rfl H1 (k:=20) hs.1 bU ?_;rw [←hs.2.2,hd];exact aq.fin (Chg.aM hB) hr13 u15 (fun _ h=>h.elim) (fun h=>h) kw kw kw
 refine wsr (kL (U c2) r rfl c2h to36 rfl rfl fun r=>kF 0 r rfl qf rfl fun r=>kL (U c0.k) r rfl c0h to36 rfl rfl fun r=>kB r rfl rfl rfl rfl rfl fun r=>kA (.bool (decide (c2≥c0.k))) r rfl rfl fun r=>wn ?_);refine wp_cond_split (t:=(decide (c2≥c0.k))) (r.ev rfl) (fun h16=>?_) (fun h16=>?_)
 ·
  refine wsr (kL (U c2) r rfl c2h to36 rfl rfl fun r=>kF 0 r rfl qf rfl fun r=>kL (U c0.k) r rfl c0h to36 rfl rfl fun r=>kB r rfl rfl rfl rfl rfl fun r=>kF 0 r rfl l5 rfl fun r=>?_);refine bd (.cells ((aW ({ c0 with there:=(c2==c0.k) }))).toArray 206 (0,0)) r (fun R=>aV r (o:=13) (v:=(.bool (c2==c0.k))) rfl rfl c0h ts4 (Nat.le_of_ble_eq_true rfl) rfl rfl) rfl fun fr w17 u18 r=>?_
  have Z17:=u18.size;have c1h:=u18.keep c1h (iq c1h c0h rfl);have c2h:=u18.keep c2h (iq c2h c0h rfl);have H1:=u18.keep H1 kw
  have c0h:=u18.at_;have hB:=Chg.aM (Z:=F) hB;have hB:=hB.bg u18 (.inr c0F);have zB:=hB.size;obtain ⟨zs19,ezs19⟩:∃ z,z=({ c0 with there:=(c2==c0.k) }):=⟨_,rfl⟩
  rw [←ezs19] at c0h
  refine wn (wsr (kG (aW zs19) 14 r rfl c0h db rfl rfl fun r=>?_));refine kJ r (rZ (F:=No) (n:=n) (fun _ h=>h.elim) zs19) rfl xb rfl fun w20 v21 hb hr22 r=>?_
  have hb:=hb.below;have Z20:=hb.size;have c0h:=keep hb c0h;have c1h:=keep hb c1h;have c2h:=keep hb c2h;have H1:=keep hb H1;have hB:=hB.thenB hb;have zB:=hB.size;refine kP r hr22.shape rfl rfl H1 bV rfl rfl fun w23 u24 r=>?_;have Z23:=u24.size
  have c0h:=u24.keep c0h kw
  have c1h:=u24.keep c1h kw
  have c2h:=u24.keep c2h kw
  have H1:=u24.at_;have hB:=hB.bg u24 (.inl kw)
  have zB:=hB.size;refine wn (wp_ret ?_);have hd:D.fA j r_list_walk_step c0 c1 c2 a0=(D.iK zs19):=by subst ezs19; exact (aD h4).trans ((aD h10).trans ((aB h16).trans (rfl)))
  have hs:=hr22.shape.cells;refine ak r rfl rfl H1 (k:=20) hs.1 bU ?_;rw [←hs.2.2,hd];exact aq.fin hB hr22 u24 (fun _ h=>h.elim) (fun h=>h) kw kw kw
 refine wp_skip (wsr (kG (aW c0) 14 r rfl c0h db rfl rfl fun r=>kL (I c1) r rfl c1h to3 rfl rfl fun r=>?_));refine kJ r (zJ (j:=j) (F:=No) (n:=n) (fun _ h=>h.elim) kw (fun m' hm'=>ih_list_walk_step m' kw) c0 c1) rfl Ea rfl fun w25 v26 hb hr27 r=>?_
 have hb:=hb.below;have Z25:=hb.size;have c0h:=keep hb c0h;have c1h:=keep hb c1h;have c2h:=keep hb c2h;have H1:=keep hb H1;obtain ⟨hB,zB⟩:=bon hb hB;refine kP r hr27.shape rfl rfl H1 bV rfl rfl fun w28 u29 r=>?_;have Z28:=u29.size
 have c0h:=u29.keep c0h kw
 have c1h:=u29.keep c1h kw
 have c2h:=u29.keep c2h kw
 have H1:=u29.at_;obtain ⟨hB,zB⟩:=u29.on hB kw
 refine wn (wp_ret ?_);have hd:D.fA j r_list_walk_step c0 c1 c2 a0=(D.gp j r_list_walk_step c0 c1):=(aD h4).trans ((aD h10).trans ((aD h16).trans (rfl)));have hs:=hr27.shape.cells;refine ak r rfl rfl H1 (k:=20) hs.1 bU ?_;rw [←hs.2.2,hd];exact aq.fin (Chg.aM hB) hr27 u29 (fun _ h=>h.elim) (fun h=>h) kw kw kw
set_option maxRecDepth 20000 in
set_option maxHeartbeats 8000000 in
theorem yw {r_list_walk_step:Walk→T Walk} (hF:kH F w0) (hj:n<j) (ih_list_walk_step:∀ m,m<n→df r_list_walk_step m)
    (c0:Walk) {c0b:Nat} (c0F:F c0b) (c0h:w0.heap[c0b]?=some (.cells ((aW c0)).toArray 206 (0,0))) (c1:Int) {c1b:Nat} (c1F:F c1b) (c1h:w0.heap[c1b]?=some (.cells ([(.int .i64 c1)]).toArray 3 (0,0))) (a0:Int) :
    Calls Tryz.prog 369 #[.int .u64 a0,zp c0b,zp c1b] w0 (aq Tryz.prog aJ n (D.gb j r_list_walk_step c0 c1 a0) F w0):=by
 refine kN Tryz.func369 rfl 9 rfl rfl fun fr r hB=>?_;have lc0b:=lt_of_block c0h
 have lc1b:=lt_of_block c1h;refine wsr ?_;refine kX 36 (U a0) r rfl rfl fun b1 w2 n3 r=>?_;have c0h:=keep n3.below c0h
 have c1h:=keep n3.below c1h;obtain ⟨E1,Z2,H1,hB,zB⟩:=n3.all hB;refine ai (.cells (af false aJ.zero 0 0 0 0 .nilFunc) 209 (0,0)) r (fun R=>ah ck) rfl fun fr b4 w5 n6 r=>?_;have c0h:=keep n6.below c0h
 have c1h:=keep n6.below c1h;have H1:=keep n6.below H1;obtain ⟨E4,Z5,H4,hB,zB⟩:=n6.all hB;refine wn (wsr (kF 0 r rfl kY rfl fun r=>kL (I c0.place) r rfl c0h to3 rfl rfl fun r=>ac (.func (.func 370) #[] #[zp c0b,zp c1b,zp b1]) r (fun R=>aQ r rfl) rfl fun fr r=>?_));have hF1:=cf hF hB.size b4
 have f10:((kW F w0 w5 b4)) c0b:=(.inl c0F);have f11:((kW F w0 w5 b4)) c1b:=(.inl c1F);have f12:((kW F w0 w5 b4)) b1:=(.inr ⟨kw,kw,kw⟩)
 refine kJ r (lH (F:=(kW F w0 w5 b4)) (n:=n) hF1 c0.place ⟨370,[],[zp c0b,zp c1b,zp b1],FX,rfl,fun m hm x w' hs hz=>xL (j:=j) (fun b hb=>Nat.lt_of_lt_of_le (hF1 b hb) hz) kw (fun m' hm'=>ih_list_walk_step m' kw) c0 f10 (hs.at_ f10 c0h) c1 f11 (hs.at_ f11 c1h) a0 f12 (hs.at_ f12 H1) x⟩) rfl nG rfl fun w7 v8 hb hr9 r=>?_;have Z7:=hb.size
 have H4:=aR hb H4 (by rintro (h | ⟨_,_,h⟩); (have:=hF _ h; omega); exact h rfl)
 have hB:=Chg.aM (Z:=F) hB;have hB:=hB.bi hb (by rintro b hlt (h | ⟨h,_⟩); exact h; omega)
 have zB:=hB.size;refine kP r hr9.shape rfl rfl H4 bV rfl rfl fun w13 u14 r=>?_;have Z13:=u14.size
 have H4:=u14.at_;have hB:=hB.bg u14 (.inl kw)
 have zB:=hB.size;refine wn (wp_ret ?_);have hs:=hr9.shape.cells;refine ak r rfl rfl H4 (k:=20) hs.1 bU ?_;rw [←hs.2.2];exact aq.fin hB hr9 u14 (by rintro b (h | ⟨h1,h2,_⟩); exact .inl h; exact .inr ⟨h1,h2⟩) (by rintro (h | ⟨_,_,h⟩); (have:=hF _ h; omega); exact h rfl) kw kw kw
set_option maxRecDepth 20000 in
set_option maxHeartbeats 8000000 in
theorem yZ {r_list_walk_step:Walk→T Walk} (hF:kH F w0) (hj:n<j) (ih_list_walk_step:∀ m,m<n→df r_list_walk_step m)
    (a0:Walk) (a1:Int) :
    Calls Tryz.prog 325 #[.agg (aW a0).toArray,.int .i64 a1] w0 (aq Tryz.prog aJ n (D.eT j r_list_walk_step a0 a1) F w0):=by
 refine kN Tryz.func325 rfl 12 rfl rfl fun fr r hB=>?_;refine wsr ?_
 refine kX 206 (.agg (aW a0).toArray) r rfl rfl fun b1 w2 n3 r=>?_;obtain ⟨E1,Z2,H1,hB,zB⟩:=n3.all hB
 refine kX 3 (I a1) r rfl rfl fun b4 w5 n6 r=>?_;have H1:=keep n6.below H1
 obtain ⟨E4,Z5,H4,hB,zB⟩:=n6.all hB;refine ai (.cells (af false aJ.zero 0 0 0 0 .nilFunc) 209 (0,0)) r (fun R=>ah ck) rfl fun fr b7 w8 n9 r=>?_;have H1:=keep n9.below H1
 have H4:=keep n9.below H4;obtain ⟨E7,Z8,H7,hB,zB⟩:=n9.all hB;refine wn (wsr (kF 0 r rfl gH rfl fun r=>kF 0 r rfl dq rfl fun r=>kG (ae a0.seat.p) 6 r rfl H1 ta23 rfl rfl fun r=>kL (I a1) r rfl H4 to3 rfl rfl fun r=>?_));refine kE r (dL w8 a0.seat.p a1 0) rfl cl85 rfl fun w10 hb r=>?_
 have Z10:=hb.size;have H1:=keep hb H1;have H4:=keep hb H4;have H7:=keep hb H7;obtain ⟨hB,zB⟩:=bon hb hB;refine ac (.func (.func 369) #[] #[zp b1,zp b4]) r (fun R=>aQ r rfl) rfl fun fr r=>?_;have hF1:=cf hF hB.size b7
 have f14:((kW F w0 w10 b7)) b1:=(.inr ⟨kw,kw,kw⟩)
 have f15:((kW F w0 w10 b7)) b4:=(.inr ⟨kw,kw,kw⟩)
 refine kJ r (lH (F:=(kW F w0 w10 b7)) (n:=n) hF1 (D.aS a0.seat.p a1 0) ⟨369,[],[zp b1,zp b4],EW,rfl,fun m hm x w' hs hz=>yw (j:=j) (fun b hb=>Nat.lt_of_lt_of_le (hF1 b hb) hz) kw (fun m' hm'=>ih_list_walk_step m' kw) a0 f14 (hs.at_ f14 H1) a1 f15 (hs.at_ f15 H4) x⟩) rfl nG rfl fun w11 v12 hb hr13 r=>?_;have Z11:=hb.size
 have H7:=aR hb H7 (by rintro (h | ⟨_,_,h⟩); (have:=hF _ h; omega); exact h rfl)
 have hB:=Chg.aM (Z:=F) hB;have hB:=hB.bi hb (by rintro b hlt (h | ⟨h,_⟩); exact h; omega)
 have zB:=hB.size;refine kP r hr13.shape rfl rfl H7 bV rfl rfl fun w16 u17 r=>?_;have Z16:=u17.size
 have H7:=u17.at_;have hB:=hB.bg u17 (.inl kw)
 have zB:=hB.size;refine wn (wp_ret ?_);have hs:=hr13.shape.cells;refine ak r rfl rfl H7 (k:=20) hs.1 bU ?_;rw [←hs.2.2];exact aq.fin hB hr13 u17 (by rintro b (h | ⟨h1,h2,_⟩); exact .inl h; exact .inr ⟨h1,h2⟩) (by rintro (h | ⟨_,_,h⟩); (have:=hF _ h; omega); exact h rfl) kw kw kw
set_option maxRecDepth 20000 in
set_option maxHeartbeats 8000000 in
theorem xI {r_list_walk_step:Walk→T Walk} (hF:kH F w0) (hj:n<j) (ih_list_walk_step:∀ m,m<n→df r_list_walk_step m)
    (c0:Int) {c0b:Nat} (c0F:F c0b) (c0h:w0.heap[c0b]?=some (.cells ([(.int .u64 c0)]).toArray 36 (0,0))) (c1:Walk) {c1b:Nat} (c1F:F c1b) (c1h:w0.heap[c1b]?=some (.cells ((aW c1)).toArray 206 (0,0))) (c2:Int) {c2b:Nat} (c2F:F c2b) (c2h:w0.heap[c2b]?=some (.cells ([(.int .i64 c2)]).toArray 3 (0,0))) (a0:Int) :
    Calls Tryz.prog 324 #[.int .u64 a0,zp c0b,zp c1b,zp c2b] w0 (aq Tryz.prog aJ n (D.gT j r_list_walk_step c0 c1 c2 a0) F w0):=by
 refine kN Tryz.func324 rfl 16 rfl rfl fun fr r hB=>?_;have lc0b:=lt_of_block c0h
 have lc1b:=lt_of_block c1h;have lc2b:=lt_of_block c2h;refine wsr ?_;refine ai (.cells (af false aJ.zero 0 0 0 0 .nilFunc) 209 (0,0)) r (fun R=>ah ck) rfl fun fr b1 w2 n3 r=>?_;have c0h:=keep n3.below c0h
 have c1h:=keep n3.below c1h;have c2h:=keep n3.below c2h;obtain ⟨E1,Z2,H1,hB,zB⟩:=n3.all hB;refine wn (wp_seq (wsr (kM (U a0) r rfl rfl fun r=>kL (U c0) r rfl c0h to36 rfl rfl fun r=>kB r rfl rfl rfl rfl rfl fun r=>wn ?_)));refine wp_cond_split (t:=(a0 !=c0)) (r.ev rfl) (fun h4=>?_) (fun h4=>?_)
 ·
  refine wsr (kG (aW c1) 14 r rfl c1h db rfl rfl fun r=>?_);refine kJ r (lQ (j:=j) (F:=No) (n:=n) (fun _ h=>h.elim) kw (fun m' hm'=>ih_list_walk_step m' kw) c1) rfl nH rfl fun w5 v6 hb hr7 r=>?_
  have hb:=hb.below;have Z5:=hb.size;have c0h:=keep hb c0h;have c1h:=keep hb c1h;have c2h:=keep hb c2h;have H1:=keep hb H1;obtain ⟨hB,zB⟩:=bon hb hB;refine kP r hr7.shape rfl rfl H1 bV rfl rfl fun w8 u9 r=>?_;have Z8:=u9.size
  have c0h:=u9.keep c0h kw
  have c1h:=u9.keep c1h kw
  have c2h:=u9.keep c2h kw
  have H1:=u9.at_;obtain ⟨hB,zB⟩:=u9.on hB kw
  refine wn (wp_ret ?_);have hd:D.gT j r_list_walk_step c0 c1 c2 a0=(D.ep j r_list_walk_step c1):=(aB h4).trans (rfl);have hs:=hr7.shape.cells;refine ak r rfl rfl H1 (k:=20) hs.1 bU ?_;rw [←hs.2.2,hd];exact aq.fin (Chg.aM hB) hr7 u9 (fun _ h=>h.elim) (fun h=>h) kw kw kw
 refine wp_skip (wsr (kL (U c0) r rfl c0h to36 rfl rfl fun r=>kF 0 r rfl gD rfl fun r=>?_));refine bd (.cells ((aW ({ c1 with next:=c0 }))).toArray 206 (0,0)) r (fun R=>aV r (o:=12) (v:=(U c0)) rfl rfl c1h ts36 (Nat.le_of_ble_eq_true rfl) rfl rfl) rfl fun fr w10 u11 r=>?_
 have Z10:=u11.size;have c0h:=u11.keep c0h (iq c0h c1h rfl);have c2h:=u11.keep c2h (iq c2h c1h rfl);have H1:=u11.keep H1 kw
 have c1h:=u11.at_;have hB:=Chg.aM (Z:=F) hB;have hB:=hB.bg u11 (.inr c1F);have zB:=hB.size;obtain ⟨zs12,ezs12⟩:∃ z,z=({ c1 with next:=c0 }):=⟨_,rfl⟩
 rw [←ezs12] at c1h
 refine wn (wsr (kG (aW zs12) 14 r rfl c1h db rfl rfl fun r=>kL (I c2) r rfl c2h to3 rfl rfl fun r=>?_));refine kJ r (yZ (j:=j) (F:=No) (n:=n) (fun _ h=>h.elim) kw (fun m' hm'=>ih_list_walk_step m' kw) zs12 c2) rfl Fl rfl fun w13 v14 hb hr15 r=>?_
 have hb:=hb.below;have Z13:=hb.size;have c0h:=keep hb c0h;have c1h:=keep hb c1h;have c2h:=keep hb c2h;have H1:=keep hb H1;have hB:=hB.thenB hb;have zB:=hB.size;refine kP r hr15.shape rfl rfl H1 bV rfl rfl fun w16 u17 r=>?_;have Z16:=u17.size
 have c0h:=u17.keep c0h kw
 have c1h:=u17.keep c1h kw
 have c2h:=u17.keep c2h kw
 have H1:=u17.at_;have hB:=hB.bg u17 (.inl kw)
 have zB:=hB.size;refine wn (wp_ret ?_);have hd:D.gT j r_list_walk_step c0 c1 c2 a0=(D.eT j r_list_walk_step zs12 c2):=by subst ezs12; exact (aD h4).trans (rfl)
 have hs:=hr15.shape.cells;refine ak r rfl rfl H1 (k:=20) hs.1 bU ?_;rw [←hs.2.2,hd];exact aq.fin hB hr15 u17 (fun _ h=>h.elim) (fun h=>h) kw kw kw
set_option maxRecDepth 20000 in
set_option maxHeartbeats 8000000 in
theorem xV {r_list_walk_step:Walk→T Walk} (hF:kH F w0) (hj:n<j) (ih_list_walk_step:∀ m,m<n→df r_list_walk_step m)
    (c0:Int) {c0b:Nat} (c0F:F c0b) (c0h:w0.heap[c0b]?=some (.cells ([(.int .i64 c0)]).toArray 3 (0,0))) (c1:Int) {c1b:Nat} (c1F:F c1b) (c1h:w0.heap[c1b]?=some (.cells ([(.int .u64 c1)]).toArray 36 (0,0))) (c2:Walk) {c2b:Nat} (c2F:F c2b) (c2h:w0.heap[c2b]?=some (.cells ((aW c2)).toArray 206 (0,0))) (c3:Int) {c3b:Nat} (c3F:F c3b) (c3h:w0.heap[c3b]?=some (.cells ([(.int .i64 c3)]).toArray 3 (0,0))) :
    Calls Tryz.prog 323 #[zp c0b,zp c1b,zp c2b,zp c3b] w0 (aq Tryz.prog aJ n (D.fD j r_list_walk_step c0 c1 c2 c3) F w0):=by
 refine kN Tryz.func323 rfl 8 rfl rfl fun fr r hB=>?_;have lc0b:=lt_of_block c0h
 have lc1b:=lt_of_block c1h;have lc2b:=lt_of_block c2h;have lc3b:=lt_of_block c3h;refine wsr ?_;refine ai (.cells (af false aJ.zero 0 0 0 0 .nilFunc) 209 (0,0)) r (fun R=>ah ck) rfl fun fr b1 w2 n3 r=>?_;have c0h:=keep n3.below c0h
 have c1h:=keep n3.below c1h;have c2h:=keep n3.below c2h;have c3h:=keep n3.below c3h;obtain ⟨E1,Z2,H1,hB,zB⟩:=n3.all hB;refine wn (wsr (kL (I c0) r rfl c0h to3 rfl rfl fun r=>ac (.func (.func 324) #[] #[zp c1b,zp c2b,zp c3b]) r (fun R=>aQ r rfl) rfl fun fr r=>?_));have hF1:=cf hF hB.size b1
 have f7:((kW F w0 w2 b1)) c1b:=(.inl c1F);have f8:((kW F w0 w2 b1)) c2b:=(.inl c2F);have f9:((kW F w0 w2 b1)) c3b:=(.inl c3F);refine kJ r (lH (F:=(kW F w0 w2 b1)) (n:=n) hF1 c0 ⟨324,[],[zp c1b,zp c2b,zp c3b],Fq,rfl,fun m hm x w' hs hz=>xI (j:=j) (fun b hb=>Nat.lt_of_lt_of_le (hF1 b hb) hz) kw (fun m' hm'=>ih_list_walk_step m' kw) c1 f7 (hs.at_ f7 c1h) c2 f8 (hs.at_ f8 c2h) c3 f9 (hs.at_ f9 c3h) x⟩) rfl nG rfl fun w4 v5 hb hr6 r=>?_;have Z4:=hb.size
 have H1:=aR hb H1 (by rintro (h | ⟨_,_,h⟩); (have:=hF _ h; omega); exact h rfl)
 have hB:=Chg.aM (Z:=F) hB;have hB:=hB.bi hb (by rintro b hlt (h | ⟨h,_⟩); exact h; omega)
 have zB:=hB.size;refine kP r hr6.shape rfl rfl H1 bV rfl rfl fun w10 u11 r=>?_;have Z10:=u11.size
 have H1:=u11.at_;have hB:=hB.bg u11 (.inl kw)
 have zB:=hB.size;refine wn (wp_ret ?_);have hs:=hr6.shape.cells;refine ak r rfl rfl H1 (k:=20) hs.1 bU ?_;rw [←hs.2.2];exact aq.fin hB hr6 u11 (by rintro b (h | ⟨h1,h2,_⟩); exact .inl h; exact .inr ⟨h1,h2⟩) (by rintro (h | ⟨_,_,h⟩); (have:=hF _ h; omega); exact h rfl) kw kw kw
set_option maxRecDepth 20000 in
set_option maxHeartbeats 8000000 in
theorem yL {r_list_walk_step:Walk→T Walk} (hF:kH F w0) (hj:n<j) (ih_list_walk_step:∀ m,m<n→df r_list_walk_step m)
    (c0:Walk) {c0b:Nat} (c0F:F c0b) (c0h:w0.heap[c0b]?=some (.cells ((aW c0)).toArray 206 (0,0))) (c1:Int) {c1b:Nat} (c1F:F c1b) (c1h:w0.heap[c1b]?=some (.cells ([(.int .i64 c1)]).toArray 3 (0,0))) (c2:Int) {c2b:Nat} (c2F:F c2b) (c2h:w0.heap[c2b]?=some (.cells ([(.int .i64 c2)]).toArray 3 (0,0))) (a0:Int) :
    Calls Tryz.prog 321 #[.int .u64 a0,zp c0b,zp c1b,zp c2b] w0 (aq Tryz.prog aJ n (D.iF j r_list_walk_step c0 c1 c2 a0) F w0):=by
 refine kN Tryz.func321 rfl 11 rfl rfl fun fr r hB=>?_;have lc0b:=lt_of_block c0h
 have lc1b:=lt_of_block c1h;have lc2b:=lt_of_block c2h;refine wsr ?_;refine kX 36 (U a0) r rfl rfl fun b1 w2 n3 r=>?_;have c0h:=keep n3.below c0h
 have c1h:=keep n3.below c1h;have c2h:=keep n3.below c2h;obtain ⟨E1,Z2,H1,hB,zB⟩:=n3.all hB;refine ai (.cells (af false aJ.zero 0 0 0 0 .nilFunc) 209 (0,0)) r (fun R=>ah ck) rfl fun fr b4 w5 n6 r=>?_;have c0h:=keep n6.below c0h
 have c1h:=keep n6.below c1h;have c2h:=keep n6.below c2h;have H1:=keep n6.below H1;obtain ⟨E4,Z5,H4,hB,zB⟩:=n6.all hB;refine wn (wp_seq ?_);refine bK 4 [.val (.agg (aW c0).toArray),.val (U a0),.val (I (D.aL a0)),.val (.func (.func 323) #[] #[zp c1b,zp b1,zp c0b,zp c2b])] mixed r kz (kV (kV (kV (kV bJ)))) ?_ ?_
 ·
  refine ec r (fun _ u _ b d s=>aT s (cs:=(aW c0)) (n:=14) rfl (keep b c0h) db rfl bz) (ec r (fun _ u _ b d s=>av s rfl (keep b H1) to36 rfl bz) (ec r (fun fr1 u w' hb' hd r'=>aN r' (args:=[(U a0)]) (lc hd.1 l0) fT ((fJ _ a0).mono (by rintro _ w2 ⟨rfl,hb2⟩; exact ⟨_,rfl,hb2,rfl⟩))) (ec r (fun _ u _ b d s=>aQ s (v:=(.func (.func 323) #[] #[zp c1b,zp b1,zp c0b,zp c2b])) rfl bz) ?_)));exact bL
 intro fr u w7 hb hΦ hne r;have r:=r.congr (sc (hΦ 3 ke) (sc (hΦ 2 ke) (sc (hΦ 1 ke) (sc (hΦ 0 ke) rfl))));have Z7:=hb.size;have c0h:=keep hb c0h;have c1h:=keep hb c1h;have c2h:=keep hb c2h;have H1:=keep hb H1;have H4:=keep hb H4;obtain ⟨hB,zB⟩:=bon hb hB;have hF1:=cf hF hB.size b4;have f11:((kW F w0 w7 b4)) c1b:=(.inl c1F);have f12:((kW F w0 w7 b4)) b1:=(.inr ⟨kw,kw,kw⟩)
 have f13:((kW F w0 w7 b4)) c0b:=(.inl c0F);have f14:((kW F w0 w7 b4)) c2b:=(.inl c2F);refine kJ r (lT (F:=(kW F w0 w7 b4)) (n:=n) hF1 c0 0 (D.aL a0) ⟨323,[],[zp c1b,zp b1,zp c0b,zp c2b],DI,rfl,fun m hm _ w' hs hz=>xV (j:=j) (fun b hb=>Nat.lt_of_lt_of_le (hF1 b hb) hz) kw (fun m' hm'=>ih_list_walk_step m' kw) c1 f11 (hs.at_ f11 c1h) a0 f12 (hs.at_ f12 H1) c0 f13 (hs.at_ f13 c0h) c2 f14 (hs.at_ f14 c2h)⟩) rfl nF rfl fun w8 v9 hb hr10 r=>?_;have Z8:=hb.size
 have H4:=aR hb H4 (by rintro (h | ⟨_,_,h⟩); (have:=hF _ h; omega); exact h rfl)
 have hB:=Chg.aM (Z:=F) hB;have hB:=hB.bi hb (by rintro b hlt (h | ⟨h,_⟩); exact h; omega)
 have zB:=hB.size;refine kP r hr10.shape rfl rfl H4 bV rfl rfl fun w15 u16 r=>?_;have Z15:=u16.size
 have H4:=u16.at_;have hB:=hB.bg u16 (.inl kw)
 have zB:=hB.size;refine wn (wp_ret ?_);have hs:=hr10.shape.cells;refine ak r rfl rfl H4 (k:=20) hs.1 bU ?_;rw [←hs.2.2];exact aq.fin hB hr10 u16 (by rintro b (h | ⟨h1,h2,_⟩); exact .inl h; exact .inr ⟨h1,h2⟩) (by rintro (h | ⟨_,_,h⟩); (have:=hF _ h; omega); exact h rfl) kw kw kw
set_option maxRecDepth 20000 in
set_option maxHeartbeats 8000000 in
theorem zy {n:Nat} {F:Nat→Prop} {j:Nat} {r_list_walk_step:Walk→T Walk} {w0:World} (hF:∀ b,F b→b<w0.heap.size) (hj:n<j) (ih_list_walk_step:∀ m,m<n→df r_list_walk_step m)
    (a0:Walk) :
    Calls Tryz.prog 226 #[.agg (aW a0).toArray] w0 (aq Tryz.prog aJ n (D.dR j r_list_walk_step a0) F w0):=by
 refine kN Tryz.func226 rfl 21 rfl rfl fun fr r hB=>?_;refine wsr ?_
 refine kX 206 (.agg (aW a0).toArray) r rfl rfl fun b1 w2 n3 r=>?_;obtain ⟨E1,Z2,H1,hB,zB⟩:=n3.all hB
 refine ai (.cells (af false aJ.zero 0 0 0 0 .nilFunc) 209 (0,0)) r (fun R=>ah ck) rfl fun fr b4 w5 n6 r=>?_;have H1:=keep n6.below H1
 obtain ⟨E4,Z5,H4,hB,zB⟩:=n6.all hB;refine wn (wsr (kF 0 r rfl eI rfl fun r=>kL (U a0.cur) r rfl H1 to36 rfl rfl fun r=>?_));refine kE r (fJ w5 a0.cur) rfl fT rfl fun w7 hb r=>?_
 have Z7:=hb.size;have H1:=keep hb H1;have H4:=keep hb H4;obtain ⟨hB,zB⟩:=bon hb hB;refine ai (.cells #[(I 0)] 3 (0,0)) r (fun R=>ah tz3) rfl fun fr b8 w9 n10 r=>?_;have H1:=keep n10.below H1
 have H4:=keep n10.below H4;obtain ⟨E8,Z9,H8,hB,zB⟩:=n10.all hB;refine bd (.cells #[(I (D.aL a0.cur))] 3 (0,0)) r (fun R=>aV r (o:=0) (v:=(I (D.aL a0.cur))) rfl rfl H8 ts3 (Nat.le_of_ble_eq_true rfl) rfl rfl) rfl fun fr w11 u12 r=>?_;have Z11:=u12.size
 have H1:=u12.keep H1 kw
 have H4:=u12.keep H4 kw
 have H8:=u12.at_;obtain ⟨hB,zB⟩:=u12.on hB kw
 refine wn (wp_seq (wsr (kL (I (D.aL a0.cur)) r rfl H8 to3 rfl rfl fun r=>kB r rfl rfl rfl rfl rfl fun r=>wn ?_)));refine wp_cond_split (t:=(decide ((D.aL a0.cur)<0))) (r.ev rfl) (fun h13=>?_) (fun h13=>?_)
 ·
  refine wsr (kF 0 r rfl l5 rfl fun r=>?_);refine bd (.cells ((aW ({ a0 with there:=false }))).toArray 206 (0,0)) r (fun R=>aV r (o:=13) (v:=(.bool false)) rfl rfl H1 ts4 (Nat.le_of_ble_eq_true rfl) rfl rfl) rfl fun fr w14 u15 r=>?_
  have Z14:=u15.size;have H4:=u15.keep H4 kw
  have H8:=u15.keep H8 kw
  have H1:=u15.at_;obtain ⟨hB,zB⟩:=u15.on hB kw
  obtain ⟨zs16,ezs16⟩:∃ z,z=({ a0 with there:=false }):=⟨_,rfl⟩
  rw [←ezs16] at H1
  refine wn (wsr (kG (aW zs16) 14 r rfl H1 db rfl rfl fun r=>?_));refine kJ r (rZ (F:=No) (n:=n) (fun _ h=>h.elim) zs16) rfl xb rfl fun w17 v18 hb hr19 r=>?_
  have hb:=hb.below;have Z17:=hb.size;have H1:=keep hb H1;have H4:=keep hb H4;have H8:=keep hb H8;obtain ⟨hB,zB⟩:=bon hb hB;refine kP r hr19.shape rfl rfl H4 bV rfl rfl fun w20 u21 r=>?_;have Z20:=u21.size
  have H1:=u21.keep H1 kw
  have H8:=u21.keep H8 kw
  have H4:=u21.at_;obtain ⟨hB,zB⟩:=u21.on hB kw
  refine wn (wp_ret ?_);have hd:D.dR j r_list_walk_step a0=(D.iK zs16):=by subst ezs16; exact (aB h13).trans (rfl)
  have hs:=hr19.shape.cells;refine ak r rfl rfl H4 (k:=20) hs.1 bU ?_;rw [←hs.2.2,hd];exact aq.fin (Chg.aM hB) hr19 u21 (fun _ h=>h.elim) (fun h=>h) kw kw kw
 refine wp_skip (wsr (kF 0 r rfl gH rfl fun r=>kF 0 r rfl dq rfl fun r=>kG (ae a0.seat.p) 6 r rfl H1 ta23 rfl rfl fun r=>kL (I (D.aL a0.cur)) r rfl H8 to3 rfl rfl fun r=>?_));refine kE r (dL w11 a0.seat.p (D.aL a0.cur) 2) rfl cl85 rfl fun w22 hb r=>?_
 have Z22:=hb.size;have H1:=keep hb H1;have H4:=keep hb H4;have H8:=keep hb H8;obtain ⟨hB,zB⟩:=bon hb hB;refine ai (.cells #[(I 0)] 3 (0,0)) r (fun R=>ah tz3) rfl fun fr b23 w24 n25 r=>?_;have H1:=keep n25.below H1
 have H4:=keep n25.below H4;have H8:=keep n25.below H8;obtain ⟨E23,Z24,H23,hB,zB⟩:=n25.all hB;refine bd (.cells #[(I (D.aS a0.seat.p (D.aL a0.cur) 2))] 3 (0,0)) r (fun R=>aV r (o:=0) (v:=(I (D.aS a0.seat.p (D.aL a0.cur) 2))) rfl rfl H23 ts3 (Nat.le_of_ble_eq_true rfl) rfl rfl) rfl fun fr w26 u27 r=>?_;have Z26:=u27.size
 have H1:=u27.keep H1 kw
 have H4:=u27.keep H4 kw
 have H8:=u27.keep H8 kw
 have H23:=u27.at_;obtain ⟨hB,zB⟩:=u27.on hB kw
 refine wn (wsr (kL (I (D.aS a0.seat.p (D.aL a0.cur) 2)) r rfl H23 to3 rfl rfl fun r=>ac (.func (.func 321) #[] #[zp b1,zp b23,zp b8]) r (fun R=>aQ r rfl) rfl fun fr r=>?_));have hF1:=cf hF hB.size b4
 have f31:((kW F w0 w26 b4)) b1:=(.inr ⟨kw,kw,kw⟩)
 have f32:((kW F w0 w26 b4)) b23:=(.inr ⟨kw,kw,kw⟩)
 have f33:((kW F w0 w26 b4)) b8:=(.inr ⟨kw,kw,kw⟩)
 refine kJ r (lH (F:=(kW F w0 w26 b4)) (n:=n) hF1 (D.aS a0.seat.p (D.aL a0.cur) 2) ⟨321,[],[zp b1,zp b23,zp b8],EU,rfl,fun m hm x w' hs hz=>yL (j:=j) (fun b hb=>Nat.lt_of_lt_of_le (hF1 b hb) hz) kw (fun m' hm'=>ih_list_walk_step m' kw) a0 f31 (hs.at_ f31 H1) (D.aS a0.seat.p (D.aL a0.cur) 2) f32 (hs.at_ f32 H23) (D.aL a0.cur) f33 (hs.at_ f33 H8) x⟩) rfl nG rfl fun w28 v29 hb hr30 r=>?_;have Z28:=hb.size
 have H4:=aR hb H4 (by rintro (h | ⟨_,_,h⟩); (have:=hF _ h; omega); exact h rfl)
 have hB:=Chg.aM (Z:=F) hB;have hB:=hB.bi hb (by rintro b hlt (h | ⟨h,_⟩); exact h; omega)
 have zB:=hB.size;refine kP r hr30.shape rfl rfl H4 bV rfl rfl fun w34 u35 r=>?_;have Z34:=u35.size
 have H4:=u35.at_;have hB:=hB.bg u35 (.inl kw)
 have zB:=hB.size;refine wn (wp_ret ?_);have hd:D.dR j r_list_walk_step a0=(D.gZ (D.aS a0.seat.p (D.aL a0.cur) 2) (fun x=>(D.iF j r_list_walk_step a0 (D.aS a0.seat.p (D.aL a0.cur) 2) (D.aL a0.cur) x))):=(aD h13).trans (rfl)
 have hs:=hr30.shape.cells;refine ak r rfl rfl H4 (k:=20) hs.1 bU ?_;rw [←hs.2.2,hd];exact aq.fin hB hr30 u35 (by rintro b (h | ⟨h1,h2,_⟩); exact .inl h; exact .inr ⟨h1,h2⟩) (by rintro (h | ⟨_,_,h⟩); (have:=hF _ h; omega); exact h rfl) kw kw kw
theorem lM {n:Nat} {j:Nat} (hj:n<j) {k:Nat} (hk:n<k):df (D.bN j k) n:=by
  induction n using Nat.strongRecOn generalizing k with
  | _ n ih=>
    obtain ⟨k,rfl⟩:∃ q,k=q+1:=⟨k - 1,kw⟩
    intro F w0 hF;have h:=@zy n F j (D.bN j k) w0 hF hj (fun m hm=>ih m hm kw kw)
    exact h
def D.oN (a0:Int):T Res:=(D.kp 7)
set_option maxRecDepth 20000 in
set_option maxHeartbeats 8000000 in
theorem zl (hF:kH F w0)
    (a0:Int) :
    Calls Tryz.prog 218 #[.int .i64 a0] w0 (aq Tryz.prog ar n (D.oN a0) F w0):=by
 refine kN Tryz.func218 rfl 4 rfl rfl fun fr r hB=>?_;refine wsr ?_
 refine ai (.cells (af false ar.zero 0 0 0 0 .nilFunc) 57 (0,0)) r (fun R=>ah tz57) rfl fun fr b1 w2 n3 r=>?_;obtain ⟨E1,Z2,H1,hB,zB⟩:=n3.all hB
 refine wn (wsr ?_);refine kJ r (sV (F:=No) (n:=n) (fun _ h=>h.elim) 7) rfl wg rfl fun w4 v5 hb hr6 r=>?_;have hb:=hb.below
 have Z4:=hb.size;have H1:=keep hb H1;obtain ⟨hB,zB⟩:=bon hb hB;refine kP r hr6.shape rfl rfl H1 ts57 rfl rfl fun w7 u8 r=>?_;have Z7:=u8.size
 have H1:=u8.at_;obtain ⟨hB,zB⟩:=u8.on hB kw
 refine wn (wp_ret ?_);have hs:=hr6.shape.cells;refine ak r rfl rfl H1 (k:=8) hs.1 ta57 ?_;rw [←hs.2.2];exact aq.fin (Chg.aM hB) hr6 u8 (fun _ h=>h.elim) (fun h=>h) kw kw kw
def D.jS (j:Nat) (c0:Seat) (c1:Int):T Res:=(T.bind (D.gk j c0.p c1) (fun x=>(D.oN x)))
set_option maxRecDepth 20000 in
set_option maxHeartbeats 8000000 in
theorem zK (hF:kH F w0) (hj:n<j)
    (c0:Seat) {c0b:Nat} (c0F:F c0b) (c0h:w0.heap[c0b]?=some (.cells ((au c0)).toArray 63 (0,0))) (c1:Int) {c1b:Nat} (c1F:F c1b) (c1h:w0.heap[c1b]?=some (.cells ([(.int .i64 c1)]).toArray 3 (0,0))) :
    Calls Tryz.prog 216 #[.agg #[],zp c0b,zp c1b] w0 (aq Tryz.prog ar n (D.jS j c0 c1) F w0):=by
 refine kN Tryz.func216 rfl 10 rfl rfl fun fr r hB=>?_;have lc0b:=lt_of_block c0h
 have lc1b:=lt_of_block c1h;refine wsr ?_;refine kX 152 (.agg #[]) r rfl rfl fun b1 w2 n3 r=>?_;have c0h:=keep n3.below c0h
 have c1h:=keep n3.below c1h;obtain ⟨E1,Z2,H1,hB,zB⟩:=n3.all hB;refine ai (.cells (af false ar.zero 0 0 0 0 .nilFunc) 57 (0,0)) r (fun R=>ah tz57) rfl fun fr b4 w5 n6 r=>?_;have c0h:=keep n6.below c0h
 have c1h:=keep n6.below c1h;have H1:=keep n6.below H1;obtain ⟨E4,Z5,H4,hB,zB⟩:=n6.all hB;refine wn (wsr (kF 0 r rfl dq rfl fun r=>kG (ae c0.p) 6 r rfl c0h ta23 rfl rfl fun r=>kL (I c1) r rfl c1h to3 rfl rfl fun r=>?_));refine kD r (sm (j:=j) (F:=No) (n:=n) (fun _ h=>h.elim) kw c0.p c1) rfl wE rfl fun w7 v8 hb hr9 r=>?_
 have hr9:=hr9.loud;have Z7:=hb.size;have c0h:=keep hb c0h;have c1h:=keep hb c1h;have H1:=keep hb H1;have H4:=keep hb H4;obtain ⟨hB,zB⟩:=bon hb hB;have hF1:∀ b,(kW F w0 w5 b4) b→b<w7.heap.size:=by rintro b (h | ⟨_,h,_⟩); exact Nat.lt_of_lt_of_le (hF b h) hB.size; exact Nat.lt_of_lt_of_le h kw
 have hF2:=cf hF hB.size b4;refine kJ r (rG (F:=(kW F w0 w7 b4)) (F2:=(kW F w0 w5 b4)) (n:=n) hF2 (by rintro b ⟨h,h'⟩; exact .inr ⟨kw,kw,kw⟩) (by rintro b (h | ⟨h1,h2,h3⟩); exact .inl h; exact .inr ⟨h1,kw,h3⟩) (by rintro b ⟨h1,h2⟩ (h | ⟨h3,h4,_⟩); (have:=hF b h; omega); omega) (RepL.mono (F':=fun b=>w5.heap.size≤b∧b<w7.heap.size) (by rintro b (h | h); exact h.elim; exact h) (Same.refl _ _) (Nat.le_refl _) n _ _ hr9) ⟨218,[],[],DN,rfl,fun m hm x w' hs hz=>zl (fun b hb=>Nat.lt_of_lt_of_le (hF1 b hb) hz)  x⟩) rfl qR rfl fun w10 v11 hb hr12 r=>?_
 have Z10:=hb.size;have H4:=aR hb H4 (by rintro (h | ⟨_,_,h⟩); (have:=hF _ h; omega); exact h rfl)
 have hB:=Chg.aM (Z:=F) hB;have hB:=hB.bi hb (by rintro b hlt (h | ⟨h,_⟩); exact h; omega)
 have zB:=hB.size;refine kP r hr12.shape rfl rfl H4 ts57 rfl rfl fun w13 u14 r=>?_;have Z13:=u14.size
 have H4:=u14.at_;have hB:=hB.bg u14 (.inl kw)
 have zB:=hB.size;refine wn (wp_ret ?_);have hs:=hr12.shape.cells;refine ak r rfl rfl H4 (k:=8) hs.1 ta57 ?_;rw [←hs.2.2];exact aq.fin hB hr12 u14 (by rintro b (h | ⟨h1,h2,_⟩); exact .inl h; exact .inr ⟨h1,h2⟩) (by rintro (h | ⟨_,_,h⟩); (have:=hF _ h; omega); exact h rfl) kw kw kw
def D.iU (a0:Int):Int:=(shlI .u64 (IntKind.u64.wrap (IntKind.i64.wrap (a0+1))) 1)
set_option maxRecDepth 20000 in
set_option maxHeartbeats 8000000 in
theorem AH (w0:World) 
    (a0:Int) :
    Calls Tryz.prog 220 #[.int .i64 a0] w0 (bC (.int .u64 (D.iU a0)) w0):=by
 refine kN Tryz.func220 rfl 7 rfl rfl fun fr r hB=>?_;refine wsr (kA (U 0) r rfl rfl fun r=>wn (wsr (kM (I a0) r rfl rfl fun r=>kB r rfl rfl rfl rfl rfl fun r=>ac (U (V (W (a0+1)))) r (fun R=>cr r rfl ti3 ti36) rfl fun fr r=>kB r rfl rfl rfl (nu (by first | assumption | decide)) rfl fun r=>kA (U (shlI .u64 (V (W (a0+1))) 1)) r rfl rfl fun r=>wn (wp_ret ?_))))
 refine bk r rfl rfl ?_;exact ⟨rfl,hB⟩
def D.oW (c0:Res):T Res:=(D.m9 c0)
set_option maxRecDepth 20000 in
set_option maxHeartbeats 8000000 in
theorem zR (hF:kH F w0)
    (c0:Res) {c0b:Nat} (c0F:F c0b) (c0h:w0.heap[c0b]?=some (.cells ((resC c0)).toArray 54 (0,0))) :
    Calls Tryz.prog 227 #[.agg #[],zp c0b] w0 (aq Tryz.prog ar n (D.oW c0) F w0):=by
 refine kN Tryz.func227 rfl 6 rfl rfl fun fr r hB=>?_;have lc0b:=lt_of_block c0h
 refine wsr ?_;refine kX 152 (.agg #[]) r rfl rfl fun b1 w2 n3 r=>?_;obtain ⟨E1,Z2,H1,hB,zB⟩:=n3.all hB
 refine ai (.cells (af false ar.zero 0 0 0 0 .nilFunc) 57 (0,0)) r (fun R=>ah tz57) rfl fun fr b4 w5 n6 r=>?_;have H1:=keep n6.below H1
 obtain ⟨E4,Z5,H4,hB,zB⟩:=n6.all hB;refine wn (wsr (kG (resC c0) 2 r rfl (keep hB c0h) ta54 rfl rfl fun r=>?_));refine kJ r (s5 (F:=No) (n:=n) (fun _ h=>h.elim) c0) rfl cl23 rfl fun w7 v8 hb hr9 r=>?_
 have hb:=hb.below;have Z7:=hb.size;have H1:=keep hb H1;have H4:=keep hb H4;obtain ⟨hB,zB⟩:=bon hb hB;refine kP r hr9.shape rfl rfl H4 ts57 rfl rfl fun w10 u11 r=>?_;have Z10:=u11.size
 have H1:=u11.keep H1 kw
 have H4:=u11.at_;obtain ⟨hB,zB⟩:=u11.on hB kw
 refine wn (wp_ret ?_);have hs:=hr9.shape.cells;refine ak r rfl rfl H4 (k:=8) hs.1 ta57 ?_;rw [←hs.2.2];exact aq.fin (Chg.aM hB) hr9 u11 (fun _ h=>h.elim) (fun h=>h) kw kw kw
def D.dB (j:Nat) (a0:Seat) (a1:Res):T Res:=(T.bind (D.mq j a0.p a0.thread) (fun _=>(D.oW a1)))
set_option maxRecDepth 20000 in
set_option maxHeartbeats 8000000 in
theorem iP (hF:kH F w0) (hj:n<j)
    (a0:Seat) (a1:Res) :
    Calls Tryz.prog 124 #[.agg (au a0).toArray,.agg (resC a1).toArray] w0 (aq Tryz.prog ar n (D.dB j a0 a1) F w0):=by
 refine kN Tryz.func124 rfl 12 rfl rfl fun fr r hB=>?_;refine wsr ?_
 refine kX 63 (.agg (au a0).toArray) r rfl rfl fun b1 w2 n3 r=>?_;obtain ⟨E1,Z2,H1,hB,zB⟩:=n3.all hB
 refine kX 54 (.agg (resC a1).toArray) r rfl rfl fun b4 w5 n6 r=>?_;have H1:=keep n6.below H1
 obtain ⟨E4,Z5,H4,hB,zB⟩:=n6.all hB;refine ai (.cells (af false ar.zero 0 0 0 0 .nilFunc) 57 (0,0)) r (fun R=>ah tz57) rfl fun fr b7 w8 n9 r=>?_;have H1:=keep n9.below H1
 have H4:=keep n9.below H4;obtain ⟨E7,Z8,H7,hB,zB⟩:=n9.all hB;refine wn (wsr (kF 0 r rfl dq rfl fun r=>kG (ae a0.p) 6 r rfl H1 ta23 rfl rfl fun r=>kF 0 r rfl iz rfl fun r=>kL (I a0.thread) r rfl H1 to3 rfl rfl fun r=>?_));refine kD r (sI (j:=j) (F:=No) (n:=n) (fun _ h=>h.elim) kw a0.p a0.thread) rfl wk rfl fun w10 v11 hb hr12 r=>?_
 have hr12:=hr12.loud;have Z10:=hb.size;have H1:=keep hb H1;have H4:=keep hb H4;have H7:=keep hb H7;obtain ⟨hB,zB⟩:=bon hb hB;refine ac (.func (.func 227) #[] #[zp b4]) r (fun R=>aQ r rfl) rfl fun fr r=>?_;have hF1:∀ b,(kW F w0 w8 b7) b→b<w10.heap.size:=by rintro b (h | ⟨_,h,_⟩); exact Nat.lt_of_lt_of_le (hF b h) hB.size; exact Nat.lt_of_lt_of_le h kw
 have f16:((kW F w0 w8 b7)) b4:=(.inr ⟨kw,kw,kw⟩)
 have hF2:=cf hF hB.size b7;refine kJ r (rC (F:=(kW F w0 w10 b7)) (F2:=(kW F w0 w8 b7)) (n:=n) hF2 (by rintro b ⟨h,h'⟩; exact .inr ⟨kw,kw,kw⟩) (by rintro b (h | ⟨h1,h2,h3⟩); exact .inl h; exact .inr ⟨h1,kw,h3⟩) (by rintro b ⟨h1,h2⟩ (h | ⟨h3,h4,_⟩); (have:=hF b h; omega); omega) (RepL.mono (F':=fun b=>w8.heap.size≤b∧b<w10.heap.size) (by rintro b (h | h); exact h.elim; exact h) (Same.refl _ _) (Nat.le_refl _) n _ _ hr12) ⟨227,[],[zp b4],Em,rfl,fun m hm _ w' hs hz=>zR (fun b hb=>Nat.lt_of_lt_of_le (hF1 b hb) hz) a1 f16 (hs.at_ f16 H4)⟩) rfl ri rfl fun w13 v14 hb hr15 r=>?_
 have Z13:=hb.size;have H7:=aR hb H7 (by rintro (h | ⟨_,_,h⟩); (have:=hF _ h; omega); exact h rfl)
 have hB:=Chg.aM (Z:=F) hB;have hB:=hB.bi hb (by rintro b hlt (h | ⟨h,_⟩); exact h; omega)
 have zB:=hB.size;refine kP r hr15.shape rfl rfl H7 ts57 rfl rfl fun w17 u18 r=>?_;have Z17:=u18.size
 have H7:=u18.at_;have hB:=hB.bg u18 (.inl kw)
 have zB:=hB.size;refine wn (wp_ret ?_);have hs:=hr15.shape.cells;refine ak r rfl rfl H7 (k:=8) hs.1 ta57 ?_;rw [←hs.2.2];exact aq.fin hB hr15 u18 (by rintro b (h | ⟨h1,h2,_⟩); exact .inl h; exact .inr ⟨h1,h2⟩) (by rintro (h | ⟨_,_,h⟩); (have:=hF _ h; omega); exact h rfl) kw kw kw
def D.jI (j:Nat) (r_list_put:Seat→Int→Int→Int→T Res) (c0:Seat) (c1:Int) (c2:Int) (c3:Int) (a0:Bool):T Res:=(bif (!a0) then (r_list_put c0 c1 c2 c3) else (D.dB j c0 (⟨0,0⟩:Res)))
def D.mh (j:Nat) (r_list_put:Seat→Int→Int→Int→T Res) (c0:Walk) (c1:Int) (c2:Seat) (c3:Int) (c4:Int):T Res:=(D.fH c0.place c0.cur (D.iU c1) (fun x=>(D.jI j r_list_put c2 c3 c4 c1 x)))
def D.ic (j:Nat) (r_list_put:Seat→Int→Int→Int→T Res) (c0:Seat) (c1:Int) (c2:Int) (c3:Int) (a0:Walk):T Res:=(bif a0.there then (T.bind (D.mq j c0.p c0.thread) (fun _=>(D.jS j c0 c1))) else (D.eu (D.aS c0.p c1 2) a0.cur (fun _=>(D.mh j r_list_put a0 c1 c0 c2 c3))))
def D.sO (j:Nat) (r_list_put:Seat→Int→Int→Int→T Res) (a0:Seat) (a1:Int) (a2:Int) (a3:Int):T Res:=(T.bind (D.gy j (D.bN j j) a0 a1 a2) (fun x=>(D.ic j r_list_put a0 a3 a1 a2 x)))
def D.eH (j:Nat):Nat→Seat→Int→Int→Int→T Res
  | 0,_,_,_,_=>.cut
  | k+1,a0,a1,a2,a3=>D.sO j (D.eH j k) a0 a1 a2 a3
def jM (r:Seat→Int→Int→Int→T Res) (n:Nat):Prop:=∀ (F:Nat→Prop) (w0:World),(∀ b,F b→b<w0.heap.size)→∀ (a0:Seat) (a1:Int) (a2:Int) (a3:Int),Calls Tryz.prog 119 #[.agg (au a0).toArray,.int .i64 a1,.int .u64 a2,.int .i64 a3] w0 (aq Tryz.prog ar n (r a0 a1 a2 a3) F w0)
set_option maxRecDepth 20000 in
set_option maxHeartbeats 8000000 in
theorem zj {r_list_put:Seat→Int→Int→Int→T Res} (hF:kH F w0) (hj:n<j) (ih_list_put:∀ m,m≤n→jM r_list_put m)
    (c0:Seat) {c0b:Nat} (c0F:F c0b) (c0h:w0.heap[c0b]?=some (.cells ((au c0)).toArray 63 (0,0))) (c1:Int) {c1b:Nat} (c1F:F c1b) (c1h:w0.heap[c1b]?=some (.cells ([(.int .i64 c1)]).toArray 3 (0,0))) (c2:Int) {c2b:Nat} (c2F:F c2b) (c2h:w0.heap[c2b]?=some (.cells ([(.int .u64 c2)]).toArray 36 (0,0))) (c3:Int) {c3b:Nat} (c3F:F c3b) (c3h:w0.heap[c3b]?=some (.cells ([(.int .i64 c3)]).toArray 3 (0,0))) (a0:Bool) :
    Calls Tryz.prog 221 #[.bool a0,zp c0b,zp c1b,zp c2b,zp c3b] w0 (aq Tryz.prog ar n (D.jI j r_list_put c0 c1 c2 c3 a0) F w0):=by
 refine kN Tryz.func221 rfl 17 rfl rfl fun fr r hB=>?_;have lc0b:=lt_of_block c0h
 have lc1b:=lt_of_block c1h;have lc2b:=lt_of_block c2h;have lc3b:=lt_of_block c3h;refine wsr ?_;refine ai (.cells (af false ar.zero 0 0 0 0 .nilFunc) 57 (0,0)) r (fun R=>ah tz57) rfl fun fr b1 w2 n3 r=>?_;obtain ⟨E1,Z2,H1,hB,zB⟩:=n3.all hB
 refine wn (wp_seq (wsr (kM (.bool a0) r rfl rfl fun r=>ac (.bool (!a0)) r (fun R=>y_un r (u:=(.bool a0)) rfl rfl) rfl fun fr r=>wn ?_)));refine wp_cond_split (t:=(!a0)) (r.ev rfl) (fun h4=>?_) (fun h4=>?_)
 ·
  refine wsr (kG (au c0) 8 r rfl (keep hB c0h) ta63 rfl rfl fun r=>kL (I c1) r rfl (keep hB c1h) to3 rfl rfl fun r=>kL (U c2) r rfl (keep hB c2h) to36 rfl rfl fun r=>kL (I c3) r rfl (keep hB c3h) to3 rfl rfl fun r=>?_);refine kJ r ((ih_list_put n kw) (No) _ (fun _ h=>h.elim) c0 c1 c2 c3) rfl xe rfl fun w5 v6 hb hr7 r=>?_
  have hb:=hb.below;have Z5:=hb.size;have H1:=keep hb H1;obtain ⟨hB,zB⟩:=bon hb hB;refine kP r hr7.shape rfl rfl H1 ts57 rfl rfl fun w8 u9 r=>?_;have Z8:=u9.size
  have H1:=u9.at_;obtain ⟨hB,zB⟩:=u9.on hB kw
  refine wn (wp_ret ?_);have hd:D.jI j r_list_put c0 c1 c2 c3 a0=(r_list_put c0 c1 c2 c3):=(aB h4).trans (rfl);have hs:=hr7.shape.cells;refine ak r rfl rfl H1 (k:=8) hs.1 ta57 ?_;rw [←hs.2.2,hd];exact aq.fin (Chg.aM hB) hr7 u9 (fun _ h=>h.elim) (fun h=>h) kw kw kw
 refine wp_skip (wsr (kG (au c0) 8 r rfl (keep hB c0h) ta63 rfl rfl fun r=>kU (.agg (resC (⟨0,0⟩:Res)).toArray) r kz rfl fun r=>?_));refine kJ r (iP (j:=j) (F:=No) (n:=n) (fun _ h=>h.elim) kw c0 (⟨0,0⟩:Res)) rfl jm rfl fun w10 v11 hb hr12 r=>?_
 have hb:=hb.below;have Z10:=hb.size;have H1:=keep hb H1;obtain ⟨hB,zB⟩:=bon hb hB;refine kP r hr12.shape rfl rfl H1 ts57 rfl rfl fun w13 u14 r=>?_;have Z13:=u14.size
 have H1:=u14.at_;obtain ⟨hB,zB⟩:=u14.on hB kw
 refine wn (wp_ret ?_);have hd:D.jI j r_list_put c0 c1 c2 c3 a0=(D.dB j c0 (⟨0,0⟩:Res)):=(aD h4).trans (rfl);have hs:=hr12.shape.cells;refine ak r rfl rfl H1 (k:=8) hs.1 ta57 ?_;rw [←hs.2.2,hd];exact aq.fin (Chg.aM hB) hr12 u14 (fun _ h=>h.elim) (fun h=>h) kw kw kw
set_option maxRecDepth 20000 in
set_option maxHeartbeats 8000000 in
theorem zP {r_list_put:Seat→Int→Int→Int→T Res} (hF:kH F w0) (hj:n<j) (ih_list_put:∀ m,m<n→jM r_list_put m)
    (c0:Walk) {c0b:Nat} (c0F:F c0b) (c0h:w0.heap[c0b]?=some (.cells ((aW c0)).toArray 206 (0,0))) (c1:Int) {c1b:Nat} (c1F:F c1b) (c1h:w0.heap[c1b]?=some (.cells ([(.int .i64 c1)]).toArray 3 (0,0))) (c2:Seat) {c2b:Nat} (c2F:F c2b) (c2h:w0.heap[c2b]?=some (.cells ((au c2)).toArray 63 (0,0))) (c3:Int) {c3b:Nat} (c3F:F c3b) (c3h:w0.heap[c3b]?=some (.cells ([(.int .i64 c3)]).toArray 3 (0,0))) (c4:Int) {c4b:Nat} (c4F:F c4b) (c4h:w0.heap[c4b]?=some (.cells ([(.int .u64 c4)]).toArray 36 (0,0))) :
    Calls Tryz.prog 219 #[zp c0b,zp c1b,zp c2b,zp c3b,zp c4b] w0 (aq Tryz.prog ar n (D.mh j r_list_put c0 c1 c2 c3 c4) F w0):=by
 refine kN Tryz.func219 rfl 14 rfl rfl fun fr r hB=>?_;have lc0b:=lt_of_block c0h
 have lc1b:=lt_of_block c1h;have lc2b:=lt_of_block c2h;have lc3b:=lt_of_block c3h;have lc4b:=lt_of_block c4h;refine wsr ?_;refine ai (.cells (af false ar.zero 0 0 0 0 .nilFunc) 57 (0,0)) r (fun R=>ah tz57) rfl fun fr b1 w2 n3 r=>?_;have c0h:=keep n3.below c0h
 have c1h:=keep n3.below c1h;have c2h:=keep n3.below c2h;have c3h:=keep n3.below c3h;have c4h:=keep n3.below c4h;obtain ⟨E1,Z2,H1,hB,zB⟩:=n3.all hB;refine wn (wp_seq ?_);refine bK 7 [.val (.pointer (some ⟨c0b,10,none⟩)),.val (I c0.place),.val (.pointer (some ⟨c0b,11,none⟩)),.val (U c0.cur),.val (I c1),.val (U (D.iU c1)),.val (.func (.func 221) #[] #[zp c2b,zp c3b,zp c4b,zp c1b])] mixed r kz (kV (kV (kV (kV (kV (kV (kV bJ))))))) ?_ ?_
 ·
  refine ec r (fun _ u _ b d s=>ay s (b:=c0b) (o:=0) rfl kY bz) (ec r (fun _ u _ b d s=>av s d.1 (keep b c0h) to3 rfl bz) (ec r (fun _ u _ b d s=>ay s (b:=c0b) (o:=0) rfl eI bz) (ec r (fun _ u _ b d s=>av s d.1 (keep b c0h) to36 rfl bz) (ec r (fun _ u _ b d s=>av s rfl (keep b c1h) to3 rfl bz) (ec r (fun fr1 u w' hb' hd r'=>aN r' (args:=[(I c1)]) (lc hd.1 l0) DF ((AH _ c1).mono (by rintro _ w2 ⟨rfl,hb2⟩; exact ⟨_,rfl,hb2,rfl⟩))) (ec r (fun _ u _ b d s=>aQ s (v:=(.func (.func 221) #[] #[zp c2b,zp c3b,zp c4b,zp c1b])) rfl bz) ?_))))));exact bL
 intro fr u w4 hb hΦ hne r;have r:=r.congr (sc (hΦ 6 ke) (sc (hΦ 5 ke) (sc (hΦ 4 ke) (sc (hΦ 3 ke) (sc (hΦ 2 ke) (sc (hΦ 1 ke) (sc (hΦ 0 ke) rfl)))))));have Z4:=hb.size;have c0h:=keep hb c0h;have c1h:=keep hb c1h;have c2h:=keep hb c2h;have c3h:=keep hb c3h;have c4h:=keep hb c4h;have H1:=keep hb H1;obtain ⟨hB,zB⟩:=bon hb hB;have hF1:=cf hF hB.size b1;have f8:((kW F w0 w4 b1)) c2b:=(.inl c2F);have f9:((kW F w0 w4 b1)) c3b:=(.inl c3F);have f10:((kW F w0 w4 b1)) c4b:=(.inl c4F);have f11:((kW F w0 w4 b1)) c1b:=(.inl c1F);refine kJ r (oE (F:=(kW F w0 w4 b1)) (n:=n) hF1 c0.place c0.cur (D.iU c1) ⟨221,[],[zp c2b,zp c3b,zp c4b,zp c1b],EI,rfl,fun m hm x w' hs hz=>zj (j:=j) (fun b hb=>Nat.lt_of_lt_of_le (hF1 b hb) hz) kw (fun m' hm'=>ih_list_put m' kw) c2 f8 (hs.at_ f8 c2h) c3 f9 (hs.at_ f9 c3h) c4 f10 (hs.at_ f10 c4h) c1 f11 (hs.at_ f11 c1h) x⟩) rfl rk rfl fun w5 v6 hb hr7 r=>?_;have Z5:=hb.size
 have H1:=aR hb H1 (by rintro (h | ⟨_,_,h⟩); (have:=hF _ h; omega); exact h rfl)
 have hB:=Chg.aM (Z:=F) hB;have hB:=hB.bi hb (by rintro b hlt (h | ⟨h,_⟩); exact h; omega)
 have zB:=hB.size;refine kP r hr7.shape rfl rfl H1 ts57 rfl rfl fun w12 u13 r=>?_;have Z12:=u13.size
 have H1:=u13.at_;have hB:=hB.bg u13 (.inl kw)
 have zB:=hB.size;refine wn (wp_ret ?_);have hs:=hr7.shape.cells;refine ak r rfl rfl H1 (k:=8) hs.1 ta57 ?_;rw [←hs.2.2];exact aq.fin hB hr7 u13 (by rintro b (h | ⟨h1,h2,_⟩); exact .inl h; exact .inr ⟨h1,h2⟩) (by rintro (h | ⟨_,_,h⟩); (have:=hF _ h; omega); exact h rfl) kw kw kw
set_option maxRecDepth 20000 in
set_option maxHeartbeats 8000000 in
theorem Aq {r_list_put:Seat→Int→Int→Int→T Res} (hF:kH F w0) (hj:n<j) (ih_list_put:∀ m,m<n→jM r_list_put m)
    (c0:Seat) {c0b:Nat} (c0F:F c0b) (c0h:w0.heap[c0b]?=some (.cells ((au c0)).toArray 63 (0,0))) (c1:Int) {c1b:Nat} (c1F:F c1b) (c1h:w0.heap[c1b]?=some (.cells ([(.int .i64 c1)]).toArray 3 (0,0))) (c2:Int) {c2b:Nat} (c2F:F c2b) (c2h:w0.heap[c2b]?=some (.cells ([(.int .i64 c2)]).toArray 3 (0,0))) (c3:Int) {c3b:Nat} (c3F:F c3b) (c3h:w0.heap[c3b]?=some (.cells ([(.int .u64 c3)]).toArray 36 (0,0))) (a0:Walk) :
    Calls Tryz.prog 213 #[.agg (aW a0).toArray,zp c0b,zp c1b,zp c2b,zp c3b] w0 (aq Tryz.prog ar n (D.ic j r_list_put c0 c1 c2 c3 a0) F w0):=by
 refine kN Tryz.func213 rfl 24 rfl rfl fun fr r hB=>?_;have lc0b:=lt_of_block c0h
 have lc1b:=lt_of_block c1h;have lc2b:=lt_of_block c2h;have lc3b:=lt_of_block c3h;refine wsr ?_;refine kX 206 (.agg (aW a0).toArray) r rfl rfl fun b1 w2 n3 r=>?_;have c0h:=keep n3.below c0h
 have c1h:=keep n3.below c1h;have c2h:=keep n3.below c2h;have c3h:=keep n3.below c3h;obtain ⟨E1,Z2,H1,hB,zB⟩:=n3.all hB;refine ai (.cells (af false ar.zero 0 0 0 0 .nilFunc) 57 (0,0)) r (fun R=>ah tz57) rfl fun fr b4 w5 n6 r=>?_;have c0h:=keep n6.below c0h
 have c1h:=keep n6.below c1h;have c2h:=keep n6.below c2h;have c3h:=keep n6.below c3h;have H1:=keep n6.below H1;obtain ⟨E4,Z5,H4,hB,zB⟩:=n6.all hB;refine wn (wp_seq (wsr (kF 0 r rfl l5 rfl fun r=>kL (.bool a0.there) r rfl H1 to4 rfl rfl fun r=>wn ?_)));refine wp_cond_split (t:=a0.there) (r.ev rfl) (fun h7=>?_) (fun h7=>?_)
 ·
  refine wsr (kF 0 r rfl dq rfl fun r=>kG (ae c0.p) 6 r rfl c0h ta23 rfl rfl fun r=>kF 0 r rfl iz rfl fun r=>kL (I c0.thread) r rfl c0h to3 rfl rfl fun r=>?_);refine kD r (sI (j:=j) (F:=No) (n:=n) (fun _ h=>h.elim) kw c0.p c0.thread) rfl wk rfl fun w8 v9 hb hr10 r=>?_
  have hr10:=hr10.loud;have Z8:=hb.size;have c0h:=keep hb c0h;have c1h:=keep hb c1h;have c2h:=keep hb c2h;have c3h:=keep hb c3h;have H1:=keep hb H1;have H4:=keep hb H4;obtain ⟨hB,zB⟩:=bon hb hB;refine ac (.func (.func 216) #[] #[zp c0b,zp c1b]) r (fun R=>aQ r rfl) rfl fun fr r=>?_;have hF1:∀ b,(kW F w0 w5 b4) b→b<w8.heap.size:=by rintro b (h | ⟨_,h,_⟩); exact Nat.lt_of_lt_of_le (hF b h) hB.size; exact Nat.lt_of_lt_of_le h kw
  have f14:((kW F w0 w5 b4)) c0b:=(.inl c0F);have f15:((kW F w0 w5 b4)) c1b:=(.inl c1F);have hF2:=cf hF hB.size b4;refine kJ r (rC (F:=(kW F w0 w8 b4)) (F2:=(kW F w0 w5 b4)) (n:=n) hF2 (by rintro b ⟨h,h'⟩; exact .inr ⟨kw,kw,kw⟩) (by rintro b (h | ⟨h1,h2,h3⟩); exact .inl h; exact .inr ⟨h1,kw,h3⟩) (by rintro b ⟨h1,h2⟩ (h | ⟨h3,h4,_⟩); (have:=hF b h; omega); omega) (RepL.mono (F':=fun b=>w5.heap.size≤b∧b<w8.heap.size) (by rintro b (h | h); exact h.elim; exact h) (Same.refl _ _) (Nat.le_refl _) n _ _ hr10) ⟨216,[],[zp c0b,zp c1b],En,rfl,fun m hm _ w' hs hz=>zK (j:=j) (fun b hb=>Nat.lt_of_lt_of_le (hF1 b hb) hz) kw c0 f14 (hs.at_ f14 c0h) c1 f15 (hs.at_ f15 c1h)⟩) rfl ri rfl fun w11 v12 hb hr13 r=>?_
  have Z11:=hb.size;have H4:=aR hb H4 (by rintro (h | ⟨_,_,h⟩); (have:=hF _ h; omega); exact h rfl)
  have hB:=Chg.aM (Z:=F) hB;have hB:=hB.bi hb (by rintro b hlt (h | ⟨h,_⟩); exact h; omega)
  have zB:=hB.size;refine kP r hr13.shape rfl rfl H4 ts57 rfl rfl fun w16 u17 r=>?_;have Z16:=u17.size
  have H4:=u17.at_;have hB:=hB.bg u17 (.inl kw)
  have zB:=hB.size;refine wn (wp_ret ?_);have hd:D.ic j r_list_put c0 c1 c2 c3 a0=(T.bind (D.mq j c0.p c0.thread) (fun _=>(D.jS j c0 c1))):=(aB h7).trans (rfl)
  have hs:=hr13.shape.cells;refine ak r rfl rfl H4 (k:=8) hs.1 ta57 ?_;rw [←hs.2.2,hd];exact aq.fin hB hr13 u17 (by rintro b (h | ⟨h1,h2,_⟩); exact .inl h; exact .inr ⟨h1,h2⟩) (by rintro (h | ⟨_,_,h⟩); (have:=hF _ h; omega); exact h rfl) kw kw kw
 refine wp_skip (wp_seq ?_);refine bK 7 [.val (zp c0b),.val (.agg (ae c0.p).toArray),.val (I c1),.val (I (D.aS c0.p c1 2)),.val (.pointer (some ⟨b1,11,none⟩)),.val (U a0.cur),.val (.func (.func 219) #[] #[zp b1,zp c1b,zp c0b,zp c2b,zp c3b])] mixed r kz (kV (kV (kV (kV (kV (kV (kV bJ))))))) ?_ ?_
 ·
  refine ec r (fun _ u _ b d s=>ay s (b:=c0b) (o:=0) rfl dq bz) (ec r (fun _ u _ b d s=>aT s (cs:=(ae c0.p)) (n:=6) d.1 (keep b c0h) ta23 rfl bz) (ec r (fun _ u _ b d s=>av s rfl (keep b c1h) to3 rfl bz) (ec r (fun fr1 u w' hb' hd r'=>aN r' (args:=[(.agg (ae c0.p).toArray),(I c1),(I 2)]) (lc hd.1 (lc hd.2.1 (lc rfl l0))) cl85 ((dL _ c0.p c1 2).mono (by rintro _ w2 ⟨rfl,hb2⟩; exact ⟨_,rfl,hb2,rfl⟩))) (ec r (fun _ u _ b d s=>ay s (b:=b1) (o:=0) rfl eI bz) (ec r (fun _ u _ b d s=>av s d.1 (keep b H1) to36 rfl bz) (ec r (fun _ u _ b d s=>aQ s (v:=(.func (.func 219) #[] #[zp b1,zp c1b,zp c0b,zp c2b,zp c3b])) rfl bz) ?_))))));exact bL
 intro fr u w18 hb hΦ hne r;have r:=r.congr (sc (hΦ 6 ke) (sc (hΦ 5 ke) (sc (hΦ 4 ke) (sc (hΦ 3 ke) (sc (hΦ 2 ke) (sc (hΦ 1 ke) (sc (hΦ 0 ke) rfl)))))));have Z18:=hb.size;have c0h:=keep hb c0h;have c1h:=keep hb c1h;have c2h:=keep hb c2h;have c3h:=keep hb c3h;have H1:=keep hb H1;have H4:=keep hb H4;obtain ⟨hB,zB⟩:=bon hb hB;have hF1:=cf hF hB.size b4;have f22:((kW F w0 w18 b4)) b1:=(.inr ⟨kw,kw,kw⟩)
 have f23:((kW F w0 w18 b4)) c1b:=(.inl c1F);have f24:((kW F w0 w18 b4)) c0b:=(.inl c0F);have f25:((kW F w0 w18 b4)) c2b:=(.inl c2F);have f26:((kW F w0 w18 b4)) c3b:=(.inl c3F);refine kJ r (ol (F:=(kW F w0 w18 b4)) (n:=n) hF1 (D.aS c0.p c1 2) a0.cur ⟨219,[],[zp b1,zp c1b,zp c0b,zp c2b,zp c3b],FD,rfl,fun m hm _ w' hs hz=>zP (j:=j) (fun b hb=>Nat.lt_of_lt_of_le (hF1 b hb) hz) kw (fun m' hm'=>ih_list_put m' kw) a0 f22 (hs.at_ f22 H1) c1 f23 (hs.at_ f23 c1h) c0 f24 (hs.at_ f24 c0h) c2 f25 (hs.at_ f25 c2h) c3 f26 (hs.at_ f26 c3h)⟩) rfl qU rfl fun w19 v20 hb hr21 r=>?_;have Z19:=hb.size
 have H4:=aR hb H4 (by rintro (h | ⟨_,_,h⟩); (have:=hF _ h; omega); exact h rfl)
 have hB:=Chg.aM (Z:=F) hB;have hB:=hB.bi hb (by rintro b hlt (h | ⟨h,_⟩); exact h; omega)
 have zB:=hB.size;refine kP r hr21.shape rfl rfl H4 ts57 rfl rfl fun w27 u28 r=>?_;have Z27:=u28.size
 have H4:=u28.at_;have hB:=hB.bg u28 (.inl kw)
 have zB:=hB.size;refine wn (wp_ret ?_);have hd:D.ic j r_list_put c0 c1 c2 c3 a0=(D.eu (D.aS c0.p c1 2) a0.cur (fun _=>(D.mh j r_list_put a0 c1 c0 c2 c3))):=(aD h7).trans (rfl)
 have hs:=hr21.shape.cells;refine ak r rfl rfl H4 (k:=8) hs.1 ta57 ?_;rw [←hs.2.2,hd];exact aq.fin hB hr21 u28 (by rintro b (h | ⟨h1,h2,_⟩); exact .inl h; exact .inr ⟨h1,h2⟩) (by rintro (h | ⟨_,_,h⟩); (have:=hF _ h; omega); exact h rfl) kw kw kw
set_option maxRecDepth 20000 in
set_option maxHeartbeats 8000000 in
theorem Bs {n:Nat} {F:Nat→Prop} {j:Nat} {r_list_put:Seat→Int→Int→Int→T Res} {w0:World} (hF:∀ b,F b→b<w0.heap.size) (hj:n<j) (ih_list_put:∀ m,m<n→jM r_list_put m)
    (a0:Seat) (a1:Int) (a2:Int) (a3:Int) :
    Calls Tryz.prog 119 #[.agg (au a0).toArray,.int .i64 a1,.int .u64 a2,.int .i64 a3] w0 (aq Tryz.prog ar n (D.sO j r_list_put a0 a1 a2 a3) F w0):=by
 refine kN Tryz.func119 rfl 15 rfl rfl fun fr r hB=>?_;refine wsr ?_
 refine kX 63 (.agg (au a0).toArray) r rfl rfl fun b1 w2 n3 r=>?_;obtain ⟨E1,Z2,H1,hB,zB⟩:=n3.all hB
 refine kX 3 (I a1) r rfl rfl fun b4 w5 n6 r=>?_;have H1:=keep n6.below H1
 obtain ⟨E4,Z5,H4,hB,zB⟩:=n6.all hB;refine kX 36 (U a2) r rfl rfl fun b7 w8 n9 r=>?_;have H1:=keep n9.below H1
 have H4:=keep n9.below H4;obtain ⟨E7,Z8,H7,hB,zB⟩:=n9.all hB;refine kX 3 (I a3) r rfl rfl fun b10 w11 n12 r=>?_;have H1:=keep n12.below H1
 have H4:=keep n12.below H4;have H7:=keep n12.below H7;obtain ⟨E10,Z11,H10,hB,zB⟩:=n12.all hB;refine ai (.cells (af false ar.zero 0 0 0 0 .nilFunc) 57 (0,0)) r (fun R=>ah tz57) rfl fun fr b13 w14 n15 r=>?_;have H1:=keep n15.below H1
 have H4:=keep n15.below H4;have H7:=keep n15.below H7;have H10:=keep n15.below H10;obtain ⟨E13,Z14,H13,hB,zB⟩:=n15.all hB;refine wn (wsr (kG (au a0) 8 r rfl H1 ta63 rfl rfl fun r=>kL (I a1) r rfl H4 to3 rfl rfl fun r=>kL (U a2) r rfl H7 to36 rfl rfl fun r=>?_));refine kJ r (mi (j:=j) (F:=No) (n:=n) (fun _ h=>h.elim) kw (fun m' hm'=>lM (j:=j) (k:=j) kw kw) a0 a1 a2) rfl nK rfl fun w16 v17 hb hr18 r=>?_
 have hb:=hb.below;have Z16:=hb.size;have H1:=keep hb H1;have H4:=keep hb H4;have H7:=keep hb H7;have H10:=keep hb H10;have H13:=keep hb H13;obtain ⟨hB,zB⟩:=bon hb hB;refine ac (.func (.func 213) #[] #[zp b1,zp b10,zp b4,zp b7]) r (fun R=>aQ r rfl) rfl fun fr r=>?_;have hF1:∀ b,(kW F w0 w14 b13) b→b<w16.heap.size:=by rintro b (h | ⟨_,h,_⟩); exact Nat.lt_of_lt_of_le (hF b h) hB.size; exact Nat.lt_of_lt_of_le h kw
 have f22:((kW F w0 w14 b13)) b1:=(.inr ⟨kw,kw,kw⟩)
 have f23:((kW F w0 w14 b13)) b10:=(.inr ⟨kw,kw,kw⟩)
 have f24:((kW F w0 w14 b13)) b4:=(.inr ⟨kw,kw,kw⟩)
 have f25:((kW F w0 w14 b13)) b7:=(.inr ⟨kw,kw,kw⟩)
 have hF2:=cf hF hB.size b13;refine kJ r (lz (F:=(kW F w0 w16 b13)) (F2:=(kW F w0 w14 b13)) (n:=n) hF2 (by rintro b ⟨h,h'⟩; exact .inr ⟨kw,kw,kw⟩) (by rintro b (h | ⟨h1,h2,h3⟩); exact .inl h; exact .inr ⟨h1,kw,h3⟩) (by rintro b ⟨h1,h2⟩ (h | ⟨h3,h4,_⟩); (have:=hF b h; omega); omega) (RepL.mono (F':=fun b=>w14.heap.size≤b∧b<w16.heap.size) (by rintro b (h | h); exact h.elim; exact h) (Same.refl _ _) (Nat.le_refl _) n _ _ hr18) ⟨213,[],[zp b1,zp b10,zp b4,zp b7],Eg,rfl,fun m hm x w' hs hz=>Aq (j:=j) (fun b hb=>Nat.lt_of_lt_of_le (hF1 b hb) hz) kw (fun m' hm'=>ih_list_put m' kw) a0 f22 (hs.at_ f22 H1) a3 f23 (hs.at_ f23 H10) a1 f24 (hs.at_ f24 H4) a2 f25 (hs.at_ f25 H7) x⟩) rfl lg rfl fun w19 v20 hb hr21 r=>?_
 have Z19:=hb.size;have H13:=aR hb H13 (by rintro (h | ⟨_,_,h⟩); (have:=hF _ h; omega); exact h rfl)
 have hB:=Chg.aM (Z:=F) hB;have hB:=hB.bi hb (by rintro b hlt (h | ⟨h,_⟩); exact h; omega)
 have zB:=hB.size;refine kP r hr21.shape rfl rfl H13 ts57 rfl rfl fun w26 u27 r=>?_;have Z26:=u27.size
 have H13:=u27.at_;have hB:=hB.bg u27 (.inl kw)
 have zB:=hB.size;refine wn (wp_ret ?_);have hs:=hr21.shape.cells;refine ak r rfl rfl H13 (k:=8) hs.1 ta57 ?_;rw [←hs.2.2];exact aq.fin hB hr21 u27 (by rintro b (h | ⟨h1,h2,_⟩); exact .inl h; exact .inr ⟨h1,h2⟩) (by rintro (h | ⟨_,_,h⟩); (have:=hF _ h; omega); exact h rfl) kw kw kw
theorem Bi {n:Nat} {j:Nat} (hj:n<j) {k:Nat} (hk:n<k):jM (D.eH j k) n:=by
  induction n using Nat.strongRecOn generalizing k with
  | _ n ih=>
    obtain ⟨k,rfl⟩:∃ q,k=q+1:=⟨k - 1,kw⟩
    intro F w0 hF;have h:=@Bs n F j (D.eH j k) w0 hF hj (fun m hm=>ih m hm kw kw)
    exact h
def D.sF (j:Nat) (c0:Seat) (c1:Int) (c2:Int) (c3:Grant):T Res:=(D.eH j j c0 c1 c2 c3.node)
set_option maxRecDepth 20000 in
set_option maxHeartbeats 8000000 in
theorem zi (hF:kH F w0) (hj:n<j)
    (c0:Seat) {c0b:Nat} (c0F:F c0b) (c0h:w0.heap[c0b]?=some (.cells ((au c0)).toArray 63 (0,0))) (c1:Int) {c1b:Nat} (c1F:F c1b) (c1h:w0.heap[c1b]?=some (.cells ([(.int .i64 c1)]).toArray 3 (0,0))) (c2:Int) {c2b:Nat} (c2F:F c2b) (c2h:w0.heap[c2b]?=some (.cells ([(.int .u64 c2)]).toArray 36 (0,0))) (c3:Grant) {c3b:Nat} (c3F:F c3b) (c3h:w0.heap[c3b]?=some (.cells ((grantC c3)).toArray 35 (0,0))) :
    Calls Tryz.prog 118 #[zp c0b,zp c1b,zp c2b,zp c3b] w0 (aq Tryz.prog ar n (D.sF j c0 c1 c2 c3) F w0):=by
 refine kN Tryz.func118 rfl 11 rfl rfl fun fr r hB=>?_;have lc0b:=lt_of_block c0h
 have lc1b:=lt_of_block c1h;have lc2b:=lt_of_block c2h;have lc3b:=lt_of_block c3h;refine wsr ?_;refine ai (.cells (af false ar.zero 0 0 0 0 .nilFunc) 57 (0,0)) r (fun R=>ah tz57) rfl fun fr b1 w2 n3 r=>?_;obtain ⟨E1,Z2,H1,hB,zB⟩:=n3.all hB
 refine wn (wsr (kG (au c0) 8 r rfl (keep hB c0h) ta63 rfl rfl fun r=>kL (I c1) r rfl (keep hB c1h) to3 rfl rfl fun r=>kL (U c2) r rfl (keep hB c2h) to36 rfl rfl fun r=>kF 0 r rfl qu rfl fun r=>kL (I c3.node) r rfl (keep hB c3h) to3 rfl rfl fun r=>?_));refine kJ r ((Bi (j:=j) (k:=j) (n:=n) kw kw) (No) _ (fun _ h=>h.elim) c0 c1 c2 c3.node) rfl xe rfl fun w4 v5 hb hr6 r=>?_
 have hb:=hb.below;have Z4:=hb.size;have H1:=keep hb H1;obtain ⟨hB,zB⟩:=bon hb hB;refine kP r hr6.shape rfl rfl H1 ts57 rfl rfl fun w7 u8 r=>?_;have Z7:=u8.size
 have H1:=u8.at_;obtain ⟨hB,zB⟩:=u8.on hB kw
 refine wn (wp_ret ?_);have hs:=hr6.shape.cells;refine ak r rfl rfl H1 (k:=8) hs.1 ta57 ?_;rw [←hs.2.2];exact aq.fin (Chg.aM hB) hr6 u8 (fun _ h=>h.elim) (fun h=>h) kw kw kw
def D.ma (j:Nat) (c0:Seat) (c1:Grant) (c2:Int) (c3:Int) (c4:Int):T Res:=(D.eu (D.aS c0.p c1.node 1) c2 (fun _=>(D.sF j c0 c3 c4 c1)))
set_option maxRecDepth 20000 in
set_option maxHeartbeats 8000000 in
theorem zQ (hF:kH F w0) (hj:n<j)
    (c0:Seat) {c0b:Nat} (c0F:F c0b) (c0h:w0.heap[c0b]?=some (.cells ((au c0)).toArray 63 (0,0))) (c1:Grant) {c1b:Nat} (c1F:F c1b) (c1h:w0.heap[c1b]?=some (.cells ((grantC c1)).toArray 35 (0,0))) (c2:Int) {c2b:Nat} (c2F:F c2b) (c2h:w0.heap[c2b]?=some (.cells ([(.int .u64 c2)]).toArray 36 (0,0))) (c3:Int) {c3b:Nat} (c3F:F c3b) (c3h:w0.heap[c3b]?=some (.cells ([(.int .i64 c3)]).toArray 3 (0,0))) (c4:Int) {c4b:Nat} (c4F:F c4b) (c4h:w0.heap[c4b]?=some (.cells ([(.int .u64 c4)]).toArray 36 (0,0))) :
    Calls Tryz.prog 117 #[zp c0b,zp c1b,zp c2b,zp c3b,zp c4b] w0 (aq Tryz.prog ar n (D.ma j c0 c1 c2 c3 c4) F w0):=by
 refine kN Tryz.func117 rfl 14 rfl rfl fun fr r hB=>?_;have lc0b:=lt_of_block c0h
 have lc1b:=lt_of_block c1h;have lc2b:=lt_of_block c2h;have lc3b:=lt_of_block c3h;have lc4b:=lt_of_block c4h;refine wsr ?_;refine ai (.cells (af false ar.zero 0 0 0 0 .nilFunc) 57 (0,0)) r (fun R=>ah tz57) rfl fun fr b1 w2 n3 r=>?_;have c0h:=keep n3.below c0h
 have c1h:=keep n3.below c1h;have c2h:=keep n3.below c2h;have c3h:=keep n3.below c3h;have c4h:=keep n3.below c4h;obtain ⟨E1,Z2,H1,hB,zB⟩:=n3.all hB;refine wn (wp_seq ?_);refine bK 7 [.val (zp c0b),.val (.agg (ae c0.p).toArray),.val (zp c1b),.val (I c1.node),.val (I (D.aS c0.p c1.node 1)),.val (U c2),.val (.func (.func 118) #[] #[zp c0b,zp c3b,zp c4b,zp c1b])] mixed r kz (kV (kV (kV (kV (kV (kV (kV bJ))))))) ?_ ?_
 ·
  refine ec r (fun _ u _ b d s=>ay s (b:=c0b) (o:=0) rfl dq bz) (ec r (fun _ u _ b d s=>aT s (cs:=(ae c0.p)) (n:=6) d.1 (keep b c0h) ta23 rfl bz) (ec r (fun _ u _ b d s=>ay s (b:=c1b) (o:=0) rfl qu bz) (ec r (fun _ u _ b d s=>av s d.1 (keep b c1h) to3 rfl bz) (ec r (fun fr1 u w' hb' hd r'=>aN r' (args:=[(.agg (ae c0.p).toArray),(I c1.node),(I 1)]) (lc hd.1 (lc hd.2.1 (lc rfl l0))) cl85 ((dL _ c0.p c1.node 1).mono (by rintro _ w2 ⟨rfl,hb2⟩; exact ⟨_,rfl,hb2,rfl⟩))) (ec r (fun _ u _ b d s=>av s rfl (keep b c2h) to36 rfl bz) (ec r (fun _ u _ b d s=>aQ s (v:=(.func (.func 118) #[] #[zp c0b,zp c3b,zp c4b,zp c1b])) rfl bz) ?_))))));exact bL
 intro fr u w4 hb hΦ hne r;have r:=r.congr (sc (hΦ 6 ke) (sc (hΦ 5 ke) (sc (hΦ 4 ke) (sc (hΦ 3 ke) (sc (hΦ 2 ke) (sc (hΦ 1 ke) (sc (hΦ 0 ke) rfl)))))));have Z4:=hb.size;have c0h:=keep hb c0h;have c1h:=keep hb c1h;have c2h:=keep hb c2h;have c3h:=keep hb c3h;have c4h:=keep hb c4h;have H1:=keep hb H1;obtain ⟨hB,zB⟩:=bon hb hB;have hF1:=cf hF hB.size b1;have f8:((kW F w0 w4 b1)) c0b:=(.inl c0F);have f9:((kW F w0 w4 b1)) c3b:=(.inl c3F);have f10:((kW F w0 w4 b1)) c4b:=(.inl c4F);have f11:((kW F w0 w4 b1)) c1b:=(.inl c1F);refine kJ r (ol (F:=(kW F w0 w4 b1)) (n:=n) hF1 (D.aS c0.p c1.node 1) c2 ⟨118,[],[zp c0b,zp c3b,zp c4b,zp c1b],Fa,rfl,fun m hm _ w' hs hz=>zi (j:=j) (fun b hb=>Nat.lt_of_lt_of_le (hF1 b hb) hz) kw c0 f8 (hs.at_ f8 c0h) c3 f9 (hs.at_ f9 c3h) c4 f10 (hs.at_ f10 c4h) c1 f11 (hs.at_ f11 c1h)⟩) rfl qU rfl fun w5 v6 hb hr7 r=>?_;have Z5:=hb.size
 have H1:=aR hb H1 (by rintro (h | ⟨_,_,h⟩); (have:=hF _ h; omega); exact h rfl)
 have hB:=Chg.aM (Z:=F) hB;have hB:=hB.bi hb (by rintro b hlt (h | ⟨h,_⟩); exact h; omega)
 have zB:=hB.size;refine kP r hr7.shape rfl rfl H1 ts57 rfl rfl fun w12 u13 r=>?_;have Z12:=u13.size
 have H1:=u13.at_;have hB:=hB.bg u13 (.inl kw)
 have zB:=hB.size;refine wn (wp_ret ?_);have hs:=hr7.shape.cells;refine ak r rfl rfl H1 (k:=8) hs.1 ta57 ?_;rw [←hs.2.2];exact aq.fin hB hr7 u13 (by rintro b (h | ⟨h1,h2,_⟩); exact .inl h; exact .inr ⟨h1,h2⟩) (by rintro (h | ⟨_,_,h⟩); (have:=hF _ h; omega); exact h rfl) kw kw kw
def D.fj (j:Nat) (c0:Seat) (c1:Int) (c2:Int) (c3:Int) (a0:Grant):T Res:=(bif (a0.e !=0) then (D.kp a0.e) else (D.eu (D.aS c0.p a0.node 0) c1 (fun _=>(D.ma j c0 a0 c2 c3 c1))))
set_option maxRecDepth 20000 in
set_option maxHeartbeats 8000000 in
theorem Ao (hF:kH F w0) (hj:n<j)
    (c0:Seat) {c0b:Nat} (c0F:F c0b) (c0h:w0.heap[c0b]?=some (.cells ((au c0)).toArray 63 (0,0))) (c1:Int) {c1b:Nat} (c1F:F c1b) (c1h:w0.heap[c1b]?=some (.cells ([(.int .u64 c1)]).toArray 36 (0,0))) (c2:Int) {c2b:Nat} (c2F:F c2b) (c2h:w0.heap[c2b]?=some (.cells ([(.int .u64 c2)]).toArray 36 (0,0))) (c3:Int) {c3b:Nat} (c3F:F c3b) (c3h:w0.heap[c3b]?=some (.cells ([(.int .i64 c3)]).toArray 3 (0,0))) (a0:Grant) :
    Calls Tryz.prog 114 #[.agg (grantC a0).toArray,zp c0b,zp c1b,zp c2b,zp c3b] w0 (aq Tryz.prog ar n (D.fj j c0 c1 c2 c3 a0) F w0):=by
 refine kN Tryz.func114 rfl 21 rfl rfl fun fr r hB=>?_;have lc0b:=lt_of_block c0h
 have lc1b:=lt_of_block c1h;have lc2b:=lt_of_block c2h;have lc3b:=lt_of_block c3h;refine wsr ?_;refine kX 35 (.agg (grantC a0).toArray) r rfl rfl fun b1 w2 n3 r=>?_;have c0h:=keep n3.below c0h
 have c1h:=keep n3.below c1h;have c2h:=keep n3.below c2h;have c3h:=keep n3.below c3h;obtain ⟨E1,Z2,H1,hB,zB⟩:=n3.all hB;refine ai (.cells (af false ar.zero 0 0 0 0 .nilFunc) 57 (0,0)) r (fun R=>ah tz57) rfl fun fr b4 w5 n6 r=>?_;have c0h:=keep n6.below c0h
 have c1h:=keep n6.below c1h;have c2h:=keep n6.below c2h;have c3h:=keep n6.below c3h;have H1:=keep n6.below H1;obtain ⟨E4,Z5,H4,hB,zB⟩:=n6.all hB;refine wn (wp_seq (wsr (kF 0 r rfl vz rfl fun r=>kL (I a0.e) r rfl H1 to33 rfl rfl fun r=>kB r rfl rfl rfl rfl rfl fun r=>wn ?_)));refine wp_cond_split (t:=(a0.e !=0)) (r.ev rfl) (fun h7=>?_) (fun h7=>?_)
 ·
  refine wsr (kF 0 r rfl vz rfl fun r=>kL (I a0.e) r rfl H1 to33 rfl rfl fun r=>?_);refine kJ r (sV (F:=No) (n:=n) (fun _ h=>h.elim) a0.e) rfl wg rfl fun w8 v9 hb hr10 r=>?_
  have hb:=hb.below;have Z8:=hb.size;have c0h:=keep hb c0h;have c1h:=keep hb c1h;have c2h:=keep hb c2h;have c3h:=keep hb c3h;have H1:=keep hb H1;have H4:=keep hb H4;obtain ⟨hB,zB⟩:=bon hb hB;refine kP r hr10.shape rfl rfl H4 ts57 rfl rfl fun w11 u12 r=>?_;have Z11:=u12.size
  have c0h:=u12.keep c0h kw
  have c1h:=u12.keep c1h kw
  have c2h:=u12.keep c2h kw
  have c3h:=u12.keep c3h kw
  have H1:=u12.keep H1 kw
  have H4:=u12.at_;obtain ⟨hB,zB⟩:=u12.on hB kw
  refine wn (wp_ret ?_);have hd:D.fj j c0 c1 c2 c3 a0=(D.kp a0.e):=(aB h7).trans (rfl);have hs:=hr10.shape.cells;refine ak r rfl rfl H4 (k:=8) hs.1 ta57 ?_;rw [←hs.2.2,hd];exact aq.fin (Chg.aM hB) hr10 u12 (fun _ h=>h.elim) (fun h=>h) kw kw kw
 refine wp_skip (wp_seq ?_);refine bK 7 [.val (zp c0b),.val (.agg (ae c0.p).toArray),.val (zp b1),.val (I a0.node),.val (I (D.aS c0.p a0.node 0)),.val (U c1),.val (.func (.func 117) #[] #[zp c0b,zp b1,zp c2b,zp c3b,zp c1b])] mixed r kz (kV (kV (kV (kV (kV (kV (kV bJ))))))) ?_ ?_
 ·
  refine ec r (fun _ u _ b d s=>ay s (b:=c0b) (o:=0) rfl dq bz) (ec r (fun _ u _ b d s=>aT s (cs:=(ae c0.p)) (n:=6) d.1 (keep b c0h) ta23 rfl bz) (ec r (fun _ u _ b d s=>ay s (b:=b1) (o:=0) rfl qu bz) (ec r (fun _ u _ b d s=>av s d.1 (keep b H1) to3 rfl bz) (ec r (fun fr1 u w' hb' hd r'=>aN r' (args:=[(.agg (ae c0.p).toArray),(I a0.node),(I 0)]) (lc hd.1 (lc hd.2.1 (lc rfl l0))) cl85 ((dL _ c0.p a0.node 0).mono (by rintro _ w2 ⟨rfl,hb2⟩; exact ⟨_,rfl,hb2,rfl⟩))) (ec r (fun _ u _ b d s=>av s rfl (keep b c1h) to36 rfl bz) (ec r (fun _ u _ b d s=>aQ s (v:=(.func (.func 117) #[] #[zp c0b,zp b1,zp c2b,zp c3b,zp c1b])) rfl bz) ?_))))));exact bL
 intro fr u w13 hb hΦ hne r;have r:=r.congr (sc (hΦ 6 ke) (sc (hΦ 5 ke) (sc (hΦ 4 ke) (sc (hΦ 3 ke) (sc (hΦ 2 ke) (sc (hΦ 1 ke) (sc (hΦ 0 ke) rfl)))))));have Z13:=hb.size;have c0h:=keep hb c0h;have c1h:=keep hb c1h;have c2h:=keep hb c2h;have c3h:=keep hb c3h;have H1:=keep hb H1;have H4:=keep hb H4;obtain ⟨hB,zB⟩:=bon hb hB;have hF1:=cf hF hB.size b4;have f17:((kW F w0 w13 b4)) c0b:=(.inl c0F);have f18:((kW F w0 w13 b4)) b1:=(.inr ⟨kw,kw,kw⟩)
 have f19:((kW F w0 w13 b4)) c2b:=(.inl c2F);have f20:((kW F w0 w13 b4)) c3b:=(.inl c3F);have f21:((kW F w0 w13 b4)) c1b:=(.inl c1F);refine kJ r (ol (F:=(kW F w0 w13 b4)) (n:=n) hF1 (D.aS c0.p a0.node 0) c1 ⟨117,[],[zp c0b,zp b1,zp c2b,zp c3b,zp c1b],DK,rfl,fun m hm _ w' hs hz=>zQ (j:=j) (fun b hb=>Nat.lt_of_lt_of_le (hF1 b hb) hz) kw c0 f17 (hs.at_ f17 c0h) a0 f18 (hs.at_ f18 H1) c2 f19 (hs.at_ f19 c2h) c3 f20 (hs.at_ f20 c3h) c1 f21 (hs.at_ f21 c1h)⟩) rfl qU rfl fun w14 v15 hb hr16 r=>?_;have Z14:=hb.size
 have H4:=aR hb H4 (by rintro (h | ⟨_,_,h⟩); (have:=hF _ h; omega); exact h rfl)
 have hB:=Chg.aM (Z:=F) hB;have hB:=hB.bi hb (by rintro b hlt (h | ⟨h,_⟩); exact h; omega)
 have zB:=hB.size;refine kP r hr16.shape rfl rfl H4 ts57 rfl rfl fun w22 u23 r=>?_;have Z22:=u23.size
 have H4:=u23.at_;have hB:=hB.bg u23 (.inl kw)
 have zB:=hB.size;refine wn (wp_ret ?_);have hd:D.fj j c0 c1 c2 c3 a0=(D.eu (D.aS c0.p a0.node 0) c1 (fun _=>(D.ma j c0 a0 c2 c3 c1))):=(aD h7).trans (rfl)
 have hs:=hr16.shape.cells;refine ak r rfl rfl H4 (k:=8) hs.1 ta57 ?_;rw [←hs.2.2,hd];exact aq.fin hB hr16 u23 (by rintro b (h | ⟨h1,h2,_⟩); exact .inl h; exact .inr ⟨h1,h2⟩) (by rintro (h | ⟨_,_,h⟩); (have:=hF _ h; omega); exact h rfl) kw kw kw
def D.cH (j:Nat) (a0:Seat) (a1:Int) (a2:Int) (a3:Int):T Res:=(T.bind (D.dV j a0.p a0.thread 2) (fun x=>(D.fj j a0 a2 a3 a1 x)))
set_option maxRecDepth 20000 in
set_option maxHeartbeats 8000000 in
theorem mC (hF:kH F w0) (hj:n<j)
    (a0:Seat) (a1:Int) (a2:Int) (a3:Int) :
    Calls Tryz.prog 50 #[.agg (au a0).toArray,.int .i64 a1,.int .u64 a2,.int .u64 a3] w0 (aq Tryz.prog ar n (D.cH j a0 a1 a2 a3) F w0):=by
 refine kN Tryz.func50 rfl 16 rfl rfl fun fr r hB=>?_;refine wsr ?_
 refine kX 63 (.agg (au a0).toArray) r rfl rfl fun b1 w2 n3 r=>?_;obtain ⟨E1,Z2,H1,hB,zB⟩:=n3.all hB
 refine kX 3 (I a1) r rfl rfl fun b4 w5 n6 r=>?_;have H1:=keep n6.below H1
 obtain ⟨E4,Z5,H4,hB,zB⟩:=n6.all hB;refine kX 36 (U a2) r rfl rfl fun b7 w8 n9 r=>?_;have H1:=keep n9.below H1
 have H4:=keep n9.below H4;obtain ⟨E7,Z8,H7,hB,zB⟩:=n9.all hB;refine kX 36 (U a3) r rfl rfl fun b10 w11 n12 r=>?_;have H1:=keep n12.below H1
 have H4:=keep n12.below H4;have H7:=keep n12.below H7;obtain ⟨E10,Z11,H10,hB,zB⟩:=n12.all hB;refine ai (.cells (af false ar.zero 0 0 0 0 .nilFunc) 57 (0,0)) r (fun R=>ah tz57) rfl fun fr b13 w14 n15 r=>?_;have H1:=keep n15.below H1
 have H4:=keep n15.below H4;have H7:=keep n15.below H7;have H10:=keep n15.below H10;obtain ⟨E13,Z14,H13,hB,zB⟩:=n15.all hB;refine wn (wsr (kF 0 r rfl dq rfl fun r=>kG (ae a0.p) 6 r rfl H1 ta23 rfl rfl fun r=>kF 0 r rfl iz rfl fun r=>kL (I a0.thread) r rfl H1 to3 rfl rfl fun r=>?_));refine kD r (AX (j:=j) (F:=No) (n:=n) (fun _ h=>h.elim) kw a0.p a0.thread 2) rfl cl74 rfl fun w16 v17 hb hr18 r=>?_
 have hr18:=hr18.loud;have Z16:=hb.size;have H1:=keep hb H1;have H4:=keep hb H4;have H7:=keep hb H7;have H10:=keep hb H10;have H13:=keep hb H13;obtain ⟨hB,zB⟩:=bon hb hB;refine ac (.func (.func 114) #[] #[zp b1,zp b7,zp b10,zp b4]) r (fun R=>aQ r rfl) rfl fun fr r=>?_;have hF1:∀ b,(kW F w0 w14 b13) b→b<w16.heap.size:=by rintro b (h | ⟨_,h,_⟩); exact Nat.lt_of_lt_of_le (hF b h) hB.size; exact Nat.lt_of_lt_of_le h kw
 have f22:((kW F w0 w14 b13)) b1:=(.inr ⟨kw,kw,kw⟩)
 have f23:((kW F w0 w14 b13)) b7:=(.inr ⟨kw,kw,kw⟩)
 have f24:((kW F w0 w14 b13)) b10:=(.inr ⟨kw,kw,kw⟩)
 have f25:((kW F w0 w14 b13)) b4:=(.inr ⟨kw,kw,kw⟩)
 have hF2:=cf hF hB.size b13;refine kJ r (xw (F:=(kW F w0 w16 b13)) (F2:=(kW F w0 w14 b13)) (n:=n) hF2 (by rintro b ⟨h,h'⟩; exact .inr ⟨kw,kw,kw⟩) (by rintro b (h | ⟨h1,h2,h3⟩); exact .inl h; exact .inr ⟨h1,kw,h3⟩) (by rintro b ⟨h1,h2⟩ (h | ⟨h3,h4,_⟩); (have:=hF b h; omega); omega) (RepL.mono (F':=fun b=>w14.heap.size≤b∧b<w16.heap.size) (by rintro b (h | h); exact h.elim; exact h) (Same.refl _ _) (Nat.le_refl _) n _ _ hr18) ⟨114,[],[zp b1,zp b7,zp b10,zp b4],FG,rfl,fun m hm x w' hs hz=>Ao (j:=j) (fun b hb=>Nat.lt_of_lt_of_le (hF1 b hb) hz) kw a0 f22 (hs.at_ f22 H1) a2 f23 (hs.at_ f23 H7) a3 f24 (hs.at_ f24 H10) a1 f25 (hs.at_ f25 H4) x⟩) rfl vQ rfl fun w19 v20 hb hr21 r=>?_
 have Z19:=hb.size;have H13:=aR hb H13 (by rintro (h | ⟨_,_,h⟩); (have:=hF _ h; omega); exact h rfl)
 have hB:=Chg.aM (Z:=F) hB;have hB:=hB.bi hb (by rintro b hlt (h | ⟨h,_⟩); exact h; omega)
 have zB:=hB.size;refine kP r hr21.shape rfl rfl H13 ts57 rfl rfl fun w26 u27 r=>?_;have Z26:=u27.size
 have H13:=u27.at_;have hB:=hB.bg u27 (.inl kw)
 have zB:=hB.size;refine wn (wp_ret ?_);have hs:=hr21.shape.cells;refine ak r rfl rfl H13 (k:=8) hs.1 ta57 ?_;rw [←hs.2.2];exact aq.fin hB hr21 u27 (by rintro b (h | ⟨h1,h2,_⟩); exact .inl h; exact .inr ⟨h1,h2⟩) (by rintro (h | ⟨_,_,h⟩); (have:=hF _ h; omega); exact h rfl) kw kw kw
def D.oz (j:Nat) (c0:Seat) (c1:Int) (a0:Int):T Res:=(D.dB j c0 (⟨0,c1⟩:Res))
set_option maxRecDepth 20000 in
set_option maxHeartbeats 8000000 in
theorem yG (hF:kH F w0) (hj:n<j)
    (c0:Seat) {c0b:Nat} (c0F:F c0b) (c0h:w0.heap[c0b]?=some (.cells ((au c0)).toArray 63 (0,0))) (c1:Int) {c1b:Nat} (c1F:F c1b) (c1h:w0.heap[c1b]?=some (.cells ([(.int .u64 c1)]).toArray 36 (0,0))) (a0:Int) :
    Calls Tryz.prog 230 #[.int .i64 a0,zp c0b,zp c1b] w0 (aq Tryz.prog ar n (D.oz j c0 c1 a0) F w0):=by
 refine kN Tryz.func230 rfl 9 rfl rfl fun fr r hB=>?_;have lc0b:=lt_of_block c0h
 have lc1b:=lt_of_block c1h;refine wsr ?_;refine ai (.cells (af false ar.zero 0 0 0 0 .nilFunc) 57 (0,0)) r (fun R=>ah tz57) rfl fun fr b1 w2 n3 r=>?_;obtain ⟨E1,Z2,H1,hB,zB⟩:=n3.all hB
 refine wn (wsr (kG (au c0) 8 r rfl (keep hB c0h) ta63 rfl rfl fun r=>kL (U c1) r rfl (keep hB c1h) to36 rfl rfl fun r=>kU (.agg (resC (⟨0,c1⟩:Res)).toArray) r kz rfl fun r=>?_));refine kJ r (iP (j:=j) (F:=No) (n:=n) (fun _ h=>h.elim) kw c0 (⟨0,c1⟩:Res)) rfl jm rfl fun w4 v5 hb hr6 r=>?_
 have hb:=hb.below;have Z4:=hb.size;have H1:=keep hb H1;obtain ⟨hB,zB⟩:=bon hb hB;refine kP r hr6.shape rfl rfl H1 ts57 rfl rfl fun w7 u8 r=>?_;have Z7:=u8.size
 have H1:=u8.at_;obtain ⟨hB,zB⟩:=u8.on hB kw
 refine wn (wp_ret ?_);have hs:=hr6.shape.cells;refine ak r rfl rfl H1 (k:=8) hs.1 ta57 ?_;rw [←hs.2.2];exact aq.fin (Chg.aM hB) hr6 u8 (fun _ h=>h.elim) (fun h=>h) kw kw kw
def D.oC (j:Nat) (c0:Seat) (c1:Int) (a0:Walk):T Res:=(D.dB j c0 (⟨0,c1⟩:Res))
set_option maxRecDepth 20000 in
set_option maxHeartbeats 8000000 in
theorem yE (hF:kH F w0) (hj:n<j)
    (c0:Seat) {c0b:Nat} (c0F:F c0b) (c0h:w0.heap[c0b]?=some (.cells ((au c0)).toArray 63 (0,0))) (c1:Int) {c1b:Nat} (c1F:F c1b) (c1h:w0.heap[c1b]?=some (.cells ([(.int .u64 c1)]).toArray 36 (0,0))) (a0:Walk) :
    Calls Tryz.prog 232 #[.agg (aW a0).toArray,zp c0b,zp c1b] w0 (aq Tryz.prog ar n (D.oC j c0 c1 a0) F w0):=by
 refine kN Tryz.func232 rfl 9 rfl rfl fun fr r hB=>?_;have lc0b:=lt_of_block c0h
 have lc1b:=lt_of_block c1h;refine wsr ?_;refine kX 206 (.agg (aW a0).toArray) r rfl rfl fun b1 w2 n3 r=>?_;obtain ⟨E1,Z2,H1,hB,zB⟩:=n3.all hB
 refine ai (.cells (af false ar.zero 0 0 0 0 .nilFunc) 57 (0,0)) r (fun R=>ah tz57) rfl fun fr b4 w5 n6 r=>?_;have H1:=keep n6.below H1
 obtain ⟨E4,Z5,H4,hB,zB⟩:=n6.all hB;refine wn (wsr (kG (au c0) 8 r rfl (keep hB c0h) ta63 rfl rfl fun r=>kL (U c1) r rfl (keep hB c1h) to36 rfl rfl fun r=>kU (.agg (resC (⟨0,c1⟩:Res)).toArray) r kz rfl fun r=>?_));refine kJ r (iP (j:=j) (F:=No) (n:=n) (fun _ h=>h.elim) kw c0 (⟨0,c1⟩:Res)) rfl jm rfl fun w7 v8 hb hr9 r=>?_
 have hb:=hb.below;have Z7:=hb.size;have H1:=keep hb H1;have H4:=keep hb H4;obtain ⟨hB,zB⟩:=bon hb hB;refine kP r hr9.shape rfl rfl H4 ts57 rfl rfl fun w10 u11 r=>?_;have Z10:=u11.size
 have H1:=u11.keep H1 kw
 have H4:=u11.at_;obtain ⟨hB,zB⟩:=u11.on hB kw
 refine wn (wp_ret ?_);have hs:=hr9.shape.cells;refine ak r rfl rfl H4 (k:=8) hs.1 ta57 ?_;rw [←hs.2.2];exact aq.fin (Chg.aM hB) hr9 u11 (fun _ h=>h.elim) (fun h=>h) kw kw kw
def D.iN (j:Nat) (c0:Seat) (c1:Walk) (c2:Int) (a0:Bool):T Res:=(bif a0 then (T.bind (D.eZ j c0.p c0.thread (D.aL c1.cur)) (fun x=>(D.oz j c0 c2 x))) else (T.bind (D.ep j (D.bN j j) c1) (fun x=>(D.oC j c0 c2 x))))
set_option maxRecDepth 20000 in
set_option maxHeartbeats 8000000 in
theorem zm (hF:kH F w0) (hj:n<j)
    (c0:Seat) {c0b:Nat} (c0F:F c0b) (c0h:w0.heap[c0b]?=some (.cells ((au c0)).toArray 63 (0,0))) (c1:Walk) {c1b:Nat} (c1F:F c1b) (c1h:w0.heap[c1b]?=some (.cells ((aW c1)).toArray 206 (0,0))) (c2:Int) {c2b:Nat} (c2F:F c2b) (c2h:w0.heap[c2b]?=some (.cells ([(.int .u64 c2)]).toArray 36 (0,0))) (a0:Bool) :
    Calls Tryz.prog 229 #[.bool a0,zp c0b,zp c1b,zp c2b] w0 (aq Tryz.prog ar n (D.iN j c0 c1 c2 a0) F w0):=by
 refine kN Tryz.func229 rfl 21 rfl rfl fun fr r hB=>?_;have lc0b:=lt_of_block c0h
 have lc1b:=lt_of_block c1h;have lc2b:=lt_of_block c2h;refine wsr ?_;refine ai (.cells (af false ar.zero 0 0 0 0 .nilFunc) 57 (0,0)) r (fun R=>ah tz57) rfl fun fr b1 w2 n3 r=>?_;have c0h:=keep n3.below c0h
 have c1h:=keep n3.below c1h;have c2h:=keep n3.below c2h;obtain ⟨E1,Z2,H1,hB,zB⟩:=n3.all hB;refine wn (wp_seq (wsr (kM (.bool a0) r rfl rfl fun r=>wn ?_)));refine wp_cond_split (t:=a0) (r.ev rfl) (fun h4=>?_) (fun h4=>?_)
 ·
  refine wp_seq ?_;refine bK 9 [.val (zp c0b),.val (.agg (ae c0.p).toArray),.val (.pointer (some ⟨c0b,7,none⟩)),.val (I c0.thread),.val (.pointer (some ⟨c1b,11,none⟩)),.val (U c1.cur),.val (I (D.aL c1.cur)),.pred (PrepP Tryz.prog aj n (D.eZ j c0.p c0.thread (D.aL c1.cur)) No w2) (PrepP.st (fun _ h=>h.elim)),.val (.func (.func 230) #[] #[zp c0b,zp c2b])] mixed r kz (kV (kV (kV (kV (kV (kV (kV (kV (kV bJ))))))))) ?_ ?_
  ·
   refine ec r (fun _ u _ b d s=>ay s (b:=c0b) (o:=0) rfl dq bz) (ec r (fun _ u _ b d s=>aT s (cs:=(ae c0.p)) (n:=6) d.1 (keep b c0h) ta23 rfl bz) (ec r (fun _ u _ b d s=>ay s (b:=c0b) (o:=0) rfl iz bz) (ec r (fun _ u _ b d s=>av s d.1 (keep b c0h) to3 rfl bz) (ec r (fun _ u _ b d s=>ay s (b:=c1b) (o:=0) rfl eI bz) (ec r (fun _ u _ b d s=>av s d.1 (keep b c1h) to36 rfl bz) (ec r (fun fr1 u w' hb' hd r'=>aN r' (args:=[(U c1.cur)]) (lc hd.1 l0) fT ((fJ _ c1.cur).mono (by rintro _ w2 ⟨rfl,hb2⟩; exact ⟨_,rfl,hb2,rfl⟩))) (ec r (fun fr1 u w' hb' hd r'=>aN r' (args:=[(.agg (ae c0.p).toArray),(I c0.thread),(I (D.aL c1.cur))]) (lc hd.1 (lc hd.2.1 (lc hd.2.2.1 l0))) cl82 ((sJ (j:=j) (F:=No) (n:=n) (fun _ h=>h.elim) kw c0.p c0.thread (D.aL c1.cur)).mono (by rintro _ w2 ⟨y,rfl,hb2,hr2⟩; exact ⟨_,rfl,hb2,PrepP.of (drB hb') hb2 hr2⟩))) (ec r (fun _ u _ b d s=>aQ s (v:=(.func (.func 230) #[] #[zp c0b,zp c2b])) rfl bz) ?_))))))));exact bL
  intro fr u w5 hb hΦ hne r;obtain ⟨v6,hv7⟩:∃ v,v=u 7:=⟨_,rfl⟩;have g7:u 7=v6:=hv7.symm;have hr7:=(hΦ 7 ke).2;rw [g7] at hr7
  have hr7:=hr7.loud;have r:=r.congr (sc (hΦ 8 ke) (sc g7 (sc (hΦ 6 ke) (sc (hΦ 5 ke) (sc (hΦ 4 ke) (sc (hΦ 3 ke) (sc (hΦ 2 ke) (sc (hΦ 1 ke) (sc (hΦ 0 ke) rfl)))))))))
  have Z5:=hb.size;have c0h:=keep hb c0h;have c1h:=keep hb c1h;have c2h:=keep hb c2h;have H1:=keep hb H1;obtain ⟨hB,zB⟩:=bon hb hB;have hF1:∀ b,(kW F w0 w2 b1) b→b<w5.heap.size:=by rintro b (h | ⟨_,h,_⟩); exact Nat.lt_of_lt_of_le (hF b h) hB.size; exact Nat.lt_of_lt_of_le h kw
  have f11:((kW F w0 w2 b1)) c0b:=(.inl c0F);have f12:((kW F w0 w2 b1)) c2b:=(.inl c2F);have hF2:=cf hF hB.size b1;refine kJ r (rG (F:=(kW F w0 w5 b1)) (F2:=(kW F w0 w2 b1)) (n:=n) hF2 (by rintro b ⟨h,h'⟩; exact .inr ⟨kw,kw,kw⟩) (by rintro b (h | ⟨h1,h2,h3⟩); exact .inl h; exact .inr ⟨h1,kw,h3⟩) (by rintro b ⟨h1,h2⟩ (h | ⟨h3,h4,_⟩); (have:=hF b h; omega); omega) (RepL.mono (F':=fun b=>w2.heap.size≤b∧b<w5.heap.size) (by rintro b (h | h); exact h.elim; exact h) (Same.refl _ _) (Nat.le_refl _) n _ _ hr7) ⟨230,[],[zp c0b,zp c2b],DC,rfl,fun m hm x w' hs hz=>yG (j:=j) (fun b hb=>Nat.lt_of_lt_of_le (hF1 b hb) hz) kw c0 f11 (hs.at_ f11 c0h) c2 f12 (hs.at_ f12 c2h) x⟩) rfl qR rfl fun w8 v9 hb hr10 r=>?_
  have Z8:=hb.size;have H1:=aR hb H1 (by rintro (h | ⟨_,_,h⟩); (have:=hF _ h; omega); exact h rfl)
  have hB:=Chg.aM (Z:=F) hB;have hB:=hB.bi hb (by rintro b hlt (h | ⟨h,_⟩); exact h; omega)
  have zB:=hB.size;refine kP r hr10.shape rfl rfl H1 ts57 rfl rfl fun w13 u14 r=>?_;have Z13:=u14.size
  have H1:=u14.at_;have hB:=hB.bg u14 (.inl kw)
  have zB:=hB.size;refine wn (wp_ret ?_);have hd:D.iN j c0 c1 c2 a0=(T.bind (D.eZ j c0.p c0.thread (D.aL c1.cur)) (fun x=>(D.oz j c0 c2 x))):=(aB h4).trans (rfl)
  have hs:=hr10.shape.cells;refine ak r rfl rfl H1 (k:=8) hs.1 ta57 ?_;rw [←hs.2.2,hd];exact aq.fin hB hr10 u14 (by rintro b (h | ⟨h1,h2,_⟩); exact .inl h; exact .inr ⟨h1,h2⟩) (by rintro (h | ⟨_,_,h⟩); (have:=hF _ h; omega); exact h rfl) kw kw kw
 refine wp_skip (wsr (kG (aW c1) 14 r rfl c1h db rfl rfl fun r=>?_));refine kJ r (lQ (j:=j) (F:=No) (n:=n) (fun _ h=>h.elim) kw (fun m' hm'=>lM (j:=j) (k:=j) kw kw) c1) rfl nH rfl fun w15 v16 hb hr17 r=>?_
 have hb:=hb.below;have Z15:=hb.size;have c0h:=keep hb c0h;have c1h:=keep hb c1h;have c2h:=keep hb c2h;have H1:=keep hb H1;obtain ⟨hB,zB⟩:=bon hb hB;refine ac (.func (.func 232) #[] #[zp c0b,zp c2b]) r (fun R=>aQ r rfl) rfl fun fr r=>?_;have hF1:∀ b,(kW F w0 w2 b1) b→b<w15.heap.size:=by rintro b (h | ⟨_,h,_⟩); exact Nat.lt_of_lt_of_le (hF b h) hB.size; exact Nat.lt_of_lt_of_le h kw
 have f21:((kW F w0 w2 b1)) c0b:=(.inl c0F);have f22:((kW F w0 w2 b1)) c2b:=(.inl c2F);have hF2:=cf hF hB.size b1;refine kJ r (lz (F:=(kW F w0 w15 b1)) (F2:=(kW F w0 w2 b1)) (n:=n) hF2 (by rintro b ⟨h,h'⟩; exact .inr ⟨kw,kw,kw⟩) (by rintro b (h | ⟨h1,h2,h3⟩); exact .inl h; exact .inr ⟨h1,kw,h3⟩) (by rintro b ⟨h1,h2⟩ (h | ⟨h3,h4,_⟩); (have:=hF b h; omega); omega) (RepL.mono (F':=fun b=>w2.heap.size≤b∧b<w15.heap.size) (by rintro b (h | h); exact h.elim; exact h) (Same.refl _ _) (Nat.le_refl _) n _ _ hr17) ⟨232,[],[zp c0b,zp c2b],Ej,rfl,fun m hm x w' hs hz=>yE (j:=j) (fun b hb=>Nat.lt_of_lt_of_le (hF1 b hb) hz) kw c0 f21 (hs.at_ f21 c0h) c2 f22 (hs.at_ f22 c2h) x⟩) rfl lg rfl fun w18 v19 hb hr20 r=>?_
 have Z18:=hb.size;have H1:=aR hb H1 (by rintro (h | ⟨_,_,h⟩); (have:=hF _ h; omega); exact h rfl)
 have hB:=Chg.aM (Z:=F) hB;have hB:=hB.bi hb (by rintro b hlt (h | ⟨h,_⟩); exact h; omega)
 have zB:=hB.size;refine kP r hr20.shape rfl rfl H1 ts57 rfl rfl fun w23 u24 r=>?_;have Z23:=u24.size
 have H1:=u24.at_;have hB:=hB.bg u24 (.inl kw)
 have zB:=hB.size;refine wn (wp_ret ?_);have hd:D.iN j c0 c1 c2 a0=(T.bind (D.ep j (D.bN j j) c1) (fun x=>(D.oC j c0 c2 x))):=(aD h4).trans (rfl)
 have hs:=hr20.shape.cells;refine ak r rfl rfl H1 (k:=8) hs.1 ta57 ?_;rw [←hs.2.2,hd];exact aq.fin hB hr20 u24 (by rintro b (h | ⟨h1,h2,_⟩); exact .inl h; exact .inr ⟨h1,h2⟩) (by rintro (h | ⟨_,_,h⟩); (have:=hF _ h; omega); exact h rfl) kw kw kw
def D.jV (j:Nat) (a0:Seat) (a1:Walk) (a2:Int):T Res:=(D.fH a1.place a1.cur a1.next (fun x=>(D.iN j a0 a1 a2 x)))
set_option maxRecDepth 20000 in
set_option maxHeartbeats 8000000 in
theorem zW (hF:kH F w0) (hj:n<j)
    (a0:Seat) (a1:Walk) (a2:Int) :
    Calls Tryz.prog 129 #[.agg (au a0).toArray,.agg (aW a1).toArray,.int .u64 a2] w0 (aq Tryz.prog ar n (D.jV j a0 a1 a2) F w0):=by
 refine kN Tryz.func129 rfl 15 rfl rfl fun fr r hB=>?_;refine wsr ?_
 refine kX 63 (.agg (au a0).toArray) r rfl rfl fun b1 w2 n3 r=>?_;obtain ⟨E1,Z2,H1,hB,zB⟩:=n3.all hB
 refine kX 206 (.agg (aW a1).toArray) r rfl rfl fun b4 w5 n6 r=>?_;have H1:=keep n6.below H1
 obtain ⟨E4,Z5,H4,hB,zB⟩:=n6.all hB;refine kX 36 (U a2) r rfl rfl fun b7 w8 n9 r=>?_;have H1:=keep n9.below H1
 have H4:=keep n9.below H4;obtain ⟨E7,Z8,H7,hB,zB⟩:=n9.all hB;refine ai (.cells (af false ar.zero 0 0 0 0 .nilFunc) 57 (0,0)) r (fun R=>ah tz57) rfl fun fr b10 w11 n12 r=>?_;have H1:=keep n12.below H1
 have H4:=keep n12.below H4;have H7:=keep n12.below H7;obtain ⟨E10,Z11,H10,hB,zB⟩:=n12.all hB;refine wn (wsr (kF 0 r rfl kY rfl fun r=>kL (I a1.place) r rfl H4 to3 rfl rfl fun r=>kF 0 r rfl eI rfl fun r=>kL (U a1.cur) r rfl H4 to36 rfl rfl fun r=>kF 0 r rfl gD rfl fun r=>kL (U a1.next) r rfl H4 to36 rfl rfl fun r=>ac (.func (.func 229) #[] #[zp b1,zp b4,zp b7]) r (fun R=>aQ r rfl) rfl fun fr r=>?_));have hF1:=cf hF hB.size b10
 have f16:((kW F w0 w11 b10)) b1:=(.inr ⟨kw,kw,kw⟩)
 have f17:((kW F w0 w11 b10)) b4:=(.inr ⟨kw,kw,kw⟩)
 have f18:((kW F w0 w11 b10)) b7:=(.inr ⟨kw,kw,kw⟩)
 refine kJ r (oE (F:=(kW F w0 w11 b10)) (n:=n) hF1 a1.place a1.cur a1.next ⟨229,[],[zp b1,zp b4,zp b7],Eo,rfl,fun m hm x w' hs hz=>zm (j:=j) (fun b hb=>Nat.lt_of_lt_of_le (hF1 b hb) hz) kw a0 f16 (hs.at_ f16 H1) a1 f17 (hs.at_ f17 H4) a2 f18 (hs.at_ f18 H7) x⟩) rfl rk rfl fun w13 v14 hb hr15 r=>?_;have Z13:=hb.size
 have H10:=aR hb H10 (by rintro (h | ⟨_,_,h⟩); (have:=hF _ h; omega); exact h rfl)
 have hB:=Chg.aM (Z:=F) hB;have hB:=hB.bi hb (by rintro b hlt (h | ⟨h,_⟩); exact h; omega)
 have zB:=hB.size;refine kP r hr15.shape rfl rfl H10 ts57 rfl rfl fun w19 u20 r=>?_;have Z19:=u20.size
 have H10:=u20.at_;have hB:=hB.bg u20 (.inl kw)
 have zB:=hB.size;refine wn (wp_ret ?_);have hs:=hr15.shape.cells;refine ak r rfl rfl H10 (k:=8) hs.1 ta57 ?_;rw [←hs.2.2];exact aq.fin hB hr15 u20 (by rintro b (h | ⟨h1,h2,_⟩); exact .inl h; exact .inr ⟨h1,h2⟩) (by rintro (h | ⟨_,_,h⟩); (have:=hF _ h; omega); exact h rfl) kw kw kw
def D.jJ (j:Nat) (r_list_Del:Seat→Int→Int→T Res) (c0:Seat) (c1:Int) (c2:Int) (c3:Walk) (c4:Int) (a0:Bool):T Res:=(bif (!a0) then (r_list_Del c0 c1 c2) else (D.jV j c0 c3 c4))
def D.mg (j:Nat) (r_list_Del:Seat→Int→Int→T Res) (c0:Seat) (c1:Int) (c2:Walk) (c3:Int) (c4:Int) (a0:Int):T Res:=(D.fH (D.aS c0.p c1 2) c2.next (dx .u64 c2.next 1) (fun x=>(D.jJ j r_list_Del c0 c3 c4 c2 a0 x)))
def D.fN (j:Nat) (r_list_Del:Seat→Int→Int→T Res) (c0:Seat) (c1:Int) (c2:Int) (a0:Walk):T Res:=(bif (!a0.there) then (D.dB j c0 (⟨6,0⟩:Res)) else (D.eV (D.aS c0.p (D.aL a0.cur) 1) (fun x=>(D.mg j r_list_Del c0 (D.aL a0.cur) a0 c1 c2 x))))
def D.sP (j:Nat) (r_list_Del:Seat→Int→Int→T Res) (a0:Seat) (a1:Int) (a2:Int):T Res:=(T.bind (D.gy j (D.bN j j) a0 a1 a2) (fun x=>(D.fN j r_list_Del a0 a1 a2 x)))
def D.cB (j:Nat):Nat→Seat→Int→Int→T Res
  | 0,_,_,_=>.cut
  | k+1,a0,a1,a2=>D.sP j (D.cB j k) a0 a1 a2
def jQ (r:Seat→Int→Int→T Res) (n:Nat):Prop:=∀ (F:Nat→Prop) (w0:World),(∀ b,F b→b<w0.heap.size)→∀ (a0:Seat) (a1:Int) (a2:Int),Calls Tryz.prog 52 #[.agg (au a0).toArray,.int .i64 a1,.int .u64 a2] w0 (aq Tryz.prog ar n (r a0 a1 a2) F w0)
set_option maxRecDepth 20000 in
set_option maxHeartbeats 8000000 in
theorem zq {r_list_Del:Seat→Int→Int→T Res} (hF:kH F w0) (hj:n<j) (ih_list_Del:∀ m,m≤n→jQ r_list_Del m)
    (c0:Seat) {c0b:Nat} (c0F:F c0b) (c0h:w0.heap[c0b]?=some (.cells ((au c0)).toArray 63 (0,0))) (c1:Int) {c1b:Nat} (c1F:F c1b) (c1h:w0.heap[c1b]?=some (.cells ([(.int .i64 c1)]).toArray 3 (0,0))) (c2:Int) {c2b:Nat} (c2F:F c2b) (c2h:w0.heap[c2b]?=some (.cells ([(.int .u64 c2)]).toArray 36 (0,0))) (c3:Walk) {c3b:Nat} (c3F:F c3b) (c3h:w0.heap[c3b]?=some (.cells ((aW c3)).toArray 206 (0,0))) (c4:Int) {c4b:Nat} (c4F:F c4b) (c4h:w0.heap[c4b]?=some (.cells ([(.int .u64 c4)]).toArray 36 (0,0))) (a0:Bool) :
    Calls Tryz.prog 128 #[.bool a0,zp c0b,zp c1b,zp c2b,zp c3b,zp c4b] w0 (aq Tryz.prog ar n (D.jJ j r_list_Del c0 c1 c2 c3 c4 a0) F w0):=by
 refine kN Tryz.func128 rfl 18 rfl rfl fun fr r hB=>?_;have lc0b:=lt_of_block c0h
 have lc1b:=lt_of_block c1h;have lc2b:=lt_of_block c2h;have lc3b:=lt_of_block c3h;have lc4b:=lt_of_block c4h;refine wsr ?_;refine ai (.cells (af false ar.zero 0 0 0 0 .nilFunc) 57 (0,0)) r (fun R=>ah tz57) rfl fun fr b1 w2 n3 r=>?_;obtain ⟨E1,Z2,H1,hB,zB⟩:=n3.all hB
 refine wn (wp_seq (wsr (kM (.bool a0) r rfl rfl fun r=>ac (.bool (!a0)) r (fun R=>y_un r (u:=(.bool a0)) rfl rfl) rfl fun fr r=>wn ?_)));refine wp_cond_split (t:=(!a0)) (r.ev rfl) (fun h4=>?_) (fun h4=>?_)
 ·
  refine wsr (kG (au c0) 8 r rfl (keep hB c0h) ta63 rfl rfl fun r=>kL (I c1) r rfl (keep hB c1h) to3 rfl rfl fun r=>kL (U c2) r rfl (keep hB c2h) to36 rfl rfl fun r=>?_);refine kJ r ((ih_list_Del n kw) (No) _ (fun _ h=>h.elim) c0 c1 c2) rfl cl52 rfl fun w5 v6 hb hr7 r=>?_
  have hb:=hb.below;have Z5:=hb.size;have H1:=keep hb H1;obtain ⟨hB,zB⟩:=bon hb hB;refine kP r hr7.shape rfl rfl H1 ts57 rfl rfl fun w8 u9 r=>?_;have Z8:=u9.size
  have H1:=u9.at_;obtain ⟨hB,zB⟩:=u9.on hB kw
  refine wn (wp_ret ?_);have hd:D.jJ j r_list_Del c0 c1 c2 c3 c4 a0=(r_list_Del c0 c1 c2):=(aB h4).trans (rfl);have hs:=hr7.shape.cells;refine ak r rfl rfl H1 (k:=8) hs.1 ta57 ?_;rw [←hs.2.2,hd];exact aq.fin (Chg.aM hB) hr7 u9 (fun _ h=>h.elim) (fun h=>h) kw kw kw
 refine wp_skip (wsr (kG (au c0) 8 r rfl (keep hB c0h) ta63 rfl rfl fun r=>kG (aW c3) 14 r rfl (keep hB c3h) db rfl rfl fun r=>kL (U c4) r rfl (keep hB c4h) to36 rfl rfl fun r=>?_));refine kJ r (zW (j:=j) (F:=No) (n:=n) (fun _ h=>h.elim) kw c0 c3 c4) rfl Fp rfl fun w10 v11 hb hr12 r=>?_
 have hb:=hb.below;have Z10:=hb.size;have H1:=keep hb H1;obtain ⟨hB,zB⟩:=bon hb hB;refine kP r hr12.shape rfl rfl H1 ts57 rfl rfl fun w13 u14 r=>?_;have Z13:=u14.size
 have H1:=u14.at_;obtain ⟨hB,zB⟩:=u14.on hB kw
 refine wn (wp_ret ?_);have hd:D.jJ j r_list_Del c0 c1 c2 c3 c4 a0=(D.jV j c0 c3 c4):=(aD h4).trans (rfl);have hs:=hr12.shape.cells;refine ak r rfl rfl H1 (k:=8) hs.1 ta57 ?_;rw [←hs.2.2,hd];exact aq.fin (Chg.aM hB) hr12 u14 (fun _ h=>h.elim) (fun h=>h) kw kw kw
set_option maxRecDepth 20000 in
set_option maxHeartbeats 8000000 in
theorem zL {r_list_Del:Seat→Int→Int→T Res} (hF:kH F w0) (hj:n<j) (ih_list_Del:∀ m,m<n→jQ r_list_Del m)
    (c0:Seat) {c0b:Nat} (c0F:F c0b) (c0h:w0.heap[c0b]?=some (.cells ((au c0)).toArray 63 (0,0))) (c1:Int) {c1b:Nat} (c1F:F c1b) (c1h:w0.heap[c1b]?=some (.cells ([(.int .i64 c1)]).toArray 3 (0,0))) (c2:Walk) {c2b:Nat} (c2F:F c2b) (c2h:w0.heap[c2b]?=some (.cells ((aW c2)).toArray 206 (0,0))) (c3:Int) {c3b:Nat} (c3F:F c3b) (c3h:w0.heap[c3b]?=some (.cells ([(.int .i64 c3)]).toArray 3 (0,0))) (c4:Int) {c4b:Nat} (c4F:F c4b) (c4h:w0.heap[c4b]?=some (.cells ([(.int .u64 c4)]).toArray 36 (0,0))) (a0:Int) :
    Calls Tryz.prog 126 #[.int .u64 a0,zp c0b,zp c1b,zp c2b,zp c3b,zp c4b] w0 (aq Tryz.prog ar n (D.mg j r_list_Del c0 c1 c2 c3 c4 a0) F w0):=by
 refine kN Tryz.func126 rfl 19 rfl rfl fun fr r hB=>?_;have lc0b:=lt_of_block c0h
 have lc1b:=lt_of_block c1h;have lc2b:=lt_of_block c2h;have lc3b:=lt_of_block c3h;have lc4b:=lt_of_block c4h;refine wsr ?_;refine kX 36 (U a0) r rfl rfl fun b1 w2 n3 r=>?_;have c0h:=keep n3.below c0h
 have c1h:=keep n3.below c1h;have c2h:=keep n3.below c2h;have c3h:=keep n3.below c3h;have c4h:=keep n3.below c4h;obtain ⟨E1,Z2,H1,hB,zB⟩:=n3.all hB;refine ai (.cells (af false ar.zero 0 0 0 0 .nilFunc) 57 (0,0)) r (fun R=>ah tz57) rfl fun fr b4 w5 n6 r=>?_;have c0h:=keep n6.below c0h
 have c1h:=keep n6.below c1h;have c2h:=keep n6.below c2h;have c3h:=keep n6.below c3h;have c4h:=keep n6.below c4h;have H1:=keep n6.below H1;obtain ⟨E4,Z5,H4,hB,zB⟩:=n6.all hB;refine wn (wp_seq ?_);refine bK 10 [.val (zp c0b),.val (.agg (ae c0.p).toArray),.val (I c1),.val (I (D.aS c0.p c1 2)),.val (.pointer (some ⟨c2b,12,none⟩)),.val (U c2.next),.val (.pointer (some ⟨c2b,12,none⟩)),.val (U c2.next),.val (U (dx .u64 c2.next 1)),.val (.func (.func 128) #[] #[zp c0b,zp c3b,zp c4b,zp c2b,zp b1])] mixed r kz (kV (kV (kV (kV (kV (kV (kV (kV (kV (kV bJ)))))))))) ?_ ?_
 ·
  refine ec r (fun _ u _ b d s=>ay s (b:=c0b) (o:=0) rfl dq bz) (ec r (fun _ u _ b d s=>aT s (cs:=(ae c0.p)) (n:=6) d.1 (keep b c0h) ta23 rfl bz) (ec r (fun _ u _ b d s=>av s rfl (keep b c1h) to3 rfl bz) (ec r (fun fr1 u w' hb' hd r'=>aN r' (args:=[(.agg (ae c0.p).toArray),(I c1),(I 2)]) (lc hd.1 (lc hd.2.1 (lc rfl l0))) cl85 ((dL _ c0.p c1 2).mono (by rintro _ w2 ⟨rfl,hb2⟩; exact ⟨_,rfl,hb2,rfl⟩))) (ec r (fun _ u _ b d s=>ay s (b:=c2b) (o:=0) rfl gD bz) (ec r (fun _ u _ b d s=>av s d.1 (keep b c2h) to36 rfl bz) (ec r (fun _ u _ b d s=>ay s (b:=c2b) (o:=0) rfl gD bz) (ec r (fun _ u _ b d s=>av s d.1 (keep b c2h) to36 rfl bz) (ec r (fun _ u _ b d s=>ba s d.1 rfl rfl rfl bz) (ec r (fun _ u _ b d s=>aQ s (v:=(.func (.func 128) #[] #[zp c0b,zp c3b,zp c4b,zp c2b,zp b1])) rfl bz) ?_)))))))));exact bL
 intro fr u w7 hb hΦ hne r;have r:=r.congr (sc (hΦ 9 ke) (sc (hΦ 8 ke) (sc (hΦ 7 ke) (sc (hΦ 6 ke) (sc (hΦ 5 ke) (sc (hΦ 4 ke) (sc (hΦ 3 ke) (sc (hΦ 2 ke) (sc (hΦ 1 ke) (sc (hΦ 0 ke) rfl))))))))));have Z7:=hb.size;have c0h:=keep hb c0h;have c1h:=keep hb c1h;have c2h:=keep hb c2h;have c3h:=keep hb c3h;have c4h:=keep hb c4h;have H1:=keep hb H1;have H4:=keep hb H4;obtain ⟨hB,zB⟩:=bon hb hB;have hF1:=cf hF hB.size b4;have f11:((kW F w0 w7 b4)) c0b:=(.inl c0F);have f12:((kW F w0 w7 b4)) c3b:=(.inl c3F);have f13:((kW F w0 w7 b4)) c4b:=(.inl c4F);have f14:((kW F w0 w7 b4)) c2b:=(.inl c2F);have f15:((kW F w0 w7 b4)) b1:=(.inr ⟨kw,kw,kw⟩)
 refine kJ r (oE (F:=(kW F w0 w7 b4)) (n:=n) hF1 (D.aS c0.p c1 2) c2.next (dx .u64 c2.next 1) ⟨128,[],[zp c0b,zp c3b,zp c4b,zp c2b,zp b1],FE,rfl,fun m hm x w' hs hz=>zq (j:=j) (fun b hb=>Nat.lt_of_lt_of_le (hF1 b hb) hz) kw (fun m' hm'=>ih_list_Del m' kw) c0 f11 (hs.at_ f11 c0h) c3 f12 (hs.at_ f12 c3h) c4 f13 (hs.at_ f13 c4h) c2 f14 (hs.at_ f14 c2h) a0 f15 (hs.at_ f15 H1) x⟩) rfl rk rfl fun w8 v9 hb hr10 r=>?_;have Z8:=hb.size
 have H4:=aR hb H4 (by rintro (h | ⟨_,_,h⟩); (have:=hF _ h; omega); exact h rfl)
 have hB:=Chg.aM (Z:=F) hB;have hB:=hB.bi hb (by rintro b hlt (h | ⟨h,_⟩); exact h; omega)
 have zB:=hB.size;refine kP r hr10.shape rfl rfl H4 ts57 rfl rfl fun w16 u17 r=>?_;have Z16:=u17.size
 have H4:=u17.at_;have hB:=hB.bg u17 (.inl kw)
 have zB:=hB.size;refine wn (wp_ret ?_);have hs:=hr10.shape.cells;refine ak r rfl rfl H4 (k:=8) hs.1 ta57 ?_;rw [←hs.2.2];exact aq.fin hB hr10 u17 (by rintro b (h | ⟨h1,h2,_⟩); exact .inl h; exact .inr ⟨h1,h2⟩) (by rintro (h | ⟨_,_,h⟩); (have:=hF _ h; omega); exact h rfl) kw kw kw
set_option maxRecDepth 20000 in
set_option maxHeartbeats 8000000 in
theorem AB {r_list_Del:Seat→Int→Int→T Res} (hF:kH F w0) (hj:n<j) (ih_list_Del:∀ m,m<n→jQ r_list_Del m)
    (c0:Seat) {c0b:Nat} (c0F:F c0b) (c0h:w0.heap[c0b]?=some (.cells ((au c0)).toArray 63 (0,0))) (c1:Int) {c1b:Nat} (c1F:F c1b) (c1h:w0.heap[c1b]?=some (.cells ([(.int .i64 c1)]).toArray 3 (0,0))) (c2:Int) {c2b:Nat} (c2F:F c2b) (c2h:w0.heap[c2b]?=some (.cells ([(.int .u64 c2)]).toArray 36 (0,0))) (a0:Walk) :
    Calls Tryz.prog 123 #[.agg (aW a0).toArray,zp c0b,zp c1b,zp c2b] w0 (aq Tryz.prog ar n (D.fN j r_list_Del c0 c1 c2 a0) F w0):=by
 refine kN Tryz.func123 rfl 22 rfl rfl fun fr r hB=>?_;have lc0b:=lt_of_block c0h
 have lc1b:=lt_of_block c1h;have lc2b:=lt_of_block c2h;refine wsr ?_;refine kX 206 (.agg (aW a0).toArray) r rfl rfl fun b1 w2 n3 r=>?_;have c0h:=keep n3.below c0h
 have c1h:=keep n3.below c1h;have c2h:=keep n3.below c2h;obtain ⟨E1,Z2,H1,hB,zB⟩:=n3.all hB;refine ai (.cells (af false ar.zero 0 0 0 0 .nilFunc) 57 (0,0)) r (fun R=>ah tz57) rfl fun fr b4 w5 n6 r=>?_;have c0h:=keep n6.below c0h
 have c1h:=keep n6.below c1h;have c2h:=keep n6.below c2h;have H1:=keep n6.below H1;obtain ⟨E4,Z5,H4,hB,zB⟩:=n6.all hB;refine wn (wp_seq (wsr (kF 0 r rfl l5 rfl fun r=>kL (.bool a0.there) r rfl H1 to4 rfl rfl fun r=>ac (.bool (!a0.there)) r (fun R=>y_un r (u:=(.bool a0.there)) rfl rfl) rfl fun fr r=>wn ?_)));refine wp_cond_split (t:=(!a0.there)) (r.ev rfl) (fun h7=>?_) (fun h7=>?_)
 ·
  refine wsr (kG (au c0) 8 r rfl c0h ta63 rfl rfl fun r=>kU (.agg (resC (⟨6,0⟩:Res)).toArray) r kz rfl fun r=>?_);refine kJ r (iP (j:=j) (F:=No) (n:=n) (fun _ h=>h.elim) kw c0 (⟨6,0⟩:Res)) rfl jm rfl fun w8 v9 hb hr10 r=>?_
  have hb:=hb.below;have Z8:=hb.size;have c0h:=keep hb c0h;have c1h:=keep hb c1h;have c2h:=keep hb c2h;have H1:=keep hb H1;have H4:=keep hb H4;obtain ⟨hB,zB⟩:=bon hb hB;refine kP r hr10.shape rfl rfl H4 ts57 rfl rfl fun w11 u12 r=>?_;have Z11:=u12.size
  have c0h:=u12.keep c0h kw
  have c1h:=u12.keep c1h kw
  have c2h:=u12.keep c2h kw
  have H1:=u12.keep H1 kw
  have H4:=u12.at_;obtain ⟨hB,zB⟩:=u12.on hB kw
  refine wn (wp_ret ?_);have hd:D.fN j r_list_Del c0 c1 c2 a0=(D.dB j c0 (⟨6,0⟩:Res)):=(aB h7).trans (rfl);have hs:=hr10.shape.cells;refine ak r rfl rfl H4 (k:=8) hs.1 ta57 ?_;rw [←hs.2.2,hd];exact aq.fin (Chg.aM hB) hr10 u12 (fun _ h=>h.elim) (fun h=>h) kw kw kw
 refine wp_skip (wsr (kF 0 r rfl eI rfl fun r=>kL (U a0.cur) r rfl H1 to36 rfl rfl fun r=>?_));refine kE r (fJ w5 a0.cur) rfl fT rfl fun w13 hb r=>?_
 have Z13:=hb.size;have c0h:=keep hb c0h;have c1h:=keep hb c1h;have c2h:=keep hb c2h;have H1:=keep hb H1;have H4:=keep hb H4;obtain ⟨hB,zB⟩:=bon hb hB;refine ai (.cells #[(I 0)] 3 (0,0)) r (fun R=>ah tz3) rfl fun fr b14 w15 n16 r=>?_;have c0h:=keep n16.below c0h
 have c1h:=keep n16.below c1h;have c2h:=keep n16.below c2h;have H1:=keep n16.below H1;have H4:=keep n16.below H4;obtain ⟨E14,Z15,H14,hB,zB⟩:=n16.all hB;refine bd (.cells #[(I (D.aL a0.cur))] 3 (0,0)) r (fun R=>aV r (o:=0) (v:=(I (D.aL a0.cur))) rfl rfl H14 ts3 (Nat.le_of_ble_eq_true rfl) rfl rfl) rfl fun fr w17 u18 r=>?_;have Z17:=u18.size
 have c0h:=u18.keep c0h kw
 have c1h:=u18.keep c1h kw
 have c2h:=u18.keep c2h kw
 have H1:=u18.keep H1 kw
 have H4:=u18.keep H4 kw
 have H14:=u18.at_;obtain ⟨hB,zB⟩:=u18.on hB kw
 refine wn (wsr (kF 0 r rfl dq rfl fun r=>kG (ae c0.p) 6 r rfl c0h ta23 rfl rfl fun r=>kL (I (D.aL a0.cur)) r rfl H14 to3 rfl rfl fun r=>?_));refine kE r (dL w17 c0.p (D.aL a0.cur) 1) rfl cl85 rfl fun w19 hb r=>?_
 have Z19:=hb.size;have c0h:=keep hb c0h;have c1h:=keep hb c1h;have c2h:=keep hb c2h;have H1:=keep hb H1;have H4:=keep hb H4;have H14:=keep hb H14;obtain ⟨hB,zB⟩:=bon hb hB;refine ac (.func (.func 126) #[] #[zp c0b,zp b14,zp b1,zp c1b,zp c2b]) r (fun R=>aQ r rfl) rfl fun fr r=>?_;have hF1:=cf hF hB.size b4
 have f23:((kW F w0 w19 b4)) c0b:=(.inl c0F);have f24:((kW F w0 w19 b4)) b14:=(.inr ⟨kw,kw,kw⟩)
 have f25:((kW F w0 w19 b4)) b1:=(.inr ⟨kw,kw,kw⟩)
 have f26:((kW F w0 w19 b4)) c1b:=(.inl c1F);have f27:((kW F w0 w19 b4)) c2b:=(.inl c2F);refine kJ r (s8 (F:=(kW F w0 w19 b4)) (n:=n) hF1 (D.aS c0.p (D.aL a0.cur) 1) ⟨126,[],[zp c0b,zp b14,zp b1,zp c1b,zp c2b],Fe,rfl,fun m hm x w' hs hz=>zL (j:=j) (fun b hb=>Nat.lt_of_lt_of_le (hF1 b hb) hz) kw (fun m' hm'=>ih_list_Del m' kw) c0 f23 (hs.at_ f23 c0h) (D.aL a0.cur) f24 (hs.at_ f24 H14) a0 f25 (hs.at_ f25 H1) c1 f26 (hs.at_ f26 c1h) c2 f27 (hs.at_ f27 c2h) x⟩) rfl wX rfl fun w20 v21 hb hr22 r=>?_;have Z20:=hb.size
 have H4:=aR hb H4 (by rintro (h | ⟨_,_,h⟩); (have:=hF _ h; omega); exact h rfl)
 have hB:=Chg.aM (Z:=F) hB;have hB:=hB.bi hb (by rintro b hlt (h | ⟨h,_⟩); exact h; omega)
 have zB:=hB.size;refine kP r hr22.shape rfl rfl H4 ts57 rfl rfl fun w28 u29 r=>?_;have Z28:=u29.size
 have H4:=u29.at_;have hB:=hB.bg u29 (.inl kw)
 have zB:=hB.size;refine wn (wp_ret ?_);have hd:D.fN j r_list_Del c0 c1 c2 a0=(D.eV (D.aS c0.p (D.aL a0.cur) 1) (fun x=>(D.mg j r_list_Del c0 (D.aL a0.cur) a0 c1 c2 x))):=(aD h7).trans (rfl)
 have hs:=hr22.shape.cells;refine ak r rfl rfl H4 (k:=8) hs.1 ta57 ?_;rw [←hs.2.2,hd];exact aq.fin hB hr22 u29 (by rintro b (h | ⟨h1,h2,_⟩); exact .inl h; exact .inr ⟨h1,h2⟩) (by rintro (h | ⟨_,_,h⟩); (have:=hF _ h; omega); exact h rfl) kw kw kw
set_option maxRecDepth 20000 in
set_option maxHeartbeats 8000000 in
theorem Br {n:Nat} {F:Nat→Prop} {j:Nat} {r_list_Del:Seat→Int→Int→T Res} {w0:World} (hF:∀ b,F b→b<w0.heap.size) (hj:n<j) (ih_list_Del:∀ m,m<n→jQ r_list_Del m)
    (a0:Seat) (a1:Int) (a2:Int) :
    Calls Tryz.prog 52 #[.agg (au a0).toArray,.int .i64 a1,.int .u64 a2] w0 (aq Tryz.prog ar n (D.sP j r_list_Del a0 a1 a2) F w0):=by
 refine kN Tryz.func52 rfl 13 rfl rfl fun fr r hB=>?_;refine wsr ?_
 refine kX 63 (.agg (au a0).toArray) r rfl rfl fun b1 w2 n3 r=>?_;obtain ⟨E1,Z2,H1,hB,zB⟩:=n3.all hB
 refine kX 3 (I a1) r rfl rfl fun b4 w5 n6 r=>?_;have H1:=keep n6.below H1
 obtain ⟨E4,Z5,H4,hB,zB⟩:=n6.all hB;refine kX 36 (U a2) r rfl rfl fun b7 w8 n9 r=>?_;have H1:=keep n9.below H1
 have H4:=keep n9.below H4;obtain ⟨E7,Z8,H7,hB,zB⟩:=n9.all hB;refine ai (.cells (af false ar.zero 0 0 0 0 .nilFunc) 57 (0,0)) r (fun R=>ah tz57) rfl fun fr b10 w11 n12 r=>?_;have H1:=keep n12.below H1
 have H4:=keep n12.below H4;have H7:=keep n12.below H7;obtain ⟨E10,Z11,H10,hB,zB⟩:=n12.all hB;refine wn (wsr (kG (au a0) 8 r rfl H1 ta63 rfl rfl fun r=>kL (I a1) r rfl H4 to3 rfl rfl fun r=>kL (U a2) r rfl H7 to36 rfl rfl fun r=>?_));refine kJ r (mi (j:=j) (F:=No) (n:=n) (fun _ h=>h.elim) kw (fun m' hm'=>lM (j:=j) (k:=j) kw kw) a0 a1 a2) rfl nK rfl fun w13 v14 hb hr15 r=>?_
 have hb:=hb.below;have Z13:=hb.size;have H1:=keep hb H1;have H4:=keep hb H4;have H7:=keep hb H7;have H10:=keep hb H10;obtain ⟨hB,zB⟩:=bon hb hB;refine ac (.func (.func 123) #[] #[zp b1,zp b4,zp b7]) r (fun R=>aQ r rfl) rfl fun fr r=>?_;have hF1:∀ b,(kW F w0 w11 b10) b→b<w13.heap.size:=by rintro b (h | ⟨_,h,_⟩); exact Nat.lt_of_lt_of_le (hF b h) hB.size; exact Nat.lt_of_lt_of_le h kw
 have f19:((kW F w0 w11 b10)) b1:=(.inr ⟨kw,kw,kw⟩)
 have f20:((kW F w0 w11 b10)) b4:=(.inr ⟨kw,kw,kw⟩)
 have f21:((kW F w0 w11 b10)) b7:=(.inr ⟨kw,kw,kw⟩)
 have hF2:=cf hF hB.size b10;refine kJ r (lz (F:=(kW F w0 w13 b10)) (F2:=(kW F w0 w11 b10)) (n:=n) hF2 (by rintro b ⟨h,h'⟩; exact .inr ⟨kw,kw,kw⟩) (by rintro b (h | ⟨h1,h2,h3⟩); exact .inl h; exact .inr ⟨h1,kw,h3⟩) (by rintro b ⟨h1,h2⟩ (h | ⟨h3,h4,_⟩); (have:=hF b h; omega); omega) (RepL.mono (F':=fun b=>w11.heap.size≤b∧b<w13.heap.size) (by rintro b (h | h); exact h.elim; exact h) (Same.refl _ _) (Nat.le_refl _) n _ _ hr15) ⟨123,[],[zp b1,zp b4,zp b7],Ep,rfl,fun m hm x w' hs hz=>AB (j:=j) (fun b hb=>Nat.lt_of_lt_of_le (hF1 b hb) hz) kw (fun m' hm'=>ih_list_Del m' kw) a0 f19 (hs.at_ f19 H1) a1 f20 (hs.at_ f20 H4) a2 f21 (hs.at_ f21 H7) x⟩) rfl lg rfl fun w16 v17 hb hr18 r=>?_
 have Z16:=hb.size;have H10:=aR hb H10 (by rintro (h | ⟨_,_,h⟩); (have:=hF _ h; omega); exact h rfl)
 have hB:=Chg.aM (Z:=F) hB;have hB:=hB.bi hb (by rintro b hlt (h | ⟨h,_⟩); exact h; omega)
 have zB:=hB.size;refine kP r hr18.shape rfl rfl H10 ts57 rfl rfl fun w22 u23 r=>?_;have Z22:=u23.size
 have H10:=u23.at_;have hB:=hB.bg u23 (.inl kw)
 have zB:=hB.size;refine wn (wp_ret ?_);have hs:=hr18.shape.cells;refine ak r rfl rfl H10 (k:=8) hs.1 ta57 ?_;rw [←hs.2.2];exact aq.fin hB hr18 u23 (by rintro b (h | ⟨h1,h2,_⟩); exact .inl h; exact .inr ⟨h1,h2⟩) (by rintro (h | ⟨_,_,h⟩); (have:=hF _ h; omega); exact h rfl) kw kw kw
theorem px {n:Nat} {j:Nat} (hj:n<j) {k:Nat} (hk:n<k):jQ (D.cB j k) n:=by
  induction n using Nat.strongRecOn generalizing k with
  | _ n ih=>
    obtain ⟨k,rfl⟩:∃ q,k=q+1:=⟨k - 1,kw⟩
    intro F w0 hF;have h:=@Br n F j (D.cB j k) w0 hF hj (fun m hm=>ih m hm kw kw)
    exact h
def D.oZ (j:Nat) (c0:Seat) (a0:Int):T Res:=(D.dB j c0 (⟨0,a0⟩:Res))
set_option maxRecDepth 20000 in
set_option maxHeartbeats 8000000 in
theorem zO (hF:kH F w0) (hj:n<j)
    (c0:Seat) {c0b:Nat} (c0F:F c0b) (c0h:w0.heap[c0b]?=some (.cells ((au c0)).toArray 63 (0,0))) (a0:Int) :
    Calls Tryz.prog 134 #[.int .u64 a0,zp c0b] w0 (aq Tryz.prog ar n (D.oZ j c0 a0) F w0):=by
 refine kN Tryz.func134 rfl 8 rfl rfl fun fr r hB=>?_;have lc0b:=lt_of_block c0h
 refine wsr ?_;refine ai (.cells (af false ar.zero 0 0 0 0 .nilFunc) 57 (0,0)) r (fun R=>ah tz57) rfl fun fr b1 w2 n3 r=>?_;obtain ⟨E1,Z2,H1,hB,zB⟩:=n3.all hB
 refine wn (wsr (kG (au c0) 8 r rfl (keep hB c0h) ta63 rfl rfl fun r=>kM (U a0) r rfl rfl fun r=>kU (.agg (resC (⟨0,a0⟩:Res)).toArray) r kz rfl fun r=>?_));refine kJ r (iP (j:=j) (F:=No) (n:=n) (fun _ h=>h.elim) kw c0 (⟨0,a0⟩:Res)) rfl jm rfl fun w4 v5 hb hr6 r=>?_
 have hb:=hb.below;have Z4:=hb.size;have H1:=keep hb H1;obtain ⟨hB,zB⟩:=bon hb hB;refine kP r hr6.shape rfl rfl H1 ts57 rfl rfl fun w7 u8 r=>?_;have Z7:=u8.size
 have H1:=u8.at_;obtain ⟨hB,zB⟩:=u8.on hB kw
 refine wn (wp_ret ?_);have hs:=hr6.shape.cells;refine ak r rfl rfl H1 (k:=8) hs.1 ta57 ?_;rw [←hs.2.2];exact aq.fin (Chg.aM hB) hr6 u8 (fun _ h=>h.elim) (fun h=>h) kw kw kw
def D.fk (j:Nat) (c0:Seat) (a0:Walk):T Res:=(bif (!a0.there) then (D.dB j c0 (⟨6,0⟩:Res)) else (D.eV (D.aS c0.p (D.aL a0.cur) 1) (fun x=>(D.oZ j c0 x))))
set_option maxRecDepth 20000 in
set_option maxHeartbeats 8000000 in
theorem Am (hF:kH F w0) (hj:n<j)
    (c0:Seat) {c0b:Nat} (c0F:F c0b) (c0h:w0.heap[c0b]?=some (.cells ((au c0)).toArray 63 (0,0))) (a0:Walk) :
    Calls Tryz.prog 133 #[.agg (aW a0).toArray,zp c0b] w0 (aq Tryz.prog ar n (D.fk j c0 a0) F w0):=by
 refine kN Tryz.func133 rfl 18 rfl rfl fun fr r hB=>?_;have lc0b:=lt_of_block c0h
 refine wsr ?_;refine kX 206 (.agg (aW a0).toArray) r rfl rfl fun b1 w2 n3 r=>?_;have c0h:=keep n3.below c0h
 obtain ⟨E1,Z2,H1,hB,zB⟩:=n3.all hB;refine ai (.cells (af false ar.zero 0 0 0 0 .nilFunc) 57 (0,0)) r (fun R=>ah tz57) rfl fun fr b4 w5 n6 r=>?_;have c0h:=keep n6.below c0h
 have H1:=keep n6.below H1;obtain ⟨E4,Z5,H4,hB,zB⟩:=n6.all hB;refine wn (wp_seq (wsr (kF 0 r rfl l5 rfl fun r=>kL (.bool a0.there) r rfl H1 to4 rfl rfl fun r=>ac (.bool (!a0.there)) r (fun R=>y_un r (u:=(.bool a0.there)) rfl rfl) rfl fun fr r=>wn ?_)));refine wp_cond_split (t:=(!a0.there)) (r.ev rfl) (fun h7=>?_) (fun h7=>?_)
 ·
  refine wsr (kG (au c0) 8 r rfl c0h ta63 rfl rfl fun r=>kU (.agg (resC (⟨6,0⟩:Res)).toArray) r kz rfl fun r=>?_);refine kJ r (iP (j:=j) (F:=No) (n:=n) (fun _ h=>h.elim) kw c0 (⟨6,0⟩:Res)) rfl jm rfl fun w8 v9 hb hr10 r=>?_
  have hb:=hb.below;have Z8:=hb.size;have c0h:=keep hb c0h;have H1:=keep hb H1;have H4:=keep hb H4;obtain ⟨hB,zB⟩:=bon hb hB;refine kP r hr10.shape rfl rfl H4 ts57 rfl rfl fun w11 u12 r=>?_;have Z11:=u12.size
  have c0h:=u12.keep c0h kw
  have H1:=u12.keep H1 kw
  have H4:=u12.at_;obtain ⟨hB,zB⟩:=u12.on hB kw
  refine wn (wp_ret ?_);have hd:D.fk j c0 a0=(D.dB j c0 (⟨6,0⟩:Res)):=(aB h7).trans (rfl);have hs:=hr10.shape.cells;refine ak r rfl rfl H4 (k:=8) hs.1 ta57 ?_;rw [←hs.2.2,hd];exact aq.fin (Chg.aM hB) hr10 u12 (fun _ h=>h.elim) (fun h=>h) kw kw kw
 refine wp_skip (wp_seq ?_);refine bK 7 [.val (zp c0b),.val (.agg (ae c0.p).toArray),.val (.pointer (some ⟨b1,11,none⟩)),.val (U a0.cur),.val (I (D.aL a0.cur)),.val (I (D.aS c0.p (D.aL a0.cur) 1)),.val (.func (.func 134) #[] #[zp c0b])] mixed r kz (kV (kV (kV (kV (kV (kV (kV bJ))))))) ?_ ?_
 ·
  refine ec r (fun _ u _ b d s=>ay s (b:=c0b) (o:=0) rfl dq bz) (ec r (fun _ u _ b d s=>aT s (cs:=(ae c0.p)) (n:=6) d.1 (keep b c0h) ta23 rfl bz) (ec r (fun _ u _ b d s=>ay s (b:=b1) (o:=0) rfl eI bz) (ec r (fun _ u _ b d s=>av s d.1 (keep b H1) to36 rfl bz) (ec r (fun fr1 u w' hb' hd r'=>aN r' (args:=[(U a0.cur)]) (lc hd.1 l0) fT ((fJ _ a0.cur).mono (by rintro _ w2 ⟨rfl,hb2⟩; exact ⟨_,rfl,hb2,rfl⟩))) (ec r (fun fr1 u w' hb' hd r'=>aN r' (args:=[(.agg (ae c0.p).toArray),(I (D.aL a0.cur)),(I 1)]) (lc hd.1 (lc hd.2.1 (lc rfl l0))) cl85 ((dL _ c0.p (D.aL a0.cur) 1).mono (by rintro _ w2 ⟨rfl,hb2⟩; exact ⟨_,rfl,hb2,rfl⟩))) (ec r (fun _ u _ b d s=>aQ s (v:=(.func (.func 134) #[] #[zp c0b])) rfl bz) ?_))))));exact bL
 intro fr u w13 hb hΦ hne r;have r:=r.congr (sc (hΦ 6 ke) (sc (hΦ 5 ke) (sc (hΦ 4 ke) (sc (hΦ 3 ke) (sc (hΦ 2 ke) (sc (hΦ 1 ke) (sc (hΦ 0 ke) rfl)))))));have Z13:=hb.size;have c0h:=keep hb c0h;have H1:=keep hb H1;have H4:=keep hb H4;obtain ⟨hB,zB⟩:=bon hb hB;have hF1:=cf hF hB.size b4;have f17:((kW F w0 w13 b4)) c0b:=(.inl c0F);refine kJ r (s8 (F:=(kW F w0 w13 b4)) (n:=n) hF1 (D.aS c0.p (D.aL a0.cur) 1) ⟨134,[],[zp c0b],Dw,rfl,fun m hm x w' hs hz=>zO (j:=j) (fun b hb=>Nat.lt_of_lt_of_le (hF1 b hb) hz) kw c0 f17 (hs.at_ f17 c0h) x⟩) rfl wX rfl fun w14 v15 hb hr16 r=>?_;have Z14:=hb.size
 have H4:=aR hb H4 (by rintro (h | ⟨_,_,h⟩); (have:=hF _ h; omega); exact h rfl)
 have hB:=Chg.aM (Z:=F) hB;have hB:=hB.bi hb (by rintro b hlt (h | ⟨h,_⟩); exact h; omega)
 have zB:=hB.size;refine kP r hr16.shape rfl rfl H4 ts57 rfl rfl fun w18 u19 r=>?_;have Z18:=u19.size
 have H4:=u19.at_;have hB:=hB.bg u19 (.inl kw)
 have zB:=hB.size;refine wn (wp_ret ?_);have hd:D.fk j c0 a0=(D.eV (D.aS c0.p (D.aL a0.cur) 1) (fun x=>(D.oZ j c0 x))):=(aD h7).trans (rfl)
 have hs:=hr16.shape.cells;refine ak r rfl rfl H4 (k:=8) hs.1 ta57 ?_;rw [←hs.2.2,hd];exact aq.fin hB hr16 u19 (by rintro b (h | ⟨h1,h2,_⟩); exact .inl h; exact .inr ⟨h1,h2⟩) (by rintro (h | ⟨_,_,h⟩); (have:=hF _ h; omega); exact h rfl) kw kw kw
def D.cN (j:Nat) (a0:Seat) (a1:Int) (a2:Int):T Res:=(T.bind (D.gy j (D.bN j j) a0 a1 a2) (fun x=>(D.fk j a0 x)))
set_option maxRecDepth 20000 in
set_option maxHeartbeats 8000000 in
theorem p7 (hF:kH F w0) (hj:n<j)
    (a0:Seat) (a1:Int) (a2:Int) :
    Calls Tryz.prog 61 #[.agg (au a0).toArray,.int .i64 a1,.int .u64 a2] w0 (aq Tryz.prog ar n (D.cN j a0 a1 a2) F w0):=by
 refine kN Tryz.func61 rfl 13 rfl rfl fun fr r hB=>?_;refine wsr ?_
 refine kX 63 (.agg (au a0).toArray) r rfl rfl fun b1 w2 n3 r=>?_;obtain ⟨E1,Z2,H1,hB,zB⟩:=n3.all hB
 refine ai (.cells (af false ar.zero 0 0 0 0 .nilFunc) 57 (0,0)) r (fun R=>ah tz57) rfl fun fr b4 w5 n6 r=>?_;have H1:=keep n6.below H1
 obtain ⟨E4,Z5,H4,hB,zB⟩:=n6.all hB;refine wn (wsr (kG (au a0) 8 r rfl H1 ta63 rfl rfl fun r=>kM (I a1) r rfl rfl fun r=>kM (U a2) r rfl rfl fun r=>?_));refine kJ r (mi (j:=j) (F:=No) (n:=n) (fun _ h=>h.elim) kw (fun m' hm'=>lM (j:=j) (k:=j) kw kw) a0 a1 a2) rfl nK rfl fun w7 v8 hb hr9 r=>?_
 have hb:=hb.below;have Z7:=hb.size;have H1:=keep hb H1;have H4:=keep hb H4;obtain ⟨hB,zB⟩:=bon hb hB;refine ac (.func (.func 133) #[] #[zp b1]) r (fun R=>aQ r rfl) rfl fun fr r=>?_;have hF1:∀ b,(kW F w0 w5 b4) b→b<w7.heap.size:=by rintro b (h | ⟨_,h,_⟩); exact Nat.lt_of_lt_of_le (hF b h) hB.size; exact Nat.lt_of_lt_of_le h kw
 have f13:((kW F w0 w5 b4)) b1:=(.inr ⟨kw,kw,kw⟩)
 have hF2:=cf hF hB.size b4;refine kJ r (lz (F:=(kW F w0 w7 b4)) (F2:=(kW F w0 w5 b4)) (n:=n) hF2 (by rintro b ⟨h,h'⟩; exact .inr ⟨kw,kw,kw⟩) (by rintro b (h | ⟨h1,h2,h3⟩); exact .inl h; exact .inr ⟨h1,kw,h3⟩) (by rintro b ⟨h1,h2⟩ (h | ⟨h3,h4,_⟩); (have:=hF b h; omega); omega) (RepL.mono (F':=fun b=>w5.heap.size≤b∧b<w7.heap.size) (by rintro b (h | h); exact h.elim; exact h) (Same.refl _ _) (Nat.le_refl _) n _ _ hr9) ⟨133,[],[zp b1],FO,rfl,fun m hm x w' hs hz=>Am (j:=j) (fun b hb=>Nat.lt_of_lt_of_le (hF1 b hb) hz) kw a0 f13 (hs.at_ f13 H1) x⟩) rfl lg rfl fun w10 v11 hb hr12 r=>?_
 have Z10:=hb.size;have H4:=aR hb H4 (by rintro (h | ⟨_,_,h⟩); (have:=hF _ h; omega); exact h rfl)
 have hB:=Chg.aM (Z:=F) hB;have hB:=hB.bi hb (by rintro b hlt (h | ⟨h,_⟩); exact h; omega)
 have zB:=hB.size;refine kP r hr12.shape rfl rfl H4 ts57 rfl rfl fun w14 u15 r=>?_;have Z14:=u15.size
 have H4:=u15.at_;have hB:=hB.bg u15 (.inl kw)
 have zB:=hB.size;refine wn (wp_ret ?_);have hs:=hr12.shape.cells;refine ak r rfl rfl H4 (k:=8) hs.1 ta57 ?_;rw [←hs.2.2];exact aq.fin hB hr12 u15 (by rintro b (h | ⟨h1,h2,_⟩); exact .inl h; exact .inr ⟨h1,h2⟩) (by rintro (h | ⟨_,_,h⟩); (have:=hF _ h; omega); exact h rfl) kw kw kw
end
end Go.Proofs.YtikjpdpgdmbdpaaGreat

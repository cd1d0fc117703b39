/- Ours. -/
import Derived.Test.YtikjpdpgdmbdpaaGreatLrLLoads
import Derived.Test.YtikjpdpgdmbdpaaGreatLrM16
set_option linter.all false
set_option maxRecDepth 20000
set_option maxHeartbeats 2000000
namespace Go.Proofs.YtikjpdpgdmbdpaaGreat
open Go.RowKit
section
variable {n : Nat} {F : Nat → Prop} {j : Nat} {w0 : World}
theorem FD:ag Tryz.prog 114:=kz
theorem wz:ag Tryz.prog 115:=kz
theorem Dm:ag Tryz.prog 117:=kz
theorem FW:ag Tryz.prog 118:=kz
theorem xc:ag Tryz.prog 119:=kz
theorem gA:ag Tryz.prog 120:=kz
theorem rm:ag Tryz.prog 122:=kz
theorem En:ag Tryz.prog 123:=kz
theorem nk:ag Tryz.prog 124:=kz
theorem Fx:ag Tryz.prog 126:=kz
theorem Dp:ag Tryz.prog 128:=kz
theorem Dn:ag Tryz.prog 129:=kz
theorem Ew:ag Tryz.prog 213:=kz
theorem wW:ag Tryz.prog 215:=kz
theorem FJ:ag Tryz.prog 216:=kz
theorem ED:ag Tryz.prog 218:=kz
theorem DD:ag Tryz.prog 219:=kz
theorem FI:ag Tryz.prog 220:=kz
theorem FN:ag Tryz.prog 221:=kz
theorem FC:ag Tryz.prog 225:=kz
theorem qx:ag Tryz.prog 226:=kz
theorem FO:ag Tryz.prog 227:=kz
theorem FZ:ag Tryz.prog 229:=kz
theorem EA:ag Tryz.prog 230:=kz
theorem nD:ag Tryz.prog 231:=kz
theorem Ex:ag Tryz.prog 232:=kz
theorem xx:ag Tryz.prog 319:=kz
theorem nu:ag Tryz.prog 320:=kz
theorem Fg:ag Tryz.prog 321:=kz
theorem nG:ag Tryz.prog 322:=kz
theorem DF:ag Tryz.prog 323:=kz
theorem Ev:ag Tryz.prog 324:=kz
theorem Eu:ag Tryz.prog 325:=kz
theorem EV:ag Tryz.prog 368:=kz
theorem FR:ag Tryz.prog 369:=kz
theorem ET:ag Tryz.prog 370:=kz
theorem Fz:ag Tryz.prog 371:=kz
theorem Du:ag Tryz.prog 372:=kz
theorem FA:ag Tryz.prog 393:=kz
theorem Es:ag Tryz.prog 394:=kz
theorem DW:ag Tryz.prog 396:=kz
theorem FF:ag Tryz.prog 397:=kz
theorem DT:ag Tryz.prog 398:=kz
theorem cl52:ag Tryz.prog 52:=kz
theorem gj:aZ Tryz.prog 206 0 0:=kz
theorem Cp:aZ Tryz.prog 206 1 8:=kz
theorem qf:aZ Tryz.prog 206 2 9:=kz
theorem jX:aZ Tryz.prog 206 3 10:=kz
theorem eX:aZ Tryz.prog 206 4 11:=kz
theorem gb:aZ Tryz.prog 206 5 12:=kz
theorem mO:aZ Tryz.prog 206 6 13:=kz
theorem FG:tyO Tryz.prog 270:=kz
theorem ts4:sized Tryz.prog 4 1:=kz
def D.jO (a0:Int):T Res:=(D.lR (⟨a0,0⟩:Res))
set_option maxRecDepth 20000 in
set_option maxHeartbeats 8000000 in
theorem sY (hF:kH F w0)
    (a0:Int) :
    Calls Tryz.prog 115 #[.int .i64 a0] w0 (au Tryz.prog aj n (D.jO a0) F w0):=by
 refine kN Tryz.func115 rfl 6 rfl rfl fun fr r hB=>?_;refine wsr ?_
 refine ai (.cells (af false aj.zero 0 0 0 0 .nilFunc) 57 (0,0)) r (fun R=>ah tz57) rfl fun fr b1 w2 n3 r=>?_;obtain ⟨E1,Z2,H1,hB,zB⟩:=n3.all hB
 refine wn (wsr (kM (I a0) r rfl rfl fun r=>kU (.agg (resC (⟨a0,0⟩:Res)).toArray) r kz rfl fun r=>?_));refine kJ r (s8 (F:=No) (n:=n) (fun _ h=>h.elim) (⟨a0,0⟩:Res)) rfl cl23 rfl fun w4 v5 hb hr6 r=>?_
 have hb:=hb.below;have Z4:=hb.size;have H1:=keep hb H1;obtain ⟨hB,zB⟩:=bon hb hB;refine kP r hr6.shape rfl rfl H1 ts57 rfl rfl fun w7 u8 r=>?_;have Z7:=u8.size
 have H1:=u8.at_;obtain ⟨hB,zB⟩:=u8.on hB kw
 refine wn (wp_ret ?_);have hs:=hr6.shape.cells;refine ar r rfl rfl H1 (k:=8) hs.1 ta57 ?_;rw [←hs.2.2];exact au.fin (Chg.aR hB) hr6 u8 (fun _ h=>h.elim) (fun h=>h) kw kw kw
def D.aV (a0:Int):Int:=(IntKind.i64.wrap ((IntKind.i64.wrap (shrI .u64 a0 1)) - 1))
set_option maxRecDepth 20000 in
set_option maxHeartbeats 8000000 in
theorem fU (w0:World) 
    (a0:Int) :
    Calls Tryz.prog 120 #[.int .u64 a0] w0 (bw (.int .i64 (D.aV a0)) w0):=by
 refine kN Tryz.func120 rfl 7 rfl rfl fun fr r hB=>?_;refine wsr (kA (I 0) r rfl rfl fun r=>wn (wsr (kM (U a0) r rfl rfl fun r=>kB r rfl rfl rfl (qg (by first | assumption | decide)) rfl fun r=>ac (I (W (shrI .u64 a0 1))) r (fun R=>cK r rfl ti36 ti3) rfl fun fr r=>kB r rfl rfl rfl rfl rfl fun r=>kA (I (W ((W (shrI .u64 a0 1)) - 1))) r rfl rfl fun r=>wn (wp_ret ?_))))
 refine bg r rfl rfl ?_;exact ⟨rfl,hB⟩
def D.sw (c0:(Unit→T Walk)):T Walk:=(c0 ())
set_option maxRecDepth 20000 in
set_option maxHeartbeats 8000000 in
theorem yY (hF:kH F w0)
    {c0f:FuncId} {c0_1 c0_2:List Value} {c0:(Unit→T Walk)} {c0b:Nat} (c0F:F c0b) (c0h:w0.heap[c0b]?=some (.cells #[.func (.func c0f) c0_1.toArray c0_2.toArray] 270 (0,0))) (c0n:FnL Tryz.prog aK unitE (n+1) F w0 (.func (.func c0f) c0_1.toArray c0_2.toArray) c0) :
    Calls Tryz.prog 368 #[.agg #[],zp c0b] w0 (au Tryz.prog aK n (D.sw c0) F w0):=by
 refine kN Tryz.func368 rfl 6 rfl rfl fun fr r hB=>?_;have lc0b:=lt_of_block c0h
 refine wsr ?_;refine kX 152 (.agg #[]) r rfl rfl fun b1 w2 n3 r=>?_;have c0h:=keep n3.below c0h
 obtain ⟨E1,Z2,H1,hB,zB⟩:=n3.all hB;refine ai (.cells (af false aK.zero 0 0 0 0 .nilFunc) 209 (0,0)) r (fun R=>ah cl) rfl fun fr b4 w5 n6 r=>?_;have c0h:=keep n6.below c0h
 have H1:=keep n6.below H1;obtain ⟨E4,Z5,H4,hB,zB⟩:=n6.all hB;refine wn (wsr (kL (.func (.func c0f) c0_1.toArray c0_2.toArray) r rfl c0h FG rfl rfl fun r=>?_));refine cA r (c0n.at_.2 n (Nat.lt_succ_self n) () w5 (Same.below hB hF) hB.size) (fun R hc=>gY r rfl c0n.at_.1 hc) rfl ?_
 rintro _ w7 ⟨v8,rfl,hb,hr9⟩;refine ⟨_,rfl,fun fr r=>?_⟩
 have Z7:=hb.size;have H4:=aX hb H4 (fun h=>by have:=hF _ h; omega)
 have hB:=Chg.aR (Z:=F) hB;have hB:=hB.bk hb (fun _ _ h=>h)
 have zB:=hB.size;refine kP r hr9.shape rfl rfl H4 bT rfl rfl fun w10 u11 r=>?_;have Z10:=u11.size
 have H4:=u11.at_;have hB:=hB.bi u11 (.inl kw)
 have zB:=hB.size;refine wn (wp_ret ?_);have hs:=hr9.shape.cells;refine ar r rfl rfl H4 (k:=20) hs.1 bU ?_;rw [←hs.2.2];exact au.fin hB hr9 u11 (fun b hb=>.inl hb) (fun h=>by have:=hF _ h; omega) kw kw kw
def D.eE (a0:Walk) (a1:Int) (a2:Int) (a3:(Unit→T Walk)):T Walk:=(T.bind (D.dT a0.seat.p a0.seat.thread a1 a2) (fun _=>(D.sw a3)))
set_option maxRecDepth 20000 in
set_option maxHeartbeats 8000000 in
theorem lB (hF:kH F w0)
    (a0:Walk) (a1:Int) (a2:Int) {a3f:FuncId} {a3_1 a3_2:List Value} {a3:(Unit→T Walk)} (a3n:FnL Tryz.prog aK unitE (n) F w0 (.func (.func a3f) a3_1.toArray a3_2.toArray) a3) :
    Calls Tryz.prog 322 #[.agg (bb a0).toArray,.int .i64 a1,.int .i64 a2,.func (.func a3f) a3_1.toArray a3_2.toArray] w0 (au Tryz.prog aK n (D.eE a0 a1 a2 a3) F w0):=by
 refine kN Tryz.func322 rfl 20 rfl rfl fun fr r hB=>?_;refine wsr ?_
 refine kX 206 (.agg (bb a0).toArray) r rfl rfl fun b1 w2 n3 r=>?_;obtain ⟨E1,Z2,H1,hB,zB⟩:=n3.all hB
 refine kX 270 (.func (.func a3f) a3_1.toArray a3_2.toArray) r rfl rfl fun b4 w5 n6 r=>?_;have H1:=keep n6.below H1
 obtain ⟨E4,Z5,H4,hB,zB⟩:=n6.all hB;refine ai (.cells (af false aK.zero 0 0 0 0 .nilFunc) 209 (0,0)) r (fun R=>ah cl) rfl fun fr b7 w8 n9 r=>?_;have H1:=keep n9.below H1
 have H4:=keep n9.below H4;obtain ⟨E7,Z8,H7,hB,zB⟩:=n9.all hB;refine wn (wsr (kF 0 r rfl gj rfl fun r=>kF 0 r rfl dB rfl fun r=>kG (ae a0.seat.p) 6 r rfl H1 ta23 rfl rfl fun r=>kF 0 r rfl gj rfl fun r=>kF 0 r rfl hO rfl fun r=>kL (I a0.seat.thread) r rfl H1 to3 rfl rfl fun r=>kM (I a1) r rfl rfl fun r=>kM (I a2) r rfl rfl fun r=>?_));refine kD r (oN (F:=No) (n:=n) (fun _ h=>h.elim) a0.seat.p a0.seat.thread a1 a2) rfl rj rfl fun w10 v11 hb hr12 r=>?_
 have hr12:=hr12.loud;have Z10:=hb.size;have H1:=keep hb H1;have H4:=keep hb H4;have H7:=keep hb H7;obtain ⟨hB,zB⟩:=bon hb hB;refine ac (.func (.func 368) #[] #[zp b4]) r (fun R=>aU r rfl) rfl fun fr r=>?_;have hF1:∀ b,(kW F w0 w8 b7) b→b<w10.heap.size:=by rintro b (h | ⟨_,h,_⟩); exact Nat.lt_of_lt_of_le (hF b h) hB.size; exact Nat.lt_of_lt_of_le h kw
 have f16:((kW F w0 w8 b7)) b4:=(.inr ⟨kw,kw,kw⟩)
 have hF2:=cj hF hB.size b7;refine kJ r (xF (F:=(kW F w0 w10 b7)) (F2:=(kW F w0 w8 b7)) (n:=n) hF2 (by rintro b ⟨h,h'⟩; exact .inr ⟨kw,kw,kw⟩) (by rintro b (h | ⟨h1,h2,h3⟩); exact .inl h; exact .inr ⟨h1,kw,h3⟩) (by rintro b ⟨h1,h2⟩ (h | ⟨h3,h4,_⟩); (have:=hF b h; omega); omega) (RepL.mono (F':=fun b=>w8.heap.size≤b∧b<w10.heap.size) (by rintro b (h | h); exact h.elim; exact h) (Same.refl _ _) (Nat.le_refl _) n _ _ hr12) ⟨368,[],[zp b4],EV,rfl,fun m hm _ w' hs hz=>yY (fun b hb=>Nat.lt_of_lt_of_le (hF1 b hb) hz) f16 (hs.at_ f16 H4) (a3n.mono kw (fun b h=>.inl h) ((Same.below hB hF).trans (hs.sub (fun b h=>.inl h))) (Nat.le_trans hB.size hz))⟩ rfl) rfl wZ rfl fun w13 v14 hb hr15 r=>?_
 have Z13:=hb.size;have H7:=aX hb H7 (by rintro (h | ⟨_,_,h⟩); (have:=hF _ h; omega); exact h rfl)
 have hB:=Chg.aR (Z:=F) hB;have hB:=hB.bk hb (by rintro b hlt (h | ⟨h,_⟩); exact h; omega)
 have zB:=hB.size;refine kP r hr15.shape rfl rfl H7 bT rfl rfl fun w17 u18 r=>?_;have Z17:=u18.size
 have H7:=u18.at_;have hB:=hB.bi u18 (.inl kw)
 have zB:=hB.size;refine wn (wp_ret ?_);have hs:=hr15.shape.cells;refine ar r rfl rfl H7 (k:=20) hs.1 bU ?_;rw [←hs.2.2];exact au.fin hB hr15 u18 (by rintro b (h | ⟨h1,h2,_⟩); exact .inl h; exact .inr ⟨h1,h2⟩) (by rintro (h | ⟨_,_,h⟩); (have:=hF _ h; omega); exact h rfl) kw kw kw
def D.lu (j:Nat) (r_list_walk_step:Walk→T Walk) (c0:Walk) (c1:Int):T Walk:=(r_list_walk_step ({ ({ c0 with place:=(D.bf c0.seat.p c1 2) }) with cur:=c0.next }))
def D.oz (j:Nat) (r_list_walk_step:Walk→T Walk) (c0:Walk) (c1:Int):T Walk:=(D.eE c0 1 (D.aV c0.next) (fun _=>(D.lu j r_list_walk_step c0 c1)))
def D.iA (j:Nat) (r_list_walk_step:Walk→T Walk) (a0:Walk) (a1:Int):T Walk:=(D.eE a0 2 a1 (fun _=>(D.oz j r_list_walk_step a0 a1)))
def D.l4 (j:Nat) (r_list_walk_step:Walk→T Walk) (c0:Int) (c1:Walk) (a0:Int):T Walk:=(D.eE ({ c1 with cur:=c0 }) 1 (D.aV c0) (fun _=>(r_list_walk_step ({ c1 with cur:=c0 }))))
def D.tw (j:Nat) (r_list_walk_step:Walk→T Walk) (c0:Seat) (c1:Int) (c2:Int) (a0:Int):T Walk:=(r_list_walk_step (⟨c0,c1,c2,c1,a0,0,false⟩:Walk))
def D.fX (j:Nat) (r_list_walk_step:Walk→T Walk) (a0:Seat) (a1:Int) (a2:Int):T Walk:=(T.bind (D.fV j a0.p a0.thread 1 a1 1) (fun x=>(D.tw j r_list_walk_step a0 a1 a2 x)))
def D.eD (j:Nat) (r_list_walk_step:Walk→T Walk) (a0:Walk):T Walk:=(D.fX j r_list_walk_step a0.seat a0.cell a0.k)
def D.l7 (j:Nat) (r_list_walk_step:Walk→T Walk) (c0:Walk) (c1:Int) (c2:Int) (a0:Bool):T Walk:=(bif (!a0) then (D.eD j r_list_walk_step c0) else (T.bind (D.fT j c0.seat.p c0.seat.thread c1) (fun x=>(D.l4 j r_list_walk_step c2 c0 x))))
def D.nT (j:Nat) (r_list_walk_step:Walk→T Walk) (a0:Walk) (a1:Int):T Walk:=(D.sA a0.place a0.cur (ct .u64 a0.next 1) (fun x=>(D.l7 j r_list_walk_step a0 a1 (ct .u64 a0.next 1) x)))
def D.gD (j:Nat) (r_list_walk_step:Walk→T Walk) (c0:Walk) (c1:Int) (c2:Int) (a0:Int):T Walk:=(bif (a0 !=c0.cur) then (D.eD j r_list_walk_step c0) else (bif ((cw .u64 c0.next 1) !=0) then (D.nT j r_list_walk_step c0 c1) else (bif (decide (c2≥c0.k)) then (D.iw ({ c0 with there:=(c2==c0.k) })) else (D.iA j r_list_walk_step c0 c1))))
def D.lg (j:Nat) (r_list_walk_step:Walk→T Walk) (c0:Walk) (c1:Int) (a0:Int):T Walk:=(D.gL c0.place (fun x=>(D.gD j r_list_walk_step c0 c1 a0 x)))
def D.ij (j:Nat) (r_list_walk_step:Walk→T Walk) (a0:Walk) (a1:Int):T Walk:=(D.gL (D.bf a0.seat.p a1 0) (fun x=>(D.lg j r_list_walk_step a0 a1 x)))
def D.ja (j:Nat) (r_list_walk_step:Walk→T Walk) (c0:Int) (c1:Walk) (c2:Int) (a0:Int):T Walk:=(bif (a0 !=c0) then (D.eD j r_list_walk_step c1) else (D.ij j r_list_walk_step ({ c1 with next:=c0 }) c2))
def D.je (j:Nat) (r_list_walk_step:Walk→T Walk) (c0:Int) (c1:Int) (c2:Walk) (c3:Int):T Walk:=(D.gL c0 (fun x=>(D.ja j r_list_walk_step c1 c2 c3 x)))
def D.lr (j:Nat) (r_list_walk_step:Walk→T Walk) (c0:Walk) (c1:Int) (c2:Int) (a0:Int):T Walk:=(D.eE c0 0 (D.aV a0) (fun _=>(D.je j r_list_walk_step c1 a0 c0 c2)))
def D.fK (j:Nat) (r_list_walk_step:Walk→T Walk) (a0:Walk):T Walk:=(bif (decide ((D.aV a0.cur)<0)) then (D.iw ({ a0 with there:=false })) else (D.gL (D.bf a0.seat.p (D.aV a0.cur) 2) (fun x=>(D.lr j r_list_walk_step a0 (D.bf a0.seat.p (D.aV a0.cur) 2) (D.aV a0.cur) x))))
def D.cz (j:Nat):Nat→Walk→T Walk
  | 0,_=>.cut
  | k+1,a0=>D.fK j (D.cz j k) a0
def df (r:Walk→T Walk) (n:Nat):Prop:=∀ (F:Nat→Prop) (w0:World),(∀ b,F b→b<w0.heap.size)→∀ (a0:Walk),Calls Tryz.prog 226 #[.agg (bb a0).toArray] w0 (au Tryz.prog aK n (r a0) F w0)
set_option maxRecDepth 20000 in
set_option maxHeartbeats 8000000 in
theorem yN {r_list_walk_step:Walk→T Walk} (hF:kH F w0) (hj:n<j) (ih_list_walk_step:∀ m,m≤n→df r_list_walk_step m)
    (c0:Walk) {c0b:Nat} (c0F:F c0b) (c0h:w0.heap[c0b]?=some (.cells ((bb c0)).toArray 206 (0,0))) (c1:Int) {c1b:Nat} (c1F:F c1b) (c1h:w0.heap[c1b]?=some (.cells ([(.int .i64 c1)]).toArray 3 (0,0))) :
    Calls Tryz.prog 398 #[zp c0b,zp c1b] w0 (au Tryz.prog aK n (D.lu j r_list_walk_step c0 c1) F w0):=by
 refine kN Tryz.func398 rfl 14 rfl rfl fun fr r hB=>?_;have lc0b:=lt_of_block c0h
 have lc1b:=lt_of_block c1h;refine wsr ?_;refine ai (.cells (af false aK.zero 0 0 0 0 .nilFunc) 209 (0,0)) r (fun R=>ah cl) rfl fun fr b1 w2 n3 r=>?_;have c0h:=keep n3.below c0h
 have c1h:=keep n3.below c1h;obtain ⟨E1,Z2,H1,hB,zB⟩:=n3.all hB;refine wn (wp_seq ?_);refine bI 8 [.val (zp c0b),.val (zp c0b),.val (.agg (ae c0.seat.p).toArray),.val (I c1),.val (I (D.bf c0.seat.p c1 2)),.val (.pointer (some ⟨c0b,12,none⟩)),.val (U c0.next),.val (.pointer (some ⟨c0b,10,none⟩))] mixed r kz (kV (kV (kV (kV (kV (kV (kV (kV bH)))))))) ?_ ?_
 ·
  refine ec r (fun _ u _ b d s=>ax s (b:=c0b) (o:=0) rfl gj bz) (ec r (fun _ u _ b d s=>ax s (b:=c0b) (o:=0) d.1 dB bz) (ec r (fun _ u _ b d s=>aS s (cs:=(ae c0.seat.p)) (n:=6) d.1 (keep b c0h) ta23 rfl bz) (ec r (fun _ u _ b d s=>av s rfl (keep b c1h) to3 rfl bz) (ec r (fun fr1 u w' hb' hd r'=>aJ r' (args:=[(.agg (ae c0.seat.p).toArray),(I c1),(I 2)]) (lc hd.1 (lc hd.2.1 (lc rfl l0))) cl85 ((dZ _ c0.seat.p c1 2).mono (by rintro _ w2 ⟨rfl,hb2⟩; exact ⟨_,rfl,hb2,rfl⟩))) (ec r (fun _ u _ b d s=>ax s (b:=c0b) (o:=0) rfl gb bz) (ec r (fun _ u _ b d s=>av s d.1 (keep b c0h) to36 rfl bz) (ec r (fun _ u _ b d s=>ax s (b:=c0b) (o:=0) rfl jX bz) ?_)))))));exact bJ
 intro fr u w4 hb hΦ hne r;have r:=r.congr (sc (hΦ 7 ke) (sc (hΦ 6 ke) (sc (hΦ 5 ke) (sc (hΦ 4 ke) (sc (hΦ 3 ke) (sc (hΦ 2 ke) (sc (hΦ 1 ke) (sc (hΦ 0 ke) rfl))))))));have Z4:=hb.size;have c0h:=keep hb c0h;have c1h:=keep hb c1h;have H1:=keep hb H1;obtain ⟨hB,zB⟩:=bon hb hB;refine bh (.cells ((bb ({ c0 with place:=(D.bf c0.seat.p c1 2) }))).toArray 206 (0,0)) r (fun R=>aT r (o:=10) (v:=(I (D.bf c0.seat.p c1 2))) rfl rfl c0h ts3 (Nat.le_of_ble_eq_true rfl) rfl rfl) rfl fun fr w5 u6 r=>?_
 have Z5:=u6.size;have c1h:=u6.keep c1h (gZ c1h c0h rfl);have H1:=u6.keep H1 kw
 have c0h:=u6.at_;have hB:=Chg.aR (Z:=F) hB;have hB:=hB.bi u6 (.inr c0F);have zB:=hB.size;obtain ⟨zs7,ezs7⟩:∃ z,z=({ c0 with place:=(D.bf c0.seat.p c1 2) }):=⟨_,rfl⟩
 rw [←ezs7] at c0h
 refine kF 0 r rfl eX rfl fun r=>?_;refine bh (.cells ((bb ({ zs7 with cur:=c0.next }))).toArray 206 (0,0)) r (fun R=>aT r (o:=11) (v:=(U c0.next)) rfl rfl c0h ts36 (Nat.le_of_ble_eq_true rfl) rfl rfl) rfl fun fr w8 u9 r=>?_
 have Z8:=u9.size;have c1h:=u9.keep c1h (gZ c1h c0h rfl);have H1:=u9.keep H1 kw
 have c0h:=u9.at_;have hB:=hB.bi u9 (.inr c0F);have zB:=hB.size;obtain ⟨zs10,ezs10⟩:∃ z,z=({ zs7 with cur:=c0.next }):=⟨_,rfl⟩
 rw [←ezs10] at c0h
 refine wn (wsr (kG (bb zs10) 14 r rfl c0h dc rfl rfl fun r=>?_));refine kJ r ((ih_list_walk_step n kw) (No) _ (fun _ h=>h.elim) zs10) rfl qx rfl fun w11 v12 hb hr13 r=>?_
 have hb:=hb.below;have Z11:=hb.size;have c0h:=keep hb c0h;have c1h:=keep hb c1h;have H1:=keep hb H1;have hB:=hB.thenB hb;have zB:=hB.size;refine kP r hr13.shape rfl rfl H1 bT rfl rfl fun w14 u15 r=>?_;have Z14:=u15.size
 have c0h:=u15.keep c0h kw
 have c1h:=u15.keep c1h kw
 have H1:=u15.at_;have hB:=hB.bi u15 (.inl kw)
 have zB:=hB.size;refine wn (wp_ret ?_);have hd:D.lu j r_list_walk_step c0 c1=(r_list_walk_step zs10):=by subst ezs10 ezs7; exact rfl
 have hs:=hr13.shape.cells;refine ar r rfl rfl H1 (k:=20) hs.1 bU ?_;rw [←hs.2.2,hd];exact au.fin hB hr13 u15 (fun _ h=>h.elim) (fun h=>h) kw kw kw
set_option maxRecDepth 20000 in
set_option maxHeartbeats 8000000 in
theorem zr {r_list_walk_step:Walk→T Walk} (hF:kH F w0) (hj:n<j) (ih_list_walk_step:∀ m,m<n→df r_list_walk_step m)
    (c0:Walk) {c0b:Nat} (c0F:F c0b) (c0h:w0.heap[c0b]?=some (.cells ((bb c0)).toArray 206 (0,0))) (c1:Int) {c1b:Nat} (c1F:F c1b) (c1h:w0.heap[c1b]?=some (.cells ([(.int .i64 c1)]).toArray 3 (0,0))) :
    Calls Tryz.prog 397 #[zp c0b,zp c1b] w0 (au Tryz.prog aK n (D.oz j r_list_walk_step c0 c1) F w0):=by
 refine kN Tryz.func397 rfl 9 rfl rfl fun fr r hB=>?_;have lc0b:=lt_of_block c0h
 have lc1b:=lt_of_block c1h;refine wsr ?_;refine ai (.cells (af false aK.zero 0 0 0 0 .nilFunc) 209 (0,0)) r (fun R=>ah cl) rfl fun fr b1 w2 n3 r=>?_;have c0h:=keep n3.below c0h
 have c1h:=keep n3.below c1h;obtain ⟨E1,Z2,H1,hB,zB⟩:=n3.all hB;refine wn (wp_seq ?_);refine bI 5 [.val (.agg (bb c0).toArray),.val (.pointer (some ⟨c0b,12,none⟩)),.val (U c0.next),.val (I (D.aV c0.next)),.val (.func (.func 398) #[] #[zp c0b,zp c1b])] mixed r kz (kV (kV (kV (kV (kV bH))))) ?_ ?_
 ·
  refine ec r (fun _ u _ b d s=>aS s (cs:=(bb c0)) (n:=14) rfl (keep b c0h) dc rfl bz) (ec r (fun _ u _ b d s=>ax s (b:=c0b) (o:=0) rfl gb bz) (ec r (fun _ u _ b d s=>av s d.1 (keep b c0h) to36 rfl bz) (ec r (fun fr1 u w' hb' hd r'=>aJ r' (args:=[(U c0.next)]) (lc hd.1 l0) gA ((fU _ c0.next).mono (by rintro _ w2 ⟨rfl,hb2⟩; exact ⟨_,rfl,hb2,rfl⟩))) (ec r (fun _ u _ b d s=>aU s (v:=(.func (.func 398) #[] #[zp c0b,zp c1b])) rfl bz) ?_))));exact bJ
 intro fr u w4 hb hΦ hne r;have r:=r.congr (sc (hΦ 4 ke) (sc (hΦ 3 ke) (sc (hΦ 2 ke) (sc (hΦ 1 ke) (sc (hΦ 0 ke) rfl)))));have Z4:=hb.size;have c0h:=keep hb c0h;have c1h:=keep hb c1h;have H1:=keep hb H1;obtain ⟨hB,zB⟩:=bon hb hB;have hF1:=cj hF hB.size b1;have f8:((kW F w0 w4 b1)) c0b:=(.inl c0F);have f9:((kW F w0 w4 b1)) c1b:=(.inl c1F);refine kJ r (lB (F:=(kW F w0 w4 b1)) (n:=n) hF1 c0 1 (D.aV c0.next) ⟨398,[],[zp c0b,zp c1b],DT,rfl,fun m hm _ w' hs hz=>yN (j:=j) (fun b hb=>Nat.lt_of_lt_of_le (hF1 b hb) hz) kw (fun m' hm'=>ih_list_walk_step m' kw) c0 f8 (hs.at_ f8 c0h) c1 f9 (hs.at_ f9 c1h)⟩) rfl nG rfl fun w5 v6 hb hr7 r=>?_;have Z5:=hb.size
 have H1:=aX hb H1 (by rintro (h | ⟨_,_,h⟩); (have:=hF _ h; omega); exact h rfl)
 have hB:=Chg.aR (Z:=F) hB;have hB:=hB.bk hb (by rintro b hlt (h | ⟨h,_⟩); exact h; omega)
 have zB:=hB.size;refine kP r hr7.shape rfl rfl H1 bT rfl rfl fun w10 u11 r=>?_;have Z10:=u11.size
 have H1:=u11.at_;have hB:=hB.bi u11 (.inl kw)
 have zB:=hB.size;refine wn (wp_ret ?_);have hs:=hr7.shape.cells;refine ar r rfl rfl H1 (k:=20) hs.1 bU ?_;rw [←hs.2.2];exact au.fin hB hr7 u11 (by rintro b (h | ⟨h1,h2,_⟩); exact .inl h; exact .inr ⟨h1,h2⟩) (by rintro (h | ⟨_,_,h⟩); (have:=hF _ h; omega); exact h rfl) kw kw kw
set_option maxRecDepth 20000 in
set_option maxHeartbeats 8000000 in
theorem zY {r_list_walk_step:Walk→T Walk} (hF:kH F w0) (hj:n<j) (ih_list_walk_step:∀ m,m<n→df r_list_walk_step m)
    (a0:Walk) (a1:Int) :
    Calls Tryz.prog 372 #[.agg (bb a0).toArray,.int .i64 a1] w0 (au Tryz.prog aK n (D.iA j r_list_walk_step a0 a1) F w0):=by
 refine kN Tryz.func372 rfl 9 rfl rfl fun fr r hB=>?_;refine wsr ?_
 refine kX 206 (.agg (bb a0).toArray) r rfl rfl fun b1 w2 n3 r=>?_;obtain ⟨E1,Z2,H1,hB,zB⟩:=n3.all hB
 refine kX 3 (I a1) r rfl rfl fun b4 w5 n6 r=>?_;have H1:=keep n6.below H1
 obtain ⟨E4,Z5,H4,hB,zB⟩:=n6.all hB;refine ai (.cells (af false aK.zero 0 0 0 0 .nilFunc) 209 (0,0)) r (fun R=>ah cl) rfl fun fr b7 w8 n9 r=>?_;have H1:=keep n9.below H1
 have H4:=keep n9.below H4;obtain ⟨E7,Z8,H7,hB,zB⟩:=n9.all hB;refine wn (wsr (kG (bb a0) 14 r rfl H1 dc rfl rfl fun r=>kL (I a1) r rfl H4 to3 rfl rfl fun r=>ac (.func (.func 397) #[] #[zp b1,zp b4]) r (fun R=>aU r rfl) rfl fun fr r=>?_));have hF1:=cj hF hB.size b7
 have f13:((kW F w0 w8 b7)) b1:=(.inr ⟨kw,kw,kw⟩)
 have f14:((kW F w0 w8 b7)) b4:=(.inr ⟨kw,kw,kw⟩)
 refine kJ r (lB (F:=(kW F w0 w8 b7)) (n:=n) hF1 a0 2 a1 ⟨397,[],[zp b1,zp b4],FF,rfl,fun m hm _ w' hs hz=>zr (j:=j) (fun b hb=>Nat.lt_of_lt_of_le (hF1 b hb) hz) kw (fun m' hm'=>ih_list_walk_step m' kw) a0 f13 (hs.at_ f13 H1) a1 f14 (hs.at_ f14 H4)⟩) rfl nG rfl fun w10 v11 hb hr12 r=>?_;have Z10:=hb.size
 have H7:=aX hb H7 (by rintro (h | ⟨_,_,h⟩); (have:=hF _ h; omega); exact h rfl)
 have hB:=Chg.aR (Z:=F) hB;have hB:=hB.bk hb (by rintro b hlt (h | ⟨h,_⟩); exact h; omega)
 have zB:=hB.size;refine kP r hr12.shape rfl rfl H7 bT rfl rfl fun w15 u16 r=>?_;have Z15:=u16.size
 have H7:=u16.at_;have hB:=hB.bi u16 (.inl kw)
 have zB:=hB.size;refine wn (wp_ret ?_);have hs:=hr12.shape.cells;refine ar r rfl rfl H7 (k:=20) hs.1 bU ?_;rw [←hs.2.2];exact au.fin hB hr12 u16 (by rintro b (h | ⟨h1,h2,_⟩); exact .inl h; exact .inr ⟨h1,h2⟩) (by rintro (h | ⟨_,_,h⟩); (have:=hF _ h; omega); exact h rfl) kw kw kw
set_option maxRecDepth 20000 in
set_option maxHeartbeats 8000000 in
theorem xH {r_list_walk_step:Walk→T Walk} (hF:kH F w0) (hj:n<j) (ih_list_walk_step:∀ m,m<n→df r_list_walk_step m)
    (c0:Int) {c0b:Nat} (c0F:F c0b) (c0h:w0.heap[c0b]?=some (.cells ([(.int .u64 c0)]).toArray 36 (0,0))) (c1:Walk) {c1b:Nat} (c1F:F c1b) (c1h:w0.heap[c1b]?=some (.cells ((bb c1)).toArray 206 (0,0))) (a0:Int) :
    Calls Tryz.prog 396 #[.int .i64 a0,zp c0b,zp c1b] w0 (au Tryz.prog aK n (D.l4 j r_list_walk_step c0 c1 a0) F w0):=by
 refine kN Tryz.func396 rfl 13 rfl rfl fun fr r hB=>?_;have lc0b:=lt_of_block c0h
 have lc1b:=lt_of_block c1h;refine wsr ?_;refine ai (.cells (af false aK.zero 0 0 0 0 .nilFunc) 209 (0,0)) r (fun R=>ah cl) rfl fun fr b1 w2 n3 r=>?_;have c0h:=keep n3.below c0h
 have c1h:=keep n3.below c1h;obtain ⟨E1,Z2,H1,hB,zB⟩:=n3.all hB;refine wn (wsr (kL (U c0) r rfl c0h to36 rfl rfl fun r=>kF 0 r rfl eX rfl fun r=>?_));refine bh (.cells ((bb ({ c1 with cur:=c0 }))).toArray 206 (0,0)) r (fun R=>aT r (o:=11) (v:=(U c0)) rfl rfl c1h ts36 (Nat.le_of_ble_eq_true rfl) rfl rfl) rfl fun fr w4 u5 r=>?_
 have Z4:=u5.size;have c0h:=u5.keep c0h (gZ c0h c1h rfl);have H1:=u5.keep H1 kw
 have c1h:=u5.at_;have hB:=Chg.aR (Z:=F) hB;have hB:=hB.bi u5 (.inr c1F);have zB:=hB.size;obtain ⟨zs6,ezs6⟩:∃ z,z=({ c1 with cur:=c0 }):=⟨_,rfl⟩
 rw [←ezs6] at c1h
 refine wn (wp_seq ?_);refine bI 5 [.val (.agg (bb zs6).toArray),.val (U c0),.val (I (D.aV c0)),.val (.agg (bb zs6).toArray),.val (.func (.func 226) #[(.agg (bb zs6).toArray)] #[])] mixed r kz (kV (kV (kV (kV (kV bH))))) ?_ ?_
 ·
  refine ec r (fun _ u _ b d s=>aS s (cs:=(bb zs6)) (n:=14) rfl (keep b c1h) dc rfl bz) (ec r (fun _ u _ b d s=>av s rfl (keep b c0h) to36 rfl bz) (ec r (fun fr1 u w' hb' hd r'=>aJ r' (args:=[(U c0)]) (lc hd.1 l0) gA ((fU _ c0).mono (by rintro _ w2 ⟨rfl,hb2⟩; exact ⟨_,rfl,hb2,rfl⟩))) (ec r (fun _ u _ b d s=>aS s (cs:=(bb zs6)) (n:=14) rfl (keep b c1h) dc rfl bz) (ec r (fun fr1 u w' hb' hd r'=>aU r' (v:=(.func (.func 226) #[(.agg (bb zs6).toArray)] #[])) (congrArg (fun z=>Value.func (.func 226) #[z] #[]) hd.1) bz) ?_))));exact bJ
 intro fr u w7 hb hΦ hne r;have r:=r.congr (sc (hΦ 4 ke) (sc (hΦ 3 ke) (sc (hΦ 2 ke) (sc (hΦ 1 ke) (sc (hΦ 0 ke) rfl)))));have Z7:=hb.size;have c0h:=keep hb c0h;have c1h:=keep hb c1h;have H1:=keep hb H1;have hB:=hB.thenB hb;have zB:=hB.size;have hF1:=cj hF hB.size b1;refine kJ r (lB (F:=(kW F w0 w7 b1)) (n:=n) hF1 zs6 1 (D.aV c0) ⟨226,[(.agg (bb zs6).toArray)],[],qx,rfl,fun m hm _ w' hs hz=>(ih_list_walk_step m kw) _ _ (fun b hb=>Nat.lt_of_lt_of_le (hF1 b hb) hz) zs6⟩) rfl nG rfl fun w8 v9 hb hr10 r=>?_;have Z8:=hb.size
 have H1:=aX hb H1 (by rintro (h | ⟨_,_,h⟩); (have:=hF _ h; omega); exact h rfl)
 have hB:=hB.bk hb (by rintro b hlt (h | ⟨h,_⟩); exact h; omega)
 have zB:=hB.size;refine kP r hr10.shape rfl rfl H1 bT rfl rfl fun w11 u12 r=>?_;have Z11:=u12.size
 have H1:=u12.at_;have hB:=hB.bi u12 (.inl kw)
 have zB:=hB.size;refine wn (wp_ret ?_);have hd:D.l4 j r_list_walk_step c0 c1 a0=(D.eE zs6 1 (D.aV c0) (fun _=>(r_list_walk_step zs6))):=by subst ezs6; exact rfl
 have hs:=hr10.shape.cells;refine ar r rfl rfl H1 (k:=20) hs.1 bU ?_;rw [←hs.2.2,hd];exact au.fin hB hr10 u12 (by rintro b (h | ⟨h1,h2,_⟩); exact .inl h; exact .inr ⟨h1,h2⟩) (by rintro (h | ⟨_,_,h⟩); (have:=hF _ h; omega); exact h rfl) kw kw kw
set_option maxRecDepth 20000 in
set_option maxHeartbeats 8000000 in
theorem Ah {r_list_walk_step:Walk→T Walk} (hF:kH F w0) (hj:n<j) (ih_list_walk_step:∀ m,m≤n→df r_list_walk_step m)
    (c0:Seat) {c0b:Nat} (c0F:F c0b) (c0h:w0.heap[c0b]?=some (.cells ((aG c0)).toArray 63 (0,0))) (c1:Int) {c1b:Nat} (c1F:F c1b) (c1h:w0.heap[c1b]?=some (.cells ([(.int .i64 c1)]).toArray 3 (0,0))) (c2:Int) {c2b:Nat} (c2F:F c2b) (c2h:w0.heap[c2b]?=some (.cells ([(.int .u64 c2)]).toArray 36 (0,0))) (a0:Int) :
    Calls Tryz.prog 225 #[.int .u64 a0,zp c0b,zp c1b,zp c2b] w0 (au Tryz.prog aK n (D.tw j r_list_walk_step c0 c1 c2 a0) F w0):=by
 refine kN Tryz.func225 rfl 13 rfl rfl fun fr r hB=>?_;have lc0b:=lt_of_block c0h
 have lc1b:=lt_of_block c1h;have lc2b:=lt_of_block c2h;refine wsr ?_;refine ai (.cells (af false aK.zero 0 0 0 0 .nilFunc) 209 (0,0)) r (fun R=>ah cl) rfl fun fr b1 w2 n3 r=>?_;obtain ⟨E1,Z2,H1,hB,zB⟩:=n3.all hB
 refine wn (wsr (kG (aG c0) 8 r rfl (keep hB c0h) ta63 rfl rfl fun r=>kL (I c1) r rfl (keep hB c1h) to3 rfl rfl fun r=>kL (U c2) r rfl (keep hB c2h) to36 rfl rfl fun r=>kL (I c1) r rfl (keep hB c1h) to3 rfl rfl fun r=>kM (U a0) r rfl rfl fun r=>kU (.agg (bb (⟨c0,c1,c2,c1,a0,0,false⟩:Walk)).toArray) r kz rfl fun r=>?_));refine kJ r ((ih_list_walk_step n kw) (No) _ (fun _ h=>h.elim) (⟨c0,c1,c2,c1,a0,0,false⟩:Walk)) rfl qx rfl fun w4 v5 hb hr6 r=>?_
 have hb:=hb.below;have Z4:=hb.size;have H1:=keep hb H1;obtain ⟨hB,zB⟩:=bon hb hB;refine kP r hr6.shape rfl rfl H1 bT rfl rfl fun w7 u8 r=>?_;have Z7:=u8.size
 have H1:=u8.at_;obtain ⟨hB,zB⟩:=u8.on hB kw
 refine wn (wp_ret ?_);have hs:=hr6.shape.cells;refine ar r rfl rfl H1 (k:=20) hs.1 bU ?_;rw [←hs.2.2];exact au.fin (Chg.aR hB) hr6 u8 (fun _ h=>h.elim) (fun h=>h) kw kw kw
set_option maxRecDepth 20000 in
set_option maxHeartbeats 8000000 in
theorem oS {r_list_walk_step:Walk→T Walk} (hF:kH F w0) (hj:n<j) (ih_list_walk_step:∀ m,m<n→df r_list_walk_step m)
    (a0:Seat) (a1:Int) (a2:Int) :
    Calls Tryz.prog 122 #[.agg (aG a0).toArray,.int .i64 a1,.int .u64 a2] w0 (au Tryz.prog aK n (D.fX j r_list_walk_step a0 a1 a2) F w0):=by
 refine kN Tryz.func122 rfl 15 rfl rfl fun fr r hB=>?_;refine wsr ?_
 refine kX 63 (.agg (aG a0).toArray) r rfl rfl fun b1 w2 n3 r=>?_;obtain ⟨E1,Z2,H1,hB,zB⟩:=n3.all hB
 refine kX 3 (I a1) r rfl rfl fun b4 w5 n6 r=>?_;have H1:=keep n6.below H1
 obtain ⟨E4,Z5,H4,hB,zB⟩:=n6.all hB;refine kX 36 (U a2) r rfl rfl fun b7 w8 n9 r=>?_;have H1:=keep n9.below H1
 have H4:=keep n9.below H4;obtain ⟨E7,Z8,H7,hB,zB⟩:=n9.all hB;refine ai (.cells (af false aK.zero 0 0 0 0 .nilFunc) 209 (0,0)) r (fun R=>ah cl) rfl fun fr b10 w11 n12 r=>?_;have H1:=keep n12.below H1
 have H4:=keep n12.below H4;have H7:=keep n12.below H7;obtain ⟨E10,Z11,H10,hB,zB⟩:=n12.all hB;refine wn (wsr (kF 0 r rfl dB rfl fun r=>kG (ae a0.p) 6 r rfl H1 ta23 rfl rfl fun r=>kF 0 r rfl hO rfl fun r=>kL (I a0.thread) r rfl H1 to3 rfl rfl fun r=>kL (I a1) r rfl H4 to3 rfl rfl fun r=>?_));refine kD r (Ao (j:=j) (F:=No) (n:=n) (fun _ h=>h.elim) kw a0.p a0.thread 1 a1 1 (by first | assumption | decide)) rfl EO rfl fun w13 v14 hb hr15 r=>?_
 have hr15:=hr15.loud;have Z13:=hb.size;have H1:=keep hb H1;have H4:=keep hb H4;have H7:=keep hb H7;have H10:=keep hb H10;obtain ⟨hB,zB⟩:=bon hb hB;refine ac (.func (.func 225) #[] #[zp b1,zp b4,zp b7]) r (fun R=>aU r rfl) rfl fun fr r=>?_;have hF1:∀ b,(kW F w0 w11 b10) b→b<w13.heap.size:=by rintro b (h | ⟨_,h,_⟩); exact Nat.lt_of_lt_of_le (hF b h) hB.size; exact Nat.lt_of_lt_of_le h kw
 have f19:((kW F w0 w11 b10)) b1:=(.inr ⟨kw,kw,kw⟩)
 have f20:((kW F w0 w11 b10)) b4:=(.inr ⟨kw,kw,kw⟩)
 have f21:((kW F w0 w11 b10)) b7:=(.inr ⟨kw,kw,kw⟩)
 have hF2:=cj hF hB.size b10;refine kJ r (xB (F:=(kW F w0 w13 b10)) (F2:=(kW F w0 w11 b10)) (n:=n) hF2 (by rintro b ⟨h,h'⟩; exact .inr ⟨kw,kw,kw⟩) (by rintro b (h | ⟨h1,h2,h3⟩); exact .inl h; exact .inr ⟨h1,kw,h3⟩) (by rintro b ⟨h1,h2⟩ (h | ⟨h3,h4,_⟩); (have:=hF b h; omega); omega) (RepL.mono (F':=fun b=>w11.heap.size≤b∧b<w13.heap.size) (by rintro b (h | h); exact h.elim; exact h) (Same.refl _ _) (Nat.le_refl _) n _ _ hr15) ⟨225,[],[zp b1,zp b4,zp b7],FC,rfl,fun m hm x w' hs hz=>Ah (j:=j) (fun b hb=>Nat.lt_of_lt_of_le (hF1 b hb) hz) kw (fun m' hm'=>ih_list_walk_step m' kw) a0 f19 (hs.at_ f19 H1) a1 f20 (hs.at_ f20 H4) a2 f21 (hs.at_ f21 H7) x⟩ (by first | rfl | (cases j with | zero=>omega | succ q=>rfl))) rfl wY rfl fun w16 v17 hb hr18 r=>?_
 have Z16:=hb.size;have H10:=aX hb H10 (by rintro (h | ⟨_,_,h⟩); (have:=hF _ h; omega); exact h rfl)
 have hB:=Chg.aR (Z:=F) hB;have hB:=hB.bk hb (by rintro b hlt (h | ⟨h,_⟩); exact h; omega)
 have zB:=hB.size;refine kP r hr18.shape rfl rfl H10 bT rfl rfl fun w22 u23 r=>?_;have Z22:=u23.size
 have H10:=u23.at_;have hB:=hB.bi u23 (.inl kw)
 have zB:=hB.size;refine wn (wp_ret ?_);have hs:=hr18.shape.cells;refine ar r rfl rfl H10 (k:=20) hs.1 bU ?_;rw [←hs.2.2];exact au.fin hB hr18 u23 (by rintro b (h | ⟨h1,h2,_⟩); exact .inl h; exact .inr ⟨h1,h2⟩) (by rintro (h | ⟨_,_,h⟩); (have:=hF _ h; omega); exact h rfl) kw kw kw
set_option maxRecDepth 20000 in
set_option maxHeartbeats 8000000 in
theorem lj {r_list_walk_step:Walk→T Walk} (hF:kH F w0) (hj:n<j) (ih_list_walk_step:∀ m,m<n→df r_list_walk_step m)
    (a0:Walk) :
    Calls Tryz.prog 231 #[.agg (bb a0).toArray] w0 (au Tryz.prog aK n (D.eD j r_list_walk_step a0) F w0):=by
 refine kN Tryz.func231 rfl 10 rfl rfl fun fr r hB=>?_;refine wsr ?_
 refine kX 206 (.agg (bb a0).toArray) r rfl rfl fun b1 w2 n3 r=>?_;obtain ⟨E1,Z2,H1,hB,zB⟩:=n3.all hB
 refine ai (.cells (af false aK.zero 0 0 0 0 .nilFunc) 209 (0,0)) r (fun R=>ah cl) rfl fun fr b4 w5 n6 r=>?_;have H1:=keep n6.below H1
 obtain ⟨E4,Z5,H4,hB,zB⟩:=n6.all hB;refine wn (wsr (kF 0 r rfl gj rfl fun r=>kG (aG a0.seat) 8 r rfl H1 ta63 rfl rfl fun r=>kF 0 r rfl Cp rfl fun r=>kL (I a0.cell) r rfl H1 to3 rfl rfl fun r=>kF 0 r rfl qf rfl fun r=>kL (U a0.k) r rfl H1 to36 rfl rfl fun r=>?_));refine kJ r (oS (j:=j) (F:=No) (n:=n) (fun _ h=>h.elim) kw (fun m' hm'=>ih_list_walk_step m' kw) a0.seat a0.cell a0.k) rfl rm rfl fun w7 v8 hb hr9 r=>?_
 have hb:=hb.below;have Z7:=hb.size;have H1:=keep hb H1;have H4:=keep hb H4;obtain ⟨hB,zB⟩:=bon hb hB;refine kP r hr9.shape rfl rfl H4 bT rfl rfl fun w10 u11 r=>?_;have Z10:=u11.size
 have H1:=u11.keep H1 kw
 have H4:=u11.at_;obtain ⟨hB,zB⟩:=u11.on hB kw
 refine wn (wp_ret ?_);have hs:=hr9.shape.cells;refine ar r rfl rfl H4 (k:=20) hs.1 bU ?_;rw [←hs.2.2];exact au.fin (Chg.aR hB) hr9 u11 (fun _ h=>h.elim) (fun h=>h) kw kw kw
set_option maxRecDepth 20000 in
set_option maxHeartbeats 8000000 in
theorem xT {r_list_walk_step:Walk→T Walk} (hF:kH F w0) (hj:n<j) (ih_list_walk_step:∀ m,m<n→df r_list_walk_step m)
    (c0:Walk) {c0b:Nat} (c0F:F c0b) (c0h:w0.heap[c0b]?=some (.cells ((bb c0)).toArray 206 (0,0))) (c1:Int) {c1b:Nat} (c1F:F c1b) (c1h:w0.heap[c1b]?=some (.cells ([(.int .i64 c1)]).toArray 3 (0,0))) (c2:Int) {c2b:Nat} (c2F:F c2b) (c2h:w0.heap[c2b]?=some (.cells ([(.int .u64 c2)]).toArray 36 (0,0))) (a0:Bool) :
    Calls Tryz.prog 394 #[.bool a0,zp c0b,zp c1b,zp c2b] w0 (au Tryz.prog aK n (D.l7 j r_list_walk_step c0 c1 c2 a0) F w0):=by
 refine kN Tryz.func394 rfl 20 rfl rfl fun fr r hB=>?_;have lc0b:=lt_of_block c0h
 have lc1b:=lt_of_block c1h;have lc2b:=lt_of_block c2h;refine wsr ?_;refine ai (.cells (af false aK.zero 0 0 0 0 .nilFunc) 209 (0,0)) r (fun R=>ah cl) rfl fun fr b1 w2 n3 r=>?_;have c0h:=keep n3.below c0h
 have c1h:=keep n3.below c1h;have c2h:=keep n3.below c2h;obtain ⟨E1,Z2,H1,hB,zB⟩:=n3.all hB;refine wn (wp_seq (wsr (kM (.bool a0) r rfl rfl fun r=>ac (.bool (!a0)) r (fun R=>y_un r (u:=(.bool a0)) rfl rfl) rfl fun fr r=>wn ?_)));refine wp_cond_split (t:=(!a0)) (r.ev rfl) (fun h4=>?_) (fun h4=>?_)
 ·
  refine wsr (kG (bb c0) 14 r rfl c0h dc rfl rfl fun r=>?_);refine kJ r (lj (j:=j) (F:=No) (n:=n) (fun _ h=>h.elim) kw (fun m' hm'=>ih_list_walk_step m' kw) c0) rfl nD rfl fun w5 v6 hb hr7 r=>?_
  have hb:=hb.below;have Z5:=hb.size;have c0h:=keep hb c0h;have c1h:=keep hb c1h;have c2h:=keep hb c2h;have H1:=keep hb H1;obtain ⟨hB,zB⟩:=bon hb hB;refine kP r hr7.shape rfl rfl H1 bT rfl rfl fun w8 u9 r=>?_;have Z8:=u9.size
  have c0h:=u9.keep c0h kw
  have c1h:=u9.keep c1h kw
  have c2h:=u9.keep c2h kw
  have H1:=u9.at_;obtain ⟨hB,zB⟩:=u9.on hB kw
  refine wn (wp_ret ?_);have hd:D.l7 j r_list_walk_step c0 c1 c2 a0=(D.eD j r_list_walk_step c0):=(az h4).trans (rfl);have hs:=hr7.shape.cells;refine ar r rfl rfl H1 (k:=20) hs.1 bU ?_;rw [←hs.2.2,hd];exact au.fin (Chg.aR hB) hr7 u9 (fun _ h=>h.elim) (fun h=>h) kw kw kw
 refine wp_skip (wsr (kF 0 r rfl gj rfl fun r=>kF 0 r rfl dB rfl fun r=>kG (ae c0.seat.p) 6 r rfl c0h ta23 rfl rfl fun r=>kF 0 r rfl gj rfl fun r=>kF 0 r rfl hO rfl fun r=>kL (I c0.seat.thread) r rfl c0h to3 rfl rfl fun r=>kL (I c1) r rfl c1h to3 rfl rfl fun r=>?_));refine kD r (sM (j:=j) (F:=No) (n:=n) (fun _ h=>h.elim) kw c0.seat.p c0.seat.thread c1) rfl cl82 rfl fun w10 v11 hb hr12 r=>?_
 have hr12:=hr12.loud;have Z10:=hb.size;have c0h:=keep hb c0h;have c1h:=keep hb c1h;have c2h:=keep hb c2h;have H1:=keep hb H1;obtain ⟨hB,zB⟩:=bon hb hB;refine ac (.func (.func 396) #[] #[zp c2b,zp c0b]) r (fun R=>aU r rfl) rfl fun fr r=>?_;have hF1:∀ b,(kW F w0 w2 b1) b→b<w10.heap.size:=by rintro b (h | ⟨_,h,_⟩); exact Nat.lt_of_lt_of_le (hF b h) hB.size; exact Nat.lt_of_lt_of_le h kw
 have f16:((kW F w0 w2 b1)) c2b:=(.inl c2F);have f17:((kW F w0 w2 b1)) c0b:=(.inl c0F);have hF2:=cj hF hB.size b1;refine kJ r (xK (F:=(kW F w0 w10 b1)) (F2:=(kW F w0 w2 b1)) (n:=n) hF2 (by rintro b ⟨h,h'⟩; exact .inr ⟨kw,kw,kw⟩) (by rintro b (h | ⟨h1,h2,h3⟩); exact .inl h; exact .inr ⟨h1,kw,h3⟩) (by rintro b ⟨h1,h2⟩ (h | ⟨h3,h4,_⟩); (have:=hF b h; omega); omega) (RepL.mono (F':=fun b=>w2.heap.size≤b∧b<w10.heap.size) (by rintro b (h | h); exact h.elim; exact h) (Same.refl _ _) (Nat.le_refl _) n _ _ hr12) ⟨396,[],[zp c2b,zp c0b],DW,rfl,fun m hm x w' hs hz=>xH (j:=j) (fun b hb=>Nat.lt_of_lt_of_le (hF1 b hb) hz) kw (fun m' hm'=>ih_list_walk_step m' kw) c2 f16 (hs.at_ f16 c2h) c0 f17 (hs.at_ f17 c0h) x⟩) rfl wF rfl fun w13 v14 hb hr15 r=>?_
 have Z13:=hb.size;have H1:=aX hb H1 (by rintro (h | ⟨_,_,h⟩); (have:=hF _ h; omega); exact h rfl)
 have hB:=Chg.aR (Z:=F) hB;have hB:=hB.bk hb (by rintro b hlt (h | ⟨h,_⟩); exact h; omega)
 have zB:=hB.size;refine kP r hr15.shape rfl rfl H1 bT rfl rfl fun w18 u19 r=>?_;have Z18:=u19.size
 have H1:=u19.at_;have hB:=hB.bi u19 (.inl kw)
 have zB:=hB.size;refine wn (wp_ret ?_);have hd:D.l7 j r_list_walk_step c0 c1 c2 a0=(T.bind (D.fT j c0.seat.p c0.seat.thread c1) (fun x=>(D.l4 j r_list_walk_step c2 c0 x))):=(aB h4).trans (rfl)
 have hs:=hr15.shape.cells;refine ar r rfl rfl H1 (k:=20) hs.1 bU ?_;rw [←hs.2.2,hd];exact au.fin hB hr15 u19 (by rintro b (h | ⟨h1,h2,_⟩); exact .inl h; exact .inr ⟨h1,h2⟩) (by rintro (h | ⟨_,_,h⟩); (have:=hF _ h; omega); exact h rfl) kw kw kw
set_option maxRecDepth 20000 in
set_option maxHeartbeats 8000000 in
theorem yg {r_list_walk_step:Walk→T Walk} (hF:kH F w0) (hj:n<j) (ih_list_walk_step:∀ m,m<n→df r_list_walk_step m)
    (a0:Walk) (a1:Int) :
    Calls Tryz.prog 371 #[.agg (bb a0).toArray,.int .i64 a1] w0 (au Tryz.prog aK n (D.nT j r_list_walk_step a0 a1) F w0):=by
 refine kN Tryz.func371 rfl 16 rfl rfl fun fr r hB=>?_;refine wsr ?_
 refine kX 206 (.agg (bb a0).toArray) r rfl rfl fun b1 w2 n3 r=>?_;obtain ⟨E1,Z2,H1,hB,zB⟩:=n3.all hB
 refine kX 3 (I a1) r rfl rfl fun b4 w5 n6 r=>?_;have H1:=keep n6.below H1
 obtain ⟨E4,Z5,H4,hB,zB⟩:=n6.all hB;refine ai (.cells (af false aK.zero 0 0 0 0 .nilFunc) 209 (0,0)) r (fun R=>ah cl) rfl fun fr b7 w8 n9 r=>?_;have H1:=keep n9.below H1
 have H4:=keep n9.below H4;obtain ⟨E7,Z8,H7,hB,zB⟩:=n9.all hB;refine wn (wsr (kF 0 r rfl gb rfl fun r=>kL (U a0.next) r rfl H1 to36 rfl rfl fun r=>kB r rfl rfl rfl rfl rfl fun r=>?_));refine ai (.cells #[(U 0)] 36 (0,0)) r (fun R=>ah tz36) rfl fun fr b10 w11 n12 r=>?_
 have H1:=keep n12.below H1;have H4:=keep n12.below H4;have H7:=keep n12.below H7;obtain ⟨E10,Z11,H10,hB,zB⟩:=n12.all hB;refine bh (.cells #[(U (ct .u64 a0.next 1))] 36 (0,0)) r (fun R=>aT r (o:=0) (v:=(U (ct .u64 a0.next 1))) rfl rfl H10 ts36 (Nat.le_of_ble_eq_true rfl) rfl rfl) rfl fun fr w13 u14 r=>?_;have Z13:=u14.size
 have H1:=u14.keep H1 kw
 have H4:=u14.keep H4 kw
 have H7:=u14.keep H7 kw
 have H10:=u14.at_;obtain ⟨hB,zB⟩:=u14.on hB kw
 refine wn (wsr (kF 0 r rfl jX rfl fun r=>kL (I a0.place) r rfl H1 to3 rfl rfl fun r=>kF 0 r rfl eX rfl fun r=>kL (U a0.cur) r rfl H1 to36 rfl rfl fun r=>kL (U (ct .u64 a0.next 1)) r rfl H10 to36 rfl rfl fun r=>ac (.func (.func 394) #[] #[zp b1,zp b4,zp b10]) r (fun R=>aU r rfl) rfl fun fr r=>?_));have hF1:=cj hF hB.size b7
 have f18:((kW F w0 w13 b7)) b1:=(.inr ⟨kw,kw,kw⟩)
 have f19:((kW F w0 w13 b7)) b4:=(.inr ⟨kw,kw,kw⟩)
 have f20:((kW F w0 w13 b7)) b10:=(.inr ⟨kw,kw,kw⟩)
 refine kJ r (zt (F:=(kW F w0 w13 b7)) (n:=n) hF1 a0.place a0.cur (ct .u64 a0.next 1) ⟨394,[],[zp b1,zp b4,zp b10],Es,rfl,fun m hm x w' hs hz=>xT (j:=j) (fun b hb=>Nat.lt_of_lt_of_le (hF1 b hb) hz) kw (fun m' hm'=>ih_list_walk_step m' kw) a0 f18 (hs.at_ f18 H1) a1 f19 (hs.at_ f19 H4) (ct .u64 a0.next 1) f20 (hs.at_ f20 H10) x⟩) rfl FA rfl fun w15 v16 hb hr17 r=>?_;have Z15:=hb.size
 have H7:=aX hb H7 (by rintro (h | ⟨_,_,h⟩); (have:=hF _ h; omega); exact h rfl)
 have hB:=Chg.aR (Z:=F) hB;have hB:=hB.bk hb (by rintro b hlt (h | ⟨h,_⟩); exact h; omega)
 have zB:=hB.size;refine kP r hr17.shape rfl rfl H7 bT rfl rfl fun w21 u22 r=>?_;have Z21:=u22.size
 have H7:=u22.at_;have hB:=hB.bi u22 (.inl kw)
 have zB:=hB.size;refine wn (wp_ret ?_);have hs:=hr17.shape.cells;refine ar r rfl rfl H7 (k:=20) hs.1 bU ?_;rw [←hs.2.2];exact au.fin hB hr17 u22 (by rintro b (h | ⟨h1,h2,_⟩); exact .inl h; exact .inr ⟨h1,h2⟩) (by rintro (h | ⟨_,_,h⟩); (have:=hF _ h; omega); exact h rfl) kw kw kw
set_option maxRecDepth 20000 in
set_option maxHeartbeats 8000000 in
theorem xZ {r_list_walk_step:Walk→T Walk} (hF:kH F w0) (hj:n<j) (ih_list_walk_step:∀ m,m<n→df r_list_walk_step m)
    (c0:Walk) {c0b:Nat} (c0F:F c0b) (c0h:w0.heap[c0b]?=some (.cells ((bb c0)).toArray 206 (0,0))) (c1:Int) {c1b:Nat} (c1F:F c1b) (c1h:w0.heap[c1b]?=some (.cells ([(.int .i64 c1)]).toArray 3 (0,0))) (c2:Int) {c2b:Nat} (c2F:F c2b) (c2h:w0.heap[c2b]?=some (.cells ([(.int .u64 c2)]).toArray 36 (0,0))) (a0:Int) :
    Calls Tryz.prog 370 #[.int .u64 a0,zp c0b,zp c1b,zp c2b] w0 (au Tryz.prog aK n (D.gD j r_list_walk_step c0 c1 c2 a0) F w0):=by
 refine kN Tryz.func370 rfl 36 rfl rfl fun fr r hB=>?_;have lc0b:=lt_of_block c0h
 have lc1b:=lt_of_block c1h;have lc2b:=lt_of_block c2h;refine wsr ?_;refine ai (.cells (af false aK.zero 0 0 0 0 .nilFunc) 209 (0,0)) r (fun R=>ah cl) rfl fun fr b1 w2 n3 r=>?_;have c0h:=keep n3.below c0h
 have c1h:=keep n3.below c1h;have c2h:=keep n3.below c2h;obtain ⟨E1,Z2,H1,hB,zB⟩:=n3.all hB;refine wn (wp_seq (wp_block (wsr (kM (U a0) r rfl rfl fun r=>kF 0 r rfl eX rfl fun r=>kL (U c0.cur) r rfl c0h to36 rfl rfl fun r=>kB r rfl rfl rfl rfl rfl fun r=>kA (.bool (a0 !=c0.cur)) r rfl rfl fun r=>wn ?_))));refine wp_cond_split (t:=(a0 !=c0.cur)) (r.ev rfl) (fun h4=>?_) (fun h4=>?_)
 ·
  refine wsr (kG (bb c0) 14 r rfl c0h dc rfl rfl fun r=>?_);refine kJ r (lj (j:=j) (F:=No) (n:=n) (fun _ h=>h.elim) kw (fun m' hm'=>ih_list_walk_step m' kw) c0) rfl nD rfl fun w5 v6 hb hr7 r=>?_
  have hb:=hb.below;have Z5:=hb.size;have c0h:=keep hb c0h;have c1h:=keep hb c1h;have c2h:=keep hb c2h;have H1:=keep hb H1;obtain ⟨hB,zB⟩:=bon hb hB;refine kP r hr7.shape rfl rfl H1 bT rfl rfl fun w8 u9 r=>?_;have Z8:=u9.size
  have c0h:=u9.keep c0h kw
  have c1h:=u9.keep c1h kw
  have c2h:=u9.keep c2h kw
  have H1:=u9.at_;obtain ⟨hB,zB⟩:=u9.on hB kw
  refine wn (wp_ret ?_);have hd:D.gD j r_list_walk_step c0 c1 c2 a0=(D.eD j r_list_walk_step c0):=(az h4).trans (rfl);have hs:=hr7.shape.cells;refine ar r rfl rfl H1 (k:=20) hs.1 bU ?_;rw [←hs.2.2,hd];exact au.fin (Chg.aR hB) hr7 u9 (fun _ h=>h.elim) (fun h=>h) kw kw kw
 refine wsr (kF 0 r rfl gb rfl fun r=>kL (U c0.next) r rfl c0h to36 rfl rfl fun r=>kB r rfl rfl rfl rfl rfl fun r=>kB r rfl rfl rfl rfl rfl fun r=>kA (.bool ((cw .u64 c0.next 1) !=0)) r rfl rfl fun r=>wn ?_);refine wp_cond_split (t:=((cw .u64 c0.next 1) !=0)) (r.ev rfl) (fun h10=>?_) (fun h10=>?_)
 ·
  refine wsr (kG (bb c0) 14 r rfl c0h dc rfl rfl fun r=>kL (I c1) r rfl c1h to3 rfl rfl fun r=>?_);refine kJ r (yg (j:=j) (F:=No) (n:=n) (fun _ h=>h.elim) kw (fun m' hm'=>ih_list_walk_step m' kw) c0 c1) rfl Fz rfl fun w11 v12 hb hr13 r=>?_
  have hb:=hb.below;have Z11:=hb.size;have c0h:=keep hb c0h;have c1h:=keep hb c1h;have c2h:=keep hb c2h;have H1:=keep hb H1;obtain ⟨hB,zB⟩:=bon hb hB;refine kP r hr13.shape rfl rfl H1 bT rfl rfl fun w14 u15 r=>?_;have Z14:=u15.size
  have c0h:=u15.keep c0h kw
  have c1h:=u15.keep c1h kw
  have c2h:=u15.keep c2h kw
  have H1:=u15.at_;obtain ⟨hB,zB⟩:=u15.on hB kw
  refine wn (wp_ret ?_);have hd:D.gD j r_list_walk_step c0 c1 c2 a0=(D.nT j r_list_walk_step c0 c1):=(aB h4).trans ((az h10).trans (rfl));have hs:=hr13.shape.cells;refine ar r rfl rfl H1 (k:=20) hs.1 bU ?_;rw [←hs.2.2,hd];exact au.fin (Chg.aR hB) hr13 u15 (fun _ h=>h.elim) (fun h=>h) kw kw kw
 refine wsr (kL (U c2) r rfl c2h to36 rfl rfl fun r=>kF 0 r rfl qf rfl fun r=>kL (U c0.k) r rfl c0h to36 rfl rfl fun r=>kB r rfl rfl rfl rfl rfl fun r=>kA (.bool (decide (c2≥c0.k))) r rfl rfl fun r=>wn ?_);refine wp_cond_split (t:=(decide (c2≥c0.k))) (r.ev rfl) (fun h16=>?_) (fun h16=>?_)
 ·
  refine wsr (kL (U c2) r rfl c2h to36 rfl rfl fun r=>kF 0 r rfl qf rfl fun r=>kL (U c0.k) r rfl c0h to36 rfl rfl fun r=>kB r rfl rfl rfl rfl rfl fun r=>kF 0 r rfl mO rfl fun r=>?_);refine bh (.cells ((bb ({ c0 with there:=(c2==c0.k) }))).toArray 206 (0,0)) r (fun R=>aT r (o:=13) (v:=(.bool (c2==c0.k))) rfl rfl c0h ts4 (Nat.le_of_ble_eq_true rfl) rfl rfl) rfl fun fr w17 u18 r=>?_
  have Z17:=u18.size;have c1h:=u18.keep c1h (gZ c1h c0h rfl);have c2h:=u18.keep c2h (gZ c2h c0h rfl);have H1:=u18.keep H1 kw
  have c0h:=u18.at_;have hB:=Chg.aR (Z:=F) hB;have hB:=hB.bi u18 (.inr c0F);have zB:=hB.size;obtain ⟨zs19,ezs19⟩:∃ z,z=({ c0 with there:=(c2==c0.k) }):=⟨_,rfl⟩
  rw [←ezs19] at c0h
  refine wn (wsr (kG (bb zs19) 14 r rfl c0h dc rfl rfl fun r=>?_));refine kJ r (rU (F:=No) (n:=n) (fun _ h=>h.elim) zs19) rfl xx rfl fun w20 v21 hb hr22 r=>?_
  have hb:=hb.below;have Z20:=hb.size;have c0h:=keep hb c0h;have c1h:=keep hb c1h;have c2h:=keep hb c2h;have H1:=keep hb H1;have hB:=hB.thenB hb;have zB:=hB.size;refine kP r hr22.shape rfl rfl H1 bT rfl rfl fun w23 u24 r=>?_;have Z23:=u24.size
  have c0h:=u24.keep c0h kw
  have c1h:=u24.keep c1h kw
  have c2h:=u24.keep c2h kw
  have H1:=u24.at_;have hB:=hB.bi u24 (.inl kw)
  have zB:=hB.size;refine wn (wp_ret ?_);have hd:D.gD j r_list_walk_step c0 c1 c2 a0=(D.iw zs19):=by subst ezs19; exact (aB h4).trans ((aB h10).trans ((az h16).trans (rfl)))
  have hs:=hr22.shape.cells;refine ar r rfl rfl H1 (k:=20) hs.1 bU ?_;rw [←hs.2.2,hd];exact au.fin hB hr22 u24 (fun _ h=>h.elim) (fun h=>h) kw kw kw
 refine wp_skip (wsr (kG (bb c0) 14 r rfl c0h dc rfl rfl fun r=>kL (I c1) r rfl c1h to3 rfl rfl fun r=>?_));refine kJ r (zY (j:=j) (F:=No) (n:=n) (fun _ h=>h.elim) kw (fun m' hm'=>ih_list_walk_step m' kw) c0 c1) rfl Du rfl fun w25 v26 hb hr27 r=>?_
 have hb:=hb.below;have Z25:=hb.size;have c0h:=keep hb c0h;have c1h:=keep hb c1h;have c2h:=keep hb c2h;have H1:=keep hb H1;obtain ⟨hB,zB⟩:=bon hb hB;refine kP r hr27.shape rfl rfl H1 bT rfl rfl fun w28 u29 r=>?_;have Z28:=u29.size
 have c0h:=u29.keep c0h kw
 have c1h:=u29.keep c1h kw
 have c2h:=u29.keep c2h kw
 have H1:=u29.at_;obtain ⟨hB,zB⟩:=u29.on hB kw
 refine wn (wp_ret ?_);have hd:D.gD j r_list_walk_step c0 c1 c2 a0=(D.iA j r_list_walk_step c0 c1):=(aB h4).trans ((aB h10).trans ((aB h16).trans (rfl)));have hs:=hr27.shape.cells;refine ar r rfl rfl H1 (k:=20) hs.1 bU ?_;rw [←hs.2.2,hd];exact au.fin (Chg.aR hB) hr27 u29 (fun _ h=>h.elim) (fun h=>h) kw kw kw
set_option maxRecDepth 20000 in
set_option maxHeartbeats 8000000 in
theorem yA {r_list_walk_step:Walk→T Walk} (hF:kH F w0) (hj:n<j) (ih_list_walk_step:∀ m,m<n→df r_list_walk_step m)
    (c0:Walk) {c0b:Nat} (c0F:F c0b) (c0h:w0.heap[c0b]?=some (.cells ((bb c0)).toArray 206 (0,0))) (c1:Int) {c1b:Nat} (c1F:F c1b) (c1h:w0.heap[c1b]?=some (.cells ([(.int .i64 c1)]).toArray 3 (0,0))) (a0:Int) :
    Calls Tryz.prog 369 #[.int .u64 a0,zp c0b,zp c1b] w0 (au Tryz.prog aK n (D.lg j r_list_walk_step c0 c1 a0) F w0):=by
 refine kN Tryz.func369 rfl 9 rfl rfl fun fr r hB=>?_;have lc0b:=lt_of_block c0h
 have lc1b:=lt_of_block c1h;refine wsr ?_;refine kX 36 (U a0) r rfl rfl fun b1 w2 n3 r=>?_;have c0h:=keep n3.below c0h
 have c1h:=keep n3.below c1h;obtain ⟨E1,Z2,H1,hB,zB⟩:=n3.all hB;refine ai (.cells (af false aK.zero 0 0 0 0 .nilFunc) 209 (0,0)) r (fun R=>ah cl) rfl fun fr b4 w5 n6 r=>?_;have c0h:=keep n6.below c0h
 have c1h:=keep n6.below c1h;have H1:=keep n6.below H1;obtain ⟨E4,Z5,H4,hB,zB⟩:=n6.all hB;refine wn (wsr (kF 0 r rfl jX rfl fun r=>kL (I c0.place) r rfl c0h to3 rfl rfl fun r=>ac (.func (.func 370) #[] #[zp c0b,zp c1b,zp b1]) r (fun R=>aU r rfl) rfl fun fr r=>?_));have hF1:=cj hF hB.size b4
 have f10:((kW F w0 w5 b4)) c0b:=(.inl c0F);have f11:((kW F w0 w5 b4)) c1b:=(.inl c1F);have f12:((kW F w0 w5 b4)) b1:=(.inr ⟨kw,kw,kw⟩)
 refine kJ r (lq (F:=(kW F w0 w5 b4)) (n:=n) hF1 c0.place ⟨370,[],[zp c0b,zp c1b,zp b1],ET,rfl,fun m hm x w' hs hz=>xZ (j:=j) (fun b hb=>Nat.lt_of_lt_of_le (hF1 b hb) hz) kw (fun m' hm'=>ih_list_walk_step m' kw) c0 f10 (hs.at_ f10 c0h) c1 f11 (hs.at_ f11 c1h) a0 f12 (hs.at_ f12 H1) x⟩) rfl nu rfl fun w7 v8 hb hr9 r=>?_;have Z7:=hb.size
 have H4:=aX hb H4 (by rintro (h | ⟨_,_,h⟩); (have:=hF _ h; omega); exact h rfl)
 have hB:=Chg.aR (Z:=F) hB;have hB:=hB.bk hb (by rintro b hlt (h | ⟨h,_⟩); exact h; omega)
 have zB:=hB.size;refine kP r hr9.shape rfl rfl H4 bT rfl rfl fun w13 u14 r=>?_;have Z13:=u14.size
 have H4:=u14.at_;have hB:=hB.bi u14 (.inl kw)
 have zB:=hB.size;refine wn (wp_ret ?_);have hs:=hr9.shape.cells;refine ar r rfl rfl H4 (k:=20) hs.1 bU ?_;rw [←hs.2.2];exact au.fin hB hr9 u14 (by rintro b (h | ⟨h1,h2,_⟩); exact .inl h; exact .inr ⟨h1,h2⟩) (by rintro (h | ⟨_,_,h⟩); (have:=hF _ h; omega); exact h rfl) kw kw kw
set_option maxRecDepth 20000 in
set_option maxHeartbeats 8000000 in
theorem zg {r_list_walk_step:Walk→T Walk} (hF:kH F w0) (hj:n<j) (ih_list_walk_step:∀ m,m<n→df r_list_walk_step m)
    (a0:Walk) (a1:Int) :
    Calls Tryz.prog 325 #[.agg (bb a0).toArray,.int .i64 a1] w0 (au Tryz.prog aK n (D.ij j r_list_walk_step a0 a1) F w0):=by
 refine kN Tryz.func325 rfl 12 rfl rfl fun fr r hB=>?_;refine wsr ?_
 refine kX 206 (.agg (bb a0).toArray) r rfl rfl fun b1 w2 n3 r=>?_;obtain ⟨E1,Z2,H1,hB,zB⟩:=n3.all hB
 refine kX 3 (I a1) r rfl rfl fun b4 w5 n6 r=>?_;have H1:=keep n6.below H1
 obtain ⟨E4,Z5,H4,hB,zB⟩:=n6.all hB;refine ai (.cells (af false aK.zero 0 0 0 0 .nilFunc) 209 (0,0)) r (fun R=>ah cl) rfl fun fr b7 w8 n9 r=>?_;have H1:=keep n9.below H1
 have H4:=keep n9.below H4;obtain ⟨E7,Z8,H7,hB,zB⟩:=n9.all hB;refine wn (wsr (kF 0 r rfl gj rfl fun r=>kF 0 r rfl dB rfl fun r=>kG (ae a0.seat.p) 6 r rfl H1 ta23 rfl rfl fun r=>kL (I a1) r rfl H4 to3 rfl rfl fun r=>?_));refine kE r (dZ w8 a0.seat.p a1 0) rfl cl85 rfl fun w10 hb r=>?_
 have Z10:=hb.size;have H1:=keep hb H1;have H4:=keep hb H4;have H7:=keep hb H7;obtain ⟨hB,zB⟩:=bon hb hB;refine ac (.func (.func 369) #[] #[zp b1,zp b4]) r (fun R=>aU r rfl) rfl fun fr r=>?_;have hF1:=cj hF hB.size b7
 have f14:((kW F w0 w10 b7)) b1:=(.inr ⟨kw,kw,kw⟩)
 have f15:((kW F w0 w10 b7)) b4:=(.inr ⟨kw,kw,kw⟩)
 refine kJ r (lq (F:=(kW F w0 w10 b7)) (n:=n) hF1 (D.bf a0.seat.p a1 0) ⟨369,[],[zp b1,zp b4],FR,rfl,fun m hm x w' hs hz=>yA (j:=j) (fun b hb=>Nat.lt_of_lt_of_le (hF1 b hb) hz) kw (fun m' hm'=>ih_list_walk_step m' kw) a0 f14 (hs.at_ f14 H1) a1 f15 (hs.at_ f15 H4) x⟩) rfl nu rfl fun w11 v12 hb hr13 r=>?_;have Z11:=hb.size
 have H7:=aX hb H7 (by rintro (h | ⟨_,_,h⟩); (have:=hF _ h; omega); exact h rfl)
 have hB:=Chg.aR (Z:=F) hB;have hB:=hB.bk hb (by rintro b hlt (h | ⟨h,_⟩); exact h; omega)
 have zB:=hB.size;refine kP r hr13.shape rfl rfl H7 bT rfl rfl fun w16 u17 r=>?_;have Z16:=u17.size
 have H7:=u17.at_;have hB:=hB.bi u17 (.inl kw)
 have zB:=hB.size;refine wn (wp_ret ?_);have hs:=hr13.shape.cells;refine ar r rfl rfl H7 (k:=20) hs.1 bU ?_;rw [←hs.2.2];exact au.fin hB hr13 u17 (by rintro b (h | ⟨h1,h2,_⟩); exact .inl h; exact .inr ⟨h1,h2⟩) (by rintro (h | ⟨_,_,h⟩); (have:=hF _ h; omega); exact h rfl) kw kw kw
set_option maxRecDepth 20000 in
set_option maxHeartbeats 8000000 in
theorem xO {r_list_walk_step:Walk→T Walk} (hF:kH F w0) (hj:n<j) (ih_list_walk_step:∀ m,m<n→df r_list_walk_step m)
    (c0:Int) {c0b:Nat} (c0F:F c0b) (c0h:w0.heap[c0b]?=some (.cells ([(.int .u64 c0)]).toArray 36 (0,0))) (c1:Walk) {c1b:Nat} (c1F:F c1b) (c1h:w0.heap[c1b]?=some (.cells ((bb c1)).toArray 206 (0,0))) (c2:Int) {c2b:Nat} (c2F:F c2b) (c2h:w0.heap[c2b]?=some (.cells ([(.int .i64 c2)]).toArray 3 (0,0))) (a0:Int) :
    Calls Tryz.prog 324 #[.int .u64 a0,zp c0b,zp c1b,zp c2b] w0 (au Tryz.prog aK n (D.ja j r_list_walk_step c0 c1 c2 a0) F w0):=by
 refine kN Tryz.func324 rfl 16 rfl rfl fun fr r hB=>?_;have lc0b:=lt_of_block c0h
 have lc1b:=lt_of_block c1h;have lc2b:=lt_of_block c2h;refine wsr ?_;refine ai (.cells (af false aK.zero 0 0 0 0 .nilFunc) 209 (0,0)) r (fun R=>ah cl) rfl fun fr b1 w2 n3 r=>?_;have c0h:=keep n3.below c0h
 have c1h:=keep n3.below c1h;have c2h:=keep n3.below c2h;obtain ⟨E1,Z2,H1,hB,zB⟩:=n3.all hB;refine wn (wp_seq (wsr (kM (U a0) r rfl rfl fun r=>kL (U c0) r rfl c0h to36 rfl rfl fun r=>kB r rfl rfl rfl rfl rfl fun r=>wn ?_)));refine wp_cond_split (t:=(a0 !=c0)) (r.ev rfl) (fun h4=>?_) (fun h4=>?_)
 ·
  refine wsr (kG (bb c1) 14 r rfl c1h dc rfl rfl fun r=>?_);refine kJ r (lj (j:=j) (F:=No) (n:=n) (fun _ h=>h.elim) kw (fun m' hm'=>ih_list_walk_step m' kw) c1) rfl nD rfl fun w5 v6 hb hr7 r=>?_
  have hb:=hb.below;have Z5:=hb.size;have c0h:=keep hb c0h;have c1h:=keep hb c1h;have c2h:=keep hb c2h;have H1:=keep hb H1;obtain ⟨hB,zB⟩:=bon hb hB;refine kP r hr7.shape rfl rfl H1 bT rfl rfl fun w8 u9 r=>?_;have Z8:=u9.size
  have c0h:=u9.keep c0h kw
  have c1h:=u9.keep c1h kw
  have c2h:=u9.keep c2h kw
  have H1:=u9.at_;obtain ⟨hB,zB⟩:=u9.on hB kw
  refine wn (wp_ret ?_);have hd:D.ja j r_list_walk_step c0 c1 c2 a0=(D.eD j r_list_walk_step c1):=(az h4).trans (rfl);have hs:=hr7.shape.cells;refine ar r rfl rfl H1 (k:=20) hs.1 bU ?_;rw [←hs.2.2,hd];exact au.fin (Chg.aR hB) hr7 u9 (fun _ h=>h.elim) (fun h=>h) kw kw kw
 refine wp_skip (wsr (kL (U c0) r rfl c0h to36 rfl rfl fun r=>kF 0 r rfl gb rfl fun r=>?_));refine bh (.cells ((bb ({ c1 with next:=c0 }))).toArray 206 (0,0)) r (fun R=>aT r (o:=12) (v:=(U c0)) rfl rfl c1h ts36 (Nat.le_of_ble_eq_true rfl) rfl rfl) rfl fun fr w10 u11 r=>?_
 have Z10:=u11.size;have c0h:=u11.keep c0h (gZ c0h c1h rfl);have c2h:=u11.keep c2h (gZ c2h c1h rfl);have H1:=u11.keep H1 kw
 have c1h:=u11.at_;have hB:=Chg.aR (Z:=F) hB;have hB:=hB.bi u11 (.inr c1F);have zB:=hB.size;obtain ⟨zs12,ezs12⟩:∃ z,z=({ c1 with next:=c0 }):=⟨_,rfl⟩
 rw [←ezs12] at c1h
 refine wn (wsr (kG (bb zs12) 14 r rfl c1h dc rfl rfl fun r=>kL (I c2) r rfl c2h to3 rfl rfl fun r=>?_));refine kJ r (zg (j:=j) (F:=No) (n:=n) (fun _ h=>h.elim) kw (fun m' hm'=>ih_list_walk_step m' kw) zs12 c2) rfl Eu rfl fun w13 v14 hb hr15 r=>?_
 have hb:=hb.below;have Z13:=hb.size;have c0h:=keep hb c0h;have c1h:=keep hb c1h;have c2h:=keep hb c2h;have H1:=keep hb H1;have hB:=hB.thenB hb;have zB:=hB.size;refine kP r hr15.shape rfl rfl H1 bT rfl rfl fun w16 u17 r=>?_;have Z16:=u17.size
 have c0h:=u17.keep c0h kw
 have c1h:=u17.keep c1h kw
 have c2h:=u17.keep c2h kw
 have H1:=u17.at_;have hB:=hB.bi u17 (.inl kw)
 have zB:=hB.size;refine wn (wp_ret ?_);have hd:D.ja j r_list_walk_step c0 c1 c2 a0=(D.ij j r_list_walk_step zs12 c2):=by subst ezs12; exact (aB h4).trans (rfl)
 have hs:=hr15.shape.cells;refine ar r rfl rfl H1 (k:=20) hs.1 bU ?_;rw [←hs.2.2,hd];exact au.fin hB hr15 u17 (fun _ h=>h.elim) (fun h=>h) kw kw kw
set_option maxRecDepth 20000 in
set_option maxHeartbeats 8000000 in
theorem yp {r_list_walk_step:Walk→T Walk} (hF:kH F w0) (hj:n<j) (ih_list_walk_step:∀ m,m<n→df r_list_walk_step m)
    (c0:Int) {c0b:Nat} (c0F:F c0b) (c0h:w0.heap[c0b]?=some (.cells ([(.int .i64 c0)]).toArray 3 (0,0))) (c1:Int) {c1b:Nat} (c1F:F c1b) (c1h:w0.heap[c1b]?=some (.cells ([(.int .u64 c1)]).toArray 36 (0,0))) (c2:Walk) {c2b:Nat} (c2F:F c2b) (c2h:w0.heap[c2b]?=some (.cells ((bb c2)).toArray 206 (0,0))) (c3:Int) {c3b:Nat} (c3F:F c3b) (c3h:w0.heap[c3b]?=some (.cells ([(.int .i64 c3)]).toArray 3 (0,0))) :
    Calls Tryz.prog 323 #[zp c0b,zp c1b,zp c2b,zp c3b] w0 (au Tryz.prog aK n (D.je j r_list_walk_step c0 c1 c2 c3) F w0):=by
 refine kN Tryz.func323 rfl 8 rfl rfl fun fr r hB=>?_;have lc0b:=lt_of_block c0h
 have lc1b:=lt_of_block c1h;have lc2b:=lt_of_block c2h;have lc3b:=lt_of_block c3h;refine wsr ?_;refine ai (.cells (af false aK.zero 0 0 0 0 .nilFunc) 209 (0,0)) r (fun R=>ah cl) rfl fun fr b1 w2 n3 r=>?_;have c0h:=keep n3.below c0h
 have c1h:=keep n3.below c1h;have c2h:=keep n3.below c2h;have c3h:=keep n3.below c3h;obtain ⟨E1,Z2,H1,hB,zB⟩:=n3.all hB;refine wn (wsr (kL (I c0) r rfl c0h to3 rfl rfl fun r=>ac (.func (.func 324) #[] #[zp c1b,zp c2b,zp c3b]) r (fun R=>aU r rfl) rfl fun fr r=>?_));have hF1:=cj hF hB.size b1
 have f7:((kW F w0 w2 b1)) c1b:=(.inl c1F);have f8:((kW F w0 w2 b1)) c2b:=(.inl c2F);have f9:((kW F w0 w2 b1)) c3b:=(.inl c3F);refine kJ r (lq (F:=(kW F w0 w2 b1)) (n:=n) hF1 c0 ⟨324,[],[zp c1b,zp c2b,zp c3b],Ev,rfl,fun m hm x w' hs hz=>xO (j:=j) (fun b hb=>Nat.lt_of_lt_of_le (hF1 b hb) hz) kw (fun m' hm'=>ih_list_walk_step m' kw) c1 f7 (hs.at_ f7 c1h) c2 f8 (hs.at_ f8 c2h) c3 f9 (hs.at_ f9 c3h) x⟩) rfl nu rfl fun w4 v5 hb hr6 r=>?_;have Z4:=hb.size
 have H1:=aX hb H1 (by rintro (h | ⟨_,_,h⟩); (have:=hF _ h; omega); exact h rfl)
 have hB:=Chg.aR (Z:=F) hB;have hB:=hB.bk hb (by rintro b hlt (h | ⟨h,_⟩); exact h; omega)
 have zB:=hB.size;refine kP r hr6.shape rfl rfl H1 bT rfl rfl fun w10 u11 r=>?_;have Z10:=u11.size
 have H1:=u11.at_;have hB:=hB.bi u11 (.inl kw)
 have zB:=hB.size;refine wn (wp_ret ?_);have hs:=hr6.shape.cells;refine ar r rfl rfl H1 (k:=20) hs.1 bU ?_;rw [←hs.2.2];exact au.fin hB hr6 u11 (by rintro b (h | ⟨h1,h2,_⟩); exact .inl h; exact .inr ⟨h1,h2⟩) (by rintro (h | ⟨_,_,h⟩); (have:=hF _ h; omega); exact h rfl) kw kw kw
set_option maxRecDepth 20000 in
set_option maxHeartbeats 8000000 in
theorem yS {r_list_walk_step:Walk→T Walk} (hF:kH F w0) (hj:n<j) (ih_list_walk_step:∀ m,m<n→df r_list_walk_step m)
    (c0:Walk) {c0b:Nat} (c0F:F c0b) (c0h:w0.heap[c0b]?=some (.cells ((bb c0)).toArray 206 (0,0))) (c1:Int) {c1b:Nat} (c1F:F c1b) (c1h:w0.heap[c1b]?=some (.cells ([(.int .i64 c1)]).toArray 3 (0,0))) (c2:Int) {c2b:Nat} (c2F:F c2b) (c2h:w0.heap[c2b]?=some (.cells ([(.int .i64 c2)]).toArray 3 (0,0))) (a0:Int) :
    Calls Tryz.prog 321 #[.int .u64 a0,zp c0b,zp c1b,zp c2b] w0 (au Tryz.prog aK n (D.lr j r_list_walk_step c0 c1 c2 a0) F w0):=by
 refine kN Tryz.func321 rfl 11 rfl rfl fun fr r hB=>?_;have lc0b:=lt_of_block c0h
 have lc1b:=lt_of_block c1h;have lc2b:=lt_of_block c2h;refine wsr ?_;refine kX 36 (U a0) r rfl rfl fun b1 w2 n3 r=>?_;have c0h:=keep n3.below c0h
 have c1h:=keep n3.below c1h;have c2h:=keep n3.below c2h;obtain ⟨E1,Z2,H1,hB,zB⟩:=n3.all hB;refine ai (.cells (af false aK.zero 0 0 0 0 .nilFunc) 209 (0,0)) r (fun R=>ah cl) rfl fun fr b4 w5 n6 r=>?_;have c0h:=keep n6.below c0h
 have c1h:=keep n6.below c1h;have c2h:=keep n6.below c2h;have H1:=keep n6.below H1;obtain ⟨E4,Z5,H4,hB,zB⟩:=n6.all hB;refine wn (wp_seq ?_);refine bI 4 [.val (.agg (bb c0).toArray),.val (U a0),.val (I (D.aV a0)),.val (.func (.func 323) #[] #[zp c1b,zp b1,zp c0b,zp c2b])] mixed r kz (kV (kV (kV (kV bH)))) ?_ ?_
 ·
  refine ec r (fun _ u _ b d s=>aS s (cs:=(bb c0)) (n:=14) rfl (keep b c0h) dc rfl bz) (ec r (fun _ u _ b d s=>av s rfl (keep b H1) to36 rfl bz) (ec r (fun fr1 u w' hb' hd r'=>aJ r' (args:=[(U a0)]) (lc hd.1 l0) gA ((fU _ a0).mono (by rintro _ w2 ⟨rfl,hb2⟩; exact ⟨_,rfl,hb2,rfl⟩))) (ec r (fun _ u _ b d s=>aU s (v:=(.func (.func 323) #[] #[zp c1b,zp b1,zp c0b,zp c2b])) rfl bz) ?_)));exact bJ
 intro fr u w7 hb hΦ hne r;have r:=r.congr (sc (hΦ 3 ke) (sc (hΦ 2 ke) (sc (hΦ 1 ke) (sc (hΦ 0 ke) rfl))));have Z7:=hb.size;have c0h:=keep hb c0h;have c1h:=keep hb c1h;have c2h:=keep hb c2h;have H1:=keep hb H1;have H4:=keep hb H4;obtain ⟨hB,zB⟩:=bon hb hB;have hF1:=cj hF hB.size b4;have f11:((kW F w0 w7 b4)) c1b:=(.inl c1F);have f12:((kW F w0 w7 b4)) b1:=(.inr ⟨kw,kw,kw⟩)
 have f13:((kW F w0 w7 b4)) c0b:=(.inl c0F);have f14:((kW F w0 w7 b4)) c2b:=(.inl c2F);refine kJ r (lB (F:=(kW F w0 w7 b4)) (n:=n) hF1 c0 0 (D.aV a0) ⟨323,[],[zp c1b,zp b1,zp c0b,zp c2b],DF,rfl,fun m hm _ w' hs hz=>yp (j:=j) (fun b hb=>Nat.lt_of_lt_of_le (hF1 b hb) hz) kw (fun m' hm'=>ih_list_walk_step m' kw) c1 f11 (hs.at_ f11 c1h) a0 f12 (hs.at_ f12 H1) c0 f13 (hs.at_ f13 c0h) c2 f14 (hs.at_ f14 c2h)⟩) rfl nG rfl fun w8 v9 hb hr10 r=>?_;have Z8:=hb.size
 have H4:=aX hb H4 (by rintro (h | ⟨_,_,h⟩); (have:=hF _ h; omega); exact h rfl)
 have hB:=Chg.aR (Z:=F) hB;have hB:=hB.bk hb (by rintro b hlt (h | ⟨h,_⟩); exact h; omega)
 have zB:=hB.size;refine kP r hr10.shape rfl rfl H4 bT rfl rfl fun w15 u16 r=>?_;have Z15:=u16.size
 have H4:=u16.at_;have hB:=hB.bi u16 (.inl kw)
 have zB:=hB.size;refine wn (wp_ret ?_);have hs:=hr10.shape.cells;refine ar r rfl rfl H4 (k:=20) hs.1 bU ?_;rw [←hs.2.2];exact au.fin hB hr10 u16 (by rintro b (h | ⟨h1,h2,_⟩); exact .inl h; exact .inr ⟨h1,h2⟩) (by rintro (h | ⟨_,_,h⟩); (have:=hF _ h; omega); exact h rfl) kw kw kw
set_option maxRecDepth 20000 in
set_option maxHeartbeats 8000000 in
theorem zE {n:Nat} {F:Nat→Prop} {j:Nat} {r_list_walk_step:Walk→T Walk} {w0:World} (hF:∀ b,F b→b<w0.heap.size) (hj:n<j) (ih_list_walk_step:∀ m,m<n→df r_list_walk_step m)
    (a0:Walk) :
    Calls Tryz.prog 226 #[.agg (bb a0).toArray] w0 (au Tryz.prog aK n (D.fK j r_list_walk_step a0) F w0):=by
 refine kN Tryz.func226 rfl 21 rfl rfl fun fr r hB=>?_;refine wsr ?_
 refine kX 206 (.agg (bb a0).toArray) r rfl rfl fun b1 w2 n3 r=>?_;obtain ⟨E1,Z2,H1,hB,zB⟩:=n3.all hB
 refine ai (.cells (af false aK.zero 0 0 0 0 .nilFunc) 209 (0,0)) r (fun R=>ah cl) rfl fun fr b4 w5 n6 r=>?_;have H1:=keep n6.below H1
 obtain ⟨E4,Z5,H4,hB,zB⟩:=n6.all hB;refine wn (wsr (kF 0 r rfl eX rfl fun r=>kL (U a0.cur) r rfl H1 to36 rfl rfl fun r=>?_));refine kE r (fU w5 a0.cur) rfl gA rfl fun w7 hb r=>?_
 have Z7:=hb.size;have H1:=keep hb H1;have H4:=keep hb H4;obtain ⟨hB,zB⟩:=bon hb hB;refine ai (.cells #[(I 0)] 3 (0,0)) r (fun R=>ah tz3) rfl fun fr b8 w9 n10 r=>?_;have H1:=keep n10.below H1
 have H4:=keep n10.below H4;obtain ⟨E8,Z9,H8,hB,zB⟩:=n10.all hB;refine bh (.cells #[(I (D.aV a0.cur))] 3 (0,0)) r (fun R=>aT r (o:=0) (v:=(I (D.aV a0.cur))) rfl rfl H8 ts3 (Nat.le_of_ble_eq_true rfl) rfl rfl) rfl fun fr w11 u12 r=>?_;have Z11:=u12.size
 have H1:=u12.keep H1 kw
 have H4:=u12.keep H4 kw
 have H8:=u12.at_;obtain ⟨hB,zB⟩:=u12.on hB kw
 refine wn (wp_seq (wsr (kL (I (D.aV a0.cur)) r rfl H8 to3 rfl rfl fun r=>kB r rfl rfl rfl rfl rfl fun r=>wn ?_)));refine wp_cond_split (t:=(decide ((D.aV a0.cur)<0))) (r.ev rfl) (fun h13=>?_) (fun h13=>?_)
 ·
  refine wsr (kF 0 r rfl mO rfl fun r=>?_);refine bh (.cells ((bb ({ a0 with there:=false }))).toArray 206 (0,0)) r (fun R=>aT r (o:=13) (v:=(.bool false)) rfl rfl H1 ts4 (Nat.le_of_ble_eq_true rfl) rfl rfl) rfl fun fr w14 u15 r=>?_
  have Z14:=u15.size;have H4:=u15.keep H4 kw
  have H8:=u15.keep H8 kw
  have H1:=u15.at_;obtain ⟨hB,zB⟩:=u15.on hB kw
  obtain ⟨zs16,ezs16⟩:∃ z,z=({ a0 with there:=false }):=⟨_,rfl⟩
  rw [←ezs16] at H1
  refine wn (wsr (kG (bb zs16) 14 r rfl H1 dc rfl rfl fun r=>?_));refine kJ r (rU (F:=No) (n:=n) (fun _ h=>h.elim) zs16) rfl xx rfl fun w17 v18 hb hr19 r=>?_
  have hb:=hb.below;have Z17:=hb.size;have H1:=keep hb H1;have H4:=keep hb H4;have H8:=keep hb H8;obtain ⟨hB,zB⟩:=bon hb hB;refine kP r hr19.shape rfl rfl H4 bT rfl rfl fun w20 u21 r=>?_;have Z20:=u21.size
  have H1:=u21.keep H1 kw
  have H8:=u21.keep H8 kw
  have H4:=u21.at_;obtain ⟨hB,zB⟩:=u21.on hB kw
  refine wn (wp_ret ?_);have hd:D.fK j r_list_walk_step a0=(D.iw zs16):=by subst ezs16; exact (az h13).trans (rfl)
  have hs:=hr19.shape.cells;refine ar r rfl rfl H4 (k:=20) hs.1 bU ?_;rw [←hs.2.2,hd];exact au.fin (Chg.aR hB) hr19 u21 (fun _ h=>h.elim) (fun h=>h) kw kw kw
 refine wp_skip (wsr (kF 0 r rfl gj rfl fun r=>kF 0 r rfl dB rfl fun r=>kG (ae a0.seat.p) 6 r rfl H1 ta23 rfl rfl fun r=>kL (I (D.aV a0.cur)) r rfl H8 to3 rfl rfl fun r=>?_));refine kE r (dZ w11 a0.seat.p (D.aV a0.cur) 2) rfl cl85 rfl fun w22 hb r=>?_
 have Z22:=hb.size;have H1:=keep hb H1;have H4:=keep hb H4;have H8:=keep hb H8;obtain ⟨hB,zB⟩:=bon hb hB;refine ai (.cells #[(I 0)] 3 (0,0)) r (fun R=>ah tz3) rfl fun fr b23 w24 n25 r=>?_;have H1:=keep n25.below H1
 have H4:=keep n25.below H4;have H8:=keep n25.below H8;obtain ⟨E23,Z24,H23,hB,zB⟩:=n25.all hB;refine bh (.cells #[(I (D.bf a0.seat.p (D.aV a0.cur) 2))] 3 (0,0)) r (fun R=>aT r (o:=0) (v:=(I (D.bf a0.seat.p (D.aV a0.cur) 2))) rfl rfl H23 ts3 (Nat.le_of_ble_eq_true rfl) rfl rfl) rfl fun fr w26 u27 r=>?_;have Z26:=u27.size
 have H1:=u27.keep H1 kw
 have H4:=u27.keep H4 kw
 have H8:=u27.keep H8 kw
 have H23:=u27.at_;obtain ⟨hB,zB⟩:=u27.on hB kw
 refine wn (wsr (kL (I (D.bf a0.seat.p (D.aV a0.cur) 2)) r rfl H23 to3 rfl rfl fun r=>ac (.func (.func 321) #[] #[zp b1,zp b23,zp b8]) r (fun R=>aU r rfl) rfl fun fr r=>?_));have hF1:=cj hF hB.size b4
 have f31:((kW F w0 w26 b4)) b1:=(.inr ⟨kw,kw,kw⟩)
 have f32:((kW F w0 w26 b4)) b23:=(.inr ⟨kw,kw,kw⟩)
 have f33:((kW F w0 w26 b4)) b8:=(.inr ⟨kw,kw,kw⟩)
 refine kJ r (lq (F:=(kW F w0 w26 b4)) (n:=n) hF1 (D.bf a0.seat.p (D.aV a0.cur) 2) ⟨321,[],[zp b1,zp b23,zp b8],Fg,rfl,fun m hm x w' hs hz=>yS (j:=j) (fun b hb=>Nat.lt_of_lt_of_le (hF1 b hb) hz) kw (fun m' hm'=>ih_list_walk_step m' kw) a0 f31 (hs.at_ f31 H1) (D.bf a0.seat.p (D.aV a0.cur) 2) f32 (hs.at_ f32 H23) (D.aV a0.cur) f33 (hs.at_ f33 H8) x⟩) rfl nu rfl fun w28 v29 hb hr30 r=>?_;have Z28:=hb.size
 have H4:=aX hb H4 (by rintro (h | ⟨_,_,h⟩); (have:=hF _ h; omega); exact h rfl)
 have hB:=Chg.aR (Z:=F) hB;have hB:=hB.bk hb (by rintro b hlt (h | ⟨h,_⟩); exact h; omega)
 have zB:=hB.size;refine kP r hr30.shape rfl rfl H4 bT rfl rfl fun w34 u35 r=>?_;have Z34:=u35.size
 have H4:=u35.at_;have hB:=hB.bi u35 (.inl kw)
 have zB:=hB.size;refine wn (wp_ret ?_);have hd:D.fK j r_list_walk_step a0=(D.gL (D.bf a0.seat.p (D.aV a0.cur) 2) (fun x=>(D.lr j r_list_walk_step a0 (D.bf a0.seat.p (D.aV a0.cur) 2) (D.aV a0.cur) x))):=(aB h13).trans (rfl)
 have hs:=hr30.shape.cells;refine ar r rfl rfl H4 (k:=20) hs.1 bU ?_;rw [←hs.2.2,hd];exact au.fin hB hr30 u35 (by rintro b (h | ⟨h1,h2,_⟩); exact .inl h; exact .inr ⟨h1,h2⟩) (by rintro (h | ⟨_,_,h⟩); (have:=hF _ h; omega); exact h rfl) kw kw kw
theorem nV {n:Nat} {j:Nat} (hj:n<j) {k:Nat} (hk:n<k):df (D.cz j k) n:=by
  induction n using Nat.strongRecOn generalizing k with
  | _ n ih=>
    obtain ⟨k,rfl⟩:∃ q,k=q+1:=⟨k - 1,kw⟩
    intro F w0 hF;have h:=@zE n F j (D.cz j k) w0 hF hj (fun m hm=>ih m hm kw kw)
    exact h
def D.oE (a0:Int):T Res:=(D.jO 7)
set_option maxRecDepth 20000 in
set_option maxHeartbeats 8000000 in
theorem zC (hF:kH F w0)
    (a0:Int) :
    Calls Tryz.prog 218 #[.int .i64 a0] w0 (au Tryz.prog aj n (D.oE a0) F w0):=by
 refine kN Tryz.func218 rfl 4 rfl rfl fun fr r hB=>?_;refine wsr ?_
 refine ai (.cells (af false aj.zero 0 0 0 0 .nilFunc) 57 (0,0)) r (fun R=>ah tz57) rfl fun fr b1 w2 n3 r=>?_;obtain ⟨E1,Z2,H1,hB,zB⟩:=n3.all hB
 refine wn (wsr ?_);refine kJ r (sY (F:=No) (n:=n) (fun _ h=>h.elim) 7) rfl wz rfl fun w4 v5 hb hr6 r=>?_;have hb:=hb.below
 have Z4:=hb.size;have H1:=keep hb H1;obtain ⟨hB,zB⟩:=bon hb hB;refine kP r hr6.shape rfl rfl H1 ts57 rfl rfl fun w7 u8 r=>?_;have Z7:=u8.size
 have H1:=u8.at_;obtain ⟨hB,zB⟩:=u8.on hB kw
 refine wn (wp_ret ?_);have hs:=hr6.shape.cells;refine ar r rfl rfl H1 (k:=8) hs.1 ta57 ?_;rw [←hs.2.2];exact au.fin (Chg.aR hB) hr6 u8 (fun _ h=>h.elim) (fun h=>h) kw kw kw
def D.jD (j:Nat) (c0:Seat) (c1:Int):T Res:=(T.bind (D.fP j c0.p c1) (fun x=>(D.oE x)))
set_option maxRecDepth 20000 in
set_option maxHeartbeats 8000000 in
theorem Af (hF:kH F w0) (hj:n<j)
    (c0:Seat) {c0b:Nat} (c0F:F c0b) (c0h:w0.heap[c0b]?=some (.cells ((aG c0)).toArray 63 (0,0))) (c1:Int) {c1b:Nat} (c1F:F c1b) (c1h:w0.heap[c1b]?=some (.cells ([(.int .i64 c1)]).toArray 3 (0,0))) :
    Calls Tryz.prog 216 #[.agg #[],zp c0b,zp c1b] w0 (au Tryz.prog aj n (D.jD j c0 c1) F w0):=by
 refine kN Tryz.func216 rfl 10 rfl rfl fun fr r hB=>?_;have lc0b:=lt_of_block c0h
 have lc1b:=lt_of_block c1h;refine wsr ?_;refine kX 152 (.agg #[]) r rfl rfl fun b1 w2 n3 r=>?_;have c0h:=keep n3.below c0h
 have c1h:=keep n3.below c1h;obtain ⟨E1,Z2,H1,hB,zB⟩:=n3.all hB;refine ai (.cells (af false aj.zero 0 0 0 0 .nilFunc) 57 (0,0)) r (fun R=>ah tz57) rfl fun fr b4 w5 n6 r=>?_;have c0h:=keep n6.below c0h
 have c1h:=keep n6.below c1h;have H1:=keep n6.below H1;obtain ⟨E4,Z5,H4,hB,zB⟩:=n6.all hB;refine wn (wsr (kF 0 r rfl dB rfl fun r=>kG (ae c0.p) 6 r rfl c0h ta23 rfl rfl fun r=>kL (I c1) r rfl c1h to3 rfl rfl fun r=>?_));refine kD r (sm (j:=j) (F:=No) (n:=n) (fun _ h=>h.elim) kw c0.p c1) rfl xa rfl fun w7 v8 hb hr9 r=>?_
 have hr9:=hr9.loud;have Z7:=hb.size;have c0h:=keep hb c0h;have c1h:=keep hb c1h;have H1:=keep hb H1;have H4:=keep hb H4;obtain ⟨hB,zB⟩:=bon hb hB;have hF1:∀ b,(kW F w0 w5 b4) b→b<w7.heap.size:=by rintro b (h | ⟨_,h,_⟩); exact Nat.lt_of_lt_of_le (hF b h) hB.size; exact Nat.lt_of_lt_of_le h kw
 have hF2:=cj hF hB.size b4;refine kJ r (rE (F:=(kW F w0 w7 b4)) (F2:=(kW F w0 w5 b4)) (n:=n) hF2 (by rintro b ⟨h,h'⟩; exact .inr ⟨kw,kw,kw⟩) (by rintro b (h | ⟨h1,h2,h3⟩); exact .inl h; exact .inr ⟨h1,kw,h3⟩) (by rintro b ⟨h1,h2⟩ (h | ⟨h3,h4,_⟩); (have:=hF b h; omega); omega) (RepL.mono (F':=fun b=>w5.heap.size≤b∧b<w7.heap.size) (by rintro b (h | h); exact h.elim; exact h) (Same.refl _ _) (Nat.le_refl _) n _ _ hr9) ⟨218,[],[],ED,rfl,fun m hm x w' hs hz=>zC (fun b hb=>Nat.lt_of_lt_of_le (hF1 b hb) hz)  x⟩) rfl qZ rfl fun w10 v11 hb hr12 r=>?_
 have Z10:=hb.size;have H4:=aX hb H4 (by rintro (h | ⟨_,_,h⟩); (have:=hF _ h; omega); exact h rfl)
 have hB:=Chg.aR (Z:=F) hB;have hB:=hB.bk hb (by rintro b hlt (h | ⟨h,_⟩); exact h; omega)
 have zB:=hB.size;refine kP r hr12.shape rfl rfl H4 ts57 rfl rfl fun w13 u14 r=>?_;have Z13:=u14.size
 have H4:=u14.at_;have hB:=hB.bi u14 (.inl kw)
 have zB:=hB.size;refine wn (wp_ret ?_);have hs:=hr12.shape.cells;refine ar r rfl rfl H4 (k:=8) hs.1 ta57 ?_;rw [←hs.2.2];exact au.fin hB hr12 u14 (by rintro b (h | ⟨h1,h2,_⟩); exact .inl h; exact .inr ⟨h1,h2⟩) (by rintro (h | ⟨_,_,h⟩); (have:=hF _ h; omega); exact h rfl) kw kw kw
def D.iH (a0:Int):Int:=(shlI .u64 (IntKind.u64.wrap (IntKind.i64.wrap (a0+1))) 1)
set_option maxRecDepth 20000 in
set_option maxHeartbeats 8000000 in
theorem AX (w0:World) 
    (a0:Int) :
    Calls Tryz.prog 220 #[.int .i64 a0] w0 (bw (.int .u64 (D.iH a0)) w0):=by
 refine kN Tryz.func220 rfl 7 rfl rfl fun fr r hB=>?_;refine wsr (kA (U 0) r rfl rfl fun r=>wn (wsr (kM (I a0) r rfl rfl fun r=>kB r rfl rfl rfl rfl rfl fun r=>ac (U (V (W (a0+1)))) r (fun R=>cK r rfl ti3 ti36) rfl fun fr r=>kB r rfl rfl rfl (mN (by first | assumption | decide)) rfl fun r=>kA (U (shlI .u64 (V (W (a0+1))) 1)) r rfl rfl fun r=>wn (wp_ret ?_))))
 refine bg r rfl rfl ?_;exact ⟨rfl,hB⟩
def D.oQ (c0:Res):T Res:=(D.lR c0)
set_option maxRecDepth 20000 in
set_option maxHeartbeats 8000000 in
theorem Aa (hF:kH F w0)
    (c0:Res) {c0b:Nat} (c0F:F c0b) (c0h:w0.heap[c0b]?=some (.cells ((resC c0)).toArray 54 (0,0))) :
    Calls Tryz.prog 227 #[.agg #[],zp c0b] w0 (au Tryz.prog aj n (D.oQ c0) F w0):=by
 refine kN Tryz.func227 rfl 6 rfl rfl fun fr r hB=>?_;have lc0b:=lt_of_block c0h
 refine wsr ?_;refine kX 152 (.agg #[]) r rfl rfl fun b1 w2 n3 r=>?_;obtain ⟨E1,Z2,H1,hB,zB⟩:=n3.all hB
 refine ai (.cells (af false aj.zero 0 0 0 0 .nilFunc) 57 (0,0)) r (fun R=>ah tz57) rfl fun fr b4 w5 n6 r=>?_;have H1:=keep n6.below H1
 obtain ⟨E4,Z5,H4,hB,zB⟩:=n6.all hB;refine wn (wsr (kG (resC c0) 2 r rfl (keep hB c0h) ta54 rfl rfl fun r=>?_));refine kJ r (s8 (F:=No) (n:=n) (fun _ h=>h.elim) c0) rfl cl23 rfl fun w7 v8 hb hr9 r=>?_
 have hb:=hb.below;have Z7:=hb.size;have H1:=keep hb H1;have H4:=keep hb H4;obtain ⟨hB,zB⟩:=bon hb hB;refine kP r hr9.shape rfl rfl H4 ts57 rfl rfl fun w10 u11 r=>?_;have Z10:=u11.size
 have H1:=u11.keep H1 kw
 have H4:=u11.at_;obtain ⟨hB,zB⟩:=u11.on hB kw
 refine wn (wp_ret ?_);have hs:=hr9.shape.cells;refine ar r rfl rfl H4 (k:=8) hs.1 ta57 ?_;rw [←hs.2.2];exact au.fin (Chg.aR hB) hr9 u11 (fun _ h=>h.elim) (fun h=>h) kw kw kw
def D.dJ (j:Nat) (a0:Seat) (a1:Res):T Res:=(T.bind (D.lS j a0.p a0.thread) (fun _=>(D.oQ a1)))
set_option maxRecDepth 20000 in
set_option maxHeartbeats 8000000 in
theorem lQ (hF:kH F w0) (hj:n<j)
    (a0:Seat) (a1:Res) :
    Calls Tryz.prog 124 #[.agg (aG a0).toArray,.agg (resC a1).toArray] w0 (au Tryz.prog aj n (D.dJ j a0 a1) F w0):=by
 refine kN Tryz.func124 rfl 12 rfl rfl fun fr r hB=>?_;refine wsr ?_
 refine kX 63 (.agg (aG a0).toArray) r rfl rfl fun b1 w2 n3 r=>?_;obtain ⟨E1,Z2,H1,hB,zB⟩:=n3.all hB
 refine kX 54 (.agg (resC a1).toArray) r rfl rfl fun b4 w5 n6 r=>?_;have H1:=keep n6.below H1
 obtain ⟨E4,Z5,H4,hB,zB⟩:=n6.all hB;refine ai (.cells (af false aj.zero 0 0 0 0 .nilFunc) 57 (0,0)) r (fun R=>ah tz57) rfl fun fr b7 w8 n9 r=>?_;have H1:=keep n9.below H1
 have H4:=keep n9.below H4;obtain ⟨E7,Z8,H7,hB,zB⟩:=n9.all hB;refine wn (wsr (kF 0 r rfl dB rfl fun r=>kG (ae a0.p) 6 r rfl H1 ta23 rfl rfl fun r=>kF 0 r rfl hO rfl fun r=>kL (I a0.thread) r rfl H1 to3 rfl rfl fun r=>?_));refine kD r (sD (j:=j) (F:=No) (n:=n) (fun _ h=>h.elim) kw a0.p a0.thread) rfl wW rfl fun w10 v11 hb hr12 r=>?_
 have hr12:=hr12.loud;have Z10:=hb.size;have H1:=keep hb H1;have H4:=keep hb H4;have H7:=keep hb H7;obtain ⟨hB,zB⟩:=bon hb hB;refine ac (.func (.func 227) #[] #[zp b4]) r (fun R=>aU r rfl) rfl fun fr r=>?_;have hF1:∀ b,(kW F w0 w8 b7) b→b<w10.heap.size:=by rintro b (h | ⟨_,h,_⟩); exact Nat.lt_of_lt_of_le (hF b h) hB.size; exact Nat.lt_of_lt_of_le h kw
 have f16:((kW F w0 w8 b7)) b4:=(.inr ⟨kw,kw,kw⟩)
 have hF2:=cj hF hB.size b7;refine kJ r (rv (F:=(kW F w0 w10 b7)) (F2:=(kW F w0 w8 b7)) (n:=n) hF2 (by rintro b ⟨h,h'⟩; exact .inr ⟨kw,kw,kw⟩) (by rintro b (h | ⟨h1,h2,h3⟩); exact .inl h; exact .inr ⟨h1,kw,h3⟩) (by rintro b ⟨h1,h2⟩ (h | ⟨h3,h4,_⟩); (have:=hF b h; omega); omega) (RepL.mono (F':=fun b=>w8.heap.size≤b∧b<w10.heap.size) (by rintro b (h | h); exact h.elim; exact h) (Same.refl _ _) (Nat.le_refl _) n _ _ hr12) ⟨227,[],[zp b4],FO,rfl,fun m hm _ w' hs hz=>Aa (fun b hb=>Nat.lt_of_lt_of_le (hF1 b hb) hz) a1 f16 (hs.at_ f16 H4)⟩) rfl qW rfl fun w13 v14 hb hr15 r=>?_
 have Z13:=hb.size;have H7:=aX hb H7 (by rintro (h | ⟨_,_,h⟩); (have:=hF _ h; omega); exact h rfl)
 have hB:=Chg.aR (Z:=F) hB;have hB:=hB.bk hb (by rintro b hlt (h | ⟨h,_⟩); exact h; omega)
 have zB:=hB.size;refine kP r hr15.shape rfl rfl H7 ts57 rfl rfl fun w17 u18 r=>?_;have Z17:=u18.size
 have H7:=u18.at_;have hB:=hB.bi u18 (.inl kw)
 have zB:=hB.size;refine wn (wp_ret ?_);have hs:=hr15.shape.cells;refine ar r rfl rfl H7 (k:=8) hs.1 ta57 ?_;rw [←hs.2.2];exact au.fin hB hr15 u18 (by rintro b (h | ⟨h1,h2,_⟩); exact .inl h; exact .inr ⟨h1,h2⟩) (by rintro (h | ⟨_,_,h⟩); (have:=hF _ h; omega); exact h rfl) kw kw kw
def D.jr (j:Nat) (r_list_put:Seat→Int→Int→Int→T Res) (c0:Seat) (c1:Int) (c2:Int) (c3:Int) (a0:Bool):T Res:=(bif (!a0) then (r_list_put c0 c1 c2 c3) else (D.dJ j c0 (⟨0,0⟩:Res)))
def D.lW (j:Nat) (r_list_put:Seat→Int→Int→Int→T Res) (c0:Walk) (c1:Int) (c2:Seat) (c3:Int) (c4:Int):T Res:=(D.fQ c0.place c0.cur (D.iH c1) (fun x=>(D.jr j r_list_put c2 c3 c4 c1 x)))
def D.gT (j:Nat) (r_list_put:Seat→Int→Int→Int→T Res) (c0:Seat) (c1:Int) (c2:Int) (c3:Int) (a0:Walk):T Res:=(bif a0.there then (T.bind (D.lS j c0.p c0.thread) (fun _=>(D.jD j c0 c1))) else (D.eC (D.bf c0.p c1 2) a0.cur (fun _=>(D.lW j r_list_put a0 c1 c0 c2 c3))))
def D.sQ (j:Nat) (r_list_put:Seat→Int→Int→Int→T Res) (a0:Seat) (a1:Int) (a2:Int) (a3:Int):T Res:=(T.bind (D.fX j (D.cz j j) a0 a1 a2) (fun x=>(D.gT j r_list_put a0 a3 a1 a2 x)))
def D.eJ (j:Nat):Nat→Seat→Int→Int→Int→T Res
  | 0,_,_,_,_=>.cut
  | k+1,a0,a1,a2,a3=>D.sQ j (D.eJ j k) a0 a1 a2 a3
def jx (r:Seat→Int→Int→Int→T Res) (n:Nat):Prop:=∀ (F:Nat→Prop) (w0:World),(∀ b,F b→b<w0.heap.size)→∀ (a0:Seat) (a1:Int) (a2:Int) (a3:Int),Calls Tryz.prog 119 #[.agg (aG a0).toArray,.int .i64 a1,.int .u64 a2,.int .i64 a3] w0 (au Tryz.prog aj n (r a0 a1 a2 a3) F w0)
set_option maxRecDepth 20000 in
set_option maxHeartbeats 8000000 in
theorem zD {r_list_put:Seat→Int→Int→Int→T Res} (hF:kH F w0) (hj:n<j) (ih_list_put:∀ m,m≤n→jx r_list_put m)
    (c0:Seat) {c0b:Nat} (c0F:F c0b) (c0h:w0.heap[c0b]?=some (.cells ((aG c0)).toArray 63 (0,0))) (c1:Int) {c1b:Nat} (c1F:F c1b) (c1h:w0.heap[c1b]?=some (.cells ([(.int .i64 c1)]).toArray 3 (0,0))) (c2:Int) {c2b:Nat} (c2F:F c2b) (c2h:w0.heap[c2b]?=some (.cells ([(.int .u64 c2)]).toArray 36 (0,0))) (c3:Int) {c3b:Nat} (c3F:F c3b) (c3h:w0.heap[c3b]?=some (.cells ([(.int .i64 c3)]).toArray 3 (0,0))) (a0:Bool) :
    Calls Tryz.prog 221 #[.bool a0,zp c0b,zp c1b,zp c2b,zp c3b] w0 (au Tryz.prog aj n (D.jr j r_list_put c0 c1 c2 c3 a0) F w0):=by
 refine kN Tryz.func221 rfl 17 rfl rfl fun fr r hB=>?_;have lc0b:=lt_of_block c0h
 have lc1b:=lt_of_block c1h;have lc2b:=lt_of_block c2h;have lc3b:=lt_of_block c3h;refine wsr ?_;refine ai (.cells (af false aj.zero 0 0 0 0 .nilFunc) 57 (0,0)) r (fun R=>ah tz57) rfl fun fr b1 w2 n3 r=>?_;obtain ⟨E1,Z2,H1,hB,zB⟩:=n3.all hB
 refine wn (wp_seq (wsr (kM (.bool a0) r rfl rfl fun r=>ac (.bool (!a0)) r (fun R=>y_un r (u:=(.bool a0)) rfl rfl) rfl fun fr r=>wn ?_)));refine wp_cond_split (t:=(!a0)) (r.ev rfl) (fun h4=>?_) (fun h4=>?_)
 ·
  refine wsr (kG (aG c0) 8 r rfl (keep hB c0h) ta63 rfl rfl fun r=>kL (I c1) r rfl (keep hB c1h) to3 rfl rfl fun r=>kL (U c2) r rfl (keep hB c2h) to36 rfl rfl fun r=>kL (I c3) r rfl (keep hB c3h) to3 rfl rfl fun r=>?_);refine kJ r ((ih_list_put n kw) (No) _ (fun _ h=>h.elim) c0 c1 c2 c3) rfl xc rfl fun w5 v6 hb hr7 r=>?_
  have hb:=hb.below;have Z5:=hb.size;have H1:=keep hb H1;obtain ⟨hB,zB⟩:=bon hb hB;refine kP r hr7.shape rfl rfl H1 ts57 rfl rfl fun w8 u9 r=>?_;have Z8:=u9.size
  have H1:=u9.at_;obtain ⟨hB,zB⟩:=u9.on hB kw
  refine wn (wp_ret ?_);have hd:D.jr j r_list_put c0 c1 c2 c3 a0=(r_list_put c0 c1 c2 c3):=(az h4).trans (rfl);have hs:=hr7.shape.cells;refine ar r rfl rfl H1 (k:=8) hs.1 ta57 ?_;rw [←hs.2.2,hd];exact au.fin (Chg.aR hB) hr7 u9 (fun _ h=>h.elim) (fun h=>h) kw kw kw
 refine wp_skip (wsr (kG (aG c0) 8 r rfl (keep hB c0h) ta63 rfl rfl fun r=>kU (.agg (resC (⟨0,0⟩:Res)).toArray) r kz rfl fun r=>?_));refine kJ r (lQ (j:=j) (F:=No) (n:=n) (fun _ h=>h.elim) kw c0 (⟨0,0⟩:Res)) rfl nk rfl fun w10 v11 hb hr12 r=>?_
 have hb:=hb.below;have Z10:=hb.size;have H1:=keep hb H1;obtain ⟨hB,zB⟩:=bon hb hB;refine kP r hr12.shape rfl rfl H1 ts57 rfl rfl fun w13 u14 r=>?_;have Z13:=u14.size
 have H1:=u14.at_;obtain ⟨hB,zB⟩:=u14.on hB kw
 refine wn (wp_ret ?_);have hd:D.jr j r_list_put c0 c1 c2 c3 a0=(D.dJ j c0 (⟨0,0⟩:Res)):=(aB h4).trans (rfl);have hs:=hr12.shape.cells;refine ar r rfl rfl H1 (k:=8) hs.1 ta57 ?_;rw [←hs.2.2,hd];exact au.fin (Chg.aR hB) hr12 u14 (fun _ h=>h.elim) (fun h=>h) kw kw kw
set_option maxRecDepth 20000 in
set_option maxHeartbeats 8000000 in
theorem zZ {r_list_put:Seat→Int→Int→Int→T Res} (hF:kH F w0) (hj:n<j) (ih_list_put:∀ m,m<n→jx r_list_put m)
    (c0:Walk) {c0b:Nat} (c0F:F c0b) (c0h:w0.heap[c0b]?=some (.cells ((bb c0)).toArray 206 (0,0))) (c1:Int) {c1b:Nat} (c1F:F c1b) (c1h:w0.heap[c1b]?=some (.cells ([(.int .i64 c1)]).toArray 3 (0,0))) (c2:Seat) {c2b:Nat} (c2F:F c2b) (c2h:w0.heap[c2b]?=some (.cells ((aG c2)).toArray 63 (0,0))) (c3:Int) {c3b:Nat} (c3F:F c3b) (c3h:w0.heap[c3b]?=some (.cells ([(.int .i64 c3)]).toArray 3 (0,0))) (c4:Int) {c4b:Nat} (c4F:F c4b) (c4h:w0.heap[c4b]?=some (.cells ([(.int .u64 c4)]).toArray 36 (0,0))) :
    Calls Tryz.prog 219 #[zp c0b,zp c1b,zp c2b,zp c3b,zp c4b] w0 (au Tryz.prog aj n (D.lW j r_list_put c0 c1 c2 c3 c4) F w0):=by
 refine kN Tryz.func219 rfl 14 rfl rfl fun fr r hB=>?_;have lc0b:=lt_of_block c0h
 have lc1b:=lt_of_block c1h;have lc2b:=lt_of_block c2h;have lc3b:=lt_of_block c3h;have lc4b:=lt_of_block c4h;refine wsr ?_;refine ai (.cells (af false aj.zero 0 0 0 0 .nilFunc) 57 (0,0)) r (fun R=>ah tz57) rfl fun fr b1 w2 n3 r=>?_;have c0h:=keep n3.below c0h
 have c1h:=keep n3.below c1h;have c2h:=keep n3.below c2h;have c3h:=keep n3.below c3h;have c4h:=keep n3.below c4h;obtain ⟨E1,Z2,H1,hB,zB⟩:=n3.all hB;refine wn (wp_seq ?_);refine bI 7 [.val (.pointer (some ⟨c0b,10,none⟩)),.val (I c0.place),.val (.pointer (some ⟨c0b,11,none⟩)),.val (U c0.cur),.val (I c1),.val (U (D.iH c1)),.val (.func (.func 221) #[] #[zp c2b,zp c3b,zp c4b,zp c1b])] mixed r kz (kV (kV (kV (kV (kV (kV (kV bH))))))) ?_ ?_
 ·
  refine ec r (fun _ u _ b d s=>ax s (b:=c0b) (o:=0) rfl jX bz) (ec r (fun _ u _ b d s=>av s d.1 (keep b c0h) to3 rfl bz) (ec r (fun _ u _ b d s=>ax s (b:=c0b) (o:=0) rfl eX bz) (ec r (fun _ u _ b d s=>av s d.1 (keep b c0h) to36 rfl bz) (ec r (fun _ u _ b d s=>av s rfl (keep b c1h) to3 rfl bz) (ec r (fun fr1 u w' hb' hd r'=>aJ r' (args:=[(I c1)]) (lc hd.1 l0) FI ((AX _ c1).mono (by rintro _ w2 ⟨rfl,hb2⟩; exact ⟨_,rfl,hb2,rfl⟩))) (ec r (fun _ u _ b d s=>aU s (v:=(.func (.func 221) #[] #[zp c2b,zp c3b,zp c4b,zp c1b])) rfl bz) ?_))))));exact bJ
 intro fr u w4 hb hΦ hne r;have r:=r.congr (sc (hΦ 6 ke) (sc (hΦ 5 ke) (sc (hΦ 4 ke) (sc (hΦ 3 ke) (sc (hΦ 2 ke) (sc (hΦ 1 ke) (sc (hΦ 0 ke) rfl)))))));have Z4:=hb.size;have c0h:=keep hb c0h;have c1h:=keep hb c1h;have c2h:=keep hb c2h;have c3h:=keep hb c3h;have c4h:=keep hb c4h;have H1:=keep hb H1;obtain ⟨hB,zB⟩:=bon hb hB;have hF1:=cj hF hB.size b1;have f8:((kW F w0 w4 b1)) c2b:=(.inl c2F);have f9:((kW F w0 w4 b1)) c3b:=(.inl c3F);have f10:((kW F w0 w4 b1)) c4b:=(.inl c4F);have f11:((kW F w0 w4 b1)) c1b:=(.inl c1F);refine kJ r (o8 (F:=(kW F w0 w4 b1)) (n:=n) hF1 c0.place c0.cur (D.iH c1) ⟨221,[],[zp c2b,zp c3b,zp c4b,zp c1b],FN,rfl,fun m hm x w' hs hz=>zD (j:=j) (fun b hb=>Nat.lt_of_lt_of_le (hF1 b hb) hz) kw (fun m' hm'=>ih_list_put m' kw) c2 f8 (hs.at_ f8 c2h) c3 f9 (hs.at_ f9 c3h) c4 f10 (hs.at_ f10 c4h) c1 f11 (hs.at_ f11 c1h) x⟩) rfl qQ rfl fun w5 v6 hb hr7 r=>?_;have Z5:=hb.size
 have H1:=aX hb H1 (by rintro (h | ⟨_,_,h⟩); (have:=hF _ h; omega); exact h rfl)
 have hB:=Chg.aR (Z:=F) hB;have hB:=hB.bk hb (by rintro b hlt (h | ⟨h,_⟩); exact h; omega)
 have zB:=hB.size;refine kP r hr7.shape rfl rfl H1 ts57 rfl rfl fun w12 u13 r=>?_;have Z12:=u13.size
 have H1:=u13.at_;have hB:=hB.bi u13 (.inl kw)
 have zB:=hB.size;refine wn (wp_ret ?_);have hs:=hr7.shape.cells;refine ar r rfl rfl H1 (k:=8) hs.1 ta57 ?_;rw [←hs.2.2];exact au.fin hB hr7 u13 (by rintro b (h | ⟨h1,h2,_⟩); exact .inl h; exact .inr ⟨h1,h2⟩) (by rintro (h | ⟨_,_,h⟩); (have:=hF _ h; omega); exact h rfl) kw kw kw
set_option maxRecDepth 20000 in
set_option maxHeartbeats 8000000 in
theorem Az {r_list_put:Seat→Int→Int→Int→T Res} (hF:kH F w0) (hj:n<j) (ih_list_put:∀ m,m<n→jx r_list_put m)
    (c0:Seat) {c0b:Nat} (c0F:F c0b) (c0h:w0.heap[c0b]?=some (.cells ((aG c0)).toArray 63 (0,0))) (c1:Int) {c1b:Nat} (c1F:F c1b) (c1h:w0.heap[c1b]?=some (.cells ([(.int .i64 c1)]).toArray 3 (0,0))) (c2:Int) {c2b:Nat} (c2F:F c2b) (c2h:w0.heap[c2b]?=some (.cells ([(.int .i64 c2)]).toArray 3 (0,0))) (c3:Int) {c3b:Nat} (c3F:F c3b) (c3h:w0.heap[c3b]?=some (.cells ([(.int .u64 c3)]).toArray 36 (0,0))) (a0:Walk) :
    Calls Tryz.prog 213 #[.agg (bb a0).toArray,zp c0b,zp c1b,zp c2b,zp c3b] w0 (au Tryz.prog aj n (D.gT j r_list_put c0 c1 c2 c3 a0) F w0):=by
 refine kN Tryz.func213 rfl 24 rfl rfl fun fr r hB=>?_;have lc0b:=lt_of_block c0h
 have lc1b:=lt_of_block c1h;have lc2b:=lt_of_block c2h;have lc3b:=lt_of_block c3h;refine wsr ?_;refine kX 206 (.agg (bb a0).toArray) r rfl rfl fun b1 w2 n3 r=>?_;have c0h:=keep n3.below c0h
 have c1h:=keep n3.below c1h;have c2h:=keep n3.below c2h;have c3h:=keep n3.below c3h;obtain ⟨E1,Z2,H1,hB,zB⟩:=n3.all hB;refine ai (.cells (af false aj.zero 0 0 0 0 .nilFunc) 57 (0,0)) r (fun R=>ah tz57) rfl fun fr b4 w5 n6 r=>?_;have c0h:=keep n6.below c0h
 have c1h:=keep n6.below c1h;have c2h:=keep n6.below c2h;have c3h:=keep n6.below c3h;have H1:=keep n6.below H1;obtain ⟨E4,Z5,H4,hB,zB⟩:=n6.all hB;refine wn (wp_seq (wsr (kF 0 r rfl mO rfl fun r=>kL (.bool a0.there) r rfl H1 to4 rfl rfl fun r=>wn ?_)));refine wp_cond_split (t:=a0.there) (r.ev rfl) (fun h7=>?_) (fun h7=>?_)
 ·
  refine wsr (kF 0 r rfl dB rfl fun r=>kG (ae c0.p) 6 r rfl c0h ta23 rfl rfl fun r=>kF 0 r rfl hO rfl fun r=>kL (I c0.thread) r rfl c0h to3 rfl rfl fun r=>?_);refine kD r (sD (j:=j) (F:=No) (n:=n) (fun _ h=>h.elim) kw c0.p c0.thread) rfl wW rfl fun w8 v9 hb hr10 r=>?_
  have hr10:=hr10.loud;have Z8:=hb.size;have c0h:=keep hb c0h;have c1h:=keep hb c1h;have c2h:=keep hb c2h;have c3h:=keep hb c3h;have H1:=keep hb H1;have H4:=keep hb H4;obtain ⟨hB,zB⟩:=bon hb hB;refine ac (.func (.func 216) #[] #[zp c0b,zp c1b]) r (fun R=>aU r rfl) rfl fun fr r=>?_;have hF1:∀ b,(kW F w0 w5 b4) b→b<w8.heap.size:=by rintro b (h | ⟨_,h,_⟩); exact Nat.lt_of_lt_of_le (hF b h) hB.size; exact Nat.lt_of_lt_of_le h kw
  have f14:((kW F w0 w5 b4)) c0b:=(.inl c0F);have f15:((kW F w0 w5 b4)) c1b:=(.inl c1F);have hF2:=cj hF hB.size b4;refine kJ r (rv (F:=(kW F w0 w8 b4)) (F2:=(kW F w0 w5 b4)) (n:=n) hF2 (by rintro b ⟨h,h'⟩; exact .inr ⟨kw,kw,kw⟩) (by rintro b (h | ⟨h1,h2,h3⟩); exact .inl h; exact .inr ⟨h1,kw,h3⟩) (by rintro b ⟨h1,h2⟩ (h | ⟨h3,h4,_⟩); (have:=hF b h; omega); omega) (RepL.mono (F':=fun b=>w5.heap.size≤b∧b<w8.heap.size) (by rintro b (h | h); exact h.elim; exact h) (Same.refl _ _) (Nat.le_refl _) n _ _ hr10) ⟨216,[],[zp c0b,zp c1b],FJ,rfl,fun m hm _ w' hs hz=>Af (j:=j) (fun b hb=>Nat.lt_of_lt_of_le (hF1 b hb) hz) kw c0 f14 (hs.at_ f14 c0h) c1 f15 (hs.at_ f15 c1h)⟩) rfl qW rfl fun w11 v12 hb hr13 r=>?_
  have Z11:=hb.size;have H4:=aX hb H4 (by rintro (h | ⟨_,_,h⟩); (have:=hF _ h; omega); exact h rfl)
  have hB:=Chg.aR (Z:=F) hB;have hB:=hB.bk hb (by rintro b hlt (h | ⟨h,_⟩); exact h; omega)
  have zB:=hB.size;refine kP r hr13.shape rfl rfl H4 ts57 rfl rfl fun w16 u17 r=>?_;have Z16:=u17.size
  have H4:=u17.at_;have hB:=hB.bi u17 (.inl kw)
  have zB:=hB.size;refine wn (wp_ret ?_);have hd:D.gT j r_list_put c0 c1 c2 c3 a0=(T.bind (D.lS j c0.p c0.thread) (fun _=>(D.jD j c0 c1))):=(az h7).trans (rfl)
  have hs:=hr13.shape.cells;refine ar r rfl rfl H4 (k:=8) hs.1 ta57 ?_;rw [←hs.2.2,hd];exact au.fin hB hr13 u17 (by rintro b (h | ⟨h1,h2,_⟩); exact .inl h; exact .inr ⟨h1,h2⟩) (by rintro (h | ⟨_,_,h⟩); (have:=hF _ h; omega); exact h rfl) kw kw kw
 refine wp_skip (wp_seq ?_);refine bI 7 [.val (zp c0b),.val (.agg (ae c0.p).toArray),.val (I c1),.val (I (D.bf c0.p c1 2)),.val (.pointer (some ⟨b1,11,none⟩)),.val (U a0.cur),.val (.func (.func 219) #[] #[zp b1,zp c1b,zp c0b,zp c2b,zp c3b])] mixed r kz (kV (kV (kV (kV (kV (kV (kV bH))))))) ?_ ?_
 ·
  refine ec r (fun _ u _ b d s=>ax s (b:=c0b) (o:=0) rfl dB bz) (ec r (fun _ u _ b d s=>aS s (cs:=(ae c0.p)) (n:=6) d.1 (keep b c0h) ta23 rfl bz) (ec r (fun _ u _ b d s=>av s rfl (keep b c1h) to3 rfl bz) (ec r (fun fr1 u w' hb' hd r'=>aJ r' (args:=[(.agg (ae c0.p).toArray),(I c1),(I 2)]) (lc hd.1 (lc hd.2.1 (lc rfl l0))) cl85 ((dZ _ c0.p c1 2).mono (by rintro _ w2 ⟨rfl,hb2⟩; exact ⟨_,rfl,hb2,rfl⟩))) (ec r (fun _ u _ b d s=>ax s (b:=b1) (o:=0) rfl eX bz) (ec r (fun _ u _ b d s=>av s d.1 (keep b H1) to36 rfl bz) (ec r (fun _ u _ b d s=>aU s (v:=(.func (.func 219) #[] #[zp b1,zp c1b,zp c0b,zp c2b,zp c3b])) rfl bz) ?_))))));exact bJ
 intro fr u w18 hb hΦ hne r;have r:=r.congr (sc (hΦ 6 ke) (sc (hΦ 5 ke) (sc (hΦ 4 ke) (sc (hΦ 3 ke) (sc (hΦ 2 ke) (sc (hΦ 1 ke) (sc (hΦ 0 ke) rfl)))))));have Z18:=hb.size;have c0h:=keep hb c0h;have c1h:=keep hb c1h;have c2h:=keep hb c2h;have c3h:=keep hb c3h;have H1:=keep hb H1;have H4:=keep hb H4;obtain ⟨hB,zB⟩:=bon hb hB;have hF1:=cj hF hB.size b4;have f22:((kW F w0 w18 b4)) b1:=(.inr ⟨kw,kw,kw⟩)
 have f23:((kW F w0 w18 b4)) c1b:=(.inl c1F);have f24:((kW F w0 w18 b4)) c0b:=(.inl c0F);have f25:((kW F w0 w18 b4)) c2b:=(.inl c2F);have f26:((kW F w0 w18 b4)) c3b:=(.inl c3F);refine kJ r (nX (F:=(kW F w0 w18 b4)) (n:=n) hF1 (D.bf c0.p c1 2) a0.cur ⟨219,[],[zp b1,zp c1b,zp c0b,zp c2b,zp c3b],DD,rfl,fun m hm _ w' hs hz=>zZ (j:=j) (fun b hb=>Nat.lt_of_lt_of_le (hF1 b hb) hz) kw (fun m' hm'=>ih_list_put m' kw) a0 f22 (hs.at_ f22 H1) c1 f23 (hs.at_ f23 c1h) c0 f24 (hs.at_ f24 c0h) c2 f25 (hs.at_ f25 c2h) c3 f26 (hs.at_ f26 c3h)⟩) rfl qO rfl fun w19 v20 hb hr21 r=>?_;have Z19:=hb.size
 have H4:=aX hb H4 (by rintro (h | ⟨_,_,h⟩); (have:=hF _ h; omega); exact h rfl)
 have hB:=Chg.aR (Z:=F) hB;have hB:=hB.bk hb (by rintro b hlt (h | ⟨h,_⟩); exact h; omega)
 have zB:=hB.size;refine kP r hr21.shape rfl rfl H4 ts57 rfl rfl fun w27 u28 r=>?_;have Z27:=u28.size
 have H4:=u28.at_;have hB:=hB.bi u28 (.inl kw)
 have zB:=hB.size;refine wn (wp_ret ?_);have hd:D.gT j r_list_put c0 c1 c2 c3 a0=(D.eC (D.bf c0.p c1 2) a0.cur (fun _=>(D.lW j r_list_put a0 c1 c0 c2 c3))):=(aB h7).trans (rfl)
 have hs:=hr21.shape.cells;refine ar r rfl rfl H4 (k:=8) hs.1 ta57 ?_;rw [←hs.2.2,hd];exact au.fin hB hr21 u28 (by rintro b (h | ⟨h1,h2,_⟩); exact .inl h; exact .inr ⟨h1,h2⟩) (by rintro (h | ⟨_,_,h⟩); (have:=hF _ h; omega); exact h rfl) kw kw kw
set_option maxRecDepth 20000 in
set_option maxHeartbeats 8000000 in
theorem Bt {n:Nat} {F:Nat→Prop} {j:Nat} {r_list_put:Seat→Int→Int→Int→T Res} {w0:World} (hF:∀ b,F b→b<w0.heap.size) (hj:n<j) (ih_list_put:∀ m,m<n→jx r_list_put m)
    (a0:Seat) (a1:Int) (a2:Int) (a3:Int) :
    Calls Tryz.prog 119 #[.agg (aG a0).toArray,.int .i64 a1,.int .u64 a2,.int .i64 a3] w0 (au Tryz.prog aj n (D.sQ j r_list_put a0 a1 a2 a3) F w0):=by
 refine kN Tryz.func119 rfl 15 rfl rfl fun fr r hB=>?_;refine wsr ?_
 refine kX 63 (.agg (aG a0).toArray) r rfl rfl fun b1 w2 n3 r=>?_;obtain ⟨E1,Z2,H1,hB,zB⟩:=n3.all hB
 refine kX 3 (I a1) r rfl rfl fun b4 w5 n6 r=>?_;have H1:=keep n6.below H1
 obtain ⟨E4,Z5,H4,hB,zB⟩:=n6.all hB;refine kX 36 (U a2) r rfl rfl fun b7 w8 n9 r=>?_;have H1:=keep n9.below H1
 have H4:=keep n9.below H4;obtain ⟨E7,Z8,H7,hB,zB⟩:=n9.all hB;refine kX 3 (I a3) r rfl rfl fun b10 w11 n12 r=>?_;have H1:=keep n12.below H1
 have H4:=keep n12.below H4;have H7:=keep n12.below H7;obtain ⟨E10,Z11,H10,hB,zB⟩:=n12.all hB;refine ai (.cells (af false aj.zero 0 0 0 0 .nilFunc) 57 (0,0)) r (fun R=>ah tz57) rfl fun fr b13 w14 n15 r=>?_;have H1:=keep n15.below H1
 have H4:=keep n15.below H4;have H7:=keep n15.below H7;have H10:=keep n15.below H10;obtain ⟨E13,Z14,H13,hB,zB⟩:=n15.all hB;refine wn (wsr (kG (aG a0) 8 r rfl H1 ta63 rfl rfl fun r=>kL (I a1) r rfl H4 to3 rfl rfl fun r=>kL (U a2) r rfl H7 to36 rfl rfl fun r=>?_));refine kJ r (oS (j:=j) (F:=No) (n:=n) (fun _ h=>h.elim) kw (fun m' hm'=>nV (j:=j) (k:=j) kw kw) a0 a1 a2) rfl rm rfl fun w16 v17 hb hr18 r=>?_
 have hb:=hb.below;have Z16:=hb.size;have H1:=keep hb H1;have H4:=keep hb H4;have H7:=keep hb H7;have H10:=keep hb H10;have H13:=keep hb H13;obtain ⟨hB,zB⟩:=bon hb hB;refine ac (.func (.func 213) #[] #[zp b1,zp b10,zp b4,zp b7]) r (fun R=>aU r rfl) rfl fun fr r=>?_;have hF1:∀ b,(kW F w0 w14 b13) b→b<w16.heap.size:=by rintro b (h | ⟨_,h,_⟩); exact Nat.lt_of_lt_of_le (hF b h) hB.size; exact Nat.lt_of_lt_of_le h kw
 have f22:((kW F w0 w14 b13)) b1:=(.inr ⟨kw,kw,kw⟩)
 have f23:((kW F w0 w14 b13)) b10:=(.inr ⟨kw,kw,kw⟩)
 have f24:((kW F w0 w14 b13)) b4:=(.inr ⟨kw,kw,kw⟩)
 have f25:((kW F w0 w14 b13)) b7:=(.inr ⟨kw,kw,kw⟩)
 have hF2:=cj hF hB.size b13;refine kJ r (nH (F:=(kW F w0 w16 b13)) (F2:=(kW F w0 w14 b13)) (n:=n) hF2 (by rintro b ⟨h,h'⟩; exact .inr ⟨kw,kw,kw⟩) (by rintro b (h | ⟨h1,h2,h3⟩); exact .inl h; exact .inr ⟨h1,kw,h3⟩) (by rintro b ⟨h1,h2⟩ (h | ⟨h3,h4,_⟩); (have:=hF b h; omega); omega) (RepL.mono (F':=fun b=>w14.heap.size≤b∧b<w16.heap.size) (by rintro b (h | h); exact h.elim; exact h) (Same.refl _ _) (Nat.le_refl _) n _ _ hr18) ⟨213,[],[zp b1,zp b10,zp b4,zp b7],Ew,rfl,fun m hm x w' hs hz=>Az (j:=j) (fun b hb=>Nat.lt_of_lt_of_le (hF1 b hb) hz) kw (fun m' hm'=>ih_list_put m' kw) a0 f22 (hs.at_ f22 H1) a3 f23 (hs.at_ f23 H10) a1 f24 (hs.at_ f24 H4) a2 f25 (hs.at_ f25 H7) x⟩) rfl ny rfl fun w19 v20 hb hr21 r=>?_
 have Z19:=hb.size;have H13:=aX hb H13 (by rintro (h | ⟨_,_,h⟩); (have:=hF _ h; omega); exact h rfl)
 have hB:=Chg.aR (Z:=F) hB;have hB:=hB.bk hb (by rintro b hlt (h | ⟨h,_⟩); exact h; omega)
 have zB:=hB.size;refine kP r hr21.shape rfl rfl H13 ts57 rfl rfl fun w26 u27 r=>?_;have Z26:=u27.size
 have H13:=u27.at_;have hB:=hB.bi u27 (.inl kw)
 have zB:=hB.size;refine wn (wp_ret ?_);have hs:=hr21.shape.cells;refine ar r rfl rfl H13 (k:=8) hs.1 ta57 ?_;rw [←hs.2.2];exact au.fin hB hr21 u27 (by rintro b (h | ⟨h1,h2,_⟩); exact .inl h; exact .inr ⟨h1,h2⟩) (by rintro (h | ⟨_,_,h⟩); (have:=hF _ h; omega); exact h rfl) kw kw kw
theorem Bk {n:Nat} {j:Nat} (hj:n<j) {k:Nat} (hk:n<k):jx (D.eJ j k) n:=by
  induction n using Nat.strongRecOn generalizing k with
  | _ n ih=>
    obtain ⟨k,rfl⟩:∃ q,k=q+1:=⟨k - 1,kw⟩
    intro F w0 hF;have h:=@Bt n F j (D.eJ j k) w0 hF hj (fun m hm=>ih m hm kw kw)
    exact h
def D.sL (j:Nat) (c0:Seat) (c1:Int) (c2:Int) (c3:Grant):T Res:=(D.eJ j j c0 c1 c2 c3.node)
set_option maxRecDepth 20000 in
set_option maxHeartbeats 8000000 in
theorem zm (hF:kH F w0) (hj:n<j)
    (c0:Seat) {c0b:Nat} (c0F:F c0b) (c0h:w0.heap[c0b]?=some (.cells ((aG c0)).toArray 63 (0,0))) (c1:Int) {c1b:Nat} (c1F:F c1b) (c1h:w0.heap[c1b]?=some (.cells ([(.int .i64 c1)]).toArray 3 (0,0))) (c2:Int) {c2b:Nat} (c2F:F c2b) (c2h:w0.heap[c2b]?=some (.cells ([(.int .u64 c2)]).toArray 36 (0,0))) (c3:Grant) {c3b:Nat} (c3F:F c3b) (c3h:w0.heap[c3b]?=some (.cells ((grantC c3)).toArray 35 (0,0))) :
    Calls Tryz.prog 118 #[zp c0b,zp c1b,zp c2b,zp c3b] w0 (au Tryz.prog aj n (D.sL j c0 c1 c2 c3) F w0):=by
 refine kN Tryz.func118 rfl 11 rfl rfl fun fr r hB=>?_;have lc0b:=lt_of_block c0h
 have lc1b:=lt_of_block c1h;have lc2b:=lt_of_block c2h;have lc3b:=lt_of_block c3h;refine wsr ?_;refine ai (.cells (af false aj.zero 0 0 0 0 .nilFunc) 57 (0,0)) r (fun R=>ah tz57) rfl fun fr b1 w2 n3 r=>?_;obtain ⟨E1,Z2,H1,hB,zB⟩:=n3.all hB
 refine wn (wsr (kG (aG c0) 8 r rfl (keep hB c0h) ta63 rfl rfl fun r=>kL (I c1) r rfl (keep hB c1h) to3 rfl rfl fun r=>kL (U c2) r rfl (keep hB c2h) to36 rfl rfl fun r=>kF 0 r rfl qu rfl fun r=>kL (I c3.node) r rfl (keep hB c3h) to3 rfl rfl fun r=>?_));refine kJ r ((Bk (j:=j) (k:=j) (n:=n) kw kw) (No) _ (fun _ h=>h.elim) c0 c1 c2 c3.node) rfl xc rfl fun w4 v5 hb hr6 r=>?_
 have hb:=hb.below;have Z4:=hb.size;have H1:=keep hb H1;obtain ⟨hB,zB⟩:=bon hb hB;refine kP r hr6.shape rfl rfl H1 ts57 rfl rfl fun w7 u8 r=>?_;have Z7:=u8.size
 have H1:=u8.at_;obtain ⟨hB,zB⟩:=u8.on hB kw
 refine wn (wp_ret ?_);have hs:=hr6.shape.cells;refine ar r rfl rfl H1 (k:=8) hs.1 ta57 ?_;rw [←hs.2.2];exact au.fin (Chg.aR hB) hr6 u8 (fun _ h=>h.elim) (fun h=>h) kw kw kw
def D.lV (j:Nat) (c0:Seat) (c1:Grant) (c2:Int) (c3:Int) (c4:Int):T Res:=(D.eC (D.bf c0.p c1.node 1) c2 (fun _=>(D.sL j c0 c3 c4 c1)))
set_option maxRecDepth 20000 in
set_option maxHeartbeats 8000000 in
theorem zX (hF:kH F w0) (hj:n<j)
    (c0:Seat) {c0b:Nat} (c0F:F c0b) (c0h:w0.heap[c0b]?=some (.cells ((aG c0)).toArray 63 (0,0))) (c1:Grant) {c1b:Nat} (c1F:F c1b) (c1h:w0.heap[c1b]?=some (.cells ((grantC c1)).toArray 35 (0,0))) (c2:Int) {c2b:Nat} (c2F:F c2b) (c2h:w0.heap[c2b]?=some (.cells ([(.int .u64 c2)]).toArray 36 (0,0))) (c3:Int) {c3b:Nat} (c3F:F c3b) (c3h:w0.heap[c3b]?=some (.cells ([(.int .i64 c3)]).toArray 3 (0,0))) (c4:Int) {c4b:Nat} (c4F:F c4b) (c4h:w0.heap[c4b]?=some (.cells ([(.int .u64 c4)]).toArray 36 (0,0))) :
    Calls Tryz.prog 117 #[zp c0b,zp c1b,zp c2b,zp c3b,zp c4b] w0 (au Tryz.prog aj n (D.lV j c0 c1 c2 c3 c4) F w0):=by
 refine kN Tryz.func117 rfl 14 rfl rfl fun fr r hB=>?_;have lc0b:=lt_of_block c0h
 have lc1b:=lt_of_block c1h;have lc2b:=lt_of_block c2h;have lc3b:=lt_of_block c3h;have lc4b:=lt_of_block c4h;refine wsr ?_;refine ai (.cells (af false aj.zero 0 0 0 0 .nilFunc) 57 (0,0)) r (fun R=>ah tz57) rfl fun fr b1 w2 n3 r=>?_;have c0h:=keep n3.below c0h
 have c1h:=keep n3.below c1h;have c2h:=keep n3.below c2h;have c3h:=keep n3.below c3h;have c4h:=keep n3.below c4h;obtain ⟨E1,Z2,H1,hB,zB⟩:=n3.all hB;refine wn (wp_seq ?_);refine bI 7 [.val (zp c0b),.val (.agg (ae c0.p).toArray),.val (zp c1b),.val (I c1.node),.val (I (D.bf c0.p c1.node 1)),.val (U c2),.val (.func (.func 118) #[] #[zp c0b,zp c3b,zp c4b,zp c1b])] mixed r kz (kV (kV (kV (kV (kV (kV (kV bH))))))) ?_ ?_
 ·
  refine ec r (fun _ u _ b d s=>ax s (b:=c0b) (o:=0) rfl dB bz) (ec r (fun _ u _ b d s=>aS s (cs:=(ae c0.p)) (n:=6) d.1 (keep b c0h) ta23 rfl bz) (ec r (fun _ u _ b d s=>ax s (b:=c1b) (o:=0) rfl qu bz) (ec r (fun _ u _ b d s=>av s d.1 (keep b c1h) to3 rfl bz) (ec r (fun fr1 u w' hb' hd r'=>aJ r' (args:=[(.agg (ae c0.p).toArray),(I c1.node),(I 1)]) (lc hd.1 (lc hd.2.1 (lc rfl l0))) cl85 ((dZ _ c0.p c1.node 1).mono (by rintro _ w2 ⟨rfl,hb2⟩; exact ⟨_,rfl,hb2,rfl⟩))) (ec r (fun _ u _ b d s=>av s rfl (keep b c2h) to36 rfl bz) (ec r (fun _ u _ b d s=>aU s (v:=(.func (.func 118) #[] #[zp c0b,zp c3b,zp c4b,zp c1b])) rfl bz) ?_))))));exact bJ
 intro fr u w4 hb hΦ hne r;have r:=r.congr (sc (hΦ 6 ke) (sc (hΦ 5 ke) (sc (hΦ 4 ke) (sc (hΦ 3 ke) (sc (hΦ 2 ke) (sc (hΦ 1 ke) (sc (hΦ 0 ke) rfl)))))));have Z4:=hb.size;have c0h:=keep hb c0h;have c1h:=keep hb c1h;have c2h:=keep hb c2h;have c3h:=keep hb c3h;have c4h:=keep hb c4h;have H1:=keep hb H1;obtain ⟨hB,zB⟩:=bon hb hB;have hF1:=cj hF hB.size b1;have f8:((kW F w0 w4 b1)) c0b:=(.inl c0F);have f9:((kW F w0 w4 b1)) c3b:=(.inl c3F);have f10:((kW F w0 w4 b1)) c4b:=(.inl c4F);have f11:((kW F w0 w4 b1)) c1b:=(.inl c1F);refine kJ r (nX (F:=(kW F w0 w4 b1)) (n:=n) hF1 (D.bf c0.p c1.node 1) c2 ⟨118,[],[zp c0b,zp c3b,zp c4b,zp c1b],FW,rfl,fun m hm _ w' hs hz=>zm (j:=j) (fun b hb=>Nat.lt_of_lt_of_le (hF1 b hb) hz) kw c0 f8 (hs.at_ f8 c0h) c3 f9 (hs.at_ f9 c3h) c4 f10 (hs.at_ f10 c4h) c1 f11 (hs.at_ f11 c1h)⟩) rfl qO rfl fun w5 v6 hb hr7 r=>?_;have Z5:=hb.size
 have H1:=aX hb H1 (by rintro (h | ⟨_,_,h⟩); (have:=hF _ h; omega); exact h rfl)
 have hB:=Chg.aR (Z:=F) hB;have hB:=hB.bk hb (by rintro b hlt (h | ⟨h,_⟩); exact h; omega)
 have zB:=hB.size;refine kP r hr7.shape rfl rfl H1 ts57 rfl rfl fun w12 u13 r=>?_;have Z12:=u13.size
 have H1:=u13.at_;have hB:=hB.bi u13 (.inl kw)
 have zB:=hB.size;refine wn (wp_ret ?_);have hs:=hr7.shape.cells;refine ar r rfl rfl H1 (k:=8) hs.1 ta57 ?_;rw [←hs.2.2];exact au.fin hB hr7 u13 (by rintro b (h | ⟨h1,h2,_⟩); exact .inl h; exact .inr ⟨h1,h2⟩) (by rintro (h | ⟨_,_,h⟩); (have:=hF _ h; omega); exact h rfl) kw kw kw
def D.eW (j:Nat) (c0:Seat) (c1:Int) (c2:Int) (c3:Int) (a0:Grant):T Res:=(bif (a0.e !=0) then (D.jO a0.e) else (D.eC (D.bf c0.p a0.node 0) c1 (fun _=>(D.lV j c0 a0 c2 c3 c1))))
set_option maxRecDepth 20000 in
set_option maxHeartbeats 8000000 in
theorem AF (hF:kH F w0) (hj:n<j)
    (c0:Seat) {c0b:Nat} (c0F:F c0b) (c0h:w0.heap[c0b]?=some (.cells ((aG c0)).toArray 63 (0,0))) (c1:Int) {c1b:Nat} (c1F:F c1b) (c1h:w0.heap[c1b]?=some (.cells ([(.int .u64 c1)]).toArray 36 (0,0))) (c2:Int) {c2b:Nat} (c2F:F c2b) (c2h:w0.heap[c2b]?=some (.cells ([(.int .u64 c2)]).toArray 36 (0,0))) (c3:Int) {c3b:Nat} (c3F:F c3b) (c3h:w0.heap[c3b]?=some (.cells ([(.int .i64 c3)]).toArray 3 (0,0))) (a0:Grant) :
    Calls Tryz.prog 114 #[.agg (grantC a0).toArray,zp c0b,zp c1b,zp c2b,zp c3b] w0 (au Tryz.prog aj n (D.eW j c0 c1 c2 c3 a0) F w0):=by
 refine kN Tryz.func114 rfl 21 rfl rfl fun fr r hB=>?_;have lc0b:=lt_of_block c0h
 have lc1b:=lt_of_block c1h;have lc2b:=lt_of_block c2h;have lc3b:=lt_of_block c3h;refine wsr ?_;refine kX 35 (.agg (grantC a0).toArray) r rfl rfl fun b1 w2 n3 r=>?_;have c0h:=keep n3.below c0h
 have c1h:=keep n3.below c1h;have c2h:=keep n3.below c2h;have c3h:=keep n3.below c3h;obtain ⟨E1,Z2,H1,hB,zB⟩:=n3.all hB;refine ai (.cells (af false aj.zero 0 0 0 0 .nilFunc) 57 (0,0)) r (fun R=>ah tz57) rfl fun fr b4 w5 n6 r=>?_;have c0h:=keep n6.below c0h
 have c1h:=keep n6.below c1h;have c2h:=keep n6.below c2h;have c3h:=keep n6.below c3h;have H1:=keep n6.below H1;obtain ⟨E4,Z5,H4,hB,zB⟩:=n6.all hB;refine wn (wp_seq (wsr (kF 0 r rfl vQ rfl fun r=>kL (I a0.e) r rfl H1 to33 rfl rfl fun r=>kB r rfl rfl rfl rfl rfl fun r=>wn ?_)));refine wp_cond_split (t:=(a0.e !=0)) (r.ev rfl) (fun h7=>?_) (fun h7=>?_)
 ·
  refine wsr (kF 0 r rfl vQ rfl fun r=>kL (I a0.e) r rfl H1 to33 rfl rfl fun r=>?_);refine kJ r (sY (F:=No) (n:=n) (fun _ h=>h.elim) a0.e) rfl wz rfl fun w8 v9 hb hr10 r=>?_
  have hb:=hb.below;have Z8:=hb.size;have c0h:=keep hb c0h;have c1h:=keep hb c1h;have c2h:=keep hb c2h;have c3h:=keep hb c3h;have H1:=keep hb H1;have H4:=keep hb H4;obtain ⟨hB,zB⟩:=bon hb hB;refine kP r hr10.shape rfl rfl H4 ts57 rfl rfl fun w11 u12 r=>?_;have Z11:=u12.size
  have c0h:=u12.keep c0h kw
  have c1h:=u12.keep c1h kw
  have c2h:=u12.keep c2h kw
  have c3h:=u12.keep c3h kw
  have H1:=u12.keep H1 kw
  have H4:=u12.at_;obtain ⟨hB,zB⟩:=u12.on hB kw
  refine wn (wp_ret ?_);have hd:D.eW j c0 c1 c2 c3 a0=(D.jO a0.e):=(az h7).trans (rfl);have hs:=hr10.shape.cells;refine ar r rfl rfl H4 (k:=8) hs.1 ta57 ?_;rw [←hs.2.2,hd];exact au.fin (Chg.aR hB) hr10 u12 (fun _ h=>h.elim) (fun h=>h) kw kw kw
 refine wp_skip (wp_seq ?_);refine bI 7 [.val (zp c0b),.val (.agg (ae c0.p).toArray),.val (zp b1),.val (I a0.node),.val (I (D.bf c0.p a0.node 0)),.val (U c1),.val (.func (.func 117) #[] #[zp c0b,zp b1,zp c2b,zp c3b,zp c1b])] mixed r kz (kV (kV (kV (kV (kV (kV (kV bH))))))) ?_ ?_
 ·
  refine ec r (fun _ u _ b d s=>ax s (b:=c0b) (o:=0) rfl dB bz) (ec r (fun _ u _ b d s=>aS s (cs:=(ae c0.p)) (n:=6) d.1 (keep b c0h) ta23 rfl bz) (ec r (fun _ u _ b d s=>ax s (b:=b1) (o:=0) rfl qu bz) (ec r (fun _ u _ b d s=>av s d.1 (keep b H1) to3 rfl bz) (ec r (fun fr1 u w' hb' hd r'=>aJ r' (args:=[(.agg (ae c0.p).toArray),(I a0.node),(I 0)]) (lc hd.1 (lc hd.2.1 (lc rfl l0))) cl85 ((dZ _ c0.p a0.node 0).mono (by rintro _ w2 ⟨rfl,hb2⟩; exact ⟨_,rfl,hb2,rfl⟩))) (ec r (fun _ u _ b d s=>av s rfl (keep b c1h) to36 rfl bz) (ec r (fun _ u _ b d s=>aU s (v:=(.func (.func 117) #[] #[zp c0b,zp b1,zp c2b,zp c3b,zp c1b])) rfl bz) ?_))))));exact bJ
 intro fr u w13 hb hΦ hne r;have r:=r.congr (sc (hΦ 6 ke) (sc (hΦ 5 ke) (sc (hΦ 4 ke) (sc (hΦ 3 ke) (sc (hΦ 2 ke) (sc (hΦ 1 ke) (sc (hΦ 0 ke) rfl)))))));have Z13:=hb.size;have c0h:=keep hb c0h;have c1h:=keep hb c1h;have c2h:=keep hb c2h;have c3h:=keep hb c3h;have H1:=keep hb H1;have H4:=keep hb H4;obtain ⟨hB,zB⟩:=bon hb hB;have hF1:=cj hF hB.size b4;have f17:((kW F w0 w13 b4)) c0b:=(.inl c0F);have f18:((kW F w0 w13 b4)) b1:=(.inr ⟨kw,kw,kw⟩)
 have f19:((kW F w0 w13 b4)) c2b:=(.inl c2F);have f20:((kW F w0 w13 b4)) c3b:=(.inl c3F);have f21:((kW F w0 w13 b4)) c1b:=(.inl c1F);refine kJ r (nX (F:=(kW F w0 w13 b4)) (n:=n) hF1 (D.bf c0.p a0.node 0) c1 ⟨117,[],[zp c0b,zp b1,zp c2b,zp c3b,zp c1b],Dm,rfl,fun m hm _ w' hs hz=>zX (j:=j) (fun b hb=>Nat.lt_of_lt_of_le (hF1 b hb) hz) kw c0 f17 (hs.at_ f17 c0h) a0 f18 (hs.at_ f18 H1) c2 f19 (hs.at_ f19 c2h) c3 f20 (hs.at_ f20 c3h) c1 f21 (hs.at_ f21 c1h)⟩) rfl qO rfl fun w14 v15 hb hr16 r=>?_;have Z14:=hb.size
 have H4:=aX hb H4 (by rintro (h | ⟨_,_,h⟩); (have:=hF _ h; omega); exact h rfl)
 have hB:=Chg.aR (Z:=F) hB;have hB:=hB.bk hb (by rintro b hlt (h | ⟨h,_⟩); exact h; omega)
 have zB:=hB.size;refine kP r hr16.shape rfl rfl H4 ts57 rfl rfl fun w22 u23 r=>?_;have Z22:=u23.size
 have H4:=u23.at_;have hB:=hB.bi u23 (.inl kw)
 have zB:=hB.size;refine wn (wp_ret ?_);have hd:D.eW j c0 c1 c2 c3 a0=(D.eC (D.bf c0.p a0.node 0) c1 (fun _=>(D.lV j c0 a0 c2 c3 c1))):=(aB h7).trans (rfl)
 have hs:=hr16.shape.cells;refine ar r rfl rfl H4 (k:=8) hs.1 ta57 ?_;rw [←hs.2.2,hd];exact au.fin hB hr16 u23 (by rintro b (h | ⟨h1,h2,_⟩); exact .inl h; exact .inr ⟨h1,h2⟩) (by rintro (h | ⟨_,_,h⟩); (have:=hF _ h; omega); exact h rfl) kw kw kw
def D.dm (j:Nat) (a0:Seat) (a1:Int) (a2:Int) (a3:Int):T Res:=(T.bind (D.ee j a0.p a0.thread 2) (fun x=>(D.eW j a0 a2 a3 a1 x)))
set_option maxRecDepth 20000 in
set_option maxHeartbeats 8000000 in
theorem oY (hF:kH F w0) (hj:n<j)
    (a0:Seat) (a1:Int) (a2:Int) (a3:Int) :
    Calls Tryz.prog 50 #[.agg (aG a0).toArray,.int .i64 a1,.int .u64 a2,.int .u64 a3] w0 (au Tryz.prog aj n (D.dm j a0 a1 a2 a3) F w0):=by
 refine kN Tryz.func50 rfl 16 rfl rfl fun fr r hB=>?_;refine wsr ?_
 refine kX 63 (.agg (aG a0).toArray) r rfl rfl fun b1 w2 n3 r=>?_;obtain ⟨E1,Z2,H1,hB,zB⟩:=n3.all hB
 refine kX 3 (I a1) r rfl rfl fun b4 w5 n6 r=>?_;have H1:=keep n6.below H1
 obtain ⟨E4,Z5,H4,hB,zB⟩:=n6.all hB;refine kX 36 (U a2) r rfl rfl fun b7 w8 n9 r=>?_;have H1:=keep n9.below H1
 have H4:=keep n9.below H4;obtain ⟨E7,Z8,H7,hB,zB⟩:=n9.all hB;refine kX 36 (U a3) r rfl rfl fun b10 w11 n12 r=>?_;have H1:=keep n12.below H1
 have H4:=keep n12.below H4;have H7:=keep n12.below H7;obtain ⟨E10,Z11,H10,hB,zB⟩:=n12.all hB;refine ai (.cells (af false aj.zero 0 0 0 0 .nilFunc) 57 (0,0)) r (fun R=>ah tz57) rfl fun fr b13 w14 n15 r=>?_;have H1:=keep n15.below H1
 have H4:=keep n15.below H4;have H7:=keep n15.below H7;have H10:=keep n15.below H10;obtain ⟨E13,Z14,H13,hB,zB⟩:=n15.all hB;refine wn (wsr (kF 0 r rfl dB rfl fun r=>kG (ae a0.p) 6 r rfl H1 ta23 rfl rfl fun r=>kF 0 r rfl hO rfl fun r=>kL (I a0.thread) r rfl H1 to3 rfl rfl fun r=>?_));refine kD r (Bd (j:=j) (F:=No) (n:=n) (fun _ h=>h.elim) kw a0.p a0.thread 2) rfl cl74 rfl fun w16 v17 hb hr18 r=>?_
 have hr18:=hr18.loud;have Z16:=hb.size;have H1:=keep hb H1;have H4:=keep hb H4;have H7:=keep hb H7;have H10:=keep hb H10;have H13:=keep hb H13;obtain ⟨hB,zB⟩:=bon hb hB;refine ac (.func (.func 114) #[] #[zp b1,zp b7,zp b10,zp b4]) r (fun R=>aU r rfl) rfl fun fr r=>?_;have hF1:∀ b,(kW F w0 w14 b13) b→b<w16.heap.size:=by rintro b (h | ⟨_,h,_⟩); exact Nat.lt_of_lt_of_le (hF b h) hB.size; exact Nat.lt_of_lt_of_le h kw
 have f22:((kW F w0 w14 b13)) b1:=(.inr ⟨kw,kw,kw⟩)
 have f23:((kW F w0 w14 b13)) b7:=(.inr ⟨kw,kw,kw⟩)
 have f24:((kW F w0 w14 b13)) b10:=(.inr ⟨kw,kw,kw⟩)
 have f25:((kW F w0 w14 b13)) b4:=(.inr ⟨kw,kw,kw⟩)
 have hF2:=cj hF hB.size b13;refine kJ r (xE (F:=(kW F w0 w16 b13)) (F2:=(kW F w0 w14 b13)) (n:=n) hF2 (by rintro b ⟨h,h'⟩; exact .inr ⟨kw,kw,kw⟩) (by rintro b (h | ⟨h1,h2,h3⟩); exact .inl h; exact .inr ⟨h1,kw,h3⟩) (by rintro b ⟨h1,h2⟩ (h | ⟨h3,h4,_⟩); (have:=hF b h; omega); omega) (RepL.mono (F':=fun b=>w14.heap.size≤b∧b<w16.heap.size) (by rintro b (h | h); exact h.elim; exact h) (Same.refl _ _) (Nat.le_refl _) n _ _ hr18) ⟨114,[],[zp b1,zp b7,zp b10,zp b4],FD,rfl,fun m hm x w' hs hz=>AF (j:=j) (fun b hb=>Nat.lt_of_lt_of_le (hF1 b hb) hz) kw a0 f22 (hs.at_ f22 H1) a2 f23 (hs.at_ f23 H7) a3 f24 (hs.at_ f24 H10) a1 f25 (hs.at_ f25 H4) x⟩) rfl wU rfl fun w19 v20 hb hr21 r=>?_
 have Z19:=hb.size;have H13:=aX hb H13 (by rintro (h | ⟨_,_,h⟩); (have:=hF _ h; omega); exact h rfl)
 have hB:=Chg.aR (Z:=F) hB;have hB:=hB.bk hb (by rintro b hlt (h | ⟨h,_⟩); exact h; omega)
 have zB:=hB.size;refine kP r hr21.shape rfl rfl H13 ts57 rfl rfl fun w26 u27 r=>?_;have Z26:=u27.size
 have H13:=u27.at_;have hB:=hB.bi u27 (.inl kw)
 have zB:=hB.size;refine wn (wp_ret ?_);have hs:=hr21.shape.cells;refine ar r rfl rfl H13 (k:=8) hs.1 ta57 ?_;rw [←hs.2.2];exact au.fin hB hr21 u27 (by rintro b (h | ⟨h1,h2,_⟩); exact .inl h; exact .inr ⟨h1,h2⟩) (by rintro (h | ⟨_,_,h⟩); (have:=hF _ h; omega); exact h rfl) kw kw kw
def D.oh (j:Nat) (c0:Seat) (c1:Int) (a0:Int):T Res:=(D.dJ j c0 (⟨0,c1⟩:Res))
set_option maxRecDepth 20000 in
set_option maxHeartbeats 8000000 in
theorem yQ (hF:kH F w0) (hj:n<j)
    (c0:Seat) {c0b:Nat} (c0F:F c0b) (c0h:w0.heap[c0b]?=some (.cells ((aG c0)).toArray 63 (0,0))) (c1:Int) {c1b:Nat} (c1F:F c1b) (c1h:w0.heap[c1b]?=some (.cells ([(.int .u64 c1)]).toArray 36 (0,0))) (a0:Int) :
    Calls Tryz.prog 230 #[.int .i64 a0,zp c0b,zp c1b] w0 (au Tryz.prog aj n (D.oh j c0 c1 a0) F w0):=by
 refine kN Tryz.func230 rfl 9 rfl rfl fun fr r hB=>?_;have lc0b:=lt_of_block c0h
 have lc1b:=lt_of_block c1h;refine wsr ?_;refine ai (.cells (af false aj.zero 0 0 0 0 .nilFunc) 57 (0,0)) r (fun R=>ah tz57) rfl fun fr b1 w2 n3 r=>?_;obtain ⟨E1,Z2,H1,hB,zB⟩:=n3.all hB
 refine wn (wsr (kG (aG c0) 8 r rfl (keep hB c0h) ta63 rfl rfl fun r=>kL (U c1) r rfl (keep hB c1h) to36 rfl rfl fun r=>kU (.agg (resC (⟨0,c1⟩:Res)).toArray) r kz rfl fun r=>?_));refine kJ r (lQ (j:=j) (F:=No) (n:=n) (fun _ h=>h.elim) kw c0 (⟨0,c1⟩:Res)) rfl nk rfl fun w4 v5 hb hr6 r=>?_
 have hb:=hb.below;have Z4:=hb.size;have H1:=keep hb H1;obtain ⟨hB,zB⟩:=bon hb hB;refine kP r hr6.shape rfl rfl H1 ts57 rfl rfl fun w7 u8 r=>?_;have Z7:=u8.size
 have H1:=u8.at_;obtain ⟨hB,zB⟩:=u8.on hB kw
 refine wn (wp_ret ?_);have hs:=hr6.shape.cells;refine ar r rfl rfl H1 (k:=8) hs.1 ta57 ?_;rw [←hs.2.2];exact au.fin (Chg.aR hB) hr6 u8 (fun _ h=>h.elim) (fun h=>h) kw kw kw
def D.o7 (j:Nat) (c0:Seat) (c1:Int) (a0:Walk):T Res:=(D.dJ j c0 (⟨0,c1⟩:Res))
set_option maxRecDepth 20000 in
set_option maxHeartbeats 8000000 in
theorem yT (hF:kH F w0) (hj:n<j)
    (c0:Seat) {c0b:Nat} (c0F:F c0b) (c0h:w0.heap[c0b]?=some (.cells ((aG c0)).toArray 63 (0,0))) (c1:Int) {c1b:Nat} (c1F:F c1b) (c1h:w0.heap[c1b]?=some (.cells ([(.int .u64 c1)]).toArray 36 (0,0))) (a0:Walk) :
    Calls Tryz.prog 232 #[.agg (bb a0).toArray,zp c0b,zp c1b] w0 (au Tryz.prog aj n (D.o7 j c0 c1 a0) F w0):=by
 refine kN Tryz.func232 rfl 9 rfl rfl fun fr r hB=>?_;have lc0b:=lt_of_block c0h
 have lc1b:=lt_of_block c1h;refine wsr ?_;refine kX 206 (.agg (bb a0).toArray) r rfl rfl fun b1 w2 n3 r=>?_;obtain ⟨E1,Z2,H1,hB,zB⟩:=n3.all hB
 refine ai (.cells (af false aj.zero 0 0 0 0 .nilFunc) 57 (0,0)) r (fun R=>ah tz57) rfl fun fr b4 w5 n6 r=>?_;have H1:=keep n6.below H1
 obtain ⟨E4,Z5,H4,hB,zB⟩:=n6.all hB;refine wn (wsr (kG (aG c0) 8 r rfl (keep hB c0h) ta63 rfl rfl fun r=>kL (U c1) r rfl (keep hB c1h) to36 rfl rfl fun r=>kU (.agg (resC (⟨0,c1⟩:Res)).toArray) r kz rfl fun r=>?_));refine kJ r (lQ (j:=j) (F:=No) (n:=n) (fun _ h=>h.elim) kw c0 (⟨0,c1⟩:Res)) rfl nk rfl fun w7 v8 hb hr9 r=>?_
 have hb:=hb.below;have Z7:=hb.size;have H1:=keep hb H1;have H4:=keep hb H4;obtain ⟨hB,zB⟩:=bon hb hB;refine kP r hr9.shape rfl rfl H4 ts57 rfl rfl fun w10 u11 r=>?_;have Z10:=u11.size
 have H1:=u11.keep H1 kw
 have H4:=u11.at_;obtain ⟨hB,zB⟩:=u11.on hB kw
 refine wn (wp_ret ?_);have hs:=hr9.shape.cells;refine ar r rfl rfl H4 (k:=8) hs.1 ta57 ?_;rw [←hs.2.2];exact au.fin (Chg.aR hB) hr9 u11 (fun _ h=>h.elim) (fun h=>h) kw kw kw
def D.lJ (j:Nat) (c0:Seat) (c1:Walk) (c2:Int) (a0:Bool):T Res:=(bif a0 then (T.bind (D.fT j c0.p c0.thread (D.aV c1.cur)) (fun x=>(D.oh j c0 c2 x))) else (T.bind (D.eD j (D.cz j j) c1) (fun x=>(D.o7 j c0 c2 x))))
set_option maxRecDepth 20000 in
set_option maxHeartbeats 8000000 in
theorem zA (hF:kH F w0) (hj:n<j)
    (c0:Seat) {c0b:Nat} (c0F:F c0b) (c0h:w0.heap[c0b]?=some (.cells ((aG c0)).toArray 63 (0,0))) (c1:Walk) {c1b:Nat} (c1F:F c1b) (c1h:w0.heap[c1b]?=some (.cells ((bb c1)).toArray 206 (0,0))) (c2:Int) {c2b:Nat} (c2F:F c2b) (c2h:w0.heap[c2b]?=some (.cells ([(.int .u64 c2)]).toArray 36 (0,0))) (a0:Bool) :
    Calls Tryz.prog 229 #[.bool a0,zp c0b,zp c1b,zp c2b] w0 (au Tryz.prog aj n (D.lJ j c0 c1 c2 a0) F w0):=by
 refine kN Tryz.func229 rfl 21 rfl rfl fun fr r hB=>?_;have lc0b:=lt_of_block c0h
 have lc1b:=lt_of_block c1h;have lc2b:=lt_of_block c2h;refine wsr ?_;refine ai (.cells (af false aj.zero 0 0 0 0 .nilFunc) 57 (0,0)) r (fun R=>ah tz57) rfl fun fr b1 w2 n3 r=>?_;have c0h:=keep n3.below c0h
 have c1h:=keep n3.below c1h;have c2h:=keep n3.below c2h;obtain ⟨E1,Z2,H1,hB,zB⟩:=n3.all hB;refine wn (wp_seq (wsr (kM (.bool a0) r rfl rfl fun r=>wn ?_)));refine wp_cond_split (t:=a0) (r.ev rfl) (fun h4=>?_) (fun h4=>?_)
 ·
  refine wp_seq ?_;refine bI 9 [.val (zp c0b),.val (.agg (ae c0.p).toArray),.val (.pointer (some ⟨c0b,7,none⟩)),.val (I c0.thread),.val (.pointer (some ⟨c1b,11,none⟩)),.val (U c1.cur),.val (I (D.aV c1.cur)),.pred (PrepP Tryz.prog ak n (D.fT j c0.p c0.thread (D.aV c1.cur)) No w2) (PrepP.st (fun _ h=>h.elim)),.val (.func (.func 230) #[] #[zp c0b,zp c2b])] mixed r kz (kV (kV (kV (kV (kV (kV (kV (kV (kV bH))))))))) ?_ ?_
  ·
   refine ec r (fun _ u _ b d s=>ax s (b:=c0b) (o:=0) rfl dB bz) (ec r (fun _ u _ b d s=>aS s (cs:=(ae c0.p)) (n:=6) d.1 (keep b c0h) ta23 rfl bz) (ec r (fun _ u _ b d s=>ax s (b:=c0b) (o:=0) rfl hO bz) (ec r (fun _ u _ b d s=>av s d.1 (keep b c0h) to3 rfl bz) (ec r (fun _ u _ b d s=>ax s (b:=c1b) (o:=0) rfl eX bz) (ec r (fun _ u _ b d s=>av s d.1 (keep b c1h) to36 rfl bz) (ec r (fun fr1 u w' hb' hd r'=>aJ r' (args:=[(U c1.cur)]) (lc hd.1 l0) gA ((fU _ c1.cur).mono (by rintro _ w2 ⟨rfl,hb2⟩; exact ⟨_,rfl,hb2,rfl⟩))) (ec r (fun fr1 u w' hb' hd r'=>aJ r' (args:=[(.agg (ae c0.p).toArray),(I c0.thread),(I (D.aV c1.cur))]) (lc hd.1 (lc hd.2.1 (lc hd.2.2.1 l0))) cl82 ((sM (j:=j) (F:=No) (n:=n) (fun _ h=>h.elim) kw c0.p c0.thread (D.aV c1.cur)).mono (by rintro _ w2 ⟨y,rfl,hb2,hr2⟩; exact ⟨_,rfl,hb2,PrepP.of (drB hb') hb2 hr2⟩))) (ec r (fun _ u _ b d s=>aU s (v:=(.func (.func 230) #[] #[zp c0b,zp c2b])) rfl bz) ?_))))))));exact bJ
  intro fr u w5 hb hΦ hne r;obtain ⟨v6,hv7⟩:∃ v,v=u 7:=⟨_,rfl⟩;have g7:u 7=v6:=hv7.symm;have hr7:=(hΦ 7 ke).2;rw [g7] at hr7
  have hr7:=hr7.loud;have r:=r.congr (sc (hΦ 8 ke) (sc g7 (sc (hΦ 6 ke) (sc (hΦ 5 ke) (sc (hΦ 4 ke) (sc (hΦ 3 ke) (sc (hΦ 2 ke) (sc (hΦ 1 ke) (sc (hΦ 0 ke) rfl)))))))))
  have Z5:=hb.size;have c0h:=keep hb c0h;have c1h:=keep hb c1h;have c2h:=keep hb c2h;have H1:=keep hb H1;obtain ⟨hB,zB⟩:=bon hb hB;have hF1:∀ b,(kW F w0 w2 b1) b→b<w5.heap.size:=by rintro b (h | ⟨_,h,_⟩); exact Nat.lt_of_lt_of_le (hF b h) hB.size; exact Nat.lt_of_lt_of_le h kw
  have f11:((kW F w0 w2 b1)) c0b:=(.inl c0F);have f12:((kW F w0 w2 b1)) c2b:=(.inl c2F);have hF2:=cj hF hB.size b1;refine kJ r (rE (F:=(kW F w0 w5 b1)) (F2:=(kW F w0 w2 b1)) (n:=n) hF2 (by rintro b ⟨h,h'⟩; exact .inr ⟨kw,kw,kw⟩) (by rintro b (h | ⟨h1,h2,h3⟩); exact .inl h; exact .inr ⟨h1,kw,h3⟩) (by rintro b ⟨h1,h2⟩ (h | ⟨h3,h4,_⟩); (have:=hF b h; omega); omega) (RepL.mono (F':=fun b=>w2.heap.size≤b∧b<w5.heap.size) (by rintro b (h | h); exact h.elim; exact h) (Same.refl _ _) (Nat.le_refl _) n _ _ hr7) ⟨230,[],[zp c0b,zp c2b],EA,rfl,fun m hm x w' hs hz=>yQ (j:=j) (fun b hb=>Nat.lt_of_lt_of_le (hF1 b hb) hz) kw c0 f11 (hs.at_ f11 c0h) c2 f12 (hs.at_ f12 c2h) x⟩) rfl qZ rfl fun w8 v9 hb hr10 r=>?_
  have Z8:=hb.size;have H1:=aX hb H1 (by rintro (h | ⟨_,_,h⟩); (have:=hF _ h; omega); exact h rfl)
  have hB:=Chg.aR (Z:=F) hB;have hB:=hB.bk hb (by rintro b hlt (h | ⟨h,_⟩); exact h; omega)
  have zB:=hB.size;refine kP r hr10.shape rfl rfl H1 ts57 rfl rfl fun w13 u14 r=>?_;have Z13:=u14.size
  have H1:=u14.at_;have hB:=hB.bi u14 (.inl kw)
  have zB:=hB.size;refine wn (wp_ret ?_);have hd:D.lJ j c0 c1 c2 a0=(T.bind (D.fT j c0.p c0.thread (D.aV c1.cur)) (fun x=>(D.oh j c0 c2 x))):=(az h4).trans (rfl)
  have hs:=hr10.shape.cells;refine ar r rfl rfl H1 (k:=8) hs.1 ta57 ?_;rw [←hs.2.2,hd];exact au.fin hB hr10 u14 (by rintro b (h | ⟨h1,h2,_⟩); exact .inl h; exact .inr ⟨h1,h2⟩) (by rintro (h | ⟨_,_,h⟩); (have:=hF _ h; omega); exact h rfl) kw kw kw
 refine wp_skip (wsr (kG (bb c1) 14 r rfl c1h dc rfl rfl fun r=>?_));refine kJ r (lj (j:=j) (F:=No) (n:=n) (fun _ h=>h.elim) kw (fun m' hm'=>nV (j:=j) (k:=j) kw kw) c1) rfl nD rfl fun w15 v16 hb hr17 r=>?_
 have hb:=hb.below;have Z15:=hb.size;have c0h:=keep hb c0h;have c1h:=keep hb c1h;have c2h:=keep hb c2h;have H1:=keep hb H1;obtain ⟨hB,zB⟩:=bon hb hB;refine ac (.func (.func 232) #[] #[zp c0b,zp c2b]) r (fun R=>aU r rfl) rfl fun fr r=>?_;have hF1:∀ b,(kW F w0 w2 b1) b→b<w15.heap.size:=by rintro b (h | ⟨_,h,_⟩); exact Nat.lt_of_lt_of_le (hF b h) hB.size; exact Nat.lt_of_lt_of_le h kw
 have f21:((kW F w0 w2 b1)) c0b:=(.inl c0F);have f22:((kW F w0 w2 b1)) c2b:=(.inl c2F);have hF2:=cj hF hB.size b1;refine kJ r (nH (F:=(kW F w0 w15 b1)) (F2:=(kW F w0 w2 b1)) (n:=n) hF2 (by rintro b ⟨h,h'⟩; exact .inr ⟨kw,kw,kw⟩) (by rintro b (h | ⟨h1,h2,h3⟩); exact .inl h; exact .inr ⟨h1,kw,h3⟩) (by rintro b ⟨h1,h2⟩ (h | ⟨h3,h4,_⟩); (have:=hF b h; omega); omega) (RepL.mono (F':=fun b=>w2.heap.size≤b∧b<w15.heap.size) (by rintro b (h | h); exact h.elim; exact h) (Same.refl _ _) (Nat.le_refl _) n _ _ hr17) ⟨232,[],[zp c0b,zp c2b],Ex,rfl,fun m hm x w' hs hz=>yT (j:=j) (fun b hb=>Nat.lt_of_lt_of_le (hF1 b hb) hz) kw c0 f21 (hs.at_ f21 c0h) c2 f22 (hs.at_ f22 c2h) x⟩) rfl ny rfl fun w18 v19 hb hr20 r=>?_
 have Z18:=hb.size;have H1:=aX hb H1 (by rintro (h | ⟨_,_,h⟩); (have:=hF _ h; omega); exact h rfl)
 have hB:=Chg.aR (Z:=F) hB;have hB:=hB.bk hb (by rintro b hlt (h | ⟨h,_⟩); exact h; omega)
 have zB:=hB.size;refine kP r hr20.shape rfl rfl H1 ts57 rfl rfl fun w23 u24 r=>?_;have Z23:=u24.size
 have H1:=u24.at_;have hB:=hB.bi u24 (.inl kw)
 have zB:=hB.size;refine wn (wp_ret ?_);have hd:D.lJ j c0 c1 c2 a0=(T.bind (D.eD j (D.cz j j) c1) (fun x=>(D.o7 j c0 c2 x))):=(aB h4).trans (rfl)
 have hs:=hr20.shape.cells;refine ar r rfl rfl H1 (k:=8) hs.1 ta57 ?_;rw [←hs.2.2,hd];exact au.fin hB hr20 u24 (by rintro b (h | ⟨h1,h2,_⟩); exact .inl h; exact .inr ⟨h1,h2⟩) (by rintro (h | ⟨_,_,h⟩); (have:=hF _ h; omega); exact h rfl) kw kw kw
def D.oR (j:Nat) (a0:Seat) (a1:Walk) (a2:Int):T Res:=(D.fQ a1.place a1.cur a1.next (fun x=>(D.lJ j a0 a1 a2 x)))
set_option maxRecDepth 20000 in
set_option maxHeartbeats 8000000 in
theorem A8 (hF:kH F w0) (hj:n<j)
    (a0:Seat) (a1:Walk) (a2:Int) :
    Calls Tryz.prog 129 #[.agg (aG a0).toArray,.agg (bb a1).toArray,.int .u64 a2] w0 (au Tryz.prog aj n (D.oR j a0 a1 a2) F w0):=by
 refine kN Tryz.func129 rfl 15 rfl rfl fun fr r hB=>?_;refine wsr ?_
 refine kX 63 (.agg (aG a0).toArray) r rfl rfl fun b1 w2 n3 r=>?_;obtain ⟨E1,Z2,H1,hB,zB⟩:=n3.all hB
 refine kX 206 (.agg (bb a1).toArray) r rfl rfl fun b4 w5 n6 r=>?_;have H1:=keep n6.below H1
 obtain ⟨E4,Z5,H4,hB,zB⟩:=n6.all hB;refine kX 36 (U a2) r rfl rfl fun b7 w8 n9 r=>?_;have H1:=keep n9.below H1
 have H4:=keep n9.below H4;obtain ⟨E7,Z8,H7,hB,zB⟩:=n9.all hB;refine ai (.cells (af false aj.zero 0 0 0 0 .nilFunc) 57 (0,0)) r (fun R=>ah tz57) rfl fun fr b10 w11 n12 r=>?_;have H1:=keep n12.below H1
 have H4:=keep n12.below H4;have H7:=keep n12.below H7;obtain ⟨E10,Z11,H10,hB,zB⟩:=n12.all hB;refine wn (wsr (kF 0 r rfl jX rfl fun r=>kL (I a1.place) r rfl H4 to3 rfl rfl fun r=>kF 0 r rfl eX rfl fun r=>kL (U a1.cur) r rfl H4 to36 rfl rfl fun r=>kF 0 r rfl gb rfl fun r=>kL (U a1.next) r rfl H4 to36 rfl rfl fun r=>ac (.func (.func 229) #[] #[zp b1,zp b4,zp b7]) r (fun R=>aU r rfl) rfl fun fr r=>?_));have hF1:=cj hF hB.size b10
 have f16:((kW F w0 w11 b10)) b1:=(.inr ⟨kw,kw,kw⟩)
 have f17:((kW F w0 w11 b10)) b4:=(.inr ⟨kw,kw,kw⟩)
 have f18:((kW F w0 w11 b10)) b7:=(.inr ⟨kw,kw,kw⟩)
 refine kJ r (o8 (F:=(kW F w0 w11 b10)) (n:=n) hF1 a1.place a1.cur a1.next ⟨229,[],[zp b1,zp b4,zp b7],FZ,rfl,fun m hm x w' hs hz=>zA (j:=j) (fun b hb=>Nat.lt_of_lt_of_le (hF1 b hb) hz) kw a0 f16 (hs.at_ f16 H1) a1 f17 (hs.at_ f17 H4) a2 f18 (hs.at_ f18 H7) x⟩) rfl qQ rfl fun w13 v14 hb hr15 r=>?_;have Z13:=hb.size
 have H10:=aX hb H10 (by rintro (h | ⟨_,_,h⟩); (have:=hF _ h; omega); exact h rfl)
 have hB:=Chg.aR (Z:=F) hB;have hB:=hB.bk hb (by rintro b hlt (h | ⟨h,_⟩); exact h; omega)
 have zB:=hB.size;refine kP r hr15.shape rfl rfl H10 ts57 rfl rfl fun w19 u20 r=>?_;have Z19:=u20.size
 have H10:=u20.at_;have hB:=hB.bi u20 (.inl kw)
 have zB:=hB.size;refine wn (wp_ret ?_);have hs:=hr15.shape.cells;refine ar r rfl rfl H10 (k:=8) hs.1 ta57 ?_;rw [←hs.2.2];exact au.fin hB hr15 u20 (by rintro b (h | ⟨h1,h2,_⟩); exact .inl h; exact .inr ⟨h1,h2⟩) (by rintro (h | ⟨_,_,h⟩); (have:=hF _ h; omega); exact h rfl) kw kw kw
def D.lM (j:Nat) (r_list_Del:Seat→Int→Int→T Res) (c0:Seat) (c1:Int) (c2:Int) (c3:Walk) (c4:Int) (a0:Bool):T Res:=(bif (!a0) then (r_list_Del c0 c1 c2) else (D.oR j c0 c3 c4))
def D.oM (j:Nat) (r_list_Del:Seat→Int→Int→T Res) (c0:Seat) (c1:Int) (c2:Walk) (c3:Int) (c4:Int) (a0:Int):T Res:=(D.fQ (D.bf c0.p c1 2) c2.next (dO .u64 c2.next 1) (fun x=>(D.lM j r_list_Del c0 c3 c4 c2 a0 x)))
def D.m7 (j:Nat) (r_list_Del:Seat→Int→Int→T Res) (c0:Seat) (c1:Int) (c2:Int) (a0:Walk):T Res:=(bif (!a0.there) then (D.dJ j c0 (⟨6,0⟩:Res)) else (D.fR (D.bf c0.p (D.aV a0.cur) 1) (fun x=>(D.oM j r_list_Del c0 (D.aV a0.cur) a0 c1 c2 x))))
def D.sU (j:Nat) (r_list_Del:Seat→Int→Int→T Res) (a0:Seat) (a1:Int) (a2:Int):T Res:=(T.bind (D.fX j (D.cz j j) a0 a1 a2) (fun x=>(D.m7 j r_list_Del a0 a1 a2 x)))
def D.dK (j:Nat):Nat→Seat→Int→Int→T Res
  | 0,_,_,_=>.cut
  | k+1,a0,a1,a2=>D.sU j (D.dK j k) a0 a1 a2
def jw (r:Seat→Int→Int→T Res) (n:Nat):Prop:=∀ (F:Nat→Prop) (w0:World),(∀ b,F b→b<w0.heap.size)→∀ (a0:Seat) (a1:Int) (a2:Int),Calls Tryz.prog 52 #[.agg (aG a0).toArray,.int .i64 a1,.int .u64 a2] w0 (au Tryz.prog aj n (r a0 a1 a2) F w0)
set_option maxRecDepth 20000 in
set_option maxHeartbeats 8000000 in
theorem zo {r_list_Del:Seat→Int→Int→T Res} (hF:kH F w0) (hj:n<j) (ih_list_Del:∀ m,m≤n→jw r_list_Del m)
    (c0:Seat) {c0b:Nat} (c0F:F c0b) (c0h:w0.heap[c0b]?=some (.cells ((aG c0)).toArray 63 (0,0))) (c1:Int) {c1b:Nat} (c1F:F c1b) (c1h:w0.heap[c1b]?=some (.cells ([(.int .i64 c1)]).toArray 3 (0,0))) (c2:Int) {c2b:Nat} (c2F:F c2b) (c2h:w0.heap[c2b]?=some (.cells ([(.int .u64 c2)]).toArray 36 (0,0))) (c3:Walk) {c3b:Nat} (c3F:F c3b) (c3h:w0.heap[c3b]?=some (.cells ((bb c3)).toArray 206 (0,0))) (c4:Int) {c4b:Nat} (c4F:F c4b) (c4h:w0.heap[c4b]?=some (.cells ([(.int .u64 c4)]).toArray 36 (0,0))) (a0:Bool) :
    Calls Tryz.prog 128 #[.bool a0,zp c0b,zp c1b,zp c2b,zp c3b,zp c4b] w0 (au Tryz.prog aj n (D.lM j r_list_Del c0 c1 c2 c3 c4 a0) F w0):=by
 refine kN Tryz.func128 rfl 18 rfl rfl fun fr r hB=>?_;have lc0b:=lt_of_block c0h
 have lc1b:=lt_of_block c1h;have lc2b:=lt_of_block c2h;have lc3b:=lt_of_block c3h;have lc4b:=lt_of_block c4h;refine wsr ?_;refine ai (.cells (af false aj.zero 0 0 0 0 .nilFunc) 57 (0,0)) r (fun R=>ah tz57) rfl fun fr b1 w2 n3 r=>?_;obtain ⟨E1,Z2,H1,hB,zB⟩:=n3.all hB
 refine wn (wp_seq (wsr (kM (.bool a0) r rfl rfl fun r=>ac (.bool (!a0)) r (fun R=>y_un r (u:=(.bool a0)) rfl rfl) rfl fun fr r=>wn ?_)));refine wp_cond_split (t:=(!a0)) (r.ev rfl) (fun h4=>?_) (fun h4=>?_)
 ·
  refine wsr (kG (aG c0) 8 r rfl (keep hB c0h) ta63 rfl rfl fun r=>kL (I c1) r rfl (keep hB c1h) to3 rfl rfl fun r=>kL (U c2) r rfl (keep hB c2h) to36 rfl rfl fun r=>?_);refine kJ r ((ih_list_Del n kw) (No) _ (fun _ h=>h.elim) c0 c1 c2) rfl cl52 rfl fun w5 v6 hb hr7 r=>?_
  have hb:=hb.below;have Z5:=hb.size;have H1:=keep hb H1;obtain ⟨hB,zB⟩:=bon hb hB;refine kP r hr7.shape rfl rfl H1 ts57 rfl rfl fun w8 u9 r=>?_;have Z8:=u9.size
  have H1:=u9.at_;obtain ⟨hB,zB⟩:=u9.on hB kw
  refine wn (wp_ret ?_);have hd:D.lM j r_list_Del c0 c1 c2 c3 c4 a0=(r_list_Del c0 c1 c2):=(az h4).trans (rfl);have hs:=hr7.shape.cells;refine ar r rfl rfl H1 (k:=8) hs.1 ta57 ?_;rw [←hs.2.2,hd];exact au.fin (Chg.aR hB) hr7 u9 (fun _ h=>h.elim) (fun h=>h) kw kw kw
 refine wp_skip (wsr (kG (aG c0) 8 r rfl (keep hB c0h) ta63 rfl rfl fun r=>kG (bb c3) 14 r rfl (keep hB c3h) dc rfl rfl fun r=>kL (U c4) r rfl (keep hB c4h) to36 rfl rfl fun r=>?_));refine kJ r (A8 (j:=j) (F:=No) (n:=n) (fun _ h=>h.elim) kw c0 c3 c4) rfl Dn rfl fun w10 v11 hb hr12 r=>?_
 have hb:=hb.below;have Z10:=hb.size;have H1:=keep hb H1;obtain ⟨hB,zB⟩:=bon hb hB;refine kP r hr12.shape rfl rfl H1 ts57 rfl rfl fun w13 u14 r=>?_;have Z13:=u14.size
 have H1:=u14.at_;obtain ⟨hB,zB⟩:=u14.on hB kw
 refine wn (wp_ret ?_);have hd:D.lM j r_list_Del c0 c1 c2 c3 c4 a0=(D.oR j c0 c3 c4):=(aB h4).trans (rfl);have hs:=hr12.shape.cells;refine ar r rfl rfl H1 (k:=8) hs.1 ta57 ?_;rw [←hs.2.2,hd];exact au.fin (Chg.aR hB) hr12 u14 (fun _ h=>h.elim) (fun h=>h) kw kw kw
set_option maxRecDepth 20000 in
set_option maxHeartbeats 8000000 in
theorem Ac {r_list_Del:Seat→Int→Int→T Res} (hF:kH F w0) (hj:n<j) (ih_list_Del:∀ m,m<n→jw r_list_Del m)
    (c0:Seat) {c0b:Nat} (c0F:F c0b) (c0h:w0.heap[c0b]?=some (.cells ((aG c0)).toArray 63 (0,0))) (c1:Int) {c1b:Nat} (c1F:F c1b) (c1h:w0.heap[c1b]?=some (.cells ([(.int .i64 c1)]).toArray 3 (0,0))) (c2:Walk) {c2b:Nat} (c2F:F c2b) (c2h:w0.heap[c2b]?=some (.cells ((bb c2)).toArray 206 (0,0))) (c3:Int) {c3b:Nat} (c3F:F c3b) (c3h:w0.heap[c3b]?=some (.cells ([(.int .i64 c3)]).toArray 3 (0,0))) (c4:Int) {c4b:Nat} (c4F:F c4b) (c4h:w0.heap[c4b]?=some (.cells ([(.int .u64 c4)]).toArray 36 (0,0))) (a0:Int) :
    Calls Tryz.prog 126 #[.int .u64 a0,zp c0b,zp c1b,zp c2b,zp c3b,zp c4b] w0 (au Tryz.prog aj n (D.oM j r_list_Del c0 c1 c2 c3 c4 a0) F w0):=by
 refine kN Tryz.func126 rfl 19 rfl rfl fun fr r hB=>?_;have lc0b:=lt_of_block c0h
 have lc1b:=lt_of_block c1h;have lc2b:=lt_of_block c2h;have lc3b:=lt_of_block c3h;have lc4b:=lt_of_block c4h;refine wsr ?_;refine kX 36 (U a0) r rfl rfl fun b1 w2 n3 r=>?_;have c0h:=keep n3.below c0h
 have c1h:=keep n3.below c1h;have c2h:=keep n3.below c2h;have c3h:=keep n3.below c3h;have c4h:=keep n3.below c4h;obtain ⟨E1,Z2,H1,hB,zB⟩:=n3.all hB;refine ai (.cells (af false aj.zero 0 0 0 0 .nilFunc) 57 (0,0)) r (fun R=>ah tz57) rfl fun fr b4 w5 n6 r=>?_;have c0h:=keep n6.below c0h
 have c1h:=keep n6.below c1h;have c2h:=keep n6.below c2h;have c3h:=keep n6.below c3h;have c4h:=keep n6.below c4h;have H1:=keep n6.below H1;obtain ⟨E4,Z5,H4,hB,zB⟩:=n6.all hB;refine wn (wp_seq ?_);refine bI 10 [.val (zp c0b),.val (.agg (ae c0.p).toArray),.val (I c1),.val (I (D.bf c0.p c1 2)),.val (.pointer (some ⟨c2b,12,none⟩)),.val (U c2.next),.val (.pointer (some ⟨c2b,12,none⟩)),.val (U c2.next),.val (U (dO .u64 c2.next 1)),.val (.func (.func 128) #[] #[zp c0b,zp c3b,zp c4b,zp c2b,zp b1])] mixed r kz (kV (kV (kV (kV (kV (kV (kV (kV (kV (kV bH)))))))))) ?_ ?_
 ·
  refine ec r (fun _ u _ b d s=>ax s (b:=c0b) (o:=0) rfl dB bz) (ec r (fun _ u _ b d s=>aS s (cs:=(ae c0.p)) (n:=6) d.1 (keep b c0h) ta23 rfl bz) (ec r (fun _ u _ b d s=>av s rfl (keep b c1h) to3 rfl bz) (ec r (fun fr1 u w' hb' hd r'=>aJ r' (args:=[(.agg (ae c0.p).toArray),(I c1),(I 2)]) (lc hd.1 (lc hd.2.1 (lc rfl l0))) cl85 ((dZ _ c0.p c1 2).mono (by rintro _ w2 ⟨rfl,hb2⟩; exact ⟨_,rfl,hb2,rfl⟩))) (ec r (fun _ u _ b d s=>ax s (b:=c2b) (o:=0) rfl gb bz) (ec r (fun _ u _ b d s=>av s d.1 (keep b c2h) to36 rfl bz) (ec r (fun _ u _ b d s=>ax s (b:=c2b) (o:=0) rfl gb bz) (ec r (fun _ u _ b d s=>av s d.1 (keep b c2h) to36 rfl bz) (ec r (fun _ u _ b d s=>bc s d.1 rfl rfl rfl bz) (ec r (fun _ u _ b d s=>aU s (v:=(.func (.func 128) #[] #[zp c0b,zp c3b,zp c4b,zp c2b,zp b1])) rfl bz) ?_)))))))));exact bJ
 intro fr u w7 hb hΦ hne r;have r:=r.congr (sc (hΦ 9 ke) (sc (hΦ 8 ke) (sc (hΦ 7 ke) (sc (hΦ 6 ke) (sc (hΦ 5 ke) (sc (hΦ 4 ke) (sc (hΦ 3 ke) (sc (hΦ 2 ke) (sc (hΦ 1 ke) (sc (hΦ 0 ke) rfl))))))))));have Z7:=hb.size;have c0h:=keep hb c0h;have c1h:=keep hb c1h;have c2h:=keep hb c2h;have c3h:=keep hb c3h;have c4h:=keep hb c4h;have H1:=keep hb H1;have H4:=keep hb H4;obtain ⟨hB,zB⟩:=bon hb hB;have hF1:=cj hF hB.size b4;have f11:((kW F w0 w7 b4)) c0b:=(.inl c0F);have f12:((kW F w0 w7 b4)) c3b:=(.inl c3F);have f13:((kW F w0 w7 b4)) c4b:=(.inl c4F);have f14:((kW F w0 w7 b4)) c2b:=(.inl c2F);have f15:((kW F w0 w7 b4)) b1:=(.inr ⟨kw,kw,kw⟩)
 refine kJ r (o8 (F:=(kW F w0 w7 b4)) (n:=n) hF1 (D.bf c0.p c1 2) c2.next (dO .u64 c2.next 1) ⟨128,[],[zp c0b,zp c3b,zp c4b,zp c2b,zp b1],Dp,rfl,fun m hm x w' hs hz=>zo (j:=j) (fun b hb=>Nat.lt_of_lt_of_le (hF1 b hb) hz) kw (fun m' hm'=>ih_list_Del m' kw) c0 f11 (hs.at_ f11 c0h) c3 f12 (hs.at_ f12 c3h) c4 f13 (hs.at_ f13 c4h) c2 f14 (hs.at_ f14 c2h) a0 f15 (hs.at_ f15 H1) x⟩) rfl qQ rfl fun w8 v9 hb hr10 r=>?_;have Z8:=hb.size
 have H4:=aX hb H4 (by rintro (h | ⟨_,_,h⟩); (have:=hF _ h; omega); exact h rfl)
 have hB:=Chg.aR (Z:=F) hB;have hB:=hB.bk hb (by rintro b hlt (h | ⟨h,_⟩); exact h; omega)
 have zB:=hB.size;refine kP r hr10.shape rfl rfl H4 ts57 rfl rfl fun w16 u17 r=>?_;have Z16:=u17.size
 have H4:=u17.at_;have hB:=hB.bi u17 (.inl kw)
 have zB:=hB.size;refine wn (wp_ret ?_);have hs:=hr10.shape.cells;refine ar r rfl rfl H4 (k:=8) hs.1 ta57 ?_;rw [←hs.2.2];exact au.fin hB hr10 u17 (by rintro b (h | ⟨h1,h2,_⟩); exact .inl h; exact .inr ⟨h1,h2⟩) (by rintro (h | ⟨_,_,h⟩); (have:=hF _ h; omega); exact h rfl) kw kw kw
set_option maxRecDepth 20000 in
set_option maxHeartbeats 8000000 in
theorem Au {r_list_Del:Seat→Int→Int→T Res} (hF:kH F w0) (hj:n<j) (ih_list_Del:∀ m,m<n→jw r_list_Del m)
    (c0:Seat) {c0b:Nat} (c0F:F c0b) (c0h:w0.heap[c0b]?=some (.cells ((aG c0)).toArray 63 (0,0))) (c1:Int) {c1b:Nat} (c1F:F c1b) (c1h:w0.heap[c1b]?=some (.cells ([(.int .i64 c1)]).toArray 3 (0,0))) (c2:Int) {c2b:Nat} (c2F:F c2b) (c2h:w0.heap[c2b]?=some (.cells ([(.int .u64 c2)]).toArray 36 (0,0))) (a0:Walk) :
    Calls Tryz.prog 123 #[.agg (bb a0).toArray,zp c0b,zp c1b,zp c2b] w0 (au Tryz.prog aj n (D.m7 j r_list_Del c0 c1 c2 a0) F w0):=by
 refine kN Tryz.func123 rfl 22 rfl rfl fun fr r hB=>?_;have lc0b:=lt_of_block c0h
 have lc1b:=lt_of_block c1h;have lc2b:=lt_of_block c2h;refine wsr ?_;refine kX 206 (.agg (bb a0).toArray) r rfl rfl fun b1 w2 n3 r=>?_;have c0h:=keep n3.below c0h
 have c1h:=keep n3.below c1h;have c2h:=keep n3.below c2h;obtain ⟨E1,Z2,H1,hB,zB⟩:=n3.all hB;refine ai (.cells (af false aj.zero 0 0 0 0 .nilFunc) 57 (0,0)) r (fun R=>ah tz57) rfl fun fr b4 w5 n6 r=>?_;have c0h:=keep n6.below c0h
 have c1h:=keep n6.below c1h;have c2h:=keep n6.below c2h;have H1:=keep n6.below H1;obtain ⟨E4,Z5,H4,hB,zB⟩:=n6.all hB;refine wn (wp_seq (wsr (kF 0 r rfl mO rfl fun r=>kL (.bool a0.there) r rfl H1 to4 rfl rfl fun r=>ac (.bool (!a0.there)) r (fun R=>y_un r (u:=(.bool a0.there)) rfl rfl) rfl fun fr r=>wn ?_)));refine wp_cond_split (t:=(!a0.there)) (r.ev rfl) (fun h7=>?_) (fun h7=>?_)
 ·
  refine wsr (kG (aG c0) 8 r rfl c0h ta63 rfl rfl fun r=>kU (.agg (resC (⟨6,0⟩:Res)).toArray) r kz rfl fun r=>?_);refine kJ r (lQ (j:=j) (F:=No) (n:=n) (fun _ h=>h.elim) kw c0 (⟨6,0⟩:Res)) rfl nk rfl fun w8 v9 hb hr10 r=>?_
  have hb:=hb.below;have Z8:=hb.size;have c0h:=keep hb c0h;have c1h:=keep hb c1h;have c2h:=keep hb c2h;have H1:=keep hb H1;have H4:=keep hb H4;obtain ⟨hB,zB⟩:=bon hb hB;refine kP r hr10.shape rfl rfl H4 ts57 rfl rfl fun w11 u12 r=>?_;have Z11:=u12.size
  have c0h:=u12.keep c0h kw
  have c1h:=u12.keep c1h kw
  have c2h:=u12.keep c2h kw
  have H1:=u12.keep H1 kw
  have H4:=u12.at_;obtain ⟨hB,zB⟩:=u12.on hB kw
  refine wn (wp_ret ?_);have hd:D.m7 j r_list_Del c0 c1 c2 a0=(D.dJ j c0 (⟨6,0⟩:Res)):=(az h7).trans (rfl);have hs:=hr10.shape.cells;refine ar r rfl rfl H4 (k:=8) hs.1 ta57 ?_;rw [←hs.2.2,hd];exact au.fin (Chg.aR hB) hr10 u12 (fun _ h=>h.elim) (fun h=>h) kw kw kw
 refine wp_skip (wsr (kF 0 r rfl eX rfl fun r=>kL (U a0.cur) r rfl H1 to36 rfl rfl fun r=>?_));refine kE r (fU w5 a0.cur) rfl gA rfl fun w13 hb r=>?_
 have Z13:=hb.size;have c0h:=keep hb c0h;have c1h:=keep hb c1h;have c2h:=keep hb c2h;have H1:=keep hb H1;have H4:=keep hb H4;obtain ⟨hB,zB⟩:=bon hb hB;refine ai (.cells #[(I 0)] 3 (0,0)) r (fun R=>ah tz3) rfl fun fr b14 w15 n16 r=>?_;have c0h:=keep n16.below c0h
 have c1h:=keep n16.below c1h;have c2h:=keep n16.below c2h;have H1:=keep n16.below H1;have H4:=keep n16.below H4;obtain ⟨E14,Z15,H14,hB,zB⟩:=n16.all hB;refine bh (.cells #[(I (D.aV a0.cur))] 3 (0,0)) r (fun R=>aT r (o:=0) (v:=(I (D.aV a0.cur))) rfl rfl H14 ts3 (Nat.le_of_ble_eq_true rfl) rfl rfl) rfl fun fr w17 u18 r=>?_;have Z17:=u18.size
 have c0h:=u18.keep c0h kw
 have c1h:=u18.keep c1h kw
 have c2h:=u18.keep c2h kw
 have H1:=u18.keep H1 kw
 have H4:=u18.keep H4 kw
 have H14:=u18.at_;obtain ⟨hB,zB⟩:=u18.on hB kw
 refine wn (wsr (kF 0 r rfl dB rfl fun r=>kG (ae c0.p) 6 r rfl c0h ta23 rfl rfl fun r=>kL (I (D.aV a0.cur)) r rfl H14 to3 rfl rfl fun r=>?_));refine kE r (dZ w17 c0.p (D.aV a0.cur) 1) rfl cl85 rfl fun w19 hb r=>?_
 have Z19:=hb.size;have c0h:=keep hb c0h;have c1h:=keep hb c1h;have c2h:=keep hb c2h;have H1:=keep hb H1;have H4:=keep hb H4;have H14:=keep hb H14;obtain ⟨hB,zB⟩:=bon hb hB;refine ac (.func (.func 126) #[] #[zp c0b,zp b14,zp b1,zp c1b,zp c2b]) r (fun R=>aU r rfl) rfl fun fr r=>?_;have hF1:=cj hF hB.size b4
 have f23:((kW F w0 w19 b4)) c0b:=(.inl c0F);have f24:((kW F w0 w19 b4)) b14:=(.inr ⟨kw,kw,kw⟩)
 have f25:((kW F w0 w19 b4)) b1:=(.inr ⟨kw,kw,kw⟩)
 have f26:((kW F w0 w19 b4)) c1b:=(.inl c1F);have f27:((kW F w0 w19 b4)) c2b:=(.inl c2F);refine kJ r (zM (F:=(kW F w0 w19 b4)) (n:=n) hF1 (D.bf c0.p (D.aV a0.cur) 1) ⟨126,[],[zp c0b,zp b14,zp b1,zp c1b,zp c2b],Fx,rfl,fun m hm x w' hs hz=>Ac (j:=j) (fun b hb=>Nat.lt_of_lt_of_le (hF1 b hb) hz) kw (fun m' hm'=>ih_list_Del m' kw) c0 f23 (hs.at_ f23 c0h) (D.aV a0.cur) f24 (hs.at_ f24 H14) a0 f25 (hs.at_ f25 H1) c1 f26 (hs.at_ f26 c1h) c2 f27 (hs.at_ f27 c2h) x⟩) rfl EK rfl fun w20 v21 hb hr22 r=>?_;have Z20:=hb.size
 have H4:=aX hb H4 (by rintro (h | ⟨_,_,h⟩); (have:=hF _ h; omega); exact h rfl)
 have hB:=Chg.aR (Z:=F) hB;have hB:=hB.bk hb (by rintro b hlt (h | ⟨h,_⟩); exact h; omega)
 have zB:=hB.size;refine kP r hr22.shape rfl rfl H4 ts57 rfl rfl fun w28 u29 r=>?_;have Z28:=u29.size
 have H4:=u29.at_;have hB:=hB.bi u29 (.inl kw)
 have zB:=hB.size;refine wn (wp_ret ?_);have hd:D.m7 j r_list_Del c0 c1 c2 a0=(D.fR (D.bf c0.p (D.aV a0.cur) 1) (fun x=>(D.oM j r_list_Del c0 (D.aV a0.cur) a0 c1 c2 x))):=(aB h7).trans (rfl)
 have hs:=hr22.shape.cells;refine ar r rfl rfl H4 (k:=8) hs.1 ta57 ?_;rw [←hs.2.2,hd];exact au.fin hB hr22 u29 (by rintro b (h | ⟨h1,h2,_⟩); exact .inl h; exact .inr ⟨h1,h2⟩) (by rintro (h | ⟨_,_,h⟩); (have:=hF _ h; omega); exact h rfl) kw kw kw
set_option maxRecDepth 20000 in
set_option maxHeartbeats 8000000 in
theorem Bu {n:Nat} {F:Nat→Prop} {j:Nat} {r_list_Del:Seat→Int→Int→T Res} {w0:World} (hF:∀ b,F b→b<w0.heap.size) (hj:n<j) (ih_list_Del:∀ m,m<n→jw r_list_Del m)
    (a0:Seat) (a1:Int) (a2:Int) :
    Calls Tryz.prog 52 #[.agg (aG a0).toArray,.int .i64 a1,.int .u64 a2] w0 (au Tryz.prog aj n (D.sU j r_list_Del a0 a1 a2) F w0):=by
 refine kN Tryz.func52 rfl 13 rfl rfl fun fr r hB=>?_;refine wsr ?_
 refine kX 63 (.agg (aG a0).toArray) r rfl rfl fun b1 w2 n3 r=>?_;obtain ⟨E1,Z2,H1,hB,zB⟩:=n3.all hB
 refine kX 3 (I a1) r rfl rfl fun b4 w5 n6 r=>?_;have H1:=keep n6.below H1
 obtain ⟨E4,Z5,H4,hB,zB⟩:=n6.all hB;refine kX 36 (U a2) r rfl rfl fun b7 w8 n9 r=>?_;have H1:=keep n9.below H1
 have H4:=keep n9.below H4;obtain ⟨E7,Z8,H7,hB,zB⟩:=n9.all hB;refine ai (.cells (af false aj.zero 0 0 0 0 .nilFunc) 57 (0,0)) r (fun R=>ah tz57) rfl fun fr b10 w11 n12 r=>?_;have H1:=keep n12.below H1
 have H4:=keep n12.below H4;have H7:=keep n12.below H7;obtain ⟨E10,Z11,H10,hB,zB⟩:=n12.all hB;refine wn (wsr (kG (aG a0) 8 r rfl H1 ta63 rfl rfl fun r=>kL (I a1) r rfl H4 to3 rfl rfl fun r=>kL (U a2) r rfl H7 to36 rfl rfl fun r=>?_));refine kJ r (oS (j:=j) (F:=No) (n:=n) (fun _ h=>h.elim) kw (fun m' hm'=>nV (j:=j) (k:=j) kw kw) a0 a1 a2) rfl rm rfl fun w13 v14 hb hr15 r=>?_
 have hb:=hb.below;have Z13:=hb.size;have H1:=keep hb H1;have H4:=keep hb H4;have H7:=keep hb H7;have H10:=keep hb H10;obtain ⟨hB,zB⟩:=bon hb hB;refine ac (.func (.func 123) #[] #[zp b1,zp b4,zp b7]) r (fun R=>aU r rfl) rfl fun fr r=>?_;have hF1:∀ b,(kW F w0 w11 b10) b→b<w13.heap.size:=by rintro b (h | ⟨_,h,_⟩); exact Nat.lt_of_lt_of_le (hF b h) hB.size; exact Nat.lt_of_lt_of_le h kw
 have f19:((kW F w0 w11 b10)) b1:=(.inr ⟨kw,kw,kw⟩)
 have f20:((kW F w0 w11 b10)) b4:=(.inr ⟨kw,kw,kw⟩)
 have f21:((kW F w0 w11 b10)) b7:=(.inr ⟨kw,kw,kw⟩)
 have hF2:=cj hF hB.size b10;refine kJ r (nH (F:=(kW F w0 w13 b10)) (F2:=(kW F w0 w11 b10)) (n:=n) hF2 (by rintro b ⟨h,h'⟩; exact .inr ⟨kw,kw,kw⟩) (by rintro b (h | ⟨h1,h2,h3⟩); exact .inl h; exact .inr ⟨h1,kw,h3⟩) (by rintro b ⟨h1,h2⟩ (h | ⟨h3,h4,_⟩); (have:=hF b h; omega); omega) (RepL.mono (F':=fun b=>w11.heap.size≤b∧b<w13.heap.size) (by rintro b (h | h); exact h.elim; exact h) (Same.refl _ _) (Nat.le_refl _) n _ _ hr15) ⟨123,[],[zp b1,zp b4,zp b7],En,rfl,fun m hm x w' hs hz=>Au (j:=j) (fun b hb=>Nat.lt_of_lt_of_le (hF1 b hb) hz) kw (fun m' hm'=>ih_list_Del m' kw) a0 f19 (hs.at_ f19 H1) a1 f20 (hs.at_ f20 H4) a2 f21 (hs.at_ f21 H7) x⟩) rfl ny rfl fun w16 v17 hb hr18 r=>?_
 have Z16:=hb.size;have H10:=aX hb H10 (by rintro (h | ⟨_,_,h⟩); (have:=hF _ h; omega); exact h rfl)
 have hB:=Chg.aR (Z:=F) hB;have hB:=hB.bk hb (by rintro b hlt (h | ⟨h,_⟩); exact h; omega)
 have zB:=hB.size;refine kP r hr18.shape rfl rfl H10 ts57 rfl rfl fun w22 u23 r=>?_;have Z22:=u23.size
 have H10:=u23.at_;have hB:=hB.bi u23 (.inl kw)
 have zB:=hB.size;refine wn (wp_ret ?_);have hs:=hr18.shape.cells;refine ar r rfl rfl H10 (k:=8) hs.1 ta57 ?_;rw [←hs.2.2];exact au.fin hB hr18 u23 (by rintro b (h | ⟨h1,h2,_⟩); exact .inl h; exact .inr ⟨h1,h2⟩) (by rintro (h | ⟨_,_,h⟩); (have:=hF _ h; omega); exact h rfl) kw kw kw
theorem tv {n:Nat} {j:Nat} (hj:n<j) {k:Nat} (hk:n<k):jw (D.dK j k) n:=by
  induction n using Nat.strongRecOn generalizing k with
  | _ n ih=>
    obtain ⟨k,rfl⟩:∃ q,k=q+1:=⟨k - 1,kw⟩
    intro F w0 hF;have h:=@Bu n F j (D.dK j k) w0 hF hj (fun m hm=>ih m hm kw kw)
    exact h
def D.AR (j:Nat) (c0:Seat) (a0:Int):T Res:=(D.dJ j c0 (⟨0,a0⟩:Res))
def D.jI (j:Nat) (c0:Seat) (a0:Walk):T Res:=(bif (!a0.there) then (D.dJ j c0 (⟨6,0⟩:Res)) else (D.fR (D.bf c0.p (D.aV a0.cur) 1) (fun x=>(D.AR j c0 x))))
def D.pN (j:Nat) (a0:Seat) (a1:Int) (a2:Int):T Res:=(T.bind (D.fX j (D.cz j j) a0 a1 a2) (fun x=>(D.jI j a0 x)))
end
end Go.Proofs.YtikjpdpgdmbdpaaGreat

/- Ours. -/
import Derived.Test.YtikjpdpgdmbdpaaGreatLnLLoads
import Derived.Test.YtikjpdpgdmbdpaaGreatLnM19
set_option linter.all false
set_option maxRecDepth 20000
set_option maxHeartbeats 2000000
namespace Go.Proofs.YtikjpdpgdmbdpaaGreat
open Go.RowKit
section
variable {n : Nat} {F : Nat → Prop} {j : Nat} {w0 : World}
theorem zsJ:zpd Tryz.prog 114:=kz
theorem zsq:zpd Tryz.prog 115:=kz
theorem zu3:zpd Tryz.prog 117:=kz
theorem zu0:zpd Tryz.prog 118:=kz
theorem zsd:zpd Tryz.prog 119:=kz
theorem zqb:zpd Tryz.prog 120:=kz
theorem zqH:zpd Tryz.prog 122:=kz
theorem zub:zpd Tryz.prog 123:=kz
theorem zqo:zpd Tryz.prog 124:=kz
theorem zt8:zpd Tryz.prog 126:=kz
theorem zsF:zpd Tryz.prog 128:=kz
theorem ztW:zpd Tryz.prog 129:=kz
theorem zth:zpd Tryz.prog 133:=kz
theorem ztZ:zpd Tryz.prog 134:=kz
theorem zuw:zpd Tryz.prog 213:=kz
theorem zrw:zpd Tryz.prog 215:=kz
theorem ztj:zpd Tryz.prog 216:=kz
theorem ztz:zpd Tryz.prog 218:=kz
theorem ztA:zpd Tryz.prog 219:=kz
theorem ztd:zpd Tryz.prog 220:=kz
theorem zsz:zpd Tryz.prog 221:=kz
theorem zsU:zpd Tryz.prog 225:=kz
theorem zrj:zpd Tryz.prog 226:=kz
theorem zu6:zpd Tryz.prog 227:=kz
theorem zty:zpd Tryz.prog 229:=kz
theorem zsG:zpd Tryz.prog 230:=kz
theorem zqQ:zpd Tryz.prog 231:=kz
theorem ztF:zpd Tryz.prog 232:=kz
theorem zrN:zpd Tryz.prog 319:=kz
theorem zqG:zpd Tryz.prog 320:=kz
theorem zto:zpd Tryz.prog 321:=kz
theorem zqO:zpd Tryz.prog 322:=kz
theorem ztK:zpd Tryz.prog 323:=kz
theorem zsN:zpd Tryz.prog 324:=kz
theorem zsE:zpd Tryz.prog 325:=kz
theorem zt1:zpd Tryz.prog 368:=kz
theorem zui:zpd Tryz.prog 369:=kz
theorem zt3:zpd Tryz.prog 370:=kz
theorem zsX:zpd Tryz.prog 371:=kz
theorem ztt:zpd Tryz.prog 372:=kz
theorem ztr:zpd Tryz.prog 393:=kz
theorem zsC:zpd Tryz.prog 394:=kz
theorem ztg:zpd Tryz.prog 396:=kz
theorem zu9:zpd Tryz.prog 397:=kz
theorem ztR:zpd Tryz.prog 398:=kz
theorem cl52:zpd Tryz.prog 52:=kz
theorem zh9:zpm Tryz.prog 206 0 0:=kz
theorem zos:zpm Tryz.prog 206 1 8:=kz
theorem zmj:zpm Tryz.prog 206 2 9:=kz
theorem zkj:zpm Tryz.prog 206 3 10:=kz
theorem zf4:zpm Tryz.prog 206 4 11:=kz
theorem zh1:zpm Tryz.prog 206 5 12:=kz
theorem zjR:zpm Tryz.prog 206 6 13:=kz
theorem zu4:tyO Tryz.prog 270:=kz
theorem ts4:sized Tryz.prog 4 1:=kz
def D.zgJ (a0:Int):T Res:=(D.zeS (⟨a0,0⟩:Res))
set_option maxRecDepth 20000 in
set_option maxHeartbeats 8000000 in
theorem zjc (hF:kH F w0)
    (a0:Int) :
    Calls Tryz.prog 115 #[.int .i64 a0] w0 (zpf Tryz.prog zpj n (D.zgJ a0) F w0):=by
 refine kN Tryz.func115 rfl 6 rfl rfl fun fr r hB=>?_;refine wsr ?_
 refine za7 (.cells (zpc false zpj.zero 0 0 0 0 .nilFunc) 57 (0,0)) r (fun R=>za6 tz57) rfl fun fr b1 w2 n3 r=>?_;obtain ⟨E1,Z2,H1,hB,zB⟩:=n3.all hB
 refine wn (wsr (kM (I a0) r rfl rfl fun r=>kU (.agg (resC (⟨a0,0⟩:Res)).toArray) r kz rfl fun r=>?_));refine kJ r (zgo (F:=No) (n:=n) (fun _ h=>h.elim) (⟨a0,0⟩:Res)) rfl cl23 rfl fun w4 v5 hb hr6 r=>?_
 have hb:=hb.below;have Z4:=hb.size;have H1:=keep hb H1;obtain ⟨hB,zB⟩:=bon hb hB;refine kP r hr6.shape rfl rfl H1 ts57 rfl rfl fun w7 u8 r=>?_;have Z7:=u8.size
 have H1:=u8.at_;obtain ⟨hB,zB⟩:=u8.on hB kw
 refine wn (wp_ret ?_);have hs:=hr6.shape.cells;refine za5 r rfl rfl H1 (k:=8) hs.1 ta57 ?_;rw [←hs.2.2];exact zpf.fin (Chg.zpr hB) hr6 u8 (fun _ h=>h.elim) (fun h=>h) kw kw kw
def D.zak (a0:Int):Int:=(IntKind.i64.wrap ((IntKind.i64.wrap (shrI .u64 a0 1)) - 1))
set_option maxRecDepth 20000 in
set_option maxHeartbeats 8000000 in
theorem zcf (w0:World) 
    (a0:Int) :
    Calls Tryz.prog 120 #[.int .u64 a0] w0 (zpt (.int .i64 (D.zak a0)) w0):=by
 refine kN Tryz.func120 rfl 7 rfl rfl fun fr r hB=>?_;refine wsr (kA (I 0) r rfl rfl fun r=>wn (wsr (kM (U a0) r rfl rfl fun r=>kB r rfl rfl rfl (zmd (by first | assumption | decide)) rfl fun r=>za0 (I (W (shrI .u64 a0 1))) r (fun R=>zb3 r rfl ti36 ti3) rfl fun fr r=>kB r rfl rfl rfl rfl rfl fun r=>kA (I (W ((W (shrI .u64 a0 1)) - 1))) r rfl rfl fun r=>wn (wp_ret ?_))))
 refine zay r rfl rfl ?_;exact ⟨rfl,hB⟩
def D.zgT (c0:(Unit→T Walk)):T Walk:=(c0 ())
set_option maxRecDepth 20000 in
set_option maxHeartbeats 8000000 in
theorem zil (hF:kH F w0)
    {c0f:FuncId} {c0_1 c0_2:List Value} {c0:(Unit→T Walk)} {c0b:Nat} (c0F:F c0b) (c0h:w0.heap[c0b]?=some (.cells #[.func (.func c0f) c0_1.toArray c0_2.toArray] 270 (0,0))) (c0n:FnL Tryz.prog zpk unitE (n+1) F w0 (.func (.func c0f) c0_1.toArray c0_2.toArray) c0) :
    Calls Tryz.prog 368 #[.agg #[],zp c0b] w0 (zpf Tryz.prog zpk n (D.zgT c0) F w0):=by
 refine kN Tryz.func368 rfl 6 rfl rfl fun fr r hB=>?_;have lc0b:=lt_of_block c0h
 refine wsr ?_;refine kX 152 (.agg #[]) r rfl rfl fun b1 w2 n3 r=>?_;have c0h:=keep n3.below c0h
 obtain ⟨E1,Z2,H1,hB,zB⟩:=n3.all hB;refine za7 (.cells (zpc false zpk.zero 0 0 0 0 .nilFunc) 209 (0,0)) r (fun R=>za6 zpS) rfl fun fr b4 w5 n6 r=>?_;have c0h:=keep n6.below c0h
 have H1:=keep n6.below H1;obtain ⟨E4,Z5,H4,hB,zB⟩:=n6.all hB;refine wn (wsr (kL (.func (.func c0f) c0_1.toArray c0_2.toArray) r rfl c0h zu4 rfl rfl fun r=>?_));refine zbx r (c0n.at_.2 n (Nat.lt_succ_self n) () w5 (Same.below hB hF) hB.size) (fun R hc=>zgk r rfl c0n.at_.1 hc) rfl ?_
 rintro _ w7 ⟨v8,rfl,hb,hr9⟩;refine ⟨_,rfl,fun fr r=>?_⟩
 have Z7:=hb.size;have H4:=zpA hb H4 (fun h=>by have:=hF _ h; omega)
 have hB:=Chg.zpr (Z:=F) hB;have hB:=hB.zpF hb (fun _ _ h=>h)
 have zB:=hB.size;refine kP r hr9.shape rfl rfl H4 zpQ rfl rfl fun w10 u11 r=>?_;have Z10:=u11.size
 have H4:=u11.at_;have hB:=hB.zpE u11 (.inl kw)
 have zB:=hB.size;refine wn (wp_ret ?_);have hs:=hr9.shape.cells;refine za5 r rfl rfl H4 (k:=20) hs.1 zpP ?_;rw [←hs.2.2];exact zpf.fin hB hr9 u11 (fun b hb=>.inl hb) (fun h=>by have:=hF _ h; omega) kw kw kw
def D.zc0 (a0:Walk) (a1:Int) (a2:Int) (a3:(Unit→T Walk)):T Walk:=(T.bind (D.zcz a0.seat.p a0.seat.thread a1 a2) (fun _=>(D.zgT a3)))
set_option maxRecDepth 20000 in
set_option maxHeartbeats 8000000 in
theorem zds (hF:kH F w0)
    (a0:Walk) (a1:Int) (a2:Int) {a3f:FuncId} {a3_1 a3_2:List Value} {a3:(Unit→T Walk)} (a3n:FnL Tryz.prog zpk unitE (n) F w0 (.func (.func a3f) a3_1.toArray a3_2.toArray) a3) :
    Calls Tryz.prog 322 #[.agg (zpC a0).toArray,.int .i64 a1,.int .i64 a2,.func (.func a3f) a3_1.toArray a3_2.toArray] w0 (zpf Tryz.prog zpk n (D.zc0 a0 a1 a2 a3) F w0):=by
 refine kN Tryz.func322 rfl 20 rfl rfl fun fr r hB=>?_;refine wsr ?_
 refine kX 206 (.agg (zpC a0).toArray) r rfl rfl fun b1 w2 n3 r=>?_;obtain ⟨E1,Z2,H1,hB,zB⟩:=n3.all hB
 refine kX 270 (.func (.func a3f) a3_1.toArray a3_2.toArray) r rfl rfl fun b4 w5 n6 r=>?_;have H1:=keep n6.below H1
 obtain ⟨E4,Z5,H4,hB,zB⟩:=n6.all hB;refine za7 (.cells (zpc false zpk.zero 0 0 0 0 .nilFunc) 209 (0,0)) r (fun R=>za6 zpS) rfl fun fr b7 w8 n9 r=>?_;have H1:=keep n9.below H1
 have H4:=keep n9.below H4;obtain ⟨E7,Z8,H7,hB,zB⟩:=n9.all hB;refine wn (wsr (kF 0 r rfl zh9 rfl fun r=>kF 0 r rfl zew rfl fun r=>kG (zpe a0.seat.p) 6 r rfl H1 ta23 rfl rfl fun r=>kF 0 r rfl zh9 rfl fun r=>kF 0 r rfl zjO rfl fun r=>kL (I a0.seat.thread) r rfl H1 to3 rfl rfl fun r=>kM (I a1) r rfl rfl fun r=>kM (I a2) r rfl rfl fun r=>?_));refine kD r (zgV (F:=No) (n:=n) (fun _ h=>h.elim) a0.seat.p a0.seat.thread a1 a2) rfl zrf rfl fun w10 v11 hb hr12 r=>?_
 have hr12:=hr12.loud;have Z10:=hb.size;have H1:=keep hb H1;have H4:=keep hb H4;have H7:=keep hb H7;obtain ⟨hB,zB⟩:=bon hb hB;refine za0 (.func (.func 368) #[] #[zp b4]) r (fun R=>zae r rfl) rfl fun fr r=>?_;have hF1:∀ b,(kW F w0 w8 b7) b→b<w10.heap.size:=by rintro b (h | ⟨_,h,_⟩); exact Nat.lt_of_lt_of_le (hF b h) hB.size; exact Nat.lt_of_lt_of_le h kw
 have f16:((kW F w0 w8 b7)) b4:=(.inr ⟨kw,kw,kw⟩)
 have hF2:=zpI hF hB.size b7;refine kJ r (zfB (F:=(kW F w0 w10 b7)) (F2:=(kW F w0 w8 b7)) (n:=n) hF2 (by rintro b ⟨h,h'⟩; exact .inr ⟨kw,kw,kw⟩) (by rintro b (h | ⟨h1,h2,h3⟩); exact .inl h; exact .inr ⟨h1,kw,h3⟩) (by rintro b ⟨h1,h2⟩ (h | ⟨h3,h4,_⟩); (have:=hF b h; omega); omega) (RepL.mono (F':=fun b=>w8.heap.size≤b∧b<w10.heap.size) (by rintro b (h | h); exact h.elim; exact h) (Same.refl _ _) (Nat.le_refl _) n _ _ hr12) ⟨368,[],[zp b4],zt1,rfl,fun m hm _ w' hs hz=>zil (fun b hb=>Nat.lt_of_lt_of_le (hF1 b hb) hz) f16 (hs.at_ f16 H4) (a3n.mono kw (fun b h=>.inl h) ((Same.below hB hF).trans (hs.sub (fun b h=>.inl h))) (Nat.le_trans hB.size hz))⟩ rfl) rfl zsb rfl fun w13 v14 hb hr15 r=>?_
 have Z13:=hb.size;have H7:=zpA hb H7 (by rintro (h | ⟨_,_,h⟩); (have:=hF _ h; omega); exact h rfl)
 have hB:=Chg.zpr (Z:=F) hB;have hB:=hB.zpF hb (by rintro b hlt (h | ⟨h,_⟩); exact h; omega)
 have zB:=hB.size;refine kP r hr15.shape rfl rfl H7 zpQ rfl rfl fun w17 u18 r=>?_;have Z17:=u18.size
 have H7:=u18.at_;have hB:=hB.zpE u18 (.inl kw)
 have zB:=hB.size;refine wn (wp_ret ?_);have hs:=hr15.shape.cells;refine za5 r rfl rfl H7 (k:=20) hs.1 zpP ?_;rw [←hs.2.2];exact zpf.fin hB hr15 u18 (by rintro b (h | ⟨h1,h2,_⟩); exact .inl h; exact .inr ⟨h1,h2⟩) (by rintro (h | ⟨_,_,h⟩); (have:=hF _ h; omega); exact h rfl) kw kw kw
def D.zdu (j:Nat) (r_list_walk_step:Walk→T Walk) (c0:Walk) (c1:Int):T Walk:=(r_list_walk_step ({ ({ c0 with place:=(D.za8 c0.seat.p c1 2) }) with cur:=c0.next }))
def D.zfz (j:Nat) (r_list_walk_step:Walk→T Walk) (c0:Walk) (c1:Int):T Walk:=(D.zc0 c0 1 (D.zak c0.next) (fun _=>(D.zdu j r_list_walk_step c0 c1)))
def D.zdM (j:Nat) (r_list_walk_step:Walk→T Walk) (a0:Walk) (a1:Int):T Walk:=(D.zc0 a0 2 a1 (fun _=>(D.zfz j r_list_walk_step a0 a1)))
def D.zc7 (j:Nat) (r_list_walk_step:Walk→T Walk) (c0:Int) (c1:Walk) (a0:Int):T Walk:=(D.zc0 ({ c1 with cur:=c0 }) 1 (D.zak c0) (fun _=>(r_list_walk_step ({ c1 with cur:=c0 }))))
def D.zk4 (j:Nat) (r_list_walk_step:Walk→T Walk) (c0:Seat) (c1:Int) (c2:Int) (a0:Int):T Walk:=(r_list_walk_step (⟨c0,c1,c2,c1,a0,0,false⟩:Walk))
def D.zfR (j:Nat) (r_list_walk_step:Walk→T Walk) (a0:Seat) (a1:Int) (a2:Int):T Walk:=(T.bind (D.zdL j a0.p a0.thread 1 a1 1) (fun x=>(D.zk4 j r_list_walk_step a0 a1 a2 x)))
def D.zbN (j:Nat) (r_list_walk_step:Walk→T Walk) (a0:Walk):T Walk:=(D.zfR j r_list_walk_step a0.seat a0.cell a0.k)
def D.zco (j:Nat) (r_list_walk_step:Walk→T Walk) (c0:Walk) (c1:Int) (c2:Int) (a0:Bool):T Walk:=(bif (!a0) then (D.zbN j r_list_walk_step c0) else (T.bind (D.zcA j c0.seat.p c0.seat.thread c1) (fun x=>(D.zc7 j r_list_walk_step c2 c0 x))))
def D.zec (j:Nat) (r_list_walk_step:Walk→T Walk) (a0:Walk) (a1:Int):T Walk:=(D.zhI a0.place a0.cur (zaU .u64 a0.next 1) (fun x=>(D.zco j r_list_walk_step a0 a1 (zaU .u64 a0.next 1) x)))
def D.zbB (j:Nat) (r_list_walk_step:Walk→T Walk) (c0:Walk) (c1:Int) (c2:Int) (a0:Int):T Walk:=(bif (a0 !=c0.cur) then (D.zbN j r_list_walk_step c0) else (bif ((zbk .u64 c0.next 1) !=0) then (D.zec j r_list_walk_step c0 c1) else (bif (decide (c2≥c0.k)) then (D.zcJ ({ c0 with there:=(c2==c0.k) })) else (D.zdM j r_list_walk_step c0 c1))))
def D.zdc (j:Nat) (r_list_walk_step:Walk→T Walk) (c0:Walk) (c1:Int) (a0:Int):T Walk:=(D.zci c0.place (fun x=>(D.zbB j r_list_walk_step c0 c1 a0 x)))
def D.zcx (j:Nat) (r_list_walk_step:Walk→T Walk) (a0:Walk) (a1:Int):T Walk:=(D.zci (D.za8 a0.seat.p a1 0) (fun x=>(D.zdc j r_list_walk_step a0 a1 x)))
def D.zbY (j:Nat) (r_list_walk_step:Walk→T Walk) (c0:Int) (c1:Walk) (c2:Int) (a0:Int):T Walk:=(bif (a0 !=c0) then (D.zbN j r_list_walk_step c1) else (D.zcx j r_list_walk_step ({ c1 with next:=c0 }) c2))
def D.zch (j:Nat) (r_list_walk_step:Walk→T Walk) (c0:Int) (c1:Int) (c2:Walk) (c3:Int):T Walk:=(D.zci c0 (fun x=>(D.zbY j r_list_walk_step c1 c2 c3 x)))
def D.zdt (j:Nat) (r_list_walk_step:Walk→T Walk) (c0:Walk) (c1:Int) (c2:Int) (a0:Int):T Walk:=(D.zc0 c0 0 (D.zak a0) (fun _=>(D.zch j r_list_walk_step c1 a0 c0 c2)))
def D.zbp (j:Nat) (r_list_walk_step:Walk→T Walk) (a0:Walk):T Walk:=(bif (decide ((D.zak a0.cur)<0)) then (D.zcJ ({ a0 with there:=false })) else (D.zci (D.za8 a0.seat.p (D.zak a0.cur) 2) (fun x=>(D.zdt j r_list_walk_step a0 (D.za8 a0.seat.p (D.zak a0.cur) 2) (D.zak a0.cur) x))))
def D.zb0 (j:Nat):Nat→Walk→T Walk
  | 0,_=>.cut
  | k+1,a0=>D.zbp j (D.zb0 j k) a0
def zaG (r:Walk→T Walk) (n:Nat):Prop:=∀ (F:Nat→Prop) (w0:World),(∀ b,F b→b<w0.heap.size)→∀ (a0:Walk),Calls Tryz.prog 226 #[.agg (zpC a0).toArray] w0 (zpf Tryz.prog zpk n (r a0) F w0)
set_option maxRecDepth 20000 in
set_option maxHeartbeats 8000000 in
theorem zhY {r_list_walk_step:Walk→T Walk} (hF:kH F w0) (hj:n<j) (ih_list_walk_step:∀ m,m≤n→zaG r_list_walk_step m)
    (c0:Walk) {c0b:Nat} (c0F:F c0b) (c0h:w0.heap[c0b]?=some (.cells ((zpC c0)).toArray 206 (0,0))) (c1:Int) {c1b:Nat} (c1F:F c1b) (c1h:w0.heap[c1b]?=some (.cells ([(.int .i64 c1)]).toArray 3 (0,0))) :
    Calls Tryz.prog 398 #[zp c0b,zp c1b] w0 (zpf Tryz.prog zpk n (D.zdu j r_list_walk_step c0 c1) F w0):=by
 refine kN Tryz.func398 rfl 14 rfl rfl fun fr r hB=>?_;have lc0b:=lt_of_block c0h
 have lc1b:=lt_of_block c1h;refine wsr ?_;refine za7 (.cells (zpc false zpk.zero 0 0 0 0 .nilFunc) 209 (0,0)) r (fun R=>za6 zpS) rfl fun fr b1 w2 n3 r=>?_;have c0h:=keep n3.below c0h
 have c1h:=keep n3.below c1h;obtain ⟨E1,Z2,H1,hB,zB⟩:=n3.all hB;refine wn (wp_seq ?_);refine zaM 8 [.val (zp c0b),.val (zp c0b),.val (.agg (zpe c0.seat.p).toArray),.val (I c1),.val (I (D.za8 c0.seat.p c1 2)),.val (.pointer (some ⟨c0b,12,none⟩)),.val (U c0.next),.val (.pointer (some ⟨c0b,10,none⟩))] mixed r kz (kV (kV (kV (kV (kV (kV (kV (kV zaB)))))))) ?_ ?_
 ·
  refine ec r (fun _ u _ b d s=>za3 s (b:=c0b) (o:=0) rfl zh9 bz) (ec r (fun _ u _ b d s=>za3 s (b:=c0b) (o:=0) d.1 zew bz) (ec r (fun _ u _ b d s=>zag s (cs:=(zpe c0.seat.p)) (n:=6) d.1 (keep b c0h) ta23 rfl bz) (ec r (fun _ u _ b d s=>za4 s rfl (keep b c1h) to3 rfl bz) (ec r (fun fr1 u w' hb' hd r'=>zaC r' (args:=[(.agg (zpe c0.seat.p).toArray),(I c1),(I 2)]) (lc hd.1 (lc hd.2.1 (lc rfl l0))) cl85 ((zb4 _ c0.seat.p c1 2).mono (by rintro _ w2 ⟨rfl,hb2⟩; exact ⟨_,rfl,hb2,rfl⟩))) (ec r (fun _ u _ b d s=>za3 s (b:=c0b) (o:=0) rfl zh1 bz) (ec r (fun _ u _ b d s=>za4 s d.1 (keep b c0h) to36 rfl bz) (ec r (fun _ u _ b d s=>za3 s (b:=c0b) (o:=0) rfl zkj bz) ?_)))))));exact zaW
 intro fr u w4 hb hΦ hne r;have r:=r.congr (sc (hΦ 7 ke) (sc (hΦ 6 ke) (sc (hΦ 5 ke) (sc (hΦ 4 ke) (sc (hΦ 3 ke) (sc (hΦ 2 ke) (sc (hΦ 1 ke) (sc (hΦ 0 ke) rfl))))))));have Z4:=hb.size;have c0h:=keep hb c0h;have c1h:=keep hb c1h;have H1:=keep hb H1;obtain ⟨hB,zB⟩:=bon hb hB;refine zaS (.cells ((zpC ({ c0 with place:=(D.za8 c0.seat.p c1 2) }))).toArray 206 (0,0)) r (fun R=>zaN r (o:=10) (v:=(I (D.za8 c0.seat.p c1 2))) rfl rfl c0h ts3 (Nat.le_of_ble_eq_true rfl) rfl rfl) rfl fun fr w5 u6 r=>?_
 have Z5:=u6.size;have c1h:=u6.keep c1h (zi2 c1h c0h rfl);have H1:=u6.keep H1 kw
 have c0h:=u6.at_;have hB:=Chg.zpr (Z:=F) hB;have hB:=hB.zpE u6 (.inr c0F);have zB:=hB.size;obtain ⟨zs7,ezs7⟩:∃ z,z=({ c0 with place:=(D.za8 c0.seat.p c1 2) }):=⟨_,rfl⟩
 rw [←ezs7] at c0h
 refine kF 0 r rfl zf4 rfl fun r=>?_;refine zaS (.cells ((zpC ({ zs7 with cur:=c0.next }))).toArray 206 (0,0)) r (fun R=>zaN r (o:=11) (v:=(U c0.next)) rfl rfl c0h ts36 (Nat.le_of_ble_eq_true rfl) rfl rfl) rfl fun fr w8 u9 r=>?_
 have Z8:=u9.size;have c1h:=u9.keep c1h (zi2 c1h c0h rfl);have H1:=u9.keep H1 kw
 have c0h:=u9.at_;have hB:=hB.zpE u9 (.inr c0F);have zB:=hB.size;obtain ⟨zs10,ezs10⟩:∃ z,z=({ zs7 with cur:=c0.next }):=⟨_,rfl⟩
 rw [←ezs10] at c0h
 refine wn (wsr (kG (zpC zs10) 14 r rfl c0h zpZ rfl rfl fun r=>?_));refine kJ r ((ih_list_walk_step n kw) (No) _ (fun _ h=>h.elim) zs10) rfl zrj rfl fun w11 v12 hb hr13 r=>?_
 have hb:=hb.below;have Z11:=hb.size;have c0h:=keep hb c0h;have c1h:=keep hb c1h;have H1:=keep hb H1;have hB:=hB.thenB hb;have zB:=hB.size;refine kP r hr13.shape rfl rfl H1 zpQ rfl rfl fun w14 u15 r=>?_;have Z14:=u15.size
 have c0h:=u15.keep c0h kw
 have c1h:=u15.keep c1h kw
 have H1:=u15.at_;have hB:=hB.zpE u15 (.inl kw)
 have zB:=hB.size;refine wn (wp_ret ?_);have hd:D.zdu j r_list_walk_step c0 c1=(r_list_walk_step zs10):=by subst ezs10 ezs7; exact rfl
 have hs:=hr13.shape.cells;refine za5 r rfl rfl H1 (k:=20) hs.1 zpP ?_;rw [←hs.2.2,hd];exact zpf.fin hB hr13 u15 (fun _ h=>h.elim) (fun h=>h) kw kw kw
set_option maxRecDepth 20000 in
set_option maxHeartbeats 8000000 in
theorem zj1 {r_list_walk_step:Walk→T Walk} (hF:kH F w0) (hj:n<j) (ih_list_walk_step:∀ m,m<n→zaG r_list_walk_step m)
    (c0:Walk) {c0b:Nat} (c0F:F c0b) (c0h:w0.heap[c0b]?=some (.cells ((zpC c0)).toArray 206 (0,0))) (c1:Int) {c1b:Nat} (c1F:F c1b) (c1h:w0.heap[c1b]?=some (.cells ([(.int .i64 c1)]).toArray 3 (0,0))) :
    Calls Tryz.prog 397 #[zp c0b,zp c1b] w0 (zpf Tryz.prog zpk n (D.zfz j r_list_walk_step c0 c1) F w0):=by
 refine kN Tryz.func397 rfl 9 rfl rfl fun fr r hB=>?_;have lc0b:=lt_of_block c0h
 have lc1b:=lt_of_block c1h;refine wsr ?_;refine za7 (.cells (zpc false zpk.zero 0 0 0 0 .nilFunc) 209 (0,0)) r (fun R=>za6 zpS) rfl fun fr b1 w2 n3 r=>?_;have c0h:=keep n3.below c0h
 have c1h:=keep n3.below c1h;obtain ⟨E1,Z2,H1,hB,zB⟩:=n3.all hB;refine wn (wp_seq ?_);refine zaM 5 [.val (.agg (zpC c0).toArray),.val (.pointer (some ⟨c0b,12,none⟩)),.val (U c0.next),.val (I (D.zak c0.next)),.val (.func (.func 398) #[] #[zp c0b,zp c1b])] mixed r kz (kV (kV (kV (kV (kV zaB))))) ?_ ?_
 ·
  refine ec r (fun _ u _ b d s=>zag s (cs:=(zpC c0)) (n:=14) rfl (keep b c0h) zpZ rfl bz) (ec r (fun _ u _ b d s=>za3 s (b:=c0b) (o:=0) rfl zh1 bz) (ec r (fun _ u _ b d s=>za4 s d.1 (keep b c0h) to36 rfl bz) (ec r (fun fr1 u w' hb' hd r'=>zaC r' (args:=[(U c0.next)]) (lc hd.1 l0) zqb ((zcf _ c0.next).mono (by rintro _ w2 ⟨rfl,hb2⟩; exact ⟨_,rfl,hb2,rfl⟩))) (ec r (fun _ u _ b d s=>zae s (v:=(.func (.func 398) #[] #[zp c0b,zp c1b])) rfl bz) ?_))));exact zaW
 intro fr u w4 hb hΦ hne r;have r:=r.congr (sc (hΦ 4 ke) (sc (hΦ 3 ke) (sc (hΦ 2 ke) (sc (hΦ 1 ke) (sc (hΦ 0 ke) rfl)))));have Z4:=hb.size;have c0h:=keep hb c0h;have c1h:=keep hb c1h;have H1:=keep hb H1;obtain ⟨hB,zB⟩:=bon hb hB;have hF1:=zpI hF hB.size b1;have f8:((kW F w0 w4 b1)) c0b:=(.inl c0F);have f9:((kW F w0 w4 b1)) c1b:=(.inl c1F);refine kJ r (zds (F:=(kW F w0 w4 b1)) (n:=n) hF1 c0 1 (D.zak c0.next) ⟨398,[],[zp c0b,zp c1b],ztR,rfl,fun m hm _ w' hs hz=>zhY (j:=j) (fun b hb=>Nat.lt_of_lt_of_le (hF1 b hb) hz) kw (fun m' hm'=>ih_list_walk_step m' kw) c0 f8 (hs.at_ f8 c0h) c1 f9 (hs.at_ f9 c1h)⟩) rfl zqO rfl fun w5 v6 hb hr7 r=>?_;have Z5:=hb.size
 have H1:=zpA hb H1 (by rintro (h | ⟨_,_,h⟩); (have:=hF _ h; omega); exact h rfl)
 have hB:=Chg.zpr (Z:=F) hB;have hB:=hB.zpF hb (by rintro b hlt (h | ⟨h,_⟩); exact h; omega)
 have zB:=hB.size;refine kP r hr7.shape rfl rfl H1 zpQ rfl rfl fun w10 u11 r=>?_;have Z10:=u11.size
 have H1:=u11.at_;have hB:=hB.zpE u11 (.inl kw)
 have zB:=hB.size;refine wn (wp_ret ?_);have hs:=hr7.shape.cells;refine za5 r rfl rfl H1 (k:=20) hs.1 zpP ?_;rw [←hs.2.2];exact zpf.fin hB hr7 u11 (by rintro b (h | ⟨h1,h2,_⟩); exact .inl h; exact .inr ⟨h1,h2⟩) (by rintro (h | ⟨_,_,h⟩); (have:=hF _ h; omega); exact h rfl) kw kw kw
set_option maxRecDepth 20000 in
set_option maxHeartbeats 8000000 in
theorem zjJ {r_list_walk_step:Walk→T Walk} (hF:kH F w0) (hj:n<j) (ih_list_walk_step:∀ m,m<n→zaG r_list_walk_step m)
    (a0:Walk) (a1:Int) :
    Calls Tryz.prog 372 #[.agg (zpC a0).toArray,.int .i64 a1] w0 (zpf Tryz.prog zpk n (D.zdM j r_list_walk_step a0 a1) F w0):=by
 refine kN Tryz.func372 rfl 9 rfl rfl fun fr r hB=>?_;refine wsr ?_
 refine kX 206 (.agg (zpC a0).toArray) r rfl rfl fun b1 w2 n3 r=>?_;obtain ⟨E1,Z2,H1,hB,zB⟩:=n3.all hB
 refine kX 3 (I a1) r rfl rfl fun b4 w5 n6 r=>?_;have H1:=keep n6.below H1
 obtain ⟨E4,Z5,H4,hB,zB⟩:=n6.all hB;refine za7 (.cells (zpc false zpk.zero 0 0 0 0 .nilFunc) 209 (0,0)) r (fun R=>za6 zpS) rfl fun fr b7 w8 n9 r=>?_;have H1:=keep n9.below H1
 have H4:=keep n9.below H4;obtain ⟨E7,Z8,H7,hB,zB⟩:=n9.all hB;refine wn (wsr (kG (zpC a0) 14 r rfl H1 zpZ rfl rfl fun r=>kL (I a1) r rfl H4 to3 rfl rfl fun r=>za0 (.func (.func 397) #[] #[zp b1,zp b4]) r (fun R=>zae r rfl) rfl fun fr r=>?_));have hF1:=zpI hF hB.size b7
 have f13:((kW F w0 w8 b7)) b1:=(.inr ⟨kw,kw,kw⟩)
 have f14:((kW F w0 w8 b7)) b4:=(.inr ⟨kw,kw,kw⟩)
 refine kJ r (zds (F:=(kW F w0 w8 b7)) (n:=n) hF1 a0 2 a1 ⟨397,[],[zp b1,zp b4],zu9,rfl,fun m hm _ w' hs hz=>zj1 (j:=j) (fun b hb=>Nat.lt_of_lt_of_le (hF1 b hb) hz) kw (fun m' hm'=>ih_list_walk_step m' kw) a0 f13 (hs.at_ f13 H1) a1 f14 (hs.at_ f14 H4)⟩) rfl zqO rfl fun w10 v11 hb hr12 r=>?_;have Z10:=hb.size
 have H7:=zpA hb H7 (by rintro (h | ⟨_,_,h⟩); (have:=hF _ h; omega); exact h rfl)
 have hB:=Chg.zpr (Z:=F) hB;have hB:=hB.zpF hb (by rintro b hlt (h | ⟨h,_⟩); exact h; omega)
 have zB:=hB.size;refine kP r hr12.shape rfl rfl H7 zpQ rfl rfl fun w15 u16 r=>?_;have Z15:=u16.size
 have H7:=u16.at_;have hB:=hB.zpE u16 (.inl kw)
 have zB:=hB.size;refine wn (wp_ret ?_);have hs:=hr12.shape.cells;refine za5 r rfl rfl H7 (k:=20) hs.1 zpP ?_;rw [←hs.2.2];exact zpf.fin hB hr12 u16 (by rintro b (h | ⟨h1,h2,_⟩); exact .inl h; exact .inr ⟨h1,h2⟩) (by rintro (h | ⟨_,_,h⟩); (have:=hF _ h; omega); exact h rfl) kw kw kw
set_option maxRecDepth 20000 in
set_option maxHeartbeats 8000000 in
theorem zfC {r_list_walk_step:Walk→T Walk} (hF:kH F w0) (hj:n<j) (ih_list_walk_step:∀ m,m<n→zaG r_list_walk_step m)
    (c0:Int) {c0b:Nat} (c0F:F c0b) (c0h:w0.heap[c0b]?=some (.cells ([(.int .u64 c0)]).toArray 36 (0,0))) (c1:Walk) {c1b:Nat} (c1F:F c1b) (c1h:w0.heap[c1b]?=some (.cells ((zpC c1)).toArray 206 (0,0))) (a0:Int) :
    Calls Tryz.prog 396 #[.int .i64 a0,zp c0b,zp c1b] w0 (zpf Tryz.prog zpk n (D.zc7 j r_list_walk_step c0 c1 a0) F w0):=by
 refine kN Tryz.func396 rfl 13 rfl rfl fun fr r hB=>?_;have lc0b:=lt_of_block c0h
 have lc1b:=lt_of_block c1h;refine wsr ?_;refine za7 (.cells (zpc false zpk.zero 0 0 0 0 .nilFunc) 209 (0,0)) r (fun R=>za6 zpS) rfl fun fr b1 w2 n3 r=>?_;have c0h:=keep n3.below c0h
 have c1h:=keep n3.below c1h;obtain ⟨E1,Z2,H1,hB,zB⟩:=n3.all hB;refine wn (wsr (kL (U c0) r rfl c0h to36 rfl rfl fun r=>kF 0 r rfl zf4 rfl fun r=>?_));refine zaS (.cells ((zpC ({ c1 with cur:=c0 }))).toArray 206 (0,0)) r (fun R=>zaN r (o:=11) (v:=(U c0)) rfl rfl c1h ts36 (Nat.le_of_ble_eq_true rfl) rfl rfl) rfl fun fr w4 u5 r=>?_
 have Z4:=u5.size;have c0h:=u5.keep c0h (zi2 c0h c1h rfl);have H1:=u5.keep H1 kw
 have c1h:=u5.at_;have hB:=Chg.zpr (Z:=F) hB;have hB:=hB.zpE u5 (.inr c1F);have zB:=hB.size;obtain ⟨zs6,ezs6⟩:∃ z,z=({ c1 with cur:=c0 }):=⟨_,rfl⟩
 rw [←ezs6] at c1h
 refine wn (wp_seq ?_);refine zaM 5 [.val (.agg (zpC zs6).toArray),.val (U c0),.val (I (D.zak c0)),.val (.agg (zpC zs6).toArray),.val (.func (.func 226) #[(.agg (zpC zs6).toArray)] #[])] mixed r kz (kV (kV (kV (kV (kV zaB))))) ?_ ?_
 ·
  refine ec r (fun _ u _ b d s=>zag s (cs:=(zpC zs6)) (n:=14) rfl (keep b c1h) zpZ rfl bz) (ec r (fun _ u _ b d s=>za4 s rfl (keep b c0h) to36 rfl bz) (ec r (fun fr1 u w' hb' hd r'=>zaC r' (args:=[(U c0)]) (lc hd.1 l0) zqb ((zcf _ c0).mono (by rintro _ w2 ⟨rfl,hb2⟩; exact ⟨_,rfl,hb2,rfl⟩))) (ec r (fun _ u _ b d s=>zag s (cs:=(zpC zs6)) (n:=14) rfl (keep b c1h) zpZ rfl bz) (ec r (fun fr1 u w' hb' hd r'=>zae r' (v:=(.func (.func 226) #[(.agg (zpC zs6).toArray)] #[])) (congrArg (fun z=>Value.func (.func 226) #[z] #[]) hd.1) bz) ?_))));exact zaW
 intro fr u w7 hb hΦ hne r;have r:=r.congr (sc (hΦ 4 ke) (sc (hΦ 3 ke) (sc (hΦ 2 ke) (sc (hΦ 1 ke) (sc (hΦ 0 ke) rfl)))));have Z7:=hb.size;have c0h:=keep hb c0h;have c1h:=keep hb c1h;have H1:=keep hb H1;have hB:=hB.thenB hb;have zB:=hB.size;have hF1:=zpI hF hB.size b1;refine kJ r (zds (F:=(kW F w0 w7 b1)) (n:=n) hF1 zs6 1 (D.zak c0) ⟨226,[(.agg (zpC zs6).toArray)],[],zrj,rfl,fun m hm _ w' hs hz=>(ih_list_walk_step m kw) _ _ (fun b hb=>Nat.lt_of_lt_of_le (hF1 b hb) hz) zs6⟩) rfl zqO rfl fun w8 v9 hb hr10 r=>?_;have Z8:=hb.size
 have H1:=zpA hb H1 (by rintro (h | ⟨_,_,h⟩); (have:=hF _ h; omega); exact h rfl)
 have hB:=hB.zpF hb (by rintro b hlt (h | ⟨h,_⟩); exact h; omega)
 have zB:=hB.size;refine kP r hr10.shape rfl rfl H1 zpQ rfl rfl fun w11 u12 r=>?_;have Z11:=u12.size
 have H1:=u12.at_;have hB:=hB.zpE u12 (.inl kw)
 have zB:=hB.size;refine wn (wp_ret ?_);have hd:D.zc7 j r_list_walk_step c0 c1 a0=(D.zc0 zs6 1 (D.zak c0) (fun _=>(r_list_walk_step zs6))):=by subst ezs6; exact rfl
 have hs:=hr10.shape.cells;refine za5 r rfl rfl H1 (k:=20) hs.1 zpP ?_;rw [←hs.2.2,hd];exact zpf.fin hB hr10 u12 (by rintro b (h | ⟨h1,h2,_⟩); exact .inl h; exact .inr ⟨h1,h2⟩) (by rintro (h | ⟨_,_,h⟩); (have:=hF _ h; omega); exact h rfl) kw kw kw
set_option maxRecDepth 20000 in
set_option maxHeartbeats 8000000 in
theorem zkw {r_list_walk_step:Walk→T Walk} (hF:kH F w0) (hj:n<j) (ih_list_walk_step:∀ m,m≤n→zaG r_list_walk_step m)
    (c0:Seat) {c0b:Nat} (c0F:F c0b) (c0h:w0.heap[c0b]?=some (.cells ((zpH c0)).toArray 63 (0,0))) (c1:Int) {c1b:Nat} (c1F:F c1b) (c1h:w0.heap[c1b]?=some (.cells ([(.int .i64 c1)]).toArray 3 (0,0))) (c2:Int) {c2b:Nat} (c2F:F c2b) (c2h:w0.heap[c2b]?=some (.cells ([(.int .u64 c2)]).toArray 36 (0,0))) (a0:Int) :
    Calls Tryz.prog 225 #[.int .u64 a0,zp c0b,zp c1b,zp c2b] w0 (zpf Tryz.prog zpk n (D.zk4 j r_list_walk_step c0 c1 c2 a0) F w0):=by
 refine kN Tryz.func225 rfl 13 rfl rfl fun fr r hB=>?_;have lc0b:=lt_of_block c0h
 have lc1b:=lt_of_block c1h;have lc2b:=lt_of_block c2h;refine wsr ?_;refine za7 (.cells (zpc false zpk.zero 0 0 0 0 .nilFunc) 209 (0,0)) r (fun R=>za6 zpS) rfl fun fr b1 w2 n3 r=>?_;obtain ⟨E1,Z2,H1,hB,zB⟩:=n3.all hB
 refine wn (wsr (kG (zpH c0) 8 r rfl (keep hB c0h) ta63 rfl rfl fun r=>kL (I c1) r rfl (keep hB c1h) to3 rfl rfl fun r=>kL (U c2) r rfl (keep hB c2h) to36 rfl rfl fun r=>kL (I c1) r rfl (keep hB c1h) to3 rfl rfl fun r=>kM (U a0) r rfl rfl fun r=>kU (.agg (zpC (⟨c0,c1,c2,c1,a0,0,false⟩:Walk)).toArray) r kz rfl fun r=>?_));refine kJ r ((ih_list_walk_step n kw) (No) _ (fun _ h=>h.elim) (⟨c0,c1,c2,c1,a0,0,false⟩:Walk)) rfl zrj rfl fun w4 v5 hb hr6 r=>?_
 have hb:=hb.below;have Z4:=hb.size;have H1:=keep hb H1;obtain ⟨hB,zB⟩:=bon hb hB;refine kP r hr6.shape rfl rfl H1 zpQ rfl rfl fun w7 u8 r=>?_;have Z7:=u8.size
 have H1:=u8.at_;obtain ⟨hB,zB⟩:=u8.on hB kw
 refine wn (wp_ret ?_);have hs:=hr6.shape.cells;refine za5 r rfl rfl H1 (k:=20) hs.1 zpP ?_;rw [←hs.2.2];exact zpf.fin (Chg.zpr hB) hr6 u8 (fun _ h=>h.elim) (fun h=>h) kw kw kw
set_option maxRecDepth 20000 in
set_option maxHeartbeats 8000000 in
theorem zfm {r_list_walk_step:Walk→T Walk} (hF:kH F w0) (hj:n<j) (ih_list_walk_step:∀ m,m<n→zaG r_list_walk_step m)
    (a0:Seat) (a1:Int) (a2:Int) :
    Calls Tryz.prog 122 #[.agg (zpH a0).toArray,.int .i64 a1,.int .u64 a2] w0 (zpf Tryz.prog zpk n (D.zfR j r_list_walk_step a0 a1 a2) F w0):=by
 refine kN Tryz.func122 rfl 15 rfl rfl fun fr r hB=>?_;refine wsr ?_
 refine kX 63 (.agg (zpH a0).toArray) r rfl rfl fun b1 w2 n3 r=>?_;obtain ⟨E1,Z2,H1,hB,zB⟩:=n3.all hB
 refine kX 3 (I a1) r rfl rfl fun b4 w5 n6 r=>?_;have H1:=keep n6.below H1
 obtain ⟨E4,Z5,H4,hB,zB⟩:=n6.all hB;refine kX 36 (U a2) r rfl rfl fun b7 w8 n9 r=>?_;have H1:=keep n9.below H1
 have H4:=keep n9.below H4;obtain ⟨E7,Z8,H7,hB,zB⟩:=n9.all hB;refine za7 (.cells (zpc false zpk.zero 0 0 0 0 .nilFunc) 209 (0,0)) r (fun R=>za6 zpS) rfl fun fr b10 w11 n12 r=>?_;have H1:=keep n12.below H1
 have H4:=keep n12.below H4;have H7:=keep n12.below H7;obtain ⟨E10,Z11,H10,hB,zB⟩:=n12.all hB;refine wn (wsr (kF 0 r rfl zew rfl fun r=>kG (zpe a0.p) 6 r rfl H1 ta23 rfl rfl fun r=>kF 0 r rfl zjO rfl fun r=>kL (I a0.thread) r rfl H1 to3 rfl rfl fun r=>kL (I a1) r rfl H4 to3 rfl rfl fun r=>?_));refine kD r (zkv (j:=j) (F:=No) (n:=n) (fun _ h=>h.elim) kw a0.p a0.thread 1 a1 1 (by first | assumption | decide)) rfl zuf rfl fun w13 v14 hb hr15 r=>?_
 have hr15:=hr15.loud;have Z13:=hb.size;have H1:=keep hb H1;have H4:=keep hb H4;have H7:=keep hb H7;have H10:=keep hb H10;obtain ⟨hB,zB⟩:=bon hb hB;refine za0 (.func (.func 225) #[] #[zp b1,zp b4,zp b7]) r (fun R=>zae r rfl) rfl fun fr r=>?_;have hF1:∀ b,(kW F w0 w11 b10) b→b<w13.heap.size:=by rintro b (h | ⟨_,h,_⟩); exact Nat.lt_of_lt_of_le (hF b h) hB.size; exact Nat.lt_of_lt_of_le h kw
 have f19:((kW F w0 w11 b10)) b1:=(.inr ⟨kw,kw,kw⟩)
 have f20:((kW F w0 w11 b10)) b4:=(.inr ⟨kw,kw,kw⟩)
 have f21:((kW F w0 w11 b10)) b7:=(.inr ⟨kw,kw,kw⟩)
 have hF2:=zpI hF hB.size b10;refine kJ r (zf6 (F:=(kW F w0 w13 b10)) (F2:=(kW F w0 w11 b10)) (n:=n) hF2 (by rintro b ⟨h,h'⟩; exact .inr ⟨kw,kw,kw⟩) (by rintro b (h | ⟨h1,h2,h3⟩); exact .inl h; exact .inr ⟨h1,kw,h3⟩) (by rintro b ⟨h1,h2⟩ (h | ⟨h3,h4,_⟩); (have:=hF b h; omega); omega) (RepL.mono (F':=fun b=>w11.heap.size≤b∧b<w13.heap.size) (by rintro b (h | h); exact h.elim; exact h) (Same.refl _ _) (Nat.le_refl _) n _ _ hr15) ⟨225,[],[zp b1,zp b4,zp b7],zsU,rfl,fun m hm x w' hs hz=>zkw (j:=j) (fun b hb=>Nat.lt_of_lt_of_le (hF1 b hb) hz) kw (fun m' hm'=>ih_list_walk_step m' kw) a0 f19 (hs.at_ f19 H1) a1 f20 (hs.at_ f20 H4) a2 f21 (hs.at_ f21 H7) x⟩ (by first | rfl | (cases j with | zero=>omega | succ q=>rfl))) rfl zsp rfl fun w16 v17 hb hr18 r=>?_
 have Z16:=hb.size;have H10:=zpA hb H10 (by rintro (h | ⟨_,_,h⟩); (have:=hF _ h; omega); exact h rfl)
 have hB:=Chg.zpr (Z:=F) hB;have hB:=hB.zpF hb (by rintro b hlt (h | ⟨h,_⟩); exact h; omega)
 have zB:=hB.size;refine kP r hr18.shape rfl rfl H10 zpQ rfl rfl fun w22 u23 r=>?_;have Z22:=u23.size
 have H10:=u23.at_;have hB:=hB.zpE u23 (.inl kw)
 have zB:=hB.size;refine wn (wp_ret ?_);have hs:=hr18.shape.cells;refine za5 r rfl rfl H10 (k:=20) hs.1 zpP ?_;rw [←hs.2.2];exact zpf.fin hB hr18 u23 (by rintro b (h | ⟨h1,h2,_⟩); exact .inl h; exact .inr ⟨h1,h2⟩) (by rintro (h | ⟨_,_,h⟩); (have:=hF _ h; omega); exact h rfl) kw kw kw
set_option maxRecDepth 20000 in
set_option maxHeartbeats 8000000 in
theorem zdb {r_list_walk_step:Walk→T Walk} (hF:kH F w0) (hj:n<j) (ih_list_walk_step:∀ m,m<n→zaG r_list_walk_step m)
    (a0:Walk) :
    Calls Tryz.prog 231 #[.agg (zpC a0).toArray] w0 (zpf Tryz.prog zpk n (D.zbN j r_list_walk_step a0) F w0):=by
 refine kN Tryz.func231 rfl 10 rfl rfl fun fr r hB=>?_;refine wsr ?_
 refine kX 206 (.agg (zpC a0).toArray) r rfl rfl fun b1 w2 n3 r=>?_;obtain ⟨E1,Z2,H1,hB,zB⟩:=n3.all hB
 refine za7 (.cells (zpc false zpk.zero 0 0 0 0 .nilFunc) 209 (0,0)) r (fun R=>za6 zpS) rfl fun fr b4 w5 n6 r=>?_;have H1:=keep n6.below H1
 obtain ⟨E4,Z5,H4,hB,zB⟩:=n6.all hB;refine wn (wsr (kF 0 r rfl zh9 rfl fun r=>kG (zpH a0.seat) 8 r rfl H1 ta63 rfl rfl fun r=>kF 0 r rfl zos rfl fun r=>kL (I a0.cell) r rfl H1 to3 rfl rfl fun r=>kF 0 r rfl zmj rfl fun r=>kL (U a0.k) r rfl H1 to36 rfl rfl fun r=>?_));refine kJ r (zfm (j:=j) (F:=No) (n:=n) (fun _ h=>h.elim) kw (fun m' hm'=>ih_list_walk_step m' kw) a0.seat a0.cell a0.k) rfl zqH rfl fun w7 v8 hb hr9 r=>?_
 have hb:=hb.below;have Z7:=hb.size;have H1:=keep hb H1;have H4:=keep hb H4;obtain ⟨hB,zB⟩:=bon hb hB;refine kP r hr9.shape rfl rfl H4 zpQ rfl rfl fun w10 u11 r=>?_;have Z10:=u11.size
 have H1:=u11.keep H1 kw
 have H4:=u11.at_;obtain ⟨hB,zB⟩:=u11.on hB kw
 refine wn (wp_ret ?_);have hs:=hr9.shape.cells;refine za5 r rfl rfl H4 (k:=20) hs.1 zpP ?_;rw [←hs.2.2];exact zpf.fin (Chg.zpr hB) hr9 u11 (fun _ h=>h.elim) (fun h=>h) kw kw kw
set_option maxRecDepth 20000 in
set_option maxHeartbeats 8000000 in
theorem zg5 {r_list_walk_step:Walk→T Walk} (hF:kH F w0) (hj:n<j) (ih_list_walk_step:∀ m,m<n→zaG r_list_walk_step m)
    (c0:Walk) {c0b:Nat} (c0F:F c0b) (c0h:w0.heap[c0b]?=some (.cells ((zpC c0)).toArray 206 (0,0))) (c1:Int) {c1b:Nat} (c1F:F c1b) (c1h:w0.heap[c1b]?=some (.cells ([(.int .i64 c1)]).toArray 3 (0,0))) (c2:Int) {c2b:Nat} (c2F:F c2b) (c2h:w0.heap[c2b]?=some (.cells ([(.int .u64 c2)]).toArray 36 (0,0))) (a0:Bool) :
    Calls Tryz.prog 394 #[.bool a0,zp c0b,zp c1b,zp c2b] w0 (zpf Tryz.prog zpk n (D.zco j r_list_walk_step c0 c1 c2 a0) F w0):=by
 refine kN Tryz.func394 rfl 20 rfl rfl fun fr r hB=>?_;have lc0b:=lt_of_block c0h
 have lc1b:=lt_of_block c1h;have lc2b:=lt_of_block c2h;refine wsr ?_;refine za7 (.cells (zpc false zpk.zero 0 0 0 0 .nilFunc) 209 (0,0)) r (fun R=>za6 zpS) rfl fun fr b1 w2 n3 r=>?_;have c0h:=keep n3.below c0h
 have c1h:=keep n3.below c1h;have c2h:=keep n3.below c2h;obtain ⟨E1,Z2,H1,hB,zB⟩:=n3.all hB;refine wn (wp_seq (wsr (kM (.bool a0) r rfl rfl fun r=>za0 (.bool (!a0)) r (fun R=>y_un r (u:=(.bool a0)) rfl rfl) rfl fun fr r=>wn ?_)));refine wp_cond_split (t:=(!a0)) (r.ev rfl) (fun h4=>?_) (fun h4=>?_)
 ·
  refine wsr (kG (zpC c0) 14 r rfl c0h zpZ rfl rfl fun r=>?_);refine kJ r (zdb (j:=j) (F:=No) (n:=n) (fun _ h=>h.elim) kw (fun m' hm'=>ih_list_walk_step m' kw) c0) rfl zqQ rfl fun w5 v6 hb hr7 r=>?_
  have hb:=hb.below;have Z5:=hb.size;have c0h:=keep hb c0h;have c1h:=keep hb c1h;have c2h:=keep hb c2h;have H1:=keep hb H1;obtain ⟨hB,zB⟩:=bon hb hB;refine kP r hr7.shape rfl rfl H1 zpQ rfl rfl fun w8 u9 r=>?_;have Z8:=u9.size
  have c0h:=u9.keep c0h kw
  have c1h:=u9.keep c1h kw
  have c2h:=u9.keep c2h kw
  have H1:=u9.at_;obtain ⟨hB,zB⟩:=u9.on hB kw
  refine wn (wp_ret ?_);have hd:D.zco j r_list_walk_step c0 c1 c2 a0=(D.zbN j r_list_walk_step c0):=(zal h4).trans (rfl);have hs:=hr7.shape.cells;refine za5 r rfl rfl H1 (k:=20) hs.1 zpP ?_;rw [←hs.2.2,hd];exact zpf.fin (Chg.zpr hB) hr7 u9 (fun _ h=>h.elim) (fun h=>h) kw kw kw
 refine wp_skip (wsr (kF 0 r rfl zh9 rfl fun r=>kF 0 r rfl zew rfl fun r=>kG (zpe c0.seat.p) 6 r rfl c0h ta23 rfl rfl fun r=>kF 0 r rfl zh9 rfl fun r=>kF 0 r rfl zjO rfl fun r=>kL (I c0.seat.thread) r rfl c0h to3 rfl rfl fun r=>kL (I c1) r rfl c1h to3 rfl rfl fun r=>?_));refine kD r (zhN (j:=j) (F:=No) (n:=n) (fun _ h=>h.elim) kw c0.seat.p c0.seat.thread c1) rfl cl82 rfl fun w10 v11 hb hr12 r=>?_
 have hr12:=hr12.loud;have Z10:=hb.size;have c0h:=keep hb c0h;have c1h:=keep hb c1h;have c2h:=keep hb c2h;have H1:=keep hb H1;obtain ⟨hB,zB⟩:=bon hb hB;refine za0 (.func (.func 396) #[] #[zp c2b,zp c0b]) r (fun R=>zae r rfl) rfl fun fr r=>?_;have hF1:∀ b,(kW F w0 w2 b1) b→b<w10.heap.size:=by rintro b (h | ⟨_,h,_⟩); exact Nat.lt_of_lt_of_le (hF b h) hB.size; exact Nat.lt_of_lt_of_le h kw
 have f16:((kW F w0 w2 b1)) c2b:=(.inl c2F);have f17:((kW F w0 w2 b1)) c0b:=(.inl c0F);have hF2:=zpI hF hB.size b1;refine kJ r (zfN (F:=(kW F w0 w10 b1)) (F2:=(kW F w0 w2 b1)) (n:=n) hF2 (by rintro b ⟨h,h'⟩; exact .inr ⟨kw,kw,kw⟩) (by rintro b (h | ⟨h1,h2,h3⟩); exact .inl h; exact .inr ⟨h1,kw,h3⟩) (by rintro b ⟨h1,h2⟩ (h | ⟨h3,h4,_⟩); (have:=hF b h; omega); omega) (RepL.mono (F':=fun b=>w2.heap.size≤b∧b<w10.heap.size) (by rintro b (h | h); exact h.elim; exact h) (Same.refl _ _) (Nat.le_refl _) n _ _ hr12) ⟨396,[],[zp c2b,zp c0b],ztg,rfl,fun m hm x w' hs hz=>zfC (j:=j) (fun b hb=>Nat.lt_of_lt_of_le (hF1 b hb) hz) kw (fun m' hm'=>ih_list_walk_step m' kw) c2 f16 (hs.at_ f16 c2h) c0 f17 (hs.at_ f17 c0h) x⟩) rfl zrH rfl fun w13 v14 hb hr15 r=>?_
 have Z13:=hb.size;have H1:=zpA hb H1 (by rintro (h | ⟨_,_,h⟩); (have:=hF _ h; omega); exact h rfl)
 have hB:=Chg.zpr (Z:=F) hB;have hB:=hB.zpF hb (by rintro b hlt (h | ⟨h,_⟩); exact h; omega)
 have zB:=hB.size;refine kP r hr15.shape rfl rfl H1 zpQ rfl rfl fun w18 u19 r=>?_;have Z18:=u19.size
 have H1:=u19.at_;have hB:=hB.zpE u19 (.inl kw)
 have zB:=hB.size;refine wn (wp_ret ?_);have hd:D.zco j r_list_walk_step c0 c1 c2 a0=(T.bind (D.zcA j c0.seat.p c0.seat.thread c1) (fun x=>(D.zc7 j r_list_walk_step c2 c0 x))):=(zaf h4).trans (rfl)
 have hs:=hr15.shape.cells;refine za5 r rfl rfl H1 (k:=20) hs.1 zpP ?_;rw [←hs.2.2,hd];exact zpf.fin hB hr15 u19 (by rintro b (h | ⟨h1,h2,_⟩); exact .inl h; exact .inr ⟨h1,h2⟩) (by rintro (h | ⟨_,_,h⟩); (have:=hF _ h; omega); exact h rfl) kw kw kw
set_option maxRecDepth 20000 in
set_option maxHeartbeats 8000000 in
theorem zgD {r_list_walk_step:Walk→T Walk} (hF:kH F w0) (hj:n<j) (ih_list_walk_step:∀ m,m<n→zaG r_list_walk_step m)
    (a0:Walk) (a1:Int) :
    Calls Tryz.prog 371 #[.agg (zpC a0).toArray,.int .i64 a1] w0 (zpf Tryz.prog zpk n (D.zec j r_list_walk_step a0 a1) F w0):=by
 refine kN Tryz.func371 rfl 16 rfl rfl fun fr r hB=>?_;refine wsr ?_
 refine kX 206 (.agg (zpC a0).toArray) r rfl rfl fun b1 w2 n3 r=>?_;obtain ⟨E1,Z2,H1,hB,zB⟩:=n3.all hB
 refine kX 3 (I a1) r rfl rfl fun b4 w5 n6 r=>?_;have H1:=keep n6.below H1
 obtain ⟨E4,Z5,H4,hB,zB⟩:=n6.all hB;refine za7 (.cells (zpc false zpk.zero 0 0 0 0 .nilFunc) 209 (0,0)) r (fun R=>za6 zpS) rfl fun fr b7 w8 n9 r=>?_;have H1:=keep n9.below H1
 have H4:=keep n9.below H4;obtain ⟨E7,Z8,H7,hB,zB⟩:=n9.all hB;refine wn (wsr (kF 0 r rfl zh1 rfl fun r=>kL (U a0.next) r rfl H1 to36 rfl rfl fun r=>kB r rfl rfl rfl rfl rfl fun r=>?_));refine za7 (.cells #[(U 0)] 36 (0,0)) r (fun R=>za6 tz36) rfl fun fr b10 w11 n12 r=>?_
 have H1:=keep n12.below H1;have H4:=keep n12.below H4;have H7:=keep n12.below H7;obtain ⟨E10,Z11,H10,hB,zB⟩:=n12.all hB;refine zaS (.cells #[(U (zaU .u64 a0.next 1))] 36 (0,0)) r (fun R=>zaN r (o:=0) (v:=(U (zaU .u64 a0.next 1))) rfl rfl H10 ts36 (Nat.le_of_ble_eq_true rfl) rfl rfl) rfl fun fr w13 u14 r=>?_;have Z13:=u14.size
 have H1:=u14.keep H1 kw
 have H4:=u14.keep H4 kw
 have H7:=u14.keep H7 kw
 have H10:=u14.at_;obtain ⟨hB,zB⟩:=u14.on hB kw
 refine wn (wsr (kF 0 r rfl zkj rfl fun r=>kL (I a0.place) r rfl H1 to3 rfl rfl fun r=>kF 0 r rfl zf4 rfl fun r=>kL (U a0.cur) r rfl H1 to36 rfl rfl fun r=>kL (U (zaU .u64 a0.next 1)) r rfl H10 to36 rfl rfl fun r=>za0 (.func (.func 394) #[] #[zp b1,zp b4,zp b10]) r (fun R=>zae r rfl) rfl fun fr r=>?_));have hF1:=zpI hF hB.size b7
 have f18:((kW F w0 w13 b7)) b1:=(.inr ⟨kw,kw,kw⟩)
 have f19:((kW F w0 w13 b7)) b4:=(.inr ⟨kw,kw,kw⟩)
 have f20:((kW F w0 w13 b7)) b10:=(.inr ⟨kw,kw,kw⟩)
 refine kJ r (ziG (F:=(kW F w0 w13 b7)) (n:=n) hF1 a0.place a0.cur (zaU .u64 a0.next 1) ⟨394,[],[zp b1,zp b4,zp b10],zsC,rfl,fun m hm x w' hs hz=>zg5 (j:=j) (fun b hb=>Nat.lt_of_lt_of_le (hF1 b hb) hz) kw (fun m' hm'=>ih_list_walk_step m' kw) a0 f18 (hs.at_ f18 H1) a1 f19 (hs.at_ f19 H4) (zaU .u64 a0.next 1) f20 (hs.at_ f20 H10) x⟩) rfl ztr rfl fun w15 v16 hb hr17 r=>?_;have Z15:=hb.size
 have H7:=zpA hb H7 (by rintro (h | ⟨_,_,h⟩); (have:=hF _ h; omega); exact h rfl)
 have hB:=Chg.zpr (Z:=F) hB;have hB:=hB.zpF hb (by rintro b hlt (h | ⟨h,_⟩); exact h; omega)
 have zB:=hB.size;refine kP r hr17.shape rfl rfl H7 zpQ rfl rfl fun w21 u22 r=>?_;have Z21:=u22.size
 have H7:=u22.at_;have hB:=hB.zpE u22 (.inl kw)
 have zB:=hB.size;refine wn (wp_ret ?_);have hs:=hr17.shape.cells;refine za5 r rfl rfl H7 (k:=20) hs.1 zpP ?_;rw [←hs.2.2];exact zpf.fin hB hr17 u22 (by rintro b (h | ⟨h1,h2,_⟩); exact .inl h; exact .inr ⟨h1,h2⟩) (by rintro (h | ⟨_,_,h⟩); (have:=hF _ h; omega); exact h rfl) kw kw kw
set_option maxRecDepth 20000 in
set_option maxHeartbeats 8000000 in
theorem zgx {r_list_walk_step:Walk→T Walk} (hF:kH F w0) (hj:n<j) (ih_list_walk_step:∀ m,m<n→zaG r_list_walk_step m)
    (c0:Walk) {c0b:Nat} (c0F:F c0b) (c0h:w0.heap[c0b]?=some (.cells ((zpC c0)).toArray 206 (0,0))) (c1:Int) {c1b:Nat} (c1F:F c1b) (c1h:w0.heap[c1b]?=some (.cells ([(.int .i64 c1)]).toArray 3 (0,0))) (c2:Int) {c2b:Nat} (c2F:F c2b) (c2h:w0.heap[c2b]?=some (.cells ([(.int .u64 c2)]).toArray 36 (0,0))) (a0:Int) :
    Calls Tryz.prog 370 #[.int .u64 a0,zp c0b,zp c1b,zp c2b] w0 (zpf Tryz.prog zpk n (D.zbB j r_list_walk_step c0 c1 c2 a0) F w0):=by
 refine kN Tryz.func370 rfl 36 rfl rfl fun fr r hB=>?_;have lc0b:=lt_of_block c0h
 have lc1b:=lt_of_block c1h;have lc2b:=lt_of_block c2h;refine wsr ?_;refine za7 (.cells (zpc false zpk.zero 0 0 0 0 .nilFunc) 209 (0,0)) r (fun R=>za6 zpS) rfl fun fr b1 w2 n3 r=>?_;have c0h:=keep n3.below c0h
 have c1h:=keep n3.below c1h;have c2h:=keep n3.below c2h;obtain ⟨E1,Z2,H1,hB,zB⟩:=n3.all hB;refine wn (wp_seq (wp_block (wsr (kM (U a0) r rfl rfl fun r=>kF 0 r rfl zf4 rfl fun r=>kL (U c0.cur) r rfl c0h to36 rfl rfl fun r=>kB r rfl rfl rfl rfl rfl fun r=>kA (.bool (a0 !=c0.cur)) r rfl rfl fun r=>wn ?_))));refine wp_cond_split (t:=(a0 !=c0.cur)) (r.ev rfl) (fun h4=>?_) (fun h4=>?_)
 ·
  refine wsr (kG (zpC c0) 14 r rfl c0h zpZ rfl rfl fun r=>?_);refine kJ r (zdb (j:=j) (F:=No) (n:=n) (fun _ h=>h.elim) kw (fun m' hm'=>ih_list_walk_step m' kw) c0) rfl zqQ rfl fun w5 v6 hb hr7 r=>?_
  have hb:=hb.below;have Z5:=hb.size;have c0h:=keep hb c0h;have c1h:=keep hb c1h;have c2h:=keep hb c2h;have H1:=keep hb H1;obtain ⟨hB,zB⟩:=bon hb hB;refine kP r hr7.shape rfl rfl H1 zpQ rfl rfl fun w8 u9 r=>?_;have Z8:=u9.size
  have c0h:=u9.keep c0h kw
  have c1h:=u9.keep c1h kw
  have c2h:=u9.keep c2h kw
  have H1:=u9.at_;obtain ⟨hB,zB⟩:=u9.on hB kw
  refine wn (wp_ret ?_);have hd:D.zbB j r_list_walk_step c0 c1 c2 a0=(D.zbN j r_list_walk_step c0):=(zal h4).trans (rfl);have hs:=hr7.shape.cells;refine za5 r rfl rfl H1 (k:=20) hs.1 zpP ?_;rw [←hs.2.2,hd];exact zpf.fin (Chg.zpr hB) hr7 u9 (fun _ h=>h.elim) (fun h=>h) kw kw kw
 refine wsr (kF 0 r rfl zh1 rfl fun r=>kL (U c0.next) r rfl c0h to36 rfl rfl fun r=>kB r rfl rfl rfl rfl rfl fun r=>kB r rfl rfl rfl rfl rfl fun r=>kA (.bool ((zbk .u64 c0.next 1) !=0)) r rfl rfl fun r=>wn ?_);refine wp_cond_split (t:=((zbk .u64 c0.next 1) !=0)) (r.ev rfl) (fun h10=>?_) (fun h10=>?_)
 ·
  refine wsr (kG (zpC c0) 14 r rfl c0h zpZ rfl rfl fun r=>kL (I c1) r rfl c1h to3 rfl rfl fun r=>?_);refine kJ r (zgD (j:=j) (F:=No) (n:=n) (fun _ h=>h.elim) kw (fun m' hm'=>ih_list_walk_step m' kw) c0 c1) rfl zsX rfl fun w11 v12 hb hr13 r=>?_
  have hb:=hb.below;have Z11:=hb.size;have c0h:=keep hb c0h;have c1h:=keep hb c1h;have c2h:=keep hb c2h;have H1:=keep hb H1;obtain ⟨hB,zB⟩:=bon hb hB;refine kP r hr13.shape rfl rfl H1 zpQ rfl rfl fun w14 u15 r=>?_;have Z14:=u15.size
  have c0h:=u15.keep c0h kw
  have c1h:=u15.keep c1h kw
  have c2h:=u15.keep c2h kw
  have H1:=u15.at_;obtain ⟨hB,zB⟩:=u15.on hB kw
  refine wn (wp_ret ?_);have hd:D.zbB j r_list_walk_step c0 c1 c2 a0=(D.zec j r_list_walk_step c0 c1):=(zaf h4).trans ((zal h10).trans (rfl));have hs:=hr13.shape.cells;refine za5 r rfl rfl H1 (k:=20) hs.1 zpP ?_;rw [←hs.2.2,hd];exact zpf.fin (Chg.zpr hB) hr13 u15 (fun _ h=>h.elim) (fun h=>h) kw kw kw
 refine wsr (kL (U c2) r rfl c2h to36 rfl rfl fun r=>kF 0 r rfl zmj rfl fun r=>kL (U c0.k) r rfl c0h to36 rfl rfl fun r=>kB r rfl rfl rfl rfl rfl fun r=>kA (.bool (decide (c2≥c0.k))) r rfl rfl fun r=>wn ?_);refine wp_cond_split (t:=(decide (c2≥c0.k))) (r.ev rfl) (fun h16=>?_) (fun h16=>?_)
 ·
  refine wsr (kL (U c2) r rfl c2h to36 rfl rfl fun r=>kF 0 r rfl zmj rfl fun r=>kL (U c0.k) r rfl c0h to36 rfl rfl fun r=>kB r rfl rfl rfl rfl rfl fun r=>kF 0 r rfl zjR rfl fun r=>?_);refine zaS (.cells ((zpC ({ c0 with there:=(c2==c0.k) }))).toArray 206 (0,0)) r (fun R=>zaN r (o:=13) (v:=(.bool (c2==c0.k))) rfl rfl c0h ts4 (Nat.le_of_ble_eq_true rfl) rfl rfl) rfl fun fr w17 u18 r=>?_
  have Z17:=u18.size;have c1h:=u18.keep c1h (zi2 c1h c0h rfl);have c2h:=u18.keep c2h (zi2 c2h c0h rfl);have H1:=u18.keep H1 kw
  have c0h:=u18.at_;have hB:=Chg.zpr (Z:=F) hB;have hB:=hB.zpE u18 (.inr c0F);have zB:=hB.size;obtain ⟨zs19,ezs19⟩:∃ z,z=({ c0 with there:=(c2==c0.k) }):=⟨_,rfl⟩
  rw [←ezs19] at c0h
  refine wn (wsr (kG (zpC zs19) 14 r rfl c0h zpZ rfl rfl fun r=>?_));refine kJ r (zfG (F:=No) (n:=n) (fun _ h=>h.elim) zs19) rfl zrN rfl fun w20 v21 hb hr22 r=>?_
  have hb:=hb.below;have Z20:=hb.size;have c0h:=keep hb c0h;have c1h:=keep hb c1h;have c2h:=keep hb c2h;have H1:=keep hb H1;have hB:=hB.thenB hb;have zB:=hB.size;refine kP r hr22.shape rfl rfl H1 zpQ rfl rfl fun w23 u24 r=>?_;have Z23:=u24.size
  have c0h:=u24.keep c0h kw
  have c1h:=u24.keep c1h kw
  have c2h:=u24.keep c2h kw
  have H1:=u24.at_;have hB:=hB.zpE u24 (.inl kw)
  have zB:=hB.size;refine wn (wp_ret ?_);have hd:D.zbB j r_list_walk_step c0 c1 c2 a0=(D.zcJ zs19):=by subst ezs19; exact (zaf h4).trans ((zaf h10).trans ((zal h16).trans (rfl)))
  have hs:=hr22.shape.cells;refine za5 r rfl rfl H1 (k:=20) hs.1 zpP ?_;rw [←hs.2.2,hd];exact zpf.fin hB hr22 u24 (fun _ h=>h.elim) (fun h=>h) kw kw kw
 refine wp_skip (wsr (kG (zpC c0) 14 r rfl c0h zpZ rfl rfl fun r=>kL (I c1) r rfl c1h to3 rfl rfl fun r=>?_));refine kJ r (zjJ (j:=j) (F:=No) (n:=n) (fun _ h=>h.elim) kw (fun m' hm'=>ih_list_walk_step m' kw) c0 c1) rfl ztt rfl fun w25 v26 hb hr27 r=>?_
 have hb:=hb.below;have Z25:=hb.size;have c0h:=keep hb c0h;have c1h:=keep hb c1h;have c2h:=keep hb c2h;have H1:=keep hb H1;obtain ⟨hB,zB⟩:=bon hb hB;refine kP r hr27.shape rfl rfl H1 zpQ rfl rfl fun w28 u29 r=>?_;have Z28:=u29.size
 have c0h:=u29.keep c0h kw
 have c1h:=u29.keep c1h kw
 have c2h:=u29.keep c2h kw
 have H1:=u29.at_;obtain ⟨hB,zB⟩:=u29.on hB kw
 refine wn (wp_ret ?_);have hd:D.zbB j r_list_walk_step c0 c1 c2 a0=(D.zdM j r_list_walk_step c0 c1):=(zaf h4).trans ((zaf h10).trans ((zaf h16).trans (rfl)));have hs:=hr27.shape.cells;refine za5 r rfl rfl H1 (k:=20) hs.1 zpP ?_;rw [←hs.2.2,hd];exact zpf.fin (Chg.zpr hB) hr27 u29 (fun _ h=>h.elim) (fun h=>h) kw kw kw
set_option maxRecDepth 20000 in
set_option maxHeartbeats 8000000 in
theorem zhu {r_list_walk_step:Walk→T Walk} (hF:kH F w0) (hj:n<j) (ih_list_walk_step:∀ m,m<n→zaG r_list_walk_step m)
    (c0:Walk) {c0b:Nat} (c0F:F c0b) (c0h:w0.heap[c0b]?=some (.cells ((zpC c0)).toArray 206 (0,0))) (c1:Int) {c1b:Nat} (c1F:F c1b) (c1h:w0.heap[c1b]?=some (.cells ([(.int .i64 c1)]).toArray 3 (0,0))) (a0:Int) :
    Calls Tryz.prog 369 #[.int .u64 a0,zp c0b,zp c1b] w0 (zpf Tryz.prog zpk n (D.zdc j r_list_walk_step c0 c1 a0) F w0):=by
 refine kN Tryz.func369 rfl 9 rfl rfl fun fr r hB=>?_;have lc0b:=lt_of_block c0h
 have lc1b:=lt_of_block c1h;refine wsr ?_;refine kX 36 (U a0) r rfl rfl fun b1 w2 n3 r=>?_;have c0h:=keep n3.below c0h
 have c1h:=keep n3.below c1h;obtain ⟨E1,Z2,H1,hB,zB⟩:=n3.all hB;refine za7 (.cells (zpc false zpk.zero 0 0 0 0 .nilFunc) 209 (0,0)) r (fun R=>za6 zpS) rfl fun fr b4 w5 n6 r=>?_;have c0h:=keep n6.below c0h
 have c1h:=keep n6.below c1h;have H1:=keep n6.below H1;obtain ⟨E4,Z5,H4,hB,zB⟩:=n6.all hB;refine wn (wsr (kF 0 r rfl zkj rfl fun r=>kL (I c0.place) r rfl c0h to3 rfl rfl fun r=>za0 (.func (.func 370) #[] #[zp c0b,zp c1b,zp b1]) r (fun R=>zae r rfl) rfl fun fr r=>?_));have hF1:=zpI hF hB.size b4
 have f10:((kW F w0 w5 b4)) c0b:=(.inl c0F);have f11:((kW F w0 w5 b4)) c1b:=(.inl c1F);have f12:((kW F w0 w5 b4)) b1:=(.inr ⟨kw,kw,kw⟩)
 refine kJ r (zdg (F:=(kW F w0 w5 b4)) (n:=n) hF1 c0.place ⟨370,[],[zp c0b,zp c1b,zp b1],zt3,rfl,fun m hm x w' hs hz=>zgx (j:=j) (fun b hb=>Nat.lt_of_lt_of_le (hF1 b hb) hz) kw (fun m' hm'=>ih_list_walk_step m' kw) c0 f10 (hs.at_ f10 c0h) c1 f11 (hs.at_ f11 c1h) a0 f12 (hs.at_ f12 H1) x⟩) rfl zqG rfl fun w7 v8 hb hr9 r=>?_;have Z7:=hb.size
 have H4:=zpA hb H4 (by rintro (h | ⟨_,_,h⟩); (have:=hF _ h; omega); exact h rfl)
 have hB:=Chg.zpr (Z:=F) hB;have hB:=hB.zpF hb (by rintro b hlt (h | ⟨h,_⟩); exact h; omega)
 have zB:=hB.size;refine kP r hr9.shape rfl rfl H4 zpQ rfl rfl fun w13 u14 r=>?_;have Z13:=u14.size
 have H4:=u14.at_;have hB:=hB.zpE u14 (.inl kw)
 have zB:=hB.size;refine wn (wp_ret ?_);have hs:=hr9.shape.cells;refine za5 r rfl rfl H4 (k:=20) hs.1 zpP ?_;rw [←hs.2.2];exact zpf.fin hB hr9 u14 (by rintro b (h | ⟨h1,h2,_⟩); exact .inl h; exact .inr ⟨h1,h2⟩) (by rintro (h | ⟨_,_,h⟩); (have:=hF _ h; omega); exact h rfl) kw kw kw
set_option maxRecDepth 20000 in
set_option maxHeartbeats 8000000 in
theorem ziq {r_list_walk_step:Walk→T Walk} (hF:kH F w0) (hj:n<j) (ih_list_walk_step:∀ m,m<n→zaG r_list_walk_step m)
    (a0:Walk) (a1:Int) :
    Calls Tryz.prog 325 #[.agg (zpC a0).toArray,.int .i64 a1] w0 (zpf Tryz.prog zpk n (D.zcx j r_list_walk_step a0 a1) F w0):=by
 refine kN Tryz.func325 rfl 12 rfl rfl fun fr r hB=>?_;refine wsr ?_
 refine kX 206 (.agg (zpC a0).toArray) r rfl rfl fun b1 w2 n3 r=>?_;obtain ⟨E1,Z2,H1,hB,zB⟩:=n3.all hB
 refine kX 3 (I a1) r rfl rfl fun b4 w5 n6 r=>?_;have H1:=keep n6.below H1
 obtain ⟨E4,Z5,H4,hB,zB⟩:=n6.all hB;refine za7 (.cells (zpc false zpk.zero 0 0 0 0 .nilFunc) 209 (0,0)) r (fun R=>za6 zpS) rfl fun fr b7 w8 n9 r=>?_;have H1:=keep n9.below H1
 have H4:=keep n9.below H4;obtain ⟨E7,Z8,H7,hB,zB⟩:=n9.all hB;refine wn (wsr (kF 0 r rfl zh9 rfl fun r=>kF 0 r rfl zew rfl fun r=>kG (zpe a0.seat.p) 6 r rfl H1 ta23 rfl rfl fun r=>kL (I a1) r rfl H4 to3 rfl rfl fun r=>?_));refine kE r (zb4 w8 a0.seat.p a1 0) rfl cl85 rfl fun w10 hb r=>?_
 have Z10:=hb.size;have H1:=keep hb H1;have H4:=keep hb H4;have H7:=keep hb H7;obtain ⟨hB,zB⟩:=bon hb hB;refine za0 (.func (.func 369) #[] #[zp b1,zp b4]) r (fun R=>zae r rfl) rfl fun fr r=>?_;have hF1:=zpI hF hB.size b7
 have f14:((kW F w0 w10 b7)) b1:=(.inr ⟨kw,kw,kw⟩)
 have f15:((kW F w0 w10 b7)) b4:=(.inr ⟨kw,kw,kw⟩)
 refine kJ r (zdg (F:=(kW F w0 w10 b7)) (n:=n) hF1 (D.za8 a0.seat.p a1 0) ⟨369,[],[zp b1,zp b4],zui,rfl,fun m hm x w' hs hz=>zhu (j:=j) (fun b hb=>Nat.lt_of_lt_of_le (hF1 b hb) hz) kw (fun m' hm'=>ih_list_walk_step m' kw) a0 f14 (hs.at_ f14 H1) a1 f15 (hs.at_ f15 H4) x⟩) rfl zqG rfl fun w11 v12 hb hr13 r=>?_;have Z11:=hb.size
 have H7:=zpA hb H7 (by rintro (h | ⟨_,_,h⟩); (have:=hF _ h; omega); exact h rfl)
 have hB:=Chg.zpr (Z:=F) hB;have hB:=hB.zpF hb (by rintro b hlt (h | ⟨h,_⟩); exact h; omega)
 have zB:=hB.size;refine kP r hr13.shape rfl rfl H7 zpQ rfl rfl fun w16 u17 r=>?_;have Z16:=u17.size
 have H7:=u17.at_;have hB:=hB.zpE u17 (.inl kw)
 have zB:=hB.size;refine wn (wp_ret ?_);have hs:=hr13.shape.cells;refine za5 r rfl rfl H7 (k:=20) hs.1 zpP ?_;rw [←hs.2.2];exact zpf.fin hB hr13 u17 (by rintro b (h | ⟨h1,h2,_⟩); exact .inl h; exact .inr ⟨h1,h2⟩) (by rintro (h | ⟨_,_,h⟩); (have:=hF _ h; omega); exact h rfl) kw kw kw
set_option maxRecDepth 20000 in
set_option maxHeartbeats 8000000 in
theorem zgb {r_list_walk_step:Walk→T Walk} (hF:kH F w0) (hj:n<j) (ih_list_walk_step:∀ m,m<n→zaG r_list_walk_step m)
    (c0:Int) {c0b:Nat} (c0F:F c0b) (c0h:w0.heap[c0b]?=some (.cells ([(.int .u64 c0)]).toArray 36 (0,0))) (c1:Walk) {c1b:Nat} (c1F:F c1b) (c1h:w0.heap[c1b]?=some (.cells ((zpC c1)).toArray 206 (0,0))) (c2:Int) {c2b:Nat} (c2F:F c2b) (c2h:w0.heap[c2b]?=some (.cells ([(.int .i64 c2)]).toArray 3 (0,0))) (a0:Int) :
    Calls Tryz.prog 324 #[.int .u64 a0,zp c0b,zp c1b,zp c2b] w0 (zpf Tryz.prog zpk n (D.zbY j r_list_walk_step c0 c1 c2 a0) F w0):=by
 refine kN Tryz.func324 rfl 16 rfl rfl fun fr r hB=>?_;have lc0b:=lt_of_block c0h
 have lc1b:=lt_of_block c1h;have lc2b:=lt_of_block c2h;refine wsr ?_;refine za7 (.cells (zpc false zpk.zero 0 0 0 0 .nilFunc) 209 (0,0)) r (fun R=>za6 zpS) rfl fun fr b1 w2 n3 r=>?_;have c0h:=keep n3.below c0h
 have c1h:=keep n3.below c1h;have c2h:=keep n3.below c2h;obtain ⟨E1,Z2,H1,hB,zB⟩:=n3.all hB;refine wn (wp_seq (wsr (kM (U a0) r rfl rfl fun r=>kL (U c0) r rfl c0h to36 rfl rfl fun r=>kB r rfl rfl rfl rfl rfl fun r=>wn ?_)));refine wp_cond_split (t:=(a0 !=c0)) (r.ev rfl) (fun h4=>?_) (fun h4=>?_)
 ·
  refine wsr (kG (zpC c1) 14 r rfl c1h zpZ rfl rfl fun r=>?_);refine kJ r (zdb (j:=j) (F:=No) (n:=n) (fun _ h=>h.elim) kw (fun m' hm'=>ih_list_walk_step m' kw) c1) rfl zqQ rfl fun w5 v6 hb hr7 r=>?_
  have hb:=hb.below;have Z5:=hb.size;have c0h:=keep hb c0h;have c1h:=keep hb c1h;have c2h:=keep hb c2h;have H1:=keep hb H1;obtain ⟨hB,zB⟩:=bon hb hB;refine kP r hr7.shape rfl rfl H1 zpQ rfl rfl fun w8 u9 r=>?_;have Z8:=u9.size
  have c0h:=u9.keep c0h kw
  have c1h:=u9.keep c1h kw
  have c2h:=u9.keep c2h kw
  have H1:=u9.at_;obtain ⟨hB,zB⟩:=u9.on hB kw
  refine wn (wp_ret ?_);have hd:D.zbY j r_list_walk_step c0 c1 c2 a0=(D.zbN j r_list_walk_step c1):=(zal h4).trans (rfl);have hs:=hr7.shape.cells;refine za5 r rfl rfl H1 (k:=20) hs.1 zpP ?_;rw [←hs.2.2,hd];exact zpf.fin (Chg.zpr hB) hr7 u9 (fun _ h=>h.elim) (fun h=>h) kw kw kw
 refine wp_skip (wsr (kL (U c0) r rfl c0h to36 rfl rfl fun r=>kF 0 r rfl zh1 rfl fun r=>?_));refine zaS (.cells ((zpC ({ c1 with next:=c0 }))).toArray 206 (0,0)) r (fun R=>zaN r (o:=12) (v:=(U c0)) rfl rfl c1h ts36 (Nat.le_of_ble_eq_true rfl) rfl rfl) rfl fun fr w10 u11 r=>?_
 have Z10:=u11.size;have c0h:=u11.keep c0h (zi2 c0h c1h rfl);have c2h:=u11.keep c2h (zi2 c2h c1h rfl);have H1:=u11.keep H1 kw
 have c1h:=u11.at_;have hB:=Chg.zpr (Z:=F) hB;have hB:=hB.zpE u11 (.inr c1F);have zB:=hB.size;obtain ⟨zs12,ezs12⟩:∃ z,z=({ c1 with next:=c0 }):=⟨_,rfl⟩
 rw [←ezs12] at c1h
 refine wn (wsr (kG (zpC zs12) 14 r rfl c1h zpZ rfl rfl fun r=>kL (I c2) r rfl c2h to3 rfl rfl fun r=>?_));refine kJ r (ziq (j:=j) (F:=No) (n:=n) (fun _ h=>h.elim) kw (fun m' hm'=>ih_list_walk_step m' kw) zs12 c2) rfl zsE rfl fun w13 v14 hb hr15 r=>?_
 have hb:=hb.below;have Z13:=hb.size;have c0h:=keep hb c0h;have c1h:=keep hb c1h;have c2h:=keep hb c2h;have H1:=keep hb H1;have hB:=hB.thenB hb;have zB:=hB.size;refine kP r hr15.shape rfl rfl H1 zpQ rfl rfl fun w16 u17 r=>?_;have Z16:=u17.size
 have c0h:=u17.keep c0h kw
 have c1h:=u17.keep c1h kw
 have c2h:=u17.keep c2h kw
 have H1:=u17.at_;have hB:=hB.zpE u17 (.inl kw)
 have zB:=hB.size;refine wn (wp_ret ?_);have hd:D.zbY j r_list_walk_step c0 c1 c2 a0=(D.zcx j r_list_walk_step zs12 c2):=by subst ezs12; exact (zaf h4).trans (rfl)
 have hs:=hr15.shape.cells;refine za5 r rfl rfl H1 (k:=20) hs.1 zpP ?_;rw [←hs.2.2,hd];exact zpf.fin hB hr15 u17 (fun _ h=>h.elim) (fun h=>h) kw kw kw
set_option maxRecDepth 20000 in
set_option maxHeartbeats 8000000 in
theorem zgG {r_list_walk_step:Walk→T Walk} (hF:kH F w0) (hj:n<j) (ih_list_walk_step:∀ m,m<n→zaG r_list_walk_step m)
    (c0:Int) {c0b:Nat} (c0F:F c0b) (c0h:w0.heap[c0b]?=some (.cells ([(.int .i64 c0)]).toArray 3 (0,0))) (c1:Int) {c1b:Nat} (c1F:F c1b) (c1h:w0.heap[c1b]?=some (.cells ([(.int .u64 c1)]).toArray 36 (0,0))) (c2:Walk) {c2b:Nat} (c2F:F c2b) (c2h:w0.heap[c2b]?=some (.cells ((zpC c2)).toArray 206 (0,0))) (c3:Int) {c3b:Nat} (c3F:F c3b) (c3h:w0.heap[c3b]?=some (.cells ([(.int .i64 c3)]).toArray 3 (0,0))) :
    Calls Tryz.prog 323 #[zp c0b,zp c1b,zp c2b,zp c3b] w0 (zpf Tryz.prog zpk n (D.zch j r_list_walk_step c0 c1 c2 c3) F w0):=by
 refine kN Tryz.func323 rfl 8 rfl rfl fun fr r hB=>?_;have lc0b:=lt_of_block c0h
 have lc1b:=lt_of_block c1h;have lc2b:=lt_of_block c2h;have lc3b:=lt_of_block c3h;refine wsr ?_;refine za7 (.cells (zpc false zpk.zero 0 0 0 0 .nilFunc) 209 (0,0)) r (fun R=>za6 zpS) rfl fun fr b1 w2 n3 r=>?_;have c0h:=keep n3.below c0h
 have c1h:=keep n3.below c1h;have c2h:=keep n3.below c2h;have c3h:=keep n3.below c3h;obtain ⟨E1,Z2,H1,hB,zB⟩:=n3.all hB;refine wn (wsr (kL (I c0) r rfl c0h to3 rfl rfl fun r=>za0 (.func (.func 324) #[] #[zp c1b,zp c2b,zp c3b]) r (fun R=>zae r rfl) rfl fun fr r=>?_));have hF1:=zpI hF hB.size b1
 have f7:((kW F w0 w2 b1)) c1b:=(.inl c1F);have f8:((kW F w0 w2 b1)) c2b:=(.inl c2F);have f9:((kW F w0 w2 b1)) c3b:=(.inl c3F);refine kJ r (zdg (F:=(kW F w0 w2 b1)) (n:=n) hF1 c0 ⟨324,[],[zp c1b,zp c2b,zp c3b],zsN,rfl,fun m hm x w' hs hz=>zgb (j:=j) (fun b hb=>Nat.lt_of_lt_of_le (hF1 b hb) hz) kw (fun m' hm'=>ih_list_walk_step m' kw) c1 f7 (hs.at_ f7 c1h) c2 f8 (hs.at_ f8 c2h) c3 f9 (hs.at_ f9 c3h) x⟩) rfl zqG rfl fun w4 v5 hb hr6 r=>?_;have Z4:=hb.size
 have H1:=zpA hb H1 (by rintro (h | ⟨_,_,h⟩); (have:=hF _ h; omega); exact h rfl)
 have hB:=Chg.zpr (Z:=F) hB;have hB:=hB.zpF hb (by rintro b hlt (h | ⟨h,_⟩); exact h; omega)
 have zB:=hB.size;refine kP r hr6.shape rfl rfl H1 zpQ rfl rfl fun w10 u11 r=>?_;have Z10:=u11.size
 have H1:=u11.at_;have hB:=hB.zpE u11 (.inl kw)
 have zB:=hB.size;refine wn (wp_ret ?_);have hs:=hr6.shape.cells;refine za5 r rfl rfl H1 (k:=20) hs.1 zpP ?_;rw [←hs.2.2];exact zpf.fin hB hr6 u11 (by rintro b (h | ⟨h1,h2,_⟩); exact .inl h; exact .inr ⟨h1,h2⟩) (by rintro (h | ⟨_,_,h⟩); (have:=hF _ h; omega); exact h rfl) kw kw kw
set_option maxRecDepth 20000 in
set_option maxHeartbeats 8000000 in
theorem zhX {r_list_walk_step:Walk→T Walk} (hF:kH F w0) (hj:n<j) (ih_list_walk_step:∀ m,m<n→zaG r_list_walk_step m)
    (c0:Walk) {c0b:Nat} (c0F:F c0b) (c0h:w0.heap[c0b]?=some (.cells ((zpC c0)).toArray 206 (0,0))) (c1:Int) {c1b:Nat} (c1F:F c1b) (c1h:w0.heap[c1b]?=some (.cells ([(.int .i64 c1)]).toArray 3 (0,0))) (c2:Int) {c2b:Nat} (c2F:F c2b) (c2h:w0.heap[c2b]?=some (.cells ([(.int .i64 c2)]).toArray 3 (0,0))) (a0:Int) :
    Calls Tryz.prog 321 #[.int .u64 a0,zp c0b,zp c1b,zp c2b] w0 (zpf Tryz.prog zpk n (D.zdt j r_list_walk_step c0 c1 c2 a0) F w0):=by
 refine kN Tryz.func321 rfl 11 rfl rfl fun fr r hB=>?_;have lc0b:=lt_of_block c0h
 have lc1b:=lt_of_block c1h;have lc2b:=lt_of_block c2h;refine wsr ?_;refine kX 36 (U a0) r rfl rfl fun b1 w2 n3 r=>?_;have c0h:=keep n3.below c0h
 have c1h:=keep n3.below c1h;have c2h:=keep n3.below c2h;obtain ⟨E1,Z2,H1,hB,zB⟩:=n3.all hB;refine za7 (.cells (zpc false zpk.zero 0 0 0 0 .nilFunc) 209 (0,0)) r (fun R=>za6 zpS) rfl fun fr b4 w5 n6 r=>?_;have c0h:=keep n6.below c0h
 have c1h:=keep n6.below c1h;have c2h:=keep n6.below c2h;have H1:=keep n6.below H1;obtain ⟨E4,Z5,H4,hB,zB⟩:=n6.all hB;refine wn (wp_seq ?_);refine zaM 4 [.val (.agg (zpC c0).toArray),.val (U a0),.val (I (D.zak a0)),.val (.func (.func 323) #[] #[zp c1b,zp b1,zp c0b,zp c2b])] mixed r kz (kV (kV (kV (kV zaB)))) ?_ ?_
 ·
  refine ec r (fun _ u _ b d s=>zag s (cs:=(zpC c0)) (n:=14) rfl (keep b c0h) zpZ rfl bz) (ec r (fun _ u _ b d s=>za4 s rfl (keep b H1) to36 rfl bz) (ec r (fun fr1 u w' hb' hd r'=>zaC r' (args:=[(U a0)]) (lc hd.1 l0) zqb ((zcf _ a0).mono (by rintro _ w2 ⟨rfl,hb2⟩; exact ⟨_,rfl,hb2,rfl⟩))) (ec r (fun _ u _ b d s=>zae s (v:=(.func (.func 323) #[] #[zp c1b,zp b1,zp c0b,zp c2b])) rfl bz) ?_)));exact zaW
 intro fr u w7 hb hΦ hne r;have r:=r.congr (sc (hΦ 3 ke) (sc (hΦ 2 ke) (sc (hΦ 1 ke) (sc (hΦ 0 ke) rfl))));have Z7:=hb.size;have c0h:=keep hb c0h;have c1h:=keep hb c1h;have c2h:=keep hb c2h;have H1:=keep hb H1;have H4:=keep hb H4;obtain ⟨hB,zB⟩:=bon hb hB;have hF1:=zpI hF hB.size b4;have f11:((kW F w0 w7 b4)) c1b:=(.inl c1F);have f12:((kW F w0 w7 b4)) b1:=(.inr ⟨kw,kw,kw⟩)
 have f13:((kW F w0 w7 b4)) c0b:=(.inl c0F);have f14:((kW F w0 w7 b4)) c2b:=(.inl c2F);refine kJ r (zds (F:=(kW F w0 w7 b4)) (n:=n) hF1 c0 0 (D.zak a0) ⟨323,[],[zp c1b,zp b1,zp c0b,zp c2b],ztK,rfl,fun m hm _ w' hs hz=>zgG (j:=j) (fun b hb=>Nat.lt_of_lt_of_le (hF1 b hb) hz) kw (fun m' hm'=>ih_list_walk_step m' kw) c1 f11 (hs.at_ f11 c1h) a0 f12 (hs.at_ f12 H1) c0 f13 (hs.at_ f13 c0h) c2 f14 (hs.at_ f14 c2h)⟩) rfl zqO rfl fun w8 v9 hb hr10 r=>?_;have Z8:=hb.size
 have H4:=zpA hb H4 (by rintro (h | ⟨_,_,h⟩); (have:=hF _ h; omega); exact h rfl)
 have hB:=Chg.zpr (Z:=F) hB;have hB:=hB.zpF hb (by rintro b hlt (h | ⟨h,_⟩); exact h; omega)
 have zB:=hB.size;refine kP r hr10.shape rfl rfl H4 zpQ rfl rfl fun w15 u16 r=>?_;have Z15:=u16.size
 have H4:=u16.at_;have hB:=hB.zpE u16 (.inl kw)
 have zB:=hB.size;refine wn (wp_ret ?_);have hs:=hr10.shape.cells;refine za5 r rfl rfl H4 (k:=20) hs.1 zpP ?_;rw [←hs.2.2];exact zpf.fin hB hr10 u16 (by rintro b (h | ⟨h1,h2,_⟩); exact .inl h; exact .inr ⟨h1,h2⟩) (by rintro (h | ⟨_,_,h⟩); (have:=hF _ h; omega); exact h rfl) kw kw kw
set_option maxRecDepth 20000 in
set_option maxHeartbeats 8000000 in
theorem zjo {n:Nat} {F:Nat→Prop} {j:Nat} {r_list_walk_step:Walk→T Walk} {w0:World} (hF:∀ b,F b→b<w0.heap.size) (hj:n<j) (ih_list_walk_step:∀ m,m<n→zaG r_list_walk_step m)
    (a0:Walk) :
    Calls Tryz.prog 226 #[.agg (zpC a0).toArray] w0 (zpf Tryz.prog zpk n (D.zbp j r_list_walk_step a0) F w0):=by
 refine kN Tryz.func226 rfl 21 rfl rfl fun fr r hB=>?_;refine wsr ?_
 refine kX 206 (.agg (zpC a0).toArray) r rfl rfl fun b1 w2 n3 r=>?_;obtain ⟨E1,Z2,H1,hB,zB⟩:=n3.all hB
 refine za7 (.cells (zpc false zpk.zero 0 0 0 0 .nilFunc) 209 (0,0)) r (fun R=>za6 zpS) rfl fun fr b4 w5 n6 r=>?_;have H1:=keep n6.below H1
 obtain ⟨E4,Z5,H4,hB,zB⟩:=n6.all hB;refine wn (wsr (kF 0 r rfl zf4 rfl fun r=>kL (U a0.cur) r rfl H1 to36 rfl rfl fun r=>?_));refine kE r (zcf w5 a0.cur) rfl zqb rfl fun w7 hb r=>?_
 have Z7:=hb.size;have H1:=keep hb H1;have H4:=keep hb H4;obtain ⟨hB,zB⟩:=bon hb hB;refine za7 (.cells #[(I 0)] 3 (0,0)) r (fun R=>za6 tz3) rfl fun fr b8 w9 n10 r=>?_;have H1:=keep n10.below H1
 have H4:=keep n10.below H4;obtain ⟨E8,Z9,H8,hB,zB⟩:=n10.all hB;refine zaS (.cells #[(I (D.zak a0.cur))] 3 (0,0)) r (fun R=>zaN r (o:=0) (v:=(I (D.zak a0.cur))) rfl rfl H8 ts3 (Nat.le_of_ble_eq_true rfl) rfl rfl) rfl fun fr w11 u12 r=>?_;have Z11:=u12.size
 have H1:=u12.keep H1 kw
 have H4:=u12.keep H4 kw
 have H8:=u12.at_;obtain ⟨hB,zB⟩:=u12.on hB kw
 refine wn (wp_seq (wsr (kL (I (D.zak a0.cur)) r rfl H8 to3 rfl rfl fun r=>kB r rfl rfl rfl rfl rfl fun r=>wn ?_)));refine wp_cond_split (t:=(decide ((D.zak a0.cur)<0))) (r.ev rfl) (fun h13=>?_) (fun h13=>?_)
 ·
  refine wsr (kF 0 r rfl zjR rfl fun r=>?_);refine zaS (.cells ((zpC ({ a0 with there:=false }))).toArray 206 (0,0)) r (fun R=>zaN r (o:=13) (v:=(.bool false)) rfl rfl H1 ts4 (Nat.le_of_ble_eq_true rfl) rfl rfl) rfl fun fr w14 u15 r=>?_
  have Z14:=u15.size;have H4:=u15.keep H4 kw
  have H8:=u15.keep H8 kw
  have H1:=u15.at_;obtain ⟨hB,zB⟩:=u15.on hB kw
  obtain ⟨zs16,ezs16⟩:∃ z,z=({ a0 with there:=false }):=⟨_,rfl⟩
  rw [←ezs16] at H1
  refine wn (wsr (kG (zpC zs16) 14 r rfl H1 zpZ rfl rfl fun r=>?_));refine kJ r (zfG (F:=No) (n:=n) (fun _ h=>h.elim) zs16) rfl zrN rfl fun w17 v18 hb hr19 r=>?_
  have hb:=hb.below;have Z17:=hb.size;have H1:=keep hb H1;have H4:=keep hb H4;have H8:=keep hb H8;obtain ⟨hB,zB⟩:=bon hb hB;refine kP r hr19.shape rfl rfl H4 zpQ rfl rfl fun w20 u21 r=>?_;have Z20:=u21.size
  have H1:=u21.keep H1 kw
  have H8:=u21.keep H8 kw
  have H4:=u21.at_;obtain ⟨hB,zB⟩:=u21.on hB kw
  refine wn (wp_ret ?_);have hd:D.zbp j r_list_walk_step a0=(D.zcJ zs16):=by subst ezs16; exact (zal h13).trans (rfl)
  have hs:=hr19.shape.cells;refine za5 r rfl rfl H4 (k:=20) hs.1 zpP ?_;rw [←hs.2.2,hd];exact zpf.fin (Chg.zpr hB) hr19 u21 (fun _ h=>h.elim) (fun h=>h) kw kw kw
 refine wp_skip (wsr (kF 0 r rfl zh9 rfl fun r=>kF 0 r rfl zew rfl fun r=>kG (zpe a0.seat.p) 6 r rfl H1 ta23 rfl rfl fun r=>kL (I (D.zak a0.cur)) r rfl H8 to3 rfl rfl fun r=>?_));refine kE r (zb4 w11 a0.seat.p (D.zak a0.cur) 2) rfl cl85 rfl fun w22 hb r=>?_
 have Z22:=hb.size;have H1:=keep hb H1;have H4:=keep hb H4;have H8:=keep hb H8;obtain ⟨hB,zB⟩:=bon hb hB;refine za7 (.cells #[(I 0)] 3 (0,0)) r (fun R=>za6 tz3) rfl fun fr b23 w24 n25 r=>?_;have H1:=keep n25.below H1
 have H4:=keep n25.below H4;have H8:=keep n25.below H8;obtain ⟨E23,Z24,H23,hB,zB⟩:=n25.all hB;refine zaS (.cells #[(I (D.za8 a0.seat.p (D.zak a0.cur) 2))] 3 (0,0)) r (fun R=>zaN r (o:=0) (v:=(I (D.za8 a0.seat.p (D.zak a0.cur) 2))) rfl rfl H23 ts3 (Nat.le_of_ble_eq_true rfl) rfl rfl) rfl fun fr w26 u27 r=>?_;have Z26:=u27.size
 have H1:=u27.keep H1 kw
 have H4:=u27.keep H4 kw
 have H8:=u27.keep H8 kw
 have H23:=u27.at_;obtain ⟨hB,zB⟩:=u27.on hB kw
 refine wn (wsr (kL (I (D.za8 a0.seat.p (D.zak a0.cur) 2)) r rfl H23 to3 rfl rfl fun r=>za0 (.func (.func 321) #[] #[zp b1,zp b23,zp b8]) r (fun R=>zae r rfl) rfl fun fr r=>?_));have hF1:=zpI hF hB.size b4
 have f31:((kW F w0 w26 b4)) b1:=(.inr ⟨kw,kw,kw⟩)
 have f32:((kW F w0 w26 b4)) b23:=(.inr ⟨kw,kw,kw⟩)
 have f33:((kW F w0 w26 b4)) b8:=(.inr ⟨kw,kw,kw⟩)
 refine kJ r (zdg (F:=(kW F w0 w26 b4)) (n:=n) hF1 (D.za8 a0.seat.p (D.zak a0.cur) 2) ⟨321,[],[zp b1,zp b23,zp b8],zto,rfl,fun m hm x w' hs hz=>zhX (j:=j) (fun b hb=>Nat.lt_of_lt_of_le (hF1 b hb) hz) kw (fun m' hm'=>ih_list_walk_step m' kw) a0 f31 (hs.at_ f31 H1) (D.za8 a0.seat.p (D.zak a0.cur) 2) f32 (hs.at_ f32 H23) (D.zak a0.cur) f33 (hs.at_ f33 H8) x⟩) rfl zqG rfl fun w28 v29 hb hr30 r=>?_;have Z28:=hb.size
 have H4:=zpA hb H4 (by rintro (h | ⟨_,_,h⟩); (have:=hF _ h; omega); exact h rfl)
 have hB:=Chg.zpr (Z:=F) hB;have hB:=hB.zpF hb (by rintro b hlt (h | ⟨h,_⟩); exact h; omega)
 have zB:=hB.size;refine kP r hr30.shape rfl rfl H4 zpQ rfl rfl fun w34 u35 r=>?_;have Z34:=u35.size
 have H4:=u35.at_;have hB:=hB.zpE u35 (.inl kw)
 have zB:=hB.size;refine wn (wp_ret ?_);have hd:D.zbp j r_list_walk_step a0=(D.zci (D.za8 a0.seat.p (D.zak a0.cur) 2) (fun x=>(D.zdt j r_list_walk_step a0 (D.za8 a0.seat.p (D.zak a0.cur) 2) (D.zak a0.cur) x))):=(zaf h13).trans (rfl)
 have hs:=hr30.shape.cells;refine za5 r rfl rfl H4 (k:=20) hs.1 zpP ?_;rw [←hs.2.2,hd];exact zpf.fin hB hr30 u35 (by rintro b (h | ⟨h1,h2,_⟩); exact .inl h; exact .inr ⟨h1,h2⟩) (by rintro (h | ⟨_,_,h⟩); (have:=hF _ h; omega); exact h rfl) kw kw kw
theorem zd8 {n:Nat} {j:Nat} (hj:n<j) {k:Nat} (hk:n<k):zaG (D.zb0 j k) n:=by
  induction n using Nat.strongRecOn generalizing k with
  | _ n ih=>
    obtain ⟨k,rfl⟩:∃ q,k=q+1:=⟨k - 1,kw⟩
    intro F w0 hF;have h:=@zjo n F j (D.zb0 j k) w0 hF hj (fun m hm=>ih m hm kw kw)
    exact h
def D.zfF (a0:Int):T Res:=(D.zgJ 7)
set_option maxRecDepth 20000 in
set_option maxHeartbeats 8000000 in
theorem ziK (hF:kH F w0)
    (a0:Int) :
    Calls Tryz.prog 218 #[.int .i64 a0] w0 (zpf Tryz.prog zpj n (D.zfF a0) F w0):=by
 refine kN Tryz.func218 rfl 4 rfl rfl fun fr r hB=>?_;refine wsr ?_
 refine za7 (.cells (zpc false zpj.zero 0 0 0 0 .nilFunc) 57 (0,0)) r (fun R=>za6 tz57) rfl fun fr b1 w2 n3 r=>?_;obtain ⟨E1,Z2,H1,hB,zB⟩:=n3.all hB
 refine wn (wsr ?_);refine kJ r (zjc (F:=No) (n:=n) (fun _ h=>h.elim) 7) rfl zsq rfl fun w4 v5 hb hr6 r=>?_;have hb:=hb.below
 have Z4:=hb.size;have H1:=keep hb H1;obtain ⟨hB,zB⟩:=bon hb hB;refine kP r hr6.shape rfl rfl H1 ts57 rfl rfl fun w7 u8 r=>?_;have Z7:=u8.size
 have H1:=u8.at_;obtain ⟨hB,zB⟩:=u8.on hB kw
 refine wn (wp_ret ?_);have hs:=hr6.shape.cells;refine za5 r rfl rfl H1 (k:=8) hs.1 ta57 ?_;rw [←hs.2.2];exact zpf.fin (Chg.zpr hB) hr6 u8 (fun _ h=>h.elim) (fun h=>h) kw kw kw
def D.zeA (j:Nat) (c0:Seat) (c1:Int):T Res:=(T.bind (D.zcM j c0.p c1) (fun x=>(D.zfF x)))
set_option maxRecDepth 20000 in
set_option maxHeartbeats 8000000 in
theorem zk0 (hF:kH F w0) (hj:n<j)
    (c0:Seat) {c0b:Nat} (c0F:F c0b) (c0h:w0.heap[c0b]?=some (.cells ((zpH c0)).toArray 63 (0,0))) (c1:Int) {c1b:Nat} (c1F:F c1b) (c1h:w0.heap[c1b]?=some (.cells ([(.int .i64 c1)]).toArray 3 (0,0))) :
    Calls Tryz.prog 216 #[.agg #[],zp c0b,zp c1b] w0 (zpf Tryz.prog zpj n (D.zeA j c0 c1) F w0):=by
 refine kN Tryz.func216 rfl 10 rfl rfl fun fr r hB=>?_;have lc0b:=lt_of_block c0h
 have lc1b:=lt_of_block c1h;refine wsr ?_;refine kX 152 (.agg #[]) r rfl rfl fun b1 w2 n3 r=>?_;have c0h:=keep n3.below c0h
 have c1h:=keep n3.below c1h;obtain ⟨E1,Z2,H1,hB,zB⟩:=n3.all hB;refine za7 (.cells (zpc false zpj.zero 0 0 0 0 .nilFunc) 57 (0,0)) r (fun R=>za6 tz57) rfl fun fr b4 w5 n6 r=>?_;have c0h:=keep n6.below c0h
 have c1h:=keep n6.below c1h;have H1:=keep n6.below H1;obtain ⟨E4,Z5,H4,hB,zB⟩:=n6.all hB;refine wn (wsr (kF 0 r rfl zew rfl fun r=>kG (zpe c0.p) 6 r rfl c0h ta23 rfl rfl fun r=>kL (I c1) r rfl c1h to3 rfl rfl fun r=>?_));refine kD r (zgp (j:=j) (F:=No) (n:=n) (fun _ h=>h.elim) kw c0.p c1) rfl zrP rfl fun w7 v8 hb hr9 r=>?_
 have hr9:=hr9.loud;have Z7:=hb.size;have c0h:=keep hb c0h;have c1h:=keep hb c1h;have H1:=keep hb H1;have H4:=keep hb H4;obtain ⟨hB,zB⟩:=bon hb hB;have hF1:∀ b,(kW F w0 w5 b4) b→b<w7.heap.size:=by rintro b (h | ⟨_,h,_⟩); exact Nat.lt_of_lt_of_le (hF b h) hB.size; exact Nat.lt_of_lt_of_le h kw
 have hF2:=zpI hF hB.size b4;refine kJ r (zdY (F:=(kW F w0 w7 b4)) (F2:=(kW F w0 w5 b4)) (n:=n) hF2 (by rintro b ⟨h,h'⟩; exact .inr ⟨kw,kw,kw⟩) (by rintro b (h | ⟨h1,h2,h3⟩); exact .inl h; exact .inr ⟨h1,kw,h3⟩) (by rintro b ⟨h1,h2⟩ (h | ⟨h3,h4,_⟩); (have:=hF b h; omega); omega) (RepL.mono (F':=fun b=>w5.heap.size≤b∧b<w7.heap.size) (by rintro b (h | h); exact h.elim; exact h) (Same.refl _ _) (Nat.le_refl _) n _ _ hr9) ⟨218,[],[],ztz,rfl,fun m hm x w' hs hz=>ziK (fun b hb=>Nat.lt_of_lt_of_le (hF1 b hb) hz)  x⟩) rfl zqW rfl fun w10 v11 hb hr12 r=>?_
 have Z10:=hb.size;have H4:=zpA hb H4 (by rintro (h | ⟨_,_,h⟩); (have:=hF _ h; omega); exact h rfl)
 have hB:=Chg.zpr (Z:=F) hB;have hB:=hB.zpF hb (by rintro b hlt (h | ⟨h,_⟩); exact h; omega)
 have zB:=hB.size;refine kP r hr12.shape rfl rfl H4 ts57 rfl rfl fun w13 u14 r=>?_;have Z13:=u14.size
 have H4:=u14.at_;have hB:=hB.zpE u14 (.inl kw)
 have zB:=hB.size;refine wn (wp_ret ?_);have hs:=hr12.shape.cells;refine za5 r rfl rfl H4 (k:=8) hs.1 ta57 ?_;rw [←hs.2.2];exact zpf.fin hB hr12 u14 (by rintro b (h | ⟨h1,h2,_⟩); exact .inl h; exact .inr ⟨h1,h2⟩) (by rintro (h | ⟨_,_,h⟩); (have:=hF _ h; omega); exact h rfl) kw kw kw
def D.zfS (a0:Int):Int:=(shlI .u64 (IntKind.u64.wrap (IntKind.i64.wrap (a0+1))) 1)
set_option maxRecDepth 20000 in
set_option maxHeartbeats 8000000 in
theorem zlQ (w0:World) 
    (a0:Int) :
    Calls Tryz.prog 220 #[.int .i64 a0] w0 (zpt (.int .u64 (D.zfS a0)) w0):=by
 refine kN Tryz.func220 rfl 7 rfl rfl fun fr r hB=>?_;refine wsr (kA (U 0) r rfl rfl fun r=>wn (wsr (kM (I a0) r rfl rfl fun r=>kB r rfl rfl rfl rfl rfl fun r=>za0 (U (V (W (a0+1)))) r (fun R=>zb3 r rfl ti3 ti36) rfl fun fr r=>kB r rfl rfl rfl (zlb (by first | assumption | decide)) rfl fun r=>kA (U (shlI .u64 (V (W (a0+1))) 1)) r rfl rfl fun r=>wn (wp_ret ?_))))
 refine zay r rfl rfl ?_;exact ⟨rfl,hB⟩
def D.zha (c0:Res):T Res:=(D.zeS c0)
set_option maxRecDepth 20000 in
set_option maxHeartbeats 8000000 in
theorem zk8 (hF:kH F w0)
    (c0:Res) {c0b:Nat} (c0F:F c0b) (c0h:w0.heap[c0b]?=some (.cells ((resC c0)).toArray 54 (0,0))) :
    Calls Tryz.prog 227 #[.agg #[],zp c0b] w0 (zpf Tryz.prog zpj n (D.zha c0) F w0):=by
 refine kN Tryz.func227 rfl 6 rfl rfl fun fr r hB=>?_;have lc0b:=lt_of_block c0h
 refine wsr ?_;refine kX 152 (.agg #[]) r rfl rfl fun b1 w2 n3 r=>?_;obtain ⟨E1,Z2,H1,hB,zB⟩:=n3.all hB
 refine za7 (.cells (zpc false zpj.zero 0 0 0 0 .nilFunc) 57 (0,0)) r (fun R=>za6 tz57) rfl fun fr b4 w5 n6 r=>?_;have H1:=keep n6.below H1
 obtain ⟨E4,Z5,H4,hB,zB⟩:=n6.all hB;refine wn (wsr (kG (resC c0) 2 r rfl (keep hB c0h) ta54 rfl rfl fun r=>?_));refine kJ r (zgo (F:=No) (n:=n) (fun _ h=>h.elim) c0) rfl cl23 rfl fun w7 v8 hb hr9 r=>?_
 have hb:=hb.below;have Z7:=hb.size;have H1:=keep hb H1;have H4:=keep hb H4;obtain ⟨hB,zB⟩:=bon hb hB;refine kP r hr9.shape rfl rfl H4 ts57 rfl rfl fun w10 u11 r=>?_;have Z10:=u11.size
 have H1:=u11.keep H1 kw
 have H4:=u11.at_;obtain ⟨hB,zB⟩:=u11.on hB kw
 refine wn (wp_ret ?_);have hs:=hr9.shape.cells;refine za5 r rfl rfl H4 (k:=8) hs.1 ta57 ?_;rw [←hs.2.2];exact zpf.fin (Chg.zpr hB) hr9 u11 (fun _ h=>h.elim) (fun h=>h) kw kw kw
def D.zc1 (j:Nat) (a0:Seat) (a1:Res):T Res:=(T.bind (D.zfn j a0.p a0.thread) (fun _=>(D.zha a1)))
set_option maxRecDepth 20000 in
set_option maxHeartbeats 8000000 in
theorem zd5 (hF:kH F w0) (hj:n<j)
    (a0:Seat) (a1:Res) :
    Calls Tryz.prog 124 #[.agg (zpH a0).toArray,.agg (resC a1).toArray] w0 (zpf Tryz.prog zpj n (D.zc1 j a0 a1) F w0):=by
 refine kN Tryz.func124 rfl 12 rfl rfl fun fr r hB=>?_;refine wsr ?_
 refine kX 63 (.agg (zpH a0).toArray) r rfl rfl fun b1 w2 n3 r=>?_;obtain ⟨E1,Z2,H1,hB,zB⟩:=n3.all hB
 refine kX 54 (.agg (resC a1).toArray) r rfl rfl fun b4 w5 n6 r=>?_;have H1:=keep n6.below H1
 obtain ⟨E4,Z5,H4,hB,zB⟩:=n6.all hB;refine za7 (.cells (zpc false zpj.zero 0 0 0 0 .nilFunc) 57 (0,0)) r (fun R=>za6 tz57) rfl fun fr b7 w8 n9 r=>?_;have H1:=keep n9.below H1
 have H4:=keep n9.below H4;obtain ⟨E7,Z8,H7,hB,zB⟩:=n9.all hB;refine wn (wsr (kF 0 r rfl zew rfl fun r=>kG (zpe a0.p) 6 r rfl H1 ta23 rfl rfl fun r=>kF 0 r rfl zjO rfl fun r=>kL (I a0.thread) r rfl H1 to3 rfl rfl fun r=>?_));refine kD r (zhG (j:=j) (F:=No) (n:=n) (fun _ h=>h.elim) kw a0.p a0.thread) rfl zrw rfl fun w10 v11 hb hr12 r=>?_
 have hr12:=hr12.loud;have Z10:=hb.size;have H1:=keep hb H1;have H4:=keep hb H4;have H7:=keep hb H7;obtain ⟨hB,zB⟩:=bon hb hB;refine za0 (.func (.func 227) #[] #[zp b4]) r (fun R=>zae r rfl) rfl fun fr r=>?_;have hF1:∀ b,(kW F w0 w8 b7) b→b<w10.heap.size:=by rintro b (h | ⟨_,h,_⟩); exact Nat.lt_of_lt_of_le (hF b h) hB.size; exact Nat.lt_of_lt_of_le h kw
 have f16:((kW F w0 w8 b7)) b4:=(.inr ⟨kw,kw,kw⟩)
 have hF2:=zpI hF hB.size b7;refine kJ r (zdH (F:=(kW F w0 w10 b7)) (F2:=(kW F w0 w8 b7)) (n:=n) hF2 (by rintro b ⟨h,h'⟩; exact .inr ⟨kw,kw,kw⟩) (by rintro b (h | ⟨h1,h2,h3⟩); exact .inl h; exact .inr ⟨h1,kw,h3⟩) (by rintro b ⟨h1,h2⟩ (h | ⟨h3,h4,_⟩); (have:=hF b h; omega); omega) (RepL.mono (F':=fun b=>w8.heap.size≤b∧b<w10.heap.size) (by rintro b (h | h); exact h.elim; exact h) (Same.refl _ _) (Nat.le_refl _) n _ _ hr12) ⟨227,[],[zp b4],zu6,rfl,fun m hm _ w' hs hz=>zk8 (fun b hb=>Nat.lt_of_lt_of_le (hF1 b hb) hz) a1 f16 (hs.at_ f16 H4)⟩) rfl zr7 rfl fun w13 v14 hb hr15 r=>?_
 have Z13:=hb.size;have H7:=zpA hb H7 (by rintro (h | ⟨_,_,h⟩); (have:=hF _ h; omega); exact h rfl)
 have hB:=Chg.zpr (Z:=F) hB;have hB:=hB.zpF hb (by rintro b hlt (h | ⟨h,_⟩); exact h; omega)
 have zB:=hB.size;refine kP r hr15.shape rfl rfl H7 ts57 rfl rfl fun w17 u18 r=>?_;have Z17:=u18.size
 have H7:=u18.at_;have hB:=hB.zpE u18 (.inl kw)
 have zB:=hB.size;refine wn (wp_ret ?_);have hs:=hr15.shape.cells;refine za5 r rfl rfl H7 (k:=8) hs.1 ta57 ?_;rw [←hs.2.2];exact zpf.fin hB hr15 u18 (by rintro b (h | ⟨h1,h2,_⟩); exact .inl h; exact .inr ⟨h1,h2⟩) (by rintro (h | ⟨_,_,h⟩); (have:=hF _ h; omega); exact h rfl) kw kw kw
def D.zdk (j:Nat) (r_list_put:Seat→Int→Int→Int→T Res) (c0:Seat) (c1:Int) (c2:Int) (c3:Int) (a0:Bool):T Res:=(bif (!a0) then (r_list_put c0 c1 c2 c3) else (D.zc1 j c0 (⟨0,0⟩:Res)))
def D.zfq (j:Nat) (r_list_put:Seat→Int→Int→Int→T Res) (c0:Walk) (c1:Int) (c2:Seat) (c3:Int) (c4:Int):T Res:=(D.zbZ c0.place c0.cur (D.zfS c1) (fun x=>(D.zdk j r_list_put c2 c3 c4 c1 x)))
def D.zeg (j:Nat) (r_list_put:Seat→Int→Int→Int→T Res) (c0:Seat) (c1:Int) (c2:Int) (c3:Int) (a0:Walk):T Res:=(bif a0.there then (T.bind (D.zfn j c0.p c0.thread) (fun _=>(D.zeA j c0 c1))) else (D.zbw (D.za8 c0.p c1 2) a0.cur (fun _=>(D.zfq j r_list_put a0 c1 c0 c2 c3))))
def D.ziy (j:Nat) (r_list_put:Seat→Int→Int→Int→T Res) (a0:Seat) (a1:Int) (a2:Int) (a3:Int):T Res:=(T.bind (D.zfR j (D.zb0 j j) a0 a1 a2) (fun x=>(D.zeg j r_list_put a0 a3 a1 a2 x)))
def D.zeX (j:Nat):Nat→Seat→Int→Int→Int→T Res
  | 0,_,_,_,_=>.cut
  | k+1,a0,a1,a2,a3=>D.ziy j (D.zeX j k) a0 a1 a2 a3
def ze5 (r:Seat→Int→Int→Int→T Res) (n:Nat):Prop:=∀ (F:Nat→Prop) (w0:World),(∀ b,F b→b<w0.heap.size)→∀ (a0:Seat) (a1:Int) (a2:Int) (a3:Int),Calls Tryz.prog 119 #[.agg (zpH a0).toArray,.int .i64 a1,.int .u64 a2,.int .i64 a3] w0 (zpf Tryz.prog zpj n (r a0 a1 a2 a3) F w0)
set_option maxRecDepth 20000 in
set_option maxHeartbeats 8000000 in
theorem ziW {r_list_put:Seat→Int→Int→Int→T Res} (hF:kH F w0) (hj:n<j) (ih_list_put:∀ m,m≤n→ze5 r_list_put m)
    (c0:Seat) {c0b:Nat} (c0F:F c0b) (c0h:w0.heap[c0b]?=some (.cells ((zpH c0)).toArray 63 (0,0))) (c1:Int) {c1b:Nat} (c1F:F c1b) (c1h:w0.heap[c1b]?=some (.cells ([(.int .i64 c1)]).toArray 3 (0,0))) (c2:Int) {c2b:Nat} (c2F:F c2b) (c2h:w0.heap[c2b]?=some (.cells ([(.int .u64 c2)]).toArray 36 (0,0))) (c3:Int) {c3b:Nat} (c3F:F c3b) (c3h:w0.heap[c3b]?=some (.cells ([(.int .i64 c3)]).toArray 3 (0,0))) (a0:Bool) :
    Calls Tryz.prog 221 #[.bool a0,zp c0b,zp c1b,zp c2b,zp c3b] w0 (zpf Tryz.prog zpj n (D.zdk j r_list_put c0 c1 c2 c3 a0) F w0):=by
 refine kN Tryz.func221 rfl 17 rfl rfl fun fr r hB=>?_;have lc0b:=lt_of_block c0h
 have lc1b:=lt_of_block c1h;have lc2b:=lt_of_block c2h;have lc3b:=lt_of_block c3h;refine wsr ?_;refine za7 (.cells (zpc false zpj.zero 0 0 0 0 .nilFunc) 57 (0,0)) r (fun R=>za6 tz57) rfl fun fr b1 w2 n3 r=>?_;obtain ⟨E1,Z2,H1,hB,zB⟩:=n3.all hB
 refine wn (wp_seq (wsr (kM (.bool a0) r rfl rfl fun r=>za0 (.bool (!a0)) r (fun R=>y_un r (u:=(.bool a0)) rfl rfl) rfl fun fr r=>wn ?_)));refine wp_cond_split (t:=(!a0)) (r.ev rfl) (fun h4=>?_) (fun h4=>?_)
 ·
  refine wsr (kG (zpH c0) 8 r rfl (keep hB c0h) ta63 rfl rfl fun r=>kL (I c1) r rfl (keep hB c1h) to3 rfl rfl fun r=>kL (U c2) r rfl (keep hB c2h) to36 rfl rfl fun r=>kL (I c3) r rfl (keep hB c3h) to3 rfl rfl fun r=>?_);refine kJ r ((ih_list_put n kw) (No) _ (fun _ h=>h.elim) c0 c1 c2 c3) rfl zsd rfl fun w5 v6 hb hr7 r=>?_
  have hb:=hb.below;have Z5:=hb.size;have H1:=keep hb H1;obtain ⟨hB,zB⟩:=bon hb hB;refine kP r hr7.shape rfl rfl H1 ts57 rfl rfl fun w8 u9 r=>?_;have Z8:=u9.size
  have H1:=u9.at_;obtain ⟨hB,zB⟩:=u9.on hB kw
  refine wn (wp_ret ?_);have hd:D.zdk j r_list_put c0 c1 c2 c3 a0=(r_list_put c0 c1 c2 c3):=(zal h4).trans (rfl);have hs:=hr7.shape.cells;refine za5 r rfl rfl H1 (k:=8) hs.1 ta57 ?_;rw [←hs.2.2,hd];exact zpf.fin (Chg.zpr hB) hr7 u9 (fun _ h=>h.elim) (fun h=>h) kw kw kw
 refine wp_skip (wsr (kG (zpH c0) 8 r rfl (keep hB c0h) ta63 rfl rfl fun r=>kU (.agg (resC (⟨0,0⟩:Res)).toArray) r kz rfl fun r=>?_));refine kJ r (zd5 (j:=j) (F:=No) (n:=n) (fun _ h=>h.elim) kw c0 (⟨0,0⟩:Res)) rfl zqo rfl fun w10 v11 hb hr12 r=>?_
 have hb:=hb.below;have Z10:=hb.size;have H1:=keep hb H1;obtain ⟨hB,zB⟩:=bon hb hB;refine kP r hr12.shape rfl rfl H1 ts57 rfl rfl fun w13 u14 r=>?_;have Z13:=u14.size
 have H1:=u14.at_;obtain ⟨hB,zB⟩:=u14.on hB kw
 refine wn (wp_ret ?_);have hd:D.zdk j r_list_put c0 c1 c2 c3 a0=(D.zc1 j c0 (⟨0,0⟩:Res)):=(zaf h4).trans (rfl);have hs:=hr12.shape.cells;refine za5 r rfl rfl H1 (k:=8) hs.1 ta57 ?_;rw [←hs.2.2,hd];exact zpf.fin (Chg.zpr hB) hr12 u14 (fun _ h=>h.elim) (fun h=>h) kw kw kw
set_option maxRecDepth 20000 in
set_option maxHeartbeats 8000000 in
theorem zka {r_list_put:Seat→Int→Int→Int→T Res} (hF:kH F w0) (hj:n<j) (ih_list_put:∀ m,m<n→ze5 r_list_put m)
    (c0:Walk) {c0b:Nat} (c0F:F c0b) (c0h:w0.heap[c0b]?=some (.cells ((zpC c0)).toArray 206 (0,0))) (c1:Int) {c1b:Nat} (c1F:F c1b) (c1h:w0.heap[c1b]?=some (.cells ([(.int .i64 c1)]).toArray 3 (0,0))) (c2:Seat) {c2b:Nat} (c2F:F c2b) (c2h:w0.heap[c2b]?=some (.cells ((zpH c2)).toArray 63 (0,0))) (c3:Int) {c3b:Nat} (c3F:F c3b) (c3h:w0.heap[c3b]?=some (.cells ([(.int .i64 c3)]).toArray 3 (0,0))) (c4:Int) {c4b:Nat} (c4F:F c4b) (c4h:w0.heap[c4b]?=some (.cells ([(.int .u64 c4)]).toArray 36 (0,0))) :
    Calls Tryz.prog 219 #[zp c0b,zp c1b,zp c2b,zp c3b,zp c4b] w0 (zpf Tryz.prog zpj n (D.zfq j r_list_put c0 c1 c2 c3 c4) F w0):=by
 refine kN Tryz.func219 rfl 14 rfl rfl fun fr r hB=>?_;have lc0b:=lt_of_block c0h
 have lc1b:=lt_of_block c1h;have lc2b:=lt_of_block c2h;have lc3b:=lt_of_block c3h;have lc4b:=lt_of_block c4h;refine wsr ?_;refine za7 (.cells (zpc false zpj.zero 0 0 0 0 .nilFunc) 57 (0,0)) r (fun R=>za6 tz57) rfl fun fr b1 w2 n3 r=>?_;have c0h:=keep n3.below c0h
 have c1h:=keep n3.below c1h;have c2h:=keep n3.below c2h;have c3h:=keep n3.below c3h;have c4h:=keep n3.below c4h;obtain ⟨E1,Z2,H1,hB,zB⟩:=n3.all hB;refine wn (wp_seq ?_);refine zaM 7 [.val (.pointer (some ⟨c0b,10,none⟩)),.val (I c0.place),.val (.pointer (some ⟨c0b,11,none⟩)),.val (U c0.cur),.val (I c1),.val (U (D.zfS c1)),.val (.func (.func 221) #[] #[zp c2b,zp c3b,zp c4b,zp c1b])] mixed r kz (kV (kV (kV (kV (kV (kV (kV zaB))))))) ?_ ?_
 ·
  refine ec r (fun _ u _ b d s=>za3 s (b:=c0b) (o:=0) rfl zkj bz) (ec r (fun _ u _ b d s=>za4 s d.1 (keep b c0h) to3 rfl bz) (ec r (fun _ u _ b d s=>za3 s (b:=c0b) (o:=0) rfl zf4 bz) (ec r (fun _ u _ b d s=>za4 s d.1 (keep b c0h) to36 rfl bz) (ec r (fun _ u _ b d s=>za4 s rfl (keep b c1h) to3 rfl bz) (ec r (fun fr1 u w' hb' hd r'=>zaC r' (args:=[(I c1)]) (lc hd.1 l0) ztd ((zlQ _ c1).mono (by rintro _ w2 ⟨rfl,hb2⟩; exact ⟨_,rfl,hb2,rfl⟩))) (ec r (fun _ u _ b d s=>zae s (v:=(.func (.func 221) #[] #[zp c2b,zp c3b,zp c4b,zp c1b])) rfl bz) ?_))))));exact zaW
 intro fr u w4 hb hΦ hne r;have r:=r.congr (sc (hΦ 6 ke) (sc (hΦ 5 ke) (sc (hΦ 4 ke) (sc (hΦ 3 ke) (sc (hΦ 2 ke) (sc (hΦ 1 ke) (sc (hΦ 0 ke) rfl)))))));have Z4:=hb.size;have c0h:=keep hb c0h;have c1h:=keep hb c1h;have c2h:=keep hb c2h;have c3h:=keep hb c3h;have c4h:=keep hb c4h;have H1:=keep hb H1;obtain ⟨hB,zB⟩:=bon hb hB;have hF1:=zpI hF hB.size b1;have f8:((kW F w0 w4 b1)) c2b:=(.inl c2F);have f9:((kW F w0 w4 b1)) c3b:=(.inl c3F);have f10:((kW F w0 w4 b1)) c4b:=(.inl c4F);have f11:((kW F w0 w4 b1)) c1b:=(.inl c1F);refine kJ r (zeN (F:=(kW F w0 w4 b1)) (n:=n) hF1 c0.place c0.cur (D.zfS c1) ⟨221,[],[zp c2b,zp c3b,zp c4b,zp c1b],zsz,rfl,fun m hm x w' hs hz=>ziW (j:=j) (fun b hb=>Nat.lt_of_lt_of_le (hF1 b hb) hz) kw (fun m' hm'=>ih_list_put m' kw) c2 f8 (hs.at_ f8 c2h) c3 f9 (hs.at_ f9 c3h) c4 f10 (hs.at_ f10 c4h) c1 f11 (hs.at_ f11 c1h) x⟩) rfl zr4 rfl fun w5 v6 hb hr7 r=>?_;have Z5:=hb.size
 have H1:=zpA hb H1 (by rintro (h | ⟨_,_,h⟩); (have:=hF _ h; omega); exact h rfl)
 have hB:=Chg.zpr (Z:=F) hB;have hB:=hB.zpF hb (by rintro b hlt (h | ⟨h,_⟩); exact h; omega)
 have zB:=hB.size;refine kP r hr7.shape rfl rfl H1 ts57 rfl rfl fun w12 u13 r=>?_;have Z12:=u13.size
 have H1:=u13.at_;have hB:=hB.zpE u13 (.inl kw)
 have zB:=hB.size;refine wn (wp_ret ?_);have hs:=hr7.shape.cells;refine za5 r rfl rfl H1 (k:=8) hs.1 ta57 ?_;rw [←hs.2.2];exact zpf.fin hB hr7 u13 (by rintro b (h | ⟨h1,h2,_⟩); exact .inl h; exact .inr ⟨h1,h2⟩) (by rintro (h | ⟨_,_,h⟩); (have:=hF _ h; omega); exact h rfl) kw kw kw
set_option maxRecDepth 20000 in
set_option maxHeartbeats 8000000 in
theorem zlt {r_list_put:Seat→Int→Int→Int→T Res} (hF:kH F w0) (hj:n<j) (ih_list_put:∀ m,m<n→ze5 r_list_put m)
    (c0:Seat) {c0b:Nat} (c0F:F c0b) (c0h:w0.heap[c0b]?=some (.cells ((zpH c0)).toArray 63 (0,0))) (c1:Int) {c1b:Nat} (c1F:F c1b) (c1h:w0.heap[c1b]?=some (.cells ([(.int .i64 c1)]).toArray 3 (0,0))) (c2:Int) {c2b:Nat} (c2F:F c2b) (c2h:w0.heap[c2b]?=some (.cells ([(.int .i64 c2)]).toArray 3 (0,0))) (c3:Int) {c3b:Nat} (c3F:F c3b) (c3h:w0.heap[c3b]?=some (.cells ([(.int .u64 c3)]).toArray 36 (0,0))) (a0:Walk) :
    Calls Tryz.prog 213 #[.agg (zpC a0).toArray,zp c0b,zp c1b,zp c2b,zp c3b] w0 (zpf Tryz.prog zpj n (D.zeg j r_list_put c0 c1 c2 c3 a0) F w0):=by
 refine kN Tryz.func213 rfl 24 rfl rfl fun fr r hB=>?_;have lc0b:=lt_of_block c0h
 have lc1b:=lt_of_block c1h;have lc2b:=lt_of_block c2h;have lc3b:=lt_of_block c3h;refine wsr ?_;refine kX 206 (.agg (zpC a0).toArray) r rfl rfl fun b1 w2 n3 r=>?_;have c0h:=keep n3.below c0h
 have c1h:=keep n3.below c1h;have c2h:=keep n3.below c2h;have c3h:=keep n3.below c3h;obtain ⟨E1,Z2,H1,hB,zB⟩:=n3.all hB;refine za7 (.cells (zpc false zpj.zero 0 0 0 0 .nilFunc) 57 (0,0)) r (fun R=>za6 tz57) rfl fun fr b4 w5 n6 r=>?_;have c0h:=keep n6.below c0h
 have c1h:=keep n6.below c1h;have c2h:=keep n6.below c2h;have c3h:=keep n6.below c3h;have H1:=keep n6.below H1;obtain ⟨E4,Z5,H4,hB,zB⟩:=n6.all hB;refine wn (wp_seq (wsr (kF 0 r rfl zjR rfl fun r=>kL (.bool a0.there) r rfl H1 to4 rfl rfl fun r=>wn ?_)));refine wp_cond_split (t:=a0.there) (r.ev rfl) (fun h7=>?_) (fun h7=>?_)
 ·
  refine wsr (kF 0 r rfl zew rfl fun r=>kG (zpe c0.p) 6 r rfl c0h ta23 rfl rfl fun r=>kF 0 r rfl zjO rfl fun r=>kL (I c0.thread) r rfl c0h to3 rfl rfl fun r=>?_);refine kD r (zhG (j:=j) (F:=No) (n:=n) (fun _ h=>h.elim) kw c0.p c0.thread) rfl zrw rfl fun w8 v9 hb hr10 r=>?_
  have hr10:=hr10.loud;have Z8:=hb.size;have c0h:=keep hb c0h;have c1h:=keep hb c1h;have c2h:=keep hb c2h;have c3h:=keep hb c3h;have H1:=keep hb H1;have H4:=keep hb H4;obtain ⟨hB,zB⟩:=bon hb hB;refine za0 (.func (.func 216) #[] #[zp c0b,zp c1b]) r (fun R=>zae r rfl) rfl fun fr r=>?_;have hF1:∀ b,(kW F w0 w5 b4) b→b<w8.heap.size:=by rintro b (h | ⟨_,h,_⟩); exact Nat.lt_of_lt_of_le (hF b h) hB.size; exact Nat.lt_of_lt_of_le h kw
  have f14:((kW F w0 w5 b4)) c0b:=(.inl c0F);have f15:((kW F w0 w5 b4)) c1b:=(.inl c1F);have hF2:=zpI hF hB.size b4;refine kJ r (zdH (F:=(kW F w0 w8 b4)) (F2:=(kW F w0 w5 b4)) (n:=n) hF2 (by rintro b ⟨h,h'⟩; exact .inr ⟨kw,kw,kw⟩) (by rintro b (h | ⟨h1,h2,h3⟩); exact .inl h; exact .inr ⟨h1,kw,h3⟩) (by rintro b ⟨h1,h2⟩ (h | ⟨h3,h4,_⟩); (have:=hF b h; omega); omega) (RepL.mono (F':=fun b=>w5.heap.size≤b∧b<w8.heap.size) (by rintro b (h | h); exact h.elim; exact h) (Same.refl _ _) (Nat.le_refl _) n _ _ hr10) ⟨216,[],[zp c0b,zp c1b],ztj,rfl,fun m hm _ w' hs hz=>zk0 (j:=j) (fun b hb=>Nat.lt_of_lt_of_le (hF1 b hb) hz) kw c0 f14 (hs.at_ f14 c0h) c1 f15 (hs.at_ f15 c1h)⟩) rfl zr7 rfl fun w11 v12 hb hr13 r=>?_
  have Z11:=hb.size;have H4:=zpA hb H4 (by rintro (h | ⟨_,_,h⟩); (have:=hF _ h; omega); exact h rfl)
  have hB:=Chg.zpr (Z:=F) hB;have hB:=hB.zpF hb (by rintro b hlt (h | ⟨h,_⟩); exact h; omega)
  have zB:=hB.size;refine kP r hr13.shape rfl rfl H4 ts57 rfl rfl fun w16 u17 r=>?_;have Z16:=u17.size
  have H4:=u17.at_;have hB:=hB.zpE u17 (.inl kw)
  have zB:=hB.size;refine wn (wp_ret ?_);have hd:D.zeg j r_list_put c0 c1 c2 c3 a0=(T.bind (D.zfn j c0.p c0.thread) (fun _=>(D.zeA j c0 c1))):=(zal h7).trans (rfl)
  have hs:=hr13.shape.cells;refine za5 r rfl rfl H4 (k:=8) hs.1 ta57 ?_;rw [←hs.2.2,hd];exact zpf.fin hB hr13 u17 (by rintro b (h | ⟨h1,h2,_⟩); exact .inl h; exact .inr ⟨h1,h2⟩) (by rintro (h | ⟨_,_,h⟩); (have:=hF _ h; omega); exact h rfl) kw kw kw
 refine wp_skip (wp_seq ?_);refine zaM 7 [.val (zp c0b),.val (.agg (zpe c0.p).toArray),.val (I c1),.val (I (D.za8 c0.p c1 2)),.val (.pointer (some ⟨b1,11,none⟩)),.val (U a0.cur),.val (.func (.func 219) #[] #[zp b1,zp c1b,zp c0b,zp c2b,zp c3b])] mixed r kz (kV (kV (kV (kV (kV (kV (kV zaB))))))) ?_ ?_
 ·
  refine ec r (fun _ u _ b d s=>za3 s (b:=c0b) (o:=0) rfl zew bz) (ec r (fun _ u _ b d s=>zag s (cs:=(zpe c0.p)) (n:=6) d.1 (keep b c0h) ta23 rfl bz) (ec r (fun _ u _ b d s=>za4 s rfl (keep b c1h) to3 rfl bz) (ec r (fun fr1 u w' hb' hd r'=>zaC r' (args:=[(.agg (zpe c0.p).toArray),(I c1),(I 2)]) (lc hd.1 (lc hd.2.1 (lc rfl l0))) cl85 ((zb4 _ c0.p c1 2).mono (by rintro _ w2 ⟨rfl,hb2⟩; exact ⟨_,rfl,hb2,rfl⟩))) (ec r (fun _ u _ b d s=>za3 s (b:=b1) (o:=0) rfl zf4 bz) (ec r (fun _ u _ b d s=>za4 s d.1 (keep b H1) to36 rfl bz) (ec r (fun _ u _ b d s=>zae s (v:=(.func (.func 219) #[] #[zp b1,zp c1b,zp c0b,zp c2b,zp c3b])) rfl bz) ?_))))));exact zaW
 intro fr u w18 hb hΦ hne r;have r:=r.congr (sc (hΦ 6 ke) (sc (hΦ 5 ke) (sc (hΦ 4 ke) (sc (hΦ 3 ke) (sc (hΦ 2 ke) (sc (hΦ 1 ke) (sc (hΦ 0 ke) rfl)))))));have Z18:=hb.size;have c0h:=keep hb c0h;have c1h:=keep hb c1h;have c2h:=keep hb c2h;have c3h:=keep hb c3h;have H1:=keep hb H1;have H4:=keep hb H4;obtain ⟨hB,zB⟩:=bon hb hB;have hF1:=zpI hF hB.size b4;have f22:((kW F w0 w18 b4)) b1:=(.inr ⟨kw,kw,kw⟩)
 have f23:((kW F w0 w18 b4)) c1b:=(.inl c1F);have f24:((kW F w0 w18 b4)) c0b:=(.inl c0F);have f25:((kW F w0 w18 b4)) c2b:=(.inl c2F);have f26:((kW F w0 w18 b4)) c3b:=(.inl c3F);refine kJ r (zeo (F:=(kW F w0 w18 b4)) (n:=n) hF1 (D.za8 c0.p c1 2) a0.cur ⟨219,[],[zp b1,zp c1b,zp c0b,zp c2b,zp c3b],ztA,rfl,fun m hm _ w' hs hz=>zka (j:=j) (fun b hb=>Nat.lt_of_lt_of_le (hF1 b hb) hz) kw (fun m' hm'=>ih_list_put m' kw) a0 f22 (hs.at_ f22 H1) c1 f23 (hs.at_ f23 c1h) c0 f24 (hs.at_ f24 c0h) c2 f25 (hs.at_ f25 c2h) c3 f26 (hs.at_ f26 c3h)⟩) rfl zr2 rfl fun w19 v20 hb hr21 r=>?_;have Z19:=hb.size
 have H4:=zpA hb H4 (by rintro (h | ⟨_,_,h⟩); (have:=hF _ h; omega); exact h rfl)
 have hB:=Chg.zpr (Z:=F) hB;have hB:=hB.zpF hb (by rintro b hlt (h | ⟨h,_⟩); exact h; omega)
 have zB:=hB.size;refine kP r hr21.shape rfl rfl H4 ts57 rfl rfl fun w27 u28 r=>?_;have Z27:=u28.size
 have H4:=u28.at_;have hB:=hB.zpE u28 (.inl kw)
 have zB:=hB.size;refine wn (wp_ret ?_);have hd:D.zeg j r_list_put c0 c1 c2 c3 a0=(D.zbw (D.za8 c0.p c1 2) a0.cur (fun _=>(D.zfq j r_list_put a0 c1 c0 c2 c3))):=(zaf h7).trans (rfl)
 have hs:=hr21.shape.cells;refine za5 r rfl rfl H4 (k:=8) hs.1 ta57 ?_;rw [←hs.2.2,hd];exact zpf.fin hB hr21 u28 (by rintro b (h | ⟨h1,h2,_⟩); exact .inl h; exact .inr ⟨h1,h2⟩) (by rintro (h | ⟨_,_,h⟩); (have:=hF _ h; omega); exact h rfl) kw kw kw
set_option maxRecDepth 20000 in
set_option maxHeartbeats 8000000 in
theorem zn5 {n:Nat} {F:Nat→Prop} {j:Nat} {r_list_put:Seat→Int→Int→Int→T Res} {w0:World} (hF:∀ b,F b→b<w0.heap.size) (hj:n<j) (ih_list_put:∀ m,m<n→ze5 r_list_put m)
    (a0:Seat) (a1:Int) (a2:Int) (a3:Int) :
    Calls Tryz.prog 119 #[.agg (zpH a0).toArray,.int .i64 a1,.int .u64 a2,.int .i64 a3] w0 (zpf Tryz.prog zpj n (D.ziy j r_list_put a0 a1 a2 a3) F w0):=by
 refine kN Tryz.func119 rfl 15 rfl rfl fun fr r hB=>?_;refine wsr ?_
 refine kX 63 (.agg (zpH a0).toArray) r rfl rfl fun b1 w2 n3 r=>?_;obtain ⟨E1,Z2,H1,hB,zB⟩:=n3.all hB
 refine kX 3 (I a1) r rfl rfl fun b4 w5 n6 r=>?_;have H1:=keep n6.below H1
 obtain ⟨E4,Z5,H4,hB,zB⟩:=n6.all hB;refine kX 36 (U a2) r rfl rfl fun b7 w8 n9 r=>?_;have H1:=keep n9.below H1
 have H4:=keep n9.below H4;obtain ⟨E7,Z8,H7,hB,zB⟩:=n9.all hB;refine kX 3 (I a3) r rfl rfl fun b10 w11 n12 r=>?_;have H1:=keep n12.below H1
 have H4:=keep n12.below H4;have H7:=keep n12.below H7;obtain ⟨E10,Z11,H10,hB,zB⟩:=n12.all hB;refine za7 (.cells (zpc false zpj.zero 0 0 0 0 .nilFunc) 57 (0,0)) r (fun R=>za6 tz57) rfl fun fr b13 w14 n15 r=>?_;have H1:=keep n15.below H1
 have H4:=keep n15.below H4;have H7:=keep n15.below H7;have H10:=keep n15.below H10;obtain ⟨E13,Z14,H13,hB,zB⟩:=n15.all hB;refine wn (wsr (kG (zpH a0) 8 r rfl H1 ta63 rfl rfl fun r=>kL (I a1) r rfl H4 to3 rfl rfl fun r=>kL (U a2) r rfl H7 to36 rfl rfl fun r=>?_));refine kJ r (zfm (j:=j) (F:=No) (n:=n) (fun _ h=>h.elim) kw (fun m' hm'=>zd8 (j:=j) (k:=j) kw kw) a0 a1 a2) rfl zqH rfl fun w16 v17 hb hr18 r=>?_
 have hb:=hb.below;have Z16:=hb.size;have H1:=keep hb H1;have H4:=keep hb H4;have H7:=keep hb H7;have H10:=keep hb H10;have H13:=keep hb H13;obtain ⟨hB,zB⟩:=bon hb hB;refine za0 (.func (.func 213) #[] #[zp b1,zp b10,zp b4,zp b7]) r (fun R=>zae r rfl) rfl fun fr r=>?_;have hF1:∀ b,(kW F w0 w14 b13) b→b<w16.heap.size:=by rintro b (h | ⟨_,h,_⟩); exact Nat.lt_of_lt_of_le (hF b h) hB.size; exact Nat.lt_of_lt_of_le h kw
 have f22:((kW F w0 w14 b13)) b1:=(.inr ⟨kw,kw,kw⟩)
 have f23:((kW F w0 w14 b13)) b10:=(.inr ⟨kw,kw,kw⟩)
 have f24:((kW F w0 w14 b13)) b4:=(.inr ⟨kw,kw,kw⟩)
 have f25:((kW F w0 w14 b13)) b7:=(.inr ⟨kw,kw,kw⟩)
 have hF2:=zpI hF hB.size b13;refine kJ r (zbU (F:=(kW F w0 w16 b13)) (F2:=(kW F w0 w14 b13)) (n:=n) hF2 (by rintro b ⟨h,h'⟩; exact .inr ⟨kw,kw,kw⟩) (by rintro b (h | ⟨h1,h2,h3⟩); exact .inl h; exact .inr ⟨h1,kw,h3⟩) (by rintro b ⟨h1,h2⟩ (h | ⟨h3,h4,_⟩); (have:=hF b h; omega); omega) (RepL.mono (F':=fun b=>w14.heap.size≤b∧b<w16.heap.size) (by rintro b (h | h); exact h.elim; exact h) (Same.refl _ _) (Nat.le_refl _) n _ _ hr18) ⟨213,[],[zp b1,zp b10,zp b4,zp b7],zuw,rfl,fun m hm x w' hs hz=>zlt (j:=j) (fun b hb=>Nat.lt_of_lt_of_le (hF1 b hb) hz) kw (fun m' hm'=>ih_list_put m' kw) a0 f22 (hs.at_ f22 H1) a3 f23 (hs.at_ f23 H10) a1 f24 (hs.at_ f24 H4) a2 f25 (hs.at_ f25 H7) x⟩) rfl zqC rfl fun w19 v20 hb hr21 r=>?_
 have Z19:=hb.size;have H13:=zpA hb H13 (by rintro (h | ⟨_,_,h⟩); (have:=hF _ h; omega); exact h rfl)
 have hB:=Chg.zpr (Z:=F) hB;have hB:=hB.zpF hb (by rintro b hlt (h | ⟨h,_⟩); exact h; omega)
 have zB:=hB.size;refine kP r hr21.shape rfl rfl H13 ts57 rfl rfl fun w26 u27 r=>?_;have Z26:=u27.size
 have H13:=u27.at_;have hB:=hB.zpE u27 (.inl kw)
 have zB:=hB.size;refine wn (wp_ret ?_);have hs:=hr21.shape.cells;refine za5 r rfl rfl H13 (k:=8) hs.1 ta57 ?_;rw [←hs.2.2];exact zpf.fin hB hr21 u27 (by rintro b (h | ⟨h1,h2,_⟩); exact .inl h; exact .inr ⟨h1,h2⟩) (by rintro (h | ⟨_,_,h⟩); (have:=hF _ h; omega); exact h rfl) kw kw kw
theorem zmp {n:Nat} {j:Nat} (hj:n<j) {k:Nat} (hk:n<k):ze5 (D.zeX j k) n:=by
  induction n using Nat.strongRecOn generalizing k with
  | _ n ih=>
    obtain ⟨k,rfl⟩:∃ q,k=q+1:=⟨k - 1,kw⟩
    intro F w0 hF;have h:=@zn5 n F j (D.zeX j k) w0 hF hj (fun m hm=>ih m hm kw kw)
    exact h
def D.zhJ (j:Nat) (c0:Seat) (c1:Int) (c2:Int) (c3:Grant):T Res:=(D.zeX j j c0 c1 c2 c3.node)
set_option maxRecDepth 20000 in
set_option maxHeartbeats 8000000 in
theorem ziI (hF:kH F w0) (hj:n<j)
    (c0:Seat) {c0b:Nat} (c0F:F c0b) (c0h:w0.heap[c0b]?=some (.cells ((zpH c0)).toArray 63 (0,0))) (c1:Int) {c1b:Nat} (c1F:F c1b) (c1h:w0.heap[c1b]?=some (.cells ([(.int .i64 c1)]).toArray 3 (0,0))) (c2:Int) {c2b:Nat} (c2F:F c2b) (c2h:w0.heap[c2b]?=some (.cells ([(.int .u64 c2)]).toArray 36 (0,0))) (c3:Grant) {c3b:Nat} (c3F:F c3b) (c3h:w0.heap[c3b]?=some (.cells ((grantC c3)).toArray 35 (0,0))) :
    Calls Tryz.prog 118 #[zp c0b,zp c1b,zp c2b,zp c3b] w0 (zpf Tryz.prog zpj n (D.zhJ j c0 c1 c2 c3) F w0):=by
 refine kN Tryz.func118 rfl 11 rfl rfl fun fr r hB=>?_;have lc0b:=lt_of_block c0h
 have lc1b:=lt_of_block c1h;have lc2b:=lt_of_block c2h;have lc3b:=lt_of_block c3h;refine wsr ?_;refine za7 (.cells (zpc false zpj.zero 0 0 0 0 .nilFunc) 57 (0,0)) r (fun R=>za6 tz57) rfl fun fr b1 w2 n3 r=>?_;obtain ⟨E1,Z2,H1,hB,zB⟩:=n3.all hB
 refine wn (wsr (kG (zpH c0) 8 r rfl (keep hB c0h) ta63 rfl rfl fun r=>kL (I c1) r rfl (keep hB c1h) to3 rfl rfl fun r=>kL (U c2) r rfl (keep hB c2h) to36 rfl rfl fun r=>kF 0 r rfl znk rfl fun r=>kL (I c3.node) r rfl (keep hB c3h) to3 rfl rfl fun r=>?_));refine kJ r ((zmp (j:=j) (k:=j) (n:=n) kw kw) (No) _ (fun _ h=>h.elim) c0 c1 c2 c3.node) rfl zsd rfl fun w4 v5 hb hr6 r=>?_
 have hb:=hb.below;have Z4:=hb.size;have H1:=keep hb H1;obtain ⟨hB,zB⟩:=bon hb hB;refine kP r hr6.shape rfl rfl H1 ts57 rfl rfl fun w7 u8 r=>?_;have Z7:=u8.size
 have H1:=u8.at_;obtain ⟨hB,zB⟩:=u8.on hB kw
 refine wn (wp_ret ?_);have hs:=hr6.shape.cells;refine za5 r rfl rfl H1 (k:=8) hs.1 ta57 ?_;rw [←hs.2.2];exact zpf.fin (Chg.zpr hB) hr6 u8 (fun _ h=>h.elim) (fun h=>h) kw kw kw
def D.zfo (j:Nat) (c0:Seat) (c1:Grant) (c2:Int) (c3:Int) (c4:Int):T Res:=(D.zbw (D.za8 c0.p c1.node 1) c2 (fun _=>(D.zhJ j c0 c3 c4 c1)))
set_option maxRecDepth 20000 in
set_option maxHeartbeats 8000000 in
theorem zjS (hF:kH F w0) (hj:n<j)
    (c0:Seat) {c0b:Nat} (c0F:F c0b) (c0h:w0.heap[c0b]?=some (.cells ((zpH c0)).toArray 63 (0,0))) (c1:Grant) {c1b:Nat} (c1F:F c1b) (c1h:w0.heap[c1b]?=some (.cells ((grantC c1)).toArray 35 (0,0))) (c2:Int) {c2b:Nat} (c2F:F c2b) (c2h:w0.heap[c2b]?=some (.cells ([(.int .u64 c2)]).toArray 36 (0,0))) (c3:Int) {c3b:Nat} (c3F:F c3b) (c3h:w0.heap[c3b]?=some (.cells ([(.int .i64 c3)]).toArray 3 (0,0))) (c4:Int) {c4b:Nat} (c4F:F c4b) (c4h:w0.heap[c4b]?=some (.cells ([(.int .u64 c4)]).toArray 36 (0,0))) :
    Calls Tryz.prog 117 #[zp c0b,zp c1b,zp c2b,zp c3b,zp c4b] w0 (zpf Tryz.prog zpj n (D.zfo j c0 c1 c2 c3 c4) F w0):=by
 refine kN Tryz.func117 rfl 14 rfl rfl fun fr r hB=>?_;have lc0b:=lt_of_block c0h
 have lc1b:=lt_of_block c1h;have lc2b:=lt_of_block c2h;have lc3b:=lt_of_block c3h;have lc4b:=lt_of_block c4h;refine wsr ?_;refine za7 (.cells (zpc false zpj.zero 0 0 0 0 .nilFunc) 57 (0,0)) r (fun R=>za6 tz57) rfl fun fr b1 w2 n3 r=>?_;have c0h:=keep n3.below c0h
 have c1h:=keep n3.below c1h;have c2h:=keep n3.below c2h;have c3h:=keep n3.below c3h;have c4h:=keep n3.below c4h;obtain ⟨E1,Z2,H1,hB,zB⟩:=n3.all hB;refine wn (wp_seq ?_);refine zaM 7 [.val (zp c0b),.val (.agg (zpe c0.p).toArray),.val (zp c1b),.val (I c1.node),.val (I (D.za8 c0.p c1.node 1)),.val (U c2),.val (.func (.func 118) #[] #[zp c0b,zp c3b,zp c4b,zp c1b])] mixed r kz (kV (kV (kV (kV (kV (kV (kV zaB))))))) ?_ ?_
 ·
  refine ec r (fun _ u _ b d s=>za3 s (b:=c0b) (o:=0) rfl zew bz) (ec r (fun _ u _ b d s=>zag s (cs:=(zpe c0.p)) (n:=6) d.1 (keep b c0h) ta23 rfl bz) (ec r (fun _ u _ b d s=>za3 s (b:=c1b) (o:=0) rfl znk bz) (ec r (fun _ u _ b d s=>za4 s d.1 (keep b c1h) to3 rfl bz) (ec r (fun fr1 u w' hb' hd r'=>zaC r' (args:=[(.agg (zpe c0.p).toArray),(I c1.node),(I 1)]) (lc hd.1 (lc hd.2.1 (lc rfl l0))) cl85 ((zb4 _ c0.p c1.node 1).mono (by rintro _ w2 ⟨rfl,hb2⟩; exact ⟨_,rfl,hb2,rfl⟩))) (ec r (fun _ u _ b d s=>za4 s rfl (keep b c2h) to36 rfl bz) (ec r (fun _ u _ b d s=>zae s (v:=(.func (.func 118) #[] #[zp c0b,zp c3b,zp c4b,zp c1b])) rfl bz) ?_))))));exact zaW
 intro fr u w4 hb hΦ hne r;have r:=r.congr (sc (hΦ 6 ke) (sc (hΦ 5 ke) (sc (hΦ 4 ke) (sc (hΦ 3 ke) (sc (hΦ 2 ke) (sc (hΦ 1 ke) (sc (hΦ 0 ke) rfl)))))));have Z4:=hb.size;have c0h:=keep hb c0h;have c1h:=keep hb c1h;have c2h:=keep hb c2h;have c3h:=keep hb c3h;have c4h:=keep hb c4h;have H1:=keep hb H1;obtain ⟨hB,zB⟩:=bon hb hB;have hF1:=zpI hF hB.size b1;have f8:((kW F w0 w4 b1)) c0b:=(.inl c0F);have f9:((kW F w0 w4 b1)) c3b:=(.inl c3F);have f10:((kW F w0 w4 b1)) c4b:=(.inl c4F);have f11:((kW F w0 w4 b1)) c1b:=(.inl c1F);refine kJ r (zeo (F:=(kW F w0 w4 b1)) (n:=n) hF1 (D.za8 c0.p c1.node 1) c2 ⟨118,[],[zp c0b,zp c3b,zp c4b,zp c1b],zu0,rfl,fun m hm _ w' hs hz=>ziI (j:=j) (fun b hb=>Nat.lt_of_lt_of_le (hF1 b hb) hz) kw c0 f8 (hs.at_ f8 c0h) c3 f9 (hs.at_ f9 c3h) c4 f10 (hs.at_ f10 c4h) c1 f11 (hs.at_ f11 c1h)⟩) rfl zr2 rfl fun w5 v6 hb hr7 r=>?_;have Z5:=hb.size
 have H1:=zpA hb H1 (by rintro (h | ⟨_,_,h⟩); (have:=hF _ h; omega); exact h rfl)
 have hB:=Chg.zpr (Z:=F) hB;have hB:=hB.zpF hb (by rintro b hlt (h | ⟨h,_⟩); exact h; omega)
 have zB:=hB.size;refine kP r hr7.shape rfl rfl H1 ts57 rfl rfl fun w12 u13 r=>?_;have Z12:=u13.size
 have H1:=u13.at_;have hB:=hB.zpE u13 (.inl kw)
 have zB:=hB.size;refine wn (wp_ret ?_);have hs:=hr7.shape.cells;refine za5 r rfl rfl H1 (k:=8) hs.1 ta57 ?_;rw [←hs.2.2];exact zpf.fin hB hr7 u13 (by rintro b (h | ⟨h1,h2,_⟩); exact .inl h; exact .inr ⟨h1,h2⟩) (by rintro (h | ⟨_,_,h⟩); (have:=hF _ h; omega); exact h rfl) kw kw kw
def D.zcP (j:Nat) (c0:Seat) (c1:Int) (c2:Int) (c3:Int) (a0:Grant):T Res:=(bif (a0.e !=0) then (D.zgJ a0.e) else (D.zbw (D.za8 c0.p a0.node 0) c1 (fun _=>(D.zfo j c0 a0 c2 c3 c1))))
set_option maxRecDepth 20000 in
set_option maxHeartbeats 8000000 in
theorem zls (hF:kH F w0) (hj:n<j)
    (c0:Seat) {c0b:Nat} (c0F:F c0b) (c0h:w0.heap[c0b]?=some (.cells ((zpH c0)).toArray 63 (0,0))) (c1:Int) {c1b:Nat} (c1F:F c1b) (c1h:w0.heap[c1b]?=some (.cells ([(.int .u64 c1)]).toArray 36 (0,0))) (c2:Int) {c2b:Nat} (c2F:F c2b) (c2h:w0.heap[c2b]?=some (.cells ([(.int .u64 c2)]).toArray 36 (0,0))) (c3:Int) {c3b:Nat} (c3F:F c3b) (c3h:w0.heap[c3b]?=some (.cells ([(.int .i64 c3)]).toArray 3 (0,0))) (a0:Grant) :
    Calls Tryz.prog 114 #[.agg (grantC a0).toArray,zp c0b,zp c1b,zp c2b,zp c3b] w0 (zpf Tryz.prog zpj n (D.zcP j c0 c1 c2 c3 a0) F w0):=by
 refine kN Tryz.func114 rfl 21 rfl rfl fun fr r hB=>?_;have lc0b:=lt_of_block c0h
 have lc1b:=lt_of_block c1h;have lc2b:=lt_of_block c2h;have lc3b:=lt_of_block c3h;refine wsr ?_;refine kX 35 (.agg (grantC a0).toArray) r rfl rfl fun b1 w2 n3 r=>?_;have c0h:=keep n3.below c0h
 have c1h:=keep n3.below c1h;have c2h:=keep n3.below c2h;have c3h:=keep n3.below c3h;obtain ⟨E1,Z2,H1,hB,zB⟩:=n3.all hB;refine za7 (.cells (zpc false zpj.zero 0 0 0 0 .nilFunc) 57 (0,0)) r (fun R=>za6 tz57) rfl fun fr b4 w5 n6 r=>?_;have c0h:=keep n6.below c0h
 have c1h:=keep n6.below c1h;have c2h:=keep n6.below c2h;have c3h:=keep n6.below c3h;have H1:=keep n6.below H1;obtain ⟨E4,Z5,H4,hB,zB⟩:=n6.all hB;refine wn (wp_seq (wsr (kF 0 r rfl zom rfl fun r=>kL (I a0.e) r rfl H1 to33 rfl rfl fun r=>kB r rfl rfl rfl rfl rfl fun r=>wn ?_)));refine wp_cond_split (t:=(a0.e !=0)) (r.ev rfl) (fun h7=>?_) (fun h7=>?_)
 ·
  refine wsr (kF 0 r rfl zom rfl fun r=>kL (I a0.e) r rfl H1 to33 rfl rfl fun r=>?_);refine kJ r (zjc (F:=No) (n:=n) (fun _ h=>h.elim) a0.e) rfl zsq rfl fun w8 v9 hb hr10 r=>?_
  have hb:=hb.below;have Z8:=hb.size;have c0h:=keep hb c0h;have c1h:=keep hb c1h;have c2h:=keep hb c2h;have c3h:=keep hb c3h;have H1:=keep hb H1;have H4:=keep hb H4;obtain ⟨hB,zB⟩:=bon hb hB;refine kP r hr10.shape rfl rfl H4 ts57 rfl rfl fun w11 u12 r=>?_;have Z11:=u12.size
  have c0h:=u12.keep c0h kw
  have c1h:=u12.keep c1h kw
  have c2h:=u12.keep c2h kw
  have c3h:=u12.keep c3h kw
  have H1:=u12.keep H1 kw
  have H4:=u12.at_;obtain ⟨hB,zB⟩:=u12.on hB kw
  refine wn (wp_ret ?_);have hd:D.zcP j c0 c1 c2 c3 a0=(D.zgJ a0.e):=(zal h7).trans (rfl);have hs:=hr10.shape.cells;refine za5 r rfl rfl H4 (k:=8) hs.1 ta57 ?_;rw [←hs.2.2,hd];exact zpf.fin (Chg.zpr hB) hr10 u12 (fun _ h=>h.elim) (fun h=>h) kw kw kw
 refine wp_skip (wp_seq ?_);refine zaM 7 [.val (zp c0b),.val (.agg (zpe c0.p).toArray),.val (zp b1),.val (I a0.node),.val (I (D.za8 c0.p a0.node 0)),.val (U c1),.val (.func (.func 117) #[] #[zp c0b,zp b1,zp c2b,zp c3b,zp c1b])] mixed r kz (kV (kV (kV (kV (kV (kV (kV zaB))))))) ?_ ?_
 ·
  refine ec r (fun _ u _ b d s=>za3 s (b:=c0b) (o:=0) rfl zew bz) (ec r (fun _ u _ b d s=>zag s (cs:=(zpe c0.p)) (n:=6) d.1 (keep b c0h) ta23 rfl bz) (ec r (fun _ u _ b d s=>za3 s (b:=b1) (o:=0) rfl znk bz) (ec r (fun _ u _ b d s=>za4 s d.1 (keep b H1) to3 rfl bz) (ec r (fun fr1 u w' hb' hd r'=>zaC r' (args:=[(.agg (zpe c0.p).toArray),(I a0.node),(I 0)]) (lc hd.1 (lc hd.2.1 (lc rfl l0))) cl85 ((zb4 _ c0.p a0.node 0).mono (by rintro _ w2 ⟨rfl,hb2⟩; exact ⟨_,rfl,hb2,rfl⟩))) (ec r (fun _ u _ b d s=>za4 s rfl (keep b c1h) to36 rfl bz) (ec r (fun _ u _ b d s=>zae s (v:=(.func (.func 117) #[] #[zp c0b,zp b1,zp c2b,zp c3b,zp c1b])) rfl bz) ?_))))));exact zaW
 intro fr u w13 hb hΦ hne r;have r:=r.congr (sc (hΦ 6 ke) (sc (hΦ 5 ke) (sc (hΦ 4 ke) (sc (hΦ 3 ke) (sc (hΦ 2 ke) (sc (hΦ 1 ke) (sc (hΦ 0 ke) rfl)))))));have Z13:=hb.size;have c0h:=keep hb c0h;have c1h:=keep hb c1h;have c2h:=keep hb c2h;have c3h:=keep hb c3h;have H1:=keep hb H1;have H4:=keep hb H4;obtain ⟨hB,zB⟩:=bon hb hB;have hF1:=zpI hF hB.size b4;have f17:((kW F w0 w13 b4)) c0b:=(.inl c0F);have f18:((kW F w0 w13 b4)) b1:=(.inr ⟨kw,kw,kw⟩)
 have f19:((kW F w0 w13 b4)) c2b:=(.inl c2F);have f20:((kW F w0 w13 b4)) c3b:=(.inl c3F);have f21:((kW F w0 w13 b4)) c1b:=(.inl c1F);refine kJ r (zeo (F:=(kW F w0 w13 b4)) (n:=n) hF1 (D.za8 c0.p a0.node 0) c1 ⟨117,[],[zp c0b,zp b1,zp c2b,zp c3b,zp c1b],zu3,rfl,fun m hm _ w' hs hz=>zjS (j:=j) (fun b hb=>Nat.lt_of_lt_of_le (hF1 b hb) hz) kw c0 f17 (hs.at_ f17 c0h) a0 f18 (hs.at_ f18 H1) c2 f19 (hs.at_ f19 c2h) c3 f20 (hs.at_ f20 c3h) c1 f21 (hs.at_ f21 c1h)⟩) rfl zr2 rfl fun w14 v15 hb hr16 r=>?_;have Z14:=hb.size
 have H4:=zpA hb H4 (by rintro (h | ⟨_,_,h⟩); (have:=hF _ h; omega); exact h rfl)
 have hB:=Chg.zpr (Z:=F) hB;have hB:=hB.zpF hb (by rintro b hlt (h | ⟨h,_⟩); exact h; omega)
 have zB:=hB.size;refine kP r hr16.shape rfl rfl H4 ts57 rfl rfl fun w22 u23 r=>?_;have Z22:=u23.size
 have H4:=u23.at_;have hB:=hB.zpE u23 (.inl kw)
 have zB:=hB.size;refine wn (wp_ret ?_);have hd:D.zcP j c0 c1 c2 c3 a0=(D.zbw (D.za8 c0.p a0.node 0) c1 (fun _=>(D.zfo j c0 a0 c2 c3 c1))):=(zaf h7).trans (rfl)
 have hs:=hr16.shape.cells;refine za5 r rfl rfl H4 (k:=8) hs.1 ta57 ?_;rw [←hs.2.2,hd];exact zpf.fin hB hr16 u23 (by rintro b (h | ⟨h1,h2,_⟩); exact .inl h; exact .inr ⟨h1,h2⟩) (by rintro (h | ⟨_,_,h⟩); (have:=hF _ h; omega); exact h rfl) kw kw kw
def D.zeY (j:Nat) (a0:Seat) (a1:Int) (a2:Int) (a3:Int):T Res:=(T.bind (D.zdm j a0.p a0.thread 2) (fun x=>(D.zcP j a0 a2 a3 a1 x)))
set_option maxRecDepth 20000 in
set_option maxHeartbeats 8000000 in
theorem zkf (hF:kH F w0) (hj:n<j)
    (a0:Seat) (a1:Int) (a2:Int) (a3:Int) :
    Calls Tryz.prog 50 #[.agg (zpH a0).toArray,.int .i64 a1,.int .u64 a2,.int .u64 a3] w0 (zpf Tryz.prog zpj n (D.zeY j a0 a1 a2 a3) F w0):=by
 refine kN Tryz.func50 rfl 16 rfl rfl fun fr r hB=>?_;refine wsr ?_
 refine kX 63 (.agg (zpH a0).toArray) r rfl rfl fun b1 w2 n3 r=>?_;obtain ⟨E1,Z2,H1,hB,zB⟩:=n3.all hB
 refine kX 3 (I a1) r rfl rfl fun b4 w5 n6 r=>?_;have H1:=keep n6.below H1
 obtain ⟨E4,Z5,H4,hB,zB⟩:=n6.all hB;refine kX 36 (U a2) r rfl rfl fun b7 w8 n9 r=>?_;have H1:=keep n9.below H1
 have H4:=keep n9.below H4;obtain ⟨E7,Z8,H7,hB,zB⟩:=n9.all hB;refine kX 36 (U a3) r rfl rfl fun b10 w11 n12 r=>?_;have H1:=keep n12.below H1
 have H4:=keep n12.below H4;have H7:=keep n12.below H7;obtain ⟨E10,Z11,H10,hB,zB⟩:=n12.all hB;refine za7 (.cells (zpc false zpj.zero 0 0 0 0 .nilFunc) 57 (0,0)) r (fun R=>za6 tz57) rfl fun fr b13 w14 n15 r=>?_;have H1:=keep n15.below H1
 have H4:=keep n15.below H4;have H7:=keep n15.below H7;have H10:=keep n15.below H10;obtain ⟨E13,Z14,H13,hB,zB⟩:=n15.all hB;refine wn (wsr (kF 0 r rfl zew rfl fun r=>kG (zpe a0.p) 6 r rfl H1 ta23 rfl rfl fun r=>kF 0 r rfl zjO rfl fun r=>kL (I a0.thread) r rfl H1 to3 rfl rfl fun r=>?_));refine kD r (zmg (j:=j) (F:=No) (n:=n) (fun _ h=>h.elim) kw a0.p a0.thread 2) rfl cl74 rfl fun w16 v17 hb hr18 r=>?_
 have hr18:=hr18.loud;have Z16:=hb.size;have H1:=keep hb H1;have H4:=keep hb H4;have H7:=keep hb H7;have H10:=keep hb H10;have H13:=keep hb H13;obtain ⟨hB,zB⟩:=bon hb hB;refine za0 (.func (.func 114) #[] #[zp b1,zp b7,zp b10,zp b4]) r (fun R=>zae r rfl) rfl fun fr r=>?_;have hF1:∀ b,(kW F w0 w14 b13) b→b<w16.heap.size:=by rintro b (h | ⟨_,h,_⟩); exact Nat.lt_of_lt_of_le (hF b h) hB.size; exact Nat.lt_of_lt_of_le h kw
 have f22:((kW F w0 w14 b13)) b1:=(.inr ⟨kw,kw,kw⟩)
 have f23:((kW F w0 w14 b13)) b7:=(.inr ⟨kw,kw,kw⟩)
 have f24:((kW F w0 w14 b13)) b10:=(.inr ⟨kw,kw,kw⟩)
 have f25:((kW F w0 w14 b13)) b4:=(.inr ⟨kw,kw,kw⟩)
 have hF2:=zpI hF hB.size b13;refine kJ r (zfD (F:=(kW F w0 w16 b13)) (F2:=(kW F w0 w14 b13)) (n:=n) hF2 (by rintro b ⟨h,h'⟩; exact .inr ⟨kw,kw,kw⟩) (by rintro b (h | ⟨h1,h2,h3⟩); exact .inl h; exact .inr ⟨h1,kw,h3⟩) (by rintro b ⟨h1,h2⟩ (h | ⟨h3,h4,_⟩); (have:=hF b h; omega); omega) (RepL.mono (F':=fun b=>w14.heap.size≤b∧b<w16.heap.size) (by rintro b (h | h); exact h.elim; exact h) (Same.refl _ _) (Nat.le_refl _) n _ _ hr18) ⟨114,[],[zp b1,zp b7,zp b10,zp b4],zsJ,rfl,fun m hm x w' hs hz=>zls (j:=j) (fun b hb=>Nat.lt_of_lt_of_le (hF1 b hb) hz) kw a0 f22 (hs.at_ f22 H1) a2 f23 (hs.at_ f23 H7) a3 f24 (hs.at_ f24 H10) a1 f25 (hs.at_ f25 H4) x⟩) rfl zs4 rfl fun w19 v20 hb hr21 r=>?_
 have Z19:=hb.size;have H13:=zpA hb H13 (by rintro (h | ⟨_,_,h⟩); (have:=hF _ h; omega); exact h rfl)
 have hB:=Chg.zpr (Z:=F) hB;have hB:=hB.zpF hb (by rintro b hlt (h | ⟨h,_⟩); exact h; omega)
 have zB:=hB.size;refine kP r hr21.shape rfl rfl H13 ts57 rfl rfl fun w26 u27 r=>?_;have Z26:=u27.size
 have H13:=u27.at_;have hB:=hB.zpE u27 (.inl kw)
 have zB:=hB.size;refine wn (wp_ret ?_);have hs:=hr21.shape.cells;refine za5 r rfl rfl H13 (k:=8) hs.1 ta57 ?_;rw [←hs.2.2];exact zpf.fin hB hr21 u27 (by rintro b (h | ⟨h1,h2,_⟩); exact .inl h; exact .inr ⟨h1,h2⟩) (by rintro (h | ⟨_,_,h⟩); (have:=hF _ h; omega); exact h rfl) kw kw kw
def D.zeC (j:Nat) (c0:Seat) (c1:Int) (a0:Int):T Res:=(D.zc1 j c0 (⟨0,c1⟩:Res))
set_option maxRecDepth 20000 in
set_option maxHeartbeats 8000000 in
theorem zhZ (hF:kH F w0) (hj:n<j)
    (c0:Seat) {c0b:Nat} (c0F:F c0b) (c0h:w0.heap[c0b]?=some (.cells ((zpH c0)).toArray 63 (0,0))) (c1:Int) {c1b:Nat} (c1F:F c1b) (c1h:w0.heap[c1b]?=some (.cells ([(.int .u64 c1)]).toArray 36 (0,0))) (a0:Int) :
    Calls Tryz.prog 230 #[.int .i64 a0,zp c0b,zp c1b] w0 (zpf Tryz.prog zpj n (D.zeC j c0 c1 a0) F w0):=by
 refine kN Tryz.func230 rfl 9 rfl rfl fun fr r hB=>?_;have lc0b:=lt_of_block c0h
 have lc1b:=lt_of_block c1h;refine wsr ?_;refine za7 (.cells (zpc false zpj.zero 0 0 0 0 .nilFunc) 57 (0,0)) r (fun R=>za6 tz57) rfl fun fr b1 w2 n3 r=>?_;obtain ⟨E1,Z2,H1,hB,zB⟩:=n3.all hB
 refine wn (wsr (kG (zpH c0) 8 r rfl (keep hB c0h) ta63 rfl rfl fun r=>kL (U c1) r rfl (keep hB c1h) to36 rfl rfl fun r=>kU (.agg (resC (⟨0,c1⟩:Res)).toArray) r kz rfl fun r=>?_));refine kJ r (zd5 (j:=j) (F:=No) (n:=n) (fun _ h=>h.elim) kw c0 (⟨0,c1⟩:Res)) rfl zqo rfl fun w4 v5 hb hr6 r=>?_
 have hb:=hb.below;have Z4:=hb.size;have H1:=keep hb H1;obtain ⟨hB,zB⟩:=bon hb hB;refine kP r hr6.shape rfl rfl H1 ts57 rfl rfl fun w7 u8 r=>?_;have Z7:=u8.size
 have H1:=u8.at_;obtain ⟨hB,zB⟩:=u8.on hB kw
 refine wn (wp_ret ?_);have hs:=hr6.shape.cells;refine za5 r rfl rfl H1 (k:=8) hs.1 ta57 ?_;rw [←hs.2.2];exact zpf.fin (Chg.zpr hB) hr6 u8 (fun _ h=>h.elim) (fun h=>h) kw kw kw
def D.zeL (j:Nat) (c0:Seat) (c1:Int) (a0:Walk):T Res:=(D.zc1 j c0 (⟨0,c1⟩:Res))
set_option maxRecDepth 20000 in
set_option maxHeartbeats 8000000 in
theorem zhQ (hF:kH F w0) (hj:n<j)
    (c0:Seat) {c0b:Nat} (c0F:F c0b) (c0h:w0.heap[c0b]?=some (.cells ((zpH c0)).toArray 63 (0,0))) (c1:Int) {c1b:Nat} (c1F:F c1b) (c1h:w0.heap[c1b]?=some (.cells ([(.int .u64 c1)]).toArray 36 (0,0))) (a0:Walk) :
    Calls Tryz.prog 232 #[.agg (zpC a0).toArray,zp c0b,zp c1b] w0 (zpf Tryz.prog zpj n (D.zeL j c0 c1 a0) F w0):=by
 refine kN Tryz.func232 rfl 9 rfl rfl fun fr r hB=>?_;have lc0b:=lt_of_block c0h
 have lc1b:=lt_of_block c1h;refine wsr ?_;refine kX 206 (.agg (zpC a0).toArray) r rfl rfl fun b1 w2 n3 r=>?_;obtain ⟨E1,Z2,H1,hB,zB⟩:=n3.all hB
 refine za7 (.cells (zpc false zpj.zero 0 0 0 0 .nilFunc) 57 (0,0)) r (fun R=>za6 tz57) rfl fun fr b4 w5 n6 r=>?_;have H1:=keep n6.below H1
 obtain ⟨E4,Z5,H4,hB,zB⟩:=n6.all hB;refine wn (wsr (kG (zpH c0) 8 r rfl (keep hB c0h) ta63 rfl rfl fun r=>kL (U c1) r rfl (keep hB c1h) to36 rfl rfl fun r=>kU (.agg (resC (⟨0,c1⟩:Res)).toArray) r kz rfl fun r=>?_));refine kJ r (zd5 (j:=j) (F:=No) (n:=n) (fun _ h=>h.elim) kw c0 (⟨0,c1⟩:Res)) rfl zqo rfl fun w7 v8 hb hr9 r=>?_
 have hb:=hb.below;have Z7:=hb.size;have H1:=keep hb H1;have H4:=keep hb H4;obtain ⟨hB,zB⟩:=bon hb hB;refine kP r hr9.shape rfl rfl H4 ts57 rfl rfl fun w10 u11 r=>?_;have Z10:=u11.size
 have H1:=u11.keep H1 kw
 have H4:=u11.at_;obtain ⟨hB,zB⟩:=u11.on hB kw
 refine wn (wp_ret ?_);have hs:=hr9.shape.cells;refine za5 r rfl rfl H4 (k:=8) hs.1 ta57 ?_;rw [←hs.2.2];exact zpf.fin (Chg.zpr hB) hr9 u11 (fun _ h=>h.elim) (fun h=>h) kw kw kw
def D.zcK (j:Nat) (c0:Seat) (c1:Walk) (c2:Int) (a0:Bool):T Res:=(bif a0 then (T.bind (D.zcA j c0.p c0.thread (D.zak c1.cur)) (fun x=>(D.zeC j c0 c2 x))) else (T.bind (D.zbN j (D.zb0 j j) c1) (fun x=>(D.zeL j c0 c2 x))))
set_option maxRecDepth 20000 in
set_option maxHeartbeats 8000000 in
theorem ziR (hF:kH F w0) (hj:n<j)
    (c0:Seat) {c0b:Nat} (c0F:F c0b) (c0h:w0.heap[c0b]?=some (.cells ((zpH c0)).toArray 63 (0,0))) (c1:Walk) {c1b:Nat} (c1F:F c1b) (c1h:w0.heap[c1b]?=some (.cells ((zpC c1)).toArray 206 (0,0))) (c2:Int) {c2b:Nat} (c2F:F c2b) (c2h:w0.heap[c2b]?=some (.cells ([(.int .u64 c2)]).toArray 36 (0,0))) (a0:Bool) :
    Calls Tryz.prog 229 #[.bool a0,zp c0b,zp c1b,zp c2b] w0 (zpf Tryz.prog zpj n (D.zcK j c0 c1 c2 a0) F w0):=by
 refine kN Tryz.func229 rfl 21 rfl rfl fun fr r hB=>?_;have lc0b:=lt_of_block c0h
 have lc1b:=lt_of_block c1h;have lc2b:=lt_of_block c2h;refine wsr ?_;refine za7 (.cells (zpc false zpj.zero 0 0 0 0 .nilFunc) 57 (0,0)) r (fun R=>za6 tz57) rfl fun fr b1 w2 n3 r=>?_;have c0h:=keep n3.below c0h
 have c1h:=keep n3.below c1h;have c2h:=keep n3.below c2h;obtain ⟨E1,Z2,H1,hB,zB⟩:=n3.all hB;refine wn (wp_seq (wsr (kM (.bool a0) r rfl rfl fun r=>wn ?_)));refine wp_cond_split (t:=a0) (r.ev rfl) (fun h4=>?_) (fun h4=>?_)
 ·
  refine wp_seq ?_;refine zaM 9 [.val (zp c0b),.val (.agg (zpe c0.p).toArray),.val (.pointer (some ⟨c0b,7,none⟩)),.val (I c0.thread),.val (.pointer (some ⟨c1b,11,none⟩)),.val (U c1.cur),.val (I (D.zak c1.cur)),.pred (PrepP Tryz.prog zpi n (D.zcA j c0.p c0.thread (D.zak c1.cur)) No w2) (PrepP.st (fun _ h=>h.elim)),.val (.func (.func 230) #[] #[zp c0b,zp c2b])] mixed r kz (kV (kV (kV (kV (kV (kV (kV (kV (kV zaB))))))))) ?_ ?_
  ·
   refine ec r (fun _ u _ b d s=>za3 s (b:=c0b) (o:=0) rfl zew bz) (ec r (fun _ u _ b d s=>zag s (cs:=(zpe c0.p)) (n:=6) d.1 (keep b c0h) ta23 rfl bz) (ec r (fun _ u _ b d s=>za3 s (b:=c0b) (o:=0) rfl zjO bz) (ec r (fun _ u _ b d s=>za4 s d.1 (keep b c0h) to3 rfl bz) (ec r (fun _ u _ b d s=>za3 s (b:=c1b) (o:=0) rfl zf4 bz) (ec r (fun _ u _ b d s=>za4 s d.1 (keep b c1h) to36 rfl bz) (ec r (fun fr1 u w' hb' hd r'=>zaC r' (args:=[(U c1.cur)]) (lc hd.1 l0) zqb ((zcf _ c1.cur).mono (by rintro _ w2 ⟨rfl,hb2⟩; exact ⟨_,rfl,hb2,rfl⟩))) (ec r (fun fr1 u w' hb' hd r'=>zaC r' (args:=[(.agg (zpe c0.p).toArray),(I c0.thread),(I (D.zak c1.cur))]) (lc hd.1 (lc hd.2.1 (lc hd.2.2.1 l0))) cl82 ((zhN (j:=j) (F:=No) (n:=n) (fun _ h=>h.elim) kw c0.p c0.thread (D.zak c1.cur)).mono (by rintro _ w2 ⟨y,rfl,hb2,hr2⟩; exact ⟨_,rfl,hb2,PrepP.of (drB hb') hb2 hr2⟩))) (ec r (fun _ u _ b d s=>zae s (v:=(.func (.func 230) #[] #[zp c0b,zp c2b])) rfl bz) ?_))))))));exact zaW
  intro fr u w5 hb hΦ hne r;obtain ⟨v6,hv7⟩:∃ v,v=u 7:=⟨_,rfl⟩;have g7:u 7=v6:=hv7.symm;have hr7:=(hΦ 7 ke).2;rw [g7] at hr7
  have hr7:=hr7.loud;have r:=r.congr (sc (hΦ 8 ke) (sc g7 (sc (hΦ 6 ke) (sc (hΦ 5 ke) (sc (hΦ 4 ke) (sc (hΦ 3 ke) (sc (hΦ 2 ke) (sc (hΦ 1 ke) (sc (hΦ 0 ke) rfl)))))))))
  have Z5:=hb.size;have c0h:=keep hb c0h;have c1h:=keep hb c1h;have c2h:=keep hb c2h;have H1:=keep hb H1;obtain ⟨hB,zB⟩:=bon hb hB;have hF1:∀ b,(kW F w0 w2 b1) b→b<w5.heap.size:=by rintro b (h | ⟨_,h,_⟩); exact Nat.lt_of_lt_of_le (hF b h) hB.size; exact Nat.lt_of_lt_of_le h kw
  have f11:((kW F w0 w2 b1)) c0b:=(.inl c0F);have f12:((kW F w0 w2 b1)) c2b:=(.inl c2F);have hF2:=zpI hF hB.size b1;refine kJ r (zdY (F:=(kW F w0 w5 b1)) (F2:=(kW F w0 w2 b1)) (n:=n) hF2 (by rintro b ⟨h,h'⟩; exact .inr ⟨kw,kw,kw⟩) (by rintro b (h | ⟨h1,h2,h3⟩); exact .inl h; exact .inr ⟨h1,kw,h3⟩) (by rintro b ⟨h1,h2⟩ (h | ⟨h3,h4,_⟩); (have:=hF b h; omega); omega) (RepL.mono (F':=fun b=>w2.heap.size≤b∧b<w5.heap.size) (by rintro b (h | h); exact h.elim; exact h) (Same.refl _ _) (Nat.le_refl _) n _ _ hr7) ⟨230,[],[zp c0b,zp c2b],zsG,rfl,fun m hm x w' hs hz=>zhZ (j:=j) (fun b hb=>Nat.lt_of_lt_of_le (hF1 b hb) hz) kw c0 f11 (hs.at_ f11 c0h) c2 f12 (hs.at_ f12 c2h) x⟩) rfl zqW rfl fun w8 v9 hb hr10 r=>?_
  have Z8:=hb.size;have H1:=zpA hb H1 (by rintro (h | ⟨_,_,h⟩); (have:=hF _ h; omega); exact h rfl)
  have hB:=Chg.zpr (Z:=F) hB;have hB:=hB.zpF hb (by rintro b hlt (h | ⟨h,_⟩); exact h; omega)
  have zB:=hB.size;refine kP r hr10.shape rfl rfl H1 ts57 rfl rfl fun w13 u14 r=>?_;have Z13:=u14.size
  have H1:=u14.at_;have hB:=hB.zpE u14 (.inl kw)
  have zB:=hB.size;refine wn (wp_ret ?_);have hd:D.zcK j c0 c1 c2 a0=(T.bind (D.zcA j c0.p c0.thread (D.zak c1.cur)) (fun x=>(D.zeC j c0 c2 x))):=(zal h4).trans (rfl)
  have hs:=hr10.shape.cells;refine za5 r rfl rfl H1 (k:=8) hs.1 ta57 ?_;rw [←hs.2.2,hd];exact zpf.fin hB hr10 u14 (by rintro b (h | ⟨h1,h2,_⟩); exact .inl h; exact .inr ⟨h1,h2⟩) (by rintro (h | ⟨_,_,h⟩); (have:=hF _ h; omega); exact h rfl) kw kw kw
 refine wp_skip (wsr (kG (zpC c1) 14 r rfl c1h zpZ rfl rfl fun r=>?_));refine kJ r (zdb (j:=j) (F:=No) (n:=n) (fun _ h=>h.elim) kw (fun m' hm'=>zd8 (j:=j) (k:=j) kw kw) c1) rfl zqQ rfl fun w15 v16 hb hr17 r=>?_
 have hb:=hb.below;have Z15:=hb.size;have c0h:=keep hb c0h;have c1h:=keep hb c1h;have c2h:=keep hb c2h;have H1:=keep hb H1;obtain ⟨hB,zB⟩:=bon hb hB;refine za0 (.func (.func 232) #[] #[zp c0b,zp c2b]) r (fun R=>zae r rfl) rfl fun fr r=>?_;have hF1:∀ b,(kW F w0 w2 b1) b→b<w15.heap.size:=by rintro b (h | ⟨_,h,_⟩); exact Nat.lt_of_lt_of_le (hF b h) hB.size; exact Nat.lt_of_lt_of_le h kw
 have f21:((kW F w0 w2 b1)) c0b:=(.inl c0F);have f22:((kW F w0 w2 b1)) c2b:=(.inl c2F);have hF2:=zpI hF hB.size b1;refine kJ r (zbU (F:=(kW F w0 w15 b1)) (F2:=(kW F w0 w2 b1)) (n:=n) hF2 (by rintro b ⟨h,h'⟩; exact .inr ⟨kw,kw,kw⟩) (by rintro b (h | ⟨h1,h2,h3⟩); exact .inl h; exact .inr ⟨h1,kw,h3⟩) (by rintro b ⟨h1,h2⟩ (h | ⟨h3,h4,_⟩); (have:=hF b h; omega); omega) (RepL.mono (F':=fun b=>w2.heap.size≤b∧b<w15.heap.size) (by rintro b (h | h); exact h.elim; exact h) (Same.refl _ _) (Nat.le_refl _) n _ _ hr17) ⟨232,[],[zp c0b,zp c2b],ztF,rfl,fun m hm x w' hs hz=>zhQ (j:=j) (fun b hb=>Nat.lt_of_lt_of_le (hF1 b hb) hz) kw c0 f21 (hs.at_ f21 c0h) c2 f22 (hs.at_ f22 c2h) x⟩) rfl zqC rfl fun w18 v19 hb hr20 r=>?_
 have Z18:=hb.size;have H1:=zpA hb H1 (by rintro (h | ⟨_,_,h⟩); (have:=hF _ h; omega); exact h rfl)
 have hB:=Chg.zpr (Z:=F) hB;have hB:=hB.zpF hb (by rintro b hlt (h | ⟨h,_⟩); exact h; omega)
 have zB:=hB.size;refine kP r hr20.shape rfl rfl H1 ts57 rfl rfl fun w23 u24 r=>?_;have Z23:=u24.size
 have H1:=u24.at_;have hB:=hB.zpE u24 (.inl kw)
 have zB:=hB.size;refine wn (wp_ret ?_);have hd:D.zcK j c0 c1 c2 a0=(T.bind (D.zbN j (D.zb0 j j) c1) (fun x=>(D.zeL j c0 c2 x))):=(zaf h4).trans (rfl)
 have hs:=hr20.shape.cells;refine za5 r rfl rfl H1 (k:=8) hs.1 ta57 ?_;rw [←hs.2.2,hd];exact zpf.fin hB hr20 u24 (by rintro b (h | ⟨h1,h2,_⟩); exact .inl h; exact .inr ⟨h1,h2⟩) (by rintro (h | ⟨_,_,h⟩); (have:=hF _ h; omega); exact h rfl) kw kw kw
def D.zeB (j:Nat) (a0:Seat) (a1:Walk) (a2:Int):T Res:=(D.zbZ a1.place a1.cur a1.next (fun x=>(D.zcK j a0 a1 a2 x)))
set_option maxRecDepth 20000 in
set_option maxHeartbeats 8000000 in
theorem zjP (hF:kH F w0) (hj:n<j)
    (a0:Seat) (a1:Walk) (a2:Int) :
    Calls Tryz.prog 129 #[.agg (zpH a0).toArray,.agg (zpC a1).toArray,.int .u64 a2] w0 (zpf Tryz.prog zpj n (D.zeB j a0 a1 a2) F w0):=by
 refine kN Tryz.func129 rfl 15 rfl rfl fun fr r hB=>?_;refine wsr ?_
 refine kX 63 (.agg (zpH a0).toArray) r rfl rfl fun b1 w2 n3 r=>?_;obtain ⟨E1,Z2,H1,hB,zB⟩:=n3.all hB
 refine kX 206 (.agg (zpC a1).toArray) r rfl rfl fun b4 w5 n6 r=>?_;have H1:=keep n6.below H1
 obtain ⟨E4,Z5,H4,hB,zB⟩:=n6.all hB;refine kX 36 (U a2) r rfl rfl fun b7 w8 n9 r=>?_;have H1:=keep n9.below H1
 have H4:=keep n9.below H4;obtain ⟨E7,Z8,H7,hB,zB⟩:=n9.all hB;refine za7 (.cells (zpc false zpj.zero 0 0 0 0 .nilFunc) 57 (0,0)) r (fun R=>za6 tz57) rfl fun fr b10 w11 n12 r=>?_;have H1:=keep n12.below H1
 have H4:=keep n12.below H4;have H7:=keep n12.below H7;obtain ⟨E10,Z11,H10,hB,zB⟩:=n12.all hB;refine wn (wsr (kF 0 r rfl zkj rfl fun r=>kL (I a1.place) r rfl H4 to3 rfl rfl fun r=>kF 0 r rfl zf4 rfl fun r=>kL (U a1.cur) r rfl H4 to36 rfl rfl fun r=>kF 0 r rfl zh1 rfl fun r=>kL (U a1.next) r rfl H4 to36 rfl rfl fun r=>za0 (.func (.func 229) #[] #[zp b1,zp b4,zp b7]) r (fun R=>zae r rfl) rfl fun fr r=>?_));have hF1:=zpI hF hB.size b10
 have f16:((kW F w0 w11 b10)) b1:=(.inr ⟨kw,kw,kw⟩)
 have f17:((kW F w0 w11 b10)) b4:=(.inr ⟨kw,kw,kw⟩)
 have f18:((kW F w0 w11 b10)) b7:=(.inr ⟨kw,kw,kw⟩)
 refine kJ r (zeN (F:=(kW F w0 w11 b10)) (n:=n) hF1 a1.place a1.cur a1.next ⟨229,[],[zp b1,zp b4,zp b7],zty,rfl,fun m hm x w' hs hz=>ziR (j:=j) (fun b hb=>Nat.lt_of_lt_of_le (hF1 b hb) hz) kw a0 f16 (hs.at_ f16 H1) a1 f17 (hs.at_ f17 H4) a2 f18 (hs.at_ f18 H7) x⟩) rfl zr4 rfl fun w13 v14 hb hr15 r=>?_;have Z13:=hb.size
 have H10:=zpA hb H10 (by rintro (h | ⟨_,_,h⟩); (have:=hF _ h; omega); exact h rfl)
 have hB:=Chg.zpr (Z:=F) hB;have hB:=hB.zpF hb (by rintro b hlt (h | ⟨h,_⟩); exact h; omega)
 have zB:=hB.size;refine kP r hr15.shape rfl rfl H10 ts57 rfl rfl fun w19 u20 r=>?_;have Z19:=u20.size
 have H10:=u20.at_;have hB:=hB.zpE u20 (.inl kw)
 have zB:=hB.size;refine wn (wp_ret ?_);have hs:=hr15.shape.cells;refine za5 r rfl rfl H10 (k:=8) hs.1 ta57 ?_;rw [←hs.2.2];exact zpf.fin hB hr15 u20 (by rintro b (h | ⟨h1,h2,_⟩); exact .inl h; exact .inr ⟨h1,h2⟩) (by rintro (h | ⟨_,_,h⟩); (have:=hF _ h; omega); exact h rfl) kw kw kw
def D.zdq (j:Nat) (r_list_Del:Seat→Int→Int→T Res) (c0:Seat) (c1:Int) (c2:Int) (c3:Walk) (c4:Int) (a0:Bool):T Res:=(bif (!a0) then (r_list_Del c0 c1 c2) else (D.zeB j c0 c3 c4))
def D.zfp (j:Nat) (r_list_Del:Seat→Int→Int→T Res) (c0:Seat) (c1:Int) (c2:Walk) (c3:Int) (c4:Int) (a0:Int):T Res:=(D.zbZ (D.za8 c0.p c1 2) c2.next (zdi .u64 c2.next 1) (fun x=>(D.zdq j r_list_Del c0 c3 c4 c2 a0 x)))
def D.zel (j:Nat) (r_list_Del:Seat→Int→Int→T Res) (c0:Seat) (c1:Int) (c2:Int) (a0:Walk):T Res:=(bif (!a0.there) then (D.zc1 j c0 (⟨6,0⟩:Res)) else (D.zbR (D.za8 c0.p (D.zak a0.cur) 1) (fun x=>(D.zfp j r_list_Del c0 (D.zak a0.cur) a0 c1 c2 x))))
def D.zit (j:Nat) (r_list_Del:Seat→Int→Int→T Res) (a0:Seat) (a1:Int) (a2:Int):T Res:=(T.bind (D.zfR j (D.zb0 j j) a0 a1 a2) (fun x=>(D.zel j r_list_Del a0 a1 a2 x)))
def D.ze1 (j:Nat):Nat→Seat→Int→Int→T Res
  | 0,_,_,_=>.cut
  | k+1,a0,a1,a2=>D.zit j (D.ze1 j k) a0 a1 a2
def zea (r:Seat→Int→Int→T Res) (n:Nat):Prop:=∀ (F:Nat→Prop) (w0:World),(∀ b,F b→b<w0.heap.size)→∀ (a0:Seat) (a1:Int) (a2:Int),Calls Tryz.prog 52 #[.agg (zpH a0).toArray,.int .i64 a1,.int .u64 a2] w0 (zpf Tryz.prog zpj n (r a0 a1 a2) F w0)
set_option maxRecDepth 20000 in
set_option maxHeartbeats 8000000 in
theorem zj8 {r_list_Del:Seat→Int→Int→T Res} (hF:kH F w0) (hj:n<j) (ih_list_Del:∀ m,m≤n→zea r_list_Del m)
    (c0:Seat) {c0b:Nat} (c0F:F c0b) (c0h:w0.heap[c0b]?=some (.cells ((zpH c0)).toArray 63 (0,0))) (c1:Int) {c1b:Nat} (c1F:F c1b) (c1h:w0.heap[c1b]?=some (.cells ([(.int .i64 c1)]).toArray 3 (0,0))) (c2:Int) {c2b:Nat} (c2F:F c2b) (c2h:w0.heap[c2b]?=some (.cells ([(.int .u64 c2)]).toArray 36 (0,0))) (c3:Walk) {c3b:Nat} (c3F:F c3b) (c3h:w0.heap[c3b]?=some (.cells ((zpC c3)).toArray 206 (0,0))) (c4:Int) {c4b:Nat} (c4F:F c4b) (c4h:w0.heap[c4b]?=some (.cells ([(.int .u64 c4)]).toArray 36 (0,0))) (a0:Bool) :
    Calls Tryz.prog 128 #[.bool a0,zp c0b,zp c1b,zp c2b,zp c3b,zp c4b] w0 (zpf Tryz.prog zpj n (D.zdq j r_list_Del c0 c1 c2 c3 c4 a0) F w0):=by
 refine kN Tryz.func128 rfl 18 rfl rfl fun fr r hB=>?_;have lc0b:=lt_of_block c0h
 have lc1b:=lt_of_block c1h;have lc2b:=lt_of_block c2h;have lc3b:=lt_of_block c3h;have lc4b:=lt_of_block c4h;refine wsr ?_;refine za7 (.cells (zpc false zpj.zero 0 0 0 0 .nilFunc) 57 (0,0)) r (fun R=>za6 tz57) rfl fun fr b1 w2 n3 r=>?_;obtain ⟨E1,Z2,H1,hB,zB⟩:=n3.all hB
 refine wn (wp_seq (wsr (kM (.bool a0) r rfl rfl fun r=>za0 (.bool (!a0)) r (fun R=>y_un r (u:=(.bool a0)) rfl rfl) rfl fun fr r=>wn ?_)));refine wp_cond_split (t:=(!a0)) (r.ev rfl) (fun h4=>?_) (fun h4=>?_)
 ·
  refine wsr (kG (zpH c0) 8 r rfl (keep hB c0h) ta63 rfl rfl fun r=>kL (I c1) r rfl (keep hB c1h) to3 rfl rfl fun r=>kL (U c2) r rfl (keep hB c2h) to36 rfl rfl fun r=>?_);refine kJ r ((ih_list_Del n kw) (No) _ (fun _ h=>h.elim) c0 c1 c2) rfl cl52 rfl fun w5 v6 hb hr7 r=>?_
  have hb:=hb.below;have Z5:=hb.size;have H1:=keep hb H1;obtain ⟨hB,zB⟩:=bon hb hB;refine kP r hr7.shape rfl rfl H1 ts57 rfl rfl fun w8 u9 r=>?_;have Z8:=u9.size
  have H1:=u9.at_;obtain ⟨hB,zB⟩:=u9.on hB kw
  refine wn (wp_ret ?_);have hd:D.zdq j r_list_Del c0 c1 c2 c3 c4 a0=(r_list_Del c0 c1 c2):=(zal h4).trans (rfl);have hs:=hr7.shape.cells;refine za5 r rfl rfl H1 (k:=8) hs.1 ta57 ?_;rw [←hs.2.2,hd];exact zpf.fin (Chg.zpr hB) hr7 u9 (fun _ h=>h.elim) (fun h=>h) kw kw kw
 refine wp_skip (wsr (kG (zpH c0) 8 r rfl (keep hB c0h) ta63 rfl rfl fun r=>kG (zpC c3) 14 r rfl (keep hB c3h) zpZ rfl rfl fun r=>kL (U c4) r rfl (keep hB c4h) to36 rfl rfl fun r=>?_));refine kJ r (zjP (j:=j) (F:=No) (n:=n) (fun _ h=>h.elim) kw c0 c3 c4) rfl ztW rfl fun w10 v11 hb hr12 r=>?_
 have hb:=hb.below;have Z10:=hb.size;have H1:=keep hb H1;obtain ⟨hB,zB⟩:=bon hb hB;refine kP r hr12.shape rfl rfl H1 ts57 rfl rfl fun w13 u14 r=>?_;have Z13:=u14.size
 have H1:=u14.at_;obtain ⟨hB,zB⟩:=u14.on hB kw
 refine wn (wp_ret ?_);have hd:D.zdq j r_list_Del c0 c1 c2 c3 c4 a0=(D.zeB j c0 c3 c4):=(zaf h4).trans (rfl);have hs:=hr12.shape.cells;refine za5 r rfl rfl H1 (k:=8) hs.1 ta57 ?_;rw [←hs.2.2,hd];exact zpf.fin (Chg.zpr hB) hr12 u14 (fun _ h=>h.elim) (fun h=>h) kw kw kw
set_option maxRecDepth 20000 in
set_option maxHeartbeats 8000000 in
theorem zk6 {r_list_Del:Seat→Int→Int→T Res} (hF:kH F w0) (hj:n<j) (ih_list_Del:∀ m,m<n→zea r_list_Del m)
    (c0:Seat) {c0b:Nat} (c0F:F c0b) (c0h:w0.heap[c0b]?=some (.cells ((zpH c0)).toArray 63 (0,0))) (c1:Int) {c1b:Nat} (c1F:F c1b) (c1h:w0.heap[c1b]?=some (.cells ([(.int .i64 c1)]).toArray 3 (0,0))) (c2:Walk) {c2b:Nat} (c2F:F c2b) (c2h:w0.heap[c2b]?=some (.cells ((zpC c2)).toArray 206 (0,0))) (c3:Int) {c3b:Nat} (c3F:F c3b) (c3h:w0.heap[c3b]?=some (.cells ([(.int .i64 c3)]).toArray 3 (0,0))) (c4:Int) {c4b:Nat} (c4F:F c4b) (c4h:w0.heap[c4b]?=some (.cells ([(.int .u64 c4)]).toArray 36 (0,0))) (a0:Int) :
    Calls Tryz.prog 126 #[.int .u64 a0,zp c0b,zp c1b,zp c2b,zp c3b,zp c4b] w0 (zpf Tryz.prog zpj n (D.zfp j r_list_Del c0 c1 c2 c3 c4 a0) F w0):=by
 refine kN Tryz.func126 rfl 19 rfl rfl fun fr r hB=>?_;have lc0b:=lt_of_block c0h
 have lc1b:=lt_of_block c1h;have lc2b:=lt_of_block c2h;have lc3b:=lt_of_block c3h;have lc4b:=lt_of_block c4h;refine wsr ?_;refine kX 36 (U a0) r rfl rfl fun b1 w2 n3 r=>?_;have c0h:=keep n3.below c0h
 have c1h:=keep n3.below c1h;have c2h:=keep n3.below c2h;have c3h:=keep n3.below c3h;have c4h:=keep n3.below c4h;obtain ⟨E1,Z2,H1,hB,zB⟩:=n3.all hB;refine za7 (.cells (zpc false zpj.zero 0 0 0 0 .nilFunc) 57 (0,0)) r (fun R=>za6 tz57) rfl fun fr b4 w5 n6 r=>?_;have c0h:=keep n6.below c0h
 have c1h:=keep n6.below c1h;have c2h:=keep n6.below c2h;have c3h:=keep n6.below c3h;have c4h:=keep n6.below c4h;have H1:=keep n6.below H1;obtain ⟨E4,Z5,H4,hB,zB⟩:=n6.all hB;refine wn (wp_seq ?_);refine zaM 10 [.val (zp c0b),.val (.agg (zpe c0.p).toArray),.val (I c1),.val (I (D.za8 c0.p c1 2)),.val (.pointer (some ⟨c2b,12,none⟩)),.val (U c2.next),.val (.pointer (some ⟨c2b,12,none⟩)),.val (U c2.next),.val (U (zdi .u64 c2.next 1)),.val (.func (.func 128) #[] #[zp c0b,zp c3b,zp c4b,zp c2b,zp b1])] mixed r kz (kV (kV (kV (kV (kV (kV (kV (kV (kV (kV zaB)))))))))) ?_ ?_
 ·
  refine ec r (fun _ u _ b d s=>za3 s (b:=c0b) (o:=0) rfl zew bz) (ec r (fun _ u _ b d s=>zag s (cs:=(zpe c0.p)) (n:=6) d.1 (keep b c0h) ta23 rfl bz) (ec r (fun _ u _ b d s=>za4 s rfl (keep b c1h) to3 rfl bz) (ec r (fun fr1 u w' hb' hd r'=>zaC r' (args:=[(.agg (zpe c0.p).toArray),(I c1),(I 2)]) (lc hd.1 (lc hd.2.1 (lc rfl l0))) cl85 ((zb4 _ c0.p c1 2).mono (by rintro _ w2 ⟨rfl,hb2⟩; exact ⟨_,rfl,hb2,rfl⟩))) (ec r (fun _ u _ b d s=>za3 s (b:=c2b) (o:=0) rfl zh1 bz) (ec r (fun _ u _ b d s=>za4 s d.1 (keep b c2h) to36 rfl bz) (ec r (fun _ u _ b d s=>za3 s (b:=c2b) (o:=0) rfl zh1 bz) (ec r (fun _ u _ b d s=>za4 s d.1 (keep b c2h) to36 rfl bz) (ec r (fun _ u _ b d s=>zpB s d.1 rfl rfl rfl bz) (ec r (fun _ u _ b d s=>zae s (v:=(.func (.func 128) #[] #[zp c0b,zp c3b,zp c4b,zp c2b,zp b1])) rfl bz) ?_)))))))));exact zaW
 intro fr u w7 hb hΦ hne r;have r:=r.congr (sc (hΦ 9 ke) (sc (hΦ 8 ke) (sc (hΦ 7 ke) (sc (hΦ 6 ke) (sc (hΦ 5 ke) (sc (hΦ 4 ke) (sc (hΦ 3 ke) (sc (hΦ 2 ke) (sc (hΦ 1 ke) (sc (hΦ 0 ke) rfl))))))))));have Z7:=hb.size;have c0h:=keep hb c0h;have c1h:=keep hb c1h;have c2h:=keep hb c2h;have c3h:=keep hb c3h;have c4h:=keep hb c4h;have H1:=keep hb H1;have H4:=keep hb H4;obtain ⟨hB,zB⟩:=bon hb hB;have hF1:=zpI hF hB.size b4;have f11:((kW F w0 w7 b4)) c0b:=(.inl c0F);have f12:((kW F w0 w7 b4)) c3b:=(.inl c3F);have f13:((kW F w0 w7 b4)) c4b:=(.inl c4F);have f14:((kW F w0 w7 b4)) c2b:=(.inl c2F);have f15:((kW F w0 w7 b4)) b1:=(.inr ⟨kw,kw,kw⟩)
 refine kJ r (zeN (F:=(kW F w0 w7 b4)) (n:=n) hF1 (D.za8 c0.p c1 2) c2.next (zdi .u64 c2.next 1) ⟨128,[],[zp c0b,zp c3b,zp c4b,zp c2b,zp b1],zsF,rfl,fun m hm x w' hs hz=>zj8 (j:=j) (fun b hb=>Nat.lt_of_lt_of_le (hF1 b hb) hz) kw (fun m' hm'=>ih_list_Del m' kw) c0 f11 (hs.at_ f11 c0h) c3 f12 (hs.at_ f12 c3h) c4 f13 (hs.at_ f13 c4h) c2 f14 (hs.at_ f14 c2h) a0 f15 (hs.at_ f15 H1) x⟩) rfl zr4 rfl fun w8 v9 hb hr10 r=>?_;have Z8:=hb.size
 have H4:=zpA hb H4 (by rintro (h | ⟨_,_,h⟩); (have:=hF _ h; omega); exact h rfl)
 have hB:=Chg.zpr (Z:=F) hB;have hB:=hB.zpF hb (by rintro b hlt (h | ⟨h,_⟩); exact h; omega)
 have zB:=hB.size;refine kP r hr10.shape rfl rfl H4 ts57 rfl rfl fun w16 u17 r=>?_;have Z16:=u17.size
 have H4:=u17.at_;have hB:=hB.zpE u17 (.inl kw)
 have zB:=hB.size;refine wn (wp_ret ?_);have hs:=hr10.shape.cells;refine za5 r rfl rfl H4 (k:=8) hs.1 ta57 ?_;rw [←hs.2.2];exact zpf.fin hB hr10 u17 (by rintro b (h | ⟨h1,h2,_⟩); exact .inl h; exact .inr ⟨h1,h2⟩) (by rintro (h | ⟨_,_,h⟩); (have:=hF _ h; omega); exact h rfl) kw kw kw
set_option maxRecDepth 20000 in
set_option maxHeartbeats 8000000 in
theorem zl7 {r_list_Del:Seat→Int→Int→T Res} (hF:kH F w0) (hj:n<j) (ih_list_Del:∀ m,m<n→zea r_list_Del m)
    (c0:Seat) {c0b:Nat} (c0F:F c0b) (c0h:w0.heap[c0b]?=some (.cells ((zpH c0)).toArray 63 (0,0))) (c1:Int) {c1b:Nat} (c1F:F c1b) (c1h:w0.heap[c1b]?=some (.cells ([(.int .i64 c1)]).toArray 3 (0,0))) (c2:Int) {c2b:Nat} (c2F:F c2b) (c2h:w0.heap[c2b]?=some (.cells ([(.int .u64 c2)]).toArray 36 (0,0))) (a0:Walk) :
    Calls Tryz.prog 123 #[.agg (zpC a0).toArray,zp c0b,zp c1b,zp c2b] w0 (zpf Tryz.prog zpj n (D.zel j r_list_Del c0 c1 c2 a0) F w0):=by
 refine kN Tryz.func123 rfl 22 rfl rfl fun fr r hB=>?_;have lc0b:=lt_of_block c0h
 have lc1b:=lt_of_block c1h;have lc2b:=lt_of_block c2h;refine wsr ?_;refine kX 206 (.agg (zpC a0).toArray) r rfl rfl fun b1 w2 n3 r=>?_;have c0h:=keep n3.below c0h
 have c1h:=keep n3.below c1h;have c2h:=keep n3.below c2h;obtain ⟨E1,Z2,H1,hB,zB⟩:=n3.all hB;refine za7 (.cells (zpc false zpj.zero 0 0 0 0 .nilFunc) 57 (0,0)) r (fun R=>za6 tz57) rfl fun fr b4 w5 n6 r=>?_;have c0h:=keep n6.below c0h
 have c1h:=keep n6.below c1h;have c2h:=keep n6.below c2h;have H1:=keep n6.below H1;obtain ⟨E4,Z5,H4,hB,zB⟩:=n6.all hB;refine wn (wp_seq (wsr (kF 0 r rfl zjR rfl fun r=>kL (.bool a0.there) r rfl H1 to4 rfl rfl fun r=>za0 (.bool (!a0.there)) r (fun R=>y_un r (u:=(.bool a0.there)) rfl rfl) rfl fun fr r=>wn ?_)));refine wp_cond_split (t:=(!a0.there)) (r.ev rfl) (fun h7=>?_) (fun h7=>?_)
 ·
  refine wsr (kG (zpH c0) 8 r rfl c0h ta63 rfl rfl fun r=>kU (.agg (resC (⟨6,0⟩:Res)).toArray) r kz rfl fun r=>?_);refine kJ r (zd5 (j:=j) (F:=No) (n:=n) (fun _ h=>h.elim) kw c0 (⟨6,0⟩:Res)) rfl zqo rfl fun w8 v9 hb hr10 r=>?_
  have hb:=hb.below;have Z8:=hb.size;have c0h:=keep hb c0h;have c1h:=keep hb c1h;have c2h:=keep hb c2h;have H1:=keep hb H1;have H4:=keep hb H4;obtain ⟨hB,zB⟩:=bon hb hB;refine kP r hr10.shape rfl rfl H4 ts57 rfl rfl fun w11 u12 r=>?_;have Z11:=u12.size
  have c0h:=u12.keep c0h kw
  have c1h:=u12.keep c1h kw
  have c2h:=u12.keep c2h kw
  have H1:=u12.keep H1 kw
  have H4:=u12.at_;obtain ⟨hB,zB⟩:=u12.on hB kw
  refine wn (wp_ret ?_);have hd:D.zel j r_list_Del c0 c1 c2 a0=(D.zc1 j c0 (⟨6,0⟩:Res)):=(zal h7).trans (rfl);have hs:=hr10.shape.cells;refine za5 r rfl rfl H4 (k:=8) hs.1 ta57 ?_;rw [←hs.2.2,hd];exact zpf.fin (Chg.zpr hB) hr10 u12 (fun _ h=>h.elim) (fun h=>h) kw kw kw
 refine wp_skip (wsr (kF 0 r rfl zf4 rfl fun r=>kL (U a0.cur) r rfl H1 to36 rfl rfl fun r=>?_));refine kE r (zcf w5 a0.cur) rfl zqb rfl fun w13 hb r=>?_
 have Z13:=hb.size;have c0h:=keep hb c0h;have c1h:=keep hb c1h;have c2h:=keep hb c2h;have H1:=keep hb H1;have H4:=keep hb H4;obtain ⟨hB,zB⟩:=bon hb hB;refine za7 (.cells #[(I 0)] 3 (0,0)) r (fun R=>za6 tz3) rfl fun fr b14 w15 n16 r=>?_;have c0h:=keep n16.below c0h
 have c1h:=keep n16.below c1h;have c2h:=keep n16.below c2h;have H1:=keep n16.below H1;have H4:=keep n16.below H4;obtain ⟨E14,Z15,H14,hB,zB⟩:=n16.all hB;refine zaS (.cells #[(I (D.zak a0.cur))] 3 (0,0)) r (fun R=>zaN r (o:=0) (v:=(I (D.zak a0.cur))) rfl rfl H14 ts3 (Nat.le_of_ble_eq_true rfl) rfl rfl) rfl fun fr w17 u18 r=>?_;have Z17:=u18.size
 have c0h:=u18.keep c0h kw
 have c1h:=u18.keep c1h kw
 have c2h:=u18.keep c2h kw
 have H1:=u18.keep H1 kw
 have H4:=u18.keep H4 kw
 have H14:=u18.at_;obtain ⟨hB,zB⟩:=u18.on hB kw
 refine wn (wsr (kF 0 r rfl zew rfl fun r=>kG (zpe c0.p) 6 r rfl c0h ta23 rfl rfl fun r=>kL (I (D.zak a0.cur)) r rfl H14 to3 rfl rfl fun r=>?_));refine kE r (zb4 w17 c0.p (D.zak a0.cur) 1) rfl cl85 rfl fun w19 hb r=>?_
 have Z19:=hb.size;have c0h:=keep hb c0h;have c1h:=keep hb c1h;have c2h:=keep hb c2h;have H1:=keep hb H1;have H4:=keep hb H4;have H14:=keep hb H14;obtain ⟨hB,zB⟩:=bon hb hB;refine za0 (.func (.func 126) #[] #[zp c0b,zp b14,zp b1,zp c1b,zp c2b]) r (fun R=>zae r rfl) rfl fun fr r=>?_;have hF1:=zpI hF hB.size b4
 have f23:((kW F w0 w19 b4)) c0b:=(.inl c0F);have f24:((kW F w0 w19 b4)) b14:=(.inr ⟨kw,kw,kw⟩)
 have f25:((kW F w0 w19 b4)) b1:=(.inr ⟨kw,kw,kw⟩)
 have f26:((kW F w0 w19 b4)) c1b:=(.inl c1F);have f27:((kW F w0 w19 b4)) c2b:=(.inl c2F);refine kJ r (zgn (F:=(kW F w0 w19 b4)) (n:=n) hF1 (D.za8 c0.p (D.zak a0.cur) 1) ⟨126,[],[zp c0b,zp b14,zp b1,zp c1b,zp c2b],zt8,rfl,fun m hm x w' hs hz=>zk6 (j:=j) (fun b hb=>Nat.lt_of_lt_of_le (hF1 b hb) hz) kw (fun m' hm'=>ih_list_Del m' kw) c0 f23 (hs.at_ f23 c0h) (D.zak a0.cur) f24 (hs.at_ f24 H14) a0 f25 (hs.at_ f25 H1) c1 f26 (hs.at_ f26 c1h) c2 f27 (hs.at_ f27 c2h) x⟩) rfl zrR rfl fun w20 v21 hb hr22 r=>?_;have Z20:=hb.size
 have H4:=zpA hb H4 (by rintro (h | ⟨_,_,h⟩); (have:=hF _ h; omega); exact h rfl)
 have hB:=Chg.zpr (Z:=F) hB;have hB:=hB.zpF hb (by rintro b hlt (h | ⟨h,_⟩); exact h; omega)
 have zB:=hB.size;refine kP r hr22.shape rfl rfl H4 ts57 rfl rfl fun w28 u29 r=>?_;have Z28:=u29.size
 have H4:=u29.at_;have hB:=hB.zpE u29 (.inl kw)
 have zB:=hB.size;refine wn (wp_ret ?_);have hd:D.zel j r_list_Del c0 c1 c2 a0=(D.zbR (D.za8 c0.p (D.zak a0.cur) 1) (fun x=>(D.zfp j r_list_Del c0 (D.zak a0.cur) a0 c1 c2 x))):=(zaf h7).trans (rfl)
 have hs:=hr22.shape.cells;refine za5 r rfl rfl H4 (k:=8) hs.1 ta57 ?_;rw [←hs.2.2,hd];exact zpf.fin hB hr22 u29 (by rintro b (h | ⟨h1,h2,_⟩); exact .inl h; exact .inr ⟨h1,h2⟩) (by rintro (h | ⟨_,_,h⟩); (have:=hF _ h; omega); exact h rfl) kw kw kw
set_option maxRecDepth 20000 in
set_option maxHeartbeats 8000000 in
theorem zn1 {n:Nat} {F:Nat→Prop} {j:Nat} {r_list_Del:Seat→Int→Int→T Res} {w0:World} (hF:∀ b,F b→b<w0.heap.size) (hj:n<j) (ih_list_Del:∀ m,m<n→zea r_list_Del m)
    (a0:Seat) (a1:Int) (a2:Int) :
    Calls Tryz.prog 52 #[.agg (zpH a0).toArray,.int .i64 a1,.int .u64 a2] w0 (zpf Tryz.prog zpj n (D.zit j r_list_Del a0 a1 a2) F w0):=by
 refine kN Tryz.func52 rfl 13 rfl rfl fun fr r hB=>?_;refine wsr ?_
 refine kX 63 (.agg (zpH a0).toArray) r rfl rfl fun b1 w2 n3 r=>?_;obtain ⟨E1,Z2,H1,hB,zB⟩:=n3.all hB
 refine kX 3 (I a1) r rfl rfl fun b4 w5 n6 r=>?_;have H1:=keep n6.below H1
 obtain ⟨E4,Z5,H4,hB,zB⟩:=n6.all hB;refine kX 36 (U a2) r rfl rfl fun b7 w8 n9 r=>?_;have H1:=keep n9.below H1
 have H4:=keep n9.below H4;obtain ⟨E7,Z8,H7,hB,zB⟩:=n9.all hB;refine za7 (.cells (zpc false zpj.zero 0 0 0 0 .nilFunc) 57 (0,0)) r (fun R=>za6 tz57) rfl fun fr b10 w11 n12 r=>?_;have H1:=keep n12.below H1
 have H4:=keep n12.below H4;have H7:=keep n12.below H7;obtain ⟨E10,Z11,H10,hB,zB⟩:=n12.all hB;refine wn (wsr (kG (zpH a0) 8 r rfl H1 ta63 rfl rfl fun r=>kL (I a1) r rfl H4 to3 rfl rfl fun r=>kL (U a2) r rfl H7 to36 rfl rfl fun r=>?_));refine kJ r (zfm (j:=j) (F:=No) (n:=n) (fun _ h=>h.elim) kw (fun m' hm'=>zd8 (j:=j) (k:=j) kw kw) a0 a1 a2) rfl zqH rfl fun w13 v14 hb hr15 r=>?_
 have hb:=hb.below;have Z13:=hb.size;have H1:=keep hb H1;have H4:=keep hb H4;have H7:=keep hb H7;have H10:=keep hb H10;obtain ⟨hB,zB⟩:=bon hb hB;refine za0 (.func (.func 123) #[] #[zp b1,zp b4,zp b7]) r (fun R=>zae r rfl) rfl fun fr r=>?_;have hF1:∀ b,(kW F w0 w11 b10) b→b<w13.heap.size:=by rintro b (h | ⟨_,h,_⟩); exact Nat.lt_of_lt_of_le (hF b h) hB.size; exact Nat.lt_of_lt_of_le h kw
 have f19:((kW F w0 w11 b10)) b1:=(.inr ⟨kw,kw,kw⟩)
 have f20:((kW F w0 w11 b10)) b4:=(.inr ⟨kw,kw,kw⟩)
 have f21:((kW F w0 w11 b10)) b7:=(.inr ⟨kw,kw,kw⟩)
 have hF2:=zpI hF hB.size b10;refine kJ r (zbU (F:=(kW F w0 w13 b10)) (F2:=(kW F w0 w11 b10)) (n:=n) hF2 (by rintro b ⟨h,h'⟩; exact .inr ⟨kw,kw,kw⟩) (by rintro b (h | ⟨h1,h2,h3⟩); exact .inl h; exact .inr ⟨h1,kw,h3⟩) (by rintro b ⟨h1,h2⟩ (h | ⟨h3,h4,_⟩); (have:=hF b h; omega); omega) (RepL.mono (F':=fun b=>w11.heap.size≤b∧b<w13.heap.size) (by rintro b (h | h); exact h.elim; exact h) (Same.refl _ _) (Nat.le_refl _) n _ _ hr15) ⟨123,[],[zp b1,zp b4,zp b7],zub,rfl,fun m hm x w' hs hz=>zl7 (j:=j) (fun b hb=>Nat.lt_of_lt_of_le (hF1 b hb) hz) kw (fun m' hm'=>ih_list_Del m' kw) a0 f19 (hs.at_ f19 H1) a1 f20 (hs.at_ f20 H4) a2 f21 (hs.at_ f21 H7) x⟩) rfl zqC rfl fun w16 v17 hb hr18 r=>?_
 have Z16:=hb.size;have H10:=zpA hb H10 (by rintro (h | ⟨_,_,h⟩); (have:=hF _ h; omega); exact h rfl)
 have hB:=Chg.zpr (Z:=F) hB;have hB:=hB.zpF hb (by rintro b hlt (h | ⟨h,_⟩); exact h; omega)
 have zB:=hB.size;refine kP r hr18.shape rfl rfl H10 ts57 rfl rfl fun w22 u23 r=>?_;have Z22:=u23.size
 have H10:=u23.at_;have hB:=hB.zpE u23 (.inl kw)
 have zB:=hB.size;refine wn (wp_ret ?_);have hs:=hr18.shape.cells;refine za5 r rfl rfl H10 (k:=8) hs.1 ta57 ?_;rw [←hs.2.2];exact zpf.fin hB hr18 u23 (by rintro b (h | ⟨h1,h2,_⟩); exact .inl h; exact .inr ⟨h1,h2⟩) (by rintro (h | ⟨_,_,h⟩); (have:=hF _ h; omega); exact h rfl) kw kw kw
theorem zmr {n:Nat} {j:Nat} (hj:n<j) {k:Nat} (hk:n<k):zea (D.ze1 j k) n:=by
  induction n using Nat.strongRecOn generalizing k with
  | _ n ih=>
    obtain ⟨k,rfl⟩:∃ q,k=q+1:=⟨k - 1,kw⟩
    intro F w0 hF;have h:=@zn1 n F j (D.ze1 j k) w0 hF hj (fun m hm=>ih m hm kw kw)
    exact h
def D.zgP (j:Nat) (c0:Seat) (a0:Int):T Res:=(D.zc1 j c0 (⟨0,a0⟩:Res))
set_option maxRecDepth 20000 in
set_option maxHeartbeats 8000000 in
theorem zk7 (hF:kH F w0) (hj:n<j)
    (c0:Seat) {c0b:Nat} (c0F:F c0b) (c0h:w0.heap[c0b]?=some (.cells ((zpH c0)).toArray 63 (0,0))) (a0:Int) :
    Calls Tryz.prog 134 #[.int .u64 a0,zp c0b] w0 (zpf Tryz.prog zpj n (D.zgP j c0 a0) F w0):=by
 refine kN Tryz.func134 rfl 8 rfl rfl fun fr r hB=>?_;have lc0b:=lt_of_block c0h
 refine wsr ?_;refine za7 (.cells (zpc false zpj.zero 0 0 0 0 .nilFunc) 57 (0,0)) r (fun R=>za6 tz57) rfl fun fr b1 w2 n3 r=>?_;obtain ⟨E1,Z2,H1,hB,zB⟩:=n3.all hB
 refine wn (wsr (kG (zpH c0) 8 r rfl (keep hB c0h) ta63 rfl rfl fun r=>kM (U a0) r rfl rfl fun r=>kU (.agg (resC (⟨0,a0⟩:Res)).toArray) r kz rfl fun r=>?_));refine kJ r (zd5 (j:=j) (F:=No) (n:=n) (fun _ h=>h.elim) kw c0 (⟨0,a0⟩:Res)) rfl zqo rfl fun w4 v5 hb hr6 r=>?_
 have hb:=hb.below;have Z4:=hb.size;have H1:=keep hb H1;obtain ⟨hB,zB⟩:=bon hb hB;refine kP r hr6.shape rfl rfl H1 ts57 rfl rfl fun w7 u8 r=>?_;have Z7:=u8.size
 have H1:=u8.at_;obtain ⟨hB,zB⟩:=u8.on hB kw
 refine wn (wp_ret ?_);have hs:=hr6.shape.cells;refine za5 r rfl rfl H1 (k:=8) hs.1 ta57 ?_;rw [←hs.2.2];exact zpf.fin (Chg.zpr hB) hr6 u8 (fun _ h=>h.elim) (fun h=>h) kw kw kw
def D.zdN (j:Nat) (c0:Seat) (a0:Walk):T Res:=(bif (!a0.there) then (D.zc1 j c0 (⟨6,0⟩:Res)) else (D.zbR (D.za8 c0.p (D.zak a0.cur) 1) (fun x=>(D.zgP j c0 x))))
set_option maxRecDepth 20000 in
set_option maxHeartbeats 8000000 in
theorem zlp (hF:kH F w0) (hj:n<j)
    (c0:Seat) {c0b:Nat} (c0F:F c0b) (c0h:w0.heap[c0b]?=some (.cells ((zpH c0)).toArray 63 (0,0))) (a0:Walk) :
    Calls Tryz.prog 133 #[.agg (zpC a0).toArray,zp c0b] w0 (zpf Tryz.prog zpj n (D.zdN j c0 a0) F w0):=by
 refine kN Tryz.func133 rfl 18 rfl rfl fun fr r hB=>?_;have lc0b:=lt_of_block c0h
 refine wsr ?_;refine kX 206 (.agg (zpC a0).toArray) r rfl rfl fun b1 w2 n3 r=>?_;have c0h:=keep n3.below c0h
 obtain ⟨E1,Z2,H1,hB,zB⟩:=n3.all hB;refine za7 (.cells (zpc false zpj.zero 0 0 0 0 .nilFunc) 57 (0,0)) r (fun R=>za6 tz57) rfl fun fr b4 w5 n6 r=>?_;have c0h:=keep n6.below c0h
 have H1:=keep n6.below H1;obtain ⟨E4,Z5,H4,hB,zB⟩:=n6.all hB;refine wn (wp_seq (wsr (kF 0 r rfl zjR rfl fun r=>kL (.bool a0.there) r rfl H1 to4 rfl rfl fun r=>za0 (.bool (!a0.there)) r (fun R=>y_un r (u:=(.bool a0.there)) rfl rfl) rfl fun fr r=>wn ?_)));refine wp_cond_split (t:=(!a0.there)) (r.ev rfl) (fun h7=>?_) (fun h7=>?_)
 ·
  refine wsr (kG (zpH c0) 8 r rfl c0h ta63 rfl rfl fun r=>kU (.agg (resC (⟨6,0⟩:Res)).toArray) r kz rfl fun r=>?_);refine kJ r (zd5 (j:=j) (F:=No) (n:=n) (fun _ h=>h.elim) kw c0 (⟨6,0⟩:Res)) rfl zqo rfl fun w8 v9 hb hr10 r=>?_
  have hb:=hb.below;have Z8:=hb.size;have c0h:=keep hb c0h;have H1:=keep hb H1;have H4:=keep hb H4;obtain ⟨hB,zB⟩:=bon hb hB;refine kP r hr10.shape rfl rfl H4 ts57 rfl rfl fun w11 u12 r=>?_;have Z11:=u12.size
  have c0h:=u12.keep c0h kw
  have H1:=u12.keep H1 kw
  have H4:=u12.at_;obtain ⟨hB,zB⟩:=u12.on hB kw
  refine wn (wp_ret ?_);have hd:D.zdN j c0 a0=(D.zc1 j c0 (⟨6,0⟩:Res)):=(zal h7).trans (rfl);have hs:=hr10.shape.cells;refine za5 r rfl rfl H4 (k:=8) hs.1 ta57 ?_;rw [←hs.2.2,hd];exact zpf.fin (Chg.zpr hB) hr10 u12 (fun _ h=>h.elim) (fun h=>h) kw kw kw
 refine wp_skip (wp_seq ?_);refine zaM 7 [.val (zp c0b),.val (.agg (zpe c0.p).toArray),.val (.pointer (some ⟨b1,11,none⟩)),.val (U a0.cur),.val (I (D.zak a0.cur)),.val (I (D.za8 c0.p (D.zak a0.cur) 1)),.val (.func (.func 134) #[] #[zp c0b])] mixed r kz (kV (kV (kV (kV (kV (kV (kV zaB))))))) ?_ ?_
 ·
  refine ec r (fun _ u _ b d s=>za3 s (b:=c0b) (o:=0) rfl zew bz) (ec r (fun _ u _ b d s=>zag s (cs:=(zpe c0.p)) (n:=6) d.1 (keep b c0h) ta23 rfl bz) (ec r (fun _ u _ b d s=>za3 s (b:=b1) (o:=0) rfl zf4 bz) (ec r (fun _ u _ b d s=>za4 s d.1 (keep b H1) to36 rfl bz) (ec r (fun fr1 u w' hb' hd r'=>zaC r' (args:=[(U a0.cur)]) (lc hd.1 l0) zqb ((zcf _ a0.cur).mono (by rintro _ w2 ⟨rfl,hb2⟩; exact ⟨_,rfl,hb2,rfl⟩))) (ec r (fun fr1 u w' hb' hd r'=>zaC r' (args:=[(.agg (zpe c0.p).toArray),(I (D.zak a0.cur)),(I 1)]) (lc hd.1 (lc hd.2.1 (lc rfl l0))) cl85 ((zb4 _ c0.p (D.zak a0.cur) 1).mono (by rintro _ w2 ⟨rfl,hb2⟩; exact ⟨_,rfl,hb2,rfl⟩))) (ec r (fun _ u _ b d s=>zae s (v:=(.func (.func 134) #[] #[zp c0b])) rfl bz) ?_))))));exact zaW
 intro fr u w13 hb hΦ hne r;have r:=r.congr (sc (hΦ 6 ke) (sc (hΦ 5 ke) (sc (hΦ 4 ke) (sc (hΦ 3 ke) (sc (hΦ 2 ke) (sc (hΦ 1 ke) (sc (hΦ 0 ke) rfl)))))));have Z13:=hb.size;have c0h:=keep hb c0h;have H1:=keep hb H1;have H4:=keep hb H4;obtain ⟨hB,zB⟩:=bon hb hB;have hF1:=zpI hF hB.size b4;have f17:((kW F w0 w13 b4)) c0b:=(.inl c0F);refine kJ r (zgn (F:=(kW F w0 w13 b4)) (n:=n) hF1 (D.za8 c0.p (D.zak a0.cur) 1) ⟨134,[],[zp c0b],ztZ,rfl,fun m hm x w' hs hz=>zk7 (j:=j) (fun b hb=>Nat.lt_of_lt_of_le (hF1 b hb) hz) kw c0 f17 (hs.at_ f17 c0h) x⟩) rfl zrR rfl fun w14 v15 hb hr16 r=>?_;have Z14:=hb.size
 have H4:=zpA hb H4 (by rintro (h | ⟨_,_,h⟩); (have:=hF _ h; omega); exact h rfl)
 have hB:=Chg.zpr (Z:=F) hB;have hB:=hB.zpF hb (by rintro b hlt (h | ⟨h,_⟩); exact h; omega)
 have zB:=hB.size;refine kP r hr16.shape rfl rfl H4 ts57 rfl rfl fun w18 u19 r=>?_;have Z18:=u19.size
 have H4:=u19.at_;have hB:=hB.zpE u19 (.inl kw)
 have zB:=hB.size;refine wn (wp_ret ?_);have hd:D.zdN j c0 a0=(D.zbR (D.za8 c0.p (D.zak a0.cur) 1) (fun x=>(D.zgP j c0 x))):=(zaf h7).trans (rfl)
 have hs:=hr16.shape.cells;refine za5 r rfl rfl H4 (k:=8) hs.1 ta57 ?_;rw [←hs.2.2,hd];exact zpf.fin hB hr16 u19 (by rintro b (h | ⟨h1,h2,_⟩); exact .inl h; exact .inr ⟨h1,h2⟩) (by rintro (h | ⟨_,_,h⟩); (have:=hF _ h; omega); exact h rfl) kw kw kw
def D.zgj (j:Nat) (a0:Seat) (a1:Int) (a2:Int):T Res:=(T.bind (D.zfR j (D.zb0 j j) a0 a1 a2) (fun x=>(D.zdN j a0 x)))
set_option maxRecDepth 20000 in
set_option maxHeartbeats 8000000 in
theorem zmk (hF:kH F w0) (hj:n<j)
    (a0:Seat) (a1:Int) (a2:Int) :
    Calls Tryz.prog 61 #[.agg (zpH a0).toArray,.int .i64 a1,.int .u64 a2] w0 (zpf Tryz.prog zpj n (D.zgj j a0 a1 a2) F w0):=by
 refine kN Tryz.func61 rfl 13 rfl rfl fun fr r hB=>?_;refine wsr ?_
 refine kX 63 (.agg (zpH a0).toArray) r rfl rfl fun b1 w2 n3 r=>?_;obtain ⟨E1,Z2,H1,hB,zB⟩:=n3.all hB
 refine za7 (.cells (zpc false zpj.zero 0 0 0 0 .nilFunc) 57 (0,0)) r (fun R=>za6 tz57) rfl fun fr b4 w5 n6 r=>?_;have H1:=keep n6.below H1
 obtain ⟨E4,Z5,H4,hB,zB⟩:=n6.all hB;refine wn (wsr (kG (zpH a0) 8 r rfl H1 ta63 rfl rfl fun r=>kM (I a1) r rfl rfl fun r=>kM (U a2) r rfl rfl fun r=>?_));refine kJ r (zfm (j:=j) (F:=No) (n:=n) (fun _ h=>h.elim) kw (fun m' hm'=>zd8 (j:=j) (k:=j) kw kw) a0 a1 a2) rfl zqH rfl fun w7 v8 hb hr9 r=>?_
 have hb:=hb.below;have Z7:=hb.size;have H1:=keep hb H1;have H4:=keep hb H4;obtain ⟨hB,zB⟩:=bon hb hB;refine za0 (.func (.func 133) #[] #[zp b1]) r (fun R=>zae r rfl) rfl fun fr r=>?_;have hF1:∀ b,(kW F w0 w5 b4) b→b<w7.heap.size:=by rintro b (h | ⟨_,h,_⟩); exact Nat.lt_of_lt_of_le (hF b h) hB.size; exact Nat.lt_of_lt_of_le h kw
 have f13:((kW F w0 w5 b4)) b1:=(.inr ⟨kw,kw,kw⟩)
 have hF2:=zpI hF hB.size b4;refine kJ r (zbU (F:=(kW F w0 w7 b4)) (F2:=(kW F w0 w5 b4)) (n:=n) hF2 (by rintro b ⟨h,h'⟩; exact .inr ⟨kw,kw,kw⟩) (by rintro b (h | ⟨h1,h2,h3⟩); exact .inl h; exact .inr ⟨h1,kw,h3⟩) (by rintro b ⟨h1,h2⟩ (h | ⟨h3,h4,_⟩); (have:=hF b h; omega); omega) (RepL.mono (F':=fun b=>w5.heap.size≤b∧b<w7.heap.size) (by rintro b (h | h); exact h.elim; exact h) (Same.refl _ _) (Nat.le_refl _) n _ _ hr9) ⟨133,[],[zp b1],zth,rfl,fun m hm x w' hs hz=>zlp (j:=j) (fun b hb=>Nat.lt_of_lt_of_le (hF1 b hb) hz) kw a0 f13 (hs.at_ f13 H1) x⟩) rfl zqC rfl fun w10 v11 hb hr12 r=>?_
 have Z10:=hb.size;have H4:=zpA hb H4 (by rintro (h | ⟨_,_,h⟩); (have:=hF _ h; omega); exact h rfl)
 have hB:=Chg.zpr (Z:=F) hB;have hB:=hB.zpF hb (by rintro b hlt (h | ⟨h,_⟩); exact h; omega)
 have zB:=hB.size;refine kP r hr12.shape rfl rfl H4 ts57 rfl rfl fun w14 u15 r=>?_;have Z14:=u15.size
 have H4:=u15.at_;have hB:=hB.zpE u15 (.inl kw)
 have zB:=hB.size;refine wn (wp_ret ?_);have hs:=hr12.shape.cells;refine za5 r rfl rfl H4 (k:=8) hs.1 ta57 ?_;rw [←hs.2.2];exact zpf.fin hB hr12 u15 (by rintro b (h | ⟨h1,h2,_⟩); exact .inl h; exact .inr ⟨h1,h2⟩) (by rintro (h | ⟨_,_,h⟩); (have:=hF _ h; omega); exact h rfl) kw kw kw
end
end Go.Proofs.YtikjpdpgdmbdpaaGreat

/- Ours. -/
import Derived.Test.YtbbipmelhmgmfaaGreatDpLLoads
import Derived.Test.YtbbipmelhmgmfaaGreatDpM16
set_option linter.all false
set_option maxRecDepth 100000
set_option maxHeartbeats 20000000
namespace Go.Proofs.YtbbipmelhmgmfaaGreat
open Go.RowKit
section
variable {n : Nat} {F : Nat → Prop} {j : Nat} {w0 : World}
theorem zuu:zpf ar 152:=kz
theorem zs3:zpf ar 153:=kz
theorem ztq:zpf ar 154:=kz
theorem zuT:zpf ar 155:=kz
theorem zsq:zpf ar 156:=kz
theorem zqP:zpf ar 158:=kz
theorem zt2:zpf ar 159:=kz
theorem zqv:zpf ar 160:=kz
theorem ztk:zpf ar 161:=kz
theorem zuo:zpf ar 162:=kz
theorem zuL:zpf ar 163:=kz
theorem zt6:zpf ar 164:=kz
theorem zun:zpf ar 165:=kz
theorem ztS:zpf ar 237:=kz
theorem zsH:zpf ar 238:=kz
theorem zur:zpf ar 239:=kz
theorem ztc:zpf ar 241:=kz
theorem zsM:zpf ar 242:=kz
theorem zug:zpf ar 243:=kz
theorem zuk:zpf ar 244:=kz
theorem zuG:zpf ar 248:=kz
theorem zri:zpf ar 249:=kz
theorem zuK:zpf ar 250:=kz
theorem zuI:zpf ar 251:=kz
theorem ztD:zpf ar 252:=kz
theorem zqQ:zpf ar 253:=kz
theorem zsU:zpf ar 254:=kz
theorem zsd:zpf ar 316:=kz
theorem zqW:zpf ar 317:=kz
theorem zt7:zpf ar 318:=kz
theorem zqV:zpf ar 319:=kz
theorem zt8:zpf ar 320:=kz
theorem zuq:zpf ar 321:=kz
theorem ztF:zpf ar 322:=kz
theorem zuy:zpf ar 364:=kz
theorem zt0:zpf ar 365:=kz
theorem zus:zpf ar 366:=kz
theorem zsX:zpf ar 367:=kz
theorem ztz:zpf ar 368:=kz
theorem zsZ:zpf ar 388:=kz
theorem zsT:zpf ar 389:=kz
theorem ztW:zpf ar 391:=kz
theorem ztA:zpf ar 392:=kz
theorem zuP:zpf ar 393:=kz
theorem cl86:zpf ar 86:=kz
theorem cl88:zpf ar 88:=kz
theorem zh4:zpq ar 221 0 0:=kz
theorem zp2:zpq ar 221 1 8:=kz
theorem zlH:zpq ar 221 2 9:=kz
theorem zjR:zpq ar 221 3 10:=kz
theorem zeZ:zpq ar 221 4 11:=kz
theorem zgJ:zpq ar 221 5 12:=kz
theorem zjL:zpq ar 221 6 13:=kz
theorem zuO:tyO ar 273:=kz
theorem ts4:sized ar 4 1:=kz
def D.zgK (a0:Int):T Res:=(D.zfS (⟨a0,0⟩:Res))
theorem ziX (hF:kH F w0)
    (a0:Int) :
    Calls ar 153 #[.int .i64 a0] w0 (zpj ar zpn n (D.zgK a0) F w0):=by
 refine kN Tryz.func153 rfl 6 rfl rfl fun fr r hB=>?_;refine wsr ?_
 refine za7 (.cells (kq zpn) 41 (0,0)) r (fun R=>za6 tz41) rfl fun fr b1 w2 n3 r=>?_;obtain ⟨E1,Z2,H1,hB,zB⟩:=n3.all hB
 refine wn (wsr (kM (I a0) r rfl rfl fun r=>kU (aq (resC (⟨a0,0⟩:Res))) r kz rfl fun r=>?_));refine kJ r (zgl (F:=No) (n:=n) (fun _ h=>h.elim) (⟨a0,0⟩:Res)) rfl cl15 rfl fun w4 v5 hb hr6 r=>?_
 have hb:=hb.below;have Z4:=hb.size;have H1:=keep hb H1;obtain ⟨hB,zB⟩:=bon hb hB;refine kP r hr6.shape rfl rfl H1 ts41 rfl rfl fun w7 u8 r=>?_;have Z7:=u8.size
 have H1:=u8.at_;obtain ⟨hB,zB⟩:=u8.on hB kw
 refine wn (ac ?_);have hs:=hr6.shape.cells;refine za5 r rfl rfl H1 (k:=8) hs.1 ta41 ?_;rw [←hs.2.2];exact zpj.fin (Chg.zpv hB) hr6 u8 (fun _ h=>h.elim) (fun h=>h) kw kw kw
def D.zai (a0:Int):Int:=(IntKind.i64.wrap ((IntKind.i64.wrap (shrI .u64 a0 1)) - 1))
theorem zc8 (w0:World) 
    (a0:Int) :
    Calls ar 88 #[.int .u64 a0] w0 (zpx (.int .i64 (D.zai a0)) w0):=by
 refine kN Tryz.func88 rfl 7 rfl rfl fun fr r hB=>?_;refine wsr (kA (I 0) r rfl rfl fun r=>wn (wsr (kM (U a0) r rfl rfl fun r=>kB r rfl rfl rfl (zlS yau) rfl fun r=>za0 (I (W (shrI .u64 a0 1))) r (fun R=>zb9 r rfl ti34 ti3) rfl fun fr r=>kB r rfl rfl rfl rfl rfl fun r=>kA (I (W ((W (shrI .u64 a0 1)) - 1))) r rfl rfl fun r=>wn (ac ?_))))
 refine zaH r rfl rfl ?_;exact ⟨rfl,hB⟩
def D.zgy (c0:(Unit→T Walk)):T Walk:=(c0 ())
theorem zhV (hF:kH F w0)
    {c0f:FuncId} {c0_1 c0_2:List Value} {c0:(Unit→T Walk)} {c0b:Nat} (c0F:F c0b) (c0h:w0.heap[c0b]?=some (.cells #[kf c0f c0_1 c0_2] 273 (0,0))) (c0n:FnL ar zpo unitE (n+1) F w0 (kf c0f c0_1 c0_2) c0) :
    Calls ar 364 #[.agg #[],zp c0b] w0 (zpj ar zpo n (D.zgy c0) F w0):=by
 refine kN Tryz.func364 rfl 6 rfl rfl fun fr r hB=>?_;have lc0b:=ah c0h
 refine wsr ?_;refine kX 128 (.agg #[]) r rfl rfl fun b1 w2 n3 r=>?_;have c0h:=keep n3.below c0h
 obtain ⟨E1,Z2,H1,hB,zB⟩:=n3.all hB;refine za7 (.cells (kq zpo) 224 (0,0)) r (fun R=>za6 zpX) rfl fun fr b4 w5 n6 r=>?_;have c0h:=keep n6.below c0h
 have H1:=keep n6.below H1;obtain ⟨E4,Z5,H4,hB,zB⟩:=n6.all hB;refine wn (wsr (kL (kf c0f c0_1 c0_2) r rfl c0h zuO rfl rfl fun r=>?_));refine zbq r (c0n.at_.2 n (Nat.lt_succ_self n) () w5 (Same.below hB hF) hB.size) (fun R hc=>zfR r rfl c0n.at_.1 hc) rfl ?_
 rintro _ w7 ⟨v8,rfl,hb,hr9⟩;refine ⟨_,rfl,fun fr r=>?_⟩
 have Z7:=hb.size;have H4:=zpE hb H4 (fun h=>by have:=hF _ h; omega)
 have hB:=Chg.zpv (Z:=F) hB;have hB:=hB.zpK hb (fun _ _ h=>h)
 have zB:=hB.size;refine kP r hr9.shape rfl rfl H4 zpV rfl rfl fun w10 u11 r=>?_;have Z10:=u11.size
 have H4:=u11.at_;have hB:=hB.zpI u11 (.inl kw)
 have zB:=hB.size;refine wn (ac ?_);have hs:=hr9.shape.cells;refine za5 r rfl rfl H4 (k:=20) hs.1 zpU ?_;rw [←hs.2.2];exact zpj.fin hB hr9 u11 (fun b hb=>.inl hb) (fun h=>by have:=hF _ h; omega) kw kw kw
def D.zbV (a0:Walk) (a1:Int) (a2:Int) (a3:(Unit→T Walk)):T Walk:=(T.bind (D.zcx a0.seat.p a0.seat.thread a1 a2) (fun _=>(D.zgy a3)))
theorem zdt (hF:kH F w0)
    (a0:Walk) (a1:Int) (a2:Int) {a3f:FuncId} {aQ aR:List Value} {a3:(Unit→T Walk)} (a3n:FnL ar zpo unitE (n) F w0 (kf a3f aQ aR) a3) :
    Calls ar 319 #[aq (zpF a0),.int .i64 a1,.int .i64 a2,kf a3f aQ aR] w0 (zpj ar zpo n (D.zbV a0 a1 a2 a3) F w0):=by
 refine kN Tryz.func319 rfl 20 rfl rfl fun fr r hB=>?_;refine wsr ?_
 refine kX 221 (aq (zpF a0)) r rfl rfl fun b1 w2 n3 r=>?_;obtain ⟨E1,Z2,H1,hB,zB⟩:=n3.all hB
 refine kX 273 (kf a3f aQ aR) r rfl rfl fun b4 w5 n6 r=>?_;have H1:=keep n6.below H1
 obtain ⟨E4,Z5,H4,hB,zB⟩:=n6.all hB;refine za7 (.cells (kq zpo) 224 (0,0)) r (fun R=>za6 zpX) rfl fun fr b7 w8 n9 r=>?_;have H1:=keep n9.below H1
 have H4:=keep n9.below H4;obtain ⟨E7,Z8,H7,hB,zB⟩:=n9.all hB;refine wn (wsr (kF 0 r rfl zh4 rfl fun r=>kF 0 r rfl zdP rfl fun r=>kG (zpg a0.seat.p) 6 r rfl H1 ta23 rfl rfl fun r=>kF 0 r rfl zh4 rfl fun r=>kF 0 r rfl zjQ rfl fun r=>kL (I a0.seat.thread) r rfl H1 to3 rfl rfl fun r=>kM (I a1) r rfl rfl fun r=>kM (I a2) r rfl rfl fun r=>?_));refine kD r (zgV (F:=No) (n:=n) (fun _ h=>h.elim) a0.seat.p a0.seat.thread a1 a2) rfl zrx rfl fun w10 v11 hb hr12 r=>?_
 have hr12:=hr12.loud;have Z10:=hb.size;have H1:=keep hb H1;have H4:=keep hb H4;have H7:=keep hb H7;obtain ⟨hB,zB⟩:=bon hb hB;refine za0 (.func (.func 364) #[] #[zp b4]) r (fun R=>zaf r rfl) rfl fun fr r=>?_;have hF1:∀ b,(kW F w0 w8 b7) b→b<w10.heap.size:=by rintro b (h | ⟨_,h,_⟩); exact ai (hF b h) hB.size; exact ai h kw
 have f16:((kW F w0 w8 b7)) b4:=(.inr ⟨kw,kw,kw⟩)
 have hF2:=zpO hF hB.size b7;refine kJ r (zfv (F:=(kW F w0 w10 b7)) (F2:=(kW F w0 w8 b7)) (n:=n) hF2 yan yag yah (RepL.mono (F':=fun b=>w8.heap.size≤b∧b<w10.heap.size) yam (Same.refl _ _) (Nat.le_refl _) n _ _ hr12) ⟨364,[],[zp b4],zuy,rfl,fun m hm _ w' hs hz=>zhV (fun b hb=>ai (hF1 b hb) hz) f16 (hs.at_ f16 H4) (a3n.mono kw (fun b h=>.inl h) ((Same.below hB hF).trans (hs.sub (fun b h=>.inl h))) (Nat.le_trans hB.size hz))⟩ rfl) rfl zsg rfl fun w13 v14 hb hr15 r=>?_
 have Z13:=hb.size;have H7:=zpE hb H7 yaa
 have hB:=Chg.zpv (Z:=F) hB;have hB:=hB.zpK hb yad
 have zB:=hB.size;refine kP r hr15.shape rfl rfl H7 zpV rfl rfl fun w17 u18 r=>?_;have Z17:=u18.size
 have H7:=u18.at_;have hB:=hB.zpI u18 (.inl kw)
 have zB:=hB.size;refine wn (ac ?_);have hs:=hr15.shape.cells;refine za5 r rfl rfl H7 (k:=20) hs.1 zpU ?_;rw [←hs.2.2];exact zpj.fin hB hr15 u18 yac yaa kw kw kw
def D.zds (j:Nat) (au:Walk→T Walk) (c0:Walk) (c1:Int):T Walk:=(au ({ ({ c0 with place:=(D.za8 c0.seat.p c1 2) }) with cur:=c0.next }))
def D.zfu (j:Nat) (au:Walk→T Walk) (c0:Walk) (c1:Int):T Walk:=(D.zbV c0 1 (D.zai c0.next) (fun _=>(D.zds j au c0 c1)))
def D.zdH (j:Nat) (au:Walk→T Walk) (a0:Walk) (a1:Int):T Walk:=(D.zbV a0 2 a1 (fun _=>(D.zfu j au a0 a1)))
def D.zc0 (j:Nat) (au:Walk→T Walk) (c0:Int) (c1:Walk) (a0:Int):T Walk:=(D.zbV ({ c1 with cur:=c0 }) 1 (D.zai c0) (fun _=>(au ({ c1 with cur:=c0 }))))
def D.zjN (j:Nat) (au:Walk→T Walk) (c0:Seat) (c1:Int) (c2:Int) (a0:Int):T Walk:=(au (⟨c0,c1,c2,c1,a0,0,false⟩:Walk))
def D.zfC (j:Nat) (au:Walk→T Walk) (a0:Seat) (a1:Int) (a2:Int):T Walk:=(T.bind (D.zev j a0.p a0.thread 1 a1 1) (fun x=>(D.zjN j au a0 a1 a2 x)))
def D.zbK (j:Nat) (au:Walk→T Walk) (a0:Walk):T Walk:=(D.zfC j au a0.seat a0.cell a0.k)
def D.zch (j:Nat) (au:Walk→T Walk) (c0:Walk) (c1:Int) (c2:Int) (a0:Bool):T Walk:=(bif (!a0) then (D.zbK j au c0) else (T.bind (D.zcp j c0.seat.p c0.seat.thread c1) (fun x=>(D.zc0 j au c2 c0 x))))
def D.zea (j:Nat) (au:Walk→T Walk) (a0:Walk) (a1:Int):T Walk:=(D.zhD a0.place a0.cur (zaP .u64 a0.next 1) (fun x=>(D.zch j au a0 a1 (zaP .u64 a0.next 1) x)))
def D.zbv (j:Nat) (au:Walk→T Walk) (c0:Walk) (c1:Int) (c2:Int) (a0:Int):T Walk:=(bif (a0 !=c0.cur) then (D.zbK j au c0) else (bif ((zbb .u64 c0.next 1) !=0) then (D.zea j au c0 c1) else (bif (decide (c2≥c0.k)) then (D.zcE ({ c0 with there:=(c2==c0.k) })) else (D.zdH j au c0 c1))))
def D.zd1 (j:Nat) (au:Walk→T Walk) (c0:Walk) (c1:Int) (a0:Int):T Walk:=(D.zcd c0.place (fun x=>(D.zbv j au c0 c1 a0 x)))
def D.zcl (j:Nat) (au:Walk→T Walk) (a0:Walk) (a1:Int):T Walk:=(D.zcd (D.za8 a0.seat.p a1 0) (fun x=>(D.zd1 j au a0 a1 x)))
def D.zbT (j:Nat) (au:Walk→T Walk) (c0:Int) (c1:Walk) (c2:Int) (a0:Int):T Walk:=(bif (a0 !=c0) then (D.zbK j au c1) else (D.zcl j au ({ c1 with next:=c0 }) c2))
def D.zcb (j:Nat) (au:Walk→T Walk) (c0:Int) (c1:Int) (c2:Walk) (c3:Int):T Walk:=(D.zcd c0 (fun x=>(D.zbT j au c1 c2 c3 x)))
def D.zdq (j:Nat) (au:Walk→T Walk) (c0:Walk) (c1:Int) (c2:Int) (a0:Int):T Walk:=(D.zbV c0 0 (D.zai a0) (fun _=>(D.zcb j au c1 a0 c0 c2)))
def D.zbc (j:Nat) (au:Walk→T Walk) (a0:Walk):T Walk:=(bif (decide ((D.zai a0.cur)<0)) then (D.zcE ({ a0 with there:=false })) else (D.zcd (D.za8 a0.seat.p (D.zai a0.cur) 2) (fun x=>(D.zdq j au a0 (D.za8 a0.seat.p (D.zai a0.cur) 2) (D.zai a0.cur) x))))
def D.zaV (j:Nat):Nat→Walk→T Walk
 | 0,_=>.cut
 | k+1,a0=>D.zbc j (D.zaV j k) a0
def zaE (r:Walk→T Walk) (n:Nat):Prop:=∀ (F:Nat→Prop) (w0:World),(∀ b,F b→b<w0.heap.size)→∀ (a0:Walk),Calls ar 249 #[aq (zpF a0)] w0 (zpj ar zpo n (r a0) F w0)
theorem zhK {au:Walk→T Walk} (hF:kH F w0) (hj:n<j) (aw:∀ m,m≤n→zaE au m)
    (c0:Walk) {c0b:Nat} (c0F:F c0b) (c0h:w0.heap[c0b]?=some (.cells ((zpF c0)).toArray 221 (0,0))) (c1:Int) {c1b:Nat} (c1F:F c1b) (c1h:w0.heap[c1b]?=some (.cells ([(.int .i64 c1)]).toArray 3 (0,0))) :
    Calls ar 393 #[zp c0b,zp c1b] w0 (zpj ar zpo n (D.zds j au c0 c1) F w0):=by
 refine kN Tryz.func393 rfl 14 rfl rfl fun fr r hB=>?_;have lc0b:=ah c0h
 have lc1b:=ah c1h;refine wsr ?_;refine za7 (.cells (kq zpo) 224 (0,0)) r (fun R=>za6 zpX) rfl fun fr b1 w2 n3 r=>?_;have c0h:=keep n3.below c0h
 have c1h:=keep n3.below c1h;obtain ⟨E1,Z2,H1,hB,zB⟩:=n3.all hB;refine wn (aa ?_);refine zaB 8 [.val (zp c0b),.val (zp c0b),.val (aq (zpg c0.seat.p)),.val (I c1),.val (I (D.za8 c0.seat.p c1 2)),.val (.pointer (some ⟨c0b,12,none⟩)),.val (U c0.next),.val (.pointer (some ⟨c0b,10,none⟩))] mixed r kz (kV (kV (kV (kV (kV (kV (kV (kV zat)))))))) ?_ ?_
 ·
  refine ec r (fun _ u _ b d s=>za3 s (b:=c0b) (o:=0) rfl zh4 bz) (ec r (fun _ u _ b d s=>za3 s (b:=c0b) (o:=0) d.1 zdP bz) (ec r (fun _ u _ b d s=>zac s (cs:=(zpg c0.seat.p)) (n:=6) d.1 (keep b c0h) ta23 rfl bz) (ec r (fun _ u _ b d s=>za4 s rfl (keep b c1h) to3 rfl bz) (ec r (fun fr1 u w' hb' hd r'=>zaF r' (args:=[(aq (zpg c0.seat.p)),(I c1),(I 2)]) (lc hd.1 (lc hd.2.1 (lc rfl l0))) cl89 ((zaY _ c0.seat.p c1 2).mono yab)) (ec r (fun _ u _ b d s=>za3 s (b:=c0b) (o:=0) rfl zgJ bz) (ec r (fun _ u _ b d s=>za4 s d.1 (keep b c0h) to34 rfl bz) (ec r (fun _ u _ b d s=>za3 s (b:=c0b) (o:=0) rfl zjR bz) ?_)))))));exact zaO
 intro fr u w4 hb hΦ hne r;have r:=r.congr (sc (hΦ 7 ke) (sc (hΦ 6 ke) (sc (hΦ 5 ke) (sc (hΦ 4 ke) (sc (hΦ 3 ke) (sc (hΦ 2 ke) (sc (hΦ 1 ke) (sc (hΦ 0 ke) rfl))))))));have Z4:=hb.size;have c0h:=keep hb c0h;have c1h:=keep hb c1h;have H1:=keep hb H1;obtain ⟨hB,zB⟩:=bon hb hB;refine zaD (.cells ((zpF ({ c0 with place:=(D.za8 c0.seat.p c1 2) }))).toArray 221 (0,0)) r (fun R=>zax r (o:=10) (v:=(I (D.za8 c0.seat.p c1 2))) rfl rfl c0h ts3 ak rfl rfl) rfl fun fr w5 u6 r=>?_
 have Z5:=u6.size;have c1h:=u6.keep c1h (zhT c1h c0h rfl);have H1:=u6.keep H1 kw
 have c0h:=u6.at_;have hB:=Chg.zpv (Z:=F) hB;have hB:=hB.zpI u6 (.inr c0F);have zB:=hB.size;obtain ⟨zs7,ezs7⟩:∃ z,z=({ c0 with place:=(D.za8 c0.seat.p c1 2) }):=⟨_,rfl⟩
 rw [←ezs7] at c0h
 refine kF 0 r rfl zeZ rfl fun r=>?_;refine zaD (.cells ((zpF ({ zs7 with cur:=c0.next }))).toArray 221 (0,0)) r (fun R=>zax r (o:=11) (v:=(U c0.next)) rfl rfl c0h ts34 ak rfl rfl) rfl fun fr w8 u9 r=>?_
 have Z8:=u9.size;have c1h:=u9.keep c1h (zhT c1h c0h rfl);have H1:=u9.keep H1 kw
 have c0h:=u9.at_;have hB:=hB.zpI u9 (.inr c0F);have zB:=hB.size;obtain ⟨zs10,ezs10⟩:∃ z,z=({ zs7 with cur:=c0.next }):=⟨_,rfl⟩
 rw [←ezs10] at c0h
 refine wn (wsr (kG (zpF zs10) 14 r rfl c0h zq5 rfl rfl fun r=>?_));refine kJ r ((aw n kw) (No) _ (fun _ h=>h.elim) zs10) rfl zri rfl fun w11 v12 hb hr13 r=>?_
 have hb:=hb.below;have Z11:=hb.size;have c0h:=keep hb c0h;have c1h:=keep hb c1h;have H1:=keep hb H1;have hB:=hB.thenB hb;have zB:=hB.size;refine kP r hr13.shape rfl rfl H1 zpV rfl rfl fun w14 u15 r=>?_;have Z14:=u15.size
 have c0h:=u15.keep c0h kw
 have c1h:=u15.keep c1h kw
 have H1:=u15.at_;have hB:=hB.zpI u15 (.inl kw)
 have zB:=hB.size;refine wn (ac ?_);have hd:D.zds j au c0 c1=(au zs10):=by subst ezs10 ezs7; exact rfl
 have hs:=hr13.shape.cells;refine za5 r rfl rfl H1 (k:=20) hs.1 zpU ?_;rw [←hs.2.2,hd];exact zpj.fin hB hr13 u15 (fun _ h=>h.elim) (fun h=>h) kw kw kw
theorem zir {au:Walk→T Walk} (hF:kH F w0) (hj:n<j) (aw:∀ m,m<n→zaE au m)
    (c0:Walk) {c0b:Nat} (c0F:F c0b) (c0h:w0.heap[c0b]?=some (.cells ((zpF c0)).toArray 221 (0,0))) (c1:Int) {c1b:Nat} (c1F:F c1b) (c1h:w0.heap[c1b]?=some (.cells ([(.int .i64 c1)]).toArray 3 (0,0))) :
    Calls ar 392 #[zp c0b,zp c1b] w0 (zpj ar zpo n (D.zfu j au c0 c1) F w0):=by
 refine kN Tryz.func392 rfl 9 rfl rfl fun fr r hB=>?_;have lc0b:=ah c0h
 have lc1b:=ah c1h;refine wsr ?_;refine za7 (.cells (kq zpo) 224 (0,0)) r (fun R=>za6 zpX) rfl fun fr b1 w2 n3 r=>?_;have c0h:=keep n3.below c0h
 have c1h:=keep n3.below c1h;obtain ⟨E1,Z2,H1,hB,zB⟩:=n3.all hB;refine wn (aa ?_);refine zaB 5 [.val (aq (zpF c0)),.val (.pointer (some ⟨c0b,12,none⟩)),.val (U c0.next),.val (I (D.zai c0.next)),.val (.func (.func 393) #[] #[zp c0b,zp c1b])] mixed r kz (kV (kV (kV (kV (kV zat))))) ?_ ?_
 ·
  refine ec r (fun _ u _ b d s=>zac s (cs:=(zpF c0)) (n:=14) rfl (keep b c0h) zq5 rfl bz) (ec r (fun _ u _ b d s=>za3 s (b:=c0b) (o:=0) rfl zgJ bz) (ec r (fun _ u _ b d s=>za4 s d.1 (keep b c0h) to34 rfl bz) (ec r (fun fr1 u w' hb' hd r'=>zaF r' (args:=[(U c0.next)]) (lc hd.1 l0) cl88 ((zc8 _ c0.next).mono yab)) (ec r (fun _ u _ b d s=>zaf s (v:=(.func (.func 393) #[] #[zp c0b,zp c1b])) rfl bz) ?_))));exact zaO
 intro fr u w4 hb hΦ hne r;have r:=r.congr (sc (hΦ 4 ke) (sc (hΦ 3 ke) (sc (hΦ 2 ke) (sc (hΦ 1 ke) (sc (hΦ 0 ke) rfl)))));have Z4:=hb.size;have c0h:=keep hb c0h;have c1h:=keep hb c1h;have H1:=keep hb H1;obtain ⟨hB,zB⟩:=bon hb hB;have hF1:=zpO hF hB.size b1;have f8:((kW F w0 w4 b1)) c0b:=(.inl c0F);have f9:((kW F w0 w4 b1)) c1b:=(.inl c1F);refine kJ r (zdt (F:=(kW F w0 w4 b1)) (n:=n) hF1 c0 1 (D.zai c0.next) ⟨393,[],[zp c0b,zp c1b],zuP,rfl,fun m hm _ w' hs hz=>zhK (j:=j) (fun b hb=>ai (hF1 b hb) hz) kw (fun m' hm'=>aw m' kw) c0 f8 (hs.at_ f8 c0h) c1 f9 (hs.at_ f9 c1h)⟩) rfl zqV rfl fun w5 v6 hb hr7 r=>?_;have Z5:=hb.size
 have H1:=zpE hb H1 yaa
 have hB:=Chg.zpv (Z:=F) hB;have hB:=hB.zpK hb yad
 have zB:=hB.size;refine kP r hr7.shape rfl rfl H1 zpV rfl rfl fun w10 u11 r=>?_;have Z10:=u11.size
 have H1:=u11.at_;have hB:=hB.zpI u11 (.inl kw)
 have zB:=hB.size;refine wn (ac ?_);have hs:=hr7.shape.cells;refine za5 r rfl rfl H1 (k:=20) hs.1 zpU ?_;rw [←hs.2.2];exact zpj.fin hB hr7 u11 yac yaa kw kw kw
theorem zjJ {au:Walk→T Walk} (hF:kH F w0) (hj:n<j) (aw:∀ m,m<n→zaE au m)
    (a0:Walk) (a1:Int) :
    Calls ar 368 #[aq (zpF a0),.int .i64 a1] w0 (zpj ar zpo n (D.zdH j au a0 a1) F w0):=by
 refine kN Tryz.func368 rfl 9 rfl rfl fun fr r hB=>?_;refine wsr ?_
 refine kX 221 (aq (zpF a0)) r rfl rfl fun b1 w2 n3 r=>?_;obtain ⟨E1,Z2,H1,hB,zB⟩:=n3.all hB
 refine kX 3 (I a1) r rfl rfl fun b4 w5 n6 r=>?_;have H1:=keep n6.below H1
 obtain ⟨E4,Z5,H4,hB,zB⟩:=n6.all hB;refine za7 (.cells (kq zpo) 224 (0,0)) r (fun R=>za6 zpX) rfl fun fr b7 w8 n9 r=>?_;have H1:=keep n9.below H1
 have H4:=keep n9.below H4;obtain ⟨E7,Z8,H7,hB,zB⟩:=n9.all hB;refine wn (wsr (kG (zpF a0) 14 r rfl H1 zq5 rfl rfl fun r=>kL (I a1) r rfl H4 to3 rfl rfl fun r=>za0 (.func (.func 392) #[] #[zp b1,zp b4]) r (fun R=>zaf r rfl) rfl fun fr r=>?_));have hF1:=zpO hF hB.size b7
 have f13:((kW F w0 w8 b7)) b1:=(.inr ⟨kw,kw,kw⟩)
 have f14:((kW F w0 w8 b7)) b4:=(.inr ⟨kw,kw,kw⟩)
 refine kJ r (zdt (F:=(kW F w0 w8 b7)) (n:=n) hF1 a0 2 a1 ⟨392,[],[zp b1,zp b4],ztA,rfl,fun m hm _ w' hs hz=>zir (j:=j) (fun b hb=>ai (hF1 b hb) hz) kw (fun m' hm'=>aw m' kw) a0 f13 (hs.at_ f13 H1) a1 f14 (hs.at_ f14 H4)⟩) rfl zqV rfl fun w10 v11 hb hr12 r=>?_;have Z10:=hb.size
 have H7:=zpE hb H7 yaa
 have hB:=Chg.zpv (Z:=F) hB;have hB:=hB.zpK hb yad
 have zB:=hB.size;refine kP r hr12.shape rfl rfl H7 zpV rfl rfl fun w15 u16 r=>?_;have Z15:=u16.size
 have H7:=u16.at_;have hB:=hB.zpI u16 (.inl kw)
 have zB:=hB.size;refine wn (ac ?_);have hs:=hr12.shape.cells;refine za5 r rfl rfl H7 (k:=20) hs.1 zpU ?_;rw [←hs.2.2];exact zpj.fin hB hr12 u16 yac yaa kw kw kw
theorem zfw {au:Walk→T Walk} (hF:kH F w0) (hj:n<j) (aw:∀ m,m<n→zaE au m)
    (c0:Int) {c0b:Nat} (c0F:F c0b) (c0h:w0.heap[c0b]?=some (.cells ([(.int .u64 c0)]).toArray 34 (0,0))) (c1:Walk) {c1b:Nat} (c1F:F c1b) (c1h:w0.heap[c1b]?=some (.cells ((zpF c1)).toArray 221 (0,0))) (a0:Int) :
    Calls ar 391 #[.int .i64 a0,zp c0b,zp c1b] w0 (zpj ar zpo n (D.zc0 j au c0 c1 a0) F w0):=by
 refine kN Tryz.func391 rfl 13 rfl rfl fun fr r hB=>?_;have lc0b:=ah c0h
 have lc1b:=ah c1h;refine wsr ?_;refine za7 (.cells (kq zpo) 224 (0,0)) r (fun R=>za6 zpX) rfl fun fr b1 w2 n3 r=>?_;have c0h:=keep n3.below c0h
 have c1h:=keep n3.below c1h;obtain ⟨E1,Z2,H1,hB,zB⟩:=n3.all hB;refine wn (wsr (kL (U c0) r rfl c0h to34 rfl rfl fun r=>kF 0 r rfl zeZ rfl fun r=>?_));refine zaD (.cells ((zpF ({ c1 with cur:=c0 }))).toArray 221 (0,0)) r (fun R=>zax r (o:=11) (v:=(U c0)) rfl rfl c1h ts34 ak rfl rfl) rfl fun fr w4 u5 r=>?_
 have Z4:=u5.size;have c0h:=u5.keep c0h (zhT c0h c1h rfl);have H1:=u5.keep H1 kw
 have c1h:=u5.at_;have hB:=Chg.zpv (Z:=F) hB;have hB:=hB.zpI u5 (.inr c1F);have zB:=hB.size;obtain ⟨zs6,ezs6⟩:∃ z,z=({ c1 with cur:=c0 }):=⟨_,rfl⟩
 rw [←ezs6] at c1h
 refine wn (aa ?_);refine zaB 5 [.val (aq (zpF zs6)),.val (U c0),.val (I (D.zai c0)),.val (aq (zpF zs6)),.val (.func (.func 249) #[(aq (zpF zs6))] #[])] mixed r kz (kV (kV (kV (kV (kV zat))))) ?_ ?_
 ·
  refine ec r (fun _ u _ b d s=>zac s (cs:=(zpF zs6)) (n:=14) rfl (keep b c1h) zq5 rfl bz) (ec r (fun _ u _ b d s=>za4 s rfl (keep b c0h) to34 rfl bz) (ec r (fun fr1 u w' hb' hd r'=>zaF r' (args:=[(U c0)]) (lc hd.1 l0) cl88 ((zc8 _ c0).mono yab)) (ec r (fun _ u _ b d s=>zac s (cs:=(zpF zs6)) (n:=14) rfl (keep b c1h) zq5 rfl bz) (ec r (fun fr1 u w' hb' hd r'=>zaf r' (v:=(.func (.func 249) #[(aq (zpF zs6))] #[])) (congrArg (fun z=>Value.func (.func 249) #[z] #[]) hd.1) bz) ?_))));exact zaO
 intro fr u w7 hb hΦ hne r;have r:=r.congr (sc (hΦ 4 ke) (sc (hΦ 3 ke) (sc (hΦ 2 ke) (sc (hΦ 1 ke) (sc (hΦ 0 ke) rfl)))));have Z7:=hb.size;have c0h:=keep hb c0h;have c1h:=keep hb c1h;have H1:=keep hb H1;have hB:=hB.thenB hb;have zB:=hB.size;have hF1:=zpO hF hB.size b1;refine kJ r (zdt (F:=(kW F w0 w7 b1)) (n:=n) hF1 zs6 1 (D.zai c0) ⟨249,[(aq (zpF zs6))],[],zri,rfl,fun m hm _ w' hs hz=>(aw m kw) _ _ (fun b hb=>ai (hF1 b hb) hz) zs6⟩) rfl zqV rfl fun w8 v9 hb hr10 r=>?_;have Z8:=hb.size
 have H1:=zpE hb H1 yaa
 have hB:=hB.zpK hb yad
 have zB:=hB.size;refine kP r hr10.shape rfl rfl H1 zpV rfl rfl fun w11 u12 r=>?_;have Z11:=u12.size
 have H1:=u12.at_;have hB:=hB.zpI u12 (.inl kw)
 have zB:=hB.size;refine wn (ac ?_);have hd:D.zc0 j au c0 c1 a0=(D.zbV zs6 1 (D.zai c0) (fun _=>(au zs6))):=by subst ezs6; exact rfl
 have hs:=hr10.shape.cells;refine za5 r rfl rfl H1 (k:=20) hs.1 zpU ?_;rw [←hs.2.2,hd];exact zpj.fin hB hr10 u12 yac yaa kw kw kw
theorem zk7 {au:Walk→T Walk} (hF:kH F w0) (hj:n<j) (aw:∀ m,m≤n→zaE au m)
    (c0:Seat) {c0b:Nat} (c0F:F c0b) (c0h:w0.heap[c0b]?=some (.cells ((zpJ c0)).toArray 47 (0,0))) (c1:Int) {c1b:Nat} (c1F:F c1b) (c1h:w0.heap[c1b]?=some (.cells ([(.int .i64 c1)]).toArray 3 (0,0))) (c2:Int) {c2b:Nat} (c2F:F c2b) (c2h:w0.heap[c2b]?=some (.cells ([(.int .u64 c2)]).toArray 34 (0,0))) (a0:Int) :
    Calls ar 248 #[.int .u64 a0,zp c0b,zp c1b,zp c2b] w0 (zpj ar zpo n (D.zjN j au c0 c1 c2 a0) F w0):=by
 refine kN Tryz.func248 rfl 13 rfl rfl fun fr r hB=>?_;have lc0b:=ah c0h
 have lc1b:=ah c1h;have lc2b:=ah c2h;refine wsr ?_;refine za7 (.cells (kq zpo) 224 (0,0)) r (fun R=>za6 zpX) rfl fun fr b1 w2 n3 r=>?_;obtain ⟨E1,Z2,H1,hB,zB⟩:=n3.all hB
 refine wn (wsr (kG (zpJ c0) 8 r rfl (keep hB c0h) ta47 rfl rfl fun r=>kL (I c1) r rfl (keep hB c1h) to3 rfl rfl fun r=>kL (U c2) r rfl (keep hB c2h) to34 rfl rfl fun r=>kL (I c1) r rfl (keep hB c1h) to3 rfl rfl fun r=>kM (U a0) r rfl rfl fun r=>kU (aq (zpF (⟨c0,c1,c2,c1,a0,0,false⟩:Walk))) r kz rfl fun r=>?_));refine kJ r ((aw n kw) (No) _ (fun _ h=>h.elim) (⟨c0,c1,c2,c1,a0,0,false⟩:Walk)) rfl zri rfl fun w4 v5 hb hr6 r=>?_
 have hb:=hb.below;have Z4:=hb.size;have H1:=keep hb H1;obtain ⟨hB,zB⟩:=bon hb hB;refine kP r hr6.shape rfl rfl H1 zpV rfl rfl fun w7 u8 r=>?_;have Z7:=u8.size
 have H1:=u8.at_;obtain ⟨hB,zB⟩:=u8.on hB kw
 refine wn (ac ?_);have hs:=hr6.shape.cells;refine za5 r rfl rfl H1 (k:=20) hs.1 zpU ?_;rw [←hs.2.2];exact zpj.fin (Chg.zpv hB) hr6 u8 (fun _ h=>h.elim) (fun h=>h) kw kw kw
theorem zfn {au:Walk→T Walk} (hF:kH F w0) (hj:n<j) (aw:∀ m,m<n→zaE au m)
    (a0:Seat) (a1:Int) (a2:Int) :
    Calls ar 158 #[aq (zpJ a0),.int .i64 a1,.int .u64 a2] w0 (zpj ar zpo n (D.zfC j au a0 a1 a2) F w0):=by
 refine kN Tryz.func158 rfl 15 rfl rfl fun fr r hB=>?_;refine wsr ?_
 refine kX 47 (aq (zpJ a0)) r rfl rfl fun b1 w2 n3 r=>?_;obtain ⟨E1,Z2,H1,hB,zB⟩:=n3.all hB
 refine kX 3 (I a1) r rfl rfl fun b4 w5 n6 r=>?_;have H1:=keep n6.below H1
 obtain ⟨E4,Z5,H4,hB,zB⟩:=n6.all hB;refine kX 34 (U a2) r rfl rfl fun b7 w8 n9 r=>?_;have H1:=keep n9.below H1
 have H4:=keep n9.below H4;obtain ⟨E7,Z8,H7,hB,zB⟩:=n9.all hB;refine za7 (.cells (kq zpo) 224 (0,0)) r (fun R=>za6 zpX) rfl fun fr b10 w11 n12 r=>?_;have H1:=keep n12.below H1
 have H4:=keep n12.below H4;have H7:=keep n12.below H7;obtain ⟨E10,Z11,H10,hB,zB⟩:=n12.all hB;refine wn (wsr (kF 0 r rfl zdP rfl fun r=>kG (zpg a0.p) 6 r rfl H1 ta23 rfl rfl fun r=>kF 0 r rfl zjQ rfl fun r=>kL (I a0.thread) r rfl H1 to3 rfl rfl fun r=>kL (I a1) r rfl H4 to3 rfl rfl fun r=>?_));refine kD r (zk9 (j:=j) (F:=No) (n:=n) (fun _ h=>h.elim) kw a0.p a0.thread 1 a1 1 yau) rfl zud rfl fun w13 v14 hb hr15 r=>?_
 have hr15:=hr15.loud;have Z13:=hb.size;have H1:=keep hb H1;have H4:=keep hb H4;have H7:=keep hb H7;have H10:=keep hb H10;obtain ⟨hB,zB⟩:=bon hb hB;refine za0 (.func (.func 248) #[] #[zp b1,zp b4,zp b7]) r (fun R=>zaf r rfl) rfl fun fr r=>?_;have hF1:∀ b,(kW F w0 w11 b10) b→b<w13.heap.size:=by rintro b (h | ⟨_,h,_⟩); exact ai (hF b h) hB.size; exact ai h kw
 have f19:((kW F w0 w11 b10)) b1:=(.inr ⟨kw,kw,kw⟩)
 have f20:((kW F w0 w11 b10)) b4:=(.inr ⟨kw,kw,kw⟩)
 have f21:((kW F w0 w11 b10)) b7:=(.inr ⟨kw,kw,kw⟩)
 have hF2:=zpO hF hB.size b10;refine kJ r (zeU (F:=(kW F w0 w13 b10)) (F2:=(kW F w0 w11 b10)) (n:=n) hF2 yan yag yah (RepL.mono (F':=fun b=>w11.heap.size≤b∧b<w13.heap.size) yam (Same.refl _ _) (Nat.le_refl _) n _ _ hr15) ⟨248,[],[zp b1,zp b4,zp b7],zuG,rfl,fun m hm x w' hs hz=>zk7 (j:=j) (fun b hb=>ai (hF1 b hb) hz) kw (fun m' hm'=>aw m' kw) a0 f19 (hs.at_ f19 H1) a1 f20 (hs.at_ f20 H4) a2 f21 (hs.at_ f21 H7) x⟩ (by first | rfl | (cases j with | zero=>omega | succ q=>rfl))) rfl zrZ rfl fun w16 v17 hb hr18 r=>?_
 have Z16:=hb.size;have H10:=zpE hb H10 yaa
 have hB:=Chg.zpv (Z:=F) hB;have hB:=hB.zpK hb yad
 have zB:=hB.size;refine kP r hr18.shape rfl rfl H10 zpV rfl rfl fun w22 u23 r=>?_;have Z22:=u23.size
 have H10:=u23.at_;have hB:=hB.zpI u23 (.inl kw)
 have zB:=hB.size;refine wn (ac ?_);have hs:=hr18.shape.cells;refine za5 r rfl rfl H10 (k:=20) hs.1 zpU ?_;rw [←hs.2.2];exact zpj.fin hB hr18 u23 yac yaa kw kw kw
theorem zcZ {au:Walk→T Walk} (hF:kH F w0) (hj:n<j) (aw:∀ m,m<n→zaE au m)
    (a0:Walk) :
    Calls ar 253 #[aq (zpF a0)] w0 (zpj ar zpo n (D.zbK j au a0) F w0):=by
 refine kN Tryz.func253 rfl 10 rfl rfl fun fr r hB=>?_;refine wsr ?_
 refine kX 221 (aq (zpF a0)) r rfl rfl fun b1 w2 n3 r=>?_;obtain ⟨E1,Z2,H1,hB,zB⟩:=n3.all hB
 refine za7 (.cells (kq zpo) 224 (0,0)) r (fun R=>za6 zpX) rfl fun fr b4 w5 n6 r=>?_;have H1:=keep n6.below H1
 obtain ⟨E4,Z5,H4,hB,zB⟩:=n6.all hB;refine wn (wsr (kF 0 r rfl zh4 rfl fun r=>kG (zpJ a0.seat) 8 r rfl H1 ta47 rfl rfl fun r=>kF 0 r rfl zp2 rfl fun r=>kL (I a0.cell) r rfl H1 to3 rfl rfl fun r=>kF 0 r rfl zlH rfl fun r=>kL (U a0.k) r rfl H1 to34 rfl rfl fun r=>?_));refine kJ r (zfn (j:=j) (F:=No) (n:=n) (fun _ h=>h.elim) kw (fun m' hm'=>aw m' kw) a0.seat a0.cell a0.k) rfl zqP rfl fun w7 v8 hb hr9 r=>?_
 have hb:=hb.below;have Z7:=hb.size;have H1:=keep hb H1;have H4:=keep hb H4;obtain ⟨hB,zB⟩:=bon hb hB;refine kP r hr9.shape rfl rfl H4 zpV rfl rfl fun w10 u11 r=>?_;have Z10:=u11.size
 have H1:=u11.keep H1 kw
 have H4:=u11.at_;obtain ⟨hB,zB⟩:=u11.on hB kw
 refine wn (ac ?_);have hs:=hr9.shape.cells;refine za5 r rfl rfl H4 (k:=20) hs.1 zpU ?_;rw [←hs.2.2];exact zpj.fin (Chg.zpv hB) hr9 u11 (fun _ h=>h.elim) (fun h=>h) kw kw kw
theorem zg0 {au:Walk→T Walk} (hF:kH F w0) (hj:n<j) (aw:∀ m,m<n→zaE au m)
    (c0:Walk) {c0b:Nat} (c0F:F c0b) (c0h:w0.heap[c0b]?=some (.cells ((zpF c0)).toArray 221 (0,0))) (c1:Int) {c1b:Nat} (c1F:F c1b) (c1h:w0.heap[c1b]?=some (.cells ([(.int .i64 c1)]).toArray 3 (0,0))) (c2:Int) {c2b:Nat} (c2F:F c2b) (c2h:w0.heap[c2b]?=some (.cells ([(.int .u64 c2)]).toArray 34 (0,0))) (a0:Bool) :
    Calls ar 389 #[.bool a0,zp c0b,zp c1b,zp c2b] w0 (zpj ar zpo n (D.zch j au c0 c1 c2 a0) F w0):=by
 refine kN Tryz.func389 rfl 20 rfl rfl fun fr r hB=>?_;have lc0b:=ah c0h
 have lc1b:=ah c1h;have lc2b:=ah c2h;refine wsr ?_;refine za7 (.cells (kq zpo) 224 (0,0)) r (fun R=>za6 zpX) rfl fun fr b1 w2 n3 r=>?_;have c0h:=keep n3.below c0h
 have c1h:=keep n3.below c1h;have c2h:=keep n3.below c2h;obtain ⟨E1,Z2,H1,hB,zB⟩:=n3.all hB;refine wn (aa (wsr (kM (.bool a0) r rfl rfl fun r=>za0 (.bool (!a0)) r (fun R=>y_un r (u:=(.bool a0)) rfl rfl) rfl fun fr r=>wn ?_)));refine ae (t:=(!a0)) (r.ev rfl) (fun h4=>?_) (fun h4=>?_)
 ·
  refine wsr (kG (zpF c0) 14 r rfl c0h zq5 rfl rfl fun r=>?_);refine kJ r (zcZ (j:=j) (F:=No) (n:=n) (fun _ h=>h.elim) kw (fun m' hm'=>aw m' kw) c0) rfl zqQ rfl fun w5 v6 hb hr7 r=>?_
  have hb:=hb.below;have Z5:=hb.size;have c0h:=keep hb c0h;have c1h:=keep hb c1h;have c2h:=keep hb c2h;have H1:=keep hb H1;obtain ⟨hB,zB⟩:=bon hb hB;refine kP r hr7.shape rfl rfl H1 zpV rfl rfl fun w8 u9 r=>?_;have Z8:=u9.size
  have c0h:=u9.keep c0h kw
  have c1h:=u9.keep c1h kw
  have c2h:=u9.keep c2h kw
  have H1:=u9.at_;obtain ⟨hB,zB⟩:=u9.on hB kw
  refine wn (ac ?_);have hd:D.zch j au c0 c1 c2 a0=(D.zbK j au c0):=(zao h4).trans (rfl);have hs:=hr7.shape.cells;refine za5 r rfl rfl H1 (k:=20) hs.1 zpU ?_;rw [←hs.2.2,hd];exact zpj.fin (Chg.zpv hB) hr7 u9 (fun _ h=>h.elim) (fun h=>h) kw kw kw
 refine ag (wsr (kF 0 r rfl zh4 rfl fun r=>kF 0 r rfl zdP rfl fun r=>kG (zpg c0.seat.p) 6 r rfl c0h ta23 rfl rfl fun r=>kF 0 r rfl zh4 rfl fun r=>kF 0 r rfl zjQ rfl fun r=>kL (I c0.seat.thread) r rfl c0h to3 rfl rfl fun r=>kL (I c1) r rfl c1h to3 rfl rfl fun r=>?_));refine kD r (zhA (j:=j) (F:=No) (n:=n) (fun _ h=>h.elim) kw c0.seat.p c0.seat.thread c1) rfl zs5 rfl fun w10 v11 hb hr12 r=>?_
 have hr12:=hr12.loud;have Z10:=hb.size;have c0h:=keep hb c0h;have c1h:=keep hb c1h;have c2h:=keep hb c2h;have H1:=keep hb H1;obtain ⟨hB,zB⟩:=bon hb hB;refine za0 (.func (.func 391) #[] #[zp c2b,zp c0b]) r (fun R=>zaf r rfl) rfl fun fr r=>?_;have hF1:∀ b,(kW F w0 w2 b1) b→b<w10.heap.size:=by rintro b (h | ⟨_,h,_⟩); exact ai (hF b h) hB.size; exact ai h kw
 have f16:((kW F w0 w2 b1)) c2b:=(.inl c2F);have f17:((kW F w0 w2 b1)) c0b:=(.inl c0F);have hF2:=zpO hF hB.size b1;refine kJ r (zfJ (F:=(kW F w0 w10 b1)) (F2:=(kW F w0 w2 b1)) (n:=n) hF2 yan yag yah (RepL.mono (F':=fun b=>w2.heap.size≤b∧b<w10.heap.size) yam (Same.refl _ _) (Nat.le_refl _) n _ _ hr12) ⟨391,[],[zp c2b,zp c0b],ztW,rfl,fun m hm x w' hs hz=>zfw (j:=j) (fun b hb=>ai (hF1 b hb) hz) kw (fun m' hm'=>aw m' kw) c2 f16 (hs.at_ f16 c2h) c0 f17 (hs.at_ f17 c0h) x⟩) rfl zsf rfl fun w13 v14 hb hr15 r=>?_
 have Z13:=hb.size;have H1:=zpE hb H1 yaa
 have hB:=Chg.zpv (Z:=F) hB;have hB:=hB.zpK hb yad
 have zB:=hB.size;refine kP r hr15.shape rfl rfl H1 zpV rfl rfl fun w18 u19 r=>?_;have Z18:=u19.size
 have H1:=u19.at_;have hB:=hB.zpI u19 (.inl kw)
 have zB:=hB.size;refine wn (ac ?_);have hd:D.zch j au c0 c1 c2 a0=(T.bind (D.zcp j c0.seat.p c0.seat.thread c1) (fun x=>(D.zc0 j au c2 c0 x))):=(zaq h4).trans (rfl)
 have hs:=hr15.shape.cells;refine za5 r rfl rfl H1 (k:=20) hs.1 zpU ?_;rw [←hs.2.2,hd];exact zpj.fin hB hr15 u19 yac yaa kw kw kw
theorem zgI {au:Walk→T Walk} (hF:kH F w0) (hj:n<j) (aw:∀ m,m<n→zaE au m)
    (a0:Walk) (a1:Int) :
    Calls ar 367 #[aq (zpF a0),.int .i64 a1] w0 (zpj ar zpo n (D.zea j au a0 a1) F w0):=by
 refine kN Tryz.func367 rfl 16 rfl rfl fun fr r hB=>?_;refine wsr ?_
 refine kX 221 (aq (zpF a0)) r rfl rfl fun b1 w2 n3 r=>?_;obtain ⟨E1,Z2,H1,hB,zB⟩:=n3.all hB
 refine kX 3 (I a1) r rfl rfl fun b4 w5 n6 r=>?_;have H1:=keep n6.below H1
 obtain ⟨E4,Z5,H4,hB,zB⟩:=n6.all hB;refine za7 (.cells (kq zpo) 224 (0,0)) r (fun R=>za6 zpX) rfl fun fr b7 w8 n9 r=>?_;have H1:=keep n9.below H1
 have H4:=keep n9.below H4;obtain ⟨E7,Z8,H7,hB,zB⟩:=n9.all hB;refine wn (wsr (kF 0 r rfl zgJ rfl fun r=>kL (U a0.next) r rfl H1 to34 rfl rfl fun r=>kB r rfl rfl rfl rfl rfl fun r=>?_));refine za7 (.cells #[(U 0)] 34 (0,0)) r (fun R=>za6 tz34) rfl fun fr b10 w11 n12 r=>?_
 have H1:=keep n12.below H1;have H4:=keep n12.below H4;have H7:=keep n12.below H7;obtain ⟨E10,Z11,H10,hB,zB⟩:=n12.all hB;refine zaD (.cells #[(U (zaP .u64 a0.next 1))] 34 (0,0)) r (fun R=>zax r (o:=0) (v:=(U (zaP .u64 a0.next 1))) rfl rfl H10 ts34 ak rfl rfl) rfl fun fr w13 u14 r=>?_;have Z13:=u14.size
 have H1:=u14.keep H1 kw
 have H4:=u14.keep H4 kw
 have H7:=u14.keep H7 kw
 have H10:=u14.at_;obtain ⟨hB,zB⟩:=u14.on hB kw
 refine wn (wsr (kF 0 r rfl zjR rfl fun r=>kL (I a0.place) r rfl H1 to3 rfl rfl fun r=>kF 0 r rfl zeZ rfl fun r=>kL (U a0.cur) r rfl H1 to34 rfl rfl fun r=>kL (U (zaP .u64 a0.next 1)) r rfl H10 to34 rfl rfl fun r=>za0 (.func (.func 389) #[] #[zp b1,zp b4,zp b10]) r (fun R=>zaf r rfl) rfl fun fr r=>?_));have hF1:=zpO hF hB.size b7
 have f18:((kW F w0 w13 b7)) b1:=(.inr ⟨kw,kw,kw⟩)
 have f19:((kW F w0 w13 b7)) b4:=(.inr ⟨kw,kw,kw⟩)
 have f20:((kW F w0 w13 b7)) b10:=(.inr ⟨kw,kw,kw⟩)
 refine kJ r (ziG (F:=(kW F w0 w13 b7)) (n:=n) hF1 a0.place a0.cur (zaP .u64 a0.next 1) ⟨389,[],[zp b1,zp b4,zp b10],zsT,rfl,fun m hm x w' hs hz=>zg0 (j:=j) (fun b hb=>ai (hF1 b hb) hz) kw (fun m' hm'=>aw m' kw) a0 f18 (hs.at_ f18 H1) a1 f19 (hs.at_ f19 H4) (zaP .u64 a0.next 1) f20 (hs.at_ f20 H10) x⟩) rfl zsZ rfl fun w15 v16 hb hr17 r=>?_;have Z15:=hb.size
 have H7:=zpE hb H7 yaa
 have hB:=Chg.zpv (Z:=F) hB;have hB:=hB.zpK hb yad
 have zB:=hB.size;refine kP r hr17.shape rfl rfl H7 zpV rfl rfl fun w21 u22 r=>?_;have Z21:=u22.size
 have H7:=u22.at_;have hB:=hB.zpI u22 (.inl kw)
 have zB:=hB.size;refine wn (ac ?_);have hs:=hr17.shape.cells;refine za5 r rfl rfl H7 (k:=20) hs.1 zpU ?_;rw [←hs.2.2];exact zpj.fin hB hr17 u22 yac yaa kw kw kw
theorem zgp {au:Walk→T Walk} (hF:kH F w0) (hj:n<j) (aw:∀ m,m<n→zaE au m)
    (c0:Walk) {c0b:Nat} (c0F:F c0b) (c0h:w0.heap[c0b]?=some (.cells ((zpF c0)).toArray 221 (0,0))) (c1:Int) {c1b:Nat} (c1F:F c1b) (c1h:w0.heap[c1b]?=some (.cells ([(.int .i64 c1)]).toArray 3 (0,0))) (c2:Int) {c2b:Nat} (c2F:F c2b) (c2h:w0.heap[c2b]?=some (.cells ([(.int .u64 c2)]).toArray 34 (0,0))) (a0:Int) :
    Calls ar 366 #[.int .u64 a0,zp c0b,zp c1b,zp c2b] w0 (zpj ar zpo n (D.zbv j au c0 c1 c2 a0) F w0):=by
 refine kN Tryz.func366 rfl 36 rfl rfl fun fr r hB=>?_;have lc0b:=ah c0h
 have lc1b:=ah c1h;have lc2b:=ah c2h;refine wsr ?_;refine za7 (.cells (kq zpo) 224 (0,0)) r (fun R=>za6 zpX) rfl fun fr b1 w2 n3 r=>?_;have c0h:=keep n3.below c0h
 have c1h:=keep n3.below c1h;have c2h:=keep n3.below c2h;obtain ⟨E1,Z2,H1,hB,zB⟩:=n3.all hB;refine wn (aa (wp_block (wsr (kM (U a0) r rfl rfl fun r=>kF 0 r rfl zeZ rfl fun r=>kL (U c0.cur) r rfl c0h to34 rfl rfl fun r=>kB r rfl rfl rfl rfl rfl fun r=>kA (.bool (a0 !=c0.cur)) r rfl rfl fun r=>wn ?_))));refine ae (t:=(a0 !=c0.cur)) (r.ev rfl) (fun h4=>?_) (fun h4=>?_)
 ·
  refine wsr (kG (zpF c0) 14 r rfl c0h zq5 rfl rfl fun r=>?_);refine kJ r (zcZ (j:=j) (F:=No) (n:=n) (fun _ h=>h.elim) kw (fun m' hm'=>aw m' kw) c0) rfl zqQ rfl fun w5 v6 hb hr7 r=>?_
  have hb:=hb.below;have Z5:=hb.size;have c0h:=keep hb c0h;have c1h:=keep hb c1h;have c2h:=keep hb c2h;have H1:=keep hb H1;obtain ⟨hB,zB⟩:=bon hb hB;refine kP r hr7.shape rfl rfl H1 zpV rfl rfl fun w8 u9 r=>?_;have Z8:=u9.size
  have c0h:=u9.keep c0h kw
  have c1h:=u9.keep c1h kw
  have c2h:=u9.keep c2h kw
  have H1:=u9.at_;obtain ⟨hB,zB⟩:=u9.on hB kw
  refine wn (ac ?_);have hd:D.zbv j au c0 c1 c2 a0=(D.zbK j au c0):=(zao h4).trans (rfl);have hs:=hr7.shape.cells;refine za5 r rfl rfl H1 (k:=20) hs.1 zpU ?_;rw [←hs.2.2,hd];exact zpj.fin (Chg.zpv hB) hr7 u9 (fun _ h=>h.elim) (fun h=>h) kw kw kw
 refine wsr (kF 0 r rfl zgJ rfl fun r=>kL (U c0.next) r rfl c0h to34 rfl rfl fun r=>kB r rfl rfl rfl rfl rfl fun r=>kB r rfl rfl rfl rfl rfl fun r=>kA (.bool ((zbb .u64 c0.next 1) !=0)) r rfl rfl fun r=>wn ?_);refine ae (t:=((zbb .u64 c0.next 1) !=0)) (r.ev rfl) (fun h10=>?_) (fun h10=>?_)
 ·
  refine wsr (kG (zpF c0) 14 r rfl c0h zq5 rfl rfl fun r=>kL (I c1) r rfl c1h to3 rfl rfl fun r=>?_);refine kJ r (zgI (j:=j) (F:=No) (n:=n) (fun _ h=>h.elim) kw (fun m' hm'=>aw m' kw) c0 c1) rfl zsX rfl fun w11 v12 hb hr13 r=>?_
  have hb:=hb.below;have Z11:=hb.size;have c0h:=keep hb c0h;have c1h:=keep hb c1h;have c2h:=keep hb c2h;have H1:=keep hb H1;obtain ⟨hB,zB⟩:=bon hb hB;refine kP r hr13.shape rfl rfl H1 zpV rfl rfl fun w14 u15 r=>?_;have Z14:=u15.size
  have c0h:=u15.keep c0h kw
  have c1h:=u15.keep c1h kw
  have c2h:=u15.keep c2h kw
  have H1:=u15.at_;obtain ⟨hB,zB⟩:=u15.on hB kw
  refine wn (ac ?_);have hd:D.zbv j au c0 c1 c2 a0=(D.zea j au c0 c1):=(zaq h4).trans ((zao h10).trans (rfl));have hs:=hr13.shape.cells;refine za5 r rfl rfl H1 (k:=20) hs.1 zpU ?_;rw [←hs.2.2,hd];exact zpj.fin (Chg.zpv hB) hr13 u15 (fun _ h=>h.elim) (fun h=>h) kw kw kw
 refine wsr (kL (U c2) r rfl c2h to34 rfl rfl fun r=>kF 0 r rfl zlH rfl fun r=>kL (U c0.k) r rfl c0h to34 rfl rfl fun r=>kB r rfl rfl rfl rfl rfl fun r=>kA (.bool (decide (c2≥c0.k))) r rfl rfl fun r=>wn ?_);refine ae (t:=(decide (c2≥c0.k))) (r.ev rfl) (fun h16=>?_) (fun h16=>?_)
 ·
  refine wsr (kL (U c2) r rfl c2h to34 rfl rfl fun r=>kF 0 r rfl zlH rfl fun r=>kL (U c0.k) r rfl c0h to34 rfl rfl fun r=>kB r rfl rfl rfl rfl rfl fun r=>kF 0 r rfl zjL rfl fun r=>?_);refine zaD (.cells ((zpF ({ c0 with there:=(c2==c0.k) }))).toArray 221 (0,0)) r (fun R=>zax r (o:=13) (v:=(.bool (c2==c0.k))) rfl rfl c0h ts4 ak rfl rfl) rfl fun fr w17 u18 r=>?_
  have Z17:=u18.size;have c1h:=u18.keep c1h (zhT c1h c0h rfl);have c2h:=u18.keep c2h (zhT c2h c0h rfl);have H1:=u18.keep H1 kw
  have c0h:=u18.at_;have hB:=Chg.zpv (Z:=F) hB;have hB:=hB.zpI u18 (.inr c0F);have zB:=hB.size;obtain ⟨zs19,ezs19⟩:∃ z,z=({ c0 with there:=(c2==c0.k) }):=⟨_,rfl⟩
  rw [←ezs19] at c0h
  refine wn (wsr (kG (zpF zs19) 14 r rfl c0h zq5 rfl rfl fun r=>?_));refine kJ r (zfG (F:=No) (n:=n) (fun _ h=>h.elim) zs19) rfl zsd rfl fun w20 v21 hb hr22 r=>?_
  have hb:=hb.below;have Z20:=hb.size;have c0h:=keep hb c0h;have c1h:=keep hb c1h;have c2h:=keep hb c2h;have H1:=keep hb H1;have hB:=hB.thenB hb;have zB:=hB.size;refine kP r hr22.shape rfl rfl H1 zpV rfl rfl fun w23 u24 r=>?_;have Z23:=u24.size
  have c0h:=u24.keep c0h kw
  have c1h:=u24.keep c1h kw
  have c2h:=u24.keep c2h kw
  have H1:=u24.at_;have hB:=hB.zpI u24 (.inl kw)
  have zB:=hB.size;refine wn (ac ?_);have hd:D.zbv j au c0 c1 c2 a0=(D.zcE zs19):=by subst ezs19; exact (zaq h4).trans ((zaq h10).trans ((zao h16).trans (rfl)))
  have hs:=hr22.shape.cells;refine za5 r rfl rfl H1 (k:=20) hs.1 zpU ?_;rw [←hs.2.2,hd];exact zpj.fin hB hr22 u24 (fun _ h=>h.elim) (fun h=>h) kw kw kw
 refine ag (wsr (kG (zpF c0) 14 r rfl c0h zq5 rfl rfl fun r=>kL (I c1) r rfl c1h to3 rfl rfl fun r=>?_));refine kJ r (zjJ (j:=j) (F:=No) (n:=n) (fun _ h=>h.elim) kw (fun m' hm'=>aw m' kw) c0 c1) rfl ztz rfl fun w25 v26 hb hr27 r=>?_
 have hb:=hb.below;have Z25:=hb.size;have c0h:=keep hb c0h;have c1h:=keep hb c1h;have c2h:=keep hb c2h;have H1:=keep hb H1;obtain ⟨hB,zB⟩:=bon hb hB;refine kP r hr27.shape rfl rfl H1 zpV rfl rfl fun w28 u29 r=>?_;have Z28:=u29.size
 have c0h:=u29.keep c0h kw
 have c1h:=u29.keep c1h kw
 have c2h:=u29.keep c2h kw
 have H1:=u29.at_;obtain ⟨hB,zB⟩:=u29.on hB kw
 refine wn (ac ?_);have hd:D.zbv j au c0 c1 c2 a0=(D.zdH j au c0 c1):=(zaq h4).trans ((zaq h10).trans ((zaq h16).trans (rfl)));have hs:=hr27.shape.cells;refine za5 r rfl rfl H1 (k:=20) hs.1 zpU ?_;rw [←hs.2.2,hd];exact zpj.fin (Chg.zpv hB) hr27 u29 (fun _ h=>h.elim) (fun h=>h) kw kw kw
theorem zhq {au:Walk→T Walk} (hF:kH F w0) (hj:n<j) (aw:∀ m,m<n→zaE au m)
    (c0:Walk) {c0b:Nat} (c0F:F c0b) (c0h:w0.heap[c0b]?=some (.cells ((zpF c0)).toArray 221 (0,0))) (c1:Int) {c1b:Nat} (c1F:F c1b) (c1h:w0.heap[c1b]?=some (.cells ([(.int .i64 c1)]).toArray 3 (0,0))) (a0:Int) :
    Calls ar 365 #[.int .u64 a0,zp c0b,zp c1b] w0 (zpj ar zpo n (D.zd1 j au c0 c1 a0) F w0):=by
 refine kN Tryz.func365 rfl 9 rfl rfl fun fr r hB=>?_;have lc0b:=ah c0h
 have lc1b:=ah c1h;refine wsr ?_;refine kX 34 (U a0) r rfl rfl fun b1 w2 n3 r=>?_;have c0h:=keep n3.below c0h
 have c1h:=keep n3.below c1h;obtain ⟨E1,Z2,H1,hB,zB⟩:=n3.all hB;refine za7 (.cells (kq zpo) 224 (0,0)) r (fun R=>za6 zpX) rfl fun fr b4 w5 n6 r=>?_;have c0h:=keep n6.below c0h
 have c1h:=keep n6.below c1h;have H1:=keep n6.below H1;obtain ⟨E4,Z5,H4,hB,zB⟩:=n6.all hB;refine wn (wsr (kF 0 r rfl zjR rfl fun r=>kL (I c0.place) r rfl c0h to3 rfl rfl fun r=>za0 (.func (.func 366) #[] #[zp c0b,zp c1b,zp b1]) r (fun R=>zaf r rfl) rfl fun fr r=>?_));have hF1:=zpO hF hB.size b4
 have f10:((kW F w0 w5 b4)) c0b:=(.inl c0F);have f11:((kW F w0 w5 b4)) c1b:=(.inl c1F);have f12:((kW F w0 w5 b4)) b1:=(.inr ⟨kw,kw,kw⟩)
 refine kJ r (zd2 (F:=(kW F w0 w5 b4)) (n:=n) hF1 c0.place ⟨366,[],[zp c0b,zp c1b,zp b1],zus,rfl,fun m hm x w' hs hz=>zgp (j:=j) (fun b hb=>ai (hF1 b hb) hz) kw (fun m' hm'=>aw m' kw) c0 f10 (hs.at_ f10 c0h) c1 f11 (hs.at_ f11 c1h) a0 f12 (hs.at_ f12 H1) x⟩) rfl zqW rfl fun w7 v8 hb hr9 r=>?_;have Z7:=hb.size
 have H4:=zpE hb H4 yaa
 have hB:=Chg.zpv (Z:=F) hB;have hB:=hB.zpK hb yad
 have zB:=hB.size;refine kP r hr9.shape rfl rfl H4 zpV rfl rfl fun w13 u14 r=>?_;have Z13:=u14.size
 have H4:=u14.at_;have hB:=hB.zpI u14 (.inl kw)
 have zB:=hB.size;refine wn (ac ?_);have hs:=hr9.shape.cells;refine za5 r rfl rfl H4 (k:=20) hs.1 zpU ?_;rw [←hs.2.2];exact zpj.fin hB hr9 u14 yac yaa kw kw kw
theorem zhY {au:Walk→T Walk} (hF:kH F w0) (hj:n<j) (aw:∀ m,m<n→zaE au m)
    (a0:Walk) (a1:Int) :
    Calls ar 322 #[aq (zpF a0),.int .i64 a1] w0 (zpj ar zpo n (D.zcl j au a0 a1) F w0):=by
 refine kN Tryz.func322 rfl 12 rfl rfl fun fr r hB=>?_;refine wsr ?_
 refine kX 221 (aq (zpF a0)) r rfl rfl fun b1 w2 n3 r=>?_;obtain ⟨E1,Z2,H1,hB,zB⟩:=n3.all hB
 refine kX 3 (I a1) r rfl rfl fun b4 w5 n6 r=>?_;have H1:=keep n6.below H1
 obtain ⟨E4,Z5,H4,hB,zB⟩:=n6.all hB;refine za7 (.cells (kq zpo) 224 (0,0)) r (fun R=>za6 zpX) rfl fun fr b7 w8 n9 r=>?_;have H1:=keep n9.below H1
 have H4:=keep n9.below H4;obtain ⟨E7,Z8,H7,hB,zB⟩:=n9.all hB;refine wn (wsr (kF 0 r rfl zh4 rfl fun r=>kF 0 r rfl zdP rfl fun r=>kG (zpg a0.seat.p) 6 r rfl H1 ta23 rfl rfl fun r=>kL (I a1) r rfl H4 to3 rfl rfl fun r=>?_));refine kE r (zaY w8 a0.seat.p a1 0) rfl cl89 rfl fun w10 hb r=>?_
 have Z10:=hb.size;have H1:=keep hb H1;have H4:=keep hb H4;have H7:=keep hb H7;obtain ⟨hB,zB⟩:=bon hb hB;refine za0 (.func (.func 365) #[] #[zp b1,zp b4]) r (fun R=>zaf r rfl) rfl fun fr r=>?_;have hF1:=zpO hF hB.size b7
 have f14:((kW F w0 w10 b7)) b1:=(.inr ⟨kw,kw,kw⟩)
 have f15:((kW F w0 w10 b7)) b4:=(.inr ⟨kw,kw,kw⟩)
 refine kJ r (zd2 (F:=(kW F w0 w10 b7)) (n:=n) hF1 (D.za8 a0.seat.p a1 0) ⟨365,[],[zp b1,zp b4],zt0,rfl,fun m hm x w' hs hz=>zhq (j:=j) (fun b hb=>ai (hF1 b hb) hz) kw (fun m' hm'=>aw m' kw) a0 f14 (hs.at_ f14 H1) a1 f15 (hs.at_ f15 H4) x⟩) rfl zqW rfl fun w11 v12 hb hr13 r=>?_;have Z11:=hb.size
 have H7:=zpE hb H7 yaa
 have hB:=Chg.zpv (Z:=F) hB;have hB:=hB.zpK hb yad
 have zB:=hB.size;refine kP r hr13.shape rfl rfl H7 zpV rfl rfl fun w16 u17 r=>?_;have Z16:=u17.size
 have H7:=u17.at_;have hB:=hB.zpI u17 (.inl kw)
 have zB:=hB.size;refine wn (ac ?_);have hs:=hr13.shape.cells;refine za5 r rfl rfl H7 (k:=20) hs.1 zpU ?_;rw [←hs.2.2];exact zpj.fin hB hr13 u17 yac yaa kw kw kw
theorem zg5 {au:Walk→T Walk} (hF:kH F w0) (hj:n<j) (aw:∀ m,m<n→zaE au m)
    (c0:Int) {c0b:Nat} (c0F:F c0b) (c0h:w0.heap[c0b]?=some (.cells ([(.int .u64 c0)]).toArray 34 (0,0))) (c1:Walk) {c1b:Nat} (c1F:F c1b) (c1h:w0.heap[c1b]?=some (.cells ((zpF c1)).toArray 221 (0,0))) (c2:Int) {c2b:Nat} (c2F:F c2b) (c2h:w0.heap[c2b]?=some (.cells ([(.int .i64 c2)]).toArray 3 (0,0))) (a0:Int) :
    Calls ar 321 #[.int .u64 a0,zp c0b,zp c1b,zp c2b] w0 (zpj ar zpo n (D.zbT j au c0 c1 c2 a0) F w0):=by
 refine kN Tryz.func321 rfl 16 rfl rfl fun fr r hB=>?_;have lc0b:=ah c0h
 have lc1b:=ah c1h;have lc2b:=ah c2h;refine wsr ?_;refine za7 (.cells (kq zpo) 224 (0,0)) r (fun R=>za6 zpX) rfl fun fr b1 w2 n3 r=>?_;have c0h:=keep n3.below c0h
 have c1h:=keep n3.below c1h;have c2h:=keep n3.below c2h;obtain ⟨E1,Z2,H1,hB,zB⟩:=n3.all hB;refine wn (aa (wsr (kM (U a0) r rfl rfl fun r=>kL (U c0) r rfl c0h to34 rfl rfl fun r=>kB r rfl rfl rfl rfl rfl fun r=>wn ?_)));refine ae (t:=(a0 !=c0)) (r.ev rfl) (fun h4=>?_) (fun h4=>?_)
 ·
  refine wsr (kG (zpF c1) 14 r rfl c1h zq5 rfl rfl fun r=>?_);refine kJ r (zcZ (j:=j) (F:=No) (n:=n) (fun _ h=>h.elim) kw (fun m' hm'=>aw m' kw) c1) rfl zqQ rfl fun w5 v6 hb hr7 r=>?_
  have hb:=hb.below;have Z5:=hb.size;have c0h:=keep hb c0h;have c1h:=keep hb c1h;have c2h:=keep hb c2h;have H1:=keep hb H1;obtain ⟨hB,zB⟩:=bon hb hB;refine kP r hr7.shape rfl rfl H1 zpV rfl rfl fun w8 u9 r=>?_;have Z8:=u9.size
  have c0h:=u9.keep c0h kw
  have c1h:=u9.keep c1h kw
  have c2h:=u9.keep c2h kw
  have H1:=u9.at_;obtain ⟨hB,zB⟩:=u9.on hB kw
  refine wn (ac ?_);have hd:D.zbT j au c0 c1 c2 a0=(D.zbK j au c1):=(zao h4).trans (rfl);have hs:=hr7.shape.cells;refine za5 r rfl rfl H1 (k:=20) hs.1 zpU ?_;rw [←hs.2.2,hd];exact zpj.fin (Chg.zpv hB) hr7 u9 (fun _ h=>h.elim) (fun h=>h) kw kw kw
 refine ag (wsr (kL (U c0) r rfl c0h to34 rfl rfl fun r=>kF 0 r rfl zgJ rfl fun r=>?_));refine zaD (.cells ((zpF ({ c1 with next:=c0 }))).toArray 221 (0,0)) r (fun R=>zax r (o:=12) (v:=(U c0)) rfl rfl c1h ts34 ak rfl rfl) rfl fun fr w10 u11 r=>?_
 have Z10:=u11.size;have c0h:=u11.keep c0h (zhT c0h c1h rfl);have c2h:=u11.keep c2h (zhT c2h c1h rfl);have H1:=u11.keep H1 kw
 have c1h:=u11.at_;have hB:=Chg.zpv (Z:=F) hB;have hB:=hB.zpI u11 (.inr c1F);have zB:=hB.size;obtain ⟨zs12,ezs12⟩:∃ z,z=({ c1 with next:=c0 }):=⟨_,rfl⟩
 rw [←ezs12] at c1h
 refine wn (wsr (kG (zpF zs12) 14 r rfl c1h zq5 rfl rfl fun r=>kL (I c2) r rfl c2h to3 rfl rfl fun r=>?_));refine kJ r (zhY (j:=j) (F:=No) (n:=n) (fun _ h=>h.elim) kw (fun m' hm'=>aw m' kw) zs12 c2) rfl ztF rfl fun w13 v14 hb hr15 r=>?_
 have hb:=hb.below;have Z13:=hb.size;have c0h:=keep hb c0h;have c1h:=keep hb c1h;have c2h:=keep hb c2h;have H1:=keep hb H1;have hB:=hB.thenB hb;have zB:=hB.size;refine kP r hr15.shape rfl rfl H1 zpV rfl rfl fun w16 u17 r=>?_;have Z16:=u17.size
 have c0h:=u17.keep c0h kw
 have c1h:=u17.keep c1h kw
 have c2h:=u17.keep c2h kw
 have H1:=u17.at_;have hB:=hB.zpI u17 (.inl kw)
 have zB:=hB.size;refine wn (ac ?_);have hd:D.zbT j au c0 c1 c2 a0=(D.zcl j au zs12 c2):=by subst ezs12; exact (zaq h4).trans (rfl)
 have hs:=hr15.shape.cells;refine za5 r rfl rfl H1 (k:=20) hs.1 zpU ?_;rw [←hs.2.2,hd];exact zpj.fin hB hr15 u17 (fun _ h=>h.elim) (fun h=>h) kw kw kw
theorem zgB {au:Walk→T Walk} (hF:kH F w0) (hj:n<j) (aw:∀ m,m<n→zaE au m)
    (c0:Int) {c0b:Nat} (c0F:F c0b) (c0h:w0.heap[c0b]?=some (.cells ([(.int .i64 c0)]).toArray 3 (0,0))) (c1:Int) {c1b:Nat} (c1F:F c1b) (c1h:w0.heap[c1b]?=some (.cells ([(.int .u64 c1)]).toArray 34 (0,0))) (c2:Walk) {c2b:Nat} (c2F:F c2b) (c2h:w0.heap[c2b]?=some (.cells ((zpF c2)).toArray 221 (0,0))) (c3:Int) {c3b:Nat} (c3F:F c3b) (c3h:w0.heap[c3b]?=some (.cells ([(.int .i64 c3)]).toArray 3 (0,0))) :
    Calls ar 320 #[zp c0b,zp c1b,zp c2b,zp c3b] w0 (zpj ar zpo n (D.zcb j au c0 c1 c2 c3) F w0):=by
 refine kN Tryz.func320 rfl 8 rfl rfl fun fr r hB=>?_;have lc0b:=ah c0h
 have lc1b:=ah c1h;have lc2b:=ah c2h;have lc3b:=ah c3h;refine wsr ?_;refine za7 (.cells (kq zpo) 224 (0,0)) r (fun R=>za6 zpX) rfl fun fr b1 w2 n3 r=>?_;have c0h:=keep n3.below c0h
 have c1h:=keep n3.below c1h;have c2h:=keep n3.below c2h;have c3h:=keep n3.below c3h;obtain ⟨E1,Z2,H1,hB,zB⟩:=n3.all hB;refine wn (wsr (kL (I c0) r rfl c0h to3 rfl rfl fun r=>za0 (.func (.func 321) #[] #[zp c1b,zp c2b,zp c3b]) r (fun R=>zaf r rfl) rfl fun fr r=>?_));have hF1:=zpO hF hB.size b1
 have f7:((kW F w0 w2 b1)) c1b:=(.inl c1F);have f8:((kW F w0 w2 b1)) c2b:=(.inl c2F);have f9:((kW F w0 w2 b1)) c3b:=(.inl c3F);refine kJ r (zd2 (F:=(kW F w0 w2 b1)) (n:=n) hF1 c0 ⟨321,[],[zp c1b,zp c2b,zp c3b],zuq,rfl,fun m hm x w' hs hz=>zg5 (j:=j) (fun b hb=>ai (hF1 b hb) hz) kw (fun m' hm'=>aw m' kw) c1 f7 (hs.at_ f7 c1h) c2 f8 (hs.at_ f8 c2h) c3 f9 (hs.at_ f9 c3h) x⟩) rfl zqW rfl fun w4 v5 hb hr6 r=>?_;have Z4:=hb.size
 have H1:=zpE hb H1 yaa
 have hB:=Chg.zpv (Z:=F) hB;have hB:=hB.zpK hb yad
 have zB:=hB.size;refine kP r hr6.shape rfl rfl H1 zpV rfl rfl fun w10 u11 r=>?_;have Z10:=u11.size
 have H1:=u11.at_;have hB:=hB.zpI u11 (.inl kw)
 have zB:=hB.size;refine wn (ac ?_);have hs:=hr6.shape.cells;refine za5 r rfl rfl H1 (k:=20) hs.1 zpU ?_;rw [←hs.2.2];exact zpj.fin hB hr6 u11 yac yaa kw kw kw
theorem zhQ {au:Walk→T Walk} (hF:kH F w0) (hj:n<j) (aw:∀ m,m<n→zaE au m)
    (c0:Walk) {c0b:Nat} (c0F:F c0b) (c0h:w0.heap[c0b]?=some (.cells ((zpF c0)).toArray 221 (0,0))) (c1:Int) {c1b:Nat} (c1F:F c1b) (c1h:w0.heap[c1b]?=some (.cells ([(.int .i64 c1)]).toArray 3 (0,0))) (c2:Int) {c2b:Nat} (c2F:F c2b) (c2h:w0.heap[c2b]?=some (.cells ([(.int .i64 c2)]).toArray 3 (0,0))) (a0:Int) :
    Calls ar 318 #[.int .u64 a0,zp c0b,zp c1b,zp c2b] w0 (zpj ar zpo n (D.zdq j au c0 c1 c2 a0) F w0):=by
 refine kN Tryz.func318 rfl 11 rfl rfl fun fr r hB=>?_;have lc0b:=ah c0h
 have lc1b:=ah c1h;have lc2b:=ah c2h;refine wsr ?_;refine kX 34 (U a0) r rfl rfl fun b1 w2 n3 r=>?_;have c0h:=keep n3.below c0h
 have c1h:=keep n3.below c1h;have c2h:=keep n3.below c2h;obtain ⟨E1,Z2,H1,hB,zB⟩:=n3.all hB;refine za7 (.cells (kq zpo) 224 (0,0)) r (fun R=>za6 zpX) rfl fun fr b4 w5 n6 r=>?_;have c0h:=keep n6.below c0h
 have c1h:=keep n6.below c1h;have c2h:=keep n6.below c2h;have H1:=keep n6.below H1;obtain ⟨E4,Z5,H4,hB,zB⟩:=n6.all hB;refine wn (aa ?_);refine zaB 4 [.val (aq (zpF c0)),.val (U a0),.val (I (D.zai a0)),.val (.func (.func 320) #[] #[zp c1b,zp b1,zp c0b,zp c2b])] mixed r kz (kV (kV (kV (kV zat)))) ?_ ?_
 ·
  refine ec r (fun _ u _ b d s=>zac s (cs:=(zpF c0)) (n:=14) rfl (keep b c0h) zq5 rfl bz) (ec r (fun _ u _ b d s=>za4 s rfl (keep b H1) to34 rfl bz) (ec r (fun fr1 u w' hb' hd r'=>zaF r' (args:=[(U a0)]) (lc hd.1 l0) cl88 ((zc8 _ a0).mono yab)) (ec r (fun _ u _ b d s=>zaf s (v:=(.func (.func 320) #[] #[zp c1b,zp b1,zp c0b,zp c2b])) rfl bz) ?_)));exact zaO
 intro fr u w7 hb hΦ hne r;have r:=r.congr (sc (hΦ 3 ke) (sc (hΦ 2 ke) (sc (hΦ 1 ke) (sc (hΦ 0 ke) rfl))));have Z7:=hb.size;have c0h:=keep hb c0h;have c1h:=keep hb c1h;have c2h:=keep hb c2h;have H1:=keep hb H1;have H4:=keep hb H4;obtain ⟨hB,zB⟩:=bon hb hB;have hF1:=zpO hF hB.size b4;have f11:((kW F w0 w7 b4)) c1b:=(.inl c1F);have f12:((kW F w0 w7 b4)) b1:=(.inr ⟨kw,kw,kw⟩)
 have f13:((kW F w0 w7 b4)) c0b:=(.inl c0F);have f14:((kW F w0 w7 b4)) c2b:=(.inl c2F);refine kJ r (zdt (F:=(kW F w0 w7 b4)) (n:=n) hF1 c0 0 (D.zai a0) ⟨320,[],[zp c1b,zp b1,zp c0b,zp c2b],zt8,rfl,fun m hm _ w' hs hz=>zgB (j:=j) (fun b hb=>ai (hF1 b hb) hz) kw (fun m' hm'=>aw m' kw) c1 f11 (hs.at_ f11 c1h) a0 f12 (hs.at_ f12 H1) c0 f13 (hs.at_ f13 c0h) c2 f14 (hs.at_ f14 c2h)⟩) rfl zqV rfl fun w8 v9 hb hr10 r=>?_;have Z8:=hb.size
 have H4:=zpE hb H4 yaa
 have hB:=Chg.zpv (Z:=F) hB;have hB:=hB.zpK hb yad
 have zB:=hB.size;refine kP r hr10.shape rfl rfl H4 zpV rfl rfl fun w15 u16 r=>?_;have Z15:=u16.size
 have H4:=u16.at_;have hB:=hB.zpI u16 (.inl kw)
 have zB:=hB.size;refine wn (ac ?_);have hs:=hr10.shape.cells;refine za5 r rfl rfl H4 (k:=20) hs.1 zpU ?_;rw [←hs.2.2];exact zpj.fin hB hr10 u16 yac yaa kw kw kw
theorem zjb {n:Nat} {F:Nat→Prop} {j:Nat} {au:Walk→T Walk} {w0:World} (hF:∀ b,F b→b<w0.heap.size) (hj:n<j) (aw:∀ m,m<n→zaE au m)
    (a0:Walk) :
    Calls ar 249 #[aq (zpF a0)] w0 (zpj ar zpo n (D.zbc j au a0) F w0):=by
 refine kN Tryz.func249 rfl 21 rfl rfl fun fr r hB=>?_;refine wsr ?_
 refine kX 221 (aq (zpF a0)) r rfl rfl fun b1 w2 n3 r=>?_;obtain ⟨E1,Z2,H1,hB,zB⟩:=n3.all hB
 refine za7 (.cells (kq zpo) 224 (0,0)) r (fun R=>za6 zpX) rfl fun fr b4 w5 n6 r=>?_;have H1:=keep n6.below H1
 obtain ⟨E4,Z5,H4,hB,zB⟩:=n6.all hB;refine wn (wsr (kF 0 r rfl zeZ rfl fun r=>kL (U a0.cur) r rfl H1 to34 rfl rfl fun r=>?_));refine kE r (zc8 w5 a0.cur) rfl cl88 rfl fun w7 hb r=>?_
 have Z7:=hb.size;have H1:=keep hb H1;have H4:=keep hb H4;obtain ⟨hB,zB⟩:=bon hb hB;refine za7 (.cells #[(I 0)] 3 (0,0)) r (fun R=>za6 tz3) rfl fun fr b8 w9 n10 r=>?_;have H1:=keep n10.below H1
 have H4:=keep n10.below H4;obtain ⟨E8,Z9,H8,hB,zB⟩:=n10.all hB;refine zaD (.cells #[(I (D.zai a0.cur))] 3 (0,0)) r (fun R=>zax r (o:=0) (v:=(I (D.zai a0.cur))) rfl rfl H8 ts3 ak rfl rfl) rfl fun fr w11 u12 r=>?_;have Z11:=u12.size
 have H1:=u12.keep H1 kw
 have H4:=u12.keep H4 kw
 have H8:=u12.at_;obtain ⟨hB,zB⟩:=u12.on hB kw
 refine wn (aa (wsr (kL (I (D.zai a0.cur)) r rfl H8 to3 rfl rfl fun r=>kB r rfl rfl rfl rfl rfl fun r=>wn ?_)));refine ae (t:=(decide ((D.zai a0.cur)<0))) (r.ev rfl) (fun h13=>?_) (fun h13=>?_)
 ·
  refine wsr (kF 0 r rfl zjL rfl fun r=>?_);refine zaD (.cells ((zpF ({ a0 with there:=false }))).toArray 221 (0,0)) r (fun R=>zax r (o:=13) (v:=(.bool false)) rfl rfl H1 ts4 ak rfl rfl) rfl fun fr w14 u15 r=>?_
  have Z14:=u15.size;have H4:=u15.keep H4 kw
  have H8:=u15.keep H8 kw
  have H1:=u15.at_;obtain ⟨hB,zB⟩:=u15.on hB kw
  obtain ⟨zs16,ezs16⟩:∃ z,z=({ a0 with there:=false }):=⟨_,rfl⟩
  rw [←ezs16] at H1
  refine wn (wsr (kG (zpF zs16) 14 r rfl H1 zq5 rfl rfl fun r=>?_));refine kJ r (zfG (F:=No) (n:=n) (fun _ h=>h.elim) zs16) rfl zsd rfl fun w17 v18 hb hr19 r=>?_
  have hb:=hb.below;have Z17:=hb.size;have H1:=keep hb H1;have H4:=keep hb H4;have H8:=keep hb H8;obtain ⟨hB,zB⟩:=bon hb hB;refine kP r hr19.shape rfl rfl H4 zpV rfl rfl fun w20 u21 r=>?_;have Z20:=u21.size
  have H1:=u21.keep H1 kw
  have H8:=u21.keep H8 kw
  have H4:=u21.at_;obtain ⟨hB,zB⟩:=u21.on hB kw
  refine wn (ac ?_);have hd:D.zbc j au a0=(D.zcE zs16):=by subst ezs16; exact (zao h13).trans (rfl)
  have hs:=hr19.shape.cells;refine za5 r rfl rfl H4 (k:=20) hs.1 zpU ?_;rw [←hs.2.2,hd];exact zpj.fin (Chg.zpv hB) hr19 u21 (fun _ h=>h.elim) (fun h=>h) kw kw kw
 refine ag (wsr (kF 0 r rfl zh4 rfl fun r=>kF 0 r rfl zdP rfl fun r=>kG (zpg a0.seat.p) 6 r rfl H1 ta23 rfl rfl fun r=>kL (I (D.zai a0.cur)) r rfl H8 to3 rfl rfl fun r=>?_));refine kE r (zaY w11 a0.seat.p (D.zai a0.cur) 2) rfl cl89 rfl fun w22 hb r=>?_
 have Z22:=hb.size;have H1:=keep hb H1;have H4:=keep hb H4;have H8:=keep hb H8;obtain ⟨hB,zB⟩:=bon hb hB;refine za7 (.cells #[(I 0)] 3 (0,0)) r (fun R=>za6 tz3) rfl fun fr b23 w24 n25 r=>?_;have H1:=keep n25.below H1
 have H4:=keep n25.below H4;have H8:=keep n25.below H8;obtain ⟨E23,Z24,H23,hB,zB⟩:=n25.all hB;refine zaD (.cells #[(I (D.za8 a0.seat.p (D.zai a0.cur) 2))] 3 (0,0)) r (fun R=>zax r (o:=0) (v:=(I (D.za8 a0.seat.p (D.zai a0.cur) 2))) rfl rfl H23 ts3 ak rfl rfl) rfl fun fr w26 u27 r=>?_;have Z26:=u27.size
 have H1:=u27.keep H1 kw
 have H4:=u27.keep H4 kw
 have H8:=u27.keep H8 kw
 have H23:=u27.at_;obtain ⟨hB,zB⟩:=u27.on hB kw
 refine wn (wsr (kL (I (D.za8 a0.seat.p (D.zai a0.cur) 2)) r rfl H23 to3 rfl rfl fun r=>za0 (.func (.func 318) #[] #[zp b1,zp b23,zp b8]) r (fun R=>zaf r rfl) rfl fun fr r=>?_));have hF1:=zpO hF hB.size b4
 have f31:((kW F w0 w26 b4)) b1:=(.inr ⟨kw,kw,kw⟩)
 have f32:((kW F w0 w26 b4)) b23:=(.inr ⟨kw,kw,kw⟩)
 have f33:((kW F w0 w26 b4)) b8:=(.inr ⟨kw,kw,kw⟩)
 refine kJ r (zd2 (F:=(kW F w0 w26 b4)) (n:=n) hF1 (D.za8 a0.seat.p (D.zai a0.cur) 2) ⟨318,[],[zp b1,zp b23,zp b8],zt7,rfl,fun m hm x w' hs hz=>zhQ (j:=j) (fun b hb=>ai (hF1 b hb) hz) kw (fun m' hm'=>aw m' kw) a0 f31 (hs.at_ f31 H1) (D.za8 a0.seat.p (D.zai a0.cur) 2) f32 (hs.at_ f32 H23) (D.zai a0.cur) f33 (hs.at_ f33 H8) x⟩) rfl zqW rfl fun w28 v29 hb hr30 r=>?_;have Z28:=hb.size
 have H4:=zpE hb H4 yaa
 have hB:=Chg.zpv (Z:=F) hB;have hB:=hB.zpK hb yad
 have zB:=hB.size;refine kP r hr30.shape rfl rfl H4 zpV rfl rfl fun w34 u35 r=>?_;have Z34:=u35.size
 have H4:=u35.at_;have hB:=hB.zpI u35 (.inl kw)
 have zB:=hB.size;refine wn (ac ?_);have hd:D.zbc j au a0=(D.zcd (D.za8 a0.seat.p (D.zai a0.cur) 2) (fun x=>(D.zdq j au a0 (D.za8 a0.seat.p (D.zai a0.cur) 2) (D.zai a0.cur) x))):=(zaq h13).trans (rfl)
 have hs:=hr30.shape.cells;refine za5 r rfl rfl H4 (k:=20) hs.1 zpU ?_;rw [←hs.2.2,hd];exact zpj.fin hB hr30 u35 yac yaa kw kw kw
theorem zd0 {n:Nat} {j:Nat} (hj:n<j) {k:Nat} (hk:n<k):zaE (D.zaV j k) n:=by
 induction n using Nat.strongRecOn generalizing k with
 | _ n ih=>
  obtain ⟨k,rfl⟩:∃ q,k=q+1:=⟨k - 1,kw⟩
  intro F w0 hF;have h:=@zjb n F j (D.zaV j k) w0 hF hj (fun m hm=>ih m hm kw kw)
  exact h
def D.zfq (a0:Int):T Res:=(D.zgK 7)
theorem zim (hF:kH F w0)
    (a0:Int) :
    Calls ar 241 #[.int .i64 a0] w0 (zpj ar zpn n (D.zfq a0) F w0):=by
 refine kN Tryz.func241 rfl 4 rfl rfl fun fr r hB=>?_;refine wsr ?_
 refine za7 (.cells (kq zpn) 41 (0,0)) r (fun R=>za6 tz41) rfl fun fr b1 w2 n3 r=>?_;obtain ⟨E1,Z2,H1,hB,zB⟩:=n3.all hB
 refine wn (wsr ?_);refine kJ r (ziX (F:=No) (n:=n) (fun _ h=>h.elim) 7) rfl zs3 rfl fun w4 v5 hb hr6 r=>?_;have hb:=hb.below
 have Z4:=hb.size;have H1:=keep hb H1;obtain ⟨hB,zB⟩:=bon hb hB;refine kP r hr6.shape rfl rfl H1 ts41 rfl rfl fun w7 u8 r=>?_;have Z7:=u8.size
 have H1:=u8.at_;obtain ⟨hB,zB⟩:=u8.on hB kw
 refine wn (ac ?_);have hs:=hr6.shape.cells;refine za5 r rfl rfl H1 (k:=8) hs.1 ta41 ?_;rw [←hs.2.2];exact zpj.fin (Chg.zpv hB) hr6 u8 (fun _ h=>h.elim) (fun h=>h) kw kw kw
def D.zer (j:Nat) (c0:Seat) (c1:Int):T Res:=(T.bind (D.zcy j c0.p c1) (fun x=>(D.zfq x)))
theorem zjB (hF:kH F w0) (hj:n<j)
    (c0:Seat) {c0b:Nat} (c0F:F c0b) (c0h:w0.heap[c0b]?=some (.cells ((zpJ c0)).toArray 47 (0,0))) (c1:Int) {c1b:Nat} (c1F:F c1b) (c1h:w0.heap[c1b]?=some (.cells ([(.int .i64 c1)]).toArray 3 (0,0))) :
    Calls ar 239 #[.agg #[],zp c0b,zp c1b] w0 (zpj ar zpn n (D.zer j c0 c1) F w0):=by
 refine kN Tryz.func239 rfl 10 rfl rfl fun fr r hB=>?_;have lc0b:=ah c0h
 have lc1b:=ah c1h;refine wsr ?_;refine kX 128 (.agg #[]) r rfl rfl fun b1 w2 n3 r=>?_;have c0h:=keep n3.below c0h
 have c1h:=keep n3.below c1h;obtain ⟨E1,Z2,H1,hB,zB⟩:=n3.all hB;refine za7 (.cells (kq zpn) 41 (0,0)) r (fun R=>za6 tz41) rfl fun fr b4 w5 n6 r=>?_;have c0h:=keep n6.below c0h
 have c1h:=keep n6.below c1h;have H1:=keep n6.below H1;obtain ⟨E4,Z5,H4,hB,zB⟩:=n6.all hB;refine wn (wsr (kF 0 r rfl zdP rfl fun r=>kG (zpg c0.p) 6 r rfl c0h ta23 rfl rfl fun r=>kL (I c1) r rfl c1h to3 rfl rfl fun r=>?_));refine kD r (zgj (j:=j) (F:=No) (n:=n) (fun _ h=>h.elim) kw c0.p c1) rfl zsF rfl fun w7 v8 hb hr9 r=>?_
 have hr9:=hr9.loud;have Z7:=hb.size;have c0h:=keep hb c0h;have c1h:=keep hb c1h;have H1:=keep hb H1;have H4:=keep hb H4;obtain ⟨hB,zB⟩:=bon hb hB;have hF1:∀ b,(kW F w0 w5 b4) b→b<w7.heap.size:=by rintro b (h | ⟨_,h,_⟩); exact ai (hF b h) hB.size; exact ai h kw
 have hF2:=zpO hF hB.size b4;refine kJ r (ze5 (F:=(kW F w0 w7 b4)) (F2:=(kW F w0 w5 b4)) (n:=n) hF2 yan yag yah (RepL.mono (F':=fun b=>w5.heap.size≤b∧b<w7.heap.size) yam (Same.refl _ _) (Nat.le_refl _) n _ _ hr9) ⟨241,[],[],ztc,rfl,fun m hm x w' hs hz=>zim (fun b hb=>ai (hF1 b hb) hz)  x⟩) rfl zr9 rfl fun w10 v11 hb hr12 r=>?_
 have Z10:=hb.size;have H4:=zpE hb H4 yaa
 have hB:=Chg.zpv (Z:=F) hB;have hB:=hB.zpK hb yad
 have zB:=hB.size;refine kP r hr12.shape rfl rfl H4 ts41 rfl rfl fun w13 u14 r=>?_;have Z13:=u14.size
 have H4:=u14.at_;have hB:=hB.zpI u14 (.inl kw)
 have zB:=hB.size;refine wn (ac ?_);have hs:=hr12.shape.cells;refine za5 r rfl rfl H4 (k:=8) hs.1 ta41 ?_;rw [←hs.2.2];exact zpj.fin hB hr12 u14 yac yaa kw kw kw
def D.zfx (a0:Int):Int:=(shlI .u64 (IntKind.u64.wrap (IntKind.i64.wrap (a0+1))) 1)
theorem zlx (w0:World) 
    (a0:Int) :
    Calls ar 243 #[.int .i64 a0] w0 (zpx (.int .u64 (D.zfx a0)) w0):=by
 refine kN Tryz.func243 rfl 7 rfl rfl fun fr r hB=>?_;refine wsr (kA (U 0) r rfl rfl fun r=>wn (wsr (kM (I a0) r rfl rfl fun r=>kB r rfl rfl rfl rfl rfl fun r=>za0 (U (V (W (a0+1)))) r (fun R=>zb9 r rfl ti3 ti34) rfl fun fr r=>kB r rfl rfl rfl (zky yau) rfl fun r=>kA (U (shlI .u64 (V (W (a0+1))) 1)) r rfl rfl fun r=>wn (ac ?_))))
 refine zaH r rfl rfl ?_;exact ⟨rfl,hB⟩
def D.zgY (c0:Res):T Res:=(D.zfS c0)
theorem zjC (hF:kH F w0)
    (c0:Res) {c0b:Nat} (c0F:F c0b) (c0h:w0.heap[c0b]?=some (.cells ((resC c0)).toArray 36 (0,0))) :
    Calls ar 250 #[.agg #[],zp c0b] w0 (zpj ar zpn n (D.zgY c0) F w0):=by
 refine kN Tryz.func250 rfl 6 rfl rfl fun fr r hB=>?_;have lc0b:=ah c0h
 refine wsr ?_;refine kX 128 (.agg #[]) r rfl rfl fun b1 w2 n3 r=>?_;obtain ⟨E1,Z2,H1,hB,zB⟩:=n3.all hB
 refine za7 (.cells (kq zpn) 41 (0,0)) r (fun R=>za6 tz41) rfl fun fr b4 w5 n6 r=>?_;have H1:=keep n6.below H1
 obtain ⟨E4,Z5,H4,hB,zB⟩:=n6.all hB;refine wn (wsr (kG (resC c0) 2 r rfl (keep hB c0h) ta36 rfl rfl fun r=>?_));refine kJ r (zgl (F:=No) (n:=n) (fun _ h=>h.elim) c0) rfl cl15 rfl fun w7 v8 hb hr9 r=>?_
 have hb:=hb.below;have Z7:=hb.size;have H1:=keep hb H1;have H4:=keep hb H4;obtain ⟨hB,zB⟩:=bon hb hB;refine kP r hr9.shape rfl rfl H4 ts41 rfl rfl fun w10 u11 r=>?_;have Z10:=u11.size
 have H1:=u11.keep H1 kw
 have H4:=u11.at_;obtain ⟨hB,zB⟩:=u11.on hB kw
 refine wn (ac ?_);have hs:=hr9.shape.cells;refine za5 r rfl rfl H4 (k:=8) hs.1 ta41 ?_;rw [←hs.2.2];exact zpj.fin (Chg.zpv hB) hr9 u11 (fun _ h=>h.elim) (fun h=>h) kw kw kw
def D.zbY (j:Nat) (a0:Seat) (a1:Res):T Res:=(T.bind (D.zfb j a0.p a0.thread) (fun _=>(D.zgY a1)))
theorem zd5 (hF:kH F w0) (hj:n<j)
    (a0:Seat) (a1:Res) :
    Calls ar 160 #[aq (zpJ a0),aq (resC a1)] w0 (zpj ar zpn n (D.zbY j a0 a1) F w0):=by
 refine kN Tryz.func160 rfl 12 rfl rfl fun fr r hB=>?_;refine wsr ?_
 refine kX 47 (aq (zpJ a0)) r rfl rfl fun b1 w2 n3 r=>?_;obtain ⟨E1,Z2,H1,hB,zB⟩:=n3.all hB
 refine kX 36 (aq (resC a1)) r rfl rfl fun b4 w5 n6 r=>?_;have H1:=keep n6.below H1
 obtain ⟨E4,Z5,H4,hB,zB⟩:=n6.all hB;refine za7 (.cells (kq zpn) 41 (0,0)) r (fun R=>za6 tz41) rfl fun fr b7 w8 n9 r=>?_;have H1:=keep n9.below H1
 have H4:=keep n9.below H4;obtain ⟨E7,Z8,H7,hB,zB⟩:=n9.all hB;refine wn (wsr (kF 0 r rfl zdP rfl fun r=>kG (zpg a0.p) 6 r rfl H1 ta23 rfl rfl fun r=>kF 0 r rfl zjQ rfl fun r=>kL (I a0.thread) r rfl H1 to3 rfl rfl fun r=>?_));refine kD r (zhw (j:=j) (F:=No) (n:=n) (fun _ h=>h.elim) kw a0.p a0.thread) rfl zsH rfl fun w10 v11 hb hr12 r=>?_
 have hr12:=hr12.loud;have Z10:=hb.size;have H1:=keep hb H1;have H4:=keep hb H4;have H7:=keep hb H7;obtain ⟨hB,zB⟩:=bon hb hB;refine za0 (.func (.func 250) #[] #[zp b4]) r (fun R=>zaf r rfl) rfl fun fr r=>?_;have hF1:∀ b,(kW F w0 w8 b7) b→b<w10.heap.size:=by rintro b (h | ⟨_,h,_⟩); exact ai (hF b h) hB.size; exact ai h kw
 have f16:((kW F w0 w8 b7)) b4:=(.inr ⟨kw,kw,kw⟩)
 have hF2:=zpO hF hB.size b7;refine kJ r (zdJ (F:=(kW F w0 w10 b7)) (F2:=(kW F w0 w8 b7)) (n:=n) hF2 yan yag yah (RepL.mono (F':=fun b=>w8.heap.size≤b∧b<w10.heap.size) yam (Same.refl _ _) (Nat.le_refl _) n _ _ hr12) ⟨250,[],[zp b4],zuK,rfl,fun m hm _ w' hs hz=>zjC (fun b hb=>ai (hF1 b hb) hz) a1 f16 (hs.at_ f16 H4)⟩) rfl zr7 rfl fun w13 v14 hb hr15 r=>?_
 have Z13:=hb.size;have H7:=zpE hb H7 yaa
 have hB:=Chg.zpv (Z:=F) hB;have hB:=hB.zpK hb yad
 have zB:=hB.size;refine kP r hr15.shape rfl rfl H7 ts41 rfl rfl fun w17 u18 r=>?_;have Z17:=u18.size
 have H7:=u18.at_;have hB:=hB.zpI u18 (.inl kw)
 have zB:=hB.size;refine wn (ac ?_);have hs:=hr15.shape.cells;refine za5 r rfl rfl H7 (k:=8) hs.1 ta41 ?_;rw [←hs.2.2];exact zpj.fin hB hr15 u18 yac yaa kw kw kw
def D.zdk (j:Nat) (aB:Seat→Int→Int→Int→T Res) (c0:Seat) (c1:Int) (c2:Int) (c3:Int) (a0:Bool):T Res:=(bif (!a0) then (aB c0 c1 c2 c3) else (D.zbY j c0 (⟨0,0⟩:Res)))
def D.zfo (j:Nat) (aB:Seat→Int→Int→Int→T Res) (c0:Walk) (c1:Int) (c2:Seat) (c3:Int) (c4:Int):T Res:=(D.zd3 c0.place c0.cur (D.zfx c1) (fun x=>(D.zdk j aB c2 c3 c4 c1 x)))
def D.zeh (j:Nat) (aB:Seat→Int→Int→Int→T Res) (c0:Seat) (c1:Int) (c2:Int) (c3:Int) (a0:Walk):T Res:=(bif a0.there then (T.bind (D.zfb j c0.p c0.thread) (fun _=>(D.zer j c0 c1))) else (D.zby (D.za8 c0.p c1 2) a0.cur (fun _=>(D.zfo j aB a0 c1 c0 c2 c3))))
def D.zi9 (j:Nat) (aB:Seat→Int→Int→Int→T Res) (a0:Seat) (a1:Int) (a2:Int) (a3:Int):T Res:=(T.bind (D.zfC j (D.zaV j j) a0 a1 a2) (fun x=>(D.zeh j aB a0 a3 a1 a2 x)))
def D.zeL (j:Nat):Nat→Seat→Int→Int→Int→T Res
 | 0,_,_,_,_=>.cut
 | k+1,a0,a1,a2,a3=>D.zi9 j (D.zeL j k) a0 a1 a2 a3
def zdY (r:Seat→Int→Int→Int→T Res) (n:Nat):Prop:=∀ (F:Nat→Prop) (w0:World),(∀ b,F b→b<w0.heap.size)→∀ (a0:Seat) (a1:Int) (a2:Int) (a3:Int),Calls ar 156 #[aq (zpJ a0),.int .i64 a1,.int .u64 a2,.int .i64 a3] w0 (zpj ar zpn n (r a0 a1 a2 a3) F w0)
theorem ziu {aB:Seat→Int→Int→Int→T Res} (hF:kH F w0) (hj:n<j) (aN:∀ m,m≤n→zdY aB m)
    (c0:Seat) {c0b:Nat} (c0F:F c0b) (c0h:w0.heap[c0b]?=some (.cells ((zpJ c0)).toArray 47 (0,0))) (c1:Int) {c1b:Nat} (c1F:F c1b) (c1h:w0.heap[c1b]?=some (.cells ([(.int .i64 c1)]).toArray 3 (0,0))) (c2:Int) {c2b:Nat} (c2F:F c2b) (c2h:w0.heap[c2b]?=some (.cells ([(.int .u64 c2)]).toArray 34 (0,0))) (c3:Int) {c3b:Nat} (c3F:F c3b) (c3h:w0.heap[c3b]?=some (.cells ([(.int .i64 c3)]).toArray 3 (0,0))) (a0:Bool) :
    Calls ar 244 #[.bool a0,zp c0b,zp c1b,zp c2b,zp c3b] w0 (zpj ar zpn n (D.zdk j aB c0 c1 c2 c3 a0) F w0):=by
 refine kN Tryz.func244 rfl 17 rfl rfl fun fr r hB=>?_;have lc0b:=ah c0h
 have lc1b:=ah c1h;have lc2b:=ah c2h;have lc3b:=ah c3h;refine wsr ?_;refine za7 (.cells (kq zpn) 41 (0,0)) r (fun R=>za6 tz41) rfl fun fr b1 w2 n3 r=>?_;obtain ⟨E1,Z2,H1,hB,zB⟩:=n3.all hB
 refine wn (aa (wsr (kM (.bool a0) r rfl rfl fun r=>za0 (.bool (!a0)) r (fun R=>y_un r (u:=(.bool a0)) rfl rfl) rfl fun fr r=>wn ?_)));refine ae (t:=(!a0)) (r.ev rfl) (fun h4=>?_) (fun h4=>?_)
 ·
  refine wsr (kG (zpJ c0) 8 r rfl (keep hB c0h) ta47 rfl rfl fun r=>kL (I c1) r rfl (keep hB c1h) to3 rfl rfl fun r=>kL (U c2) r rfl (keep hB c2h) to34 rfl rfl fun r=>kL (I c3) r rfl (keep hB c3h) to3 rfl rfl fun r=>?_);refine kJ r ((aN n kw) (No) _ (fun _ h=>h.elim) c0 c1 c2 c3) rfl zsq rfl fun w5 v6 hb hr7 r=>?_
  have hb:=hb.below;have Z5:=hb.size;have H1:=keep hb H1;obtain ⟨hB,zB⟩:=bon hb hB;refine kP r hr7.shape rfl rfl H1 ts41 rfl rfl fun w8 u9 r=>?_;have Z8:=u9.size
  have H1:=u9.at_;obtain ⟨hB,zB⟩:=u9.on hB kw
  refine wn (ac ?_);have hd:D.zdk j aB c0 c1 c2 c3 a0=(aB c0 c1 c2 c3):=(zao h4).trans (rfl);have hs:=hr7.shape.cells;refine za5 r rfl rfl H1 (k:=8) hs.1 ta41 ?_;rw [←hs.2.2,hd];exact zpj.fin (Chg.zpv hB) hr7 u9 (fun _ h=>h.elim) (fun h=>h) kw kw kw
 refine ag (wsr (kG (zpJ c0) 8 r rfl (keep hB c0h) ta47 rfl rfl fun r=>kU (aq (resC (⟨0,0⟩:Res))) r kz rfl fun r=>?_));refine kJ r (zd5 (j:=j) (F:=No) (n:=n) (fun _ h=>h.elim) kw c0 (⟨0,0⟩:Res)) rfl zqv rfl fun w10 v11 hb hr12 r=>?_
 have hb:=hb.below;have Z10:=hb.size;have H1:=keep hb H1;obtain ⟨hB,zB⟩:=bon hb hB;refine kP r hr12.shape rfl rfl H1 ts41 rfl rfl fun w13 u14 r=>?_;have Z13:=u14.size
 have H1:=u14.at_;obtain ⟨hB,zB⟩:=u14.on hB kw
 refine wn (ac ?_);have hd:D.zdk j aB c0 c1 c2 c3 a0=(D.zbY j c0 (⟨0,0⟩:Res)):=(zaq h4).trans (rfl);have hs:=hr12.shape.cells;refine za5 r rfl rfl H1 (k:=8) hs.1 ta41 ?_;rw [←hs.2.2,hd];exact zpj.fin (Chg.zpv hB) hr12 u14 (fun _ h=>h.elim) (fun h=>h) kw kw kw
theorem zjX {aB:Seat→Int→Int→Int→T Res} (hF:kH F w0) (hj:n<j) (aN:∀ m,m<n→zdY aB m)
    (c0:Walk) {c0b:Nat} (c0F:F c0b) (c0h:w0.heap[c0b]?=some (.cells ((zpF c0)).toArray 221 (0,0))) (c1:Int) {c1b:Nat} (c1F:F c1b) (c1h:w0.heap[c1b]?=some (.cells ([(.int .i64 c1)]).toArray 3 (0,0))) (c2:Seat) {c2b:Nat} (c2F:F c2b) (c2h:w0.heap[c2b]?=some (.cells ((zpJ c2)).toArray 47 (0,0))) (c3:Int) {c3b:Nat} (c3F:F c3b) (c3h:w0.heap[c3b]?=some (.cells ([(.int .i64 c3)]).toArray 3 (0,0))) (c4:Int) {c4b:Nat} (c4F:F c4b) (c4h:w0.heap[c4b]?=some (.cells ([(.int .u64 c4)]).toArray 34 (0,0))) :
    Calls ar 242 #[zp c0b,zp c1b,zp c2b,zp c3b,zp c4b] w0 (zpj ar zpn n (D.zfo j aB c0 c1 c2 c3 c4) F w0):=by
 refine kN Tryz.func242 rfl 14 rfl rfl fun fr r hB=>?_;have lc0b:=ah c0h
 have lc1b:=ah c1h;have lc2b:=ah c2h;have lc3b:=ah c3h;have lc4b:=ah c4h;refine wsr ?_;refine za7 (.cells (kq zpn) 41 (0,0)) r (fun R=>za6 tz41) rfl fun fr b1 w2 n3 r=>?_;have c0h:=keep n3.below c0h
 have c1h:=keep n3.below c1h;have c2h:=keep n3.below c2h;have c3h:=keep n3.below c3h;have c4h:=keep n3.below c4h;obtain ⟨E1,Z2,H1,hB,zB⟩:=n3.all hB;refine wn (aa ?_);refine zaB 7 [.val (.pointer (some ⟨c0b,10,none⟩)),.val (I c0.place),.val (.pointer (some ⟨c0b,11,none⟩)),.val (U c0.cur),.val (I c1),.val (U (D.zfx c1)),.val (.func (.func 244) #[] #[zp c2b,zp c3b,zp c4b,zp c1b])] mixed r kz (kV (kV (kV (kV (kV (kV (kV zat))))))) ?_ ?_
 ·
  refine ec r (fun _ u _ b d s=>za3 s (b:=c0b) (o:=0) rfl zjR bz) (ec r (fun _ u _ b d s=>za4 s d.1 (keep b c0h) to3 rfl bz) (ec r (fun _ u _ b d s=>za3 s (b:=c0b) (o:=0) rfl zeZ bz) (ec r (fun _ u _ b d s=>za4 s d.1 (keep b c0h) to34 rfl bz) (ec r (fun _ u _ b d s=>za4 s rfl (keep b c1h) to3 rfl bz) (ec r (fun fr1 u w' hb' hd r'=>zaF r' (args:=[(I c1)]) (lc hd.1 l0) zug ((zlx _ c1).mono yab)) (ec r (fun _ u _ b d s=>zaf s (v:=(.func (.func 244) #[] #[zp c2b,zp c3b,zp c4b,zp c1b])) rfl bz) ?_))))));exact zaO
 intro fr u w4 hb hΦ hne r;have r:=r.congr (sc (hΦ 6 ke) (sc (hΦ 5 ke) (sc (hΦ 4 ke) (sc (hΦ 3 ke) (sc (hΦ 2 ke) (sc (hΦ 1 ke) (sc (hΦ 0 ke) rfl)))))));have Z4:=hb.size;have c0h:=keep hb c0h;have c1h:=keep hb c1h;have c2h:=keep hb c2h;have c3h:=keep hb c3h;have c4h:=keep hb c4h;have H1:=keep hb H1;obtain ⟨hB,zB⟩:=bon hb hB;have hF1:=zpO hF hB.size b1;have f8:((kW F w0 w4 b1)) c2b:=(.inl c2F);have f9:((kW F w0 w4 b1)) c3b:=(.inl c3F);have f10:((kW F w0 w4 b1)) c4b:=(.inl c4F);have f11:((kW F w0 w4 b1)) c1b:=(.inl c1F);refine kJ r (zeI (F:=(kW F w0 w4 b1)) (n:=n) hF1 c0.place c0.cur (D.zfx c1) ⟨244,[],[zp c2b,zp c3b,zp c4b,zp c1b],zuk,rfl,fun m hm x w' hs hz=>ziu (j:=j) (fun b hb=>ai (hF1 b hb) hz) kw (fun m' hm'=>aN m' kw) c2 f8 (hs.at_ f8 c2h) c3 f9 (hs.at_ f9 c3h) c4 f10 (hs.at_ f10 c4h) c1 f11 (hs.at_ f11 c1h) x⟩) rfl zrq rfl fun w5 v6 hb hr7 r=>?_;have Z5:=hb.size
 have H1:=zpE hb H1 yaa
 have hB:=Chg.zpv (Z:=F) hB;have hB:=hB.zpK hb yad
 have zB:=hB.size;refine kP r hr7.shape rfl rfl H1 ts41 rfl rfl fun w12 u13 r=>?_;have Z12:=u13.size
 have H1:=u13.at_;have hB:=hB.zpI u13 (.inl kw)
 have zB:=hB.size;refine wn (ac ?_);have hs:=hr7.shape.cells;refine za5 r rfl rfl H1 (k:=8) hs.1 ta41 ?_;rw [←hs.2.2];exact zpj.fin hB hr7 u13 yac yaa kw kw kw
theorem zkY {aB:Seat→Int→Int→Int→T Res} (hF:kH F w0) (hj:n<j) (aN:∀ m,m<n→zdY aB m)
    (c0:Seat) {c0b:Nat} (c0F:F c0b) (c0h:w0.heap[c0b]?=some (.cells ((zpJ c0)).toArray 47 (0,0))) (c1:Int) {c1b:Nat} (c1F:F c1b) (c1h:w0.heap[c1b]?=some (.cells ([(.int .i64 c1)]).toArray 3 (0,0))) (c2:Int) {c2b:Nat} (c2F:F c2b) (c2h:w0.heap[c2b]?=some (.cells ([(.int .i64 c2)]).toArray 3 (0,0))) (c3:Int) {c3b:Nat} (c3F:F c3b) (c3h:w0.heap[c3b]?=some (.cells ([(.int .u64 c3)]).toArray 34 (0,0))) (a0:Walk) :
    Calls ar 237 #[aq (zpF a0),zp c0b,zp c1b,zp c2b,zp c3b] w0 (zpj ar zpn n (D.zeh j aB c0 c1 c2 c3 a0) F w0):=by
 refine kN Tryz.func237 rfl 24 rfl rfl fun fr r hB=>?_;have lc0b:=ah c0h
 have lc1b:=ah c1h;have lc2b:=ah c2h;have lc3b:=ah c3h;refine wsr ?_;refine kX 221 (aq (zpF a0)) r rfl rfl fun b1 w2 n3 r=>?_;have c0h:=keep n3.below c0h
 have c1h:=keep n3.below c1h;have c2h:=keep n3.below c2h;have c3h:=keep n3.below c3h;obtain ⟨E1,Z2,H1,hB,zB⟩:=n3.all hB;refine za7 (.cells (kq zpn) 41 (0,0)) r (fun R=>za6 tz41) rfl fun fr b4 w5 n6 r=>?_;have c0h:=keep n6.below c0h
 have c1h:=keep n6.below c1h;have c2h:=keep n6.below c2h;have c3h:=keep n6.below c3h;have H1:=keep n6.below H1;obtain ⟨E4,Z5,H4,hB,zB⟩:=n6.all hB;refine wn (aa (wsr (kF 0 r rfl zjL rfl fun r=>kL (.bool a0.there) r rfl H1 to4 rfl rfl fun r=>wn ?_)));refine ae (t:=a0.there) (r.ev rfl) (fun h7=>?_) (fun h7=>?_)
 ·
  refine wsr (kF 0 r rfl zdP rfl fun r=>kG (zpg c0.p) 6 r rfl c0h ta23 rfl rfl fun r=>kF 0 r rfl zjQ rfl fun r=>kL (I c0.thread) r rfl c0h to3 rfl rfl fun r=>?_);refine kD r (zhw (j:=j) (F:=No) (n:=n) (fun _ h=>h.elim) kw c0.p c0.thread) rfl zsH rfl fun w8 v9 hb hr10 r=>?_
  have hr10:=hr10.loud;have Z8:=hb.size;have c0h:=keep hb c0h;have c1h:=keep hb c1h;have c2h:=keep hb c2h;have c3h:=keep hb c3h;have H1:=keep hb H1;have H4:=keep hb H4;obtain ⟨hB,zB⟩:=bon hb hB;refine za0 (.func (.func 239) #[] #[zp c0b,zp c1b]) r (fun R=>zaf r rfl) rfl fun fr r=>?_;have hF1:∀ b,(kW F w0 w5 b4) b→b<w8.heap.size:=by rintro b (h | ⟨_,h,_⟩); exact ai (hF b h) hB.size; exact ai h kw
  have f14:((kW F w0 w5 b4)) c0b:=(.inl c0F);have f15:((kW F w0 w5 b4)) c1b:=(.inl c1F);have hF2:=zpO hF hB.size b4;refine kJ r (zdJ (F:=(kW F w0 w8 b4)) (F2:=(kW F w0 w5 b4)) (n:=n) hF2 yan yag yah (RepL.mono (F':=fun b=>w5.heap.size≤b∧b<w8.heap.size) yam (Same.refl _ _) (Nat.le_refl _) n _ _ hr10) ⟨239,[],[zp c0b,zp c1b],zur,rfl,fun m hm _ w' hs hz=>zjB (j:=j) (fun b hb=>ai (hF1 b hb) hz) kw c0 f14 (hs.at_ f14 c0h) c1 f15 (hs.at_ f15 c1h)⟩) rfl zr7 rfl fun w11 v12 hb hr13 r=>?_
  have Z11:=hb.size;have H4:=zpE hb H4 yaa
  have hB:=Chg.zpv (Z:=F) hB;have hB:=hB.zpK hb yad
  have zB:=hB.size;refine kP r hr13.shape rfl rfl H4 ts41 rfl rfl fun w16 u17 r=>?_;have Z16:=u17.size
  have H4:=u17.at_;have hB:=hB.zpI u17 (.inl kw)
  have zB:=hB.size;refine wn (ac ?_);have hd:D.zeh j aB c0 c1 c2 c3 a0=(T.bind (D.zfb j c0.p c0.thread) (fun _=>(D.zer j c0 c1))):=(zao h7).trans (rfl)
  have hs:=hr13.shape.cells;refine za5 r rfl rfl H4 (k:=8) hs.1 ta41 ?_;rw [←hs.2.2,hd];exact zpj.fin hB hr13 u17 yac yaa kw kw kw
 refine ag (aa ?_);refine zaB 7 [.val (zp c0b),.val (aq (zpg c0.p)),.val (I c1),.val (I (D.za8 c0.p c1 2)),.val (.pointer (some ⟨b1,11,none⟩)),.val (U a0.cur),.val (.func (.func 242) #[] #[zp b1,zp c1b,zp c0b,zp c2b,zp c3b])] mixed r kz (kV (kV (kV (kV (kV (kV (kV zat))))))) ?_ ?_
 ·
  refine ec r (fun _ u _ b d s=>za3 s (b:=c0b) (o:=0) rfl zdP bz) (ec r (fun _ u _ b d s=>zac s (cs:=(zpg c0.p)) (n:=6) d.1 (keep b c0h) ta23 rfl bz) (ec r (fun _ u _ b d s=>za4 s rfl (keep b c1h) to3 rfl bz) (ec r (fun fr1 u w' hb' hd r'=>zaF r' (args:=[(aq (zpg c0.p)),(I c1),(I 2)]) (lc hd.1 (lc hd.2.1 (lc rfl l0))) cl89 ((zaY _ c0.p c1 2).mono yab)) (ec r (fun _ u _ b d s=>za3 s (b:=b1) (o:=0) rfl zeZ bz) (ec r (fun _ u _ b d s=>za4 s d.1 (keep b H1) to34 rfl bz) (ec r (fun _ u _ b d s=>zaf s (v:=(.func (.func 242) #[] #[zp b1,zp c1b,zp c0b,zp c2b,zp c3b])) rfl bz) ?_))))));exact zaO
 intro fr u w18 hb hΦ hne r;have r:=r.congr (sc (hΦ 6 ke) (sc (hΦ 5 ke) (sc (hΦ 4 ke) (sc (hΦ 3 ke) (sc (hΦ 2 ke) (sc (hΦ 1 ke) (sc (hΦ 0 ke) rfl)))))));have Z18:=hb.size;have c0h:=keep hb c0h;have c1h:=keep hb c1h;have c2h:=keep hb c2h;have c3h:=keep hb c3h;have H1:=keep hb H1;have H4:=keep hb H4;obtain ⟨hB,zB⟩:=bon hb hB;have hF1:=zpO hF hB.size b4;have f22:((kW F w0 w18 b4)) b1:=(.inr ⟨kw,kw,kw⟩)
 have f23:((kW F w0 w18 b4)) c1b:=(.inl c1F);have f24:((kW F w0 w18 b4)) c0b:=(.inl c0F);have f25:((kW F w0 w18 b4)) c2b:=(.inl c2F);have f26:((kW F w0 w18 b4)) c3b:=(.inl c3F);refine kJ r (zeg (F:=(kW F w0 w18 b4)) (n:=n) hF1 (D.za8 c0.p c1 2) a0.cur ⟨242,[],[zp b1,zp c1b,zp c0b,zp c2b,zp c3b],zsM,rfl,fun m hm _ w' hs hz=>zjX (j:=j) (fun b hb=>ai (hF1 b hb) hz) kw (fun m' hm'=>aN m' kw) a0 f22 (hs.at_ f22 H1) c1 f23 (hs.at_ f23 c1h) c0 f24 (hs.at_ f24 c0h) c2 f25 (hs.at_ f25 c2h) c3 f26 (hs.at_ f26 c3h)⟩) rfl zrc rfl fun w19 v20 hb hr21 r=>?_;have Z19:=hb.size
 have H4:=zpE hb H4 yaa
 have hB:=Chg.zpv (Z:=F) hB;have hB:=hB.zpK hb yad
 have zB:=hB.size;refine kP r hr21.shape rfl rfl H4 ts41 rfl rfl fun w27 u28 r=>?_;have Z27:=u28.size
 have H4:=u28.at_;have hB:=hB.zpI u28 (.inl kw)
 have zB:=hB.size;refine wn (ac ?_);have hd:D.zeh j aB c0 c1 c2 c3 a0=(D.zby (D.za8 c0.p c1 2) a0.cur (fun _=>(D.zfo j aB a0 c1 c0 c2 c3))):=(zaq h7).trans (rfl)
 have hs:=hr21.shape.cells;refine za5 r rfl rfl H4 (k:=8) hs.1 ta41 ?_;rw [←hs.2.2,hd];exact zpj.fin hB hr21 u28 yac yaa kw kw kw
theorem zmA {n:Nat} {F:Nat→Prop} {j:Nat} {aB:Seat→Int→Int→Int→T Res} {w0:World} (hF:∀ b,F b→b<w0.heap.size) (hj:n<j) (aN:∀ m,m<n→zdY aB m)
    (a0:Seat) (a1:Int) (a2:Int) (a3:Int) :
    Calls ar 156 #[aq (zpJ a0),.int .i64 a1,.int .u64 a2,.int .i64 a3] w0 (zpj ar zpn n (D.zi9 j aB a0 a1 a2 a3) F w0):=by
 refine kN Tryz.func156 rfl 15 rfl rfl fun fr r hB=>?_;refine wsr ?_
 refine kX 47 (aq (zpJ a0)) r rfl rfl fun b1 w2 n3 r=>?_;obtain ⟨E1,Z2,H1,hB,zB⟩:=n3.all hB
 refine kX 3 (I a1) r rfl rfl fun b4 w5 n6 r=>?_;have H1:=keep n6.below H1
 obtain ⟨E4,Z5,H4,hB,zB⟩:=n6.all hB;refine kX 34 (U a2) r rfl rfl fun b7 w8 n9 r=>?_;have H1:=keep n9.below H1
 have H4:=keep n9.below H4;obtain ⟨E7,Z8,H7,hB,zB⟩:=n9.all hB;refine kX 3 (I a3) r rfl rfl fun b10 w11 n12 r=>?_;have H1:=keep n12.below H1
 have H4:=keep n12.below H4;have H7:=keep n12.below H7;obtain ⟨E10,Z11,H10,hB,zB⟩:=n12.all hB;refine za7 (.cells (kq zpn) 41 (0,0)) r (fun R=>za6 tz41) rfl fun fr b13 w14 n15 r=>?_;have H1:=keep n15.below H1
 have H4:=keep n15.below H4;have H7:=keep n15.below H7;have H10:=keep n15.below H10;obtain ⟨E13,Z14,H13,hB,zB⟩:=n15.all hB;refine wn (wsr (kG (zpJ a0) 8 r rfl H1 ta47 rfl rfl fun r=>kL (I a1) r rfl H4 to3 rfl rfl fun r=>kL (U a2) r rfl H7 to34 rfl rfl fun r=>?_));refine kJ r (zfn (j:=j) (F:=No) (n:=n) (fun _ h=>h.elim) kw (fun m' hm'=>zd0 (j:=j) (k:=j) kw kw) a0 a1 a2) rfl zqP rfl fun w16 v17 hb hr18 r=>?_
 have hb:=hb.below;have Z16:=hb.size;have H1:=keep hb H1;have H4:=keep hb H4;have H7:=keep hb H7;have H10:=keep hb H10;have H13:=keep hb H13;obtain ⟨hB,zB⟩:=bon hb hB;refine za0 (.func (.func 237) #[] #[zp b1,zp b10,zp b4,zp b7]) r (fun R=>zaf r rfl) rfl fun fr r=>?_;have hF1:∀ b,(kW F w0 w14 b13) b→b<w16.heap.size:=by rintro b (h | ⟨_,h,_⟩); exact ai (hF b h) hB.size; exact ai h kw
 have f22:((kW F w0 w14 b13)) b1:=(.inr ⟨kw,kw,kw⟩)
 have f23:((kW F w0 w14 b13)) b10:=(.inr ⟨kw,kw,kw⟩)
 have f24:((kW F w0 w14 b13)) b4:=(.inr ⟨kw,kw,kw⟩)
 have f25:((kW F w0 w14 b13)) b7:=(.inr ⟨kw,kw,kw⟩)
 have hF2:=zpO hF hB.size b13;refine kJ r (zbO (F:=(kW F w0 w16 b13)) (F2:=(kW F w0 w14 b13)) (n:=n) hF2 yan yag yah (RepL.mono (F':=fun b=>w14.heap.size≤b∧b<w16.heap.size) yam (Same.refl _ _) (Nat.le_refl _) n _ _ hr18) ⟨237,[],[zp b1,zp b10,zp b4,zp b7],ztS,rfl,fun m hm x w' hs hz=>zkY (j:=j) (fun b hb=>ai (hF1 b hb) hz) kw (fun m' hm'=>aN m' kw) a0 f22 (hs.at_ f22 H1) a3 f23 (hs.at_ f23 H10) a1 f24 (hs.at_ f24 H4) a2 f25 (hs.at_ f25 H7) x⟩) rfl zqD rfl fun w19 v20 hb hr21 r=>?_
 have Z19:=hb.size;have H13:=zpE hb H13 yaa
 have hB:=Chg.zpv (Z:=F) hB;have hB:=hB.zpK hb yad
 have zB:=hB.size;refine kP r hr21.shape rfl rfl H13 ts41 rfl rfl fun w26 u27 r=>?_;have Z26:=u27.size
 have H13:=u27.at_;have hB:=hB.zpI u27 (.inl kw)
 have zB:=hB.size;refine wn (ac ?_);have hs:=hr21.shape.cells;refine za5 r rfl rfl H13 (k:=8) hs.1 ta41 ?_;rw [←hs.2.2];exact zpj.fin hB hr21 u27 yac yaa kw kw kw
theorem zlY {n:Nat} {j:Nat} (hj:n<j) {k:Nat} (hk:n<k):zdY (D.zeL j k) n:=by
 induction n using Nat.strongRecOn generalizing k with
 | _ n ih=>
  obtain ⟨k,rfl⟩:∃ q,k=q+1:=⟨k - 1,kw⟩
  intro F w0 hF;have h:=@zmA n F j (D.zeL j k) w0 hF hj (fun m hm=>ih m hm kw kw)
  exact h
def D.zhz (j:Nat) (c0:Seat) (c1:Int) (c2:Int) (c3:Grant):T Res:=(D.zeL j j c0 c1 c2 c3.node)
theorem ziy (hF:kH F w0) (hj:n<j)
    (c0:Seat) {c0b:Nat} (c0F:F c0b) (c0h:w0.heap[c0b]?=some (.cells ((zpJ c0)).toArray 47 (0,0))) (c1:Int) {c1b:Nat} (c1F:F c1b) (c1h:w0.heap[c1b]?=some (.cells ([(.int .i64 c1)]).toArray 3 (0,0))) (c2:Int) {c2b:Nat} (c2F:F c2b) (c2h:w0.heap[c2b]?=some (.cells ([(.int .u64 c2)]).toArray 34 (0,0))) (c3:Grant) {c3b:Nat} (c3F:F c3b) (c3h:w0.heap[c3b]?=some (.cells ((grantC c3)).toArray 113 (0,0))) :
    Calls ar 155 #[zp c0b,zp c1b,zp c2b,zp c3b] w0 (zpj ar zpn n (D.zhz j c0 c1 c2 c3) F w0):=by
 refine kN Tryz.func155 rfl 11 rfl rfl fun fr r hB=>?_;have lc0b:=ah c0h
 have lc1b:=ah c1h;have lc2b:=ah c2h;have lc3b:=ah c3h;refine wsr ?_;refine za7 (.cells (kq zpn) 41 (0,0)) r (fun R=>za6 tz41) rfl fun fr b1 w2 n3 r=>?_;obtain ⟨E1,Z2,H1,hB,zB⟩:=n3.all hB
 refine wn (wsr (kG (zpJ c0) 8 r rfl (keep hB c0h) ta47 rfl rfl fun r=>kL (I c1) r rfl (keep hB c1h) to3 rfl rfl fun r=>kL (U c2) r rfl (keep hB c2h) to34 rfl rfl fun r=>kF 0 r rfl zlP rfl fun r=>kL (I c3.node) r rfl (keep hB c3h) to3 rfl rfl fun r=>?_));refine kJ r ((zlY (j:=j) (k:=j) (n:=n) kw kw) (No) _ (fun _ h=>h.elim) c0 c1 c2 c3.node) rfl zsq rfl fun w4 v5 hb hr6 r=>?_
 have hb:=hb.below;have Z4:=hb.size;have H1:=keep hb H1;obtain ⟨hB,zB⟩:=bon hb hB;refine kP r hr6.shape rfl rfl H1 ts41 rfl rfl fun w7 u8 r=>?_;have Z7:=u8.size
 have H1:=u8.at_;obtain ⟨hB,zB⟩:=u8.on hB kw
 refine wn (ac ?_);have hs:=hr6.shape.cells;refine za5 r rfl rfl H1 (k:=8) hs.1 ta41 ?_;rw [←hs.2.2];exact zpj.fin (Chg.zpv hB) hr6 u8 (fun _ h=>h.elim) (fun h=>h) kw kw kw
def D.zfc (j:Nat) (c0:Seat) (c1:Grant) (c2:Int) (c3:Int) (c4:Int):T Res:=(D.zby (D.za8 c0.p c1.node 1) c2 (fun _=>(D.zhz j c0 c3 c4 c1)))
theorem zjv (hF:kH F w0) (hj:n<j)
    (c0:Seat) {c0b:Nat} (c0F:F c0b) (c0h:w0.heap[c0b]?=some (.cells ((zpJ c0)).toArray 47 (0,0))) (c1:Grant) {c1b:Nat} (c1F:F c1b) (c1h:w0.heap[c1b]?=some (.cells ((grantC c1)).toArray 113 (0,0))) (c2:Int) {c2b:Nat} (c2F:F c2b) (c2h:w0.heap[c2b]?=some (.cells ([(.int .u64 c2)]).toArray 34 (0,0))) (c3:Int) {c3b:Nat} (c3F:F c3b) (c3h:w0.heap[c3b]?=some (.cells ([(.int .i64 c3)]).toArray 3 (0,0))) (c4:Int) {c4b:Nat} (c4F:F c4b) (c4h:w0.heap[c4b]?=some (.cells ([(.int .u64 c4)]).toArray 34 (0,0))) :
    Calls ar 154 #[zp c0b,zp c1b,zp c2b,zp c3b,zp c4b] w0 (zpj ar zpn n (D.zfc j c0 c1 c2 c3 c4) F w0):=by
 refine kN Tryz.func154 rfl 14 rfl rfl fun fr r hB=>?_;have lc0b:=ah c0h
 have lc1b:=ah c1h;have lc2b:=ah c2h;have lc3b:=ah c3h;have lc4b:=ah c4h;refine wsr ?_;refine za7 (.cells (kq zpn) 41 (0,0)) r (fun R=>za6 tz41) rfl fun fr b1 w2 n3 r=>?_;have c0h:=keep n3.below c0h
 have c1h:=keep n3.below c1h;have c2h:=keep n3.below c2h;have c3h:=keep n3.below c3h;have c4h:=keep n3.below c4h;obtain ⟨E1,Z2,H1,hB,zB⟩:=n3.all hB;refine wn (aa ?_);refine zaB 7 [.val (zp c0b),.val (aq (zpg c0.p)),.val (zp c1b),.val (I c1.node),.val (I (D.za8 c0.p c1.node 1)),.val (U c2),.val (.func (.func 155) #[] #[zp c0b,zp c3b,zp c4b,zp c1b])] mixed r kz (kV (kV (kV (kV (kV (kV (kV zat))))))) ?_ ?_
 ·
  refine ec r (fun _ u _ b d s=>za3 s (b:=c0b) (o:=0) rfl zdP bz) (ec r (fun _ u _ b d s=>zac s (cs:=(zpg c0.p)) (n:=6) d.1 (keep b c0h) ta23 rfl bz) (ec r (fun _ u _ b d s=>za3 s (b:=c1b) (o:=0) rfl zlP bz) (ec r (fun _ u _ b d s=>za4 s d.1 (keep b c1h) to3 rfl bz) (ec r (fun fr1 u w' hb' hd r'=>zaF r' (args:=[(aq (zpg c0.p)),(I c1.node),(I 1)]) (lc hd.1 (lc hd.2.1 (lc rfl l0))) cl89 ((zaY _ c0.p c1.node 1).mono yab)) (ec r (fun _ u _ b d s=>za4 s rfl (keep b c2h) to34 rfl bz) (ec r (fun _ u _ b d s=>zaf s (v:=(.func (.func 155) #[] #[zp c0b,zp c3b,zp c4b,zp c1b])) rfl bz) ?_))))));exact zaO
 intro fr u w4 hb hΦ hne r;have r:=r.congr (sc (hΦ 6 ke) (sc (hΦ 5 ke) (sc (hΦ 4 ke) (sc (hΦ 3 ke) (sc (hΦ 2 ke) (sc (hΦ 1 ke) (sc (hΦ 0 ke) rfl)))))));have Z4:=hb.size;have c0h:=keep hb c0h;have c1h:=keep hb c1h;have c2h:=keep hb c2h;have c3h:=keep hb c3h;have c4h:=keep hb c4h;have H1:=keep hb H1;obtain ⟨hB,zB⟩:=bon hb hB;have hF1:=zpO hF hB.size b1;have f8:((kW F w0 w4 b1)) c0b:=(.inl c0F);have f9:((kW F w0 w4 b1)) c3b:=(.inl c3F);have f10:((kW F w0 w4 b1)) c4b:=(.inl c4F);have f11:((kW F w0 w4 b1)) c1b:=(.inl c1F);refine kJ r (zeg (F:=(kW F w0 w4 b1)) (n:=n) hF1 (D.za8 c0.p c1.node 1) c2 ⟨155,[],[zp c0b,zp c3b,zp c4b,zp c1b],zuT,rfl,fun m hm _ w' hs hz=>ziy (j:=j) (fun b hb=>ai (hF1 b hb) hz) kw c0 f8 (hs.at_ f8 c0h) c3 f9 (hs.at_ f9 c3h) c4 f10 (hs.at_ f10 c4h) c1 f11 (hs.at_ f11 c1h)⟩) rfl zrc rfl fun w5 v6 hb hr7 r=>?_;have Z5:=hb.size
 have H1:=zpE hb H1 yaa
 have hB:=Chg.zpv (Z:=F) hB;have hB:=hB.zpK hb yad
 have zB:=hB.size;refine kP r hr7.shape rfl rfl H1 ts41 rfl rfl fun w12 u13 r=>?_;have Z12:=u13.size
 have H1:=u13.at_;have hB:=hB.zpI u13 (.inl kw)
 have zB:=hB.size;refine wn (ac ?_);have hs:=hr7.shape.cells;refine za5 r rfl rfl H1 (k:=8) hs.1 ta41 ?_;rw [←hs.2.2];exact zpj.fin hB hr7 u13 yac yaa kw kw kw
def D.zcB (j:Nat) (c0:Seat) (c1:Int) (c2:Int) (c3:Int) (a0:Grant):T Res:=(bif (a0.e !=0) then (D.zgK a0.e) else (D.zby (D.za8 c0.p a0.node 0) c1 (fun _=>(D.zfc j c0 a0 c2 c3 c1))))
theorem zkU (hF:kH F w0) (hj:n<j)
    (c0:Seat) {c0b:Nat} (c0F:F c0b) (c0h:w0.heap[c0b]?=some (.cells ((zpJ c0)).toArray 47 (0,0))) (c1:Int) {c1b:Nat} (c1F:F c1b) (c1h:w0.heap[c1b]?=some (.cells ([(.int .u64 c1)]).toArray 34 (0,0))) (c2:Int) {c2b:Nat} (c2F:F c2b) (c2h:w0.heap[c2b]?=some (.cells ([(.int .u64 c2)]).toArray 34 (0,0))) (c3:Int) {c3b:Nat} (c3F:F c3b) (c3h:w0.heap[c3b]?=some (.cells ([(.int .i64 c3)]).toArray 3 (0,0))) (a0:Grant) :
    Calls ar 152 #[aq (grantC a0),zp c0b,zp c1b,zp c2b,zp c3b] w0 (zpj ar zpn n (D.zcB j c0 c1 c2 c3 a0) F w0):=by
 refine kN Tryz.func152 rfl 21 rfl rfl fun fr r hB=>?_;have lc0b:=ah c0h
 have lc1b:=ah c1h;have lc2b:=ah c2h;have lc3b:=ah c3h;refine wsr ?_;refine kX 113 (aq (grantC a0)) r rfl rfl fun b1 w2 n3 r=>?_;have c0h:=keep n3.below c0h
 have c1h:=keep n3.below c1h;have c2h:=keep n3.below c2h;have c3h:=keep n3.below c3h;obtain ⟨E1,Z2,H1,hB,zB⟩:=n3.all hB;refine za7 (.cells (kq zpn) 41 (0,0)) r (fun R=>za6 tz41) rfl fun fr b4 w5 n6 r=>?_;have c0h:=keep n6.below c0h
 have c1h:=keep n6.below c1h;have c2h:=keep n6.below c2h;have c3h:=keep n6.below c3h;have H1:=keep n6.below H1;obtain ⟨E4,Z5,H4,hB,zB⟩:=n6.all hB;refine wn (aa (wsr (kF 0 r rfl znr rfl fun r=>kL (I a0.e) r rfl H1 to33 rfl rfl fun r=>kB r rfl rfl rfl rfl rfl fun r=>wn ?_)));refine ae (t:=(a0.e !=0)) (r.ev rfl) (fun h7=>?_) (fun h7=>?_)
 ·
  refine wsr (kF 0 r rfl znr rfl fun r=>kL (I a0.e) r rfl H1 to33 rfl rfl fun r=>?_);refine kJ r (ziX (F:=No) (n:=n) (fun _ h=>h.elim) a0.e) rfl zs3 rfl fun w8 v9 hb hr10 r=>?_
  have hb:=hb.below;have Z8:=hb.size;have c0h:=keep hb c0h;have c1h:=keep hb c1h;have c2h:=keep hb c2h;have c3h:=keep hb c3h;have H1:=keep hb H1;have H4:=keep hb H4;obtain ⟨hB,zB⟩:=bon hb hB;refine kP r hr10.shape rfl rfl H4 ts41 rfl rfl fun w11 u12 r=>?_;have Z11:=u12.size
  have c0h:=u12.keep c0h kw
  have c1h:=u12.keep c1h kw
  have c2h:=u12.keep c2h kw
  have c3h:=u12.keep c3h kw
  have H1:=u12.keep H1 kw
  have H4:=u12.at_;obtain ⟨hB,zB⟩:=u12.on hB kw
  refine wn (ac ?_);have hd:D.zcB j c0 c1 c2 c3 a0=(D.zgK a0.e):=(zao h7).trans (rfl);have hs:=hr10.shape.cells;refine za5 r rfl rfl H4 (k:=8) hs.1 ta41 ?_;rw [←hs.2.2,hd];exact zpj.fin (Chg.zpv hB) hr10 u12 (fun _ h=>h.elim) (fun h=>h) kw kw kw
 refine ag (aa ?_);refine zaB 7 [.val (zp c0b),.val (aq (zpg c0.p)),.val (zp b1),.val (I a0.node),.val (I (D.za8 c0.p a0.node 0)),.val (U c1),.val (.func (.func 154) #[] #[zp c0b,zp b1,zp c2b,zp c3b,zp c1b])] mixed r kz (kV (kV (kV (kV (kV (kV (kV zat))))))) ?_ ?_
 ·
  refine ec r (fun _ u _ b d s=>za3 s (b:=c0b) (o:=0) rfl zdP bz) (ec r (fun _ u _ b d s=>zac s (cs:=(zpg c0.p)) (n:=6) d.1 (keep b c0h) ta23 rfl bz) (ec r (fun _ u _ b d s=>za3 s (b:=b1) (o:=0) rfl zlP bz) (ec r (fun _ u _ b d s=>za4 s d.1 (keep b H1) to3 rfl bz) (ec r (fun fr1 u w' hb' hd r'=>zaF r' (args:=[(aq (zpg c0.p)),(I a0.node),(I 0)]) (lc hd.1 (lc hd.2.1 (lc rfl l0))) cl89 ((zaY _ c0.p a0.node 0).mono yab)) (ec r (fun _ u _ b d s=>za4 s rfl (keep b c1h) to34 rfl bz) (ec r (fun _ u _ b d s=>zaf s (v:=(.func (.func 154) #[] #[zp c0b,zp b1,zp c2b,zp c3b,zp c1b])) rfl bz) ?_))))));exact zaO
 intro fr u w13 hb hΦ hne r;have r:=r.congr (sc (hΦ 6 ke) (sc (hΦ 5 ke) (sc (hΦ 4 ke) (sc (hΦ 3 ke) (sc (hΦ 2 ke) (sc (hΦ 1 ke) (sc (hΦ 0 ke) rfl)))))));have Z13:=hb.size;have c0h:=keep hb c0h;have c1h:=keep hb c1h;have c2h:=keep hb c2h;have c3h:=keep hb c3h;have H1:=keep hb H1;have H4:=keep hb H4;obtain ⟨hB,zB⟩:=bon hb hB;have hF1:=zpO hF hB.size b4;have f17:((kW F w0 w13 b4)) c0b:=(.inl c0F);have f18:((kW F w0 w13 b4)) b1:=(.inr ⟨kw,kw,kw⟩)
 have f19:((kW F w0 w13 b4)) c2b:=(.inl c2F);have f20:((kW F w0 w13 b4)) c3b:=(.inl c3F);have f21:((kW F w0 w13 b4)) c1b:=(.inl c1F);refine kJ r (zeg (F:=(kW F w0 w13 b4)) (n:=n) hF1 (D.za8 c0.p a0.node 0) c1 ⟨154,[],[zp c0b,zp b1,zp c2b,zp c3b,zp c1b],ztq,rfl,fun m hm _ w' hs hz=>zjv (j:=j) (fun b hb=>ai (hF1 b hb) hz) kw c0 f17 (hs.at_ f17 c0h) a0 f18 (hs.at_ f18 H1) c2 f19 (hs.at_ f19 c2h) c3 f20 (hs.at_ f20 c3h) c1 f21 (hs.at_ f21 c1h)⟩) rfl zrc rfl fun w14 v15 hb hr16 r=>?_;have Z14:=hb.size
 have H4:=zpE hb H4 yaa
 have hB:=Chg.zpv (Z:=F) hB;have hB:=hB.zpK hb yad
 have zB:=hB.size;refine kP r hr16.shape rfl rfl H4 ts41 rfl rfl fun w22 u23 r=>?_;have Z22:=u23.size
 have H4:=u23.at_;have hB:=hB.zpI u23 (.inl kw)
 have zB:=hB.size;refine wn (ac ?_);have hd:D.zcB j c0 c1 c2 c3 a0=(D.zby (D.za8 c0.p a0.node 0) c1 (fun _=>(D.zfc j c0 a0 c2 c3 c1))):=(zaq h7).trans (rfl)
 have hs:=hr16.shape.cells;refine za5 r rfl rfl H4 (k:=8) hs.1 ta41 ?_;rw [←hs.2.2,hd];exact zpj.fin hB hr16 u23 yac yaa kw kw kw
def D.zhj (j:Nat) (a0:Seat) (a1:Int) (a2:Int) (a3:Int):T Res:=(T.bind (D.zfO j a0.p a0.thread 2) (fun x=>(D.zcB j a0 a2 a3 a1 x)))
theorem zlJ (hF:kH F w0) (hj:n<j)
    (a0:Seat) (a1:Int) (a2:Int) (a3:Int) :
    Calls ar 82 #[aq (zpJ a0),.int .i64 a1,.int .u64 a2,.int .u64 a3] w0 (zpj ar zpn n (D.zhj j a0 a1 a2 a3) F w0):=by
 refine kN Tryz.func82 rfl 16 rfl rfl fun fr r hB=>?_;refine wsr ?_
 refine kX 47 (aq (zpJ a0)) r rfl rfl fun b1 w2 n3 r=>?_;obtain ⟨E1,Z2,H1,hB,zB⟩:=n3.all hB
 refine kX 3 (I a1) r rfl rfl fun b4 w5 n6 r=>?_;have H1:=keep n6.below H1
 obtain ⟨E4,Z5,H4,hB,zB⟩:=n6.all hB;refine kX 34 (U a2) r rfl rfl fun b7 w8 n9 r=>?_;have H1:=keep n9.below H1
 have H4:=keep n9.below H4;obtain ⟨E7,Z8,H7,hB,zB⟩:=n9.all hB;refine kX 34 (U a3) r rfl rfl fun b10 w11 n12 r=>?_;have H1:=keep n12.below H1
 have H4:=keep n12.below H4;have H7:=keep n12.below H7;obtain ⟨E10,Z11,H10,hB,zB⟩:=n12.all hB;refine za7 (.cells (kq zpn) 41 (0,0)) r (fun R=>za6 tz41) rfl fun fr b13 w14 n15 r=>?_;have H1:=keep n15.below H1
 have H4:=keep n15.below H4;have H7:=keep n15.below H7;have H10:=keep n15.below H10;obtain ⟨E13,Z14,H13,hB,zB⟩:=n15.all hB;refine wn (wsr (kF 0 r rfl zdP rfl fun r=>kG (zpg a0.p) 6 r rfl H1 ta23 rfl rfl fun r=>kF 0 r rfl zjQ rfl fun r=>kL (I a0.thread) r rfl H1 to3 rfl rfl fun r=>?_));refine kD r (zm7 (j:=j) (F:=No) (n:=n) (fun _ h=>h.elim) kw a0.p a0.thread 2) rfl ztE rfl fun w16 v17 hb hr18 r=>?_
 have hr18:=hr18.loud;have Z16:=hb.size;have H1:=keep hb H1;have H4:=keep hb H4;have H7:=keep hb H7;have H10:=keep hb H10;have H13:=keep hb H13;obtain ⟨hB,zB⟩:=bon hb hB;refine za0 (.func (.func 152) #[] #[zp b1,zp b7,zp b10,zp b4]) r (fun R=>zaf r rfl) rfl fun fr r=>?_;have hF1:∀ b,(kW F w0 w14 b13) b→b<w16.heap.size:=by rintro b (h | ⟨_,h,_⟩); exact ai (hF b h) hB.size; exact ai h kw
 have f22:((kW F w0 w14 b13)) b1:=(.inr ⟨kw,kw,kw⟩)
 have f23:((kW F w0 w14 b13)) b7:=(.inr ⟨kw,kw,kw⟩)
 have f24:((kW F w0 w14 b13)) b10:=(.inr ⟨kw,kw,kw⟩)
 have f25:((kW F w0 w14 b13)) b4:=(.inr ⟨kw,kw,kw⟩)
 have hF2:=zpO hF hB.size b13;refine kJ r (zfs (F:=(kW F w0 w16 b13)) (F2:=(kW F w0 w14 b13)) (n:=n) hF2 yan yag yah (RepL.mono (F':=fun b=>w14.heap.size≤b∧b<w16.heap.size) yam (Same.refl _ _) (Nat.le_refl _) n _ _ hr18) ⟨152,[],[zp b1,zp b7,zp b10,zp b4],zuu,rfl,fun m hm x w' hs hz=>zkU (j:=j) (fun b hb=>ai (hF1 b hb) hz) kw a0 f22 (hs.at_ f22 H1) a2 f23 (hs.at_ f23 H7) a3 f24 (hs.at_ f24 H10) a1 f25 (hs.at_ f25 H4) x⟩) rfl zs4 rfl fun w19 v20 hb hr21 r=>?_
 have Z19:=hb.size;have H13:=zpE hb H13 yaa
 have hB:=Chg.zpv (Z:=F) hB;have hB:=hB.zpK hb yad
 have zB:=hB.size;refine kP r hr21.shape rfl rfl H13 ts41 rfl rfl fun w26 u27 r=>?_;have Z26:=u27.size
 have H13:=u27.at_;have hB:=hB.zpI u27 (.inl kw)
 have zB:=hB.size;refine wn (ac ?_);have hs:=hr21.shape.cells;refine za5 r rfl rfl H13 (k:=8) hs.1 ta41 ?_;rw [←hs.2.2];exact zpj.fin hB hr21 u27 yac yaa kw kw kw
def D.zeB (j:Nat) (c0:Seat) (c1:Int) (a0:Int):T Res:=(D.zbY j c0 (⟨0,c1⟩:Res))
theorem zhL (hF:kH F w0) (hj:n<j)
    (c0:Seat) {c0b:Nat} (c0F:F c0b) (c0h:w0.heap[c0b]?=some (.cells ((zpJ c0)).toArray 47 (0,0))) (c1:Int) {c1b:Nat} (c1F:F c1b) (c1h:w0.heap[c1b]?=some (.cells ([(.int .u64 c1)]).toArray 34 (0,0))) (a0:Int) :
    Calls ar 252 #[.int .i64 a0,zp c0b,zp c1b] w0 (zpj ar zpn n (D.zeB j c0 c1 a0) F w0):=by
 refine kN Tryz.func252 rfl 9 rfl rfl fun fr r hB=>?_;have lc0b:=ah c0h
 have lc1b:=ah c1h;refine wsr ?_;refine za7 (.cells (kq zpn) 41 (0,0)) r (fun R=>za6 tz41) rfl fun fr b1 w2 n3 r=>?_;obtain ⟨E1,Z2,H1,hB,zB⟩:=n3.all hB
 refine wn (wsr (kG (zpJ c0) 8 r rfl (keep hB c0h) ta47 rfl rfl fun r=>kL (U c1) r rfl (keep hB c1h) to34 rfl rfl fun r=>kU (aq (resC (⟨0,c1⟩:Res))) r kz rfl fun r=>?_));refine kJ r (zd5 (j:=j) (F:=No) (n:=n) (fun _ h=>h.elim) kw c0 (⟨0,c1⟩:Res)) rfl zqv rfl fun w4 v5 hb hr6 r=>?_
 have hb:=hb.below;have Z4:=hb.size;have H1:=keep hb H1;obtain ⟨hB,zB⟩:=bon hb hB;refine kP r hr6.shape rfl rfl H1 ts41 rfl rfl fun w7 u8 r=>?_;have Z7:=u8.size
 have H1:=u8.at_;obtain ⟨hB,zB⟩:=u8.on hB kw
 refine wn (ac ?_);have hs:=hr6.shape.cells;refine za5 r rfl rfl H1 (k:=8) hs.1 ta41 ?_;rw [←hs.2.2];exact zpj.fin (Chg.zpv hB) hr6 u8 (fun _ h=>h.elim) (fun h=>h) kw kw kw
def D.zeD (j:Nat) (c0:Seat) (c1:Int) (a0:Walk):T Res:=(D.zbY j c0 (⟨0,c1⟩:Res))
theorem zhM (hF:kH F w0) (hj:n<j)
    (c0:Seat) {c0b:Nat} (c0F:F c0b) (c0h:w0.heap[c0b]?=some (.cells ((zpJ c0)).toArray 47 (0,0))) (c1:Int) {c1b:Nat} (c1F:F c1b) (c1h:w0.heap[c1b]?=some (.cells ([(.int .u64 c1)]).toArray 34 (0,0))) (a0:Walk) :
    Calls ar 254 #[aq (zpF a0),zp c0b,zp c1b] w0 (zpj ar zpn n (D.zeD j c0 c1 a0) F w0):=by
 refine kN Tryz.func254 rfl 9 rfl rfl fun fr r hB=>?_;have lc0b:=ah c0h
 have lc1b:=ah c1h;refine wsr ?_;refine kX 221 (aq (zpF a0)) r rfl rfl fun b1 w2 n3 r=>?_;obtain ⟨E1,Z2,H1,hB,zB⟩:=n3.all hB
 refine za7 (.cells (kq zpn) 41 (0,0)) r (fun R=>za6 tz41) rfl fun fr b4 w5 n6 r=>?_;have H1:=keep n6.below H1
 obtain ⟨E4,Z5,H4,hB,zB⟩:=n6.all hB;refine wn (wsr (kG (zpJ c0) 8 r rfl (keep hB c0h) ta47 rfl rfl fun r=>kL (U c1) r rfl (keep hB c1h) to34 rfl rfl fun r=>kU (aq (resC (⟨0,c1⟩:Res))) r kz rfl fun r=>?_));refine kJ r (zd5 (j:=j) (F:=No) (n:=n) (fun _ h=>h.elim) kw c0 (⟨0,c1⟩:Res)) rfl zqv rfl fun w7 v8 hb hr9 r=>?_
 have hb:=hb.below;have Z7:=hb.size;have H1:=keep hb H1;have H4:=keep hb H4;obtain ⟨hB,zB⟩:=bon hb hB;refine kP r hr9.shape rfl rfl H4 ts41 rfl rfl fun w10 u11 r=>?_;have Z10:=u11.size
 have H1:=u11.keep H1 kw
 have H4:=u11.at_;obtain ⟨hB,zB⟩:=u11.on hB kw
 refine wn (ac ?_);have hs:=hr9.shape.cells;refine za5 r rfl rfl H4 (k:=8) hs.1 ta41 ?_;rw [←hs.2.2];exact zpj.fin (Chg.zpv hB) hr9 u11 (fun _ h=>h.elim) (fun h=>h) kw kw kw
def D.zcD (j:Nat) (c0:Seat) (c1:Walk) (c2:Int) (a0:Bool):T Res:=(bif a0 then (T.bind (D.zcp j c0.p c0.thread (D.zai c1.cur)) (fun x=>(D.zeB j c0 c2 x))) else (T.bind (D.zbK j (D.zaV j j) c1) (fun x=>(D.zeD j c0 c2 x))))
theorem zix (hF:kH F w0) (hj:n<j)
    (c0:Seat) {c0b:Nat} (c0F:F c0b) (c0h:w0.heap[c0b]?=some (.cells ((zpJ c0)).toArray 47 (0,0))) (c1:Walk) {c1b:Nat} (c1F:F c1b) (c1h:w0.heap[c1b]?=some (.cells ((zpF c1)).toArray 221 (0,0))) (c2:Int) {c2b:Nat} (c2F:F c2b) (c2h:w0.heap[c2b]?=some (.cells ([(.int .u64 c2)]).toArray 34 (0,0))) (a0:Bool) :
    Calls ar 251 #[.bool a0,zp c0b,zp c1b,zp c2b] w0 (zpj ar zpn n (D.zcD j c0 c1 c2 a0) F w0):=by
 refine kN Tryz.func251 rfl 21 rfl rfl fun fr r hB=>?_;have lc0b:=ah c0h
 have lc1b:=ah c1h;have lc2b:=ah c2h;refine wsr ?_;refine za7 (.cells (kq zpn) 41 (0,0)) r (fun R=>za6 tz41) rfl fun fr b1 w2 n3 r=>?_;have c0h:=keep n3.below c0h
 have c1h:=keep n3.below c1h;have c2h:=keep n3.below c2h;obtain ⟨E1,Z2,H1,hB,zB⟩:=n3.all hB;refine wn (aa (wsr (kM (.bool a0) r rfl rfl fun r=>wn ?_)));refine ae (t:=a0) (r.ev rfl) (fun h4=>?_) (fun h4=>?_)
 ·
  refine aa ?_;refine zaB 9 [.val (zp c0b),.val (aq (zpg c0.p)),.val (.pointer (some ⟨c0b,7,none⟩)),.val (I c0.thread),.val (.pointer (some ⟨c1b,11,none⟩)),.val (U c1.cur),.val (I (D.zai c1.cur)),.pred (PrepP ar zpl n (D.zcp j c0.p c0.thread (D.zai c1.cur)) No w2) (PrepP.st (fun _ h=>h.elim)),.val (.func (.func 252) #[] #[zp c0b,zp c2b])] mixed r kz (kV (kV (kV (kV (kV (kV (kV (kV (kV zat))))))))) ?_ ?_
  ·
   refine ec r (fun _ u _ b d s=>za3 s (b:=c0b) (o:=0) rfl zdP bz) (ec r (fun _ u _ b d s=>zac s (cs:=(zpg c0.p)) (n:=6) d.1 (keep b c0h) ta23 rfl bz) (ec r (fun _ u _ b d s=>za3 s (b:=c0b) (o:=0) rfl zjQ bz) (ec r (fun _ u _ b d s=>za4 s d.1 (keep b c0h) to3 rfl bz) (ec r (fun _ u _ b d s=>za3 s (b:=c1b) (o:=0) rfl zeZ bz) (ec r (fun _ u _ b d s=>za4 s d.1 (keep b c1h) to34 rfl bz) (ec r (fun fr1 u w' hb' hd r'=>zaF r' (args:=[(U c1.cur)]) (lc hd.1 l0) cl88 ((zc8 _ c1.cur).mono yab)) (ec r (fun fr1 u w' hb' hd r'=>zaF r' (args:=[(aq (zpg c0.p)),(I c0.thread),(I (D.zai c1.cur))]) (lc hd.1 (lc hd.2.1 (lc hd.2.2.1 l0))) zs5 ((zhA (j:=j) (F:=No) (n:=n) (fun _ h=>h.elim) kw c0.p c0.thread (D.zai c1.cur)).mono yay)) (ec r (fun _ u _ b d s=>zaf s (v:=(.func (.func 252) #[] #[zp c0b,zp c2b])) rfl bz) ?_))))))));exact zaO
  intro fr u w5 hb hΦ hne r;obtain ⟨v6,hv7⟩:∃ v,v=u 7:=⟨_,rfl⟩;have g7:u 7=v6:=hv7.symm;have hr7:=(hΦ 7 ke).2;rw [g7] at hr7
  have hr7:=hr7.loud;have r:=r.congr (sc (hΦ 8 ke) (sc g7 (sc (hΦ 6 ke) (sc (hΦ 5 ke) (sc (hΦ 4 ke) (sc (hΦ 3 ke) (sc (hΦ 2 ke) (sc (hΦ 1 ke) (sc (hΦ 0 ke) rfl)))))))))
  have Z5:=hb.size;have c0h:=keep hb c0h;have c1h:=keep hb c1h;have c2h:=keep hb c2h;have H1:=keep hb H1;obtain ⟨hB,zB⟩:=bon hb hB;have hF1:∀ b,(kW F w0 w2 b1) b→b<w5.heap.size:=by rintro b (h | ⟨_,h,_⟩); exact ai (hF b h) hB.size; exact ai h kw
  have f11:((kW F w0 w2 b1)) c0b:=(.inl c0F);have f12:((kW F w0 w2 b1)) c2b:=(.inl c2F);have hF2:=zpO hF hB.size b1;refine kJ r (ze5 (F:=(kW F w0 w5 b1)) (F2:=(kW F w0 w2 b1)) (n:=n) hF2 yan yag yah (RepL.mono (F':=fun b=>w2.heap.size≤b∧b<w5.heap.size) yam (Same.refl _ _) (Nat.le_refl _) n _ _ hr7) ⟨252,[],[zp c0b,zp c2b],ztD,rfl,fun m hm x w' hs hz=>zhL (j:=j) (fun b hb=>ai (hF1 b hb) hz) kw c0 f11 (hs.at_ f11 c0h) c2 f12 (hs.at_ f12 c2h) x⟩) rfl zr9 rfl fun w8 v9 hb hr10 r=>?_
  have Z8:=hb.size;have H1:=zpE hb H1 yaa
  have hB:=Chg.zpv (Z:=F) hB;have hB:=hB.zpK hb yad
  have zB:=hB.size;refine kP r hr10.shape rfl rfl H1 ts41 rfl rfl fun w13 u14 r=>?_;have Z13:=u14.size
  have H1:=u14.at_;have hB:=hB.zpI u14 (.inl kw)
  have zB:=hB.size;refine wn (ac ?_);have hd:D.zcD j c0 c1 c2 a0=(T.bind (D.zcp j c0.p c0.thread (D.zai c1.cur)) (fun x=>(D.zeB j c0 c2 x))):=(zao h4).trans (rfl)
  have hs:=hr10.shape.cells;refine za5 r rfl rfl H1 (k:=8) hs.1 ta41 ?_;rw [←hs.2.2,hd];exact zpj.fin hB hr10 u14 yac yaa kw kw kw
 refine ag (wsr (kG (zpF c1) 14 r rfl c1h zq5 rfl rfl fun r=>?_));refine kJ r (zcZ (j:=j) (F:=No) (n:=n) (fun _ h=>h.elim) kw (fun m' hm'=>zd0 (j:=j) (k:=j) kw kw) c1) rfl zqQ rfl fun w15 v16 hb hr17 r=>?_
 have hb:=hb.below;have Z15:=hb.size;have c0h:=keep hb c0h;have c1h:=keep hb c1h;have c2h:=keep hb c2h;have H1:=keep hb H1;obtain ⟨hB,zB⟩:=bon hb hB;refine za0 (.func (.func 254) #[] #[zp c0b,zp c2b]) r (fun R=>zaf r rfl) rfl fun fr r=>?_;have hF1:∀ b,(kW F w0 w2 b1) b→b<w15.heap.size:=by rintro b (h | ⟨_,h,_⟩); exact ai (hF b h) hB.size; exact ai h kw
 have f21:((kW F w0 w2 b1)) c0b:=(.inl c0F);have f22:((kW F w0 w2 b1)) c2b:=(.inl c2F);have hF2:=zpO hF hB.size b1;refine kJ r (zbO (F:=(kW F w0 w15 b1)) (F2:=(kW F w0 w2 b1)) (n:=n) hF2 yan yag yah (RepL.mono (F':=fun b=>w2.heap.size≤b∧b<w15.heap.size) yam (Same.refl _ _) (Nat.le_refl _) n _ _ hr17) ⟨254,[],[zp c0b,zp c2b],zsU,rfl,fun m hm x w' hs hz=>zhM (j:=j) (fun b hb=>ai (hF1 b hb) hz) kw c0 f21 (hs.at_ f21 c0h) c2 f22 (hs.at_ f22 c2h) x⟩) rfl zqD rfl fun w18 v19 hb hr20 r=>?_
 have Z18:=hb.size;have H1:=zpE hb H1 yaa
 have hB:=Chg.zpv (Z:=F) hB;have hB:=hB.zpK hb yad
 have zB:=hB.size;refine kP r hr20.shape rfl rfl H1 ts41 rfl rfl fun w23 u24 r=>?_;have Z23:=u24.size
 have H1:=u24.at_;have hB:=hB.zpI u24 (.inl kw)
 have zB:=hB.size;refine wn (ac ?_);have hd:D.zcD j c0 c1 c2 a0=(T.bind (D.zbK j (D.zaV j j) c1) (fun x=>(D.zeD j c0 c2 x))):=(zaq h4).trans (rfl)
 have hs:=hr20.shape.cells;refine za5 r rfl rfl H1 (k:=8) hs.1 ta41 ?_;rw [←hs.2.2,hd];exact zpj.fin hB hr20 u24 yac yaa kw kw kw
def D.zew (j:Nat) (a0:Seat) (a1:Walk) (a2:Int):T Res:=(D.zd3 a1.place a1.cur a1.next (fun x=>(D.zcD j a0 a1 a2 x)))
theorem zjt (hF:kH F w0) (hj:n<j)
    (a0:Seat) (a1:Walk) (a2:Int) :
    Calls ar 163 #[aq (zpJ a0),aq (zpF a1),.int .u64 a2] w0 (zpj ar zpn n (D.zew j a0 a1 a2) F w0):=by
 refine kN Tryz.func163 rfl 15 rfl rfl fun fr r hB=>?_;refine wsr ?_
 refine kX 47 (aq (zpJ a0)) r rfl rfl fun b1 w2 n3 r=>?_;obtain ⟨E1,Z2,H1,hB,zB⟩:=n3.all hB
 refine kX 221 (aq (zpF a1)) r rfl rfl fun b4 w5 n6 r=>?_;have H1:=keep n6.below H1
 obtain ⟨E4,Z5,H4,hB,zB⟩:=n6.all hB;refine kX 34 (U a2) r rfl rfl fun b7 w8 n9 r=>?_;have H1:=keep n9.below H1
 have H4:=keep n9.below H4;obtain ⟨E7,Z8,H7,hB,zB⟩:=n9.all hB;refine za7 (.cells (kq zpn) 41 (0,0)) r (fun R=>za6 tz41) rfl fun fr b10 w11 n12 r=>?_;have H1:=keep n12.below H1
 have H4:=keep n12.below H4;have H7:=keep n12.below H7;obtain ⟨E10,Z11,H10,hB,zB⟩:=n12.all hB;refine wn (wsr (kF 0 r rfl zjR rfl fun r=>kL (I a1.place) r rfl H4 to3 rfl rfl fun r=>kF 0 r rfl zeZ rfl fun r=>kL (U a1.cur) r rfl H4 to34 rfl rfl fun r=>kF 0 r rfl zgJ rfl fun r=>kL (U a1.next) r rfl H4 to34 rfl rfl fun r=>za0 (.func (.func 251) #[] #[zp b1,zp b4,zp b7]) r (fun R=>zaf r rfl) rfl fun fr r=>?_));have hF1:=zpO hF hB.size b10
 have f16:((kW F w0 w11 b10)) b1:=(.inr ⟨kw,kw,kw⟩)
 have f17:((kW F w0 w11 b10)) b4:=(.inr ⟨kw,kw,kw⟩)
 have f18:((kW F w0 w11 b10)) b7:=(.inr ⟨kw,kw,kw⟩)
 refine kJ r (zeI (F:=(kW F w0 w11 b10)) (n:=n) hF1 a1.place a1.cur a1.next ⟨251,[],[zp b1,zp b4,zp b7],zuI,rfl,fun m hm x w' hs hz=>zix (j:=j) (fun b hb=>ai (hF1 b hb) hz) kw a0 f16 (hs.at_ f16 H1) a1 f17 (hs.at_ f17 H4) a2 f18 (hs.at_ f18 H7) x⟩) rfl zrq rfl fun w13 v14 hb hr15 r=>?_;have Z13:=hb.size
 have H10:=zpE hb H10 yaa
 have hB:=Chg.zpv (Z:=F) hB;have hB:=hB.zpK hb yad
 have zB:=hB.size;refine kP r hr15.shape rfl rfl H10 ts41 rfl rfl fun w19 u20 r=>?_;have Z19:=u20.size
 have H10:=u20.at_;have hB:=hB.zpI u20 (.inl kw)
 have zB:=hB.size;refine wn (ac ?_);have hs:=hr15.shape.cells;refine za5 r rfl rfl H10 (k:=8) hs.1 ta41 ?_;rw [←hs.2.2];exact zpj.fin hB hr15 u20 yac yaa kw kw kw
def D.zdi (j:Nat) (aC:Seat→Int→Int→T Res) (c0:Seat) (c1:Int) (c2:Int) (c3:Walk) (c4:Int) (a0:Bool):T Res:=(bif (!a0) then (aC c0 c1 c2) else (D.zew j c0 c3 c4))
def D.zfd (j:Nat) (aC:Seat→Int→Int→T Res) (c0:Seat) (c1:Int) (c2:Walk) (c3:Int) (c4:Int) (a0:Int):T Res:=(D.zd3 (D.za8 c0.p c1 2) c2.next (zdf .u64 c2.next 1) (fun x=>(D.zdi j aC c0 c3 c4 c2 a0 x)))
def D.zee (j:Nat) (aC:Seat→Int→Int→T Res) (c0:Seat) (c1:Int) (c2:Int) (a0:Walk):T Res:=(bif (!a0.there) then (D.zbY j c0 (⟨6,0⟩:Res)) else (D.zc5 (D.za8 c0.p (D.zai a0.cur) 1) (fun x=>(D.zfd j aC c0 (D.zai a0.cur) a0 c1 c2 x))))
def D.zi5 (j:Nat) (aC:Seat→Int→Int→T Res) (a0:Seat) (a1:Int) (a2:Int):T Res:=(T.bind (D.zfC j (D.zaV j j) a0 a1 a2) (fun x=>(D.zee j aC a0 a1 a2 x)))
def D.ze7 (j:Nat):Nat→Seat→Int→Int→T Res
 | 0,_,_,_=>.cut
 | k+1,a0,a1,a2=>D.zi5 j (D.ze7 j k) a0 a1 a2
def ze1 (r:Seat→Int→Int→T Res) (n:Nat):Prop:=∀ (F:Nat→Prop) (w0:World),(∀ b,F b→b<w0.heap.size)→∀ (a0:Seat) (a1:Int) (a2:Int),Calls ar 86 #[aq (zpJ a0),.int .i64 a1,.int .u64 a2] w0 (zpj ar zpn n (r a0 a1 a2) F w0)
theorem ziN {aC:Seat→Int→Int→T Res} (hF:kH F w0) (hj:n<j) (aO:∀ m,m≤n→ze1 aC m)
    (c0:Seat) {c0b:Nat} (c0F:F c0b) (c0h:w0.heap[c0b]?=some (.cells ((zpJ c0)).toArray 47 (0,0))) (c1:Int) {c1b:Nat} (c1F:F c1b) (c1h:w0.heap[c1b]?=some (.cells ([(.int .i64 c1)]).toArray 3 (0,0))) (c2:Int) {c2b:Nat} (c2F:F c2b) (c2h:w0.heap[c2b]?=some (.cells ([(.int .u64 c2)]).toArray 34 (0,0))) (c3:Walk) {c3b:Nat} (c3F:F c3b) (c3h:w0.heap[c3b]?=some (.cells ((zpF c3)).toArray 221 (0,0))) (c4:Int) {c4b:Nat} (c4F:F c4b) (c4h:w0.heap[c4b]?=some (.cells ([(.int .u64 c4)]).toArray 34 (0,0))) (a0:Bool) :
    Calls ar 162 #[.bool a0,zp c0b,zp c1b,zp c2b,zp c3b,zp c4b] w0 (zpj ar zpn n (D.zdi j aC c0 c1 c2 c3 c4 a0) F w0):=by
 refine kN Tryz.func162 rfl 18 rfl rfl fun fr r hB=>?_;have lc0b:=ah c0h
 have lc1b:=ah c1h;have lc2b:=ah c2h;have lc3b:=ah c3h;have lc4b:=ah c4h;refine wsr ?_;refine za7 (.cells (kq zpn) 41 (0,0)) r (fun R=>za6 tz41) rfl fun fr b1 w2 n3 r=>?_;obtain ⟨E1,Z2,H1,hB,zB⟩:=n3.all hB
 refine wn (aa (wsr (kM (.bool a0) r rfl rfl fun r=>za0 (.bool (!a0)) r (fun R=>y_un r (u:=(.bool a0)) rfl rfl) rfl fun fr r=>wn ?_)));refine ae (t:=(!a0)) (r.ev rfl) (fun h4=>?_) (fun h4=>?_)
 ·
  refine wsr (kG (zpJ c0) 8 r rfl (keep hB c0h) ta47 rfl rfl fun r=>kL (I c1) r rfl (keep hB c1h) to3 rfl rfl fun r=>kL (U c2) r rfl (keep hB c2h) to34 rfl rfl fun r=>?_);refine kJ r ((aO n kw) (No) _ (fun _ h=>h.elim) c0 c1 c2) rfl cl86 rfl fun w5 v6 hb hr7 r=>?_
  have hb:=hb.below;have Z5:=hb.size;have H1:=keep hb H1;obtain ⟨hB,zB⟩:=bon hb hB;refine kP r hr7.shape rfl rfl H1 ts41 rfl rfl fun w8 u9 r=>?_;have Z8:=u9.size
  have H1:=u9.at_;obtain ⟨hB,zB⟩:=u9.on hB kw
  refine wn (ac ?_);have hd:D.zdi j aC c0 c1 c2 c3 c4 a0=(aC c0 c1 c2):=(zao h4).trans (rfl);have hs:=hr7.shape.cells;refine za5 r rfl rfl H1 (k:=8) hs.1 ta41 ?_;rw [←hs.2.2,hd];exact zpj.fin (Chg.zpv hB) hr7 u9 (fun _ h=>h.elim) (fun h=>h) kw kw kw
 refine ag (wsr (kG (zpJ c0) 8 r rfl (keep hB c0h) ta47 rfl rfl fun r=>kG (zpF c3) 14 r rfl (keep hB c3h) zq5 rfl rfl fun r=>kL (U c4) r rfl (keep hB c4h) to34 rfl rfl fun r=>?_));refine kJ r (zjt (j:=j) (F:=No) (n:=n) (fun _ h=>h.elim) kw c0 c3 c4) rfl zuL rfl fun w10 v11 hb hr12 r=>?_
 have hb:=hb.below;have Z10:=hb.size;have H1:=keep hb H1;obtain ⟨hB,zB⟩:=bon hb hB;refine kP r hr12.shape rfl rfl H1 ts41 rfl rfl fun w13 u14 r=>?_;have Z13:=u14.size
 have H1:=u14.at_;obtain ⟨hB,zB⟩:=u14.on hB kw
 refine wn (ac ?_);have hd:D.zdi j aC c0 c1 c2 c3 c4 a0=(D.zew j c0 c3 c4):=(zaq h4).trans (rfl);have hs:=hr12.shape.cells;refine za5 r rfl rfl H1 (k:=8) hs.1 ta41 ?_;rw [←hs.2.2,hd];exact zpj.fin (Chg.zpv hB) hr12 u14 (fun _ h=>h.elim) (fun h=>h) kw kw kw
theorem zjy {aC:Seat→Int→Int→T Res} (hF:kH F w0) (hj:n<j) (aO:∀ m,m<n→ze1 aC m)
    (c0:Seat) {c0b:Nat} (c0F:F c0b) (c0h:w0.heap[c0b]?=some (.cells ((zpJ c0)).toArray 47 (0,0))) (c1:Int) {c1b:Nat} (c1F:F c1b) (c1h:w0.heap[c1b]?=some (.cells ([(.int .i64 c1)]).toArray 3 (0,0))) (c2:Walk) {c2b:Nat} (c2F:F c2b) (c2h:w0.heap[c2b]?=some (.cells ((zpF c2)).toArray 221 (0,0))) (c3:Int) {c3b:Nat} (c3F:F c3b) (c3h:w0.heap[c3b]?=some (.cells ([(.int .i64 c3)]).toArray 3 (0,0))) (c4:Int) {c4b:Nat} (c4F:F c4b) (c4h:w0.heap[c4b]?=some (.cells ([(.int .u64 c4)]).toArray 34 (0,0))) (a0:Int) :
    Calls ar 161 #[.int .u64 a0,zp c0b,zp c1b,zp c2b,zp c3b,zp c4b] w0 (zpj ar zpn n (D.zfd j aC c0 c1 c2 c3 c4 a0) F w0):=by
 refine kN Tryz.func161 rfl 19 rfl rfl fun fr r hB=>?_;have lc0b:=ah c0h
 have lc1b:=ah c1h;have lc2b:=ah c2h;have lc3b:=ah c3h;have lc4b:=ah c4h;refine wsr ?_;refine kX 34 (U a0) r rfl rfl fun b1 w2 n3 r=>?_;have c0h:=keep n3.below c0h
 have c1h:=keep n3.below c1h;have c2h:=keep n3.below c2h;have c3h:=keep n3.below c3h;have c4h:=keep n3.below c4h;obtain ⟨E1,Z2,H1,hB,zB⟩:=n3.all hB;refine za7 (.cells (kq zpn) 41 (0,0)) r (fun R=>za6 tz41) rfl fun fr b4 w5 n6 r=>?_;have c0h:=keep n6.below c0h
 have c1h:=keep n6.below c1h;have c2h:=keep n6.below c2h;have c3h:=keep n6.below c3h;have c4h:=keep n6.below c4h;have H1:=keep n6.below H1;obtain ⟨E4,Z5,H4,hB,zB⟩:=n6.all hB;refine wn (aa ?_);refine zaB 10 [.val (zp c0b),.val (aq (zpg c0.p)),.val (I c1),.val (I (D.za8 c0.p c1 2)),.val (.pointer (some ⟨c2b,12,none⟩)),.val (U c2.next),.val (.pointer (some ⟨c2b,12,none⟩)),.val (U c2.next),.val (U (zdf .u64 c2.next 1)),.val (.func (.func 162) #[] #[zp c0b,zp c3b,zp c4b,zp c2b,zp b1])] mixed r kz (kV (kV (kV (kV (kV (kV (kV (kV (kV (kV zat)))))))))) ?_ ?_
 ·
  refine ec r (fun _ u _ b d s=>za3 s (b:=c0b) (o:=0) rfl zdP bz) (ec r (fun _ u _ b d s=>zac s (cs:=(zpg c0.p)) (n:=6) d.1 (keep b c0h) ta23 rfl bz) (ec r (fun _ u _ b d s=>za4 s rfl (keep b c1h) to3 rfl bz) (ec r (fun fr1 u w' hb' hd r'=>zaF r' (args:=[(aq (zpg c0.p)),(I c1),(I 2)]) (lc hd.1 (lc hd.2.1 (lc rfl l0))) cl89 ((zaY _ c0.p c1 2).mono yab)) (ec r (fun _ u _ b d s=>za3 s (b:=c2b) (o:=0) rfl zgJ bz) (ec r (fun _ u _ b d s=>za4 s d.1 (keep b c2h) to34 rfl bz) (ec r (fun _ u _ b d s=>za3 s (b:=c2b) (o:=0) rfl zgJ bz) (ec r (fun _ u _ b d s=>za4 s d.1 (keep b c2h) to34 rfl bz) (ec r (fun _ u _ b d s=>zpG s d.1 rfl rfl rfl bz) (ec r (fun _ u _ b d s=>zaf s (v:=(.func (.func 162) #[] #[zp c0b,zp c3b,zp c4b,zp c2b,zp b1])) rfl bz) ?_)))))))));exact zaO
 intro fr u w7 hb hΦ hne r;have r:=r.congr (sc (hΦ 9 ke) (sc (hΦ 8 ke) (sc (hΦ 7 ke) (sc (hΦ 6 ke) (sc (hΦ 5 ke) (sc (hΦ 4 ke) (sc (hΦ 3 ke) (sc (hΦ 2 ke) (sc (hΦ 1 ke) (sc (hΦ 0 ke) rfl))))))))));have Z7:=hb.size;have c0h:=keep hb c0h;have c1h:=keep hb c1h;have c2h:=keep hb c2h;have c3h:=keep hb c3h;have c4h:=keep hb c4h;have H1:=keep hb H1;have H4:=keep hb H4;obtain ⟨hB,zB⟩:=bon hb hB;have hF1:=zpO hF hB.size b4;have f11:((kW F w0 w7 b4)) c0b:=(.inl c0F);have f12:((kW F w0 w7 b4)) c3b:=(.inl c3F);have f13:((kW F w0 w7 b4)) c4b:=(.inl c4F);have f14:((kW F w0 w7 b4)) c2b:=(.inl c2F);have f15:((kW F w0 w7 b4)) b1:=(.inr ⟨kw,kw,kw⟩)
 refine kJ r (zeI (F:=(kW F w0 w7 b4)) (n:=n) hF1 (D.za8 c0.p c1 2) c2.next (zdf .u64 c2.next 1) ⟨162,[],[zp c0b,zp c3b,zp c4b,zp c2b,zp b1],zuo,rfl,fun m hm x w' hs hz=>ziN (j:=j) (fun b hb=>ai (hF1 b hb) hz) kw (fun m' hm'=>aO m' kw) c0 f11 (hs.at_ f11 c0h) c3 f12 (hs.at_ f12 c3h) c4 f13 (hs.at_ f13 c4h) c2 f14 (hs.at_ f14 c2h) a0 f15 (hs.at_ f15 H1) x⟩) rfl zrq rfl fun w8 v9 hb hr10 r=>?_;have Z8:=hb.size
 have H4:=zpE hb H4 yaa
 have hB:=Chg.zpv (Z:=F) hB;have hB:=hB.zpK hb yad
 have zB:=hB.size;refine kP r hr10.shape rfl rfl H4 ts41 rfl rfl fun w16 u17 r=>?_;have Z16:=u17.size
 have H4:=u17.at_;have hB:=hB.zpI u17 (.inl kw)
 have zB:=hB.size;refine wn (ac ?_);have hs:=hr10.shape.cells;refine za5 r rfl rfl H4 (k:=8) hs.1 ta41 ?_;rw [←hs.2.2];exact zpj.fin hB hr10 u17 yac yaa kw kw kw
theorem zkF {aC:Seat→Int→Int→T Res} (hF:kH F w0) (hj:n<j) (aO:∀ m,m<n→ze1 aC m)
    (c0:Seat) {c0b:Nat} (c0F:F c0b) (c0h:w0.heap[c0b]?=some (.cells ((zpJ c0)).toArray 47 (0,0))) (c1:Int) {c1b:Nat} (c1F:F c1b) (c1h:w0.heap[c1b]?=some (.cells ([(.int .i64 c1)]).toArray 3 (0,0))) (c2:Int) {c2b:Nat} (c2F:F c2b) (c2h:w0.heap[c2b]?=some (.cells ([(.int .u64 c2)]).toArray 34 (0,0))) (a0:Walk) :
    Calls ar 159 #[aq (zpF a0),zp c0b,zp c1b,zp c2b] w0 (zpj ar zpn n (D.zee j aC c0 c1 c2 a0) F w0):=by
 refine kN Tryz.func159 rfl 22 rfl rfl fun fr r hB=>?_;have lc0b:=ah c0h
 have lc1b:=ah c1h;have lc2b:=ah c2h;refine wsr ?_;refine kX 221 (aq (zpF a0)) r rfl rfl fun b1 w2 n3 r=>?_;have c0h:=keep n3.below c0h
 have c1h:=keep n3.below c1h;have c2h:=keep n3.below c2h;obtain ⟨E1,Z2,H1,hB,zB⟩:=n3.all hB;refine za7 (.cells (kq zpn) 41 (0,0)) r (fun R=>za6 tz41) rfl fun fr b4 w5 n6 r=>?_;have c0h:=keep n6.below c0h
 have c1h:=keep n6.below c1h;have c2h:=keep n6.below c2h;have H1:=keep n6.below H1;obtain ⟨E4,Z5,H4,hB,zB⟩:=n6.all hB;refine wn (aa (wsr (kF 0 r rfl zjL rfl fun r=>kL (.bool a0.there) r rfl H1 to4 rfl rfl fun r=>za0 (.bool (!a0.there)) r (fun R=>y_un r (u:=(.bool a0.there)) rfl rfl) rfl fun fr r=>wn ?_)));refine ae (t:=(!a0.there)) (r.ev rfl) (fun h7=>?_) (fun h7=>?_)
 ·
  refine wsr (kG (zpJ c0) 8 r rfl c0h ta47 rfl rfl fun r=>kU (aq (resC (⟨6,0⟩:Res))) r kz rfl fun r=>?_);refine kJ r (zd5 (j:=j) (F:=No) (n:=n) (fun _ h=>h.elim) kw c0 (⟨6,0⟩:Res)) rfl zqv rfl fun w8 v9 hb hr10 r=>?_
  have hb:=hb.below;have Z8:=hb.size;have c0h:=keep hb c0h;have c1h:=keep hb c1h;have c2h:=keep hb c2h;have H1:=keep hb H1;have H4:=keep hb H4;obtain ⟨hB,zB⟩:=bon hb hB;refine kP r hr10.shape rfl rfl H4 ts41 rfl rfl fun w11 u12 r=>?_;have Z11:=u12.size
  have c0h:=u12.keep c0h kw
  have c1h:=u12.keep c1h kw
  have c2h:=u12.keep c2h kw
  have H1:=u12.keep H1 kw
  have H4:=u12.at_;obtain ⟨hB,zB⟩:=u12.on hB kw
  refine wn (ac ?_);have hd:D.zee j aC c0 c1 c2 a0=(D.zbY j c0 (⟨6,0⟩:Res)):=(zao h7).trans (rfl);have hs:=hr10.shape.cells;refine za5 r rfl rfl H4 (k:=8) hs.1 ta41 ?_;rw [←hs.2.2,hd];exact zpj.fin (Chg.zpv hB) hr10 u12 (fun _ h=>h.elim) (fun h=>h) kw kw kw
 refine ag (wsr (kF 0 r rfl zeZ rfl fun r=>kL (U a0.cur) r rfl H1 to34 rfl rfl fun r=>?_));refine kE r (zc8 w5 a0.cur) rfl cl88 rfl fun w13 hb r=>?_
 have Z13:=hb.size;have c0h:=keep hb c0h;have c1h:=keep hb c1h;have c2h:=keep hb c2h;have H1:=keep hb H1;have H4:=keep hb H4;obtain ⟨hB,zB⟩:=bon hb hB;refine za7 (.cells #[(I 0)] 3 (0,0)) r (fun R=>za6 tz3) rfl fun fr b14 w15 n16 r=>?_;have c0h:=keep n16.below c0h
 have c1h:=keep n16.below c1h;have c2h:=keep n16.below c2h;have H1:=keep n16.below H1;have H4:=keep n16.below H4;obtain ⟨E14,Z15,H14,hB,zB⟩:=n16.all hB;refine zaD (.cells #[(I (D.zai a0.cur))] 3 (0,0)) r (fun R=>zax r (o:=0) (v:=(I (D.zai a0.cur))) rfl rfl H14 ts3 ak rfl rfl) rfl fun fr w17 u18 r=>?_;have Z17:=u18.size
 have c0h:=u18.keep c0h kw
 have c1h:=u18.keep c1h kw
 have c2h:=u18.keep c2h kw
 have H1:=u18.keep H1 kw
 have H4:=u18.keep H4 kw
 have H14:=u18.at_;obtain ⟨hB,zB⟩:=u18.on hB kw
 refine wn (wsr (kF 0 r rfl zdP rfl fun r=>kG (zpg c0.p) 6 r rfl c0h ta23 rfl rfl fun r=>kL (I (D.zai a0.cur)) r rfl H14 to3 rfl rfl fun r=>?_));refine kE r (zaY w17 c0.p (D.zai a0.cur) 1) rfl cl89 rfl fun w19 hb r=>?_
 have Z19:=hb.size;have c0h:=keep hb c0h;have c1h:=keep hb c1h;have c2h:=keep hb c2h;have H1:=keep hb H1;have H4:=keep hb H4;have H14:=keep hb H14;obtain ⟨hB,zB⟩:=bon hb hB;refine za0 (.func (.func 161) #[] #[zp c0b,zp b14,zp b1,zp c1b,zp c2b]) r (fun R=>zaf r rfl) rfl fun fr r=>?_;have hF1:=zpO hF hB.size b4
 have f23:((kW F w0 w19 b4)) c0b:=(.inl c0F);have f24:((kW F w0 w19 b4)) b14:=(.inr ⟨kw,kw,kw⟩)
 have f25:((kW F w0 w19 b4)) b1:=(.inr ⟨kw,kw,kw⟩)
 have f26:((kW F w0 w19 b4)) c1b:=(.inl c1F);have f27:((kW F w0 w19 b4)) c2b:=(.inl c2F);refine kJ r (zgf (F:=(kW F w0 w19 b4)) (n:=n) hF1 (D.za8 c0.p (D.zai a0.cur) 1) ⟨161,[],[zp c0b,zp b14,zp b1,zp c1b,zp c2b],ztk,rfl,fun m hm x w' hs hz=>zjy (j:=j) (fun b hb=>ai (hF1 b hb) hz) kw (fun m' hm'=>aO m' kw) c0 f23 (hs.at_ f23 c0h) (D.zai a0.cur) f24 (hs.at_ f24 H14) a0 f25 (hs.at_ f25 H1) c1 f26 (hs.at_ f26 c1h) c2 f27 (hs.at_ f27 c2h) x⟩) rfl cl99 rfl fun w20 v21 hb hr22 r=>?_;have Z20:=hb.size
 have H4:=zpE hb H4 yaa
 have hB:=Chg.zpv (Z:=F) hB;have hB:=hB.zpK hb yad
 have zB:=hB.size;refine kP r hr22.shape rfl rfl H4 ts41 rfl rfl fun w28 u29 r=>?_;have Z28:=u29.size
 have H4:=u29.at_;have hB:=hB.zpI u29 (.inl kw)
 have zB:=hB.size;refine wn (ac ?_);have hd:D.zee j aC c0 c1 c2 a0=(D.zc5 (D.za8 c0.p (D.zai a0.cur) 1) (fun x=>(D.zfd j aC c0 (D.zai a0.cur) a0 c1 c2 x))):=(zaq h7).trans (rfl)
 have hs:=hr22.shape.cells;refine za5 r rfl rfl H4 (k:=8) hs.1 ta41 ?_;rw [←hs.2.2,hd];exact zpj.fin hB hr22 u29 yac yaa kw kw kw
theorem zmG {n:Nat} {F:Nat→Prop} {j:Nat} {aC:Seat→Int→Int→T Res} {w0:World} (hF:∀ b,F b→b<w0.heap.size) (hj:n<j) (aO:∀ m,m<n→ze1 aC m)
    (a0:Seat) (a1:Int) (a2:Int) :
    Calls ar 86 #[aq (zpJ a0),.int .i64 a1,.int .u64 a2] w0 (zpj ar zpn n (D.zi5 j aC a0 a1 a2) F w0):=by
 refine kN Tryz.func86 rfl 13 rfl rfl fun fr r hB=>?_;refine wsr ?_
 refine kX 47 (aq (zpJ a0)) r rfl rfl fun b1 w2 n3 r=>?_;obtain ⟨E1,Z2,H1,hB,zB⟩:=n3.all hB
 refine kX 3 (I a1) r rfl rfl fun b4 w5 n6 r=>?_;have H1:=keep n6.below H1
 obtain ⟨E4,Z5,H4,hB,zB⟩:=n6.all hB;refine kX 34 (U a2) r rfl rfl fun b7 w8 n9 r=>?_;have H1:=keep n9.below H1
 have H4:=keep n9.below H4;obtain ⟨E7,Z8,H7,hB,zB⟩:=n9.all hB;refine za7 (.cells (kq zpn) 41 (0,0)) r (fun R=>za6 tz41) rfl fun fr b10 w11 n12 r=>?_;have H1:=keep n12.below H1
 have H4:=keep n12.below H4;have H7:=keep n12.below H7;obtain ⟨E10,Z11,H10,hB,zB⟩:=n12.all hB;refine wn (wsr (kG (zpJ a0) 8 r rfl H1 ta47 rfl rfl fun r=>kL (I a1) r rfl H4 to3 rfl rfl fun r=>kL (U a2) r rfl H7 to34 rfl rfl fun r=>?_));refine kJ r (zfn (j:=j) (F:=No) (n:=n) (fun _ h=>h.elim) kw (fun m' hm'=>zd0 (j:=j) (k:=j) kw kw) a0 a1 a2) rfl zqP rfl fun w13 v14 hb hr15 r=>?_
 have hb:=hb.below;have Z13:=hb.size;have H1:=keep hb H1;have H4:=keep hb H4;have H7:=keep hb H7;have H10:=keep hb H10;obtain ⟨hB,zB⟩:=bon hb hB;refine za0 (.func (.func 159) #[] #[zp b1,zp b4,zp b7]) r (fun R=>zaf r rfl) rfl fun fr r=>?_;have hF1:∀ b,(kW F w0 w11 b10) b→b<w13.heap.size:=by rintro b (h | ⟨_,h,_⟩); exact ai (hF b h) hB.size; exact ai h kw
 have f19:((kW F w0 w11 b10)) b1:=(.inr ⟨kw,kw,kw⟩)
 have f20:((kW F w0 w11 b10)) b4:=(.inr ⟨kw,kw,kw⟩)
 have f21:((kW F w0 w11 b10)) b7:=(.inr ⟨kw,kw,kw⟩)
 have hF2:=zpO hF hB.size b10;refine kJ r (zbO (F:=(kW F w0 w13 b10)) (F2:=(kW F w0 w11 b10)) (n:=n) hF2 yan yag yah (RepL.mono (F':=fun b=>w11.heap.size≤b∧b<w13.heap.size) yam (Same.refl _ _) (Nat.le_refl _) n _ _ hr15) ⟨159,[],[zp b1,zp b4,zp b7],zt2,rfl,fun m hm x w' hs hz=>zkF (j:=j) (fun b hb=>ai (hF1 b hb) hz) kw (fun m' hm'=>aO m' kw) a0 f19 (hs.at_ f19 H1) a1 f20 (hs.at_ f20 H4) a2 f21 (hs.at_ f21 H7) x⟩) rfl zqD rfl fun w16 v17 hb hr18 r=>?_
 have Z16:=hb.size;have H10:=zpE hb H10 yaa
 have hB:=Chg.zpv (Z:=F) hB;have hB:=hB.zpK hb yad
 have zB:=hB.size;refine kP r hr18.shape rfl rfl H10 ts41 rfl rfl fun w22 u23 r=>?_;have Z22:=u23.size
 have H10:=u23.at_;have hB:=hB.zpI u23 (.inl kw)
 have zB:=hB.size;refine wn (ac ?_);have hs:=hr18.shape.cells;refine za5 r rfl rfl H10 (k:=8) hs.1 ta41 ?_;rw [←hs.2.2];exact zpj.fin hB hr18 u23 yac yaa kw kw kw
theorem zlW {n:Nat} {j:Nat} (hj:n<j) {k:Nat} (hk:n<k):ze1 (D.ze7 j k) n:=by
 induction n using Nat.strongRecOn generalizing k with
 | _ n ih=>
  obtain ⟨k,rfl⟩:∃ q,k=q+1:=⟨k - 1,kw⟩
  intro F w0 hF;have h:=@zmG n F j (D.ze7 j k) w0 hF hj (fun m hm=>ih m hm kw kw)
  exact h
def D.zgS (j:Nat) (c0:Seat) (a0:Int):T Res:=(D.zbY j c0 (⟨0,a0⟩:Res))
theorem zjE (hF:kH F w0) (hj:n<j)
    (c0:Seat) {c0b:Nat} (c0F:F c0b) (c0h:w0.heap[c0b]?=some (.cells ((zpJ c0)).toArray 47 (0,0))) (a0:Int) :
    Calls ar 165 #[.int .u64 a0,zp c0b] w0 (zpj ar zpn n (D.zgS j c0 a0) F w0):=by
 refine kN Tryz.func165 rfl 8 rfl rfl fun fr r hB=>?_;have lc0b:=ah c0h
 refine wsr ?_;refine za7 (.cells (kq zpn) 41 (0,0)) r (fun R=>za6 tz41) rfl fun fr b1 w2 n3 r=>?_;obtain ⟨E1,Z2,H1,hB,zB⟩:=n3.all hB
 refine wn (wsr (kG (zpJ c0) 8 r rfl (keep hB c0h) ta47 rfl rfl fun r=>kM (U a0) r rfl rfl fun r=>kU (aq (resC (⟨0,a0⟩:Res))) r kz rfl fun r=>?_));refine kJ r (zd5 (j:=j) (F:=No) (n:=n) (fun _ h=>h.elim) kw c0 (⟨0,a0⟩:Res)) rfl zqv rfl fun w4 v5 hb hr6 r=>?_
 have hb:=hb.below;have Z4:=hb.size;have H1:=keep hb H1;obtain ⟨hB,zB⟩:=bon hb hB;refine kP r hr6.shape rfl rfl H1 ts41 rfl rfl fun w7 u8 r=>?_;have Z7:=u8.size
 have H1:=u8.at_;obtain ⟨hB,zB⟩:=u8.on hB kw
 refine wn (ac ?_);have hs:=hr6.shape.cells;refine za5 r rfl rfl H1 (k:=8) hs.1 ta41 ?_;rw [←hs.2.2];exact zpj.fin (Chg.zpv hB) hr6 u8 (fun _ h=>h.elim) (fun h=>h) kw kw kw
def D.zdM (j:Nat) (c0:Seat) (a0:Walk):T Res:=(bif (!a0.there) then (D.zbY j c0 (⟨6,0⟩:Res)) else (D.zc5 (D.za8 c0.p (D.zai a0.cur) 1) (fun x=>(D.zgS j c0 x))))
theorem zkP (hF:kH F w0) (hj:n<j)
    (c0:Seat) {c0b:Nat} (c0F:F c0b) (c0h:w0.heap[c0b]?=some (.cells ((zpJ c0)).toArray 47 (0,0))) (a0:Walk) :
    Calls ar 164 #[aq (zpF a0),zp c0b] w0 (zpj ar zpn n (D.zdM j c0 a0) F w0):=by
 refine kN Tryz.func164 rfl 18 rfl rfl fun fr r hB=>?_;have lc0b:=ah c0h
 refine wsr ?_;refine kX 221 (aq (zpF a0)) r rfl rfl fun b1 w2 n3 r=>?_;have c0h:=keep n3.below c0h
 obtain ⟨E1,Z2,H1,hB,zB⟩:=n3.all hB;refine za7 (.cells (kq zpn) 41 (0,0)) r (fun R=>za6 tz41) rfl fun fr b4 w5 n6 r=>?_;have c0h:=keep n6.below c0h
 have H1:=keep n6.below H1;obtain ⟨E4,Z5,H4,hB,zB⟩:=n6.all hB;refine wn (aa (wsr (kF 0 r rfl zjL rfl fun r=>kL (.bool a0.there) r rfl H1 to4 rfl rfl fun r=>za0 (.bool (!a0.there)) r (fun R=>y_un r (u:=(.bool a0.there)) rfl rfl) rfl fun fr r=>wn ?_)));refine ae (t:=(!a0.there)) (r.ev rfl) (fun h7=>?_) (fun h7=>?_)
 ·
  refine wsr (kG (zpJ c0) 8 r rfl c0h ta47 rfl rfl fun r=>kU (aq (resC (⟨6,0⟩:Res))) r kz rfl fun r=>?_);refine kJ r (zd5 (j:=j) (F:=No) (n:=n) (fun _ h=>h.elim) kw c0 (⟨6,0⟩:Res)) rfl zqv rfl fun w8 v9 hb hr10 r=>?_
  have hb:=hb.below;have Z8:=hb.size;have c0h:=keep hb c0h;have H1:=keep hb H1;have H4:=keep hb H4;obtain ⟨hB,zB⟩:=bon hb hB;refine kP r hr10.shape rfl rfl H4 ts41 rfl rfl fun w11 u12 r=>?_;have Z11:=u12.size
  have c0h:=u12.keep c0h kw
  have H1:=u12.keep H1 kw
  have H4:=u12.at_;obtain ⟨hB,zB⟩:=u12.on hB kw
  refine wn (ac ?_);have hd:D.zdM j c0 a0=(D.zbY j c0 (⟨6,0⟩:Res)):=(zao h7).trans (rfl);have hs:=hr10.shape.cells;refine za5 r rfl rfl H4 (k:=8) hs.1 ta41 ?_;rw [←hs.2.2,hd];exact zpj.fin (Chg.zpv hB) hr10 u12 (fun _ h=>h.elim) (fun h=>h) kw kw kw
 refine ag (aa ?_);refine zaB 7 [.val (zp c0b),.val (aq (zpg c0.p)),.val (.pointer (some ⟨b1,11,none⟩)),.val (U a0.cur),.val (I (D.zai a0.cur)),.val (I (D.za8 c0.p (D.zai a0.cur) 1)),.val (.func (.func 165) #[] #[zp c0b])] mixed r kz (kV (kV (kV (kV (kV (kV (kV zat))))))) ?_ ?_
 ·
  refine ec r (fun _ u _ b d s=>za3 s (b:=c0b) (o:=0) rfl zdP bz) (ec r (fun _ u _ b d s=>zac s (cs:=(zpg c0.p)) (n:=6) d.1 (keep b c0h) ta23 rfl bz) (ec r (fun _ u _ b d s=>za3 s (b:=b1) (o:=0) rfl zeZ bz) (ec r (fun _ u _ b d s=>za4 s d.1 (keep b H1) to34 rfl bz) (ec r (fun fr1 u w' hb' hd r'=>zaF r' (args:=[(U a0.cur)]) (lc hd.1 l0) cl88 ((zc8 _ a0.cur).mono yab)) (ec r (fun fr1 u w' hb' hd r'=>zaF r' (args:=[(aq (zpg c0.p)),(I (D.zai a0.cur)),(I 1)]) (lc hd.1 (lc hd.2.1 (lc rfl l0))) cl89 ((zaY _ c0.p (D.zai a0.cur) 1).mono yab)) (ec r (fun _ u _ b d s=>zaf s (v:=(.func (.func 165) #[] #[zp c0b])) rfl bz) ?_))))));exact zaO
 intro fr u w13 hb hΦ hne r;have r:=r.congr (sc (hΦ 6 ke) (sc (hΦ 5 ke) (sc (hΦ 4 ke) (sc (hΦ 3 ke) (sc (hΦ 2 ke) (sc (hΦ 1 ke) (sc (hΦ 0 ke) rfl)))))));have Z13:=hb.size;have c0h:=keep hb c0h;have H1:=keep hb H1;have H4:=keep hb H4;obtain ⟨hB,zB⟩:=bon hb hB;have hF1:=zpO hF hB.size b4;have f17:((kW F w0 w13 b4)) c0b:=(.inl c0F);refine kJ r (zgf (F:=(kW F w0 w13 b4)) (n:=n) hF1 (D.za8 c0.p (D.zai a0.cur) 1) ⟨165,[],[zp c0b],zun,rfl,fun m hm x w' hs hz=>zjE (j:=j) (fun b hb=>ai (hF1 b hb) hz) kw c0 f17 (hs.at_ f17 c0h) x⟩) rfl cl99 rfl fun w14 v15 hb hr16 r=>?_;have Z14:=hb.size
 have H4:=zpE hb H4 yaa
 have hB:=Chg.zpv (Z:=F) hB;have hB:=hB.zpK hb yad
 have zB:=hB.size;refine kP r hr16.shape rfl rfl H4 ts41 rfl rfl fun w18 u19 r=>?_;have Z18:=u19.size
 have H4:=u19.at_;have hB:=hB.zpI u19 (.inl kw)
 have zB:=hB.size;refine wn (ac ?_);have hd:D.zdM j c0 a0=(D.zc5 (D.za8 c0.p (D.zai a0.cur) 1) (fun x=>(D.zgS j c0 x))):=(zaq h7).trans (rfl)
 have hs:=hr16.shape.cells;refine za5 r rfl rfl H4 (k:=8) hs.1 ta41 ?_;rw [←hs.2.2,hd];exact zpj.fin hB hr16 u19 yac yaa kw kw kw
def D.zfZ (j:Nat) (a0:Seat) (a1:Int) (a2:Int):T Res:=(T.bind (D.zfC j (D.zaV j j) a0 a1 a2) (fun x=>(D.zdM j a0 x)))
theorem zm4 (hF:kH F w0) (hj:n<j)
    (a0:Seat) (a1:Int) (a2:Int) :
    Calls ar 87 #[aq (zpJ a0),.int .i64 a1,.int .u64 a2] w0 (zpj ar zpn n (D.zfZ j a0 a1 a2) F w0):=by
 refine kN Tryz.func87 rfl 13 rfl rfl fun fr r hB=>?_;refine wsr ?_
 refine kX 47 (aq (zpJ a0)) r rfl rfl fun b1 w2 n3 r=>?_;obtain ⟨E1,Z2,H1,hB,zB⟩:=n3.all hB
 refine za7 (.cells (kq zpn) 41 (0,0)) r (fun R=>za6 tz41) rfl fun fr b4 w5 n6 r=>?_;have H1:=keep n6.below H1
 obtain ⟨E4,Z5,H4,hB,zB⟩:=n6.all hB;refine wn (wsr (kG (zpJ a0) 8 r rfl H1 ta47 rfl rfl fun r=>kM (I a1) r rfl rfl fun r=>kM (U a2) r rfl rfl fun r=>?_));refine kJ r (zfn (j:=j) (F:=No) (n:=n) (fun _ h=>h.elim) kw (fun m' hm'=>zd0 (j:=j) (k:=j) kw kw) a0 a1 a2) rfl zqP rfl fun w7 v8 hb hr9 r=>?_
 have hb:=hb.below;have Z7:=hb.size;have H1:=keep hb H1;have H4:=keep hb H4;obtain ⟨hB,zB⟩:=bon hb hB;refine za0 (.func (.func 164) #[] #[zp b1]) r (fun R=>zaf r rfl) rfl fun fr r=>?_;have hF1:∀ b,(kW F w0 w5 b4) b→b<w7.heap.size:=by rintro b (h | ⟨_,h,_⟩); exact ai (hF b h) hB.size; exact ai h kw
 have f13:((kW F w0 w5 b4)) b1:=(.inr ⟨kw,kw,kw⟩)
 have hF2:=zpO hF hB.size b4;refine kJ r (zbO (F:=(kW F w0 w7 b4)) (F2:=(kW F w0 w5 b4)) (n:=n) hF2 yan yag yah (RepL.mono (F':=fun b=>w5.heap.size≤b∧b<w7.heap.size) yam (Same.refl _ _) (Nat.le_refl _) n _ _ hr9) ⟨164,[],[zp b1],zt6,rfl,fun m hm x w' hs hz=>zkP (j:=j) (fun b hb=>ai (hF1 b hb) hz) kw a0 f13 (hs.at_ f13 H1) x⟩) rfl zqD rfl fun w10 v11 hb hr12 r=>?_
 have Z10:=hb.size;have H4:=zpE hb H4 yaa
 have hB:=Chg.zpv (Z:=F) hB;have hB:=hB.zpK hb yad
 have zB:=hB.size;refine kP r hr12.shape rfl rfl H4 ts41 rfl rfl fun w14 u15 r=>?_;have Z14:=u15.size
 have H4:=u15.at_;have hB:=hB.zpI u15 (.inl kw)
 have zB:=hB.size;refine wn (ac ?_);have hs:=hr12.shape.cells;refine za5 r rfl rfl H4 (k:=8) hs.1 ta41 ?_;rw [←hs.2.2];exact zpj.fin hB hr12 u15 yac yaa kw kw kw
end
end Go.Proofs.YtbbipmelhmgmfaaGreat

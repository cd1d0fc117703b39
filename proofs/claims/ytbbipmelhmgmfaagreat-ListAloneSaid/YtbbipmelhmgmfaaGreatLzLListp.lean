/- Ours. -/
import Derived.Test.YtbbipmelhmgmfaaGreatLzLLoads
import Derived.Test.YtbbipmelhmgmfaaGreatLzM17
set_option linter.all false
set_option maxRecDepth 100000
set_option maxHeartbeats 20000000
namespace Go.Proofs.YtbbipmelhmgmfaaGreat
open Go.RowKit
section
variable {n : Nat} {F : Nat → Prop} {j : Nat} {w0 : World}
theorem Eg:af y6 152:=kz
theorem wT:af y6 153:=kz
theorem Gy:af y6 154:=kz
theorem Ga:af y6 155:=kz
theorem xR:af y6 156:=kz
theorem oT:af y6 158:=kz
theorem EX:af y6 159:=kz
theorem jW:af y6 160:=kz
theorem ET:af y6 161:=kz
theorem Fy:af y6 162:=kz
theorem Fq:af y6 163:=kz
theorem FE:af y6 164:=kz
theorem Ew:af y6 165:=kz
theorem Gu:af y6 237:=kz
theorem xn:af y6 238:=kz
theorem FL:af y6 239:=kz
theorem FA:af y6 241:=kz
theorem FO:af y6 242:=kz
theorem Gp:af y6 243:=kz
theorem G3:af y6 244:=kz
theorem FB:af y6 248:=kz
theorem rR:af y6 249:=kz
theorem EQ:af y6 250:=kz
theorem Ed:af y6 251:=kz
theorem EK:af y6 252:=kz
theorem oL:af y6 253:=kz
theorem Eo:af y6 254:=kz
theorem xG:af y6 316:=kz
theorem oQ:af y6 317:=kz
theorem Gr:af y6 318:=kz
theorem oX:af y6 319:=kz
theorem Gz:af y6 320:=kz
theorem Gc:af y6 321:=kz
theorem Gt:af y6 322:=kz
theorem FI:af y6 364:=kz
theorem Ec:af y6 365:=kz
theorem Gj:af y6 366:=kz
theorem FU:af y6 367:=kz
theorem FV:af y6 368:=kz
theorem EU:af y6 388:=kz
theorem Ev:af y6 389:=kz
theorem FP:af y6 391:=kz
theorem FZ:af y6 392:=kz
theorem EC:af y6 393:=kz
theorem cl86:af y6 86:=kz
theorem cl88:af y6 88:=kz
theorem gR:ba y6 221 0 0:=kz
theorem Du:ba y6 221 1 8:=kz
theorem qV:ba y6 221 2 9:=kz
theorem lM:ba y6 221 3 10:=kz
theorem eV:ba y6 221 4 11:=kz
theorem gZ:ba y6 221 5 12:=kz
theorem lL:ba y6 221 6 13:=kz
theorem Fs:tyO y6 273:=kz
theorem ts4:sized y6 4 1:=kz
def D.lz (a0:Int):T Res:=(D.qa (⟨a0,0⟩:Res))
theorem tY (hF:kH F w0)
    (a0:Int) :
    Calls y6 153 #[.int .i64 a0] w0 (aw y6 aA n (D.lz a0) F w0):=by
 refine kN Tryz.func153 rfl 6 rfl rfl fun fr r hB=>?_;refine wsr ?_
 refine ah (.cells (kq aA) 41 (0,0)) r (fun R=>ag tz41) rfl fun fr b1 w2 n3 r=>?_;obtain ⟨E1,Z2,H1,hB,zB⟩:=n3.all hB
 refine wn (wsr (kM (I a0) r rfl rfl fun r=>kU (u7 (resC (⟨a0,0⟩:Res))) r kz rfl fun r=>?_));refine kJ r (sV (F:=No) (n:=n) (fun _ h=>h.elim) (⟨a0,0⟩:Res)) rfl cl15 rfl fun w4 v5 hb hr6 r=>?_
 have hb:=hb.below;have Z4:=hb.size;have H1:=keep hb H1;obtain ⟨hB,zB⟩:=bon hb hB;refine kP r hr6.shape rfl rfl H1 ts41 rfl rfl fun w7 u8 r=>?_;have Z7:=u8.size
 have H1:=u8.at_;obtain ⟨hB,zB⟩:=u8.on hB kw
 refine wn (d9 ?_);have hs:=hr6.shape.cells;refine ak r rfl rfl H1 (k:=8) hs.1 ta41 ?_;rw [←hs.2.2];exact aw.fin (Chg.aT hB) hr6 u8 (fun _ h=>h.elim) (fun h=>h) kw kw kw
def D.aW (a0:Int):Int:=(IntKind.i64.wrap ((IntKind.i64.wrap (shrI .u64 a0 1)) - 1))
theorem fM (w0:World) 
    (a0:Int) :
    Calls y6 88 #[.int .u64 a0] w0 (bB (.int .i64 (D.aW a0)) w0):=by
 refine kN Tryz.func88 rfl 7 rfl rfl fun fr r hB=>?_;refine wsr (kA (I 0) r rfl rfl fun r=>wn (wsr (kM (U a0) r rfl rfl fun r=>kB r rfl rfl rfl (qR yaw) rfl fun r=>aa (I (W (shrI .u64 a0 1))) r (fun R=>cK r rfl ti34 ti3) rfl fun fr r=>kB r rfl rfl rfl rfl rfl fun r=>kA (I (W ((W (shrI .u64 a0 1)) - 1))) r rfl rfl fun r=>wn (d9 ?_))))
 refine aU r rfl rfl ?_;exact ⟨rfl,hB⟩
def D.tw (c0:(Unit→T Walk)):T Walk:=(c0 ())
theorem zP (hF:kH F w0)
    {c0f:FuncId} {c0_1 c0_2:List Value} {c0:(Unit→T Walk)} {c0b:Nat} (c0F:F c0b) (c0h:w0.heap[c0b]?=some (.cells #[kf c0f c0_1 c0_2] 273 (0,0))) (c0n:FnL y6 aK unitE (n+1) F w0 (kf c0f c0_1 c0_2) c0) :
    Calls y6 364 #[.agg #[],zp c0b] w0 (aw y6 aK n (D.tw c0) F w0):=by
 refine kN Tryz.func364 rfl 6 rfl rfl fun fr r hB=>?_;have lc0b:=q7 c0h
 refine wsr ?_;refine kX 128 (.agg #[]) r rfl rfl fun b1 w2 n3 r=>?_;have c0h:=keep n3.below c0h
 obtain ⟨E1,Z2,H1,hB,zB⟩:=n3.all hB;refine ah (.cells (kq aK) 224 (0,0)) r (fun R=>ag cA) rfl fun fr b4 w5 n6 r=>?_;have c0h:=keep n6.below c0h
 have H1:=keep n6.below H1;obtain ⟨E4,Z5,H4,hB,zB⟩:=n6.all hB;refine wn (wsr (kL (kf c0f c0_1 c0_2) r rfl c0h Fs rfl rfl fun r=>?_));refine cS r (c0n.at_.2 n (Nat.lt_succ_self n) () w5 (Same.below hB hF) hB.size) (fun R hc=>iP r rfl c0n.at_.1 hc) rfl ?_
 rintro _ w7 ⟨v8,rfl,hb,hr9⟩;refine ⟨_,rfl,fun fr r=>?_⟩
 have Z7:=hb.size;have H4:=bc hb H4 (fun h=>by have:=hF _ h; omega)
 have hB:=Chg.aT (Z:=F) hB;have hB:=hB.bn hb (fun _ _ h=>h)
 have zB:=hB.size;refine kP r hr9.shape rfl rfl H4 bY rfl rfl fun w10 u11 r=>?_;have Z10:=u11.size
 have H4:=u11.at_;have hB:=hB.bm u11 (.inl kw)
 have zB:=hB.size;refine wn (d9 ?_);have hs:=hr9.shape.cells;refine ak r rfl rfl H4 (k:=20) hs.1 bZ ?_;rw [←hs.2.2];exact aw.fin hB hr9 u11 (fun b hb=>.inl hb) (fun h=>by have:=hF _ h; omega) kw kw kw
def D.fK (a0:Walk) (a1:Int) (a2:Int) (a3:(Unit→T Walk)):T Walk:=(T.bind (D.fk a0.seat.p a0.seat.thread a1 a2) (fun _=>(D.tw a3)))
theorem mW (hF:kH F w0)
    (a0:Walk) (a1:Int) (a2:Int) {a3f:FuncId} {Hn Ho:List Value} {a3:(Unit→T Walk)} (a3n:FnL y6 aK unitE (n) F w0 (kf a3f Hn Ho) a3) :
    Calls y6 319 #[u7 (bh a0),.int .i64 a1,.int .i64 a2,kf a3f Hn Ho] w0 (aw y6 aK n (D.fK a0 a1 a2 a3) F w0):=by
 refine kN Tryz.func319 rfl 20 rfl rfl fun fr r hB=>?_;refine wsr ?_
 refine kX 221 (u7 (bh a0)) r rfl rfl fun b1 w2 n3 r=>?_;obtain ⟨E1,Z2,H1,hB,zB⟩:=n3.all hB
 refine kX 273 (kf a3f Hn Ho) r rfl rfl fun b4 w5 n6 r=>?_;have H1:=keep n6.below H1
 obtain ⟨E4,Z5,H4,hB,zB⟩:=n6.all hB;refine ah (.cells (kq aK) 224 (0,0)) r (fun R=>ag cA) rfl fun fr b7 w8 n9 r=>?_;have H1:=keep n9.below H1
 have H4:=keep n9.below H4;obtain ⟨E7,Z8,H7,hB,zB⟩:=n9.all hB;refine wn (wsr (kF 0 r rfl gR rfl fun r=>kF 0 r rfl dJ rfl fun r=>kG (ae a0.seat.p) 6 r rfl H1 ta23 rfl rfl fun r=>kF 0 r rfl gR rfl fun r=>kF 0 r rfl iV rfl fun r=>kL (I a0.seat.thread) r rfl H1 to3 rfl rfl fun r=>kM (I a1) r rfl rfl fun r=>kM (I a2) r rfl rfl fun r=>?_));refine kD r (qg (F:=No) (n:=n) (fun _ h=>h.elim) a0.seat.p a0.seat.thread a1 a2) rfl rq rfl fun w10 v11 hb hr12 r=>?_
 have hr12:=hr12.loud;have Z10:=hb.size;have H1:=keep hb H1;have H4:=keep hb H4;have H7:=keep hb H7;obtain ⟨hB,zB⟩:=bon hb hB;refine aa (.func (.func 364) #[] #[zp b4]) r (fun R=>aZ r rfl) rfl fun fr r=>?_;have hF1:∀ b,(kW F w0 w8 b7) b→b<w10.heap.size:=by rintro b (h | ⟨_,h,_⟩); exact q8 (hF b h) hB.size; exact q8 h kw
 have f16:((kW F w0 w8 b7)) b4:=(.inr ⟨kw,kw,kw⟩)
 have hF2:=cu hF hB.size b7;refine kJ r (yo (F:=(kW F w0 w10 b7)) (F2:=(kW F w0 w8 b7)) (n:=n) hF2 yan yah yai (RepL.mono (F':=fun b=>w8.heap.size≤b∧b<w10.heap.size) yam (Same.refl _ _) (Nat.le_refl _) n _ _ hr12) ⟨364,[],[zp b4],FI,rfl,fun m hm _ w' hs hz=>zP (fun b hb=>q8 (hF1 b hb) hz) f16 (hs.at_ f16 H4) (a3n.mono kw (fun b h=>.inl h) ((Same.below hB hF).trans (hs.sub (fun b h=>.inl h))) (Nat.le_trans hB.size hz))⟩ rfl) rfl xg rfl fun w13 v14 hb hr15 r=>?_
 have Z13:=hb.size;have H7:=bc hb H7 yaa
 have hB:=Chg.aT (Z:=F) hB;have hB:=hB.bn hb yad
 have zB:=hB.size;refine kP r hr15.shape rfl rfl H7 bY rfl rfl fun w17 u18 r=>?_;have Z17:=u18.size
 have H7:=u18.at_;have hB:=hB.bm u18 (.inl kw)
 have zB:=hB.size;refine wn (d9 ?_);have hs:=hr15.shape.cells;refine ak r rfl rfl H7 (k:=20) hs.1 bZ ?_;rw [←hs.2.2];exact aw.fin hB hr15 u18 yac yaa kw kw kw
def D.mT (j:Nat) (z6:Walk→T Walk) (c0:Walk) (c1:Int):T Walk:=(z6 ({ ({ c0 with place:=(D.bo c0.seat.p c1 2) }) with cur:=c0.next }))
def D.pT (j:Nat) (z6:Walk→T Walk) (c0:Walk) (c1:Int):T Walk:=(D.fK c0 1 (D.aW c0.next) (fun _=>(D.mT j z6 c0 c1)))
def D.jo (j:Nat) (z6:Walk→T Walk) (a0:Walk) (a1:Int):T Walk:=(D.fK a0 2 a1 (fun _=>(D.pT j z6 a0 a1)))
def D.mA (j:Nat) (z6:Walk→T Walk) (c0:Int) (c1:Walk) (a0:Int):T Walk:=(D.fK ({ c1 with cur:=c0 }) 1 (D.aW c0) (fun _=>(z6 ({ c1 with cur:=c0 }))))
def D.uf (j:Nat) (z6:Walk→T Walk) (c0:Seat) (c1:Int) (c2:Int) (a0:Int):T Walk:=(z6 (⟨c0,c1,c2,c1,a0,0,false⟩:Walk))
def D.jA (j:Nat) (z6:Walk→T Walk) (a0:Seat) (a1:Int) (a2:Int):T Walk:=(T.bind (D.lh j a0.p a0.thread 1 a1 1) (fun x=>(D.uf j z6 a0 a1 a2 x)))
def D.fJ (j:Nat) (z6:Walk→T Walk) (a0:Walk):T Walk:=(D.jA j z6 a0.seat a0.cell a0.k)
def D.mD (j:Nat) (z6:Walk→T Walk) (c0:Walk) (c1:Int) (c2:Int) (a0:Bool):T Walk:=(bif (!a0) then (D.fJ j z6 c0) else (T.bind (D.gG j c0.seat.p c0.seat.thread c1) (fun x=>(D.mA j z6 c2 c0 x))))
def D.pw (j:Nat) (z6:Walk→T Walk) (a0:Walk) (a1:Int):T Walk:=(D.tB a0.place a0.cur (cG .u64 a0.next 1) (fun x=>(D.mD j z6 a0 a1 (cG .u64 a0.next 1) x)))
def D.il (j:Nat) (z6:Walk→T Walk) (c0:Walk) (c1:Int) (c2:Int) (a0:Int):T Walk:=(bif (a0 !=c0.cur) then (D.fJ j z6 c0) else (bif ((cL .u64 c0.next 1) !=0) then (D.pw j z6 c0 c1) else (bif (decide (c2≥c0.k)) then (D.je ({ c0 with there:=(c2==c0.k) })) else (D.jo j z6 c0 c1))))
def D.mP (j:Nat) (z6:Walk→T Walk) (c0:Walk) (c1:Int) (a0:Int):T Walk:=(D.iB c0.place (fun x=>(D.il j z6 c0 c1 a0 x)))
def D.j9 (j:Nat) (z6:Walk→T Walk) (a0:Walk) (a1:Int):T Walk:=(D.iB (D.bo a0.seat.p a1 0) (fun x=>(D.mP j z6 a0 a1 x)))
def D.kg (j:Nat) (z6:Walk→T Walk) (c0:Int) (c1:Walk) (c2:Int) (a0:Int):T Walk:=(bif (a0 !=c0) then (D.fJ j z6 c1) else (D.j9 j z6 ({ c1 with next:=c0 }) c2))
def D.km (j:Nat) (z6:Walk→T Walk) (c0:Int) (c1:Int) (c2:Walk) (c3:Int):T Walk:=(D.iB c0 (fun x=>(D.kg j z6 c1 c2 c3 x)))
def D.mR (j:Nat) (z6:Walk→T Walk) (c0:Walk) (c1:Int) (c2:Int) (a0:Int):T Walk:=(D.fK c0 0 (D.aW a0) (fun _=>(D.km j z6 c1 a0 c0 c2)))
def D.gk (j:Nat) (z6:Walk→T Walk) (a0:Walk):T Walk:=(bif (decide ((D.aW a0.cur)<0)) then (D.je ({ a0 with there:=false })) else (D.iB (D.bo a0.seat.p (D.aW a0.cur) 2) (fun x=>(D.mR j z6 a0 (D.bo a0.seat.p (D.aW a0.cur) 2) (D.aW a0.cur) x))))
def D.di (j:Nat):Nat→Walk→T Walk
 | 0,_=>.cut
 | k+1,a0=>D.gk j (D.di j k) a0
def dC (r:Walk→T Walk) (n:Nat):Prop:=∀ (F:Nat→Prop) (w0:World),(∀ b,F b→b<w0.heap.size)→∀ (a0:Walk),Calls y6 249 #[u7 (bh a0)] w0 (aw y6 aK n (r a0) F w0)
theorem zA {z6:Walk→T Walk} (hF:kH F w0) (hj:n<j) (E3:∀ m,m≤n→dC z6 m)
    (c0:Walk) {c0b:Nat} (c0F:F c0b) (c0h:w0.heap[c0b]?=some (.cells ((bh c0)).toArray 221 (0,0))) (c1:Int) {c1b:Nat} (c1F:F c1b) (c1h:w0.heap[c1b]?=some (.cells ([(.int .i64 c1)]).toArray 3 (0,0))) :
    Calls y6 393 #[zp c0b,zp c1b] w0 (aw y6 aK n (D.mT j z6 c0 c1) F w0):=by
 refine kN Tryz.func393 rfl 14 rfl rfl fun fr r hB=>?_;have lc0b:=q7 c0h
 have lc1b:=q7 c1h;refine wsr ?_;refine ah (.cells (kq aK) 224 (0,0)) r (fun R=>ag cA) rfl fun fr b1 w2 n3 r=>?_;have c0h:=keep n3.below c0h
 have c1h:=keep n3.below c1h;obtain ⟨E1,Z2,H1,hB,zB⟩:=n3.all hB;refine wn (a9 ?_);refine bN 8 [.val (zp c0b),.val (zp c0b),.val (u7 (ae c0.seat.p)),.val (I c1),.val (I (D.bo c0.seat.p c1 2)),.val (.pointer (some ⟨c0b,12,none⟩)),.val (U c0.next),.val (.pointer (some ⟨c0b,10,none⟩))] mixed r kz (kV (kV (kV (kV (kV (kV (kV (kV bM)))))))) ?_ ?_
 ·
  refine ec r (fun _ u _ b d s=>az s (b:=c0b) (o:=0) rfl gR bz) (ec r (fun _ u _ b d s=>az s (b:=c0b) (o:=0) d.1 dJ bz) (ec r (fun _ u _ b d s=>aX s (cs:=(ae c0.seat.p)) (n:=6) d.1 (keep b c0h) ta23 rfl bz) (ec r (fun _ u _ b d s=>av s rfl (keep b c1h) to3 rfl bz) (ec r (fun fr1 u w' hb' hd r'=>aP r' (args:=[(u7 (ae c0.seat.p)),(I c1),(I 2)]) (lc hd.1 (lc hd.2.1 (lc rfl l0))) cl89 ((eu _ c0.seat.p c1 2).mono yab)) (ec r (fun _ u _ b d s=>az s (b:=c0b) (o:=0) rfl gZ bz) (ec r (fun _ u _ b d s=>av s d.1 (keep b c0h) to34 rfl bz) (ec r (fun _ u _ b d s=>az s (b:=c0b) (o:=0) rfl lM bz) ?_)))))));exact bO
 intro fr u w4 hb hΦ hne r;have r:=r.congr (sc (hΦ 7 ke) (sc (hΦ 6 ke) (sc (hΦ 5 ke) (sc (hΦ 4 ke) (sc (hΦ 3 ke) (sc (hΦ 2 ke) (sc (hΦ 1 ke) (sc (hΦ 0 ke) rfl))))))));have Z4:=hb.size;have c0h:=keep hb c0h;have c1h:=keep hb c1h;have H1:=keep hb H1;obtain ⟨hB,zB⟩:=bon hb hB;refine aJ (.cells ((bh ({ c0 with place:=(D.bo c0.seat.p c1 2) }))).toArray 221 (0,0)) r (fun R=>bb r (o:=10) (v:=(I (D.bo c0.seat.p c1 2))) rfl rfl c0h ts3 r9 rfl rfl) rfl fun fr w5 u6 r=>?_
 have Z5:=u6.size;have c1h:=u6.keep c1h (iS c1h c0h rfl);have H1:=u6.keep H1 kw
 have c0h:=u6.at_;have hB:=Chg.aT (Z:=F) hB;have hB:=hB.bm u6 (.inr c0F);have zB:=hB.size;obtain ⟨zs7,ezs7⟩:∃ z,z=({ c0 with place:=(D.bo c0.seat.p c1 2) }):=⟨_,rfl⟩
 rw [←ezs7] at c0h
 refine kF 0 r rfl eV rfl fun r=>?_;refine aJ (.cells ((bh ({ zs7 with cur:=c0.next }))).toArray 221 (0,0)) r (fun R=>bb r (o:=11) (v:=(U c0.next)) rfl rfl c0h ts34 r9 rfl rfl) rfl fun fr w8 u9 r=>?_
 have Z8:=u9.size;have c1h:=u9.keep c1h (iS c1h c0h rfl);have H1:=u9.keep H1 kw
 have c0h:=u9.at_;have hB:=hB.bm u9 (.inr c0F);have zB:=hB.size;obtain ⟨zs10,ezs10⟩:∃ z,z=({ zs7 with cur:=c0.next }):=⟨_,rfl⟩
 rw [←ezs10] at c0h
 refine wn (wsr (kG (bh zs10) 14 r rfl c0h dB rfl rfl fun r=>?_));refine kJ r ((E3 n kw) (No) _ (fun _ h=>h.elim) zs10) rfl rR rfl fun w11 v12 hb hr13 r=>?_
 have hb:=hb.below;have Z11:=hb.size;have c0h:=keep hb c0h;have c1h:=keep hb c1h;have H1:=keep hb H1;have hB:=hB.thenB hb;have zB:=hB.size;refine kP r hr13.shape rfl rfl H1 bY rfl rfl fun w14 u15 r=>?_;have Z14:=u15.size
 have c0h:=u15.keep c0h kw
 have c1h:=u15.keep c1h kw
 have H1:=u15.at_;have hB:=hB.bm u15 (.inl kw)
 have zB:=hB.size;refine wn (d9 ?_);have hd:D.mT j z6 c0 c1=(z6 zs10):=by subst ezs10 ezs7; exact rfl
 have hs:=hr13.shape.cells;refine ak r rfl rfl H1 (k:=20) hs.1 bZ ?_;rw [←hs.2.2,hd];exact aw.fin hB hr13 u15 (fun _ h=>h.elim) (fun h=>h) kw kw kw
theorem A0 {z6:Walk→T Walk} (hF:kH F w0) (hj:n<j) (E3:∀ m,m<n→dC z6 m)
    (c0:Walk) {c0b:Nat} (c0F:F c0b) (c0h:w0.heap[c0b]?=some (.cells ((bh c0)).toArray 221 (0,0))) (c1:Int) {c1b:Nat} (c1F:F c1b) (c1h:w0.heap[c1b]?=some (.cells ([(.int .i64 c1)]).toArray 3 (0,0))) :
    Calls y6 392 #[zp c0b,zp c1b] w0 (aw y6 aK n (D.pT j z6 c0 c1) F w0):=by
 refine kN Tryz.func392 rfl 9 rfl rfl fun fr r hB=>?_;have lc0b:=q7 c0h
 have lc1b:=q7 c1h;refine wsr ?_;refine ah (.cells (kq aK) 224 (0,0)) r (fun R=>ag cA) rfl fun fr b1 w2 n3 r=>?_;have c0h:=keep n3.below c0h
 have c1h:=keep n3.below c1h;obtain ⟨E1,Z2,H1,hB,zB⟩:=n3.all hB;refine wn (a9 ?_);refine bN 5 [.val (u7 (bh c0)),.val (.pointer (some ⟨c0b,12,none⟩)),.val (U c0.next),.val (I (D.aW c0.next)),.val (.func (.func 393) #[] #[zp c0b,zp c1b])] mixed r kz (kV (kV (kV (kV (kV bM))))) ?_ ?_
 ·
  refine ec r (fun _ u _ b d s=>aX s (cs:=(bh c0)) (n:=14) rfl (keep b c0h) dB rfl bz) (ec r (fun _ u _ b d s=>az s (b:=c0b) (o:=0) rfl gZ bz) (ec r (fun _ u _ b d s=>av s d.1 (keep b c0h) to34 rfl bz) (ec r (fun fr1 u w' hb' hd r'=>aP r' (args:=[(U c0.next)]) (lc hd.1 l0) cl88 ((fM _ c0.next).mono yab)) (ec r (fun _ u _ b d s=>aZ s (v:=(.func (.func 393) #[] #[zp c0b,zp c1b])) rfl bz) ?_))));exact bO
 intro fr u w4 hb hΦ hne r;have r:=r.congr (sc (hΦ 4 ke) (sc (hΦ 3 ke) (sc (hΦ 2 ke) (sc (hΦ 1 ke) (sc (hΦ 0 ke) rfl)))));have Z4:=hb.size;have c0h:=keep hb c0h;have c1h:=keep hb c1h;have H1:=keep hb H1;obtain ⟨hB,zB⟩:=bon hb hB;have hF1:=cu hF hB.size b1;have f8:((kW F w0 w4 b1)) c0b:=(.inl c0F);have f9:((kW F w0 w4 b1)) c1b:=(.inl c1F);refine kJ r (mW (F:=(kW F w0 w4 b1)) (n:=n) hF1 c0 1 (D.aW c0.next) ⟨393,[],[zp c0b,zp c1b],EC,rfl,fun m hm _ w' hs hz=>zA (j:=j) (fun b hb=>q8 (hF1 b hb) hz) kw (fun m' hm'=>E3 m' kw) c0 f8 (hs.at_ f8 c0h) c1 f9 (hs.at_ f9 c1h)⟩) rfl oX rfl fun w5 v6 hb hr7 r=>?_;have Z5:=hb.size
 have H1:=bc hb H1 yaa
 have hB:=Chg.aT (Z:=F) hB;have hB:=hB.bn hb yad
 have zB:=hB.size;refine kP r hr7.shape rfl rfl H1 bY rfl rfl fun w10 u11 r=>?_;have Z10:=u11.size
 have H1:=u11.at_;have hB:=hB.bm u11 (.inl kw)
 have zB:=hB.size;refine wn (d9 ?_);have hs:=hr7.shape.cells;refine ak r rfl rfl H1 (k:=20) hs.1 bZ ?_;rw [←hs.2.2];exact aw.fin hB hr7 u11 yac yaa kw kw kw
theorem Az {z6:Walk→T Walk} (hF:kH F w0) (hj:n<j) (E3:∀ m,m<n→dC z6 m)
    (a0:Walk) (a1:Int) :
    Calls y6 368 #[u7 (bh a0),.int .i64 a1] w0 (aw y6 aK n (D.jo j z6 a0 a1) F w0):=by
 refine kN Tryz.func368 rfl 9 rfl rfl fun fr r hB=>?_;refine wsr ?_
 refine kX 221 (u7 (bh a0)) r rfl rfl fun b1 w2 n3 r=>?_;obtain ⟨E1,Z2,H1,hB,zB⟩:=n3.all hB
 refine kX 3 (I a1) r rfl rfl fun b4 w5 n6 r=>?_;have H1:=keep n6.below H1
 obtain ⟨E4,Z5,H4,hB,zB⟩:=n6.all hB;refine ah (.cells (kq aK) 224 (0,0)) r (fun R=>ag cA) rfl fun fr b7 w8 n9 r=>?_;have H1:=keep n9.below H1
 have H4:=keep n9.below H4;obtain ⟨E7,Z8,H7,hB,zB⟩:=n9.all hB;refine wn (wsr (kG (bh a0) 14 r rfl H1 dB rfl rfl fun r=>kL (I a1) r rfl H4 to3 rfl rfl fun r=>aa (.func (.func 392) #[] #[zp b1,zp b4]) r (fun R=>aZ r rfl) rfl fun fr r=>?_));have hF1:=cu hF hB.size b7
 have f13:((kW F w0 w8 b7)) b1:=(.inr ⟨kw,kw,kw⟩)
 have f14:((kW F w0 w8 b7)) b4:=(.inr ⟨kw,kw,kw⟩)
 refine kJ r (mW (F:=(kW F w0 w8 b7)) (n:=n) hF1 a0 2 a1 ⟨392,[],[zp b1,zp b4],FZ,rfl,fun m hm _ w' hs hz=>A0 (j:=j) (fun b hb=>q8 (hF1 b hb) hz) kw (fun m' hm'=>E3 m' kw) a0 f13 (hs.at_ f13 H1) a1 f14 (hs.at_ f14 H4)⟩) rfl oX rfl fun w10 v11 hb hr12 r=>?_;have Z10:=hb.size
 have H7:=bc hb H7 yaa
 have hB:=Chg.aT (Z:=F) hB;have hB:=hB.bn hb yad
 have zB:=hB.size;refine kP r hr12.shape rfl rfl H7 bY rfl rfl fun w15 u16 r=>?_;have Z15:=u16.size
 have H7:=u16.at_;have hB:=hB.bm u16 (.inl kw)
 have zB:=hB.size;refine wn (d9 ?_);have hs:=hr12.shape.cells;refine ak r rfl rfl H7 (k:=20) hs.1 bZ ?_;rw [←hs.2.2];exact aw.fin hB hr12 u16 yac yaa kw kw kw
theorem yn {z6:Walk→T Walk} (hF:kH F w0) (hj:n<j) (E3:∀ m,m<n→dC z6 m)
    (c0:Int) {c0b:Nat} (c0F:F c0b) (c0h:w0.heap[c0b]?=some (.cells ([(.int .u64 c0)]).toArray 34 (0,0))) (c1:Walk) {c1b:Nat} (c1F:F c1b) (c1h:w0.heap[c1b]?=some (.cells ((bh c1)).toArray 221 (0,0))) (a0:Int) :
    Calls y6 391 #[.int .i64 a0,zp c0b,zp c1b] w0 (aw y6 aK n (D.mA j z6 c0 c1 a0) F w0):=by
 refine kN Tryz.func391 rfl 13 rfl rfl fun fr r hB=>?_;have lc0b:=q7 c0h
 have lc1b:=q7 c1h;refine wsr ?_;refine ah (.cells (kq aK) 224 (0,0)) r (fun R=>ag cA) rfl fun fr b1 w2 n3 r=>?_;have c0h:=keep n3.below c0h
 have c1h:=keep n3.below c1h;obtain ⟨E1,Z2,H1,hB,zB⟩:=n3.all hB;refine wn (wsr (kL (U c0) r rfl c0h to34 rfl rfl fun r=>kF 0 r rfl eV rfl fun r=>?_));refine aJ (.cells ((bh ({ c1 with cur:=c0 }))).toArray 221 (0,0)) r (fun R=>bb r (o:=11) (v:=(U c0)) rfl rfl c1h ts34 r9 rfl rfl) rfl fun fr w4 u5 r=>?_
 have Z4:=u5.size;have c0h:=u5.keep c0h (iS c0h c1h rfl);have H1:=u5.keep H1 kw
 have c1h:=u5.at_;have hB:=Chg.aT (Z:=F) hB;have hB:=hB.bm u5 (.inr c1F);have zB:=hB.size;obtain ⟨zs6,ezs6⟩:∃ z,z=({ c1 with cur:=c0 }):=⟨_,rfl⟩
 rw [←ezs6] at c1h
 refine wn (a9 ?_);refine bN 5 [.val (u7 (bh zs6)),.val (U c0),.val (I (D.aW c0)),.val (u7 (bh zs6)),.val (.func (.func 249) #[(u7 (bh zs6))] #[])] mixed r kz (kV (kV (kV (kV (kV bM))))) ?_ ?_
 ·
  refine ec r (fun _ u _ b d s=>aX s (cs:=(bh zs6)) (n:=14) rfl (keep b c1h) dB rfl bz) (ec r (fun _ u _ b d s=>av s rfl (keep b c0h) to34 rfl bz) (ec r (fun fr1 u w' hb' hd r'=>aP r' (args:=[(U c0)]) (lc hd.1 l0) cl88 ((fM _ c0).mono yab)) (ec r (fun _ u _ b d s=>aX s (cs:=(bh zs6)) (n:=14) rfl (keep b c1h) dB rfl bz) (ec r (fun fr1 u w' hb' hd r'=>aZ r' (v:=(.func (.func 249) #[(u7 (bh zs6))] #[])) (congrArg (fun z=>Value.func (.func 249) #[z] #[]) hd.1) bz) ?_))));exact bO
 intro fr u w7 hb hΦ hne r;have r:=r.congr (sc (hΦ 4 ke) (sc (hΦ 3 ke) (sc (hΦ 2 ke) (sc (hΦ 1 ke) (sc (hΦ 0 ke) rfl)))));have Z7:=hb.size;have c0h:=keep hb c0h;have c1h:=keep hb c1h;have H1:=keep hb H1;have hB:=hB.thenB hb;have zB:=hB.size;have hF1:=cu hF hB.size b1;refine kJ r (mW (F:=(kW F w0 w7 b1)) (n:=n) hF1 zs6 1 (D.aW c0) ⟨249,[(u7 (bh zs6))],[],rR,rfl,fun m hm _ w' hs hz=>(E3 m kw) _ _ (fun b hb=>q8 (hF1 b hb) hz) zs6⟩) rfl oX rfl fun w8 v9 hb hr10 r=>?_;have Z8:=hb.size
 have H1:=bc hb H1 yaa
 have hB:=hB.bn hb yad
 have zB:=hB.size;refine kP r hr10.shape rfl rfl H1 bY rfl rfl fun w11 u12 r=>?_;have Z11:=u12.size
 have H1:=u12.at_;have hB:=hB.bm u12 (.inl kw)
 have zB:=hB.size;refine wn (d9 ?_);have hd:D.mA j z6 c0 c1 a0=(D.fK zs6 1 (D.aW c0) (fun _=>(z6 zs6))):=by subst ezs6; exact rfl
 have hs:=hr10.shape.cells;refine ak r rfl rfl H1 (k:=20) hs.1 bZ ?_;rw [←hs.2.2,hd];exact aw.fin hB hr10 u12 yac yaa kw kw kw
theorem Bg {z6:Walk→T Walk} (hF:kH F w0) (hj:n<j) (E3:∀ m,m≤n→dC z6 m)
    (c0:Seat) {c0b:Nat} (c0F:F c0b) (c0h:w0.heap[c0b]?=some (.cells ((bC c0)).toArray 47 (0,0))) (c1:Int) {c1b:Nat} (c1F:F c1b) (c1h:w0.heap[c1b]?=some (.cells ([(.int .i64 c1)]).toArray 3 (0,0))) (c2:Int) {c2b:Nat} (c2F:F c2b) (c2h:w0.heap[c2b]?=some (.cells ([(.int .u64 c2)]).toArray 34 (0,0))) (a0:Int) :
    Calls y6 248 #[.int .u64 a0,zp c0b,zp c1b,zp c2b] w0 (aw y6 aK n (D.uf j z6 c0 c1 c2 a0) F w0):=by
 refine kN Tryz.func248 rfl 13 rfl rfl fun fr r hB=>?_;have lc0b:=q7 c0h
 have lc1b:=q7 c1h;have lc2b:=q7 c2h;refine wsr ?_;refine ah (.cells (kq aK) 224 (0,0)) r (fun R=>ag cA) rfl fun fr b1 w2 n3 r=>?_;obtain ⟨E1,Z2,H1,hB,zB⟩:=n3.all hB
 refine wn (wsr (kG (bC c0) 8 r rfl (keep hB c0h) ta47 rfl rfl fun r=>kL (I c1) r rfl (keep hB c1h) to3 rfl rfl fun r=>kL (U c2) r rfl (keep hB c2h) to34 rfl rfl fun r=>kL (I c1) r rfl (keep hB c1h) to3 rfl rfl fun r=>kM (U a0) r rfl rfl fun r=>kU (u7 (bh (⟨c0,c1,c2,c1,a0,0,false⟩:Walk))) r kz rfl fun r=>?_));refine kJ r ((E3 n kw) (No) _ (fun _ h=>h.elim) (⟨c0,c1,c2,c1,a0,0,false⟩:Walk)) rfl rR rfl fun w4 v5 hb hr6 r=>?_
 have hb:=hb.below;have Z4:=hb.size;have H1:=keep hb H1;obtain ⟨hB,zB⟩:=bon hb hB;refine kP r hr6.shape rfl rfl H1 bY rfl rfl fun w7 u8 r=>?_;have Z7:=u8.size
 have H1:=u8.at_;obtain ⟨hB,zB⟩:=u8.on hB kw
 refine wn (d9 ?_);have hs:=hr6.shape.cells;refine ak r rfl rfl H1 (k:=20) hs.1 bZ ?_;rw [←hs.2.2];exact aw.fin (Chg.aT hB) hr6 u8 (fun _ h=>h.elim) (fun h=>h) kw kw kw
theorem nC {z6:Walk→T Walk} (hF:kH F w0) (hj:n<j) (E3:∀ m,m<n→dC z6 m)
    (a0:Seat) (a1:Int) (a2:Int) :
    Calls y6 158 #[u7 (bC a0),.int .i64 a1,.int .u64 a2] w0 (aw y6 aK n (D.jA j z6 a0 a1 a2) F w0):=by
 refine kN Tryz.func158 rfl 15 rfl rfl fun fr r hB=>?_;refine wsr ?_
 refine kX 47 (u7 (bC a0)) r rfl rfl fun b1 w2 n3 r=>?_;obtain ⟨E1,Z2,H1,hB,zB⟩:=n3.all hB
 refine kX 3 (I a1) r rfl rfl fun b4 w5 n6 r=>?_;have H1:=keep n6.below H1
 obtain ⟨E4,Z5,H4,hB,zB⟩:=n6.all hB;refine kX 34 (U a2) r rfl rfl fun b7 w8 n9 r=>?_;have H1:=keep n9.below H1
 have H4:=keep n9.below H4;obtain ⟨E7,Z8,H7,hB,zB⟩:=n9.all hB;refine ah (.cells (kq aK) 224 (0,0)) r (fun R=>ag cA) rfl fun fr b10 w11 n12 r=>?_;have H1:=keep n12.below H1
 have H4:=keep n12.below H4;have H7:=keep n12.below H7;obtain ⟨E10,Z11,H10,hB,zB⟩:=n12.all hB;refine wn (wsr (kF 0 r rfl dJ rfl fun r=>kG (ae a0.p) 6 r rfl H1 ta23 rfl rfl fun r=>kF 0 r rfl iV rfl fun r=>kL (I a0.thread) r rfl H1 to3 rfl rfl fun r=>kL (I a1) r rfl H4 to3 rfl rfl fun r=>?_));refine kD r (AW (j:=j) (F:=No) (n:=n) (fun _ h=>h.elim) kw a0.p a0.thread 1 a1 1 yaw) rfl Gx rfl fun w13 v14 hb hr15 r=>?_
 have hr15:=hr15.loud;have Z13:=hb.size;have H1:=keep hb H1;have H4:=keep hb H4;have H7:=keep hb H7;have H10:=keep hb H10;obtain ⟨hB,zB⟩:=bon hb hB;refine aa (.func (.func 248) #[] #[zp b1,zp b4,zp b7]) r (fun R=>aZ r rfl) rfl fun fr r=>?_;have hF1:∀ b,(kW F w0 w11 b10) b→b<w13.heap.size:=by rintro b (h | ⟨_,h,_⟩); exact q8 (hF b h) hB.size; exact q8 h kw
 have f19:((kW F w0 w11 b10)) b1:=(.inr ⟨kw,kw,kw⟩)
 have f20:((kW F w0 w11 b10)) b4:=(.inr ⟨kw,kw,kw⟩)
 have f21:((kW F w0 w11 b10)) b7:=(.inr ⟨kw,kw,kw⟩)
 have hF2:=cu hF hB.size b10;refine kJ r (yf (F:=(kW F w0 w13 b10)) (F2:=(kW F w0 w11 b10)) (n:=n) hF2 yan yah yai (RepL.mono (F':=fun b=>w11.heap.size≤b∧b<w13.heap.size) yam (Same.refl _ _) (Nat.le_refl _) n _ _ hr15) ⟨248,[],[zp b1,zp b4,zp b7],FB,rfl,fun m hm x w' hs hz=>Bg (j:=j) (fun b hb=>q8 (hF1 b hb) hz) kw (fun m' hm'=>E3 m' kw) a0 f19 (hs.at_ f19 H1) a1 f20 (hs.at_ f20 H4) a2 f21 (hs.at_ f21 H7) x⟩ (by first | rfl | (cases j with | zero=>omega | succ q=>rfl))) rfl xL rfl fun w16 v17 hb hr18 r=>?_
 have Z16:=hb.size;have H10:=bc hb H10 yaa
 have hB:=Chg.aT (Z:=F) hB;have hB:=hB.bn hb yad
 have zB:=hB.size;refine kP r hr18.shape rfl rfl H10 bY rfl rfl fun w22 u23 r=>?_;have Z22:=u23.size
 have H10:=u23.at_;have hB:=hB.bm u23 (.inl kw)
 have zB:=hB.size;refine wn (d9 ?_);have hs:=hr18.shape.cells;refine ak r rfl rfl H10 (k:=20) hs.1 bZ ?_;rw [←hs.2.2];exact aw.fin hB hr18 u23 yac yaa kw kw kw
theorem mQ {z6:Walk→T Walk} (hF:kH F w0) (hj:n<j) (E3:∀ m,m<n→dC z6 m)
    (a0:Walk) :
    Calls y6 253 #[u7 (bh a0)] w0 (aw y6 aK n (D.fJ j z6 a0) F w0):=by
 refine kN Tryz.func253 rfl 10 rfl rfl fun fr r hB=>?_;refine wsr ?_
 refine kX 221 (u7 (bh a0)) r rfl rfl fun b1 w2 n3 r=>?_;obtain ⟨E1,Z2,H1,hB,zB⟩:=n3.all hB
 refine ah (.cells (kq aK) 224 (0,0)) r (fun R=>ag cA) rfl fun fr b4 w5 n6 r=>?_;have H1:=keep n6.below H1
 obtain ⟨E4,Z5,H4,hB,zB⟩:=n6.all hB;refine wn (wsr (kF 0 r rfl gR rfl fun r=>kG (bC a0.seat) 8 r rfl H1 ta47 rfl rfl fun r=>kF 0 r rfl Du rfl fun r=>kL (I a0.cell) r rfl H1 to3 rfl rfl fun r=>kF 0 r rfl qV rfl fun r=>kL (U a0.k) r rfl H1 to34 rfl rfl fun r=>?_));refine kJ r (nC (j:=j) (F:=No) (n:=n) (fun _ h=>h.elim) kw (fun m' hm'=>E3 m' kw) a0.seat a0.cell a0.k) rfl oT rfl fun w7 v8 hb hr9 r=>?_
 have hb:=hb.below;have Z7:=hb.size;have H1:=keep hb H1;have H4:=keep hb H4;obtain ⟨hB,zB⟩:=bon hb hB;refine kP r hr9.shape rfl rfl H4 bY rfl rfl fun w10 u11 r=>?_;have Z10:=u11.size
 have H1:=u11.keep H1 kw
 have H4:=u11.at_;obtain ⟨hB,zB⟩:=u11.on hB kw
 refine wn (d9 ?_);have hs:=hr9.shape.cells;refine ak r rfl rfl H4 (k:=20) hs.1 bZ ?_;rw [←hs.2.2];exact aw.fin (Chg.aT hB) hr9 u11 (fun _ h=>h.elim) (fun h=>h) kw kw kw
theorem yA {z6:Walk→T Walk} (hF:kH F w0) (hj:n<j) (E3:∀ m,m<n→dC z6 m)
    (c0:Walk) {c0b:Nat} (c0F:F c0b) (c0h:w0.heap[c0b]?=some (.cells ((bh c0)).toArray 221 (0,0))) (c1:Int) {c1b:Nat} (c1F:F c1b) (c1h:w0.heap[c1b]?=some (.cells ([(.int .i64 c1)]).toArray 3 (0,0))) (c2:Int) {c2b:Nat} (c2F:F c2b) (c2h:w0.heap[c2b]?=some (.cells ([(.int .u64 c2)]).toArray 34 (0,0))) (a0:Bool) :
    Calls y6 389 #[.bool a0,zp c0b,zp c1b,zp c2b] w0 (aw y6 aK n (D.mD j z6 c0 c1 c2 a0) F w0):=by
 refine kN Tryz.func389 rfl 20 rfl rfl fun fr r hB=>?_;have lc0b:=q7 c0h
 have lc1b:=q7 c1h;have lc2b:=q7 c2h;refine wsr ?_;refine ah (.cells (kq aK) 224 (0,0)) r (fun R=>ag cA) rfl fun fr b1 w2 n3 r=>?_;have c0h:=keep n3.below c0h
 have c1h:=keep n3.below c1h;have c2h:=keep n3.below c2h;obtain ⟨E1,Z2,H1,hB,zB⟩:=n3.all hB;refine wn (a9 (wsr (kM (.bool a0) r rfl rfl fun r=>aa (.bool (!a0)) r (fun R=>y_un r (u:=(.bool a0)) rfl rfl) rfl fun fr r=>wn ?_)));refine q4 (t:=(!a0)) (r.ev rfl) (fun h4=>?_) (fun h4=>?_)
 ·
  refine wsr (kG (bh c0) 14 r rfl c0h dB rfl rfl fun r=>?_);refine kJ r (mQ (j:=j) (F:=No) (n:=n) (fun _ h=>h.elim) kw (fun m' hm'=>E3 m' kw) c0) rfl oL rfl fun w5 v6 hb hr7 r=>?_
  have hb:=hb.below;have Z5:=hb.size;have c0h:=keep hb c0h;have c1h:=keep hb c1h;have c2h:=keep hb c2h;have H1:=keep hb H1;obtain ⟨hB,zB⟩:=bon hb hB;refine kP r hr7.shape rfl rfl H1 bY rfl rfl fun w8 u9 r=>?_;have Z8:=u9.size
  have c0h:=u9.keep c0h kw
  have c1h:=u9.keep c1h kw
  have c2h:=u9.keep c2h kw
  have H1:=u9.at_;obtain ⟨hB,zB⟩:=u9.on hB kw
  refine wn (d9 ?_);have hd:D.mD j z6 c0 c1 c2 a0=(D.fJ j z6 c0):=(ar h4).trans (rfl);have hs:=hr7.shape.cells;refine ak r rfl rfl H1 (k:=20) hs.1 bZ ?_;rw [←hs.2.2,hd];exact aw.fin (Chg.aT hB) hr7 u9 (fun _ h=>h.elim) (fun h=>h) kw kw kw
 refine q6 (wsr (kF 0 r rfl gR rfl fun r=>kF 0 r rfl dJ rfl fun r=>kG (ae c0.seat.p) 6 r rfl c0h ta23 rfl rfl fun r=>kF 0 r rfl gR rfl fun r=>kF 0 r rfl iV rfl fun r=>kL (I c0.seat.thread) r rfl c0h to3 rfl rfl fun r=>kL (I c1) r rfl c1h to3 rfl rfl fun r=>?_));refine kD r (tE (j:=j) (F:=No) (n:=n) (fun _ h=>h.elim) kw c0.seat.p c0.seat.thread c1) rfl xF rfl fun w10 v11 hb hr12 r=>?_
 have hr12:=hr12.loud;have Z10:=hb.size;have c0h:=keep hb c0h;have c1h:=keep hb c1h;have c2h:=keep hb c2h;have H1:=keep hb H1;obtain ⟨hB,zB⟩:=bon hb hB;refine aa (.func (.func 391) #[] #[zp c2b,zp c0b]) r (fun R=>aZ r rfl) rfl fun fr r=>?_;have hF1:∀ b,(kW F w0 w2 b1) b→b<w10.heap.size:=by rintro b (h | ⟨_,h,_⟩); exact q8 (hF b h) hB.size; exact q8 h kw
 have f16:((kW F w0 w2 b1)) c2b:=(.inl c2F);have f17:((kW F w0 w2 b1)) c0b:=(.inl c0F);have hF2:=cu hF hB.size b1;refine kJ r (yq (F:=(kW F w0 w10 b1)) (F2:=(kW F w0 w2 b1)) (n:=n) hF2 yan yah yai (RepL.mono (F':=fun b=>w2.heap.size≤b∧b<w10.heap.size) yam (Same.refl _ _) (Nat.le_refl _) n _ _ hr12) ⟨391,[],[zp c2b,zp c0b],FP,rfl,fun m hm x w' hs hz=>yn (j:=j) (fun b hb=>q8 (hF1 b hb) hz) kw (fun m' hm'=>E3 m' kw) c2 f16 (hs.at_ f16 c2h) c0 f17 (hs.at_ f17 c0h) x⟩) rfl wQ rfl fun w13 v14 hb hr15 r=>?_
 have Z13:=hb.size;have H1:=bc hb H1 yaa
 have hB:=Chg.aT (Z:=F) hB;have hB:=hB.bn hb yad
 have zB:=hB.size;refine kP r hr15.shape rfl rfl H1 bY rfl rfl fun w18 u19 r=>?_;have Z18:=u19.size
 have H1:=u19.at_;have hB:=hB.bm u19 (.inl kw)
 have zB:=hB.size;refine wn (d9 ?_);have hd:D.mD j z6 c0 c1 c2 a0=(T.bind (D.gG j c0.seat.p c0.seat.thread c1) (fun x=>(D.mA j z6 c2 c0 x))):=(ai h4).trans (rfl)
 have hs:=hr15.shape.cells;refine ak r rfl rfl H1 (k:=20) hs.1 bZ ?_;rw [←hs.2.2,hd];exact aw.fin hB hr15 u19 yac yaa kw kw kw
theorem ze {z6:Walk→T Walk} (hF:kH F w0) (hj:n<j) (E3:∀ m,m<n→dC z6 m)
    (a0:Walk) (a1:Int) :
    Calls y6 367 #[u7 (bh a0),.int .i64 a1] w0 (aw y6 aK n (D.pw j z6 a0 a1) F w0):=by
 refine kN Tryz.func367 rfl 16 rfl rfl fun fr r hB=>?_;refine wsr ?_
 refine kX 221 (u7 (bh a0)) r rfl rfl fun b1 w2 n3 r=>?_;obtain ⟨E1,Z2,H1,hB,zB⟩:=n3.all hB
 refine kX 3 (I a1) r rfl rfl fun b4 w5 n6 r=>?_;have H1:=keep n6.below H1
 obtain ⟨E4,Z5,H4,hB,zB⟩:=n6.all hB;refine ah (.cells (kq aK) 224 (0,0)) r (fun R=>ag cA) rfl fun fr b7 w8 n9 r=>?_;have H1:=keep n9.below H1
 have H4:=keep n9.below H4;obtain ⟨E7,Z8,H7,hB,zB⟩:=n9.all hB;refine wn (wsr (kF 0 r rfl gZ rfl fun r=>kL (U a0.next) r rfl H1 to34 rfl rfl fun r=>kB r rfl rfl rfl rfl rfl fun r=>?_));refine ah (.cells #[(U 0)] 34 (0,0)) r (fun R=>ag tz34) rfl fun fr b10 w11 n12 r=>?_
 have H1:=keep n12.below H1;have H4:=keep n12.below H4;have H7:=keep n12.below H7;obtain ⟨E10,Z11,H10,hB,zB⟩:=n12.all hB;refine aJ (.cells #[(U (cG .u64 a0.next 1))] 34 (0,0)) r (fun R=>bb r (o:=0) (v:=(U (cG .u64 a0.next 1))) rfl rfl H10 ts34 r9 rfl rfl) rfl fun fr w13 u14 r=>?_;have Z13:=u14.size
 have H1:=u14.keep H1 kw
 have H4:=u14.keep H4 kw
 have H7:=u14.keep H7 kw
 have H10:=u14.at_;obtain ⟨hB,zB⟩:=u14.on hB kw
 refine wn (wsr (kF 0 r rfl lM rfl fun r=>kL (I a0.place) r rfl H1 to3 rfl rfl fun r=>kF 0 r rfl eV rfl fun r=>kL (U a0.cur) r rfl H1 to34 rfl rfl fun r=>kL (U (cG .u64 a0.next 1)) r rfl H10 to34 rfl rfl fun r=>aa (.func (.func 389) #[] #[zp b1,zp b4,zp b10]) r (fun R=>aZ r rfl) rfl fun fr r=>?_));have hF1:=cu hF hB.size b7
 have f18:((kW F w0 w13 b7)) b1:=(.inr ⟨kw,kw,kw⟩)
 have f19:((kW F w0 w13 b7)) b4:=(.inr ⟨kw,kw,kw⟩)
 have f20:((kW F w0 w13 b7)) b10:=(.inr ⟨kw,kw,kw⟩)
 refine kJ r (zZ (F:=(kW F w0 w13 b7)) (n:=n) hF1 a0.place a0.cur (cG .u64 a0.next 1) ⟨389,[],[zp b1,zp b4,zp b10],Ev,rfl,fun m hm x w' hs hz=>yA (j:=j) (fun b hb=>q8 (hF1 b hb) hz) kw (fun m' hm'=>E3 m' kw) a0 f18 (hs.at_ f18 H1) a1 f19 (hs.at_ f19 H4) (cG .u64 a0.next 1) f20 (hs.at_ f20 H10) x⟩) rfl EU rfl fun w15 v16 hb hr17 r=>?_;have Z15:=hb.size
 have H7:=bc hb H7 yaa
 have hB:=Chg.aT (Z:=F) hB;have hB:=hB.bn hb yad
 have zB:=hB.size;refine kP r hr17.shape rfl rfl H7 bY rfl rfl fun w21 u22 r=>?_;have Z21:=u22.size
 have H7:=u22.at_;have hB:=hB.bm u22 (.inl kw)
 have zB:=hB.size;refine wn (d9 ?_);have hs:=hr17.shape.cells;refine ak r rfl rfl H7 (k:=20) hs.1 bZ ?_;rw [←hs.2.2];exact aw.fin hB hr17 u22 yac yaa kw kw kw
theorem yI {z6:Walk→T Walk} (hF:kH F w0) (hj:n<j) (E3:∀ m,m<n→dC z6 m)
    (c0:Walk) {c0b:Nat} (c0F:F c0b) (c0h:w0.heap[c0b]?=some (.cells ((bh c0)).toArray 221 (0,0))) (c1:Int) {c1b:Nat} (c1F:F c1b) (c1h:w0.heap[c1b]?=some (.cells ([(.int .i64 c1)]).toArray 3 (0,0))) (c2:Int) {c2b:Nat} (c2F:F c2b) (c2h:w0.heap[c2b]?=some (.cells ([(.int .u64 c2)]).toArray 34 (0,0))) (a0:Int) :
    Calls y6 366 #[.int .u64 a0,zp c0b,zp c1b,zp c2b] w0 (aw y6 aK n (D.il j z6 c0 c1 c2 a0) F w0):=by
 refine kN Tryz.func366 rfl 36 rfl rfl fun fr r hB=>?_;have lc0b:=q7 c0h
 have lc1b:=q7 c1h;have lc2b:=q7 c2h;refine wsr ?_;refine ah (.cells (kq aK) 224 (0,0)) r (fun R=>ag cA) rfl fun fr b1 w2 n3 r=>?_;have c0h:=keep n3.below c0h
 have c1h:=keep n3.below c1h;have c2h:=keep n3.below c2h;obtain ⟨E1,Z2,H1,hB,zB⟩:=n3.all hB;refine wn (a9 (wp_block (wsr (kM (U a0) r rfl rfl fun r=>kF 0 r rfl eV rfl fun r=>kL (U c0.cur) r rfl c0h to34 rfl rfl fun r=>kB r rfl rfl rfl rfl rfl fun r=>kA (.bool (a0 !=c0.cur)) r rfl rfl fun r=>wn ?_))));refine q4 (t:=(a0 !=c0.cur)) (r.ev rfl) (fun h4=>?_) (fun h4=>?_)
 ·
  refine wsr (kG (bh c0) 14 r rfl c0h dB rfl rfl fun r=>?_);refine kJ r (mQ (j:=j) (F:=No) (n:=n) (fun _ h=>h.elim) kw (fun m' hm'=>E3 m' kw) c0) rfl oL rfl fun w5 v6 hb hr7 r=>?_
  have hb:=hb.below;have Z5:=hb.size;have c0h:=keep hb c0h;have c1h:=keep hb c1h;have c2h:=keep hb c2h;have H1:=keep hb H1;obtain ⟨hB,zB⟩:=bon hb hB;refine kP r hr7.shape rfl rfl H1 bY rfl rfl fun w8 u9 r=>?_;have Z8:=u9.size
  have c0h:=u9.keep c0h kw
  have c1h:=u9.keep c1h kw
  have c2h:=u9.keep c2h kw
  have H1:=u9.at_;obtain ⟨hB,zB⟩:=u9.on hB kw
  refine wn (d9 ?_);have hd:D.il j z6 c0 c1 c2 a0=(D.fJ j z6 c0):=(ar h4).trans (rfl);have hs:=hr7.shape.cells;refine ak r rfl rfl H1 (k:=20) hs.1 bZ ?_;rw [←hs.2.2,hd];exact aw.fin (Chg.aT hB) hr7 u9 (fun _ h=>h.elim) (fun h=>h) kw kw kw
 refine wsr (kF 0 r rfl gZ rfl fun r=>kL (U c0.next) r rfl c0h to34 rfl rfl fun r=>kB r rfl rfl rfl rfl rfl fun r=>kB r rfl rfl rfl rfl rfl fun r=>kA (.bool ((cL .u64 c0.next 1) !=0)) r rfl rfl fun r=>wn ?_);refine q4 (t:=((cL .u64 c0.next 1) !=0)) (r.ev rfl) (fun h10=>?_) (fun h10=>?_)
 ·
  refine wsr (kG (bh c0) 14 r rfl c0h dB rfl rfl fun r=>kL (I c1) r rfl c1h to3 rfl rfl fun r=>?_);refine kJ r (ze (j:=j) (F:=No) (n:=n) (fun _ h=>h.elim) kw (fun m' hm'=>E3 m' kw) c0 c1) rfl FU rfl fun w11 v12 hb hr13 r=>?_
  have hb:=hb.below;have Z11:=hb.size;have c0h:=keep hb c0h;have c1h:=keep hb c1h;have c2h:=keep hb c2h;have H1:=keep hb H1;obtain ⟨hB,zB⟩:=bon hb hB;refine kP r hr13.shape rfl rfl H1 bY rfl rfl fun w14 u15 r=>?_;have Z14:=u15.size
  have c0h:=u15.keep c0h kw
  have c1h:=u15.keep c1h kw
  have c2h:=u15.keep c2h kw
  have H1:=u15.at_;obtain ⟨hB,zB⟩:=u15.on hB kw
  refine wn (d9 ?_);have hd:D.il j z6 c0 c1 c2 a0=(D.pw j z6 c0 c1):=(ai h4).trans ((ar h10).trans (rfl));have hs:=hr13.shape.cells;refine ak r rfl rfl H1 (k:=20) hs.1 bZ ?_;rw [←hs.2.2,hd];exact aw.fin (Chg.aT hB) hr13 u15 (fun _ h=>h.elim) (fun h=>h) kw kw kw
 refine wsr (kL (U c2) r rfl c2h to34 rfl rfl fun r=>kF 0 r rfl qV rfl fun r=>kL (U c0.k) r rfl c0h to34 rfl rfl fun r=>kB r rfl rfl rfl rfl rfl fun r=>kA (.bool (decide (c2≥c0.k))) r rfl rfl fun r=>wn ?_);refine q4 (t:=(decide (c2≥c0.k))) (r.ev rfl) (fun h16=>?_) (fun h16=>?_)
 ·
  refine wsr (kL (U c2) r rfl c2h to34 rfl rfl fun r=>kF 0 r rfl qV rfl fun r=>kL (U c0.k) r rfl c0h to34 rfl rfl fun r=>kB r rfl rfl rfl rfl rfl fun r=>kF 0 r rfl lL rfl fun r=>?_);refine aJ (.cells ((bh ({ c0 with there:=(c2==c0.k) }))).toArray 221 (0,0)) r (fun R=>bb r (o:=13) (v:=(.bool (c2==c0.k))) rfl rfl c0h ts4 r9 rfl rfl) rfl fun fr w17 u18 r=>?_
  have Z17:=u18.size;have c1h:=u18.keep c1h (iS c1h c0h rfl);have c2h:=u18.keep c2h (iS c2h c0h rfl);have H1:=u18.keep H1 kw
  have c0h:=u18.at_;have hB:=Chg.aT (Z:=F) hB;have hB:=hB.bm u18 (.inr c0F);have zB:=hB.size;obtain ⟨zs19,ezs19⟩:∃ z,z=({ c0 with there:=(c2==c0.k) }):=⟨_,rfl⟩
  rw [←ezs19] at c0h
  refine wn (wsr (kG (bh zs19) 14 r rfl c0h dB rfl rfl fun r=>?_));refine kJ r (sT (F:=No) (n:=n) (fun _ h=>h.elim) zs19) rfl xG rfl fun w20 v21 hb hr22 r=>?_
  have hb:=hb.below;have Z20:=hb.size;have c0h:=keep hb c0h;have c1h:=keep hb c1h;have c2h:=keep hb c2h;have H1:=keep hb H1;have hB:=hB.thenB hb;have zB:=hB.size;refine kP r hr22.shape rfl rfl H1 bY rfl rfl fun w23 u24 r=>?_;have Z23:=u24.size
  have c0h:=u24.keep c0h kw
  have c1h:=u24.keep c1h kw
  have c2h:=u24.keep c2h kw
  have H1:=u24.at_;have hB:=hB.bm u24 (.inl kw)
  have zB:=hB.size;refine wn (d9 ?_);have hd:D.il j z6 c0 c1 c2 a0=(D.je zs19):=by subst ezs19; exact (ai h4).trans ((ai h10).trans ((ar h16).trans (rfl)))
  have hs:=hr22.shape.cells;refine ak r rfl rfl H1 (k:=20) hs.1 bZ ?_;rw [←hs.2.2,hd];exact aw.fin hB hr22 u24 (fun _ h=>h.elim) (fun h=>h) kw kw kw
 refine q6 (wsr (kG (bh c0) 14 r rfl c0h dB rfl rfl fun r=>kL (I c1) r rfl c1h to3 rfl rfl fun r=>?_));refine kJ r (Az (j:=j) (F:=No) (n:=n) (fun _ h=>h.elim) kw (fun m' hm'=>E3 m' kw) c0 c1) rfl FV rfl fun w25 v26 hb hr27 r=>?_
 have hb:=hb.below;have Z25:=hb.size;have c0h:=keep hb c0h;have c1h:=keep hb c1h;have c2h:=keep hb c2h;have H1:=keep hb H1;obtain ⟨hB,zB⟩:=bon hb hB;refine kP r hr27.shape rfl rfl H1 bY rfl rfl fun w28 u29 r=>?_;have Z28:=u29.size
 have c0h:=u29.keep c0h kw
 have c1h:=u29.keep c1h kw
 have c2h:=u29.keep c2h kw
 have H1:=u29.at_;obtain ⟨hB,zB⟩:=u29.on hB kw
 refine wn (d9 ?_);have hd:D.il j z6 c0 c1 c2 a0=(D.jo j z6 c0 c1):=(ai h4).trans ((ai h10).trans ((ai h16).trans (rfl)));have hs:=hr27.shape.cells;refine ak r rfl rfl H1 (k:=20) hs.1 bZ ?_;rw [←hs.2.2,hd];exact aw.fin (Chg.aT hB) hr27 u29 (fun _ h=>h.elim) (fun h=>h) kw kw kw
theorem zr {z6:Walk→T Walk} (hF:kH F w0) (hj:n<j) (E3:∀ m,m<n→dC z6 m)
    (c0:Walk) {c0b:Nat} (c0F:F c0b) (c0h:w0.heap[c0b]?=some (.cells ((bh c0)).toArray 221 (0,0))) (c1:Int) {c1b:Nat} (c1F:F c1b) (c1h:w0.heap[c1b]?=some (.cells ([(.int .i64 c1)]).toArray 3 (0,0))) (a0:Int) :
    Calls y6 365 #[.int .u64 a0,zp c0b,zp c1b] w0 (aw y6 aK n (D.mP j z6 c0 c1 a0) F w0):=by
 refine kN Tryz.func365 rfl 9 rfl rfl fun fr r hB=>?_;have lc0b:=q7 c0h
 have lc1b:=q7 c1h;refine wsr ?_;refine kX 34 (U a0) r rfl rfl fun b1 w2 n3 r=>?_;have c0h:=keep n3.below c0h
 have c1h:=keep n3.below c1h;obtain ⟨E1,Z2,H1,hB,zB⟩:=n3.all hB;refine ah (.cells (kq aK) 224 (0,0)) r (fun R=>ag cA) rfl fun fr b4 w5 n6 r=>?_;have c0h:=keep n6.below c0h
 have c1h:=keep n6.below c1h;have H1:=keep n6.below H1;obtain ⟨E4,Z5,H4,hB,zB⟩:=n6.all hB;refine wn (wsr (kF 0 r rfl lM rfl fun r=>kL (I c0.place) r rfl c0h to3 rfl rfl fun r=>aa (.func (.func 366) #[] #[zp c0b,zp c1b,zp b1]) r (fun R=>aZ r rfl) rfl fun fr r=>?_));have hF1:=cu hF hB.size b4
 have f10:((kW F w0 w5 b4)) c0b:=(.inl c0F);have f11:((kW F w0 w5 b4)) c1b:=(.inl c1F);have f12:((kW F w0 w5 b4)) b1:=(.inr ⟨kw,kw,kw⟩)
 refine kJ r (mN (F:=(kW F w0 w5 b4)) (n:=n) hF1 c0.place ⟨366,[],[zp c0b,zp c1b,zp b1],Gj,rfl,fun m hm x w' hs hz=>yI (j:=j) (fun b hb=>q8 (hF1 b hb) hz) kw (fun m' hm'=>E3 m' kw) c0 f10 (hs.at_ f10 c0h) c1 f11 (hs.at_ f11 c1h) a0 f12 (hs.at_ f12 H1) x⟩) rfl oQ rfl fun w7 v8 hb hr9 r=>?_;have Z7:=hb.size
 have H4:=bc hb H4 yaa
 have hB:=Chg.aT (Z:=F) hB;have hB:=hB.bn hb yad
 have zB:=hB.size;refine kP r hr9.shape rfl rfl H4 bY rfl rfl fun w13 u14 r=>?_;have Z13:=u14.size
 have H4:=u14.at_;have hB:=hB.bm u14 (.inl kw)
 have zB:=hB.size;refine wn (d9 ?_);have hs:=hr9.shape.cells;refine ak r rfl rfl H4 (k:=20) hs.1 bZ ?_;rw [←hs.2.2];exact aw.fin hB hr9 u14 yac yaa kw kw kw
theorem zT {z6:Walk→T Walk} (hF:kH F w0) (hj:n<j) (E3:∀ m,m<n→dC z6 m)
    (a0:Walk) (a1:Int) :
    Calls y6 322 #[u7 (bh a0),.int .i64 a1] w0 (aw y6 aK n (D.j9 j z6 a0 a1) F w0):=by
 refine kN Tryz.func322 rfl 12 rfl rfl fun fr r hB=>?_;refine wsr ?_
 refine kX 221 (u7 (bh a0)) r rfl rfl fun b1 w2 n3 r=>?_;obtain ⟨E1,Z2,H1,hB,zB⟩:=n3.all hB
 refine kX 3 (I a1) r rfl rfl fun b4 w5 n6 r=>?_;have H1:=keep n6.below H1
 obtain ⟨E4,Z5,H4,hB,zB⟩:=n6.all hB;refine ah (.cells (kq aK) 224 (0,0)) r (fun R=>ag cA) rfl fun fr b7 w8 n9 r=>?_;have H1:=keep n9.below H1
 have H4:=keep n9.below H4;obtain ⟨E7,Z8,H7,hB,zB⟩:=n9.all hB;refine wn (wsr (kF 0 r rfl gR rfl fun r=>kF 0 r rfl dJ rfl fun r=>kG (ae a0.seat.p) 6 r rfl H1 ta23 rfl rfl fun r=>kL (I a1) r rfl H4 to3 rfl rfl fun r=>?_));refine kE r (eu w8 a0.seat.p a1 0) rfl cl89 rfl fun w10 hb r=>?_
 have Z10:=hb.size;have H1:=keep hb H1;have H4:=keep hb H4;have H7:=keep hb H7;obtain ⟨hB,zB⟩:=bon hb hB;refine aa (.func (.func 365) #[] #[zp b1,zp b4]) r (fun R=>aZ r rfl) rfl fun fr r=>?_;have hF1:=cu hF hB.size b7
 have f14:((kW F w0 w10 b7)) b1:=(.inr ⟨kw,kw,kw⟩)
 have f15:((kW F w0 w10 b7)) b4:=(.inr ⟨kw,kw,kw⟩)
 refine kJ r (mN (F:=(kW F w0 w10 b7)) (n:=n) hF1 (D.bo a0.seat.p a1 0) ⟨365,[],[zp b1,zp b4],Ec,rfl,fun m hm x w' hs hz=>zr (j:=j) (fun b hb=>q8 (hF1 b hb) hz) kw (fun m' hm'=>E3 m' kw) a0 f14 (hs.at_ f14 H1) a1 f15 (hs.at_ f15 H4) x⟩) rfl oQ rfl fun w11 v12 hb hr13 r=>?_;have Z11:=hb.size
 have H7:=bc hb H7 yaa
 have hB:=Chg.aT (Z:=F) hB;have hB:=hB.bn hb yad
 have zB:=hB.size;refine kP r hr13.shape rfl rfl H7 bY rfl rfl fun w16 u17 r=>?_;have Z16:=u17.size
 have H7:=u17.at_;have hB:=hB.bm u17 (.inl kw)
 have zB:=hB.size;refine wn (d9 ?_);have hs:=hr13.shape.cells;refine ak r rfl rfl H7 (k:=20) hs.1 bZ ?_;rw [←hs.2.2];exact aw.fin hB hr13 u17 yac yaa kw kw kw
theorem yF {z6:Walk→T Walk} (hF:kH F w0) (hj:n<j) (E3:∀ m,m<n→dC z6 m)
    (c0:Int) {c0b:Nat} (c0F:F c0b) (c0h:w0.heap[c0b]?=some (.cells ([(.int .u64 c0)]).toArray 34 (0,0))) (c1:Walk) {c1b:Nat} (c1F:F c1b) (c1h:w0.heap[c1b]?=some (.cells ((bh c1)).toArray 221 (0,0))) (c2:Int) {c2b:Nat} (c2F:F c2b) (c2h:w0.heap[c2b]?=some (.cells ([(.int .i64 c2)]).toArray 3 (0,0))) (a0:Int) :
    Calls y6 321 #[.int .u64 a0,zp c0b,zp c1b,zp c2b] w0 (aw y6 aK n (D.kg j z6 c0 c1 c2 a0) F w0):=by
 refine kN Tryz.func321 rfl 16 rfl rfl fun fr r hB=>?_;have lc0b:=q7 c0h
 have lc1b:=q7 c1h;have lc2b:=q7 c2h;refine wsr ?_;refine ah (.cells (kq aK) 224 (0,0)) r (fun R=>ag cA) rfl fun fr b1 w2 n3 r=>?_;have c0h:=keep n3.below c0h
 have c1h:=keep n3.below c1h;have c2h:=keep n3.below c2h;obtain ⟨E1,Z2,H1,hB,zB⟩:=n3.all hB;refine wn (a9 (wsr (kM (U a0) r rfl rfl fun r=>kL (U c0) r rfl c0h to34 rfl rfl fun r=>kB r rfl rfl rfl rfl rfl fun r=>wn ?_)));refine q4 (t:=(a0 !=c0)) (r.ev rfl) (fun h4=>?_) (fun h4=>?_)
 ·
  refine wsr (kG (bh c1) 14 r rfl c1h dB rfl rfl fun r=>?_);refine kJ r (mQ (j:=j) (F:=No) (n:=n) (fun _ h=>h.elim) kw (fun m' hm'=>E3 m' kw) c1) rfl oL rfl fun w5 v6 hb hr7 r=>?_
  have hb:=hb.below;have Z5:=hb.size;have c0h:=keep hb c0h;have c1h:=keep hb c1h;have c2h:=keep hb c2h;have H1:=keep hb H1;obtain ⟨hB,zB⟩:=bon hb hB;refine kP r hr7.shape rfl rfl H1 bY rfl rfl fun w8 u9 r=>?_;have Z8:=u9.size
  have c0h:=u9.keep c0h kw
  have c1h:=u9.keep c1h kw
  have c2h:=u9.keep c2h kw
  have H1:=u9.at_;obtain ⟨hB,zB⟩:=u9.on hB kw
  refine wn (d9 ?_);have hd:D.kg j z6 c0 c1 c2 a0=(D.fJ j z6 c1):=(ar h4).trans (rfl);have hs:=hr7.shape.cells;refine ak r rfl rfl H1 (k:=20) hs.1 bZ ?_;rw [←hs.2.2,hd];exact aw.fin (Chg.aT hB) hr7 u9 (fun _ h=>h.elim) (fun h=>h) kw kw kw
 refine q6 (wsr (kL (U c0) r rfl c0h to34 rfl rfl fun r=>kF 0 r rfl gZ rfl fun r=>?_));refine aJ (.cells ((bh ({ c1 with next:=c0 }))).toArray 221 (0,0)) r (fun R=>bb r (o:=12) (v:=(U c0)) rfl rfl c1h ts34 r9 rfl rfl) rfl fun fr w10 u11 r=>?_
 have Z10:=u11.size;have c0h:=u11.keep c0h (iS c0h c1h rfl);have c2h:=u11.keep c2h (iS c2h c1h rfl);have H1:=u11.keep H1 kw
 have c1h:=u11.at_;have hB:=Chg.aT (Z:=F) hB;have hB:=hB.bm u11 (.inr c1F);have zB:=hB.size;obtain ⟨zs12,ezs12⟩:∃ z,z=({ c1 with next:=c0 }):=⟨_,rfl⟩
 rw [←ezs12] at c1h
 refine wn (wsr (kG (bh zs12) 14 r rfl c1h dB rfl rfl fun r=>kL (I c2) r rfl c2h to3 rfl rfl fun r=>?_));refine kJ r (zT (j:=j) (F:=No) (n:=n) (fun _ h=>h.elim) kw (fun m' hm'=>E3 m' kw) zs12 c2) rfl Gt rfl fun w13 v14 hb hr15 r=>?_
 have hb:=hb.below;have Z13:=hb.size;have c0h:=keep hb c0h;have c1h:=keep hb c1h;have c2h:=keep hb c2h;have H1:=keep hb H1;have hB:=hB.thenB hb;have zB:=hB.size;refine kP r hr15.shape rfl rfl H1 bY rfl rfl fun w16 u17 r=>?_;have Z16:=u17.size
 have c0h:=u17.keep c0h kw
 have c1h:=u17.keep c1h kw
 have c2h:=u17.keep c2h kw
 have H1:=u17.at_;have hB:=hB.bm u17 (.inl kw)
 have zB:=hB.size;refine wn (d9 ?_);have hd:D.kg j z6 c0 c1 c2 a0=(D.j9 j z6 zs12 c2):=by subst ezs12; exact (ai h4).trans (rfl)
 have hs:=hr15.shape.cells;refine ak r rfl rfl H1 (k:=20) hs.1 bZ ?_;rw [←hs.2.2,hd];exact aw.fin hB hr15 u17 (fun _ h=>h.elim) (fun h=>h) kw kw kw
theorem yP {z6:Walk→T Walk} (hF:kH F w0) (hj:n<j) (E3:∀ m,m<n→dC z6 m)
    (c0:Int) {c0b:Nat} (c0F:F c0b) (c0h:w0.heap[c0b]?=some (.cells ([(.int .i64 c0)]).toArray 3 (0,0))) (c1:Int) {c1b:Nat} (c1F:F c1b) (c1h:w0.heap[c1b]?=some (.cells ([(.int .u64 c1)]).toArray 34 (0,0))) (c2:Walk) {c2b:Nat} (c2F:F c2b) (c2h:w0.heap[c2b]?=some (.cells ((bh c2)).toArray 221 (0,0))) (c3:Int) {c3b:Nat} (c3F:F c3b) (c3h:w0.heap[c3b]?=some (.cells ([(.int .i64 c3)]).toArray 3 (0,0))) :
    Calls y6 320 #[zp c0b,zp c1b,zp c2b,zp c3b] w0 (aw y6 aK n (D.km j z6 c0 c1 c2 c3) F w0):=by
 refine kN Tryz.func320 rfl 8 rfl rfl fun fr r hB=>?_;have lc0b:=q7 c0h
 have lc1b:=q7 c1h;have lc2b:=q7 c2h;have lc3b:=q7 c3h;refine wsr ?_;refine ah (.cells (kq aK) 224 (0,0)) r (fun R=>ag cA) rfl fun fr b1 w2 n3 r=>?_;have c0h:=keep n3.below c0h
 have c1h:=keep n3.below c1h;have c2h:=keep n3.below c2h;have c3h:=keep n3.below c3h;obtain ⟨E1,Z2,H1,hB,zB⟩:=n3.all hB;refine wn (wsr (kL (I c0) r rfl c0h to3 rfl rfl fun r=>aa (.func (.func 321) #[] #[zp c1b,zp c2b,zp c3b]) r (fun R=>aZ r rfl) rfl fun fr r=>?_));have hF1:=cu hF hB.size b1
 have f7:((kW F w0 w2 b1)) c1b:=(.inl c1F);have f8:((kW F w0 w2 b1)) c2b:=(.inl c2F);have f9:((kW F w0 w2 b1)) c3b:=(.inl c3F);refine kJ r (mN (F:=(kW F w0 w2 b1)) (n:=n) hF1 c0 ⟨321,[],[zp c1b,zp c2b,zp c3b],Gc,rfl,fun m hm x w' hs hz=>yF (j:=j) (fun b hb=>q8 (hF1 b hb) hz) kw (fun m' hm'=>E3 m' kw) c1 f7 (hs.at_ f7 c1h) c2 f8 (hs.at_ f8 c2h) c3 f9 (hs.at_ f9 c3h) x⟩) rfl oQ rfl fun w4 v5 hb hr6 r=>?_;have Z4:=hb.size
 have H1:=bc hb H1 yaa
 have hB:=Chg.aT (Z:=F) hB;have hB:=hB.bn hb yad
 have zB:=hB.size;refine kP r hr6.shape rfl rfl H1 bY rfl rfl fun w10 u11 r=>?_;have Z10:=u11.size
 have H1:=u11.at_;have hB:=hB.bm u11 (.inl kw)
 have zB:=hB.size;refine wn (d9 ?_);have hs:=hr6.shape.cells;refine ak r rfl rfl H1 (k:=20) hs.1 bZ ?_;rw [←hs.2.2];exact aw.fin hB hr6 u11 yac yaa kw kw kw
theorem zw {z6:Walk→T Walk} (hF:kH F w0) (hj:n<j) (E3:∀ m,m<n→dC z6 m)
    (c0:Walk) {c0b:Nat} (c0F:F c0b) (c0h:w0.heap[c0b]?=some (.cells ((bh c0)).toArray 221 (0,0))) (c1:Int) {c1b:Nat} (c1F:F c1b) (c1h:w0.heap[c1b]?=some (.cells ([(.int .i64 c1)]).toArray 3 (0,0))) (c2:Int) {c2b:Nat} (c2F:F c2b) (c2h:w0.heap[c2b]?=some (.cells ([(.int .i64 c2)]).toArray 3 (0,0))) (a0:Int) :
    Calls y6 318 #[.int .u64 a0,zp c0b,zp c1b,zp c2b] w0 (aw y6 aK n (D.mR j z6 c0 c1 c2 a0) F w0):=by
 refine kN Tryz.func318 rfl 11 rfl rfl fun fr r hB=>?_;have lc0b:=q7 c0h
 have lc1b:=q7 c1h;have lc2b:=q7 c2h;refine wsr ?_;refine kX 34 (U a0) r rfl rfl fun b1 w2 n3 r=>?_;have c0h:=keep n3.below c0h
 have c1h:=keep n3.below c1h;have c2h:=keep n3.below c2h;obtain ⟨E1,Z2,H1,hB,zB⟩:=n3.all hB;refine ah (.cells (kq aK) 224 (0,0)) r (fun R=>ag cA) rfl fun fr b4 w5 n6 r=>?_;have c0h:=keep n6.below c0h
 have c1h:=keep n6.below c1h;have c2h:=keep n6.below c2h;have H1:=keep n6.below H1;obtain ⟨E4,Z5,H4,hB,zB⟩:=n6.all hB;refine wn (a9 ?_);refine bN 4 [.val (u7 (bh c0)),.val (U a0),.val (I (D.aW a0)),.val (.func (.func 320) #[] #[zp c1b,zp b1,zp c0b,zp c2b])] mixed r kz (kV (kV (kV (kV bM)))) ?_ ?_
 ·
  refine ec r (fun _ u _ b d s=>aX s (cs:=(bh c0)) (n:=14) rfl (keep b c0h) dB rfl bz) (ec r (fun _ u _ b d s=>av s rfl (keep b H1) to34 rfl bz) (ec r (fun fr1 u w' hb' hd r'=>aP r' (args:=[(U a0)]) (lc hd.1 l0) cl88 ((fM _ a0).mono yab)) (ec r (fun _ u _ b d s=>aZ s (v:=(.func (.func 320) #[] #[zp c1b,zp b1,zp c0b,zp c2b])) rfl bz) ?_)));exact bO
 intro fr u w7 hb hΦ hne r;have r:=r.congr (sc (hΦ 3 ke) (sc (hΦ 2 ke) (sc (hΦ 1 ke) (sc (hΦ 0 ke) rfl))));have Z7:=hb.size;have c0h:=keep hb c0h;have c1h:=keep hb c1h;have c2h:=keep hb c2h;have H1:=keep hb H1;have H4:=keep hb H4;obtain ⟨hB,zB⟩:=bon hb hB;have hF1:=cu hF hB.size b4;have f11:((kW F w0 w7 b4)) c1b:=(.inl c1F);have f12:((kW F w0 w7 b4)) b1:=(.inr ⟨kw,kw,kw⟩)
 have f13:((kW F w0 w7 b4)) c0b:=(.inl c0F);have f14:((kW F w0 w7 b4)) c2b:=(.inl c2F);refine kJ r (mW (F:=(kW F w0 w7 b4)) (n:=n) hF1 c0 0 (D.aW a0) ⟨320,[],[zp c1b,zp b1,zp c0b,zp c2b],Gz,rfl,fun m hm _ w' hs hz=>yP (j:=j) (fun b hb=>q8 (hF1 b hb) hz) kw (fun m' hm'=>E3 m' kw) c1 f11 (hs.at_ f11 c1h) a0 f12 (hs.at_ f12 H1) c0 f13 (hs.at_ f13 c0h) c2 f14 (hs.at_ f14 c2h)⟩) rfl oX rfl fun w8 v9 hb hr10 r=>?_;have Z8:=hb.size
 have H4:=bc hb H4 yaa
 have hB:=Chg.aT (Z:=F) hB;have hB:=hB.bn hb yad
 have zB:=hB.size;refine kP r hr10.shape rfl rfl H4 bY rfl rfl fun w15 u16 r=>?_;have Z15:=u16.size
 have H4:=u16.at_;have hB:=hB.bm u16 (.inl kw)
 have zB:=hB.size;refine wn (d9 ?_);have hs:=hr10.shape.cells;refine ak r rfl rfl H4 (k:=20) hs.1 bZ ?_;rw [←hs.2.2];exact aw.fin hB hr10 u16 yac yaa kw kw kw
theorem Aj {n:Nat} {F:Nat→Prop} {j:Nat} {z6:Walk→T Walk} {w0:World} (hF:∀ b,F b→b<w0.heap.size) (hj:n<j) (E3:∀ m,m<n→dC z6 m)
    (a0:Walk) :
    Calls y6 249 #[u7 (bh a0)] w0 (aw y6 aK n (D.gk j z6 a0) F w0):=by
 refine kN Tryz.func249 rfl 21 rfl rfl fun fr r hB=>?_;refine wsr ?_
 refine kX 221 (u7 (bh a0)) r rfl rfl fun b1 w2 n3 r=>?_;obtain ⟨E1,Z2,H1,hB,zB⟩:=n3.all hB
 refine ah (.cells (kq aK) 224 (0,0)) r (fun R=>ag cA) rfl fun fr b4 w5 n6 r=>?_;have H1:=keep n6.below H1
 obtain ⟨E4,Z5,H4,hB,zB⟩:=n6.all hB;refine wn (wsr (kF 0 r rfl eV rfl fun r=>kL (U a0.cur) r rfl H1 to34 rfl rfl fun r=>?_));refine kE r (fM w5 a0.cur) rfl cl88 rfl fun w7 hb r=>?_
 have Z7:=hb.size;have H1:=keep hb H1;have H4:=keep hb H4;obtain ⟨hB,zB⟩:=bon hb hB;refine ah (.cells #[(I 0)] 3 (0,0)) r (fun R=>ag tz3) rfl fun fr b8 w9 n10 r=>?_;have H1:=keep n10.below H1
 have H4:=keep n10.below H4;obtain ⟨E8,Z9,H8,hB,zB⟩:=n10.all hB;refine aJ (.cells #[(I (D.aW a0.cur))] 3 (0,0)) r (fun R=>bb r (o:=0) (v:=(I (D.aW a0.cur))) rfl rfl H8 ts3 r9 rfl rfl) rfl fun fr w11 u12 r=>?_;have Z11:=u12.size
 have H1:=u12.keep H1 kw
 have H4:=u12.keep H4 kw
 have H8:=u12.at_;obtain ⟨hB,zB⟩:=u12.on hB kw
 refine wn (a9 (wsr (kL (I (D.aW a0.cur)) r rfl H8 to3 rfl rfl fun r=>kB r rfl rfl rfl rfl rfl fun r=>wn ?_)));refine q4 (t:=(decide ((D.aW a0.cur)<0))) (r.ev rfl) (fun h13=>?_) (fun h13=>?_)
 ·
  refine wsr (kF 0 r rfl lL rfl fun r=>?_);refine aJ (.cells ((bh ({ a0 with there:=false }))).toArray 221 (0,0)) r (fun R=>bb r (o:=13) (v:=(.bool false)) rfl rfl H1 ts4 r9 rfl rfl) rfl fun fr w14 u15 r=>?_
  have Z14:=u15.size;have H4:=u15.keep H4 kw
  have H8:=u15.keep H8 kw
  have H1:=u15.at_;obtain ⟨hB,zB⟩:=u15.on hB kw
  obtain ⟨zs16,ezs16⟩:∃ z,z=({ a0 with there:=false }):=⟨_,rfl⟩
  rw [←ezs16] at H1
  refine wn (wsr (kG (bh zs16) 14 r rfl H1 dB rfl rfl fun r=>?_));refine kJ r (sT (F:=No) (n:=n) (fun _ h=>h.elim) zs16) rfl xG rfl fun w17 v18 hb hr19 r=>?_
  have hb:=hb.below;have Z17:=hb.size;have H1:=keep hb H1;have H4:=keep hb H4;have H8:=keep hb H8;obtain ⟨hB,zB⟩:=bon hb hB;refine kP r hr19.shape rfl rfl H4 bY rfl rfl fun w20 u21 r=>?_;have Z20:=u21.size
  have H1:=u21.keep H1 kw
  have H8:=u21.keep H8 kw
  have H4:=u21.at_;obtain ⟨hB,zB⟩:=u21.on hB kw
  refine wn (d9 ?_);have hd:D.gk j z6 a0=(D.je zs16):=by subst ezs16; exact (ar h13).trans (rfl)
  have hs:=hr19.shape.cells;refine ak r rfl rfl H4 (k:=20) hs.1 bZ ?_;rw [←hs.2.2,hd];exact aw.fin (Chg.aT hB) hr19 u21 (fun _ h=>h.elim) (fun h=>h) kw kw kw
 refine q6 (wsr (kF 0 r rfl gR rfl fun r=>kF 0 r rfl dJ rfl fun r=>kG (ae a0.seat.p) 6 r rfl H1 ta23 rfl rfl fun r=>kL (I (D.aW a0.cur)) r rfl H8 to3 rfl rfl fun r=>?_));refine kE r (eu w11 a0.seat.p (D.aW a0.cur) 2) rfl cl89 rfl fun w22 hb r=>?_
 have Z22:=hb.size;have H1:=keep hb H1;have H4:=keep hb H4;have H8:=keep hb H8;obtain ⟨hB,zB⟩:=bon hb hB;refine ah (.cells #[(I 0)] 3 (0,0)) r (fun R=>ag tz3) rfl fun fr b23 w24 n25 r=>?_;have H1:=keep n25.below H1
 have H4:=keep n25.below H4;have H8:=keep n25.below H8;obtain ⟨E23,Z24,H23,hB,zB⟩:=n25.all hB;refine aJ (.cells #[(I (D.bo a0.seat.p (D.aW a0.cur) 2))] 3 (0,0)) r (fun R=>bb r (o:=0) (v:=(I (D.bo a0.seat.p (D.aW a0.cur) 2))) rfl rfl H23 ts3 r9 rfl rfl) rfl fun fr w26 u27 r=>?_;have Z26:=u27.size
 have H1:=u27.keep H1 kw
 have H4:=u27.keep H4 kw
 have H8:=u27.keep H8 kw
 have H23:=u27.at_;obtain ⟨hB,zB⟩:=u27.on hB kw
 refine wn (wsr (kL (I (D.bo a0.seat.p (D.aW a0.cur) 2)) r rfl H23 to3 rfl rfl fun r=>aa (.func (.func 318) #[] #[zp b1,zp b23,zp b8]) r (fun R=>aZ r rfl) rfl fun fr r=>?_));have hF1:=cu hF hB.size b4
 have f31:((kW F w0 w26 b4)) b1:=(.inr ⟨kw,kw,kw⟩)
 have f32:((kW F w0 w26 b4)) b23:=(.inr ⟨kw,kw,kw⟩)
 have f33:((kW F w0 w26 b4)) b8:=(.inr ⟨kw,kw,kw⟩)
 refine kJ r (mN (F:=(kW F w0 w26 b4)) (n:=n) hF1 (D.bo a0.seat.p (D.aW a0.cur) 2) ⟨318,[],[zp b1,zp b23,zp b8],Gr,rfl,fun m hm x w' hs hz=>zw (j:=j) (fun b hb=>q8 (hF1 b hb) hz) kw (fun m' hm'=>E3 m' kw) a0 f31 (hs.at_ f31 H1) (D.bo a0.seat.p (D.aW a0.cur) 2) f32 (hs.at_ f32 H23) (D.aW a0.cur) f33 (hs.at_ f33 H8) x⟩) rfl oQ rfl fun w28 v29 hb hr30 r=>?_;have Z28:=hb.size
 have H4:=bc hb H4 yaa
 have hB:=Chg.aT (Z:=F) hB;have hB:=hB.bn hb yad
 have zB:=hB.size;refine kP r hr30.shape rfl rfl H4 bY rfl rfl fun w34 u35 r=>?_;have Z34:=u35.size
 have H4:=u35.at_;have hB:=hB.bm u35 (.inl kw)
 have zB:=hB.size;refine wn (d9 ?_);have hd:D.gk j z6 a0=(D.iB (D.bo a0.seat.p (D.aW a0.cur) 2) (fun x=>(D.mR j z6 a0 (D.bo a0.seat.p (D.aW a0.cur) 2) (D.aW a0.cur) x))):=(ai h13).trans (rfl)
 have hs:=hr30.shape.cells;refine ak r rfl rfl H4 (k:=20) hs.1 bZ ?_;rw [←hs.2.2,hd];exact aw.fin hB hr30 u35 yac yaa kw kw kw
theorem mI {n:Nat} {j:Nat} (hj:n<j) {k:Nat} (hk:n<k):dC (D.di j k) n:=by
 induction n using Nat.strongRecOn generalizing k with
 | _ n ih=>
  obtain ⟨k,rfl⟩:∃ q,k=q+1:=⟨k - 1,kw⟩
  intro F w0 hF;have h:=@Aj n F j (D.di j k) w0 hF hj (fun m hm=>ih m hm kw kw)
  exact h
def D.pS (a0:Int):T Res:=(D.lz 7)
theorem Ab (hF:kH F w0)
    (a0:Int) :
    Calls y6 241 #[.int .i64 a0] w0 (aw y6 aA n (D.pS a0) F w0):=by
 refine kN Tryz.func241 rfl 4 rfl rfl fun fr r hB=>?_;refine wsr ?_
 refine ah (.cells (kq aA) 41 (0,0)) r (fun R=>ag tz41) rfl fun fr b1 w2 n3 r=>?_;obtain ⟨E1,Z2,H1,hB,zB⟩:=n3.all hB
 refine wn (wsr ?_);refine kJ r (tY (F:=No) (n:=n) (fun _ h=>h.elim) 7) rfl wT rfl fun w4 v5 hb hr6 r=>?_;have hb:=hb.below
 have Z4:=hb.size;have H1:=keep hb H1;obtain ⟨hB,zB⟩:=bon hb hB;refine kP r hr6.shape rfl rfl H1 ts41 rfl rfl fun w7 u8 r=>?_;have Z7:=u8.size
 have H1:=u8.at_;obtain ⟨hB,zB⟩:=u8.on hB kw
 refine wn (d9 ?_);have hs:=hr6.shape.cells;refine ak r rfl rfl H1 (k:=8) hs.1 ta41 ?_;rw [←hs.2.2];exact aw.fin (Chg.aT hB) hr6 u8 (fun _ h=>h.elim) (fun h=>h) kw kw kw
def D.li (j:Nat) (c0:Seat) (c1:Int):T Res:=(T.bind (D.ji j c0.p c1) (fun x=>(D.pS x)))
theorem Av (hF:kH F w0) (hj:n<j)
    (c0:Seat) {c0b:Nat} (c0F:F c0b) (c0h:w0.heap[c0b]?=some (.cells ((bC c0)).toArray 47 (0,0))) (c1:Int) {c1b:Nat} (c1F:F c1b) (c1h:w0.heap[c1b]?=some (.cells ([(.int .i64 c1)]).toArray 3 (0,0))) :
    Calls y6 239 #[.agg #[],zp c0b,zp c1b] w0 (aw y6 aA n (D.li j c0 c1) F w0):=by
 refine kN Tryz.func239 rfl 10 rfl rfl fun fr r hB=>?_;have lc0b:=q7 c0h
 have lc1b:=q7 c1h;refine wsr ?_;refine kX 128 (.agg #[]) r rfl rfl fun b1 w2 n3 r=>?_;have c0h:=keep n3.below c0h
 have c1h:=keep n3.below c1h;obtain ⟨E1,Z2,H1,hB,zB⟩:=n3.all hB;refine ah (.cells (kq aA) 41 (0,0)) r (fun R=>ag tz41) rfl fun fr b4 w5 n6 r=>?_;have c0h:=keep n6.below c0h
 have c1h:=keep n6.below c1h;have H1:=keep n6.below H1;obtain ⟨E4,Z5,H4,hB,zB⟩:=n6.all hB;refine wn (wsr (kF 0 r rfl dJ rfl fun r=>kG (ae c0.p) 6 r rfl c0h ta23 rfl rfl fun r=>kL (I c1) r rfl c1h to3 rfl rfl fun r=>?_));refine kD r (sX (j:=j) (F:=No) (n:=n) (fun _ h=>h.elim) kw c0.p c1) rfl xU rfl fun w7 v8 hb hr9 r=>?_
 have hr9:=hr9.loud;have Z7:=hb.size;have c0h:=keep hb c0h;have c1h:=keep hb c1h;have H1:=keep hb H1;have H4:=keep hb H4;obtain ⟨hB,zB⟩:=bon hb hB;have hF1:∀ b,(kW F w0 w5 b4) b→b<w7.heap.size:=by rintro b (h | ⟨_,h,_⟩); exact q8 (hF b h) hB.size; exact q8 h kw
 have hF2:=cu hF hB.size b4;refine kJ r (sA (F:=(kW F w0 w7 b4)) (F2:=(kW F w0 w5 b4)) (n:=n) hF2 yan yah yai (RepL.mono (F':=fun b=>w5.heap.size≤b∧b<w7.heap.size) yam (Same.refl _ _) (Nat.le_refl _) n _ _ hr9) ⟨241,[],[],FA,rfl,fun m hm x w' hs hz=>Ab (fun b hb=>q8 (hF1 b hb) hz)  x⟩) rfl rO rfl fun w10 v11 hb hr12 r=>?_
 have Z10:=hb.size;have H4:=bc hb H4 yaa
 have hB:=Chg.aT (Z:=F) hB;have hB:=hB.bn hb yad
 have zB:=hB.size;refine kP r hr12.shape rfl rfl H4 ts41 rfl rfl fun w13 u14 r=>?_;have Z13:=u14.size
 have H4:=u14.at_;have hB:=hB.bm u14 (.inl kw)
 have zB:=hB.size;refine wn (d9 ?_);have hs:=hr12.shape.cells;refine ak r rfl rfl H4 (k:=8) hs.1 ta41 ?_;rw [←hs.2.2];exact aw.fin hB hr12 u14 yac yaa kw kw kw
def D.jx (a0:Int):Int:=(shlI .u64 (IntKind.u64.wrap (IntKind.i64.wrap (a0+1))) 1)
theorem BI (w0:World) 
    (a0:Int) :
    Calls y6 243 #[.int .i64 a0] w0 (bB (.int .u64 (D.jx a0)) w0):=by
 refine kN Tryz.func243 rfl 7 rfl rfl fun fr r hB=>?_;refine wsr (kA (U 0) r rfl rfl fun r=>wn (wsr (kM (I a0) r rfl rfl fun r=>kB r rfl rfl rfl rfl rfl fun r=>aa (U (V (W (a0+1)))) r (fun R=>cK r rfl ti3 ti34) rfl fun fr r=>kB r rfl rfl rfl (oh yaw) rfl fun r=>kA (U (shlI .u64 (V (W (a0+1))) 1)) r rfl rfl fun r=>wn (d9 ?_))))
 refine aU r rfl rfl ?_;exact ⟨rfl,hB⟩
def D.qc (c0:Res):T Res:=(D.qa c0)
theorem AB (hF:kH F w0)
    (c0:Res) {c0b:Nat} (c0F:F c0b) (c0h:w0.heap[c0b]?=some (.cells ((resC c0)).toArray 36 (0,0))) :
    Calls y6 250 #[.agg #[],zp c0b] w0 (aw y6 aA n (D.qc c0) F w0):=by
 refine kN Tryz.func250 rfl 6 rfl rfl fun fr r hB=>?_;have lc0b:=q7 c0h
 refine wsr ?_;refine kX 128 (.agg #[]) r rfl rfl fun b1 w2 n3 r=>?_;obtain ⟨E1,Z2,H1,hB,zB⟩:=n3.all hB
 refine ah (.cells (kq aA) 41 (0,0)) r (fun R=>ag tz41) rfl fun fr b4 w5 n6 r=>?_;have H1:=keep n6.below H1
 obtain ⟨E4,Z5,H4,hB,zB⟩:=n6.all hB;refine wn (wsr (kG (resC c0) 2 r rfl (keep hB c0h) ta36 rfl rfl fun r=>?_));refine kJ r (sV (F:=No) (n:=n) (fun _ h=>h.elim) c0) rfl cl15 rfl fun w7 v8 hb hr9 r=>?_
 have hb:=hb.below;have Z7:=hb.size;have H1:=keep hb H1;have H4:=keep hb H4;obtain ⟨hB,zB⟩:=bon hb hB;refine kP r hr9.shape rfl rfl H4 ts41 rfl rfl fun w10 u11 r=>?_;have Z10:=u11.size
 have H1:=u11.keep H1 kw
 have H4:=u11.at_;obtain ⟨hB,zB⟩:=u11.on hB kw
 refine wn (d9 ?_);have hs:=hr9.shape.cells;refine ak r rfl rfl H4 (k:=8) hs.1 ta41 ?_;rw [←hs.2.2];exact aw.fin (Chg.aT hB) hr9 u11 (fun _ h=>h.elim) (fun h=>h) kw kw kw
def D.eC (j:Nat) (a0:Seat) (a1:Res):T Res:=(T.bind (D.nG j a0.p a0.thread) (fun _=>(D.qc a1)))
theorem jm (hF:kH F w0) (hj:n<j)
    (a0:Seat) (a1:Res) :
    Calls y6 160 #[u7 (bC a0),u7 (resC a1)] w0 (aw y6 aA n (D.eC j a0 a1) F w0):=by
 refine kN Tryz.func160 rfl 12 rfl rfl fun fr r hB=>?_;refine wsr ?_
 refine kX 47 (u7 (bC a0)) r rfl rfl fun b1 w2 n3 r=>?_;obtain ⟨E1,Z2,H1,hB,zB⟩:=n3.all hB
 refine kX 36 (u7 (resC a1)) r rfl rfl fun b4 w5 n6 r=>?_;have H1:=keep n6.below H1
 obtain ⟨E4,Z5,H4,hB,zB⟩:=n6.all hB;refine ah (.cells (kq aA) 41 (0,0)) r (fun R=>ag tz41) rfl fun fr b7 w8 n9 r=>?_;have H1:=keep n9.below H1
 have H4:=keep n9.below H4;obtain ⟨E7,Z8,H7,hB,zB⟩:=n9.all hB;refine wn (wsr (kF 0 r rfl dJ rfl fun r=>kG (ae a0.p) 6 r rfl H1 ta23 rfl rfl fun r=>kF 0 r rfl iV rfl fun r=>kL (I a0.thread) r rfl H1 to3 rfl rfl fun r=>?_));refine kD r (tA (j:=j) (F:=No) (n:=n) (fun _ h=>h.elim) kw a0.p a0.thread) rfl xn rfl fun w10 v11 hb hr12 r=>?_
 have hr12:=hr12.loud;have Z10:=hb.size;have H1:=keep hb H1;have H4:=keep hb H4;have H7:=keep hb H7;obtain ⟨hB,zB⟩:=bon hb hB;refine aa (.func (.func 250) #[] #[zp b4]) r (fun R=>aZ r rfl) rfl fun fr r=>?_;have hF1:∀ b,(kW F w0 w8 b7) b→b<w10.heap.size:=by rintro b (h | ⟨_,h,_⟩); exact q8 (hF b h) hB.size; exact q8 h kw
 have f16:((kW F w0 w8 b7)) b4:=(.inr ⟨kw,kw,kw⟩)
 have hF2:=cu hF hB.size b7;refine kJ r (sq (F:=(kW F w0 w10 b7)) (F2:=(kW F w0 w8 b7)) (n:=n) hF2 yan yah yai (RepL.mono (F':=fun b=>w8.heap.size≤b∧b<w10.heap.size) yam (Same.refl _ _) (Nat.le_refl _) n _ _ hr12) ⟨250,[],[zp b4],EQ,rfl,fun m hm _ w' hs hz=>AB (fun b hb=>q8 (hF1 b hb) hz) a1 f16 (hs.at_ f16 H4)⟩) rfl rU rfl fun w13 v14 hb hr15 r=>?_
 have Z13:=hb.size;have H7:=bc hb H7 yaa
 have hB:=Chg.aT (Z:=F) hB;have hB:=hB.bn hb yad
 have zB:=hB.size;refine kP r hr15.shape rfl rfl H7 ts41 rfl rfl fun w17 u18 r=>?_;have Z17:=u18.size
 have H7:=u18.at_;have hB:=hB.bm u18 (.inl kw)
 have zB:=hB.size;refine wn (d9 ?_);have hs:=hr15.shape.cells;refine ak r rfl rfl H7 (k:=8) hs.1 ta41 ?_;rw [←hs.2.2];exact aw.fin hB hr15 u18 yac yaa kw kw kw
def D.kT (j:Nat) (GN:Seat→Int→Int→Int→T Res) (c0:Seat) (c1:Int) (c2:Int) (c3:Int) (a0:Bool):T Res:=(bif (!a0) then (GN c0 c1 c2 c3) else (D.eC j c0 (⟨0,0⟩:Res)))
def D.nB (j:Nat) (GN:Seat→Int→Int→Int→T Res) (c0:Walk) (c1:Int) (c2:Seat) (c3:Int) (c4:Int):T Res:=(D.jk c0.place c0.cur (D.jx c1) (fun x=>(D.kT j GN c2 c3 c4 c1 x)))
def D.iJ (j:Nat) (GN:Seat→Int→Int→Int→T Res) (c0:Seat) (c1:Int) (c2:Int) (c3:Int) (a0:Walk):T Res:=(bif a0.there then (T.bind (D.nG j c0.p c0.thread) (fun _=>(D.li j c0 c1))) else (D.fb (D.bo c0.p c1 2) a0.cur (fun _=>(D.nB j GN a0 c1 c0 c2 c3))))
def D.tM (j:Nat) (GN:Seat→Int→Int→Int→T Res) (a0:Seat) (a1:Int) (a2:Int) (a3:Int):T Res:=(T.bind (D.jA j (D.di j j) a0 a1 a2) (fun x=>(D.iJ j GN a0 a3 a1 a2 x)))
def D.fW (j:Nat):Nat→Seat→Int→Int→Int→T Res
 | 0,_,_,_,_=>.cut
 | k+1,a0,a1,a2,a3=>D.tM j (D.fW j k) a0 a1 a2 a3
def l6 (r:Seat→Int→Int→Int→T Res) (n:Nat):Prop:=∀ (F:Nat→Prop) (w0:World),(∀ b,F b→b<w0.heap.size)→∀ (a0:Seat) (a1:Int) (a2:Int) (a3:Int),Calls y6 156 #[u7 (bC a0),.int .i64 a1,.int .u64 a2,.int .i64 a3] w0 (aw y6 aA n (r a0 a1 a2 a3) F w0)
theorem Ac {GN:Seat→Int→Int→Int→T Res} (hF:kH F w0) (hj:n<j) (Hc:∀ m,m≤n→l6 GN m)
    (c0:Seat) {c0b:Nat} (c0F:F c0b) (c0h:w0.heap[c0b]?=some (.cells ((bC c0)).toArray 47 (0,0))) (c1:Int) {c1b:Nat} (c1F:F c1b) (c1h:w0.heap[c1b]?=some (.cells ([(.int .i64 c1)]).toArray 3 (0,0))) (c2:Int) {c2b:Nat} (c2F:F c2b) (c2h:w0.heap[c2b]?=some (.cells ([(.int .u64 c2)]).toArray 34 (0,0))) (c3:Int) {c3b:Nat} (c3F:F c3b) (c3h:w0.heap[c3b]?=some (.cells ([(.int .i64 c3)]).toArray 3 (0,0))) (a0:Bool) :
    Calls y6 244 #[.bool a0,zp c0b,zp c1b,zp c2b,zp c3b] w0 (aw y6 aA n (D.kT j GN c0 c1 c2 c3 a0) F w0):=by
 refine kN Tryz.func244 rfl 17 rfl rfl fun fr r hB=>?_;have lc0b:=q7 c0h
 have lc1b:=q7 c1h;have lc2b:=q7 c2h;have lc3b:=q7 c3h;refine wsr ?_;refine ah (.cells (kq aA) 41 (0,0)) r (fun R=>ag tz41) rfl fun fr b1 w2 n3 r=>?_;obtain ⟨E1,Z2,H1,hB,zB⟩:=n3.all hB
 refine wn (a9 (wsr (kM (.bool a0) r rfl rfl fun r=>aa (.bool (!a0)) r (fun R=>y_un r (u:=(.bool a0)) rfl rfl) rfl fun fr r=>wn ?_)));refine q4 (t:=(!a0)) (r.ev rfl) (fun h4=>?_) (fun h4=>?_)
 ·
  refine wsr (kG (bC c0) 8 r rfl (keep hB c0h) ta47 rfl rfl fun r=>kL (I c1) r rfl (keep hB c1h) to3 rfl rfl fun r=>kL (U c2) r rfl (keep hB c2h) to34 rfl rfl fun r=>kL (I c3) r rfl (keep hB c3h) to3 rfl rfl fun r=>?_);refine kJ r ((Hc n kw) (No) _ (fun _ h=>h.elim) c0 c1 c2 c3) rfl xR rfl fun w5 v6 hb hr7 r=>?_
  have hb:=hb.below;have Z5:=hb.size;have H1:=keep hb H1;obtain ⟨hB,zB⟩:=bon hb hB;refine kP r hr7.shape rfl rfl H1 ts41 rfl rfl fun w8 u9 r=>?_;have Z8:=u9.size
  have H1:=u9.at_;obtain ⟨hB,zB⟩:=u9.on hB kw
  refine wn (d9 ?_);have hd:D.kT j GN c0 c1 c2 c3 a0=(GN c0 c1 c2 c3):=(ar h4).trans (rfl);have hs:=hr7.shape.cells;refine ak r rfl rfl H1 (k:=8) hs.1 ta41 ?_;rw [←hs.2.2,hd];exact aw.fin (Chg.aT hB) hr7 u9 (fun _ h=>h.elim) (fun h=>h) kw kw kw
 refine q6 (wsr (kG (bC c0) 8 r rfl (keep hB c0h) ta47 rfl rfl fun r=>kU (u7 (resC (⟨0,0⟩:Res))) r kz rfl fun r=>?_));refine kJ r (jm (j:=j) (F:=No) (n:=n) (fun _ h=>h.elim) kw c0 (⟨0,0⟩:Res)) rfl jW rfl fun w10 v11 hb hr12 r=>?_
 have hb:=hb.below;have Z10:=hb.size;have H1:=keep hb H1;obtain ⟨hB,zB⟩:=bon hb hB;refine kP r hr12.shape rfl rfl H1 ts41 rfl rfl fun w13 u14 r=>?_;have Z13:=u14.size
 have H1:=u14.at_;obtain ⟨hB,zB⟩:=u14.on hB kw
 refine wn (d9 ?_);have hd:D.kT j GN c0 c1 c2 c3 a0=(D.eC j c0 (⟨0,0⟩:Res)):=(ai h4).trans (rfl);have hs:=hr12.shape.cells;refine ak r rfl rfl H1 (k:=8) hs.1 ta41 ?_;rw [←hs.2.2,hd];exact aw.fin (Chg.aT hB) hr12 u14 (fun _ h=>h.elim) (fun h=>h) kw kw kw
theorem AG {GN:Seat→Int→Int→Int→T Res} (hF:kH F w0) (hj:n<j) (Hc:∀ m,m<n→l6 GN m)
    (c0:Walk) {c0b:Nat} (c0F:F c0b) (c0h:w0.heap[c0b]?=some (.cells ((bh c0)).toArray 221 (0,0))) (c1:Int) {c1b:Nat} (c1F:F c1b) (c1h:w0.heap[c1b]?=some (.cells ([(.int .i64 c1)]).toArray 3 (0,0))) (c2:Seat) {c2b:Nat} (c2F:F c2b) (c2h:w0.heap[c2b]?=some (.cells ((bC c2)).toArray 47 (0,0))) (c3:Int) {c3b:Nat} (c3F:F c3b) (c3h:w0.heap[c3b]?=some (.cells ([(.int .i64 c3)]).toArray 3 (0,0))) (c4:Int) {c4b:Nat} (c4F:F c4b) (c4h:w0.heap[c4b]?=some (.cells ([(.int .u64 c4)]).toArray 34 (0,0))) :
    Calls y6 242 #[zp c0b,zp c1b,zp c2b,zp c3b,zp c4b] w0 (aw y6 aA n (D.nB j GN c0 c1 c2 c3 c4) F w0):=by
 refine kN Tryz.func242 rfl 14 rfl rfl fun fr r hB=>?_;have lc0b:=q7 c0h
 have lc1b:=q7 c1h;have lc2b:=q7 c2h;have lc3b:=q7 c3h;have lc4b:=q7 c4h;refine wsr ?_;refine ah (.cells (kq aA) 41 (0,0)) r (fun R=>ag tz41) rfl fun fr b1 w2 n3 r=>?_;have c0h:=keep n3.below c0h
 have c1h:=keep n3.below c1h;have c2h:=keep n3.below c2h;have c3h:=keep n3.below c3h;have c4h:=keep n3.below c4h;obtain ⟨E1,Z2,H1,hB,zB⟩:=n3.all hB;refine wn (a9 ?_);refine bN 7 [.val (.pointer (some ⟨c0b,10,none⟩)),.val (I c0.place),.val (.pointer (some ⟨c0b,11,none⟩)),.val (U c0.cur),.val (I c1),.val (U (D.jx c1)),.val (.func (.func 244) #[] #[zp c2b,zp c3b,zp c4b,zp c1b])] mixed r kz (kV (kV (kV (kV (kV (kV (kV bM))))))) ?_ ?_
 ·
  refine ec r (fun _ u _ b d s=>az s (b:=c0b) (o:=0) rfl lM bz) (ec r (fun _ u _ b d s=>av s d.1 (keep b c0h) to3 rfl bz) (ec r (fun _ u _ b d s=>az s (b:=c0b) (o:=0) rfl eV bz) (ec r (fun _ u _ b d s=>av s d.1 (keep b c0h) to34 rfl bz) (ec r (fun _ u _ b d s=>av s rfl (keep b c1h) to3 rfl bz) (ec r (fun fr1 u w' hb' hd r'=>aP r' (args:=[(I c1)]) (lc hd.1 l0) Gp ((BI _ c1).mono yab)) (ec r (fun _ u _ b d s=>aZ s (v:=(.func (.func 244) #[] #[zp c2b,zp c3b,zp c4b,zp c1b])) rfl bz) ?_))))));exact bO
 intro fr u w4 hb hΦ hne r;have r:=r.congr (sc (hΦ 6 ke) (sc (hΦ 5 ke) (sc (hΦ 4 ke) (sc (hΦ 3 ke) (sc (hΦ 2 ke) (sc (hΦ 1 ke) (sc (hΦ 0 ke) rfl)))))));have Z4:=hb.size;have c0h:=keep hb c0h;have c1h:=keep hb c1h;have c2h:=keep hb c2h;have c3h:=keep hb c3h;have c4h:=keep hb c4h;have H1:=keep hb H1;obtain ⟨hB,zB⟩:=bon hb hB;have hF1:=cu hF hB.size b1;have f8:((kW F w0 w4 b1)) c2b:=(.inl c2F);have f9:((kW F w0 w4 b1)) c3b:=(.inl c3F);have f10:((kW F w0 w4 b1)) c4b:=(.inl c4F);have f11:((kW F w0 w4 b1)) c1b:=(.inl c1F);refine kJ r (pJ (F:=(kW F w0 w4 b1)) (n:=n) hF1 c0.place c0.cur (D.jx c1) ⟨244,[],[zp c2b,zp c3b,zp c4b,zp c1b],G3,rfl,fun m hm x w' hs hz=>Ac (j:=j) (fun b hb=>q8 (hF1 b hb) hz) kw (fun m' hm'=>Hc m' kw) c2 f8 (hs.at_ f8 c2h) c3 f9 (hs.at_ f9 c3h) c4 f10 (hs.at_ f10 c4h) c1 f11 (hs.at_ f11 c1h) x⟩) rfl rK rfl fun w5 v6 hb hr7 r=>?_;have Z5:=hb.size
 have H1:=bc hb H1 yaa
 have hB:=Chg.aT (Z:=F) hB;have hB:=hB.bn hb yad
 have zB:=hB.size;refine kP r hr7.shape rfl rfl H1 ts41 rfl rfl fun w12 u13 r=>?_;have Z12:=u13.size
 have H1:=u13.at_;have hB:=hB.bm u13 (.inl kw)
 have zB:=hB.size;refine wn (d9 ?_);have hs:=hr7.shape.cells;refine ak r rfl rfl H1 (k:=8) hs.1 ta41 ?_;rw [←hs.2.2];exact aw.fin hB hr7 u13 yac yaa kw kw kw
theorem Bh {GN:Seat→Int→Int→Int→T Res} (hF:kH F w0) (hj:n<j) (Hc:∀ m,m<n→l6 GN m)
    (c0:Seat) {c0b:Nat} (c0F:F c0b) (c0h:w0.heap[c0b]?=some (.cells ((bC c0)).toArray 47 (0,0))) (c1:Int) {c1b:Nat} (c1F:F c1b) (c1h:w0.heap[c1b]?=some (.cells ([(.int .i64 c1)]).toArray 3 (0,0))) (c2:Int) {c2b:Nat} (c2F:F c2b) (c2h:w0.heap[c2b]?=some (.cells ([(.int .i64 c2)]).toArray 3 (0,0))) (c3:Int) {c3b:Nat} (c3F:F c3b) (c3h:w0.heap[c3b]?=some (.cells ([(.int .u64 c3)]).toArray 34 (0,0))) (a0:Walk) :
    Calls y6 237 #[u7 (bh a0),zp c0b,zp c1b,zp c2b,zp c3b] w0 (aw y6 aA n (D.iJ j GN c0 c1 c2 c3 a0) F w0):=by
 refine kN Tryz.func237 rfl 24 rfl rfl fun fr r hB=>?_;have lc0b:=q7 c0h
 have lc1b:=q7 c1h;have lc2b:=q7 c2h;have lc3b:=q7 c3h;refine wsr ?_;refine kX 221 (u7 (bh a0)) r rfl rfl fun b1 w2 n3 r=>?_;have c0h:=keep n3.below c0h
 have c1h:=keep n3.below c1h;have c2h:=keep n3.below c2h;have c3h:=keep n3.below c3h;obtain ⟨E1,Z2,H1,hB,zB⟩:=n3.all hB;refine ah (.cells (kq aA) 41 (0,0)) r (fun R=>ag tz41) rfl fun fr b4 w5 n6 r=>?_;have c0h:=keep n6.below c0h
 have c1h:=keep n6.below c1h;have c2h:=keep n6.below c2h;have c3h:=keep n6.below c3h;have H1:=keep n6.below H1;obtain ⟨E4,Z5,H4,hB,zB⟩:=n6.all hB;refine wn (a9 (wsr (kF 0 r rfl lL rfl fun r=>kL (.bool a0.there) r rfl H1 to4 rfl rfl fun r=>wn ?_)));refine q4 (t:=a0.there) (r.ev rfl) (fun h7=>?_) (fun h7=>?_)
 ·
  refine wsr (kF 0 r rfl dJ rfl fun r=>kG (ae c0.p) 6 r rfl c0h ta23 rfl rfl fun r=>kF 0 r rfl iV rfl fun r=>kL (I c0.thread) r rfl c0h to3 rfl rfl fun r=>?_);refine kD r (tA (j:=j) (F:=No) (n:=n) (fun _ h=>h.elim) kw c0.p c0.thread) rfl xn rfl fun w8 v9 hb hr10 r=>?_
  have hr10:=hr10.loud;have Z8:=hb.size;have c0h:=keep hb c0h;have c1h:=keep hb c1h;have c2h:=keep hb c2h;have c3h:=keep hb c3h;have H1:=keep hb H1;have H4:=keep hb H4;obtain ⟨hB,zB⟩:=bon hb hB;refine aa (.func (.func 239) #[] #[zp c0b,zp c1b]) r (fun R=>aZ r rfl) rfl fun fr r=>?_;have hF1:∀ b,(kW F w0 w5 b4) b→b<w8.heap.size:=by rintro b (h | ⟨_,h,_⟩); exact q8 (hF b h) hB.size; exact q8 h kw
  have f14:((kW F w0 w5 b4)) c0b:=(.inl c0F);have f15:((kW F w0 w5 b4)) c1b:=(.inl c1F);have hF2:=cu hF hB.size b4;refine kJ r (sq (F:=(kW F w0 w8 b4)) (F2:=(kW F w0 w5 b4)) (n:=n) hF2 yan yah yai (RepL.mono (F':=fun b=>w5.heap.size≤b∧b<w8.heap.size) yam (Same.refl _ _) (Nat.le_refl _) n _ _ hr10) ⟨239,[],[zp c0b,zp c1b],FL,rfl,fun m hm _ w' hs hz=>Av (j:=j) (fun b hb=>q8 (hF1 b hb) hz) kw c0 f14 (hs.at_ f14 c0h) c1 f15 (hs.at_ f15 c1h)⟩) rfl rU rfl fun w11 v12 hb hr13 r=>?_
  have Z11:=hb.size;have H4:=bc hb H4 yaa
  have hB:=Chg.aT (Z:=F) hB;have hB:=hB.bn hb yad
  have zB:=hB.size;refine kP r hr13.shape rfl rfl H4 ts41 rfl rfl fun w16 u17 r=>?_;have Z16:=u17.size
  have H4:=u17.at_;have hB:=hB.bm u17 (.inl kw)
  have zB:=hB.size;refine wn (d9 ?_);have hd:D.iJ j GN c0 c1 c2 c3 a0=(T.bind (D.nG j c0.p c0.thread) (fun _=>(D.li j c0 c1))):=(ar h7).trans (rfl)
  have hs:=hr13.shape.cells;refine ak r rfl rfl H4 (k:=8) hs.1 ta41 ?_;rw [←hs.2.2,hd];exact aw.fin hB hr13 u17 yac yaa kw kw kw
 refine q6 (a9 ?_);refine bN 7 [.val (zp c0b),.val (u7 (ae c0.p)),.val (I c1),.val (I (D.bo c0.p c1 2)),.val (.pointer (some ⟨b1,11,none⟩)),.val (U a0.cur),.val (.func (.func 242) #[] #[zp b1,zp c1b,zp c0b,zp c2b,zp c3b])] mixed r kz (kV (kV (kV (kV (kV (kV (kV bM))))))) ?_ ?_
 ·
  refine ec r (fun _ u _ b d s=>az s (b:=c0b) (o:=0) rfl dJ bz) (ec r (fun _ u _ b d s=>aX s (cs:=(ae c0.p)) (n:=6) d.1 (keep b c0h) ta23 rfl bz) (ec r (fun _ u _ b d s=>av s rfl (keep b c1h) to3 rfl bz) (ec r (fun fr1 u w' hb' hd r'=>aP r' (args:=[(u7 (ae c0.p)),(I c1),(I 2)]) (lc hd.1 (lc hd.2.1 (lc rfl l0))) cl89 ((eu _ c0.p c1 2).mono yab)) (ec r (fun _ u _ b d s=>az s (b:=b1) (o:=0) rfl eV bz) (ec r (fun _ u _ b d s=>av s d.1 (keep b H1) to34 rfl bz) (ec r (fun _ u _ b d s=>aZ s (v:=(.func (.func 242) #[] #[zp b1,zp c1b,zp c0b,zp c2b,zp c3b])) rfl bz) ?_))))));exact bO
 intro fr u w18 hb hΦ hne r;have r:=r.congr (sc (hΦ 6 ke) (sc (hΦ 5 ke) (sc (hΦ 4 ke) (sc (hΦ 3 ke) (sc (hΦ 2 ke) (sc (hΦ 1 ke) (sc (hΦ 0 ke) rfl)))))));have Z18:=hb.size;have c0h:=keep hb c0h;have c1h:=keep hb c1h;have c2h:=keep hb c2h;have c3h:=keep hb c3h;have H1:=keep hb H1;have H4:=keep hb H4;obtain ⟨hB,zB⟩:=bon hb hB;have hF1:=cu hF hB.size b4;have f22:((kW F w0 w18 b4)) b1:=(.inr ⟨kw,kw,kw⟩)
 have f23:((kW F w0 w18 b4)) c1b:=(.inl c1F);have f24:((kW F w0 w18 b4)) c0b:=(.inl c0F);have f25:((kW F w0 w18 b4)) c2b:=(.inl c2F);have f26:((kW F w0 w18 b4)) c3b:=(.inl c3F);refine kJ r (pz (F:=(kW F w0 w18 b4)) (n:=n) hF1 (D.bo c0.p c1 2) a0.cur ⟨242,[],[zp b1,zp c1b,zp c0b,zp c2b,zp c3b],FO,rfl,fun m hm _ w' hs hz=>AG (j:=j) (fun b hb=>q8 (hF1 b hb) hz) kw (fun m' hm'=>Hc m' kw) a0 f22 (hs.at_ f22 H1) c1 f23 (hs.at_ f23 c1h) c0 f24 (hs.at_ f24 c0h) c2 f25 (hs.at_ f25 c2h) c3 f26 (hs.at_ f26 c3h)⟩) rfl ru rfl fun w19 v20 hb hr21 r=>?_;have Z19:=hb.size
 have H4:=bc hb H4 yaa
 have hB:=Chg.aT (Z:=F) hB;have hB:=hB.bn hb yad
 have zB:=hB.size;refine kP r hr21.shape rfl rfl H4 ts41 rfl rfl fun w27 u28 r=>?_;have Z27:=u28.size
 have H4:=u28.at_;have hB:=hB.bm u28 (.inl kw)
 have zB:=hB.size;refine wn (d9 ?_);have hd:D.iJ j GN c0 c1 c2 c3 a0=(D.fb (D.bo c0.p c1 2) a0.cur (fun _=>(D.nB j GN a0 c1 c0 c2 c3))):=(ai h7).trans (rfl)
 have hs:=hr21.shape.cells;refine ak r rfl rfl H4 (k:=8) hs.1 ta41 ?_;rw [←hs.2.2,hd];exact aw.fin hB hr21 u28 yac yaa kw kw kw
theorem Ci {n:Nat} {F:Nat→Prop} {j:Nat} {GN:Seat→Int→Int→Int→T Res} {w0:World} (hF:∀ b,F b→b<w0.heap.size) (hj:n<j) (Hc:∀ m,m<n→l6 GN m)
    (a0:Seat) (a1:Int) (a2:Int) (a3:Int) :
    Calls y6 156 #[u7 (bC a0),.int .i64 a1,.int .u64 a2,.int .i64 a3] w0 (aw y6 aA n (D.tM j GN a0 a1 a2 a3) F w0):=by
 refine kN Tryz.func156 rfl 15 rfl rfl fun fr r hB=>?_;refine wsr ?_
 refine kX 47 (u7 (bC a0)) r rfl rfl fun b1 w2 n3 r=>?_;obtain ⟨E1,Z2,H1,hB,zB⟩:=n3.all hB
 refine kX 3 (I a1) r rfl rfl fun b4 w5 n6 r=>?_;have H1:=keep n6.below H1
 obtain ⟨E4,Z5,H4,hB,zB⟩:=n6.all hB;refine kX 34 (U a2) r rfl rfl fun b7 w8 n9 r=>?_;have H1:=keep n9.below H1
 have H4:=keep n9.below H4;obtain ⟨E7,Z8,H7,hB,zB⟩:=n9.all hB;refine kX 3 (I a3) r rfl rfl fun b10 w11 n12 r=>?_;have H1:=keep n12.below H1
 have H4:=keep n12.below H4;have H7:=keep n12.below H7;obtain ⟨E10,Z11,H10,hB,zB⟩:=n12.all hB;refine ah (.cells (kq aA) 41 (0,0)) r (fun R=>ag tz41) rfl fun fr b13 w14 n15 r=>?_;have H1:=keep n15.below H1
 have H4:=keep n15.below H4;have H7:=keep n15.below H7;have H10:=keep n15.below H10;obtain ⟨E13,Z14,H13,hB,zB⟩:=n15.all hB;refine wn (wsr (kG (bC a0) 8 r rfl H1 ta47 rfl rfl fun r=>kL (I a1) r rfl H4 to3 rfl rfl fun r=>kL (U a2) r rfl H7 to34 rfl rfl fun r=>?_));refine kJ r (nC (j:=j) (F:=No) (n:=n) (fun _ h=>h.elim) kw (fun m' hm'=>mI (j:=j) (k:=j) kw kw) a0 a1 a2) rfl oT rfl fun w16 v17 hb hr18 r=>?_
 have hb:=hb.below;have Z16:=hb.size;have H1:=keep hb H1;have H4:=keep hb H4;have H7:=keep hb H7;have H10:=keep hb H10;have H13:=keep hb H13;obtain ⟨hB,zB⟩:=bon hb hB;refine aa (.func (.func 237) #[] #[zp b1,zp b10,zp b4,zp b7]) r (fun R=>aZ r rfl) rfl fun fr r=>?_;have hF1:∀ b,(kW F w0 w14 b13) b→b<w16.heap.size:=by rintro b (h | ⟨_,h,_⟩); exact q8 (hF b h) hB.size; exact q8 h kw
 have f22:((kW F w0 w14 b13)) b1:=(.inr ⟨kw,kw,kw⟩)
 have f23:((kW F w0 w14 b13)) b10:=(.inr ⟨kw,kw,kw⟩)
 have f24:((kW F w0 w14 b13)) b4:=(.inr ⟨kw,kw,kw⟩)
 have f25:((kW F w0 w14 b13)) b7:=(.inr ⟨kw,kw,kw⟩)
 have hF2:=cu hF hB.size b13;refine kJ r (mr (F:=(kW F w0 w16 b13)) (F2:=(kW F w0 w14 b13)) (n:=n) hF2 yan yah yai (RepL.mono (F':=fun b=>w14.heap.size≤b∧b<w16.heap.size) yam (Same.refl _ _) (Nat.le_refl _) n _ _ hr18) ⟨237,[],[zp b1,zp b10,zp b4,zp b7],Gu,rfl,fun m hm x w' hs hz=>Bh (j:=j) (fun b hb=>q8 (hF1 b hb) hz) kw (fun m' hm'=>Hc m' kw) a0 f22 (hs.at_ f22 H1) a3 f23 (hs.at_ f23 H10) a1 f24 (hs.at_ f24 H4) a2 f25 (hs.at_ f25 H7) x⟩) rfl ma rfl fun w19 v20 hb hr21 r=>?_
 have Z19:=hb.size;have H13:=bc hb H13 yaa
 have hB:=Chg.aT (Z:=F) hB;have hB:=hB.bn hb yad
 have zB:=hB.size;refine kP r hr21.shape rfl rfl H13 ts41 rfl rfl fun w26 u27 r=>?_;have Z26:=u27.size
 have H13:=u27.at_;have hB:=hB.bm u27 (.inl kw)
 have zB:=hB.size;refine wn (d9 ?_);have hs:=hr21.shape.cells;refine ak r rfl rfl H13 (k:=8) hs.1 ta41 ?_;rw [←hs.2.2];exact aw.fin hB hr21 u27 yac yaa kw kw kw
theorem BR {n:Nat} {j:Nat} (hj:n<j) {k:Nat} (hk:n<k):l6 (D.fW j k) n:=by
 induction n using Nat.strongRecOn generalizing k with
 | _ n ih=>
  obtain ⟨k,rfl⟩:∃ q,k=q+1:=⟨k - 1,kw⟩
  intro F w0 hF;have h:=@Ci n F j (D.fW j k) w0 hF hj (fun m hm=>ih m hm kw kw)
  exact h
def D.tG (j:Nat) (c0:Seat) (c1:Int) (c2:Int) (c3:Grant):T Res:=(D.fW j j c0 c1 c2 c3.node)
theorem A8 (hF:kH F w0) (hj:n<j)
    (c0:Seat) {c0b:Nat} (c0F:F c0b) (c0h:w0.heap[c0b]?=some (.cells ((bC c0)).toArray 47 (0,0))) (c1:Int) {c1b:Nat} (c1F:F c1b) (c1h:w0.heap[c1b]?=some (.cells ([(.int .i64 c1)]).toArray 3 (0,0))) (c2:Int) {c2b:Nat} (c2F:F c2b) (c2h:w0.heap[c2b]?=some (.cells ([(.int .u64 c2)]).toArray 34 (0,0))) (c3:Grant) {c3b:Nat} (c3F:F c3b) (c3h:w0.heap[c3b]?=some (.cells ((grantC c3)).toArray 113 (0,0))) :
    Calls y6 155 #[zp c0b,zp c1b,zp c2b,zp c3b] w0 (aw y6 aA n (D.tG j c0 c1 c2 c3) F w0):=by
 refine kN Tryz.func155 rfl 11 rfl rfl fun fr r hB=>?_;have lc0b:=q7 c0h
 have lc1b:=q7 c1h;have lc2b:=q7 c2h;have lc3b:=q7 c3h;refine wsr ?_;refine ah (.cells (kq aA) 41 (0,0)) r (fun R=>ag tz41) rfl fun fr b1 w2 n3 r=>?_;obtain ⟨E1,Z2,H1,hB,zB⟩:=n3.all hB
 refine wn (wsr (kG (bC c0) 8 r rfl (keep hB c0h) ta47 rfl rfl fun r=>kL (I c1) r rfl (keep hB c1h) to3 rfl rfl fun r=>kL (U c2) r rfl (keep hB c2h) to34 rfl rfl fun r=>kF 0 r rfl qN rfl fun r=>kL (I c3.node) r rfl (keep hB c3h) to3 rfl rfl fun r=>?_));refine kJ r ((BR (j:=j) (k:=j) (n:=n) kw kw) (No) _ (fun _ h=>h.elim) c0 c1 c2 c3.node) rfl xR rfl fun w4 v5 hb hr6 r=>?_
 have hb:=hb.below;have Z4:=hb.size;have H1:=keep hb H1;obtain ⟨hB,zB⟩:=bon hb hB;refine kP r hr6.shape rfl rfl H1 ts41 rfl rfl fun w7 u8 r=>?_;have Z7:=u8.size
 have H1:=u8.at_;obtain ⟨hB,zB⟩:=u8.on hB kw
 refine wn (d9 ?_);have hs:=hr6.shape.cells;refine ak r rfl rfl H1 (k:=8) hs.1 ta41 ?_;rw [←hs.2.2];exact aw.fin (Chg.aT hB) hr6 u8 (fun _ h=>h.elim) (fun h=>h) kw kw kw
def D.nD (j:Nat) (c0:Seat) (c1:Grant) (c2:Int) (c3:Int) (c4:Int):T Res:=(D.fb (D.bo c0.p c1.node 1) c2 (fun _=>(D.tG j c0 c3 c4 c1)))
theorem AC (hF:kH F w0) (hj:n<j)
    (c0:Seat) {c0b:Nat} (c0F:F c0b) (c0h:w0.heap[c0b]?=some (.cells ((bC c0)).toArray 47 (0,0))) (c1:Grant) {c1b:Nat} (c1F:F c1b) (c1h:w0.heap[c1b]?=some (.cells ((grantC c1)).toArray 113 (0,0))) (c2:Int) {c2b:Nat} (c2F:F c2b) (c2h:w0.heap[c2b]?=some (.cells ([(.int .u64 c2)]).toArray 34 (0,0))) (c3:Int) {c3b:Nat} (c3F:F c3b) (c3h:w0.heap[c3b]?=some (.cells ([(.int .i64 c3)]).toArray 3 (0,0))) (c4:Int) {c4b:Nat} (c4F:F c4b) (c4h:w0.heap[c4b]?=some (.cells ([(.int .u64 c4)]).toArray 34 (0,0))) :
    Calls y6 154 #[zp c0b,zp c1b,zp c2b,zp c3b,zp c4b] w0 (aw y6 aA n (D.nD j c0 c1 c2 c3 c4) F w0):=by
 refine kN Tryz.func154 rfl 14 rfl rfl fun fr r hB=>?_;have lc0b:=q7 c0h
 have lc1b:=q7 c1h;have lc2b:=q7 c2h;have lc3b:=q7 c3h;have lc4b:=q7 c4h;refine wsr ?_;refine ah (.cells (kq aA) 41 (0,0)) r (fun R=>ag tz41) rfl fun fr b1 w2 n3 r=>?_;have c0h:=keep n3.below c0h
 have c1h:=keep n3.below c1h;have c2h:=keep n3.below c2h;have c3h:=keep n3.below c3h;have c4h:=keep n3.below c4h;obtain ⟨E1,Z2,H1,hB,zB⟩:=n3.all hB;refine wn (a9 ?_);refine bN 7 [.val (zp c0b),.val (u7 (ae c0.p)),.val (zp c1b),.val (I c1.node),.val (I (D.bo c0.p c1.node 1)),.val (U c2),.val (.func (.func 155) #[] #[zp c0b,zp c3b,zp c4b,zp c1b])] mixed r kz (kV (kV (kV (kV (kV (kV (kV bM))))))) ?_ ?_
 ·
  refine ec r (fun _ u _ b d s=>az s (b:=c0b) (o:=0) rfl dJ bz) (ec r (fun _ u _ b d s=>aX s (cs:=(ae c0.p)) (n:=6) d.1 (keep b c0h) ta23 rfl bz) (ec r (fun _ u _ b d s=>az s (b:=c1b) (o:=0) rfl qN bz) (ec r (fun _ u _ b d s=>av s d.1 (keep b c1h) to3 rfl bz) (ec r (fun fr1 u w' hb' hd r'=>aP r' (args:=[(u7 (ae c0.p)),(I c1.node),(I 1)]) (lc hd.1 (lc hd.2.1 (lc rfl l0))) cl89 ((eu _ c0.p c1.node 1).mono yab)) (ec r (fun _ u _ b d s=>av s rfl (keep b c2h) to34 rfl bz) (ec r (fun _ u _ b d s=>aZ s (v:=(.func (.func 155) #[] #[zp c0b,zp c3b,zp c4b,zp c1b])) rfl bz) ?_))))));exact bO
 intro fr u w4 hb hΦ hne r;have r:=r.congr (sc (hΦ 6 ke) (sc (hΦ 5 ke) (sc (hΦ 4 ke) (sc (hΦ 3 ke) (sc (hΦ 2 ke) (sc (hΦ 1 ke) (sc (hΦ 0 ke) rfl)))))));have Z4:=hb.size;have c0h:=keep hb c0h;have c1h:=keep hb c1h;have c2h:=keep hb c2h;have c3h:=keep hb c3h;have c4h:=keep hb c4h;have H1:=keep hb H1;obtain ⟨hB,zB⟩:=bon hb hB;have hF1:=cu hF hB.size b1;have f8:((kW F w0 w4 b1)) c0b:=(.inl c0F);have f9:((kW F w0 w4 b1)) c3b:=(.inl c3F);have f10:((kW F w0 w4 b1)) c4b:=(.inl c4F);have f11:((kW F w0 w4 b1)) c1b:=(.inl c1F);refine kJ r (pz (F:=(kW F w0 w4 b1)) (n:=n) hF1 (D.bo c0.p c1.node 1) c2 ⟨155,[],[zp c0b,zp c3b,zp c4b,zp c1b],Ga,rfl,fun m hm _ w' hs hz=>A8 (j:=j) (fun b hb=>q8 (hF1 b hb) hz) kw c0 f8 (hs.at_ f8 c0h) c3 f9 (hs.at_ f9 c3h) c4 f10 (hs.at_ f10 c4h) c1 f11 (hs.at_ f11 c1h)⟩) rfl ru rfl fun w5 v6 hb hr7 r=>?_;have Z5:=hb.size
 have H1:=bc hb H1 yaa
 have hB:=Chg.aT (Z:=F) hB;have hB:=hB.bn hb yad
 have zB:=hB.size;refine kP r hr7.shape rfl rfl H1 ts41 rfl rfl fun w12 u13 r=>?_;have Z12:=u13.size
 have H1:=u13.at_;have hB:=hB.bm u13 (.inl kw)
 have zB:=hB.size;refine wn (d9 ?_);have hs:=hr7.shape.cells;refine ak r rfl rfl H1 (k:=8) hs.1 ta41 ?_;rw [←hs.2.2];exact aw.fin hB hr7 u13 yac yaa kw kw kw
def D.fo (j:Nat) (c0:Seat) (c1:Int) (c2:Int) (c3:Int) (a0:Grant):T Res:=(bif (a0.e !=0) then (D.lz a0.e) else (D.fb (D.bo c0.p a0.node 0) c1 (fun _=>(D.nD j c0 a0 c2 c3 c1))))
theorem Bn (hF:kH F w0) (hj:n<j)
    (c0:Seat) {c0b:Nat} (c0F:F c0b) (c0h:w0.heap[c0b]?=some (.cells ((bC c0)).toArray 47 (0,0))) (c1:Int) {c1b:Nat} (c1F:F c1b) (c1h:w0.heap[c1b]?=some (.cells ([(.int .u64 c1)]).toArray 34 (0,0))) (c2:Int) {c2b:Nat} (c2F:F c2b) (c2h:w0.heap[c2b]?=some (.cells ([(.int .u64 c2)]).toArray 34 (0,0))) (c3:Int) {c3b:Nat} (c3F:F c3b) (c3h:w0.heap[c3b]?=some (.cells ([(.int .i64 c3)]).toArray 3 (0,0))) (a0:Grant) :
    Calls y6 152 #[u7 (grantC a0),zp c0b,zp c1b,zp c2b,zp c3b] w0 (aw y6 aA n (D.fo j c0 c1 c2 c3 a0) F w0):=by
 refine kN Tryz.func152 rfl 21 rfl rfl fun fr r hB=>?_;have lc0b:=q7 c0h
 have lc1b:=q7 c1h;have lc2b:=q7 c2h;have lc3b:=q7 c3h;refine wsr ?_;refine kX 113 (u7 (grantC a0)) r rfl rfl fun b1 w2 n3 r=>?_;have c0h:=keep n3.below c0h
 have c1h:=keep n3.below c1h;have c2h:=keep n3.below c2h;have c3h:=keep n3.below c3h;obtain ⟨E1,Z2,H1,hB,zB⟩:=n3.all hB;refine ah (.cells (kq aA) 41 (0,0)) r (fun R=>ag tz41) rfl fun fr b4 w5 n6 r=>?_;have c0h:=keep n6.below c0h
 have c1h:=keep n6.below c1h;have c2h:=keep n6.below c2h;have c3h:=keep n6.below c3h;have H1:=keep n6.below H1;obtain ⟨E4,Z5,H4,hB,zB⟩:=n6.all hB;refine wn (a9 (wsr (kF 0 r rfl vW rfl fun r=>kL (I a0.e) r rfl H1 to33 rfl rfl fun r=>kB r rfl rfl rfl rfl rfl fun r=>wn ?_)));refine q4 (t:=(a0.e !=0)) (r.ev rfl) (fun h7=>?_) (fun h7=>?_)
 ·
  refine wsr (kF 0 r rfl vW rfl fun r=>kL (I a0.e) r rfl H1 to33 rfl rfl fun r=>?_);refine kJ r (tY (F:=No) (n:=n) (fun _ h=>h.elim) a0.e) rfl wT rfl fun w8 v9 hb hr10 r=>?_
  have hb:=hb.below;have Z8:=hb.size;have c0h:=keep hb c0h;have c1h:=keep hb c1h;have c2h:=keep hb c2h;have c3h:=keep hb c3h;have H1:=keep hb H1;have H4:=keep hb H4;obtain ⟨hB,zB⟩:=bon hb hB;refine kP r hr10.shape rfl rfl H4 ts41 rfl rfl fun w11 u12 r=>?_;have Z11:=u12.size
  have c0h:=u12.keep c0h kw
  have c1h:=u12.keep c1h kw
  have c2h:=u12.keep c2h kw
  have c3h:=u12.keep c3h kw
  have H1:=u12.keep H1 kw
  have H4:=u12.at_;obtain ⟨hB,zB⟩:=u12.on hB kw
  refine wn (d9 ?_);have hd:D.fo j c0 c1 c2 c3 a0=(D.lz a0.e):=(ar h7).trans (rfl);have hs:=hr10.shape.cells;refine ak r rfl rfl H4 (k:=8) hs.1 ta41 ?_;rw [←hs.2.2,hd];exact aw.fin (Chg.aT hB) hr10 u12 (fun _ h=>h.elim) (fun h=>h) kw kw kw
 refine q6 (a9 ?_);refine bN 7 [.val (zp c0b),.val (u7 (ae c0.p)),.val (zp b1),.val (I a0.node),.val (I (D.bo c0.p a0.node 0)),.val (U c1),.val (.func (.func 154) #[] #[zp c0b,zp b1,zp c2b,zp c3b,zp c1b])] mixed r kz (kV (kV (kV (kV (kV (kV (kV bM))))))) ?_ ?_
 ·
  refine ec r (fun _ u _ b d s=>az s (b:=c0b) (o:=0) rfl dJ bz) (ec r (fun _ u _ b d s=>aX s (cs:=(ae c0.p)) (n:=6) d.1 (keep b c0h) ta23 rfl bz) (ec r (fun _ u _ b d s=>az s (b:=b1) (o:=0) rfl qN bz) (ec r (fun _ u _ b d s=>av s d.1 (keep b H1) to3 rfl bz) (ec r (fun fr1 u w' hb' hd r'=>aP r' (args:=[(u7 (ae c0.p)),(I a0.node),(I 0)]) (lc hd.1 (lc hd.2.1 (lc rfl l0))) cl89 ((eu _ c0.p a0.node 0).mono yab)) (ec r (fun _ u _ b d s=>av s rfl (keep b c1h) to34 rfl bz) (ec r (fun _ u _ b d s=>aZ s (v:=(.func (.func 154) #[] #[zp c0b,zp b1,zp c2b,zp c3b,zp c1b])) rfl bz) ?_))))));exact bO
 intro fr u w13 hb hΦ hne r;have r:=r.congr (sc (hΦ 6 ke) (sc (hΦ 5 ke) (sc (hΦ 4 ke) (sc (hΦ 3 ke) (sc (hΦ 2 ke) (sc (hΦ 1 ke) (sc (hΦ 0 ke) rfl)))))));have Z13:=hb.size;have c0h:=keep hb c0h;have c1h:=keep hb c1h;have c2h:=keep hb c2h;have c3h:=keep hb c3h;have H1:=keep hb H1;have H4:=keep hb H4;obtain ⟨hB,zB⟩:=bon hb hB;have hF1:=cu hF hB.size b4;have f17:((kW F w0 w13 b4)) c0b:=(.inl c0F);have f18:((kW F w0 w13 b4)) b1:=(.inr ⟨kw,kw,kw⟩)
 have f19:((kW F w0 w13 b4)) c2b:=(.inl c2F);have f20:((kW F w0 w13 b4)) c3b:=(.inl c3F);have f21:((kW F w0 w13 b4)) c1b:=(.inl c1F);refine kJ r (pz (F:=(kW F w0 w13 b4)) (n:=n) hF1 (D.bo c0.p a0.node 0) c1 ⟨154,[],[zp c0b,zp b1,zp c2b,zp c3b,zp c1b],Gy,rfl,fun m hm _ w' hs hz=>AC (j:=j) (fun b hb=>q8 (hF1 b hb) hz) kw c0 f17 (hs.at_ f17 c0h) a0 f18 (hs.at_ f18 H1) c2 f19 (hs.at_ f19 c2h) c3 f20 (hs.at_ f20 c3h) c1 f21 (hs.at_ f21 c1h)⟩) rfl ru rfl fun w14 v15 hb hr16 r=>?_;have Z14:=hb.size
 have H4:=bc hb H4 yaa
 have hB:=Chg.aT (Z:=F) hB;have hB:=hB.bn hb yad
 have zB:=hB.size;refine kP r hr16.shape rfl rfl H4 ts41 rfl rfl fun w22 u23 r=>?_;have Z22:=u23.size
 have H4:=u23.at_;have hB:=hB.bm u23 (.inl kw)
 have zB:=hB.size;refine wn (d9 ?_);have hd:D.fo j c0 c1 c2 c3 a0=(D.fb (D.bo c0.p a0.node 0) c1 (fun _=>(D.nD j c0 a0 c2 c3 c1))):=(ai h7).trans (rfl)
 have hs:=hr16.shape.cells;refine ak r rfl rfl H4 (k:=8) hs.1 ta41 ?_;rw [←hs.2.2,hd];exact aw.fin hB hr16 u23 yac yaa kw kw kw
def D.gQ (j:Nat) (a0:Seat) (a1:Int) (a2:Int) (a3:Int):T Res:=(T.bind (D.jy j a0.p a0.thread 2) (fun x=>(D.fo j a0 a2 a3 a1 x)))
theorem ue (hF:kH F w0) (hj:n<j)
    (a0:Seat) (a1:Int) (a2:Int) (a3:Int) :
    Calls y6 82 #[u7 (bC a0),.int .i64 a1,.int .u64 a2,.int .u64 a3] w0 (aw y6 aA n (D.gQ j a0 a1 a2 a3) F w0):=by
 refine kN Tryz.func82 rfl 16 rfl rfl fun fr r hB=>?_;refine wsr ?_
 refine kX 47 (u7 (bC a0)) r rfl rfl fun b1 w2 n3 r=>?_;obtain ⟨E1,Z2,H1,hB,zB⟩:=n3.all hB
 refine kX 3 (I a1) r rfl rfl fun b4 w5 n6 r=>?_;have H1:=keep n6.below H1
 obtain ⟨E4,Z5,H4,hB,zB⟩:=n6.all hB;refine kX 34 (U a2) r rfl rfl fun b7 w8 n9 r=>?_;have H1:=keep n9.below H1
 have H4:=keep n9.below H4;obtain ⟨E7,Z8,H7,hB,zB⟩:=n9.all hB;refine kX 34 (U a3) r rfl rfl fun b10 w11 n12 r=>?_;have H1:=keep n12.below H1
 have H4:=keep n12.below H4;have H7:=keep n12.below H7;obtain ⟨E10,Z11,H10,hB,zB⟩:=n12.all hB;refine ah (.cells (kq aA) 41 (0,0)) r (fun R=>ag tz41) rfl fun fr b13 w14 n15 r=>?_;have H1:=keep n15.below H1
 have H4:=keep n15.below H4;have H7:=keep n15.below H7;have H10:=keep n15.below H10;obtain ⟨E13,Z14,H13,hB,zB⟩:=n15.all hB;refine wn (wsr (kF 0 r rfl dJ rfl fun r=>kG (ae a0.p) 6 r rfl H1 ta23 rfl rfl fun r=>kF 0 r rfl iV rfl fun r=>kL (I a0.thread) r rfl H1 to3 rfl rfl fun r=>?_));refine kD r (BL (j:=j) (F:=No) (n:=n) (fun _ h=>h.elim) kw a0.p a0.thread 2) rfl Gg rfl fun w16 v17 hb hr18 r=>?_
 have hr18:=hr18.loud;have Z16:=hb.size;have H1:=keep hb H1;have H4:=keep hb H4;have H7:=keep hb H7;have H10:=keep hb H10;have H13:=keep hb H13;obtain ⟨hB,zB⟩:=bon hb hB;refine aa (.func (.func 152) #[] #[zp b1,zp b7,zp b10,zp b4]) r (fun R=>aZ r rfl) rfl fun fr r=>?_;have hF1:∀ b,(kW F w0 w14 b13) b→b<w16.heap.size:=by rintro b (h | ⟨_,h,_⟩); exact q8 (hF b h) hB.size; exact q8 h kw
 have f22:((kW F w0 w14 b13)) b1:=(.inr ⟨kw,kw,kw⟩)
 have f23:((kW F w0 w14 b13)) b7:=(.inr ⟨kw,kw,kw⟩)
 have f24:((kW F w0 w14 b13)) b10:=(.inr ⟨kw,kw,kw⟩)
 have f25:((kW F w0 w14 b13)) b4:=(.inr ⟨kw,kw,kw⟩)
 have hF2:=cu hF hB.size b13;refine kJ r (ym (F:=(kW F w0 w16 b13)) (F2:=(kW F w0 w14 b13)) (n:=n) hF2 yan yah yai (RepL.mono (F':=fun b=>w14.heap.size≤b∧b<w16.heap.size) yam (Same.refl _ _) (Nat.le_refl _) n _ _ hr18) ⟨152,[],[zp b1,zp b7,zp b10,zp b4],Eg,rfl,fun m hm x w' hs hz=>Bn (j:=j) (fun b hb=>q8 (hF1 b hb) hz) kw a0 f22 (hs.at_ f22 H1) a2 f23 (hs.at_ f23 H7) a3 f24 (hs.at_ f24 H10) a1 f25 (hs.at_ f25 H4) x⟩) rfl wV rfl fun w19 v20 hb hr21 r=>?_
 have Z19:=hb.size;have H13:=bc hb H13 yaa
 have hB:=Chg.aT (Z:=F) hB;have hB:=hB.bn hb yad
 have zB:=hB.size;refine kP r hr21.shape rfl rfl H13 ts41 rfl rfl fun w26 u27 r=>?_;have Z26:=u27.size
 have H13:=u27.at_;have hB:=hB.bm u27 (.inl kw)
 have zB:=hB.size;refine wn (d9 ?_);have hs:=hr21.shape.cells;refine ak r rfl rfl H13 (k:=8) hs.1 ta41 ?_;rw [←hs.2.2];exact aw.fin hB hr21 u27 yac yaa kw kw kw
def D.pE (j:Nat) (c0:Seat) (c1:Int) (a0:Int):T Res:=(D.eC j c0 (⟨0,c1⟩:Res))
theorem zC (hF:kH F w0) (hj:n<j)
    (c0:Seat) {c0b:Nat} (c0F:F c0b) (c0h:w0.heap[c0b]?=some (.cells ((bC c0)).toArray 47 (0,0))) (c1:Int) {c1b:Nat} (c1F:F c1b) (c1h:w0.heap[c1b]?=some (.cells ([(.int .u64 c1)]).toArray 34 (0,0))) (a0:Int) :
    Calls y6 252 #[.int .i64 a0,zp c0b,zp c1b] w0 (aw y6 aA n (D.pE j c0 c1 a0) F w0):=by
 refine kN Tryz.func252 rfl 9 rfl rfl fun fr r hB=>?_;have lc0b:=q7 c0h
 have lc1b:=q7 c1h;refine wsr ?_;refine ah (.cells (kq aA) 41 (0,0)) r (fun R=>ag tz41) rfl fun fr b1 w2 n3 r=>?_;obtain ⟨E1,Z2,H1,hB,zB⟩:=n3.all hB
 refine wn (wsr (kG (bC c0) 8 r rfl (keep hB c0h) ta47 rfl rfl fun r=>kL (U c1) r rfl (keep hB c1h) to34 rfl rfl fun r=>kU (u7 (resC (⟨0,c1⟩:Res))) r kz rfl fun r=>?_));refine kJ r (jm (j:=j) (F:=No) (n:=n) (fun _ h=>h.elim) kw c0 (⟨0,c1⟩:Res)) rfl jW rfl fun w4 v5 hb hr6 r=>?_
 have hb:=hb.below;have Z4:=hb.size;have H1:=keep hb H1;obtain ⟨hB,zB⟩:=bon hb hB;refine kP r hr6.shape rfl rfl H1 ts41 rfl rfl fun w7 u8 r=>?_;have Z7:=u8.size
 have H1:=u8.at_;obtain ⟨hB,zB⟩:=u8.on hB kw
 refine wn (d9 ?_);have hs:=hr6.shape.cells;refine ak r rfl rfl H1 (k:=8) hs.1 ta41 ?_;rw [←hs.2.2];exact aw.fin (Chg.aT hB) hr6 u8 (fun _ h=>h.elim) (fun h=>h) kw kw kw
def D.pH (j:Nat) (c0:Seat) (c1:Int) (a0:Walk):T Res:=(D.eC j c0 (⟨0,c1⟩:Res))
theorem zD (hF:kH F w0) (hj:n<j)
    (c0:Seat) {c0b:Nat} (c0F:F c0b) (c0h:w0.heap[c0b]?=some (.cells ((bC c0)).toArray 47 (0,0))) (c1:Int) {c1b:Nat} (c1F:F c1b) (c1h:w0.heap[c1b]?=some (.cells ([(.int .u64 c1)]).toArray 34 (0,0))) (a0:Walk) :
    Calls y6 254 #[u7 (bh a0),zp c0b,zp c1b] w0 (aw y6 aA n (D.pH j c0 c1 a0) F w0):=by
 refine kN Tryz.func254 rfl 9 rfl rfl fun fr r hB=>?_;have lc0b:=q7 c0h
 have lc1b:=q7 c1h;refine wsr ?_;refine kX 221 (u7 (bh a0)) r rfl rfl fun b1 w2 n3 r=>?_;obtain ⟨E1,Z2,H1,hB,zB⟩:=n3.all hB
 refine ah (.cells (kq aA) 41 (0,0)) r (fun R=>ag tz41) rfl fun fr b4 w5 n6 r=>?_;have H1:=keep n6.below H1
 obtain ⟨E4,Z5,H4,hB,zB⟩:=n6.all hB;refine wn (wsr (kG (bC c0) 8 r rfl (keep hB c0h) ta47 rfl rfl fun r=>kL (U c1) r rfl (keep hB c1h) to34 rfl rfl fun r=>kU (u7 (resC (⟨0,c1⟩:Res))) r kz rfl fun r=>?_));refine kJ r (jm (j:=j) (F:=No) (n:=n) (fun _ h=>h.elim) kw c0 (⟨0,c1⟩:Res)) rfl jW rfl fun w7 v8 hb hr9 r=>?_
 have hb:=hb.below;have Z7:=hb.size;have H1:=keep hb H1;have H4:=keep hb H4;obtain ⟨hB,zB⟩:=bon hb hB;refine kP r hr9.shape rfl rfl H4 ts41 rfl rfl fun w10 u11 r=>?_;have Z10:=u11.size
 have H1:=u11.keep H1 kw
 have H4:=u11.at_;obtain ⟨hB,zB⟩:=u11.on hB kw
 refine wn (d9 ?_);have hs:=hr9.shape.cells;refine ak r rfl rfl H4 (k:=8) hs.1 ta41 ?_;rw [←hs.2.2];exact aw.fin (Chg.aT hB) hr9 u11 (fun _ h=>h.elim) (fun h=>h) kw kw kw
def D.jd (j:Nat) (c0:Seat) (c1:Walk) (c2:Int) (a0:Bool):T Res:=(bif a0 then (T.bind (D.gG j c0.p c0.thread (D.aW c1.cur)) (fun x=>(D.pE j c0 c2 x))) else (T.bind (D.fJ j (D.di j j) c1) (fun x=>(D.pH j c0 c2 x))))
theorem Ad (hF:kH F w0) (hj:n<j)
    (c0:Seat) {c0b:Nat} (c0F:F c0b) (c0h:w0.heap[c0b]?=some (.cells ((bC c0)).toArray 47 (0,0))) (c1:Walk) {c1b:Nat} (c1F:F c1b) (c1h:w0.heap[c1b]?=some (.cells ((bh c1)).toArray 221 (0,0))) (c2:Int) {c2b:Nat} (c2F:F c2b) (c2h:w0.heap[c2b]?=some (.cells ([(.int .u64 c2)]).toArray 34 (0,0))) (a0:Bool) :
    Calls y6 251 #[.bool a0,zp c0b,zp c1b,zp c2b] w0 (aw y6 aA n (D.jd j c0 c1 c2 a0) F w0):=by
 refine kN Tryz.func251 rfl 21 rfl rfl fun fr r hB=>?_;have lc0b:=q7 c0h
 have lc1b:=q7 c1h;have lc2b:=q7 c2h;refine wsr ?_;refine ah (.cells (kq aA) 41 (0,0)) r (fun R=>ag tz41) rfl fun fr b1 w2 n3 r=>?_;have c0h:=keep n3.below c0h
 have c1h:=keep n3.below c1h;have c2h:=keep n3.below c2h;obtain ⟨E1,Z2,H1,hB,zB⟩:=n3.all hB;refine wn (a9 (wsr (kM (.bool a0) r rfl rfl fun r=>wn ?_)));refine q4 (t:=a0) (r.ev rfl) (fun h4=>?_) (fun h4=>?_)
 ·
  refine a9 ?_;refine bN 9 [.val (zp c0b),.val (u7 (ae c0.p)),.val (.pointer (some ⟨c0b,7,none⟩)),.val (I c0.thread),.val (.pointer (some ⟨c1b,11,none⟩)),.val (U c1.cur),.val (I (D.aW c1.cur)),.pred (PrepP y6 aj n (D.gG j c0.p c0.thread (D.aW c1.cur)) No w2) (PrepP.st (fun _ h=>h.elim)),.val (.func (.func 252) #[] #[zp c0b,zp c2b])] mixed r kz (kV (kV (kV (kV (kV (kV (kV (kV (kV bM))))))))) ?_ ?_
  ·
   refine ec r (fun _ u _ b d s=>az s (b:=c0b) (o:=0) rfl dJ bz) (ec r (fun _ u _ b d s=>aX s (cs:=(ae c0.p)) (n:=6) d.1 (keep b c0h) ta23 rfl bz) (ec r (fun _ u _ b d s=>az s (b:=c0b) (o:=0) rfl iV bz) (ec r (fun _ u _ b d s=>av s d.1 (keep b c0h) to3 rfl bz) (ec r (fun _ u _ b d s=>az s (b:=c1b) (o:=0) rfl eV bz) (ec r (fun _ u _ b d s=>av s d.1 (keep b c1h) to34 rfl bz) (ec r (fun fr1 u w' hb' hd r'=>aP r' (args:=[(U c1.cur)]) (lc hd.1 l0) cl88 ((fM _ c1.cur).mono yab)) (ec r (fun fr1 u w' hb' hd r'=>aP r' (args:=[(u7 (ae c0.p)),(I c0.thread),(I (D.aW c1.cur))]) (lc hd.1 (lc hd.2.1 (lc hd.2.2.1 l0))) xF ((tE (j:=j) (F:=No) (n:=n) (fun _ h=>h.elim) kw c0.p c0.thread (D.aW c1.cur)).mono yaC)) (ec r (fun _ u _ b d s=>aZ s (v:=(.func (.func 252) #[] #[zp c0b,zp c2b])) rfl bz) ?_))))))));exact bO
  intro fr u w5 hb hΦ hne r;obtain ⟨v6,hv7⟩:∃ v,v=u 7:=⟨_,rfl⟩;have g7:u 7=v6:=hv7.symm;have hr7:=(hΦ 7 ke).2;rw [g7] at hr7
  have hr7:=hr7.loud;have r:=r.congr (sc (hΦ 8 ke) (sc g7 (sc (hΦ 6 ke) (sc (hΦ 5 ke) (sc (hΦ 4 ke) (sc (hΦ 3 ke) (sc (hΦ 2 ke) (sc (hΦ 1 ke) (sc (hΦ 0 ke) rfl)))))))))
  have Z5:=hb.size;have c0h:=keep hb c0h;have c1h:=keep hb c1h;have c2h:=keep hb c2h;have H1:=keep hb H1;obtain ⟨hB,zB⟩:=bon hb hB;have hF1:∀ b,(kW F w0 w2 b1) b→b<w5.heap.size:=by rintro b (h | ⟨_,h,_⟩); exact q8 (hF b h) hB.size; exact q8 h kw
  have f11:((kW F w0 w2 b1)) c0b:=(.inl c0F);have f12:((kW F w0 w2 b1)) c2b:=(.inl c2F);have hF2:=cu hF hB.size b1;refine kJ r (sA (F:=(kW F w0 w5 b1)) (F2:=(kW F w0 w2 b1)) (n:=n) hF2 yan yah yai (RepL.mono (F':=fun b=>w2.heap.size≤b∧b<w5.heap.size) yam (Same.refl _ _) (Nat.le_refl _) n _ _ hr7) ⟨252,[],[zp c0b,zp c2b],EK,rfl,fun m hm x w' hs hz=>zC (j:=j) (fun b hb=>q8 (hF1 b hb) hz) kw c0 f11 (hs.at_ f11 c0h) c2 f12 (hs.at_ f12 c2h) x⟩) rfl rO rfl fun w8 v9 hb hr10 r=>?_
  have Z8:=hb.size;have H1:=bc hb H1 yaa
  have hB:=Chg.aT (Z:=F) hB;have hB:=hB.bn hb yad
  have zB:=hB.size;refine kP r hr10.shape rfl rfl H1 ts41 rfl rfl fun w13 u14 r=>?_;have Z13:=u14.size
  have H1:=u14.at_;have hB:=hB.bm u14 (.inl kw)
  have zB:=hB.size;refine wn (d9 ?_);have hd:D.jd j c0 c1 c2 a0=(T.bind (D.gG j c0.p c0.thread (D.aW c1.cur)) (fun x=>(D.pE j c0 c2 x))):=(ar h4).trans (rfl)
  have hs:=hr10.shape.cells;refine ak r rfl rfl H1 (k:=8) hs.1 ta41 ?_;rw [←hs.2.2,hd];exact aw.fin hB hr10 u14 yac yaa kw kw kw
 refine q6 (wsr (kG (bh c1) 14 r rfl c1h dB rfl rfl fun r=>?_));refine kJ r (mQ (j:=j) (F:=No) (n:=n) (fun _ h=>h.elim) kw (fun m' hm'=>mI (j:=j) (k:=j) kw kw) c1) rfl oL rfl fun w15 v16 hb hr17 r=>?_
 have hb:=hb.below;have Z15:=hb.size;have c0h:=keep hb c0h;have c1h:=keep hb c1h;have c2h:=keep hb c2h;have H1:=keep hb H1;obtain ⟨hB,zB⟩:=bon hb hB;refine aa (.func (.func 254) #[] #[zp c0b,zp c2b]) r (fun R=>aZ r rfl) rfl fun fr r=>?_;have hF1:∀ b,(kW F w0 w2 b1) b→b<w15.heap.size:=by rintro b (h | ⟨_,h,_⟩); exact q8 (hF b h) hB.size; exact q8 h kw
 have f21:((kW F w0 w2 b1)) c0b:=(.inl c0F);have f22:((kW F w0 w2 b1)) c2b:=(.inl c2F);have hF2:=cu hF hB.size b1;refine kJ r (mr (F:=(kW F w0 w15 b1)) (F2:=(kW F w0 w2 b1)) (n:=n) hF2 yan yah yai (RepL.mono (F':=fun b=>w2.heap.size≤b∧b<w15.heap.size) yam (Same.refl _ _) (Nat.le_refl _) n _ _ hr17) ⟨254,[],[zp c0b,zp c2b],Eo,rfl,fun m hm x w' hs hz=>zD (j:=j) (fun b hb=>q8 (hF1 b hb) hz) kw c0 f21 (hs.at_ f21 c0h) c2 f22 (hs.at_ f22 c2h) x⟩) rfl ma rfl fun w18 v19 hb hr20 r=>?_
 have Z18:=hb.size;have H1:=bc hb H1 yaa
 have hB:=Chg.aT (Z:=F) hB;have hB:=hB.bn hb yad
 have zB:=hB.size;refine kP r hr20.shape rfl rfl H1 ts41 rfl rfl fun w23 u24 r=>?_;have Z23:=u24.size
 have H1:=u24.at_;have hB:=hB.bm u24 (.inl kw)
 have zB:=hB.size;refine wn (d9 ?_);have hd:D.jd j c0 c1 c2 a0=(T.bind (D.fJ j (D.di j j) c1) (fun x=>(D.pH j c0 c2 x))):=(ai h4).trans (rfl)
 have hs:=hr20.shape.cells;refine ak r rfl rfl H1 (k:=8) hs.1 ta41 ?_;rw [←hs.2.2,hd];exact aw.fin hB hr20 u24 yac yaa kw kw kw
def D.lf (j:Nat) (a0:Seat) (a1:Walk) (a2:Int):T Res:=(D.jk a1.place a1.cur a1.next (fun x=>(D.jd j a0 a1 a2 x)))
theorem Aw (hF:kH F w0) (hj:n<j)
    (a0:Seat) (a1:Walk) (a2:Int) :
    Calls y6 163 #[u7 (bC a0),u7 (bh a1),.int .u64 a2] w0 (aw y6 aA n (D.lf j a0 a1 a2) F w0):=by
 refine kN Tryz.func163 rfl 15 rfl rfl fun fr r hB=>?_;refine wsr ?_
 refine kX 47 (u7 (bC a0)) r rfl rfl fun b1 w2 n3 r=>?_;obtain ⟨E1,Z2,H1,hB,zB⟩:=n3.all hB
 refine kX 221 (u7 (bh a1)) r rfl rfl fun b4 w5 n6 r=>?_;have H1:=keep n6.below H1
 obtain ⟨E4,Z5,H4,hB,zB⟩:=n6.all hB;refine kX 34 (U a2) r rfl rfl fun b7 w8 n9 r=>?_;have H1:=keep n9.below H1
 have H4:=keep n9.below H4;obtain ⟨E7,Z8,H7,hB,zB⟩:=n9.all hB;refine ah (.cells (kq aA) 41 (0,0)) r (fun R=>ag tz41) rfl fun fr b10 w11 n12 r=>?_;have H1:=keep n12.below H1
 have H4:=keep n12.below H4;have H7:=keep n12.below H7;obtain ⟨E10,Z11,H10,hB,zB⟩:=n12.all hB;refine wn (wsr (kF 0 r rfl lM rfl fun r=>kL (I a1.place) r rfl H4 to3 rfl rfl fun r=>kF 0 r rfl eV rfl fun r=>kL (U a1.cur) r rfl H4 to34 rfl rfl fun r=>kF 0 r rfl gZ rfl fun r=>kL (U a1.next) r rfl H4 to34 rfl rfl fun r=>aa (.func (.func 251) #[] #[zp b1,zp b4,zp b7]) r (fun R=>aZ r rfl) rfl fun fr r=>?_));have hF1:=cu hF hB.size b10
 have f16:((kW F w0 w11 b10)) b1:=(.inr ⟨kw,kw,kw⟩)
 have f17:((kW F w0 w11 b10)) b4:=(.inr ⟨kw,kw,kw⟩)
 have f18:((kW F w0 w11 b10)) b7:=(.inr ⟨kw,kw,kw⟩)
 refine kJ r (pJ (F:=(kW F w0 w11 b10)) (n:=n) hF1 a1.place a1.cur a1.next ⟨251,[],[zp b1,zp b4,zp b7],Ed,rfl,fun m hm x w' hs hz=>Ad (j:=j) (fun b hb=>q8 (hF1 b hb) hz) kw a0 f16 (hs.at_ f16 H1) a1 f17 (hs.at_ f17 H4) a2 f18 (hs.at_ f18 H7) x⟩) rfl rK rfl fun w13 v14 hb hr15 r=>?_;have Z13:=hb.size
 have H10:=bc hb H10 yaa
 have hB:=Chg.aT (Z:=F) hB;have hB:=hB.bn hb yad
 have zB:=hB.size;refine kP r hr15.shape rfl rfl H10 ts41 rfl rfl fun w19 u20 r=>?_;have Z19:=u20.size
 have H10:=u20.at_;have hB:=hB.bm u20 (.inl kw)
 have zB:=hB.size;refine wn (d9 ?_);have hs:=hr15.shape.cells;refine ak r rfl rfl H10 (k:=8) hs.1 ta41 ?_;rw [←hs.2.2];exact aw.fin hB hr15 u20 yac yaa kw kw kw
def D.l5 (j:Nat) (GP:Seat→Int→Int→T Res) (c0:Seat) (c1:Int) (c2:Int) (c3:Walk) (c4:Int) (a0:Bool):T Res:=(bif (!a0) then (GP c0 c1 c2) else (D.lf j c0 c3 c4))
def D.nE (j:Nat) (GP:Seat→Int→Int→T Res) (c0:Seat) (c1:Int) (c2:Walk) (c3:Int) (c4:Int) (a0:Int):T Res:=(D.jk (D.bo c0.p c1 2) c2.next (dQ .u64 c2.next 1) (fun x=>(D.l5 j GP c0 c3 c4 c2 a0 x)))
def D.iI (j:Nat) (GP:Seat→Int→Int→T Res) (c0:Seat) (c1:Int) (c2:Int) (a0:Walk):T Res:=(bif (!a0.there) then (D.eC j c0 (⟨6,0⟩:Res)) else (D.gC (D.bo c0.p (D.aW a0.cur) 1) (fun x=>(D.nE j GP c0 (D.aW a0.cur) a0 c1 c2 x))))
def D.tO (j:Nat) (GP:Seat→Int→Int→T Res) (a0:Seat) (a1:Int) (a2:Int):T Res:=(T.bind (D.jA j (D.di j j) a0 a1 a2) (fun x=>(D.iI j GP a0 a1 a2 x)))
def D.fq (j:Nat):Nat→Seat→Int→Int→T Res
 | 0,_,_,_=>.cut
 | k+1,a0,a1,a2=>D.tO j (D.fq j k) a0 a1 a2
def l9 (r:Seat→Int→Int→T Res) (n:Nat):Prop:=∀ (F:Nat→Prop) (w0:World),(∀ b,F b→b<w0.heap.size)→∀ (a0:Seat) (a1:Int) (a2:Int),Calls y6 86 #[u7 (bC a0),.int .i64 a1,.int .u64 a2] w0 (aw y6 aA n (r a0 a1 a2) F w0)
theorem Af {GP:Seat→Int→Int→T Res} (hF:kH F w0) (hj:n<j) (Hd:∀ m,m≤n→l9 GP m)
    (c0:Seat) {c0b:Nat} (c0F:F c0b) (c0h:w0.heap[c0b]?=some (.cells ((bC c0)).toArray 47 (0,0))) (c1:Int) {c1b:Nat} (c1F:F c1b) (c1h:w0.heap[c1b]?=some (.cells ([(.int .i64 c1)]).toArray 3 (0,0))) (c2:Int) {c2b:Nat} (c2F:F c2b) (c2h:w0.heap[c2b]?=some (.cells ([(.int .u64 c2)]).toArray 34 (0,0))) (c3:Walk) {c3b:Nat} (c3F:F c3b) (c3h:w0.heap[c3b]?=some (.cells ((bh c3)).toArray 221 (0,0))) (c4:Int) {c4b:Nat} (c4F:F c4b) (c4h:w0.heap[c4b]?=some (.cells ([(.int .u64 c4)]).toArray 34 (0,0))) (a0:Bool) :
    Calls y6 162 #[.bool a0,zp c0b,zp c1b,zp c2b,zp c3b,zp c4b] w0 (aw y6 aA n (D.l5 j GP c0 c1 c2 c3 c4 a0) F w0):=by
 refine kN Tryz.func162 rfl 18 rfl rfl fun fr r hB=>?_;have lc0b:=q7 c0h
 have lc1b:=q7 c1h;have lc2b:=q7 c2h;have lc3b:=q7 c3h;have lc4b:=q7 c4h;refine wsr ?_;refine ah (.cells (kq aA) 41 (0,0)) r (fun R=>ag tz41) rfl fun fr b1 w2 n3 r=>?_;obtain ⟨E1,Z2,H1,hB,zB⟩:=n3.all hB
 refine wn (a9 (wsr (kM (.bool a0) r rfl rfl fun r=>aa (.bool (!a0)) r (fun R=>y_un r (u:=(.bool a0)) rfl rfl) rfl fun fr r=>wn ?_)));refine q4 (t:=(!a0)) (r.ev rfl) (fun h4=>?_) (fun h4=>?_)
 ·
  refine wsr (kG (bC c0) 8 r rfl (keep hB c0h) ta47 rfl rfl fun r=>kL (I c1) r rfl (keep hB c1h) to3 rfl rfl fun r=>kL (U c2) r rfl (keep hB c2h) to34 rfl rfl fun r=>?_);refine kJ r ((Hd n kw) (No) _ (fun _ h=>h.elim) c0 c1 c2) rfl cl86 rfl fun w5 v6 hb hr7 r=>?_
  have hb:=hb.below;have Z5:=hb.size;have H1:=keep hb H1;obtain ⟨hB,zB⟩:=bon hb hB;refine kP r hr7.shape rfl rfl H1 ts41 rfl rfl fun w8 u9 r=>?_;have Z8:=u9.size
  have H1:=u9.at_;obtain ⟨hB,zB⟩:=u9.on hB kw
  refine wn (d9 ?_);have hd:D.l5 j GP c0 c1 c2 c3 c4 a0=(GP c0 c1 c2):=(ar h4).trans (rfl);have hs:=hr7.shape.cells;refine ak r rfl rfl H1 (k:=8) hs.1 ta41 ?_;rw [←hs.2.2,hd];exact aw.fin (Chg.aT hB) hr7 u9 (fun _ h=>h.elim) (fun h=>h) kw kw kw
 refine q6 (wsr (kG (bC c0) 8 r rfl (keep hB c0h) ta47 rfl rfl fun r=>kG (bh c3) 14 r rfl (keep hB c3h) dB rfl rfl fun r=>kL (U c4) r rfl (keep hB c4h) to34 rfl rfl fun r=>?_));refine kJ r (Aw (j:=j) (F:=No) (n:=n) (fun _ h=>h.elim) kw c0 c3 c4) rfl Fq rfl fun w10 v11 hb hr12 r=>?_
 have hb:=hb.below;have Z10:=hb.size;have H1:=keep hb H1;obtain ⟨hB,zB⟩:=bon hb hB;refine kP r hr12.shape rfl rfl H1 ts41 rfl rfl fun w13 u14 r=>?_;have Z13:=u14.size
 have H1:=u14.at_;obtain ⟨hB,zB⟩:=u14.on hB kw
 refine wn (d9 ?_);have hd:D.l5 j GP c0 c1 c2 c3 c4 a0=(D.lf j c0 c3 c4):=(ai h4).trans (rfl);have hs:=hr12.shape.cells;refine ak r rfl rfl H1 (k:=8) hs.1 ta41 ?_;rw [←hs.2.2,hd];exact aw.fin (Chg.aT hB) hr12 u14 (fun _ h=>h.elim) (fun h=>h) kw kw kw
theorem AK {GP:Seat→Int→Int→T Res} (hF:kH F w0) (hj:n<j) (Hd:∀ m,m<n→l9 GP m)
    (c0:Seat) {c0b:Nat} (c0F:F c0b) (c0h:w0.heap[c0b]?=some (.cells ((bC c0)).toArray 47 (0,0))) (c1:Int) {c1b:Nat} (c1F:F c1b) (c1h:w0.heap[c1b]?=some (.cells ([(.int .i64 c1)]).toArray 3 (0,0))) (c2:Walk) {c2b:Nat} (c2F:F c2b) (c2h:w0.heap[c2b]?=some (.cells ((bh c2)).toArray 221 (0,0))) (c3:Int) {c3b:Nat} (c3F:F c3b) (c3h:w0.heap[c3b]?=some (.cells ([(.int .i64 c3)]).toArray 3 (0,0))) (c4:Int) {c4b:Nat} (c4F:F c4b) (c4h:w0.heap[c4b]?=some (.cells ([(.int .u64 c4)]).toArray 34 (0,0))) (a0:Int) :
    Calls y6 161 #[.int .u64 a0,zp c0b,zp c1b,zp c2b,zp c3b,zp c4b] w0 (aw y6 aA n (D.nE j GP c0 c1 c2 c3 c4 a0) F w0):=by
 refine kN Tryz.func161 rfl 19 rfl rfl fun fr r hB=>?_;have lc0b:=q7 c0h
 have lc1b:=q7 c1h;have lc2b:=q7 c2h;have lc3b:=q7 c3h;have lc4b:=q7 c4h;refine wsr ?_;refine kX 34 (U a0) r rfl rfl fun b1 w2 n3 r=>?_;have c0h:=keep n3.below c0h
 have c1h:=keep n3.below c1h;have c2h:=keep n3.below c2h;have c3h:=keep n3.below c3h;have c4h:=keep n3.below c4h;obtain ⟨E1,Z2,H1,hB,zB⟩:=n3.all hB;refine ah (.cells (kq aA) 41 (0,0)) r (fun R=>ag tz41) rfl fun fr b4 w5 n6 r=>?_;have c0h:=keep n6.below c0h
 have c1h:=keep n6.below c1h;have c2h:=keep n6.below c2h;have c3h:=keep n6.below c3h;have c4h:=keep n6.below c4h;have H1:=keep n6.below H1;obtain ⟨E4,Z5,H4,hB,zB⟩:=n6.all hB;refine wn (a9 ?_);refine bN 10 [.val (zp c0b),.val (u7 (ae c0.p)),.val (I c1),.val (I (D.bo c0.p c1 2)),.val (.pointer (some ⟨c2b,12,none⟩)),.val (U c2.next),.val (.pointer (some ⟨c2b,12,none⟩)),.val (U c2.next),.val (U (dQ .u64 c2.next 1)),.val (.func (.func 162) #[] #[zp c0b,zp c3b,zp c4b,zp c2b,zp b1])] mixed r kz (kV (kV (kV (kV (kV (kV (kV (kV (kV (kV bM)))))))))) ?_ ?_
 ·
  refine ec r (fun _ u _ b d s=>az s (b:=c0b) (o:=0) rfl dJ bz) (ec r (fun _ u _ b d s=>aX s (cs:=(ae c0.p)) (n:=6) d.1 (keep b c0h) ta23 rfl bz) (ec r (fun _ u _ b d s=>av s rfl (keep b c1h) to3 rfl bz) (ec r (fun fr1 u w' hb' hd r'=>aP r' (args:=[(u7 (ae c0.p)),(I c1),(I 2)]) (lc hd.1 (lc hd.2.1 (lc rfl l0))) cl89 ((eu _ c0.p c1 2).mono yab)) (ec r (fun _ u _ b d s=>az s (b:=c2b) (o:=0) rfl gZ bz) (ec r (fun _ u _ b d s=>av s d.1 (keep b c2h) to34 rfl bz) (ec r (fun _ u _ b d s=>az s (b:=c2b) (o:=0) rfl gZ bz) (ec r (fun _ u _ b d s=>av s d.1 (keep b c2h) to34 rfl bz) (ec r (fun _ u _ b d s=>bd s d.1 rfl rfl rfl bz) (ec r (fun _ u _ b d s=>aZ s (v:=(.func (.func 162) #[] #[zp c0b,zp c3b,zp c4b,zp c2b,zp b1])) rfl bz) ?_)))))))));exact bO
 intro fr u w7 hb hΦ hne r;have r:=r.congr (sc (hΦ 9 ke) (sc (hΦ 8 ke) (sc (hΦ 7 ke) (sc (hΦ 6 ke) (sc (hΦ 5 ke) (sc (hΦ 4 ke) (sc (hΦ 3 ke) (sc (hΦ 2 ke) (sc (hΦ 1 ke) (sc (hΦ 0 ke) rfl))))))))));have Z7:=hb.size;have c0h:=keep hb c0h;have c1h:=keep hb c1h;have c2h:=keep hb c2h;have c3h:=keep hb c3h;have c4h:=keep hb c4h;have H1:=keep hb H1;have H4:=keep hb H4;obtain ⟨hB,zB⟩:=bon hb hB;have hF1:=cu hF hB.size b4;have f11:((kW F w0 w7 b4)) c0b:=(.inl c0F);have f12:((kW F w0 w7 b4)) c3b:=(.inl c3F);have f13:((kW F w0 w7 b4)) c4b:=(.inl c4F);have f14:((kW F w0 w7 b4)) c2b:=(.inl c2F);have f15:((kW F w0 w7 b4)) b1:=(.inr ⟨kw,kw,kw⟩)
 refine kJ r (pJ (F:=(kW F w0 w7 b4)) (n:=n) hF1 (D.bo c0.p c1 2) c2.next (dQ .u64 c2.next 1) ⟨162,[],[zp c0b,zp c3b,zp c4b,zp c2b,zp b1],Fy,rfl,fun m hm x w' hs hz=>Af (j:=j) (fun b hb=>q8 (hF1 b hb) hz) kw (fun m' hm'=>Hd m' kw) c0 f11 (hs.at_ f11 c0h) c3 f12 (hs.at_ f12 c3h) c4 f13 (hs.at_ f13 c4h) c2 f14 (hs.at_ f14 c2h) a0 f15 (hs.at_ f15 H1) x⟩) rfl rK rfl fun w8 v9 hb hr10 r=>?_;have Z8:=hb.size
 have H4:=bc hb H4 yaa
 have hB:=Chg.aT (Z:=F) hB;have hB:=hB.bn hb yad
 have zB:=hB.size;refine kP r hr10.shape rfl rfl H4 ts41 rfl rfl fun w16 u17 r=>?_;have Z16:=u17.size
 have H4:=u17.at_;have hB:=hB.bm u17 (.inl kw)
 have zB:=hB.size;refine wn (d9 ?_);have hs:=hr10.shape.cells;refine ak r rfl rfl H4 (k:=8) hs.1 ta41 ?_;rw [←hs.2.2];exact aw.fin hB hr10 u17 yac yaa kw kw kw
theorem Bk {GP:Seat→Int→Int→T Res} (hF:kH F w0) (hj:n<j) (Hd:∀ m,m<n→l9 GP m)
    (c0:Seat) {c0b:Nat} (c0F:F c0b) (c0h:w0.heap[c0b]?=some (.cells ((bC c0)).toArray 47 (0,0))) (c1:Int) {c1b:Nat} (c1F:F c1b) (c1h:w0.heap[c1b]?=some (.cells ([(.int .i64 c1)]).toArray 3 (0,0))) (c2:Int) {c2b:Nat} (c2F:F c2b) (c2h:w0.heap[c2b]?=some (.cells ([(.int .u64 c2)]).toArray 34 (0,0))) (a0:Walk) :
    Calls y6 159 #[u7 (bh a0),zp c0b,zp c1b,zp c2b] w0 (aw y6 aA n (D.iI j GP c0 c1 c2 a0) F w0):=by
 refine kN Tryz.func159 rfl 22 rfl rfl fun fr r hB=>?_;have lc0b:=q7 c0h
 have lc1b:=q7 c1h;have lc2b:=q7 c2h;refine wsr ?_;refine kX 221 (u7 (bh a0)) r rfl rfl fun b1 w2 n3 r=>?_;have c0h:=keep n3.below c0h
 have c1h:=keep n3.below c1h;have c2h:=keep n3.below c2h;obtain ⟨E1,Z2,H1,hB,zB⟩:=n3.all hB;refine ah (.cells (kq aA) 41 (0,0)) r (fun R=>ag tz41) rfl fun fr b4 w5 n6 r=>?_;have c0h:=keep n6.below c0h
 have c1h:=keep n6.below c1h;have c2h:=keep n6.below c2h;have H1:=keep n6.below H1;obtain ⟨E4,Z5,H4,hB,zB⟩:=n6.all hB;refine wn (a9 (wsr (kF 0 r rfl lL rfl fun r=>kL (.bool a0.there) r rfl H1 to4 rfl rfl fun r=>aa (.bool (!a0.there)) r (fun R=>y_un r (u:=(.bool a0.there)) rfl rfl) rfl fun fr r=>wn ?_)));refine q4 (t:=(!a0.there)) (r.ev rfl) (fun h7=>?_) (fun h7=>?_)
 ·
  refine wsr (kG (bC c0) 8 r rfl c0h ta47 rfl rfl fun r=>kU (u7 (resC (⟨6,0⟩:Res))) r kz rfl fun r=>?_);refine kJ r (jm (j:=j) (F:=No) (n:=n) (fun _ h=>h.elim) kw c0 (⟨6,0⟩:Res)) rfl jW rfl fun w8 v9 hb hr10 r=>?_
  have hb:=hb.below;have Z8:=hb.size;have c0h:=keep hb c0h;have c1h:=keep hb c1h;have c2h:=keep hb c2h;have H1:=keep hb H1;have H4:=keep hb H4;obtain ⟨hB,zB⟩:=bon hb hB;refine kP r hr10.shape rfl rfl H4 ts41 rfl rfl fun w11 u12 r=>?_;have Z11:=u12.size
  have c0h:=u12.keep c0h kw
  have c1h:=u12.keep c1h kw
  have c2h:=u12.keep c2h kw
  have H1:=u12.keep H1 kw
  have H4:=u12.at_;obtain ⟨hB,zB⟩:=u12.on hB kw
  refine wn (d9 ?_);have hd:D.iI j GP c0 c1 c2 a0=(D.eC j c0 (⟨6,0⟩:Res)):=(ar h7).trans (rfl);have hs:=hr10.shape.cells;refine ak r rfl rfl H4 (k:=8) hs.1 ta41 ?_;rw [←hs.2.2,hd];exact aw.fin (Chg.aT hB) hr10 u12 (fun _ h=>h.elim) (fun h=>h) kw kw kw
 refine q6 (wsr (kF 0 r rfl eV rfl fun r=>kL (U a0.cur) r rfl H1 to34 rfl rfl fun r=>?_));refine kE r (fM w5 a0.cur) rfl cl88 rfl fun w13 hb r=>?_
 have Z13:=hb.size;have c0h:=keep hb c0h;have c1h:=keep hb c1h;have c2h:=keep hb c2h;have H1:=keep hb H1;have H4:=keep hb H4;obtain ⟨hB,zB⟩:=bon hb hB;refine ah (.cells #[(I 0)] 3 (0,0)) r (fun R=>ag tz3) rfl fun fr b14 w15 n16 r=>?_;have c0h:=keep n16.below c0h
 have c1h:=keep n16.below c1h;have c2h:=keep n16.below c2h;have H1:=keep n16.below H1;have H4:=keep n16.below H4;obtain ⟨E14,Z15,H14,hB,zB⟩:=n16.all hB;refine aJ (.cells #[(I (D.aW a0.cur))] 3 (0,0)) r (fun R=>bb r (o:=0) (v:=(I (D.aW a0.cur))) rfl rfl H14 ts3 r9 rfl rfl) rfl fun fr w17 u18 r=>?_;have Z17:=u18.size
 have c0h:=u18.keep c0h kw
 have c1h:=u18.keep c1h kw
 have c2h:=u18.keep c2h kw
 have H1:=u18.keep H1 kw
 have H4:=u18.keep H4 kw
 have H14:=u18.at_;obtain ⟨hB,zB⟩:=u18.on hB kw
 refine wn (wsr (kF 0 r rfl dJ rfl fun r=>kG (ae c0.p) 6 r rfl c0h ta23 rfl rfl fun r=>kL (I (D.aW a0.cur)) r rfl H14 to3 rfl rfl fun r=>?_));refine kE r (eu w17 c0.p (D.aW a0.cur) 1) rfl cl89 rfl fun w19 hb r=>?_
 have Z19:=hb.size;have c0h:=keep hb c0h;have c1h:=keep hb c1h;have c2h:=keep hb c2h;have H1:=keep hb H1;have H4:=keep hb H4;have H14:=keep hb H14;obtain ⟨hB,zB⟩:=bon hb hB;refine aa (.func (.func 161) #[] #[zp c0b,zp b14,zp b1,zp c1b,zp c2b]) r (fun R=>aZ r rfl) rfl fun fr r=>?_;have hF1:=cu hF hB.size b4
 have f23:((kW F w0 w19 b4)) c0b:=(.inl c0F);have f24:((kW F w0 w19 b4)) b14:=(.inr ⟨kw,kw,kw⟩)
 have f25:((kW F w0 w19 b4)) b1:=(.inr ⟨kw,kw,kw⟩)
 have f26:((kW F w0 w19 b4)) c1b:=(.inl c1F);have f27:((kW F w0 w19 b4)) c2b:=(.inl c2F);refine kJ r (t9 (F:=(kW F w0 w19 b4)) (n:=n) hF1 (D.bo c0.p (D.aW a0.cur) 1) ⟨161,[],[zp c0b,zp b14,zp b1,zp c1b,zp c2b],ET,rfl,fun m hm x w' hs hz=>AK (j:=j) (fun b hb=>q8 (hF1 b hb) hz) kw (fun m' hm'=>Hd m' kw) c0 f23 (hs.at_ f23 c0h) (D.aW a0.cur) f24 (hs.at_ f24 H14) a0 f25 (hs.at_ f25 H1) c1 f26 (hs.at_ f26 c1h) c2 f27 (hs.at_ f27 c2h) x⟩) rfl cl99 rfl fun w20 v21 hb hr22 r=>?_;have Z20:=hb.size
 have H4:=bc hb H4 yaa
 have hB:=Chg.aT (Z:=F) hB;have hB:=hB.bn hb yad
 have zB:=hB.size;refine kP r hr22.shape rfl rfl H4 ts41 rfl rfl fun w28 u29 r=>?_;have Z28:=u29.size
 have H4:=u29.at_;have hB:=hB.bm u29 (.inl kw)
 have zB:=hB.size;refine wn (d9 ?_);have hd:D.iI j GP c0 c1 c2 a0=(D.gC (D.bo c0.p (D.aW a0.cur) 1) (fun x=>(D.nE j GP c0 (D.aW a0.cur) a0 c1 c2 x))):=(ai h7).trans (rfl)
 have hs:=hr22.shape.cells;refine ak r rfl rfl H4 (k:=8) hs.1 ta41 ?_;rw [←hs.2.2,hd];exact aw.fin hB hr22 u29 yac yaa kw kw kw
theorem Cc {n:Nat} {F:Nat→Prop} {j:Nat} {GP:Seat→Int→Int→T Res} {w0:World} (hF:∀ b,F b→b<w0.heap.size) (hj:n<j) (Hd:∀ m,m<n→l9 GP m)
    (a0:Seat) (a1:Int) (a2:Int) :
    Calls y6 86 #[u7 (bC a0),.int .i64 a1,.int .u64 a2] w0 (aw y6 aA n (D.tO j GP a0 a1 a2) F w0):=by
 refine kN Tryz.func86 rfl 13 rfl rfl fun fr r hB=>?_;refine wsr ?_
 refine kX 47 (u7 (bC a0)) r rfl rfl fun b1 w2 n3 r=>?_;obtain ⟨E1,Z2,H1,hB,zB⟩:=n3.all hB
 refine kX 3 (I a1) r rfl rfl fun b4 w5 n6 r=>?_;have H1:=keep n6.below H1
 obtain ⟨E4,Z5,H4,hB,zB⟩:=n6.all hB;refine kX 34 (U a2) r rfl rfl fun b7 w8 n9 r=>?_;have H1:=keep n9.below H1
 have H4:=keep n9.below H4;obtain ⟨E7,Z8,H7,hB,zB⟩:=n9.all hB;refine ah (.cells (kq aA) 41 (0,0)) r (fun R=>ag tz41) rfl fun fr b10 w11 n12 r=>?_;have H1:=keep n12.below H1
 have H4:=keep n12.below H4;have H7:=keep n12.below H7;obtain ⟨E10,Z11,H10,hB,zB⟩:=n12.all hB;refine wn (wsr (kG (bC a0) 8 r rfl H1 ta47 rfl rfl fun r=>kL (I a1) r rfl H4 to3 rfl rfl fun r=>kL (U a2) r rfl H7 to34 rfl rfl fun r=>?_));refine kJ r (nC (j:=j) (F:=No) (n:=n) (fun _ h=>h.elim) kw (fun m' hm'=>mI (j:=j) (k:=j) kw kw) a0 a1 a2) rfl oT rfl fun w13 v14 hb hr15 r=>?_
 have hb:=hb.below;have Z13:=hb.size;have H1:=keep hb H1;have H4:=keep hb H4;have H7:=keep hb H7;have H10:=keep hb H10;obtain ⟨hB,zB⟩:=bon hb hB;refine aa (.func (.func 159) #[] #[zp b1,zp b4,zp b7]) r (fun R=>aZ r rfl) rfl fun fr r=>?_;have hF1:∀ b,(kW F w0 w11 b10) b→b<w13.heap.size:=by rintro b (h | ⟨_,h,_⟩); exact q8 (hF b h) hB.size; exact q8 h kw
 have f19:((kW F w0 w11 b10)) b1:=(.inr ⟨kw,kw,kw⟩)
 have f20:((kW F w0 w11 b10)) b4:=(.inr ⟨kw,kw,kw⟩)
 have f21:((kW F w0 w11 b10)) b7:=(.inr ⟨kw,kw,kw⟩)
 have hF2:=cu hF hB.size b10;refine kJ r (mr (F:=(kW F w0 w13 b10)) (F2:=(kW F w0 w11 b10)) (n:=n) hF2 yan yah yai (RepL.mono (F':=fun b=>w11.heap.size≤b∧b<w13.heap.size) yam (Same.refl _ _) (Nat.le_refl _) n _ _ hr15) ⟨159,[],[zp b1,zp b4,zp b7],EX,rfl,fun m hm x w' hs hz=>Bk (j:=j) (fun b hb=>q8 (hF1 b hb) hz) kw (fun m' hm'=>Hd m' kw) a0 f19 (hs.at_ f19 H1) a1 f20 (hs.at_ f20 H4) a2 f21 (hs.at_ f21 H7) x⟩) rfl ma rfl fun w16 v17 hb hr18 r=>?_
 have Z16:=hb.size;have H10:=bc hb H10 yaa
 have hB:=Chg.aT (Z:=F) hB;have hB:=hB.bn hb yad
 have zB:=hB.size;refine kP r hr18.shape rfl rfl H10 ts41 rfl rfl fun w22 u23 r=>?_;have Z22:=u23.size
 have H10:=u23.at_;have hB:=hB.bm u23 (.inl kw)
 have zB:=hB.size;refine wn (d9 ?_);have hs:=hr18.shape.cells;refine ak r rfl rfl H10 (k:=8) hs.1 ta41 ?_;rw [←hs.2.2];exact aw.fin hB hr18 u23 yac yaa kw kw kw
theorem BM {n:Nat} {j:Nat} (hj:n<j) {k:Nat} (hk:n<k):l9 (D.fq j k) n:=by
 induction n using Nat.strongRecOn generalizing k with
 | _ n ih=>
  obtain ⟨k,rfl⟩:∃ q,k=q+1:=⟨k - 1,kw⟩
  intro F w0 hF;have h:=@Cc n F j (D.fq j k) w0 hF hj (fun m hm=>ih m hm kw kw)
  exact h
def D.qf (j:Nat) (c0:Seat) (a0:Int):T Res:=(D.eC j c0 (⟨0,a0⟩:Res))
theorem AO (hF:kH F w0) (hj:n<j)
    (c0:Seat) {c0b:Nat} (c0F:F c0b) (c0h:w0.heap[c0b]?=some (.cells ((bC c0)).toArray 47 (0,0))) (a0:Int) :
    Calls y6 165 #[.int .u64 a0,zp c0b] w0 (aw y6 aA n (D.qf j c0 a0) F w0):=by
 refine kN Tryz.func165 rfl 8 rfl rfl fun fr r hB=>?_;have lc0b:=q7 c0h
 refine wsr ?_;refine ah (.cells (kq aA) 41 (0,0)) r (fun R=>ag tz41) rfl fun fr b1 w2 n3 r=>?_;obtain ⟨E1,Z2,H1,hB,zB⟩:=n3.all hB
 refine wn (wsr (kG (bC c0) 8 r rfl (keep hB c0h) ta47 rfl rfl fun r=>kM (U a0) r rfl rfl fun r=>kU (u7 (resC (⟨0,a0⟩:Res))) r kz rfl fun r=>?_));refine kJ r (jm (j:=j) (F:=No) (n:=n) (fun _ h=>h.elim) kw c0 (⟨0,a0⟩:Res)) rfl jW rfl fun w4 v5 hb hr6 r=>?_
 have hb:=hb.below;have Z4:=hb.size;have H1:=keep hb H1;obtain ⟨hB,zB⟩:=bon hb hB;refine kP r hr6.shape rfl rfl H1 ts41 rfl rfl fun w7 u8 r=>?_;have Z7:=u8.size
 have H1:=u8.at_;obtain ⟨hB,zB⟩:=u8.on hB kw
 refine wn (d9 ?_);have hs:=hr6.shape.cells;refine ak r rfl rfl H1 (k:=8) hs.1 ta41 ?_;rw [←hs.2.2];exact aw.fin (Chg.aT hB) hr6 u8 (fun _ h=>h.elim) (fun h=>h) kw kw kw
def D.gO (j:Nat) (c0:Seat) (a0:Walk):T Res:=(bif (!a0.there) then (D.eC j c0 (⟨6,0⟩:Res)) else (D.gC (D.bo c0.p (D.aW a0.cur) 1) (fun x=>(D.qf j c0 x))))
theorem Bj (hF:kH F w0) (hj:n<j)
    (c0:Seat) {c0b:Nat} (c0F:F c0b) (c0h:w0.heap[c0b]?=some (.cells ((bC c0)).toArray 47 (0,0))) (a0:Walk) :
    Calls y6 164 #[u7 (bh a0),zp c0b] w0 (aw y6 aA n (D.gO j c0 a0) F w0):=by
 refine kN Tryz.func164 rfl 18 rfl rfl fun fr r hB=>?_;have lc0b:=q7 c0h
 refine wsr ?_;refine kX 221 (u7 (bh a0)) r rfl rfl fun b1 w2 n3 r=>?_;have c0h:=keep n3.below c0h
 obtain ⟨E1,Z2,H1,hB,zB⟩:=n3.all hB;refine ah (.cells (kq aA) 41 (0,0)) r (fun R=>ag tz41) rfl fun fr b4 w5 n6 r=>?_;have c0h:=keep n6.below c0h
 have H1:=keep n6.below H1;obtain ⟨E4,Z5,H4,hB,zB⟩:=n6.all hB;refine wn (a9 (wsr (kF 0 r rfl lL rfl fun r=>kL (.bool a0.there) r rfl H1 to4 rfl rfl fun r=>aa (.bool (!a0.there)) r (fun R=>y_un r (u:=(.bool a0.there)) rfl rfl) rfl fun fr r=>wn ?_)));refine q4 (t:=(!a0.there)) (r.ev rfl) (fun h7=>?_) (fun h7=>?_)
 ·
  refine wsr (kG (bC c0) 8 r rfl c0h ta47 rfl rfl fun r=>kU (u7 (resC (⟨6,0⟩:Res))) r kz rfl fun r=>?_);refine kJ r (jm (j:=j) (F:=No) (n:=n) (fun _ h=>h.elim) kw c0 (⟨6,0⟩:Res)) rfl jW rfl fun w8 v9 hb hr10 r=>?_
  have hb:=hb.below;have Z8:=hb.size;have c0h:=keep hb c0h;have H1:=keep hb H1;have H4:=keep hb H4;obtain ⟨hB,zB⟩:=bon hb hB;refine kP r hr10.shape rfl rfl H4 ts41 rfl rfl fun w11 u12 r=>?_;have Z11:=u12.size
  have c0h:=u12.keep c0h kw
  have H1:=u12.keep H1 kw
  have H4:=u12.at_;obtain ⟨hB,zB⟩:=u12.on hB kw
  refine wn (d9 ?_);have hd:D.gO j c0 a0=(D.eC j c0 (⟨6,0⟩:Res)):=(ar h7).trans (rfl);have hs:=hr10.shape.cells;refine ak r rfl rfl H4 (k:=8) hs.1 ta41 ?_;rw [←hs.2.2,hd];exact aw.fin (Chg.aT hB) hr10 u12 (fun _ h=>h.elim) (fun h=>h) kw kw kw
 refine q6 (a9 ?_);refine bN 7 [.val (zp c0b),.val (u7 (ae c0.p)),.val (.pointer (some ⟨b1,11,none⟩)),.val (U a0.cur),.val (I (D.aW a0.cur)),.val (I (D.bo c0.p (D.aW a0.cur) 1)),.val (.func (.func 165) #[] #[zp c0b])] mixed r kz (kV (kV (kV (kV (kV (kV (kV bM))))))) ?_ ?_
 ·
  refine ec r (fun _ u _ b d s=>az s (b:=c0b) (o:=0) rfl dJ bz) (ec r (fun _ u _ b d s=>aX s (cs:=(ae c0.p)) (n:=6) d.1 (keep b c0h) ta23 rfl bz) (ec r (fun _ u _ b d s=>az s (b:=b1) (o:=0) rfl eV bz) (ec r (fun _ u _ b d s=>av s d.1 (keep b H1) to34 rfl bz) (ec r (fun fr1 u w' hb' hd r'=>aP r' (args:=[(U a0.cur)]) (lc hd.1 l0) cl88 ((fM _ a0.cur).mono yab)) (ec r (fun fr1 u w' hb' hd r'=>aP r' (args:=[(u7 (ae c0.p)),(I (D.aW a0.cur)),(I 1)]) (lc hd.1 (lc hd.2.1 (lc rfl l0))) cl89 ((eu _ c0.p (D.aW a0.cur) 1).mono yab)) (ec r (fun _ u _ b d s=>aZ s (v:=(.func (.func 165) #[] #[zp c0b])) rfl bz) ?_))))));exact bO
 intro fr u w13 hb hΦ hne r;have r:=r.congr (sc (hΦ 6 ke) (sc (hΦ 5 ke) (sc (hΦ 4 ke) (sc (hΦ 3 ke) (sc (hΦ 2 ke) (sc (hΦ 1 ke) (sc (hΦ 0 ke) rfl)))))));have Z13:=hb.size;have c0h:=keep hb c0h;have H1:=keep hb H1;have H4:=keep hb H4;obtain ⟨hB,zB⟩:=bon hb hB;have hF1:=cu hF hB.size b4;have f17:((kW F w0 w13 b4)) c0b:=(.inl c0F);refine kJ r (t9 (F:=(kW F w0 w13 b4)) (n:=n) hF1 (D.bo c0.p (D.aW a0.cur) 1) ⟨165,[],[zp c0b],Ew,rfl,fun m hm x w' hs hz=>AO (j:=j) (fun b hb=>q8 (hF1 b hb) hz) kw c0 f17 (hs.at_ f17 c0h) x⟩) rfl cl99 rfl fun w14 v15 hb hr16 r=>?_;have Z14:=hb.size
 have H4:=bc hb H4 yaa
 have hB:=Chg.aT (Z:=F) hB;have hB:=hB.bn hb yad
 have zB:=hB.size;refine kP r hr16.shape rfl rfl H4 ts41 rfl rfl fun w18 u19 r=>?_;have Z18:=u19.size
 have H4:=u19.at_;have hB:=hB.bm u19 (.inl kw)
 have zB:=hB.size;refine wn (d9 ?_);have hd:D.gO j c0 a0=(D.gC (D.bo c0.p (D.aW a0.cur) 1) (fun x=>(D.qf j c0 x))):=(ai h7).trans (rfl)
 have hs:=hr16.shape.cells;refine ak r rfl rfl H4 (k:=8) hs.1 ta41 ?_;rw [←hs.2.2,hd];exact aw.fin hB hr16 u19 yac yaa kw kw kw
def D.jH (j:Nat) (a0:Seat) (a1:Int) (a2:Int):T Res:=(T.bind (D.jA j (D.di j j) a0 a1 a2) (fun x=>(D.gO j a0 x)))
theorem BU (hF:kH F w0) (hj:n<j)
    (a0:Seat) (a1:Int) (a2:Int) :
    Calls y6 87 #[u7 (bC a0),.int .i64 a1,.int .u64 a2] w0 (aw y6 aA n (D.jH j a0 a1 a2) F w0):=by
 refine kN Tryz.func87 rfl 13 rfl rfl fun fr r hB=>?_;refine wsr ?_
 refine kX 47 (u7 (bC a0)) r rfl rfl fun b1 w2 n3 r=>?_;obtain ⟨E1,Z2,H1,hB,zB⟩:=n3.all hB
 refine ah (.cells (kq aA) 41 (0,0)) r (fun R=>ag tz41) rfl fun fr b4 w5 n6 r=>?_;have H1:=keep n6.below H1
 obtain ⟨E4,Z5,H4,hB,zB⟩:=n6.all hB;refine wn (wsr (kG (bC a0) 8 r rfl H1 ta47 rfl rfl fun r=>kM (I a1) r rfl rfl fun r=>kM (U a2) r rfl rfl fun r=>?_));refine kJ r (nC (j:=j) (F:=No) (n:=n) (fun _ h=>h.elim) kw (fun m' hm'=>mI (j:=j) (k:=j) kw kw) a0 a1 a2) rfl oT rfl fun w7 v8 hb hr9 r=>?_
 have hb:=hb.below;have Z7:=hb.size;have H1:=keep hb H1;have H4:=keep hb H4;obtain ⟨hB,zB⟩:=bon hb hB;refine aa (.func (.func 164) #[] #[zp b1]) r (fun R=>aZ r rfl) rfl fun fr r=>?_;have hF1:∀ b,(kW F w0 w5 b4) b→b<w7.heap.size:=by rintro b (h | ⟨_,h,_⟩); exact q8 (hF b h) hB.size; exact q8 h kw
 have f13:((kW F w0 w5 b4)) b1:=(.inr ⟨kw,kw,kw⟩)
 have hF2:=cu hF hB.size b4;refine kJ r (mr (F:=(kW F w0 w7 b4)) (F2:=(kW F w0 w5 b4)) (n:=n) hF2 yan yah yai (RepL.mono (F':=fun b=>w5.heap.size≤b∧b<w7.heap.size) yam (Same.refl _ _) (Nat.le_refl _) n _ _ hr9) ⟨164,[],[zp b1],FE,rfl,fun m hm x w' hs hz=>Bj (j:=j) (fun b hb=>q8 (hF1 b hb) hz) kw a0 f13 (hs.at_ f13 H1) x⟩) rfl ma rfl fun w10 v11 hb hr12 r=>?_
 have Z10:=hb.size;have H4:=bc hb H4 yaa
 have hB:=Chg.aT (Z:=F) hB;have hB:=hB.bn hb yad
 have zB:=hB.size;refine kP r hr12.shape rfl rfl H4 ts41 rfl rfl fun w14 u15 r=>?_;have Z14:=u15.size
 have H4:=u15.at_;have hB:=hB.bm u15 (.inl kw)
 have zB:=hB.size;refine wn (d9 ?_);have hs:=hr12.shape.cells;refine ak r rfl rfl H4 (k:=8) hs.1 ta41 ?_;rw [←hs.2.2];exact aw.fin hB hr12 u15 yac yaa kw kw kw
end
end Go.Proofs.YtbbipmelhmgmfaaGreat

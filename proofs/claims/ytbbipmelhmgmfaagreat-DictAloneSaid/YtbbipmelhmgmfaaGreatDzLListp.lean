/- Ours. -/
import Derived.Test.YtbbipmelhmgmfaaGreatDzLLoads
import Derived.Test.YtbbipmelhmgmfaaGreatDzM17
set_option linter.all false
set_option maxRecDepth 100000
set_option maxHeartbeats 20000000
namespace Go.Proofs.YtbbipmelhmgmfaaGreat
open Go.RowKit
section
variable {n : Nat} {F : Nat -> Prop} {j : Nat} {w0 : World}
theorem Fq:af B0 152:=kz
theorem yO:af B0 153:=kz
theorem FE:af B0 154:=kz
theorem G7:af B0 155:=kz
theorem yM:af B0 156:=kz
theorem pB:af B0 158:=kz
theorem Gs:af B0 159:=kz
theorem kx:af B0 160:=kz
theorem FI:af B0 161:=kz
theorem G6:af B0 162:=kz
theorem GS:af B0 163:=kz
theorem Hr:af B0 164:=kz
theorem FY:af B0 165:=kz
theorem Gn:af B0 237:=kz
theorem yg:af B0 238:=kz
theorem Ff:af B0 239:=kz
theorem EY:af B0 241:=kz
theorem FB:af B0 242:=kz
theorem Fu:af B0 243:=kz
theorem Hu:af B0 244:=kz
theorem GF:af B0 248:=kz
theorem s5:af B0 249:=kz
theorem Gq:af B0 250:=kz
theorem Fg:af B0 251:=kz
theorem FG:af B0 252:=kz
theorem p9:af B0 253:=kz
theorem GL:af B0 254:=kz
theorem xx:af B0 316:=kz
theorem pC:af B0 317:=kz
theorem Ht:af B0 318:=kz
theorem pq:af B0 319:=kz
theorem FA:af B0 320:=kz
theorem GI:af B0 321:=kz
theorem FL:af B0 322:=kz
theorem FR:af B0 364:=kz
theorem EV:af B0 365:=kz
theorem Gm:af B0 366:=kz
theorem He:af B0 367:=kz
theorem Gu:af B0 368:=kz
theorem GZ:af B0 388:=kz
theorem GN:af B0 389:=kz
theorem Gl:af B0 391:=kz
theorem Gt:af B0 392:=kz
theorem ES:af B0 393:=kz
theorem cl86:af B0 86:=kz
theorem cl88:af B0 88:=kz
theorem i9:ba B0 221 0 0:=kz
theorem DQ:ba B0 221 1 8:=kz
theorem ry:ba B0 221 2 9:=kz
theorem m5:ba B0 221 3 10:=kz
theorem eY:ba B0 221 4 11:=kz
theorem ic:ba B0 221 5 12:=kz
theorem m6:ba B0 221 6 13:=kz
theorem GJ:tyO B0 273:=kz
theorem ts4:sized B0 4 1:=kz
def D.lO (a0:Int):T IM:=(D.qw (⟨a0,0⟩:IM))
theorem uC (hF:kH F w0)
    (a0:Int) :
    Calls B0 153 #[.int .i64 a0] w0 (av B0 aA n (D.lO a0) F w0):=by
 refine kN Tryz.func153 rfl 6 rfl rfl fun fr r hB=>?_;refine I0 ?_
 refine ah (.cells (kq aA) 41 (0,0)) r (fun R=>ag JD) rfl fun fr b1 w2 n3 r=>?_;obtain ⟨E1,Z2,H1,hB,zB⟩:=n3.all hB
 refine wn (I0 (kM (I a0) r rfl rfl fun r=>kU (z6 (ID (⟨a0,0⟩:IM))) r kz rfl fun r=>?_));refine kJ r (tL (F:=No) (n:=n) (fun _ h=>h.elim) (⟨a0,0⟩:IM)) rfl cl15 rfl fun w4 v5 hb J0 r=>?_
 have hb:=hb.below;have Z4:=hb.size;have H1:=keep hb H1;obtain ⟨hB,zB⟩:=IQ hb hB;refine kP r J0.shape rfl rfl H1 Ju rfl rfl fun w7 u8 r=>?_;have Z7:=u8.size
 have H1:=u8.at_;obtain ⟨hB,zB⟩:=u8.on hB O
 refine wn (q4 ?_);have hs:=J0.shape.cells;refine ak r rfl rfl H1 (k:=8) hs.1 Jt ?_;rw [<-hs.2.2];exact av.fin (Jd.aS hB) J0 u8 (fun _ h=>h.elim) (fun h=>h) O O O
def D.aX (a0:Int):Int:=(IntKind.i64.wrap ((IntKind.i64.wrap (KK .u64 a0 1)) - 1))
theorem fU (w0:World) 
    (a0:Int) :
    Calls B0 88 #[.int .u64 a0] w0 (bB (.int .i64 (D.aX a0)) w0):=by
 refine kN Tryz.func88 rfl 7 rfl rfl fun fr r hB=>?_;refine I0 (kA (I 0) r rfl rfl fun r=>wn (I0 (kM (U a0) r rfl rfl fun r=>kB r rfl rfl rfl (rC yax) rfl fun r=>aa (I (W (KK .u64 a0 1))) r (fun R=>cV r rfl KO ti3) rfl fun fr r=>kB r rfl rfl rfl rfl rfl fun r=>kA (I (W ((W (KK .u64 a0 1)) - 1))) r rfl rfl fun r=>wn (q4 ?_))))
 refine aT r rfl rfl ?_;exact ⟨rfl,hB⟩
def D.tX (c0:(Unit->T Walk)):T Walk:=(c0 ())
theorem Aq (hF:kH F w0)
    {c0f:FuncId} {K8 K9:List Value} {c0:(Unit->T Walk)} {I5:Nat} (J9:F I5) (I3:w0.heap[I5]?=some (.cells #[kf c0f K8 K9] 273 (0,0))) (c0n:K1 B0 aK unitE (n+1) F w0 (kf c0f K8 K9) c0) :
    Calls B0 364 #[.agg #[],zp I5] w0 (av B0 aK n (D.tX c0) F w0):=by
 refine kN Tryz.func364 rfl 6 rfl rfl fun fr r hB=>?_;have Jq:=q8 I3
 refine I0 ?_;refine kX 128 (.agg #[]) r rfl rfl fun b1 w2 n3 r=>?_;have I3:=keep n3.below I3
 obtain ⟨E1,Z2,H1,hB,zB⟩:=n3.all hB;refine ah (.cells (kq aK) 224 (0,0)) r (fun R=>ag cB) rfl fun fr b4 w5 n6 r=>?_;have I3:=keep n6.below I3
 have H1:=keep n6.below H1;obtain ⟨E4,Z5,H4,hB,zB⟩:=n6.all hB;refine wn (I0 (kL (kf c0f K8 K9) r rfl I3 GJ rfl rfl fun r=>?_));refine cS r (c0n.at_.2 n (Nat.lt_succ_self n) () w5 (I8.below hB hF) hB.size) (fun R hc=>iW r rfl c0n.at_.1 hc) rfl ?_
 rintro _ w7 ⟨v8,rfl,hb,hr9⟩;refine ⟨_,rfl,fun fr r=>?_⟩
 have Z7:=hb.size;have H4:=bc hb H4 (fun h=>by have:=hF _ h; omega)
 have hB:=Jd.aS (Z:=F) hB;have hB:=hB.bn hb (fun _ _ h=>h)
 have zB:=hB.size;refine kP r hr9.shape rfl rfl H4 cd rfl rfl fun J8 JG r=>?_;have Z10:=JG.size
 have H4:=JG.at_;have hB:=hB.bm JG (.inl O)
 have zB:=hB.size;refine wn (q4 ?_);have hs:=hr9.shape.cells;refine ak r rfl rfl H4 (k:=20) hs.1 ce ?_;rw [<-hs.2.2];exact av.fin hB hr9 JG (fun b hb=>.inl hb) (fun h=>by have:=hF _ h; omega) O O O
def D.fR (a0:Walk) (a1:Int) (a2:Int) (a3:(Unit->T Walk)):T Walk:=(T.bind (D.fC a0.seat.p a0.seat.thread a1 a2) (fun _=>(D.tX a3)))
theorem nk (hF:kH F w0)
    (a0:Walk) (a1:Int) (a2:Int) {a3f:FuncId} {Ik Il:List Value} {a3:(Unit->T Walk)} (a3n:K1 B0 aK unitE (n) F w0 (kf a3f Ik Il) a3) :
    Calls B0 319 #[z6 (bf a0),.int .i64 a1,.int .i64 a2,kf a3f Ik Il] w0 (av B0 aK n (D.fR a0 a1 a2 a3) F w0):=by
 refine kN Tryz.func319 rfl 20 rfl rfl fun fr r hB=>?_;refine I0 ?_
 refine kX 221 (z6 (bf a0)) r rfl rfl fun b1 w2 n3 r=>?_;obtain ⟨E1,Z2,H1,hB,zB⟩:=n3.all hB
 refine kX 273 (kf a3f Ik Il) r rfl rfl fun b4 w5 n6 r=>?_;have H1:=keep n6.below H1
 obtain ⟨E4,Z5,H4,hB,zB⟩:=n6.all hB;refine ah (.cells (kq aK) 224 (0,0)) r (fun R=>ag cB) rfl fun fr b7 w8 n9 r=>?_;have H1:=keep n9.below H1
 have H4:=keep n9.below H4;obtain ⟨E7,Z8,H7,hB,zB⟩:=n9.all hB;refine wn (I0 (kF 0 r rfl i9 rfl fun r=>kF 0 r rfl dm rfl fun r=>kG (ac a0.seat.p) 6 r rfl H1 IJ rfl rfl fun r=>kF 0 r rfl i9 rfl fun r=>kF 0 r rfl j9 rfl fun r=>kL (I a0.seat.thread) r rfl H1 IL rfl rfl fun r=>kM (I a1) r rfl rfl fun r=>kM (I a2) r rfl rfl fun r=>?_));refine kD r (qz (F:=No) (n:=n) (fun _ h=>h.elim) a0.seat.p a0.seat.thread a1 a2) rfl sB rfl fun J8 v11 hb Jl r=>?_
 have Jl:=Jl.loud;have Z10:=hb.size;have H1:=keep hb H1;have H4:=keep hb H4;have H7:=keep hb H7;obtain ⟨hB,zB⟩:=IQ hb hB;refine aa (.func (.func 364) #[] #[zp b4]) r (fun R=>aZ r rfl) rfl fun fr r=>?_;have I4:∀ b,(kW F w0 w8 b7) b->b<J8.heap.size:=by rintro b (h | ⟨_,h,_⟩); exact q9 (hF b h) hB.size; exact q9 h O
 have f16:((kW F w0 w8 b7)) b4:=(.inr ⟨O,O,O⟩)
 have JZ:=cw hF hB.size b7;refine kJ r (yZ (F:=(kW F w0 J8 b7)) (F2:=(kW F w0 w8 b7)) (n:=n) JZ yan yah yai (IK.mono (F':=fun b=>w8.heap.size<=b/\b<J8.heap.size) yam (I8.refl _ _) (Nat.le_refl _) n _ _ Jl) ⟨364,[],[zp b4],FR,rfl,fun m hm _ w' hs hz=>Aq (fun b hb=>q9 (I4 b hb) hz) f16 (hs.at_ f16 H4) (a3n.mono O (fun b h=>.inl h) ((I8.below hB hF).trans (hs.sub (fun b h=>.inl h))) (Nat.le_trans hB.size hz))⟩ rfl) rfl xJ rfl fun Kc K6 hb Kf r=>?_
 have Z13:=hb.size;have H7:=bc hb H7 Kl
 have hB:=Jd.aS (Z:=F) hB;have hB:=hB.bn hb yad
 have zB:=hB.size;refine kP r Kf.shape rfl rfl H7 cd rfl rfl fun w17 K7 r=>?_;have Z17:=K7.size
 have H7:=K7.at_;have hB:=hB.bm K7 (.inl O)
 have zB:=hB.size;refine wn (q4 ?_);have hs:=Kf.shape.cells;refine ak r rfl rfl H7 (k:=20) hs.1 ce ?_;rw [<-hs.2.2];exact av.fin hB Kf K7 yac Kl O O O
def D.nj (j:Nat) (B6:Walk->T Walk) (c0:Walk) (c1:Int):T Walk:=(B6 ({ ({ c0 with place:=(D.bo c0.seat.p c1 2) }) with cur:=c0.next }))
def D.qm (j:Nat) (B6:Walk->T Walk) (c0:Walk) (c1:Int):T Walk:=(D.fR c0 1 (D.aX c0.next) (fun _=>(D.nj j B6 c0 c1)))
def D.jA (j:Nat) (B6:Walk->T Walk) (a0:Walk) (a1:Int):T Walk:=(D.fR a0 2 a1 (fun _=>(D.qm j B6 a0 a1)))
def D.mJ (j:Nat) (B6:Walk->T Walk) (c0:Int) (c1:Walk) (a0:Int):T Walk:=(D.fR ({ c1 with cur:=c0 }) 1 (D.aX c0) (fun _=>(B6 ({ c1 with cur:=c0 }))))
def D.uJ (j:Nat) (B6:Walk->T Walk) (c0:Je) (c1:Int) (c2:Int) (a0:Int):T Walk:=(B6 (⟨c0,c1,c2,c1,a0,0,false⟩:Walk))
def D.jL (j:Nat) (B6:Walk->T Walk) (a0:Je) (a1:Int) (a2:Int):T Walk:=(T.bind (D.lA j a0.p a0.thread 1 a1 1) (fun x=>(D.uJ j B6 a0 a1 a2 x)))
def D.fQ (j:Nat) (B6:Walk->T Walk) (a0:Walk):T Walk:=(D.jL j B6 a0.seat a0.cell a0.k)
def D.mM (j:Nat) (B6:Walk->T Walk) (c0:Walk) (c1:Int) (c2:Int) (a0:Bool):T Walk:=(bif (!a0) then (D.fQ j B6 c0) else (T.bind (D.gO j c0.seat.p c0.seat.thread c1) (fun x=>(D.mJ j B6 c2 c0 x))))
def D.pQ (j:Nat) (B6:Walk->T Walk) (a0:Walk) (a1:Int):T Walk:=(D.uf a0.place a0.cur (cH .u64 a0.next 1) (fun x=>(D.mM j B6 a0 a1 (cH .u64 a0.next 1) x)))
def D.iD (j:Nat) (B6:Walk->T Walk) (c0:Walk) (c1:Int) (c2:Int) (a0:Int):T Walk:=(bif (a0 !=c0.cur) then (D.fQ j B6 c0) else (bif ((cL .u64 c0.next 1) !=0) then (D.pQ j B6 c0 c1) else (bif (decide (c2>=c0.k)) then (D.jq ({ c0 with there:=(c2==c0.k) })) else (D.jA j B6 c0 c1))))
def D.ng (j:Nat) (B6:Walk->T Walk) (c0:Walk) (c1:Int) (a0:Int):T Walk:=(D.iH c0.place (fun x=>(D.iD j B6 c0 c1 a0 x)))
def D.jn (j:Nat) (B6:Walk->T Walk) (a0:Walk) (a1:Int):T Walk:=(D.iH (D.bo a0.seat.p a1 0) (fun x=>(D.ng j B6 a0 a1 x)))
def D.kY (j:Nat) (B6:Walk->T Walk) (c0:Int) (c1:Walk) (c2:Int) (a0:Int):T Walk:=(bif (a0 !=c0) then (D.fQ j B6 c1) else (D.jn j B6 ({ c1 with next:=c0 }) c2))
def D.l6 (j:Nat) (B6:Walk->T Walk) (c0:Int) (c1:Int) (c2:Walk) (c3:Int):T Walk:=(D.iH c0 (fun x=>(D.kY j B6 c1 c2 c3 x)))
def D.ni (j:Nat) (B6:Walk->T Walk) (c0:Walk) (c1:Int) (c2:Int) (a0:Int):T Walk:=(D.fR c0 0 (D.aX a0) (fun _=>(D.l6 j B6 c1 a0 c0 c2)))
def D.gC (j:Nat) (B6:Walk->T Walk) (a0:Walk):T Walk:=(bif (decide ((D.aX a0.cur)<0)) then (D.jq ({ a0 with there:=false })) else (D.iH (D.bo a0.seat.p (D.aX a0.cur) 2) (fun x=>(D.ni j B6 a0 (D.bo a0.seat.p (D.aX a0.cur) 2) (D.aX a0.cur) x))))
def D.du (j:Nat):Nat->Walk->T Walk
 | 0,_=>.cut
 | k+1,a0=>D.gC j (D.du j k) a0
def dH (r:Walk->T Walk) (n:Nat):Prop:=∀ (F:Nat->Prop) (w0:World),(∀ b,F b->b<w0.heap.size)->∀ (a0:Walk),Calls B0 249 #[z6 (bf a0)] w0 (av B0 aK n (r a0) F w0)
theorem Ae {B6:Walk->T Walk} (hF:kH F w0) (hj:n<j) (F6:∀ m,m<=n->dH B6 m)
    (c0:Walk) {I5:Nat} (J9:F I5) (I3:w0.heap[I5]?=some (.cells ((bf c0)).toArray 221 (0,0))) (c1:Int) {IE:Nat} (Ka:F IE) (IA:w0.heap[IE]?=some (.cells ([(.int .i64 c1)]).toArray 3 (0,0))) :
    Calls B0 393 #[zp I5,zp IE] w0 (av B0 aK n (D.nj j B6 c0 c1) F w0):=by
 refine kN Tryz.func393 rfl 14 rfl rfl fun fr r hB=>?_;have Jq:=q8 I3
 have Jy:=q8 IA;refine I0 ?_;refine ah (.cells (kq aK) 224 (0,0)) r (fun R=>ag cB) rfl fun fr b1 w2 n3 r=>?_;have I3:=keep n3.below I3
 have IA:=keep n3.below IA;obtain ⟨E1,Z2,H1,hB,zB⟩:=n3.all hB;refine wn (d9 ?_);refine bI 8 [.val (zp I5),.val (zp I5),.val (z6 (ac c0.seat.p)),.val (I c1),.val (I (D.bo c0.seat.p c1 2)),.val (.pointer (some ⟨I5,12,none⟩)),.val (U c0.next),.val (.pointer (some ⟨I5,10,none⟩))] mixed r kz (kV (kV (kV (kV (kV (kV (kV (kV bH)))))))) ?_ ?_
 ·
  refine ec r (fun _ u _ b d s=>az s (b:=I5) (o:=0) rfl i9 bz) (ec r (fun _ u _ b d s=>az s (b:=I5) (o:=0) d.1 dm bz) (ec r (fun _ u _ b d s=>aU s (cs:=(ac c0.seat.p)) (n:=6) d.1 (keep b I3) IJ rfl bz) (ec r (fun _ u _ b d s=>ax s rfl (keep b IA) IL rfl bz) (ec r (fun I2 u w' hb' hd r'=>aN r' (args:=[(z6 (ac c0.seat.p)),(I c1),(I 2)]) (lc hd.1 (lc hd.2.1 (lc rfl l0))) cl89 ((eB _ c0.seat.p c1 2).mono JL)) (ec r (fun _ u _ b d s=>az s (b:=I5) (o:=0) rfl ic bz) (ec r (fun _ u _ b d s=>ax s d.1 (keep b I3) Ja rfl bz) (ec r (fun _ u _ b d s=>az s (b:=I5) (o:=0) rfl m5 bz) ?_)))))));exact bJ
 intro fr u w4 hb Iz hne r;have r:=r.congr (sc (Iz 7 ke) (sc (Iz 6 ke) (sc (Iz 5 ke) (sc (Iz 4 ke) (sc (Iz 3 ke) (sc (Iz 2 ke) (sc (Iz 1 ke) (sc (Iz 0 ke) rfl))))))));have Z4:=hb.size;have I3:=keep hb I3;have IA:=keep hb IA;have H1:=keep hb H1;obtain ⟨hB,zB⟩:=IQ hb hB;refine aM (.cells ((bf ({ c0 with place:=(D.bo c0.seat.p c1 2) }))).toArray 221 (0,0)) r (fun R=>bb r (o:=10) (v:=(I (D.bo c0.seat.p c1 2))) rfl rfl I3 ts3 u7 rfl rfl) rfl fun fr w5 u6 r=>?_
 have Z5:=u6.size;have IA:=u6.keep IA (j3 IA I3 rfl);have H1:=u6.keep H1 O
 have I3:=u6.at_;have hB:=Jd.aS (Z:=F) hB;have hB:=hB.bm u6 (.inr J9);have zB:=hB.size;obtain ⟨zs7,ezs7⟩:∃ z,z=({ c0 with place:=(D.bo c0.seat.p c1 2) }):=⟨_,rfl⟩
 rw [<-ezs7] at I3
 refine kF 0 r rfl eY rfl fun r=>?_;refine aM (.cells ((bf ({ zs7 with cur:=c0.next }))).toArray 221 (0,0)) r (fun R=>bb r (o:=11) (v:=(U c0.next)) rfl rfl I3 ts34 u7 rfl rfl) rfl fun fr w8 u9 r=>?_
 have Z8:=u9.size;have IA:=u9.keep IA (j3 IA I3 rfl);have H1:=u9.keep H1 O
 have I3:=u9.at_;have hB:=hB.bm u9 (.inr J9);have zB:=hB.size;obtain ⟨zs10,ezs10⟩:∃ z,z=({ zs7 with cur:=c0.next }):=⟨_,rfl⟩
 rw [<-ezs10] at I3
 refine wn (I0 (kG (bf zs10) 14 r rfl I3 dG rfl rfl fun r=>?_));refine kJ r ((F6 n O) (No) _ (fun _ h=>h.elim) zs10) rfl s5 rfl fun JV v12 hb KA r=>?_
 have hb:=hb.below;have Z11:=hb.size;have I3:=keep hb I3;have IA:=keep hb IA;have H1:=keep hb H1;have hB:=hB.thenB hb;have zB:=hB.size;refine kP r KA.shape rfl rfl H1 cd rfl rfl fun w14 u15 r=>?_;have Z14:=u15.size
 have I3:=u15.keep I3 O
 have IA:=u15.keep IA O
 have H1:=u15.at_;have hB:=hB.bm u15 (.inl O)
 have zB:=hB.size;refine wn (q4 ?_);have hd:D.nj j B6 c0 c1=(B6 zs10):=by subst ezs10 ezs7; exact rfl
 have hs:=KA.shape.cells;refine ak r rfl rfl H1 (k:=20) hs.1 ce ?_;rw [<-hs.2.2,hd];exact av.fin hB KA u15 (fun _ h=>h.elim) (fun h=>h) O O O
theorem AU {B6:Walk->T Walk} (hF:kH F w0) (hj:n<j) (F6:∀ m,m<n->dH B6 m)
    (c0:Walk) {I5:Nat} (J9:F I5) (I3:w0.heap[I5]?=some (.cells ((bf c0)).toArray 221 (0,0))) (c1:Int) {IE:Nat} (Ka:F IE) (IA:w0.heap[IE]?=some (.cells ([(.int .i64 c1)]).toArray 3 (0,0))) :
    Calls B0 392 #[zp I5,zp IE] w0 (av B0 aK n (D.qm j B6 c0 c1) F w0):=by
 refine kN Tryz.func392 rfl 9 rfl rfl fun fr r hB=>?_;have Jq:=q8 I3
 have Jy:=q8 IA;refine I0 ?_;refine ah (.cells (kq aK) 224 (0,0)) r (fun R=>ag cB) rfl fun fr b1 w2 n3 r=>?_;have I3:=keep n3.below I3
 have IA:=keep n3.below IA;obtain ⟨E1,Z2,H1,hB,zB⟩:=n3.all hB;refine wn (d9 ?_);refine bI 5 [.val (z6 (bf c0)),.val (.pointer (some ⟨I5,12,none⟩)),.val (U c0.next),.val (I (D.aX c0.next)),.val (.func (.func 393) #[] #[zp I5,zp IE])] mixed r kz (kV (kV (kV (kV (kV bH))))) ?_ ?_
 ·
  refine ec r (fun _ u _ b d s=>aU s (cs:=(bf c0)) (n:=14) rfl (keep b I3) dG rfl bz) (ec r (fun _ u _ b d s=>az s (b:=I5) (o:=0) rfl ic bz) (ec r (fun _ u _ b d s=>ax s d.1 (keep b I3) Ja rfl bz) (ec r (fun I2 u w' hb' hd r'=>aN r' (args:=[(U c0.next)]) (lc hd.1 l0) cl88 ((fU _ c0.next).mono JL)) (ec r (fun _ u _ b d s=>aZ s (v:=(.func (.func 393) #[] #[zp I5,zp IE])) rfl bz) ?_))));exact bJ
 intro fr u w4 hb Iz hne r;have r:=r.congr (sc (Iz 4 ke) (sc (Iz 3 ke) (sc (Iz 2 ke) (sc (Iz 1 ke) (sc (Iz 0 ke) rfl)))));have Z4:=hb.size;have I3:=keep hb I3;have IA:=keep hb IA;have H1:=keep hb H1;obtain ⟨hB,zB⟩:=IQ hb hB;have I4:=cw hF hB.size b1;have f8:((kW F w0 w4 b1)) I5:=(.inl J9);have f9:((kW F w0 w4 b1)) IE:=(.inl Ka);refine kJ r (nk (F:=(kW F w0 w4 b1)) (n:=n) I4 c0 1 (D.aX c0.next) ⟨393,[],[zp I5,zp IE],ES,rfl,fun m hm _ w' hs hz=>Ae (j:=j) (fun b hb=>q9 (I4 b hb) hz) O (fun m' hm'=>F6 m' O) c0 f8 (hs.at_ f8 I3) c1 f9 (hs.at_ f9 IA)⟩) rfl pq rfl fun w5 v6 hb Kj r=>?_;have Z5:=hb.size
 have H1:=bc hb H1 Kl
 have hB:=Jd.aS (Z:=F) hB;have hB:=hB.bn hb yad
 have zB:=hB.size;refine kP r Kj.shape rfl rfl H1 cd rfl rfl fun J8 JG r=>?_;have Z10:=JG.size
 have H1:=JG.at_;have hB:=hB.bm JG (.inl O)
 have zB:=hB.size;refine wn (q4 ?_);have hs:=Kj.shape.cells;refine ak r rfl rfl H1 (k:=20) hs.1 ce ?_;rw [<-hs.2.2];exact av.fin hB Kj JG yac Kl O O O
theorem BA {B6:Walk->T Walk} (hF:kH F w0) (hj:n<j) (F6:∀ m,m<n->dH B6 m)
    (a0:Walk) (a1:Int) :
    Calls B0 368 #[z6 (bf a0),.int .i64 a1] w0 (av B0 aK n (D.jA j B6 a0 a1) F w0):=by
 refine kN Tryz.func368 rfl 9 rfl rfl fun fr r hB=>?_;refine I0 ?_
 refine kX 221 (z6 (bf a0)) r rfl rfl fun b1 w2 n3 r=>?_;obtain ⟨E1,Z2,H1,hB,zB⟩:=n3.all hB
 refine kX 3 (I a1) r rfl rfl fun b4 w5 n6 r=>?_;have H1:=keep n6.below H1
 obtain ⟨E4,Z5,H4,hB,zB⟩:=n6.all hB;refine ah (.cells (kq aK) 224 (0,0)) r (fun R=>ag cB) rfl fun fr b7 w8 n9 r=>?_;have H1:=keep n9.below H1
 have H4:=keep n9.below H4;obtain ⟨E7,Z8,H7,hB,zB⟩:=n9.all hB;refine wn (I0 (kG (bf a0) 14 r rfl H1 dG rfl rfl fun r=>kL (I a1) r rfl H4 IL rfl rfl fun r=>aa (.func (.func 392) #[] #[zp b1,zp b4]) r (fun R=>aZ r rfl) rfl fun fr r=>?_));have I4:=cw hF hB.size b7
 have f13:((kW F w0 w8 b7)) b1:=(.inr ⟨O,O,O⟩)
 have f14:((kW F w0 w8 b7)) b4:=(.inr ⟨O,O,O⟩)
 refine kJ r (nk (F:=(kW F w0 w8 b7)) (n:=n) I4 a0 2 a1 ⟨392,[],[zp b1,zp b4],Gt,rfl,fun m hm _ w' hs hz=>AU (j:=j) (fun b hb=>q9 (I4 b hb) hz) O (fun m' hm'=>F6 m' O) a0 f13 (hs.at_ f13 H1) a1 f14 (hs.at_ f14 H4)⟩) rfl pq rfl fun J8 v11 hb Jl r=>?_;have Z10:=hb.size
 have H7:=bc hb H7 Kl
 have hB:=Jd.aS (Z:=F) hB;have hB:=hB.bn hb yad
 have zB:=hB.size;refine kP r Jl.shape rfl rfl H7 cd rfl rfl fun w15 u16 r=>?_;have Z15:=u16.size
 have H7:=u16.at_;have hB:=hB.bm u16 (.inl O)
 have zB:=hB.size;refine wn (q4 ?_);have hs:=Jl.shape.cells;refine ak r rfl rfl H7 (k:=20) hs.1 ce ?_;rw [<-hs.2.2];exact av.fin hB Jl u16 yac Kl O O O
theorem yY {B6:Walk->T Walk} (hF:kH F w0) (hj:n<j) (F6:∀ m,m<n->dH B6 m)
    (c0:Int) {I5:Nat} (J9:F I5) (I3:w0.heap[I5]?=some (.cells ([(.int .u64 c0)]).toArray 34 (0,0))) (c1:Walk) {IE:Nat} (Ka:F IE) (IA:w0.heap[IE]?=some (.cells ((bf c1)).toArray 221 (0,0))) (a0:Int) :
    Calls B0 391 #[.int .i64 a0,zp I5,zp IE] w0 (av B0 aK n (D.mJ j B6 c0 c1 a0) F w0):=by
 refine kN Tryz.func391 rfl 13 rfl rfl fun fr r hB=>?_;have Jq:=q8 I3
 have Jy:=q8 IA;refine I0 ?_;refine ah (.cells (kq aK) 224 (0,0)) r (fun R=>ag cB) rfl fun fr b1 w2 n3 r=>?_;have I3:=keep n3.below I3
 have IA:=keep n3.below IA;obtain ⟨E1,Z2,H1,hB,zB⟩:=n3.all hB;refine wn (I0 (kL (U c0) r rfl I3 Ja rfl rfl fun r=>kF 0 r rfl eY rfl fun r=>?_));refine aM (.cells ((bf ({ c1 with cur:=c0 }))).toArray 221 (0,0)) r (fun R=>bb r (o:=11) (v:=(U c0)) rfl rfl IA ts34 u7 rfl rfl) rfl fun fr w4 u5 r=>?_
 have Z4:=u5.size;have I3:=u5.keep I3 (j3 I3 IA rfl);have H1:=u5.keep H1 O
 have IA:=u5.at_;have hB:=Jd.aS (Z:=F) hB;have hB:=hB.bm u5 (.inr Ka);have zB:=hB.size;obtain ⟨zs6,ezs6⟩:∃ z,z=({ c1 with cur:=c0 }):=⟨_,rfl⟩
 rw [<-ezs6] at IA
 refine wn (d9 ?_);refine bI 5 [.val (z6 (bf zs6)),.val (U c0),.val (I (D.aX c0)),.val (z6 (bf zs6)),.val (.func (.func 249) #[(z6 (bf zs6))] #[])] mixed r kz (kV (kV (kV (kV (kV bH))))) ?_ ?_
 ·
  refine ec r (fun _ u _ b d s=>aU s (cs:=(bf zs6)) (n:=14) rfl (keep b IA) dG rfl bz) (ec r (fun _ u _ b d s=>ax s rfl (keep b I3) Ja rfl bz) (ec r (fun I2 u w' hb' hd r'=>aN r' (args:=[(U c0)]) (lc hd.1 l0) cl88 ((fU _ c0).mono JL)) (ec r (fun _ u _ b d s=>aU s (cs:=(bf zs6)) (n:=14) rfl (keep b IA) dG rfl bz) (ec r (fun I2 u w' hb' hd r'=>aZ r' (v:=(.func (.func 249) #[(z6 (bf zs6))] #[])) (congrArg (fun z=>Value.func (.func 249) #[z] #[]) hd.1) bz) ?_))));exact bJ
 intro fr u w7 hb Iz hne r;have r:=r.congr (sc (Iz 4 ke) (sc (Iz 3 ke) (sc (Iz 2 ke) (sc (Iz 1 ke) (sc (Iz 0 ke) rfl)))));have Z7:=hb.size;have I3:=keep hb I3;have IA:=keep hb IA;have H1:=keep hb H1;have hB:=hB.thenB hb;have zB:=hB.size;have I4:=cw hF hB.size b1;refine kJ r (nk (F:=(kW F w0 w7 b1)) (n:=n) I4 zs6 1 (D.aX c0) ⟨249,[(z6 (bf zs6))],[],s5,rfl,fun m hm _ w' hs hz=>(F6 m O) _ _ (fun b hb=>q9 (I4 b hb) hz) zs6⟩) rfl pq rfl fun w8 v9 hb Jv r=>?_;have Z8:=hb.size
 have H1:=bc hb H1 Kl
 have hB:=hB.bn hb yad
 have zB:=hB.size;refine kP r Jv.shape rfl rfl H1 cd rfl rfl fun JV JH r=>?_;have Z11:=JH.size
 have H1:=JH.at_;have hB:=hB.bm JH (.inl O)
 have zB:=hB.size;refine wn (q4 ?_);have hd:D.mJ j B6 c0 c1 a0=(D.fR zs6 1 (D.aX c0) (fun _=>(B6 zs6))):=by subst ezs6; exact rfl
 have hs:=Jv.shape.cells;refine ak r rfl rfl H1 (k:=20) hs.1 ce ?_;rw [<-hs.2.2,hd];exact av.fin hB Jv JH yac Kl O O O
theorem BH {B6:Walk->T Walk} (hF:kH F w0) (hj:n<j) (F6:∀ m,m<=n->dH B6 m)
    (c0:Je) {I5:Nat} (J9:F I5) (I3:w0.heap[I5]?=some (.cells ((bi c0)).toArray 47 (0,0))) (c1:Int) {IE:Nat} (Ka:F IE) (IA:w0.heap[IE]?=some (.cells ([(.int .i64 c1)]).toArray 3 (0,0))) (c2:Int) {IU:Nat} (c2F:F IU) (IR:w0.heap[IU]?=some (.cells ([(.int .u64 c2)]).toArray 34 (0,0))) (a0:Int) :
    Calls B0 248 #[.int .u64 a0,zp I5,zp IE,zp IU] w0 (av B0 aK n (D.uJ j B6 c0 c1 c2 a0) F w0):=by
 refine kN Tryz.func248 rfl 13 rfl rfl fun fr r hB=>?_;have Jq:=q8 I3
 have Jy:=q8 IA;have Kg:=q8 IR;refine I0 ?_;refine ah (.cells (kq aK) 224 (0,0)) r (fun R=>ag cB) rfl fun fr b1 w2 n3 r=>?_;obtain ⟨E1,Z2,H1,hB,zB⟩:=n3.all hB
 refine wn (I0 (kG (bi c0) 8 r rfl (keep hB I3) La rfl rfl fun r=>kL (I c1) r rfl (keep hB IA) IL rfl rfl fun r=>kL (U c2) r rfl (keep hB IR) Ja rfl rfl fun r=>kL (I c1) r rfl (keep hB IA) IL rfl rfl fun r=>kM (U a0) r rfl rfl fun r=>kU (z6 (bf (⟨c0,c1,c2,c1,a0,0,false⟩:Walk))) r kz rfl fun r=>?_));refine kJ r ((F6 n O) (No) _ (fun _ h=>h.elim) (⟨c0,c1,c2,c1,a0,0,false⟩:Walk)) rfl s5 rfl fun w4 v5 hb J0 r=>?_
 have hb:=hb.below;have Z4:=hb.size;have H1:=keep hb H1;obtain ⟨hB,zB⟩:=IQ hb hB;refine kP r J0.shape rfl rfl H1 cd rfl rfl fun w7 u8 r=>?_;have Z7:=u8.size
 have H1:=u8.at_;obtain ⟨hB,zB⟩:=u8.on hB O
 refine wn (q4 ?_);have hs:=J0.shape.cells;refine ak r rfl rfl H1 (k:=20) hs.1 ce ?_;rw [<-hs.2.2];exact av.fin (Jd.aS hB) J0 u8 (fun _ h=>h.elim) (fun h=>h) O O O
theorem nQ {B6:Walk->T Walk} (hF:kH F w0) (hj:n<j) (F6:∀ m,m<n->dH B6 m)
    (a0:Je) (a1:Int) (a2:Int) :
    Calls B0 158 #[z6 (bi a0),.int .i64 a1,.int .u64 a2] w0 (av B0 aK n (D.jL j B6 a0 a1 a2) F w0):=by
 refine kN Tryz.func158 rfl 15 rfl rfl fun fr r hB=>?_;refine I0 ?_
 refine kX 47 (z6 (bi a0)) r rfl rfl fun b1 w2 n3 r=>?_;obtain ⟨E1,Z2,H1,hB,zB⟩:=n3.all hB
 refine kX 3 (I a1) r rfl rfl fun b4 w5 n6 r=>?_;have H1:=keep n6.below H1
 obtain ⟨E4,Z5,H4,hB,zB⟩:=n6.all hB;refine kX 34 (U a2) r rfl rfl fun b7 w8 n9 r=>?_;have H1:=keep n9.below H1
 have H4:=keep n9.below H4;obtain ⟨E7,Z8,H7,hB,zB⟩:=n9.all hB;refine ah (.cells (kq aK) 224 (0,0)) r (fun R=>ag cB) rfl fun fr b10 JV JN r=>?_;have H1:=keep JN.below H1
 have H4:=keep JN.below H4;have H7:=keep JN.below H7;obtain ⟨E10,Z11,Jp,hB,zB⟩:=JN.all hB;refine wn (I0 (kF 0 r rfl dm rfl fun r=>kG (ac a0.p) 6 r rfl H1 IJ rfl rfl fun r=>kF 0 r rfl j9 rfl fun r=>kL (I a0.thread) r rfl H1 IL rfl rfl fun r=>kL (I a1) r rfl H4 IL rfl rfl fun r=>?_));refine kD r (BG (j:=j) (F:=No) (n:=n) (fun _ h=>h.elim) O a0.p a0.thread 1 a1 1 yax) rfl Fe rfl fun Kc K6 hb Kf r=>?_
 have Kf:=Kf.loud;have Z13:=hb.size;have H1:=keep hb H1;have H4:=keep hb H4;have H7:=keep hb H7;have Jp:=keep hb Jp;obtain ⟨hB,zB⟩:=IQ hb hB;refine aa (.func (.func 248) #[] #[zp b1,zp b4,zp b7]) r (fun R=>aZ r rfl) rfl fun fr r=>?_;have I4:∀ b,(kW F w0 JV b10) b->b<Kc.heap.size:=by rintro b (h | ⟨_,h,_⟩); exact q9 (hF b h) hB.size; exact q9 h O
 have f19:((kW F w0 JV b10)) b1:=(.inr ⟨O,O,O⟩)
 have f20:((kW F w0 JV b10)) b4:=(.inr ⟨O,O,O⟩)
 have f21:((kW F w0 JV b10)) b7:=(.inr ⟨O,O,O⟩)
 have JZ:=cw hF hB.size b10;refine kJ r (yS (F:=(kW F w0 Kc b10)) (F2:=(kW F w0 JV b10)) (n:=n) JZ yan yah yai (IK.mono (F':=fun b=>JV.heap.size<=b/\b<Kc.heap.size) yam (I8.refl _ _) (Nat.le_refl _) n _ _ Kf) ⟨248,[],[zp b1,zp b4,zp b7],GF,rfl,fun m hm x w' hs hz=>BH (j:=j) (fun b hb=>q9 (I4 b hb) hz) O (fun m' hm'=>F6 m' O) a0 f19 (hs.at_ f19 H1) a1 f20 (hs.at_ f20 H4) a2 f21 (hs.at_ f21 H7) x⟩ (by first | rfl | (cases j with | zero=>omega | succ q=>rfl))) rfl xY rfl fun w16 Kk hb hr18 r=>?_
 have Z16:=hb.size;have Jp:=bc hb Jp Kl
 have hB:=Jd.aS (Z:=F) hB;have hB:=hB.bn hb yad
 have zB:=hB.size;refine kP r hr18.shape rfl rfl Jp cd rfl rfl fun w22 u23 r=>?_;have Z22:=u23.size
 have Jp:=u23.at_;have hB:=hB.bm u23 (.inl O)
 have zB:=hB.size;refine wn (q4 ?_);have hs:=hr18.shape.cells;refine ak r rfl rfl Jp (k:=20) hs.1 ce ?_;rw [<-hs.2.2];exact av.fin hB hr18 u23 yac Kl O O O
theorem mV {B6:Walk->T Walk} (hF:kH F w0) (hj:n<j) (F6:∀ m,m<n->dH B6 m)
    (a0:Walk) :
    Calls B0 253 #[z6 (bf a0)] w0 (av B0 aK n (D.fQ j B6 a0) F w0):=by
 refine kN Tryz.func253 rfl 10 rfl rfl fun fr r hB=>?_;refine I0 ?_
 refine kX 221 (z6 (bf a0)) r rfl rfl fun b1 w2 n3 r=>?_;obtain ⟨E1,Z2,H1,hB,zB⟩:=n3.all hB
 refine ah (.cells (kq aK) 224 (0,0)) r (fun R=>ag cB) rfl fun fr b4 w5 n6 r=>?_;have H1:=keep n6.below H1
 obtain ⟨E4,Z5,H4,hB,zB⟩:=n6.all hB;refine wn (I0 (kF 0 r rfl i9 rfl fun r=>kG (bi a0.seat) 8 r rfl H1 La rfl rfl fun r=>kF 0 r rfl DQ rfl fun r=>kL (I a0.cell) r rfl H1 IL rfl rfl fun r=>kF 0 r rfl ry rfl fun r=>kL (U a0.k) r rfl H1 Ja rfl rfl fun r=>?_));refine kJ r (nQ (j:=j) (F:=No) (n:=n) (fun _ h=>h.elim) O (fun m' hm'=>F6 m' O) a0.seat a0.cell a0.k) rfl pB rfl fun w7 v8 hb hr9 r=>?_
 have hb:=hb.below;have Z7:=hb.size;have H1:=keep hb H1;have H4:=keep hb H4;obtain ⟨hB,zB⟩:=IQ hb hB;refine kP r hr9.shape rfl rfl H4 cd rfl rfl fun J8 JG r=>?_;have Z10:=JG.size
 have H1:=JG.keep H1 O
 have H4:=JG.at_;obtain ⟨hB,zB⟩:=JG.on hB O
 refine wn (q4 ?_);have hs:=hr9.shape.cells;refine ak r rfl rfl H4 (k:=20) hs.1 ce ?_;rw [<-hs.2.2];exact av.fin (Jd.aS hB) hr9 JG (fun _ h=>h.elim) (fun h=>h) O O O
theorem zo {B6:Walk->T Walk} (hF:kH F w0) (hj:n<j) (F6:∀ m,m<n->dH B6 m)
    (c0:Walk) {I5:Nat} (J9:F I5) (I3:w0.heap[I5]?=some (.cells ((bf c0)).toArray 221 (0,0))) (c1:Int) {IE:Nat} (Ka:F IE) (IA:w0.heap[IE]?=some (.cells ([(.int .i64 c1)]).toArray 3 (0,0))) (c2:Int) {IU:Nat} (c2F:F IU) (IR:w0.heap[IU]?=some (.cells ([(.int .u64 c2)]).toArray 34 (0,0))) (a0:Bool) :
    Calls B0 389 #[.bool a0,zp I5,zp IE,zp IU] w0 (av B0 aK n (D.mM j B6 c0 c1 c2 a0) F w0):=by
 refine kN Tryz.func389 rfl 20 rfl rfl fun fr r hB=>?_;have Jq:=q8 I3
 have Jy:=q8 IA;have Kg:=q8 IR;refine I0 ?_;refine ah (.cells (kq aK) 224 (0,0)) r (fun R=>ag cB) rfl fun fr b1 w2 n3 r=>?_;have I3:=keep n3.below I3
 have IA:=keep n3.below IA;have IR:=keep n3.below IR;obtain ⟨E1,Z2,H1,hB,zB⟩:=n3.all hB;refine wn (d9 (I0 (kM (.bool a0) r rfl rfl fun r=>aa (.bool (!a0)) r (fun R=>JQ r (u:=(.bool a0)) rfl rfl) rfl fun fr r=>wn ?_)));refine q5 (t:=(!a0)) (r.ev rfl) (fun h4=>?_) (fun h4=>?_)
 ·
  refine I0 (kG (bf c0) 14 r rfl I3 dG rfl rfl fun r=>?_);refine kJ r (mV (j:=j) (F:=No) (n:=n) (fun _ h=>h.elim) O (fun m' hm'=>F6 m' O) c0) rfl p9 rfl fun w5 v6 hb Kj r=>?_
  have hb:=hb.below;have Z5:=hb.size;have I3:=keep hb I3;have IA:=keep hb IA;have IR:=keep hb IR;have H1:=keep hb H1;obtain ⟨hB,zB⟩:=IQ hb hB;refine kP r Kj.shape rfl rfl H1 cd rfl rfl fun w8 u9 r=>?_;have Z8:=u9.size
  have I3:=u9.keep I3 O
  have IA:=u9.keep IA O
  have IR:=u9.keep IR O
  have H1:=u9.at_;obtain ⟨hB,zB⟩:=u9.on hB O
  refine wn (q4 ?_);have hd:D.mM j B6 c0 c1 c2 a0=(D.fQ j B6 c0):=(ar h4).trans (rfl);have hs:=Kj.shape.cells;refine ak r rfl rfl H1 (k:=20) hs.1 ce ?_;rw [<-hs.2.2,hd];exact av.fin (Jd.aS hB) Kj u9 (fun _ h=>h.elim) (fun h=>h) O O O
 refine q7 (I0 (kF 0 r rfl i9 rfl fun r=>kF 0 r rfl dm rfl fun r=>kG (ac c0.seat.p) 6 r rfl I3 IJ rfl rfl fun r=>kF 0 r rfl i9 rfl fun r=>kF 0 r rfl j9 rfl fun r=>kL (I c0.seat.thread) r rfl I3 IL rfl rfl fun r=>kL (I c1) r rfl IA IL rfl rfl fun r=>?_));refine kD r (ue (j:=j) (F:=No) (n:=n) (fun _ h=>h.elim) O c0.seat.p c0.seat.thread c1) rfl xy rfl fun J8 v11 hb Jl r=>?_
 have Jl:=Jl.loud;have Z10:=hb.size;have I3:=keep hb I3;have IA:=keep hb IA;have IR:=keep hb IR;have H1:=keep hb H1;obtain ⟨hB,zB⟩:=IQ hb hB;refine aa (.func (.func 391) #[] #[zp IU,zp I5]) r (fun R=>aZ r rfl) rfl fun fr r=>?_;have I4:∀ b,(kW F w0 w2 b1) b->b<J8.heap.size:=by rintro b (h | ⟨_,h,_⟩); exact q9 (hF b h) hB.size; exact q9 h O
 have f16:((kW F w0 w2 b1)) IU:=(.inl c2F);have f17:((kW F w0 w2 b1)) I5:=(.inl J9);have JZ:=cw hF hB.size b1;refine kJ r (zh (F:=(kW F w0 J8 b1)) (F2:=(kW F w0 w2 b1)) (n:=n) JZ yan yah yai (IK.mono (F':=fun b=>w2.heap.size<=b/\b<J8.heap.size) yam (I8.refl _ _) (Nat.le_refl _) n _ _ Jl) ⟨391,[],[zp IU,zp I5],Gl,rfl,fun m hm x w' hs hz=>yY (j:=j) (fun b hb=>q9 (I4 b hb) hz) O (fun m' hm'=>F6 m' O) c2 f16 (hs.at_ f16 IR) c0 f17 (hs.at_ f17 I3) x⟩) rfl xG rfl fun Kc K6 hb Kf r=>?_
 have Z13:=hb.size;have H1:=bc hb H1 Kl
 have hB:=Jd.aS (Z:=F) hB;have hB:=hB.bn hb yad
 have zB:=hB.size;refine kP r Kf.shape rfl rfl H1 cd rfl rfl fun w18 u19 r=>?_;have Z18:=u19.size
 have H1:=u19.at_;have hB:=hB.bm u19 (.inl O)
 have zB:=hB.size;refine wn (q4 ?_);have hd:D.mM j B6 c0 c1 c2 a0=(T.bind (D.gO j c0.seat.p c0.seat.thread c1) (fun x=>(D.mJ j B6 c2 c0 x))):=(ai h4).trans (rfl)
 have hs:=Kf.shape.cells;refine ak r rfl rfl H1 (k:=20) hs.1 ce ?_;rw [<-hs.2.2,hd];exact av.fin hB Kf u19 yac Kl O O O
theorem zH {B6:Walk->T Walk} (hF:kH F w0) (hj:n<j) (F6:∀ m,m<n->dH B6 m)
    (a0:Walk) (a1:Int) :
    Calls B0 367 #[z6 (bf a0),.int .i64 a1] w0 (av B0 aK n (D.pQ j B6 a0 a1) F w0):=by
 refine kN Tryz.func367 rfl 16 rfl rfl fun fr r hB=>?_;refine I0 ?_
 refine kX 221 (z6 (bf a0)) r rfl rfl fun b1 w2 n3 r=>?_;obtain ⟨E1,Z2,H1,hB,zB⟩:=n3.all hB
 refine kX 3 (I a1) r rfl rfl fun b4 w5 n6 r=>?_;have H1:=keep n6.below H1
 obtain ⟨E4,Z5,H4,hB,zB⟩:=n6.all hB;refine ah (.cells (kq aK) 224 (0,0)) r (fun R=>ag cB) rfl fun fr b7 w8 n9 r=>?_;have H1:=keep n9.below H1
 have H4:=keep n9.below H4;obtain ⟨E7,Z8,H7,hB,zB⟩:=n9.all hB;refine wn (I0 (kF 0 r rfl ic rfl fun r=>kL (U a0.next) r rfl H1 Ja rfl rfl fun r=>kB r rfl rfl rfl rfl rfl fun r=>?_));refine ah (.cells #[(U 0)] 34 (0,0)) r (fun R=>ag tz34) rfl fun fr b10 JV JN r=>?_
 have H1:=keep JN.below H1;have H4:=keep JN.below H4;have H7:=keep JN.below H7;obtain ⟨E10,Z11,Jp,hB,zB⟩:=JN.all hB;refine aM (.cells #[(U (cH .u64 a0.next 1))] 34 (0,0)) r (fun R=>bb r (o:=0) (v:=(U (cH .u64 a0.next 1))) rfl rfl Jp ts34 u7 rfl rfl) rfl fun fr Kc Kr r=>?_;have Z13:=Kr.size
 have H1:=Kr.keep H1 O
 have H4:=Kr.keep H4 O
 have H7:=Kr.keep H7 O
 have Jp:=Kr.at_;obtain ⟨hB,zB⟩:=Kr.on hB O
 refine wn (I0 (kF 0 r rfl m5 rfl fun r=>kL (I a0.place) r rfl H1 IL rfl rfl fun r=>kF 0 r rfl eY rfl fun r=>kL (U a0.cur) r rfl H1 Ja rfl rfl fun r=>kL (U (cH .u64 a0.next 1)) r rfl Jp Ja rfl rfl fun r=>aa (.func (.func 389) #[] #[zp b1,zp b4,zp b10]) r (fun R=>aZ r rfl) rfl fun fr r=>?_));have I4:=cw hF hB.size b7
 have f18:((kW F w0 Kc b7)) b1:=(.inr ⟨O,O,O⟩)
 have f19:((kW F w0 Kc b7)) b4:=(.inr ⟨O,O,O⟩)
 have f20:((kW F w0 Kc b7)) b10:=(.inr ⟨O,O,O⟩)
 refine kJ r (AG (F:=(kW F w0 Kc b7)) (n:=n) I4 a0.place a0.cur (cH .u64 a0.next 1) ⟨389,[],[zp b1,zp b4,zp b10],GN,rfl,fun m hm x w' hs hz=>zo (j:=j) (fun b hb=>q9 (I4 b hb) hz) O (fun m' hm'=>F6 m' O) a0 f18 (hs.at_ f18 H1) a1 f19 (hs.at_ f19 H4) (cH .u64 a0.next 1) f20 (hs.at_ f20 Jp) x⟩) rfl GZ rfl fun w15 v16 hb hr17 r=>?_;have Z15:=hb.size
 have H7:=bc hb H7 Kl
 have hB:=Jd.aS (Z:=F) hB;have hB:=hB.bn hb yad
 have zB:=hB.size;refine kP r hr17.shape rfl rfl H7 cd rfl rfl fun w21 u22 r=>?_;have Z21:=u22.size
 have H7:=u22.at_;have hB:=hB.bm u22 (.inl O)
 have zB:=hB.size;refine wn (q4 ?_);have hs:=hr17.shape.cells;refine ak r rfl rfl H7 (k:=20) hs.1 ce ?_;rw [<-hs.2.2];exact av.fin hB hr17 u22 yac Kl O O O
theorem zC {B6:Walk->T Walk} (hF:kH F w0) (hj:n<j) (F6:∀ m,m<n->dH B6 m)
    (c0:Walk) {I5:Nat} (J9:F I5) (I3:w0.heap[I5]?=some (.cells ((bf c0)).toArray 221 (0,0))) (c1:Int) {IE:Nat} (Ka:F IE) (IA:w0.heap[IE]?=some (.cells ([(.int .i64 c1)]).toArray 3 (0,0))) (c2:Int) {IU:Nat} (c2F:F IU) (IR:w0.heap[IU]?=some (.cells ([(.int .u64 c2)]).toArray 34 (0,0))) (a0:Int) :
    Calls B0 366 #[.int .u64 a0,zp I5,zp IE,zp IU] w0 (av B0 aK n (D.iD j B6 c0 c1 c2 a0) F w0):=by
 refine kN Tryz.func366 rfl 36 rfl rfl fun fr r hB=>?_;have Jq:=q8 I3
 have Jy:=q8 IA;have Kg:=q8 IR;refine I0 ?_;refine ah (.cells (kq aK) 224 (0,0)) r (fun R=>ag cB) rfl fun fr b1 w2 n3 r=>?_;have I3:=keep n3.below I3
 have IA:=keep n3.below IA;have IR:=keep n3.below IR;obtain ⟨E1,Z2,H1,hB,zB⟩:=n3.all hB;refine wn (d9 (wp_block (I0 (kM (U a0) r rfl rfl fun r=>kF 0 r rfl eY rfl fun r=>kL (U c0.cur) r rfl I3 Ja rfl rfl fun r=>kB r rfl rfl rfl rfl rfl fun r=>kA (.bool (a0 !=c0.cur)) r rfl rfl fun r=>wn ?_))));refine q5 (t:=(a0 !=c0.cur)) (r.ev rfl) (fun h4=>?_) (fun h4=>?_)
 ·
  refine I0 (kG (bf c0) 14 r rfl I3 dG rfl rfl fun r=>?_);refine kJ r (mV (j:=j) (F:=No) (n:=n) (fun _ h=>h.elim) O (fun m' hm'=>F6 m' O) c0) rfl p9 rfl fun w5 v6 hb Kj r=>?_
  have hb:=hb.below;have Z5:=hb.size;have I3:=keep hb I3;have IA:=keep hb IA;have IR:=keep hb IR;have H1:=keep hb H1;obtain ⟨hB,zB⟩:=IQ hb hB;refine kP r Kj.shape rfl rfl H1 cd rfl rfl fun w8 u9 r=>?_;have Z8:=u9.size
  have I3:=u9.keep I3 O
  have IA:=u9.keep IA O
  have IR:=u9.keep IR O
  have H1:=u9.at_;obtain ⟨hB,zB⟩:=u9.on hB O
  refine wn (q4 ?_);have hd:D.iD j B6 c0 c1 c2 a0=(D.fQ j B6 c0):=(ar h4).trans (rfl);have hs:=Kj.shape.cells;refine ak r rfl rfl H1 (k:=20) hs.1 ce ?_;rw [<-hs.2.2,hd];exact av.fin (Jd.aS hB) Kj u9 (fun _ h=>h.elim) (fun h=>h) O O O
 refine I0 (kF 0 r rfl ic rfl fun r=>kL (U c0.next) r rfl I3 Ja rfl rfl fun r=>kB r rfl rfl rfl rfl rfl fun r=>kB r rfl rfl rfl rfl rfl fun r=>kA (.bool ((cL .u64 c0.next 1) !=0)) r rfl rfl fun r=>wn ?_);refine q5 (t:=((cL .u64 c0.next 1) !=0)) (r.ev rfl) (fun JS=>?_) (fun JS=>?_)
 ·
  refine I0 (kG (bf c0) 14 r rfl I3 dG rfl rfl fun r=>kL (I c1) r rfl IA IL rfl rfl fun r=>?_);refine kJ r (zH (j:=j) (F:=No) (n:=n) (fun _ h=>h.elim) O (fun m' hm'=>F6 m' O) c0 c1) rfl He rfl fun JV v12 hb KA r=>?_
  have hb:=hb.below;have Z11:=hb.size;have I3:=keep hb I3;have IA:=keep hb IA;have IR:=keep hb IR;have H1:=keep hb H1;obtain ⟨hB,zB⟩:=IQ hb hB;refine kP r KA.shape rfl rfl H1 cd rfl rfl fun w14 u15 r=>?_;have Z14:=u15.size
  have I3:=u15.keep I3 O
  have IA:=u15.keep IA O
  have IR:=u15.keep IR O
  have H1:=u15.at_;obtain ⟨hB,zB⟩:=u15.on hB O
  refine wn (q4 ?_);have hd:D.iD j B6 c0 c1 c2 a0=(D.pQ j B6 c0 c1):=(ai h4).trans ((ar JS).trans (rfl));have hs:=KA.shape.cells;refine ak r rfl rfl H1 (k:=20) hs.1 ce ?_;rw [<-hs.2.2,hd];exact av.fin (Jd.aS hB) KA u15 (fun _ h=>h.elim) (fun h=>h) O O O
 refine I0 (kL (U c2) r rfl IR Ja rfl rfl fun r=>kF 0 r rfl ry rfl fun r=>kL (U c0.k) r rfl I3 Ja rfl rfl fun r=>kB r rfl rfl rfl rfl rfl fun r=>kA (.bool (decide (c2>=c0.k))) r rfl rfl fun r=>wn ?_);refine q5 (t:=(decide (c2>=c0.k))) (r.ev rfl) (fun h16=>?_) (fun h16=>?_)
 ·
  refine I0 (kL (U c2) r rfl IR Ja rfl rfl fun r=>kF 0 r rfl ry rfl fun r=>kL (U c0.k) r rfl I3 Ja rfl rfl fun r=>kB r rfl rfl rfl rfl rfl fun r=>kF 0 r rfl m6 rfl fun r=>?_);refine aM (.cells ((bf ({ c0 with there:=(c2==c0.k) }))).toArray 221 (0,0)) r (fun R=>bb r (o:=13) (v:=(.bool (c2==c0.k))) rfl rfl I3 ts4 u7 rfl rfl) rfl fun fr w17 K7 r=>?_
  have Z17:=K7.size;have IA:=K7.keep IA (j3 IA I3 rfl);have IR:=K7.keep IR (j3 IR I3 rfl);have H1:=K7.keep H1 O
  have I3:=K7.at_;have hB:=Jd.aS (Z:=F) hB;have hB:=hB.bm K7 (.inr J9);have zB:=hB.size;obtain ⟨zs19,ezs19⟩:∃ z,z=({ c0 with there:=(c2==c0.k) }):=⟨_,rfl⟩
  rw [<-ezs19] at I3
  refine wn (I0 (kG (bf zs19) 14 r rfl I3 dG rfl rfl fun r=>?_));refine kJ r (tI (F:=No) (n:=n) (fun _ h=>h.elim) zs19) rfl xx rfl fun w20 KF hb hr22 r=>?_
  have hb:=hb.below;have Z20:=hb.size;have I3:=keep hb I3;have IA:=keep hb IA;have IR:=keep hb IR;have H1:=keep hb H1;have hB:=hB.thenB hb;have zB:=hB.size;refine kP r hr22.shape rfl rfl H1 cd rfl rfl fun w23 u24 r=>?_;have Z23:=u24.size
  have I3:=u24.keep I3 O
  have IA:=u24.keep IA O
  have IR:=u24.keep IR O
  have H1:=u24.at_;have hB:=hB.bm u24 (.inl O)
  have zB:=hB.size;refine wn (q4 ?_);have hd:D.iD j B6 c0 c1 c2 a0=(D.jq zs19):=by subst ezs19; exact (ai h4).trans ((ai JS).trans ((ar h16).trans (rfl)))
  have hs:=hr22.shape.cells;refine ak r rfl rfl H1 (k:=20) hs.1 ce ?_;rw [<-hs.2.2,hd];exact av.fin hB hr22 u24 (fun _ h=>h.elim) (fun h=>h) O O O
 refine q7 (I0 (kG (bf c0) 14 r rfl I3 dG rfl rfl fun r=>kL (I c1) r rfl IA IL rfl rfl fun r=>?_));refine kJ r (BA (j:=j) (F:=No) (n:=n) (fun _ h=>h.elim) O (fun m' hm'=>F6 m' O) c0 c1) rfl Gu rfl fun w25 v26 hb hr27 r=>?_
 have hb:=hb.below;have Z25:=hb.size;have I3:=keep hb I3;have IA:=keep hb IA;have IR:=keep hb IR;have H1:=keep hb H1;obtain ⟨hB,zB⟩:=IQ hb hB;refine kP r hr27.shape rfl rfl H1 cd rfl rfl fun w28 u29 r=>?_;have Z28:=u29.size
 have I3:=u29.keep I3 O
 have IA:=u29.keep IA O
 have IR:=u29.keep IR O
 have H1:=u29.at_;obtain ⟨hB,zB⟩:=u29.on hB O
 refine wn (q4 ?_);have hd:D.iD j B6 c0 c1 c2 a0=(D.jA j B6 c0 c1):=(ai h4).trans ((ai JS).trans ((ai h16).trans (rfl)));have hs:=hr27.shape.cells;refine ak r rfl rfl H1 (k:=20) hs.1 ce ?_;rw [<-hs.2.2,hd];exact av.fin (Jd.aS hB) hr27 u29 (fun _ h=>h.elim) (fun h=>h) O O O
theorem A7 {B6:Walk->T Walk} (hF:kH F w0) (hj:n<j) (F6:∀ m,m<n->dH B6 m)
    (c0:Walk) {I5:Nat} (J9:F I5) (I3:w0.heap[I5]?=some (.cells ((bf c0)).toArray 221 (0,0))) (c1:Int) {IE:Nat} (Ka:F IE) (IA:w0.heap[IE]?=some (.cells ([(.int .i64 c1)]).toArray 3 (0,0))) (a0:Int) :
    Calls B0 365 #[.int .u64 a0,zp I5,zp IE] w0 (av B0 aK n (D.ng j B6 c0 c1 a0) F w0):=by
 refine kN Tryz.func365 rfl 9 rfl rfl fun fr r hB=>?_;have Jq:=q8 I3
 have Jy:=q8 IA;refine I0 ?_;refine kX 34 (U a0) r rfl rfl fun b1 w2 n3 r=>?_;have I3:=keep n3.below I3
 have IA:=keep n3.below IA;obtain ⟨E1,Z2,H1,hB,zB⟩:=n3.all hB;refine ah (.cells (kq aK) 224 (0,0)) r (fun R=>ag cB) rfl fun fr b4 w5 n6 r=>?_;have I3:=keep n6.below I3
 have IA:=keep n6.below IA;have H1:=keep n6.below H1;obtain ⟨E4,Z5,H4,hB,zB⟩:=n6.all hB;refine wn (I0 (kF 0 r rfl m5 rfl fun r=>kL (I c0.place) r rfl I3 IL rfl rfl fun r=>aa (.func (.func 366) #[] #[zp I5,zp IE,zp b1]) r (fun R=>aZ r rfl) rfl fun fr r=>?_));have I4:=cw hF hB.size b4
 have f10:((kW F w0 w5 b4)) I5:=(.inl J9);have f11:((kW F w0 w5 b4)) IE:=(.inl Ka);have f12:((kW F w0 w5 b4)) b1:=(.inr ⟨O,O,O⟩)
 refine kJ r (mU (F:=(kW F w0 w5 b4)) (n:=n) I4 c0.place ⟨366,[],[zp I5,zp IE,zp b1],Gm,rfl,fun m hm x w' hs hz=>zC (j:=j) (fun b hb=>q9 (I4 b hb) hz) O (fun m' hm'=>F6 m' O) c0 f10 (hs.at_ f10 I3) c1 f11 (hs.at_ f11 IA) a0 f12 (hs.at_ f12 H1) x⟩) rfl pC rfl fun w7 v8 hb hr9 r=>?_;have Z7:=hb.size
 have H4:=bc hb H4 Kl
 have hB:=Jd.aS (Z:=F) hB;have hB:=hB.bn hb yad
 have zB:=hB.size;refine kP r hr9.shape rfl rfl H4 cd rfl rfl fun Kc Kr r=>?_;have Z13:=Kr.size
 have H4:=Kr.at_;have hB:=hB.bm Kr (.inl O)
 have zB:=hB.size;refine wn (q4 ?_);have hs:=hr9.shape.cells;refine ak r rfl rfl H4 (k:=20) hs.1 ce ?_;rw [<-hs.2.2];exact av.fin hB hr9 Kr yac Kl O O O
theorem AE {B6:Walk->T Walk} (hF:kH F w0) (hj:n<j) (F6:∀ m,m<n->dH B6 m)
    (a0:Walk) (a1:Int) :
    Calls B0 322 #[z6 (bf a0),.int .i64 a1] w0 (av B0 aK n (D.jn j B6 a0 a1) F w0):=by
 refine kN Tryz.func322 rfl 12 rfl rfl fun fr r hB=>?_;refine I0 ?_
 refine kX 221 (z6 (bf a0)) r rfl rfl fun b1 w2 n3 r=>?_;obtain ⟨E1,Z2,H1,hB,zB⟩:=n3.all hB
 refine kX 3 (I a1) r rfl rfl fun b4 w5 n6 r=>?_;have H1:=keep n6.below H1
 obtain ⟨E4,Z5,H4,hB,zB⟩:=n6.all hB;refine ah (.cells (kq aK) 224 (0,0)) r (fun R=>ag cB) rfl fun fr b7 w8 n9 r=>?_;have H1:=keep n9.below H1
 have H4:=keep n9.below H4;obtain ⟨E7,Z8,H7,hB,zB⟩:=n9.all hB;refine wn (I0 (kF 0 r rfl i9 rfl fun r=>kF 0 r rfl dm rfl fun r=>kG (ac a0.seat.p) 6 r rfl H1 IJ rfl rfl fun r=>kL (I a1) r rfl H4 IL rfl rfl fun r=>?_));refine kE r (eB w8 a0.seat.p a1 0) rfl cl89 rfl fun J8 hb r=>?_
 have Z10:=hb.size;have H1:=keep hb H1;have H4:=keep hb H4;have H7:=keep hb H7;obtain ⟨hB,zB⟩:=IQ hb hB;refine aa (.func (.func 365) #[] #[zp b1,zp b4]) r (fun R=>aZ r rfl) rfl fun fr r=>?_;have I4:=cw hF hB.size b7
 have f14:((kW F w0 J8 b7)) b1:=(.inr ⟨O,O,O⟩)
 have f15:((kW F w0 J8 b7)) b4:=(.inr ⟨O,O,O⟩)
 refine kJ r (mU (F:=(kW F w0 J8 b7)) (n:=n) I4 (D.bo a0.seat.p a1 0) ⟨365,[],[zp b1,zp b4],EV,rfl,fun m hm x w' hs hz=>A7 (j:=j) (fun b hb=>q9 (I4 b hb) hz) O (fun m' hm'=>F6 m' O) a0 f14 (hs.at_ f14 H1) a1 f15 (hs.at_ f15 H4) x⟩) rfl pC rfl fun JV v12 hb KA r=>?_;have Z11:=hb.size
 have H7:=bc hb H7 Kl
 have hB:=Jd.aS (Z:=F) hB;have hB:=hB.bn hb yad
 have zB:=hB.size;refine kP r KA.shape rfl rfl H7 cd rfl rfl fun w16 K3 r=>?_;have Z16:=K3.size
 have H7:=K3.at_;have hB:=hB.bm K3 (.inl O)
 have zB:=hB.size;refine wn (q4 ?_);have hs:=KA.shape.cells;refine ak r rfl rfl H7 (k:=20) hs.1 ce ?_;rw [<-hs.2.2];exact av.fin hB KA K3 yac Kl O O O
theorem zm {B6:Walk->T Walk} (hF:kH F w0) (hj:n<j) (F6:∀ m,m<n->dH B6 m)
    (c0:Int) {I5:Nat} (J9:F I5) (I3:w0.heap[I5]?=some (.cells ([(.int .u64 c0)]).toArray 34 (0,0))) (c1:Walk) {IE:Nat} (Ka:F IE) (IA:w0.heap[IE]?=some (.cells ((bf c1)).toArray 221 (0,0))) (c2:Int) {IU:Nat} (c2F:F IU) (IR:w0.heap[IU]?=some (.cells ([(.int .i64 c2)]).toArray 3 (0,0))) (a0:Int) :
    Calls B0 321 #[.int .u64 a0,zp I5,zp IE,zp IU] w0 (av B0 aK n (D.kY j B6 c0 c1 c2 a0) F w0):=by
 refine kN Tryz.func321 rfl 16 rfl rfl fun fr r hB=>?_;have Jq:=q8 I3
 have Jy:=q8 IA;have Kg:=q8 IR;refine I0 ?_;refine ah (.cells (kq aK) 224 (0,0)) r (fun R=>ag cB) rfl fun fr b1 w2 n3 r=>?_;have I3:=keep n3.below I3
 have IA:=keep n3.below IA;have IR:=keep n3.below IR;obtain ⟨E1,Z2,H1,hB,zB⟩:=n3.all hB;refine wn (d9 (I0 (kM (U a0) r rfl rfl fun r=>kL (U c0) r rfl I3 Ja rfl rfl fun r=>kB r rfl rfl rfl rfl rfl fun r=>wn ?_)));refine q5 (t:=(a0 !=c0)) (r.ev rfl) (fun h4=>?_) (fun h4=>?_)
 ·
  refine I0 (kG (bf c1) 14 r rfl IA dG rfl rfl fun r=>?_);refine kJ r (mV (j:=j) (F:=No) (n:=n) (fun _ h=>h.elim) O (fun m' hm'=>F6 m' O) c1) rfl p9 rfl fun w5 v6 hb Kj r=>?_
  have hb:=hb.below;have Z5:=hb.size;have I3:=keep hb I3;have IA:=keep hb IA;have IR:=keep hb IR;have H1:=keep hb H1;obtain ⟨hB,zB⟩:=IQ hb hB;refine kP r Kj.shape rfl rfl H1 cd rfl rfl fun w8 u9 r=>?_;have Z8:=u9.size
  have I3:=u9.keep I3 O
  have IA:=u9.keep IA O
  have IR:=u9.keep IR O
  have H1:=u9.at_;obtain ⟨hB,zB⟩:=u9.on hB O
  refine wn (q4 ?_);have hd:D.kY j B6 c0 c1 c2 a0=(D.fQ j B6 c1):=(ar h4).trans (rfl);have hs:=Kj.shape.cells;refine ak r rfl rfl H1 (k:=20) hs.1 ce ?_;rw [<-hs.2.2,hd];exact av.fin (Jd.aS hB) Kj u9 (fun _ h=>h.elim) (fun h=>h) O O O
 refine q7 (I0 (kL (U c0) r rfl I3 Ja rfl rfl fun r=>kF 0 r rfl ic rfl fun r=>?_));refine aM (.cells ((bf ({ c1 with next:=c0 }))).toArray 221 (0,0)) r (fun R=>bb r (o:=12) (v:=(U c0)) rfl rfl IA ts34 u7 rfl rfl) rfl fun fr J8 JG r=>?_
 have Z10:=JG.size;have I3:=JG.keep I3 (j3 I3 IA rfl);have IR:=JG.keep IR (j3 IR IA rfl);have H1:=JG.keep H1 O
 have IA:=JG.at_;have hB:=Jd.aS (Z:=F) hB;have hB:=hB.bm JG (.inr Ka);have zB:=hB.size;obtain ⟨zs12,ezs12⟩:∃ z,z=({ c1 with next:=c0 }):=⟨_,rfl⟩
 rw [<-ezs12] at IA
 refine wn (I0 (kG (bf zs12) 14 r rfl IA dG rfl rfl fun r=>kL (I c2) r rfl IR IL rfl rfl fun r=>?_));refine kJ r (AE (j:=j) (F:=No) (n:=n) (fun _ h=>h.elim) O (fun m' hm'=>F6 m' O) zs12 c2) rfl FL rfl fun Kc K6 hb Kf r=>?_
 have hb:=hb.below;have Z13:=hb.size;have I3:=keep hb I3;have IA:=keep hb IA;have IR:=keep hb IR;have H1:=keep hb H1;have hB:=hB.thenB hb;have zB:=hB.size;refine kP r Kf.shape rfl rfl H1 cd rfl rfl fun w16 K3 r=>?_;have Z16:=K3.size
 have I3:=K3.keep I3 O
 have IA:=K3.keep IA O
 have IR:=K3.keep IR O
 have H1:=K3.at_;have hB:=hB.bm K3 (.inl O)
 have zB:=hB.size;refine wn (q4 ?_);have hd:D.kY j B6 c0 c1 c2 a0=(D.jn j B6 zs12 c2):=by subst ezs12; exact (ai h4).trans (rfl)
 have hs:=Kf.shape.cells;refine ak r rfl rfl H1 (k:=20) hs.1 ce ?_;rw [<-hs.2.2,hd];exact av.fin hB Kf K3 (fun _ h=>h.elim) (fun h=>h) O O O
theorem zM {B6:Walk->T Walk} (hF:kH F w0) (hj:n<j) (F6:∀ m,m<n->dH B6 m)
    (c0:Int) {I5:Nat} (J9:F I5) (I3:w0.heap[I5]?=some (.cells ([(.int .i64 c0)]).toArray 3 (0,0))) (c1:Int) {IE:Nat} (Ka:F IE) (IA:w0.heap[IE]?=some (.cells ([(.int .u64 c1)]).toArray 34 (0,0))) (c2:Walk) {IU:Nat} (c2F:F IU) (IR:w0.heap[IU]?=some (.cells ((bf c2)).toArray 221 (0,0))) (c3:Int) {Jr:Nat} (c3F:F Jr) (JB:w0.heap[Jr]?=some (.cells ([(.int .i64 c3)]).toArray 3 (0,0))) :
    Calls B0 320 #[zp I5,zp IE,zp IU,zp Jr] w0 (av B0 aK n (D.l6 j B6 c0 c1 c2 c3) F w0):=by
 refine kN Tryz.func320 rfl 8 rfl rfl fun fr r hB=>?_;have Jq:=q8 I3
 have Jy:=q8 IA;have Kg:=q8 IR;have KY:=q8 JB;refine I0 ?_;refine ah (.cells (kq aK) 224 (0,0)) r (fun R=>ag cB) rfl fun fr b1 w2 n3 r=>?_;have I3:=keep n3.below I3
 have IA:=keep n3.below IA;have IR:=keep n3.below IR;have JB:=keep n3.below JB;obtain ⟨E1,Z2,H1,hB,zB⟩:=n3.all hB;refine wn (I0 (kL (I c0) r rfl I3 IL rfl rfl fun r=>aa (.func (.func 321) #[] #[zp IE,zp IU,zp Jr]) r (fun R=>aZ r rfl) rfl fun fr r=>?_));have I4:=cw hF hB.size b1
 have f7:((kW F w0 w2 b1)) IE:=(.inl Ka);have f8:((kW F w0 w2 b1)) IU:=(.inl c2F);have f9:((kW F w0 w2 b1)) Jr:=(.inl c3F);refine kJ r (mU (F:=(kW F w0 w2 b1)) (n:=n) I4 c0 ⟨321,[],[zp IE,zp IU,zp Jr],GI,rfl,fun m hm x w' hs hz=>zm (j:=j) (fun b hb=>q9 (I4 b hb) hz) O (fun m' hm'=>F6 m' O) c1 f7 (hs.at_ f7 IA) c2 f8 (hs.at_ f8 IR) c3 f9 (hs.at_ f9 JB) x⟩) rfl pC rfl fun w4 v5 hb J0 r=>?_;have Z4:=hb.size
 have H1:=bc hb H1 Kl
 have hB:=Jd.aS (Z:=F) hB;have hB:=hB.bn hb yad
 have zB:=hB.size;refine kP r J0.shape rfl rfl H1 cd rfl rfl fun J8 JG r=>?_;have Z10:=JG.size
 have H1:=JG.at_;have hB:=hB.bm JG (.inl O)
 have zB:=hB.size;refine wn (q4 ?_);have hs:=J0.shape.cells;refine ak r rfl rfl H1 (k:=20) hs.1 ce ?_;rw [<-hs.2.2];exact av.fin hB J0 JG yac Kl O O O
theorem Ac {B6:Walk->T Walk} (hF:kH F w0) (hj:n<j) (F6:∀ m,m<n->dH B6 m)
    (c0:Walk) {I5:Nat} (J9:F I5) (I3:w0.heap[I5]?=some (.cells ((bf c0)).toArray 221 (0,0))) (c1:Int) {IE:Nat} (Ka:F IE) (IA:w0.heap[IE]?=some (.cells ([(.int .i64 c1)]).toArray 3 (0,0))) (c2:Int) {IU:Nat} (c2F:F IU) (IR:w0.heap[IU]?=some (.cells ([(.int .i64 c2)]).toArray 3 (0,0))) (a0:Int) :
    Calls B0 318 #[.int .u64 a0,zp I5,zp IE,zp IU] w0 (av B0 aK n (D.ni j B6 c0 c1 c2 a0) F w0):=by
 refine kN Tryz.func318 rfl 11 rfl rfl fun fr r hB=>?_;have Jq:=q8 I3
 have Jy:=q8 IA;have Kg:=q8 IR;refine I0 ?_;refine kX 34 (U a0) r rfl rfl fun b1 w2 n3 r=>?_;have I3:=keep n3.below I3
 have IA:=keep n3.below IA;have IR:=keep n3.below IR;obtain ⟨E1,Z2,H1,hB,zB⟩:=n3.all hB;refine ah (.cells (kq aK) 224 (0,0)) r (fun R=>ag cB) rfl fun fr b4 w5 n6 r=>?_;have I3:=keep n6.below I3
 have IA:=keep n6.below IA;have IR:=keep n6.below IR;have H1:=keep n6.below H1;obtain ⟨E4,Z5,H4,hB,zB⟩:=n6.all hB;refine wn (d9 ?_);refine bI 4 [.val (z6 (bf c0)),.val (U a0),.val (I (D.aX a0)),.val (.func (.func 320) #[] #[zp IE,zp b1,zp I5,zp IU])] mixed r kz (kV (kV (kV (kV bH)))) ?_ ?_
 ·
  refine ec r (fun _ u _ b d s=>aU s (cs:=(bf c0)) (n:=14) rfl (keep b I3) dG rfl bz) (ec r (fun _ u _ b d s=>ax s rfl (keep b H1) Ja rfl bz) (ec r (fun I2 u w' hb' hd r'=>aN r' (args:=[(U a0)]) (lc hd.1 l0) cl88 ((fU _ a0).mono JL)) (ec r (fun _ u _ b d s=>aZ s (v:=(.func (.func 320) #[] #[zp IE,zp b1,zp I5,zp IU])) rfl bz) ?_)));exact bJ
 intro fr u w7 hb Iz hne r;have r:=r.congr (sc (Iz 3 ke) (sc (Iz 2 ke) (sc (Iz 1 ke) (sc (Iz 0 ke) rfl))));have Z7:=hb.size;have I3:=keep hb I3;have IA:=keep hb IA;have IR:=keep hb IR;have H1:=keep hb H1;have H4:=keep hb H4;obtain ⟨hB,zB⟩:=IQ hb hB;have I4:=cw hF hB.size b4;have f11:((kW F w0 w7 b4)) IE:=(.inl Ka);have f12:((kW F w0 w7 b4)) b1:=(.inr ⟨O,O,O⟩)
 have f13:((kW F w0 w7 b4)) I5:=(.inl J9);have f14:((kW F w0 w7 b4)) IU:=(.inl c2F);refine kJ r (nk (F:=(kW F w0 w7 b4)) (n:=n) I4 c0 0 (D.aX a0) ⟨320,[],[zp IE,zp b1,zp I5,zp IU],FA,rfl,fun m hm _ w' hs hz=>zM (j:=j) (fun b hb=>q9 (I4 b hb) hz) O (fun m' hm'=>F6 m' O) c1 f11 (hs.at_ f11 IA) a0 f12 (hs.at_ f12 H1) c0 f13 (hs.at_ f13 I3) c2 f14 (hs.at_ f14 IR)⟩) rfl pq rfl fun w8 v9 hb Jv r=>?_;have Z8:=hb.size
 have H4:=bc hb H4 Kl
 have hB:=Jd.aS (Z:=F) hB;have hB:=hB.bn hb yad
 have zB:=hB.size;refine kP r Jv.shape rfl rfl H4 cd rfl rfl fun w15 u16 r=>?_;have Z15:=u16.size
 have H4:=u16.at_;have hB:=hB.bm u16 (.inl O)
 have zB:=hB.size;refine wn (q4 ?_);have hs:=Jv.shape.cells;refine ak r rfl rfl H4 (k:=20) hs.1 ce ?_;rw [<-hs.2.2];exact av.fin hB Jv u16 yac Kl O O O
theorem AX {n:Nat} {F:Nat->Prop} {j:Nat} {B6:Walk->T Walk} {w0:World} (hF:∀ b,F b->b<w0.heap.size) (hj:n<j) (F6:∀ m,m<n->dH B6 m)
    (a0:Walk) :
    Calls B0 249 #[z6 (bf a0)] w0 (av B0 aK n (D.gC j B6 a0) F w0):=by
 refine kN Tryz.func249 rfl 21 rfl rfl fun fr r hB=>?_;refine I0 ?_
 refine kX 221 (z6 (bf a0)) r rfl rfl fun b1 w2 n3 r=>?_;obtain ⟨E1,Z2,H1,hB,zB⟩:=n3.all hB
 refine ah (.cells (kq aK) 224 (0,0)) r (fun R=>ag cB) rfl fun fr b4 w5 n6 r=>?_;have H1:=keep n6.below H1
 obtain ⟨E4,Z5,H4,hB,zB⟩:=n6.all hB;refine wn (I0 (kF 0 r rfl eY rfl fun r=>kL (U a0.cur) r rfl H1 Ja rfl rfl fun r=>?_));refine kE r (fU w5 a0.cur) rfl cl88 rfl fun w7 hb r=>?_
 have Z7:=hb.size;have H1:=keep hb H1;have H4:=keep hb H4;obtain ⟨hB,zB⟩:=IQ hb hB;refine ah (.cells #[(I 0)] 3 (0,0)) r (fun R=>ag tz3) rfl fun fr b8 w9 n10 r=>?_;have H1:=keep n10.below H1
 have H4:=keep n10.below H4;obtain ⟨E8,Z9,H8,hB,zB⟩:=n10.all hB;refine aM (.cells #[(I (D.aX a0.cur))] 3 (0,0)) r (fun R=>bb r (o:=0) (v:=(I (D.aX a0.cur))) rfl rfl H8 ts3 u7 rfl rfl) rfl fun fr JV JH r=>?_;have Z11:=JH.size
 have H1:=JH.keep H1 O
 have H4:=JH.keep H4 O
 have H8:=JH.at_;obtain ⟨hB,zB⟩:=JH.on hB O
 refine wn (d9 (I0 (kL (I (D.aX a0.cur)) r rfl H8 IL rfl rfl fun r=>kB r rfl rfl rfl rfl rfl fun r=>wn ?_)));refine q5 (t:=(decide ((D.aX a0.cur)<0))) (r.ev rfl) (fun J6=>?_) (fun J6=>?_)
 ·
  refine I0 (kF 0 r rfl m6 rfl fun r=>?_);refine aM (.cells ((bf ({ a0 with there:=false }))).toArray 221 (0,0)) r (fun R=>bb r (o:=13) (v:=(.bool false)) rfl rfl H1 ts4 u7 rfl rfl) rfl fun fr w14 u15 r=>?_
  have Z14:=u15.size;have H4:=u15.keep H4 O
  have H8:=u15.keep H8 O
  have H1:=u15.at_;obtain ⟨hB,zB⟩:=u15.on hB O
  obtain ⟨zs16,ezs16⟩:∃ z,z=({ a0 with there:=false }):=⟨_,rfl⟩
  rw [<-ezs16] at H1
  refine wn (I0 (kG (bf zs16) 14 r rfl H1 dG rfl rfl fun r=>?_));refine kJ r (tI (F:=No) (n:=n) (fun _ h=>h.elim) zs16) rfl xx rfl fun w17 v18 hb KI r=>?_
  have hb:=hb.below;have Z17:=hb.size;have H1:=keep hb H1;have H4:=keep hb H4;have H8:=keep hb H8;obtain ⟨hB,zB⟩:=IQ hb hB;refine kP r KI.shape rfl rfl H4 cd rfl rfl fun w20 u21 r=>?_;have Z20:=u21.size
  have H1:=u21.keep H1 O
  have H8:=u21.keep H8 O
  have H4:=u21.at_;obtain ⟨hB,zB⟩:=u21.on hB O
  refine wn (q4 ?_);have hd:D.gC j B6 a0=(D.jq zs16):=by subst ezs16; exact (ar J6).trans (rfl)
  have hs:=KI.shape.cells;refine ak r rfl rfl H4 (k:=20) hs.1 ce ?_;rw [<-hs.2.2,hd];exact av.fin (Jd.aS hB) KI u21 (fun _ h=>h.elim) (fun h=>h) O O O
 refine q7 (I0 (kF 0 r rfl i9 rfl fun r=>kF 0 r rfl dm rfl fun r=>kG (ac a0.seat.p) 6 r rfl H1 IJ rfl rfl fun r=>kL (I (D.aX a0.cur)) r rfl H8 IL rfl rfl fun r=>?_));refine kE r (eB JV a0.seat.p (D.aX a0.cur) 2) rfl cl89 rfl fun w22 hb r=>?_
 have Z22:=hb.size;have H1:=keep hb H1;have H4:=keep hb H4;have H8:=keep hb H8;obtain ⟨hB,zB⟩:=IQ hb hB;refine ah (.cells #[(I 0)] 3 (0,0)) r (fun R=>ag tz3) rfl fun fr b23 w24 n25 r=>?_;have H1:=keep n25.below H1
 have H4:=keep n25.below H4;have H8:=keep n25.below H8;obtain ⟨E23,Z24,H23,hB,zB⟩:=n25.all hB;refine aM (.cells #[(I (D.bo a0.seat.p (D.aX a0.cur) 2))] 3 (0,0)) r (fun R=>bb r (o:=0) (v:=(I (D.bo a0.seat.p (D.aX a0.cur) 2))) rfl rfl H23 ts3 u7 rfl rfl) rfl fun fr w26 u27 r=>?_;have Z26:=u27.size
 have H1:=u27.keep H1 O
 have H4:=u27.keep H4 O
 have H8:=u27.keep H8 O
 have H23:=u27.at_;obtain ⟨hB,zB⟩:=u27.on hB O
 refine wn (I0 (kL (I (D.bo a0.seat.p (D.aX a0.cur) 2)) r rfl H23 IL rfl rfl fun r=>aa (.func (.func 318) #[] #[zp b1,zp b23,zp b8]) r (fun R=>aZ r rfl) rfl fun fr r=>?_));have I4:=cw hF hB.size b4
 have f31:((kW F w0 w26 b4)) b1:=(.inr ⟨O,O,O⟩)
 have f32:((kW F w0 w26 b4)) b23:=(.inr ⟨O,O,O⟩)
 have f33:((kW F w0 w26 b4)) b8:=(.inr ⟨O,O,O⟩)
 refine kJ r (mU (F:=(kW F w0 w26 b4)) (n:=n) I4 (D.bo a0.seat.p (D.aX a0.cur) 2) ⟨318,[],[zp b1,zp b23,zp b8],Ht,rfl,fun m hm x w' hs hz=>Ac (j:=j) (fun b hb=>q9 (I4 b hb) hz) O (fun m' hm'=>F6 m' O) a0 f31 (hs.at_ f31 H1) (D.bo a0.seat.p (D.aX a0.cur) 2) f32 (hs.at_ f32 H23) (D.aX a0.cur) f33 (hs.at_ f33 H8) x⟩) rfl pC rfl fun w28 v29 hb hr30 r=>?_;have Z28:=hb.size
 have H4:=bc hb H4 Kl
 have hB:=Jd.aS (Z:=F) hB;have hB:=hB.bn hb yad
 have zB:=hB.size;refine kP r hr30.shape rfl rfl H4 cd rfl rfl fun w34 u35 r=>?_;have Z34:=u35.size
 have H4:=u35.at_;have hB:=hB.bm u35 (.inl O)
 have zB:=hB.size;refine wn (q4 ?_);have hd:D.gC j B6 a0=(D.iH (D.bo a0.seat.p (D.aX a0.cur) 2) (fun x=>(D.ni j B6 a0 (D.bo a0.seat.p (D.aX a0.cur) 2) (D.aX a0.cur) x))):=(ai J6).trans (rfl)
 have hs:=hr30.shape.cells;refine ak r rfl rfl H4 (k:=20) hs.1 ce ?_;rw [<-hs.2.2,hd];exact av.fin hB hr30 u35 yac Kl O O O
theorem mX {n:Nat} {j:Nat} (hj:n<j) {k:Nat} (hk:n<k):dH (D.du j k) n:=by
 induction n using Nat.strongRecOn generalizing k with
 | _ n ih=>
  obtain ⟨k,rfl⟩:∃ q,k=q+1:=⟨k - 1,O⟩
  intro F w0 hF;have h:=@AX n F j (D.du j k) w0 hF hj (fun m hm=>ih m hm O O)
  exact h
def D.qo (a0:Int):T IM:=(D.lO 7)
theorem AO (hF:kH F w0)
    (a0:Int) :
    Calls B0 241 #[.int .i64 a0] w0 (av B0 aA n (D.qo a0) F w0):=by
 refine kN Tryz.func241 rfl 4 rfl rfl fun fr r hB=>?_;refine I0 ?_
 refine ah (.cells (kq aA) 41 (0,0)) r (fun R=>ag JD) rfl fun fr b1 w2 n3 r=>?_;obtain ⟨E1,Z2,H1,hB,zB⟩:=n3.all hB
 refine wn (I0 ?_);refine kJ r (uC (F:=No) (n:=n) (fun _ h=>h.elim) 7) rfl yO rfl fun w4 v5 hb J0 r=>?_;have hb:=hb.below
 have Z4:=hb.size;have H1:=keep hb H1;obtain ⟨hB,zB⟩:=IQ hb hB;refine kP r J0.shape rfl rfl H1 Ju rfl rfl fun w7 u8 r=>?_;have Z7:=u8.size
 have H1:=u8.at_;obtain ⟨hB,zB⟩:=u8.on hB O
 refine wn (q4 ?_);have hs:=J0.shape.cells;refine ak r rfl rfl H1 (k:=8) hs.1 Jt ?_;rw [<-hs.2.2];exact av.fin (Jd.aS hB) J0 u8 (fun _ h=>h.elim) (fun h=>h) O O O
def D.lB (j:Nat) (c0:Je) (c1:Int):T IM:=(T.bind (D.jr j c0.p c1) (fun x=>(D.qo x)))
theorem Bx (hF:kH F w0) (hj:n<j)
    (c0:Je) {I5:Nat} (J9:F I5) (I3:w0.heap[I5]?=some (.cells ((bi c0)).toArray 47 (0,0))) (c1:Int) {IE:Nat} (Ka:F IE) (IA:w0.heap[IE]?=some (.cells ([(.int .i64 c1)]).toArray 3 (0,0))) :
    Calls B0 239 #[.agg #[],zp I5,zp IE] w0 (av B0 aA n (D.lB j c0 c1) F w0):=by
 refine kN Tryz.func239 rfl 10 rfl rfl fun fr r hB=>?_;have Jq:=q8 I3
 have Jy:=q8 IA;refine I0 ?_;refine kX 128 (.agg #[]) r rfl rfl fun b1 w2 n3 r=>?_;have I3:=keep n3.below I3
 have IA:=keep n3.below IA;obtain ⟨E1,Z2,H1,hB,zB⟩:=n3.all hB;refine ah (.cells (kq aA) 41 (0,0)) r (fun R=>ag JD) rfl fun fr b4 w5 n6 r=>?_;have I3:=keep n6.below I3
 have IA:=keep n6.below IA;have H1:=keep n6.below H1;obtain ⟨E4,Z5,H4,hB,zB⟩:=n6.all hB;refine wn (I0 (kF 0 r rfl dm rfl fun r=>kG (ac c0.p) 6 r rfl I3 IJ rfl rfl fun r=>kL (I c1) r rfl IA IL rfl rfl fun r=>?_));refine kD r (tO (j:=j) (F:=No) (n:=n) (fun _ h=>h.elim) O c0.p c1) rfl xV rfl fun w7 v8 hb hr9 r=>?_
 have hr9:=hr9.loud;have Z7:=hb.size;have I3:=keep hb I3;have IA:=keep hb IA;have H1:=keep hb H1;have H4:=keep hb H4;obtain ⟨hB,zB⟩:=IQ hb hB;have I4:∀ b,(kW F w0 w5 b4) b->b<w7.heap.size:=by rintro b (h | ⟨_,h,_⟩); exact q9 (hF b h) hB.size; exact q9 h O
 have JZ:=cw hF hB.size b4;refine kJ r (tk (F:=(kW F w0 w7 b4)) (F2:=(kW F w0 w5 b4)) (n:=n) JZ yan yah yai (IK.mono (F':=fun b=>w5.heap.size<=b/\b<w7.heap.size) yam (I8.refl _ _) (Nat.le_refl _) n _ _ hr9) ⟨241,[],[],EY,rfl,fun m hm x w' hs hz=>AO (fun b hb=>q9 (I4 b hb) hz)  x⟩) rfl rY rfl fun J8 v11 hb Jl r=>?_
 have Z10:=hb.size;have H4:=bc hb H4 Kl
 have hB:=Jd.aS (Z:=F) hB;have hB:=hB.bn hb yad
 have zB:=hB.size;refine kP r Jl.shape rfl rfl H4 Ju rfl rfl fun Kc Kr r=>?_;have Z13:=Kr.size
 have H4:=Kr.at_;have hB:=hB.bm Kr (.inl O)
 have zB:=hB.size;refine wn (q4 ?_);have hs:=Jl.shape.cells;refine ak r rfl rfl H4 (k:=8) hs.1 Jt ?_;rw [<-hs.2.2];exact av.fin hB Jl Kr yac Kl O O O
def D.jH (a0:Int):Int:=(KQ .u64 (IntKind.u64.wrap (IntKind.i64.wrap (a0+1))) 1)
theorem Cb (w0:World) 
    (a0:Int) :
    Calls B0 243 #[.int .i64 a0] w0 (bB (.int .u64 (D.jH a0)) w0):=by
 refine kN Tryz.func243 rfl 7 rfl rfl fun fr r hB=>?_;refine I0 (kA (U 0) r rfl rfl fun r=>wn (I0 (kM (I a0) r rfl rfl fun r=>kB r rfl rfl rfl rfl rfl fun r=>aa (U (V (W (a0+1)))) r (fun R=>cV r rfl ti3 KO) rfl fun fr r=>kB r rfl rfl rfl (oN yax) rfl fun r=>kA (U (KQ .u64 (V (W (a0+1))) 1)) r rfl rfl fun r=>wn (q4 ?_))))
 refine aT r rfl rfl ?_;exact ⟨rfl,hB⟩
def D.qD (c0:IM):T IM:=(D.qw c0)
theorem Bq (hF:kH F w0)
    (c0:IM) {I5:Nat} (J9:F I5) (I3:w0.heap[I5]?=some (.cells ((ID c0)).toArray 36 (0,0))) :
    Calls B0 250 #[.agg #[],zp I5] w0 (av B0 aA n (D.qD c0) F w0):=by
 refine kN Tryz.func250 rfl 6 rfl rfl fun fr r hB=>?_;have Jq:=q8 I3
 refine I0 ?_;refine kX 128 (.agg #[]) r rfl rfl fun b1 w2 n3 r=>?_;obtain ⟨E1,Z2,H1,hB,zB⟩:=n3.all hB
 refine ah (.cells (kq aA) 41 (0,0)) r (fun R=>ag JD) rfl fun fr b4 w5 n6 r=>?_;have H1:=keep n6.below H1
 obtain ⟨E4,Z5,H4,hB,zB⟩:=n6.all hB;refine wn (I0 (kG (ID c0) 2 r rfl (keep hB I3) ta36 rfl rfl fun r=>?_));refine kJ r (tL (F:=No) (n:=n) (fun _ h=>h.elim) c0) rfl cl15 rfl fun w7 v8 hb hr9 r=>?_
 have hb:=hb.below;have Z7:=hb.size;have H1:=keep hb H1;have H4:=keep hb H4;obtain ⟨hB,zB⟩:=IQ hb hB;refine kP r hr9.shape rfl rfl H4 Ju rfl rfl fun J8 JG r=>?_;have Z10:=JG.size
 have H1:=JG.keep H1 O
 have H4:=JG.at_;obtain ⟨hB,zB⟩:=JG.on hB O
 refine wn (q4 ?_);have hs:=hr9.shape.cells;refine ak r rfl rfl H4 (k:=8) hs.1 Jt ?_;rw [<-hs.2.2];exact av.fin (Jd.aS hB) hr9 JG (fun _ h=>h.elim) (fun h=>h) O O O
def D.eF (j:Nat) (a0:Je) (a1:IM):T IM:=(T.bind (D.nP j a0.p a0.thread) (fun _=>(D.qD a1)))
theorem jy (hF:kH F w0) (hj:n<j)
    (a0:Je) (a1:IM) :
    Calls B0 160 #[z6 (bi a0),z6 (ID a1)] w0 (av B0 aA n (D.eF j a0 a1) F w0):=by
 refine kN Tryz.func160 rfl 12 rfl rfl fun fr r hB=>?_;refine I0 ?_
 refine kX 47 (z6 (bi a0)) r rfl rfl fun b1 w2 n3 r=>?_;obtain ⟨E1,Z2,H1,hB,zB⟩:=n3.all hB
 refine kX 36 (z6 (ID a1)) r rfl rfl fun b4 w5 n6 r=>?_;have H1:=keep n6.below H1
 obtain ⟨E4,Z5,H4,hB,zB⟩:=n6.all hB;refine ah (.cells (kq aA) 41 (0,0)) r (fun R=>ag JD) rfl fun fr b7 w8 n9 r=>?_;have H1:=keep n9.below H1
 have H4:=keep n9.below H4;obtain ⟨E7,Z8,H7,hB,zB⟩:=n9.all hB;refine wn (I0 (kF 0 r rfl dm rfl fun r=>kG (ac a0.p) 6 r rfl H1 IJ rfl rfl fun r=>kF 0 r rfl j9 rfl fun r=>kL (I a0.thread) r rfl H1 IL rfl rfl fun r=>?_));refine kD r (uc (j:=j) (F:=No) (n:=n) (fun _ h=>h.elim) O a0.p a0.thread) rfl yg rfl fun J8 v11 hb Jl r=>?_
 have Jl:=Jl.loud;have Z10:=hb.size;have H1:=keep hb H1;have H4:=keep hb H4;have H7:=keep hb H7;obtain ⟨hB,zB⟩:=IQ hb hB;refine aa (.func (.func 250) #[] #[zp b4]) r (fun R=>aZ r rfl) rfl fun fr r=>?_;have I4:∀ b,(kW F w0 w8 b7) b->b<J8.heap.size:=by rintro b (h | ⟨_,h,_⟩); exact q9 (hF b h) hB.size; exact q9 h O
 have f16:((kW F w0 w8 b7)) b4:=(.inr ⟨O,O,O⟩)
 have JZ:=cw hF hB.size b7;refine kJ r (sR (F:=(kW F w0 J8 b7)) (F2:=(kW F w0 w8 b7)) (n:=n) JZ yan yah yai (IK.mono (F':=fun b=>w8.heap.size<=b/\b<J8.heap.size) yam (I8.refl _ _) (Nat.le_refl _) n _ _ Jl) ⟨250,[],[zp b4],Gq,rfl,fun m hm _ w' hs hz=>Bq (fun b hb=>q9 (I4 b hb) hz) a1 f16 (hs.at_ f16 H4)⟩) rfl sj rfl fun Kc K6 hb Kf r=>?_
 have Z13:=hb.size;have H7:=bc hb H7 Kl
 have hB:=Jd.aS (Z:=F) hB;have hB:=hB.bn hb yad
 have zB:=hB.size;refine kP r Kf.shape rfl rfl H7 Ju rfl rfl fun w17 K7 r=>?_;have Z17:=K7.size
 have H7:=K7.at_;have hB:=hB.bm K7 (.inl O)
 have zB:=hB.size;refine wn (q4 ?_);have hs:=Kf.shape.cells;refine ak r rfl rfl H7 (k:=8) hs.1 Jt ?_;rw [<-hs.2.2];exact av.fin hB Kf K7 yac Kl O O O
def D.lp (j:Nat) (HK:Je->Int->Int->Int->T IM) (c0:Je) (c1:Int) (c2:Int) (c3:Int) (a0:Bool):T IM:=(bif (!a0) then (HK c0 c1 c2 c3) else (D.eF j c0 (⟨0,0⟩:IM)))
def D.nL (j:Nat) (HK:Je->Int->Int->Int->T IM) (c0:Walk) (c1:Int) (c2:Je) (c3:Int) (c4:Int):T IM:=(D.jx c0.place c0.cur (D.jH c1) (fun x=>(D.lp j HK c2 c3 c4 c1 x)))
def D.iP (j:Nat) (HK:Je->Int->Int->Int->T IM) (c0:Je) (c1:Int) (c2:Int) (c3:Int) (a0:Walk):T IM:=(bif a0.there then (T.bind (D.nP j c0.p c0.thread) (fun _=>(D.lB j c0 c1))) else (D.fq (D.bo c0.p c1 2) a0.cur (fun _=>(D.nL j HK a0 c1 c0 c2 c3))))
def D.um (j:Nat) (HK:Je->Int->Int->Int->T IM) (a0:Je) (a1:Int) (a2:Int) (a3:Int):T IM:=(T.bind (D.jL j (D.du j j) a0 a1 a2) (fun x=>(D.iP j HK a0 a3 a1 a2 x)))
def D.gm (j:Nat):Nat->Je->Int->Int->Int->T IM
 | 0,_,_,_,_=>.cut
 | k+1,a0,a1,a2,a3=>D.um j (D.gm j k) a0 a1 a2 a3
def lv (r:Je->Int->Int->Int->T IM) (n:Nat):Prop:=∀ (F:Nat->Prop) (w0:World),(∀ b,F b->b<w0.heap.size)->∀ (a0:Je) (a1:Int) (a2:Int) (a3:Int),Calls B0 156 #[z6 (bi a0),.int .i64 a1,.int .u64 a2,.int .i64 a3] w0 (av B0 aA n (r a0 a1 a2 a3) F w0)
theorem AW {HK:Je->Int->Int->Int->T IM} (hF:kH F w0) (hj:n<j) (HX:∀ m,m<=n->lv HK m)
    (c0:Je) {I5:Nat} (J9:F I5) (I3:w0.heap[I5]?=some (.cells ((bi c0)).toArray 47 (0,0))) (c1:Int) {IE:Nat} (Ka:F IE) (IA:w0.heap[IE]?=some (.cells ([(.int .i64 c1)]).toArray 3 (0,0))) (c2:Int) {IU:Nat} (c2F:F IU) (IR:w0.heap[IU]?=some (.cells ([(.int .u64 c2)]).toArray 34 (0,0))) (c3:Int) {Jr:Nat} (c3F:F Jr) (JB:w0.heap[Jr]?=some (.cells ([(.int .i64 c3)]).toArray 3 (0,0))) (a0:Bool) :
    Calls B0 244 #[.bool a0,zp I5,zp IE,zp IU,zp Jr] w0 (av B0 aA n (D.lp j HK c0 c1 c2 c3 a0) F w0):=by
 refine kN Tryz.func244 rfl 17 rfl rfl fun fr r hB=>?_;have Jq:=q8 I3
 have Jy:=q8 IA;have Kg:=q8 IR;have KY:=q8 JB;refine I0 ?_;refine ah (.cells (kq aA) 41 (0,0)) r (fun R=>ag JD) rfl fun fr b1 w2 n3 r=>?_;obtain ⟨E1,Z2,H1,hB,zB⟩:=n3.all hB
 refine wn (d9 (I0 (kM (.bool a0) r rfl rfl fun r=>aa (.bool (!a0)) r (fun R=>JQ r (u:=(.bool a0)) rfl rfl) rfl fun fr r=>wn ?_)));refine q5 (t:=(!a0)) (r.ev rfl) (fun h4=>?_) (fun h4=>?_)
 ·
  refine I0 (kG (bi c0) 8 r rfl (keep hB I3) La rfl rfl fun r=>kL (I c1) r rfl (keep hB IA) IL rfl rfl fun r=>kL (U c2) r rfl (keep hB IR) Ja rfl rfl fun r=>kL (I c3) r rfl (keep hB JB) IL rfl rfl fun r=>?_);refine kJ r ((HX n O) (No) _ (fun _ h=>h.elim) c0 c1 c2 c3) rfl yM rfl fun w5 v6 hb Kj r=>?_
  have hb:=hb.below;have Z5:=hb.size;have H1:=keep hb H1;obtain ⟨hB,zB⟩:=IQ hb hB;refine kP r Kj.shape rfl rfl H1 Ju rfl rfl fun w8 u9 r=>?_;have Z8:=u9.size
  have H1:=u9.at_;obtain ⟨hB,zB⟩:=u9.on hB O
  refine wn (q4 ?_);have hd:D.lp j HK c0 c1 c2 c3 a0=(HK c0 c1 c2 c3):=(ar h4).trans (rfl);have hs:=Kj.shape.cells;refine ak r rfl rfl H1 (k:=8) hs.1 Jt ?_;rw [<-hs.2.2,hd];exact av.fin (Jd.aS hB) Kj u9 (fun _ h=>h.elim) (fun h=>h) O O O
 refine q7 (I0 (kG (bi c0) 8 r rfl (keep hB I3) La rfl rfl fun r=>kU (z6 (ID (⟨0,0⟩:IM))) r kz rfl fun r=>?_));refine kJ r (jy (j:=j) (F:=No) (n:=n) (fun _ h=>h.elim) O c0 (⟨0,0⟩:IM)) rfl kx rfl fun J8 v11 hb Jl r=>?_
 have hb:=hb.below;have Z10:=hb.size;have H1:=keep hb H1;obtain ⟨hB,zB⟩:=IQ hb hB;refine kP r Jl.shape rfl rfl H1 Ju rfl rfl fun Kc Kr r=>?_;have Z13:=Kr.size
 have H1:=Kr.at_;obtain ⟨hB,zB⟩:=Kr.on hB O
 refine wn (q4 ?_);have hd:D.lp j HK c0 c1 c2 c3 a0=(D.eF j c0 (⟨0,0⟩:IM)):=(ai h4).trans (rfl);have hs:=Jl.shape.cells;refine ak r rfl rfl H1 (k:=8) hs.1 Jt ?_;rw [<-hs.2.2,hd];exact av.fin (Jd.aS hB) Jl Kr (fun _ h=>h.elim) (fun h=>h) O O O
theorem Bm {HK:Je->Int->Int->Int->T IM} (hF:kH F w0) (hj:n<j) (HX:∀ m,m<n->lv HK m)
    (c0:Walk) {I5:Nat} (J9:F I5) (I3:w0.heap[I5]?=some (.cells ((bf c0)).toArray 221 (0,0))) (c1:Int) {IE:Nat} (Ka:F IE) (IA:w0.heap[IE]?=some (.cells ([(.int .i64 c1)]).toArray 3 (0,0))) (c2:Je) {IU:Nat} (c2F:F IU) (IR:w0.heap[IU]?=some (.cells ((bi c2)).toArray 47 (0,0))) (c3:Int) {Jr:Nat} (c3F:F Jr) (JB:w0.heap[Jr]?=some (.cells ([(.int .i64 c3)]).toArray 3 (0,0))) (c4:Int) {KG:Nat} (c4F:F KG) (c4h:w0.heap[KG]?=some (.cells ([(.int .u64 c4)]).toArray 34 (0,0))) :
    Calls B0 242 #[zp I5,zp IE,zp IU,zp Jr,zp KG] w0 (av B0 aA n (D.nL j HK c0 c1 c2 c3 c4) F w0):=by
 refine kN Tryz.func242 rfl 14 rfl rfl fun fr r hB=>?_;have Jq:=q8 I3
 have Jy:=q8 IA;have Kg:=q8 IR;have KY:=q8 JB;have lc4b:=q8 c4h;refine I0 ?_;refine ah (.cells (kq aA) 41 (0,0)) r (fun R=>ag JD) rfl fun fr b1 w2 n3 r=>?_;have I3:=keep n3.below I3
 have IA:=keep n3.below IA;have IR:=keep n3.below IR;have JB:=keep n3.below JB;have c4h:=keep n3.below c4h;obtain ⟨E1,Z2,H1,hB,zB⟩:=n3.all hB;refine wn (d9 ?_);refine bI 7 [.val (.pointer (some ⟨I5,10,none⟩)),.val (I c0.place),.val (.pointer (some ⟨I5,11,none⟩)),.val (U c0.cur),.val (I c1),.val (U (D.jH c1)),.val (.func (.func 244) #[] #[zp IU,zp Jr,zp KG,zp IE])] mixed r kz (kV (kV (kV (kV (kV (kV (kV bH))))))) ?_ ?_
 ·
  refine ec r (fun _ u _ b d s=>az s (b:=I5) (o:=0) rfl m5 bz) (ec r (fun _ u _ b d s=>ax s d.1 (keep b I3) IL rfl bz) (ec r (fun _ u _ b d s=>az s (b:=I5) (o:=0) rfl eY bz) (ec r (fun _ u _ b d s=>ax s d.1 (keep b I3) Ja rfl bz) (ec r (fun _ u _ b d s=>ax s rfl (keep b IA) IL rfl bz) (ec r (fun I2 u w' hb' hd r'=>aN r' (args:=[(I c1)]) (lc hd.1 l0) Fu ((Cb _ c1).mono JL)) (ec r (fun _ u _ b d s=>aZ s (v:=(.func (.func 244) #[] #[zp IU,zp Jr,zp KG,zp IE])) rfl bz) ?_))))));exact bJ
 intro fr u w4 hb Iz hne r;have r:=r.congr (sc (Iz 6 ke) (sc (Iz 5 ke) (sc (Iz 4 ke) (sc (Iz 3 ke) (sc (Iz 2 ke) (sc (Iz 1 ke) (sc (Iz 0 ke) rfl)))))));have Z4:=hb.size;have I3:=keep hb I3;have IA:=keep hb IA;have IR:=keep hb IR;have JB:=keep hb JB;have c4h:=keep hb c4h;have H1:=keep hb H1;obtain ⟨hB,zB⟩:=IQ hb hB;have I4:=cw hF hB.size b1;have f8:((kW F w0 w4 b1)) IU:=(.inl c2F);have f9:((kW F w0 w4 b1)) Jr:=(.inl c3F);have f10:((kW F w0 w4 b1)) KG:=(.inl c4F);have f11:((kW F w0 w4 b1)) IE:=(.inl Ka);refine kJ r (qf (F:=(kW F w0 w4 b1)) (n:=n) I4 c0.place c0.cur (D.jH c1) ⟨244,[],[zp IU,zp Jr,zp KG,zp IE],Hu,rfl,fun m hm x w' hs hz=>AW (j:=j) (fun b hb=>q9 (I4 b hb) hz) O (fun m' hm'=>HX m' O) c2 f8 (hs.at_ f8 IR) c3 f9 (hs.at_ f9 JB) c4 f10 (hs.at_ f10 c4h) c1 f11 (hs.at_ f11 IA) x⟩) rfl sF rfl fun w5 v6 hb Kj r=>?_;have Z5:=hb.size
 have H1:=bc hb H1 Kl
 have hB:=Jd.aS (Z:=F) hB;have hB:=hB.bn hb yad
 have zB:=hB.size;refine kP r Kj.shape rfl rfl H1 Ju rfl rfl fun w12 u13 r=>?_;have Z12:=u13.size
 have H1:=u13.at_;have hB:=hB.bm u13 (.inl O)
 have zB:=hB.size;refine wn (q4 ?_);have hs:=Kj.shape.cells;refine ak r rfl rfl H1 (k:=8) hs.1 Jt ?_;rw [<-hs.2.2];exact av.fin hB Kj u13 yac Kl O O O
theorem C8 {HK:Je->Int->Int->Int->T IM} (hF:kH F w0) (hj:n<j) (HX:∀ m,m<n->lv HK m)
    (c0:Je) {I5:Nat} (J9:F I5) (I3:w0.heap[I5]?=some (.cells ((bi c0)).toArray 47 (0,0))) (c1:Int) {IE:Nat} (Ka:F IE) (IA:w0.heap[IE]?=some (.cells ([(.int .i64 c1)]).toArray 3 (0,0))) (c2:Int) {IU:Nat} (c2F:F IU) (IR:w0.heap[IU]?=some (.cells ([(.int .i64 c2)]).toArray 3 (0,0))) (c3:Int) {Jr:Nat} (c3F:F Jr) (JB:w0.heap[Jr]?=some (.cells ([(.int .u64 c3)]).toArray 34 (0,0))) (a0:Walk) :
    Calls B0 237 #[z6 (bf a0),zp I5,zp IE,zp IU,zp Jr] w0 (av B0 aA n (D.iP j HK c0 c1 c2 c3 a0) F w0):=by
 refine kN Tryz.func237 rfl 24 rfl rfl fun fr r hB=>?_;have Jq:=q8 I3
 have Jy:=q8 IA;have Kg:=q8 IR;have KY:=q8 JB;refine I0 ?_;refine kX 221 (z6 (bf a0)) r rfl rfl fun b1 w2 n3 r=>?_;have I3:=keep n3.below I3
 have IA:=keep n3.below IA;have IR:=keep n3.below IR;have JB:=keep n3.below JB;obtain ⟨E1,Z2,H1,hB,zB⟩:=n3.all hB;refine ah (.cells (kq aA) 41 (0,0)) r (fun R=>ag JD) rfl fun fr b4 w5 n6 r=>?_;have I3:=keep n6.below I3
 have IA:=keep n6.below IA;have IR:=keep n6.below IR;have JB:=keep n6.below JB;have H1:=keep n6.below H1;obtain ⟨E4,Z5,H4,hB,zB⟩:=n6.all hB;refine wn (d9 (I0 (kF 0 r rfl m6 rfl fun r=>kL (.bool a0.there) r rfl H1 to4 rfl rfl fun r=>wn ?_)));refine q5 (t:=a0.there) (r.ev rfl) (fun h7=>?_) (fun h7=>?_)
 ·
  refine I0 (kF 0 r rfl dm rfl fun r=>kG (ac c0.p) 6 r rfl I3 IJ rfl rfl fun r=>kF 0 r rfl j9 rfl fun r=>kL (I c0.thread) r rfl I3 IL rfl rfl fun r=>?_);refine kD r (uc (j:=j) (F:=No) (n:=n) (fun _ h=>h.elim) O c0.p c0.thread) rfl yg rfl fun w8 v9 hb Jv r=>?_
  have Jv:=Jv.loud;have Z8:=hb.size;have I3:=keep hb I3;have IA:=keep hb IA;have IR:=keep hb IR;have JB:=keep hb JB;have H1:=keep hb H1;have H4:=keep hb H4;obtain ⟨hB,zB⟩:=IQ hb hB;refine aa (.func (.func 239) #[] #[zp I5,zp IE]) r (fun R=>aZ r rfl) rfl fun fr r=>?_;have I4:∀ b,(kW F w0 w5 b4) b->b<w8.heap.size:=by rintro b (h | ⟨_,h,_⟩); exact q9 (hF b h) hB.size; exact q9 h O
  have f14:((kW F w0 w5 b4)) I5:=(.inl J9);have f15:((kW F w0 w5 b4)) IE:=(.inl Ka);have JZ:=cw hF hB.size b4;refine kJ r (sR (F:=(kW F w0 w8 b4)) (F2:=(kW F w0 w5 b4)) (n:=n) JZ yan yah yai (IK.mono (F':=fun b=>w5.heap.size<=b/\b<w8.heap.size) yam (I8.refl _ _) (Nat.le_refl _) n _ _ Jv) ⟨239,[],[zp I5,zp IE],Ff,rfl,fun m hm _ w' hs hz=>Bx (j:=j) (fun b hb=>q9 (I4 b hb) hz) O c0 f14 (hs.at_ f14 I3) c1 f15 (hs.at_ f15 IA)⟩) rfl sj rfl fun JV v12 hb KA r=>?_
  have Z11:=hb.size;have H4:=bc hb H4 Kl
  have hB:=Jd.aS (Z:=F) hB;have hB:=hB.bn hb yad
  have zB:=hB.size;refine kP r KA.shape rfl rfl H4 Ju rfl rfl fun w16 K3 r=>?_;have Z16:=K3.size
  have H4:=K3.at_;have hB:=hB.bm K3 (.inl O)
  have zB:=hB.size;refine wn (q4 ?_);have hd:D.iP j HK c0 c1 c2 c3 a0=(T.bind (D.nP j c0.p c0.thread) (fun _=>(D.lB j c0 c1))):=(ar h7).trans (rfl)
  have hs:=KA.shape.cells;refine ak r rfl rfl H4 (k:=8) hs.1 Jt ?_;rw [<-hs.2.2,hd];exact av.fin hB KA K3 yac Kl O O O
 refine q7 (d9 ?_);refine bI 7 [.val (zp I5),.val (z6 (ac c0.p)),.val (I c1),.val (I (D.bo c0.p c1 2)),.val (.pointer (some ⟨b1,11,none⟩)),.val (U a0.cur),.val (.func (.func 242) #[] #[zp b1,zp IE,zp I5,zp IU,zp Jr])] mixed r kz (kV (kV (kV (kV (kV (kV (kV bH))))))) ?_ ?_
 ·
  refine ec r (fun _ u _ b d s=>az s (b:=I5) (o:=0) rfl dm bz) (ec r (fun _ u _ b d s=>aU s (cs:=(ac c0.p)) (n:=6) d.1 (keep b I3) IJ rfl bz) (ec r (fun _ u _ b d s=>ax s rfl (keep b IA) IL rfl bz) (ec r (fun I2 u w' hb' hd r'=>aN r' (args:=[(z6 (ac c0.p)),(I c1),(I 2)]) (lc hd.1 (lc hd.2.1 (lc rfl l0))) cl89 ((eB _ c0.p c1 2).mono JL)) (ec r (fun _ u _ b d s=>az s (b:=b1) (o:=0) rfl eY bz) (ec r (fun _ u _ b d s=>ax s d.1 (keep b H1) Ja rfl bz) (ec r (fun _ u _ b d s=>aZ s (v:=(.func (.func 242) #[] #[zp b1,zp IE,zp I5,zp IU,zp Jr])) rfl bz) ?_))))));exact bJ
 intro fr u w18 hb Iz hne r;have r:=r.congr (sc (Iz 6 ke) (sc (Iz 5 ke) (sc (Iz 4 ke) (sc (Iz 3 ke) (sc (Iz 2 ke) (sc (Iz 1 ke) (sc (Iz 0 ke) rfl)))))));have Z18:=hb.size;have I3:=keep hb I3;have IA:=keep hb IA;have IR:=keep hb IR;have JB:=keep hb JB;have H1:=keep hb H1;have H4:=keep hb H4;obtain ⟨hB,zB⟩:=IQ hb hB;have I4:=cw hF hB.size b4;have f22:((kW F w0 w18 b4)) b1:=(.inr ⟨O,O,O⟩)
 have f23:((kW F w0 w18 b4)) IE:=(.inl Ka);have f24:((kW F w0 w18 b4)) I5:=(.inl J9);have f25:((kW F w0 w18 b4)) IU:=(.inl c2F);have f26:((kW F w0 w18 b4)) Jr:=(.inl c3F);refine kJ r (pV (F:=(kW F w0 w18 b4)) (n:=n) I4 (D.bo c0.p c1 2) a0.cur ⟨242,[],[zp b1,zp IE,zp I5,zp IU,zp Jr],FB,rfl,fun m hm _ w' hs hz=>Bm (j:=j) (fun b hb=>q9 (I4 b hb) hz) O (fun m' hm'=>HX m' O) a0 f22 (hs.at_ f22 H1) c1 f23 (hs.at_ f23 IA) c0 f24 (hs.at_ f24 I3) c2 f25 (hs.at_ f25 IR) c3 f26 (hs.at_ f26 JB)⟩) rfl sG rfl fun w19 v20 hb hr21 r=>?_;have Z19:=hb.size
 have H4:=bc hb H4 Kl
 have hB:=Jd.aS (Z:=F) hB;have hB:=hB.bn hb yad
 have zB:=hB.size;refine kP r hr21.shape rfl rfl H4 Ju rfl rfl fun w27 u28 r=>?_;have Z27:=u28.size
 have H4:=u28.at_;have hB:=hB.bm u28 (.inl O)
 have zB:=hB.size;refine wn (q4 ?_);have hd:D.iP j HK c0 c1 c2 c3 a0=(D.fq (D.bo c0.p c1 2) a0.cur (fun _=>(D.nL j HK a0 c1 c0 c2 c3))):=(ai h7).trans (rfl)
 have hs:=hr21.shape.cells;refine ak r rfl rfl H4 (k:=8) hs.1 Jt ?_;rw [<-hs.2.2,hd];exact av.fin hB hr21 u28 yac Kl O O O
theorem CS {n:Nat} {F:Nat->Prop} {j:Nat} {HK:Je->Int->Int->Int->T IM} {w0:World} (hF:∀ b,F b->b<w0.heap.size) (hj:n<j) (HX:∀ m,m<n->lv HK m)
    (a0:Je) (a1:Int) (a2:Int) (a3:Int) :
    Calls B0 156 #[z6 (bi a0),.int .i64 a1,.int .u64 a2,.int .i64 a3] w0 (av B0 aA n (D.um j HK a0 a1 a2 a3) F w0):=by
 refine kN Tryz.func156 rfl 15 rfl rfl fun fr r hB=>?_;refine I0 ?_
 refine kX 47 (z6 (bi a0)) r rfl rfl fun b1 w2 n3 r=>?_;obtain ⟨E1,Z2,H1,hB,zB⟩:=n3.all hB
 refine kX 3 (I a1) r rfl rfl fun b4 w5 n6 r=>?_;have H1:=keep n6.below H1
 obtain ⟨E4,Z5,H4,hB,zB⟩:=n6.all hB;refine kX 34 (U a2) r rfl rfl fun b7 w8 n9 r=>?_;have H1:=keep n9.below H1
 have H4:=keep n9.below H4;obtain ⟨E7,Z8,H7,hB,zB⟩:=n9.all hB;refine kX 3 (I a3) r rfl rfl fun b10 JV JN r=>?_;have H1:=keep JN.below H1
 have H4:=keep JN.below H4;have H7:=keep JN.below H7;obtain ⟨E10,Z11,Jp,hB,zB⟩:=JN.all hB;refine ah (.cells (kq aA) 41 (0,0)) r (fun R=>ag JD) rfl fun fr b13 w14 n15 r=>?_;have H1:=keep n15.below H1
 have H4:=keep n15.below H4;have H7:=keep n15.below H7;have Jp:=keep n15.below Jp;obtain ⟨E13,Z14,K0,hB,zB⟩:=n15.all hB;refine wn (I0 (kG (bi a0) 8 r rfl H1 La rfl rfl fun r=>kL (I a1) r rfl H4 IL rfl rfl fun r=>kL (U a2) r rfl H7 Ja rfl rfl fun r=>?_));refine kJ r (nQ (j:=j) (F:=No) (n:=n) (fun _ h=>h.elim) O (fun m' hm'=>mX (j:=j) (k:=j) O O) a0 a1 a2) rfl pB rfl fun w16 Kk hb hr18 r=>?_
 have hb:=hb.below;have Z16:=hb.size;have H1:=keep hb H1;have H4:=keep hb H4;have H7:=keep hb H7;have Jp:=keep hb Jp;have K0:=keep hb K0;obtain ⟨hB,zB⟩:=IQ hb hB;refine aa (.func (.func 237) #[] #[zp b1,zp b10,zp b4,zp b7]) r (fun R=>aZ r rfl) rfl fun fr r=>?_;have I4:∀ b,(kW F w0 w14 b13) b->b<w16.heap.size:=by rintro b (h | ⟨_,h,_⟩); exact q9 (hF b h) hB.size; exact q9 h O
 have f22:((kW F w0 w14 b13)) b1:=(.inr ⟨O,O,O⟩)
 have f23:((kW F w0 w14 b13)) b10:=(.inr ⟨O,O,O⟩)
 have f24:((kW F w0 w14 b13)) b4:=(.inr ⟨O,O,O⟩)
 have f25:((kW F w0 w14 b13)) b7:=(.inr ⟨O,O,O⟩)
 have JZ:=cw hF hB.size b13;refine kJ r (mH (F:=(kW F w0 w16 b13)) (F2:=(kW F w0 w14 b13)) (n:=n) JZ yan yah yai (IK.mono (F':=fun b=>w14.heap.size<=b/\b<w16.heap.size) yam (I8.refl _ _) (Nat.le_refl _) n _ _ hr18) ⟨237,[],[zp b1,zp b10,zp b4,zp b7],Gn,rfl,fun m hm x w' hs hz=>C8 (j:=j) (fun b hb=>q9 (I4 b hb) hz) O (fun m' hm'=>HX m' O) a0 f22 (hs.at_ f22 H1) a3 f23 (hs.at_ f23 Jp) a1 f24 (hs.at_ f24 H4) a2 f25 (hs.at_ f25 H7) x⟩) rfl mD rfl fun w19 v20 hb hr21 r=>?_
 have Z19:=hb.size;have K0:=bc hb K0 Kl
 have hB:=Jd.aS (Z:=F) hB;have hB:=hB.bn hb yad
 have zB:=hB.size;refine kP r hr21.shape rfl rfl K0 Ju rfl rfl fun w26 u27 r=>?_;have Z26:=u27.size
 have K0:=u27.at_;have hB:=hB.bm u27 (.inl O)
 have zB:=hB.size;refine wn (q4 ?_);have hs:=hr21.shape.cells;refine ak r rfl rfl K0 (k:=8) hs.1 Jt ?_;rw [<-hs.2.2];exact av.fin hB hr21 u27 yac Kl O O O
theorem Cv {n:Nat} {j:Nat} (hj:n<j) {k:Nat} (hk:n<k):lv (D.gm j k) n:=by
 induction n using Nat.strongRecOn generalizing k with
 | _ n ih=>
  obtain ⟨k,rfl⟩:∃ q,k=q+1:=⟨k - 1,O⟩
  intro F w0 hF;have h:=@CS n F j (D.gm j k) w0 hF hj (fun m hm=>ih m hm O O)
  exact h
def D.ug (j:Nat) (c0:Je) (c1:Int) (c2:Int) (c3:IY):T IM:=(D.gm j j c0 c1 c2 c3.node)
theorem AF (hF:kH F w0) (hj:n<j)
    (c0:Je) {I5:Nat} (J9:F I5) (I3:w0.heap[I5]?=some (.cells ((bi c0)).toArray 47 (0,0))) (c1:Int) {IE:Nat} (Ka:F IE) (IA:w0.heap[IE]?=some (.cells ([(.int .i64 c1)]).toArray 3 (0,0))) (c2:Int) {IU:Nat} (c2F:F IU) (IR:w0.heap[IU]?=some (.cells ([(.int .u64 c2)]).toArray 34 (0,0))) (c3:IY) {Jr:Nat} (c3F:F Jr) (JB:w0.heap[Jr]?=some (.cells ((grantC c3)).toArray 113 (0,0))) :
    Calls B0 155 #[zp I5,zp IE,zp IU,zp Jr] w0 (av B0 aA n (D.ug j c0 c1 c2 c3) F w0):=by
 refine kN Tryz.func155 rfl 11 rfl rfl fun fr r hB=>?_;have Jq:=q8 I3
 have Jy:=q8 IA;have Kg:=q8 IR;have KY:=q8 JB;refine I0 ?_;refine ah (.cells (kq aA) 41 (0,0)) r (fun R=>ag JD) rfl fun fr b1 w2 n3 r=>?_;obtain ⟨E1,Z2,H1,hB,zB⟩:=n3.all hB
 refine wn (I0 (kG (bi c0) 8 r rfl (keep hB I3) La rfl rfl fun r=>kL (I c1) r rfl (keep hB IA) IL rfl rfl fun r=>kL (U c2) r rfl (keep hB IR) Ja rfl rfl fun r=>kF 0 r rfl rH rfl fun r=>kL (I c3.node) r rfl (keep hB JB) IL rfl rfl fun r=>?_));refine kJ r ((Cv (j:=j) (k:=j) (n:=n) O O) (No) _ (fun _ h=>h.elim) c0 c1 c2 c3.node) rfl yM rfl fun w4 v5 hb J0 r=>?_
 have hb:=hb.below;have Z4:=hb.size;have H1:=keep hb H1;obtain ⟨hB,zB⟩:=IQ hb hB;refine kP r J0.shape rfl rfl H1 Ju rfl rfl fun w7 u8 r=>?_;have Z7:=u8.size
 have H1:=u8.at_;obtain ⟨hB,zB⟩:=u8.on hB O
 refine wn (q4 ?_);have hs:=J0.shape.cells;refine ak r rfl rfl H1 (k:=8) hs.1 Jt ?_;rw [<-hs.2.2];exact av.fin (Jd.aS hB) J0 u8 (fun _ h=>h.elim) (fun h=>h) O O O
def D.nN (j:Nat) (c0:Je) (c1:IY) (c2:Int) (c3:Int) (c4:Int):T IM:=(D.fq (D.bo c0.p c1.node 1) c2 (fun _=>(D.ug j c0 c3 c4 c1)))
theorem Br (hF:kH F w0) (hj:n<j)
    (c0:Je) {I5:Nat} (J9:F I5) (I3:w0.heap[I5]?=some (.cells ((bi c0)).toArray 47 (0,0))) (c1:IY) {IE:Nat} (Ka:F IE) (IA:w0.heap[IE]?=some (.cells ((grantC c1)).toArray 113 (0,0))) (c2:Int) {IU:Nat} (c2F:F IU) (IR:w0.heap[IU]?=some (.cells ([(.int .u64 c2)]).toArray 34 (0,0))) (c3:Int) {Jr:Nat} (c3F:F Jr) (JB:w0.heap[Jr]?=some (.cells ([(.int .i64 c3)]).toArray 3 (0,0))) (c4:Int) {KG:Nat} (c4F:F KG) (c4h:w0.heap[KG]?=some (.cells ([(.int .u64 c4)]).toArray 34 (0,0))) :
    Calls B0 154 #[zp I5,zp IE,zp IU,zp Jr,zp KG] w0 (av B0 aA n (D.nN j c0 c1 c2 c3 c4) F w0):=by
 refine kN Tryz.func154 rfl 14 rfl rfl fun fr r hB=>?_;have Jq:=q8 I3
 have Jy:=q8 IA;have Kg:=q8 IR;have KY:=q8 JB;have lc4b:=q8 c4h;refine I0 ?_;refine ah (.cells (kq aA) 41 (0,0)) r (fun R=>ag JD) rfl fun fr b1 w2 n3 r=>?_;have I3:=keep n3.below I3
 have IA:=keep n3.below IA;have IR:=keep n3.below IR;have JB:=keep n3.below JB;have c4h:=keep n3.below c4h;obtain ⟨E1,Z2,H1,hB,zB⟩:=n3.all hB;refine wn (d9 ?_);refine bI 7 [.val (zp I5),.val (z6 (ac c0.p)),.val (zp IE),.val (I c1.node),.val (I (D.bo c0.p c1.node 1)),.val (U c2),.val (.func (.func 155) #[] #[zp I5,zp Jr,zp KG,zp IE])] mixed r kz (kV (kV (kV (kV (kV (kV (kV bH))))))) ?_ ?_
 ·
  refine ec r (fun _ u _ b d s=>az s (b:=I5) (o:=0) rfl dm bz) (ec r (fun _ u _ b d s=>aU s (cs:=(ac c0.p)) (n:=6) d.1 (keep b I3) IJ rfl bz) (ec r (fun _ u _ b d s=>az s (b:=IE) (o:=0) rfl rH bz) (ec r (fun _ u _ b d s=>ax s d.1 (keep b IA) IL rfl bz) (ec r (fun I2 u w' hb' hd r'=>aN r' (args:=[(z6 (ac c0.p)),(I c1.node),(I 1)]) (lc hd.1 (lc hd.2.1 (lc rfl l0))) cl89 ((eB _ c0.p c1.node 1).mono JL)) (ec r (fun _ u _ b d s=>ax s rfl (keep b IR) Ja rfl bz) (ec r (fun _ u _ b d s=>aZ s (v:=(.func (.func 155) #[] #[zp I5,zp Jr,zp KG,zp IE])) rfl bz) ?_))))));exact bJ
 intro fr u w4 hb Iz hne r;have r:=r.congr (sc (Iz 6 ke) (sc (Iz 5 ke) (sc (Iz 4 ke) (sc (Iz 3 ke) (sc (Iz 2 ke) (sc (Iz 1 ke) (sc (Iz 0 ke) rfl)))))));have Z4:=hb.size;have I3:=keep hb I3;have IA:=keep hb IA;have IR:=keep hb IR;have JB:=keep hb JB;have c4h:=keep hb c4h;have H1:=keep hb H1;obtain ⟨hB,zB⟩:=IQ hb hB;have I4:=cw hF hB.size b1;have f8:((kW F w0 w4 b1)) I5:=(.inl J9);have f9:((kW F w0 w4 b1)) Jr:=(.inl c3F);have f10:((kW F w0 w4 b1)) KG:=(.inl c4F);have f11:((kW F w0 w4 b1)) IE:=(.inl Ka);refine kJ r (pV (F:=(kW F w0 w4 b1)) (n:=n) I4 (D.bo c0.p c1.node 1) c2 ⟨155,[],[zp I5,zp Jr,zp KG,zp IE],G7,rfl,fun m hm _ w' hs hz=>AF (j:=j) (fun b hb=>q9 (I4 b hb) hz) O c0 f8 (hs.at_ f8 I3) c3 f9 (hs.at_ f9 JB) c4 f10 (hs.at_ f10 c4h) c1 f11 (hs.at_ f11 IA)⟩) rfl sG rfl fun w5 v6 hb Kj r=>?_;have Z5:=hb.size
 have H1:=bc hb H1 Kl
 have hB:=Jd.aS (Z:=F) hB;have hB:=hB.bn hb yad
 have zB:=hB.size;refine kP r Kj.shape rfl rfl H1 Ju rfl rfl fun w12 u13 r=>?_;have Z12:=u13.size
 have H1:=u13.at_;have hB:=hB.bm u13 (.inl O)
 have zB:=hB.size;refine wn (q4 ?_);have hs:=Kj.shape.cells;refine ak r rfl rfl H1 (k:=8) hs.1 Jt ?_;rw [<-hs.2.2];exact av.fin hB Kj u13 yac Kl O O O
def D.fB (j:Nat) (c0:Je) (c1:Int) (c2:Int) (c3:Int) (a0:IY):T IM:=(bif (a0.e !=0) then (D.lO a0.e) else (D.fq (D.bo c0.p a0.node 0) c1 (fun _=>(D.nN j c0 a0 c2 c3 c1))))
theorem C2 (hF:kH F w0) (hj:n<j)
    (c0:Je) {I5:Nat} (J9:F I5) (I3:w0.heap[I5]?=some (.cells ((bi c0)).toArray 47 (0,0))) (c1:Int) {IE:Nat} (Ka:F IE) (IA:w0.heap[IE]?=some (.cells ([(.int .u64 c1)]).toArray 34 (0,0))) (c2:Int) {IU:Nat} (c2F:F IU) (IR:w0.heap[IU]?=some (.cells ([(.int .u64 c2)]).toArray 34 (0,0))) (c3:Int) {Jr:Nat} (c3F:F Jr) (JB:w0.heap[Jr]?=some (.cells ([(.int .i64 c3)]).toArray 3 (0,0))) (a0:IY) :
    Calls B0 152 #[z6 (grantC a0),zp I5,zp IE,zp IU,zp Jr] w0 (av B0 aA n (D.fB j c0 c1 c2 c3 a0) F w0):=by
 refine kN Tryz.func152 rfl 21 rfl rfl fun fr r hB=>?_;have Jq:=q8 I3
 have Jy:=q8 IA;have Kg:=q8 IR;have KY:=q8 JB;refine I0 ?_;refine kX 113 (z6 (grantC a0)) r rfl rfl fun b1 w2 n3 r=>?_;have I3:=keep n3.below I3
 have IA:=keep n3.below IA;have IR:=keep n3.below IR;have JB:=keep n3.below JB;obtain ⟨E1,Z2,H1,hB,zB⟩:=n3.all hB;refine ah (.cells (kq aA) 41 (0,0)) r (fun R=>ag JD) rfl fun fr b4 w5 n6 r=>?_;have I3:=keep n6.below I3
 have IA:=keep n6.below IA;have IR:=keep n6.below IR;have JB:=keep n6.below JB;have H1:=keep n6.below H1;obtain ⟨E4,Z5,H4,hB,zB⟩:=n6.all hB;refine wn (d9 (I0 (kF 0 r rfl wF rfl fun r=>kL (I a0.e) r rfl H1 to33 rfl rfl fun r=>kB r rfl rfl rfl rfl rfl fun r=>wn ?_)));refine q5 (t:=(a0.e !=0)) (r.ev rfl) (fun h7=>?_) (fun h7=>?_)
 ·
  refine I0 (kF 0 r rfl wF rfl fun r=>kL (I a0.e) r rfl H1 to33 rfl rfl fun r=>?_);refine kJ r (uC (F:=No) (n:=n) (fun _ h=>h.elim) a0.e) rfl yO rfl fun w8 v9 hb Jv r=>?_
  have hb:=hb.below;have Z8:=hb.size;have I3:=keep hb I3;have IA:=keep hb IA;have IR:=keep hb IR;have JB:=keep hb JB;have H1:=keep hb H1;have H4:=keep hb H4;obtain ⟨hB,zB⟩:=IQ hb hB;refine kP r Jv.shape rfl rfl H4 Ju rfl rfl fun JV JH r=>?_;have Z11:=JH.size
  have I3:=JH.keep I3 O
  have IA:=JH.keep IA O
  have IR:=JH.keep IR O
  have JB:=JH.keep JB O
  have H1:=JH.keep H1 O
  have H4:=JH.at_;obtain ⟨hB,zB⟩:=JH.on hB O
  refine wn (q4 ?_);have hd:D.fB j c0 c1 c2 c3 a0=(D.lO a0.e):=(ar h7).trans (rfl);have hs:=Jv.shape.cells;refine ak r rfl rfl H4 (k:=8) hs.1 Jt ?_;rw [<-hs.2.2,hd];exact av.fin (Jd.aS hB) Jv JH (fun _ h=>h.elim) (fun h=>h) O O O
 refine q7 (d9 ?_);refine bI 7 [.val (zp I5),.val (z6 (ac c0.p)),.val (zp b1),.val (I a0.node),.val (I (D.bo c0.p a0.node 0)),.val (U c1),.val (.func (.func 154) #[] #[zp I5,zp b1,zp IU,zp Jr,zp IE])] mixed r kz (kV (kV (kV (kV (kV (kV (kV bH))))))) ?_ ?_
 ·
  refine ec r (fun _ u _ b d s=>az s (b:=I5) (o:=0) rfl dm bz) (ec r (fun _ u _ b d s=>aU s (cs:=(ac c0.p)) (n:=6) d.1 (keep b I3) IJ rfl bz) (ec r (fun _ u _ b d s=>az s (b:=b1) (o:=0) rfl rH bz) (ec r (fun _ u _ b d s=>ax s d.1 (keep b H1) IL rfl bz) (ec r (fun I2 u w' hb' hd r'=>aN r' (args:=[(z6 (ac c0.p)),(I a0.node),(I 0)]) (lc hd.1 (lc hd.2.1 (lc rfl l0))) cl89 ((eB _ c0.p a0.node 0).mono JL)) (ec r (fun _ u _ b d s=>ax s rfl (keep b IA) Ja rfl bz) (ec r (fun _ u _ b d s=>aZ s (v:=(.func (.func 154) #[] #[zp I5,zp b1,zp IU,zp Jr,zp IE])) rfl bz) ?_))))));exact bJ
 intro fr u Kc hb Iz hne r;have r:=r.congr (sc (Iz 6 ke) (sc (Iz 5 ke) (sc (Iz 4 ke) (sc (Iz 3 ke) (sc (Iz 2 ke) (sc (Iz 1 ke) (sc (Iz 0 ke) rfl)))))));have Z13:=hb.size;have I3:=keep hb I3;have IA:=keep hb IA;have IR:=keep hb IR;have JB:=keep hb JB;have H1:=keep hb H1;have H4:=keep hb H4;obtain ⟨hB,zB⟩:=IQ hb hB;have I4:=cw hF hB.size b4;have f17:((kW F w0 Kc b4)) I5:=(.inl J9);have f18:((kW F w0 Kc b4)) b1:=(.inr ⟨O,O,O⟩)
 have f19:((kW F w0 Kc b4)) IU:=(.inl c2F);have f20:((kW F w0 Kc b4)) Jr:=(.inl c3F);have f21:((kW F w0 Kc b4)) IE:=(.inl Ka);refine kJ r (pV (F:=(kW F w0 Kc b4)) (n:=n) I4 (D.bo c0.p a0.node 0) c1 ⟨154,[],[zp I5,zp b1,zp IU,zp Jr,zp IE],FE,rfl,fun m hm _ w' hs hz=>Br (j:=j) (fun b hb=>q9 (I4 b hb) hz) O c0 f17 (hs.at_ f17 I3) a0 f18 (hs.at_ f18 H1) c2 f19 (hs.at_ f19 IR) c3 f20 (hs.at_ f20 JB) c1 f21 (hs.at_ f21 IA)⟩) rfl sG rfl fun w14 JF hb KM r=>?_;have Z14:=hb.size
 have H4:=bc hb H4 Kl
 have hB:=Jd.aS (Z:=F) hB;have hB:=hB.bn hb yad
 have zB:=hB.size;refine kP r KM.shape rfl rfl H4 Ju rfl rfl fun w22 u23 r=>?_;have Z22:=u23.size
 have H4:=u23.at_;have hB:=hB.bm u23 (.inl O)
 have zB:=hB.size;refine wn (q4 ?_);have hd:D.fB j c0 c1 c2 c3 a0=(D.fq (D.bo c0.p a0.node 0) c1 (fun _=>(D.nN j c0 a0 c2 c3 c1))):=(ai h7).trans (rfl)
 have hs:=KM.shape.cells;refine ak r rfl rfl H4 (k:=8) hs.1 Jt ?_;rw [<-hs.2.2,hd];exact av.fin hB KM u23 yac Kl O O O
def D.jR (j:Nat) (a0:Je) (a1:Int) (a2:Int) (a3:Int):T IM:=(T.bind (D.jM j a0.p a0.thread 2) (fun x=>(D.fB j a0 a2 a3 a1 x)))
theorem Cn (hF:kH F w0) (hj:n<j)
    (a0:Je) (a1:Int) (a2:Int) (a3:Int) :
    Calls B0 82 #[z6 (bi a0),.int .i64 a1,.int .u64 a2,.int .u64 a3] w0 (av B0 aA n (D.jR j a0 a1 a2 a3) F w0):=by
 refine kN Tryz.func82 rfl 16 rfl rfl fun fr r hB=>?_;refine I0 ?_
 refine kX 47 (z6 (bi a0)) r rfl rfl fun b1 w2 n3 r=>?_;obtain ⟨E1,Z2,H1,hB,zB⟩:=n3.all hB
 refine kX 3 (I a1) r rfl rfl fun b4 w5 n6 r=>?_;have H1:=keep n6.below H1
 obtain ⟨E4,Z5,H4,hB,zB⟩:=n6.all hB;refine kX 34 (U a2) r rfl rfl fun b7 w8 n9 r=>?_;have H1:=keep n9.below H1
 have H4:=keep n9.below H4;obtain ⟨E7,Z8,H7,hB,zB⟩:=n9.all hB;refine kX 34 (U a3) r rfl rfl fun b10 JV JN r=>?_;have H1:=keep JN.below H1
 have H4:=keep JN.below H4;have H7:=keep JN.below H7;obtain ⟨E10,Z11,Jp,hB,zB⟩:=JN.all hB;refine ah (.cells (kq aA) 41 (0,0)) r (fun R=>ag JD) rfl fun fr b13 w14 n15 r=>?_;have H1:=keep n15.below H1
 have H4:=keep n15.below H4;have H7:=keep n15.below H7;have Jp:=keep n15.below Jp;obtain ⟨E13,Z14,K0,hB,zB⟩:=n15.all hB;refine wn (I0 (kF 0 r rfl dm rfl fun r=>kG (ac a0.p) 6 r rfl H1 IJ rfl rfl fun r=>kF 0 r rfl j9 rfl fun r=>kL (I a0.thread) r rfl H1 IL rfl rfl fun r=>?_));refine kD r (Cx (j:=j) (F:=No) (n:=n) (fun _ h=>h.elim) O a0.p a0.thread 2) rfl G0 rfl fun w16 Kk hb hr18 r=>?_
 have hr18:=hr18.loud;have Z16:=hb.size;have H1:=keep hb H1;have H4:=keep hb H4;have H7:=keep hb H7;have Jp:=keep hb Jp;have K0:=keep hb K0;obtain ⟨hB,zB⟩:=IQ hb hB;refine aa (.func (.func 152) #[] #[zp b1,zp b7,zp b10,zp b4]) r (fun R=>aZ r rfl) rfl fun fr r=>?_;have I4:∀ b,(kW F w0 w14 b13) b->b<w16.heap.size:=by rintro b (h | ⟨_,h,_⟩); exact q9 (hF b h) hB.size; exact q9 h O
 have f22:((kW F w0 w14 b13)) b1:=(.inr ⟨O,O,O⟩)
 have f23:((kW F w0 w14 b13)) b7:=(.inr ⟨O,O,O⟩)
 have f24:((kW F w0 w14 b13)) b10:=(.inr ⟨O,O,O⟩)
 have f25:((kW F w0 w14 b13)) b4:=(.inr ⟨O,O,O⟩)
 have JZ:=cw hF hB.size b13;refine kJ r (yX (F:=(kW F w0 w16 b13)) (F2:=(kW F w0 w14 b13)) (n:=n) JZ yan yah yai (IK.mono (F':=fun b=>w14.heap.size<=b/\b<w16.heap.size) yam (I8.refl _ _) (Nat.le_refl _) n _ _ hr18) ⟨152,[],[zp b1,zp b7,zp b10,zp b4],Fq,rfl,fun m hm x w' hs hz=>C2 (j:=j) (fun b hb=>q9 (I4 b hb) hz) O a0 f22 (hs.at_ f22 H1) a2 f23 (hs.at_ f23 H7) a3 f24 (hs.at_ f24 Jp) a1 f25 (hs.at_ f25 H4) x⟩) rfl xL rfl fun w19 v20 hb hr21 r=>?_
 have Z19:=hb.size;have K0:=bc hb K0 Kl
 have hB:=Jd.aS (Z:=F) hB;have hB:=hB.bn hb yad
 have zB:=hB.size;refine kP r hr21.shape rfl rfl K0 Ju rfl rfl fun w26 u27 r=>?_;have Z26:=u27.size
 have K0:=u27.at_;have hB:=hB.bm u27 (.inl O)
 have zB:=hB.size;refine wn (q4 ?_);have hs:=hr21.shape.cells;refine ak r rfl rfl K0 (k:=8) hs.1 Jt ?_;rw [<-hs.2.2];exact av.fin hB hr21 u27 yac Kl O O O
def D.qb (j:Nat) (c0:Je) (c1:Int) (a0:Int):T IM:=(D.eF j c0 (⟨0,c1⟩:IM))
theorem Aj (hF:kH F w0) (hj:n<j)
    (c0:Je) {I5:Nat} (J9:F I5) (I3:w0.heap[I5]?=some (.cells ((bi c0)).toArray 47 (0,0))) (c1:Int) {IE:Nat} (Ka:F IE) (IA:w0.heap[IE]?=some (.cells ([(.int .u64 c1)]).toArray 34 (0,0))) (a0:Int) :
    Calls B0 252 #[.int .i64 a0,zp I5,zp IE] w0 (av B0 aA n (D.qb j c0 c1 a0) F w0):=by
 refine kN Tryz.func252 rfl 9 rfl rfl fun fr r hB=>?_;have Jq:=q8 I3
 have Jy:=q8 IA;refine I0 ?_;refine ah (.cells (kq aA) 41 (0,0)) r (fun R=>ag JD) rfl fun fr b1 w2 n3 r=>?_;obtain ⟨E1,Z2,H1,hB,zB⟩:=n3.all hB
 refine wn (I0 (kG (bi c0) 8 r rfl (keep hB I3) La rfl rfl fun r=>kL (U c1) r rfl (keep hB IA) Ja rfl rfl fun r=>kU (z6 (ID (⟨0,c1⟩:IM))) r kz rfl fun r=>?_));refine kJ r (jy (j:=j) (F:=No) (n:=n) (fun _ h=>h.elim) O c0 (⟨0,c1⟩:IM)) rfl kx rfl fun w4 v5 hb J0 r=>?_
 have hb:=hb.below;have Z4:=hb.size;have H1:=keep hb H1;obtain ⟨hB,zB⟩:=IQ hb hB;refine kP r J0.shape rfl rfl H1 Ju rfl rfl fun w7 u8 r=>?_;have Z7:=u8.size
 have H1:=u8.at_;obtain ⟨hB,zB⟩:=u8.on hB O
 refine wn (q4 ?_);have hs:=J0.shape.cells;refine ak r rfl rfl H1 (k:=8) hs.1 Jt ?_;rw [<-hs.2.2];exact av.fin (Jd.aS hB) J0 u8 (fun _ h=>h.elim) (fun h=>h) O O O
def D.qa (j:Nat) (c0:Je) (c1:Int) (a0:Walk):T IM:=(D.eF j c0 (⟨0,c1⟩:IM))
theorem Ah (hF:kH F w0) (hj:n<j)
    (c0:Je) {I5:Nat} (J9:F I5) (I3:w0.heap[I5]?=some (.cells ((bi c0)).toArray 47 (0,0))) (c1:Int) {IE:Nat} (Ka:F IE) (IA:w0.heap[IE]?=some (.cells ([(.int .u64 c1)]).toArray 34 (0,0))) (a0:Walk) :
    Calls B0 254 #[z6 (bf a0),zp I5,zp IE] w0 (av B0 aA n (D.qa j c0 c1 a0) F w0):=by
 refine kN Tryz.func254 rfl 9 rfl rfl fun fr r hB=>?_;have Jq:=q8 I3
 have Jy:=q8 IA;refine I0 ?_;refine kX 221 (z6 (bf a0)) r rfl rfl fun b1 w2 n3 r=>?_;obtain ⟨E1,Z2,H1,hB,zB⟩:=n3.all hB
 refine ah (.cells (kq aA) 41 (0,0)) r (fun R=>ag JD) rfl fun fr b4 w5 n6 r=>?_;have H1:=keep n6.below H1
 obtain ⟨E4,Z5,H4,hB,zB⟩:=n6.all hB;refine wn (I0 (kG (bi c0) 8 r rfl (keep hB I3) La rfl rfl fun r=>kL (U c1) r rfl (keep hB IA) Ja rfl rfl fun r=>kU (z6 (ID (⟨0,c1⟩:IM))) r kz rfl fun r=>?_));refine kJ r (jy (j:=j) (F:=No) (n:=n) (fun _ h=>h.elim) O c0 (⟨0,c1⟩:IM)) rfl kx rfl fun w7 v8 hb hr9 r=>?_
 have hb:=hb.below;have Z7:=hb.size;have H1:=keep hb H1;have H4:=keep hb H4;obtain ⟨hB,zB⟩:=IQ hb hB;refine kP r hr9.shape rfl rfl H4 Ju rfl rfl fun J8 JG r=>?_;have Z10:=JG.size
 have H1:=JG.keep H1 O
 have H4:=JG.at_;obtain ⟨hB,zB⟩:=JG.on hB O
 refine wn (q4 ?_);have hs:=hr9.shape.cells;refine ak r rfl rfl H4 (k:=8) hs.1 Jt ?_;rw [<-hs.2.2];exact av.fin (Jd.aS hB) hr9 JG (fun _ h=>h.elim) (fun h=>h) O O O
def D.jt (j:Nat) (c0:Je) (c1:Walk) (c2:Int) (a0:Bool):T IM:=(bif a0 then (T.bind (D.gO j c0.p c0.thread (D.aX c1.cur)) (fun x=>(D.qb j c0 c2 x))) else (T.bind (D.fQ j (D.du j j) c1) (fun x=>(D.qa j c0 c2 x))))
theorem AR (hF:kH F w0) (hj:n<j)
    (c0:Je) {I5:Nat} (J9:F I5) (I3:w0.heap[I5]?=some (.cells ((bi c0)).toArray 47 (0,0))) (c1:Walk) {IE:Nat} (Ka:F IE) (IA:w0.heap[IE]?=some (.cells ((bf c1)).toArray 221 (0,0))) (c2:Int) {IU:Nat} (c2F:F IU) (IR:w0.heap[IU]?=some (.cells ([(.int .u64 c2)]).toArray 34 (0,0))) (a0:Bool) :
    Calls B0 251 #[.bool a0,zp I5,zp IE,zp IU] w0 (av B0 aA n (D.jt j c0 c1 c2 a0) F w0):=by
 refine kN Tryz.func251 rfl 21 rfl rfl fun fr r hB=>?_;have Jq:=q8 I3
 have Jy:=q8 IA;have Kg:=q8 IR;refine I0 ?_;refine ah (.cells (kq aA) 41 (0,0)) r (fun R=>ag JD) rfl fun fr b1 w2 n3 r=>?_;have I3:=keep n3.below I3
 have IA:=keep n3.below IA;have IR:=keep n3.below IR;obtain ⟨E1,Z2,H1,hB,zB⟩:=n3.all hB;refine wn (d9 (I0 (kM (.bool a0) r rfl rfl fun r=>wn ?_)));refine q5 (t:=a0) (r.ev rfl) (fun h4=>?_) (fun h4=>?_)
 ·
  refine d9 ?_;refine bI 9 [.val (zp I5),.val (z6 (ac c0.p)),.val (.pointer (some ⟨I5,7,none⟩)),.val (I c0.thread),.val (.pointer (some ⟨IE,11,none⟩)),.val (U c1.cur),.val (I (D.aX c1.cur)),.pred (PrepP B0 aj n (D.gO j c0.p c0.thread (D.aX c1.cur)) No w2) (PrepP.st (fun _ h=>h.elim)),.val (.func (.func 252) #[] #[zp I5,zp IU])] mixed r kz (kV (kV (kV (kV (kV (kV (kV (kV (kV bH))))))))) ?_ ?_
  ·
   refine ec r (fun _ u _ b d s=>az s (b:=I5) (o:=0) rfl dm bz) (ec r (fun _ u _ b d s=>aU s (cs:=(ac c0.p)) (n:=6) d.1 (keep b I3) IJ rfl bz) (ec r (fun _ u _ b d s=>az s (b:=I5) (o:=0) rfl j9 bz) (ec r (fun _ u _ b d s=>ax s d.1 (keep b I3) IL rfl bz) (ec r (fun _ u _ b d s=>az s (b:=IE) (o:=0) rfl eY bz) (ec r (fun _ u _ b d s=>ax s d.1 (keep b IA) Ja rfl bz) (ec r (fun I2 u w' hb' hd r'=>aN r' (args:=[(U c1.cur)]) (lc hd.1 l0) cl88 ((fU _ c1.cur).mono JL)) (ec r (fun I2 u w' hb' hd r'=>aN r' (args:=[(z6 (ac c0.p)),(I c0.thread),(I (D.aX c1.cur))]) (lc hd.1 (lc hd.2.1 (lc hd.2.2.1 l0))) xy ((ue (j:=j) (F:=No) (n:=n) (fun _ h=>h.elim) O c0.p c0.thread (D.aX c1.cur)).mono yaB)) (ec r (fun _ u _ b d s=>aZ s (v:=(.func (.func 252) #[] #[zp I5,zp IU])) rfl bz) ?_))))))));exact bJ
  intro fr u w5 hb Iz hne r;obtain ⟨v6,hv7⟩:∃ v,v=u 7:=⟨_,rfl⟩;have g7:u 7=v6:=hv7.symm;have Kj:=(Iz 7 ke).2;rw [g7] at Kj
  have Kj:=Kj.loud;have r:=r.congr (sc (Iz 8 ke) (sc g7 (sc (Iz 6 ke) (sc (Iz 5 ke) (sc (Iz 4 ke) (sc (Iz 3 ke) (sc (Iz 2 ke) (sc (Iz 1 ke) (sc (Iz 0 ke) rfl)))))))))
  have Z5:=hb.size;have I3:=keep hb I3;have IA:=keep hb IA;have IR:=keep hb IR;have H1:=keep hb H1;obtain ⟨hB,zB⟩:=IQ hb hB;have I4:∀ b,(kW F w0 w2 b1) b->b<w5.heap.size:=by rintro b (h | ⟨_,h,_⟩); exact q9 (hF b h) hB.size; exact q9 h O
  have f11:((kW F w0 w2 b1)) I5:=(.inl J9);have f12:((kW F w0 w2 b1)) IU:=(.inl c2F);have JZ:=cw hF hB.size b1;refine kJ r (tk (F:=(kW F w0 w5 b1)) (F2:=(kW F w0 w2 b1)) (n:=n) JZ yan yah yai (IK.mono (F':=fun b=>w2.heap.size<=b/\b<w5.heap.size) yam (I8.refl _ _) (Nat.le_refl _) n _ _ Kj) ⟨252,[],[zp I5,zp IU],FG,rfl,fun m hm x w' hs hz=>Aj (j:=j) (fun b hb=>q9 (I4 b hb) hz) O c0 f11 (hs.at_ f11 I3) c2 f12 (hs.at_ f12 IR) x⟩) rfl rY rfl fun w8 v9 hb Jv r=>?_
  have Z8:=hb.size;have H1:=bc hb H1 Kl
  have hB:=Jd.aS (Z:=F) hB;have hB:=hB.bn hb yad
  have zB:=hB.size;refine kP r Jv.shape rfl rfl H1 Ju rfl rfl fun Kc Kr r=>?_;have Z13:=Kr.size
  have H1:=Kr.at_;have hB:=hB.bm Kr (.inl O)
  have zB:=hB.size;refine wn (q4 ?_);have hd:D.jt j c0 c1 c2 a0=(T.bind (D.gO j c0.p c0.thread (D.aX c1.cur)) (fun x=>(D.qb j c0 c2 x))):=(ar h4).trans (rfl)
  have hs:=Jv.shape.cells;refine ak r rfl rfl H1 (k:=8) hs.1 Jt ?_;rw [<-hs.2.2,hd];exact av.fin hB Jv Kr yac Kl O O O
 refine q7 (I0 (kG (bf c1) 14 r rfl IA dG rfl rfl fun r=>?_));refine kJ r (mV (j:=j) (F:=No) (n:=n) (fun _ h=>h.elim) O (fun m' hm'=>mX (j:=j) (k:=j) O O) c1) rfl p9 rfl fun w15 v16 hb hr17 r=>?_
 have hb:=hb.below;have Z15:=hb.size;have I3:=keep hb I3;have IA:=keep hb IA;have IR:=keep hb IR;have H1:=keep hb H1;obtain ⟨hB,zB⟩:=IQ hb hB;refine aa (.func (.func 254) #[] #[zp I5,zp IU]) r (fun R=>aZ r rfl) rfl fun fr r=>?_;have I4:∀ b,(kW F w0 w2 b1) b->b<w15.heap.size:=by rintro b (h | ⟨_,h,_⟩); exact q9 (hF b h) hB.size; exact q9 h O
 have f21:((kW F w0 w2 b1)) I5:=(.inl J9);have f22:((kW F w0 w2 b1)) IU:=(.inl c2F);have JZ:=cw hF hB.size b1;refine kJ r (mH (F:=(kW F w0 w15 b1)) (F2:=(kW F w0 w2 b1)) (n:=n) JZ yan yah yai (IK.mono (F':=fun b=>w2.heap.size<=b/\b<w15.heap.size) yam (I8.refl _ _) (Nat.le_refl _) n _ _ hr17) ⟨254,[],[zp I5,zp IU],GL,rfl,fun m hm x w' hs hz=>Ah (j:=j) (fun b hb=>q9 (I4 b hb) hz) O c0 f21 (hs.at_ f21 I3) c2 f22 (hs.at_ f22 IR) x⟩) rfl mD rfl fun w18 Km hb hr20 r=>?_
 have Z18:=hb.size;have H1:=bc hb H1 Kl
 have hB:=Jd.aS (Z:=F) hB;have hB:=hB.bn hb yad
 have zB:=hB.size;refine kP r hr20.shape rfl rfl H1 Ju rfl rfl fun w23 u24 r=>?_;have Z23:=u24.size
 have H1:=u24.at_;have hB:=hB.bm u24 (.inl O)
 have zB:=hB.size;refine wn (q4 ?_);have hd:D.jt j c0 c1 c2 a0=(T.bind (D.fQ j (D.du j j) c1) (fun x=>(D.qa j c0 c2 x))):=(ai h4).trans (rfl)
 have hs:=hr20.shape.cells;refine ak r rfl rfl H1 (k:=8) hs.1 Jt ?_;rw [<-hs.2.2,hd];exact av.fin hB hr20 u24 yac Kl O O O
def D.lH (j:Nat) (a0:Je) (a1:Walk) (a2:Int):T IM:=(D.jx a1.place a1.cur a1.next (fun x=>(D.jt j a0 a1 a2 x)))
theorem Bs (hF:kH F w0) (hj:n<j)
    (a0:Je) (a1:Walk) (a2:Int) :
    Calls B0 163 #[z6 (bi a0),z6 (bf a1),.int .u64 a2] w0 (av B0 aA n (D.lH j a0 a1 a2) F w0):=by
 refine kN Tryz.func163 rfl 15 rfl rfl fun fr r hB=>?_;refine I0 ?_
 refine kX 47 (z6 (bi a0)) r rfl rfl fun b1 w2 n3 r=>?_;obtain ⟨E1,Z2,H1,hB,zB⟩:=n3.all hB
 refine kX 221 (z6 (bf a1)) r rfl rfl fun b4 w5 n6 r=>?_;have H1:=keep n6.below H1
 obtain ⟨E4,Z5,H4,hB,zB⟩:=n6.all hB;refine kX 34 (U a2) r rfl rfl fun b7 w8 n9 r=>?_;have H1:=keep n9.below H1
 have H4:=keep n9.below H4;obtain ⟨E7,Z8,H7,hB,zB⟩:=n9.all hB;refine ah (.cells (kq aA) 41 (0,0)) r (fun R=>ag JD) rfl fun fr b10 JV JN r=>?_;have H1:=keep JN.below H1
 have H4:=keep JN.below H4;have H7:=keep JN.below H7;obtain ⟨E10,Z11,Jp,hB,zB⟩:=JN.all hB;refine wn (I0 (kF 0 r rfl m5 rfl fun r=>kL (I a1.place) r rfl H4 IL rfl rfl fun r=>kF 0 r rfl eY rfl fun r=>kL (U a1.cur) r rfl H4 Ja rfl rfl fun r=>kF 0 r rfl ic rfl fun r=>kL (U a1.next) r rfl H4 Ja rfl rfl fun r=>aa (.func (.func 251) #[] #[zp b1,zp b4,zp b7]) r (fun R=>aZ r rfl) rfl fun fr r=>?_));have I4:=cw hF hB.size b10
 have f16:((kW F w0 JV b10)) b1:=(.inr ⟨O,O,O⟩)
 have f17:((kW F w0 JV b10)) b4:=(.inr ⟨O,O,O⟩)
 have f18:((kW F w0 JV b10)) b7:=(.inr ⟨O,O,O⟩)
 refine kJ r (qf (F:=(kW F w0 JV b10)) (n:=n) I4 a1.place a1.cur a1.next ⟨251,[],[zp b1,zp b4,zp b7],Fg,rfl,fun m hm x w' hs hz=>AR (j:=j) (fun b hb=>q9 (I4 b hb) hz) O a0 f16 (hs.at_ f16 H1) a1 f17 (hs.at_ f17 H4) a2 f18 (hs.at_ f18 H7) x⟩) rfl sF rfl fun Kc K6 hb Kf r=>?_;have Z13:=hb.size
 have Jp:=bc hb Jp Kl
 have hB:=Jd.aS (Z:=F) hB;have hB:=hB.bn hb yad
 have zB:=hB.size;refine kP r Kf.shape rfl rfl Jp Ju rfl rfl fun w19 u20 r=>?_;have Z19:=u20.size
 have Jp:=u20.at_;have hB:=hB.bm u20 (.inl O)
 have zB:=hB.size;refine wn (q4 ?_);have hs:=Kf.shape.cells;refine ak r rfl rfl Jp (k:=8) hs.1 Jt ?_;rw [<-hs.2.2];exact av.fin hB Kf u20 yac Kl O O O
def D.lq (j:Nat) (HL:Je->Int->Int->T IM) (c0:Je) (c1:Int) (c2:Int) (c3:Walk) (c4:Int) (a0:Bool):T IM:=(bif (!a0) then (HL c0 c1 c2) else (D.lH j c0 c3 c4))
def D.nO (j:Nat) (HL:Je->Int->Int->T IM) (c0:Je) (c1:Int) (c2:Walk) (c3:Int) (c4:Int) (a0:Int):T IM:=(D.jx (D.bo c0.p c1 2) c2.next (dS .u64 c2.next 1) (fun x=>(D.lq j HL c0 c3 c4 c2 a0 x)))
def D.iQ (j:Nat) (HL:Je->Int->Int->T IM) (c0:Je) (c1:Int) (c2:Int) (a0:Walk):T IM:=(bif (!a0.there) then (D.eF j c0 (⟨6,0⟩:IM)) else (D.gK (D.bo c0.p (D.aX a0.cur) 1) (fun x=>(D.nO j HL c0 (D.aX a0.cur) a0 c1 c2 x))))
def D.uu (j:Nat) (HL:Je->Int->Int->T IM) (a0:Je) (a1:Int) (a2:Int):T IM:=(T.bind (D.jL j (D.du j j) a0 a1 a2) (fun x=>(D.iQ j HL a0 a1 a2 x)))
def D.eV (j:Nat):Nat->Je->Int->Int->T IM
 | 0,_,_,_=>.cut
 | k+1,a0,a1,a2=>D.uu j (D.eV j k) a0 a1 a2
def lu (r:Je->Int->Int->T IM) (n:Nat):Prop:=∀ (F:Nat->Prop) (w0:World),(∀ b,F b->b<w0.heap.size)->∀ (a0:Je) (a1:Int) (a2:Int),Calls B0 86 #[z6 (bi a0),.int .i64 a1,.int .u64 a2] w0 (av B0 aA n (r a0 a1 a2) F w0)
theorem AK {HL:Je->Int->Int->T IM} (hF:kH F w0) (hj:n<j) (HY:∀ m,m<=n->lu HL m)
    (c0:Je) {I5:Nat} (J9:F I5) (I3:w0.heap[I5]?=some (.cells ((bi c0)).toArray 47 (0,0))) (c1:Int) {IE:Nat} (Ka:F IE) (IA:w0.heap[IE]?=some (.cells ([(.int .i64 c1)]).toArray 3 (0,0))) (c2:Int) {IU:Nat} (c2F:F IU) (IR:w0.heap[IU]?=some (.cells ([(.int .u64 c2)]).toArray 34 (0,0))) (c3:Walk) {Jr:Nat} (c3F:F Jr) (JB:w0.heap[Jr]?=some (.cells ((bf c3)).toArray 221 (0,0))) (c4:Int) {KG:Nat} (c4F:F KG) (c4h:w0.heap[KG]?=some (.cells ([(.int .u64 c4)]).toArray 34 (0,0))) (a0:Bool) :
    Calls B0 162 #[.bool a0,zp I5,zp IE,zp IU,zp Jr,zp KG] w0 (av B0 aA n (D.lq j HL c0 c1 c2 c3 c4 a0) F w0):=by
 refine kN Tryz.func162 rfl 18 rfl rfl fun fr r hB=>?_;have Jq:=q8 I3
 have Jy:=q8 IA;have Kg:=q8 IR;have KY:=q8 JB;have lc4b:=q8 c4h;refine I0 ?_;refine ah (.cells (kq aA) 41 (0,0)) r (fun R=>ag JD) rfl fun fr b1 w2 n3 r=>?_;obtain ⟨E1,Z2,H1,hB,zB⟩:=n3.all hB
 refine wn (d9 (I0 (kM (.bool a0) r rfl rfl fun r=>aa (.bool (!a0)) r (fun R=>JQ r (u:=(.bool a0)) rfl rfl) rfl fun fr r=>wn ?_)));refine q5 (t:=(!a0)) (r.ev rfl) (fun h4=>?_) (fun h4=>?_)
 ·
  refine I0 (kG (bi c0) 8 r rfl (keep hB I3) La rfl rfl fun r=>kL (I c1) r rfl (keep hB IA) IL rfl rfl fun r=>kL (U c2) r rfl (keep hB IR) Ja rfl rfl fun r=>?_);refine kJ r ((HY n O) (No) _ (fun _ h=>h.elim) c0 c1 c2) rfl cl86 rfl fun w5 v6 hb Kj r=>?_
  have hb:=hb.below;have Z5:=hb.size;have H1:=keep hb H1;obtain ⟨hB,zB⟩:=IQ hb hB;refine kP r Kj.shape rfl rfl H1 Ju rfl rfl fun w8 u9 r=>?_;have Z8:=u9.size
  have H1:=u9.at_;obtain ⟨hB,zB⟩:=u9.on hB O
  refine wn (q4 ?_);have hd:D.lq j HL c0 c1 c2 c3 c4 a0=(HL c0 c1 c2):=(ar h4).trans (rfl);have hs:=Kj.shape.cells;refine ak r rfl rfl H1 (k:=8) hs.1 Jt ?_;rw [<-hs.2.2,hd];exact av.fin (Jd.aS hB) Kj u9 (fun _ h=>h.elim) (fun h=>h) O O O
 refine q7 (I0 (kG (bi c0) 8 r rfl (keep hB I3) La rfl rfl fun r=>kG (bf c3) 14 r rfl (keep hB JB) dG rfl rfl fun r=>kL (U c4) r rfl (keep hB c4h) Ja rfl rfl fun r=>?_));refine kJ r (Bs (j:=j) (F:=No) (n:=n) (fun _ h=>h.elim) O c0 c3 c4) rfl GS rfl fun J8 v11 hb Jl r=>?_
 have hb:=hb.below;have Z10:=hb.size;have H1:=keep hb H1;obtain ⟨hB,zB⟩:=IQ hb hB;refine kP r Jl.shape rfl rfl H1 Ju rfl rfl fun Kc Kr r=>?_;have Z13:=Kr.size
 have H1:=Kr.at_;obtain ⟨hB,zB⟩:=Kr.on hB O
 refine wn (q4 ?_);have hd:D.lq j HL c0 c1 c2 c3 c4 a0=(D.lH j c0 c3 c4):=(ai h4).trans (rfl);have hs:=Jl.shape.cells;refine ak r rfl rfl H1 (k:=8) hs.1 Jt ?_;rw [<-hs.2.2,hd];exact av.fin (Jd.aS hB) Jl Kr (fun _ h=>h.elim) (fun h=>h) O O O
theorem Bu {HL:Je->Int->Int->T IM} (hF:kH F w0) (hj:n<j) (HY:∀ m,m<n->lu HL m)
    (c0:Je) {I5:Nat} (J9:F I5) (I3:w0.heap[I5]?=some (.cells ((bi c0)).toArray 47 (0,0))) (c1:Int) {IE:Nat} (Ka:F IE) (IA:w0.heap[IE]?=some (.cells ([(.int .i64 c1)]).toArray 3 (0,0))) (c2:Walk) {IU:Nat} (c2F:F IU) (IR:w0.heap[IU]?=some (.cells ((bf c2)).toArray 221 (0,0))) (c3:Int) {Jr:Nat} (c3F:F Jr) (JB:w0.heap[Jr]?=some (.cells ([(.int .i64 c3)]).toArray 3 (0,0))) (c4:Int) {KG:Nat} (c4F:F KG) (c4h:w0.heap[KG]?=some (.cells ([(.int .u64 c4)]).toArray 34 (0,0))) (a0:Int) :
    Calls B0 161 #[.int .u64 a0,zp I5,zp IE,zp IU,zp Jr,zp KG] w0 (av B0 aA n (D.nO j HL c0 c1 c2 c3 c4 a0) F w0):=by
 refine kN Tryz.func161 rfl 19 rfl rfl fun fr r hB=>?_;have Jq:=q8 I3
 have Jy:=q8 IA;have Kg:=q8 IR;have KY:=q8 JB;have lc4b:=q8 c4h;refine I0 ?_;refine kX 34 (U a0) r rfl rfl fun b1 w2 n3 r=>?_;have I3:=keep n3.below I3
 have IA:=keep n3.below IA;have IR:=keep n3.below IR;have JB:=keep n3.below JB;have c4h:=keep n3.below c4h;obtain ⟨E1,Z2,H1,hB,zB⟩:=n3.all hB;refine ah (.cells (kq aA) 41 (0,0)) r (fun R=>ag JD) rfl fun fr b4 w5 n6 r=>?_;have I3:=keep n6.below I3
 have IA:=keep n6.below IA;have IR:=keep n6.below IR;have JB:=keep n6.below JB;have c4h:=keep n6.below c4h;have H1:=keep n6.below H1;obtain ⟨E4,Z5,H4,hB,zB⟩:=n6.all hB;refine wn (d9 ?_);refine bI 10 [.val (zp I5),.val (z6 (ac c0.p)),.val (I c1),.val (I (D.bo c0.p c1 2)),.val (.pointer (some ⟨IU,12,none⟩)),.val (U c2.next),.val (.pointer (some ⟨IU,12,none⟩)),.val (U c2.next),.val (U (dS .u64 c2.next 1)),.val (.func (.func 162) #[] #[zp I5,zp Jr,zp KG,zp IU,zp b1])] mixed r kz (kV (kV (kV (kV (kV (kV (kV (kV (kV (kV bH)))))))))) ?_ ?_
 ·
  refine ec r (fun _ u _ b d s=>az s (b:=I5) (o:=0) rfl dm bz) (ec r (fun _ u _ b d s=>aU s (cs:=(ac c0.p)) (n:=6) d.1 (keep b I3) IJ rfl bz) (ec r (fun _ u _ b d s=>ax s rfl (keep b IA) IL rfl bz) (ec r (fun I2 u w' hb' hd r'=>aN r' (args:=[(z6 (ac c0.p)),(I c1),(I 2)]) (lc hd.1 (lc hd.2.1 (lc rfl l0))) cl89 ((eB _ c0.p c1 2).mono JL)) (ec r (fun _ u _ b d s=>az s (b:=IU) (o:=0) rfl ic bz) (ec r (fun _ u _ b d s=>ax s d.1 (keep b IR) Ja rfl bz) (ec r (fun _ u _ b d s=>az s (b:=IU) (o:=0) rfl ic bz) (ec r (fun _ u _ b d s=>ax s d.1 (keep b IR) Ja rfl bz) (ec r (fun _ u _ b d s=>bd s d.1 rfl rfl rfl bz) (ec r (fun _ u _ b d s=>aZ s (v:=(.func (.func 162) #[] #[zp I5,zp Jr,zp KG,zp IU,zp b1])) rfl bz) ?_)))))))));exact bJ
 intro fr u w7 hb Iz hne r;have r:=r.congr (sc (Iz 9 ke) (sc (Iz 8 ke) (sc (Iz 7 ke) (sc (Iz 6 ke) (sc (Iz 5 ke) (sc (Iz 4 ke) (sc (Iz 3 ke) (sc (Iz 2 ke) (sc (Iz 1 ke) (sc (Iz 0 ke) rfl))))))))));have Z7:=hb.size;have I3:=keep hb I3;have IA:=keep hb IA;have IR:=keep hb IR;have JB:=keep hb JB;have c4h:=keep hb c4h;have H1:=keep hb H1;have H4:=keep hb H4;obtain ⟨hB,zB⟩:=IQ hb hB;have I4:=cw hF hB.size b4;have f11:((kW F w0 w7 b4)) I5:=(.inl J9);have f12:((kW F w0 w7 b4)) Jr:=(.inl c3F);have f13:((kW F w0 w7 b4)) KG:=(.inl c4F);have f14:((kW F w0 w7 b4)) IU:=(.inl c2F);have f15:((kW F w0 w7 b4)) b1:=(.inr ⟨O,O,O⟩)
 refine kJ r (qf (F:=(kW F w0 w7 b4)) (n:=n) I4 (D.bo c0.p c1 2) c2.next (dS .u64 c2.next 1) ⟨162,[],[zp I5,zp Jr,zp KG,zp IU,zp b1],G6,rfl,fun m hm x w' hs hz=>AK (j:=j) (fun b hb=>q9 (I4 b hb) hz) O (fun m' hm'=>HY m' O) c0 f11 (hs.at_ f11 I3) c3 f12 (hs.at_ f12 JB) c4 f13 (hs.at_ f13 c4h) c2 f14 (hs.at_ f14 IR) a0 f15 (hs.at_ f15 H1) x⟩) rfl sF rfl fun w8 v9 hb Jv r=>?_;have Z8:=hb.size
 have H4:=bc hb H4 Kl
 have hB:=Jd.aS (Z:=F) hB;have hB:=hB.bn hb yad
 have zB:=hB.size;refine kP r Jv.shape rfl rfl H4 Ju rfl rfl fun w16 K3 r=>?_;have Z16:=K3.size
 have H4:=K3.at_;have hB:=hB.bm K3 (.inl O)
 have zB:=hB.size;refine wn (q4 ?_);have hs:=Jv.shape.cells;refine ak r rfl rfl H4 (k:=8) hs.1 Jt ?_;rw [<-hs.2.2];exact av.fin hB Jv K3 yac Kl O O O
theorem C3 {HL:Je->Int->Int->T IM} (hF:kH F w0) (hj:n<j) (HY:∀ m,m<n->lu HL m)
    (c0:Je) {I5:Nat} (J9:F I5) (I3:w0.heap[I5]?=some (.cells ((bi c0)).toArray 47 (0,0))) (c1:Int) {IE:Nat} (Ka:F IE) (IA:w0.heap[IE]?=some (.cells ([(.int .i64 c1)]).toArray 3 (0,0))) (c2:Int) {IU:Nat} (c2F:F IU) (IR:w0.heap[IU]?=some (.cells ([(.int .u64 c2)]).toArray 34 (0,0))) (a0:Walk) :
    Calls B0 159 #[z6 (bf a0),zp I5,zp IE,zp IU] w0 (av B0 aA n (D.iQ j HL c0 c1 c2 a0) F w0):=by
 refine kN Tryz.func159 rfl 22 rfl rfl fun fr r hB=>?_;have Jq:=q8 I3
 have Jy:=q8 IA;have Kg:=q8 IR;refine I0 ?_;refine kX 221 (z6 (bf a0)) r rfl rfl fun b1 w2 n3 r=>?_;have I3:=keep n3.below I3
 have IA:=keep n3.below IA;have IR:=keep n3.below IR;obtain ⟨E1,Z2,H1,hB,zB⟩:=n3.all hB;refine ah (.cells (kq aA) 41 (0,0)) r (fun R=>ag JD) rfl fun fr b4 w5 n6 r=>?_;have I3:=keep n6.below I3
 have IA:=keep n6.below IA;have IR:=keep n6.below IR;have H1:=keep n6.below H1;obtain ⟨E4,Z5,H4,hB,zB⟩:=n6.all hB;refine wn (d9 (I0 (kF 0 r rfl m6 rfl fun r=>kL (.bool a0.there) r rfl H1 to4 rfl rfl fun r=>aa (.bool (!a0.there)) r (fun R=>JQ r (u:=(.bool a0.there)) rfl rfl) rfl fun fr r=>wn ?_)));refine q5 (t:=(!a0.there)) (r.ev rfl) (fun h7=>?_) (fun h7=>?_)
 ·
  refine I0 (kG (bi c0) 8 r rfl I3 La rfl rfl fun r=>kU (z6 (ID (⟨6,0⟩:IM))) r kz rfl fun r=>?_);refine kJ r (jy (j:=j) (F:=No) (n:=n) (fun _ h=>h.elim) O c0 (⟨6,0⟩:IM)) rfl kx rfl fun w8 v9 hb Jv r=>?_
  have hb:=hb.below;have Z8:=hb.size;have I3:=keep hb I3;have IA:=keep hb IA;have IR:=keep hb IR;have H1:=keep hb H1;have H4:=keep hb H4;obtain ⟨hB,zB⟩:=IQ hb hB;refine kP r Jv.shape rfl rfl H4 Ju rfl rfl fun JV JH r=>?_;have Z11:=JH.size
  have I3:=JH.keep I3 O
  have IA:=JH.keep IA O
  have IR:=JH.keep IR O
  have H1:=JH.keep H1 O
  have H4:=JH.at_;obtain ⟨hB,zB⟩:=JH.on hB O
  refine wn (q4 ?_);have hd:D.iQ j HL c0 c1 c2 a0=(D.eF j c0 (⟨6,0⟩:IM)):=(ar h7).trans (rfl);have hs:=Jv.shape.cells;refine ak r rfl rfl H4 (k:=8) hs.1 Jt ?_;rw [<-hs.2.2,hd];exact av.fin (Jd.aS hB) Jv JH (fun _ h=>h.elim) (fun h=>h) O O O
 refine q7 (I0 (kF 0 r rfl eY rfl fun r=>kL (U a0.cur) r rfl H1 Ja rfl rfl fun r=>?_));refine kE r (fU w5 a0.cur) rfl cl88 rfl fun Kc hb r=>?_
 have Z13:=hb.size;have I3:=keep hb I3;have IA:=keep hb IA;have IR:=keep hb IR;have H1:=keep hb H1;have H4:=keep hb H4;obtain ⟨hB,zB⟩:=IQ hb hB;refine ah (.cells #[(I 0)] 3 (0,0)) r (fun R=>ag tz3) rfl fun fr b14 w15 n16 r=>?_;have I3:=keep n16.below I3
 have IA:=keep n16.below IA;have IR:=keep n16.below IR;have H1:=keep n16.below H1;have H4:=keep n16.below H4;obtain ⟨E14,Z15,H14,hB,zB⟩:=n16.all hB;refine aM (.cells #[(I (D.aX a0.cur))] 3 (0,0)) r (fun R=>bb r (o:=0) (v:=(I (D.aX a0.cur))) rfl rfl H14 ts3 u7 rfl rfl) rfl fun fr w17 K7 r=>?_;have Z17:=K7.size
 have I3:=K7.keep I3 O
 have IA:=K7.keep IA O
 have IR:=K7.keep IR O
 have H1:=K7.keep H1 O
 have H4:=K7.keep H4 O
 have H14:=K7.at_;obtain ⟨hB,zB⟩:=K7.on hB O
 refine wn (I0 (kF 0 r rfl dm rfl fun r=>kG (ac c0.p) 6 r rfl I3 IJ rfl rfl fun r=>kL (I (D.aX a0.cur)) r rfl H14 IL rfl rfl fun r=>?_));refine kE r (eB w17 c0.p (D.aX a0.cur) 1) rfl cl89 rfl fun w19 hb r=>?_
 have Z19:=hb.size;have I3:=keep hb I3;have IA:=keep hb IA;have IR:=keep hb IR;have H1:=keep hb H1;have H4:=keep hb H4;have H14:=keep hb H14;obtain ⟨hB,zB⟩:=IQ hb hB;refine aa (.func (.func 161) #[] #[zp I5,zp b14,zp b1,zp IE,zp IU]) r (fun R=>aZ r rfl) rfl fun fr r=>?_;have I4:=cw hF hB.size b4
 have f23:((kW F w0 w19 b4)) I5:=(.inl J9);have f24:((kW F w0 w19 b4)) b14:=(.inr ⟨O,O,O⟩)
 have f25:((kW F w0 w19 b4)) b1:=(.inr ⟨O,O,O⟩)
 have f26:((kW F w0 w19 b4)) IE:=(.inl Ka);have f27:((kW F w0 w19 b4)) IU:=(.inl c2F);refine kJ r (tT (F:=(kW F w0 w19 b4)) (n:=n) I4 (D.bo c0.p (D.aX a0.cur) 1) ⟨161,[],[zp I5,zp b14,zp b1,zp IE,zp IU],FI,rfl,fun m hm x w' hs hz=>Bu (j:=j) (fun b hb=>q9 (I4 b hb) hz) O (fun m' hm'=>HY m' O) c0 f23 (hs.at_ f23 I3) (D.aX a0.cur) f24 (hs.at_ f24 H14) a0 f25 (hs.at_ f25 H1) c1 f26 (hs.at_ f26 IA) c2 f27 (hs.at_ f27 IR) x⟩) rfl cl99 rfl fun w20 KF hb hr22 r=>?_;have Z20:=hb.size
 have H4:=bc hb H4 Kl
 have hB:=Jd.aS (Z:=F) hB;have hB:=hB.bn hb yad
 have zB:=hB.size;refine kP r hr22.shape rfl rfl H4 Ju rfl rfl fun w28 u29 r=>?_;have Z28:=u29.size
 have H4:=u29.at_;have hB:=hB.bm u29 (.inl O)
 have zB:=hB.size;refine wn (q4 ?_);have hd:D.iQ j HL c0 c1 c2 a0=(D.gK (D.bo c0.p (D.aX a0.cur) 1) (fun x=>(D.nO j HL c0 (D.aX a0.cur) a0 c1 c2 x))):=(ai h7).trans (rfl)
 have hs:=hr22.shape.cells;refine ak r rfl rfl H4 (k:=8) hs.1 Jt ?_;rw [<-hs.2.2,hd];exact av.fin hB hr22 u29 yac Kl O O O
theorem CT {n:Nat} {F:Nat->Prop} {j:Nat} {HL:Je->Int->Int->T IM} {w0:World} (hF:∀ b,F b->b<w0.heap.size) (hj:n<j) (HY:∀ m,m<n->lu HL m)
    (a0:Je) (a1:Int) (a2:Int) :
    Calls B0 86 #[z6 (bi a0),.int .i64 a1,.int .u64 a2] w0 (av B0 aA n (D.uu j HL a0 a1 a2) F w0):=by
 refine kN Tryz.func86 rfl 13 rfl rfl fun fr r hB=>?_;refine I0 ?_
 refine kX 47 (z6 (bi a0)) r rfl rfl fun b1 w2 n3 r=>?_;obtain ⟨E1,Z2,H1,hB,zB⟩:=n3.all hB
 refine kX 3 (I a1) r rfl rfl fun b4 w5 n6 r=>?_;have H1:=keep n6.below H1
 obtain ⟨E4,Z5,H4,hB,zB⟩:=n6.all hB;refine kX 34 (U a2) r rfl rfl fun b7 w8 n9 r=>?_;have H1:=keep n9.below H1
 have H4:=keep n9.below H4;obtain ⟨E7,Z8,H7,hB,zB⟩:=n9.all hB;refine ah (.cells (kq aA) 41 (0,0)) r (fun R=>ag JD) rfl fun fr b10 JV JN r=>?_;have H1:=keep JN.below H1
 have H4:=keep JN.below H4;have H7:=keep JN.below H7;obtain ⟨E10,Z11,Jp,hB,zB⟩:=JN.all hB;refine wn (I0 (kG (bi a0) 8 r rfl H1 La rfl rfl fun r=>kL (I a1) r rfl H4 IL rfl rfl fun r=>kL (U a2) r rfl H7 Ja rfl rfl fun r=>?_));refine kJ r (nQ (j:=j) (F:=No) (n:=n) (fun _ h=>h.elim) O (fun m' hm'=>mX (j:=j) (k:=j) O O) a0 a1 a2) rfl pB rfl fun Kc K6 hb Kf r=>?_
 have hb:=hb.below;have Z13:=hb.size;have H1:=keep hb H1;have H4:=keep hb H4;have H7:=keep hb H7;have Jp:=keep hb Jp;obtain ⟨hB,zB⟩:=IQ hb hB;refine aa (.func (.func 159) #[] #[zp b1,zp b4,zp b7]) r (fun R=>aZ r rfl) rfl fun fr r=>?_;have I4:∀ b,(kW F w0 JV b10) b->b<Kc.heap.size:=by rintro b (h | ⟨_,h,_⟩); exact q9 (hF b h) hB.size; exact q9 h O
 have f19:((kW F w0 JV b10)) b1:=(.inr ⟨O,O,O⟩)
 have f20:((kW F w0 JV b10)) b4:=(.inr ⟨O,O,O⟩)
 have f21:((kW F w0 JV b10)) b7:=(.inr ⟨O,O,O⟩)
 have JZ:=cw hF hB.size b10;refine kJ r (mH (F:=(kW F w0 Kc b10)) (F2:=(kW F w0 JV b10)) (n:=n) JZ yan yah yai (IK.mono (F':=fun b=>JV.heap.size<=b/\b<Kc.heap.size) yam (I8.refl _ _) (Nat.le_refl _) n _ _ Kf) ⟨159,[],[zp b1,zp b4,zp b7],Gs,rfl,fun m hm x w' hs hz=>C3 (j:=j) (fun b hb=>q9 (I4 b hb) hz) O (fun m' hm'=>HY m' O) a0 f19 (hs.at_ f19 H1) a1 f20 (hs.at_ f20 H4) a2 f21 (hs.at_ f21 H7) x⟩) rfl mD rfl fun w16 Kk hb hr18 r=>?_
 have Z16:=hb.size;have Jp:=bc hb Jp Kl
 have hB:=Jd.aS (Z:=F) hB;have hB:=hB.bn hb yad
 have zB:=hB.size;refine kP r hr18.shape rfl rfl Jp Ju rfl rfl fun w22 u23 r=>?_;have Z22:=u23.size
 have Jp:=u23.at_;have hB:=hB.bm u23 (.inl O)
 have zB:=hB.size;refine wn (q4 ?_);have hs:=hr18.shape.cells;refine ak r rfl rfl Jp (k:=8) hs.1 Jt ?_;rw [<-hs.2.2];exact av.fin hB hr18 u23 yac Kl O O O
theorem Cl {n:Nat} {j:Nat} (hj:n<j) {k:Nat} (hk:n<k):lu (D.eV j k) n:=by
 induction n using Nat.strongRecOn generalizing k with
 | _ n ih=>
  obtain ⟨k,rfl⟩:∃ q,k=q+1:=⟨k - 1,O⟩
  intro F w0 hF;have h:=@CT n F j (D.eV j k) w0 hF hj (fun m hm=>ih m hm O O)
  exact h
def D.qC (j:Nat) (c0:Je) (a0:Int):T IM:=(D.eF j c0 (⟨0,a0⟩:IM))
theorem Bn (hF:kH F w0) (hj:n<j)
    (c0:Je) {I5:Nat} (J9:F I5) (I3:w0.heap[I5]?=some (.cells ((bi c0)).toArray 47 (0,0))) (a0:Int) :
    Calls B0 165 #[.int .u64 a0,zp I5] w0 (av B0 aA n (D.qC j c0 a0) F w0):=by
 refine kN Tryz.func165 rfl 8 rfl rfl fun fr r hB=>?_;have Jq:=q8 I3
 refine I0 ?_;refine ah (.cells (kq aA) 41 (0,0)) r (fun R=>ag JD) rfl fun fr b1 w2 n3 r=>?_;obtain ⟨E1,Z2,H1,hB,zB⟩:=n3.all hB
 refine wn (I0 (kG (bi c0) 8 r rfl (keep hB I3) La rfl rfl fun r=>kM (U a0) r rfl rfl fun r=>kU (z6 (ID (⟨0,a0⟩:IM))) r kz rfl fun r=>?_));refine kJ r (jy (j:=j) (F:=No) (n:=n) (fun _ h=>h.elim) O c0 (⟨0,a0⟩:IM)) rfl kx rfl fun w4 v5 hb J0 r=>?_
 have hb:=hb.below;have Z4:=hb.size;have H1:=keep hb H1;obtain ⟨hB,zB⟩:=IQ hb hB;refine kP r J0.shape rfl rfl H1 Ju rfl rfl fun w7 u8 r=>?_;have Z7:=u8.size
 have H1:=u8.at_;obtain ⟨hB,zB⟩:=u8.on hB O
 refine wn (q4 ?_);have hs:=J0.shape.cells;refine ak r rfl rfl H1 (k:=8) hs.1 Jt ?_;rw [<-hs.2.2];exact av.fin (Jd.aS hB) J0 u8 (fun _ h=>h.elim) (fun h=>h) O O O
def D.gX (j:Nat) (c0:Je) (a0:Walk):T IM:=(bif (!a0.there) then (D.eF j c0 (⟨6,0⟩:IM)) else (D.gK (D.bo c0.p (D.aX a0.cur) 1) (fun x=>(D.qC j c0 x))))
theorem C5 (hF:kH F w0) (hj:n<j)
    (c0:Je) {I5:Nat} (J9:F I5) (I3:w0.heap[I5]?=some (.cells ((bi c0)).toArray 47 (0,0))) (a0:Walk) :
    Calls B0 164 #[z6 (bf a0),zp I5] w0 (av B0 aA n (D.gX j c0 a0) F w0):=by
 refine kN Tryz.func164 rfl 18 rfl rfl fun fr r hB=>?_;have Jq:=q8 I3
 refine I0 ?_;refine kX 221 (z6 (bf a0)) r rfl rfl fun b1 w2 n3 r=>?_;have I3:=keep n3.below I3
 obtain ⟨E1,Z2,H1,hB,zB⟩:=n3.all hB;refine ah (.cells (kq aA) 41 (0,0)) r (fun R=>ag JD) rfl fun fr b4 w5 n6 r=>?_;have I3:=keep n6.below I3
 have H1:=keep n6.below H1;obtain ⟨E4,Z5,H4,hB,zB⟩:=n6.all hB;refine wn (d9 (I0 (kF 0 r rfl m6 rfl fun r=>kL (.bool a0.there) r rfl H1 to4 rfl rfl fun r=>aa (.bool (!a0.there)) r (fun R=>JQ r (u:=(.bool a0.there)) rfl rfl) rfl fun fr r=>wn ?_)));refine q5 (t:=(!a0.there)) (r.ev rfl) (fun h7=>?_) (fun h7=>?_)
 ·
  refine I0 (kG (bi c0) 8 r rfl I3 La rfl rfl fun r=>kU (z6 (ID (⟨6,0⟩:IM))) r kz rfl fun r=>?_);refine kJ r (jy (j:=j) (F:=No) (n:=n) (fun _ h=>h.elim) O c0 (⟨6,0⟩:IM)) rfl kx rfl fun w8 v9 hb Jv r=>?_
  have hb:=hb.below;have Z8:=hb.size;have I3:=keep hb I3;have H1:=keep hb H1;have H4:=keep hb H4;obtain ⟨hB,zB⟩:=IQ hb hB;refine kP r Jv.shape rfl rfl H4 Ju rfl rfl fun JV JH r=>?_;have Z11:=JH.size
  have I3:=JH.keep I3 O
  have H1:=JH.keep H1 O
  have H4:=JH.at_;obtain ⟨hB,zB⟩:=JH.on hB O
  refine wn (q4 ?_);have hd:D.gX j c0 a0=(D.eF j c0 (⟨6,0⟩:IM)):=(ar h7).trans (rfl);have hs:=Jv.shape.cells;refine ak r rfl rfl H4 (k:=8) hs.1 Jt ?_;rw [<-hs.2.2,hd];exact av.fin (Jd.aS hB) Jv JH (fun _ h=>h.elim) (fun h=>h) O O O
 refine q7 (d9 ?_);refine bI 7 [.val (zp I5),.val (z6 (ac c0.p)),.val (.pointer (some ⟨b1,11,none⟩)),.val (U a0.cur),.val (I (D.aX a0.cur)),.val (I (D.bo c0.p (D.aX a0.cur) 1)),.val (.func (.func 165) #[] #[zp I5])] mixed r kz (kV (kV (kV (kV (kV (kV (kV bH))))))) ?_ ?_
 ·
  refine ec r (fun _ u _ b d s=>az s (b:=I5) (o:=0) rfl dm bz) (ec r (fun _ u _ b d s=>aU s (cs:=(ac c0.p)) (n:=6) d.1 (keep b I3) IJ rfl bz) (ec r (fun _ u _ b d s=>az s (b:=b1) (o:=0) rfl eY bz) (ec r (fun _ u _ b d s=>ax s d.1 (keep b H1) Ja rfl bz) (ec r (fun I2 u w' hb' hd r'=>aN r' (args:=[(U a0.cur)]) (lc hd.1 l0) cl88 ((fU _ a0.cur).mono JL)) (ec r (fun I2 u w' hb' hd r'=>aN r' (args:=[(z6 (ac c0.p)),(I (D.aX a0.cur)),(I 1)]) (lc hd.1 (lc hd.2.1 (lc rfl l0))) cl89 ((eB _ c0.p (D.aX a0.cur) 1).mono JL)) (ec r (fun _ u _ b d s=>aZ s (v:=(.func (.func 165) #[] #[zp I5])) rfl bz) ?_))))));exact bJ
 intro fr u Kc hb Iz hne r;have r:=r.congr (sc (Iz 6 ke) (sc (Iz 5 ke) (sc (Iz 4 ke) (sc (Iz 3 ke) (sc (Iz 2 ke) (sc (Iz 1 ke) (sc (Iz 0 ke) rfl)))))));have Z13:=hb.size;have I3:=keep hb I3;have H1:=keep hb H1;have H4:=keep hb H4;obtain ⟨hB,zB⟩:=IQ hb hB;have I4:=cw hF hB.size b4;have f17:((kW F w0 Kc b4)) I5:=(.inl J9);refine kJ r (tT (F:=(kW F w0 Kc b4)) (n:=n) I4 (D.bo c0.p (D.aX a0.cur) 1) ⟨165,[],[zp I5],FY,rfl,fun m hm x w' hs hz=>Bn (j:=j) (fun b hb=>q9 (I4 b hb) hz) O c0 f17 (hs.at_ f17 I3) x⟩) rfl cl99 rfl fun w14 JF hb KM r=>?_;have Z14:=hb.size
 have H4:=bc hb H4 Kl
 have hB:=Jd.aS (Z:=F) hB;have hB:=hB.bn hb yad
 have zB:=hB.size;refine kP r KM.shape rfl rfl H4 Ju rfl rfl fun w18 u19 r=>?_;have Z18:=u19.size
 have H4:=u19.at_;have hB:=hB.bm u19 (.inl O)
 have zB:=hB.size;refine wn (q4 ?_);have hd:D.gX j c0 a0=(D.gK (D.bo c0.p (D.aX a0.cur) 1) (fun x=>(D.qC j c0 x))):=(ai h7).trans (rfl)
 have hs:=KM.shape.cells;refine ak r rfl rfl H4 (k:=8) hs.1 Jt ?_;rw [<-hs.2.2,hd];exact av.fin hB KM u19 yac Kl O O O
def D.iZ (j:Nat) (a0:Je) (a1:Int) (a2:Int):T IM:=(T.bind (D.jL j (D.du j j) a0 a1 a2) (fun x=>(D.gX j a0 x)))
theorem Cs (hF:kH F w0) (hj:n<j)
    (a0:Je) (a1:Int) (a2:Int) :
    Calls B0 87 #[z6 (bi a0),.int .i64 a1,.int .u64 a2] w0 (av B0 aA n (D.iZ j a0 a1 a2) F w0):=by
 refine kN Tryz.func87 rfl 13 rfl rfl fun fr r hB=>?_;refine I0 ?_
 refine kX 47 (z6 (bi a0)) r rfl rfl fun b1 w2 n3 r=>?_;obtain ⟨E1,Z2,H1,hB,zB⟩:=n3.all hB
 refine ah (.cells (kq aA) 41 (0,0)) r (fun R=>ag JD) rfl fun fr b4 w5 n6 r=>?_;have H1:=keep n6.below H1
 obtain ⟨E4,Z5,H4,hB,zB⟩:=n6.all hB;refine wn (I0 (kG (bi a0) 8 r rfl H1 La rfl rfl fun r=>kM (I a1) r rfl rfl fun r=>kM (U a2) r rfl rfl fun r=>?_));refine kJ r (nQ (j:=j) (F:=No) (n:=n) (fun _ h=>h.elim) O (fun m' hm'=>mX (j:=j) (k:=j) O O) a0 a1 a2) rfl pB rfl fun w7 v8 hb hr9 r=>?_
 have hb:=hb.below;have Z7:=hb.size;have H1:=keep hb H1;have H4:=keep hb H4;obtain ⟨hB,zB⟩:=IQ hb hB;refine aa (.func (.func 164) #[] #[zp b1]) r (fun R=>aZ r rfl) rfl fun fr r=>?_;have I4:∀ b,(kW F w0 w5 b4) b->b<w7.heap.size:=by rintro b (h | ⟨_,h,_⟩); exact q9 (hF b h) hB.size; exact q9 h O
 have f13:((kW F w0 w5 b4)) b1:=(.inr ⟨O,O,O⟩)
 have JZ:=cw hF hB.size b4;refine kJ r (mH (F:=(kW F w0 w7 b4)) (F2:=(kW F w0 w5 b4)) (n:=n) JZ yan yah yai (IK.mono (F':=fun b=>w5.heap.size<=b/\b<w7.heap.size) yam (I8.refl _ _) (Nat.le_refl _) n _ _ hr9) ⟨164,[],[zp b1],Hr,rfl,fun m hm x w' hs hz=>C5 (j:=j) (fun b hb=>q9 (I4 b hb) hz) O a0 f13 (hs.at_ f13 H1) x⟩) rfl mD rfl fun J8 v11 hb Jl r=>?_
 have Z10:=hb.size;have H4:=bc hb H4 Kl
 have hB:=Jd.aS (Z:=F) hB;have hB:=hB.bn hb yad
 have zB:=hB.size;refine kP r Jl.shape rfl rfl H4 Ju rfl rfl fun w14 u15 r=>?_;have Z14:=u15.size
 have H4:=u15.at_;have hB:=hB.bm u15 (.inl O)
 have zB:=hB.size;refine wn (q4 ?_);have hs:=Jl.shape.cells;refine ak r rfl rfl H4 (k:=8) hs.1 Jt ?_;rw [<-hs.2.2];exact av.fin hB Jl u15 yac Kl O O O
end
end Go.Proofs.YtbbipmelhmgmfaaGreat

/- Ours. -/
import Derived.Test.YtfpgnmhcfkikkaaGreatQdM20
set_option linter.all false
set_option maxRecDepth 20000
set_option maxHeartbeats 2000000
namespace Go.Proofs.YtfpgnmhcfkikkaaGreat
open Go.RowKit
section
variable {n : Nat} {F : Nat → Prop} {j : Nat} {w0 : World}
theorem qa:ak Tryz.prog 158:=by kernel_rfl
theorem mI:ak Tryz.prog 159:=by kernel_rfl
theorem uz:ak Tryz.prog 160:=by kernel_rfl
theorem Cy:ak Tryz.prog 161:=by kernel_rfl
theorem BH:ak Tryz.prog 163:=by kernel_rfl
theorem mF:ak Tryz.prog 164:=by kernel_rfl
theorem gL:ak Tryz.prog 165:=by kernel_rfl
theorem De:ak Tryz.prog 260:=by kernel_rfl
theorem mO:ak Tryz.prog 261:=by kernel_rfl
theorem C3:ak Tryz.prog 262:=by kernel_rfl
theorem Dq:ak Tryz.prog 263:=by kernel_rfl
theorem mC:ak Tryz.prog 264:=by kernel_rfl
theorem uD:ak Tryz.prog 266:=by kernel_rfl
theorem Dj:ak Tryz.prog 267:=by kernel_rfl
theorem CJ:ak Tryz.prog 268:=by kernel_rfl
theorem BM:ak Tryz.prog 269:=by kernel_rfl
theorem mz:ak Tryz.prog 270:=by kernel_rfl
theorem BD:ak Tryz.prog 271:=by kernel_rfl
theorem Ct:ak Tryz.prog 272:=by kernel_rfl
theorem Cs:ak Tryz.prog 273:=by kernel_rfl
theorem DE:ak Tryz.prog 274:=by kernel_rfl
theorem CM:ak Tryz.prog 277:=by kernel_rfl
theorem CL:ak Tryz.prog 278:=by kernel_rfl
theorem Dn:ak Tryz.prog 279:=by kernel_rfl
theorem BT:ak Tryz.prog 280:=by kernel_rfl
theorem D0:ak Tryz.prog 281:=by kernel_rfl
theorem Db:ak Tryz.prog 282:=by kernel_rfl
theorem BP:ak Tryz.prog 283:=by kernel_rfl
theorem cl34:ak Tryz.prog 34:=by kernel_rfl
theorem D6:ak Tryz.prog 347:=by kernel_rfl
theorem vz:ak Tryz.prog 348:=by kernel_rfl
theorem BR:ak Tryz.prog 349:=by kernel_rfl
theorem Dd:ak Tryz.prog 350:=by kernel_rfl
theorem Cp:ak Tryz.prog 351:=by kernel_rfl
theorem Dl:ak Tryz.prog 352:=by kernel_rfl
theorem Ce:ak Tryz.prog 353:=by kernel_rfl
theorem BF:ak Tryz.prog 354:=by kernel_rfl
theorem C4:ak Tryz.prog 398:=by kernel_rfl
theorem cl74:ak Tryz.prog 74:=by kernel_rfl
theorem dn:ba Tryz.prog 252 0 0:=by kernel_rfl
theorem mg:ba Tryz.prog 252 1 8:=by kernel_rfl
theorem gG:ba Tryz.prog 252 2 9:=by kernel_rfl
theorem cZ:tyA Tryz.prog 252 10:=by kernel_rfl
theorem pS:sized Tryz.prog 252 10:=by kernel_rfl
theorem pT:zeroOf Tryz.prog 252=some (.agg (bc (⟨(⟨(⟨0,0,0,0,0,0⟩:Plan),0,0⟩:Seat),0,0⟩:Where)).toArray):=by kernel_rfl
def D.cH (a0:Seat) (a1:Int):Where:=(⟨a0,(D.cU a0.p a1 0),(D.cU a0.p a1 1)⟩:Where)
theorem oC (w0:World) 
    (a0:Seat) (a1:Int) :
    Calls Tryz.prog 158 #[.agg (bg a0).toArray,.int .i64 a1] w0 (bi (.agg (bc (D.cH a0 a1)).toArray) w0):=by
 refine enter Tryz.func158 rfl 15 rfl rfl fun fr r=>?_;have hB:=Below.refl w0.heap.size w0
 refine wsr ?_;refine kX 90 (.agg (bg a0).toArray) r rfl rfl fun b1 w2 n3 r=>?_;obtain ⟨E1,Z2,H1,hB,zB⟩:=n3.all hB
 refine ar (.cells ((bc (⟨(⟨(⟨0,0,0,0,0,0⟩:Plan),0,0⟩:Seat),0,0⟩:Where))).toArray 252 (0,0)) r (fun R=>aq pT) rfl fun fr b4 w5 n6 r=>?_;have H1:=keep n6.below H1
 obtain ⟨E4,Z5,H4,hB,zB⟩:=n6.all hB;refine wn (wp_seq ?_);refine bw 10 [.val (.agg (bg a0).toArray),.val (zp b1),.val (.agg (af a0.p).toArray),.val (I a1),.val (I (D.cU a0.p a1 0)),.val (zp b1),.val (.agg (af a0.p).toArray),.val (I a1),.val (I (D.cU a0.p a1 1)),.val (.agg (bc (⟨a0,(D.cU a0.p a1 0),(D.cU a0.p a1 1)⟩:Where)).toArray)] mixed r (by kernel_rfl) (ag (by exact trivial) (ag (by exact trivial) (ag (by exact trivial) (ag (by exact trivial) (ag (by exact trivial) (ag (by exact trivial) (ag (by exact trivial) (ag (by exact trivial) (ag (by exact trivial) (ag (by exact trivial) bv)))))))))) ?_ ?_
 ·
  refine ec r (fun _ u _ b d s=>aU s (cs:=(bg a0)) (n:=8) rfl (keep b H1) ta90 rfl bz) (ec r (fun _ u _ b d s=>aG s (b:=b1) (o:=0) rfl dV bz) (ec r (fun _ u _ b d s=>aU s (cs:=(af a0.p)) (n:=6) d.1 (keep b H1) ta23 rfl bz) (ec r (fun _ u _ b d s=>aD s rfl bz) (ec r (fun fr1 u w' hb' hd r'=>aP r' (args:=[(.agg (af a0.p).toArray),(I a1),(I 0)]) (lc hd.1 (lc hd.2.1 (lc rfl l0))) cl74 ((nF _ a0.p a1 0).mono (by rintro _ w2 ⟨rfl,hb2⟩; exact ⟨_,rfl,hb2,rfl⟩))) (ec r (fun _ u _ b d s=>aG s (b:=b1) (o:=0) rfl dV bz) (ec r (fun _ u _ b d s=>aU s (cs:=(af a0.p)) (n:=6) d.1 (keep b H1) ta23 rfl bz) (ec r (fun _ u _ b d s=>aD s rfl bz) (ec r (fun fr1 u w' hb' hd r'=>aP r' (args:=[(.agg (af a0.p).toArray),(I a1),(I 1)]) (lc hd.1 (lc hd.2.1 (lc rfl l0))) cl74 ((nF _ a0.p a1 1).mono (by rintro _ w2 ⟨rfl,hb2⟩; exact ⟨_,rfl,hb2,rfl⟩))) (ec r (fun fr1 u w' hb' hd r'=>eZ r' (v:=(.agg (bc (⟨a0,(D.cU a0.p a1 0),(D.cU a0.p a1 1)⟩:Where)).toArray)) (bs3 (congrArg (fun z=>(0,z)) hd.1) (congrArg (fun z=>(1,z)) hd.2.1) (congrArg (fun z=>(2,z)) hd.2.2.1) (by kernel_rfl)) bz) ?_)))))))));exact bA
 intro fr u w7 hb hΦ hne r;have r:=r.congr (sc (hΦ 9 (by decide)) (sc (hΦ 8 (by decide)) (sc (hΦ 7 (by decide)) (sc (hΦ 6 (by decide)) (sc (hΦ 5 (by decide)) (sc (hΦ 4 (by decide)) (sc (hΦ 3 (by decide)) (sc (hΦ 2 (by decide)) (sc (hΦ 1 (by decide)) (sc (hΦ 0 (by decide)) rfl))))))))));have Z7:=hb.size;have H1:=keep hb H1;have H4:=keep hb H4;obtain ⟨hB,zB⟩:=bon hb hB;refine aM (.cells ((bc (⟨a0,(D.cU a0.p a1 0),(D.cU a0.p a1 1)⟩:Where))).toArray 252 (0,0)) r (fun R=>aX r (o:=0) (v:=(.agg (bc (⟨a0,(D.cU a0.p a1 0),(D.cU a0.p a1 1)⟩:Where)).toArray)) rfl rfl H4 pS (Nat.le_of_ble_eq_true rfl) rfl (lZ rfl)) rfl fun fr w8 u9 r=>?_;have Z8:=u9.size
 have H1:=u9.keep H1 (by omega)
 have H4:=u9.at_;obtain ⟨hB,zB⟩:=u9.on hB (by omega)
 refine wn (wp_ret ?_);refine aH r rfl rfl H4 (k:=10) rfl cZ ?_;exact ⟨rfl,hB⟩
def D.fJ (a0:Int):T Res:=(D.nY (⟨a0,0⟩:Res))
theorem lF (hF:kH F w0)
    (a0:Int) :
    Calls Tryz.prog 264 #[.int .i64 a0] w0 (av Tryz.prog aj n (D.fJ a0) F w0):=by
 refine enter Tryz.func264 rfl 6 rfl rfl fun fr r=>?_;have hB:=Below.refl w0.heap.size w0
 refine wsr ?_;refine ar (.cells (ai false aj.zero 0 0 0 0 .nilFunc) 84 (0,0)) r (fun R=>aq tz84) rfl fun fr b1 w2 n3 r=>?_;obtain ⟨E1,Z2,H1,hB,zB⟩:=n3.all hB
 refine wn (wsr (kM (I a0) r rfl rfl fun r=>kU (.agg (resC (⟨a0,0⟩:Res)).toArray) r (by kernel_rfl) rfl fun r=>?_));have hF1:=aA hF hB b1
 refine kD r (rj (F:=(kW F w0 w2 b1)) (n:=n) hF1 (⟨a0,0⟩:Res)) rfl cl45 rfl fun w4 v5 hb hr6 r=>?_;have Z4:=hb.size
 have H1:=keep hb H1;obtain ⟨hB,zB⟩:=bon hb hB;refine kP r hr6.shape rfl rfl H1 ts84 rfl rfl fun w7 u8 r=>?_;have Z7:=u8.size
 have H1:=u8.at_;obtain ⟨hB,zB⟩:=u8.on hB (by omega)
 exact wn (wp_ret (kR r hr6 rfl rfl H1 rfl ta84 hF hB u8 (by omega) (by omega) (by omega)))
def D.dG (c0:(Int→T Res)) (a0:Grant):T Res:=(bif (a0.e !=0) then (D.fJ a0.e) else (c0 a0.node))
theorem vY (hF:kH F w0)
    {c0f:FuncId} {c0_1 c0_2:List Value} {c0:(Int→T Res)} {c0b:Nat} (c0F:F c0b) (c0h:w0.heap[c0b]?=some (.cells #[.func (.func c0f) c0_1.toArray c0_2.toArray] 257 (0,0))) (c0n:FnT Tryz.prog aj i64 (n+1) F w0 (.func (.func c0f) c0_1.toArray c0_2.toArray) c0) (a0:Grant) :
    Calls Tryz.prog 274 #[.agg (grantC a0).toArray,zp c0b] w0 (av Tryz.prog aj n (D.dG c0 a0) F w0):=by
 refine enter Tryz.func274 rfl 14 rfl rfl fun fr r=>?_;have hB:=Below.refl w0.heap.size w0
 have lc0b:=lt_of_block c0h;refine wsr ?_;refine kX 37 (.agg (grantC a0).toArray) r rfl rfl fun b1 w2 n3 r=>?_;obtain ⟨E1,Z2,H1,hB,zB⟩:=n3.all hB
 refine ar (.cells (ai false aj.zero 0 0 0 0 .nilFunc) 84 (0,0)) r (fun R=>aq tz84) rfl fun fr b4 w5 n6 r=>?_;have H1:=keep n6.below H1
 obtain ⟨E4,Z5,H4,hB,zB⟩:=n6.all hB;refine wn (wp_seq (wsr (kF 0 r rfl ud rfl fun r=>kL (I a0.e) r rfl H1 to35 rfl rfl fun r=>kB r rfl rfl rfl rfl rfl fun r=>wn ?_)));refine wp_cond_split (t:=(a0.e !=0)) (r.ev rfl) (fun h7=>?_) (fun h7=>?_)
 ·
  refine wsr (kF 0 r rfl ud rfl fun r=>kL (I a0.e) r rfl H1 to35 rfl rfl fun r=>?_);have hF1:=aA hF hB b4
  refine kD r (lF (F:=(kW F w0 w5 b4)) (n:=n) hF1 a0.e) rfl mC rfl fun w8 v9 hb hr10 r=>?_;have Z8:=hb.size
  have H1:=keep hb H1;have H4:=keep hb H4;obtain ⟨hB,zB⟩:=bon hb hB;refine kP r hr10.shape rfl rfl H4 ts84 rfl rfl fun w11 u12 r=>?_;have Z11:=u12.size
  have H1:=u12.keep H1 (by omega)
  have H4:=u12.at_;obtain ⟨hB,zB⟩:=u12.on hB (by omega)
  refine wn (wp_ret ?_);have hd:D.dG c0 a0=(D.fJ a0.e):=(ay h7).trans (rfl);have hs:=hr10.shape.cells;refine aH r rfl rfl H4 (k:=8) hs.1 ta84 ?_;rw [←hs.2.2,hd];exact rfin hF hB hr10 u12 (by omega) (by omega) (by omega)
 refine wp_skip (wsr (kL (.func (.func c0f) c0_1.toArray c0_2.toArray) r rfl (keep hB c0h) pV rfl rfl fun r=>kF 0 r rfl Bu rfl fun r=>kL (I a0.node) r rfl H1 to3 rfl rfl fun r=>?_));refine cE r (c0n.at_.2 n (Nat.lt_succ_self n) a0.node w5 (Same.below hB hF) hB.size) (fun R hc=>dx r rfl rfl c0n.at_.1 hc) rfl ?_
 rintro _ w13 ⟨v14,rfl,hb,hr15⟩;refine ⟨_,rfl,fun fr r=>?_⟩
 have Z13:=hb.size;have H1:=keep hb H1;have H4:=keep hb H4;obtain ⟨hB,zB⟩:=bon hb hB;refine kP r hr15.shape rfl rfl H4 ts84 rfl rfl fun w16 u17 r=>?_;have Z16:=u17.size
 have H1:=u17.keep H1 (by omega)
 have H4:=u17.at_;obtain ⟨hB,zB⟩:=u17.on hB (by omega)
 refine wn (wp_ret ?_);have hd:D.dG c0 a0=(c0 a0.node):=(aw h7).trans (rfl);have hs:=hr15.shape.cells;refine aH r rfl rfl H4 (k:=8) hs.1 ta84 ?_;rw [←hs.2.2,hd];exact av.fin hB hr15 u17 (fun b hb=>.inl hb) (fun h=>by have:=hF _ h; omega) (by omega) (by omega) (by omega)
def D.gT (j:Nat) (a0:Where) (a1:(Int→T Res)):T Res:=(T.bind (D.eU j a0.seat.p a0.seat.thread 1) (fun x=>(D.dG a1 x)))
theorem qG (hF:kH F w0) (hj:n<j)
    (a0:Where) {a1f:FuncId} {a1_1 a1_2:List Value} {a1:(Int→T Res)} (a1n:FnT Tryz.prog aj i64 (n+1) F w0 (.func (.func a1f) a1_1.toArray a1_2.toArray) a1) :
    Calls Tryz.prog 160 #[.agg (bc a0).toArray,.func (.func a1f) a1_1.toArray a1_2.toArray] w0 (av Tryz.prog aj n (D.gT j a0 a1) F w0):=by
 refine enter Tryz.func160 rfl 14 rfl rfl fun fr r=>?_;have hB:=Below.refl w0.heap.size w0
 refine wsr ?_;refine kX 252 (.agg (bc a0).toArray) r rfl rfl fun b1 w2 n3 r=>?_;obtain ⟨E1,Z2,H1,hB,zB⟩:=n3.all hB
 refine kX 257 (.func (.func a1f) a1_1.toArray a1_2.toArray) r rfl rfl fun b4 w5 n6 r=>?_;have H1:=keep n6.below H1
 obtain ⟨E4,Z5,H4,hB,zB⟩:=n6.all hB;refine ar (.cells (ai false aj.zero 0 0 0 0 .nilFunc) 84 (0,0)) r (fun R=>aq tz84) rfl fun fr b7 w8 n9 r=>?_;have H1:=keep n9.below H1
 have H4:=keep n9.below H4;obtain ⟨E7,Z8,H7,hB,zB⟩:=n9.all hB;refine wn (wsr (kF 0 r rfl dn rfl fun r=>kF 0 r rfl dV rfl fun r=>kG (af a0.seat.p) 6 r rfl H1 ta23 rfl rfl fun r=>kF 0 r rfl dn rfl fun r=>kF 0 r rfl jQ rfl fun r=>kL (I a0.seat.thread) r rfl H1 to3 rfl rfl fun r=>?_));have hF1:=aA hF hB b7
 refine kD r (zl (j:=j) (F:=(kW F w0 w8 b7)) (n:=n) hF1 (by omega) a0.seat.p a0.seat.thread 1) rfl cl27 rfl fun w10 v11 hb hr12 r=>?_;have Z10:=hb.size
 have H1:=keep hb H1;have H4:=keep hb H4;have H7:=keep hb H7;obtain ⟨hB,zB⟩:=bon hb hB;refine ae (.func (.func 274) #[] #[zp b4]) r (fun R=>aW r rfl) rfl fun fr r=>?_;have hF1:=aA hF hB b7
 have f13:((kW F w0 w10 b7)) b4:=(.inr ⟨by omega,by omega,by omega⟩)
 refine kD r (vU (F:=(kW F w0 w10 b7)) (n:=n) hF1 (Rep.mono (by rintro b (h | h); (rcases h with h | ⟨h1,h2,h3⟩; exact .inl h; exact .inr ⟨h1,by omega,h3⟩); exact .inr ⟨by omega,by omega,by omega⟩) (Same.refl _ _) (by omega) n _ _ hr12) ⟨274,[],[zp b4],DE,rfl,fun m hm x w' hs hz=>vY (fun b hb=>Nat.lt_of_lt_of_le (hF1 b hb) hz) f13 (hs.at_ f13 H4) (a1n.mono (by omega) (fun b h=>.inl h) ((Same.below hB hF).trans (hs.sub (fun b h=>.inl h))) (Nat.le_trans hB.size hz)) x⟩) rfl uN rfl fun w14 v15 hb hr16 r=>?_
 have Z14:=hb.size;have H1:=keep hb H1;have H4:=keep hb H4;have H7:=keep hb H7;obtain ⟨hB,zB⟩:=bon hb hB;refine kP r hr16.shape rfl rfl H7 ts84 rfl rfl fun w17 u18 r=>?_;have Z17:=u18.size
 have H1:=u18.keep H1 (by omega)
 have H4:=u18.keep H4 (by omega)
 have H7:=u18.at_;obtain ⟨hB,zB⟩:=u18.on hB (by omega)
 exact wn (wp_ret (kR r hr16 rfl rfl H7 rfl ta84 hF hB u18 (by omega) (by omega) (by omega)))
def D.cX (a0:Int):Int:=(IntKind.u64.wrap (IntKind.i64.wrap (a0+1)))
theorem lA (w0:World) 
    (a0:Int) :
    Calls Tryz.prog 261 #[.int .i64 a0] w0 (bi (.int .u64 (D.cX a0)) w0):=by
 refine enter Tryz.func261 rfl 6 rfl rfl fun fr r=>?_;have hB:=Below.refl w0.heap.size w0
 refine wsr (kA (U 0) r rfl rfl fun r=>wn (wsr (kM (I a0) r rfl rfl fun r=>kB r rfl rfl rfl rfl rfl fun r=>ae (U (V (W (a0+1)))) r (fun R=>cr r rfl ti3 ti40) rfl fun fr r=>kA (U (V (W (a0+1)))) r rfl rfl fun r=>wn (wp_ret ?_))));refine aQ r rfl rfl ?_
 exact ⟨rfl,hB⟩
def D.nL :T Res:=(D.fJ 0)
theorem xq (hF:kH F w0)
     :
    Calls Tryz.prog 263 #[] w0 (av Tryz.prog aj n D.nL F w0):=by
 refine enter Tryz.func263 rfl 2 rfl rfl fun fr r=>?_;have hB:=Below.refl w0.heap.size w0
 refine wsr ?_;refine ar (.cells (ai false aj.zero 0 0 0 0 .nilFunc) 84 (0,0)) r (fun R=>aq tz84) rfl fun fr b1 w2 n3 r=>?_;obtain ⟨E1,Z2,H1,hB,zB⟩:=n3.all hB
 refine wn (wsr ?_);have hF1:=aA hF hB b1;refine kD r (lF (F:=(kW F w0 w2 b1)) (n:=n) hF1 0) rfl mC rfl fun w4 v5 hb hr6 r=>?_;have Z4:=hb.size
 have H1:=keep hb H1;obtain ⟨hB,zB⟩:=bon hb hB;refine kP r hr6.shape rfl rfl H1 ts84 rfl rfl fun w7 u8 r=>?_;have Z7:=u8.size
 have H1:=u8.at_;obtain ⟨hB,zB⟩:=u8.on hB (by omega)
 exact wn (wp_ret (kR r hr6 rfl rfl H1 rfl ta84 hF hB u8 (by omega) (by omega) (by omega)))
def D.nV (c0:Where) (c1:Int):T Res:=(D.jh c0.tail (D.cX c1) (fun _=>D.nL))
theorem xX (hF:kH F w0)
    (c0:Where) {c0b:Nat} (c0F:F c0b) (c0h:w0.heap[c0b]?=some (.cells ((bc c0)).toArray 252 (0,0))) (c1:Int) {c1b:Nat} (c1F:F c1b) (c1h:w0.heap[c1b]?=some (.cells ([(.int .i64 c1)]).toArray 3 (0,0))) :
    Calls Tryz.prog 262 #[zp c0b,zp c1b] w0 (av Tryz.prog aj n (D.nV c0 c1) F w0):=by
 refine enter Tryz.func262 rfl 8 rfl rfl fun fr r=>?_;have hB:=Below.refl w0.heap.size w0
 have lc0b:=lt_of_block c0h;have lc1b:=lt_of_block c1h;refine wsr ?_;refine ar (.cells (ai false aj.zero 0 0 0 0 .nilFunc) 84 (0,0)) r (fun R=>aq tz84) rfl fun fr b1 w2 n3 r=>?_;obtain ⟨E1,Z2,H1,hB,zB⟩:=n3.all hB
 refine wn (wp_seq ?_);refine bw 4 [.val (.pointer (some ⟨c0b,9,none⟩)),.val (I c0.tail),.val (I c1),.val (U (D.cX c1))] mixed r (by kernel_rfl) (ag (by exact trivial) (ag (by exact trivial) (ag (by exact trivial) (ag (by exact trivial) bv)))) ?_ ?_
 ·
  refine ec r (fun _ u _ b d s=>aG s (b:=c0b) (o:=0) rfl gG bz) (ec r (fun _ u _ b d s=>aB s d.1 (bo hB b c0h) to3 rfl bz) (ec r (fun _ u _ b d s=>aB s rfl (bo hB b c1h) to3 rfl bz) (ec r (fun fr1 u w' hb' hd r'=>aP r' (args:=[(I c1)]) (lc hd.1 l0) mO ((lA _ c1).mono (by rintro _ w2 ⟨rfl,hb2⟩; exact ⟨_,rfl,hb2,rfl⟩))) ?_)));exact bA
 intro fr u w4 hb hΦ hne r;have r:=r.congr (sc (hΦ 3 (by decide)) (sc (hΦ 2 (by decide)) (sc (hΦ 1 (by decide)) (sc (hΦ 0 (by decide)) rfl))));have Z4:=hb.size;have H1:=keep hb H1;obtain ⟨hB,zB⟩:=bon hb hB;have hF1:=aA hF hB b1;refine kD r (nG (F:=(kW F w0 w4 b1)) (n:=n) hF1 c0.tail (D.cX c1) ⟨263,[],[],Dq,rfl,fun m hm _ w' hs hz=>xq (fun b hb=>Nat.lt_of_lt_of_le (hF1 b hb) hz) ⟩) rfl pO rfl fun w5 v6 hb hr7 r=>?_;have Z5:=hb.size
 have H1:=keep hb H1;obtain ⟨hB,zB⟩:=bon hb hB;refine kP r hr7.shape rfl rfl H1 ts84 rfl rfl fun w8 u9 r=>?_;have Z8:=u9.size
 have H1:=u9.at_;obtain ⟨hB,zB⟩:=u9.on hB (by omega)
 exact wn (wp_ret (kR r hr7 rfl rfl H1 rfl ta84 hF hB u9 (by omega) (by omega) (by omega)))
def D.lC (c0:Where) (a0:Int):T Res:=(D.jh c0.head (D.cX a0) (fun _=>(D.nV c0 a0)))
theorem yw (hF:kH F w0)
    (c0:Where) {c0b:Nat} (c0F:F c0b) (c0h:w0.heap[c0b]?=some (.cells ((bc c0)).toArray 252 (0,0))) (a0:Int) :
    Calls Tryz.prog 260 #[.int .i64 a0,zp c0b] w0 (av Tryz.prog aj n (D.lC c0 a0) F w0):=by
 refine enter Tryz.func260 rfl 10 rfl rfl fun fr r=>?_;have hB:=Below.refl w0.heap.size w0
 have lc0b:=lt_of_block c0h;refine wsr ?_;refine kX 3 (I a0) r rfl rfl fun b1 w2 n3 r=>?_;obtain ⟨E1,Z2,H1,hB,zB⟩:=n3.all hB
 refine ar (.cells (ai false aj.zero 0 0 0 0 .nilFunc) 84 (0,0)) r (fun R=>aq tz84) rfl fun fr b4 w5 n6 r=>?_;have H1:=keep n6.below H1
 obtain ⟨E4,Z5,H4,hB,zB⟩:=n6.all hB;refine wn (wp_seq ?_);refine bw 5 [.val (.pointer (some ⟨c0b,8,none⟩)),.val (I c0.head),.val (I a0),.val (U (D.cX a0)),.val (.func (.func 262) #[] #[zp c0b,zp b1])] mixed r (by kernel_rfl) (ag (by exact trivial) (ag (by exact trivial) (ag (by exact trivial) (ag (by exact trivial) (ag (by exact trivial) bv))))) ?_ ?_
 ·
  refine ec r (fun _ u _ b d s=>aG s (b:=c0b) (o:=0) rfl mg bz) (ec r (fun _ u _ b d s=>aB s d.1 (bo hB b c0h) to3 rfl bz) (ec r (fun _ u _ b d s=>aB s rfl (keep b H1) to3 rfl bz) (ec r (fun fr1 u w' hb' hd r'=>aP r' (args:=[(I a0)]) (lc hd.1 l0) mO ((lA _ a0).mono (by rintro _ w2 ⟨rfl,hb2⟩; exact ⟨_,rfl,hb2,rfl⟩))) (ec r (fun _ u _ b d s=>aW s (v:=(.func (.func 262) #[] #[zp c0b,zp b1])) rfl bz) ?_))));exact bA
 intro fr u w7 hb hΦ hne r;have r:=r.congr (sc (hΦ 4 (by decide)) (sc (hΦ 3 (by decide)) (sc (hΦ 2 (by decide)) (sc (hΦ 1 (by decide)) (sc (hΦ 0 (by decide)) rfl)))));have Z7:=hb.size;have H1:=keep hb H1;have H4:=keep hb H4;obtain ⟨hB,zB⟩:=bon hb hB;have hF1:=aA hF hB b4;have f8:((kW F w0 w7 b4)) c0b:=(.inl c0F);have f9:((kW F w0 w7 b4)) b1:=(.inr ⟨by omega,by omega,by omega⟩)
 refine kD r (nG (F:=(kW F w0 w7 b4)) (n:=n) hF1 c0.head (D.cX a0) ⟨262,[],[zp c0b,zp b1],C3,rfl,fun m hm _ w' hs hz=>xX (fun b hb=>Nat.lt_of_lt_of_le (hF1 b hb) hz) c0 f8 (hs.at_ f8 (keep hB c0h)) a0 f9 (hs.at_ f9 H1)⟩) rfl pO rfl fun w10 v11 hb hr12 r=>?_;have Z10:=hb.size
 have H1:=keep hb H1;have H4:=keep hb H4;obtain ⟨hB,zB⟩:=bon hb hB;refine kP r hr12.shape rfl rfl H4 ts84 rfl rfl fun w13 u14 r=>?_;have Z13:=u14.size
 have H1:=u14.keep H1 (by omega)
 have H4:=u14.at_;obtain ⟨hB,zB⟩:=u14.on hB (by omega)
 exact wn (wp_ret (kR r hr12 rfl rfl H4 rfl ta84 hF hB u14 (by omega) (by omega) (by omega)))
def D.ek (j:Nat) (a0:Seat) (a1:Int):T Res:=(D.gT j (D.cH a0 a1) (fun x=>(D.lC (D.cH a0 a1) x)))
theorem ze (hF:kH F w0) (hj:n<j)
    (a0:Seat) (a1:Int) :
    Calls Tryz.prog 157 #[.agg (bg a0).toArray,.int .i64 a1] w0 (av Tryz.prog aj n (D.ek j a0 a1) F w0):=by
 refine enter Tryz.func157 rfl 12 rfl rfl fun fr r=>?_;have hB:=Below.refl w0.heap.size w0
 refine wsr ?_;refine kX 90 (.agg (bg a0).toArray) r rfl rfl fun b1 w2 n3 r=>?_;obtain ⟨E1,Z2,H1,hB,zB⟩:=n3.all hB
 refine ar (.cells (ai false aj.zero 0 0 0 0 .nilFunc) 84 (0,0)) r (fun R=>aq tz84) rfl fun fr b4 w5 n6 r=>?_;have H1:=keep n6.below H1
 obtain ⟨E4,Z5,H4,hB,zB⟩:=n6.all hB;refine wn (wsr (kG (bg a0) 8 r rfl H1 ta90 rfl rfl fun r=>kM (I a1) r rfl rfl fun r=>?_));refine kE r (oC w5 a0 a1) rfl qa rfl fun w7 hb r=>?_
 have Z7:=hb.size;have H1:=keep hb H1;have H4:=keep hb H4;obtain ⟨hB,zB⟩:=bon hb hB;refine ar (.cells ((bc (⟨(⟨(⟨0,0,0,0,0,0⟩:Plan),0,0⟩:Seat),0,0⟩:Where))).toArray 252 (0,0)) r (fun R=>aq pT) rfl fun fr b8 w9 n10 r=>?_;have H1:=keep n10.below H1
 have H4:=keep n10.below H4;obtain ⟨E8,Z9,H8,hB,zB⟩:=n10.all hB;refine aM (.cells ((bc (D.cH a0 a1))).toArray 252 (0,0)) r (fun R=>aX r (o:=0) (v:=(.agg (bc (D.cH a0 a1)).toArray)) rfl rfl H8 pS (Nat.le_of_ble_eq_true rfl) rfl (lZ rfl)) rfl fun fr w11 u12 r=>?_;have Z11:=u12.size
 have H1:=u12.keep H1 (by omega)
 have H4:=u12.keep H4 (by omega)
 have H8:=u12.at_;obtain ⟨hB,zB⟩:=u12.on hB (by omega)
 refine wn (wsr (kG (bc (D.cH a0 a1)) 10 r rfl H8 cZ rfl rfl fun r=>ae (.func (.func 260) #[] #[zp b8]) r (fun R=>aW r rfl) rfl fun fr r=>?_));have hF1:=aA hF hB b4
 have f13:((kW F w0 w11 b4)) b8:=(.inr ⟨by omega,by omega,by omega⟩)
 refine kD r (qG (j:=j) (F:=(kW F w0 w11 b4)) (n:=n) hF1 (by omega) (D.cH a0 a1) ⟨260,[],[zp b8],De,rfl,fun m hm x w' hs hz=>yw (fun b hb=>Nat.lt_of_lt_of_le (hF1 b hb) hz) (D.cH a0 a1) f13 (hs.at_ f13 H8) x⟩) rfl uz rfl fun w14 v15 hb hr16 r=>?_;have Z14:=hb.size
 have H1:=keep hb H1;have H4:=keep hb H4;have H8:=keep hb H8;obtain ⟨hB,zB⟩:=bon hb hB;refine kP r hr16.shape rfl rfl H4 ts84 rfl rfl fun w17 u18 r=>?_;have Z17:=u18.size
 have H1:=u18.keep H1 (by omega)
 have H8:=u18.keep H8 (by omega)
 have H4:=u18.at_;obtain ⟨hB,zB⟩:=u18.on hB (by omega)
 exact wn (wp_ret (kR r hr16 rfl rfl H4 rfl ta84 hF hB u18 (by omega) (by omega) (by omega)))
def D.bq (a0:Int):Int:=(IntKind.i64.wrap ((IntKind.i64.wrap a0) - 1))
theorem gk (w0:World) 
    (a0:Int) :
    Calls Tryz.prog 165 #[.int .u64 a0] w0 (bi (.int .i64 (D.bq a0)) w0):=by
 refine enter Tryz.func165 rfl 6 rfl rfl fun fr r=>?_;have hB:=Below.refl w0.heap.size w0
 refine wsr (kA (I 0) r rfl rfl fun r=>wn (wsr (kM (U a0) r rfl rfl fun r=>ae (I (W a0)) r (fun R=>cr r rfl ti40 ti3) rfl fun fr r=>kB r rfl rfl rfl rfl rfl fun r=>kA (I (W ((W a0) - 1))) r rfl rfl fun r=>wn (wp_ret ?_))));refine aQ r rfl rfl ?_
 exact ⟨rfl,hB⟩
def D.fq (c0:(Unit→T Res)):T Res:=(c0 ())
theorem wZ (hF:kH F w0)
    {c0f:FuncId} {c0_1 c0_2:List Value} {c0:(Unit→T Res)} {c0b:Nat} (c0F:F c0b) (c0h:w0.heap[c0b]?=some (.cells #[.func (.func c0f) c0_1.toArray c0_2.toArray] 254 (0,0))) (c0n:FnT Tryz.prog aj unitE (n+1) F w0 (.func (.func c0f) c0_1.toArray c0_2.toArray) c0) :
    Calls Tryz.prog 347 #[.agg #[],zp c0b] w0 (av Tryz.prog aj n (D.fq c0) F w0):=by
 refine enter Tryz.func347 rfl 6 rfl rfl fun fr r=>?_;have hB:=Below.refl w0.heap.size w0
 have lc0b:=lt_of_block c0h;refine wsr ?_;refine kX 190 (.agg #[]) r rfl rfl fun b1 w2 n3 r=>?_;obtain ⟨E1,Z2,H1,hB,zB⟩:=n3.all hB
 refine ar (.cells (ai false aj.zero 0 0 0 0 .nilFunc) 84 (0,0)) r (fun R=>aq tz84) rfl fun fr b4 w5 n6 r=>?_;have H1:=keep n6.below H1
 obtain ⟨E4,Z5,H4,hB,zB⟩:=n6.all hB;refine wn (wsr (kL (.func (.func c0f) c0_1.toArray c0_2.toArray) r rfl (keep hB c0h) qj rfl rfl fun r=>?_));refine cE r (c0n.at_.2 n (Nat.lt_succ_self n) () w5 (Same.below hB hF) hB.size) (fun R hc=>gF r rfl c0n.at_.1 hc) rfl ?_
 rintro _ w7 ⟨v8,rfl,hb,hr9⟩;refine ⟨_,rfl,fun fr r=>?_⟩
 have Z7:=hb.size;have H1:=keep hb H1;have H4:=keep hb H4;obtain ⟨hB,zB⟩:=bon hb hB;refine kP r hr9.shape rfl rfl H4 ts84 rfl rfl fun w10 u11 r=>?_;have Z10:=u11.size
 have H1:=u11.keep H1 (by omega)
 have H4:=u11.at_;obtain ⟨hB,zB⟩:=u11.on hB (by omega)
 refine wn (wp_ret ?_);have hs:=hr9.shape.cells;refine aH r rfl rfl H4 (k:=8) hs.1 ta84 ?_;rw [←hs.2.2];exact av.fin hB hr9 u11 (fun b hb=>.inl hb) (fun h=>by have:=hF _ h; omega) (by omega) (by omega) (by omega)
def D.eM (a0:Where) (a1:Int) (a2:Int) (a3:(Unit→T Res)):T Res:=(T.bind (D.gy a0.seat.p a0.seat.thread a1 a2) (fun _=>(D.fq a3)))
theorem l5 (hF:kH F w0)
    (a0:Where) (a1:Int) (a2:Int) {a3f:FuncId} {a3_1 a3_2:List Value} {a3:(Unit→T Res)} (a3n:FnT Tryz.prog aj unitE (n+1) F w0 (.func (.func a3f) a3_1.toArray a3_2.toArray) a3) :
    Calls Tryz.prog 270 #[.agg (bc a0).toArray,.int .i64 a1,.int .i64 a2,.func (.func a3f) a3_1.toArray a3_2.toArray] w0 (av Tryz.prog aj n (D.eM a0 a1 a2 a3) F w0):=by
 refine enter Tryz.func270 rfl 20 rfl rfl fun fr r=>?_;have hB:=Below.refl w0.heap.size w0
 refine wsr ?_;refine kX 252 (.agg (bc a0).toArray) r rfl rfl fun b1 w2 n3 r=>?_;obtain ⟨E1,Z2,H1,hB,zB⟩:=n3.all hB
 refine kX 254 (.func (.func a3f) a3_1.toArray a3_2.toArray) r rfl rfl fun b4 w5 n6 r=>?_;have H1:=keep n6.below H1
 obtain ⟨E4,Z5,H4,hB,zB⟩:=n6.all hB;refine ar (.cells (ai false aj.zero 0 0 0 0 .nilFunc) 84 (0,0)) r (fun R=>aq tz84) rfl fun fr b7 w8 n9 r=>?_;have H1:=keep n9.below H1
 have H4:=keep n9.below H4;obtain ⟨E7,Z8,H7,hB,zB⟩:=n9.all hB;refine wn (wsr (kF 0 r rfl dn rfl fun r=>kF 0 r rfl dV rfl fun r=>kG (af a0.seat.p) 6 r rfl H1 ta23 rfl rfl fun r=>kF 0 r rfl dn rfl fun r=>kF 0 r rfl jQ rfl fun r=>kL (I a0.seat.thread) r rfl H1 to3 rfl rfl fun r=>kM (I a1) r rfl rfl fun r=>kM (I a2) r rfl rfl fun r=>?_));have hF1:=aA hF hB b7
 refine kD r (rJ (F:=(kW F w0 w8 b7)) (n:=n) hF1 a0.seat.p a0.seat.thread a1 a2) rfl uu rfl fun w10 v11 hb hr12 r=>?_;have Z10:=hb.size
 have H1:=keep hb H1;have H4:=keep hb H4;have H7:=keep hb H7;obtain ⟨hB,zB⟩:=bon hb hB;refine ae (.func (.func 347) #[] #[zp b4]) r (fun R=>aW r rfl) rfl fun fr r=>?_;have hF1:=aA hF hB b7
 have f13:((kW F w0 w10 b7)) b4:=(.inr ⟨by omega,by omega,by omega⟩)
 refine kD r (wg (F:=(kW F w0 w10 b7)) (n:=n) hF1 (Rep.mono (by rintro b (h | h); (rcases h with h | ⟨h1,h2,h3⟩; exact .inl h; exact .inr ⟨h1,by omega,h3⟩); exact .inr ⟨by omega,by omega,by omega⟩) (Same.refl _ _) (by omega) n _ _ hr12) ⟨347,[],[zp b4],D6,rfl,fun m hm _ w' hs hz=>wZ (fun b hb=>Nat.lt_of_lt_of_le (hF1 b hb) hz) f13 (hs.at_ f13 H4) (a3n.mono (by omega) (fun b h=>.inl h) ((Same.below hB hF).trans (hs.sub (fun b h=>.inl h))) (Nat.le_trans hB.size hz))⟩) rfl vA rfl fun w14 v15 hb hr16 r=>?_
 have Z14:=hb.size;have H1:=keep hb H1;have H4:=keep hb H4;have H7:=keep hb H7;obtain ⟨hB,zB⟩:=bon hb hB;refine kP r hr16.shape rfl rfl H7 ts84 rfl rfl fun w17 u18 r=>?_;have Z17:=u18.size
 have H1:=u18.keep H1 (by omega)
 have H4:=u18.keep H4 (by omega)
 have H7:=u18.at_;obtain ⟨hB,zB⟩:=u18.on hB (by omega)
 exact wn (wp_ret (kR r hr16 rfl rfl H7 rfl ta84 hF hB u18 (by omega) (by omega) (by omega)))
def D.mS :T Res:=(D.fJ 0)
theorem vG (hF:kH F w0)
     :
    Calls Tryz.prog 283 #[] w0 (av Tryz.prog aj n D.mS F w0):=by
 refine enter Tryz.func283 rfl 2 rfl rfl fun fr r=>?_;have hB:=Below.refl w0.heap.size w0
 refine wsr ?_;refine ar (.cells (ai false aj.zero 0 0 0 0 .nilFunc) 84 (0,0)) r (fun R=>aq tz84) rfl fun fr b1 w2 n3 r=>?_;obtain ⟨E1,Z2,H1,hB,zB⟩:=n3.all hB
 refine wn (wsr ?_);have hF1:=aA hF hB b1;refine kD r (lF (F:=(kW F w0 w2 b1)) (n:=n) hF1 0) rfl mC rfl fun w4 v5 hb hr6 r=>?_;have Z4:=hb.size
 have H1:=keep hb H1;obtain ⟨hB,zB⟩:=bon hb hB;refine kP r hr6.shape rfl rfl H1 ts84 rfl rfl fun w7 u8 r=>?_;have Z7:=u8.size
 have H1:=u8.at_;obtain ⟨hB,zB⟩:=u8.on hB (by omega)
 exact wn (wp_ret (kR r hr6 rfl rfl H1 rfl ta84 hF hB u8 (by omega) (by omega) (by omega)))
def D.kp (c0:Where) (a0:Bool):T Res:=(D.eM c0 0 (-1) (fun _=>D.mS))
theorem vJ (hF:kH F w0)
    (c0:Where) {c0b:Nat} (c0F:F c0b) (c0h:w0.heap[c0b]?=some (.cells ((bc c0)).toArray 252 (0,0))) (a0:Bool) :
    Calls Tryz.prog 282 #[.bool a0,zp c0b] w0 (av Tryz.prog aj n (D.kp c0 a0) F w0):=by
 refine enter Tryz.func282 rfl 6 rfl rfl fun fr r=>?_;have hB:=Below.refl w0.heap.size w0
 have lc0b:=lt_of_block c0h;refine wsr ?_;refine ar (.cells (ai false aj.zero 0 0 0 0 .nilFunc) 84 (0,0)) r (fun R=>aq tz84) rfl fun fr b1 w2 n3 r=>?_;obtain ⟨E1,Z2,H1,hB,zB⟩:=n3.all hB
 refine wn (wsr (kG (bc c0) 10 r rfl (keep hB c0h) cZ rfl rfl fun r=>?_));have hF1:=aA hF hB b1
 refine kD r (l5 (F:=(kW F w0 w2 b1)) (n:=n) hF1 c0 0 (-1) ⟨283,[],[],BP,rfl,fun m hm _ w' hs hz=>vG (fun b hb=>Nat.lt_of_lt_of_le (hF1 b hb) hz) ⟩) rfl mz rfl fun w4 v5 hb hr6 r=>?_;have Z4:=hb.size
 have H1:=keep hb H1;obtain ⟨hB,zB⟩:=bon hb hB;refine kP r hr6.shape rfl rfl H1 ts84 rfl rfl fun w7 u8 r=>?_;have Z7:=u8.size
 have H1:=u8.at_;obtain ⟨hB,zB⟩:=u8.on hB (by omega)
 exact wn (wp_ret (kR r hr6 rfl rfl H1 rfl ta84 hF hB u8 (by omega) (by omega) (by omega)))
def D.gQ (j:Nat) (r_queue_where_put:Where→Int→T Res) (c0:Where) (c1:Int) (c2:Int) (a0:Bool):T Res:=(bif (!a0) then (r_queue_where_put c0 c1) else (D.dQ c0.tail c2 (D.cX c1) (fun x=>(D.kp c0 x))))
def D.mV (j:Nat) (r_queue_where_put:Where→Int→T Res) (c0:Where) (c1:Int) (a0:Bool):T Res:=(r_queue_where_put c0 c1)
def D.gS (j:Nat) (r_queue_where_put:Where→Int→T Res) (c0:Int) (c1:Where) (c2:Int) (c3:Int) (c4:Int) (a0:Int):T Res:=(bif (a0 !=c0) then (r_queue_where_put c1 c2) else (bif (c3 !=0) then (D.dQ c1.tail c0 c3 (fun x=>(D.mV j r_queue_where_put c1 c2 x))) else (D.dQ c4 0 (D.cX c2) (fun x=>(D.gQ j r_queue_where_put c1 c2 c0 x)))))
def D.ng (j:Nat) (r_queue_where_put:Where→Int→T Res) (c0:Where) (c1:Int) (c2:Int) (c3:Int) (a0:Int):T Res:=(D.eP c0.tail (fun x=>(D.gS j r_queue_where_put c1 c0 c2 a0 c3 x)))
def D.kZ (j:Nat) (r_queue_where_put:Where→Int→T Res) (c0:Where) (c1:Int) (a0:Int):T Res:=(D.eP (D.bS c0.seat.p (D.bq a0) 2) (fun x=>(D.ng j r_queue_where_put c0 a0 c1 (D.bS c0.seat.p (D.bq a0) 2) x)))
def D.kx (j:Nat) (r_queue_where_put:Where→Int→T Res) (a0:Where) (a1:Int):T Res:=(T.bind (D.gm j a0.seat.p a0.seat.thread 0 a0.tail 0) (fun x=>(D.kZ j r_queue_where_put a0 a1 x)))
def D.gZ (j:Nat):Nat→Where→Int→T Res
  | 0,_,_=>.cut
  | k+1,a0,a1=>D.kx j (D.gZ j k) a0 a1
def fV (r:Where→Int→T Res) (n:Nat):Prop:=∀ (F:Nat→Prop) (w0:World),(∀ b,F b→b<w0.heap.size)→∀ (a0:Where) (a1:Int),Calls Tryz.prog 164 #[.agg (bc a0).toArray,.int .i64 a1] w0 (av Tryz.prog aj n (r a0 a1) F w0)
theorem vN {r_queue_where_put:Where→Int→T Res} (hF:kH F w0) (hj:n<j) (ih_queue_where_put:∀ m,m≤n→fV r_queue_where_put m)
    (c0:Where) {c0b:Nat} (c0F:F c0b) (c0h:w0.heap[c0b]?=some (.cells ((bc c0)).toArray 252 (0,0))) (c1:Int) {c1b:Nat} (c1F:F c1b) (c1h:w0.heap[c1b]?=some (.cells ([(.int .i64 c1)]).toArray 3 (0,0))) (c2:Int) {c2b:Nat} (c2F:F c2b) (c2h:w0.heap[c2b]?=some (.cells ([(.int .u64 c2)]).toArray 40 (0,0))) (a0:Bool) :
    Calls Tryz.prog 281 #[.bool a0,zp c0b,zp c1b,zp c2b] w0 (av Tryz.prog aj n (D.gQ j r_queue_where_put c0 c1 c2 a0) F w0):=by
 refine enter Tryz.func281 rfl 18 rfl rfl fun fr r=>?_;have hB:=Below.refl w0.heap.size w0
 have lc0b:=lt_of_block c0h;have lc1b:=lt_of_block c1h;have lc2b:=lt_of_block c2h;refine wsr ?_;refine ar (.cells (ai false aj.zero 0 0 0 0 .nilFunc) 84 (0,0)) r (fun R=>aq tz84) rfl fun fr b1 w2 n3 r=>?_;obtain ⟨E1,Z2,H1,hB,zB⟩:=n3.all hB
 refine wn (wp_seq (wsr (kM (.bool a0) r rfl rfl fun r=>ae (.bool (!a0)) r (fun R=>y_un r (u:=(.bool a0)) rfl rfl) rfl fun fr r=>wn ?_)));refine wp_cond_split (t:=(!a0)) (r.ev rfl) (fun h4=>?_) (fun h4=>?_)
 ·
  refine wsr (kG (bc c0) 10 r rfl (keep hB c0h) cZ rfl rfl fun r=>kL (I c1) r rfl (keep hB c1h) to3 rfl rfl fun r=>?_);have hF1:=aA hF hB b1
  refine kD r ((ih_queue_where_put n (by omega)) (kW F w0 w2 b1) _ hF1 c0 c1) rfl mF rfl fun w5 v6 hb hr7 r=>?_;have Z5:=hb.size
  have H1:=keep hb H1;obtain ⟨hB,zB⟩:=bon hb hB;refine kP r hr7.shape rfl rfl H1 ts84 rfl rfl fun w8 u9 r=>?_;have Z8:=u9.size
  have H1:=u9.at_;obtain ⟨hB,zB⟩:=u9.on hB (by omega)
  refine wn (wp_ret ?_);have hd:D.gQ j r_queue_where_put c0 c1 c2 a0=(r_queue_where_put c0 c1):=(ay h4).trans (rfl);have hs:=hr7.shape.cells;refine aH r rfl rfl H1 (k:=8) hs.1 ta84 ?_;rw [←hs.2.2,hd];exact rfin hF hB hr7 u9 (by omega) (by omega) (by omega)
 refine wp_skip (wp_seq ?_);refine bw 6 [.val (.pointer (some ⟨c0b,9,none⟩)),.val (I c0.tail),.val (U c2),.val (I c1),.val (U (D.cX c1)),.val (.func (.func 282) #[] #[zp c0b])] mixed r (by kernel_rfl) (ag (by exact trivial) (ag (by exact trivial) (ag (by exact trivial) (ag (by exact trivial) (ag (by exact trivial) (ag (by exact trivial) bv)))))) ?_ ?_
 ·
  refine ec r (fun _ u _ b d s=>aG s (b:=c0b) (o:=0) rfl gG bz) (ec r (fun _ u _ b d s=>aB s d.1 (bo hB b c0h) to3 rfl bz) (ec r (fun _ u _ b d s=>aB s rfl (bo hB b c2h) to40 rfl bz) (ec r (fun _ u _ b d s=>aB s rfl (bo hB b c1h) to3 rfl bz) (ec r (fun fr1 u w' hb' hd r'=>aP r' (args:=[(I c1)]) (lc hd.1 l0) mO ((lA _ c1).mono (by rintro _ w2 ⟨rfl,hb2⟩; exact ⟨_,rfl,hb2,rfl⟩))) (ec r (fun _ u _ b d s=>aW s (v:=(.func (.func 282) #[] #[zp c0b])) rfl bz) ?_)))));exact bA
 intro fr u w10 hb hΦ hne r;have r:=r.congr (sc (hΦ 5 (by decide)) (sc (hΦ 4 (by decide)) (sc (hΦ 3 (by decide)) (sc (hΦ 2 (by decide)) (sc (hΦ 1 (by decide)) (sc (hΦ 0 (by decide)) rfl))))));have Z10:=hb.size;have H1:=keep hb H1;obtain ⟨hB,zB⟩:=bon hb hB;have hF1:=aA hF hB b1;have f11:((kW F w0 w10 b1)) c0b:=(.inl c0F);refine kD r (jf (F:=(kW F w0 w10 b1)) (n:=n) hF1 c0.tail c2 (D.cX c1) ⟨282,[],[zp c0b],Db,rfl,fun m hm x w' hs hz=>vJ (fun b hb=>Nat.lt_of_lt_of_le (hF1 b hb) hz) c0 f11 (hs.at_ f11 (keep hB c0h)) x⟩) rfl jX rfl fun w12 v13 hb hr14 r=>?_;have Z12:=hb.size
 have H1:=keep hb H1;obtain ⟨hB,zB⟩:=bon hb hB;refine kP r hr14.shape rfl rfl H1 ts84 rfl rfl fun w15 u16 r=>?_;have Z15:=u16.size
 have H1:=u16.at_;obtain ⟨hB,zB⟩:=u16.on hB (by omega)
 refine wn (wp_ret ?_);have hd:D.gQ j r_queue_where_put c0 c1 c2 a0=(D.dQ c0.tail c2 (D.cX c1) (fun x=>(D.kp c0 x))):=(aw h4).trans (rfl)
 have hs:=hr14.shape.cells;refine aH r rfl rfl H1 (k:=8) hs.1 ta84 ?_;rw [←hs.2.2,hd];exact rfin hF hB hr14 u16 (by omega) (by omega) (by omega)
theorem vQ {r_queue_where_put:Where→Int→T Res} (hF:kH F w0) (hj:n<j) (ih_queue_where_put:∀ m,m≤n→fV r_queue_where_put m)
    (c0:Where) {c0b:Nat} (c0F:F c0b) (c0h:w0.heap[c0b]?=some (.cells ((bc c0)).toArray 252 (0,0))) (c1:Int) {c1b:Nat} (c1F:F c1b) (c1h:w0.heap[c1b]?=some (.cells ([(.int .i64 c1)]).toArray 3 (0,0))) (a0:Bool) :
    Calls Tryz.prog 280 #[.bool a0,zp c0b,zp c1b] w0 (av Tryz.prog aj n (D.mV j r_queue_where_put c0 c1 a0) F w0):=by
 refine enter Tryz.func280 rfl 8 rfl rfl fun fr r=>?_;have hB:=Below.refl w0.heap.size w0
 have lc0b:=lt_of_block c0h;have lc1b:=lt_of_block c1h;refine wsr ?_;refine ar (.cells (ai false aj.zero 0 0 0 0 .nilFunc) 84 (0,0)) r (fun R=>aq tz84) rfl fun fr b1 w2 n3 r=>?_;obtain ⟨E1,Z2,H1,hB,zB⟩:=n3.all hB
 refine wn (wsr (kG (bc c0) 10 r rfl (keep hB c0h) cZ rfl rfl fun r=>kL (I c1) r rfl (keep hB c1h) to3 rfl rfl fun r=>?_));have hF1:=aA hF hB b1
 refine kD r ((ih_queue_where_put n (by omega)) (kW F w0 w2 b1) _ hF1 c0 c1) rfl mF rfl fun w4 v5 hb hr6 r=>?_;have Z4:=hb.size
 have H1:=keep hb H1;obtain ⟨hB,zB⟩:=bon hb hB;refine kP r hr6.shape rfl rfl H1 ts84 rfl rfl fun w7 u8 r=>?_;have Z7:=u8.size
 have H1:=u8.at_;obtain ⟨hB,zB⟩:=u8.on hB (by omega)
 exact wn (wp_ret (kR r hr6 rfl rfl H1 rfl ta84 hF hB u8 (by omega) (by omega) (by omega)))
theorem wh {r_queue_where_put:Where→Int→T Res} (hF:kH F w0) (hj:n<j) (ih_queue_where_put:∀ m,m≤n→fV r_queue_where_put m)
    (c0:Int) {c0b:Nat} (c0F:F c0b) (c0h:w0.heap[c0b]?=some (.cells ([(.int .u64 c0)]).toArray 40 (0,0))) (c1:Where) {c1b:Nat} (c1F:F c1b) (c1h:w0.heap[c1b]?=some (.cells ((bc c1)).toArray 252 (0,0))) (c2:Int) {c2b:Nat} (c2F:F c2b) (c2h:w0.heap[c2b]?=some (.cells ([(.int .i64 c2)]).toArray 3 (0,0))) (c3:Int) {c3b:Nat} (c3F:F c3b) (c3h:w0.heap[c3b]?=some (.cells ([(.int .u64 c3)]).toArray 40 (0,0))) (c4:Int) {c4b:Nat} (c4F:F c4b) (c4h:w0.heap[c4b]?=some (.cells ([(.int .i64 c4)]).toArray 3 (0,0))) (a0:Int) :
    Calls Tryz.prog 279 #[.int .u64 a0,zp c0b,zp c1b,zp c2b,zp c3b,zp c4b] w0 (av Tryz.prog aj n (D.gS j r_queue_where_put c0 c1 c2 c3 c4 a0) F w0):=by
 refine enter Tryz.func279 rfl 29 rfl rfl fun fr r=>?_;have hB:=Below.refl w0.heap.size w0
 have lc0b:=lt_of_block c0h;have lc1b:=lt_of_block c1h;have lc2b:=lt_of_block c2h;have lc3b:=lt_of_block c3h;have lc4b:=lt_of_block c4h;refine wsr ?_;refine ar (.cells (ai false aj.zero 0 0 0 0 .nilFunc) 84 (0,0)) r (fun R=>aq tz84) rfl fun fr b1 w2 n3 r=>?_;obtain ⟨E1,Z2,H1,hB,zB⟩:=n3.all hB
 refine wn (wp_seq (wp_block (wsr (kM (U a0) r rfl rfl fun r=>kL (U c0) r rfl (keep hB c0h) to40 rfl rfl fun r=>kB r rfl rfl rfl rfl rfl fun r=>kA (.bool (a0 !=c0)) r rfl rfl fun r=>wn ?_))));refine wp_cond_split (t:=(a0 !=c0)) (r.ev rfl) (fun h4=>?_) (fun h4=>?_)
 ·
  refine wsr (kG (bc c1) 10 r rfl (keep hB c1h) cZ rfl rfl fun r=>kL (I c2) r rfl (keep hB c2h) to3 rfl rfl fun r=>?_);have hF1:=aA hF hB b1
  refine kD r ((ih_queue_where_put n (by omega)) (kW F w0 w2 b1) _ hF1 c1 c2) rfl mF rfl fun w5 v6 hb hr7 r=>?_;have Z5:=hb.size
  have H1:=keep hb H1;obtain ⟨hB,zB⟩:=bon hb hB;refine kP r hr7.shape rfl rfl H1 ts84 rfl rfl fun w8 u9 r=>?_;have Z8:=u9.size
  have H1:=u9.at_;obtain ⟨hB,zB⟩:=u9.on hB (by omega)
  refine wn (wp_ret ?_);have hd:D.gS j r_queue_where_put c0 c1 c2 c3 c4 a0=(r_queue_where_put c1 c2):=(ay h4).trans (rfl);have hs:=hr7.shape.cells;refine aH r rfl rfl H1 (k:=8) hs.1 ta84 ?_;rw [←hs.2.2,hd];exact rfin hF hB hr7 u9 (by omega) (by omega) (by omega)
 refine wsr (kL (U c3) r rfl (keep hB c3h) to40 rfl rfl fun r=>kB r rfl rfl rfl rfl rfl fun r=>kA (.bool (c3 !=0)) r rfl rfl fun r=>wn ?_);refine wp_cond_split (t:=(c3 !=0)) (r.ev rfl) (fun h10=>?_) (fun h10=>?_)
 ·
  refine wsr (kF 0 r rfl gG rfl fun r=>kL (I c1.tail) r rfl (keep hB c1h) to3 rfl rfl fun r=>kL (U c0) r rfl (keep hB c0h) to40 rfl rfl fun r=>kL (U c3) r rfl (keep hB c3h) to40 rfl rfl fun r=>ae (.func (.func 280) #[] #[zp c1b,zp c2b]) r (fun R=>aW r rfl) rfl fun fr r=>?_);have hF1:=aA hF hB b1
  have f11:((kW F w0 w2 b1)) c1b:=(.inl c1F);have f12:((kW F w0 w2 b1)) c2b:=(.inl c2F);refine kD r (jf (F:=(kW F w0 w2 b1)) (n:=n) hF1 c1.tail c0 c3 ⟨280,[],[zp c1b,zp c2b],BT,rfl,fun m hm x w' hs hz=>vQ (j:=j) (fun b hb=>Nat.lt_of_lt_of_le (hF1 b hb) hz) (by omega) (fun m' hm'=>ih_queue_where_put m' (by omega)) c1 f11 (hs.at_ f11 (keep hB c1h)) c2 f12 (hs.at_ f12 (keep hB c2h)) x⟩) rfl jX rfl fun w13 v14 hb hr15 r=>?_;have Z13:=hb.size
  have H1:=keep hb H1;obtain ⟨hB,zB⟩:=bon hb hB;refine kP r hr15.shape rfl rfl H1 ts84 rfl rfl fun w16 u17 r=>?_;have Z16:=u17.size
  have H1:=u17.at_;obtain ⟨hB,zB⟩:=u17.on hB (by omega)
  refine wn (wp_ret ?_);have hd:D.gS j r_queue_where_put c0 c1 c2 c3 c4 a0=(D.dQ c1.tail c0 c3 (fun x=>(D.mV j r_queue_where_put c1 c2 x))):=(aw h4).trans ((ay h10).trans (rfl))
  have hs:=hr15.shape.cells;refine aH r rfl rfl H1 (k:=8) hs.1 ta84 ?_;rw [←hs.2.2,hd];exact rfin hF hB hr15 u17 (by omega) (by omega) (by omega)
 refine wp_skip (wp_seq ?_);refine bw 4 [.val (I c4),.val (I c2),.val (U (D.cX c2)),.val (.func (.func 281) #[] #[zp c1b,zp c2b,zp c0b])] mixed r (by kernel_rfl) (ag (by exact trivial) (ag (by exact trivial) (ag (by exact trivial) (ag (by exact trivial) bv)))) ?_ ?_
 ·
  refine ec r (fun _ u _ b d s=>aB s rfl (bo hB b c4h) to3 rfl bz) (ec r (fun _ u _ b d s=>aB s rfl (bo hB b c2h) to3 rfl bz) (ec r (fun fr1 u w' hb' hd r'=>aP r' (args:=[(I c2)]) (lc hd.1 l0) mO ((lA _ c2).mono (by rintro _ w2 ⟨rfl,hb2⟩; exact ⟨_,rfl,hb2,rfl⟩))) (ec r (fun _ u _ b d s=>aW s (v:=(.func (.func 281) #[] #[zp c1b,zp c2b,zp c0b])) rfl bz) ?_)));exact bA
 intro fr u w18 hb hΦ hne r;have r:=r.congr (sc (hΦ 3 (by decide)) (sc (hΦ 2 (by decide)) (sc (hΦ 1 (by decide)) (sc (hΦ 0 (by decide)) rfl))));have Z18:=hb.size;have H1:=keep hb H1;obtain ⟨hB,zB⟩:=bon hb hB;have hF1:=aA hF hB b1;have f19:((kW F w0 w18 b1)) c1b:=(.inl c1F);have f20:((kW F w0 w18 b1)) c2b:=(.inl c2F);have f21:((kW F w0 w18 b1)) c0b:=(.inl c0F);refine kD r (jf (F:=(kW F w0 w18 b1)) (n:=n) hF1 c4 0 (D.cX c2) ⟨281,[],[zp c1b,zp c2b,zp c0b],D0,rfl,fun m hm x w' hs hz=>vN (j:=j) (fun b hb=>Nat.lt_of_lt_of_le (hF1 b hb) hz) (by omega) (fun m' hm'=>ih_queue_where_put m' (by omega)) c1 f19 (hs.at_ f19 (keep hB c1h)) c2 f20 (hs.at_ f20 (keep hB c2h)) c0 f21 (hs.at_ f21 (keep hB c0h)) x⟩) rfl jX rfl fun w22 v23 hb hr24 r=>?_;have Z22:=hb.size
 have H1:=keep hb H1;obtain ⟨hB,zB⟩:=bon hb hB;refine kP r hr24.shape rfl rfl H1 ts84 rfl rfl fun w25 u26 r=>?_;have Z25:=u26.size
 have H1:=u26.at_;obtain ⟨hB,zB⟩:=u26.on hB (by omega)
 refine wn (wp_ret ?_);have hd:D.gS j r_queue_where_put c0 c1 c2 c3 c4 a0=(D.dQ c4 0 (D.cX c2) (fun x=>(D.gQ j r_queue_where_put c1 c2 c0 x))):=(aw h4).trans ((aw h10).trans (rfl))
 have hs:=hr24.shape.cells;refine aH r rfl rfl H1 (k:=8) hs.1 ta84 ?_;rw [←hs.2.2,hd];exact rfin hF hB hr24 u26 (by omega) (by omega) (by omega)
theorem wA {r_queue_where_put:Where→Int→T Res} (hF:kH F w0) (hj:n<j) (ih_queue_where_put:∀ m,m<n→fV r_queue_where_put m)
    (c0:Where) {c0b:Nat} (c0F:F c0b) (c0h:w0.heap[c0b]?=some (.cells ((bc c0)).toArray 252 (0,0))) (c1:Int) {c1b:Nat} (c1F:F c1b) (c1h:w0.heap[c1b]?=some (.cells ([(.int .u64 c1)]).toArray 40 (0,0))) (c2:Int) {c2b:Nat} (c2F:F c2b) (c2h:w0.heap[c2b]?=some (.cells ([(.int .i64 c2)]).toArray 3 (0,0))) (c3:Int) {c3b:Nat} (c3F:F c3b) (c3h:w0.heap[c3b]?=some (.cells ([(.int .i64 c3)]).toArray 3 (0,0))) (a0:Int) :
    Calls Tryz.prog 278 #[.int .u64 a0,zp c0b,zp c1b,zp c2b,zp c3b] w0 (av Tryz.prog aj n (D.ng j r_queue_where_put c0 c1 c2 c3 a0) F w0):=by
 refine enter Tryz.func278 rfl 11 rfl rfl fun fr r=>?_;have hB:=Below.refl w0.heap.size w0
 have lc0b:=lt_of_block c0h;have lc1b:=lt_of_block c1h;have lc2b:=lt_of_block c2h;have lc3b:=lt_of_block c3h;refine wsr ?_;refine kX 40 (U a0) r rfl rfl fun b1 w2 n3 r=>?_;obtain ⟨E1,Z2,H1,hB,zB⟩:=n3.all hB
 refine ar (.cells (ai false aj.zero 0 0 0 0 .nilFunc) 84 (0,0)) r (fun R=>aq tz84) rfl fun fr b4 w5 n6 r=>?_;have H1:=keep n6.below H1
 obtain ⟨E4,Z5,H4,hB,zB⟩:=n6.all hB;refine wn (wsr (kF 0 r rfl gG rfl fun r=>kL (I c0.tail) r rfl (keep hB c0h) to3 rfl rfl fun r=>ae (.func (.func 279) #[] #[zp c1b,zp c0b,zp c2b,zp b1,zp c3b]) r (fun R=>aW r rfl) rfl fun fr r=>?_));have hF1:=aA hF hB b4
 have f7:((kW F w0 w5 b4)) c1b:=(.inl c1F);have f8:((kW F w0 w5 b4)) c0b:=(.inl c0F);have f9:((kW F w0 w5 b4)) c2b:=(.inl c2F);have f10:((kW F w0 w5 b4)) b1:=(.inr ⟨by omega,by omega,by omega⟩)
 have f11:((kW F w0 w5 b4)) c3b:=(.inl c3F);refine kD r (gW (F:=(kW F w0 w5 b4)) (n:=n) hF1 c0.tail ⟨279,[],[zp c1b,zp c0b,zp c2b,zp b1,zp c3b],Dn,rfl,fun m hm x w' hs hz=>wh (j:=j) (fun b hb=>Nat.lt_of_lt_of_le (hF1 b hb) hz) (by omega) (fun m' hm'=>ih_queue_where_put m' (by omega)) c1 f7 (hs.at_ f7 (keep hB c1h)) c0 f8 (hs.at_ f8 (keep hB c0h)) c2 f9 (hs.at_ f9 (keep hB c2h)) a0 f10 (hs.at_ f10 H1) c3 f11 (hs.at_ f11 (keep hB c3h)) x⟩) rfl iU rfl fun w12 v13 hb hr14 r=>?_;have Z12:=hb.size
 have H1:=keep hb H1;have H4:=keep hb H4;obtain ⟨hB,zB⟩:=bon hb hB;refine kP r hr14.shape rfl rfl H4 ts84 rfl rfl fun w15 u16 r=>?_;have Z15:=u16.size
 have H1:=u16.keep H1 (by omega)
 have H4:=u16.at_;obtain ⟨hB,zB⟩:=u16.on hB (by omega)
 exact wn (wp_ret (kR r hr14 rfl rfl H4 rfl ta84 hF hB u16 (by omega) (by omega) (by omega)))
theorem xg {r_queue_where_put:Where→Int→T Res} (hF:kH F w0) (hj:n<j) (ih_queue_where_put:∀ m,m<n→fV r_queue_where_put m)
    (c0:Where) {c0b:Nat} (c0F:F c0b) (c0h:w0.heap[c0b]?=some (.cells ((bc c0)).toArray 252 (0,0))) (c1:Int) {c1b:Nat} (c1F:F c1b) (c1h:w0.heap[c1b]?=some (.cells ([(.int .i64 c1)]).toArray 3 (0,0))) (a0:Int) :
    Calls Tryz.prog 277 #[.int .u64 a0,zp c0b,zp c1b] w0 (av Tryz.prog aj n (D.kZ j r_queue_where_put c0 c1 a0) F w0):=by
 refine enter Tryz.func277 rfl 15 rfl rfl fun fr r=>?_;have hB:=Below.refl w0.heap.size w0
 have lc0b:=lt_of_block c0h;have lc1b:=lt_of_block c1h;refine wsr ?_;refine kX 40 (U a0) r rfl rfl fun b1 w2 n3 r=>?_;obtain ⟨E1,Z2,H1,hB,zB⟩:=n3.all hB
 refine ar (.cells (ai false aj.zero 0 0 0 0 .nilFunc) 84 (0,0)) r (fun R=>aq tz84) rfl fun fr b4 w5 n6 r=>?_;have H1:=keep n6.below H1
 obtain ⟨E4,Z5,H4,hB,zB⟩:=n6.all hB;refine wn (wp_seq ?_);refine bw 7 [.val (zp c0b),.val (zp c0b),.val (.agg (af c0.seat.p).toArray),.val (U a0),.val (I (D.bq a0)),.val (I (D.bS c0.seat.p (D.bq a0) 2)),.new w5.heap.size (.cells #[(I 0)] 3 (0,0))] mixed r (by kernel_rfl) (ag (by exact trivial) (ag (by exact trivial) (ag (by exact trivial) (ag (by exact trivial) (ag (by exact trivial) (ag (by exact trivial) (ag (Nat.le_refl _) bv))))))) ?_ ?_
 ·
  refine ec r (fun _ u _ b d s=>aG s (b:=c0b) (o:=0) rfl dn bz) (ec r (fun _ u _ b d s=>aG s (b:=c0b) (o:=0) d.1 dV bz) (ec r (fun _ u _ b d s=>aU s (cs:=(af c0.seat.p)) (n:=6) d.1 (bo hB b c0h) ta23 rfl bz) (ec r (fun _ u _ b d s=>aB s rfl (keep b H1) to40 rfl bz) (ec r (fun fr1 u w' hb' hd r'=>aP r' (args:=[(U a0)]) (lc hd.1 l0) gL ((gk _ a0).mono (by rintro _ w2 ⟨rfl,hb2⟩; exact ⟨_,rfl,hb2,rfl⟩))) (ec r (fun fr1 u w' hb' hd r'=>aP r' (args:=[(.agg (af c0.seat.p).toArray),(I (D.bq a0)),(I 2)]) (lc hd.1 (lc hd.2.1 (lc rfl l0))) gO ((fX _ c0.seat.p (D.bq a0) 2).mono (by rintro _ w2 ⟨rfl,hb2⟩; exact ⟨_,rfl,hb2,rfl⟩))) (ec r (fun fr1 u w' hb' hd r'=>aq tz3 (fun b w2 n2=>⟨n2.below,b,rfl,Nat.le_of_eq n2.eq.symm,n2.at_⟩)) ?_))))));exact bA
 intro fr u w7 hb hΦ hne r;obtain ⟨b8,g6,E8,H8⟩:=hΦ 6 (by decide);have l_b8:=lt_of_block H8;have r:=r.congr (sc g6 (sc (hΦ 5 (by decide)) (sc (hΦ 4 (by decide)) (sc (hΦ 3 (by decide)) (sc (hΦ 2 (by decide)) (sc (hΦ 1 (by decide)) (sc (hΦ 0 (by decide)) rfl)))))));have Z7:=hb.size;have H1:=keep hb H1;have H4:=keep hb H4;obtain ⟨hB,zB⟩:=bon hb hB;refine aM (.cells #[(I (D.bS c0.seat.p (D.bq a0) 2))] 3 (0,0)) r (fun R=>aX r (o:=0) (v:=(I (D.bS c0.seat.p (D.bq a0) 2))) rfl rfl H8 ts3 (Nat.le_of_ble_eq_true rfl) rfl rfl) rfl fun fr w9 u10 r=>?_;have Z9:=u10.size
 have H1:=u10.keep H1 (by omega)
 have H4:=u10.keep H4 (by omega)
 have H8:=u10.at_;obtain ⟨hB,zB⟩:=u10.on hB (by omega)
 refine wn (wsr (kL (I (D.bS c0.seat.p (D.bq a0) 2)) r rfl H8 to3 rfl rfl fun r=>ae (.func (.func 278) #[] #[zp c0b,zp b1,zp c1b,zp b8]) r (fun R=>aW r rfl) rfl fun fr r=>?_));have hF1:=aA hF hB b4
 have f11:((kW F w0 w9 b4)) c0b:=(.inl c0F);have f12:((kW F w0 w9 b4)) b1:=(.inr ⟨by omega,by omega,by omega⟩)
 have f13:((kW F w0 w9 b4)) c1b:=(.inl c1F);have f14:((kW F w0 w9 b4)) b8:=(.inr ⟨by omega,by omega,by omega⟩)
 refine kD r (gW (F:=(kW F w0 w9 b4)) (n:=n) hF1 (D.bS c0.seat.p (D.bq a0) 2) ⟨278,[],[zp c0b,zp b1,zp c1b,zp b8],CL,rfl,fun m hm x w' hs hz=>wA (j:=j) (fun b hb=>Nat.lt_of_lt_of_le (hF1 b hb) hz) (by omega) (fun m' hm'=>ih_queue_where_put m' (by omega)) c0 f11 (hs.at_ f11 (keep hB c0h)) a0 f12 (hs.at_ f12 H1) c1 f13 (hs.at_ f13 (keep hB c1h)) (D.bS c0.seat.p (D.bq a0) 2) f14 (hs.at_ f14 H8) x⟩) rfl iU rfl fun w15 v16 hb hr17 r=>?_;have Z15:=hb.size
 have H1:=keep hb H1;have H4:=keep hb H4;have H8:=keep hb H8;obtain ⟨hB,zB⟩:=bon hb hB;refine kP r hr17.shape rfl rfl H4 ts84 rfl rfl fun w18 u19 r=>?_;have Z18:=u19.size
 have H1:=u19.keep H1 (by omega)
 have H8:=u19.keep H8 (by omega)
 have H4:=u19.at_;obtain ⟨hB,zB⟩:=u19.on hB (by omega)
 exact wn (wp_ret (kR r hr17 rfl rfl H4 rfl ta84 hF hB u19 (by omega) (by omega) (by omega)))
theorem xG {n:Nat} {F:Nat→Prop} {j:Nat} {r_queue_where_put:Where→Int→T Res} {w0:World} (hF:∀ b,F b→b<w0.heap.size) (hj:n<j) (ih_queue_where_put:∀ m,m<n→fV r_queue_where_put m)
    (a0:Where) (a1:Int) :
    Calls Tryz.prog 164 #[.agg (bc a0).toArray,.int .i64 a1] w0 (av Tryz.prog aj n (D.kx j r_queue_where_put a0 a1) F w0):=by
 refine enter Tryz.func164 rfl 16 rfl rfl fun fr r=>?_;have hB:=Below.refl w0.heap.size w0
 refine wsr ?_;refine kX 252 (.agg (bc a0).toArray) r rfl rfl fun b1 w2 n3 r=>?_;obtain ⟨E1,Z2,H1,hB,zB⟩:=n3.all hB
 refine kX 3 (I a1) r rfl rfl fun b4 w5 n6 r=>?_;have H1:=keep n6.below H1
 obtain ⟨E4,Z5,H4,hB,zB⟩:=n6.all hB;refine ar (.cells (ai false aj.zero 0 0 0 0 .nilFunc) 84 (0,0)) r (fun R=>aq tz84) rfl fun fr b7 w8 n9 r=>?_;have H1:=keep n9.below H1
 have H4:=keep n9.below H4;obtain ⟨E7,Z8,H7,hB,zB⟩:=n9.all hB;refine wn (wsr (kF 0 r rfl dn rfl fun r=>kF 0 r rfl dV rfl fun r=>kG (af a0.seat.p) 6 r rfl H1 ta23 rfl rfl fun r=>kF 0 r rfl dn rfl fun r=>kF 0 r rfl jQ rfl fun r=>kL (I a0.seat.thread) r rfl H1 to3 rfl rfl fun r=>kF 0 r rfl gG rfl fun r=>kL (I a0.tail) r rfl H1 to3 rfl rfl fun r=>?_));have hF1:=aA hF hB b7
 refine kD r (ru (j:=j) (F:=(kW F w0 w8 b7)) (n:=n) hF1 (by omega) a0.seat.p a0.seat.thread 0 a0.tail 0 (by first | assumption | decide)) rfl uD rfl fun w10 v11 hb hr12 r=>?_;have Z10:=hb.size
 have H1:=keep hb H1;have H4:=keep hb H4;have H7:=keep hb H7;obtain ⟨hB,zB⟩:=bon hb hB;refine ae (.func (.func 277) #[] #[zp b1,zp b4]) r (fun R=>aW r rfl) rfl fun fr r=>?_;have hF1:=aA hF hB b7
 have f13:((kW F w0 w10 b7)) b1:=(.inr ⟨by omega,by omega,by omega⟩)
 have f14:((kW F w0 w10 b7)) b4:=(.inr ⟨by omega,by omega,by omega⟩)
 refine kD r (qw (F:=(kW F w0 w10 b7)) (n:=n) hF1 (Rep.mono (by rintro b (h | h); (rcases h with h | ⟨h1,h2,h3⟩; exact .inl h; exact .inr ⟨h1,by omega,h3⟩); exact .inr ⟨by omega,by omega,by omega⟩) (Same.refl _ _) (by omega) n _ _ hr12) ⟨277,[],[zp b1,zp b4],CM,rfl,fun m hm x w' hs hz=>xg (j:=j) (fun b hb=>Nat.lt_of_lt_of_le (hF1 b hb) hz) (by omega) (fun m' hm'=>ih_queue_where_put m' (by omega)) a0 f13 (hs.at_ f13 H1) a1 f14 (hs.at_ f14 H4) x⟩) rfl pM rfl fun w15 v16 hb hr17 r=>?_
 have Z15:=hb.size;have H1:=keep hb H1;have H4:=keep hb H4;have H7:=keep hb H7;obtain ⟨hB,zB⟩:=bon hb hB;refine kP r hr17.shape rfl rfl H7 ts84 rfl rfl fun w18 u19 r=>?_;have Z18:=u19.size
 have H1:=u19.keep H1 (by omega)
 have H4:=u19.keep H4 (by omega)
 have H7:=u19.at_;obtain ⟨hB,zB⟩:=u19.on hB (by omega)
 exact wn (wp_ret (kR r hr17 rfl rfl H7 rfl ta84 hF hB u19 (by omega) (by omega) (by omega)))
theorem xH {n:Nat} {j:Nat} (hj:n<j) {k:Nat} (hk:n<k):fV (D.gZ j k) n:=by
  induction n using Nat.strongRecOn generalizing k with
  | _ n ih=>
    obtain ⟨k,rfl⟩:∃ q,k=q+1:=⟨k - 1,by omega⟩
    intro F w0 hF;have h:=@xG n F j (D.gZ j k) w0 hF hj (fun m hm=>ih m hm (by omega) (by omega))
    exact h
def D.nW (j:Nat) (c0:Where) (c1:Int):T Res:=(D.gZ j j c0 c1)
theorem yn (hF:kH F w0) (hj:n<j)
    (c0:Where) {c0b:Nat} (c0F:F c0b) (c0h:w0.heap[c0b]?=some (.cells ((bc c0)).toArray 252 (0,0))) (c1:Int) {c1b:Nat} (c1F:F c1b) (c1h:w0.heap[c1b]?=some (.cells ([(.int .i64 c1)]).toArray 3 (0,0))) :
    Calls Tryz.prog 163 #[zp c0b,zp c1b] w0 (av Tryz.prog aj n (D.nW j c0 c1) F w0):=by
 refine enter Tryz.func163 rfl 6 rfl rfl fun fr r=>?_;have hB:=Below.refl w0.heap.size w0
 have lc0b:=lt_of_block c0h;have lc1b:=lt_of_block c1h;refine wsr ?_;refine ar (.cells (ai false aj.zero 0 0 0 0 .nilFunc) 84 (0,0)) r (fun R=>aq tz84) rfl fun fr b1 w2 n3 r=>?_;obtain ⟨E1,Z2,H1,hB,zB⟩:=n3.all hB
 refine wn (wsr (kG (bc c0) 10 r rfl (keep hB c0h) cZ rfl rfl fun r=>kL (I c1) r rfl (keep hB c1h) to3 rfl rfl fun r=>?_));have hF1:=aA hF hB b1
 refine kD r ((xH (j:=j) (k:=j) (n:=n) (by omega) (by omega)) (kW F w0 w2 b1) _ hF1 c0 c1) rfl mF rfl fun w4 v5 hb hr6 r=>?_;have Z4:=hb.size
 have H1:=keep hb H1;obtain ⟨hB,zB⟩:=bon hb hB;refine kP r hr6.shape rfl rfl H1 ts84 rfl rfl fun w7 u8 r=>?_;have Z7:=u8.size
 have H1:=u8.at_;obtain ⟨hB,zB⟩:=u8.on hB (by omega)
 exact wn (wp_ret (kR r hr6 rfl rfl H1 rfl ta84 hF hB u8 (by omega) (by omega) (by omega)))
def D.gp (j:Nat) (c0:Where) (c1:Int) (a0:Int):T Res:=(D.jh (D.bS c0.seat.p a0 1) c1 (fun _=>(D.nW j c0 a0)))
theorem yM (hF:kH F w0) (hj:n<j)
    (c0:Where) {c0b:Nat} (c0F:F c0b) (c0h:w0.heap[c0b]?=some (.cells ((bc c0)).toArray 252 (0,0))) (c1:Int) {c1b:Nat} (c1F:F c1b) (c1h:w0.heap[c1b]?=some (.cells ([(.int .u64 c1)]).toArray 40 (0,0))) (a0:Int) :
    Calls Tryz.prog 161 #[.int .i64 a0,zp c0b,zp c1b] w0 (av Tryz.prog aj n (D.gp j c0 c1 a0) F w0):=by
 refine enter Tryz.func161 rfl 13 rfl rfl fun fr r=>?_;have hB:=Below.refl w0.heap.size w0
 have lc0b:=lt_of_block c0h;have lc1b:=lt_of_block c1h;refine wsr ?_;refine kX 3 (I a0) r rfl rfl fun b1 w2 n3 r=>?_;obtain ⟨E1,Z2,H1,hB,zB⟩:=n3.all hB
 refine ar (.cells (ai false aj.zero 0 0 0 0 .nilFunc) 84 (0,0)) r (fun R=>aq tz84) rfl fun fr b4 w5 n6 r=>?_;have H1:=keep n6.below H1
 obtain ⟨E4,Z5,H4,hB,zB⟩:=n6.all hB;refine wn (wp_seq ?_);refine bw 7 [.val (zp c0b),.val (zp c0b),.val (.agg (af c0.seat.p).toArray),.val (I a0),.val (I (D.bS c0.seat.p a0 1)),.val (U c1),.val (.func (.func 163) #[] #[zp c0b,zp b1])] mixed r (by kernel_rfl) (ag (by exact trivial) (ag (by exact trivial) (ag (by exact trivial) (ag (by exact trivial) (ag (by exact trivial) (ag (by exact trivial) (ag (by exact trivial) bv))))))) ?_ ?_
 ·
  refine ec r (fun _ u _ b d s=>aG s (b:=c0b) (o:=0) rfl dn bz) (ec r (fun _ u _ b d s=>aG s (b:=c0b) (o:=0) d.1 dV bz) (ec r (fun _ u _ b d s=>aU s (cs:=(af c0.seat.p)) (n:=6) d.1 (bo hB b c0h) ta23 rfl bz) (ec r (fun _ u _ b d s=>aB s rfl (keep b H1) to3 rfl bz) (ec r (fun fr1 u w' hb' hd r'=>aP r' (args:=[(.agg (af c0.seat.p).toArray),(I a0),(I 1)]) (lc hd.1 (lc hd.2.1 (lc rfl l0))) gO ((fX _ c0.seat.p a0 1).mono (by rintro _ w2 ⟨rfl,hb2⟩; exact ⟨_,rfl,hb2,rfl⟩))) (ec r (fun _ u _ b d s=>aB s rfl (bo hB b c1h) to40 rfl bz) (ec r (fun _ u _ b d s=>aW s (v:=(.func (.func 163) #[] #[zp c0b,zp b1])) rfl bz) ?_))))));exact bA
 intro fr u w7 hb hΦ hne r;have r:=r.congr (sc (hΦ 6 (by decide)) (sc (hΦ 5 (by decide)) (sc (hΦ 4 (by decide)) (sc (hΦ 3 (by decide)) (sc (hΦ 2 (by decide)) (sc (hΦ 1 (by decide)) (sc (hΦ 0 (by decide)) rfl)))))));have Z7:=hb.size;have H1:=keep hb H1;have H4:=keep hb H4;obtain ⟨hB,zB⟩:=bon hb hB;have hF1:=aA hF hB b4;have f8:((kW F w0 w7 b4)) c0b:=(.inl c0F);have f9:((kW F w0 w7 b4)) b1:=(.inr ⟨by omega,by omega,by omega⟩)
 refine kD r (nG (F:=(kW F w0 w7 b4)) (n:=n) hF1 (D.bS c0.seat.p a0 1) c1 ⟨163,[],[zp c0b,zp b1],BH,rfl,fun m hm _ w' hs hz=>yn (j:=j) (fun b hb=>Nat.lt_of_lt_of_le (hF1 b hb) hz) (by omega) c0 f8 (hs.at_ f8 (keep hB c0h)) a0 f9 (hs.at_ f9 H1)⟩) rfl pO rfl fun w10 v11 hb hr12 r=>?_;have Z10:=hb.size
 have H1:=keep hb H1;have H4:=keep hb H4;obtain ⟨hB,zB⟩:=bon hb hB;refine kP r hr12.shape rfl rfl H4 ts84 rfl rfl fun w13 u14 r=>?_;have Z13:=u14.size
 have H1:=u14.keep H1 (by omega)
 have H4:=u14.at_;obtain ⟨hB,zB⟩:=u14.on hB (by omega)
 exact wn (wp_ret (kR r hr12 rfl rfl H4 rfl ta84 hF hB u14 (by omega) (by omega) (by omega)))
def D.bW (j:Nat) (a0:Seat) (a1:Int) (a2:Int):T Res:=(D.gT j (D.cH a0 a1) (fun x=>(D.gp j (D.cH a0 a1) a2 x)))
theorem rR (hF:kH F w0) (hj:n<j)
    (a0:Seat) (a1:Int) (a2:Int) :
    Calls Tryz.prog 66 #[.agg (bg a0).toArray,.int .i64 a1,.int .u64 a2] w0 (av Tryz.prog aj n (D.bW j a0 a1 a2) F w0):=by
 refine enter Tryz.func66 rfl 14 rfl rfl fun fr r=>?_;have hB:=Below.refl w0.heap.size w0
 refine wsr ?_;refine kX 90 (.agg (bg a0).toArray) r rfl rfl fun b1 w2 n3 r=>?_;obtain ⟨E1,Z2,H1,hB,zB⟩:=n3.all hB
 refine kX 40 (U a2) r rfl rfl fun b4 w5 n6 r=>?_;have H1:=keep n6.below H1
 obtain ⟨E4,Z5,H4,hB,zB⟩:=n6.all hB;refine ar (.cells (ai false aj.zero 0 0 0 0 .nilFunc) 84 (0,0)) r (fun R=>aq tz84) rfl fun fr b7 w8 n9 r=>?_;have H1:=keep n9.below H1
 have H4:=keep n9.below H4;obtain ⟨E7,Z8,H7,hB,zB⟩:=n9.all hB;refine wn (wsr (kG (bg a0) 8 r rfl H1 ta90 rfl rfl fun r=>kM (I a1) r rfl rfl fun r=>?_));refine kE r (oC w8 a0 a1) rfl qa rfl fun w10 hb r=>?_
 have Z10:=hb.size;have H1:=keep hb H1;have H4:=keep hb H4;have H7:=keep hb H7;obtain ⟨hB,zB⟩:=bon hb hB;refine ar (.cells ((bc (⟨(⟨(⟨0,0,0,0,0,0⟩:Plan),0,0⟩:Seat),0,0⟩:Where))).toArray 252 (0,0)) r (fun R=>aq pT) rfl fun fr b11 w12 n13 r=>?_;have H1:=keep n13.below H1
 have H4:=keep n13.below H4;have H7:=keep n13.below H7;obtain ⟨E11,Z12,H11,hB,zB⟩:=n13.all hB;refine aM (.cells ((bc (D.cH a0 a1))).toArray 252 (0,0)) r (fun R=>aX r (o:=0) (v:=(.agg (bc (D.cH a0 a1)).toArray)) rfl rfl H11 pS (Nat.le_of_ble_eq_true rfl) rfl (lZ rfl)) rfl fun fr w14 u15 r=>?_;have Z14:=u15.size
 have H1:=u15.keep H1 (by omega)
 have H4:=u15.keep H4 (by omega)
 have H7:=u15.keep H7 (by omega)
 have H11:=u15.at_;obtain ⟨hB,zB⟩:=u15.on hB (by omega)
 refine wn (wsr (kG (bc (D.cH a0 a1)) 10 r rfl H11 cZ rfl rfl fun r=>ae (.func (.func 161) #[] #[zp b11,zp b4]) r (fun R=>aW r rfl) rfl fun fr r=>?_));have hF1:=aA hF hB b7
 have f16:((kW F w0 w14 b7)) b11:=(.inr ⟨by omega,by omega,by omega⟩)
 have f17:((kW F w0 w14 b7)) b4:=(.inr ⟨by omega,by omega,by omega⟩)
 refine kD r (qG (j:=j) (F:=(kW F w0 w14 b7)) (n:=n) hF1 (by omega) (D.cH a0 a1) ⟨161,[],[zp b11,zp b4],Cy,rfl,fun m hm x w' hs hz=>yM (j:=j) (fun b hb=>Nat.lt_of_lt_of_le (hF1 b hb) hz) (by omega) (D.cH a0 a1) f16 (hs.at_ f16 H11) a2 f17 (hs.at_ f17 H4) x⟩) rfl uz rfl fun w18 v19 hb hr20 r=>?_;have Z18:=hb.size
 have H1:=keep hb H1;have H4:=keep hb H4;have H7:=keep hb H7;have H11:=keep hb H11;obtain ⟨hB,zB⟩:=bon hb hB;refine kP r hr20.shape rfl rfl H7 ts84 rfl rfl fun w21 u22 r=>?_;have Z21:=u22.size
 have H1:=u22.keep H1 (by omega)
 have H4:=u22.keep H4 (by omega)
 have H11:=u22.keep H11 (by omega)
 have H7:=u22.at_;obtain ⟨hB,zB⟩:=u22.on hB (by omega)
 exact wn (wp_ret (kR r hr20 rfl rfl H7 rfl ta84 hF hB u22 (by omega) (by omega) (by omega)))
def D.ik (fu:Nat) (a0:Plan) (a1:Mem) (a2:Int) (a3:Int):Option (List Int):=((D.eL fu a1 a2 (D.cU a0 a3 0)).bind (fun (x6:Int)=>(loopThen (fun (x9:List Int × Int)=>(bif (decide ((x9.1.length:Int)<a0.nodes)) then ((D.eL fu a1 a2 (D.bS a0 (D.bq x9.2) 2)).bind (fun (x14:Int)=>(bif (x14==0) then (some (Lp.brk (x9.1,x14))) else ((D.eL fu a1 a2 (D.bS a0 (D.bq x14) 1)).bind (fun (x17:Int)=>((appD x9.1 ([x17])).bind (fun (x21:List Int)=>(some (Lp.next (x21,x14)))))))))) else (some (Lp.brk (x9.1,x9.2))))) fu ([],x6) (fun (x25:List Int × Int)=>(some x25.1)))))
set_option maxRecDepth 20000 in
set_option maxHeartbeats 20000000 in
theorem rN {fu:Nat} (w0:World) (a0:Plan) {a1g:MG} (a1:Mem) (a1h:MemAt a1g a1 w0) (a2:Int) (a3:Int) {res:List Int} (hD:D.ik fu a0 a1 a2 a3=some res) :
    Calls Tryz.prog 69 #[.agg (af a0).toArray,zp a1g.mb,.int .i64 a2,.int .i64 a3] w0 (fun e w'=>∃ (v0:Value),e=.returned v0∧Done No No [rowK 40 1 u64 v0 res] w0 w'):=by
 refine enter Tryz.func69 rfl 42 rfl rfl fun fr r=>?_;have hP:Post No [] w0 w0:=Post.nil w0
 have hP:Post No [memR a1g a1] w0 w0:=hP.addRo bm a1h rfl a1h.lt;unfold D.ik at hD
 refine wsr ?_;refine kX 23 (.agg (af a0).toArray) r rfl rfl fun b1 w2 n3 r=>?_;have hP:Post No [memR a1g a1,ac b1 ((af a0)).toArray 23] w0 w2:=hP.new n3
 refine kA kS r rfl rfl fun r=>wn (wsr (kA kS r rfl rfl fun r=>wn (wsr (kM (zp a1g.mb) r rfl rfl fun r=>kM (I a2) r rfl rfl fun r=>kG (af a0) 6 r rfl (hP.cell (i:=1) rfl) ta23 rfl rfl fun r=>kM (I a3) r rfl rfl fun r=>?_))));refine kE r (nF w2 a0 a3 0) rfl cl74 rfl fun w5 hb r=>?_
 have hP:Post No [memR a1g a1,ac b1 ((af a0)).toArray 23] w0 w5:=hP.below hb;obtain ⟨x6,hx6,hD⟩:=aK hD;refine kE r (nE w5 a1 (hP.memr (i:=0) rfl) a2 (D.cU a0 a3 0) hx6) rfl cl30 rfl fun w7 hb r=>?_;have hP:Post No [memR a1g a1,ac b1 ((af a0)).toArray 23] w0 w7:=hP.below hb
 refine kA (U x6) r rfl rfl fun r=>wn (wp_seq ?_);have hP:Post No [memR a1g a1,ac b1 ((af a0)).toArray 23,rowK 40 1 u64 kS ([])] w0 w7:=hP.nilRow 40 1 u64
 refine dA (X:=List Int × Int) (G:=Value) (x0:=([],x6)) (fun x γ=>[(0,(.agg (af a0).toArray)),(1,(zp a1g.mb)),(2,(I a2)),(3,(I a3)),(4,(zp b1)),(8,kS),(9,γ),(10,(U x.2))]) (fun x γ w=>Post No [memR a1g a1,ac b1 ((af a0)).toArray 23,rowK 40 1 u64 γ x.1] w0 w) kS r (aa rfl (aa rfl (aa rfl (aa rfl (aa rfl (aa rfl (aa rfl (aa rfl aN)))))))) hP hD ?_ ?_
 ·
  rintro x9 γ10 fr w12 g y11 RPy11 nxy11 bky11 rty11 r hP hD;have hP:Post No [memR a1g a1,ac b1 ((af a0)).toArray 23,rowK 40 1 u64 γ10 x9.1] w0 w12:=hP;refine wp_seq (wsr (kM γ10 r rfl rfl fun r=>ae (I (x9.1.length:Int)) r (fun R=>cu r (hP.row (i:=2) rfl).ro is99 rfl) rfl fun fr r=>kF 0 r rfl dL rfl fun r=>kL (I a0.nodes) r rfl (hP.cell (i:=1) rfl) to3 rfl rfl fun r=>kB r rfl rfl rfl rfl rfl fun r=>wn ?_));refine wp_cond_split (t:=(decide ((x9.1.length:Int)<a0.nodes))) (r.ev rfl) (fun h13=>?_) (fun h13=>?_)
  ·
   have hD:=(ay h13).symm.trans hD;refine wp_skip (wp_block (wp_seq ?_));obtain ⟨x14,hx14,hD⟩:=aK hD;refine bw 7 [.val (zp a1g.mb),.val (I a2),.val (.agg (af a0).toArray),.val (U x9.2),.val (I (D.bq x9.2)),.val (I (D.bS a0 (D.bq x9.2) 2)),.val (U x14)] mixed r (by kernel_rfl) (ag (by exact trivial) (ag (by exact trivial) (ag (by exact trivial) (ag (by exact trivial) (ag (by exact trivial) (ag (by exact trivial) (ag (by exact trivial) bv))))))) ?_ ?_
   ·
    refine ec r (fun _ u _ b d s=>aD s rfl bz) (ec r (fun _ u _ b d s=>aD s rfl bz) (ec r (fun _ u _ b d s=>aU s (cs:=(af a0)) (n:=6) rfl ((hP.below (dr b)).cell (i:=1) rfl) ta23 rfl bz) (ec r (fun _ u _ b d s=>aD s rfl bz) (ec r (fun fr1 u w' hb' hd r'=>aP r' (args:=[(U x9.2)]) (lc hd.1 l0) gL ((gk _ x9.2).mono (by rintro _ w2 ⟨rfl,hb2⟩; exact ⟨_,rfl,hb2,rfl⟩))) (ec r (fun fr1 u w' hb' hd r'=>aP r' (args:=[(.agg (af a0).toArray),(I (D.bq x9.2)),(I 2)]) (lc hd.1 (lc hd.2.1 (lc rfl l0))) gO ((fX _ a0 (D.bq x9.2) 2).mono (by rintro _ w2 ⟨rfl,hb2⟩; exact ⟨_,rfl,hb2,rfl⟩))) (ec r (fun fr1 u w' hb' hd r'=>aP r' (args:=[(zp a1g.mb),(I a2),(I (D.bS a0 (D.bq x9.2) 2))]) (lc hd.1 (lc hd.2.1 (lc hd.2.2.1 l0))) cl30 ((nE _ a1 ((hP.below (dr hb')).memr (i:=0) rfl) a2 (D.bS a0 (D.bq x9.2) 2) hx14).mono (by rintro _ w2 ⟨rfl,hb2⟩; exact ⟨_,rfl,hb2,rfl⟩))) ?_))))));exact bA
   intro fr u w15 hb hΦ hne r;have r:=r.congr (sc (hΦ 6 (by decide)) (sc (hΦ 5 (by decide)) (sc (hΦ 4 (by decide)) (sc (hΦ 3 (by decide)) (sc (hΦ 2 (by decide)) (sc (hΦ 1 (by decide)) (sc (hΦ 0 (by decide)) rfl)))))));have hP:Post No [memR a1g a1,ac b1 ((af a0)).toArray 23,rowK 40 1 u64 γ10 x9.1] w0 w15:=hP.below hb;refine kA (U x14) r rfl rfl fun r=>wn (wp_seq (wsr (kM (U x14) r rfl rfl fun r=>kB r rfl rfl rfl rfl rfl fun r=>wn ?_)));refine wp_cond_split (t:=(x14==0)) (r.ev rfl) (fun h16=>?_) (fun h16=>?_)
   ·
    have hD:=(ay h16).symm.trans hD;refine wp_exit ?_;exact bky11 (x9.1,x14) γ10 _ _ _ hD r (aa rfl (aa rfl (aa rfl (aa rfl (aa rfl (aa rfl (aa rfl (aa rfl aN)))))))) (hP.pick [0,1,2] rfl rfl)
   have hD:=(aw h16).symm.trans hD;refine wp_skip ?_;obtain ⟨x17,hx17,hD⟩:=aK hD;refine tA 9 [.val γ10,.val (zp a1g.mb),.val (I a2),.val (.agg (af a0).toArray),.val (U x14),.val (I (D.bq x14)),.val (I (D.bS a0 (D.bq x14) 1)),.val (U x17),.pred (MkP (fun v:Value=>v) (fun v:Value=>[rowK 40 1 u64 v ([x17])])) (MkP.st _ _)] mixed r (by kernel_rfl) ?_ ?_
   ·
    refine fc r (fun fr1 g w' hb' hd r'=>aD r' rfl bz) ?_;refine fc r (fun fr1 g w' hb' hd r'=>aD r' rfl bz) ?_
    refine fc r (fun fr1 g w' hb' hd r'=>aD r' rfl bz) ?_;refine fc r (fun fr1 g w' hb' hd r'=>aU r' (cs:=(af a0)) (n:=6) rfl ((hP.below (dr hb')).cell (i:=1) rfl) ta23 rfl bz) ?_
    refine fc r (fun fr1 g w' hb' hd r'=>aD r' rfl bz) ?_;refine fc r (fun fr1 g w' hb' hd r'=>aP r' (args:=[(U x14)]) (lc (hd 4 rfl).1 l0) gL ((gk _ x14).mono (by rintro _ w2 ⟨rfl,hb2⟩; exact ⟨_,rfl,hb2,rfl⟩))) ?_
    refine fc r (fun fr1 g w' hb' hd r'=>aP r' (args:=[(.agg (af a0).toArray),(I (D.bq x14)),(I 1)]) (lc (hd 3 rfl).1 (lc (hd 5 rfl).1 (lc rfl l0))) gO ((fX _ a0 (D.bq x14) 1).mono (by rintro _ w2 ⟨rfl,hb2⟩; exact ⟨_,rfl,hb2,rfl⟩))) ?_;refine fc r (fun fr1 g w' hb' hd r'=>aP r' (args:=[(zp a1g.mb),(I a2),(I (D.bS a0 (D.bq x14) 1))]) (lc (hd 1 rfl).1 (lc (hd 2 rfl).1 (lc (hd 6 rfl).1 l0))) cl30 ((nE _ a1 ((hP.below (dr hb')).memr (i:=0) rfl) a2 (D.bS a0 (D.bq x14) 1) hx17).mono (by rintro _ w2 ⟨rfl,hb2⟩; exact ⟨_,rfl,hb2,rfl⟩))) ?_
    refine fc r (fun fr1 g w' hb' hd r'=>cg r' (c:=(([x17]).flatMap u64).toArray) (E:=40) (bs1 (congrArg (fun z=>(0,z)) (hd 7 rfl).1) (by kernel_rfl)) (fun b w2 n2=>⟨n2.below,MkP.newRow n2 (fun _=>rfl) rfl⟩)) ?_;exact ck
   intro fr gg w20 hb hΦ hap r;obtain ⟨v18,g8,hs8⟩:=(hΦ 8 rfl).1;have r:=r.congr (sc g8 (sc ((hΦ 7 rfl).1) (sc ((hΦ 6 rfl).1) (sc ((hΦ 5 rfl).1) (sc ((hΦ 4 rfl).1) (sc ((hΦ 3 rfl).1) (sc ((hΦ 2 rfl).1) (sc ((hΦ 1 rfl).1) (sc ((hΦ 0 rfl).1) rfl)))))))));have hP:Post No [memR a1g a1,ac b1 ((af a0)).toArray 23,rowK 40 1 u64 γ10 x9.1,rowK 40 1 u64 v18 ([x17])] w0 w20:=hP.addL (l:=[([rowK 40 1 u64 v18 ([x17])],(gg 8).lo,(gg 8).hi)]) hb ⟨hs8,(hΦ 8 rfl).2.1,dJ,trivial⟩;obtain ⟨x21,hx21,hD⟩:=aK hD;refine dh 40 1 u64 γ10 r (fun R=>dc r rt99 (fun _=>rfl) (fun _=>rfl) (hP.row (i:=2) rfl) (hP.row (i:=3) rfl).ro hx21 rfl rfl) rfl fun fr v22 w23 ha24 r=>?_;have hP:Post No [memR a1g a1,ac b1 ((af a0)).toArray 23,rowK 40 1 u64 v22 x21,rowK 40 1 u64 v18 ([x17])] w0 w23:=hP.append (i:=2) rfl ha24
   refine kA v22 r rfl rfl fun r=>wn ?_;exact nxy11 (x21,x14) v22 _ _ _ hD r (aa rfl (aa rfl (aa rfl (aa rfl (aa rfl (aa rfl (aa rfl (aa rfl aN)))))))) (hP.pick [0,1,2] rfl rfl)
  have hD:=(aw h13).symm.trans hD;refine wp_exit ?_;exact bky11 (x9.1,x9.2) γ10 _ _ _ hD r (aa rfl (aa rfl (aa rfl (aa rfl (aa rfl (aa rfl (aa rfl (aa rfl aN)))))))) (hP.pick [0,1,2] rfl rfl)
 rintro x25 γ26 fr w27 g r hP hD;have hP:Post No [memR a1g a1,ac b1 ((af a0)).toArray 23,rowK 40 1 u64 γ26 x25.1] w0 w27:=hP;refine wsr (kM γ26 r rfl rfl fun r=>kA γ26 r rfl rfl fun r=>wn (wp_ret ?_));have hv:x25.1=res:=Option.some.inj hD
 try dsimp only [Exit.then,Exit.inBlock]
 refine aQ (fn:=Tryz.f69) r (t:=8) rfl (v:=γ26) rfl ?_;subst hv;exact ⟨γ26,rfl,(hP.pick [2] rfl rfl).done (cL rfl bY)⟩
def D.kJ (c0:Where) (c1:(Unit→T Res)):T Res:=(D.eM c0 0 (-1) c1)
theorem wB (hF:kH F w0)
    (c0:Where) {c0b:Nat} (c0F:F c0b) (c0h:w0.heap[c0b]?=some (.cells ((bc c0)).toArray 252 (0,0))) {c1f:FuncId} {c1_1 c1_2:List Value} {c1:(Unit→T Res)} {c1b:Nat} (c1F:F c1b) (c1h:w0.heap[c1b]?=some (.cells #[.func (.func c1f) c1_1.toArray c1_2.toArray] 254 (0,0))) (c1n:FnT Tryz.prog aj unitE (n+1) F w0 (.func (.func c1f) c1_1.toArray c1_2.toArray) c1) :
    Calls Tryz.prog 398 #[zp c0b,zp c1b] w0 (av Tryz.prog aj n (D.kJ c0 c1) F w0):=by
 refine enter Tryz.func398 rfl 6 rfl rfl fun fr r=>?_;have hB:=Below.refl w0.heap.size w0
 have lc0b:=lt_of_block c0h;have lc1b:=lt_of_block c1h;refine wsr ?_;refine ar (.cells (ai false aj.zero 0 0 0 0 .nilFunc) 84 (0,0)) r (fun R=>aq tz84) rfl fun fr b1 w2 n3 r=>?_;obtain ⟨E1,Z2,H1,hB,zB⟩:=n3.all hB
 refine wn (wsr (kG (bc c0) 10 r rfl (keep hB c0h) cZ rfl rfl fun r=>kL (.func (.func c1f) c1_1.toArray c1_2.toArray) r rfl (keep hB c1h) qj rfl rfl fun r=>?_));have hF1:=aA hF hB b1
 refine kD r (l5 (F:=(kW F w0 w2 b1)) (n:=n) hF1 c0 0 (-1) (c1n.mono (by omega) (fun b h=>.inl h) (Same.below hB hF) hB.size)) rfl mz rfl fun w4 v5 hb hr6 r=>?_;have Z4:=hb.size
 have H1:=keep hb H1;obtain ⟨hB,zB⟩:=bon hb hB;refine kP r hr6.shape rfl rfl H1 ts84 rfl rfl fun w7 u8 r=>?_;have Z7:=u8.size
 have H1:=u8.at_;obtain ⟨hB,zB⟩:=u8.on hB (by omega)
 exact wn (wp_ret (kR r hr6 rfl rfl H1 rfl ta84 hF hB u8 (by omega) (by omega) (by omega)))
def D.fY (a0:Where) (a1:(Unit→T Res)):T Res:=(D.eM a0 1 (-1) (fun _=>(D.kJ a0 a1)))
theorem qK (hF:kH F w0)
    (a0:Where) {a1f:FuncId} {a1_1 a1_2:List Value} {a1:(Unit→T Res)} (a1n:FnT Tryz.prog aj unitE (n+1) F w0 (.func (.func a1f) a1_1.toArray a1_2.toArray) a1) :
    Calls Tryz.prog 348 #[.agg (bc a0).toArray,.func (.func a1f) a1_1.toArray a1_2.toArray] w0 (av Tryz.prog aj n (D.fY a0 a1) F w0):=by
 refine enter Tryz.func348 rfl 8 rfl rfl fun fr r=>?_;have hB:=Below.refl w0.heap.size w0
 refine wsr ?_;refine kX 252 (.agg (bc a0).toArray) r rfl rfl fun b1 w2 n3 r=>?_;obtain ⟨E1,Z2,H1,hB,zB⟩:=n3.all hB
 refine kX 254 (.func (.func a1f) a1_1.toArray a1_2.toArray) r rfl rfl fun b4 w5 n6 r=>?_;have H1:=keep n6.below H1
 obtain ⟨E4,Z5,H4,hB,zB⟩:=n6.all hB;refine ar (.cells (ai false aj.zero 0 0 0 0 .nilFunc) 84 (0,0)) r (fun R=>aq tz84) rfl fun fr b7 w8 n9 r=>?_;have H1:=keep n9.below H1
 have H4:=keep n9.below H4;obtain ⟨E7,Z8,H7,hB,zB⟩:=n9.all hB;refine wn (wsr (kG (bc a0) 10 r rfl H1 cZ rfl rfl fun r=>ae (.func (.func 398) #[] #[zp b1,zp b4]) r (fun R=>aW r rfl) rfl fun fr r=>?_));have hF1:=aA hF hB b7
 have f10:((kW F w0 w8 b7)) b1:=(.inr ⟨by omega,by omega,by omega⟩)
 have f11:((kW F w0 w8 b7)) b4:=(.inr ⟨by omega,by omega,by omega⟩)
 refine kD r (l5 (F:=(kW F w0 w8 b7)) (n:=n) hF1 a0 1 (-1) ⟨398,[],[zp b1,zp b4],C4,rfl,fun m hm _ w' hs hz=>wB (fun b hb=>Nat.lt_of_lt_of_le (hF1 b hb) hz) a0 f10 (hs.at_ f10 H1) f11 (hs.at_ f11 H4) (a1n.mono (by omega) (fun b h=>.inl h) ((Same.below hB hF).trans (hs.sub (fun b h=>.inl h))) (Nat.le_trans hB.size hz))⟩) rfl mz rfl fun w12 v13 hb hr14 r=>?_;have Z12:=hb.size
 have H1:=keep hb H1;have H4:=keep hb H4;have H7:=keep hb H7;obtain ⟨hB,zB⟩:=bon hb hB;refine kP r hr14.shape rfl rfl H7 ts84 rfl rfl fun w15 u16 r=>?_;have Z15:=u16.size
 have H1:=u16.keep H1 (by omega)
 have H4:=u16.keep H4 (by omega)
 have H7:=u16.at_;obtain ⟨hB,zB⟩:=u16.on hB (by omega)
 exact wn (wp_ret (kR r hr14 rfl rfl H7 rfl ta84 hF hB u16 (by omega) (by omega) (by omega)))
def D.kK :T Res:=(D.fJ 6)
theorem wF (hF:kH F w0)
     :
    Calls Tryz.prog 349 #[] w0 (av Tryz.prog aj n D.kK F w0):=by
 refine enter Tryz.func349 rfl 2 rfl rfl fun fr r=>?_;have hB:=Below.refl w0.heap.size w0
 refine wsr ?_;refine ar (.cells (ai false aj.zero 0 0 0 0 .nilFunc) 84 (0,0)) r (fun R=>aq tz84) rfl fun fr b1 w2 n3 r=>?_;obtain ⟨E1,Z2,H1,hB,zB⟩:=n3.all hB
 refine wn (wsr ?_);have hF1:=aA hF hB b1;refine kD r (lF (F:=(kW F w0 w2 b1)) (n:=n) hF1 6) rfl mC rfl fun w4 v5 hb hr6 r=>?_;have Z4:=hb.size
 have H1:=keep hb H1;obtain ⟨hB,zB⟩:=bon hb hB;refine kP r hr6.shape rfl rfl H1 ts84 rfl rfl fun w7 u8 r=>?_;have Z7:=u8.size
 have H1:=u8.at_;obtain ⟨hB,zB⟩:=u8.on hB (by omega)
 exact wn (wp_ret (kR r hr6 rfl rfl H1 rfl ta84 hF hB u8 (by omega) (by omega) (by omega)))
def D.mT (c0:Int) (a0:Int):T Res:=(D.nY (⟨0,c0⟩:Res))
theorem vI (hF:kH F w0)
    (c0:Int) {c0b:Nat} (c0F:F c0b) (c0h:w0.heap[c0b]?=some (.cells ([(.int .u64 c0)]).toArray 40 (0,0))) (a0:Int) :
    Calls Tryz.prog 354 #[.int .i64 a0,zp c0b] w0 (av Tryz.prog aj n (D.mT c0 a0) F w0):=by
 refine enter Tryz.func354 rfl 7 rfl rfl fun fr r=>?_;have hB:=Below.refl w0.heap.size w0
 have lc0b:=lt_of_block c0h;refine wsr ?_;refine ar (.cells (ai false aj.zero 0 0 0 0 .nilFunc) 84 (0,0)) r (fun R=>aq tz84) rfl fun fr b1 w2 n3 r=>?_;obtain ⟨E1,Z2,H1,hB,zB⟩:=n3.all hB
 refine wn (wsr (kL (U c0) r rfl (keep hB c0h) to40 rfl rfl fun r=>kU (.agg (resC (⟨0,c0⟩:Res)).toArray) r (by kernel_rfl) rfl fun r=>?_));have hF1:=aA hF hB b1
 refine kD r (rj (F:=(kW F w0 w2 b1)) (n:=n) hF1 (⟨0,c0⟩:Res)) rfl cl45 rfl fun w4 v5 hb hr6 r=>?_;have Z4:=hb.size
 have H1:=keep hb H1;obtain ⟨hB,zB⟩:=bon hb hB;refine kP r hr6.shape rfl rfl H1 ts84 rfl rfl fun w7 u8 r=>?_;have Z7:=u8.size
 have H1:=u8.at_;obtain ⟨hB,zB⟩:=u8.on hB (by omega)
 exact wn (wp_ret (kR r hr6 rfl rfl H1 rfl ta84 hF hB u8 (by omega) (by omega) (by omega)))
def D.ku (j:Nat) (c0:Where) (c1:Int) (c2:Int):T Res:=(T.bind (D.jo j c0.seat.p c0.seat.thread (D.bq c1)) (fun x=>(D.mT c2 x)))
theorem vP (hF:kH F w0) (hj:n<j)
    (c0:Where) {c0b:Nat} (c0F:F c0b) (c0h:w0.heap[c0b]?=some (.cells ((bc c0)).toArray 252 (0,0))) (c1:Int) {c1b:Nat} (c1F:F c1b) (c1h:w0.heap[c1b]?=some (.cells ([(.int .u64 c1)]).toArray 40 (0,0))) (c2:Int) {c2b:Nat} (c2F:F c2b) (c2h:w0.heap[c2b]?=some (.cells ([(.int .u64 c2)]).toArray 40 (0,0))) :
    Calls Tryz.prog 353 #[zp c0b,zp c1b,zp c2b] w0 (av Tryz.prog aj n (D.ku j c0 c1 c2) F w0):=by
 refine enter Tryz.func353 rfl 15 rfl rfl fun fr r=>?_;have hB:=Below.refl w0.heap.size w0
 have lc0b:=lt_of_block c0h;have lc1b:=lt_of_block c1h;have lc2b:=lt_of_block c2h;refine wsr ?_;refine ar (.cells (ai false aj.zero 0 0 0 0 .nilFunc) 84 (0,0)) r (fun R=>aq tz84) rfl fun fr b1 w2 n3 r=>?_;obtain ⟨E1,Z2,H1,hB,zB⟩:=n3.all hB
 refine wn (wp_seq ?_);have hF1:=aA hF hB b1;refine bw 10 [.val (zp c0b),.val (zp c0b),.val (.agg (af c0.seat.p).toArray),.val (zp c0b),.val (.pointer (some ⟨c0b,7,none⟩)),.val (I c0.seat.thread),.val (U c1),.val (I (D.bq c1)),.pred (PrepP Tryz.prog ax n (D.jo j c0.seat.p c0.seat.thread (D.bq c1)) ((kW F w0 w2 b1)) w2) (PrepP.st hF1),.val (.func (.func 354) #[] #[zp c2b])] mixed r (by kernel_rfl) (ag (by exact trivial) (ag (by exact trivial) (ag (by exact trivial) (ag (by exact trivial) (ag (by exact trivial) (ag (by exact trivial) (ag (by exact trivial) (ag (by exact trivial) (ag (by exact trivial) (ag (by exact trivial) bv)))))))))) ?_ ?_
 ·
  refine ec r (fun _ u _ b d s=>aG s (b:=c0b) (o:=0) rfl dn bz) (ec r (fun _ u _ b d s=>aG s (b:=c0b) (o:=0) d.1 dV bz) (ec r (fun _ u _ b d s=>aU s (cs:=(af c0.seat.p)) (n:=6) d.1 (bo hB b c0h) ta23 rfl bz) (ec r (fun _ u _ b d s=>aG s (b:=c0b) (o:=0) rfl dn bz) (ec r (fun _ u _ b d s=>aG s (b:=c0b) (o:=0) d.1 jQ bz) (ec r (fun _ u _ b d s=>aB s d.1 (bo hB b c0h) to3 rfl bz) (ec r (fun _ u _ b d s=>aB s rfl (bo hB b c1h) to40 rfl bz) (ec r (fun fr1 u w' hb' hd r'=>aP r' (args:=[(U c1)]) (lc hd.1 l0) gL ((gk _ c1).mono (by rintro _ w2 ⟨rfl,hb2⟩; exact ⟨_,rfl,hb2,rfl⟩))) (ec r (fun fr1 u w' hb' hd r'=>aP r' (args:=[(.agg (af c0.seat.p).toArray),(I c0.seat.thread),(I (D.bq c1))]) (lc hd.1 (lc hd.2.1 (lc hd.2.2.1 l0))) cl34 ((yu (j:=j) (F:=(kW F w0 w2 b1)) (n:=n) (fun b h=>Nat.lt_of_lt_of_le (hF1 b h) hb'.size) (by omega) c0.seat.p c0.seat.thread (D.bq c1)).mono (by rintro _ w2 ⟨y,rfl,hb2,hr2⟩; exact ⟨_,rfl,hb2,PrepP.of (drB hb') hb2 hr2⟩))) (ec r (fun _ u _ b d s=>aW s (v:=(.func (.func 354) #[] #[zp c2b])) rfl bz) ?_)))))))));exact bA
 intro fr u w4 hb hΦ hne r;obtain ⟨v5,hv8⟩:∃ v,v=u 8:=⟨_,rfl⟩;have g8:u 8=v5:=hv8.symm;have hr6:=(hΦ 8 (by decide)).2;rw [g8] at hr6
 have r:=r.congr (sc (hΦ 9 (by decide)) (sc g8 (sc (hΦ 7 (by decide)) (sc (hΦ 6 (by decide)) (sc (hΦ 5 (by decide)) (sc (hΦ 4 (by decide)) (sc (hΦ 3 (by decide)) (sc (hΦ 2 (by decide)) (sc (hΦ 1 (by decide)) (sc (hΦ 0 (by decide)) rfl))))))))))
 have Z4:=hb.size;have H1:=keep hb H1;obtain ⟨hB,zB⟩:=bon hb hB;have hF1:=aA hF hB b1;have f7:((kW F w0 w4 b1)) c2b:=(.inl c2F);refine kD r (wu (F:=(kW F w0 w4 b1)) (n:=n) hF1 (Rep.mono (by rintro b (h | h); (rcases h with h | ⟨h1,h2,h3⟩; exact .inl h; exact .inr ⟨h1,by omega,h3⟩); exact .inr ⟨by omega,by omega,by omega⟩) (Same.refl _ _) (by omega) n _ _ hr6) ⟨354,[],[zp c2b],BF,rfl,fun m hm x w' hs hz=>vI (fun b hb=>Nat.lt_of_lt_of_le (hF1 b hb) hz) c2 f7 (hs.at_ f7 (keep hB c2h)) x⟩) rfl ut rfl fun w8 v9 hb hr10 r=>?_
 have Z8:=hb.size;have H1:=keep hb H1;obtain ⟨hB,zB⟩:=bon hb hB;refine kP r hr10.shape rfl rfl H1 ts84 rfl rfl fun w11 u12 r=>?_;have Z11:=u12.size
 have H1:=u12.at_;obtain ⟨hB,zB⟩:=u12.on hB (by omega)
 exact wn (wp_ret (kR r hr10 rfl rfl H1 rfl ta84 hF hB u12 (by omega) (by omega) (by omega)))
def D.iZ (j:Nat) (r_queue_where_take:Where→T Res) (c0:Where) (c1:Int) (c2:Int) (a0:Bool):T Res:=(bif (!a0) then (r_queue_where_take c0) else (D.fY c0 (fun _=>(D.ku j c0 c1 c2))))
def D.kz (j:Nat) (r_queue_where_take:Where→T Res) (c0:Where) (c1:Int) (c2:Int) (a0:Int):T Res:=(D.dQ c0.head c1 c2 (fun x=>(D.iZ j r_queue_where_take c0 c1 a0 x)))
def D.nj (j:Nat) (r_queue_where_take:Where→T Res) (c0:Where) (a0:Bool):T Res:=(r_queue_where_take c0)
def D.eH (j:Nat) (r_queue_where_take:Where→T Res) (a0:Where) (a1:Int) (a2:Int) (a3:Int):T Res:=(bif (a3==0) then (D.fY a0 (fun _=>D.kK)) else (bif (a1==a2) then (D.dQ a0.tail a2 a3 (fun x=>(D.nj j r_queue_where_take a0 x))) else (D.eP (D.bS a0.seat.p (D.bq a3) 1) (fun x=>(D.kz j r_queue_where_take a0 a1 a3 x)))))
def D.iV (j:Nat) (r_queue_where_take:Where→T Res) (c0:Int) (c1:Where) (c2:Int) (c3:Int) (a0:Int):T Res:=(bif (a0 !=c0) then (r_queue_where_take c1) else (D.eH j r_queue_where_take c1 c0 c2 c3))
def D.kq (j:Nat) (r_queue_where_take:Where→T Res) (c0:Where) (c1:Int) (c2:Int) (c3:Int):T Res:=(D.eP c0.head (fun x=>(D.iV j r_queue_where_take c1 c0 c2 c3 x)))
def D.mW (j:Nat) (r_queue_where_take:Where→T Res) (c0:Where) (c1:Int) (c2:Int) (a0:Int):T Res:=(D.eM c0 1 (D.bq a0) (fun _=>(D.kq j r_queue_where_take c0 c1 c2 a0)))
def D.mY (j:Nat) (r_queue_where_take:Where→T Res) (c0:Where) (c1:Int) (a0:Int):T Res:=(D.eP (D.bS c0.seat.p (D.bq c1) 2) (fun x=>(D.mW j r_queue_where_take c0 c1 a0 x)))
def D.kO (j:Nat) (r_queue_where_take:Where→T Res) (c0:Where) (a0:Int):T Res:=(D.eP c0.tail (fun x=>(D.mY j r_queue_where_take c0 a0 x)))
def D.kw (j:Nat) (r_queue_where_take:Where→T Res) (a0:Where):T Res:=(T.bind (D.gm j a0.seat.p a0.seat.thread 0 a0.head 0) (fun x=>(D.kO j r_queue_where_take a0 x)))
def D.fw (j:Nat):Nat→Where→T Res
  | 0,_=>.cut
  | k+1,a0=>D.kw j (D.fw j k) a0
def dO (r:Where→T Res) (n:Nat):Prop:=∀ (F:Nat→Prop) (w0:World),(∀ b,F b→b<w0.heap.size)→∀ (a0:Where),Calls Tryz.prog 159 #[.agg (bc a0).toArray] w0 (av Tryz.prog aj n (r a0) F w0)
theorem vZ {r_queue_where_take:Where→T Res} (hF:kH F w0) (hj:n<j) (ih_queue_where_take:∀ m,m≤n→dO r_queue_where_take m)
    (c0:Where) {c0b:Nat} (c0F:F c0b) (c0h:w0.heap[c0b]?=some (.cells ((bc c0)).toArray 252 (0,0))) (c1:Int) {c1b:Nat} (c1F:F c1b) (c1h:w0.heap[c1b]?=some (.cells ([(.int .u64 c1)]).toArray 40 (0,0))) (c2:Int) {c2b:Nat} (c2F:F c2b) (c2h:w0.heap[c2b]?=some (.cells ([(.int .u64 c2)]).toArray 40 (0,0))) (a0:Bool) :
    Calls Tryz.prog 352 #[.bool a0,zp c0b,zp c1b,zp c2b] w0 (av Tryz.prog aj n (D.iZ j r_queue_where_take c0 c1 c2 a0) F w0):=by
 refine enter Tryz.func352 rfl 13 rfl rfl fun fr r=>?_;have hB:=Below.refl w0.heap.size w0
 have lc0b:=lt_of_block c0h;have lc1b:=lt_of_block c1h;have lc2b:=lt_of_block c2h;refine wsr ?_;refine ar (.cells (ai false aj.zero 0 0 0 0 .nilFunc) 84 (0,0)) r (fun R=>aq tz84) rfl fun fr b1 w2 n3 r=>?_;obtain ⟨E1,Z2,H1,hB,zB⟩:=n3.all hB
 refine wn (wp_seq (wsr (kM (.bool a0) r rfl rfl fun r=>ae (.bool (!a0)) r (fun R=>y_un r (u:=(.bool a0)) rfl rfl) rfl fun fr r=>wn ?_)));refine wp_cond_split (t:=(!a0)) (r.ev rfl) (fun h4=>?_) (fun h4=>?_)
 ·
  refine wsr (kG (bc c0) 10 r rfl (keep hB c0h) cZ rfl rfl fun r=>?_);have hF1:=aA hF hB b1
  refine kD r ((ih_queue_where_take n (by omega)) (kW F w0 w2 b1) _ hF1 c0) rfl mI rfl fun w5 v6 hb hr7 r=>?_;have Z5:=hb.size
  have H1:=keep hb H1;obtain ⟨hB,zB⟩:=bon hb hB;refine kP r hr7.shape rfl rfl H1 ts84 rfl rfl fun w8 u9 r=>?_;have Z8:=u9.size
  have H1:=u9.at_;obtain ⟨hB,zB⟩:=u9.on hB (by omega)
  refine wn (wp_ret ?_);have hd:D.iZ j r_queue_where_take c0 c1 c2 a0=(r_queue_where_take c0):=(ay h4).trans (rfl);have hs:=hr7.shape.cells;refine aH r rfl rfl H1 (k:=8) hs.1 ta84 ?_;rw [←hs.2.2,hd];exact rfin hF hB hr7 u9 (by omega) (by omega) (by omega)
 refine wp_skip (wsr (kG (bc c0) 10 r rfl (keep hB c0h) cZ rfl rfl fun r=>ae (.func (.func 353) #[] #[zp c0b,zp c1b,zp c2b]) r (fun R=>aW r rfl) rfl fun fr r=>?_));have hF1:=aA hF hB b1
 have f10:((kW F w0 w2 b1)) c0b:=(.inl c0F);have f11:((kW F w0 w2 b1)) c1b:=(.inl c1F);have f12:((kW F w0 w2 b1)) c2b:=(.inl c2F);refine kD r (qK (F:=(kW F w0 w2 b1)) (n:=n) hF1 c0 ⟨353,[],[zp c0b,zp c1b,zp c2b],Ce,rfl,fun m hm _ w' hs hz=>vP (j:=j) (fun b hb=>Nat.lt_of_lt_of_le (hF1 b hb) hz) (by omega) c0 f10 (hs.at_ f10 (keep hB c0h)) c1 f11 (hs.at_ f11 (keep hB c1h)) c2 f12 (hs.at_ f12 (keep hB c2h))⟩) rfl vz rfl fun w13 v14 hb hr15 r=>?_;have Z13:=hb.size
 have H1:=keep hb H1;obtain ⟨hB,zB⟩:=bon hb hB;refine kP r hr15.shape rfl rfl H1 ts84 rfl rfl fun w16 u17 r=>?_;have Z16:=u17.size
 have H1:=u17.at_;obtain ⟨hB,zB⟩:=u17.on hB (by omega)
 refine wn (wp_ret ?_);have hd:D.iZ j r_queue_where_take c0 c1 c2 a0=(D.fY c0 (fun _=>(D.ku j c0 c1 c2))):=(aw h4).trans (rfl)
 have hs:=hr15.shape.cells;refine aH r rfl rfl H1 (k:=8) hs.1 ta84 ?_;rw [←hs.2.2,hd];exact rfin hF hB hr15 u17 (by omega) (by omega) (by omega)
theorem wJ {r_queue_where_take:Where→T Res} (hF:kH F w0) (hj:n<j) (ih_queue_where_take:∀ m,m<n→dO r_queue_where_take m)
    (c0:Where) {c0b:Nat} (c0F:F c0b) (c0h:w0.heap[c0b]?=some (.cells ((bc c0)).toArray 252 (0,0))) (c1:Int) {c1b:Nat} (c1F:F c1b) (c1h:w0.heap[c1b]?=some (.cells ([(.int .u64 c1)]).toArray 40 (0,0))) (c2:Int) {c2b:Nat} (c2F:F c2b) (c2h:w0.heap[c2b]?=some (.cells ([(.int .u64 c2)]).toArray 40 (0,0))) (a0:Int) :
    Calls Tryz.prog 351 #[.int .u64 a0,zp c0b,zp c1b,zp c2b] w0 (av Tryz.prog aj n (D.kz j r_queue_where_take c0 c1 c2 a0) F w0):=by
 refine enter Tryz.func351 rfl 12 rfl rfl fun fr r=>?_;have hB:=Below.refl w0.heap.size w0
 have lc0b:=lt_of_block c0h;have lc1b:=lt_of_block c1h;have lc2b:=lt_of_block c2h;refine wsr ?_;refine kX 40 (U a0) r rfl rfl fun b1 w2 n3 r=>?_;obtain ⟨E1,Z2,H1,hB,zB⟩:=n3.all hB
 refine ar (.cells (ai false aj.zero 0 0 0 0 .nilFunc) 84 (0,0)) r (fun R=>aq tz84) rfl fun fr b4 w5 n6 r=>?_;have H1:=keep n6.below H1
 obtain ⟨E4,Z5,H4,hB,zB⟩:=n6.all hB;refine wn (wsr (kF 0 r rfl mg rfl fun r=>kL (I c0.head) r rfl (keep hB c0h) to3 rfl rfl fun r=>kL (U c1) r rfl (keep hB c1h) to40 rfl rfl fun r=>kL (U c2) r rfl (keep hB c2h) to40 rfl rfl fun r=>ae (.func (.func 352) #[] #[zp c0b,zp c1b,zp b1]) r (fun R=>aW r rfl) rfl fun fr r=>?_));have hF1:=aA hF hB b4
 have f7:((kW F w0 w5 b4)) c0b:=(.inl c0F);have f8:((kW F w0 w5 b4)) c1b:=(.inl c1F);have f9:((kW F w0 w5 b4)) b1:=(.inr ⟨by omega,by omega,by omega⟩)
 refine kD r (jf (F:=(kW F w0 w5 b4)) (n:=n) hF1 c0.head c1 c2 ⟨352,[],[zp c0b,zp c1b,zp b1],Dl,rfl,fun m hm x w' hs hz=>vZ (j:=j) (fun b hb=>Nat.lt_of_lt_of_le (hF1 b hb) hz) (by omega) (fun m' hm'=>ih_queue_where_take m' (by omega)) c0 f7 (hs.at_ f7 (keep hB c0h)) c1 f8 (hs.at_ f8 (keep hB c1h)) a0 f9 (hs.at_ f9 H1) x⟩) rfl jX rfl fun w10 v11 hb hr12 r=>?_;have Z10:=hb.size
 have H1:=keep hb H1;have H4:=keep hb H4;obtain ⟨hB,zB⟩:=bon hb hB;refine kP r hr12.shape rfl rfl H4 ts84 rfl rfl fun w13 u14 r=>?_;have Z13:=u14.size
 have H1:=u14.keep H1 (by omega)
 have H4:=u14.at_;obtain ⟨hB,zB⟩:=u14.on hB (by omega)
 exact wn (wp_ret (kR r hr12 rfl rfl H4 rfl ta84 hF hB u14 (by omega) (by omega) (by omega)))
theorem wH {r_queue_where_take:Where→T Res} (hF:kH F w0) (hj:n<j) (ih_queue_where_take:∀ m,m≤n→dO r_queue_where_take m)
    (c0:Where) {c0b:Nat} (c0F:F c0b) (c0h:w0.heap[c0b]?=some (.cells ((bc c0)).toArray 252 (0,0))) (a0:Bool) :
    Calls Tryz.prog 350 #[.bool a0,zp c0b] w0 (av Tryz.prog aj n (D.nj j r_queue_where_take c0 a0) F w0):=by
 refine enter Tryz.func350 rfl 6 rfl rfl fun fr r=>?_;have hB:=Below.refl w0.heap.size w0
 have lc0b:=lt_of_block c0h;refine wsr ?_;refine ar (.cells (ai false aj.zero 0 0 0 0 .nilFunc) 84 (0,0)) r (fun R=>aq tz84) rfl fun fr b1 w2 n3 r=>?_;obtain ⟨E1,Z2,H1,hB,zB⟩:=n3.all hB
 refine wn (wsr (kG (bc c0) 10 r rfl (keep hB c0h) cZ rfl rfl fun r=>?_));have hF1:=aA hF hB b1
 refine kD r ((ih_queue_where_take n (by omega)) (kW F w0 w2 b1) _ hF1 c0) rfl mI rfl fun w4 v5 hb hr6 r=>?_;have Z4:=hb.size
 have H1:=keep hb H1;obtain ⟨hB,zB⟩:=bon hb hB;refine kP r hr6.shape rfl rfl H1 ts84 rfl rfl fun w7 u8 r=>?_;have Z7:=u8.size
 have H1:=u8.at_;obtain ⟨hB,zB⟩:=u8.on hB (by omega)
 exact wn (wp_ret (kR r hr6 rfl rfl H1 rfl ta84 hF hB u8 (by omega) (by omega) (by omega)))
theorem wV {r_queue_where_take:Where→T Res} (hF:kH F w0) (hj:n<j) (ih_queue_where_take:∀ m,m<n→dO r_queue_where_take m)
    (a0:Where) (a1:Int) (a2:Int) (a3:Int) :
    Calls Tryz.prog 273 #[.agg (bc a0).toArray,.int .u64 a1,.int .u64 a2,.int .u64 a3] w0 (av Tryz.prog aj n (D.eH j r_queue_where_take a0 a1 a2 a3) F w0):=by
 refine enter Tryz.func273 rfl 32 rfl rfl fun fr r=>?_;have hB:=Below.refl w0.heap.size w0
 refine wsr ?_;refine kX 252 (.agg (bc a0).toArray) r rfl rfl fun b1 w2 n3 r=>?_;obtain ⟨E1,Z2,H1,hB,zB⟩:=n3.all hB
 refine kX 40 (U a1) r rfl rfl fun b4 w5 n6 r=>?_;have H1:=keep n6.below H1
 obtain ⟨E4,Z5,H4,hB,zB⟩:=n6.all hB;refine kX 40 (U a3) r rfl rfl fun b7 w8 n9 r=>?_;have H1:=keep n9.below H1
 have H4:=keep n9.below H4;obtain ⟨E7,Z8,H7,hB,zB⟩:=n9.all hB;refine ar (.cells (ai false aj.zero 0 0 0 0 .nilFunc) 84 (0,0)) r (fun R=>aq tz84) rfl fun fr b10 w11 n12 r=>?_;have H1:=keep n12.below H1
 have H4:=keep n12.below H4;have H7:=keep n12.below H7;obtain ⟨E10,Z11,H10,hB,zB⟩:=n12.all hB;refine wn (wp_seq (wp_block (wsr (kL (U a3) r rfl H7 to40 rfl rfl fun r=>kB r rfl rfl rfl rfl rfl fun r=>kA (.bool (a3==0)) r rfl rfl fun r=>wn ?_))));refine wp_cond_split (t:=(a3==0)) (r.ev rfl) (fun h13=>?_) (fun h13=>?_)
 ·
  refine wsr (kG (bc a0) 10 r rfl H1 cZ rfl rfl fun r=>?_);have hF1:=aA hF hB b10
  refine kD r (qK (F:=(kW F w0 w11 b10)) (n:=n) hF1 a0 ⟨349,[],[],BR,rfl,fun m hm _ w' hs hz=>wF (fun b hb=>Nat.lt_of_lt_of_le (hF1 b hb) hz) ⟩) rfl vz rfl fun w14 v15 hb hr16 r=>?_;have Z14:=hb.size
  have H1:=keep hb H1;have H4:=keep hb H4;have H7:=keep hb H7;have H10:=keep hb H10;obtain ⟨hB,zB⟩:=bon hb hB;refine kP r hr16.shape rfl rfl H10 ts84 rfl rfl fun w17 u18 r=>?_;have Z17:=u18.size
  have H1:=u18.keep H1 (by omega)
  have H4:=u18.keep H4 (by omega)
  have H7:=u18.keep H7 (by omega)
  have H10:=u18.at_;obtain ⟨hB,zB⟩:=u18.on hB (by omega)
  refine wn (wp_ret ?_);have hd:D.eH j r_queue_where_take a0 a1 a2 a3=(D.fY a0 (fun _=>D.kK)):=(ay h13).trans (rfl)
  have hs:=hr16.shape.cells;refine aH r rfl rfl H10 (k:=8) hs.1 ta84 ?_;rw [←hs.2.2,hd];exact rfin hF hB hr16 u18 (by omega) (by omega) (by omega)
 refine wsr (kL (U a1) r rfl H4 to40 rfl rfl fun r=>kM (U a2) r rfl rfl fun r=>kB r rfl rfl rfl rfl rfl fun r=>kA (.bool (a1==a2)) r rfl rfl fun r=>wn ?_);refine wp_cond_split (t:=(a1==a2)) (r.ev rfl) (fun h19=>?_) (fun h19=>?_)
 ·
  refine wsr (kF 0 r rfl gG rfl fun r=>kL (I a0.tail) r rfl H1 to3 rfl rfl fun r=>kM (U a2) r rfl rfl fun r=>kL (U a3) r rfl H7 to40 rfl rfl fun r=>ae (.func (.func 350) #[] #[zp b1]) r (fun R=>aW r rfl) rfl fun fr r=>?_);have hF1:=aA hF hB b10
  have f20:((kW F w0 w11 b10)) b1:=(.inr ⟨by omega,by omega,by omega⟩)
  refine kD r (jf (F:=(kW F w0 w11 b10)) (n:=n) hF1 a0.tail a2 a3 ⟨350,[],[zp b1],Dd,rfl,fun m hm x w' hs hz=>wH (j:=j) (fun b hb=>Nat.lt_of_lt_of_le (hF1 b hb) hz) (by omega) (fun m' hm'=>ih_queue_where_take m' (by omega)) a0 f20 (hs.at_ f20 H1) x⟩) rfl jX rfl fun w21 v22 hb hr23 r=>?_;have Z21:=hb.size
  have H1:=keep hb H1;have H4:=keep hb H4;have H7:=keep hb H7;have H10:=keep hb H10;obtain ⟨hB,zB⟩:=bon hb hB;refine kP r hr23.shape rfl rfl H10 ts84 rfl rfl fun w24 u25 r=>?_;have Z24:=u25.size
  have H1:=u25.keep H1 (by omega)
  have H4:=u25.keep H4 (by omega)
  have H7:=u25.keep H7 (by omega)
  have H10:=u25.at_;obtain ⟨hB,zB⟩:=u25.on hB (by omega)
  refine wn (wp_ret ?_);have hd:D.eH j r_queue_where_take a0 a1 a2 a3=(D.dQ a0.tail a2 a3 (fun x=>(D.nj j r_queue_where_take a0 x))):=(aw h13).trans ((ay h19).trans (rfl))
  have hs:=hr23.shape.cells;refine aH r rfl rfl H10 (k:=8) hs.1 ta84 ?_;rw [←hs.2.2,hd];exact rfin hF hB hr23 u25 (by omega) (by omega) (by omega)
 refine wp_skip (wp_seq ?_);refine bw 7 [.val (zp b1),.val (zp b1),.val (.agg (af a0.seat.p).toArray),.val (U a3),.val (I (D.bq a3)),.val (I (D.bS a0.seat.p (D.bq a3) 1)),.val (.func (.func 351) #[] #[zp b1,zp b4,zp b7])] mixed r (by kernel_rfl) (ag (by exact trivial) (ag (by exact trivial) (ag (by exact trivial) (ag (by exact trivial) (ag (by exact trivial) (ag (by exact trivial) (ag (by exact trivial) bv))))))) ?_ ?_
 ·
  refine ec r (fun _ u _ b d s=>aG s (b:=b1) (o:=0) rfl dn bz) (ec r (fun _ u _ b d s=>aG s (b:=b1) (o:=0) d.1 dV bz) (ec r (fun _ u _ b d s=>aU s (cs:=(af a0.seat.p)) (n:=6) d.1 (keep b H1) ta23 rfl bz) (ec r (fun _ u _ b d s=>aB s rfl (keep b H7) to40 rfl bz) (ec r (fun fr1 u w' hb' hd r'=>aP r' (args:=[(U a3)]) (lc hd.1 l0) gL ((gk _ a3).mono (by rintro _ w2 ⟨rfl,hb2⟩; exact ⟨_,rfl,hb2,rfl⟩))) (ec r (fun fr1 u w' hb' hd r'=>aP r' (args:=[(.agg (af a0.seat.p).toArray),(I (D.bq a3)),(I 1)]) (lc hd.1 (lc hd.2.1 (lc rfl l0))) gO ((fX _ a0.seat.p (D.bq a3) 1).mono (by rintro _ w2 ⟨rfl,hb2⟩; exact ⟨_,rfl,hb2,rfl⟩))) (ec r (fun _ u _ b d s=>aW s (v:=(.func (.func 351) #[] #[zp b1,zp b4,zp b7])) rfl bz) ?_))))));exact bA
 intro fr u w26 hb hΦ hne r;have r:=r.congr (sc (hΦ 6 (by decide)) (sc (hΦ 5 (by decide)) (sc (hΦ 4 (by decide)) (sc (hΦ 3 (by decide)) (sc (hΦ 2 (by decide)) (sc (hΦ 1 (by decide)) (sc (hΦ 0 (by decide)) rfl)))))));have Z26:=hb.size;have H1:=keep hb H1;have H4:=keep hb H4;have H7:=keep hb H7;have H10:=keep hb H10;obtain ⟨hB,zB⟩:=bon hb hB;have hF1:=aA hF hB b10;have f27:((kW F w0 w26 b10)) b1:=(.inr ⟨by omega,by omega,by omega⟩)
 have f28:((kW F w0 w26 b10)) b4:=(.inr ⟨by omega,by omega,by omega⟩)
 have f29:((kW F w0 w26 b10)) b7:=(.inr ⟨by omega,by omega,by omega⟩)
 refine kD r (gW (F:=(kW F w0 w26 b10)) (n:=n) hF1 (D.bS a0.seat.p (D.bq a3) 1) ⟨351,[],[zp b1,zp b4,zp b7],Cp,rfl,fun m hm x w' hs hz=>wJ (j:=j) (fun b hb=>Nat.lt_of_lt_of_le (hF1 b hb) hz) (by omega) (fun m' hm'=>ih_queue_where_take m' (by omega)) a0 f27 (hs.at_ f27 H1) a1 f28 (hs.at_ f28 H4) a3 f29 (hs.at_ f29 H7) x⟩) rfl iU rfl fun w30 v31 hb hr32 r=>?_;have Z30:=hb.size
 have H1:=keep hb H1;have H4:=keep hb H4;have H7:=keep hb H7;have H10:=keep hb H10;obtain ⟨hB,zB⟩:=bon hb hB;refine kP r hr32.shape rfl rfl H10 ts84 rfl rfl fun w33 u34 r=>?_;have Z33:=u34.size
 have H1:=u34.keep H1 (by omega)
 have H4:=u34.keep H4 (by omega)
 have H7:=u34.keep H7 (by omega)
 have H10:=u34.at_;obtain ⟨hB,zB⟩:=u34.on hB (by omega)
 refine wn (wp_ret ?_);have hd:D.eH j r_queue_where_take a0 a1 a2 a3=(D.eP (D.bS a0.seat.p (D.bq a3) 1) (fun x=>(D.kz j r_queue_where_take a0 a1 a3 x))):=(aw h13).trans ((aw h19).trans (rfl))
 have hs:=hr32.shape.cells;refine aH r rfl rfl H10 (k:=8) hs.1 ta84 ?_;rw [←hs.2.2,hd];exact rfin hF hB hr32 u34 (by omega) (by omega) (by omega)
theorem vH {r_queue_where_take:Where→T Res} (hF:kH F w0) (hj:n<j) (ih_queue_where_take:∀ m,m≤n→dO r_queue_where_take m)
    (c0:Int) {c0b:Nat} (c0F:F c0b) (c0h:w0.heap[c0b]?=some (.cells ([(.int .u64 c0)]).toArray 40 (0,0))) (c1:Where) {c1b:Nat} (c1F:F c1b) (c1h:w0.heap[c1b]?=some (.cells ((bc c1)).toArray 252 (0,0))) (c2:Int) {c2b:Nat} (c2F:F c2b) (c2h:w0.heap[c2b]?=some (.cells ([(.int .u64 c2)]).toArray 40 (0,0))) (c3:Int) {c3b:Nat} (c3F:F c3b) (c3h:w0.heap[c3b]?=some (.cells ([(.int .u64 c3)]).toArray 40 (0,0))) (a0:Int) :
    Calls Tryz.prog 272 #[.int .u64 a0,zp c0b,zp c1b,zp c2b,zp c3b] w0 (av Tryz.prog aj n (D.iV j r_queue_where_take c0 c1 c2 c3 a0) F w0):=by
 refine enter Tryz.func272 rfl 17 rfl rfl fun fr r=>?_;have hB:=Below.refl w0.heap.size w0
 have lc0b:=lt_of_block c0h;have lc1b:=lt_of_block c1h;have lc2b:=lt_of_block c2h;have lc3b:=lt_of_block c3h;refine wsr ?_;refine ar (.cells (ai false aj.zero 0 0 0 0 .nilFunc) 84 (0,0)) r (fun R=>aq tz84) rfl fun fr b1 w2 n3 r=>?_;obtain ⟨E1,Z2,H1,hB,zB⟩:=n3.all hB
 refine wn (wp_seq (wsr (kM (U a0) r rfl rfl fun r=>kL (U c0) r rfl (keep hB c0h) to40 rfl rfl fun r=>kB r rfl rfl rfl rfl rfl fun r=>wn ?_)));refine wp_cond_split (t:=(a0 !=c0)) (r.ev rfl) (fun h4=>?_) (fun h4=>?_)
 ·
  refine wsr (kG (bc c1) 10 r rfl (keep hB c1h) cZ rfl rfl fun r=>?_);have hF1:=aA hF hB b1
  refine kD r ((ih_queue_where_take n (by omega)) (kW F w0 w2 b1) _ hF1 c1) rfl mI rfl fun w5 v6 hb hr7 r=>?_;have Z5:=hb.size
  have H1:=keep hb H1;obtain ⟨hB,zB⟩:=bon hb hB;refine kP r hr7.shape rfl rfl H1 ts84 rfl rfl fun w8 u9 r=>?_;have Z8:=u9.size
  have H1:=u9.at_;obtain ⟨hB,zB⟩:=u9.on hB (by omega)
  refine wn (wp_ret ?_);have hd:D.iV j r_queue_where_take c0 c1 c2 c3 a0=(r_queue_where_take c1):=(ay h4).trans (rfl);have hs:=hr7.shape.cells;refine aH r rfl rfl H1 (k:=8) hs.1 ta84 ?_;rw [←hs.2.2,hd];exact rfin hF hB hr7 u9 (by omega) (by omega) (by omega)
 refine wp_skip (wsr (kG (bc c1) 10 r rfl (keep hB c1h) cZ rfl rfl fun r=>kL (U c0) r rfl (keep hB c0h) to40 rfl rfl fun r=>kL (U c2) r rfl (keep hB c2h) to40 rfl rfl fun r=>kL (U c3) r rfl (keep hB c3h) to40 rfl rfl fun r=>?_));have hF1:=aA hF hB b1
 refine kD r (wV (j:=j) (F:=(kW F w0 w2 b1)) (n:=n) hF1 (by omega) (fun m' hm'=>ih_queue_where_take m' (by omega)) c1 c0 c2 c3) rfl Cs rfl fun w10 v11 hb hr12 r=>?_;have Z10:=hb.size
 have H1:=keep hb H1;obtain ⟨hB,zB⟩:=bon hb hB;refine kP r hr12.shape rfl rfl H1 ts84 rfl rfl fun w13 u14 r=>?_;have Z13:=u14.size
 have H1:=u14.at_;obtain ⟨hB,zB⟩:=u14.on hB (by omega)
 refine wn (wp_ret ?_);have hd:D.iV j r_queue_where_take c0 c1 c2 c3 a0=(D.eH j r_queue_where_take c1 c0 c2 c3):=(aw h4).trans (rfl);have hs:=hr12.shape.cells;refine aH r rfl rfl H1 (k:=8) hs.1 ta84 ?_;rw [←hs.2.2,hd];exact rfin hF hB hr12 u14 (by omega) (by omega) (by omega)
theorem vL {r_queue_where_take:Where→T Res} (hF:kH F w0) (hj:n<j) (ih_queue_where_take:∀ m,m<n→dO r_queue_where_take m)
    (c0:Where) {c0b:Nat} (c0F:F c0b) (c0h:w0.heap[c0b]?=some (.cells ((bc c0)).toArray 252 (0,0))) (c1:Int) {c1b:Nat} (c1F:F c1b) (c1h:w0.heap[c1b]?=some (.cells ([(.int .u64 c1)]).toArray 40 (0,0))) (c2:Int) {c2b:Nat} (c2F:F c2b) (c2h:w0.heap[c2b]?=some (.cells ([(.int .u64 c2)]).toArray 40 (0,0))) (c3:Int) {c3b:Nat} (c3F:F c3b) (c3h:w0.heap[c3b]?=some (.cells ([(.int .u64 c3)]).toArray 40 (0,0))) :
    Calls Tryz.prog 271 #[zp c0b,zp c1b,zp c2b,zp c3b] w0 (av Tryz.prog aj n (D.kq j r_queue_where_take c0 c1 c2 c3) F w0):=by
 refine enter Tryz.func271 rfl 9 rfl rfl fun fr r=>?_;have hB:=Below.refl w0.heap.size w0
 have lc0b:=lt_of_block c0h;have lc1b:=lt_of_block c1h;have lc2b:=lt_of_block c2h;have lc3b:=lt_of_block c3h;refine wsr ?_;refine ar (.cells (ai false aj.zero 0 0 0 0 .nilFunc) 84 (0,0)) r (fun R=>aq tz84) rfl fun fr b1 w2 n3 r=>?_;obtain ⟨E1,Z2,H1,hB,zB⟩:=n3.all hB
 refine wn (wsr (kF 0 r rfl mg rfl fun r=>kL (I c0.head) r rfl (keep hB c0h) to3 rfl rfl fun r=>ae (.func (.func 272) #[] #[zp c1b,zp c0b,zp c2b,zp c3b]) r (fun R=>aW r rfl) rfl fun fr r=>?_));have hF1:=aA hF hB b1
 have f4:((kW F w0 w2 b1)) c1b:=(.inl c1F);have f5:((kW F w0 w2 b1)) c0b:=(.inl c0F);have f6:((kW F w0 w2 b1)) c2b:=(.inl c2F);have f7:((kW F w0 w2 b1)) c3b:=(.inl c3F);refine kD r (gW (F:=(kW F w0 w2 b1)) (n:=n) hF1 c0.head ⟨272,[],[zp c1b,zp c0b,zp c2b,zp c3b],Ct,rfl,fun m hm x w' hs hz=>vH (j:=j) (fun b hb=>Nat.lt_of_lt_of_le (hF1 b hb) hz) (by omega) (fun m' hm'=>ih_queue_where_take m' (by omega)) c1 f4 (hs.at_ f4 (keep hB c1h)) c0 f5 (hs.at_ f5 (keep hB c0h)) c2 f6 (hs.at_ f6 (keep hB c2h)) c3 f7 (hs.at_ f7 (keep hB c3h)) x⟩) rfl iU rfl fun w8 v9 hb hr10 r=>?_;have Z8:=hb.size
 have H1:=keep hb H1;obtain ⟨hB,zB⟩:=bon hb hB;refine kP r hr10.shape rfl rfl H1 ts84 rfl rfl fun w11 u12 r=>?_;have Z11:=u12.size
 have H1:=u12.at_;obtain ⟨hB,zB⟩:=u12.on hB (by omega)
 exact wn (wp_ret (kR r hr10 rfl rfl H1 rfl ta84 hF hB u12 (by omega) (by omega) (by omega)))
theorem vT {r_queue_where_take:Where→T Res} (hF:kH F w0) (hj:n<j) (ih_queue_where_take:∀ m,m<n→dO r_queue_where_take m)
    (c0:Where) {c0b:Nat} (c0F:F c0b) (c0h:w0.heap[c0b]?=some (.cells ((bc c0)).toArray 252 (0,0))) (c1:Int) {c1b:Nat} (c1F:F c1b) (c1h:w0.heap[c1b]?=some (.cells ([(.int .u64 c1)]).toArray 40 (0,0))) (c2:Int) {c2b:Nat} (c2F:F c2b) (c2h:w0.heap[c2b]?=some (.cells ([(.int .u64 c2)]).toArray 40 (0,0))) (a0:Int) :
    Calls Tryz.prog 269 #[.int .u64 a0,zp c0b,zp c1b,zp c2b] w0 (av Tryz.prog aj n (D.mW j r_queue_where_take c0 c1 c2 a0) F w0):=by
 refine enter Tryz.func269 rfl 11 rfl rfl fun fr r=>?_;have hB:=Below.refl w0.heap.size w0
 have lc0b:=lt_of_block c0h;have lc1b:=lt_of_block c1h;have lc2b:=lt_of_block c2h;refine wsr ?_;refine kX 40 (U a0) r rfl rfl fun b1 w2 n3 r=>?_;obtain ⟨E1,Z2,H1,hB,zB⟩:=n3.all hB
 refine ar (.cells (ai false aj.zero 0 0 0 0 .nilFunc) 84 (0,0)) r (fun R=>aq tz84) rfl fun fr b4 w5 n6 r=>?_;have H1:=keep n6.below H1
 obtain ⟨E4,Z5,H4,hB,zB⟩:=n6.all hB;refine wn (wp_seq ?_);refine bw 4 [.val (.agg (bc c0).toArray),.val (U a0),.val (I (D.bq a0)),.val (.func (.func 271) #[] #[zp c0b,zp c1b,zp c2b,zp b1])] mixed r (by kernel_rfl) (ag (by exact trivial) (ag (by exact trivial) (ag (by exact trivial) (ag (by exact trivial) bv)))) ?_ ?_
 ·
  refine ec r (fun _ u _ b d s=>aU s (cs:=(bc c0)) (n:=10) rfl (bo hB b c0h) cZ rfl bz) (ec r (fun _ u _ b d s=>aB s rfl (keep b H1) to40 rfl bz) (ec r (fun fr1 u w' hb' hd r'=>aP r' (args:=[(U a0)]) (lc hd.1 l0) gL ((gk _ a0).mono (by rintro _ w2 ⟨rfl,hb2⟩; exact ⟨_,rfl,hb2,rfl⟩))) (ec r (fun _ u _ b d s=>aW s (v:=(.func (.func 271) #[] #[zp c0b,zp c1b,zp c2b,zp b1])) rfl bz) ?_)));exact bA
 intro fr u w7 hb hΦ hne r;have r:=r.congr (sc (hΦ 3 (by decide)) (sc (hΦ 2 (by decide)) (sc (hΦ 1 (by decide)) (sc (hΦ 0 (by decide)) rfl))));have Z7:=hb.size;have H1:=keep hb H1;have H4:=keep hb H4;obtain ⟨hB,zB⟩:=bon hb hB;have hF1:=aA hF hB b4;have f8:((kW F w0 w7 b4)) c0b:=(.inl c0F);have f9:((kW F w0 w7 b4)) c1b:=(.inl c1F);have f10:((kW F w0 w7 b4)) c2b:=(.inl c2F);have f11:((kW F w0 w7 b4)) b1:=(.inr ⟨by omega,by omega,by omega⟩)
 refine kD r (l5 (F:=(kW F w0 w7 b4)) (n:=n) hF1 c0 1 (D.bq a0) ⟨271,[],[zp c0b,zp c1b,zp c2b,zp b1],BD,rfl,fun m hm _ w' hs hz=>vL (j:=j) (fun b hb=>Nat.lt_of_lt_of_le (hF1 b hb) hz) (by omega) (fun m' hm'=>ih_queue_where_take m' (by omega)) c0 f8 (hs.at_ f8 (keep hB c0h)) c1 f9 (hs.at_ f9 (keep hB c1h)) c2 f10 (hs.at_ f10 (keep hB c2h)) a0 f11 (hs.at_ f11 H1)⟩) rfl mz rfl fun w12 v13 hb hr14 r=>?_;have Z12:=hb.size
 have H1:=keep hb H1;have H4:=keep hb H4;obtain ⟨hB,zB⟩:=bon hb hB;refine kP r hr14.shape rfl rfl H4 ts84 rfl rfl fun w15 u16 r=>?_;have Z15:=u16.size
 have H1:=u16.keep H1 (by omega)
 have H4:=u16.at_;obtain ⟨hB,zB⟩:=u16.on hB (by omega)
 exact wn (wp_ret (kR r hr14 rfl rfl H4 rfl ta84 hF hB u16 (by omega) (by omega) (by omega)))
theorem wq {r_queue_where_take:Where→T Res} (hF:kH F w0) (hj:n<j) (ih_queue_where_take:∀ m,m<n→dO r_queue_where_take m)
    (c0:Where) {c0b:Nat} (c0F:F c0b) (c0h:w0.heap[c0b]?=some (.cells ((bc c0)).toArray 252 (0,0))) (c1:Int) {c1b:Nat} (c1F:F c1b) (c1h:w0.heap[c1b]?=some (.cells ([(.int .u64 c1)]).toArray 40 (0,0))) (a0:Int) :
    Calls Tryz.prog 268 #[.int .u64 a0,zp c0b,zp c1b] w0 (av Tryz.prog aj n (D.mY j r_queue_where_take c0 c1 a0) F w0):=by
 refine enter Tryz.func268 rfl 13 rfl rfl fun fr r=>?_;have hB:=Below.refl w0.heap.size w0
 have lc0b:=lt_of_block c0h;have lc1b:=lt_of_block c1h;refine wsr ?_;refine kX 40 (U a0) r rfl rfl fun b1 w2 n3 r=>?_;obtain ⟨E1,Z2,H1,hB,zB⟩:=n3.all hB
 refine ar (.cells (ai false aj.zero 0 0 0 0 .nilFunc) 84 (0,0)) r (fun R=>aq tz84) rfl fun fr b4 w5 n6 r=>?_;have H1:=keep n6.below H1
 obtain ⟨E4,Z5,H4,hB,zB⟩:=n6.all hB;refine wn (wp_seq ?_);refine bw 7 [.val (zp c0b),.val (zp c0b),.val (.agg (af c0.seat.p).toArray),.val (U c1),.val (I (D.bq c1)),.val (I (D.bS c0.seat.p (D.bq c1) 2)),.val (.func (.func 269) #[] #[zp c0b,zp c1b,zp b1])] mixed r (by kernel_rfl) (ag (by exact trivial) (ag (by exact trivial) (ag (by exact trivial) (ag (by exact trivial) (ag (by exact trivial) (ag (by exact trivial) (ag (by exact trivial) bv))))))) ?_ ?_
 ·
  refine ec r (fun _ u _ b d s=>aG s (b:=c0b) (o:=0) rfl dn bz) (ec r (fun _ u _ b d s=>aG s (b:=c0b) (o:=0) d.1 dV bz) (ec r (fun _ u _ b d s=>aU s (cs:=(af c0.seat.p)) (n:=6) d.1 (bo hB b c0h) ta23 rfl bz) (ec r (fun _ u _ b d s=>aB s rfl (bo hB b c1h) to40 rfl bz) (ec r (fun fr1 u w' hb' hd r'=>aP r' (args:=[(U c1)]) (lc hd.1 l0) gL ((gk _ c1).mono (by rintro _ w2 ⟨rfl,hb2⟩; exact ⟨_,rfl,hb2,rfl⟩))) (ec r (fun fr1 u w' hb' hd r'=>aP r' (args:=[(.agg (af c0.seat.p).toArray),(I (D.bq c1)),(I 2)]) (lc hd.1 (lc hd.2.1 (lc rfl l0))) gO ((fX _ c0.seat.p (D.bq c1) 2).mono (by rintro _ w2 ⟨rfl,hb2⟩; exact ⟨_,rfl,hb2,rfl⟩))) (ec r (fun _ u _ b d s=>aW s (v:=(.func (.func 269) #[] #[zp c0b,zp c1b,zp b1])) rfl bz) ?_))))));exact bA
 intro fr u w7 hb hΦ hne r;have r:=r.congr (sc (hΦ 6 (by decide)) (sc (hΦ 5 (by decide)) (sc (hΦ 4 (by decide)) (sc (hΦ 3 (by decide)) (sc (hΦ 2 (by decide)) (sc (hΦ 1 (by decide)) (sc (hΦ 0 (by decide)) rfl)))))));have Z7:=hb.size;have H1:=keep hb H1;have H4:=keep hb H4;obtain ⟨hB,zB⟩:=bon hb hB;have hF1:=aA hF hB b4;have f8:((kW F w0 w7 b4)) c0b:=(.inl c0F);have f9:((kW F w0 w7 b4)) c1b:=(.inl c1F);have f10:((kW F w0 w7 b4)) b1:=(.inr ⟨by omega,by omega,by omega⟩)
 refine kD r (gW (F:=(kW F w0 w7 b4)) (n:=n) hF1 (D.bS c0.seat.p (D.bq c1) 2) ⟨269,[],[zp c0b,zp c1b,zp b1],BM,rfl,fun m hm x w' hs hz=>vT (j:=j) (fun b hb=>Nat.lt_of_lt_of_le (hF1 b hb) hz) (by omega) (fun m' hm'=>ih_queue_where_take m' (by omega)) c0 f8 (hs.at_ f8 (keep hB c0h)) c1 f9 (hs.at_ f9 (keep hB c1h)) a0 f10 (hs.at_ f10 H1) x⟩) rfl iU rfl fun w11 v12 hb hr13 r=>?_;have Z11:=hb.size
 have H1:=keep hb H1;have H4:=keep hb H4;obtain ⟨hB,zB⟩:=bon hb hB;refine kP r hr13.shape rfl rfl H4 ts84 rfl rfl fun w14 u15 r=>?_;have Z14:=u15.size
 have H1:=u15.keep H1 (by omega)
 have H4:=u15.at_;obtain ⟨hB,zB⟩:=u15.on hB (by omega)
 exact wn (wp_ret (kR r hr13 rfl rfl H4 rfl ta84 hF hB u15 (by omega) (by omega) (by omega)))
theorem wL {r_queue_where_take:Where→T Res} (hF:kH F w0) (hj:n<j) (ih_queue_where_take:∀ m,m<n→dO r_queue_where_take m)
    (c0:Where) {c0b:Nat} (c0F:F c0b) (c0h:w0.heap[c0b]?=some (.cells ((bc c0)).toArray 252 (0,0))) (a0:Int) :
    Calls Tryz.prog 267 #[.int .u64 a0,zp c0b] w0 (av Tryz.prog aj n (D.kO j r_queue_where_take c0 a0) F w0):=by
 refine enter Tryz.func267 rfl 8 rfl rfl fun fr r=>?_;have hB:=Below.refl w0.heap.size w0
 have lc0b:=lt_of_block c0h;refine wsr ?_;refine kX 40 (U a0) r rfl rfl fun b1 w2 n3 r=>?_;obtain ⟨E1,Z2,H1,hB,zB⟩:=n3.all hB
 refine ar (.cells (ai false aj.zero 0 0 0 0 .nilFunc) 84 (0,0)) r (fun R=>aq tz84) rfl fun fr b4 w5 n6 r=>?_;have H1:=keep n6.below H1
 obtain ⟨E4,Z5,H4,hB,zB⟩:=n6.all hB;refine wn (wsr (kF 0 r rfl gG rfl fun r=>kL (I c0.tail) r rfl (keep hB c0h) to3 rfl rfl fun r=>ae (.func (.func 268) #[] #[zp c0b,zp b1]) r (fun R=>aW r rfl) rfl fun fr r=>?_));have hF1:=aA hF hB b4
 have f7:((kW F w0 w5 b4)) c0b:=(.inl c0F);have f8:((kW F w0 w5 b4)) b1:=(.inr ⟨by omega,by omega,by omega⟩)
 refine kD r (gW (F:=(kW F w0 w5 b4)) (n:=n) hF1 c0.tail ⟨268,[],[zp c0b,zp b1],CJ,rfl,fun m hm x w' hs hz=>wq (j:=j) (fun b hb=>Nat.lt_of_lt_of_le (hF1 b hb) hz) (by omega) (fun m' hm'=>ih_queue_where_take m' (by omega)) c0 f7 (hs.at_ f7 (keep hB c0h)) a0 f8 (hs.at_ f8 H1) x⟩) rfl iU rfl fun w9 v10 hb hr11 r=>?_;have Z9:=hb.size
 have H1:=keep hb H1;have H4:=keep hb H4;obtain ⟨hB,zB⟩:=bon hb hB;refine kP r hr11.shape rfl rfl H4 ts84 rfl rfl fun w12 u13 r=>?_;have Z12:=u13.size
 have H1:=u13.keep H1 (by omega)
 have H4:=u13.at_;obtain ⟨hB,zB⟩:=u13.on hB (by omega)
 exact wn (wp_ret (kR r hr11 rfl rfl H4 rfl ta84 hF hB u13 (by omega) (by omega) (by omega)))
theorem xk {n:Nat} {F:Nat→Prop} {j:Nat} {r_queue_where_take:Where→T Res} {w0:World} (hF:∀ b,F b→b<w0.heap.size) (hj:n<j) (ih_queue_where_take:∀ m,m<n→dO r_queue_where_take m)
    (a0:Where) :
    Calls Tryz.prog 159 #[.agg (bc a0).toArray] w0 (av Tryz.prog aj n (D.kw j r_queue_where_take a0) F w0):=by
 refine enter Tryz.func159 rfl 14 rfl rfl fun fr r=>?_;have hB:=Below.refl w0.heap.size w0
 refine wsr ?_;refine kX 252 (.agg (bc a0).toArray) r rfl rfl fun b1 w2 n3 r=>?_;obtain ⟨E1,Z2,H1,hB,zB⟩:=n3.all hB
 refine ar (.cells (ai false aj.zero 0 0 0 0 .nilFunc) 84 (0,0)) r (fun R=>aq tz84) rfl fun fr b4 w5 n6 r=>?_;have H1:=keep n6.below H1
 obtain ⟨E4,Z5,H4,hB,zB⟩:=n6.all hB;refine wn (wsr (kF 0 r rfl dn rfl fun r=>kF 0 r rfl dV rfl fun r=>kG (af a0.seat.p) 6 r rfl H1 ta23 rfl rfl fun r=>kF 0 r rfl dn rfl fun r=>kF 0 r rfl jQ rfl fun r=>kL (I a0.seat.thread) r rfl H1 to3 rfl rfl fun r=>kF 0 r rfl mg rfl fun r=>kL (I a0.head) r rfl H1 to3 rfl rfl fun r=>?_));have hF1:=aA hF hB b4
 refine kD r (ru (j:=j) (F:=(kW F w0 w5 b4)) (n:=n) hF1 (by omega) a0.seat.p a0.seat.thread 0 a0.head 0 (by first | assumption | decide)) rfl uD rfl fun w7 v8 hb hr9 r=>?_;have Z7:=hb.size
 have H1:=keep hb H1;have H4:=keep hb H4;obtain ⟨hB,zB⟩:=bon hb hB;refine ae (.func (.func 267) #[] #[zp b1]) r (fun R=>aW r rfl) rfl fun fr r=>?_;have hF1:=aA hF hB b4
 have f10:((kW F w0 w7 b4)) b1:=(.inr ⟨by omega,by omega,by omega⟩)
 refine kD r (qw (F:=(kW F w0 w7 b4)) (n:=n) hF1 (Rep.mono (by rintro b (h | h); (rcases h with h | ⟨h1,h2,h3⟩; exact .inl h; exact .inr ⟨h1,by omega,h3⟩); exact .inr ⟨by omega,by omega,by omega⟩) (Same.refl _ _) (by omega) n _ _ hr9) ⟨267,[],[zp b1],Dj,rfl,fun m hm x w' hs hz=>wL (j:=j) (fun b hb=>Nat.lt_of_lt_of_le (hF1 b hb) hz) (by omega) (fun m' hm'=>ih_queue_where_take m' (by omega)) a0 f10 (hs.at_ f10 H1) x⟩) rfl pM rfl fun w11 v12 hb hr13 r=>?_
 have Z11:=hb.size;have H1:=keep hb H1;have H4:=keep hb H4;obtain ⟨hB,zB⟩:=bon hb hB;refine kP r hr13.shape rfl rfl H4 ts84 rfl rfl fun w14 u15 r=>?_;have Z14:=u15.size
 have H1:=u15.keep H1 (by omega)
 have H4:=u15.at_;obtain ⟨hB,zB⟩:=u15.on hB (by omega)
 exact wn (wp_ret (kR r hr13 rfl rfl H4 rfl ta84 hF hB u15 (by omega) (by omega) (by omega)))
theorem xp {n:Nat} {j:Nat} (hj:n<j) {k:Nat} (hk:n<k):dO (D.fw j k) n:=by
  induction n using Nat.strongRecOn generalizing k with
  | _ n ih=>
    obtain ⟨k,rfl⟩:∃ q,k=q+1:=⟨k - 1,by omega⟩
    intro F w0 hF;have h:=@xk n F j (D.fw j k) w0 hF hj (fun m hm=>ih m hm (by omega) (by omega))
    exact h
def D.cM (j:Nat) (a0:Seat) (a1:Int):T Res:=(D.fw j j (D.cH a0 a1))
theorem zm (hF:kH F w0) (hj:n<j)
    (a0:Seat) (a1:Int) :
    Calls Tryz.prog 64 #[.agg (bg a0).toArray,.int .i64 a1] w0 (av Tryz.prog aj n (D.cM j a0 a1) F w0):=by
 refine enter Tryz.func64 rfl 9 rfl rfl fun fr r=>?_;have hB:=Below.refl w0.heap.size w0
 refine wsr ?_;refine kX 90 (.agg (bg a0).toArray) r rfl rfl fun b1 w2 n3 r=>?_;obtain ⟨E1,Z2,H1,hB,zB⟩:=n3.all hB
 refine ar (.cells (ai false aj.zero 0 0 0 0 .nilFunc) 84 (0,0)) r (fun R=>aq tz84) rfl fun fr b4 w5 n6 r=>?_;have H1:=keep n6.below H1
 obtain ⟨E4,Z5,H4,hB,zB⟩:=n6.all hB;refine wn (wsr (kG (bg a0) 8 r rfl H1 ta90 rfl rfl fun r=>kM (I a1) r rfl rfl fun r=>?_));refine kE r (oC w5 a0 a1) rfl qa rfl fun w7 hb r=>?_
 have Z7:=hb.size;have H1:=keep hb H1;have H4:=keep hb H4;obtain ⟨hB,zB⟩:=bon hb hB;have hF1:=aA hF hB b4;refine kD r ((xp (j:=j) (k:=j) (n:=n) (by omega) (by omega)) (kW F w0 w7 b4) _ hF1 (D.cH a0 a1)) rfl mI rfl fun w8 v9 hb hr10 r=>?_
 have Z8:=hb.size;have H1:=keep hb H1;have H4:=keep hb H4;obtain ⟨hB,zB⟩:=bon hb hB;refine kP r hr10.shape rfl rfl H4 ts84 rfl rfl fun w11 u12 r=>?_;have Z11:=u12.size
 have H1:=u12.keep H1 (by omega)
 have H4:=u12.at_;obtain ⟨hB,zB⟩:=u12.on hB (by omega)
 exact wn (wp_ret (kR r hr10 rfl rfl H4 rfl ta84 hF hB u12 (by omega) (by omega) (by omega)))
end
end Go.Proofs.YtfpgnmhcfkikkaaGreat

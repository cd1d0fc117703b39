/- Some of our texts, one behind the other. -/
import Derived.Test.YtikjpdpgdmbdpaaGreatLkRetires
import Derived.Test.YtikjpdpgdmbdpaaGreatLkM17
set_option linter.all false
/- Ours. -/
set_option maxRecDepth 20000
set_option maxHeartbeats 2000000
namespace Go.Proofs.YtikjpdpgdmbdpaaGreat
open Go.RowKit
section
variable {n : Nat} {F : Nat → Prop} {j : Nat} {w0 : World}
theorem Dp:ag Tryz.prog 154:=by kernel_rfl
theorem vp:ag Tryz.prog 155:=by kernel_rfl
theorem vF:ag Tryz.prog 156:=by kernel_rfl
theorem CR:ag Tryz.prog 159:=by kernel_rfl
theorem wE:ag Tryz.prog 160:=by kernel_rfl
theorem CL:ag Tryz.prog 161:=by kernel_rfl
theorem Cy:ag Tryz.prog 165:=by kernel_rfl
theorem CQ:ag Tryz.prog 167:=by kernel_rfl
theorem DK:ag Tryz.prog 169:=by kernel_rfl
theorem EM:ag Tryz.prog 170:=by kernel_rfl
theorem Df:ag Tryz.prog 248:=by kernel_rfl
theorem Dl:ag Tryz.prog 249:=by kernel_rfl
theorem D9:ag Tryz.prog 250:=by kernel_rfl
theorem CO:ag Tryz.prog 251:=by kernel_rfl
theorem Dh:ag Tryz.prog 252:=by kernel_rfl
theorem EI:ag Tryz.prog 270:=by kernel_rfl
theorem vn:ag Tryz.prog 272:=by kernel_rfl
theorem Di:ag Tryz.prog 273:=by kernel_rfl
theorem EQ:ag Tryz.prog 274:=by kernel_rfl
theorem Ev:sized Tryz.prog 231 1:=by kernel_rfl
theorem DZ:sized Tryz.prog 280 1:=by kernel_rfl
theorem DW:zeroOf Tryz.prog 231=some .nilFunc:=by kernel_rfl
theorem Dk:zeroOf Tryz.prog 280=some .nilFunc:=by kernel_rfl
def D.rQ (c0:Int) (c1:State):T Grant:=(D.lC (⟨c0,c1.gen,0⟩:Grant))
theorem yB (hF:kH F w0)
    (c0:Int) {c0b:Nat} (c0F:F c0b) (c0h:w0.heap[c0b]?=some (.cells ([(.int .i64 c0)]).toArray 3 (0,0))) (c1:State) {c1b:Nat} (c1F:F c1b) (c1h:w0.heap[c1b]?=some (.cells ((aI c1)).toArray 137 (0,0))) :
    Calls Tryz.prog 252 #[zp c0b,zp c1b] w0 (aB Tryz.prog bm n (D.rQ c0 c1) F w0):=by
 refine kN Tryz.func252 rfl 8 rfl rfl fun fr r hB=>?_;have lc0b:=lt_of_block c0h
 have lc1b:=lt_of_block c1h;refine wsr ?_;refine ai (.cells (ae false bm.zero 0 0 0 0 .nilFunc) 41 (0,0)) r (fun R=>ah tz41) rfl fun fr b1 w2 n3 r=>?_;obtain ⟨E1,Z2,H1,hB,zB⟩:=n3.all hB
 refine wn (wsr (kL (I c0) r rfl (keep hB c0h) to3 rfl rfl fun r=>kF 0 r rfl fS rfl fun r=>kL (I c1.gen) r rfl (keep hB c1h) to3 rfl rfl fun r=>kU (.agg (grantC (⟨c0,c1.gen,0⟩:Grant)).toArray) r (by kernel_rfl) rfl fun r=>?_));have hF1:=aM hF hB b1
 refine kD r (rD (F:=(kW F w0 w2 b1)) (n:=n) hF1 (⟨c0,c1.gen,0⟩:Grant)) rfl vp rfl fun w4 v5 hb hr6 r=>?_;have Z4:=hb.size
 have H1:=keep hb H1;obtain ⟨hB,zB⟩:=bon hb hB;refine kP r hr6.shape rfl rfl H1 ts41 rfl rfl fun w7 u8 r=>?_;have Z7:=u8.size
 have H1:=u8.at_;obtain ⟨hB,zB⟩:=u8.on hB (by omega)
 exact wn (wp_ret (kR r hr6 rfl rfl H1 rfl ta41 hF hB u8 (by omega) (by omega) (by omega)))
def D.oF (c0:Plan) (c1:Int) (c2:Int) (a0:Int):T Grant:=(D.nU (D.cG c0 c1) (D.bW (D.dg ((D.aQ a0).1) c2)) (fun _=>(D.rQ c1 ((D.aQ a0).1))))
theorem zk (hF:kH F w0)
    (c0:Plan) {c0b:Nat} (c0F:F c0b) (c0h:w0.heap[c0b]?=some (.cells ((aa c0)).toArray 23 (0,0))) (c1:Int) {c1b:Nat} (c1F:F c1b) (c1h:w0.heap[c1b]?=some (.cells ([(.int .i64 c1)]).toArray 3 (0,0))) (c2:Int) {c2b:Nat} (c2F:F c2b) (c2h:w0.heap[c2b]?=some (.cells ([(.int .i64 c2)]).toArray 3 (0,0))) (a0:Int) :
    Calls Tryz.prog 249 #[.int .u64 a0,zp c0b,zp c1b,zp c2b] w0 (aB Tryz.prog bm n (D.oF c0 c1 c2 a0) F w0):=by
 refine kN Tryz.func249 rfl 22 rfl rfl fun fr r hB=>?_;have lc0b:=lt_of_block c0h
 have lc1b:=lt_of_block c1h;have lc2b:=lt_of_block c2h;refine wsr ?_;refine ai (.cells (ae false bm.zero 0 0 0 0 .nilFunc) 41 (0,0)) r (fun R=>ah tz41) rfl fun fr b1 w2 n3 r=>?_;obtain ⟨E1,Z2,H1,hB,zB⟩:=n3.all hB
 refine wn (wsr (kM (U a0) r rfl rfl fun r=>?_));refine kE r (jK w2 a0) rfl cl63 rfl fun w4 hb r=>?_
 have Z4:=hb.size;have H1:=keep hb H1;obtain ⟨hB,zB⟩:=bon hb hB;refine kM (.tuple #[(.agg (aI (D.aQ a0).1).toArray),(.bool (D.aQ a0).2)]) r rfl rfl fun r=>ac (.agg (aI (D.aQ a0).1).toArray) r (fun R=>ce r (vs:=#[(.agg (aI (D.aQ a0).1).toArray),(.bool (D.aQ a0).2)]) rfl rfl) rfl fun fr r=>ac (.bool (D.aQ a0).2) r (fun R=>ce r (vs:=#[(.agg (aI (D.aQ a0).1).toArray),(.bool (D.aQ a0).2)]) rfl rfl) rfl fun fr r=>?_;refine ai (.cells ((aI (⟨0,0,0⟩:State))).toArray 137 (0,0)) r (fun R=>ah fk) rfl fun fr b5 w6 n7 r=>?_
 have H1:=keep n7.below H1;obtain ⟨E5,Z6,H5,hB,zB⟩:=n7.all hB;refine bi (.cells ((aI ((D.aQ a0).1))).toArray 137 (0,0)) r (fun R=>aZ r (o:=0) (v:=(.agg (aI (D.aQ a0).1).toArray)) rfl rfl H5 dP (Nat.le_of_ble_eq_true rfl) rfl rfl) rfl fun fr w8 u9 r=>?_;have Z8:=u9.size
 have H1:=u9.keep H1 (by omega)
 have H5:=u9.at_;obtain ⟨hB,zB⟩:=u9.on hB (by omega)
 refine kA (.bool (D.aQ a0).2) r rfl rfl fun r=>wn (wp_seq ?_);refine bH 8 [.val (.agg (aa c0).toArray),.val (I c1),.val (I (D.cG c0 c1)),.val (.agg (aI (D.aQ a0).1).toArray),.val (I c2),.val (.agg (aI (D.dg ((D.aQ a0).1) c2)).toArray),.val (U (D.bW (D.dg ((D.aQ a0).1) c2))),.val (.func (.func 252) #[] #[zp c1b,zp b5])] mixed r (by kernel_rfl) (kV (kV (kV (kV (kV (kV (kV (kV bG)))))))) ?_ ?_
 ·
  refine ec r (fun _ u _ b d s=>aW s (cs:=(aa c0)) (n:=6) rfl (bY hB b c0h) ta23 rfl bz) (ec r (fun _ u _ b d s=>av s rfl (bY hB b c1h) to3 rfl bz) (ec r (fun fr1 u w' hb' hd r'=>aN r' (args:=[(.agg (aa c0).toArray),(I c1)]) (lc hd.1 (lc hd.2.1 l0)) cl64 ((hH _ c0 c1).mono (by rintro _ w2 ⟨rfl,hb2⟩; exact ⟨_,rfl,hb2,rfl⟩))) (ec r (fun _ u _ b d s=>aW s (cs:=(aI ((D.aQ a0).1))) (n:=3) rfl (keep b H5) du rfl bz) (ec r (fun _ u _ b d s=>av s rfl (bY hB b c2h) to3 rfl bz) (ec r (fun fr1 u w' hb' hd r'=>aN r' (args:=[(.agg (aI (D.aQ a0).1).toArray),(I c2)]) (lc hd.1 (lc hd.2.1 l0)) CO ((yj _ ((D.aQ a0).1) c2).mono (by rintro _ w2 ⟨rfl,hb2⟩; exact ⟨_,rfl,hb2,rfl⟩))) (ec r (fun fr1 u w' hb' hd r'=>aN r' (args:=[(.agg (aI (D.dg ((D.aQ a0).1) c2)).toArray)]) (lc hd.1 l0) qD ((jf _ (D.dg ((D.aQ a0).1) c2)).mono (by rintro _ w2 ⟨rfl,hb2⟩; exact ⟨_,rfl,hb2,rfl⟩))) (ec r (fun _ u _ b d s=>aT s (v:=(.func (.func 252) #[] #[zp c1b,zp b5])) rfl bz) ?_)))))));exact bI
 intro fr u w10 hb hΦ hne r;have r:=r.congr (sc (hΦ 7 (by decide)) (sc (hΦ 6 (by decide)) (sc (hΦ 5 (by decide)) (sc (hΦ 4 (by decide)) (sc (hΦ 3 (by decide)) (sc (hΦ 2 (by decide)) (sc (hΦ 1 (by decide)) (sc (hΦ 0 (by decide)) rfl))))))));have Z10:=hb.size;have H1:=keep hb H1;have H5:=keep hb H5;obtain ⟨hB,zB⟩:=bon hb hB;have hF1:=aM hF hB b1;have f11:((kW F w0 w10 b1)) c1b:=(.inl c1F);have f12:((kW F w0 w10 b1)) b5:=(.inr ⟨by omega,by omega,by omega⟩)
 refine kD r (yp (F:=(kW F w0 w10 b1)) (n:=n) hF1 (D.cG c0 c1) (D.bW (D.dg ((D.aQ a0).1) c2)) ⟨252,[],[zp c1b,zp b5],Dh,rfl,fun m hm _ w' hs hz=>yB (fun b hb=>Nat.lt_of_lt_of_le (hF1 b hb) hz) c1 f11 (hs.at_ f11 (keep hB c1h)) ((D.aQ a0).1) f12 (hs.at_ f12 H5)⟩) rfl D9 rfl fun w13 v14 hb hr15 r=>?_;have Z13:=hb.size
 have H1:=keep hb H1;have H5:=keep hb H5;obtain ⟨hB,zB⟩:=bon hb hB;refine kP r hr15.shape rfl rfl H1 ts41 rfl rfl fun w16 u17 r=>?_;have Z16:=u17.size
 have H5:=u17.keep H5 (by omega)
 have H1:=u17.at_;obtain ⟨hB,zB⟩:=u17.on hB (by omega)
 exact wn (wp_ret (kR r hr15 rfl rfl H1 rfl ta41 hF hB u17 (by omega) (by omega) (by omega)))
def D.fK (a0:Plan) (a1:Int) (a2:Int):T Grant:=(D.og (D.cG a0 a1) (fun x=>(D.oF a0 a1 a2 x)))
theorem sw (hF:kH F w0)
    (a0:Plan) (a1:Int) (a2:Int) :
    Calls Tryz.prog 156 #[.agg (aa a0).toArray,.int .i64 a1,.int .i64 a2] w0 (aB Tryz.prog bm n (D.fK a0 a1 a2) F w0):=by
 refine kN Tryz.func156 rfl 12 rfl rfl fun fr r hB=>?_;refine wsr ?_
 refine kX 23 (.agg (aa a0).toArray) r rfl rfl fun b1 w2 n3 r=>?_;obtain ⟨E1,Z2,H1,hB,zB⟩:=n3.all hB
 refine kX 3 (I a1) r rfl rfl fun b4 w5 n6 r=>?_;have H1:=keep n6.below H1
 obtain ⟨E4,Z5,H4,hB,zB⟩:=n6.all hB;refine kX 3 (I a2) r rfl rfl fun b7 w8 n9 r=>?_;have H1:=keep n9.below H1
 have H4:=keep n9.below H4;obtain ⟨E7,Z8,H7,hB,zB⟩:=n9.all hB;refine ai (.cells (ae false bm.zero 0 0 0 0 .nilFunc) 41 (0,0)) r (fun R=>ah tz41) rfl fun fr b10 w11 n12 r=>?_;have H1:=keep n12.below H1
 have H4:=keep n12.below H4;have H7:=keep n12.below H7;obtain ⟨E10,Z11,H10,hB,zB⟩:=n12.all hB;refine wn (wsr (kG (aa a0) 6 r rfl H1 ta23 rfl rfl fun r=>kL (I a1) r rfl H4 to3 rfl rfl fun r=>?_));refine kE r (hH w11 a0 a1) rfl cl64 rfl fun w13 hb r=>?_
 have Z13:=hb.size;have H1:=keep hb H1;have H4:=keep hb H4;have H7:=keep hb H7;have H10:=keep hb H10;obtain ⟨hB,zB⟩:=bon hb hB;refine ac (.func (.func 249) #[] #[zp b1,zp b4,zp b7]) r (fun R=>aT r rfl) rfl fun fr r=>?_;have hF1:=aM hF hB b10
 have f14:((kW F w0 w13 b10)) b1:=(.inr ⟨by omega,by omega,by omega⟩)
 have f15:((kW F w0 w13 b10)) b4:=(.inr ⟨by omega,by omega,by omega⟩)
 have f16:((kW F w0 w13 b10)) b7:=(.inr ⟨by omega,by omega,by omega⟩)
 refine kD r (yH (F:=(kW F w0 w13 b10)) (n:=n) hF1 (D.cG a0 a1) ⟨249,[],[zp b1,zp b4,zp b7],Dl,rfl,fun m hm x w' hs hz=>zk (fun b hb=>Nat.lt_of_lt_of_le (hF1 b hb) hz) a0 f14 (hs.at_ f14 H1) a1 f15 (hs.at_ f15 H4) a2 f16 (hs.at_ f16 H7) x⟩) rfl Df rfl fun w17 v18 hb hr19 r=>?_;have Z17:=hb.size
 have H1:=keep hb H1;have H4:=keep hb H4;have H7:=keep hb H7;have H10:=keep hb H10;obtain ⟨hB,zB⟩:=bon hb hB;refine kP r hr19.shape rfl rfl H10 ts41 rfl rfl fun w20 u21 r=>?_;have Z20:=u21.size
 have H1:=u21.keep H1 (by omega)
 have H4:=u21.keep H4 (by omega)
 have H7:=u21.keep H7 (by omega)
 have H10:=u21.at_;obtain ⟨hB,zB⟩:=u21.on hB (by omega)
 exact wn (wp_ret (kR r hr19 rfl rfl H10 rfl ta41 hF hB u21 (by omega) (by omega) (by omega)))
def D.db (c0:Plan) (c1:Int) (a0:Int):T Grant:=(bif (a0==(-1)) then (D.lC (⟨(-1),0,4⟩:Grant)) else (D.fK c0 a0 c1))
theorem zN (hF:kH F w0)
    (c0:Plan) {c0b:Nat} (c0F:F c0b) (c0h:w0.heap[c0b]?=some (.cells ((aa c0)).toArray 23 (0,0))) (c1:Int) {c1b:Nat} (c1F:F c1b) (c1h:w0.heap[c1b]?=some (.cells ([(.int .i64 c1)]).toArray 3 (0,0))) (a0:Int) :
    Calls Tryz.prog 154 #[.int .i64 a0,zp c0b,zp c1b] w0 (aB Tryz.prog bm n (D.db c0 c1 a0) F w0):=by
 refine kN Tryz.func154 rfl 13 rfl rfl fun fr r hB=>?_;have lc0b:=lt_of_block c0h
 have lc1b:=lt_of_block c1h;refine wsr ?_;refine ai (.cells (ae false bm.zero 0 0 0 0 .nilFunc) 41 (0,0)) r (fun R=>ah tz41) rfl fun fr b1 w2 n3 r=>?_;obtain ⟨E1,Z2,H1,hB,zB⟩:=n3.all hB
 refine wn (wp_seq (wsr (kM (I a0) r rfl rfl fun r=>kB r rfl rfl rfl rfl rfl fun r=>wn ?_)));refine wp_cond_split (t:=(a0==(-1))) (r.ev rfl) (fun h4=>?_) (fun h4=>?_)
 ·
  refine wsr (kU (.agg (grantC (⟨(-1),0,4⟩:Grant)).toArray) r (by kernel_rfl) rfl fun r=>?_);have hF1:=aM hF hB b1
  refine kD r (rD (F:=(kW F w0 w2 b1)) (n:=n) hF1 (⟨(-1),0,4⟩:Grant)) rfl vp rfl fun w5 v6 hb hr7 r=>?_;have Z5:=hb.size
  have H1:=keep hb H1;obtain ⟨hB,zB⟩:=bon hb hB;refine kP r hr7.shape rfl rfl H1 ts41 rfl rfl fun w8 u9 r=>?_;have Z8:=u9.size
  have H1:=u9.at_;obtain ⟨hB,zB⟩:=u9.on hB (by omega)
  refine wn (wp_ret ?_);have hd:D.db c0 c1 a0=(D.lC (⟨(-1),0,4⟩:Grant)):=(aC h4).trans (rfl);have hs:=hr7.shape.cells;refine aq r rfl rfl H1 (k:=9) hs.1 ta41 ?_;rw [←hs.2.2,hd];exact rfin hF hB hr7 u9 (by omega) (by omega) (by omega)
 refine wp_skip (wsr (kG (aa c0) 6 r rfl (keep hB c0h) ta23 rfl rfl fun r=>kM (I a0) r rfl rfl fun r=>kL (I c1) r rfl (keep hB c1h) to3 rfl rfl fun r=>?_));have hF1:=aM hF hB b1
 refine kD r (sw (F:=(kW F w0 w2 b1)) (n:=n) hF1 c0 a0 c1) rfl vF rfl fun w10 v11 hb hr12 r=>?_;have Z10:=hb.size
 have H1:=keep hb H1;obtain ⟨hB,zB⟩:=bon hb hB;refine kP r hr12.shape rfl rfl H1 ts41 rfl rfl fun w13 u14 r=>?_;have Z13:=u14.size
 have H1:=u14.at_;obtain ⟨hB,zB⟩:=u14.on hB (by omega)
 refine wn (wp_ret ?_);have hd:D.db c0 c1 a0=(D.fK c0 a0 c1):=(aF h4).trans (rfl);have hs:=hr12.shape.cells;refine aq r rfl rfl H1 (k:=9) hs.1 ta41 ?_;rw [←hs.2.2,hd];exact rfin hF hB hr12 u14 (by omega) (by omega) (by omega)
def D.jx (j:Nat) (c0:Plan) (c1:(Int→T Grant)) (a0:Int):T Grant:=(T.bind (D.cJ j c0) c1)
theorem zq (hF:kH F w0) (hj:n<j)
    (c0:Plan) {c0b:Nat} (c0F:F c0b) (c0h:w0.heap[c0b]?=some (.cells ((aa c0)).toArray 23 (0,0))) {c1f:FuncId} {c1_1 c1_2:List Value} {c1:(Int→T Grant)} {c1b:Nat} (c1F:F c1b) (c1h:w0.heap[c1b]?=some (.cells #[.func (.func c1f) c1_1.toArray c1_2.toArray] 231 (0,0))) (c1n:FnT Tryz.prog bm i64 (n+1) F w0 (.func (.func c1f) c1_1.toArray c1_2.toArray) c1) (a0:Int) :
    Calls Tryz.prog 161 #[.int .i64 a0,zp c0b,zp c1b] w0 (aB Tryz.prog bm n (D.jx j c0 c1 a0) F w0):=by
 refine kN Tryz.func161 rfl 9 rfl rfl fun fr r hB=>?_;have lc0b:=lt_of_block c0h
 have lc1b:=lt_of_block c1h;refine wsr ?_;refine ai (.cells (ae false bm.zero 0 0 0 0 .nilFunc) 41 (0,0)) r (fun R=>ah tz41) rfl fun fr b1 w2 n3 r=>?_;obtain ⟨E1,Z2,H1,hB,zB⟩:=n3.all hB
 refine wn (wp_seq ?_);have hF1:=aM hF hB b1;refine bH 3 [.val (.agg (aa c0).toArray),.pred (PrepP Tryz.prog ak n (D.cJ j c0) ((kW F w0 w2 b1)) w2) (PrepP.st hF1),.val (.func (.func c1f) c1_1.toArray c1_2.toArray)] mixed r (by kernel_rfl) (kV (kV (kV bG))) ?_ ?_
 ·
  refine ec r (fun _ u _ b d s=>aW s (cs:=(aa c0)) (n:=6) rfl (bY hB b c0h) ta23 rfl bz) (ec r (fun fr1 u w' hb' hd r'=>aN r' (args:=[(.agg (aa c0).toArray)]) (lc hd.1 l0) qp (((tq (k:=j) (n:=n) (by omega)) ((kW F w0 w2 b1)) _ (fun b h=>Nat.lt_of_lt_of_le (hF1 b h) hb'.size) c0).mono (by rintro _ w2 ⟨y,rfl,hb2,hr2⟩; exact ⟨_,rfl,hb2,PrepP.of (drB hb') hb2 hr2⟩))) (ec r (fun _ u _ b d s=>av s rfl (bY hB b c1h) qF rfl bz) ?_));exact bI
 intro fr u w4 hb hΦ hne r;obtain ⟨v5,hv1⟩:∃ v,v=u 1:=⟨_,rfl⟩;have g1:u 1=v5:=hv1.symm;have hr6:=(hΦ 1 (by decide)).2;rw [g1] at hr6
 have r:=r.congr (sc (hΦ 2 (by decide)) (sc g1 (sc (hΦ 0 (by decide)) rfl)))
 have Z4:=hb.size;have H1:=keep hb H1;obtain ⟨hB,zB⟩:=bon hb hB;have hF1:=aM hF hB b1;refine kD r (nA (F:=(kW F w0 w4 b1)) (n:=n) hF1 (Rep.mono (by rintro b (h | h); (rcases h with h | ⟨h1,h2,h3⟩; exact .inl h; exact .inr ⟨h1,by omega,h3⟩); exact .inr ⟨by omega,by omega,by omega⟩) (Same.refl _ _) (by omega) n _ _ hr6) (c1n.mono (by omega) (fun b h=>.inl h) (Same.below hB hF) hB.size)) rfl mV rfl fun w7 v8 hb hr9 r=>?_
 have Z7:=hb.size;have H1:=keep hb H1;obtain ⟨hB,zB⟩:=bon hb hB;refine kP r hr9.shape rfl rfl H1 ts41 rfl rfl fun w10 u11 r=>?_;have Z10:=u11.size
 have H1:=u11.at_;obtain ⟨hB,zB⟩:=u11.on hB (by omega)
 exact wn (wp_ret (kR r hr9 rfl rfl H1 rfl ta41 hF hB u11 (by omega) (by omega) (by omega)))
def D.ez (j:Nat) (c0:Plan) (c1:Int) (c2:Int) (c3:(Int→T Grant)) (a0:Int):T Grant:=(bif (a0 !=(-1)) then (D.fK c0 a0 c1) else (T.bind (D.eT j c0 c2) (fun x=>(D.jx j c0 c3 x))))
theorem zW (hF:kH F w0) (hj:n<j)
    (c0:Plan) {c0b:Nat} (c0F:F c0b) (c0h:w0.heap[c0b]?=some (.cells ((aa c0)).toArray 23 (0,0))) (c1:Int) {c1b:Nat} (c1F:F c1b) (c1h:w0.heap[c1b]?=some (.cells ([(.int .i64 c1)]).toArray 3 (0,0))) (c2:Int) {c2b:Nat} (c2F:F c2b) (c2h:w0.heap[c2b]?=some (.cells ([(.int .i64 c2)]).toArray 3 (0,0))) {c3f:FuncId} {c3_1 c3_2:List Value} {c3:(Int→T Grant)} {c3b:Nat} (c3F:F c3b) (c3h:w0.heap[c3b]?=some (.cells #[.func (.func c3f) c3_1.toArray c3_2.toArray] 231 (0,0))) (c3n:FnT Tryz.prog bm i64 (n+1) F w0 (.func (.func c3f) c3_1.toArray c3_2.toArray) c3) (a0:Int) :
    Calls Tryz.prog 159 #[.int .i64 a0,zp c0b,zp c1b,zp c2b,zp c3b] w0 (aB Tryz.prog bm n (D.ez j c0 c1 c2 c3 a0) F w0):=by
 refine kN Tryz.func159 rfl 18 rfl rfl fun fr r hB=>?_;have lc0b:=lt_of_block c0h
 have lc1b:=lt_of_block c1h;have lc2b:=lt_of_block c2h;have lc3b:=lt_of_block c3h;refine wsr ?_;refine ai (.cells (ae false bm.zero 0 0 0 0 .nilFunc) 41 (0,0)) r (fun R=>ah tz41) rfl fun fr b1 w2 n3 r=>?_;obtain ⟨E1,Z2,H1,hB,zB⟩:=n3.all hB
 refine wn (wp_seq (wsr (kM (I a0) r rfl rfl fun r=>kB r rfl rfl rfl rfl rfl fun r=>wn ?_)));refine wp_cond_split (t:=(a0 !=(-1))) (r.ev rfl) (fun h4=>?_) (fun h4=>?_)
 ·
  refine wsr (kG (aa c0) 6 r rfl (keep hB c0h) ta23 rfl rfl fun r=>kM (I a0) r rfl rfl fun r=>kL (I c1) r rfl (keep hB c1h) to3 rfl rfl fun r=>?_);have hF1:=aM hF hB b1
  refine kD r (sw (F:=(kW F w0 w2 b1)) (n:=n) hF1 c0 a0 c1) rfl vF rfl fun w5 v6 hb hr7 r=>?_;have Z5:=hb.size
  have H1:=keep hb H1;obtain ⟨hB,zB⟩:=bon hb hB;refine kP r hr7.shape rfl rfl H1 ts41 rfl rfl fun w8 u9 r=>?_;have Z8:=u9.size
  have H1:=u9.at_;obtain ⟨hB,zB⟩:=u9.on hB (by omega)
  refine wn (wp_ret ?_);have hd:D.ez j c0 c1 c2 c3 a0=(D.fK c0 a0 c1):=(aC h4).trans (rfl);have hs:=hr7.shape.cells;refine aq r rfl rfl H1 (k:=9) hs.1 ta41 ?_;rw [←hs.2.2,hd];exact rfin hF hB hr7 u9 (by omega) (by omega) (by omega)
 refine wp_skip (wsr (kG (aa c0) 6 r rfl (keep hB c0h) ta23 rfl rfl fun r=>kL (I c2) r rfl (keep hB c2h) to3 rfl rfl fun r=>?_));have hF1:=aM hF hB b1
 refine kD r (sj (j:=j) (F:=(kW F w0 w2 b1)) (n:=n) hF1 (by omega) c0 c2) rfl wE rfl fun w10 v11 hb hr12 r=>?_;have Z10:=hb.size
 have H1:=keep hb H1;obtain ⟨hB,zB⟩:=bon hb hB;refine ac (.func (.func 161) #[] #[zp c0b,zp c3b]) r (fun R=>aT r rfl) rfl fun fr r=>?_;have hF1:=aM hF hB b1
 have f13:((kW F w0 w10 b1)) c0b:=(.inl c0F);have f14:((kW F w0 w10 b1)) c3b:=(.inl c3F);refine kD r (nA (F:=(kW F w0 w10 b1)) (n:=n) hF1 (Rep.mono (by rintro b (h | h); (rcases h with h | ⟨h1,h2,h3⟩; exact .inl h; exact .inr ⟨h1,by omega,h3⟩); exact .inr ⟨by omega,by omega,by omega⟩) (Same.refl _ _) (by omega) n _ _ hr12) ⟨161,[],[zp c0b,zp c3b],CL,rfl,fun m hm x w' hs hz=>zq (j:=j) (fun b hb=>Nat.lt_of_lt_of_le (hF1 b hb) hz) (by omega) c0 f13 (hs.at_ f13 (keep hB c0h)) f14 (hs.at_ f14 (keep hB c3h)) (c3n.mono (by omega) (fun b h=>.inl h) ((Same.below hB hF).trans (hs.sub (fun b h=>.inl h))) (Nat.le_trans hB.size hz)) x⟩) rfl mV rfl fun w15 v16 hb hr17 r=>?_
 have Z15:=hb.size;have H1:=keep hb H1;obtain ⟨hB,zB⟩:=bon hb hB;refine kP r hr17.shape rfl rfl H1 ts41 rfl rfl fun w18 u19 r=>?_;have Z18:=u19.size
 have H1:=u19.at_;obtain ⟨hB,zB⟩:=u19.on hB (by omega)
 refine wn (wp_ret ?_);have hd:D.ez j c0 c1 c2 c3 a0=(T.bind (D.eT j c0 c2) (fun x=>(D.jx j c0 c3 x))):=(aF h4).trans (rfl)
 have hs:=hr17.shape.cells;refine aq r rfl rfl H1 (k:=9) hs.1 ta41 ?_;rw [←hs.2.2,hd];exact rfin hF hB hr17 u19 (by omega) (by omega) (by omega)
def D.eC (j:Nat) (a0:Plan) (a1:Int) (a2:Int):T Grant:=(T.bind (D.cJ j a0) (fun x=>(D.ez j a0 a2 a1 (fun x=>(D.db a0 a2 x)) x)))
theorem Am (hF:kH F w0) (hj:n<j)
    (a0:Plan) (a1:Int) (a2:Int) :
    Calls Tryz.prog 74 #[.agg (aa a0).toArray,.int .i64 a1,.int .i64 a2] w0 (aB Tryz.prog bm n (D.eC j a0 a1 a2) F w0):=by
 refine kN Tryz.func74 rfl 13 rfl rfl fun fr r hB=>?_;refine wsr ?_
 refine kX 23 (.agg (aa a0).toArray) r rfl rfl fun b1 w2 n3 r=>?_;obtain ⟨E1,Z2,H1,hB,zB⟩:=n3.all hB
 refine kX 3 (I a1) r rfl rfl fun b4 w5 n6 r=>?_;have H1:=keep n6.below H1
 obtain ⟨E4,Z5,H4,hB,zB⟩:=n6.all hB;refine kX 3 (I a2) r rfl rfl fun b7 w8 n9 r=>?_;have H1:=keep n9.below H1
 have H4:=keep n9.below H4;obtain ⟨E7,Z8,H7,hB,zB⟩:=n9.all hB;refine ai (.cells (ae false bm.zero 0 0 0 0 .nilFunc) 41 (0,0)) r (fun R=>ah tz41) rfl fun fr b10 w11 n12 r=>?_;have H1:=keep n12.below H1
 have H4:=keep n12.below H4;have H7:=keep n12.below H7;obtain ⟨E10,Z11,H10,hB,zB⟩:=n12.all hB;refine wn (wsr (ac (.func (.func 154) #[] #[zp b1,zp b7]) r (fun R=>aT r rfl) rfl fun fr r=>?_));refine ai (.cells #[.nilFunc] 231 (0,0)) r (fun R=>ah DW) rfl fun fr b13 w14 n15 r=>?_
 have H1:=keep n15.below H1;have H4:=keep n15.below H4;have H7:=keep n15.below H7;have H10:=keep n15.below H10;obtain ⟨E13,Z14,H13,hB,zB⟩:=n15.all hB;refine bi (.cells #[.func (.func 154) #[] #[zp b1,zp b7]] 231 (0,0)) r (fun R=>aZ r (o:=0) (v:=(.func (.func 154) #[] #[zp b1,zp b7])) rfl rfl H13 Ev (Nat.le_of_ble_eq_true rfl) rfl rfl) rfl fun fr w16 u17 r=>?_;have Z16:=u17.size
 have H1:=u17.keep H1 (by omega)
 have H4:=u17.keep H4 (by omega)
 have H7:=u17.keep H7 (by omega)
 have H10:=u17.keep H10 (by omega)
 have H13:=u17.at_;obtain ⟨hB,zB⟩:=u17.on hB (by omega)
 refine wn (wsr (kG (aa a0) 6 r rfl H1 ta23 rfl rfl fun r=>?_));have hF1:=aM hF hB b10
 refine kD r ((tq (k:=j) (n:=n) (by omega)) (kW F w0 w16 b10) _ hF1 a0) rfl qp rfl fun w18 v19 hb hr20 r=>?_;have Z18:=hb.size
 have H1:=keep hb H1;have H4:=keep hb H4;have H7:=keep hb H7;have H10:=keep hb H10;have H13:=keep hb H13;obtain ⟨hB,zB⟩:=bon hb hB;refine ac (.func (.func 159) #[] #[zp b1,zp b7,zp b4,zp b13]) r (fun R=>aT r rfl) rfl fun fr r=>?_;have hF1:=aM hF hB b10
 have f21:((kW F w0 w18 b10)) b1:=(.inr ⟨by omega,by omega,by omega⟩)
 have f22:((kW F w0 w18 b10)) b7:=(.inr ⟨by omega,by omega,by omega⟩)
 have f23:((kW F w0 w18 b10)) b4:=(.inr ⟨by omega,by omega,by omega⟩)
 have f24:((kW F w0 w18 b10)) b13:=(.inr ⟨by omega,by omega,by omega⟩)
 have f26:((kW F w0 w18 b10)) b1:=(.inr ⟨by omega,by omega,by omega⟩)
 have f27:((kW F w0 w18 b10)) b7:=(.inr ⟨by omega,by omega,by omega⟩)
 have q25:FnT Tryz.prog bm i64 (n+1) (kW F w0 w18 b10) w18 (.func (.func 154) #[] #[zp b1,zp b7]) (fun x=>(D.db a0 a2 x)):=⟨154,[],[zp b1,zp b7],Dp,rfl,fun m hm x w' hs hz=>zN (fun b hb=>Nat.lt_of_lt_of_le (hF1 b hb) hz) a0 f26 (hs.at_ f26 H1) a2 f27 (hs.at_ f27 H7) x⟩
 refine kD r (nA (F:=(kW F w0 w18 b10)) (n:=n) hF1 (Rep.mono (by rintro b (h | h); (rcases h with h | ⟨h1,h2,h3⟩; exact .inl h; exact .inr ⟨h1,by omega,h3⟩); exact .inr ⟨by omega,by omega,by omega⟩) (Same.refl _ _) (by omega) n _ _ hr20) ⟨159,[],[zp b1,zp b7,zp b4,zp b13],CR,rfl,fun m hm x w' hs hz=>zW (j:=j) (fun b hb=>Nat.lt_of_lt_of_le (hF1 b hb) hz) (by omega) a0 f21 (hs.at_ f21 H1) a2 f22 (hs.at_ f22 H7) a1 f23 (hs.at_ f23 H4) f24 (hs.at_ f24 H13) (q25.mono (by omega) (fun b h=>h) hs hz) x⟩) rfl mV rfl fun w28 v29 hb hr30 r=>?_
 have Z28:=hb.size;have H1:=keep hb H1;have H4:=keep hb H4;have H7:=keep hb H7;have H10:=keep hb H10;have H13:=keep hb H13;obtain ⟨hB,zB⟩:=bon hb hB;refine kP r hr30.shape rfl rfl H10 ts41 rfl rfl fun w31 u32 r=>?_;have Z31:=u32.size
 have H1:=u32.keep H1 (by omega)
 have H4:=u32.keep H4 (by omega)
 have H7:=u32.keep H7 (by omega)
 have H13:=u32.keep H13 (by omega)
 have H10:=u32.at_;obtain ⟨hB,zB⟩:=u32.on hB (by omega)
 exact wn (wp_ret (kR r hr30 rfl rfl H10 rfl ta41 hF hB u32 (by omega) (by omega) (by omega)))
def D.dA (c0:Int) (a0:Int):T Int:=(bif (a0==(-1)) then (D.cH (-1)) else (D.cH c0))
theorem zg (hF:kH F w0)
    (c0:Int) {c0b:Nat} (c0F:F c0b) (c0h:w0.heap[c0b]?=some (.cells ([(.int .i64 c0)]).toArray 3 (0,0))) (a0:Int) :
    Calls Tryz.prog 270 #[.int .i64 a0,zp c0b] w0 (aB Tryz.prog ak n (D.dA c0 a0) F w0):=by
 refine kN Tryz.func270 rfl 9 rfl rfl fun fr r hB=>?_;have lc0b:=lt_of_block c0h
 refine wsr ?_;refine ai (.cells (ae false ak.zero 0 0 0 0 .nilFunc) 44 (0,0)) r (fun R=>ah tz44) rfl fun fr b1 w2 n3 r=>?_;obtain ⟨E1,Z2,H1,hB,zB⟩:=n3.all hB
 refine wn (wp_seq (wsr (kM (I a0) r rfl rfl fun r=>kB r rfl rfl rfl rfl rfl fun r=>wn ?_)));refine wp_cond_split (t:=(a0==(-1))) (r.ev rfl) (fun h4=>?_) (fun h4=>?_)
 ·
  refine wsr ?_;have hF1:=aM hF hB b1;refine kD r (dQ (F:=(kW F w0 w2 b1)) (n:=n) hF1 (-1)) rfl dZ rfl fun w5 v6 hb hr7 r=>?_;have Z5:=hb.size
  have H1:=keep hb H1;obtain ⟨hB,zB⟩:=bon hb hB;refine kP r hr7.shape rfl rfl H1 ts44 rfl rfl fun w8 u9 r=>?_;have Z8:=u9.size
  have H1:=u9.at_;obtain ⟨hB,zB⟩:=u9.on hB (by omega)
  refine wn (wp_ret ?_);have hd:D.dA c0 a0=(D.cH (-1)):=(aC h4).trans (rfl);have hs:=hr7.shape.cells;refine aq r rfl rfl H1 (k:=7) hs.1 ta44 ?_;rw [←hs.2.2,hd];exact rfin hF hB hr7 u9 (by omega) (by omega) (by omega)
 refine wp_skip (wsr (kL (I c0) r rfl (keep hB c0h) to3 rfl rfl fun r=>?_));have hF1:=aM hF hB b1
 refine kD r (dQ (F:=(kW F w0 w2 b1)) (n:=n) hF1 c0) rfl dZ rfl fun w10 v11 hb hr12 r=>?_;have Z10:=hb.size
 have H1:=keep hb H1;obtain ⟨hB,zB⟩:=bon hb hB;refine kP r hr12.shape rfl rfl H1 ts44 rfl rfl fun w13 u14 r=>?_;have Z13:=u14.size
 have H1:=u14.at_;obtain ⟨hB,zB⟩:=u14.on hB (by omega)
 refine wn (wp_ret ?_);have hd:D.dA c0 a0=(D.cH c0):=(aF h4).trans (rfl);have hs:=hr12.shape.cells;refine aq r rfl rfl H1 (k:=7) hs.1 ta44 ?_;rw [←hs.2.2,hd];exact rfin hF hB hr12 u14 (by omega) (by omega) (by omega)
def D.jp (c0:Plan) (c1:Int) (c2:Int) (c3:(Int→T Int)) (a0:Int):T Int:=(T.bind (D.fN c0 c1 c2) c3)
theorem yx (hF:kH F w0)
    (c0:Plan) {c0b:Nat} (c0F:F c0b) (c0h:w0.heap[c0b]?=some (.cells ((aa c0)).toArray 23 (0,0))) (c1:Int) {c1b:Nat} (c1F:F c1b) (c1h:w0.heap[c1b]?=some (.cells ([(.int .i64 c1)]).toArray 3 (0,0))) (c2:Int) {c2b:Nat} (c2F:F c2b) (c2h:w0.heap[c2b]?=some (.cells ([(.int .i64 c2)]).toArray 3 (0,0))) {c3f:FuncId} {c3_1 c3_2:List Value} {c3:(Int→T Int)} {c3b:Nat} (c3F:F c3b) (c3h:w0.heap[c3b]?=some (.cells #[.func (.func c3f) c3_1.toArray c3_2.toArray] 280 (0,0))) (c3n:FnT Tryz.prog ak i64 (n+1) F w0 (.func (.func c3f) c3_1.toArray c3_2.toArray) c3) (a0:Int) :
    Calls Tryz.prog 274 #[.int .i64 a0,zp c0b,zp c1b,zp c2b,zp c3b] w0 (aB Tryz.prog ak n (D.jp c0 c1 c2 c3 a0) F w0):=by
 refine kN Tryz.func274 rfl 13 rfl rfl fun fr r hB=>?_;have lc0b:=lt_of_block c0h
 have lc1b:=lt_of_block c1h;have lc2b:=lt_of_block c2h;have lc3b:=lt_of_block c3h;refine wsr ?_;refine ai (.cells (ae false ak.zero 0 0 0 0 .nilFunc) 44 (0,0)) r (fun R=>ah tz44) rfl fun fr b1 w2 n3 r=>?_;obtain ⟨E1,Z2,H1,hB,zB⟩:=n3.all hB
 refine wn (wp_seq ?_);have hF1:=aM hF hB b1;refine bH 5 [.val (.agg (aa c0).toArray),.val (I c1),.val (I c2),.pred (PrepP Tryz.prog ak n (D.fN c0 c1 c2) ((kW F w0 w2 b1)) w2) (PrepP.st hF1),.val (.func (.func c3f) c3_1.toArray c3_2.toArray)] mixed r (by kernel_rfl) (kV (kV (kV (kV (kV bG))))) ?_ ?_
 ·
  refine ec r (fun _ u _ b d s=>aW s (cs:=(aa c0)) (n:=6) rfl (bY hB b c0h) ta23 rfl bz) (ec r (fun _ u _ b d s=>av s rfl (bY hB b c1h) to3 rfl bz) (ec r (fun _ u _ b d s=>av s rfl (bY hB b c2h) to3 rfl bz) (ec r (fun fr1 u w' hb' hd r'=>aN r' (args:=[(.agg (aa c0).toArray),(I c1),(I c2)]) (lc hd.1 (lc hd.2.1 (lc hd.2.2.1 l0))) vn ((sD (F:=(kW F w0 w2 b1)) (n:=n) (fun b h=>Nat.lt_of_lt_of_le (hF1 b h) hb'.size) c0 c1 c2).mono (by rintro _ w2 ⟨y,rfl,hb2,hr2⟩; exact ⟨_,rfl,hb2,PrepP.of (drB hb') hb2 hr2⟩))) (ec r (fun _ u _ b d s=>av s rfl (bY hB b c3h) qq rfl bz) ?_))));exact bI
 intro fr u w4 hb hΦ hne r;obtain ⟨v5,hv3⟩:∃ v,v=u 3:=⟨_,rfl⟩;have g3:u 3=v5:=hv3.symm;have hr6:=(hΦ 3 (by decide)).2;rw [g3] at hr6
 have r:=r.congr (sc (hΦ 4 (by decide)) (sc g3 (sc (hΦ 2 (by decide)) (sc (hΦ 1 (by decide)) (sc (hΦ 0 (by decide)) rfl)))))
 have Z4:=hb.size;have H1:=keep hb H1;obtain ⟨hB,zB⟩:=bon hb hB;have hF1:=aM hF hB b1;refine kD r (nC (F:=(kW F w0 w4 b1)) (n:=n) hF1 (Rep.mono (by rintro b (h | h); (rcases h with h | ⟨h1,h2,h3⟩; exact .inl h; exact .inr ⟨h1,by omega,h3⟩); exact .inr ⟨by omega,by omega,by omega⟩) (Same.refl _ _) (by omega) n _ _ hr6) (c3n.mono (by omega) (fun b h=>.inl h) (Same.below hB hF) hB.size)) rfl kK rfl fun w7 v8 hb hr9 r=>?_
 have Z7:=hb.size;have H1:=keep hb H1;obtain ⟨hB,zB⟩:=bon hb hB;refine kP r hr9.shape rfl rfl H1 ts44 rfl rfl fun w10 u11 r=>?_;have Z10:=u11.size
 have H1:=u11.at_;obtain ⟨hB,zB⟩:=u11.on hB (by omega)
 exact wn (wp_ret (kR r hr9 rfl rfl H1 rfl ta44 hF hB u11 (by omega) (by omega) (by omega)))
def D.ep (j:Nat) (c0:Int) (c1:Plan) (c2:Int) (c3:(Int→T Int)) (a0:Int):T Int:=(bif (a0 !=(-1)) then (D.cH c0) else (T.bind (D.eT j c1 c2) (fun x=>(D.jp c1 c2 c0 c3 x))))
theorem zh (hF:kH F w0) (hj:n<j)
    (c0:Int) {c0b:Nat} (c0F:F c0b) (c0h:w0.heap[c0b]?=some (.cells ([(.int .i64 c0)]).toArray 3 (0,0))) (c1:Plan) {c1b:Nat} (c1F:F c1b) (c1h:w0.heap[c1b]?=some (.cells ((aa c1)).toArray 23 (0,0))) (c2:Int) {c2b:Nat} (c2F:F c2b) (c2h:w0.heap[c2b]?=some (.cells ([(.int .i64 c2)]).toArray 3 (0,0))) {c3f:FuncId} {c3_1 c3_2:List Value} {c3:(Int→T Int)} {c3b:Nat} (c3F:F c3b) (c3h:w0.heap[c3b]?=some (.cells #[.func (.func c3f) c3_1.toArray c3_2.toArray] 280 (0,0))) (c3n:FnT Tryz.prog ak i64 (n+1) F w0 (.func (.func c3f) c3_1.toArray c3_2.toArray) c3) (a0:Int) :
    Calls Tryz.prog 273 #[.int .i64 a0,zp c0b,zp c1b,zp c2b,zp c3b] w0 (aB Tryz.prog ak n (D.ep j c0 c1 c2 c3 a0) F w0):=by
 refine kN Tryz.func273 rfl 16 rfl rfl fun fr r hB=>?_;have lc0b:=lt_of_block c0h
 have lc1b:=lt_of_block c1h;have lc2b:=lt_of_block c2h;have lc3b:=lt_of_block c3h;refine wsr ?_;refine ai (.cells (ae false ak.zero 0 0 0 0 .nilFunc) 44 (0,0)) r (fun R=>ah tz44) rfl fun fr b1 w2 n3 r=>?_;obtain ⟨E1,Z2,H1,hB,zB⟩:=n3.all hB
 refine wn (wp_seq (wsr (kM (I a0) r rfl rfl fun r=>kB r rfl rfl rfl rfl rfl fun r=>wn ?_)));refine wp_cond_split (t:=(a0 !=(-1))) (r.ev rfl) (fun h4=>?_) (fun h4=>?_)
 ·
  refine wsr (kL (I c0) r rfl (keep hB c0h) to3 rfl rfl fun r=>?_);have hF1:=aM hF hB b1
  refine kD r (dQ (F:=(kW F w0 w2 b1)) (n:=n) hF1 c0) rfl dZ rfl fun w5 v6 hb hr7 r=>?_;have Z5:=hb.size
  have H1:=keep hb H1;obtain ⟨hB,zB⟩:=bon hb hB;refine kP r hr7.shape rfl rfl H1 ts44 rfl rfl fun w8 u9 r=>?_;have Z8:=u9.size
  have H1:=u9.at_;obtain ⟨hB,zB⟩:=u9.on hB (by omega)
  refine wn (wp_ret ?_);have hd:D.ep j c0 c1 c2 c3 a0=(D.cH c0):=(aC h4).trans (rfl);have hs:=hr7.shape.cells;refine aq r rfl rfl H1 (k:=7) hs.1 ta44 ?_;rw [←hs.2.2,hd];exact rfin hF hB hr7 u9 (by omega) (by omega) (by omega)
 refine wp_skip (wsr (kG (aa c1) 6 r rfl (keep hB c1h) ta23 rfl rfl fun r=>kL (I c2) r rfl (keep hB c2h) to3 rfl rfl fun r=>?_));have hF1:=aM hF hB b1
 refine kD r (sj (j:=j) (F:=(kW F w0 w2 b1)) (n:=n) hF1 (by omega) c1 c2) rfl wE rfl fun w10 v11 hb hr12 r=>?_;have Z10:=hb.size
 have H1:=keep hb H1;obtain ⟨hB,zB⟩:=bon hb hB;refine ac (.func (.func 274) #[] #[zp c1b,zp c2b,zp c0b,zp c3b]) r (fun R=>aT r rfl) rfl fun fr r=>?_;have hF1:=aM hF hB b1
 have f13:((kW F w0 w10 b1)) c1b:=(.inl c1F);have f14:((kW F w0 w10 b1)) c2b:=(.inl c2F);have f15:((kW F w0 w10 b1)) c0b:=(.inl c0F);have f16:((kW F w0 w10 b1)) c3b:=(.inl c3F);refine kD r (nC (F:=(kW F w0 w10 b1)) (n:=n) hF1 (Rep.mono (by rintro b (h | h); (rcases h with h | ⟨h1,h2,h3⟩; exact .inl h; exact .inr ⟨h1,by omega,h3⟩); exact .inr ⟨by omega,by omega,by omega⟩) (Same.refl _ _) (by omega) n _ _ hr12) ⟨274,[],[zp c1b,zp c2b,zp c0b,zp c3b],EQ,rfl,fun m hm x w' hs hz=>yx (fun b hb=>Nat.lt_of_lt_of_le (hF1 b hb) hz) c1 f13 (hs.at_ f13 (keep hB c1h)) c2 f14 (hs.at_ f14 (keep hB c2h)) c0 f15 (hs.at_ f15 (keep hB c0h)) f16 (hs.at_ f16 (keep hB c3h)) (c3n.mono (by omega) (fun b h=>.inl h) ((Same.below hB hF).trans (hs.sub (fun b h=>.inl h))) (Nat.le_trans hB.size hz)) x⟩) rfl kK rfl fun w17 v18 hb hr19 r=>?_
 have Z17:=hb.size;have H1:=keep hb H1;obtain ⟨hB,zB⟩:=bon hb hB;refine kP r hr19.shape rfl rfl H1 ts44 rfl rfl fun w20 u21 r=>?_;have Z20:=u21.size
 have H1:=u21.at_;obtain ⟨hB,zB⟩:=u21.on hB (by omega)
 refine wn (wp_ret ?_);have hd:D.ep j c0 c1 c2 c3 a0=(T.bind (D.eT j c1 c2) (fun x=>(D.jp c1 c2 c0 c3 x))):=(aF h4).trans (rfl)
 have hs:=hr19.shape.cells;refine aq r rfl rfl H1 (k:=7) hs.1 ta44 ?_;rw [←hs.2.2,hd];exact rfin hF hB hr19 u21 (by omega) (by omega) (by omega)
def D.jH (j:Nat) (a0:Plan) (a1:Int) (a2:Int):T Int:=(T.bind (D.fN a0 a1 a2) (fun x=>(D.ep j a2 a0 a1 (fun x=>(D.dA a2 x)) x)))
theorem zV (hF:kH F w0) (hj:n<j)
    (a0:Plan) (a1:Int) (a2:Int) :
    Calls Tryz.prog 170 #[.agg (aa a0).toArray,.int .i64 a1,.int .i64 a2] w0 (aB Tryz.prog ak n (D.jH j a0 a1 a2) F w0):=by
 refine kN Tryz.func170 rfl 15 rfl rfl fun fr r hB=>?_;refine wsr ?_
 refine kX 23 (.agg (aa a0).toArray) r rfl rfl fun b1 w2 n3 r=>?_;obtain ⟨E1,Z2,H1,hB,zB⟩:=n3.all hB
 refine kX 3 (I a1) r rfl rfl fun b4 w5 n6 r=>?_;have H1:=keep n6.below H1
 obtain ⟨E4,Z5,H4,hB,zB⟩:=n6.all hB;refine kX 3 (I a2) r rfl rfl fun b7 w8 n9 r=>?_;have H1:=keep n9.below H1
 have H4:=keep n9.below H4;obtain ⟨E7,Z8,H7,hB,zB⟩:=n9.all hB;refine ai (.cells (ae false ak.zero 0 0 0 0 .nilFunc) 44 (0,0)) r (fun R=>ah tz44) rfl fun fr b10 w11 n12 r=>?_;have H1:=keep n12.below H1
 have H4:=keep n12.below H4;have H7:=keep n12.below H7;obtain ⟨E10,Z11,H10,hB,zB⟩:=n12.all hB;refine wn (wsr (ac (.func (.func 270) #[] #[zp b7]) r (fun R=>aT r rfl) rfl fun fr r=>?_));refine ai (.cells #[.nilFunc] 280 (0,0)) r (fun R=>ah Dk) rfl fun fr b13 w14 n15 r=>?_
 have H1:=keep n15.below H1;have H4:=keep n15.below H4;have H7:=keep n15.below H7;have H10:=keep n15.below H10;obtain ⟨E13,Z14,H13,hB,zB⟩:=n15.all hB;refine bi (.cells #[.func (.func 270) #[] #[zp b7]] 280 (0,0)) r (fun R=>aZ r (o:=0) (v:=(.func (.func 270) #[] #[zp b7])) rfl rfl H13 DZ (Nat.le_of_ble_eq_true rfl) rfl rfl) rfl fun fr w16 u17 r=>?_;have Z16:=u17.size
 have H1:=u17.keep H1 (by omega)
 have H4:=u17.keep H4 (by omega)
 have H7:=u17.keep H7 (by omega)
 have H10:=u17.keep H10 (by omega)
 have H13:=u17.at_;obtain ⟨hB,zB⟩:=u17.on hB (by omega)
 refine wn (wsr (kG (aa a0) 6 r rfl H1 ta23 rfl rfl fun r=>kL (I a1) r rfl H4 to3 rfl rfl fun r=>kL (I a2) r rfl H7 to3 rfl rfl fun r=>?_));have hF1:=aM hF hB b10
 refine kD r (sD (F:=(kW F w0 w16 b10)) (n:=n) hF1 a0 a1 a2) rfl vn rfl fun w18 v19 hb hr20 r=>?_;have Z18:=hb.size
 have H1:=keep hb H1;have H4:=keep hb H4;have H7:=keep hb H7;have H10:=keep hb H10;have H13:=keep hb H13;obtain ⟨hB,zB⟩:=bon hb hB;refine ac (.func (.func 273) #[] #[zp b7,zp b1,zp b4,zp b13]) r (fun R=>aT r rfl) rfl fun fr r=>?_;have hF1:=aM hF hB b10
 have f21:((kW F w0 w18 b10)) b7:=(.inr ⟨by omega,by omega,by omega⟩)
 have f22:((kW F w0 w18 b10)) b1:=(.inr ⟨by omega,by omega,by omega⟩)
 have f23:((kW F w0 w18 b10)) b4:=(.inr ⟨by omega,by omega,by omega⟩)
 have f24:((kW F w0 w18 b10)) b13:=(.inr ⟨by omega,by omega,by omega⟩)
 have f26:((kW F w0 w18 b10)) b7:=(.inr ⟨by omega,by omega,by omega⟩)
 have q25:FnT Tryz.prog ak i64 (n+1) (kW F w0 w18 b10) w18 (.func (.func 270) #[] #[zp b7]) (fun x=>(D.dA a2 x)):=⟨270,[],[zp b7],EI,rfl,fun m hm x w' hs hz=>zg (fun b hb=>Nat.lt_of_lt_of_le (hF1 b hb) hz) a2 f26 (hs.at_ f26 H7) x⟩
 refine kD r (nC (F:=(kW F w0 w18 b10)) (n:=n) hF1 (Rep.mono (by rintro b (h | h); (rcases h with h | ⟨h1,h2,h3⟩; exact .inl h; exact .inr ⟨h1,by omega,h3⟩); exact .inr ⟨by omega,by omega,by omega⟩) (Same.refl _ _) (by omega) n _ _ hr20) ⟨273,[],[zp b7,zp b1,zp b4,zp b13],Di,rfl,fun m hm x w' hs hz=>zh (j:=j) (fun b hb=>Nat.lt_of_lt_of_le (hF1 b hb) hz) (by omega) a2 f21 (hs.at_ f21 H7) a0 f22 (hs.at_ f22 H1) a1 f23 (hs.at_ f23 H4) f24 (hs.at_ f24 H13) (q25.mono (by omega) (fun b h=>h) hs hz) x⟩) rfl kK rfl fun w27 v28 hb hr29 r=>?_
 have Z27:=hb.size;have H1:=keep hb H1;have H4:=keep hb H4;have H7:=keep hb H7;have H10:=keep hb H10;have H13:=keep hb H13;obtain ⟨hB,zB⟩:=bon hb hB;refine kP r hr29.shape rfl rfl H10 ts44 rfl rfl fun w30 u31 r=>?_;have Z30:=u31.size
 have H1:=u31.keep H1 (by omega)
 have H4:=u31.keep H4 (by omega)
 have H7:=u31.keep H7 (by omega)
 have H13:=u31.keep H13 (by omega)
 have H10:=u31.at_;obtain ⟨hB,zB⟩:=u31.on hB (by omega)
 exact wn (wp_ret (kR r hr29 rfl rfl H10 rfl ta44 hF hB u31 (by omega) (by omega) (by omega)))
def D.nW (j:Nat) (c0:Plan) (c1:Int) (c2:Int):T Int:=(D.jH j c0 c1 c2)
theorem xZ (hF:kH F w0) (hj:n<j)
    (c0:Plan) {c0b:Nat} (c0F:F c0b) (c0h:w0.heap[c0b]?=some (.cells ((aa c0)).toArray 23 (0,0))) (c1:Int) {c1b:Nat} (c1F:F c1b) (c1h:w0.heap[c1b]?=some (.cells ([(.int .i64 c1)]).toArray 3 (0,0))) (c2:Int) {c2b:Nat} (c2F:F c2b) (c2h:w0.heap[c2b]?=some (.cells ([(.int .i64 c2)]).toArray 3 (0,0))) :
    Calls Tryz.prog 169 #[zp c0b,zp c1b,zp c2b] w0 (aB Tryz.prog ak n (D.nW j c0 c1 c2) F w0):=by
 refine kN Tryz.func169 rfl 8 rfl rfl fun fr r hB=>?_;have lc0b:=lt_of_block c0h
 have lc1b:=lt_of_block c1h;have lc2b:=lt_of_block c2h;refine wsr ?_;refine ai (.cells (ae false ak.zero 0 0 0 0 .nilFunc) 44 (0,0)) r (fun R=>ah tz44) rfl fun fr b1 w2 n3 r=>?_;obtain ⟨E1,Z2,H1,hB,zB⟩:=n3.all hB
 refine wn (wsr (kG (aa c0) 6 r rfl (keep hB c0h) ta23 rfl rfl fun r=>kL (I c1) r rfl (keep hB c1h) to3 rfl rfl fun r=>kL (I c2) r rfl (keep hB c2h) to3 rfl rfl fun r=>?_));have hF1:=aM hF hB b1
 refine kD r (zV (j:=j) (F:=(kW F w0 w2 b1)) (n:=n) hF1 (by omega) c0 c1 c2) rfl EM rfl fun w4 v5 hb hr6 r=>?_;have Z4:=hb.size
 have H1:=keep hb H1;obtain ⟨hB,zB⟩:=bon hb hB;refine kP r hr6.shape rfl rfl H1 ts44 rfl rfl fun w7 u8 r=>?_;have Z7:=u8.size
 have H1:=u8.at_;obtain ⟨hB,zB⟩:=u8.on hB (by omega)
 exact wn (wp_ret (kR r hr6 rfl rfl H1 rfl ta44 hF hB u8 (by omega) (by omega) (by omega)))
def D.oo (j:Nat) (c0:Plan) (c1:Int) (c2:Int) (a0:Int):T Int:=(D.dz (D.cG c0 c1) (D.bW (D.eG ((D.aQ a0).1))) (fun _=>(D.nW j c0 c2 c1)))
theorem yM (hF:kH F w0) (hj:n<j)
    (c0:Plan) {c0b:Nat} (c0F:F c0b) (c0h:w0.heap[c0b]?=some (.cells ((aa c0)).toArray 23 (0,0))) (c1:Int) {c1b:Nat} (c1F:F c1b) (c1h:w0.heap[c1b]?=some (.cells ([(.int .i64 c1)]).toArray 3 (0,0))) (c2:Int) {c2b:Nat} (c2F:F c2b) (c2h:w0.heap[c2b]?=some (.cells ([(.int .i64 c2)]).toArray 3 (0,0))) (a0:Int) :
    Calls Tryz.prog 165 #[.int .u64 a0,zp c0b,zp c1b,zp c2b] w0 (aB Tryz.prog ak n (D.oo j c0 c1 c2 a0) F w0):=by
 refine kN Tryz.func165 rfl 21 rfl rfl fun fr r hB=>?_;have lc0b:=lt_of_block c0h
 have lc1b:=lt_of_block c1h;have lc2b:=lt_of_block c2h;refine wsr ?_;refine ai (.cells (ae false ak.zero 0 0 0 0 .nilFunc) 44 (0,0)) r (fun R=>ah tz44) rfl fun fr b1 w2 n3 r=>?_;obtain ⟨E1,Z2,H1,hB,zB⟩:=n3.all hB
 refine wn (wsr (kM (U a0) r rfl rfl fun r=>?_));refine kE r (jK w2 a0) rfl cl63 rfl fun w4 hb r=>?_
 have Z4:=hb.size;have H1:=keep hb H1;obtain ⟨hB,zB⟩:=bon hb hB;refine kM (.tuple #[(.agg (aI (D.aQ a0).1).toArray),(.bool (D.aQ a0).2)]) r rfl rfl fun r=>ac (.agg (aI (D.aQ a0).1).toArray) r (fun R=>ce r (vs:=#[(.agg (aI (D.aQ a0).1).toArray),(.bool (D.aQ a0).2)]) rfl rfl) rfl fun fr r=>ac (.bool (D.aQ a0).2) r (fun R=>ce r (vs:=#[(.agg (aI (D.aQ a0).1).toArray),(.bool (D.aQ a0).2)]) rfl rfl) rfl fun fr r=>?_;refine ai (.cells ((aI (⟨0,0,0⟩:State))).toArray 137 (0,0)) r (fun R=>ah fk) rfl fun fr b5 w6 n7 r=>?_
 have H1:=keep n7.below H1;obtain ⟨E5,Z6,H5,hB,zB⟩:=n7.all hB;refine bi (.cells ((aI ((D.aQ a0).1))).toArray 137 (0,0)) r (fun R=>aZ r (o:=0) (v:=(.agg (aI (D.aQ a0).1).toArray)) rfl rfl H5 dP (Nat.le_of_ble_eq_true rfl) rfl rfl) rfl fun fr w8 u9 r=>?_;have Z8:=u9.size
 have H1:=u9.keep H1 (by omega)
 have H5:=u9.at_;obtain ⟨hB,zB⟩:=u9.on hB (by omega)
 refine kA (.bool (D.aQ a0).2) r rfl rfl fun r=>wn (wp_seq ?_);refine bH 7 [.val (.agg (aa c0).toArray),.val (I c1),.val (I (D.cG c0 c1)),.val (.agg (aI (D.aQ a0).1).toArray),.val (.agg (aI (D.eG ((D.aQ a0).1))).toArray),.val (U (D.bW (D.eG ((D.aQ a0).1)))),.val (.func (.func 169) #[] #[zp c0b,zp c2b,zp c1b])] mixed r (by kernel_rfl) (kV (kV (kV (kV (kV (kV (kV bG))))))) ?_ ?_
 ·
  refine ec r (fun _ u _ b d s=>aW s (cs:=(aa c0)) (n:=6) rfl (bY hB b c0h) ta23 rfl bz) (ec r (fun _ u _ b d s=>av s rfl (bY hB b c1h) to3 rfl bz) (ec r (fun fr1 u w' hb' hd r'=>aN r' (args:=[(.agg (aa c0).toArray),(I c1)]) (lc hd.1 (lc hd.2.1 l0)) cl64 ((hH _ c0 c1).mono (by rintro _ w2 ⟨rfl,hb2⟩; exact ⟨_,rfl,hb2,rfl⟩))) (ec r (fun _ u _ b d s=>aW s (cs:=(aI ((D.aQ a0).1))) (n:=3) rfl (keep b H5) du rfl bz) (ec r (fun fr1 u w' hb' hd r'=>aN r' (args:=[(.agg (aI (D.aQ a0).1).toArray)]) (lc hd.1 l0) CQ ((xM _ ((D.aQ a0).1)).mono (by rintro _ w2 ⟨rfl,hb2⟩; exact ⟨_,rfl,hb2,rfl⟩))) (ec r (fun fr1 u w' hb' hd r'=>aN r' (args:=[(.agg (aI (D.eG ((D.aQ a0).1))).toArray)]) (lc hd.1 l0) qD ((jf _ (D.eG ((D.aQ a0).1))).mono (by rintro _ w2 ⟨rfl,hb2⟩; exact ⟨_,rfl,hb2,rfl⟩))) (ec r (fun _ u _ b d s=>aT s (v:=(.func (.func 169) #[] #[zp c0b,zp c2b,zp c1b])) rfl bz) ?_))))));exact bI
 intro fr u w10 hb hΦ hne r;have r:=r.congr (sc (hΦ 6 (by decide)) (sc (hΦ 5 (by decide)) (sc (hΦ 4 (by decide)) (sc (hΦ 3 (by decide)) (sc (hΦ 2 (by decide)) (sc (hΦ 1 (by decide)) (sc (hΦ 0 (by decide)) rfl)))))));have Z10:=hb.size;have H1:=keep hb H1;have H5:=keep hb H5;obtain ⟨hB,zB⟩:=bon hb hB;have hF1:=aM hF hB b1;have f11:((kW F w0 w10 b1)) c0b:=(.inl c0F);have f12:((kW F w0 w10 b1)) c2b:=(.inl c2F);have f13:((kW F w0 w10 b1)) c1b:=(.inl c1F);refine kD r (fD (F:=(kW F w0 w10 b1)) (n:=n) hF1 (D.cG c0 c1) (D.bW (D.eG ((D.aQ a0).1))) ⟨169,[],[zp c0b,zp c2b,zp c1b],DK,rfl,fun m hm _ w' hs hz=>xZ (j:=j) (fun b hb=>Nat.lt_of_lt_of_le (hF1 b hb) hz) (by omega) c0 f11 (hs.at_ f11 (keep hB c0h)) c2 f12 (hs.at_ f12 (keep hB c2h)) c1 f13 (hs.at_ f13 (keep hB c1h))⟩) rfl gk rfl fun w14 v15 hb hr16 r=>?_;have Z14:=hb.size
 have H1:=keep hb H1;have H5:=keep hb H5;obtain ⟨hB,zB⟩:=bon hb hB;refine kP r hr16.shape rfl rfl H1 ts44 rfl rfl fun w17 u18 r=>?_;have Z17:=u18.size
 have H5:=u18.keep H5 (by omega)
 have H1:=u18.at_;obtain ⟨hB,zB⟩:=u18.on hB (by omega)
 exact wn (wp_ret (kR r hr16 rfl rfl H1 rfl ta44 hF hB u18 (by omega) (by omega) (by omega)))
def D.fH (j:Nat) (a0:Plan) (a1:Int) (a2:Int):T Int:=(D.da (D.cG a0 a2) (fun x=>(D.oo j a0 a2 a1 x)))
theorem s9 (hF:kH F w0) (hj:n<j)
    (a0:Plan) (a1:Int) (a2:Int) :
    Calls Tryz.prog 82 #[.agg (aa a0).toArray,.int .i64 a1,.int .i64 a2] w0 (aB Tryz.prog ak n (D.fH j a0 a1 a2) F w0):=by
 refine kN Tryz.func82 rfl 12 rfl rfl fun fr r hB=>?_;refine wsr ?_
 refine kX 23 (.agg (aa a0).toArray) r rfl rfl fun b1 w2 n3 r=>?_;obtain ⟨E1,Z2,H1,hB,zB⟩:=n3.all hB
 refine kX 3 (I a1) r rfl rfl fun b4 w5 n6 r=>?_;have H1:=keep n6.below H1
 obtain ⟨E4,Z5,H4,hB,zB⟩:=n6.all hB;refine kX 3 (I a2) r rfl rfl fun b7 w8 n9 r=>?_;have H1:=keep n9.below H1
 have H4:=keep n9.below H4;obtain ⟨E7,Z8,H7,hB,zB⟩:=n9.all hB;refine ai (.cells (ae false ak.zero 0 0 0 0 .nilFunc) 44 (0,0)) r (fun R=>ah tz44) rfl fun fr b10 w11 n12 r=>?_;have H1:=keep n12.below H1
 have H4:=keep n12.below H4;have H7:=keep n12.below H7;obtain ⟨E10,Z11,H10,hB,zB⟩:=n12.all hB;refine wn (wsr (kG (aa a0) 6 r rfl H1 ta23 rfl rfl fun r=>kL (I a2) r rfl H7 to3 rfl rfl fun r=>?_));refine kE r (hH w11 a0 a2) rfl cl64 rfl fun w13 hb r=>?_
 have Z13:=hb.size;have H1:=keep hb H1;have H4:=keep hb H4;have H7:=keep hb H7;have H10:=keep hb H10;obtain ⟨hB,zB⟩:=bon hb hB;refine ac (.func (.func 165) #[] #[zp b1,zp b7,zp b4]) r (fun R=>aT r rfl) rfl fun fr r=>?_;have hF1:=aM hF hB b10
 have f14:((kW F w0 w13 b10)) b1:=(.inr ⟨by omega,by omega,by omega⟩)
 have f15:((kW F w0 w13 b10)) b7:=(.inr ⟨by omega,by omega,by omega⟩)
 have f16:((kW F w0 w13 b10)) b4:=(.inr ⟨by omega,by omega,by omega⟩)
 refine kD r (eL (F:=(kW F w0 w13 b10)) (n:=n) hF1 (D.cG a0 a2) ⟨165,[],[zp b1,zp b7,zp b4],Cy,rfl,fun m hm x w' hs hz=>yM (j:=j) (fun b hb=>Nat.lt_of_lt_of_le (hF1 b hb) hz) (by omega) a0 f14 (hs.at_ f14 H1) a2 f15 (hs.at_ f15 H7) a1 f16 (hs.at_ f16 H4) x⟩) rfl fo rfl fun w17 v18 hb hr19 r=>?_;have Z17:=hb.size
 have H1:=keep hb H1;have H4:=keep hb H4;have H7:=keep hb H7;have H10:=keep hb H10;obtain ⟨hB,zB⟩:=bon hb hB;refine kP r hr19.shape rfl rfl H10 ts44 rfl rfl fun w20 u21 r=>?_;have Z20:=u21.size
 have H1:=u21.keep H1 (by omega)
 have H4:=u21.keep H4 (by omega)
 have H7:=u21.keep H7 (by omega)
 have H10:=u21.at_;obtain ⟨hB,zB⟩:=u21.on hB (by omega)
 exact wn (wp_ret (kR r hr19 rfl rfl H10 rfl ta44 hF hB u21 (by omega) (by omega) (by omega)))
end
end Go.Proofs.YtikjpdpgdmbdpaaGreat

/- Ours. -/
set_option maxRecDepth 20000
set_option maxHeartbeats 2000000
namespace Go.Proofs.YtikjpdpgdmbdpaaGreat
open Go.RowKit
theorem cl17:ag Tryz.prog 17:=by kernel_rfl
theorem cl74:ag Tryz.prog 74:=by kernel_rfl
theorem qb:ba Tryz.prog 35 0 0:=by kernel_rfl
theorem uU:ba Tryz.prog 35 2 2:=by kernel_rfl
theorem to33:tyO Tryz.prog 33:=by kernel_rfl
theorem ts23:sized Tryz.prog 23 6:=by kernel_rfl
theorem tz23:zeroOf Tryz.prog 23=some (.agg (aa (⟨0,0,0,0,0,0⟩:Plan)).toArray):=by kernel_rfl
theorem Aw {at_:Int} {f:Int→T Grant} {ws ws':List Int} {n:Nat} {r:Grant} (h0:0≤at_) (h1:at_<ws.length) (h:Runs (f (rd ws at_)) ws n r ws'):Runs (D.og at_ f) ws (n+1) r ws':=Runs.load h0 h1 h
theorem Aq {at_ w:Int} {f:Unit→T Grant} {ws ws':List Int} {n:Nat} {r:Grant} (h0:0≤at_) (h1:at_<ws.length) (h:Runs (f ()) (ws.set at_.toNat w) n r ws'):Runs (D.nU at_ w f) ws (n+1) r ws':=Runs.store h0 h1 h
def sp (p:Plan) (n:Int):Int:=D.aL p+n * 5
section
variable {p : Plan} (hp : PF p) {n : Int} (hn : 0 ≤ n ∧ n < p.nodes)
include hp hn
theorem j9:0<sp p n∧sp p n+5≤D.br p∧D.cG p n=sp p n:=by
  have hN:=co hp;have hS:=dq hp;refine ⟨by unfold sp; omega,by unfold sp; omega,by rw [qC hp hn]; rfl⟩
end
theorem SF.live {s:State} (h:SF s) {k:Int} (hk:0≤k∧k≤2):SF (D.dg s k):=⟨h.g0,h.g1,by show (0:Int)≤1; omega,by show (1:Int)≤3; omega,hk.1,hk.2⟩
theorem SF.retire {s:State} (h:SF s):SF (D.eG s):=⟨h.g0,h.g1,by show (0:Int)≤2; omega,by show (2:Int)≤3; omega,h.k0,h.k1⟩
theorem SF.freed {s:State} (h:SF s) {m:Int} (hm:m≤1073741823):SF (D.bu s m):=by
  unfold D.bu;have:=h.g0;have:=h.g1
  by_cases e:s.gen≥m
  · rw [show decide (s.gen≥m)=true from by simpa using e]
    exact ⟨h.g0,h.g1,by show (0:Int)≤3; omega,by show (3:Int)≤3; omega,by show (0:Int)≤0; omega,by show (0:Int)≤2; omega⟩
  · rw [show decide (s.gen≥m)=false from by simpa using e]
    simp only [cond_false]
    rw [bo (x:=s.gen+1) (by omega) (by omega)]
    exact ⟨by show 0≤s.gen+1; omega,by show s.gen+1≤_; omega,by show (0:Int)≤0; omega,by show (0:Int)≤3; omega,by show (0:Int)≤0; omega,by show (0:Int)≤2; omega⟩
def StAt (p:Plan) (ws:List Int) (n:Int) (s:State):Prop:=rd ws (sp p n)=D.bW s∧SF s
theorem StAt.of {p:Plan} {ws:List Int} {n:Int} {s:State} (h:StAt p ws n s):D.aQ (rd ws (sp p n))=(s,true):=by rw [h.1]; exact BL h.2
theorem Au {p:Plan} (hp:PF p) {ws:List Int} {n k:Int} {s:State} (hn:0≤n∧n<p.nodes) (hl:Len p ws) (hs:StAt p ws n s) :
    Runs (D.fK p n k) ws 2 ⟨n,s.gen,0⟩ (ws.set (sp p n).toNat (D.bW (D.dg s k))):=by
  obtain ⟨q1,q2,q3⟩:=j9 hp hn;unfold Len at hl
  unfold D.fK;rw [q3];refine Aw (by omega) (by omega) ?_;unfold D.oF;rw [hs.of,q3];exact Aq (by omega) (by omega) (.done _ _)
theorem tQ {p:Plan} (hp:PF p) {ws:List Int} {n k:Int} {l:List Int} {g:Int} {s:State} (hF:FreeAt p ws (n::l) g) (hnn:p.nodes≤1000000) (hg:g<1000000) (hs:StAt p ws n s) (hk:0≤k∧k≤2) (J:Nat) {G:Int→T Grant} (hG:G n=D.fK p n k) :
    ∃ ws',Runs (T.bind (D.cJ (J+1) p) G) ws 5 ⟨n,s.gen,0⟩ ws'∧ws'.length=ws.length∧FreeAt p ws' l (g+1)∧StAt p ws' n (D.dg s k)∧∀ j,0<j→j≠sp p n→rd ws' j=rd ws j:=by
  have hn:=hF.range n (List.mem_cons_self ..);obtain ⟨q1,q2,q3⟩:=j9 hp hn;obtain ⟨hr,hF2⟩:=BB hp hF hnn hg J;have hN:=co hp;have hl:=hF.len;have hl2:=hF2.len;have hs0:=hs.1
  generalize hu:ws.set (0:Int).toNat ((g+1) * 2097152+first l)=u at hr hF2 hl2
  have hul:u.length=ws.length:=by rw [←hu,List.length_set]
  have hur:∀ j,0<j→rd u j=rd ws j:=fun j hj=>by rw [←hu,bM (by omega) (by omega) (by omega),if_neg (by omega)]
  have hsu:StAt p u n s:=⟨by rw [hur _ q1]; exact hs0,hs.2⟩
  have hg2:=Au hp (k:=k) hn hl2 hsu;refine ⟨u.set (sp p n).toNat (D.bW (D.dg s k)),?_,by rw [List.length_set,hul],?_,⟨?_,hs.2.live hk⟩,fun j hj hne=>?_⟩
  · exact (Runs.bind (g:=G) hr (by rw [hG]; exact hg2)).cast (show 3+2=5 from rfl)
  · refine hF2.keep (by rw [List.length_set]) ?_ fun m hm=>?_
    · rw [bM (by omega) (by omega) (by omega),if_neg (by omega)]
    · have hmr:=hF2.range m hm
      have:nx p m≠sp p n:=by unfold nx sp; omega
      rw [bM (by omega) (by omega) (by unfold nx; omega),if_neg this]
  · rw [bM (by omega) (by omega) (by omega),if_pos rfl]
  · rw [bM (by omega) (by omega) (by omega),if_neg hne,hur j hj]
theorem pK {p:Plan} (hp:PF p) {ws:List Int} {n k t:Int} {l:List Int} {g:Int} {s:State} (hF:FreeAt p ws (n::l) g) (hnn:p.nodes≤1000000) (hg:g<1000000) (hs:StAt p ws n s) (hk:0≤k∧k≤2) (J:Nat) :
    ∃ ws',Runs (D.eC (J+1) p t k) ws 5 ⟨n,s.gen,0⟩ ws'∧ws'.length=ws.length∧FreeAt p ws' l (g+1)∧StAt p ws' n (D.dg s k)∧∀ j,0<j→j≠sp p n→rd ws' j=rd ws j:=by
  have hn:=hF.range n (List.mem_cons_self ..);refine tQ hp hF hnn hg hs hk J (G:=fun x=>D.ez (J+1) p k t (fun x=>D.db p k x) x) ?_
  unfold D.ez;rw [show (n !=-1)=true from by simp; omega]
  rfl
theorem sT {p:Plan} (hp:PF p) {ws:List Int} {k g:Int} (hF:FreeAt p ws [] g) (hg:g<1000000) (J:Nat):Runs (T.bind (D.cJ (J+1) p) (fun x=>D.db p k x)) ws 1 ⟨-1,0,4⟩ ws:=
  (Runs.bind (g:=fun x=>D.db p k x) (pG hp hF hg J) (.done _ _)).cast (show 1+0=1 from rfl)
theorem sY {p:Plan} (hp:PF p) {ws:List Int} {n k:Int} {l:List Int} {g:Int} {s:State} (hF:FreeAt p ws (n::l) g) (hnn:p.nodes≤1000000) (hg:g<1000000) (hs:StAt p ws n s) (hk:0≤k∧k≤2) (J:Nat) :
    ∃ ws',Runs (T.bind (D.cJ (J+1) p) (fun x=>D.db p k x)) ws 5 ⟨n,s.gen,0⟩ ws'∧ws'.length=ws.length∧FreeAt p ws' l (g+1)∧StAt p ws' n (D.dg s k)∧∀ j,0<j→j≠sp p n→rd ws' j=rd ws j:=by
  have hn:=hF.range n (List.mem_cons_self ..);refine tQ hp hF hnn hg hs hk J (G:=fun x=>D.db p k x) ?_
  unfold D.db;rw [show (n==-1)=false from by simp; omega]
  rfl
theorem sR {p:Plan} (hp:PF p) {ws:List Int} {t n:Int} {r:List Int} (ht:0≤t∧t<p.threads) (hn:0≤n∧n<p.nodes) (hnn:p.nodes≤1000000) (hl:Len p ws) (h:RetAt p ws t r) (hf:(r.length:Int)<p.retire) (J:Nat) :
    ∃ ws',Runs (D.jH J p t n) ws 3 n ws'∧ws'.length=ws.length∧RetAt p ws' t (r++[n])∧∀ j,0≤j→j≠rb p t→j≠rb p t+1+r.length→rd ws' j=rd ws j:=by
  obtain ⟨ws',hr,hl',hR,ho⟩:=pI hp ht hn hnn hl h hf;refine ⟨ws',?_,hl',hR,ho⟩;refine (Runs.bind (g:=fun x=>D.ep J n p t (fun x=>D.dA n x) x) hr ?_).cast (show 3+0=3 from rfl)
  unfold D.ep;rw [show ((r.length:Int)+1 !=-1)=true from by simp; omega]
  exact .done _ _
theorem C2:D.bW ⟨0,0,0⟩=0:=by rw [tV ⟨by decide,by decide,by decide,by decide,by decide,by decide⟩]; rfl
theorem tw {p:Plan} (hp:PF p) {ws:List Int} (h:LaidAt p ws) {n:Int} (hn:0≤n∧n<p.nodes):StAt p ws n ⟨0,0,0⟩:=by
  obtain ⟨q1,q2,q3⟩:=j9 hp hn;refine ⟨?_,by decide,by decide,by decide,by decide,by decide,by decide⟩
  rw [C2]
  exact h.zero _ q1 fun m _ _=>by unfold sp; omega
theorem ug {p:Plan} (hp:PF p) {ws:List Int} (h:LaidAt p ws) {t:Int} (ht:0≤t∧t<p.threads):RetAt p ws t []:=by
  obtain ⟨q1,q2,q3⟩:=cq hp ht;have hr1:=hp.r1;have ht1:=hp.t1;exact ⟨h.zero _ q3 fun m _ _=>by omega,by simp; omega,fun i hi=>(by cases hi),fun _ h=>(by cases h)⟩
structure GrantI (p:Plan) (k:Int) (i:Nat) (ws:List Int):Prop where
  free:FreeAt p ws ((List.range' i (p.nodes.toNat - i)).map fun (q:Nat)=>(q:Int)) i
  ret:RetAt p ws 0 []
  live:∀ n:Int,0≤n→n<i→StAt p ws n ⟨0,1,k⟩
  rest:∀ n:Int,i≤n→n<p.nodes→StAt p ws n ⟨0,0,0⟩
theorem GrantI.start {p:Plan} (hp:PF p) {ws:List Int} (h:LaidAt p ws) (k:Int):GrantI p k 0 ws:=by
  have hn1:=hp.n1;have ht1:=hp.t1;exact ⟨tH hp h,ug hp h ⟨by omega,by omega⟩,fun n h0 h1=>by omega,fun n h0 h1=>tw hp h ⟨by omega,h1⟩⟩
theorem GrantI.step {p:Plan} (hp:PF p) (hnn:p.nodes≤40) {k:Int} (hk:0≤k∧k≤2) {i:Nat} {ws:List Int} (h:GrantI p k i ws) (hi:(i:Int)<p.nodes) (J:Nat) :
    ∃ ws',Runs (D.eC (J+1) p 0 k) ws 5 ⟨i,0,0⟩ ws'∧GrantI p k (i+1) ws'∧∀ j,0<j→j<D.aL p→rd ws' j=rd ws j:=by
  have hN:=co hp;have ht1:=hp.t1;obtain ⟨d,hd⟩:∃ d,p.nodes.toNat - i=d+1:=⟨p.nodes.toNat - i - 1,by omega⟩
  have hF:=h.free;rw [hd,List.range'_succ,List.map_cons] at hF
  have hs:=h.rest i (by omega) hi
  obtain ⟨ws',hr,hl,hF2,hst,ho⟩:=pK hp (t:=0) hF (by omega) (by omega) hs hk J;obtain ⟨p1,p2,p3⟩:=cq hp (t:=0) ⟨by omega,by omega⟩
  refine ⟨ws',hr,⟨?_,h.ret.keep fun j h0 h1=>ho j (by omega) (by unfold sp; omega),fun n h0 h1=>?_,fun n h0 h1=>?_⟩,fun j h0 h1=>ho j h0 (by unfold sp; omega)⟩
  · rw [show p.nodes.toNat - (i+1)=d from by omega]
    exact hF2
  · by_cases e:n=(i:Int)
    · subst e; exact hst
    · have hv:=h.live n h0 (by omega)
      exact ⟨by rw [ho _ (by unfold sp; omega) (by unfold sp; omega)]; exact hv.1,hv.2⟩
  · have hv:=h.rest n (by omega) h1
    exact ⟨by rw [ho _ (by unfold sp; omega) (by unfold sp; omega)]; exact hv.1,hv.2⟩
end Go.Proofs.YtikjpdpgdmbdpaaGreat

/- Some of our texts, one behind the other. -/
import Derived.Test.YtfpgnmhcfkikkaaGreatQdRetires
import Derived.Test.YtfpgnmhcfkikkaaGreatQdM18
set_option linter.all false
/- Ours. -/
set_option maxRecDepth 20000
set_option maxHeartbeats 2000000
namespace Go.Proofs.YtfpgnmhcfkikkaaGreat
open Go.RowKit
section
variable {n : Nat} {F : Nat → Prop} {j : Nat} {w0 : World}
theorem Cn:ak Tryz.prog 109:=by kernel_rfl
theorem uH:ak Tryz.prog 110:=by kernel_rfl
theorem uU:ak Tryz.prog 111:=by kernel_rfl
theorem C6:ak Tryz.prog 114:=by kernel_rfl
theorem uk:ak Tryz.prog 115:=by kernel_rfl
theorem Dp:ak Tryz.prog 116:=by kernel_rfl
theorem Cb:ak Tryz.prog 128:=by kernel_rfl
theorem Cm:ak Tryz.prog 130:=by kernel_rfl
theorem C2:ak Tryz.prog 131:=by kernel_rfl
theorem Dz:ak Tryz.prog 132:=by kernel_rfl
theorem DH:ak Tryz.prog 205:=by kernel_rfl
theorem Df:ak Tryz.prog 206:=by kernel_rfl
theorem Dx:ak Tryz.prog 207:=by kernel_rfl
theorem DF:ak Tryz.prog 208:=by kernel_rfl
theorem DB:ak Tryz.prog 209:=by kernel_rfl
theorem BW:ak Tryz.prog 228:=by kernel_rfl
theorem uT:ak Tryz.prog 230:=by kernel_rfl
theorem Dc:ak Tryz.prog 231:=by kernel_rfl
theorem BS:ak Tryz.prog 232:=by kernel_rfl
theorem C0:sized Tryz.prog 200 1:=by kernel_rfl
theorem CP:sized Tryz.prog 291 1:=by kernel_rfl
theorem DJ:zeroOf Tryz.prog 200=some .nilFunc:=by kernel_rfl
theorem CW:zeroOf Tryz.prog 291=some .nilFunc:=by kernel_rfl
def D.rk (c0:Int) (c1:State):T Grant:=(D.li (⟨c0,c1.gen,0⟩:Grant))
theorem xM (hF:kH F w0)
    (c0:Int) {c0b:Nat} (c0F:F c0b) (c0h:w0.heap[c0b]?=some (.cells ([(.int .i64 c0)]).toArray 3 (0,0))) (c1:State) {c1b:Nat} (c1F:F c1b) (c1h:w0.heap[c1b]?=some (.cells ((aI c1)).toArray 55 (0,0))) :
    Calls Tryz.prog 209 #[zp c0b,zp c1b] w0 (av Tryz.prog bf n (D.rk c0 c1) F w0):=by
 refine enter Tryz.func209 rfl 8 rfl rfl fun fr r=>?_;have hB:=Below.refl w0.heap.size w0
 have lc0b:=lt_of_block c0h;have lc1b:=lt_of_block c1h;refine wsr ?_;refine ar (.cells (ai false bf.zero 0 0 0 0 .nilFunc) 45 (0,0)) r (fun R=>aq tz45) rfl fun fr b1 w2 n3 r=>?_;obtain ⟨E1,Z2,H1,hB,zB⟩:=n3.all hB
 refine wn (wsr (kL (I c0) r rfl (keep hB c0h) to3 rfl rfl fun r=>kF 0 r rfl fO rfl fun r=>kL (I c1.gen) r rfl (keep hB c1h) to3 rfl rfl fun r=>kU (.agg (grantC (⟨c0,c1.gen,0⟩:Grant)).toArray) r (by kernel_rfl) rfl fun r=>?_));have hF1:=aA hF hB b1
 refine kD r (qY (F:=(kW F w0 w2 b1)) (n:=n) hF1 (⟨c0,c1.gen,0⟩:Grant)) rfl uH rfl fun w4 v5 hb hr6 r=>?_;have Z4:=hb.size
 have H1:=keep hb H1;obtain ⟨hB,zB⟩:=bon hb hB;refine kP r hr6.shape rfl rfl H1 ts45 rfl rfl fun w7 u8 r=>?_;have Z7:=u8.size
 have H1:=u8.at_;obtain ⟨hB,zB⟩:=u8.on hB (by omega)
 exact wn (wp_ret (kR r hr6 rfl rfl H1 rfl ta45 hF hB u8 (by omega) (by omega) (by omega)))
def D.o6 (c0:Plan) (c1:Int) (c2:Int) (a0:Int):T Grant:=(D.nI (D.cw c0 c1) (D.bR (D.cS ((D.aR a0).1) c2)) (fun _=>(D.rk c1 ((D.aR a0).1))))
theorem yj (hF:kH F w0)
    (c0:Plan) {c0b:Nat} (c0F:F c0b) (c0h:w0.heap[c0b]?=some (.cells ((af c0)).toArray 23 (0,0))) (c1:Int) {c1b:Nat} (c1F:F c1b) (c1h:w0.heap[c1b]?=some (.cells ([(.int .i64 c1)]).toArray 3 (0,0))) (c2:Int) {c2b:Nat} (c2F:F c2b) (c2h:w0.heap[c2b]?=some (.cells ([(.int .i64 c2)]).toArray 3 (0,0))) (a0:Int) :
    Calls Tryz.prog 206 #[.int .u64 a0,zp c0b,zp c1b,zp c2b] w0 (av Tryz.prog bf n (D.o6 c0 c1 c2 a0) F w0):=by
 refine enter Tryz.func206 rfl 22 rfl rfl fun fr r=>?_;have hB:=Below.refl w0.heap.size w0
 have lc0b:=lt_of_block c0h;have lc1b:=lt_of_block c1h;have lc2b:=lt_of_block c2h;refine wsr ?_;refine ar (.cells (ai false bf.zero 0 0 0 0 .nilFunc) 45 (0,0)) r (fun R=>aq tz45) rfl fun fr b1 w2 n3 r=>?_;obtain ⟨E1,Z2,H1,hB,zB⟩:=n3.all hB
 refine wn (wsr (kM (U a0) r rfl rfl fun r=>?_));refine kE r (js w2 a0) rfl cl87 rfl fun w4 hb r=>?_
 have Z4:=hb.size;have H1:=keep hb H1;obtain ⟨hB,zB⟩:=bon hb hB;refine kM (.tuple #[(.agg (aI (D.aR a0).1).toArray),(.bool (D.aR a0).2)]) r rfl rfl fun r=>ae (.agg (aI (D.aR a0).1).toArray) r (fun R=>bC r (vs:=#[(.agg (aI (D.aR a0).1).toArray),(.bool (D.aR a0).2)]) rfl rfl) rfl fun fr r=>ae (.bool (D.aR a0).2) r (fun R=>bC r (vs:=#[(.agg (aI (D.aR a0).1).toArray),(.bool (D.aR a0).2)]) rfl rfl) rfl fun fr r=>?_;refine ar (.cells ((aI (⟨0,0,0⟩:State))).toArray 55 (0,0)) r (fun R=>aq tz55) rfl fun fr b5 w6 n7 r=>?_
 have H1:=keep n7.below H1;obtain ⟨E5,Z6,H5,hB,zB⟩:=n7.all hB;refine aM (.cells ((aI ((D.aR a0).1))).toArray 55 (0,0)) r (fun R=>aX r (o:=0) (v:=(.agg (aI (D.aR a0).1).toArray)) rfl rfl H5 ts55 (Nat.le_of_ble_eq_true rfl) rfl rfl) rfl fun fr w8 u9 r=>?_;have Z8:=u9.size
 have H1:=u9.keep H1 (by omega)
 have H5:=u9.at_;obtain ⟨hB,zB⟩:=u9.on hB (by omega)
 refine kA (.bool (D.aR a0).2) r rfl rfl fun r=>wn (wp_seq ?_);refine bw 8 [.val (.agg (af c0).toArray),.val (I c1),.val (I (D.cw c0 c1)),.val (.agg (aI (D.aR a0).1).toArray),.val (I c2),.val (.agg (aI (D.cS ((D.aR a0).1) c2)).toArray),.val (U (D.bR (D.cS ((D.aR a0).1) c2))),.val (.func (.func 209) #[] #[zp c1b,zp b5])] mixed r (by kernel_rfl) (ag (by exact trivial) (ag (by exact trivial) (ag (by exact trivial) (ag (by exact trivial) (ag (by exact trivial) (ag (by exact trivial) (ag (by exact trivial) (ag (by exact trivial) bv)))))))) ?_ ?_
 ·
  refine ec r (fun _ u _ b d s=>aU s (cs:=(af c0)) (n:=6) rfl (bo hB b c0h) ta23 rfl bz) (ec r (fun _ u _ b d s=>aB s rfl (bo hB b c1h) to3 rfl bz) (ec r (fun fr1 u w' hb' hd r'=>aP r' (args:=[(.agg (af c0).toArray),(I c1)]) (lc hd.1 (lc hd.2.1 l0)) cl31 ((gU _ c0 c1).mono (by rintro _ w2 ⟨rfl,hb2⟩; exact ⟨_,rfl,hb2,rfl⟩))) (ec r (fun _ u _ b d s=>aU s (cs:=(aI ((D.aR a0).1))) (n:=3) rfl (keep b H5) ta55 rfl bz) (ec r (fun _ u _ b d s=>aB s rfl (bo hB b c2h) to3 rfl bz) (ec r (fun fr1 u w' hb' hd r'=>aP r' (args:=[(.agg (aI (D.aR a0).1).toArray),(I c2)]) (lc hd.1 (lc hd.2.1 l0)) DF ((xm _ ((D.aR a0).1) c2).mono (by rintro _ w2 ⟨rfl,hb2⟩; exact ⟨_,rfl,hb2,rfl⟩))) (ec r (fun fr1 u w' hb' hd r'=>aP r' (args:=[(.agg (aI (D.cS ((D.aR a0).1) c2)).toArray)]) (lc hd.1 l0) cl32 ((j5 _ (D.cS ((D.aR a0).1) c2)).mono (by rintro _ w2 ⟨rfl,hb2⟩; exact ⟨_,rfl,hb2,rfl⟩))) (ec r (fun _ u _ b d s=>aW s (v:=(.func (.func 209) #[] #[zp c1b,zp b5])) rfl bz) ?_)))))));exact bA
 intro fr u w10 hb hΦ hne r;have r:=r.congr (sc (hΦ 7 (by decide)) (sc (hΦ 6 (by decide)) (sc (hΦ 5 (by decide)) (sc (hΦ 4 (by decide)) (sc (hΦ 3 (by decide)) (sc (hΦ 2 (by decide)) (sc (hΦ 1 (by decide)) (sc (hΦ 0 (by decide)) rfl))))))));have Z10:=hb.size;have H1:=keep hb H1;have H5:=keep hb H5;obtain ⟨hB,zB⟩:=bon hb hB;have hF1:=aA hF hB b1;have f11:((kW F w0 w10 b1)) c1b:=(.inl c1F);have f12:((kW F w0 w10 b1)) b5:=(.inr ⟨by omega,by omega,by omega⟩)
 refine kD r (xB (F:=(kW F w0 w10 b1)) (n:=n) hF1 (D.cw c0 c1) (D.bR (D.cS ((D.aR a0).1) c2)) ⟨209,[],[zp c1b,zp b5],DB,rfl,fun m hm _ w' hs hz=>xM (fun b hb=>Nat.lt_of_lt_of_le (hF1 b hb) hz) c1 f11 (hs.at_ f11 (keep hB c1h)) ((D.aR a0).1) f12 (hs.at_ f12 H5)⟩) rfl Dx rfl fun w13 v14 hb hr15 r=>?_;have Z13:=hb.size
 have H1:=keep hb H1;have H5:=keep hb H5;obtain ⟨hB,zB⟩:=bon hb hB;refine kP r hr15.shape rfl rfl H1 ts45 rfl rfl fun w16 u17 r=>?_;have Z16:=u17.size
 have H5:=u17.keep H5 (by omega)
 have H1:=u17.at_;obtain ⟨hB,zB⟩:=u17.on hB (by omega)
 exact wn (wp_ret (kR r hr15 rfl rfl H1 rfl ta45 hF hB u17 (by omega) (by omega) (by omega)))
def D.fF (a0:Plan) (a1:Int) (a2:Int):T Grant:=(D.nR (D.cw a0 a1) (fun x=>(D.o6 a0 a1 a2 x)))
theorem rA (hF:kH F w0)
    (a0:Plan) (a1:Int) (a2:Int) :
    Calls Tryz.prog 111 #[.agg (af a0).toArray,.int .i64 a1,.int .i64 a2] w0 (av Tryz.prog bf n (D.fF a0 a1 a2) F w0):=by
 refine enter Tryz.func111 rfl 12 rfl rfl fun fr r=>?_;have hB:=Below.refl w0.heap.size w0
 refine wsr ?_;refine kX 23 (.agg (af a0).toArray) r rfl rfl fun b1 w2 n3 r=>?_;obtain ⟨E1,Z2,H1,hB,zB⟩:=n3.all hB
 refine kX 3 (I a1) r rfl rfl fun b4 w5 n6 r=>?_;have H1:=keep n6.below H1
 obtain ⟨E4,Z5,H4,hB,zB⟩:=n6.all hB;refine kX 3 (I a2) r rfl rfl fun b7 w8 n9 r=>?_;have H1:=keep n9.below H1
 have H4:=keep n9.below H4;obtain ⟨E7,Z8,H7,hB,zB⟩:=n9.all hB;refine ar (.cells (ai false bf.zero 0 0 0 0 .nilFunc) 45 (0,0)) r (fun R=>aq tz45) rfl fun fr b10 w11 n12 r=>?_;have H1:=keep n12.below H1
 have H4:=keep n12.below H4;have H7:=keep n12.below H7;obtain ⟨E10,Z11,H10,hB,zB⟩:=n12.all hB;refine wn (wsr (kG (af a0) 6 r rfl H1 ta23 rfl rfl fun r=>kL (I a1) r rfl H4 to3 rfl rfl fun r=>?_));refine kE r (gU w11 a0 a1) rfl cl31 rfl fun w13 hb r=>?_
 have Z13:=hb.size;have H1:=keep hb H1;have H4:=keep hb H4;have H7:=keep hb H7;have H10:=keep hb H10;obtain ⟨hB,zB⟩:=bon hb hB;refine ae (.func (.func 206) #[] #[zp b1,zp b4,zp b7]) r (fun R=>aW r rfl) rfl fun fr r=>?_;have hF1:=aA hF hB b10
 have f14:((kW F w0 w13 b10)) b1:=(.inr ⟨by omega,by omega,by omega⟩)
 have f15:((kW F w0 w13 b10)) b4:=(.inr ⟨by omega,by omega,by omega⟩)
 have f16:((kW F w0 w13 b10)) b7:=(.inr ⟨by omega,by omega,by omega⟩)
 refine kD r (xK (F:=(kW F w0 w13 b10)) (n:=n) hF1 (D.cw a0 a1) ⟨206,[],[zp b1,zp b4,zp b7],Df,rfl,fun m hm x w' hs hz=>yj (fun b hb=>Nat.lt_of_lt_of_le (hF1 b hb) hz) a0 f14 (hs.at_ f14 H1) a1 f15 (hs.at_ f15 H4) a2 f16 (hs.at_ f16 H7) x⟩) rfl DH rfl fun w17 v18 hb hr19 r=>?_;have Z17:=hb.size
 have H1:=keep hb H1;have H4:=keep hb H4;have H7:=keep hb H7;have H10:=keep hb H10;obtain ⟨hB,zB⟩:=bon hb hB;refine kP r hr19.shape rfl rfl H10 ts45 rfl rfl fun w20 u21 r=>?_;have Z20:=u21.size
 have H1:=u21.keep H1 (by omega)
 have H4:=u21.keep H4 (by omega)
 have H7:=u21.keep H7 (by omega)
 have H10:=u21.at_;obtain ⟨hB,zB⟩:=u21.on hB (by omega)
 exact wn (wp_ret (kR r hr19 rfl rfl H10 rfl ta45 hF hB u21 (by omega) (by omega) (by omega)))
def D.cW (c0:Plan) (c1:Int) (a0:Int):T Grant:=(bif (a0==(-1)) then (D.li (⟨(-1),0,4⟩:Grant)) else (D.fF c0 a0 c1))
theorem yF (hF:kH F w0)
    (c0:Plan) {c0b:Nat} (c0F:F c0b) (c0h:w0.heap[c0b]?=some (.cells ((af c0)).toArray 23 (0,0))) (c1:Int) {c1b:Nat} (c1F:F c1b) (c1h:w0.heap[c1b]?=some (.cells ([(.int .i64 c1)]).toArray 3 (0,0))) (a0:Int) :
    Calls Tryz.prog 109 #[.int .i64 a0,zp c0b,zp c1b] w0 (av Tryz.prog bf n (D.cW c0 c1 a0) F w0):=by
 refine enter Tryz.func109 rfl 13 rfl rfl fun fr r=>?_;have hB:=Below.refl w0.heap.size w0
 have lc0b:=lt_of_block c0h;have lc1b:=lt_of_block c1h;refine wsr ?_;refine ar (.cells (ai false bf.zero 0 0 0 0 .nilFunc) 45 (0,0)) r (fun R=>aq tz45) rfl fun fr b1 w2 n3 r=>?_;obtain ⟨E1,Z2,H1,hB,zB⟩:=n3.all hB
 refine wn (wp_seq (wsr (kM (I a0) r rfl rfl fun r=>kB r rfl rfl rfl rfl rfl fun r=>wn ?_)));refine wp_cond_split (t:=(a0==(-1))) (r.ev rfl) (fun h4=>?_) (fun h4=>?_)
 ·
  refine wsr (kU (.agg (grantC (⟨(-1),0,4⟩:Grant)).toArray) r (by kernel_rfl) rfl fun r=>?_);have hF1:=aA hF hB b1
  refine kD r (qY (F:=(kW F w0 w2 b1)) (n:=n) hF1 (⟨(-1),0,4⟩:Grant)) rfl uH rfl fun w5 v6 hb hr7 r=>?_;have Z5:=hb.size
  have H1:=keep hb H1;obtain ⟨hB,zB⟩:=bon hb hB;refine kP r hr7.shape rfl rfl H1 ts45 rfl rfl fun w8 u9 r=>?_;have Z8:=u9.size
  have H1:=u9.at_;obtain ⟨hB,zB⟩:=u9.on hB (by omega)
  refine wn (wp_ret ?_);have hd:D.cW c0 c1 a0=(D.li (⟨(-1),0,4⟩:Grant)):=(ay h4).trans (rfl);have hs:=hr7.shape.cells;refine aH r rfl rfl H1 (k:=9) hs.1 ta45 ?_;rw [←hs.2.2,hd];exact rfin hF hB hr7 u9 (by omega) (by omega) (by omega)
 refine wp_skip (wsr (kG (af c0) 6 r rfl (keep hB c0h) ta23 rfl rfl fun r=>kM (I a0) r rfl rfl fun r=>kL (I c1) r rfl (keep hB c1h) to3 rfl rfl fun r=>?_));have hF1:=aA hF hB b1
 refine kD r (rA (F:=(kW F w0 w2 b1)) (n:=n) hF1 c0 a0 c1) rfl uU rfl fun w10 v11 hb hr12 r=>?_;have Z10:=hb.size
 have H1:=keep hb H1;obtain ⟨hB,zB⟩:=bon hb hB;refine kP r hr12.shape rfl rfl H1 ts45 rfl rfl fun w13 u14 r=>?_;have Z13:=u14.size
 have H1:=u14.at_;obtain ⟨hB,zB⟩:=u14.on hB (by omega)
 refine wn (wp_ret ?_);have hd:D.cW c0 c1 a0=(D.fF c0 a0 c1):=(aw h4).trans (rfl);have hs:=hr12.shape.cells;refine aH r rfl rfl H1 (k:=9) hs.1 ta45 ?_;rw [←hs.2.2,hd];exact rfin hF hB hr12 u14 (by omega) (by omega) (by omega)
def D.jk (j:Nat) (c0:Plan) (c1:(Int→T Grant)) (a0:Int):T Grant:=(T.bind (D.cF j c0) c1)
theorem yg (hF:kH F w0) (hj:n<j)
    (c0:Plan) {c0b:Nat} (c0F:F c0b) (c0h:w0.heap[c0b]?=some (.cells ((af c0)).toArray 23 (0,0))) {c1f:FuncId} {c1_1 c1_2:List Value} {c1:(Int→T Grant)} {c1b:Nat} (c1F:F c1b) (c1h:w0.heap[c1b]?=some (.cells #[.func (.func c1f) c1_1.toArray c1_2.toArray] 200 (0,0))) (c1n:FnT Tryz.prog bf i64 (n+1) F w0 (.func (.func c1f) c1_1.toArray c1_2.toArray) c1) (a0:Int) :
    Calls Tryz.prog 116 #[.int .i64 a0,zp c0b,zp c1b] w0 (av Tryz.prog bf n (D.jk j c0 c1 a0) F w0):=by
 refine enter Tryz.func116 rfl 9 rfl rfl fun fr r=>?_;have hB:=Below.refl w0.heap.size w0
 have lc0b:=lt_of_block c0h;have lc1b:=lt_of_block c1h;refine wsr ?_;refine ar (.cells (ai false bf.zero 0 0 0 0 .nilFunc) 45 (0,0)) r (fun R=>aq tz45) rfl fun fr b1 w2 n3 r=>?_;obtain ⟨E1,Z2,H1,hB,zB⟩:=n3.all hB
 refine wn (wp_seq ?_);have hF1:=aA hF hB b1;refine bw 3 [.val (.agg (af c0).toArray),.pred (PrepP Tryz.prog ax n (D.cF j c0) ((kW F w0 w2 b1)) w2) (PrepP.st hF1),.val (.func (.func c1f) c1_1.toArray c1_2.toArray)] mixed r (by kernel_rfl) (ag (by exact trivial) (ag (by exact trivial) (ag (by exact trivial) bv))) ?_ ?_
 ·
  refine ec r (fun _ u _ b d s=>aU s (cs:=(af c0)) (n:=6) rfl (bo hB b c0h) ta23 rfl bz) (ec r (fun fr1 u w' hb' hd r'=>aP r' (args:=[(.agg (af c0).toArray)]) (lc hd.1 l0) pN (((rV (k:=j) (n:=n) (by omega)) ((kW F w0 w2 b1)) _ (fun b h=>Nat.lt_of_lt_of_le (hF1 b h) hb'.size) c0).mono (by rintro _ w2 ⟨y,rfl,hb2,hr2⟩; exact ⟨_,rfl,hb2,PrepP.of (drB hb') hb2 hr2⟩))) (ec r (fun _ u _ b d s=>aB s rfl (bo hB b c1h) pZ rfl bz) ?_));exact bA
 intro fr u w4 hb hΦ hne r;obtain ⟨v5,hv1⟩:∃ v,v=u 1:=⟨_,rfl⟩;have g1:u 1=v5:=hv1.symm;have hr6:=(hΦ 1 (by decide)).2;rw [g1] at hr6
 have r:=r.congr (sc (hΦ 2 (by decide)) (sc g1 (sc (hΦ 0 (by decide)) rfl)))
 have Z4:=hb.size;have H1:=keep hb H1;obtain ⟨hB,zB⟩:=bon hb hB;have hF1:=aA hF hB b1;refine kD r (mU (F:=(kW F w0 w4 b1)) (n:=n) hF1 (Rep.mono (by rintro b (h | h); (rcases h with h | ⟨h1,h2,h3⟩; exact .inl h; exact .inr ⟨h1,by omega,h3⟩); exact .inr ⟨by omega,by omega,by omega⟩) (Same.refl _ _) (by omega) n _ _ hr6) (c1n.mono (by omega) (fun b h=>.inl h) (Same.below hB hF) hB.size)) rfl mK rfl fun w7 v8 hb hr9 r=>?_
 have Z7:=hb.size;have H1:=keep hb H1;obtain ⟨hB,zB⟩:=bon hb hB;refine kP r hr9.shape rfl rfl H1 ts45 rfl rfl fun w10 u11 r=>?_;have Z10:=u11.size
 have H1:=u11.at_;obtain ⟨hB,zB⟩:=u11.on hB (by omega)
 exact wn (wp_ret (kR r hr9 rfl rfl H1 rfl ta45 hF hB u11 (by omega) (by omega) (by omega)))
def D.ef (j:Nat) (c0:Plan) (c1:Int) (c2:Int) (c3:(Int→T Grant)) (a0:Int):T Grant:=(bif (a0 !=(-1)) then (D.fF c0 a0 c1) else (T.bind (D.fE j c0 c2) (fun x=>(D.jk j c0 c3 x))))
theorem yL (hF:kH F w0) (hj:n<j)
    (c0:Plan) {c0b:Nat} (c0F:F c0b) (c0h:w0.heap[c0b]?=some (.cells ((af c0)).toArray 23 (0,0))) (c1:Int) {c1b:Nat} (c1F:F c1b) (c1h:w0.heap[c1b]?=some (.cells ([(.int .i64 c1)]).toArray 3 (0,0))) (c2:Int) {c2b:Nat} (c2F:F c2b) (c2h:w0.heap[c2b]?=some (.cells ([(.int .i64 c2)]).toArray 3 (0,0))) {c3f:FuncId} {c3_1 c3_2:List Value} {c3:(Int→T Grant)} {c3b:Nat} (c3F:F c3b) (c3h:w0.heap[c3b]?=some (.cells #[.func (.func c3f) c3_1.toArray c3_2.toArray] 200 (0,0))) (c3n:FnT Tryz.prog bf i64 (n+1) F w0 (.func (.func c3f) c3_1.toArray c3_2.toArray) c3) (a0:Int) :
    Calls Tryz.prog 114 #[.int .i64 a0,zp c0b,zp c1b,zp c2b,zp c3b] w0 (av Tryz.prog bf n (D.ef j c0 c1 c2 c3 a0) F w0):=by
 refine enter Tryz.func114 rfl 18 rfl rfl fun fr r=>?_;have hB:=Below.refl w0.heap.size w0
 have lc0b:=lt_of_block c0h;have lc1b:=lt_of_block c1h;have lc2b:=lt_of_block c2h;have lc3b:=lt_of_block c3h;refine wsr ?_;refine ar (.cells (ai false bf.zero 0 0 0 0 .nilFunc) 45 (0,0)) r (fun R=>aq tz45) rfl fun fr b1 w2 n3 r=>?_;obtain ⟨E1,Z2,H1,hB,zB⟩:=n3.all hB
 refine wn (wp_seq (wsr (kM (I a0) r rfl rfl fun r=>kB r rfl rfl rfl rfl rfl fun r=>wn ?_)));refine wp_cond_split (t:=(a0 !=(-1))) (r.ev rfl) (fun h4=>?_) (fun h4=>?_)
 ·
  refine wsr (kG (af c0) 6 r rfl (keep hB c0h) ta23 rfl rfl fun r=>kM (I a0) r rfl rfl fun r=>kL (I c1) r rfl (keep hB c1h) to3 rfl rfl fun r=>?_);have hF1:=aA hF hB b1
  refine kD r (rA (F:=(kW F w0 w2 b1)) (n:=n) hF1 c0 a0 c1) rfl uU rfl fun w5 v6 hb hr7 r=>?_;have Z5:=hb.size
  have H1:=keep hb H1;obtain ⟨hB,zB⟩:=bon hb hB;refine kP r hr7.shape rfl rfl H1 ts45 rfl rfl fun w8 u9 r=>?_;have Z8:=u9.size
  have H1:=u9.at_;obtain ⟨hB,zB⟩:=u9.on hB (by omega)
  refine wn (wp_ret ?_);have hd:D.ef j c0 c1 c2 c3 a0=(D.fF c0 a0 c1):=(ay h4).trans (rfl);have hs:=hr7.shape.cells;refine aH r rfl rfl H1 (k:=9) hs.1 ta45 ?_;rw [←hs.2.2,hd];exact rfin hF hB hr7 u9 (by omega) (by omega) (by omega)
 refine wp_skip (wsr (kG (af c0) 6 r rfl (keep hB c0h) ta23 rfl rfl fun r=>kL (I c2) r rfl (keep hB c2h) to3 rfl rfl fun r=>?_));have hF1:=aA hF hB b1
 refine kD r (rB (j:=j) (F:=(kW F w0 w2 b1)) (n:=n) hF1 (by omega) c0 c2) rfl uk rfl fun w10 v11 hb hr12 r=>?_;have Z10:=hb.size
 have H1:=keep hb H1;obtain ⟨hB,zB⟩:=bon hb hB;refine ae (.func (.func 116) #[] #[zp c0b,zp c3b]) r (fun R=>aW r rfl) rfl fun fr r=>?_;have hF1:=aA hF hB b1
 have f13:((kW F w0 w10 b1)) c0b:=(.inl c0F);have f14:((kW F w0 w10 b1)) c3b:=(.inl c3F);refine kD r (mU (F:=(kW F w0 w10 b1)) (n:=n) hF1 (Rep.mono (by rintro b (h | h); (rcases h with h | ⟨h1,h2,h3⟩; exact .inl h; exact .inr ⟨h1,by omega,h3⟩); exact .inr ⟨by omega,by omega,by omega⟩) (Same.refl _ _) (by omega) n _ _ hr12) ⟨116,[],[zp c0b,zp c3b],Dp,rfl,fun m hm x w' hs hz=>yg (j:=j) (fun b hb=>Nat.lt_of_lt_of_le (hF1 b hb) hz) (by omega) c0 f13 (hs.at_ f13 (keep hB c0h)) f14 (hs.at_ f14 (keep hB c3h)) (c3n.mono (by omega) (fun b h=>.inl h) ((Same.below hB hF).trans (hs.sub (fun b h=>.inl h))) (Nat.le_trans hB.size hz)) x⟩) rfl mK rfl fun w15 v16 hb hr17 r=>?_
 have Z15:=hb.size;have H1:=keep hb H1;obtain ⟨hB,zB⟩:=bon hb hB;refine kP r hr17.shape rfl rfl H1 ts45 rfl rfl fun w18 u19 r=>?_;have Z18:=u19.size
 have H1:=u19.at_;obtain ⟨hB,zB⟩:=u19.on hB (by omega)
 refine wn (wp_ret ?_);have hd:D.ef j c0 c1 c2 c3 a0=(T.bind (D.fE j c0 c2) (fun x=>(D.jk j c0 c3 x))):=(aw h4).trans (rfl)
 have hs:=hr17.shape.cells;refine aH r rfl rfl H1 (k:=9) hs.1 ta45 ?_;rw [←hs.2.2,hd];exact rfin hF hB hr17 u19 (by omega) (by omega) (by omega)
def D.eU (j:Nat) (a0:Plan) (a1:Int) (a2:Int):T Grant:=(T.bind (D.cF j a0) (fun x=>(D.ef j a0 a2 a1 (fun x=>(D.cW a0 a2 x)) x)))
theorem zl (hF:kH F w0) (hj:n<j)
    (a0:Plan) (a1:Int) (a2:Int) :
    Calls Tryz.prog 27 #[.agg (af a0).toArray,.int .i64 a1,.int .i64 a2] w0 (av Tryz.prog bf n (D.eU j a0 a1 a2) F w0):=by
 refine enter Tryz.func27 rfl 13 rfl rfl fun fr r=>?_;have hB:=Below.refl w0.heap.size w0
 refine wsr ?_;refine kX 23 (.agg (af a0).toArray) r rfl rfl fun b1 w2 n3 r=>?_;obtain ⟨E1,Z2,H1,hB,zB⟩:=n3.all hB
 refine kX 3 (I a1) r rfl rfl fun b4 w5 n6 r=>?_;have H1:=keep n6.below H1
 obtain ⟨E4,Z5,H4,hB,zB⟩:=n6.all hB;refine kX 3 (I a2) r rfl rfl fun b7 w8 n9 r=>?_;have H1:=keep n9.below H1
 have H4:=keep n9.below H4;obtain ⟨E7,Z8,H7,hB,zB⟩:=n9.all hB;refine ar (.cells (ai false bf.zero 0 0 0 0 .nilFunc) 45 (0,0)) r (fun R=>aq tz45) rfl fun fr b10 w11 n12 r=>?_;have H1:=keep n12.below H1
 have H4:=keep n12.below H4;have H7:=keep n12.below H7;obtain ⟨E10,Z11,H10,hB,zB⟩:=n12.all hB;refine wn (wsr (ae (.func (.func 109) #[] #[zp b1,zp b7]) r (fun R=>aW r rfl) rfl fun fr r=>?_));refine ar (.cells #[.nilFunc] 200 (0,0)) r (fun R=>aq DJ) rfl fun fr b13 w14 n15 r=>?_
 have H1:=keep n15.below H1;have H4:=keep n15.below H4;have H7:=keep n15.below H7;have H10:=keep n15.below H10;obtain ⟨E13,Z14,H13,hB,zB⟩:=n15.all hB;refine aM (.cells #[.func (.func 109) #[] #[zp b1,zp b7]] 200 (0,0)) r (fun R=>aX r (o:=0) (v:=(.func (.func 109) #[] #[zp b1,zp b7])) rfl rfl H13 C0 (Nat.le_of_ble_eq_true rfl) rfl rfl) rfl fun fr w16 u17 r=>?_;have Z16:=u17.size
 have H1:=u17.keep H1 (by omega)
 have H4:=u17.keep H4 (by omega)
 have H7:=u17.keep H7 (by omega)
 have H10:=u17.keep H10 (by omega)
 have H13:=u17.at_;obtain ⟨hB,zB⟩:=u17.on hB (by omega)
 refine wn (wsr (kG (af a0) 6 r rfl H1 ta23 rfl rfl fun r=>?_));have hF1:=aA hF hB b10
 refine kD r ((rV (k:=j) (n:=n) (by omega)) (kW F w0 w16 b10) _ hF1 a0) rfl pN rfl fun w18 v19 hb hr20 r=>?_;have Z18:=hb.size
 have H1:=keep hb H1;have H4:=keep hb H4;have H7:=keep hb H7;have H10:=keep hb H10;have H13:=keep hb H13;obtain ⟨hB,zB⟩:=bon hb hB;refine ae (.func (.func 114) #[] #[zp b1,zp b7,zp b4,zp b13]) r (fun R=>aW r rfl) rfl fun fr r=>?_;have hF1:=aA hF hB b10
 have f21:((kW F w0 w18 b10)) b1:=(.inr ⟨by omega,by omega,by omega⟩)
 have f22:((kW F w0 w18 b10)) b7:=(.inr ⟨by omega,by omega,by omega⟩)
 have f23:((kW F w0 w18 b10)) b4:=(.inr ⟨by omega,by omega,by omega⟩)
 have f24:((kW F w0 w18 b10)) b13:=(.inr ⟨by omega,by omega,by omega⟩)
 have f26:((kW F w0 w18 b10)) b1:=(.inr ⟨by omega,by omega,by omega⟩)
 have f27:((kW F w0 w18 b10)) b7:=(.inr ⟨by omega,by omega,by omega⟩)
 have q25:FnT Tryz.prog bf i64 (n+1) (kW F w0 w18 b10) w18 (.func (.func 109) #[] #[zp b1,zp b7]) (fun x=>(D.cW a0 a2 x)):=⟨109,[],[zp b1,zp b7],Cn,rfl,fun m hm x w' hs hz=>yF (fun b hb=>Nat.lt_of_lt_of_le (hF1 b hb) hz) a0 f26 (hs.at_ f26 H1) a2 f27 (hs.at_ f27 H7) x⟩
 refine kD r (mU (F:=(kW F w0 w18 b10)) (n:=n) hF1 (Rep.mono (by rintro b (h | h); (rcases h with h | ⟨h1,h2,h3⟩; exact .inl h; exact .inr ⟨h1,by omega,h3⟩); exact .inr ⟨by omega,by omega,by omega⟩) (Same.refl _ _) (by omega) n _ _ hr20) ⟨114,[],[zp b1,zp b7,zp b4,zp b13],C6,rfl,fun m hm x w' hs hz=>yL (j:=j) (fun b hb=>Nat.lt_of_lt_of_le (hF1 b hb) hz) (by omega) a0 f21 (hs.at_ f21 H1) a2 f22 (hs.at_ f22 H7) a1 f23 (hs.at_ f23 H4) f24 (hs.at_ f24 H13) (q25.mono (by omega) (fun b h=>h) hs hz) x⟩) rfl mK rfl fun w28 v29 hb hr30 r=>?_
 have Z28:=hb.size;have H1:=keep hb H1;have H4:=keep hb H4;have H7:=keep hb H7;have H10:=keep hb H10;have H13:=keep hb H13;obtain ⟨hB,zB⟩:=bon hb hB;refine kP r hr30.shape rfl rfl H10 ts45 rfl rfl fun w31 u32 r=>?_;have Z31:=u32.size
 have H1:=u32.keep H1 (by omega)
 have H4:=u32.keep H4 (by omega)
 have H7:=u32.keep H7 (by omega)
 have H13:=u32.keep H13 (by omega)
 have H10:=u32.at_;obtain ⟨hB,zB⟩:=u32.on hB (by omega)
 exact wn (wp_ret (kR r hr30 rfl rfl H10 rfl ta45 hF hB u32 (by omega) (by omega) (by omega)))
def D.ed (c0:Int) (a0:Int):T Int:=(bif (a0==(-1)) then (D.cx (-1)) else (D.cx c0))
theorem yp (hF:kH F w0)
    (c0:Int) {c0b:Nat} (c0F:F c0b) (c0h:w0.heap[c0b]?=some (.cells ([(.int .i64 c0)]).toArray 3 (0,0))) (a0:Int) :
    Calls Tryz.prog 228 #[.int .i64 a0,zp c0b] w0 (av Tryz.prog ax n (D.ed c0 a0) F w0):=by
 refine enter Tryz.func228 rfl 9 rfl rfl fun fr r=>?_;have hB:=Below.refl w0.heap.size w0
 have lc0b:=lt_of_block c0h;refine wsr ?_;refine ar (.cells (ai false ax.zero 0 0 0 0 .nilFunc) 61 (0,0)) r (fun R=>aq tz61) rfl fun fr b1 w2 n3 r=>?_;obtain ⟨E1,Z2,H1,hB,zB⟩:=n3.all hB
 refine wn (wp_seq (wsr (kM (I a0) r rfl rfl fun r=>kB r rfl rfl rfl rfl rfl fun r=>wn ?_)));refine wp_cond_split (t:=(a0==(-1))) (r.ev rfl) (fun h4=>?_) (fun h4=>?_)
 ·
  refine wsr ?_;have hF1:=aA hF hB b1;refine kD r (dP (F:=(kW F w0 w2 b1)) (n:=n) hF1 (-1)) rfl dW rfl fun w5 v6 hb hr7 r=>?_;have Z5:=hb.size
  have H1:=keep hb H1;obtain ⟨hB,zB⟩:=bon hb hB;refine kP r hr7.shape rfl rfl H1 ts61 rfl rfl fun w8 u9 r=>?_;have Z8:=u9.size
  have H1:=u9.at_;obtain ⟨hB,zB⟩:=u9.on hB (by omega)
  refine wn (wp_ret ?_);have hd:D.ed c0 a0=(D.cx (-1)):=(ay h4).trans (rfl);have hs:=hr7.shape.cells;refine aH r rfl rfl H1 (k:=7) hs.1 ta61 ?_;rw [←hs.2.2,hd];exact rfin hF hB hr7 u9 (by omega) (by omega) (by omega)
 refine wp_skip (wsr (kL (I c0) r rfl (keep hB c0h) to3 rfl rfl fun r=>?_));have hF1:=aA hF hB b1
 refine kD r (dP (F:=(kW F w0 w2 b1)) (n:=n) hF1 c0) rfl dW rfl fun w10 v11 hb hr12 r=>?_;have Z10:=hb.size
 have H1:=keep hb H1;obtain ⟨hB,zB⟩:=bon hb hB;refine kP r hr12.shape rfl rfl H1 ts61 rfl rfl fun w13 u14 r=>?_;have Z13:=u14.size
 have H1:=u14.at_;obtain ⟨hB,zB⟩:=u14.on hB (by omega)
 refine wn (wp_ret ?_);have hd:D.ed c0 a0=(D.cx c0):=(aw h4).trans (rfl);have hs:=hr12.shape.cells;refine aH r rfl rfl H1 (k:=7) hs.1 ta61 ?_;rw [←hs.2.2,hd];exact rfin hF hB hr12 u14 (by omega) (by omega) (by omega)
def D.lm (c0:Plan) (c1:Int) (c2:Int) (c3:(Int→T Int)) (a0:Int):T Int:=(T.bind (D.fI c0 c1 c2) c3)
theorem xE (hF:kH F w0)
    (c0:Plan) {c0b:Nat} (c0F:F c0b) (c0h:w0.heap[c0b]?=some (.cells ((af c0)).toArray 23 (0,0))) (c1:Int) {c1b:Nat} (c1F:F c1b) (c1h:w0.heap[c1b]?=some (.cells ([(.int .i64 c1)]).toArray 3 (0,0))) (c2:Int) {c2b:Nat} (c2F:F c2b) (c2h:w0.heap[c2b]?=some (.cells ([(.int .i64 c2)]).toArray 3 (0,0))) {c3f:FuncId} {c3_1 c3_2:List Value} {c3:(Int→T Int)} {c3b:Nat} (c3F:F c3b) (c3h:w0.heap[c3b]?=some (.cells #[.func (.func c3f) c3_1.toArray c3_2.toArray] 291 (0,0))) (c3n:FnT Tryz.prog ax i64 (n+1) F w0 (.func (.func c3f) c3_1.toArray c3_2.toArray) c3) (a0:Int) :
    Calls Tryz.prog 232 #[.int .i64 a0,zp c0b,zp c1b,zp c2b,zp c3b] w0 (av Tryz.prog ax n (D.lm c0 c1 c2 c3 a0) F w0):=by
 refine enter Tryz.func232 rfl 13 rfl rfl fun fr r=>?_;have hB:=Below.refl w0.heap.size w0
 have lc0b:=lt_of_block c0h;have lc1b:=lt_of_block c1h;have lc2b:=lt_of_block c2h;have lc3b:=lt_of_block c3h;refine wsr ?_;refine ar (.cells (ai false ax.zero 0 0 0 0 .nilFunc) 61 (0,0)) r (fun R=>aq tz61) rfl fun fr b1 w2 n3 r=>?_;obtain ⟨E1,Z2,H1,hB,zB⟩:=n3.all hB
 refine wn (wp_seq ?_);have hF1:=aA hF hB b1;refine bw 5 [.val (.agg (af c0).toArray),.val (I c1),.val (I c2),.pred (PrepP Tryz.prog ax n (D.fI c0 c1 c2) ((kW F w0 w2 b1)) w2) (PrepP.st hF1),.val (.func (.func c3f) c3_1.toArray c3_2.toArray)] mixed r (by kernel_rfl) (ag (by exact trivial) (ag (by exact trivial) (ag (by exact trivial) (ag (by exact trivial) (ag (by exact trivial) bv))))) ?_ ?_
 ·
  refine ec r (fun _ u _ b d s=>aU s (cs:=(af c0)) (n:=6) rfl (bo hB b c0h) ta23 rfl bz) (ec r (fun _ u _ b d s=>aB s rfl (bo hB b c1h) to3 rfl bz) (ec r (fun _ u _ b d s=>aB s rfl (bo hB b c2h) to3 rfl bz) (ec r (fun fr1 u w' hb' hd r'=>aP r' (args:=[(.agg (af c0).toArray),(I c1),(I c2)]) (lc hd.1 (lc hd.2.1 (lc hd.2.2.1 l0))) uT ((rK (F:=(kW F w0 w2 b1)) (n:=n) (fun b h=>Nat.lt_of_lt_of_le (hF1 b h) hb'.size) c0 c1 c2).mono (by rintro _ w2 ⟨y,rfl,hb2,hr2⟩; exact ⟨_,rfl,hb2,PrepP.of (drB hb') hb2 hr2⟩))) (ec r (fun _ u _ b d s=>aB s rfl (bo hB b c3h) qt rfl bz) ?_))));exact bA
 intro fr u w4 hb hΦ hne r;obtain ⟨v5,hv3⟩:∃ v,v=u 3:=⟨_,rfl⟩;have g3:u 3=v5:=hv3.symm;have hr6:=(hΦ 3 (by decide)).2;rw [g3] at hr6
 have r:=r.congr (sc (hΦ 4 (by decide)) (sc g3 (sc (hΦ 2 (by decide)) (sc (hΦ 1 (by decide)) (sc (hΦ 0 (by decide)) rfl)))))
 have Z4:=hb.size;have H1:=keep hb H1;obtain ⟨hB,zB⟩:=bon hb hB;have hF1:=aA hF hB b1;refine kD r (mX (F:=(kW F w0 w4 b1)) (n:=n) hF1 (Rep.mono (by rintro b (h | h); (rcases h with h | ⟨h1,h2,h3⟩; exact .inl h; exact .inr ⟨h1,by omega,h3⟩); exact .inr ⟨by omega,by omega,by omega⟩) (Same.refl _ _) (by omega) n _ _ hr6) (c3n.mono (by omega) (fun b h=>.inl h) (Same.below hB hF) hB.size)) rfl jV rfl fun w7 v8 hb hr9 r=>?_
 have Z7:=hb.size;have H1:=keep hb H1;obtain ⟨hB,zB⟩:=bon hb hB;refine kP r hr9.shape rfl rfl H1 ts61 rfl rfl fun w10 u11 r=>?_;have Z10:=u11.size
 have H1:=u11.at_;obtain ⟨hB,zB⟩:=u11.on hB (by omega)
 exact wn (wp_ret (kR r hr9 rfl rfl H1 rfl ta61 hF hB u11 (by omega) (by omega) (by omega)))
def D.fD (j:Nat) (c0:Int) (c1:Plan) (c2:Int) (c3:(Int→T Int)) (a0:Int):T Int:=(bif (a0 !=(-1)) then (D.cx c0) else (T.bind (D.fE j c1 c2) (fun x=>(D.lm c1 c2 c0 c3 x))))
theorem yl (hF:kH F w0) (hj:n<j)
    (c0:Int) {c0b:Nat} (c0F:F c0b) (c0h:w0.heap[c0b]?=some (.cells ([(.int .i64 c0)]).toArray 3 (0,0))) (c1:Plan) {c1b:Nat} (c1F:F c1b) (c1h:w0.heap[c1b]?=some (.cells ((af c1)).toArray 23 (0,0))) (c2:Int) {c2b:Nat} (c2F:F c2b) (c2h:w0.heap[c2b]?=some (.cells ([(.int .i64 c2)]).toArray 3 (0,0))) {c3f:FuncId} {c3_1 c3_2:List Value} {c3:(Int→T Int)} {c3b:Nat} (c3F:F c3b) (c3h:w0.heap[c3b]?=some (.cells #[.func (.func c3f) c3_1.toArray c3_2.toArray] 291 (0,0))) (c3n:FnT Tryz.prog ax i64 (n+1) F w0 (.func (.func c3f) c3_1.toArray c3_2.toArray) c3) (a0:Int) :
    Calls Tryz.prog 231 #[.int .i64 a0,zp c0b,zp c1b,zp c2b,zp c3b] w0 (av Tryz.prog ax n (D.fD j c0 c1 c2 c3 a0) F w0):=by
 refine enter Tryz.func231 rfl 16 rfl rfl fun fr r=>?_;have hB:=Below.refl w0.heap.size w0
 have lc0b:=lt_of_block c0h;have lc1b:=lt_of_block c1h;have lc2b:=lt_of_block c2h;have lc3b:=lt_of_block c3h;refine wsr ?_;refine ar (.cells (ai false ax.zero 0 0 0 0 .nilFunc) 61 (0,0)) r (fun R=>aq tz61) rfl fun fr b1 w2 n3 r=>?_;obtain ⟨E1,Z2,H1,hB,zB⟩:=n3.all hB
 refine wn (wp_seq (wsr (kM (I a0) r rfl rfl fun r=>kB r rfl rfl rfl rfl rfl fun r=>wn ?_)));refine wp_cond_split (t:=(a0 !=(-1))) (r.ev rfl) (fun h4=>?_) (fun h4=>?_)
 ·
  refine wsr (kL (I c0) r rfl (keep hB c0h) to3 rfl rfl fun r=>?_);have hF1:=aA hF hB b1
  refine kD r (dP (F:=(kW F w0 w2 b1)) (n:=n) hF1 c0) rfl dW rfl fun w5 v6 hb hr7 r=>?_;have Z5:=hb.size
  have H1:=keep hb H1;obtain ⟨hB,zB⟩:=bon hb hB;refine kP r hr7.shape rfl rfl H1 ts61 rfl rfl fun w8 u9 r=>?_;have Z8:=u9.size
  have H1:=u9.at_;obtain ⟨hB,zB⟩:=u9.on hB (by omega)
  refine wn (wp_ret ?_);have hd:D.fD j c0 c1 c2 c3 a0=(D.cx c0):=(ay h4).trans (rfl);have hs:=hr7.shape.cells;refine aH r rfl rfl H1 (k:=7) hs.1 ta61 ?_;rw [←hs.2.2,hd];exact rfin hF hB hr7 u9 (by omega) (by omega) (by omega)
 refine wp_skip (wsr (kG (af c1) 6 r rfl (keep hB c1h) ta23 rfl rfl fun r=>kL (I c2) r rfl (keep hB c2h) to3 rfl rfl fun r=>?_));have hF1:=aA hF hB b1
 refine kD r (rB (j:=j) (F:=(kW F w0 w2 b1)) (n:=n) hF1 (by omega) c1 c2) rfl uk rfl fun w10 v11 hb hr12 r=>?_;have Z10:=hb.size
 have H1:=keep hb H1;obtain ⟨hB,zB⟩:=bon hb hB;refine ae (.func (.func 232) #[] #[zp c1b,zp c2b,zp c0b,zp c3b]) r (fun R=>aW r rfl) rfl fun fr r=>?_;have hF1:=aA hF hB b1
 have f13:((kW F w0 w10 b1)) c1b:=(.inl c1F);have f14:((kW F w0 w10 b1)) c2b:=(.inl c2F);have f15:((kW F w0 w10 b1)) c0b:=(.inl c0F);have f16:((kW F w0 w10 b1)) c3b:=(.inl c3F);refine kD r (mX (F:=(kW F w0 w10 b1)) (n:=n) hF1 (Rep.mono (by rintro b (h | h); (rcases h with h | ⟨h1,h2,h3⟩; exact .inl h; exact .inr ⟨h1,by omega,h3⟩); exact .inr ⟨by omega,by omega,by omega⟩) (Same.refl _ _) (by omega) n _ _ hr12) ⟨232,[],[zp c1b,zp c2b,zp c0b,zp c3b],BS,rfl,fun m hm x w' hs hz=>xE (fun b hb=>Nat.lt_of_lt_of_le (hF1 b hb) hz) c1 f13 (hs.at_ f13 (keep hB c1h)) c2 f14 (hs.at_ f14 (keep hB c2h)) c0 f15 (hs.at_ f15 (keep hB c0h)) f16 (hs.at_ f16 (keep hB c3h)) (c3n.mono (by omega) (fun b h=>.inl h) ((Same.below hB hF).trans (hs.sub (fun b h=>.inl h))) (Nat.le_trans hB.size hz)) x⟩) rfl jV rfl fun w17 v18 hb hr19 r=>?_
 have Z17:=hb.size;have H1:=keep hb H1;obtain ⟨hB,zB⟩:=bon hb hB;refine kP r hr19.shape rfl rfl H1 ts61 rfl rfl fun w20 u21 r=>?_;have Z20:=u21.size
 have H1:=u21.at_;obtain ⟨hB,zB⟩:=u21.on hB (by omega)
 refine wn (wp_ret ?_);have hd:D.fD j c0 c1 c2 c3 a0=(T.bind (D.fE j c1 c2) (fun x=>(D.lm c1 c2 c0 c3 x))):=(aw h4).trans (rfl)
 have hs:=hr19.shape.cells;refine aH r rfl rfl H1 (k:=7) hs.1 ta61 ?_;rw [←hs.2.2,hd];exact rfin hF hB hr19 u21 (by omega) (by omega) (by omega)
def D.lJ (j:Nat) (a0:Plan) (a1:Int) (a2:Int):T Int:=(T.bind (D.fI a0 a1 a2) (fun x=>(D.fD j a2 a0 a1 (fun x=>(D.ed a2 x)) x)))
theorem yK (hF:kH F w0) (hj:n<j)
    (a0:Plan) (a1:Int) (a2:Int) :
    Calls Tryz.prog 132 #[.agg (af a0).toArray,.int .i64 a1,.int .i64 a2] w0 (av Tryz.prog ax n (D.lJ j a0 a1 a2) F w0):=by
 refine enter Tryz.func132 rfl 15 rfl rfl fun fr r=>?_;have hB:=Below.refl w0.heap.size w0
 refine wsr ?_;refine kX 23 (.agg (af a0).toArray) r rfl rfl fun b1 w2 n3 r=>?_;obtain ⟨E1,Z2,H1,hB,zB⟩:=n3.all hB
 refine kX 3 (I a1) r rfl rfl fun b4 w5 n6 r=>?_;have H1:=keep n6.below H1
 obtain ⟨E4,Z5,H4,hB,zB⟩:=n6.all hB;refine kX 3 (I a2) r rfl rfl fun b7 w8 n9 r=>?_;have H1:=keep n9.below H1
 have H4:=keep n9.below H4;obtain ⟨E7,Z8,H7,hB,zB⟩:=n9.all hB;refine ar (.cells (ai false ax.zero 0 0 0 0 .nilFunc) 61 (0,0)) r (fun R=>aq tz61) rfl fun fr b10 w11 n12 r=>?_;have H1:=keep n12.below H1
 have H4:=keep n12.below H4;have H7:=keep n12.below H7;obtain ⟨E10,Z11,H10,hB,zB⟩:=n12.all hB;refine wn (wsr (ae (.func (.func 228) #[] #[zp b7]) r (fun R=>aW r rfl) rfl fun fr r=>?_));refine ar (.cells #[.nilFunc] 291 (0,0)) r (fun R=>aq CW) rfl fun fr b13 w14 n15 r=>?_
 have H1:=keep n15.below H1;have H4:=keep n15.below H4;have H7:=keep n15.below H7;have H10:=keep n15.below H10;obtain ⟨E13,Z14,H13,hB,zB⟩:=n15.all hB;refine aM (.cells #[.func (.func 228) #[] #[zp b7]] 291 (0,0)) r (fun R=>aX r (o:=0) (v:=(.func (.func 228) #[] #[zp b7])) rfl rfl H13 CP (Nat.le_of_ble_eq_true rfl) rfl rfl) rfl fun fr w16 u17 r=>?_;have Z16:=u17.size
 have H1:=u17.keep H1 (by omega)
 have H4:=u17.keep H4 (by omega)
 have H7:=u17.keep H7 (by omega)
 have H10:=u17.keep H10 (by omega)
 have H13:=u17.at_;obtain ⟨hB,zB⟩:=u17.on hB (by omega)
 refine wn (wsr (kG (af a0) 6 r rfl H1 ta23 rfl rfl fun r=>kL (I a1) r rfl H4 to3 rfl rfl fun r=>kL (I a2) r rfl H7 to3 rfl rfl fun r=>?_));have hF1:=aA hF hB b10
 refine kD r (rK (F:=(kW F w0 w16 b10)) (n:=n) hF1 a0 a1 a2) rfl uT rfl fun w18 v19 hb hr20 r=>?_;have Z18:=hb.size
 have H1:=keep hb H1;have H4:=keep hb H4;have H7:=keep hb H7;have H10:=keep hb H10;have H13:=keep hb H13;obtain ⟨hB,zB⟩:=bon hb hB;refine ae (.func (.func 231) #[] #[zp b7,zp b1,zp b4,zp b13]) r (fun R=>aW r rfl) rfl fun fr r=>?_;have hF1:=aA hF hB b10
 have f21:((kW F w0 w18 b10)) b7:=(.inr ⟨by omega,by omega,by omega⟩)
 have f22:((kW F w0 w18 b10)) b1:=(.inr ⟨by omega,by omega,by omega⟩)
 have f23:((kW F w0 w18 b10)) b4:=(.inr ⟨by omega,by omega,by omega⟩)
 have f24:((kW F w0 w18 b10)) b13:=(.inr ⟨by omega,by omega,by omega⟩)
 have f26:((kW F w0 w18 b10)) b7:=(.inr ⟨by omega,by omega,by omega⟩)
 have q25:FnT Tryz.prog ax i64 (n+1) (kW F w0 w18 b10) w18 (.func (.func 228) #[] #[zp b7]) (fun x=>(D.ed a2 x)):=⟨228,[],[zp b7],BW,rfl,fun m hm x w' hs hz=>yp (fun b hb=>Nat.lt_of_lt_of_le (hF1 b hb) hz) a2 f26 (hs.at_ f26 H7) x⟩
 refine kD r (mX (F:=(kW F w0 w18 b10)) (n:=n) hF1 (Rep.mono (by rintro b (h | h); (rcases h with h | ⟨h1,h2,h3⟩; exact .inl h; exact .inr ⟨h1,by omega,h3⟩); exact .inr ⟨by omega,by omega,by omega⟩) (Same.refl _ _) (by omega) n _ _ hr20) ⟨231,[],[zp b7,zp b1,zp b4,zp b13],Dc,rfl,fun m hm x w' hs hz=>yl (j:=j) (fun b hb=>Nat.lt_of_lt_of_le (hF1 b hb) hz) (by omega) a2 f21 (hs.at_ f21 H7) a0 f22 (hs.at_ f22 H1) a1 f23 (hs.at_ f23 H4) f24 (hs.at_ f24 H13) (q25.mono (by omega) (fun b h=>h) hs hz) x⟩) rfl jV rfl fun w27 v28 hb hr29 r=>?_
 have Z27:=hb.size;have H1:=keep hb H1;have H4:=keep hb H4;have H7:=keep hb H7;have H10:=keep hb H10;have H13:=keep hb H13;obtain ⟨hB,zB⟩:=bon hb hB;refine kP r hr29.shape rfl rfl H10 ts61 rfl rfl fun w30 u31 r=>?_;have Z30:=u31.size
 have H1:=u31.keep H1 (by omega)
 have H4:=u31.keep H4 (by omega)
 have H7:=u31.keep H7 (by omega)
 have H13:=u31.keep H13 (by omega)
 have H10:=u31.at_;obtain ⟨hB,zB⟩:=u31.on hB (by omega)
 exact wn (wp_ret (kR r hr29 rfl rfl H10 rfl ta61 hF hB u31 (by omega) (by omega) (by omega)))
def D.nO (j:Nat) (c0:Plan) (c1:Int) (c2:Int):T Int:=(D.lJ j c0 c1 c2)
theorem xz (hF:kH F w0) (hj:n<j)
    (c0:Plan) {c0b:Nat} (c0F:F c0b) (c0h:w0.heap[c0b]?=some (.cells ((af c0)).toArray 23 (0,0))) (c1:Int) {c1b:Nat} (c1F:F c1b) (c1h:w0.heap[c1b]?=some (.cells ([(.int .i64 c1)]).toArray 3 (0,0))) (c2:Int) {c2b:Nat} (c2F:F c2b) (c2h:w0.heap[c2b]?=some (.cells ([(.int .i64 c2)]).toArray 3 (0,0))) :
    Calls Tryz.prog 131 #[zp c0b,zp c1b,zp c2b] w0 (av Tryz.prog ax n (D.nO j c0 c1 c2) F w0):=by
 refine enter Tryz.func131 rfl 8 rfl rfl fun fr r=>?_;have hB:=Below.refl w0.heap.size w0
 have lc0b:=lt_of_block c0h;have lc1b:=lt_of_block c1h;have lc2b:=lt_of_block c2h;refine wsr ?_;refine ar (.cells (ai false ax.zero 0 0 0 0 .nilFunc) 61 (0,0)) r (fun R=>aq tz61) rfl fun fr b1 w2 n3 r=>?_;obtain ⟨E1,Z2,H1,hB,zB⟩:=n3.all hB
 refine wn (wsr (kG (af c0) 6 r rfl (keep hB c0h) ta23 rfl rfl fun r=>kL (I c1) r rfl (keep hB c1h) to3 rfl rfl fun r=>kL (I c2) r rfl (keep hB c2h) to3 rfl rfl fun r=>?_));have hF1:=aA hF hB b1
 refine kD r (yK (j:=j) (F:=(kW F w0 w2 b1)) (n:=n) hF1 (by omega) c0 c1 c2) rfl Dz rfl fun w4 v5 hb hr6 r=>?_;have Z4:=hb.size
 have H1:=keep hb H1;obtain ⟨hB,zB⟩:=bon hb hB;refine kP r hr6.shape rfl rfl H1 ts61 rfl rfl fun w7 u8 r=>?_;have Z7:=u8.size
 have H1:=u8.at_;obtain ⟨hB,zB⟩:=u8.on hB (by omega)
 exact wn (wp_ret (kR r hr6 rfl rfl H1 rfl ta61 hF hB u8 (by omega) (by omega) (by omega)))
def D.nS (j:Nat) (c0:Plan) (c1:Int) (c2:Int) (a0:Int):T Int:=(D.dl (D.cw c0 c1) (D.bR (D.eF ((D.aR a0).1))) (fun _=>(D.nO j c0 c2 c1)))
theorem xU (hF:kH F w0) (hj:n<j)
    (c0:Plan) {c0b:Nat} (c0F:F c0b) (c0h:w0.heap[c0b]?=some (.cells ((af c0)).toArray 23 (0,0))) (c1:Int) {c1b:Nat} (c1F:F c1b) (c1h:w0.heap[c1b]?=some (.cells ([(.int .i64 c1)]).toArray 3 (0,0))) (c2:Int) {c2b:Nat} (c2F:F c2b) (c2h:w0.heap[c2b]?=some (.cells ([(.int .i64 c2)]).toArray 3 (0,0))) (a0:Int) :
    Calls Tryz.prog 128 #[.int .u64 a0,zp c0b,zp c1b,zp c2b] w0 (av Tryz.prog ax n (D.nS j c0 c1 c2 a0) F w0):=by
 refine enter Tryz.func128 rfl 21 rfl rfl fun fr r=>?_;have hB:=Below.refl w0.heap.size w0
 have lc0b:=lt_of_block c0h;have lc1b:=lt_of_block c1h;have lc2b:=lt_of_block c2h;refine wsr ?_;refine ar (.cells (ai false ax.zero 0 0 0 0 .nilFunc) 61 (0,0)) r (fun R=>aq tz61) rfl fun fr b1 w2 n3 r=>?_;obtain ⟨E1,Z2,H1,hB,zB⟩:=n3.all hB
 refine wn (wsr (kM (U a0) r rfl rfl fun r=>?_));refine kE r (js w2 a0) rfl cl87 rfl fun w4 hb r=>?_
 have Z4:=hb.size;have H1:=keep hb H1;obtain ⟨hB,zB⟩:=bon hb hB;refine kM (.tuple #[(.agg (aI (D.aR a0).1).toArray),(.bool (D.aR a0).2)]) r rfl rfl fun r=>ae (.agg (aI (D.aR a0).1).toArray) r (fun R=>bC r (vs:=#[(.agg (aI (D.aR a0).1).toArray),(.bool (D.aR a0).2)]) rfl rfl) rfl fun fr r=>ae (.bool (D.aR a0).2) r (fun R=>bC r (vs:=#[(.agg (aI (D.aR a0).1).toArray),(.bool (D.aR a0).2)]) rfl rfl) rfl fun fr r=>?_;refine ar (.cells ((aI (⟨0,0,0⟩:State))).toArray 55 (0,0)) r (fun R=>aq tz55) rfl fun fr b5 w6 n7 r=>?_
 have H1:=keep n7.below H1;obtain ⟨E5,Z6,H5,hB,zB⟩:=n7.all hB;refine aM (.cells ((aI ((D.aR a0).1))).toArray 55 (0,0)) r (fun R=>aX r (o:=0) (v:=(.agg (aI (D.aR a0).1).toArray)) rfl rfl H5 ts55 (Nat.le_of_ble_eq_true rfl) rfl rfl) rfl fun fr w8 u9 r=>?_;have Z8:=u9.size
 have H1:=u9.keep H1 (by omega)
 have H5:=u9.at_;obtain ⟨hB,zB⟩:=u9.on hB (by omega)
 refine kA (.bool (D.aR a0).2) r rfl rfl fun r=>wn (wp_seq ?_);refine bw 7 [.val (.agg (af c0).toArray),.val (I c1),.val (I (D.cw c0 c1)),.val (.agg (aI (D.aR a0).1).toArray),.val (.agg (aI (D.eF ((D.aR a0).1))).toArray),.val (U (D.bR (D.eF ((D.aR a0).1)))),.val (.func (.func 131) #[] #[zp c0b,zp c2b,zp c1b])] mixed r (by kernel_rfl) (ag (by exact trivial) (ag (by exact trivial) (ag (by exact trivial) (ag (by exact trivial) (ag (by exact trivial) (ag (by exact trivial) (ag (by exact trivial) bv))))))) ?_ ?_
 ·
  refine ec r (fun _ u _ b d s=>aU s (cs:=(af c0)) (n:=6) rfl (bo hB b c0h) ta23 rfl bz) (ec r (fun _ u _ b d s=>aB s rfl (bo hB b c1h) to3 rfl bz) (ec r (fun fr1 u w' hb' hd r'=>aP r' (args:=[(.agg (af c0).toArray),(I c1)]) (lc hd.1 (lc hd.2.1 l0)) cl31 ((gU _ c0 c1).mono (by rintro _ w2 ⟨rfl,hb2⟩; exact ⟨_,rfl,hb2,rfl⟩))) (ec r (fun _ u _ b d s=>aU s (cs:=(aI ((D.aR a0).1))) (n:=3) rfl (keep b H5) ta55 rfl bz) (ec r (fun fr1 u w' hb' hd r'=>aP r' (args:=[(.agg (aI (D.aR a0).1).toArray)]) (lc hd.1 l0) Cm ((wN _ ((D.aR a0).1)).mono (by rintro _ w2 ⟨rfl,hb2⟩; exact ⟨_,rfl,hb2,rfl⟩))) (ec r (fun fr1 u w' hb' hd r'=>aP r' (args:=[(.agg (aI (D.eF ((D.aR a0).1))).toArray)]) (lc hd.1 l0) cl32 ((j5 _ (D.eF ((D.aR a0).1))).mono (by rintro _ w2 ⟨rfl,hb2⟩; exact ⟨_,rfl,hb2,rfl⟩))) (ec r (fun _ u _ b d s=>aW s (v:=(.func (.func 131) #[] #[zp c0b,zp c2b,zp c1b])) rfl bz) ?_))))));exact bA
 intro fr u w10 hb hΦ hne r;have r:=r.congr (sc (hΦ 6 (by decide)) (sc (hΦ 5 (by decide)) (sc (hΦ 4 (by decide)) (sc (hΦ 3 (by decide)) (sc (hΦ 2 (by decide)) (sc (hΦ 1 (by decide)) (sc (hΦ 0 (by decide)) rfl)))))));have Z10:=hb.size;have H1:=keep hb H1;have H5:=keep hb H5;obtain ⟨hB,zB⟩:=bon hb hB;have hF1:=aA hF hB b1;have f11:((kW F w0 w10 b1)) c0b:=(.inl c0F);have f12:((kW F w0 w10 b1)) c2b:=(.inl c2F);have f13:((kW F w0 w10 b1)) c1b:=(.inl c1F);refine kD r (fA (F:=(kW F w0 w10 b1)) (n:=n) hF1 (D.cw c0 c1) (D.bR (D.eF ((D.aR a0).1))) ⟨131,[],[zp c0b,zp c2b,zp c1b],C2,rfl,fun m hm _ w' hs hz=>xz (j:=j) (fun b hb=>Nat.lt_of_lt_of_le (hF1 b hb) hz) (by omega) c0 f11 (hs.at_ f11 (keep hB c0h)) c2 f12 (hs.at_ f12 (keep hB c2h)) c1 f13 (hs.at_ f13 (keep hB c1h))⟩) rfl fR rfl fun w14 v15 hb hr16 r=>?_;have Z14:=hb.size
 have H1:=keep hb H1;have H5:=keep hb H5;obtain ⟨hB,zB⟩:=bon hb hB;refine kP r hr16.shape rfl rfl H1 ts61 rfl rfl fun w17 u18 r=>?_;have Z17:=u18.size
 have H5:=u18.keep H5 (by omega)
 have H1:=u18.at_;obtain ⟨hB,zB⟩:=u18.on hB (by omega)
 exact wn (wp_ret (kR r hr16 rfl rfl H1 rfl ta61 hF hB u18 (by omega) (by omega) (by omega)))
def D.jo (j:Nat) (a0:Plan) (a1:Int) (a2:Int):T Int:=(D.cV (D.cw a0 a2) (fun x=>(D.nS j a0 a2 a1 x)))
theorem yu (hF:kH F w0) (hj:n<j)
    (a0:Plan) (a1:Int) (a2:Int) :
    Calls Tryz.prog 34 #[.agg (af a0).toArray,.int .i64 a1,.int .i64 a2] w0 (av Tryz.prog ax n (D.jo j a0 a1 a2) F w0):=by
 refine enter Tryz.func34 rfl 12 rfl rfl fun fr r=>?_;have hB:=Below.refl w0.heap.size w0
 refine wsr ?_;refine kX 23 (.agg (af a0).toArray) r rfl rfl fun b1 w2 n3 r=>?_;obtain ⟨E1,Z2,H1,hB,zB⟩:=n3.all hB
 refine kX 3 (I a1) r rfl rfl fun b4 w5 n6 r=>?_;have H1:=keep n6.below H1
 obtain ⟨E4,Z5,H4,hB,zB⟩:=n6.all hB;refine kX 3 (I a2) r rfl rfl fun b7 w8 n9 r=>?_;have H1:=keep n9.below H1
 have H4:=keep n9.below H4;obtain ⟨E7,Z8,H7,hB,zB⟩:=n9.all hB;refine ar (.cells (ai false ax.zero 0 0 0 0 .nilFunc) 61 (0,0)) r (fun R=>aq tz61) rfl fun fr b10 w11 n12 r=>?_;have H1:=keep n12.below H1
 have H4:=keep n12.below H4;have H7:=keep n12.below H7;obtain ⟨E10,Z11,H10,hB,zB⟩:=n12.all hB;refine wn (wsr (kG (af a0) 6 r rfl H1 ta23 rfl rfl fun r=>kL (I a2) r rfl H7 to3 rfl rfl fun r=>?_));refine kE r (gU w11 a0 a2) rfl cl31 rfl fun w13 hb r=>?_
 have Z13:=hb.size;have H1:=keep hb H1;have H4:=keep hb H4;have H7:=keep hb H7;have H10:=keep hb H10;obtain ⟨hB,zB⟩:=bon hb hB;refine ae (.func (.func 128) #[] #[zp b1,zp b7,zp b4]) r (fun R=>aW r rfl) rfl fun fr r=>?_;have hF1:=aA hF hB b10
 have f14:((kW F w0 w13 b10)) b1:=(.inr ⟨by omega,by omega,by omega⟩)
 have f15:((kW F w0 w13 b10)) b7:=(.inr ⟨by omega,by omega,by omega⟩)
 have f16:((kW F w0 w13 b10)) b4:=(.inr ⟨by omega,by omega,by omega⟩)
 refine kD r (eO (F:=(kW F w0 w13 b10)) (n:=n) hF1 (D.cw a0 a2) ⟨128,[],[zp b1,zp b7,zp b4],Cb,rfl,fun m hm x w' hs hz=>xU (j:=j) (fun b hb=>Nat.lt_of_lt_of_le (hF1 b hb) hz) (by omega) a0 f14 (hs.at_ f14 H1) a2 f15 (hs.at_ f15 H7) a1 f16 (hs.at_ f16 H4) x⟩) rfl fe rfl fun w17 v18 hb hr19 r=>?_;have Z17:=hb.size
 have H1:=keep hb H1;have H4:=keep hb H4;have H7:=keep hb H7;have H10:=keep hb H10;obtain ⟨hB,zB⟩:=bon hb hB;refine kP r hr19.shape rfl rfl H10 ts61 rfl rfl fun w20 u21 r=>?_;have Z20:=u21.size
 have H1:=u21.keep H1 (by omega)
 have H4:=u21.keep H4 (by omega)
 have H7:=u21.keep H7 (by omega)
 have H10:=u21.at_;obtain ⟨hB,zB⟩:=u21.on hB (by omega)
 exact wn (wp_ret (kR r hr19 rfl rfl H10 rfl ta61 hF hB u21 (by omega) (by omega) (by omega)))
end
end Go.Proofs.YtfpgnmhcfkikkaaGreat

/- Ours. -/
set_option maxRecDepth 20000
set_option maxHeartbeats 2000000
namespace Go.Proofs.YtfpgnmhcfkikkaaGreat
open Go.RowKit
theorem CK:ak Tryz.prog 102:=by kernel_rfl
theorem cl24:ak Tryz.prog 24:=by kernel_rfl
theorem cl27:ak Tryz.prog 27:=by kernel_rfl
theorem Bu:ba Tryz.prog 37 0 0:=by kernel_rfl
theorem ud:ba Tryz.prog 37 2 2:=by kernel_rfl
theorem to35:tyO Tryz.prog 35:=by kernel_rfl
theorem ts23:sized Tryz.prog 23 6:=by kernel_rfl
theorem tz23:zeroOf Tryz.prog 23=some (.agg (af (⟨0,0,0,0,0,0⟩:Plan)).toArray):=by kernel_rfl
theorem zI {at_:Int} {f:Int→T Grant} {ws ws':List Int} {n:Nat} {r:Grant} (h0:0≤at_) (h1:at_<ws.length) (h:Runs (f (rd ws at_)) ws n r ws'):Runs (D.nR at_ f) ws (n+1) r ws':=Runs.load h0 h1 h
theorem zt {at_ w:Int} {f:Unit→T Grant} {ws ws':List Int} {n:Nat} {r:Grant} (h0:0≤at_) (h1:at_<ws.length) (h:Runs (f ()) (ws.set at_.toNat w) n r ws'):Runs (D.nI at_ w f) ws (n+1) r ws':=Runs.store h0 h1 h
def sp (p:Plan) (n:Int):Int:=D.aJ p+n * 5
section
variable {p : Plan} (hp : PF p) {n : Int} (hn : 0 ≤ n ∧ n < p.nodes)
include hp hn
theorem dF:0<sp p n∧sp p n+5≤D.cd p∧D.cw p n=sp p n:=by
  have hN:=ct hp;have hS:=dg hp;refine ⟨by unfold sp; omega,by unfold sp; omega,by rw [pX hp hn]; rfl⟩
end
theorem SF.live {s:State} (h:SF s) {k:Int} (hk:0≤k∧k≤2):SF (D.cS s k):=⟨h.g0,h.g1,by show (0:Int)≤1; omega,by show (1:Int)≤3; omega,hk.1,hk.2⟩
theorem SF.retire {s:State} (h:SF s):SF (D.eF s):=⟨h.g0,h.g1,by show (0:Int)≤2; omega,by show (2:Int)≤3; omega,h.k0,h.k1⟩
theorem SF.freed {s:State} (h:SF s) {m:Int} (hm:m≤1073741823):SF (D.bB s m):=by
  unfold D.bB;have:=h.g0;have:=h.g1
  by_cases e:s.gen≥m
  · rw [show decide (s.gen≥m)=true from by simpa using e]
    exact ⟨h.g0,h.g1,by show (0:Int)≤3; omega,by show (3:Int)≤3; omega,by show (0:Int)≤0; omega,by show (0:Int)≤2; omega⟩
  · rw [show decide (s.gen≥m)=false from by simpa using e]
    simp only [cond_false]
    rw [bh (x:=s.gen+1) (by omega) (by omega)]
    exact ⟨by show 0≤s.gen+1; omega,by show s.gen+1≤_; omega,by show (0:Int)≤0; omega,by show (0:Int)≤3; omega,by show (0:Int)≤0; omega,by show (0:Int)≤2; omega⟩
def StAt (p:Plan) (ws:List Int) (n:Int) (s:State):Prop:=rd ws (sp p n)=D.bR s∧SF s
theorem StAt.of {p:Plan} {ws:List Int} {n:Int} {s:State} (h:StAt p ws n s):D.aR (rd ws (sp p n))=(s,true):=by rw [h.1]; exact AO h.2
theorem zz {p:Plan} (hp:PF p) {ws:List Int} {n k:Int} {s:State} (hn:0≤n∧n<p.nodes) (hl:Len p ws) (hs:StAt p ws n s) :
    Runs (D.fF p n k) ws 2 ⟨n,s.gen,0⟩ (ws.set (sp p n).toNat (D.bR (D.cS s k))):=by
  obtain ⟨q1,q2,q3⟩:=dF hp hn;unfold Len at hl
  unfold D.fF;rw [q3];refine zI (by omega) (by omega) ?_;unfold D.o6;rw [hs.of,q3];exact zt (by omega) (by omega) (.done _ _)
theorem sT {p:Plan} (hp:PF p) {ws:List Int} {n k:Int} {l:List Int} {g:Int} {s:State} (hF:FreeAt p ws (n::l) g) (hnn:p.nodes≤1000000) (hg:g<1000000) (hs:StAt p ws n s) (hk:0≤k∧k≤2) (J:Nat) {G:Int→T Grant} (hG:G n=D.fF p n k) :
    ∃ ws',Runs (T.bind (D.cF (J+1) p) G) ws 5 ⟨n,s.gen,0⟩ ws'∧ws'.length=ws.length∧FreeAt p ws' l (g+1)∧StAt p ws' n (D.cS s k)∧∀ j,0<j→j≠sp p n→rd ws' j=rd ws j:=by
  have hn:=hF.range n (List.mem_cons_self ..);obtain ⟨q1,q2,q3⟩:=dF hp hn;obtain ⟨hr,hF2⟩:=Aw hp hF hnn hg J;have hN:=ct hp;have hl:=hF.len;have hl2:=hF2.len;have hs0:=hs.1
  generalize hu:ws.set (0:Int).toNat ((g+1) * 2097152+first l)=u at hr hF2 hl2
  have hul:u.length=ws.length:=by rw [←hu,List.length_set]
  have hur:∀ j,0<j→rd u j=rd ws j:=fun j hj=>by rw [←hu,bE (by omega) (by omega) (by omega),if_neg (by omega)]
  have hsu:StAt p u n s:=⟨by rw [hur _ q1]; exact hs0,hs.2⟩
  have hg2:=zz hp (k:=k) hn hl2 hsu;refine ⟨u.set (sp p n).toNat (D.bR (D.cS s k)),?_,by rw [List.length_set,hul],?_,⟨?_,hs.2.live hk⟩,fun j hj hne=>?_⟩
  · exact (Runs.bind (g:=G) hr (by rw [hG]; exact hg2)).cast (show 3+2=5 from rfl)
  · refine hF2.keep (by rw [List.length_set]) ?_ fun m hm=>?_
    · rw [bE (by omega) (by omega) (by omega),if_neg (by omega)]
    · have hmr:=hF2.range m hm
      have:nx p m≠sp p n:=by unfold nx sp; omega
      rw [bE (by omega) (by omega) (by unfold nx; omega),if_neg this]
  · rw [bE (by omega) (by omega) (by omega),if_pos rfl]
  · rw [bE (by omega) (by omega) (by omega),if_neg hne,hur j hj]
theorem ma {p:Plan} (hp:PF p) {ws:List Int} {n k t:Int} {l:List Int} {g:Int} {s:State} (hF:FreeAt p ws (n::l) g) (hnn:p.nodes≤1000000) (hg:g<1000000) (hs:StAt p ws n s) (hk:0≤k∧k≤2) (J:Nat) :
    ∃ ws',Runs (D.eU (J+1) p t k) ws 5 ⟨n,s.gen,0⟩ ws'∧ws'.length=ws.length∧FreeAt p ws' l (g+1)∧StAt p ws' n (D.cS s k)∧∀ j,0<j→j≠sp p n→rd ws' j=rd ws j:=by
  have hn:=hF.range n (List.mem_cons_self ..);refine sT hp hF hnn hg hs hk J (G:=fun x=>D.ef (J+1) p k t (fun x=>D.cW p k x) x) ?_
  unfold D.ef;rw [show (n !=-1)=true from by simp; omega]
  rfl
theorem si {p:Plan} (hp:PF p) {ws:List Int} {k g:Int} (hF:FreeAt p ws [] g) (hg:g<1000000) (J:Nat):Runs (T.bind (D.cF (J+1) p) (fun x=>D.cW p k x)) ws 1 ⟨-1,0,4⟩ ws:=
  (Runs.bind (g:=fun x=>D.cW p k x) (oP hp hF hg J) (.done _ _)).cast (show 1+0=1 from rfl)
theorem su {p:Plan} (hp:PF p) {ws:List Int} {n k:Int} {l:List Int} {g:Int} {s:State} (hF:FreeAt p ws (n::l) g) (hnn:p.nodes≤1000000) (hg:g<1000000) (hs:StAt p ws n s) (hk:0≤k∧k≤2) (J:Nat) :
    ∃ ws',Runs (T.bind (D.cF (J+1) p) (fun x=>D.cW p k x)) ws 5 ⟨n,s.gen,0⟩ ws'∧ws'.length=ws.length∧FreeAt p ws' l (g+1)∧StAt p ws' n (D.cS s k)∧∀ j,0<j→j≠sp p n→rd ws' j=rd ws j:=by
  have hn:=hF.range n (List.mem_cons_self ..);refine sT hp hF hnn hg hs hk J (G:=fun x=>D.cW p k x) ?_
  unfold D.cW;rw [show (n==-1)=false from by simp; omega]
  rfl
theorem zx {p:Plan} (hp:PF p) {ws:List Int} {t n:Int} {r:List Int} (ht:0≤t∧t<p.threads) (hn:0≤n∧n<p.nodes) (hnn:p.nodes≤1000000) (hl:Len p ws) (h:RetAt p ws t r) (hf:(r.length:Int)<p.retire) (J:Nat) :
    ∃ ws',Runs (D.lJ J p t n) ws 3 n ws'∧ws'.length=ws.length∧RetAt p ws' t (r++[n])∧∀ j,0≤j→j≠rb p t→j≠rb p t+1+r.length→rd ws' j=rd ws j:=by
  obtain ⟨ws',hr,hl',hR,ho⟩:=sW hp ht hn hnn hl h hf;refine ⟨ws',?_,hl',hR,ho⟩;refine (Runs.bind (g:=fun x=>D.fD J n p t (fun x=>D.ed n x) x) hr ?_).cast (show 3+0=3 from rfl)
  unfold D.fD;rw [show ((r.length:Int)+1 !=-1)=true from by simp; omega]
  exact .done _ _
theorem AZ:D.bR ⟨0,0,0⟩=0:=by rw [tu ⟨by decide,by decide,by decide,by decide,by decide,by decide⟩]; rfl
theorem rW {p:Plan} (hp:PF p) {ws:List Int} (h:LaidAt p ws) {n:Int} (hn:0≤n∧n<p.nodes):StAt p ws n ⟨0,0,0⟩:=by
  obtain ⟨q1,q2,q3⟩:=dF hp hn;refine ⟨?_,by decide,by decide,by decide,by decide,by decide,by decide⟩
  rw [AZ]
  exact h.zero _ q1 fun m _ _=>by unfold sp; omega
theorem tw {p:Plan} (hp:PF p) {ws:List Int} (h:LaidAt p ws) {t:Int} (ht:0≤t∧t<p.threads):RetAt p ws t []:=by
  obtain ⟨q1,q2,q3⟩:=cB hp ht;have hr1:=hp.r1;have ht1:=hp.t1;exact ⟨h.zero _ q3 fun m _ _=>by omega,by simp; omega,fun i hi=>(by cases hi),fun _ h=>(by cases h)⟩
structure GrantI (p:Plan) (k:Int) (i:Nat) (ws:List Int):Prop where
  free:FreeAt p ws ((List.range' i (p.nodes.toNat - i)).map fun (q:Nat)=>(q:Int)) i
  ret:RetAt p ws 0 []
  live:∀ n:Int,0≤n→n<i→StAt p ws n ⟨0,1,k⟩
  rest:∀ n:Int,i≤n→n<p.nodes→StAt p ws n ⟨0,0,0⟩
theorem GrantI.start {p:Plan} (hp:PF p) {ws:List Int} (h:LaidAt p ws) (k:Int):GrantI p k 0 ws:=by
  have hn1:=hp.n1;have ht1:=hp.t1;exact ⟨sO hp h,tw hp h ⟨by omega,by omega⟩,fun n h0 h1=>by omega,fun n h0 h1=>rW hp h ⟨by omega,h1⟩⟩
theorem GrantI.step {p:Plan} (hp:PF p) (hnn:p.nodes≤40) {k:Int} (hk:0≤k∧k≤2) {i:Nat} {ws:List Int} (h:GrantI p k i ws) (hi:(i:Int)<p.nodes) (J:Nat) :
    ∃ ws',Runs (D.eU (J+1) p 0 k) ws 5 ⟨i,0,0⟩ ws'∧GrantI p k (i+1) ws'∧∀ j,0<j→j<D.aJ p→rd ws' j=rd ws j:=by
  have hN:=ct hp;have ht1:=hp.t1;obtain ⟨d,hd⟩:∃ d,p.nodes.toNat - i=d+1:=⟨p.nodes.toNat - i - 1,by omega⟩
  have hF:=h.free;rw [hd,List.range'_succ,List.map_cons] at hF
  have hs:=h.rest i (by omega) hi
  obtain ⟨ws',hr,hl,hF2,hst,ho⟩:=ma hp (t:=0) hF (by omega) (by omega) hs hk J;obtain ⟨p1,p2,p3⟩:=cB hp (t:=0) ⟨by omega,by omega⟩
  refine ⟨ws',hr,⟨?_,h.ret.keep fun j h0 h1=>ho j (by omega) (by unfold sp; omega),fun n h0 h1=>?_,fun n h0 h1=>?_⟩,fun j h0 h1=>ho j h0 (by unfold sp; omega)⟩
  · rw [show p.nodes.toNat - (i+1)=d from by omega]
    exact hF2
  · by_cases e:n=(i:Int)
    · subst e; exact hst
    · have hv:=h.live n h0 (by omega)
      exact ⟨by rw [ho _ (by unfold sp; omega) (by unfold sp; omega)]; exact hv.1,hv.2⟩
  · have hv:=h.rest n (by omega) h1
    exact ⟨by rw [ho _ (by unfold sp; omega) (by unfold sp; omega)]; exact hv.1,hv.2⟩
end Go.Proofs.YtfpgnmhcfkikkaaGreat

/- Some of our texts, one behind the other. -/
import Derived.Test.YtikjpdpgdmbdpaaGreatLrRetires
import Derived.Test.YtikjpdpgdmbdpaaGreatLrM14
set_option linter.all false
/- Ours. -/
set_option maxRecDepth 20000
set_option maxHeartbeats 2000000
namespace Go.Proofs.YtikjpdpgdmbdpaaGreat
open Go.RowKit
section
variable {n : Nat} {F : Nat → Prop} {j : Nat} {w0 : World}
theorem Em:ag Tryz.prog 154:=kz
theorem xp:ag Tryz.prog 155:=kz
theorem wo:ag Tryz.prog 156:=kz
theorem Fk:ag Tryz.prog 159:=kz
theorem wG:ag Tryz.prog 160:=kz
theorem Fq:ag Tryz.prog 161:=kz
theorem FU:ag Tryz.prog 165:=kz
theorem Fs:ag Tryz.prog 167:=kz
theorem FQ:ag Tryz.prog 169:=kz
theorem Dt:ag Tryz.prog 170:=kz
theorem EG:ag Tryz.prog 248:=kz
theorem EL:ag Tryz.prog 249:=kz
theorem Ea:ag Tryz.prog 250:=kz
theorem Dv:ag Tryz.prog 251:=kz
theorem DH:ag Tryz.prog 252:=kz
theorem Dx:ag Tryz.prog 270:=kz
theorem xy:ag Tryz.prog 272:=kz
theorem Ey:ag Tryz.prog 273:=kz
theorem DX:ag Tryz.prog 274:=kz
theorem FX:sized Tryz.prog 231 1:=kz
theorem EX:sized Tryz.prog 280 1:=kz
theorem DJ:zeroOf Tryz.prog 231=some .nilFunc:=kz
theorem Fa:zeroOf Tryz.prog 280=some .nilFunc:=kz
def D.sq (c0:Int) (c1:State):T Grant:=(D.lG (⟨c0,c1.gen,0⟩:Grant))
theorem zl (hF:kH F w0)
    (c0:Int) {c0b:Nat} (c0F:F c0b) (c0h:w0.heap[c0b]?=some (.cells ([(.int .i64 c0)]).toArray 3 (0,0))) (c1:State) {c1b:Nat} (c1F:F c1b) (c1h:w0.heap[c1b]?=some (.cells ((aH c1)).toArray 137 (0,0))) :
    Calls Tryz.prog 252 #[zp c0b,zp c1b] w0 (aC Tryz.prog bo n (D.sq c0 c1) F w0):=by
 refine kN Tryz.func252 rfl 8 rfl rfl fun fr r hB=>?_;have lc0b:=lt_of_block c0h
 have lc1b:=lt_of_block c1h;refine wsr ?_;refine ai (.cells (af false bo.zero 0 0 0 0 .nilFunc) 41 (0,0)) r (fun R=>ah tz41) rfl fun fr b1 w2 n3 r=>?_;obtain ⟨E1,Z2,H1,hB,zB⟩:=n3.all hB
 refine wn (wsr (kL (I c0) r rfl (keep hB c0h) to3 rfl rfl fun r=>kF 0 r rfl gi rfl fun r=>kL (I c1.gen) r rfl (keep hB c1h) to3 rfl rfl fun r=>kU (.agg (grantC (⟨c0,c1.gen,0⟩:Grant)).toArray) r kz rfl fun r=>?_));have hF1:=aO hF hB b1
 refine kD r (rX (F:=(kW F w0 w2 b1)) (n:=n) hF1 (⟨c0,c1.gen,0⟩:Grant)) rfl xp rfl fun w4 v5 hb hr6 r=>?_;have Z4:=hb.size
 have H1:=keep hb H1;obtain ⟨hB,zB⟩:=bon hb hB;refine kP r hr6.shape rfl rfl H1 ts41 rfl rfl fun w7 u8 r=>?_;have Z7:=u8.size
 have H1:=u8.at_;obtain ⟨hB,zB⟩:=u8.on hB kw
 exact wn (wp_ret (kR r hr6 rfl rfl H1 rfl ta41 hF hB u8 kw kw kw))
def D.oK (c0:Plan) (c1:Int) (c2:Int) (a0:Int):T Grant:=(D.o4 (D.cH c0 c1) (D.cg (D.du ((D.aQ a0).1) c2)) (fun _=>(D.sq c1 ((D.aQ a0).1))))
theorem zU (hF:kH F w0)
    (c0:Plan) {c0b:Nat} (c0F:F c0b) (c0h:w0.heap[c0b]?=some (.cells ((ae c0)).toArray 23 (0,0))) (c1:Int) {c1b:Nat} (c1F:F c1b) (c1h:w0.heap[c1b]?=some (.cells ([(.int .i64 c1)]).toArray 3 (0,0))) (c2:Int) {c2b:Nat} (c2F:F c2b) (c2h:w0.heap[c2b]?=some (.cells ([(.int .i64 c2)]).toArray 3 (0,0))) (a0:Int) :
    Calls Tryz.prog 249 #[.int .u64 a0,zp c0b,zp c1b,zp c2b] w0 (aC Tryz.prog bo n (D.oK c0 c1 c2 a0) F w0):=by
 refine kN Tryz.func249 rfl 22 rfl rfl fun fr r hB=>?_;have lc0b:=lt_of_block c0h
 have lc1b:=lt_of_block c1h;have lc2b:=lt_of_block c2h;refine wsr ?_;refine ai (.cells (af false bo.zero 0 0 0 0 .nilFunc) 41 (0,0)) r (fun R=>ah tz41) rfl fun fr b1 w2 n3 r=>?_;obtain ⟨E1,Z2,H1,hB,zB⟩:=n3.all hB
 refine wn (wsr (kM (U a0) r rfl rfl fun r=>?_));refine kE r (jJ w2 a0) rfl cl63 rfl fun w4 hb r=>?_
 have Z4:=hb.size;have H1:=keep hb H1;obtain ⟨hB,zB⟩:=bon hb hB;refine kM (.tuple #[(.agg (aH (D.aQ a0).1).toArray),(.bool (D.aQ a0).2)]) r rfl rfl fun r=>ac (.agg (aH (D.aQ a0).1).toArray) r (fun R=>bM r (vs:=#[(.agg (aH (D.aQ a0).1).toArray),(.bool (D.aQ a0).2)]) rfl rfl) rfl fun fr r=>ac (.bool (D.aQ a0).2) r (fun R=>bM r (vs:=#[(.agg (aH (D.aQ a0).1).toArray),(.bool (D.aQ a0).2)]) rfl rfl) rfl fun fr r=>?_;refine ai (.cells ((aH (⟨0,0,0⟩:State))).toArray 137 (0,0)) r (fun R=>ah fG) rfl fun fr b5 w6 n7 r=>?_
 have H1:=keep n7.below H1;obtain ⟨E5,Z6,H5,hB,zB⟩:=n7.all hB;refine bh (.cells ((aH ((D.aQ a0).1))).toArray 137 (0,0)) r (fun R=>aT r (o:=0) (v:=(.agg (aH (D.aQ a0).1).toArray)) rfl rfl H5 ep (Nat.le_of_ble_eq_true rfl) rfl rfl) rfl fun fr w8 u9 r=>?_;have Z8:=u9.size
 have H1:=u9.keep H1 kw
 have H5:=u9.at_;obtain ⟨hB,zB⟩:=u9.on hB kw
 refine kA (.bool (D.aQ a0).2) r rfl rfl fun r=>wn (wp_seq ?_);refine bI 8 [.val (.agg (ae c0).toArray),.val (I c1),.val (I (D.cH c0 c1)),.val (.agg (aH (D.aQ a0).1).toArray),.val (I c2),.val (.agg (aH (D.du ((D.aQ a0).1) c2)).toArray),.val (U (D.cg (D.du ((D.aQ a0).1) c2))),.val (.func (.func 252) #[] #[zp c1b,zp b5])] mixed r kz (kV (kV (kV (kV (kV (kV (kV (kV bH)))))))) ?_ ?_
 ·
  refine ec r (fun _ u _ b d s=>aS s (cs:=(ae c0)) (n:=6) rfl (bY hB b c0h) ta23 rfl bz) (ec r (fun _ u _ b d s=>av s rfl (bY hB b c1h) to3 rfl bz) (ec r (fun fr1 u w' hb' hd r'=>aJ r' (args:=[(.agg (ae c0).toArray),(I c1)]) (lc hd.1 (lc hd.2.1 l0)) cl64 ((ib _ c0 c1).mono (by rintro _ w2 ⟨rfl,hb2⟩; exact ⟨_,rfl,hb2,rfl⟩))) (ec r (fun _ u _ b d s=>aS s (cs:=(aH ((D.aQ a0).1))) (n:=3) rfl (keep b H5) dG rfl bz) (ec r (fun _ u _ b d s=>av s rfl (bY hB b c2h) to3 rfl bz) (ec r (fun fr1 u w' hb' hd r'=>aJ r' (args:=[(.agg (aH (D.aQ a0).1).toArray),(I c2)]) (lc hd.1 (lc hd.2.1 l0)) Dv ((za _ ((D.aQ a0).1) c2).mono (by rintro _ w2 ⟨rfl,hb2⟩; exact ⟨_,rfl,hb2,rfl⟩))) (ec r (fun fr1 u w' hb' hd r'=>aJ r' (args:=[(.agg (aH (D.du ((D.aQ a0).1) c2)).toArray)]) (lc hd.1 l0) qz ((jb _ (D.du ((D.aQ a0).1) c2)).mono (by rintro _ w2 ⟨rfl,hb2⟩; exact ⟨_,rfl,hb2,rfl⟩))) (ec r (fun _ u _ b d s=>aU s (v:=(.func (.func 252) #[] #[zp c1b,zp b5])) rfl bz) ?_)))))));exact bJ
 intro fr u w10 hb hΦ hne r;have r:=r.congr (sc (hΦ 7 ke) (sc (hΦ 6 ke) (sc (hΦ 5 ke) (sc (hΦ 4 ke) (sc (hΦ 3 ke) (sc (hΦ 2 ke) (sc (hΦ 1 ke) (sc (hΦ 0 ke) rfl))))))));have Z10:=hb.size;have H1:=keep hb H1;have H5:=keep hb H5;obtain ⟨hB,zB⟩:=bon hb hB;have hF1:=aO hF hB b1;have f11:((kW F w0 w10 b1)) c1b:=(.inl c1F);have f12:((kW F w0 w10 b1)) b5:=(.inr ⟨kw,kw,kw⟩)
 refine kD r (zk (F:=(kW F w0 w10 b1)) (n:=n) hF1 (D.cH c0 c1) (D.cg (D.du ((D.aQ a0).1) c2)) ⟨252,[],[zp c1b,zp b5],DH,rfl,fun m hm _ w' hs hz=>zl (fun b hb=>Nat.lt_of_lt_of_le (hF1 b hb) hz) c1 f11 (hs.at_ f11 (keep hB c1h)) ((D.aQ a0).1) f12 (hs.at_ f12 H5)⟩) rfl Ea rfl fun w13 v14 hb hr15 r=>?_;have Z13:=hb.size
 have H1:=keep hb H1;have H5:=keep hb H5;obtain ⟨hB,zB⟩:=bon hb hB;refine kP r hr15.shape rfl rfl H1 ts41 rfl rfl fun w16 u17 r=>?_;have Z16:=u17.size
 have H5:=u17.keep H5 kw
 have H1:=u17.at_;obtain ⟨hB,zB⟩:=u17.on hB kw
 exact wn (wp_ret (kR r hr15 rfl rfl H1 rfl ta41 hF hB u17 kw kw kw))
def D.eV (a0:Plan) (a1:Int) (a2:Int):T Grant:=(D.ol (D.cH a0 a1) (fun x=>(D.oK a0 a1 a2 x)))
theorem sR (hF:kH F w0)
    (a0:Plan) (a1:Int) (a2:Int) :
    Calls Tryz.prog 156 #[.agg (ae a0).toArray,.int .i64 a1,.int .i64 a2] w0 (aC Tryz.prog bo n (D.eV a0 a1 a2) F w0):=by
 refine kN Tryz.func156 rfl 12 rfl rfl fun fr r hB=>?_;refine wsr ?_
 refine kX 23 (.agg (ae a0).toArray) r rfl rfl fun b1 w2 n3 r=>?_;obtain ⟨E1,Z2,H1,hB,zB⟩:=n3.all hB
 refine kX 3 (I a1) r rfl rfl fun b4 w5 n6 r=>?_;have H1:=keep n6.below H1
 obtain ⟨E4,Z5,H4,hB,zB⟩:=n6.all hB;refine kX 3 (I a2) r rfl rfl fun b7 w8 n9 r=>?_;have H1:=keep n9.below H1
 have H4:=keep n9.below H4;obtain ⟨E7,Z8,H7,hB,zB⟩:=n9.all hB;refine ai (.cells (af false bo.zero 0 0 0 0 .nilFunc) 41 (0,0)) r (fun R=>ah tz41) rfl fun fr b10 w11 n12 r=>?_;have H1:=keep n12.below H1
 have H4:=keep n12.below H4;have H7:=keep n12.below H7;obtain ⟨E10,Z11,H10,hB,zB⟩:=n12.all hB;refine wn (wsr (kG (ae a0) 6 r rfl H1 ta23 rfl rfl fun r=>kL (I a1) r rfl H4 to3 rfl rfl fun r=>?_));refine kE r (ib w11 a0 a1) rfl cl64 rfl fun w13 hb r=>?_
 have Z13:=hb.size;have H1:=keep hb H1;have H4:=keep hb H4;have H7:=keep hb H7;have H10:=keep hb H10;obtain ⟨hB,zB⟩:=bon hb hB;refine ac (.func (.func 249) #[] #[zp b1,zp b4,zp b7]) r (fun R=>aU r rfl) rfl fun fr r=>?_;have hF1:=aO hF hB b10
 have f14:((kW F w0 w13 b10)) b1:=(.inr ⟨kw,kw,kw⟩)
 have f15:((kW F w0 w13 b10)) b4:=(.inr ⟨kw,kw,kw⟩)
 have f16:((kW F w0 w13 b10)) b7:=(.inr ⟨kw,kw,kw⟩)
 refine kD r (zz (F:=(kW F w0 w13 b10)) (n:=n) hF1 (D.cH a0 a1) ⟨249,[],[zp b1,zp b4,zp b7],EL,rfl,fun m hm x w' hs hz=>zU (fun b hb=>Nat.lt_of_lt_of_le (hF1 b hb) hz) a0 f14 (hs.at_ f14 H1) a1 f15 (hs.at_ f15 H4) a2 f16 (hs.at_ f16 H7) x⟩) rfl EG rfl fun w17 v18 hb hr19 r=>?_;have Z17:=hb.size
 have H1:=keep hb H1;have H4:=keep hb H4;have H7:=keep hb H7;have H10:=keep hb H10;obtain ⟨hB,zB⟩:=bon hb hB;refine kP r hr19.shape rfl rfl H10 ts41 rfl rfl fun w20 u21 r=>?_;have Z20:=u21.size
 have H1:=u21.keep H1 kw
 have H4:=u21.keep H4 kw
 have H7:=u21.keep H7 kw
 have H10:=u21.at_;obtain ⟨hB,zB⟩:=u21.on hB kw
 exact wn (wp_ret (kR r hr19 rfl rfl H10 rfl ta41 hF hB u21 kw kw kw))
def D.dh (c0:Plan) (c1:Int) (a0:Int):T Grant:=(bif (a0==(-1)) then (D.lG (⟨(-1),0,4⟩:Grant)) else (D.eV c0 a0 c1))
theorem Ay (hF:kH F w0)
    (c0:Plan) {c0b:Nat} (c0F:F c0b) (c0h:w0.heap[c0b]?=some (.cells ((ae c0)).toArray 23 (0,0))) (c1:Int) {c1b:Nat} (c1F:F c1b) (c1h:w0.heap[c1b]?=some (.cells ([(.int .i64 c1)]).toArray 3 (0,0))) (a0:Int) :
    Calls Tryz.prog 154 #[.int .i64 a0,zp c0b,zp c1b] w0 (aC Tryz.prog bo n (D.dh c0 c1 a0) F w0):=by
 refine kN Tryz.func154 rfl 13 rfl rfl fun fr r hB=>?_;have lc0b:=lt_of_block c0h
 have lc1b:=lt_of_block c1h;refine wsr ?_;refine ai (.cells (af false bo.zero 0 0 0 0 .nilFunc) 41 (0,0)) r (fun R=>ah tz41) rfl fun fr b1 w2 n3 r=>?_;obtain ⟨E1,Z2,H1,hB,zB⟩:=n3.all hB
 refine wn (wp_seq (wsr (kM (I a0) r rfl rfl fun r=>kB r rfl rfl rfl rfl rfl fun r=>wn ?_)));refine wp_cond_split (t:=(a0==(-1))) (r.ev rfl) (fun h4=>?_) (fun h4=>?_)
 ·
  refine wsr (kU (.agg (grantC (⟨(-1),0,4⟩:Grant)).toArray) r kz rfl fun r=>?_);have hF1:=aO hF hB b1
  refine kD r (rX (F:=(kW F w0 w2 b1)) (n:=n) hF1 (⟨(-1),0,4⟩:Grant)) rfl xp rfl fun w5 v6 hb hr7 r=>?_;have Z5:=hb.size
  have H1:=keep hb H1;obtain ⟨hB,zB⟩:=bon hb hB;refine kP r hr7.shape rfl rfl H1 ts41 rfl rfl fun w8 u9 r=>?_;have Z8:=u9.size
  have H1:=u9.at_;obtain ⟨hB,zB⟩:=u9.on hB kw
  refine wn (wp_ret ?_);have hd:D.dh c0 c1 a0=(D.lG (⟨(-1),0,4⟩:Grant)):=(az h4).trans (rfl);have hs:=hr7.shape.cells;refine ar r rfl rfl H1 (k:=9) hs.1 ta41 ?_;rw [←hs.2.2,hd];exact rfin hF hB hr7 u9 kw kw kw
 refine wp_skip (wsr (kG (ae c0) 6 r rfl (keep hB c0h) ta23 rfl rfl fun r=>kM (I a0) r rfl rfl fun r=>kL (I c1) r rfl (keep hB c1h) to3 rfl rfl fun r=>?_));have hF1:=aO hF hB b1
 refine kD r (sR (F:=(kW F w0 w2 b1)) (n:=n) hF1 c0 a0 c1) rfl wo rfl fun w10 v11 hb hr12 r=>?_;have Z10:=hb.size
 have H1:=keep hb H1;obtain ⟨hB,zB⟩:=bon hb hB;refine kP r hr12.shape rfl rfl H1 ts41 rfl rfl fun w13 u14 r=>?_;have Z13:=u14.size
 have H1:=u14.at_;obtain ⟨hB,zB⟩:=u14.on hB kw
 refine wn (wp_ret ?_);have hd:D.dh c0 c1 a0=(D.eV c0 a0 c1):=(aB h4).trans (rfl);have hs:=hr12.shape.cells;refine ar r rfl rfl H1 (k:=9) hs.1 ta41 ?_;rw [←hs.2.2,hd];exact rfin hF hB hr12 u14 kw kw kw
def D.jt (j:Nat) (c0:Plan) (c1:(Int→T Grant)) (a0:Int):T Grant:=(T.bind (D.cB j c0) c1)
theorem A9 (hF:kH F w0) (hj:n<j)
    (c0:Plan) {c0b:Nat} (c0F:F c0b) (c0h:w0.heap[c0b]?=some (.cells ((ae c0)).toArray 23 (0,0))) {c1f:FuncId} {c1_1 c1_2:List Value} {c1:(Int→T Grant)} {c1b:Nat} (c1F:F c1b) (c1h:w0.heap[c1b]?=some (.cells #[.func (.func c1f) c1_1.toArray c1_2.toArray] 231 (0,0))) (c1n:FnT Tryz.prog bo i64 (n+1) F w0 (.func (.func c1f) c1_1.toArray c1_2.toArray) c1) (a0:Int) :
    Calls Tryz.prog 161 #[.int .i64 a0,zp c0b,zp c1b] w0 (aC Tryz.prog bo n (D.jt j c0 c1 a0) F w0):=by
 refine kN Tryz.func161 rfl 9 rfl rfl fun fr r hB=>?_;have lc0b:=lt_of_block c0h
 have lc1b:=lt_of_block c1h;refine wsr ?_;refine ai (.cells (af false bo.zero 0 0 0 0 .nilFunc) 41 (0,0)) r (fun R=>ah tz41) rfl fun fr b1 w2 n3 r=>?_;obtain ⟨E1,Z2,H1,hB,zB⟩:=n3.all hB
 refine wn (wp_seq ?_);have hF1:=aO hF hB b1;refine bI 3 [.val (.agg (ae c0).toArray),.pred (PrepP Tryz.prog ak n (D.cB j c0) ((kW F w0 w2 b1)) w2) (PrepP.st hF1),.val (.func (.func c1f) c1_1.toArray c1_2.toArray)] mixed r kz (kV (kV (kV bH))) ?_ ?_
 ·
  refine ec r (fun _ u _ b d s=>aS s (cs:=(ae c0)) (n:=6) rfl (bY hB b c0h) ta23 rfl bz) (ec r (fun fr1 u w' hb' hd r'=>aJ r' (args:=[(.agg (ae c0).toArray)]) (lc hd.1 l0) qU (((tU (k:=j) (n:=n) kw) ((kW F w0 w2 b1)) _ (fun b h=>Nat.lt_of_lt_of_le (hF1 b h) hb'.size) c0).mono (by rintro _ w2 ⟨y,rfl,hb2,hr2⟩; exact ⟨_,rfl,hb2,PrepP.of (drB hb') hb2 hr2⟩))) (ec r (fun _ u _ b d s=>av s rfl (bY hB b c1h) rl rfl bz) ?_));exact bJ
 intro fr u w4 hb hΦ hne r;obtain ⟨v5,hv1⟩:∃ v,v=u 1:=⟨_,rfl⟩;have g1:u 1=v5:=hv1.symm;have hr6:=(hΦ 1 ke).2;rw [g1] at hr6
 have r:=r.congr (sc (hΦ 2 ke) (sc g1 (sc (hΦ 0 ke) rfl)))
 have Z4:=hb.size;have H1:=keep hb H1;obtain ⟨hB,zB⟩:=bon hb hB;have hF1:=aO hF hB b1;refine kD r (nI (F:=(kW F w0 w4 b1)) (n:=n) hF1 (Rep.mono (by rintro b (h | h); (rcases h with h | ⟨h1,h2,h3⟩; exact .inl h; exact .inr ⟨h1,kw,h3⟩); exact .inr ⟨kw,kw,kw⟩) (Same.refl _ _) kw n _ _ hr6) (c1n.mono kw (fun b h=>.inl h) (Same.below hB hF) hB.size)) rfl ng rfl fun w7 v8 hb hr9 r=>?_
 have Z7:=hb.size;have H1:=keep hb H1;obtain ⟨hB,zB⟩:=bon hb hB;refine kP r hr9.shape rfl rfl H1 ts41 rfl rfl fun w10 u11 r=>?_;have Z10:=u11.size
 have H1:=u11.at_;obtain ⟨hB,zB⟩:=u11.on hB kw
 exact wn (wp_ret (kR r hr9 rfl rfl H1 rfl ta41 hF hB u11 kw kw kw))
def D.eU (j:Nat) (c0:Plan) (c1:Int) (c2:Int) (c3:(Int→T Grant)) (a0:Int):T Grant:=(bif (a0 !=(-1)) then (D.eV c0 a0 c1) else (T.bind (D.eG j c0 c2) (fun x=>(D.jt j c0 c3 x))))
theorem AP (hF:kH F w0) (hj:n<j)
    (c0:Plan) {c0b:Nat} (c0F:F c0b) (c0h:w0.heap[c0b]?=some (.cells ((ae c0)).toArray 23 (0,0))) (c1:Int) {c1b:Nat} (c1F:F c1b) (c1h:w0.heap[c1b]?=some (.cells ([(.int .i64 c1)]).toArray 3 (0,0))) (c2:Int) {c2b:Nat} (c2F:F c2b) (c2h:w0.heap[c2b]?=some (.cells ([(.int .i64 c2)]).toArray 3 (0,0))) {c3f:FuncId} {c3_1 c3_2:List Value} {c3:(Int→T Grant)} {c3b:Nat} (c3F:F c3b) (c3h:w0.heap[c3b]?=some (.cells #[.func (.func c3f) c3_1.toArray c3_2.toArray] 231 (0,0))) (c3n:FnT Tryz.prog bo i64 (n+1) F w0 (.func (.func c3f) c3_1.toArray c3_2.toArray) c3) (a0:Int) :
    Calls Tryz.prog 159 #[.int .i64 a0,zp c0b,zp c1b,zp c2b,zp c3b] w0 (aC Tryz.prog bo n (D.eU j c0 c1 c2 c3 a0) F w0):=by
 refine kN Tryz.func159 rfl 18 rfl rfl fun fr r hB=>?_;have lc0b:=lt_of_block c0h
 have lc1b:=lt_of_block c1h;have lc2b:=lt_of_block c2h;have lc3b:=lt_of_block c3h;refine wsr ?_;refine ai (.cells (af false bo.zero 0 0 0 0 .nilFunc) 41 (0,0)) r (fun R=>ah tz41) rfl fun fr b1 w2 n3 r=>?_;obtain ⟨E1,Z2,H1,hB,zB⟩:=n3.all hB
 refine wn (wp_seq (wsr (kM (I a0) r rfl rfl fun r=>kB r rfl rfl rfl rfl rfl fun r=>wn ?_)));refine wp_cond_split (t:=(a0 !=(-1))) (r.ev rfl) (fun h4=>?_) (fun h4=>?_)
 ·
  refine wsr (kG (ae c0) 6 r rfl (keep hB c0h) ta23 rfl rfl fun r=>kM (I a0) r rfl rfl fun r=>kL (I c1) r rfl (keep hB c1h) to3 rfl rfl fun r=>?_);have hF1:=aO hF hB b1
  refine kD r (sR (F:=(kW F w0 w2 b1)) (n:=n) hF1 c0 a0 c1) rfl wo rfl fun w5 v6 hb hr7 r=>?_;have Z5:=hb.size
  have H1:=keep hb H1;obtain ⟨hB,zB⟩:=bon hb hB;refine kP r hr7.shape rfl rfl H1 ts41 rfl rfl fun w8 u9 r=>?_;have Z8:=u9.size
  have H1:=u9.at_;obtain ⟨hB,zB⟩:=u9.on hB kw
  refine wn (wp_ret ?_);have hd:D.eU j c0 c1 c2 c3 a0=(D.eV c0 a0 c1):=(az h4).trans (rfl);have hs:=hr7.shape.cells;refine ar r rfl rfl H1 (k:=9) hs.1 ta41 ?_;rw [←hs.2.2,hd];exact rfin hF hB hr7 u9 kw kw kw
 refine wp_skip (wsr (kG (ae c0) 6 r rfl (keep hB c0h) ta23 rfl rfl fun r=>kL (I c2) r rfl (keep hB c2h) to3 rfl rfl fun r=>?_));have hF1:=aO hF hB b1
 refine kD r (sV (j:=j) (F:=(kW F w0 w2 b1)) (n:=n) hF1 kw c0 c2) rfl wG rfl fun w10 v11 hb hr12 r=>?_;have Z10:=hb.size
 have H1:=keep hb H1;obtain ⟨hB,zB⟩:=bon hb hB;refine ac (.func (.func 161) #[] #[zp c0b,zp c3b]) r (fun R=>aU r rfl) rfl fun fr r=>?_;have hF1:=aO hF hB b1
 have f13:((kW F w0 w10 b1)) c0b:=(.inl c0F);have f14:((kW F w0 w10 b1)) c3b:=(.inl c3F);refine kD r (nI (F:=(kW F w0 w10 b1)) (n:=n) hF1 (Rep.mono (by rintro b (h | h); (rcases h with h | ⟨h1,h2,h3⟩; exact .inl h; exact .inr ⟨h1,kw,h3⟩); exact .inr ⟨kw,kw,kw⟩) (Same.refl _ _) kw n _ _ hr12) ⟨161,[],[zp c0b,zp c3b],Fq,rfl,fun m hm x w' hs hz=>A9 (j:=j) (fun b hb=>Nat.lt_of_lt_of_le (hF1 b hb) hz) kw c0 f13 (hs.at_ f13 (keep hB c0h)) f14 (hs.at_ f14 (keep hB c3h)) (c3n.mono kw (fun b h=>.inl h) ((Same.below hB hF).trans (hs.sub (fun b h=>.inl h))) (Nat.le_trans hB.size hz)) x⟩) rfl ng rfl fun w15 v16 hb hr17 r=>?_
 have Z15:=hb.size;have H1:=keep hb H1;obtain ⟨hB,zB⟩:=bon hb hB;refine kP r hr17.shape rfl rfl H1 ts41 rfl rfl fun w18 u19 r=>?_;have Z18:=u19.size
 have H1:=u19.at_;obtain ⟨hB,zB⟩:=u19.on hB kw
 refine wn (wp_ret ?_);have hd:D.eU j c0 c1 c2 c3 a0=(T.bind (D.eG j c0 c2) (fun x=>(D.jt j c0 c3 x))):=(aB h4).trans (rfl)
 have hs:=hr17.shape.cells;refine ar r rfl rfl H1 (k:=9) hs.1 ta41 ?_;rw [←hs.2.2,hd];exact rfin hF hB hr17 u19 kw kw kw
def D.ee (j:Nat) (a0:Plan) (a1:Int) (a2:Int):T Grant:=(T.bind (D.cB j a0) (fun x=>(D.eU j a0 a2 a1 (fun x=>(D.dh a0 a2 x)) x)))
theorem Bd (hF:kH F w0) (hj:n<j)
    (a0:Plan) (a1:Int) (a2:Int) :
    Calls Tryz.prog 74 #[.agg (ae a0).toArray,.int .i64 a1,.int .i64 a2] w0 (aC Tryz.prog bo n (D.ee j a0 a1 a2) F w0):=by
 refine kN Tryz.func74 rfl 13 rfl rfl fun fr r hB=>?_;refine wsr ?_
 refine kX 23 (.agg (ae a0).toArray) r rfl rfl fun b1 w2 n3 r=>?_;obtain ⟨E1,Z2,H1,hB,zB⟩:=n3.all hB
 refine kX 3 (I a1) r rfl rfl fun b4 w5 n6 r=>?_;have H1:=keep n6.below H1
 obtain ⟨E4,Z5,H4,hB,zB⟩:=n6.all hB;refine kX 3 (I a2) r rfl rfl fun b7 w8 n9 r=>?_;have H1:=keep n9.below H1
 have H4:=keep n9.below H4;obtain ⟨E7,Z8,H7,hB,zB⟩:=n9.all hB;refine ai (.cells (af false bo.zero 0 0 0 0 .nilFunc) 41 (0,0)) r (fun R=>ah tz41) rfl fun fr b10 w11 n12 r=>?_;have H1:=keep n12.below H1
 have H4:=keep n12.below H4;have H7:=keep n12.below H7;obtain ⟨E10,Z11,H10,hB,zB⟩:=n12.all hB;refine wn (wsr (ac (.func (.func 154) #[] #[zp b1,zp b7]) r (fun R=>aU r rfl) rfl fun fr r=>?_));refine ai (.cells #[.nilFunc] 231 (0,0)) r (fun R=>ah DJ) rfl fun fr b13 w14 n15 r=>?_
 have H1:=keep n15.below H1;have H4:=keep n15.below H4;have H7:=keep n15.below H7;have H10:=keep n15.below H10;obtain ⟨E13,Z14,H13,hB,zB⟩:=n15.all hB;refine bh (.cells #[.func (.func 154) #[] #[zp b1,zp b7]] 231 (0,0)) r (fun R=>aT r (o:=0) (v:=(.func (.func 154) #[] #[zp b1,zp b7])) rfl rfl H13 FX (Nat.le_of_ble_eq_true rfl) rfl rfl) rfl fun fr w16 u17 r=>?_;have Z16:=u17.size
 have H1:=u17.keep H1 kw
 have H4:=u17.keep H4 kw
 have H7:=u17.keep H7 kw
 have H10:=u17.keep H10 kw
 have H13:=u17.at_;obtain ⟨hB,zB⟩:=u17.on hB kw
 refine wn (wsr (kG (ae a0) 6 r rfl H1 ta23 rfl rfl fun r=>?_));have hF1:=aO hF hB b10
 refine kD r ((tU (k:=j) (n:=n) kw) (kW F w0 w16 b10) _ hF1 a0) rfl qU rfl fun w18 v19 hb hr20 r=>?_;have Z18:=hb.size
 have H1:=keep hb H1;have H4:=keep hb H4;have H7:=keep hb H7;have H10:=keep hb H10;have H13:=keep hb H13;obtain ⟨hB,zB⟩:=bon hb hB;refine ac (.func (.func 159) #[] #[zp b1,zp b7,zp b4,zp b13]) r (fun R=>aU r rfl) rfl fun fr r=>?_;have hF1:=aO hF hB b10
 have f21:((kW F w0 w18 b10)) b1:=(.inr ⟨kw,kw,kw⟩)
 have f22:((kW F w0 w18 b10)) b7:=(.inr ⟨kw,kw,kw⟩)
 have f23:((kW F w0 w18 b10)) b4:=(.inr ⟨kw,kw,kw⟩)
 have f24:((kW F w0 w18 b10)) b13:=(.inr ⟨kw,kw,kw⟩)
 have f26:((kW F w0 w18 b10)) b1:=(.inr ⟨kw,kw,kw⟩)
 have f27:((kW F w0 w18 b10)) b7:=(.inr ⟨kw,kw,kw⟩)
 have q25:FnT Tryz.prog bo i64 (n+1) (kW F w0 w18 b10) w18 (.func (.func 154) #[] #[zp b1,zp b7]) (fun x=>(D.dh a0 a2 x)):=⟨154,[],[zp b1,zp b7],Em,rfl,fun m hm x w' hs hz=>Ay (fun b hb=>Nat.lt_of_lt_of_le (hF1 b hb) hz) a0 f26 (hs.at_ f26 H1) a2 f27 (hs.at_ f27 H7) x⟩
 refine kD r (nI (F:=(kW F w0 w18 b10)) (n:=n) hF1 (Rep.mono (by rintro b (h | h); (rcases h with h | ⟨h1,h2,h3⟩; exact .inl h; exact .inr ⟨h1,kw,h3⟩); exact .inr ⟨kw,kw,kw⟩) (Same.refl _ _) kw n _ _ hr20) ⟨159,[],[zp b1,zp b7,zp b4,zp b13],Fk,rfl,fun m hm x w' hs hz=>AP (j:=j) (fun b hb=>Nat.lt_of_lt_of_le (hF1 b hb) hz) kw a0 f21 (hs.at_ f21 H1) a2 f22 (hs.at_ f22 H7) a1 f23 (hs.at_ f23 H4) f24 (hs.at_ f24 H13) (q25.mono kw (fun b h=>h) hs hz) x⟩) rfl ng rfl fun w28 v29 hb hr30 r=>?_
 have Z28:=hb.size;have H1:=keep hb H1;have H4:=keep hb H4;have H7:=keep hb H7;have H10:=keep hb H10;have H13:=keep hb H13;obtain ⟨hB,zB⟩:=bon hb hB;refine kP r hr30.shape rfl rfl H10 ts41 rfl rfl fun w31 u32 r=>?_;have Z31:=u32.size
 have H1:=u32.keep H1 kw
 have H4:=u32.keep H4 kw
 have H7:=u32.keep H7 kw
 have H13:=u32.keep H13 kw
 have H10:=u32.at_;obtain ⟨hB,zB⟩:=u32.on hB kw
 exact wn (wp_ret (kR r hr30 rfl rfl H10 rfl ta41 hF hB u32 kw kw kw))
def D.jy (c0:Int) (a0:Int):T Int:=(bif (a0==(-1)) then (D.cJ (-1)) else (D.cJ c0))
theorem zS (hF:kH F w0)
    (c0:Int) {c0b:Nat} (c0F:F c0b) (c0h:w0.heap[c0b]?=some (.cells ([(.int .i64 c0)]).toArray 3 (0,0))) (a0:Int) :
    Calls Tryz.prog 270 #[.int .i64 a0,zp c0b] w0 (aC Tryz.prog ak n (D.jy c0 a0) F w0):=by
 refine kN Tryz.func270 rfl 9 rfl rfl fun fr r hB=>?_;have lc0b:=lt_of_block c0h
 refine wsr ?_;refine ai (.cells (af false ak.zero 0 0 0 0 .nilFunc) 44 (0,0)) r (fun R=>ah tz44) rfl fun fr b1 w2 n3 r=>?_;obtain ⟨E1,Z2,H1,hB,zB⟩:=n3.all hB
 refine wn (wp_seq (wsr (kM (I a0) r rfl rfl fun r=>kB r rfl rfl rfl rfl rfl fun r=>wn ?_)));refine wp_cond_split (t:=(a0==(-1))) (r.ev rfl) (fun h4=>?_) (fun h4=>?_)
 ·
  refine wsr ?_;have hF1:=aO hF hB b1;refine kD r (eB (F:=(kW F w0 w2 b1)) (n:=n) hF1 (-1)) rfl eM rfl fun w5 v6 hb hr7 r=>?_;have Z5:=hb.size
  have H1:=keep hb H1;obtain ⟨hB,zB⟩:=bon hb hB;refine kP r hr7.shape rfl rfl H1 ts44 rfl rfl fun w8 u9 r=>?_;have Z8:=u9.size
  have H1:=u9.at_;obtain ⟨hB,zB⟩:=u9.on hB kw
  refine wn (wp_ret ?_);have hd:D.jy c0 a0=(D.cJ (-1)):=(az h4).trans (rfl);have hs:=hr7.shape.cells;refine ar r rfl rfl H1 (k:=7) hs.1 ta44 ?_;rw [←hs.2.2,hd];exact rfin hF hB hr7 u9 kw kw kw
 refine wp_skip (wsr (kL (I c0) r rfl (keep hB c0h) to3 rfl rfl fun r=>?_));have hF1:=aO hF hB b1
 refine kD r (eB (F:=(kW F w0 w2 b1)) (n:=n) hF1 c0) rfl eM rfl fun w10 v11 hb hr12 r=>?_;have Z10:=hb.size
 have H1:=keep hb H1;obtain ⟨hB,zB⟩:=bon hb hB;refine kP r hr12.shape rfl rfl H1 ts44 rfl rfl fun w13 u14 r=>?_;have Z13:=u14.size
 have H1:=u14.at_;obtain ⟨hB,zB⟩:=u14.on hB kw
 refine wn (wp_ret ?_);have hd:D.jy c0 a0=(D.cJ c0):=(aB h4).trans (rfl);have hs:=hr12.shape.cells;refine ar r rfl rfl H1 (k:=7) hs.1 ta44 ?_;rw [←hs.2.2,hd];exact rfin hF hB hr12 u14 kw kw kw
def D.ou (c0:Plan) (c1:Int) (c2:Int) (c3:(Int→T Int)) (a0:Int):T Int:=(T.bind (D.iG c0 c1 c2) c3)
theorem zu (hF:kH F w0)
    (c0:Plan) {c0b:Nat} (c0F:F c0b) (c0h:w0.heap[c0b]?=some (.cells ((ae c0)).toArray 23 (0,0))) (c1:Int) {c1b:Nat} (c1F:F c1b) (c1h:w0.heap[c1b]?=some (.cells ([(.int .i64 c1)]).toArray 3 (0,0))) (c2:Int) {c2b:Nat} (c2F:F c2b) (c2h:w0.heap[c2b]?=some (.cells ([(.int .i64 c2)]).toArray 3 (0,0))) {c3f:FuncId} {c3_1 c3_2:List Value} {c3:(Int→T Int)} {c3b:Nat} (c3F:F c3b) (c3h:w0.heap[c3b]?=some (.cells #[.func (.func c3f) c3_1.toArray c3_2.toArray] 280 (0,0))) (c3n:FnT Tryz.prog ak i64 (n+1) F w0 (.func (.func c3f) c3_1.toArray c3_2.toArray) c3) (a0:Int) :
    Calls Tryz.prog 274 #[.int .i64 a0,zp c0b,zp c1b,zp c2b,zp c3b] w0 (aC Tryz.prog ak n (D.ou c0 c1 c2 c3 a0) F w0):=by
 refine kN Tryz.func274 rfl 13 rfl rfl fun fr r hB=>?_;have lc0b:=lt_of_block c0h
 have lc1b:=lt_of_block c1h;have lc2b:=lt_of_block c2h;have lc3b:=lt_of_block c3h;refine wsr ?_;refine ai (.cells (af false ak.zero 0 0 0 0 .nilFunc) 44 (0,0)) r (fun R=>ah tz44) rfl fun fr b1 w2 n3 r=>?_;obtain ⟨E1,Z2,H1,hB,zB⟩:=n3.all hB
 refine wn (wp_seq ?_);have hF1:=aO hF hB b1;refine bI 5 [.val (.agg (ae c0).toArray),.val (I c1),.val (I c2),.pred (PrepP Tryz.prog ak n (D.iG c0 c1 c2) ((kW F w0 w2 b1)) w2) (PrepP.st hF1),.val (.func (.func c3f) c3_1.toArray c3_2.toArray)] mixed r kz (kV (kV (kV (kV (kV bH))))) ?_ ?_
 ·
  refine ec r (fun _ u _ b d s=>aS s (cs:=(ae c0)) (n:=6) rfl (bY hB b c0h) ta23 rfl bz) (ec r (fun _ u _ b d s=>av s rfl (bY hB b c1h) to3 rfl bz) (ec r (fun _ u _ b d s=>av s rfl (bY hB b c2h) to3 rfl bz) (ec r (fun fr1 u w' hb' hd r'=>aJ r' (args:=[(.agg (ae c0).toArray),(I c1),(I c2)]) (lc hd.1 (lc hd.2.1 (lc hd.2.2.1 l0))) xy ((tr (F:=(kW F w0 w2 b1)) (n:=n) (fun b h=>Nat.lt_of_lt_of_le (hF1 b h) hb'.size) c0 c1 c2).mono (by rintro _ w2 ⟨y,rfl,hb2,hr2⟩; exact ⟨_,rfl,hb2,PrepP.of (drB hb') hb2 hr2⟩))) (ec r (fun _ u _ b d s=>av s rfl (bY hB b c3h) qN rfl bz) ?_))));exact bJ
 intro fr u w4 hb hΦ hne r;obtain ⟨v5,hv3⟩:∃ v,v=u 3:=⟨_,rfl⟩;have g3:u 3=v5:=hv3.symm;have hr6:=(hΦ 3 ke).2;rw [g3] at hr6
 have r:=r.congr (sc (hΦ 4 ke) (sc g3 (sc (hΦ 2 ke) (sc (hΦ 1 ke) (sc (hΦ 0 ke) rfl)))))
 have Z4:=hb.size;have H1:=keep hb H1;obtain ⟨hB,zB⟩:=bon hb hB;have hF1:=aO hF hB b1;refine kD r (nJ (F:=(kW F w0 w4 b1)) (n:=n) hF1 (Rep.mono (by rintro b (h | h); (rcases h with h | ⟨h1,h2,h3⟩; exact .inl h; exact .inr ⟨h1,kw,h3⟩); exact .inr ⟨kw,kw,kw⟩) (Same.refl _ _) kw n _ _ hr6) (c3n.mono kw (fun b h=>.inl h) (Same.below hB hF) hB.size)) rfl kq rfl fun w7 v8 hb hr9 r=>?_
 have Z7:=hb.size;have H1:=keep hb H1;obtain ⟨hB,zB⟩:=bon hb hB;refine kP r hr9.shape rfl rfl H1 ts44 rfl rfl fun w10 u11 r=>?_;have Z10:=u11.size
 have H1:=u11.at_;obtain ⟨hB,zB⟩:=u11.on hB kw
 exact wn (wp_ret (kR r hr9 rfl rfl H1 rfl ta44 hF hB u11 kw kw kw))
def D.lO (j:Nat) (c0:Int) (c1:Plan) (c2:Int) (c3:(Int→T Int)) (a0:Int):T Int:=(bif (a0 !=(-1)) then (D.cJ c0) else (T.bind (D.eG j c1 c2) (fun x=>(D.ou c1 c2 c0 c3 x))))
theorem Ae (hF:kH F w0) (hj:n<j)
    (c0:Int) {c0b:Nat} (c0F:F c0b) (c0h:w0.heap[c0b]?=some (.cells ([(.int .i64 c0)]).toArray 3 (0,0))) (c1:Plan) {c1b:Nat} (c1F:F c1b) (c1h:w0.heap[c1b]?=some (.cells ((ae c1)).toArray 23 (0,0))) (c2:Int) {c2b:Nat} (c2F:F c2b) (c2h:w0.heap[c2b]?=some (.cells ([(.int .i64 c2)]).toArray 3 (0,0))) {c3f:FuncId} {c3_1 c3_2:List Value} {c3:(Int→T Int)} {c3b:Nat} (c3F:F c3b) (c3h:w0.heap[c3b]?=some (.cells #[.func (.func c3f) c3_1.toArray c3_2.toArray] 280 (0,0))) (c3n:FnT Tryz.prog ak i64 (n+1) F w0 (.func (.func c3f) c3_1.toArray c3_2.toArray) c3) (a0:Int) :
    Calls Tryz.prog 273 #[.int .i64 a0,zp c0b,zp c1b,zp c2b,zp c3b] w0 (aC Tryz.prog ak n (D.lO j c0 c1 c2 c3 a0) F w0):=by
 refine kN Tryz.func273 rfl 16 rfl rfl fun fr r hB=>?_;have lc0b:=lt_of_block c0h
 have lc1b:=lt_of_block c1h;have lc2b:=lt_of_block c2h;have lc3b:=lt_of_block c3h;refine wsr ?_;refine ai (.cells (af false ak.zero 0 0 0 0 .nilFunc) 44 (0,0)) r (fun R=>ah tz44) rfl fun fr b1 w2 n3 r=>?_;obtain ⟨E1,Z2,H1,hB,zB⟩:=n3.all hB
 refine wn (wp_seq (wsr (kM (I a0) r rfl rfl fun r=>kB r rfl rfl rfl rfl rfl fun r=>wn ?_)));refine wp_cond_split (t:=(a0 !=(-1))) (r.ev rfl) (fun h4=>?_) (fun h4=>?_)
 ·
  refine wsr (kL (I c0) r rfl (keep hB c0h) to3 rfl rfl fun r=>?_);have hF1:=aO hF hB b1
  refine kD r (eB (F:=(kW F w0 w2 b1)) (n:=n) hF1 c0) rfl eM rfl fun w5 v6 hb hr7 r=>?_;have Z5:=hb.size
  have H1:=keep hb H1;obtain ⟨hB,zB⟩:=bon hb hB;refine kP r hr7.shape rfl rfl H1 ts44 rfl rfl fun w8 u9 r=>?_;have Z8:=u9.size
  have H1:=u9.at_;obtain ⟨hB,zB⟩:=u9.on hB kw
  refine wn (wp_ret ?_);have hd:D.lO j c0 c1 c2 c3 a0=(D.cJ c0):=(az h4).trans (rfl);have hs:=hr7.shape.cells;refine ar r rfl rfl H1 (k:=7) hs.1 ta44 ?_;rw [←hs.2.2,hd];exact rfin hF hB hr7 u9 kw kw kw
 refine wp_skip (wsr (kG (ae c1) 6 r rfl (keep hB c1h) ta23 rfl rfl fun r=>kL (I c2) r rfl (keep hB c2h) to3 rfl rfl fun r=>?_));have hF1:=aO hF hB b1
 refine kD r (sV (j:=j) (F:=(kW F w0 w2 b1)) (n:=n) hF1 kw c1 c2) rfl wG rfl fun w10 v11 hb hr12 r=>?_;have Z10:=hb.size
 have H1:=keep hb H1;obtain ⟨hB,zB⟩:=bon hb hB;refine ac (.func (.func 274) #[] #[zp c1b,zp c2b,zp c0b,zp c3b]) r (fun R=>aU r rfl) rfl fun fr r=>?_;have hF1:=aO hF hB b1
 have f13:((kW F w0 w10 b1)) c1b:=(.inl c1F);have f14:((kW F w0 w10 b1)) c2b:=(.inl c2F);have f15:((kW F w0 w10 b1)) c0b:=(.inl c0F);have f16:((kW F w0 w10 b1)) c3b:=(.inl c3F);refine kD r (nJ (F:=(kW F w0 w10 b1)) (n:=n) hF1 (Rep.mono (by rintro b (h | h); (rcases h with h | ⟨h1,h2,h3⟩; exact .inl h; exact .inr ⟨h1,kw,h3⟩); exact .inr ⟨kw,kw,kw⟩) (Same.refl _ _) kw n _ _ hr12) ⟨274,[],[zp c1b,zp c2b,zp c0b,zp c3b],DX,rfl,fun m hm x w' hs hz=>zu (fun b hb=>Nat.lt_of_lt_of_le (hF1 b hb) hz) c1 f13 (hs.at_ f13 (keep hB c1h)) c2 f14 (hs.at_ f14 (keep hB c2h)) c0 f15 (hs.at_ f15 (keep hB c0h)) f16 (hs.at_ f16 (keep hB c3h)) (c3n.mono kw (fun b h=>.inl h) ((Same.below hB hF).trans (hs.sub (fun b h=>.inl h))) (Nat.le_trans hB.size hz)) x⟩) rfl kq rfl fun w17 v18 hb hr19 r=>?_
 have Z17:=hb.size;have H1:=keep hb H1;obtain ⟨hB,zB⟩:=bon hb hB;refine kP r hr19.shape rfl rfl H1 ts44 rfl rfl fun w20 u21 r=>?_;have Z20:=u21.size
 have H1:=u21.at_;obtain ⟨hB,zB⟩:=u21.on hB kw
 refine wn (wp_ret ?_);have hd:D.lO j c0 c1 c2 c3 a0=(T.bind (D.eG j c1 c2) (fun x=>(D.ou c1 c2 c0 c3 x))):=(aB h4).trans (rfl)
 have hs:=hr19.shape.cells;refine ar r rfl rfl H1 (k:=7) hs.1 ta44 ?_;rw [←hs.2.2,hd];exact rfin hF hB hr19 u21 kw kw kw
def D.tA (j:Nat) (a0:Plan) (a1:Int) (a2:Int):T Int:=(T.bind (D.iG a0 a1 a2) (fun x=>(D.lO j a2 a0 a1 (fun x=>(D.jy a2 x)) x)))
theorem AE (hF:kH F w0) (hj:n<j)
    (a0:Plan) (a1:Int) (a2:Int) :
    Calls Tryz.prog 170 #[.agg (ae a0).toArray,.int .i64 a1,.int .i64 a2] w0 (aC Tryz.prog ak n (D.tA j a0 a1 a2) F w0):=by
 refine kN Tryz.func170 rfl 15 rfl rfl fun fr r hB=>?_;refine wsr ?_
 refine kX 23 (.agg (ae a0).toArray) r rfl rfl fun b1 w2 n3 r=>?_;obtain ⟨E1,Z2,H1,hB,zB⟩:=n3.all hB
 refine kX 3 (I a1) r rfl rfl fun b4 w5 n6 r=>?_;have H1:=keep n6.below H1
 obtain ⟨E4,Z5,H4,hB,zB⟩:=n6.all hB;refine kX 3 (I a2) r rfl rfl fun b7 w8 n9 r=>?_;have H1:=keep n9.below H1
 have H4:=keep n9.below H4;obtain ⟨E7,Z8,H7,hB,zB⟩:=n9.all hB;refine ai (.cells (af false ak.zero 0 0 0 0 .nilFunc) 44 (0,0)) r (fun R=>ah tz44) rfl fun fr b10 w11 n12 r=>?_;have H1:=keep n12.below H1
 have H4:=keep n12.below H4;have H7:=keep n12.below H7;obtain ⟨E10,Z11,H10,hB,zB⟩:=n12.all hB;refine wn (wsr (ac (.func (.func 270) #[] #[zp b7]) r (fun R=>aU r rfl) rfl fun fr r=>?_));refine ai (.cells #[.nilFunc] 280 (0,0)) r (fun R=>ah Fa) rfl fun fr b13 w14 n15 r=>?_
 have H1:=keep n15.below H1;have H4:=keep n15.below H4;have H7:=keep n15.below H7;have H10:=keep n15.below H10;obtain ⟨E13,Z14,H13,hB,zB⟩:=n15.all hB;refine bh (.cells #[.func (.func 270) #[] #[zp b7]] 280 (0,0)) r (fun R=>aT r (o:=0) (v:=(.func (.func 270) #[] #[zp b7])) rfl rfl H13 EX (Nat.le_of_ble_eq_true rfl) rfl rfl) rfl fun fr w16 u17 r=>?_;have Z16:=u17.size
 have H1:=u17.keep H1 kw
 have H4:=u17.keep H4 kw
 have H7:=u17.keep H7 kw
 have H10:=u17.keep H10 kw
 have H13:=u17.at_;obtain ⟨hB,zB⟩:=u17.on hB kw
 refine wn (wsr (kG (ae a0) 6 r rfl H1 ta23 rfl rfl fun r=>kL (I a1) r rfl H4 to3 rfl rfl fun r=>kL (I a2) r rfl H7 to3 rfl rfl fun r=>?_));have hF1:=aO hF hB b10
 refine kD r (tr (F:=(kW F w0 w16 b10)) (n:=n) hF1 a0 a1 a2) rfl xy rfl fun w18 v19 hb hr20 r=>?_;have Z18:=hb.size
 have H1:=keep hb H1;have H4:=keep hb H4;have H7:=keep hb H7;have H10:=keep hb H10;have H13:=keep hb H13;obtain ⟨hB,zB⟩:=bon hb hB;refine ac (.func (.func 273) #[] #[zp b7,zp b1,zp b4,zp b13]) r (fun R=>aU r rfl) rfl fun fr r=>?_;have hF1:=aO hF hB b10
 have f21:((kW F w0 w18 b10)) b7:=(.inr ⟨kw,kw,kw⟩)
 have f22:((kW F w0 w18 b10)) b1:=(.inr ⟨kw,kw,kw⟩)
 have f23:((kW F w0 w18 b10)) b4:=(.inr ⟨kw,kw,kw⟩)
 have f24:((kW F w0 w18 b10)) b13:=(.inr ⟨kw,kw,kw⟩)
 have f26:((kW F w0 w18 b10)) b7:=(.inr ⟨kw,kw,kw⟩)
 have q25:FnT Tryz.prog ak i64 (n+1) (kW F w0 w18 b10) w18 (.func (.func 270) #[] #[zp b7]) (fun x=>(D.jy a2 x)):=⟨270,[],[zp b7],Dx,rfl,fun m hm x w' hs hz=>zS (fun b hb=>Nat.lt_of_lt_of_le (hF1 b hb) hz) a2 f26 (hs.at_ f26 H7) x⟩
 refine kD r (nJ (F:=(kW F w0 w18 b10)) (n:=n) hF1 (Rep.mono (by rintro b (h | h); (rcases h with h | ⟨h1,h2,h3⟩; exact .inl h; exact .inr ⟨h1,kw,h3⟩); exact .inr ⟨kw,kw,kw⟩) (Same.refl _ _) kw n _ _ hr20) ⟨273,[],[zp b7,zp b1,zp b4,zp b13],Ey,rfl,fun m hm x w' hs hz=>Ae (j:=j) (fun b hb=>Nat.lt_of_lt_of_le (hF1 b hb) hz) kw a2 f21 (hs.at_ f21 H7) a0 f22 (hs.at_ f22 H1) a1 f23 (hs.at_ f23 H4) f24 (hs.at_ f24 H13) (q25.mono kw (fun b h=>h) hs hz) x⟩) rfl kq rfl fun w27 v28 hb hr29 r=>?_
 have Z27:=hb.size;have H1:=keep hb H1;have H4:=keep hb H4;have H7:=keep hb H7;have H10:=keep hb H10;have H13:=keep hb H13;obtain ⟨hB,zB⟩:=bon hb hB;refine kP r hr29.shape rfl rfl H10 ts44 rfl rfl fun w30 u31 r=>?_;have Z30:=u31.size
 have H1:=u31.keep H1 kw
 have H4:=u31.keep H4 kw
 have H7:=u31.keep H7 kw
 have H13:=u31.keep H13 kw
 have H10:=u31.at_;obtain ⟨hB,zB⟩:=u31.on hB kw
 exact wn (wp_ret (kR r hr29 rfl rfl H10 rfl ta44 hF hB u31 kw kw kw))
def D.si (j:Nat) (c0:Plan) (c1:Int) (c2:Int):T Int:=(D.tA j c0 c1 c2)
theorem zi (hF:kH F w0) (hj:n<j)
    (c0:Plan) {c0b:Nat} (c0F:F c0b) (c0h:w0.heap[c0b]?=some (.cells ((ae c0)).toArray 23 (0,0))) (c1:Int) {c1b:Nat} (c1F:F c1b) (c1h:w0.heap[c1b]?=some (.cells ([(.int .i64 c1)]).toArray 3 (0,0))) (c2:Int) {c2b:Nat} (c2F:F c2b) (c2h:w0.heap[c2b]?=some (.cells ([(.int .i64 c2)]).toArray 3 (0,0))) :
    Calls Tryz.prog 169 #[zp c0b,zp c1b,zp c2b] w0 (aC Tryz.prog ak n (D.si j c0 c1 c2) F w0):=by
 refine kN Tryz.func169 rfl 8 rfl rfl fun fr r hB=>?_;have lc0b:=lt_of_block c0h
 have lc1b:=lt_of_block c1h;have lc2b:=lt_of_block c2h;refine wsr ?_;refine ai (.cells (af false ak.zero 0 0 0 0 .nilFunc) 44 (0,0)) r (fun R=>ah tz44) rfl fun fr b1 w2 n3 r=>?_;obtain ⟨E1,Z2,H1,hB,zB⟩:=n3.all hB
 refine wn (wsr (kG (ae c0) 6 r rfl (keep hB c0h) ta23 rfl rfl fun r=>kL (I c1) r rfl (keep hB c1h) to3 rfl rfl fun r=>kL (I c2) r rfl (keep hB c2h) to3 rfl rfl fun r=>?_));have hF1:=aO hF hB b1
 refine kD r (AE (j:=j) (F:=(kW F w0 w2 b1)) (n:=n) hF1 kw c0 c1 c2) rfl Dt rfl fun w4 v5 hb hr6 r=>?_;have Z4:=hb.size
 have H1:=keep hb H1;obtain ⟨hB,zB⟩:=bon hb hB;refine kP r hr6.shape rfl rfl H1 ts44 rfl rfl fun w7 u8 r=>?_;have Z7:=u8.size
 have H1:=u8.at_;obtain ⟨hB,zB⟩:=u8.on hB kw
 exact wn (wp_ret (kR r hr6 rfl rfl H1 rfl ta44 hF hB u8 kw kw kw))
def D.sB (j:Nat) (c0:Plan) (c1:Int) (c2:Int) (a0:Int):T Int:=(D.dQ (D.cH c0 c1) (D.cg (D.fL ((D.aQ a0).1))) (fun _=>(D.si j c0 c2 c1)))
theorem zN (hF:kH F w0) (hj:n<j)
    (c0:Plan) {c0b:Nat} (c0F:F c0b) (c0h:w0.heap[c0b]?=some (.cells ((ae c0)).toArray 23 (0,0))) (c1:Int) {c1b:Nat} (c1F:F c1b) (c1h:w0.heap[c1b]?=some (.cells ([(.int .i64 c1)]).toArray 3 (0,0))) (c2:Int) {c2b:Nat} (c2F:F c2b) (c2h:w0.heap[c2b]?=some (.cells ([(.int .i64 c2)]).toArray 3 (0,0))) (a0:Int) :
    Calls Tryz.prog 165 #[.int .u64 a0,zp c0b,zp c1b,zp c2b] w0 (aC Tryz.prog ak n (D.sB j c0 c1 c2 a0) F w0):=by
 refine kN Tryz.func165 rfl 21 rfl rfl fun fr r hB=>?_;have lc0b:=lt_of_block c0h
 have lc1b:=lt_of_block c1h;have lc2b:=lt_of_block c2h;refine wsr ?_;refine ai (.cells (af false ak.zero 0 0 0 0 .nilFunc) 44 (0,0)) r (fun R=>ah tz44) rfl fun fr b1 w2 n3 r=>?_;obtain ⟨E1,Z2,H1,hB,zB⟩:=n3.all hB
 refine wn (wsr (kM (U a0) r rfl rfl fun r=>?_));refine kE r (jJ w2 a0) rfl cl63 rfl fun w4 hb r=>?_
 have Z4:=hb.size;have H1:=keep hb H1;obtain ⟨hB,zB⟩:=bon hb hB;refine kM (.tuple #[(.agg (aH (D.aQ a0).1).toArray),(.bool (D.aQ a0).2)]) r rfl rfl fun r=>ac (.agg (aH (D.aQ a0).1).toArray) r (fun R=>bM r (vs:=#[(.agg (aH (D.aQ a0).1).toArray),(.bool (D.aQ a0).2)]) rfl rfl) rfl fun fr r=>ac (.bool (D.aQ a0).2) r (fun R=>bM r (vs:=#[(.agg (aH (D.aQ a0).1).toArray),(.bool (D.aQ a0).2)]) rfl rfl) rfl fun fr r=>?_;refine ai (.cells ((aH (⟨0,0,0⟩:State))).toArray 137 (0,0)) r (fun R=>ah fG) rfl fun fr b5 w6 n7 r=>?_
 have H1:=keep n7.below H1;obtain ⟨E5,Z6,H5,hB,zB⟩:=n7.all hB;refine bh (.cells ((aH ((D.aQ a0).1))).toArray 137 (0,0)) r (fun R=>aT r (o:=0) (v:=(.agg (aH (D.aQ a0).1).toArray)) rfl rfl H5 ep (Nat.le_of_ble_eq_true rfl) rfl rfl) rfl fun fr w8 u9 r=>?_;have Z8:=u9.size
 have H1:=u9.keep H1 kw
 have H5:=u9.at_;obtain ⟨hB,zB⟩:=u9.on hB kw
 refine kA (.bool (D.aQ a0).2) r rfl rfl fun r=>wn (wp_seq ?_);refine bI 7 [.val (.agg (ae c0).toArray),.val (I c1),.val (I (D.cH c0 c1)),.val (.agg (aH (D.aQ a0).1).toArray),.val (.agg (aH (D.fL ((D.aQ a0).1))).toArray),.val (U (D.cg (D.fL ((D.aQ a0).1)))),.val (.func (.func 169) #[] #[zp c0b,zp c2b,zp c1b])] mixed r kz (kV (kV (kV (kV (kV (kV (kV bH))))))) ?_ ?_
 ·
  refine ec r (fun _ u _ b d s=>aS s (cs:=(ae c0)) (n:=6) rfl (bY hB b c0h) ta23 rfl bz) (ec r (fun _ u _ b d s=>av s rfl (bY hB b c1h) to3 rfl bz) (ec r (fun fr1 u w' hb' hd r'=>aJ r' (args:=[(.agg (ae c0).toArray),(I c1)]) (lc hd.1 (lc hd.2.1 l0)) cl64 ((ib _ c0 c1).mono (by rintro _ w2 ⟨rfl,hb2⟩; exact ⟨_,rfl,hb2,rfl⟩))) (ec r (fun _ u _ b d s=>aS s (cs:=(aH ((D.aQ a0).1))) (n:=3) rfl (keep b H5) dG rfl bz) (ec r (fun fr1 u w' hb' hd r'=>aJ r' (args:=[(.agg (aH (D.aQ a0).1).toArray)]) (lc hd.1 l0) Fs ((yC _ ((D.aQ a0).1)).mono (by rintro _ w2 ⟨rfl,hb2⟩; exact ⟨_,rfl,hb2,rfl⟩))) (ec r (fun fr1 u w' hb' hd r'=>aJ r' (args:=[(.agg (aH (D.fL ((D.aQ a0).1))).toArray)]) (lc hd.1 l0) qz ((jb _ (D.fL ((D.aQ a0).1))).mono (by rintro _ w2 ⟨rfl,hb2⟩; exact ⟨_,rfl,hb2,rfl⟩))) (ec r (fun _ u _ b d s=>aU s (v:=(.func (.func 169) #[] #[zp c0b,zp c2b,zp c1b])) rfl bz) ?_))))));exact bJ
 intro fr u w10 hb hΦ hne r;have r:=r.congr (sc (hΦ 6 ke) (sc (hΦ 5 ke) (sc (hΦ 4 ke) (sc (hΦ 3 ke) (sc (hΦ 2 ke) (sc (hΦ 1 ke) (sc (hΦ 0 ke) rfl)))))));have Z10:=hb.size;have H1:=keep hb H1;have H5:=keep hb H5;obtain ⟨hB,zB⟩:=bon hb hB;have hF1:=aO hF hB b1;have f11:((kW F w0 w10 b1)) c0b:=(.inl c0F);have f12:((kW F w0 w10 b1)) c2b:=(.inl c2F);have f13:((kW F w0 w10 b1)) c1b:=(.inl c1F);refine kD r (fN (F:=(kW F w0 w10 b1)) (n:=n) hF1 (D.cH c0 c1) (D.cg (D.fL ((D.aQ a0).1))) ⟨169,[],[zp c0b,zp c2b,zp c1b],FQ,rfl,fun m hm _ w' hs hz=>zi (j:=j) (fun b hb=>Nat.lt_of_lt_of_le (hF1 b hb) hz) kw c0 f11 (hs.at_ f11 (keep hB c0h)) c2 f12 (hs.at_ f12 (keep hB c2h)) c1 f13 (hs.at_ f13 (keep hB c1h))⟩) rfl gy rfl fun w14 v15 hb hr16 r=>?_;have Z14:=hb.size
 have H1:=keep hb H1;have H5:=keep hb H5;obtain ⟨hB,zB⟩:=bon hb hB;refine kP r hr16.shape rfl rfl H1 ts44 rfl rfl fun w17 u18 r=>?_;have Z17:=u18.size
 have H5:=u18.keep H5 kw
 have H1:=u18.at_;obtain ⟨hB,zB⟩:=u18.on hB kw
 exact wn (wp_ret (kR r hr16 rfl rfl H1 rfl ta44 hF hB u18 kw kw kw))
def D.fT (j:Nat) (a0:Plan) (a1:Int) (a2:Int):T Int:=(D.dx (D.cH a0 a2) (fun x=>(D.sB j a0 a2 a1 x)))
theorem sM (hF:kH F w0) (hj:n<j)
    (a0:Plan) (a1:Int) (a2:Int) :
    Calls Tryz.prog 82 #[.agg (ae a0).toArray,.int .i64 a1,.int .i64 a2] w0 (aC Tryz.prog ak n (D.fT j a0 a1 a2) F w0):=by
 refine kN Tryz.func82 rfl 12 rfl rfl fun fr r hB=>?_;refine wsr ?_
 refine kX 23 (.agg (ae a0).toArray) r rfl rfl fun b1 w2 n3 r=>?_;obtain ⟨E1,Z2,H1,hB,zB⟩:=n3.all hB
 refine kX 3 (I a1) r rfl rfl fun b4 w5 n6 r=>?_;have H1:=keep n6.below H1
 obtain ⟨E4,Z5,H4,hB,zB⟩:=n6.all hB;refine kX 3 (I a2) r rfl rfl fun b7 w8 n9 r=>?_;have H1:=keep n9.below H1
 have H4:=keep n9.below H4;obtain ⟨E7,Z8,H7,hB,zB⟩:=n9.all hB;refine ai (.cells (af false ak.zero 0 0 0 0 .nilFunc) 44 (0,0)) r (fun R=>ah tz44) rfl fun fr b10 w11 n12 r=>?_;have H1:=keep n12.below H1
 have H4:=keep n12.below H4;have H7:=keep n12.below H7;obtain ⟨E10,Z11,H10,hB,zB⟩:=n12.all hB;refine wn (wsr (kG (ae a0) 6 r rfl H1 ta23 rfl rfl fun r=>kL (I a2) r rfl H7 to3 rfl rfl fun r=>?_));refine kE r (ib w11 a0 a2) rfl cl64 rfl fun w13 hb r=>?_
 have Z13:=hb.size;have H1:=keep hb H1;have H4:=keep hb H4;have H7:=keep hb H7;have H10:=keep hb H10;obtain ⟨hB,zB⟩:=bon hb hB;refine ac (.func (.func 165) #[] #[zp b1,zp b7,zp b4]) r (fun R=>aU r rfl) rfl fun fr r=>?_;have hF1:=aO hF hB b10
 have f14:((kW F w0 w13 b10)) b1:=(.inr ⟨kw,kw,kw⟩)
 have f15:((kW F w0 w13 b10)) b7:=(.inr ⟨kw,kw,kw⟩)
 have f16:((kW F w0 w13 b10)) b4:=(.inr ⟨kw,kw,kw⟩)
 refine kD r (fj (F:=(kW F w0 w13 b10)) (n:=n) hF1 (D.cH a0 a2) ⟨165,[],[zp b1,zp b7,zp b4],FU,rfl,fun m hm x w' hs hz=>zN (j:=j) (fun b hb=>Nat.lt_of_lt_of_le (hF1 b hb) hz) kw a0 f14 (hs.at_ f14 H1) a2 f15 (hs.at_ f15 H7) a1 f16 (hs.at_ f16 H4) x⟩) rfl fF rfl fun w17 v18 hb hr19 r=>?_;have Z17:=hb.size
 have H1:=keep hb H1;have H4:=keep hb H4;have H7:=keep hb H7;have H10:=keep hb H10;obtain ⟨hB,zB⟩:=bon hb hB;refine kP r hr19.shape rfl rfl H10 ts44 rfl rfl fun w20 u21 r=>?_;have Z20:=u21.size
 have H1:=u21.keep H1 kw
 have H4:=u21.keep H4 kw
 have H7:=u21.keep H7 kw
 have H10:=u21.at_;obtain ⟨hB,zB⟩:=u21.on hB kw
 exact wn (wp_ret (kR r hr19 rfl rfl H10 rfl ta44 hF hB u21 kw kw kw))
end
end Go.Proofs.YtikjpdpgdmbdpaaGreat

/- Ours. -/
set_option maxRecDepth 20000
set_option maxHeartbeats 2000000
namespace Go.Proofs.YtikjpdpgdmbdpaaGreat
open Go.RowKit
theorem cl17:ag Tryz.prog 17:=kz
theorem cl74:ag Tryz.prog 74:=kz
theorem qu:aZ Tryz.prog 35 0 0:=kz
theorem vQ:aZ Tryz.prog 35 2 2:=kz
theorem to33:tyO Tryz.prog 33:=kz
theorem ts23:sized Tryz.prog 23 6:=kz
theorem tz23:zeroOf Tryz.prog 23=some (.agg (ae (⟨0,0,0,0,0,0⟩:Plan)).toArray):=kz
theorem Bx {at_:Int} {f:Int→T Grant} {ws ws':List Int} {n:Nat} {r:Grant} (h0:0≤at_) (h1:at_<ws.length) (h:Runs (f (rd ws at_)) ws n r ws'):Runs (D.ol at_ f) ws (n+1) r ws':=Runs.load h0 h1 h
theorem Bg {at_ w:Int} {f:Unit→T Grant} {ws ws':List Int} {n:Nat} {r:Grant} (h0:0≤at_) (h1:at_<ws.length) (h:Runs (f ()) (ws.set at_.toNat w) n r ws'):Runs (D.o4 at_ w f) ws (n+1) r ws':=Runs.store h0 h1 h
def sp (p:Plan) (n:Int):Int:=D.aM p+n * 5
section
variable {p : Plan} (hp : PF p) {n : Int} (hn : 0 ≤ n ∧ n < p.nodes)
include hp hn
theorem ku:0<sp p n∧sp p n+5≤D.bG p∧D.cH p n=sp p n:=by
  have hN:=cE hp;have hS:=eY hp;refine ⟨by unfold sp; omega,by unfold sp; omega,by rw [qI hp hn]; rfl⟩
end
theorem SF.live {s:State} (h:SF s) {k:Int} (hk:0≤k∧k≤2):SF (D.du s k):=⟨h.g0,h.g1,by show (0:Int)≤1; omega,by show (1:Int)≤3; omega,hk.1,hk.2⟩
theorem SF.retire {s:State} (h:SF s):SF (D.fL s):=⟨h.g0,h.g1,by show (0:Int)≤2; omega,by show (2:Int)≤3; omega,h.k0,h.k1⟩
theorem SF.freed {s:State} (h:SF s) {m:Int} (hm:m≤1073741823):SF (D.bv s m):=by
  unfold D.bv;have:=h.g0;have:=h.g1
  by_cases e:s.gen≥m
  · rw [show decide (s.gen≥m)=true from by simpa using e]
    exact ⟨h.g0,h.g1,by show (0:Int)≤3; omega,by show (3:Int)≤3; omega,by show (0:Int)≤0; omega,by show (0:Int)≤2; omega⟩
  · rw [show decide (s.gen≥m)=false from by simpa using e]
    simp only [cond_false]
    rw [bq (x:=s.gen+1) kw kw]
    exact ⟨by show 0≤s.gen+1; omega,by show s.gen+1≤_; omega,by show (0:Int)≤0; omega,by show (0:Int)≤3; omega,by show (0:Int)≤0; omega,by show (0:Int)≤2; omega⟩
def StAt (p:Plan) (ws:List Int) (n:Int) (s:State):Prop:=rd ws (sp p n)=D.cg s∧SF s
theorem StAt.of {p:Plan} {ws:List Int} {n:Int} {s:State} (h:StAt p ws n s):D.aQ (rd ws (sp p n))=(s,true):=by rw [h.1]; exact CI h.2
theorem BG {p:Plan} (hp:PF p) {ws:List Int} {n k:Int} {s:State} (hn:0≤n∧n<p.nodes) (hl:Len p ws) (hs:StAt p ws n s) :
    Runs (D.eV p n k) ws 2 ⟨n,s.gen,0⟩ (ws.set (sp p n).toNat (D.cg (D.du s k))):=by
  obtain ⟨q1,q2,q3⟩:=ku hp hn;unfold Len at hl
  unfold D.eV;rw [q3];refine Bx kw kw ?_;unfold D.oK;rw [hs.of,q3];exact Bg kw kw (.done _ _)
theorem ub {p:Plan} (hp:PF p) {ws:List Int} {n k:Int} {l:List Int} {g:Int} {s:State} (hF:FreeAt p ws (n::l) g) (hnn:p.nodes≤1000000) (hg:g<1000000) (hs:StAt p ws n s) (hk:0≤k∧k≤2) (J:Nat) {G:Int→T Grant} (hG:G n=D.eV p n k) :
    ∃ ws',Runs (T.bind (D.cB (J+1) p) G) ws 5 ⟨n,s.gen,0⟩ ws'∧ws'.length=ws.length∧FreeAt p ws' l (g+1)∧StAt p ws' n (D.du s k)∧∀ j,0<j→j≠sp p n→rd ws' j=rd ws j:=by
  have hn:=hF.range n (List.mem_cons_self ..);obtain ⟨q1,q2,q3⟩:=ku hp hn;obtain ⟨hr,hF2⟩:=Cj hp hF hnn hg J;have hN:=cE hp;have hl:=hF.len;have hl2:=hF2.len;have hs0:=hs.1
  generalize hu:ws.set (0:Int).toNat ((g+1) * 2097152+first l)=u at hr hF2 hl2
  have hul:u.length=ws.length:=by rw [←hu,List.length_set]
  have hur:∀ j,0<j→rd u j=rd ws j:=fun j hj=>by rw [←hu,cn kw kw kw,if_neg kw]
  have hsu:StAt p u n s:=⟨by rw [hur _ q1]; exact hs0,hs.2⟩
  have hg2:=BG hp (k:=k) hn hl2 hsu;refine ⟨u.set (sp p n).toNat (D.cg (D.du s k)),?_,by rw [List.length_set,hul],?_,⟨?_,hs.2.live hk⟩,fun j hj hne=>?_⟩
  · exact (Runs.bind (g:=G) hr (by rw [hG]; exact hg2)).cast (show 3+2=5 from rfl)
  · refine hF2.keep (by rw [List.length_set]) ?_ fun m hm=>?_
    · rw [cn kw kw kw,if_neg kw]
    · have hmr:=hF2.range m hm
      have:nx p m≠sp p n:=by unfold nx sp; omega
      rw [cn kw kw (by unfold nx; omega),if_neg this]
  · rw [cn kw kw kw,if_pos rfl]
  · rw [cn kw kw kw,if_neg hne,hur j hj]
theorem qd {p:Plan} (hp:PF p) {ws:List Int} {n k t:Int} {l:List Int} {g:Int} {s:State} (hF:FreeAt p ws (n::l) g) (hnn:p.nodes≤1000000) (hg:g<1000000) (hs:StAt p ws n s) (hk:0≤k∧k≤2) (J:Nat) :
    ∃ ws',Runs (D.ee (J+1) p t k) ws 5 ⟨n,s.gen,0⟩ ws'∧ws'.length=ws.length∧FreeAt p ws' l (g+1)∧StAt p ws' n (D.du s k)∧∀ j,0<j→j≠sp p n→rd ws' j=rd ws j:=by
  have hn:=hF.range n (List.mem_cons_self ..);refine ub hp hF hnn hg hs hk J (G:=fun x=>D.eU (J+1) p k t (fun x=>D.dh p k x) x) ?_
  unfold D.eU;rw [show (n !=-1)=true from by simp; omega]
  rfl
theorem tQ {p:Plan} (hp:PF p) {ws:List Int} {k g:Int} (hF:FreeAt p ws [] g) (hg:g<1000000) (J:Nat):Runs (T.bind (D.cB (J+1) p) (fun x=>D.dh p k x)) ws 1 ⟨-1,0,4⟩ ws:=
  (Runs.bind (g:=fun x=>D.dh p k x) (pS hp hF hg J) (.done _ _)).cast (show 1+0=1 from rfl)
theorem tN {p:Plan} (hp:PF p) {ws:List Int} {n k:Int} {l:List Int} {g:Int} {s:State} (hF:FreeAt p ws (n::l) g) (hnn:p.nodes≤1000000) (hg:g<1000000) (hs:StAt p ws n s) (hk:0≤k∧k≤2) (J:Nat) :
    ∃ ws',Runs (T.bind (D.cB (J+1) p) (fun x=>D.dh p k x)) ws 5 ⟨n,s.gen,0⟩ ws'∧ws'.length=ws.length∧FreeAt p ws' l (g+1)∧StAt p ws' n (D.du s k)∧∀ j,0<j→j≠sp p n→rd ws' j=rd ws j:=by
  have hn:=hF.range n (List.mem_cons_self ..);refine ub hp hF hnn hg hs hk J (G:=fun x=>D.dh p k x) ?_
  unfold D.dh;rw [show (n==-1)=false from by simp; omega]
  rfl
theorem Cu:D.cg ⟨0,0,0⟩=0:=by rw [uT ⟨ke,ke,ke,ke,ke,ke⟩]; rfl
theorem tW {p:Plan} (hp:PF p) {ws:List Int} (h:LaidAt p ws) {n:Int} (hn:0≤n∧n<p.nodes):StAt p ws n ⟨0,0,0⟩:=by
  obtain ⟨q1,q2,q3⟩:=ku hp hn;refine ⟨?_,ke,ke,ke,ke,ke,ke⟩
  rw [Cu]
  exact h.zero _ q1 fun m _ _=>by unfold sp; omega
theorem uK {p:Plan} (hp:PF p) {ws:List Int} (h:LaidAt p ws) {t:Int} (ht:0≤t∧t<p.threads):RetAt p ws t []:=by
  obtain ⟨q1,q2,q3⟩:=cG hp ht;have hr1:=hp.r1;have ht1:=hp.t1;exact ⟨h.zero _ q3 fun m _ _=>kw,by simp; omega,fun i hi=>(by cases hi),fun _ h=>(by cases h)⟩
structure GrantI (p:Plan) (k:Int) (i:Nat) (ws:List Int):Prop where
  free:FreeAt p ws ((List.range' i (p.nodes.toNat - i)).map fun (q:Nat)=>(q:Int)) i
  ret:RetAt p ws 0 []
  live:∀ n:Int,0≤n→n<i→StAt p ws n ⟨0,1,k⟩
  rest:∀ n:Int,i≤n→n<p.nodes→StAt p ws n ⟨0,0,0⟩
theorem GrantI.start {p:Plan} (hp:PF p) {ws:List Int} (h:LaidAt p ws) (k:Int):GrantI p k 0 ws:=by
  have hn1:=hp.n1;have ht1:=hp.t1;exact ⟨uj hp h,uK hp h ⟨kw,kw⟩,fun n h0 h1=>kw,fun n h0 h1=>tW hp h ⟨kw,h1⟩⟩
theorem GrantI.step {p:Plan} (hp:PF p) (hnn:p.nodes≤40) {k:Int} (hk:0≤k∧k≤2) {i:Nat} {ws:List Int} (h:GrantI p k i ws) (hi:(i:Int)<p.nodes) (J:Nat) :
    ∃ ws',Runs (D.ee (J+1) p 0 k) ws 5 ⟨i,0,0⟩ ws'∧GrantI p k (i+1) ws'∧∀ j,0<j→j<D.aM p→rd ws' j=rd ws j:=by
  have hN:=cE hp;have ht1:=hp.t1;obtain ⟨d,hd⟩:∃ d,p.nodes.toNat - i=d+1:=⟨p.nodes.toNat - i - 1,kw⟩
  have hF:=h.free;rw [hd,List.range'_succ,List.map_cons] at hF
  have hs:=h.rest i kw hi
  obtain ⟨ws',hr,hl,hF2,hst,ho⟩:=qd hp (t:=0) hF kw kw hs hk J;obtain ⟨p1,p2,p3⟩:=cG hp (t:=0) ⟨kw,kw⟩
  refine ⟨ws',hr,⟨?_,h.ret.keep fun j h0 h1=>ho j kw (by unfold sp; omega),fun n h0 h1=>?_,fun n h0 h1=>?_⟩,fun j h0 h1=>ho j h0 (by unfold sp; omega)⟩
  · rw [show p.nodes.toNat - (i+1)=d from by omega]
    exact hF2
  · by_cases e:n=(i:Int)
    · subst e; exact hst
    · have hv:=h.live n h0 kw
      exact ⟨by rw [ho _ (by unfold sp; omega) (by unfold sp; omega)]; exact hv.1,hv.2⟩
  · have hv:=h.rest n kw h1
    exact ⟨by rw [ho _ (by unfold sp; omega) (by unfold sp; omega)]; exact hv.1,hv.2⟩
end Go.Proofs.YtikjpdpgdmbdpaaGreat

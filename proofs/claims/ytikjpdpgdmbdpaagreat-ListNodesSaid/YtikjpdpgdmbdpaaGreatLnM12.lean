/- Some of our texts, one behind the other. -/
import Derived.Test.YtikjpdpgdmbdpaaGreatLnThens
import Derived.Test.YtikjpdpgdmbdpaaGreatLnM7
set_option linter.all false
/- Ours. -/
set_option maxRecDepth 20000
set_option maxHeartbeats 2000000
namespace Go.Proofs.YtikjpdpgdmbdpaaGreat
open Go.RowKit
section
variable {n : Nat} {F : Nat → Prop} {j : Nat} {w0 : World}
theorem ztU:zpd Tryz.prog 212:=kz
theorem zsx:zpd Tryz.prog 228:=kz
theorem zrn:zpd Tryz.prog 265:=kz
theorem zun:zpd Tryz.prog 268:=kz
theorem ztM:zpd Tryz.prog 329:=kz
theorem ztI:zpd Tryz.prog 330:=kz
theorem zux:zpd Tryz.prog 338:=kz
theorem zry:zpd Tryz.prog 339:=kz
theorem zsL:zpd Tryz.prog 341:=kz
theorem zuu:zpd Tryz.prog 410:=kz
theorem zsQ:tyO Tryz.prog 202:=kz
theorem zuc:tyO Tryz.prog 215:=kz
theorem zqq:tyO Tryz.prog 242:=kz
theorem ztn:tyO Tryz.prog 278:=kz
theorem zut:tyO Tryz.prog 289:=kz
def D.zfQ (c0:(Unit→T Unit)) (a0:Int):T Unit:=(c0 ())
theorem zi7 (hF:kH F w0)
    {c0f:FuncId} {c0_1 c0_2:List Value} {c0:(Unit→T Unit)} {c0b:Nat} (c0F:F c0b) (c0h:w0.heap[c0b]?=some (.cells #[.func (.func c0f) c0_1.toArray c0_2.toArray] 289 (0,0))) (c0n:FnT Tryz.prog zph unitE (n+1) F w0 (.func (.func c0f) c0_1.toArray c0_2.toArray) c0) (a0:Int) :
    Calls Tryz.prog 341 #[.int .u64 a0,zp c0b] w0 (zpl Tryz.prog zph n (D.zfQ c0 a0) F w0):=by
 refine kN Tryz.func341 rfl 6 rfl rfl fun fr r hB=>?_;have lc0b:=lt_of_block c0h
 refine wsr ?_;refine za7 (.cells (zpc false zph.zero 0 0 0 0 .nilFunc) 157 (0,0)) r (fun R=>za6 zq0) rfl fun fr b1 w2 n3 r=>?_;obtain ⟨eb1,zw2,hb1,hB,zB⟩:=n3.all hB
 refine wn (wsr (kL (.func (.func c0f) c0_1.toArray c0_2.toArray) r rfl (keep hB c0h) zut rfl rfl fun r=>?_));refine zbx r (c0n.at_.2 n (Nat.lt_succ_self n) () w2 (Same.below hB hF) hB.size) (fun R hc=>zgk r rfl c0n.at_.1 hc) rfl ?_
 rintro _ w4 ⟨v5,rfl,hb,hr6⟩;refine ⟨_,rfl,fun fr r=>?_⟩
 have zw4:=hb.size;have hb1:=keep hb hb1;obtain ⟨hB,zB⟩:=bon hb hB;refine kP r hr6.shape rfl rfl hb1 zpX rfl rfl fun w7 u8 r=>?_;have zw7:=u8.size
 have hb1:=u8.at_;obtain ⟨hB,zB⟩:=u8.on hB kw
 refine wn (wp_ret ?_);have hs:=hr6.shape.cells;refine za5 r rfl rfl hb1 (k:=6) hs.1 zpW ?_;rw [←hs.2.2];exact zpl.fin hB hr6 u8 (fun b hb=>.inl hb) (fun h=>by have:=hF _ h; omega) kw kw kw
def D.zeb (a0:Int) (a1:Int) (a2:(Unit→T Unit)):T Unit:=(D.zjh (⟨1,a0,a1,0⟩:Access) (fun x=>(D.zfQ a2 x)))
theorem zfM (hF:kH F w0)
    (a0:Int) (a1:Int) {a2f:FuncId} {a2_1 a2_2:List Value} {a2:(Unit→T Unit)} (a2n:FnT Tryz.prog zph unitE (n) F w0 (.func (.func a2f) a2_1.toArray a2_2.toArray) a2) :
    Calls Tryz.prog 265 #[.int .i64 a0,.int .u64 a1,.func (.func a2f) a2_1.toArray a2_2.toArray] w0 (zpl Tryz.prog zph n (D.zeb a0 a1 a2) F w0):=by
 refine kN Tryz.func265 rfl 12 rfl rfl fun fr r hB=>?_;refine wsr ?_
 refine kX 289 (.func (.func a2f) a2_1.toArray a2_2.toArray) r rfl rfl fun b1 w2 n3 r=>?_;obtain ⟨eb1,zw2,hb1,hB,zB⟩:=n3.all hB
 refine za7 (.cells (zpc false zph.zero 0 0 0 0 .nilFunc) 157 (0,0)) r (fun R=>za6 zq0) rfl fun fr b4 w5 n6 r=>?_;have hb1:=keep n6.below hb1
 obtain ⟨eb4,zw5,hb4,hB,zB⟩:=n6.all hB;refine wn (wsr (kM (I a0) r rfl rfl fun r=>kM (U a1) r rfl rfl fun r=>kU (.agg (zpq (⟨1,a0,a1,0⟩:Access)).toArray) r kz rfl fun r=>za0 (.func (.func 341) #[] #[zp b1]) r (fun R=>zae r rfl) rfl fun fr r=>?_));have hF1:=zpv hF hB b4
 have f7:((kW F w0 w5 b4)) b1:=(.inr ⟨kw,kw,kw⟩)
 refine kD r (zhP (F:=(kW F w0 w5 b4)) (n:=n) hF1 (⟨1,a0,a1,0⟩:Access) ⟨341,[],[zp b1],zsL,rfl,fun m hm x w' hs hz=>zi7 (fun b hb=>Nat.lt_of_lt_of_le (hF1 b hb) hz) f7 (hs.at_ f7 hb1) (a2n.mono kw (fun b h=>.inl h) ((Same.below hB hF).trans (hs.sub (fun b h=>.inl h))) (Nat.le_trans hB.size hz)) x⟩) rfl zrL rfl fun w8 v9 hb hr10 r=>?_;have zw8:=hb.size
 have hb1:=keep hb hb1;have hb4:=keep hb hb4;obtain ⟨hB,zB⟩:=bon hb hB;refine kP r hr10.shape rfl rfl hb4 zpX rfl rfl fun w11 u12 r=>?_;have zw11:=u12.size
 have hb1:=u12.keep hb1 kw
 have hb4:=u12.at_;obtain ⟨hB,zB⟩:=u12.on hB kw
 exact wn (wp_ret (kR r hr10 rfl rfl hb4 rfl zpW hF hB u12 kw kw kw))
def D.zkN :T Unit:=D.zet
theorem zlD (hF:kH F w0)
     :
    Calls Tryz.prog 338 #[] w0 (zpl Tryz.prog zph n D.zkN F w0):=by
 refine kN Tryz.func338 rfl 3 rfl rfl fun fr r hB=>?_;refine wsr ?_
 refine za7 (.cells (zpc false zph.zero 0 0 0 0 .nilFunc) 157 (0,0)) r (fun R=>za6 zq0) rfl fun fr b1 w2 n3 r=>?_;obtain ⟨eb1,zw2,hb1,hB,zB⟩:=n3.all hB
 refine wn (wsr (kU (.agg #[]) r kz rfl fun r=>?_));have hF1:=zpv hF hB b1
 refine kD r (zgq (F:=(kW F w0 w2 b1)) (n:=n) hF1 ) rfl zry rfl fun w4 v5 hb hr6 r=>?_;have zw4:=hb.size
 have hb1:=keep hb hb1;obtain ⟨hB,zB⟩:=bon hb hB;refine kP r hr6.shape rfl rfl hb1 zpX rfl rfl fun w7 u8 r=>?_;have zw7:=u8.size
 have hb1:=u8.at_;obtain ⟨hB,zB⟩:=u8.on hB kw
 exact wn (wp_ret (kR r hr6 rfl rfl hb1 rfl zpW hF hB u8 kw kw kw))
def D.zix (a0:Int) (a1:Int):T Unit:=(D.zeb a0 a1 (fun _=>D.zkN))
theorem zkA (hF:kH F w0)
    (a0:Int) (a1:Int) :
    Calls Tryz.prog 263 #[.int .i64 a0,.int .u64 a1] w0 (zpl Tryz.prog zph n (D.zix a0 a1) F w0):=by
 refine kN Tryz.func263 rfl 8 rfl rfl fun fr r hB=>?_;refine wsr ?_
 refine za7 (.cells (zpc false zph.zero 0 0 0 0 .nilFunc) 157 (0,0)) r (fun R=>za6 zq0) rfl fun fr b1 w2 n3 r=>?_;obtain ⟨eb1,zw2,hb1,hB,zB⟩:=n3.all hB
 refine wn (wsr (kM (I a0) r rfl rfl fun r=>kM (U a1) r rfl rfl fun r=>?_));have hF1:=zpv hF hB b1
 refine kD r (zfM (F:=(kW F w0 w2 b1)) (n:=n) hF1 a0 a1 ⟨338,[],[],zux,rfl,fun m hm _ w' hs hz=>zlD (fun b hb=>Nat.lt_of_lt_of_le (hF1 b hb) hz) ⟩) rfl zrn rfl fun w4 v5 hb hr6 r=>?_;have zw4:=hb.size
 have hb1:=keep hb hb1;obtain ⟨hB,zB⟩:=bon hb hB;refine kP r hr6.shape rfl rfl hb1 zpX rfl rfl fun w7 u8 r=>?_;have zw7:=u8.size
 have hb1:=u8.at_;obtain ⟨hB,zB⟩:=u8.on hB kw
 exact wn (wp_ret (kR r hr6 rfl rfl hb1 rfl zpW hF hB u8 kw kw kw))
def D.zb7 (a0:Int) (a1:(Int→T Int)):T Int:=(D.zgi (⟨0,a0,0,0⟩:Access) a1)
theorem zbF (hF:kH F w0)
    (a0:Int) {a1f:FuncId} {a1_1 a1_2:List Value} {a1:(Int→T Int)} (a1n:FnT Tryz.prog zpi u64 (n) F w0 (.func (.func a1f) a1_1.toArray a1_2.toArray) a1) :
    Calls Tryz.prog 164 #[.int .i64 a0,.func (.func a1f) a1_1.toArray a1_2.toArray] w0 (zpl Tryz.prog zpi n (D.zb7 a0 a1) F w0):=by
 refine kN Tryz.func164 rfl 9 rfl rfl fun fr r hB=>?_;refine wsr ?_
 refine za7 (.cells (zpc false zpi.zero 0 0 0 0 .nilFunc) 44 (0,0)) r (fun R=>za6 tz44) rfl fun fr b1 w2 n3 r=>?_;obtain ⟨eb1,zw2,hb1,hB,zB⟩:=n3.all hB
 refine wn (wsr (kM (I a0) r rfl rfl fun r=>kU (.agg (zpq (⟨0,a0,0,0⟩:Access)).toArray) r kz rfl fun r=>kM (.func (.func a1f) a1_1.toArray a1_2.toArray) r rfl rfl fun r=>?_));have hF1:=zpv hF hB b1
 refine kD r (zdX (F:=(kW F w0 w2 b1)) (n:=n) hF1 (⟨0,a0,0,0⟩:Access) (a1n.mono kw (fun b h=>.inl h) (Same.below hB hF) hB.size)) rfl zqr rfl fun w4 v5 hb hr6 r=>?_;have zw4:=hb.size
 have hb1:=keep hb hb1;obtain ⟨hB,zB⟩:=bon hb hB;refine kP r hr6.shape rfl rfl hb1 ts44 rfl rfl fun w7 u8 r=>?_;have zw7:=u8.size
 have hb1:=u8.at_;obtain ⟨hB,zB⟩:=u8.on hB kw
 exact wn (wp_ret (kR r hr6 rfl rfl hb1 rfl ta44 hF hB u8 kw kw kw))
def D.zcv (c0:(Bool→T Int)) (c1:Int) (a0:Int):T Int:=(c0 (a0==c1))
theorem ziY (hF:kH F w0)
    {c0f:FuncId} {c0_1 c0_2:List Value} {c0:(Bool→T Int)} {c0b:Nat} (c0F:F c0b) (c0h:w0.heap[c0b]?=some (.cells #[.func (.func c0f) c0_1.toArray c0_2.toArray] 283 (0,0))) (c0n:FnT Tryz.prog zpi boolE (n+1) F w0 (.func (.func c0f) c0_1.toArray c0_2.toArray) c0) (c1:Int) {c1b:Nat} (c1F:F c1b) (c1h:w0.heap[c1b]?=some (.cells ([(.int .u64 c1)]).toArray 36 (0,0))) (a0:Int) :
    Calls Tryz.prog 330 #[.int .u64 a0,zp c0b,zp c1b] w0 (zpl Tryz.prog zpi n (D.zcv c0 c1 a0) F w0):=by
 refine kN Tryz.func330 rfl 10 rfl rfl fun fr r hB=>?_;have lc0b:=lt_of_block c0h
 have lc1b:=lt_of_block c1h;refine wsr ?_;refine za7 (.cells (zpc false zpi.zero 0 0 0 0 .nilFunc) 44 (0,0)) r (fun R=>za6 tz44) rfl fun fr b1 w2 n3 r=>?_;obtain ⟨eb1,zw2,hb1,hB,zB⟩:=n3.all hB
 refine wn (wsr (kL (.func (.func c0f) c0_1.toArray c0_2.toArray) r rfl (keep hB c0h) zr3 rfl rfl fun r=>kM (U a0) r rfl rfl fun r=>kL (U c1) r rfl (keep hB c1h) to36 rfl rfl fun r=>kB r rfl rfl rfl rfl rfl fun r=>?_));refine zbx r (c0n.at_.2 n (Nat.lt_succ_self n) (a0==c1) w2 (Same.below hB hF) hB.size) (fun R hc=>zcc r rfl rfl c0n.at_.1 hc) rfl ?_
 rintro _ w4 ⟨v5,rfl,hb,hr6⟩;refine ⟨_,rfl,fun fr r=>?_⟩
 have zw4:=hb.size;have hb1:=keep hb hb1;obtain ⟨hB,zB⟩:=bon hb hB;refine kP r hr6.shape rfl rfl hb1 ts44 rfl rfl fun w7 u8 r=>?_;have zw7:=u8.size
 have hb1:=u8.at_;obtain ⟨hB,zB⟩:=u8.on hB kw
 refine wn (wp_ret ?_);have hs:=hr6.shape.cells;refine za5 r rfl rfl hb1 (k:=7) hs.1 ta44 ?_;rw [←hs.2.2];exact zpl.fin hB hr6 u8 (fun b hb=>.inl hb) (fun h=>by have:=hF _ h; omega) kw kw kw
def D.zg6 (a0:Int) (a1:Int) (a2:Int) (a3:(Bool→T Int)):T Int:=(D.zgi (⟨2,a0,a1,a2⟩:Access) (fun x=>(D.zcv a3 a1 x)))
theorem zgK (hF:kH F w0)
    (a0:Int) (a1:Int) (a2:Int) {a3f:FuncId} {a3_1 a3_2:List Value} {a3:(Bool→T Int)} (a3n:FnT Tryz.prog zpi boolE (n) F w0 (.func (.func a3f) a3_1.toArray a3_2.toArray) a3) :
    Calls Tryz.prog 258 #[.int .i64 a0,.int .u64 a1,.int .u64 a2,.func (.func a3f) a3_1.toArray a3_2.toArray] w0 (zpl Tryz.prog zpi n (D.zg6 a0 a1 a2 a3) F w0):=by
 refine kN Tryz.func258 rfl 15 rfl rfl fun fr r hB=>?_;refine wsr ?_
 refine kX 36 (U a1) r rfl rfl fun b1 w2 n3 r=>?_;obtain ⟨eb1,zw2,hb1,hB,zB⟩:=n3.all hB
 refine kX 283 (.func (.func a3f) a3_1.toArray a3_2.toArray) r rfl rfl fun b4 w5 n6 r=>?_;have hb1:=keep n6.below hb1
 obtain ⟨eb4,zw5,hb4,hB,zB⟩:=n6.all hB;refine za7 (.cells (zpc false zpi.zero 0 0 0 0 .nilFunc) 44 (0,0)) r (fun R=>za6 tz44) rfl fun fr b7 w8 n9 r=>?_;have hb1:=keep n9.below hb1
 have hb4:=keep n9.below hb4;obtain ⟨eb7,zw8,hb7,hB,zB⟩:=n9.all hB;refine wn (wsr (kM (I a0) r rfl rfl fun r=>kL (U a1) r rfl hb1 to36 rfl rfl fun r=>kM (U a2) r rfl rfl fun r=>kU (.agg (zpq (⟨2,a0,a1,a2⟩:Access)).toArray) r kz rfl fun r=>za0 (.func (.func 330) #[] #[zp b4,zp b1]) r (fun R=>zae r rfl) rfl fun fr r=>?_));have hF1:=zpv hF hB b7
 have f10:((kW F w0 w8 b7)) b4:=(.inr ⟨kw,kw,kw⟩)
 have f11:((kW F w0 w8 b7)) b1:=(.inr ⟨kw,kw,kw⟩)
 refine kD r (zdX (F:=(kW F w0 w8 b7)) (n:=n) hF1 (⟨2,a0,a1,a2⟩:Access) ⟨330,[],[zp b4,zp b1],ztI,rfl,fun m hm x w' hs hz=>ziY (fun b hb=>Nat.lt_of_lt_of_le (hF1 b hb) hz) f10 (hs.at_ f10 hb4) (a3n.mono kw (fun b h=>.inl h) ((Same.below hB hF).trans (hs.sub (fun b h=>.inl h))) (Nat.le_trans hB.size hz)) a1 f11 (hs.at_ f11 hb1) x⟩) rfl zqr rfl fun w12 v13 hb hr14 r=>?_;have zw12:=hb.size
 have hb1:=keep hb hb1;have hb4:=keep hb hb4;have hb7:=keep hb hb7;obtain ⟨hB,zB⟩:=bon hb hB;refine kP r hr14.shape rfl rfl hb7 ts44 rfl rfl fun w15 u16 r=>?_;have zw15:=u16.size
 have hb1:=u16.keep hb1 kw
 have hb4:=u16.keep hb4 kw
 have hb7:=u16.at_;obtain ⟨hB,zB⟩:=u16.on hB kw
 exact wn (wp_ret (kR r hr14 rfl rfl hb7 rfl ta44 hF hB u16 kw kw kw))
def D.zfd (a0:Int) (a1:(Int→T Grant)):T Grant:=(D.zg0 (⟨0,a0,0,0⟩:Access) a1)
theorem zj5 (hF:kH F w0)
    (a0:Int) {a1f:FuncId} {a1_1 a1_2:List Value} {a1:(Int→T Grant)} (a1n:FnT Tryz.prog zpp u64 (n) F w0 (.func (.func a1f) a1_1.toArray a1_2.toArray) a1) :
    Calls Tryz.prog 248 #[.int .i64 a0,.func (.func a1f) a1_1.toArray a1_2.toArray] w0 (zpl Tryz.prog zpp n (D.zfd a0 a1) F w0):=by
 refine kN Tryz.func248 rfl 9 rfl rfl fun fr r hB=>?_;refine wsr ?_
 refine za7 (.cells (zpc false zpp.zero 0 0 0 0 .nilFunc) 41 (0,0)) r (fun R=>za6 tz41) rfl fun fr b1 w2 n3 r=>?_;obtain ⟨eb1,zw2,hb1,hB,zB⟩:=n3.all hB
 refine wn (wsr (kM (I a0) r rfl rfl fun r=>kU (.agg (zpq (⟨0,a0,0,0⟩:Access)).toArray) r kz rfl fun r=>kM (.func (.func a1f) a1_1.toArray a1_2.toArray) r rfl rfl fun r=>?_));have hF1:=zpv hF hB b1
 refine kD r (zf1 (F:=(kW F w0 w2 b1)) (n:=n) hF1 (⟨0,a0,0,0⟩:Access) (a1n.mono kw (fun b h=>.inl h) (Same.below hB hF) hB.size)) rfl zqT rfl fun w4 v5 hb hr6 r=>?_;have zw4:=hb.size
 have hb1:=keep hb hb1;obtain ⟨hB,zB⟩:=bon hb hB;refine kP r hr6.shape rfl rfl hb1 ts41 rfl rfl fun w7 u8 r=>?_;have zw7:=u8.size
 have hb1:=u8.at_;obtain ⟨hB,zB⟩:=u8.on hB kw
 exact wn (wp_ret (kR r hr6 rfl rfl hb1 rfl ta41 hF hB u8 kw kw kw))
def D.zfs (c0:(Unit→T Grant)) (a0:Int):T Grant:=(c0 ())
theorem zhE (hF:kH F w0)
    {c0f:FuncId} {c0_1 c0_2:List Value} {c0:(Unit→T Grant)} {c0b:Nat} (c0F:F c0b) (c0h:w0.heap[c0b]?=some (.cells #[.func (.func c0f) c0_1.toArray c0_2.toArray] 278 (0,0))) (c0n:FnT Tryz.prog zpp unitE (n+1) F w0 (.func (.func c0f) c0_1.toArray c0_2.toArray) c0) (a0:Int) :
    Calls Tryz.prog 329 #[.int .u64 a0,zp c0b] w0 (zpl Tryz.prog zpp n (D.zfs c0 a0) F w0):=by
 refine kN Tryz.func329 rfl 6 rfl rfl fun fr r hB=>?_;have lc0b:=lt_of_block c0h
 refine wsr ?_;refine za7 (.cells (zpc false zpp.zero 0 0 0 0 .nilFunc) 41 (0,0)) r (fun R=>za6 tz41) rfl fun fr b1 w2 n3 r=>?_;obtain ⟨eb1,zw2,hb1,hB,zB⟩:=n3.all hB
 refine wn (wsr (kL (.func (.func c0f) c0_1.toArray c0_2.toArray) r rfl (keep hB c0h) ztn rfl rfl fun r=>?_));refine zbx r (c0n.at_.2 n (Nat.lt_succ_self n) () w2 (Same.below hB hF) hB.size) (fun R hc=>zgk r rfl c0n.at_.1 hc) rfl ?_
 rintro _ w4 ⟨v5,rfl,hb,hr6⟩;refine ⟨_,rfl,fun fr r=>?_⟩
 have zw4:=hb.size;have hb1:=keep hb hb1;obtain ⟨hB,zB⟩:=bon hb hB;refine kP r hr6.shape rfl rfl hb1 ts41 rfl rfl fun w7 u8 r=>?_;have zw7:=u8.size
 have hb1:=u8.at_;obtain ⟨hB,zB⟩:=u8.on hB kw
 refine wn (wp_ret ?_);have hs:=hr6.shape.cells;refine za5 r rfl rfl hb1 (k:=9) hs.1 ta41 ?_;rw [←hs.2.2];exact zpl.fin hB hr6 u8 (fun b hb=>.inl hb) (fun h=>by have:=hF _ h; omega) kw kw kw
def D.zeJ (a0:Int) (a1:Int) (a2:(Unit→T Grant)):T Grant:=(D.zg0 (⟨1,a0,a1,0⟩:Access) (fun x=>(D.zfs a2 x)))
theorem zis (hF:kH F w0)
    (a0:Int) (a1:Int) {a2f:FuncId} {a2_1 a2_2:List Value} {a2:(Unit→T Grant)} (a2n:FnT Tryz.prog zpp unitE (n) F w0 (.func (.func a2f) a2_1.toArray a2_2.toArray) a2) :
    Calls Tryz.prog 250 #[.int .i64 a0,.int .u64 a1,.func (.func a2f) a2_1.toArray a2_2.toArray] w0 (zpl Tryz.prog zpp n (D.zeJ a0 a1 a2) F w0):=by
 refine kN Tryz.func250 rfl 12 rfl rfl fun fr r hB=>?_;refine wsr ?_
 refine kX 278 (.func (.func a2f) a2_1.toArray a2_2.toArray) r rfl rfl fun b1 w2 n3 r=>?_;obtain ⟨eb1,zw2,hb1,hB,zB⟩:=n3.all hB
 refine za7 (.cells (zpc false zpp.zero 0 0 0 0 .nilFunc) 41 (0,0)) r (fun R=>za6 tz41) rfl fun fr b4 w5 n6 r=>?_;have hb1:=keep n6.below hb1
 obtain ⟨eb4,zw5,hb4,hB,zB⟩:=n6.all hB;refine wn (wsr (kM (I a0) r rfl rfl fun r=>kM (U a1) r rfl rfl fun r=>kU (.agg (zpq (⟨1,a0,a1,0⟩:Access)).toArray) r kz rfl fun r=>za0 (.func (.func 329) #[] #[zp b1]) r (fun R=>zae r rfl) rfl fun fr r=>?_));have hF1:=zpv hF hB b4
 have f7:((kW F w0 w5 b4)) b1:=(.inr ⟨kw,kw,kw⟩)
 refine kD r (zf1 (F:=(kW F w0 w5 b4)) (n:=n) hF1 (⟨1,a0,a1,0⟩:Access) ⟨329,[],[zp b1],ztM,rfl,fun m hm x w' hs hz=>zhE (fun b hb=>Nat.lt_of_lt_of_le (hF1 b hb) hz) f7 (hs.at_ f7 hb1) (a2n.mono kw (fun b h=>.inl h) ((Same.below hB hF).trans (hs.sub (fun b h=>.inl h))) (Nat.le_trans hB.size hz)) x⟩) rfl zqT rfl fun w8 v9 hb hr10 r=>?_;have zw8:=hb.size
 have hb1:=keep hb hb1;have hb4:=keep hb hb4;obtain ⟨hB,zB⟩:=bon hb hB;refine kP r hr10.shape rfl rfl hb4 ts41 rfl rfl fun w11 u12 r=>?_;have zw11:=u12.size
 have hb1:=u12.keep hb1 kw
 have hb4:=u12.at_;obtain ⟨hB,zB⟩:=u12.on hB kw
 exact wn (wp_ret (kR r hr10 rfl rfl hb4 rfl ta41 hF hB u12 kw kw kw))
def D.zfE (a0:Int) (a1:(Int→T Bool)):T Bool:=(D.zji (⟨0,a0,0,0⟩:Access) a1)
theorem zjv (hF:kH F w0)
    (a0:Int) {a1f:FuncId} {a1_1 a1_2:List Value} {a1:(Int→T Bool)} (a1n:FnT Tryz.prog zpD u64 (n) F w0 (.func (.func a1f) a1_1.toArray a1_2.toArray) a1) :
    Calls Tryz.prog 405 #[.int .i64 a0,.func (.func a1f) a1_1.toArray a1_2.toArray] w0 (zpl Tryz.prog zpD n (D.zfE a0 a1) F w0):=by
 refine kN Tryz.func405 rfl 9 rfl rfl fun fr r hB=>?_;refine wsr ?_
 refine za7 (.cells (zpc false zpD.zero 0 0 0 0 .nilFunc) 316 (0,0)) r (fun R=>za6 zqn) rfl fun fr b1 w2 n3 r=>?_;obtain ⟨eb1,zw2,hb1,hB,zB⟩:=n3.all hB
 refine wn (wsr (kM (I a0) r rfl rfl fun r=>kU (.agg (zpq (⟨0,a0,0,0⟩:Access)).toArray) r kz rfl fun r=>kM (.func (.func a1f) a1_1.toArray a1_2.toArray) r rfl rfl fun r=>?_));have hF1:=zpv hF hB b1
 refine kD r (zkz (F:=(kW F w0 w2 b1)) (n:=n) hF1 (⟨0,a0,0,0⟩:Access) (a1n.mono kw (fun b h=>.inl h) (Same.below hB hF) hB.size)) rfl zuu rfl fun w4 v5 hb hr6 r=>?_;have zw4:=hb.size
 have hb1:=keep hb hb1;obtain ⟨hB,zB⟩:=bon hb hB;refine kP r hr6.shape rfl rfl hb1 zqd rfl rfl fun w7 u8 r=>?_;have zw7:=u8.size
 have hb1:=u8.at_;obtain ⟨hB,zB⟩:=u8.on hB kw
 exact wn (wp_ret (kR r hr6 rfl rfl hb1 rfl zqe hF hB u8 kw kw kw))
def D.zdw (c0:(Unit→T Int)) (a0:Int):T Int:=(c0 ())
theorem zic (hF:kH F w0)
    {c0f:FuncId} {c0_1 c0_2:List Value} {c0:(Unit→T Int)} {c0b:Nat} (c0F:F c0b) (c0h:w0.heap[c0b]?=some (.cells #[.func (.func c0f) c0_1.toArray c0_2.toArray] 242 (0,0))) (c0n:FnT Tryz.prog zpi unitE (n+1) F w0 (.func (.func c0f) c0_1.toArray c0_2.toArray) c0) (a0:Int) :
    Calls Tryz.prog 268 #[.int .u64 a0,zp c0b] w0 (zpl Tryz.prog zpi n (D.zdw c0 a0) F w0):=by
 refine kN Tryz.func268 rfl 6 rfl rfl fun fr r hB=>?_;have lc0b:=lt_of_block c0h
 refine wsr ?_;refine za7 (.cells (zpc false zpi.zero 0 0 0 0 .nilFunc) 44 (0,0)) r (fun R=>za6 tz44) rfl fun fr b1 w2 n3 r=>?_;obtain ⟨eb1,zw2,hb1,hB,zB⟩:=n3.all hB
 refine wn (wsr (kL (.func (.func c0f) c0_1.toArray c0_2.toArray) r rfl (keep hB c0h) zqq rfl rfl fun r=>?_));refine zbx r (c0n.at_.2 n (Nat.lt_succ_self n) () w2 (Same.below hB hF) hB.size) (fun R hc=>zgk r rfl c0n.at_.1 hc) rfl ?_
 rintro _ w4 ⟨v5,rfl,hb,hr6⟩;refine ⟨_,rfl,fun fr r=>?_⟩
 have zw4:=hb.size;have hb1:=keep hb hb1;obtain ⟨hB,zB⟩:=bon hb hB;refine kP r hr6.shape rfl rfl hb1 ts44 rfl rfl fun w7 u8 r=>?_;have zw7:=u8.size
 have hb1:=u8.at_;obtain ⟨hB,zB⟩:=u8.on hB kw
 refine wn (wp_ret ?_);have hs:=hr6.shape.cells;refine za5 r rfl rfl hb1 (k:=7) hs.1 ta44 ?_;rw [←hs.2.2];exact zpl.fin hB hr6 u8 (fun b hb=>.inl hb) (fun h=>by have:=hF _ h; omega) kw kw kw
def D.zbc (a0:Int) (a1:Int) (a2:(Unit→T Int)):T Int:=(D.zgi (⟨1,a0,a1,0⟩:Access) (fun x=>(D.zdw a2 x)))
theorem zbG (hF:kH F w0)
    (a0:Int) (a1:Int) {a2f:FuncId} {a2_1 a2_2:List Value} {a2:(Unit→T Int)} (a2n:FnT Tryz.prog zpi unitE (n) F w0 (.func (.func a2f) a2_1.toArray a2_2.toArray) a2) :
    Calls Tryz.prog 166 #[.int .i64 a0,.int .u64 a1,.func (.func a2f) a2_1.toArray a2_2.toArray] w0 (zpl Tryz.prog zpi n (D.zbc a0 a1 a2) F w0):=by
 refine kN Tryz.func166 rfl 12 rfl rfl fun fr r hB=>?_;refine wsr ?_
 refine kX 242 (.func (.func a2f) a2_1.toArray a2_2.toArray) r rfl rfl fun b1 w2 n3 r=>?_;obtain ⟨eb1,zw2,hb1,hB,zB⟩:=n3.all hB
 refine za7 (.cells (zpc false zpi.zero 0 0 0 0 .nilFunc) 44 (0,0)) r (fun R=>za6 tz44) rfl fun fr b4 w5 n6 r=>?_;have hb1:=keep n6.below hb1
 obtain ⟨eb4,zw5,hb4,hB,zB⟩:=n6.all hB;refine wn (wsr (kM (I a0) r rfl rfl fun r=>kM (U a1) r rfl rfl fun r=>kU (.agg (zpq (⟨1,a0,a1,0⟩:Access)).toArray) r kz rfl fun r=>za0 (.func (.func 268) #[] #[zp b1]) r (fun R=>zae r rfl) rfl fun fr r=>?_));have hF1:=zpv hF hB b4
 have f7:((kW F w0 w5 b4)) b1:=(.inr ⟨kw,kw,kw⟩)
 refine kD r (zdX (F:=(kW F w0 w5 b4)) (n:=n) hF1 (⟨1,a0,a1,0⟩:Access) ⟨268,[],[zp b1],zun,rfl,fun m hm x w' hs hz=>zic (fun b hb=>Nat.lt_of_lt_of_le (hF1 b hb) hz) f7 (hs.at_ f7 hb1) (a2n.mono kw (fun b h=>.inl h) ((Same.below hB hF).trans (hs.sub (fun b h=>.inl h))) (Nat.le_trans hB.size hz)) x⟩) rfl zqr rfl fun w8 v9 hb hr10 r=>?_;have zw8:=hb.size
 have hb1:=keep hb hb1;have hb4:=keep hb hb4;obtain ⟨hB,zB⟩:=bon hb hB;refine kP r hr10.shape rfl rfl hb4 ts44 rfl rfl fun w11 u12 r=>?_;have zw11:=u12.size
 have hb1:=u12.keep hb1 kw
 have hb4:=u12.at_;obtain ⟨hB,zB⟩:=u12.on hB kw
 exact wn (wp_ret (kR r hr10 rfl rfl hb4 rfl ta44 hF hB u12 kw kw kw))
def D.zbR (a0:Int) (a1:(Int→T Res)):T Res:=(D.zg9 (⟨0,a0,0,0⟩:Access) a1)
def D.zgC (c0:(Bool→T Res)) (c1:Int) (a0:Int):T Res:=(c0 (a0==c1))
def D.zbZ (a0:Int) (a1:Int) (a2:Int) (a3:(Bool→T Res)):T Res:=(D.zg9 (⟨2,a0,a1,a2⟩:Access) (fun x=>(D.zgC a3 a1 x)))
def D.zgs (c0:(Unit→T Res)) (a0:Int):T Res:=(c0 ())
def D.zbw (a0:Int) (a1:Int) (a2:(Unit→T Res)):T Res:=(D.zg9 (⟨1,a0,a1,0⟩:Access) (fun x=>(D.zgs a2 x)))
def D.zdv (a0:Int) (a1:(Int→T Int)):T Int:=(D.zhM (⟨0,a0,0,0⟩:Access) a1)
theorem zfv (hF:kH F w0)
    (a0:Int) {a1f:FuncId} {a1_1 a1_2:List Value} {a1:(Int→T Int)} (a1n:FnT Tryz.prog zpu u64 (n) F w0 (.func (.func a1f) a1_1.toArray a1_2.toArray) a1) :
    Calls Tryz.prog 316 #[.int .i64 a0,.func (.func a1f) a1_1.toArray a1_2.toArray] w0 (zpl Tryz.prog zpu n (D.zdv a0 a1) F w0):=by
 refine kN Tryz.func316 rfl 9 rfl rfl fun fr r hB=>?_;refine wsr ?_
 refine za7 (.cells (zpc false zpu.zero 0 0 0 0 .nilFunc) 268 (0,0)) r (fun R=>za6 zq8) rfl fun fr b1 w2 n3 r=>?_;obtain ⟨eb1,zw2,hb1,hB,zB⟩:=n3.all hB
 refine wn (wsr (kM (I a0) r rfl rfl fun r=>kU (.agg (zpq (⟨0,a0,0,0⟩:Access)).toArray) r kz rfl fun r=>kM (.func (.func a1f) a1_1.toArray a1_2.toArray) r rfl rfl fun r=>?_));have hF1:=zpv hF hB b1
 refine kD r (zgr (F:=(kW F w0 w2 b1)) (n:=n) hF1 (⟨0,a0,0,0⟩:Access) (a1n.mono kw (fun b h=>.inl h) (Same.below hB hF) hB.size)) rfl zrG rfl fun w4 v5 hb hr6 r=>?_;have zw4:=hb.size
 have hb1:=keep hb hb1;obtain ⟨hB,zB⟩:=bon hb hB;refine kP r hr6.shape rfl rfl hb1 zq4 rfl rfl fun w7 u8 r=>?_;have zw7:=u8.size
 have hb1:=u8.at_;obtain ⟨hB,zB⟩:=u8.on hB kw
 exact wn (wp_ret (kR r hr6 rfl rfl hb1 rfl zq3 hF hB u8 kw kw kw))
end
end Go.Proofs.YtikjpdpgdmbdpaaGreat

/- Ours. -/
set_option maxRecDepth 20000
set_option maxHeartbeats 2000000
namespace Go.Proofs.YtikjpdpgdmbdpaaGreat
open Go.RowKit
section
variable {n : Nat} {F : Nat → Prop} {j : Nat} {w0 : World}
theorem zqK:zpd Tryz.prog 140:=kz
theorem zqj:zpd Tryz.prog 141:=kz
theorem zql:zpd Tryz.prog 142:=kz
theorem zqy:zpd Tryz.prog 143:=kz
theorem zr8:zpd Tryz.prog 158:=kz
theorem zrQ:zpd Tryz.prog 163:=kz
theorem zqa:zpd Tryz.prog 164:=kz
theorem zqc:zpd Tryz.prog 166:=kz
theorem zu2:zpd Tryz.prog 255:=kz
theorem zq7:zpd Tryz.prog 256:=kz
theorem zt2:zpd Tryz.prog 257:=kz
theorem zrF:zpd Tryz.prog 258:=kz
theorem zrx:zpd Tryz.prog 259:=kz
theorem zsH:zpd Tryz.prog 260:=kz
theorem zrv:zpd Tryz.prog 263:=kz
theorem zr5:zpd Tryz.prog 264:=kz
theorem ztm:zpd Tryz.prog 266:=kz
theorem zso:zpd Tryz.prog 313:=kz
theorem zrD:zpd Tryz.prog 331:=kz
theorem zqJ:zpd Tryz.prog 332:=kz
theorem ztH:zpd Tryz.prog 359:=kz
theorem ztG:zpd Tryz.prog 360:=kz
theorem ztq:zpd Tryz.prog 361:=kz
theorem ti3:intTy Tryz.prog 3 .i64:=kz
theorem ti36:intTy Tryz.prog 36 .u64:=kz
theorem zqm:sized Tryz.prog 219 2:=kz
theorem zqk:zeroOf Tryz.prog 219=some (.agg (zpn (⟨0,0⟩:Field)).toArray):=kz
theorem tz3:zeroOf Tryz.prog 3=some (.int .i64 0):=kz
def D.zbH (a0:Int):Int:=(IntKind.u64.wrap (IntKind.i64.wrap (a0+1)))
theorem zi6 (w0:World) 
    (a0:Int) :
    Calls Tryz.prog 264 #[.int .i64 a0] w0 (zpt (.int .u64 (D.zbH a0)) w0):=by
 refine kN Tryz.func264 rfl 6 rfl rfl fun fr r hB=>?_;refine wsr (kA (U 0) r rfl rfl fun r=>wn (wsr (kM (I a0) r rfl rfl fun r=>kB r rfl rfl rfl rfl rfl fun r=>za0 (U (V (W (a0+1)))) r (fun R=>zb3 r rfl ti3 ti36) rfl fun fr r=>kA (U (V (W (a0+1)))) r rfl rfl fun r=>wn (wp_ret ?_))))
 refine zay r rfl rfl ?_;exact ⟨rfl,hB⟩
def D.zh4 (r_free_fresh:Plan→Int→T Unit) (c0:Plan) (c1:Int):T Unit:=(r_free_fresh c0 (IntKind.i64.wrap (c1+1)))
def D.zbT (r_free_fresh:Plan→Int→T Unit) (a0:Plan) (a1:Int):T Unit:=(bif (a1==a0.nodes) then (D.zix (D.zaT a0) (D.zbH 0)) else (let x19:Int:=(bif ((IntKind.i64.wrap (a1+1))==a0.nodes) then 0 else (D.zbH (IntKind.i64.wrap (a1+1)))); (D.zeb (D.zaZ a0 a1) x19 (fun _=>(D.zh4 r_free_fresh a0 a1)))))
def D.zd6:Nat→Plan→Int→T Unit
  | 0,_,_=>.cut
  | k+1,a0,a1=>D.zbT (D.zd6 k) a0 a1
def zff (r:Plan→Int→T Unit) (n:Nat):Prop:=∀ (F:Nat→Prop) (w0:World),(∀ b,F b→b<w0.heap.size)→∀ (a0:Plan) (a1:Int),Calls Tryz.prog 163 #[.agg (zpe a0).toArray,.int .i64 a1] w0 (zpl Tryz.prog zph n (r a0 a1) F w0)
theorem zkn {r_free_fresh:Plan→Int→T Unit} (hF:kH F w0) (ih_free_fresh:∀ m,m≤n→zff r_free_fresh m)
    (c0:Plan) {c0b:Nat} (c0F:F c0b) (c0h:w0.heap[c0b]?=some (.cells ((zpe c0)).toArray 23 (0,0))) (c1:Int) {c1b:Nat} (c1F:F c1b) (c1h:w0.heap[c1b]?=some (.cells ([(.int .i64 c1)]).toArray 3 (0,0))) :
    Calls Tryz.prog 266 #[zp c0b,zp c1b] w0 (zpl Tryz.prog zph n (D.zh4 r_free_fresh c0 c1) F w0):=by
 refine kN Tryz.func266 rfl 7 rfl rfl fun fr r hB=>?_;have lc0b:=lt_of_block c0h
 have lc1b:=lt_of_block c1h;refine wsr ?_;refine za7 (.cells (zpc false zph.zero 0 0 0 0 .nilFunc) 157 (0,0)) r (fun R=>za6 zq0) rfl fun fr b1 w2 n3 r=>?_;obtain ⟨E1,Z2,H1,hB,zB⟩:=n3.all hB
 refine wn (wsr (kG (zpe c0) 6 r rfl (keep hB c0h) ta23 rfl rfl fun r=>kL (I c1) r rfl (keep hB c1h) to3 rfl rfl fun r=>kB r rfl rfl rfl rfl rfl fun r=>?_));have hF1:=zpv hF hB b1
 refine kD r ((ih_free_fresh n kw) (kW F w0 w2 b1) _ hF1 c0 (W (c1+1))) rfl zrQ rfl fun w4 v5 hb hr6 r=>?_;have Z4:=hb.size
 have H1:=keep hb H1;obtain ⟨hB,zB⟩:=bon hb hB;refine kP r hr6.shape rfl rfl H1 zpX rfl rfl fun w7 u8 r=>?_;have Z7:=u8.size
 have H1:=u8.at_;obtain ⟨hB,zB⟩:=u8.on hB kw
 exact wn (wp_ret (kR r hr6 rfl rfl H1 rfl zpW hF hB u8 kw kw kw))
theorem zlY {n:Nat} {F:Nat→Prop} {r_free_fresh:Plan→Int→T Unit} {w0:World} (hF:∀ b,F b→b<w0.heap.size) (ih_free_fresh:∀ m,m<n→zff r_free_fresh m)
    (a0:Plan) (a1:Int) :
    Calls Tryz.prog 163 #[.agg (zpe a0).toArray,.int .i64 a1] w0 (zpl Tryz.prog zph n (D.zbT r_free_fresh a0 a1) F w0):=by
 refine kN Tryz.func163 rfl 28 rfl rfl fun fr r hB=>?_;refine wsr ?_
 refine kX 23 (.agg (zpe a0).toArray) r rfl rfl fun b1 w2 n3 r=>?_;obtain ⟨E1,Z2,H1,hB,zB⟩:=n3.all hB
 refine kX 3 (I a1) r rfl rfl fun b4 w5 n6 r=>?_;have H1:=keep n6.below H1
 obtain ⟨E4,Z5,H4,hB,zB⟩:=n6.all hB;refine za7 (.cells (zpc false zph.zero 0 0 0 0 .nilFunc) 157 (0,0)) r (fun R=>za6 zq0) rfl fun fr b7 w8 n9 r=>?_;have H1:=keep n9.below H1
 have H4:=keep n9.below H4;obtain ⟨E7,Z8,H7,hB,zB⟩:=n9.all hB;refine wn (wp_seq (wsr (kL (I a1) r rfl H4 to3 rfl rfl fun r=>kF 0 r rfl zeQ rfl fun r=>kL (I a0.nodes) r rfl H1 to3 rfl rfl fun r=>kB r rfl rfl rfl rfl rfl fun r=>wn ?_)));refine wp_cond_split (t:=(a1==a0.nodes)) (r.ev rfl) (fun h10=>?_) (fun h10=>?_)
 ·
  refine wsr (kG (zpe a0) 6 r rfl H1 ta23 rfl rfl fun r=>?_);refine kE r (zc9 w8 a0) rfl zql rfl fun w11 hb r=>?_
  have Z11:=hb.size;have H1:=keep hb H1;have H4:=keep hb H4;have H7:=keep hb H7;obtain ⟨hB,zB⟩:=bon hb hB;refine kE r (zi6 w11 0) rfl zr5 rfl fun w12 hb r=>?_;have Z12:=hb.size
  have H1:=keep hb H1;have H4:=keep hb H4;have H7:=keep hb H7;obtain ⟨hB,zB⟩:=bon hb hB;have hF1:=zpv hF hB b7;refine kD r (zkA (F:=(kW F w0 w12 b7)) (n:=n) hF1 (D.zaT a0) (D.zbH 0)) rfl zrv rfl fun w13 v14 hb hr15 r=>?_;have Z13:=hb.size
  have H1:=keep hb H1;have H4:=keep hb H4;have H7:=keep hb H7;obtain ⟨hB,zB⟩:=bon hb hB;refine kP r hr15.shape rfl rfl H7 zpX rfl rfl fun w16 u17 r=>?_;have Z16:=u17.size
  have H1:=u17.keep H1 kw
  have H4:=u17.keep H4 kw
  have H7:=u17.at_;obtain ⟨hB,zB⟩:=u17.on hB kw
  refine wn (wp_ret ?_);have hd:D.zbT r_free_fresh a0 a1=(D.zix (D.zaT a0) (D.zbH 0)):=(zal h10).trans (rfl);have hs:=hr15.shape.cells;refine za5 r rfl rfl H7 (k:=6) hs.1 zpW ?_;rw [←hs.2.2,hd];exact rfin hF hB hr15 u17 kw kw kw
 refine wp_skip (wsr (kL (I a1) r rfl H4 to3 rfl rfl fun r=>kB r rfl rfl rfl rfl rfl fun r=>?_));refine kE r (zi6 w8 (W (a1+1))) rfl zr5 rfl fun w18 hb r=>?_
 have Z18:=hb.size;have H1:=keep hb H1;have H4:=keep hb H4;have H7:=keep hb H7;obtain ⟨hB,zB⟩:=bon hb hB;refine kA (U (D.zbH (W (a1+1)))) r rfl rfl fun r=>wn (wp_seq (wsr (kL (I a1) r rfl H4 to3 rfl rfl fun r=>kB r rfl rfl rfl rfl rfl fun r=>kF 0 r rfl zeQ rfl fun r=>kL (I a0.nodes) r rfl H1 to3 rfl rfl fun r=>kB r rfl rfl rfl rfl rfl fun r=>wn ?_)));obtain ⟨x19,hx19⟩:∃ x:Int,x=(bif ((W (a1+1))==a0.nodes) then 0 else (D.zbH (W (a1+1)))):=⟨_,rfl⟩
 refine zov (N:=28) [(0,(.agg (zpe a0).toArray)),(1,(I a1)),(2,(zp b1)),(3,(zp b4)),(4,(zp b7)),(5,(U x19))] (fun w=>Below w0.heap.size w0 w∧w18.heap.size≤w.heap.size∧w.heap[b1]?=some (.cells ((zpe a0)).toArray 23 (0,0))∧w.heap[b4]?=some (.cells #[(I a1)] 3 (0,0))∧w.heap[b7]?=some (.cells (zpc false zph.zero 0 0 0 0 .nilFunc) 157 (0,0))) ?_ ?_
 ·
  refine wp_cond_split (t:=((W (a1+1))==a0.nodes)) (r.ev rfl) (fun h20=>?_) (fun h20=>?_)
  ·
   refine wp_region_lit (kA (U 0) r rfl rfl fun r=>wn ?_);exact ⟨rfl,_,r,(zac rfl (zac rfl (zac rfl (zac rfl (zac rfl (zac (by rw [hx19,zal h20]; rfl) zaI)))))),hB,kw,H1,H4,H7⟩
  refine wp_skip ?_;exact ⟨rfl,_,r,(zac rfl (zac rfl (zac rfl (zac rfl (zac rfl (zac (by rw [hx19,zaf h20]; rfl) zaI)))))),hB,kw,H1,H4,H7⟩
 rintro fr w21 g r ⟨hB,Z21,H1,H4,H7⟩;have zB:=hB.size;refine wsr (kG (zpe a0) 6 r rfl H1 ta23 rfl rfl fun r=>kL (I a1) r rfl H4 to3 rfl rfl fun r=>?_);refine kE r (zcG w21 a0 a1) rfl zqy rfl fun w22 hb r=>?_
 have Z22:=hb.size;have H1:=keep hb H1;have H4:=keep hb H4;have H7:=keep hb H7;obtain ⟨hB,zB⟩:=bon hb hB;refine kM (U x19) r rfl rfl fun r=>za0 (.func (.func 266) #[] #[zp b1,zp b4]) r (fun R=>zae r rfl) rfl fun fr r=>?_;have hF1:=zpv hF hB b7
 have f23:((kW F w0 w22 b7)) b1:=(.inr ⟨kw,kw,kw⟩)
 have f24:((kW F w0 w22 b7)) b4:=(.inr ⟨kw,kw,kw⟩)
 refine kD r (zfM (F:=(kW F w0 w22 b7)) (n:=n) hF1 (D.zaZ a0 a1) x19 ⟨266,[],[zp b1,zp b4],ztm,rfl,fun m hm _ w' hs hz=>zkn (fun b hb=>Nat.lt_of_lt_of_le (hF1 b hb) hz) (fun m' hm'=>ih_free_fresh m' kw) a0 f23 (hs.at_ f23 H1) a1 f24 (hs.at_ f24 H4)⟩) rfl zrn rfl fun w25 v26 hb hr27 r=>?_;have Z25:=hb.size
 have H1:=keep hb H1;have H4:=keep hb H4;have H7:=keep hb H7;obtain ⟨hB,zB⟩:=bon hb hB;refine kP r hr27.shape rfl rfl H7 zpX rfl rfl fun w28 u29 r=>?_;have Z28:=u29.size
 have H1:=u29.keep H1 kw
 have H4:=u29.keep H4 kw
 have H7:=u29.at_;obtain ⟨hB,zB⟩:=u29.on hB kw
 refine wn (wp_ret ?_);have hd:D.zbT r_free_fresh a0 a1=(D.zeb (D.zaZ a0 a1) x19 (fun _=>(D.zh4 r_free_fresh a0 a1))):=by subst hx19; exact (zaf h10).trans (rfl)
 have hs:=hr27.shape.cells;refine za5 r rfl rfl H7 (k:=6) hs.1 zpW ?_;rw [←hs.2.2,hd];exact rfin hF hB hr27 u29 kw kw kw
theorem zlE {n:Nat} {k:Nat} (hk:n<k):zff (D.zd6 k) n:=by
  induction n using Nat.strongRecOn generalizing k with
  | _ n ih=>
    obtain ⟨k,rfl⟩:∃ q,k=q+1:=⟨k - 1,kw⟩
    intro F w0 hF;have h:=@zlY n F (D.zd6 k) w0 hF (fun m hm=>ih m hm kw)
    exact h
def D.zej (j:Nat) (a0:Plan):T Unit:=(D.zd6 j a0 0)
theorem zlT (hF:kH F w0) (hj:n<j)
    (a0:Plan) :
    Calls Tryz.prog 81 #[.agg (zpe a0).toArray] w0 (zpl Tryz.prog zph n (D.zej j a0) F w0):=by
 refine kN Tryz.func81 rfl 5 rfl rfl fun fr r hB=>?_;refine wsr ?_
 refine kX 23 (.agg (zpe a0).toArray) r rfl rfl fun b1 w2 n3 r=>?_;obtain ⟨E1,Z2,H1,hB,zB⟩:=n3.all hB
 refine za7 (.cells (zpc false zph.zero 0 0 0 0 .nilFunc) 157 (0,0)) r (fun R=>za6 zq0) rfl fun fr b4 w5 n6 r=>?_;have H1:=keep n6.below H1
 obtain ⟨E4,Z5,H4,hB,zB⟩:=n6.all hB;refine wn (wsr (kG (zpe a0) 6 r rfl H1 ta23 rfl rfl fun r=>?_));have hF1:=zpv hF hB b4
 refine kD r ((zlE (k:=j) (n:=n) kw) (kW F w0 w5 b4) _ hF1 a0 0) rfl zrQ rfl fun w7 v8 hb hr9 r=>?_;have Z7:=hb.size
 have H1:=keep hb H1;have H4:=keep hb H4;obtain ⟨hB,zB⟩:=bon hb hB;refine kP r hr9.shape rfl rfl H4 zpX rfl rfl fun w10 u11 r=>?_;have Z10:=u11.size
 have H1:=u11.keep H1 kw
 have H4:=u11.at_;obtain ⟨hB,zB⟩:=u11.on hB kw
 exact wn (wp_ret (kR r hr9 rfl rfl H4 rfl zpW hF hB u11 kw kw kw))
def D.zaO :Field:=(⟨0,21⟩:Field)
theorem zg1 (w0:World) 
     :
    Calls Tryz.prog 140 #[] w0 (zpt (.agg (zpn D.zaO).toArray) w0):=by
 refine kN Tryz.func140 rfl 2 rfl rfl fun fr r hB=>?_;refine wsr ?_
 refine za7 (.cells ((zpn (⟨0,0⟩:Field))).toArray 219 (0,0)) r (fun R=>za6 zqk) rfl fun fr b1 w2 n3 r=>?_;obtain ⟨E1,Z2,H1,hB,zB⟩:=n3.all hB
 refine wn (wsr (kU (.agg (zpn (⟨0,21⟩:Field)).toArray) r kz rfl fun r=>?_));refine zaS (.cells ((zpn (⟨0,21⟩:Field))).toArray 219 (0,0)) r (fun R=>zaN r (o:=0) (v:=(.agg (zpn (⟨0,21⟩:Field)).toArray)) rfl rfl H1 zqm (Nat.le_of_ble_eq_true rfl) rfl rfl) rfl fun fr w4 u5 r=>?_
 have Z4:=u5.size;have H1:=u5.at_;obtain ⟨hB,zB⟩:=u5.on hB kw
 refine wn (wp_ret ?_);refine za5 r rfl rfl H1 (k:=2) rfl zpY ?_;exact ⟨rfl,hB⟩
def D.zdd :Field:=(⟨21,43⟩:Field)
theorem zkR (w0:World) 
     :
    Calls Tryz.prog 331 #[] w0 (zpt (.agg (zpn D.zdd).toArray) w0):=by
 refine kN Tryz.func331 rfl 2 rfl rfl fun fr r hB=>?_;refine wsr ?_
 refine za7 (.cells ((zpn (⟨0,0⟩:Field))).toArray 219 (0,0)) r (fun R=>za6 zqk) rfl fun fr b1 w2 n3 r=>?_;obtain ⟨E1,Z2,H1,hB,zB⟩:=n3.all hB
 refine wn (wsr (kU (.agg (zpn (⟨21,43⟩:Field)).toArray) r kz rfl fun r=>?_));refine zaS (.cells ((zpn (⟨21,43⟩:Field))).toArray 219 (0,0)) r (fun R=>zaN r (o:=0) (v:=(.agg (zpn (⟨21,43⟩:Field)).toArray)) rfl rfl H1 zqm (Nat.le_of_ble_eq_true rfl) rfl rfl) rfl fun fr w4 u5 r=>?_
 have Z4:=u5.size;have H1:=u5.at_;obtain ⟨hB,zB⟩:=u5.on hB kw
 refine wn (wp_ret ?_);refine za5 r rfl rfl H1 (k:=2) rfl zpY ?_;exact ⟨rfl,hB⟩
def D.zcC (a0:Int) (a1:Int):Int:=(D.zaE D.zdd (D.zaE D.zaO 0 a1) (IntKind.u64.wrap ((D.zaa D.zdd a0)+1)))
theorem ziA (w0:World) 
    (a0:Int) (a1:Int) :
    Calls Tryz.prog 259 #[.int .u64 a0,.int .u64 a1] w0 (zpt (.int .u64 (D.zcC a0 a1)) w0):=by
 refine kN Tryz.func259 rfl 14 rfl rfl fun fr r hB=>?_;refine wsr (kA (U 0) r rfl rfl fun r=>wn (wsr ?_))
 refine kE r (zkR w0 ) rfl zrD rfl fun w1 hb r=>?_;have Z1:=hb.size
 obtain ⟨hB,zB⟩:=bon hb hB;refine kE r (zg1 w1 ) rfl zqK rfl fun w2 hb r=>?_;have Z2:=hb.size
 obtain ⟨hB,zB⟩:=bon hb hB;refine kM (U a1) r rfl rfl fun r=>?_;refine kE r (zek w2 D.zaO 0 a1) rfl zqJ rfl fun w3 hb r=>?_
 have Z3:=hb.size;obtain ⟨hB,zB⟩:=bon hb hB;refine kE r (zkR w3 ) rfl zrD rfl fun w4 hb r=>?_;have Z4:=hb.size
 obtain ⟨hB,zB⟩:=bon hb hB;refine kM (U a0) r rfl rfl fun r=>?_;refine kE r (zcw w4 D.zdd a0) rfl zqj rfl fun w5 hb r=>?_
 have Z5:=hb.size;obtain ⟨hB,zB⟩:=bon hb hB;refine kB r rfl rfl rfl rfl rfl fun r=>?_;refine kE r (zek w5 D.zdd (D.zaE D.zaO 0 a1) (V ((D.zaa D.zdd a0)+1))) rfl zqJ rfl fun w6 hb r=>?_
 have Z6:=hb.size;obtain ⟨hB,zB⟩:=bon hb hB;refine kA (U (D.zaE D.zdd (D.zaE D.zaO 0 a1) (V ((D.zaa D.zdd a0)+1)))) r rfl rfl fun r=>wn (wp_ret ?_);refine zay r rfl rfl ?_
 exact ⟨rfl,hB⟩
def D.zcN (r_free_Pop:Plan→T Int) (c0:Plan) (c1:Int) (a0:Bool):T Int:=(bif (!a0) then (r_free_Pop c0) else (D.zaX c1))
def D.zev (r_free_Pop:Plan→T Int) (c0:Plan) (c1:Int) (c2:Int) (a0:Int):T Int:=(D.zg6 (D.zaT c0) c1 (D.zcC c1 a0) (fun x=>(D.zcN r_free_Pop c0 c2 x)))
def D.zdJ (r_free_Pop:Plan→T Int) (c0:Plan) (a0:Int):T Int:=(bif (decide ((IntKind.i64.wrap ((IntKind.i64.wrap (D.zaa D.zaO a0)) - 1))<0)) then (D.zaX (-1)) else (D.zb7 (D.zaZ c0 (IntKind.i64.wrap ((IntKind.i64.wrap (D.zaa D.zaO a0)) - 1))) (fun x=>(D.zev r_free_Pop c0 a0 (IntKind.i64.wrap ((IntKind.i64.wrap (D.zaa D.zaO a0)) - 1)) x))))
def D.zdf (r_free_Pop:Plan→T Int) (a0:Plan):T Int:=(D.zb7 (D.zaT a0) (fun x=>(D.zdJ r_free_Pop a0 x)))
def D.zbM:Nat→Plan→T Int
  | 0,_=>.cut
  | k+1,a0=>D.zdf (D.zbM k) a0
def ze8 (r:Plan→T Int) (n:Nat):Prop:=∀ (F:Nat→Prop) (w0:World),(∀ b,F b→b<w0.heap.size)→∀ (a0:Plan),Calls Tryz.prog 158 #[.agg (zpe a0).toArray] w0 (zpl Tryz.prog zpi n (r a0) F w0)
theorem zjs {r_free_Pop:Plan→T Int} (hF:kH F w0) (ih_free_Pop:∀ m,m≤n→ze8 r_free_Pop m)
    (c0:Plan) {c0b:Nat} (c0F:F c0b) (c0h:w0.heap[c0b]?=some (.cells ((zpe c0)).toArray 23 (0,0))) (c1:Int) {c1b:Nat} (c1F:F c1b) (c1h:w0.heap[c1b]?=some (.cells ([(.int .i64 c1)]).toArray 3 (0,0))) (a0:Bool) :
    Calls Tryz.prog 260 #[.bool a0,zp c0b,zp c1b] w0 (zpl Tryz.prog zpi n (D.zcN r_free_Pop c0 c1 a0) F w0):=by
 refine kN Tryz.func260 rfl 11 rfl rfl fun fr r hB=>?_;have lc0b:=lt_of_block c0h
 have lc1b:=lt_of_block c1h;refine wsr ?_;refine za7 (.cells (zpc false zpi.zero 0 0 0 0 .nilFunc) 44 (0,0)) r (fun R=>za6 tz44) rfl fun fr b1 w2 n3 r=>?_;obtain ⟨E1,Z2,H1,hB,zB⟩:=n3.all hB
 refine wn (wp_seq (wsr (kM (.bool a0) r rfl rfl fun r=>za0 (.bool (!a0)) r (fun R=>y_un r (u:=(.bool a0)) rfl rfl) rfl fun fr r=>wn ?_)));refine wp_cond_split (t:=(!a0)) (r.ev rfl) (fun h4=>?_) (fun h4=>?_)
 ·
  refine wsr (kG (zpe c0) 6 r rfl (keep hB c0h) ta23 rfl rfl fun r=>?_);have hF1:=zpv hF hB b1
  refine kD r ((ih_free_Pop n kw) (kW F w0 w2 b1) _ hF1 c0) rfl zr8 rfl fun w5 v6 hb hr7 r=>?_;have Z5:=hb.size
  have H1:=keep hb H1;obtain ⟨hB,zB⟩:=bon hb hB;refine kP r hr7.shape rfl rfl H1 ts44 rfl rfl fun w8 u9 r=>?_;have Z8:=u9.size
  have H1:=u9.at_;obtain ⟨hB,zB⟩:=u9.on hB kw
  refine wn (wp_ret ?_);have hd:D.zcN r_free_Pop c0 c1 a0=(r_free_Pop c0):=(zal h4).trans (rfl);have hs:=hr7.shape.cells;refine za5 r rfl rfl H1 (k:=7) hs.1 ta44 ?_;rw [←hs.2.2,hd];exact rfin hF hB hr7 u9 kw kw kw
 refine wp_skip (wsr (kL (I c1) r rfl (keep hB c1h) to3 rfl rfl fun r=>?_));have hF1:=zpv hF hB b1
 refine kD r (zbl (F:=(kW F w0 w2 b1)) (n:=n) hF1 c1) rfl zq7 rfl fun w10 v11 hb hr12 r=>?_;have Z10:=hb.size
 have H1:=keep hb H1;obtain ⟨hB,zB⟩:=bon hb hB;refine kP r hr12.shape rfl rfl H1 ts44 rfl rfl fun w13 u14 r=>?_;have Z13:=u14.size
 have H1:=u14.at_;obtain ⟨hB,zB⟩:=u14.on hB kw
 refine wn (wp_ret ?_);have hd:D.zcN r_free_Pop c0 c1 a0=(D.zaX c1):=(zaf h4).trans (rfl);have hs:=hr12.shape.cells;refine za5 r rfl rfl H1 (k:=7) hs.1 ta44 ?_;rw [←hs.2.2,hd];exact rfin hF hB hr12 u14 kw kw kw
theorem zkp {r_free_Pop:Plan→T Int} (hF:kH F w0) (ih_free_Pop:∀ m,m<n→ze8 r_free_Pop m)
    (c0:Plan) {c0b:Nat} (c0F:F c0b) (c0h:w0.heap[c0b]?=some (.cells ((zpe c0)).toArray 23 (0,0))) (c1:Int) {c1b:Nat} (c1F:F c1b) (c1h:w0.heap[c1b]?=some (.cells ([(.int .u64 c1)]).toArray 36 (0,0))) (c2:Int) {c2b:Nat} (c2F:F c2b) (c2h:w0.heap[c2b]?=some (.cells ([(.int .i64 c2)]).toArray 3 (0,0))) (a0:Int) :
    Calls Tryz.prog 257 #[.int .u64 a0,zp c0b,zp c1b,zp c2b] w0 (zpl Tryz.prog zpi n (D.zev r_free_Pop c0 c1 c2 a0) F w0):=by
 refine kN Tryz.func257 rfl 14 rfl rfl fun fr r hB=>?_;have lc0b:=lt_of_block c0h
 have lc1b:=lt_of_block c1h;have lc2b:=lt_of_block c2h;refine wsr ?_;refine za7 (.cells (zpc false zpi.zero 0 0 0 0 .nilFunc) 44 (0,0)) r (fun R=>za6 tz44) rfl fun fr b1 w2 n3 r=>?_;obtain ⟨E1,Z2,H1,hB,zB⟩:=n3.all hB
 refine wn (wp_seq ?_);refine zaM 7 [.val (.agg (zpe c0).toArray),.val (I (D.zaT c0)),.val (U c1),.val (U c1),.val (U a0),.val (U (D.zcC c1 a0)),.val (.func (.func 260) #[] #[zp c0b,zp c2b])] mixed r kz (kV (kV (kV (kV (kV (kV (kV zaB))))))) ?_ ?_
 ·
  refine ec r (fun _ u _ b d s=>zag s (cs:=(zpe c0)) (n:=6) rfl (zpR hB b c0h) ta23 rfl bz) (ec r (fun fr1 u w' hb' hd r'=>zaC r' (args:=[(.agg (zpe c0).toArray)]) (lc hd.1 l0) zql ((zc9 _ c0).mono (by rintro _ w2 ⟨rfl,hb2⟩; exact ⟨_,rfl,hb2,rfl⟩))) (ec r (fun _ u _ b d s=>za4 s rfl (zpR hB b c1h) to36 rfl bz) (ec r (fun _ u _ b d s=>za4 s rfl (zpR hB b c1h) to36 rfl bz) (ec r (fun _ u _ b d s=>zav s rfl bz) (ec r (fun fr1 u w' hb' hd r'=>zaC r' (args:=[(U c1),(U a0)]) (lc hd.1 (lc hd.2.1 l0)) zrx ((ziA _ c1 a0).mono (by rintro _ w2 ⟨rfl,hb2⟩; exact ⟨_,rfl,hb2,rfl⟩))) (ec r (fun _ u _ b d s=>zae s (v:=(.func (.func 260) #[] #[zp c0b,zp c2b])) rfl bz) ?_))))));exact zaW
 intro fr u w4 hb hΦ hne r;have r:=r.congr (sc (hΦ 6 ke) (sc (hΦ 5 ke) (sc (hΦ 4 ke) (sc (hΦ 3 ke) (sc (hΦ 2 ke) (sc (hΦ 1 ke) (sc (hΦ 0 ke) rfl)))))));have Z4:=hb.size;have H1:=keep hb H1;obtain ⟨hB,zB⟩:=bon hb hB;have hF1:=zpv hF hB b1;have f5:((kW F w0 w4 b1)) c0b:=(.inl c0F);have f6:((kW F w0 w4 b1)) c2b:=(.inl c2F);refine kD r (zgK (F:=(kW F w0 w4 b1)) (n:=n) hF1 (D.zaT c0) c1 (D.zcC c1 a0) ⟨260,[],[zp c0b,zp c2b],zsH,rfl,fun m hm x w' hs hz=>zjs (fun b hb=>Nat.lt_of_lt_of_le (hF1 b hb) hz) (fun m' hm'=>ih_free_Pop m' kw) c0 f5 (hs.at_ f5 (keep hB c0h)) c2 f6 (hs.at_ f6 (keep hB c2h)) x⟩) rfl zrF rfl fun w7 v8 hb hr9 r=>?_;have Z7:=hb.size
 have H1:=keep hb H1;obtain ⟨hB,zB⟩:=bon hb hB;refine kP r hr9.shape rfl rfl H1 ts44 rfl rfl fun w10 u11 r=>?_;have Z10:=u11.size
 have H1:=u11.at_;obtain ⟨hB,zB⟩:=u11.on hB kw
 exact wn (wp_ret (kR r hr9 rfl rfl H1 rfl ta44 hF hB u11 kw kw kw))
theorem zlH {r_free_Pop:Plan→T Int} (hF:kH F w0) (ih_free_Pop:∀ m,m<n→ze8 r_free_Pop m)
    (c0:Plan) {c0b:Nat} (c0F:F c0b) (c0h:w0.heap[c0b]?=some (.cells ((zpe c0)).toArray 23 (0,0))) (a0:Int) :
    Calls Tryz.prog 255 #[.int .u64 a0,zp c0b] w0 (zpl Tryz.prog zpi n (D.zdJ r_free_Pop c0 a0) F w0):=by
 refine kN Tryz.func255 rfl 18 rfl rfl fun fr r hB=>?_;have lc0b:=lt_of_block c0h
 refine wsr ?_;refine kX 36 (U a0) r rfl rfl fun b1 w2 n3 r=>?_;obtain ⟨E1,Z2,H1,hB,zB⟩:=n3.all hB
 refine za7 (.cells (zpc false zpi.zero 0 0 0 0 .nilFunc) 44 (0,0)) r (fun R=>za6 tz44) rfl fun fr b4 w5 n6 r=>?_;have H1:=keep n6.below H1
 obtain ⟨E4,Z5,H4,hB,zB⟩:=n6.all hB;refine wn (wp_seq ?_);refine zaM 6 [.val (.agg (zpn D.zaO).toArray),.val (U a0),.val (U (D.zaa D.zaO a0)),.val (I (W (D.zaa D.zaO a0))),.val (I (W ((W (D.zaa D.zaO a0)) - 1))),.new w5.heap.size (.cells #[(I 0)] 3 (0,0))] mixed r kz (kV (kV (kV (kV (kV (zaJ (Nat.le_refl _) zaB)))))) ?_ ?_
 ·
  refine ec r (fun fr1 u w' hb' hd r'=>zaC r' (args:=[]) (l0) zqK ((zg1 _ ).mono (by rintro _ w2 ⟨rfl,hb2⟩; exact ⟨_,rfl,hb2,rfl⟩))) (ec r (fun _ u _ b d s=>za4 s rfl (keep b H1) to36 rfl bz) (ec r (fun fr1 u w' hb' hd r'=>zaC r' (args:=[(.agg (zpn D.zaO).toArray),(U a0)]) (lc hd.1 (lc hd.2.1 l0)) zqj ((zcw _ D.zaO a0).mono (by rintro _ w2 ⟨rfl,hb2⟩; exact ⟨_,rfl,hb2,rfl⟩))) (ec r (fun _ u _ b d s=>zb3 s (n:=(D.zaa D.zaO a0)) d.1 ti36 ti3 bz) (ec r (fun _ u _ b d s=>zpB s d.1 rfl rfl rfl bz) (ec r (fun fr1 u w' hb' hd r'=>za6 tz3 (fun b w2 n2=>⟨n2.below,b,rfl,Nat.le_of_eq n2.eq.symm,n2.at_⟩)) ?_)))));exact zaW
 intro fr u w7 hb hΦ hne r;obtain ⟨b8,g5,E8,H8⟩:=hΦ 5 ke;have l_b8:=lt_of_block H8;have r:=r.congr (sc g5 (sc (hΦ 4 ke) (sc (hΦ 3 ke) (sc (hΦ 2 ke) (sc (hΦ 1 ke) (sc (hΦ 0 ke) rfl))))));have Z7:=hb.size;have H1:=keep hb H1;have H4:=keep hb H4;obtain ⟨hB,zB⟩:=bon hb hB;refine zaS (.cells #[(I (W ((W (D.zaa D.zaO a0)) - 1)))] 3 (0,0)) r (fun R=>zaN r (o:=0) (v:=(I (W ((W (D.zaa D.zaO a0)) - 1)))) rfl rfl H8 ts3 (Nat.le_of_ble_eq_true rfl) rfl rfl) rfl fun fr w9 u10 r=>?_;have Z9:=u10.size
 have H1:=u10.keep H1 kw
 have H4:=u10.keep H4 kw
 have H8:=u10.at_;obtain ⟨hB,zB⟩:=u10.on hB kw
 refine wn (wp_seq (wsr (kL (I (W ((W (D.zaa D.zaO a0)) - 1))) r rfl H8 to3 rfl rfl fun r=>kB r rfl rfl rfl rfl rfl fun r=>wn ?_)));refine wp_cond_split (t:=(decide ((W ((W (D.zaa D.zaO a0)) - 1))<0))) (r.ev rfl) (fun h11=>?_) (fun h11=>?_)
 ·
  refine wsr ?_;have hF1:=zpv hF hB b4;refine kD r (zbl (F:=(kW F w0 w9 b4)) (n:=n) hF1 (-1)) rfl zq7 rfl fun w12 v13 hb hr14 r=>?_;have Z12:=hb.size
  have H1:=keep hb H1;have H4:=keep hb H4;have H8:=keep hb H8;obtain ⟨hB,zB⟩:=bon hb hB;refine kP r hr14.shape rfl rfl H4 ts44 rfl rfl fun w15 u16 r=>?_;have Z15:=u16.size
  have H1:=u16.keep H1 kw
  have H8:=u16.keep H8 kw
  have H4:=u16.at_;obtain ⟨hB,zB⟩:=u16.on hB kw
  refine wn (wp_ret ?_);have hd:D.zdJ r_free_Pop c0 a0=(D.zaX (-1)):=(zal h11).trans (rfl);have hs:=hr14.shape.cells;refine za5 r rfl rfl H4 (k:=7) hs.1 ta44 ?_;rw [←hs.2.2,hd];exact rfin hF hB hr14 u16 kw kw kw
 refine wp_skip (wsr (kG (zpe c0) 6 r rfl (keep hB c0h) ta23 rfl rfl fun r=>kL (I (W ((W (D.zaa D.zaO a0)) - 1))) r rfl H8 to3 rfl rfl fun r=>?_));refine kE r (zcG w9 c0 (W ((W (D.zaa D.zaO a0)) - 1))) rfl zqy rfl fun w17 hb r=>?_
 have Z17:=hb.size;have H1:=keep hb H1;have H4:=keep hb H4;have H8:=keep hb H8;obtain ⟨hB,zB⟩:=bon hb hB;refine za0 (.func (.func 257) #[] #[zp c0b,zp b1,zp b8]) r (fun R=>zae r rfl) rfl fun fr r=>?_;have hF1:=zpv hF hB b4
 have f18:((kW F w0 w17 b4)) c0b:=(.inl c0F);have f19:((kW F w0 w17 b4)) b1:=(.inr ⟨kw,kw,kw⟩)
 have f20:((kW F w0 w17 b4)) b8:=(.inr ⟨kw,kw,kw⟩)
 refine kD r (zbF (F:=(kW F w0 w17 b4)) (n:=n) hF1 (D.zaZ c0 (W ((W (D.zaa D.zaO a0)) - 1))) ⟨257,[],[zp c0b,zp b1,zp b8],zt2,rfl,fun m hm x w' hs hz=>zkp (fun b hb=>Nat.lt_of_lt_of_le (hF1 b hb) hz) (fun m' hm'=>ih_free_Pop m' kw) c0 f18 (hs.at_ f18 (keep hB c0h)) a0 f19 (hs.at_ f19 H1) (W ((W (D.zaa D.zaO a0)) - 1)) f20 (hs.at_ f20 H8) x⟩) rfl zqa rfl fun w21 v22 hb hr23 r=>?_;have Z21:=hb.size
 have H1:=keep hb H1;have H4:=keep hb H4;have H8:=keep hb H8;obtain ⟨hB,zB⟩:=bon hb hB;refine kP r hr23.shape rfl rfl H4 ts44 rfl rfl fun w24 u25 r=>?_;have Z24:=u25.size
 have H1:=u25.keep H1 kw
 have H8:=u25.keep H8 kw
 have H4:=u25.at_;obtain ⟨hB,zB⟩:=u25.on hB kw
 refine wn (wp_ret ?_);have hd:D.zdJ r_free_Pop c0 a0=(D.zb7 (D.zaZ c0 (W ((W (D.zaa D.zaO a0)) - 1))) (fun x=>(D.zev r_free_Pop c0 a0 (W ((W (D.zaa D.zaO a0)) - 1)) x))):=(zaf h11).trans (rfl)
 have hs:=hr23.shape.cells;refine za5 r rfl rfl H4 (k:=7) hs.1 ta44 ?_;rw [←hs.2.2,hd];exact rfin hF hB hr23 u25 kw kw kw
theorem zn4 {n:Nat} {F:Nat→Prop} {r_free_Pop:Plan→T Int} {w0:World} (hF:∀ b,F b→b<w0.heap.size) (ih_free_Pop:∀ m,m<n→ze8 r_free_Pop m)
    (a0:Plan) :
    Calls Tryz.prog 158 #[.agg (zpe a0).toArray] w0 (zpl Tryz.prog zpi n (D.zdf r_free_Pop a0) F w0):=by
 refine kN Tryz.func158 rfl 7 rfl rfl fun fr r hB=>?_;refine wsr ?_
 refine kX 23 (.agg (zpe a0).toArray) r rfl rfl fun b1 w2 n3 r=>?_;obtain ⟨E1,Z2,H1,hB,zB⟩:=n3.all hB
 refine za7 (.cells (zpc false zpi.zero 0 0 0 0 .nilFunc) 44 (0,0)) r (fun R=>za6 tz44) rfl fun fr b4 w5 n6 r=>?_;have H1:=keep n6.below H1
 obtain ⟨E4,Z5,H4,hB,zB⟩:=n6.all hB;refine wn (wsr (kG (zpe a0) 6 r rfl H1 ta23 rfl rfl fun r=>?_));refine kE r (zc9 w5 a0) rfl zql rfl fun w7 hb r=>?_
 have Z7:=hb.size;have H1:=keep hb H1;have H4:=keep hb H4;obtain ⟨hB,zB⟩:=bon hb hB;refine za0 (.func (.func 255) #[] #[zp b1]) r (fun R=>zae r rfl) rfl fun fr r=>?_;have hF1:=zpv hF hB b4
 have f8:((kW F w0 w7 b4)) b1:=(.inr ⟨kw,kw,kw⟩)
 refine kD r (zbF (F:=(kW F w0 w7 b4)) (n:=n) hF1 (D.zaT a0) ⟨255,[],[zp b1],zu2,rfl,fun m hm x w' hs hz=>zlH (fun b hb=>Nat.lt_of_lt_of_le (hF1 b hb) hz) (fun m' hm'=>ih_free_Pop m' kw) a0 f8 (hs.at_ f8 H1) x⟩) rfl zqa rfl fun w9 v10 hb hr11 r=>?_;have Z9:=hb.size
 have H1:=keep hb H1;have H4:=keep hb H4;obtain ⟨hB,zB⟩:=bon hb hB;refine kP r hr11.shape rfl rfl H4 ts44 rfl rfl fun w12 u13 r=>?_;have Z12:=u13.size
 have H1:=u13.keep H1 kw
 have H4:=u13.at_;obtain ⟨hB,zB⟩:=u13.on hB kw
 exact wn (wp_ret (kR r hr11 rfl rfl H4 rfl ta44 hF hB u13 kw kw kw))
theorem zkH {n:Nat} {k:Nat} (hk:n<k):ze8 (D.zbM k) n:=by
  induction n using Nat.strongRecOn generalizing k with
  | _ n ih=>
    obtain ⟨k,rfl⟩:∃ q,k=q+1:=⟨k - 1,kw⟩
    intro F w0 hF;have h:=@zn4 n F (D.zbM k) w0 hF (fun m hm=>ih m hm kw)
    exact h
def D.zct (r_free_Push:Plan→Int→T Int) (c0:Plan) (c1:Int) (a0:Bool):T Int:=(bif (!a0) then (r_free_Push c0 c1) else (D.zaX c1))
def D.zeW (r_free_Push:Plan→Int→T Int) (c0:Plan) (c1:Int) (c2:Int):T Int:=(D.zg6 (D.zaT c0) c1 (D.zcC c1 (D.zbH c2)) (fun x=>(D.zct r_free_Push c0 c2 x)))
def D.zfc (r_free_Push:Plan→Int→T Int) (c0:Plan) (c1:Int) (a0:Int):T Int:=(D.zbc (D.zaZ c0 c1) (D.zaa D.zaO a0) (fun _=>(D.zeW r_free_Push c0 a0 c1)))
def D.zcL (r_free_Push:Plan→Int→T Int) (a0:Plan) (a1:Int):T Int:=(bif ((D.zaZ a0 a1)==(-1)) then (D.zaX (-1)) else (D.zb7 (D.zaT a0) (fun x=>(D.zfc r_free_Push a0 a1 x))))
def D.zd4:Nat→Plan→Int→T Int
  | 0,_,_=>.cut
  | k+1,a0,a1=>D.zcL (D.zd4 k) a0 a1
def zdl (r:Plan→Int→T Int) (n:Nat):Prop:=∀ (F:Nat→Prop) (w0:World),(∀ b,F b→b<w0.heap.size)→∀ (a0:Plan) (a1:Int),Calls Tryz.prog 313 #[.agg (zpe a0).toArray,.int .i64 a1] w0 (zpl Tryz.prog zpi n (r a0 a1) F w0)
theorem ziQ {r_free_Push:Plan→Int→T Int} (hF:kH F w0) (ih_free_Push:∀ m,m≤n→zdl r_free_Push m)
    (c0:Plan) {c0b:Nat} (c0F:F c0b) (c0h:w0.heap[c0b]?=some (.cells ((zpe c0)).toArray 23 (0,0))) (c1:Int) {c1b:Nat} (c1F:F c1b) (c1h:w0.heap[c1b]?=some (.cells ([(.int .i64 c1)]).toArray 3 (0,0))) (a0:Bool) :
    Calls Tryz.prog 361 #[.bool a0,zp c0b,zp c1b] w0 (zpl Tryz.prog zpi n (D.zct r_free_Push c0 c1 a0) F w0):=by
 refine kN Tryz.func361 rfl 12 rfl rfl fun fr r hB=>?_;have lc0b:=lt_of_block c0h
 have lc1b:=lt_of_block c1h;refine wsr ?_;refine za7 (.cells (zpc false zpi.zero 0 0 0 0 .nilFunc) 44 (0,0)) r (fun R=>za6 tz44) rfl fun fr b1 w2 n3 r=>?_;obtain ⟨E1,Z2,H1,hB,zB⟩:=n3.all hB
 refine wn (wp_seq (wsr (kM (.bool a0) r rfl rfl fun r=>za0 (.bool (!a0)) r (fun R=>y_un r (u:=(.bool a0)) rfl rfl) rfl fun fr r=>wn ?_)));refine wp_cond_split (t:=(!a0)) (r.ev rfl) (fun h4=>?_) (fun h4=>?_)
 ·
  refine wsr (kG (zpe c0) 6 r rfl (keep hB c0h) ta23 rfl rfl fun r=>kL (I c1) r rfl (keep hB c1h) to3 rfl rfl fun r=>?_);have hF1:=zpv hF hB b1
  refine kD r ((ih_free_Push n kw) (kW F w0 w2 b1) _ hF1 c0 c1) rfl zso rfl fun w5 v6 hb hr7 r=>?_;have Z5:=hb.size
  have H1:=keep hb H1;obtain ⟨hB,zB⟩:=bon hb hB;refine kP r hr7.shape rfl rfl H1 ts44 rfl rfl fun w8 u9 r=>?_;have Z8:=u9.size
  have H1:=u9.at_;obtain ⟨hB,zB⟩:=u9.on hB kw
  refine wn (wp_ret ?_);have hd:D.zct r_free_Push c0 c1 a0=(r_free_Push c0 c1):=(zal h4).trans (rfl);have hs:=hr7.shape.cells;refine za5 r rfl rfl H1 (k:=7) hs.1 ta44 ?_;rw [←hs.2.2,hd];exact rfin hF hB hr7 u9 kw kw kw
 refine wp_skip (wsr (kL (I c1) r rfl (keep hB c1h) to3 rfl rfl fun r=>?_));have hF1:=zpv hF hB b1
 refine kD r (zbl (F:=(kW F w0 w2 b1)) (n:=n) hF1 c1) rfl zq7 rfl fun w10 v11 hb hr12 r=>?_;have Z10:=hb.size
 have H1:=keep hb H1;obtain ⟨hB,zB⟩:=bon hb hB;refine kP r hr12.shape rfl rfl H1 ts44 rfl rfl fun w13 u14 r=>?_;have Z13:=u14.size
 have H1:=u14.at_;obtain ⟨hB,zB⟩:=u14.on hB kw
 refine wn (wp_ret ?_);have hd:D.zct r_free_Push c0 c1 a0=(D.zaX c1):=(zaf h4).trans (rfl);have hs:=hr12.shape.cells;refine za5 r rfl rfl H1 (k:=7) hs.1 ta44 ?_;rw [←hs.2.2,hd];exact rfin hF hB hr12 u14 kw kw kw
theorem zkb {r_free_Push:Plan→Int→T Int} (hF:kH F w0) (ih_free_Push:∀ m,m<n→zdl r_free_Push m)
    (c0:Plan) {c0b:Nat} (c0F:F c0b) (c0h:w0.heap[c0b]?=some (.cells ((zpe c0)).toArray 23 (0,0))) (c1:Int) {c1b:Nat} (c1F:F c1b) (c1h:w0.heap[c1b]?=some (.cells ([(.int .u64 c1)]).toArray 36 (0,0))) (c2:Int) {c2b:Nat} (c2F:F c2b) (c2h:w0.heap[c2b]?=some (.cells ([(.int .i64 c2)]).toArray 3 (0,0))) :
    Calls Tryz.prog 360 #[zp c0b,zp c1b,zp c2b] w0 (zpl Tryz.prog zpi n (D.zeW r_free_Push c0 c1 c2) F w0):=by
 refine kN Tryz.func360 rfl 13 rfl rfl fun fr r hB=>?_;have lc0b:=lt_of_block c0h
 have lc1b:=lt_of_block c1h;have lc2b:=lt_of_block c2h;refine wsr ?_;refine za7 (.cells (zpc false zpi.zero 0 0 0 0 .nilFunc) 44 (0,0)) r (fun R=>za6 tz44) rfl fun fr b1 w2 n3 r=>?_;obtain ⟨E1,Z2,H1,hB,zB⟩:=n3.all hB
 refine wn (wp_seq ?_);refine zaM 8 [.val (.agg (zpe c0).toArray),.val (I (D.zaT c0)),.val (U c1),.val (U c1),.val (I c2),.val (U (D.zbH c2)),.val (U (D.zcC c1 (D.zbH c2))),.val (.func (.func 361) #[] #[zp c0b,zp c2b])] mixed r kz (kV (kV (kV (kV (kV (kV (kV (kV zaB)))))))) ?_ ?_
 ·
  refine ec r (fun _ u _ b d s=>zag s (cs:=(zpe c0)) (n:=6) rfl (zpR hB b c0h) ta23 rfl bz) (ec r (fun fr1 u w' hb' hd r'=>zaC r' (args:=[(.agg (zpe c0).toArray)]) (lc hd.1 l0) zql ((zc9 _ c0).mono (by rintro _ w2 ⟨rfl,hb2⟩; exact ⟨_,rfl,hb2,rfl⟩))) (ec r (fun _ u _ b d s=>za4 s rfl (zpR hB b c1h) to36 rfl bz) (ec r (fun _ u _ b d s=>za4 s rfl (zpR hB b c1h) to36 rfl bz) (ec r (fun _ u _ b d s=>za4 s rfl (zpR hB b c2h) to3 rfl bz) (ec r (fun fr1 u w' hb' hd r'=>zaC r' (args:=[(I c2)]) (lc hd.1 l0) zr5 ((zi6 _ c2).mono (by rintro _ w2 ⟨rfl,hb2⟩; exact ⟨_,rfl,hb2,rfl⟩))) (ec r (fun fr1 u w' hb' hd r'=>zaC r' (args:=[(U c1),(U (D.zbH c2))]) (lc hd.1 (lc hd.2.1 l0)) zrx ((ziA _ c1 (D.zbH c2)).mono (by rintro _ w2 ⟨rfl,hb2⟩; exact ⟨_,rfl,hb2,rfl⟩))) (ec r (fun _ u _ b d s=>zae s (v:=(.func (.func 361) #[] #[zp c0b,zp c2b])) rfl bz) ?_)))))));exact zaW
 intro fr u w4 hb hΦ hne r;have r:=r.congr (sc (hΦ 7 ke) (sc (hΦ 6 ke) (sc (hΦ 5 ke) (sc (hΦ 4 ke) (sc (hΦ 3 ke) (sc (hΦ 2 ke) (sc (hΦ 1 ke) (sc (hΦ 0 ke) rfl))))))));have Z4:=hb.size;have H1:=keep hb H1;obtain ⟨hB,zB⟩:=bon hb hB;have hF1:=zpv hF hB b1;have f5:((kW F w0 w4 b1)) c0b:=(.inl c0F);have f6:((kW F w0 w4 b1)) c2b:=(.inl c2F);refine kD r (zgK (F:=(kW F w0 w4 b1)) (n:=n) hF1 (D.zaT c0) c1 (D.zcC c1 (D.zbH c2)) ⟨361,[],[zp c0b,zp c2b],ztq,rfl,fun m hm x w' hs hz=>ziQ (fun b hb=>Nat.lt_of_lt_of_le (hF1 b hb) hz) (fun m' hm'=>ih_free_Push m' kw) c0 f5 (hs.at_ f5 (keep hB c0h)) c2 f6 (hs.at_ f6 (keep hB c2h)) x⟩) rfl zrF rfl fun w7 v8 hb hr9 r=>?_;have Z7:=hb.size
 have H1:=keep hb H1;obtain ⟨hB,zB⟩:=bon hb hB;refine kP r hr9.shape rfl rfl H1 ts44 rfl rfl fun w10 u11 r=>?_;have Z10:=u11.size
 have H1:=u11.at_;obtain ⟨hB,zB⟩:=u11.on hB kw
 exact wn (wp_ret (kR r hr9 rfl rfl H1 rfl ta44 hF hB u11 kw kw kw))
theorem zlz {r_free_Push:Plan→Int→T Int} (hF:kH F w0) (ih_free_Push:∀ m,m<n→zdl r_free_Push m)
    (c0:Plan) {c0b:Nat} (c0F:F c0b) (c0h:w0.heap[c0b]?=some (.cells ((zpe c0)).toArray 23 (0,0))) (c1:Int) {c1b:Nat} (c1F:F c1b) (c1h:w0.heap[c1b]?=some (.cells ([(.int .i64 c1)]).toArray 3 (0,0))) (a0:Int) :
    Calls Tryz.prog 359 #[.int .u64 a0,zp c0b,zp c1b] w0 (zpl Tryz.prog zpi n (D.zfc r_free_Push c0 c1 a0) F w0):=by
 refine kN Tryz.func359 rfl 13 rfl rfl fun fr r hB=>?_;have lc0b:=lt_of_block c0h
 have lc1b:=lt_of_block c1h;refine wsr ?_;refine kX 36 (U a0) r rfl rfl fun b1 w2 n3 r=>?_;obtain ⟨E1,Z2,H1,hB,zB⟩:=n3.all hB
 refine za7 (.cells (zpc false zpi.zero 0 0 0 0 .nilFunc) 44 (0,0)) r (fun R=>za6 tz44) rfl fun fr b4 w5 n6 r=>?_;have H1:=keep n6.below H1
 obtain ⟨E4,Z5,H4,hB,zB⟩:=n6.all hB;refine wn (wp_seq ?_);refine zaM 7 [.val (.agg (zpe c0).toArray),.val (I c1),.val (I (D.zaZ c0 c1)),.val (.agg (zpn D.zaO).toArray),.val (U a0),.val (U (D.zaa D.zaO a0)),.val (.func (.func 360) #[] #[zp c0b,zp b1,zp c1b])] mixed r kz (kV (kV (kV (kV (kV (kV (kV zaB))))))) ?_ ?_
 ·
  refine ec r (fun _ u _ b d s=>zag s (cs:=(zpe c0)) (n:=6) rfl (zpR hB b c0h) ta23 rfl bz) (ec r (fun _ u _ b d s=>za4 s rfl (zpR hB b c1h) to3 rfl bz) (ec r (fun fr1 u w' hb' hd r'=>zaC r' (args:=[(.agg (zpe c0).toArray),(I c1)]) (lc hd.1 (lc hd.2.1 l0)) zqy ((zcG _ c0 c1).mono (by rintro _ w2 ⟨rfl,hb2⟩; exact ⟨_,rfl,hb2,rfl⟩))) (ec r (fun fr1 u w' hb' hd r'=>zaC r' (args:=[]) (l0) zqK ((zg1 _ ).mono (by rintro _ w2 ⟨rfl,hb2⟩; exact ⟨_,rfl,hb2,rfl⟩))) (ec r (fun _ u _ b d s=>za4 s rfl (keep b H1) to36 rfl bz) (ec r (fun fr1 u w' hb' hd r'=>zaC r' (args:=[(.agg (zpn D.zaO).toArray),(U a0)]) (lc hd.1 (lc hd.2.1 l0)) zqj ((zcw _ D.zaO a0).mono (by rintro _ w2 ⟨rfl,hb2⟩; exact ⟨_,rfl,hb2,rfl⟩))) (ec r (fun _ u _ b d s=>zae s (v:=(.func (.func 360) #[] #[zp c0b,zp b1,zp c1b])) rfl bz) ?_))))));exact zaW
 intro fr u w7 hb hΦ hne r;have r:=r.congr (sc (hΦ 6 ke) (sc (hΦ 5 ke) (sc (hΦ 4 ke) (sc (hΦ 3 ke) (sc (hΦ 2 ke) (sc (hΦ 1 ke) (sc (hΦ 0 ke) rfl)))))));have Z7:=hb.size;have H1:=keep hb H1;have H4:=keep hb H4;obtain ⟨hB,zB⟩:=bon hb hB;have hF1:=zpv hF hB b4;have f8:((kW F w0 w7 b4)) c0b:=(.inl c0F);have f9:((kW F w0 w7 b4)) b1:=(.inr ⟨kw,kw,kw⟩)
 have f10:((kW F w0 w7 b4)) c1b:=(.inl c1F);refine kD r (zbG (F:=(kW F w0 w7 b4)) (n:=n) hF1 (D.zaZ c0 c1) (D.zaa D.zaO a0) ⟨360,[],[zp c0b,zp b1,zp c1b],ztG,rfl,fun m hm _ w' hs hz=>zkb (fun b hb=>Nat.lt_of_lt_of_le (hF1 b hb) hz) (fun m' hm'=>ih_free_Push m' kw) c0 f8 (hs.at_ f8 (keep hB c0h)) a0 f9 (hs.at_ f9 H1) c1 f10 (hs.at_ f10 (keep hB c1h))⟩) rfl zqc rfl fun w11 v12 hb hr13 r=>?_;have Z11:=hb.size
 have H1:=keep hb H1;have H4:=keep hb H4;obtain ⟨hB,zB⟩:=bon hb hB;refine kP r hr13.shape rfl rfl H4 ts44 rfl rfl fun w14 u15 r=>?_;have Z14:=u15.size
 have H1:=u15.keep H1 kw
 have H4:=u15.at_;obtain ⟨hB,zB⟩:=u15.on hB kw
 exact wn (wp_ret (kR r hr13 rfl rfl H4 rfl ta44 hF hB u15 kw kw kw))
theorem zmb {n:Nat} {F:Nat→Prop} {r_free_Push:Plan→Int→T Int} {w0:World} (hF:∀ b,F b→b<w0.heap.size) (ih_free_Push:∀ m,m<n→zdl r_free_Push m)
    (a0:Plan) (a1:Int) :
    Calls Tryz.prog 313 #[.agg (zpe a0).toArray,.int .i64 a1] w0 (zpl Tryz.prog zpi n (D.zcL r_free_Push a0 a1) F w0):=by
 refine kN Tryz.func313 rfl 14 rfl rfl fun fr r hB=>?_;refine wsr ?_
 refine kX 23 (.agg (zpe a0).toArray) r rfl rfl fun b1 w2 n3 r=>?_;obtain ⟨E1,Z2,H1,hB,zB⟩:=n3.all hB
 refine kX 3 (I a1) r rfl rfl fun b4 w5 n6 r=>?_;have H1:=keep n6.below H1
 obtain ⟨E4,Z5,H4,hB,zB⟩:=n6.all hB;refine za7 (.cells (zpc false zpi.zero 0 0 0 0 .nilFunc) 44 (0,0)) r (fun R=>za6 tz44) rfl fun fr b7 w8 n9 r=>?_;have H1:=keep n9.below H1
 have H4:=keep n9.below H4;obtain ⟨E7,Z8,H7,hB,zB⟩:=n9.all hB;refine wn (wp_seq (wsr (kG (zpe a0) 6 r rfl H1 ta23 rfl rfl fun r=>kL (I a1) r rfl H4 to3 rfl rfl fun r=>?_)));refine kE r (zcG w8 a0 a1) rfl zqy rfl fun w10 hb r=>?_
 have Z10:=hb.size;have H1:=keep hb H1;have H4:=keep hb H4;have H7:=keep hb H7;obtain ⟨hB,zB⟩:=bon hb hB;refine kB r rfl rfl rfl rfl rfl fun r=>wn ?_;refine wp_cond_split (t:=((D.zaZ a0 a1)==(-1))) (r.ev rfl) (fun h11=>?_) (fun h11=>?_)
 ·
  refine wsr ?_;have hF1:=zpv hF hB b7;refine kD r (zbl (F:=(kW F w0 w10 b7)) (n:=n) hF1 (-1)) rfl zq7 rfl fun w12 v13 hb hr14 r=>?_;have Z12:=hb.size
  have H1:=keep hb H1;have H4:=keep hb H4;have H7:=keep hb H7;obtain ⟨hB,zB⟩:=bon hb hB;refine kP r hr14.shape rfl rfl H7 ts44 rfl rfl fun w15 u16 r=>?_;have Z15:=u16.size
  have H1:=u16.keep H1 kw
  have H4:=u16.keep H4 kw
  have H7:=u16.at_;obtain ⟨hB,zB⟩:=u16.on hB kw
  refine wn (wp_ret ?_);have hd:D.zcL r_free_Push a0 a1=(D.zaX (-1)):=(zal h11).trans (rfl);have hs:=hr14.shape.cells;refine za5 r rfl rfl H7 (k:=7) hs.1 ta44 ?_;rw [←hs.2.2,hd];exact rfin hF hB hr14 u16 kw kw kw
 refine wp_skip (wsr (kG (zpe a0) 6 r rfl H1 ta23 rfl rfl fun r=>?_));refine kE r (zc9 w10 a0) rfl zql rfl fun w17 hb r=>?_
 have Z17:=hb.size;have H1:=keep hb H1;have H4:=keep hb H4;have H7:=keep hb H7;obtain ⟨hB,zB⟩:=bon hb hB;refine za0 (.func (.func 359) #[] #[zp b1,zp b4]) r (fun R=>zae r rfl) rfl fun fr r=>?_;have hF1:=zpv hF hB b7
 have f18:((kW F w0 w17 b7)) b1:=(.inr ⟨kw,kw,kw⟩)
 have f19:((kW F w0 w17 b7)) b4:=(.inr ⟨kw,kw,kw⟩)
 refine kD r (zbF (F:=(kW F w0 w17 b7)) (n:=n) hF1 (D.zaT a0) ⟨359,[],[zp b1,zp b4],ztH,rfl,fun m hm x w' hs hz=>zlz (fun b hb=>Nat.lt_of_lt_of_le (hF1 b hb) hz) (fun m' hm'=>ih_free_Push m' kw) a0 f18 (hs.at_ f18 H1) a1 f19 (hs.at_ f19 H4) x⟩) rfl zqa rfl fun w20 v21 hb hr22 r=>?_;have Z20:=hb.size
 have H1:=keep hb H1;have H4:=keep hb H4;have H7:=keep hb H7;obtain ⟨hB,zB⟩:=bon hb hB;refine kP r hr22.shape rfl rfl H7 ts44 rfl rfl fun w23 u24 r=>?_;have Z23:=u24.size
 have H1:=u24.keep H1 kw
 have H4:=u24.keep H4 kw
 have H7:=u24.at_;obtain ⟨hB,zB⟩:=u24.on hB kw
 refine wn (wp_ret ?_);have hd:D.zcL r_free_Push a0 a1=(D.zb7 (D.zaT a0) (fun x=>(D.zfc r_free_Push a0 a1 x))):=(zaf h11).trans (rfl)
 have hs:=hr22.shape.cells;refine za5 r rfl rfl H7 (k:=7) hs.1 ta44 ?_;rw [←hs.2.2,hd];exact rfin hF hB hr22 u24 kw kw kw
theorem zmc {n:Nat} {k:Nat} (hk:n<k):zdl (D.zd4 k) n:=by
  induction n using Nat.strongRecOn generalizing k with
  | _ n ih=>
    obtain ⟨k,rfl⟩:∃ q,k=q+1:=⟨k - 1,kw⟩
    intro F w0 hF;have h:=@zmb n F (D.zd4 k) w0 hF (fun m hm=>ih m hm kw)
    exact h
end
end Go.Proofs.YtikjpdpgdmbdpaaGreat

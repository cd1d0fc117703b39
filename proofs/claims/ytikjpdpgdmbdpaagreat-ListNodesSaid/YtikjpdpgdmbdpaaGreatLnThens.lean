/- Ours. -/
import Derived.Test.YtikjpdpgdmbdpaaGreatLnM6
import Derived.Test.YtikjpdpgdmbdpaaGreatLnMems
set_option linter.all false
set_option maxRecDepth 20000
set_option maxHeartbeats 2000000
namespace Go.Proofs.YtikjpdpgdmbdpaaGreat
open Go.RowKit
section
variable {n : Nat} {F : Nat → Prop} {j : Nat} {w0 : World}
theorem zs4:zpd Tryz.prog 113:=kz
theorem zqR:zpd Tryz.prog 157:=kz
theorem zqW:zpd Tryz.prog 188:=kz
theorem zqh:zpd Tryz.prog 210:=kz
theorem ztS:zpd Tryz.prog 211:=kz
theorem zr7:zpd Tryz.prog 214:=kz
theorem zqT:zpd Tryz.prog 253:=kz
theorem zup:zpd Tryz.prog 254:=kz
theorem zqr:zpd Tryz.prog 267:=kz
theorem zqw:zpd Tryz.prog 271:=kz
theorem ztE:zpd Tryz.prog 280:=kz
theorem ztu:zpd Tryz.prog 306:=kz
theorem zsg:zpd Tryz.prog 334:=kz
theorem zrL:zpd Tryz.prog 340:=kz
theorem zt5:zpd Tryz.prog 342:=kz
theorem zst:zpd Tryz.prog 356:=kz
theorem zrG:zpd Tryz.prog 362:=kz
theorem zrW:zpd Tryz.prog 364:=kz
theorem ztL:zpd Tryz.prog 383:=kz
theorem zte:zpd Tryz.prog 390:=kz
theorem zsP:zpd Tryz.prog 391:=kz
theorem zf9:zpm Tryz.prog 157 0 0:=kz
theorem zjU:zpm Tryz.prog 157 2 1:=kz
theorem zjX:zpm Tryz.prog 157 3 5:=kz
theorem znv:zpm Tryz.prog 268 0 0:=kz
theorem zor:zpm Tryz.prog 268 1 1:=kz
theorem zoG:zpm Tryz.prog 268 2 2:=kz
theorem zou:zpm Tryz.prog 268 3 6:=kz
theorem zni:zpm Tryz.prog 316 0 0:=kz
theorem zoo:zpm Tryz.prog 316 1 1:=kz
theorem zoT:zpm Tryz.prog 316 2 2:=kz
theorem zoY:zpm Tryz.prog 316 3 6:=kz
theorem zoi:zpm Tryz.prog 41 0 0:=kz
theorem zp4:zpm Tryz.prog 41 1 1:=kz
theorem zpb:zpm Tryz.prog 41 2 4:=kz
theorem zoZ:zpm Tryz.prog 41 3 8:=kz
theorem zjl:zpm Tryz.prog 44 0 0:=kz
theorem zmJ:zpm Tryz.prog 44 1 1:=kz
theorem zmG:zpm Tryz.prog 44 2 2:=kz
theorem zmF:zpm Tryz.prog 44 3 6:=kz
theorem zng:zpm Tryz.prog 57 0 0:=kz
theorem zp3:zpm Tryz.prog 57 1 1:=kz
theorem zp7:zpm Tryz.prog 57 2 3:=kz
theorem zp9:zpm Tryz.prog 57 3 7:=kz
theorem zqE:fieldZ Tryz.prog 157 1 1:=kz
theorem zqg:tyA Tryz.prog 152 0:=kz
theorem zpW:tyA Tryz.prog 157 6:=kz
theorem zq3:tyA Tryz.prog 268 7:=kz
theorem zqe:tyA Tryz.prog 316 7:=kz
theorem ta35:tyA Tryz.prog 35 3:=kz
theorem ta38:tyA Tryz.prog 38 4:=kz
theorem ta41:tyA Tryz.prog 41 9:=kz
theorem ta44:tyA Tryz.prog 44 7:=kz
theorem ta54:tyA Tryz.prog 54 2:=kz
theorem ta57:tyA Tryz.prog 57 8:=kz
theorem zqB:tyO Tryz.prog 155:=kz
theorem zss:tyO Tryz.prog 203:=kz
theorem zrh:tyO Tryz.prog 231:=kz
theorem zrS:tyO Tryz.prog 252:=kz
theorem zrp:tyO Tryz.prog 264:=kz
theorem zsY:tyO Tryz.prog 266:=kz
theorem zrd:tyO Tryz.prog 280:=kz
theorem zr3:tyO Tryz.prog 283:=kz
theorem zue:tyO Tryz.prog 314:=kz
theorem zs1:tyO Tryz.prog 319:=kz
theorem zrz:tyO Tryz.prog 325:=kz
theorem to39:tyO Tryz.prog 39:=kz
theorem to4:tyO Tryz.prog 4:=kz
theorem to42:tyO Tryz.prog 42:=kz
theorem to55:tyO Tryz.prog 55:=kz
theorem zpX:sized Tryz.prog 157 6:=kz
theorem zq4:sized Tryz.prog 268 7:=kz
theorem zqd:sized Tryz.prog 316 7:=kz
theorem ts41:sized Tryz.prog 41 9:=kz
theorem ts44:sized Tryz.prog 44 7:=kz
theorem ts57:sized Tryz.prog 57 8:=kz
theorem zq0:zeroOf Tryz.prog 157=some (.agg (zpc false zph.zero 0 0 0 0 .nilFunc)):=kz
theorem zq8:zeroOf Tryz.prog 268=some (.agg (zpc false zpu.zero 0 0 0 0 .nilFunc)):=kz
theorem zqn:zeroOf Tryz.prog 316=some (.agg (zpc false zpD.zero 0 0 0 0 .nilFunc)):=kz
theorem tz41:zeroOf Tryz.prog 41=some (.agg (zpc false zpp.zero 0 0 0 0 .nilFunc)):=kz
theorem tz44:zeroOf Tryz.prog 44=some (.agg (zpc false zpi.zero 0 0 0 0 .nilFunc)):=kz
theorem tz57:zeroOf Tryz.prog 57=some (.agg (zpc false zpj.zero 0 0 0 0 .nilFunc)):=kz
def D.zjh (a0:Access) (a1:(Int→T Unit)):T Unit:=(T.act a0.op a0.at_ a0.a a0.b a1)
theorem zhP (hF:kH F w0)
    (a0:Access) {a1f:FuncId} {a1_1 a1_2:List Value} {a1:(Int→T Unit)} (a1n:FnT Tryz.prog zph u64 (n) F w0 (.func (.func a1f) a1_1.toArray a1_2.toArray) a1) :
    Calls Tryz.prog 340 #[.agg (zpq a0).toArray,.func (.func a1f) a1_1.toArray a1_2.toArray] w0 (zpl Tryz.prog zph n (D.zjh a0 a1) F w0):=by
 refine kN Tryz.func340 rfl 8 rfl rfl fun fr r hB=>?_;refine wsr ?_
 refine kX 38 (.agg (zpq a0).toArray) r rfl rfl fun b1 w2 n3 r=>?_;obtain ⟨E1,Z2,H1,hB,zB⟩:=n3.all hB
 refine za7 (.cells (zpc false zph.zero 0 0 0 0 .nilFunc) 157 (0,0)) r (fun R=>za6 zq0) rfl fun fr b4 w5 n6 r=>?_;have H1:=keep n6.below H1
 obtain ⟨E4,Z5,H4,hB,zB⟩:=n6.all hB;refine wn (wsr (kG (zpq a0) 4 r rfl H1 ta38 rfl rfl fun r=>kM (.func (.func a1f) a1_1.toArray a1_2.toArray) r rfl rfl fun r=>kU (.agg (zpc false zph.zero a0.op a0.at_ a0.a a0.b (.func (.func a1f) a1_1.toArray a1_2.toArray))) r kz rfl fun r=>?_));refine zaS (.cells (zpc false zph.zero a0.op a0.at_ a0.a a0.b (.func (.func a1f) a1_1.toArray a1_2.toArray)) 157 (0,0)) r (fun R=>zaN r (o:=0) (v:=(.agg (zpc false zph.zero a0.op a0.at_ a0.a a0.b (.func (.func a1f) a1_1.toArray a1_2.toArray)))) rfl rfl H4 zpX (Nat.le_of_ble_eq_true rfl) rfl rfl) rfl fun fr w7 u8 r=>?_
 have Z7:=u8.size;have H1:=u8.keep H1 kw
 have H4:=u8.at_;obtain ⟨hB,zB⟩:=u8.on hB kw
 refine wn (wp_ret ?_);refine za5 r rfl rfl H4 (k:=6) rfl zpW ?_;exact ⟨_,rfl,hB,Rep.zjk (a1n.mono (Nat.le_refl _) (fun b hb=>.inl hb) (Same.below hB hF) hB.size)⟩
def D.zet :T Unit:=(T.done ())
theorem zgq (hF:kH F w0)
     :
    Calls Tryz.prog 339 #[.agg #[]] w0 (zpl Tryz.prog zph n D.zet F w0):=by
 refine kN Tryz.func339 rfl 5 rfl rfl fun fr r hB=>?_;refine wsr ?_
 refine kX 152 (.agg #[]) r rfl rfl fun b1 w2 n3 r=>?_;obtain ⟨E1,Z2,H1,hB,zB⟩:=n3.all hB
 refine za7 (.cells (zpc false zph.zero 0 0 0 0 .nilFunc) 157 (0,0)) r (fun R=>za6 zq0) rfl fun fr b4 w5 n6 r=>?_;have H1:=keep n6.below H1
 obtain ⟨E4,Z5,H4,hB,zB⟩:=n6.all hB;refine wn (wsr (kG [] 0 r rfl H1 zqg rfl rfl fun r=>kU (.agg (zpc true (zph.cells ()) 0 0 0 0 .nilFunc)) r kz rfl fun r=>?_));refine zaS (.cells (zpc true (zph.cells ()) 0 0 0 0 .nilFunc) 157 (0,0)) r (fun R=>zaN r (o:=0) (v:=(.agg (zpc true (zph.cells ()) 0 0 0 0 .nilFunc))) rfl rfl H4 zpX (Nat.le_of_ble_eq_true rfl) rfl rfl) rfl fun fr w7 u8 r=>?_
 have Z7:=u8.size;have H1:=u8.keep H1 kw
 have H4:=u8.at_;obtain ⟨hB,zB⟩:=u8.on hB kw
 refine wn (wp_ret ?_);refine za5 r rfl rfl H4 (k:=6) rfl zpW ?_;exact ⟨_,rfl,hB,Rep.zgI⟩
def D.zgi (a0:Access) (a1:(Int→T Int)):T Int:=(T.act a0.op a0.at_ a0.a a0.b a1)
theorem zdX (hF:kH F w0)
    (a0:Access) {a1f:FuncId} {a1_1 a1_2:List Value} {a1:(Int→T Int)} (a1n:FnT Tryz.prog zpi u64 (n) F w0 (.func (.func a1f) a1_1.toArray a1_2.toArray) a1) :
    Calls Tryz.prog 267 #[.agg (zpq a0).toArray,.func (.func a1f) a1_1.toArray a1_2.toArray] w0 (zpl Tryz.prog zpi n (D.zgi a0 a1) F w0):=by
 refine kN Tryz.func267 rfl 8 rfl rfl fun fr r hB=>?_;refine wsr ?_
 refine kX 38 (.agg (zpq a0).toArray) r rfl rfl fun b1 w2 n3 r=>?_;obtain ⟨E1,Z2,H1,hB,zB⟩:=n3.all hB
 refine za7 (.cells (zpc false zpi.zero 0 0 0 0 .nilFunc) 44 (0,0)) r (fun R=>za6 tz44) rfl fun fr b4 w5 n6 r=>?_;have H1:=keep n6.below H1
 obtain ⟨E4,Z5,H4,hB,zB⟩:=n6.all hB;refine wn (wsr (kG (zpq a0) 4 r rfl H1 ta38 rfl rfl fun r=>kM (.func (.func a1f) a1_1.toArray a1_2.toArray) r rfl rfl fun r=>kU (.agg (zpc false zpi.zero a0.op a0.at_ a0.a a0.b (.func (.func a1f) a1_1.toArray a1_2.toArray))) r kz rfl fun r=>?_));refine zaS (.cells (zpc false zpi.zero a0.op a0.at_ a0.a a0.b (.func (.func a1f) a1_1.toArray a1_2.toArray)) 44 (0,0)) r (fun R=>zaN r (o:=0) (v:=(.agg (zpc false zpi.zero a0.op a0.at_ a0.a a0.b (.func (.func a1f) a1_1.toArray a1_2.toArray)))) rfl rfl H4 ts44 (Nat.le_of_ble_eq_true rfl) rfl rfl) rfl fun fr w7 u8 r=>?_
 have Z7:=u8.size;have H1:=u8.keep H1 kw
 have H4:=u8.at_;obtain ⟨hB,zB⟩:=u8.on hB kw
 refine wn (wp_ret ?_);refine za5 r rfl rfl H4 (k:=7) rfl ta44 ?_;exact ⟨_,rfl,hB,Rep.zjk (a1n.mono (Nat.le_refl _) (fun b hb=>.inl hb) (Same.below hB hF) hB.size)⟩
def D.zaX (a0:Int):T Int:=(T.done a0)
theorem zbl (hF:kH F w0)
    (a0:Int) :
    Calls Tryz.prog 256 #[.int .i64 a0] w0 (zpl Tryz.prog zpi n (D.zaX a0) F w0):=by
 refine kN Tryz.func256 rfl 5 rfl rfl fun fr r hB=>?_;refine wsr ?_
 refine za7 (.cells (zpc false zpi.zero 0 0 0 0 .nilFunc) 44 (0,0)) r (fun R=>za6 tz44) rfl fun fr b1 w2 n3 r=>?_;obtain ⟨E1,Z2,H1,hB,zB⟩:=n3.all hB
 refine wn (wsr (kM (I a0) r rfl rfl fun r=>kU (.agg (zpc true (zpi.cells a0) 0 0 0 0 .nilFunc)) r kz rfl fun r=>?_));refine zaS (.cells (zpc true (zpi.cells a0) 0 0 0 0 .nilFunc) 44 (0,0)) r (fun R=>zaN r (o:=0) (v:=(.agg (zpc true (zpi.cells a0) 0 0 0 0 .nilFunc))) rfl rfl H1 ts44 (Nat.le_of_ble_eq_true rfl) rfl rfl) rfl fun fr w4 u5 r=>?_
 have Z4:=u5.size;have H1:=u5.at_;obtain ⟨hB,zB⟩:=u5.on hB kw
 refine wn (wp_ret ?_);refine za5 r rfl rfl H1 (k:=7) rfl ta44 ?_;exact ⟨_,rfl,hB,Rep.zgI⟩
def D.zdV (a0:Grant):T Grant:=(T.done a0)
theorem zfP (hF:kH F w0)
    (a0:Grant) :
    Calls Tryz.prog 155 #[.agg (grantC a0).toArray] w0 (zpl Tryz.prog zpp n (D.zdV a0) F w0):=by
 refine kN Tryz.func155 rfl 5 rfl rfl fun fr r hB=>?_;refine wsr ?_
 refine kX 35 (.agg (grantC a0).toArray) r rfl rfl fun b1 w2 n3 r=>?_;obtain ⟨E1,Z2,H1,hB,zB⟩:=n3.all hB
 refine za7 (.cells (zpc false zpp.zero 0 0 0 0 .nilFunc) 41 (0,0)) r (fun R=>za6 tz41) rfl fun fr b4 w5 n6 r=>?_;have H1:=keep n6.below H1
 obtain ⟨E4,Z5,H4,hB,zB⟩:=n6.all hB;refine wn (wsr (kG (grantC a0) 3 r rfl H1 ta35 rfl rfl fun r=>kU (.agg (zpc true (zpp.cells a0) 0 0 0 0 .nilFunc)) r kz rfl fun r=>?_));refine zaS (.cells (zpc true (zpp.cells a0) 0 0 0 0 .nilFunc) 41 (0,0)) r (fun R=>zaN r (o:=0) (v:=(.agg (zpc true (zpp.cells a0) 0 0 0 0 .nilFunc))) rfl rfl H4 ts41 (Nat.le_of_ble_eq_true rfl) rfl rfl) rfl fun fr w7 u8 r=>?_
 have Z7:=u8.size;have H1:=u8.keep H1 kw
 have H4:=u8.at_;obtain ⟨hB,zB⟩:=u8.on hB kw
 refine wn (wp_ret ?_);refine za5 r rfl rfl H4 (k:=9) rfl ta41 ?_;exact ⟨_,rfl,hB,Rep.zgI⟩
def D.zg0 (a0:Access) (a1:(Int→T Grant)):T Grant:=(T.act a0.op a0.at_ a0.a a0.b a1)
theorem zf1 (hF:kH F w0)
    (a0:Access) {a1f:FuncId} {a1_1 a1_2:List Value} {a1:(Int→T Grant)} (a1n:FnT Tryz.prog zpp u64 (n) F w0 (.func (.func a1f) a1_1.toArray a1_2.toArray) a1) :
    Calls Tryz.prog 253 #[.agg (zpq a0).toArray,.func (.func a1f) a1_1.toArray a1_2.toArray] w0 (zpl Tryz.prog zpp n (D.zg0 a0 a1) F w0):=by
 refine kN Tryz.func253 rfl 8 rfl rfl fun fr r hB=>?_;refine wsr ?_
 refine kX 38 (.agg (zpq a0).toArray) r rfl rfl fun b1 w2 n3 r=>?_;obtain ⟨E1,Z2,H1,hB,zB⟩:=n3.all hB
 refine za7 (.cells (zpc false zpp.zero 0 0 0 0 .nilFunc) 41 (0,0)) r (fun R=>za6 tz41) rfl fun fr b4 w5 n6 r=>?_;have H1:=keep n6.below H1
 obtain ⟨E4,Z5,H4,hB,zB⟩:=n6.all hB;refine wn (wsr (kG (zpq a0) 4 r rfl H1 ta38 rfl rfl fun r=>kM (.func (.func a1f) a1_1.toArray a1_2.toArray) r rfl rfl fun r=>kU (.agg (zpc false zpp.zero a0.op a0.at_ a0.a a0.b (.func (.func a1f) a1_1.toArray a1_2.toArray))) r kz rfl fun r=>?_));refine zaS (.cells (zpc false zpp.zero a0.op a0.at_ a0.a a0.b (.func (.func a1f) a1_1.toArray a1_2.toArray)) 41 (0,0)) r (fun R=>zaN r (o:=0) (v:=(.agg (zpc false zpp.zero a0.op a0.at_ a0.a a0.b (.func (.func a1f) a1_1.toArray a1_2.toArray)))) rfl rfl H4 ts41 (Nat.le_of_ble_eq_true rfl) rfl rfl) rfl fun fr w7 u8 r=>?_
 have Z7:=u8.size;have H1:=u8.keep H1 kw
 have H4:=u8.at_;obtain ⟨hB,zB⟩:=u8.on hB kw
 refine wn (wp_ret ?_);refine za5 r rfl rfl H4 (k:=9) rfl ta41 ?_;exact ⟨_,rfl,hB,Rep.zjk (a1n.mono (Nat.le_refl _) (fun b hb=>.inl hb) (Same.below hB hF) hB.size)⟩
def D.zdp (a0:Bool):T Bool:=(T.done a0)
theorem zgm (hF:kH F w0)
    (a0:Bool) :
    Calls Tryz.prog 404 #[.bool a0] w0 (zpl Tryz.prog zpD n (D.zdp a0) F w0):=by
 refine kN Tryz.func404 rfl 5 rfl rfl fun fr r hB=>?_;refine wsr ?_
 refine za7 (.cells (zpc false zpD.zero 0 0 0 0 .nilFunc) 316 (0,0)) r (fun R=>za6 zqn) rfl fun fr b1 w2 n3 r=>?_;obtain ⟨E1,Z2,H1,hB,zB⟩:=n3.all hB
 refine wn (wsr (kM (.bool a0) r rfl rfl fun r=>kU (.agg (zpc true (zpD.cells a0) 0 0 0 0 .nilFunc)) r kz rfl fun r=>?_));refine zaS (.cells (zpc true (zpD.cells a0) 0 0 0 0 .nilFunc) 316 (0,0)) r (fun R=>zaN r (o:=0) (v:=(.agg (zpc true (zpD.cells a0) 0 0 0 0 .nilFunc))) rfl rfl H1 zqd (Nat.le_of_ble_eq_true rfl) rfl rfl) rfl fun fr w4 u5 r=>?_
 have Z4:=u5.size;have H1:=u5.at_;obtain ⟨hB,zB⟩:=u5.on hB kw
 refine wn (wp_ret ?_);refine za5 r rfl rfl H1 (k:=7) rfl zqe ?_;exact ⟨_,rfl,hB,Rep.zgI⟩
def D.zji (a0:Access) (a1:(Int→T Bool)):T Bool:=(T.act a0.op a0.at_ a0.a a0.b a1)
theorem zkz (hF:kH F w0)
    (a0:Access) {a1f:FuncId} {a1_1 a1_2:List Value} {a1:(Int→T Bool)} (a1n:FnT Tryz.prog zpD u64 (n) F w0 (.func (.func a1f) a1_1.toArray a1_2.toArray) a1) :
    Calls Tryz.prog 410 #[.agg (zpq a0).toArray,.func (.func a1f) a1_1.toArray a1_2.toArray] w0 (zpl Tryz.prog zpD n (D.zji a0 a1) F w0):=by
 refine kN Tryz.func410 rfl 8 rfl rfl fun fr r hB=>?_;refine wsr ?_
 refine kX 38 (.agg (zpq a0).toArray) r rfl rfl fun b1 w2 n3 r=>?_;obtain ⟨E1,Z2,H1,hB,zB⟩:=n3.all hB
 refine za7 (.cells (zpc false zpD.zero 0 0 0 0 .nilFunc) 316 (0,0)) r (fun R=>za6 zqn) rfl fun fr b4 w5 n6 r=>?_;have H1:=keep n6.below H1
 obtain ⟨E4,Z5,H4,hB,zB⟩:=n6.all hB;refine wn (wsr (kG (zpq a0) 4 r rfl H1 ta38 rfl rfl fun r=>kM (.func (.func a1f) a1_1.toArray a1_2.toArray) r rfl rfl fun r=>kU (.agg (zpc false zpD.zero a0.op a0.at_ a0.a a0.b (.func (.func a1f) a1_1.toArray a1_2.toArray))) r kz rfl fun r=>?_));refine zaS (.cells (zpc false zpD.zero a0.op a0.at_ a0.a a0.b (.func (.func a1f) a1_1.toArray a1_2.toArray)) 316 (0,0)) r (fun R=>zaN r (o:=0) (v:=(.agg (zpc false zpD.zero a0.op a0.at_ a0.a a0.b (.func (.func a1f) a1_1.toArray a1_2.toArray)))) rfl rfl H4 zqd (Nat.le_of_ble_eq_true rfl) rfl rfl) rfl fun fr w7 u8 r=>?_
 have Z7:=u8.size;have H1:=u8.keep H1 kw
 have H4:=u8.at_;obtain ⟨hB,zB⟩:=u8.on hB kw
 refine wn (wp_ret ?_);refine za5 r rfl rfl H4 (k:=7) rfl zqe ?_;exact ⟨_,rfl,hB,Rep.zjk (a1n.mono (Nat.le_refl _) (fun b hb=>.inl hb) (Same.below hB hF) hB.size)⟩
def D.zeS (a0:Res):T Res:=(T.done a0)
def D.zg9 (a0:Access) (a1:(Int→T Res)):T Res:=(T.act a0.op a0.at_ a0.a a0.b a1)
def D.zhM (a0:Access) (a1:(Int→T Int)):T Int:=(T.act a0.op a0.at_ a0.a a0.b a1)
theorem zgr (hF:kH F w0)
    (a0:Access) {a1f:FuncId} {a1_1 a1_2:List Value} {a1:(Int→T Int)} (a1n:FnT Tryz.prog zpu u64 (n) F w0 (.func (.func a1f) a1_1.toArray a1_2.toArray) a1) :
    Calls Tryz.prog 362 #[.agg (zpq a0).toArray,.func (.func a1f) a1_1.toArray a1_2.toArray] w0 (zpl Tryz.prog zpu n (D.zhM a0 a1) F w0):=by
 refine kN Tryz.func362 rfl 8 rfl rfl fun fr r hB=>?_;refine wsr ?_
 refine kX 38 (.agg (zpq a0).toArray) r rfl rfl fun b1 w2 n3 r=>?_;obtain ⟨E1,Z2,H1,hB,zB⟩:=n3.all hB
 refine za7 (.cells (zpc false zpu.zero 0 0 0 0 .nilFunc) 268 (0,0)) r (fun R=>za6 zq8) rfl fun fr b4 w5 n6 r=>?_;have H1:=keep n6.below H1
 obtain ⟨E4,Z5,H4,hB,zB⟩:=n6.all hB;refine wn (wsr (kG (zpq a0) 4 r rfl H1 ta38 rfl rfl fun r=>kM (.func (.func a1f) a1_1.toArray a1_2.toArray) r rfl rfl fun r=>kU (.agg (zpc false zpu.zero a0.op a0.at_ a0.a a0.b (.func (.func a1f) a1_1.toArray a1_2.toArray))) r kz rfl fun r=>?_));refine zaS (.cells (zpc false zpu.zero a0.op a0.at_ a0.a a0.b (.func (.func a1f) a1_1.toArray a1_2.toArray)) 268 (0,0)) r (fun R=>zaN r (o:=0) (v:=(.agg (zpc false zpu.zero a0.op a0.at_ a0.a a0.b (.func (.func a1f) a1_1.toArray a1_2.toArray)))) rfl rfl H4 zq4 (Nat.le_of_ble_eq_true rfl) rfl rfl) rfl fun fr w7 u8 r=>?_
 have Z7:=u8.size;have H1:=u8.keep H1 kw
 have H4:=u8.at_;obtain ⟨hB,zB⟩:=u8.on hB kw
 refine wn (wp_ret ?_);refine za5 r rfl rfl H4 (k:=7) rfl zq3 ?_;exact ⟨_,rfl,hB,Rep.zjk (a1n.mono (Nat.le_refl _) (fun b hb=>.inl hb) (Same.below hB hF) hB.size)⟩
def D.zcH (a0:Int):T Int:=(T.done a0)
theorem zfw (hF:kH F w0)
    (a0:Int) :
    Calls Tryz.prog 363 #[.int .u64 a0] w0 (zpl Tryz.prog zpu n (D.zcH a0) F w0):=by
 refine kN Tryz.func363 rfl 5 rfl rfl fun fr r hB=>?_;refine wsr ?_
 refine za7 (.cells (zpc false zpu.zero 0 0 0 0 .nilFunc) 268 (0,0)) r (fun R=>za6 zq8) rfl fun fr b1 w2 n3 r=>?_;obtain ⟨E1,Z2,H1,hB,zB⟩:=n3.all hB
 refine wn (wsr (kM (U a0) r rfl rfl fun r=>kU (.agg (zpc true (zpu.cells a0) 0 0 0 0 .nilFunc)) r kz rfl fun r=>?_));refine zaS (.cells (zpc true (zpu.cells a0) 0 0 0 0 .nilFunc) 268 (0,0)) r (fun R=>zaN r (o:=0) (v:=(.agg (zpc true (zpu.cells a0) 0 0 0 0 .nilFunc))) rfl rfl H1 zq4 (Nat.le_of_ble_eq_true rfl) rfl rfl) rfl fun fr w4 u5 r=>?_
 have Z4:=u5.size;have H1:=u5.at_;obtain ⟨hB,zB⟩:=u5.on hB kw
 refine wn (wp_ret ?_);refine za5 r rfl rfl H1 (k:=7) rfl zq3 ?_;exact ⟨_,rfl,hB,Rep.zgI⟩
def ze7 (n:Nat):Prop:=∀ {F:Nat→Prop} {w0:World},(∀ b,F b→b<w0.heap.size)→∀ {t:T (Bool)} {pv fv:Value} {g:Bool→T (Int)},Rep Tryz.prog zpD n t F w0 pv→FnT Tryz.prog zpi boolE n F w0 fv g→
    (t.zpx=false∨FnT Tryz.prog zpi boolE (n+1) F w0 fv g)→Calls Tryz.prog 334 #[pv,fv] w0 (zpl Tryz.prog zpi n (t.bind g) F w0)
theorem zhD {n:Nat} (ih:ze7 n) {F:Nat→Prop} {w0:World} (hF:∀ b,F b→b<w0.heap.size) {op at_ a b:Int} {nf:FuncId} {n1 n2:List Value} {k:Int→T (Bool)} {ff:FuncId} {f1 f2:List Value} {g:Bool→T (Int)}
    {b1 b2:Nat} (F1:F b1) (h1:w0.heap[b1]?=some (.cells (zpc false zpD.zero op at_ a b (.func (.func nf) n1.toArray n2.toArray)) 316 (0,0))) (F2:F b2) (h2:w0.heap[b2]?=some (.cells #[.func (.func ff) f1.toArray f2.toArray] 283 (0,0)))
    (hk:FnT Tryz.prog zpD u64 (n+1) F w0 (.func (.func nf) n1.toArray n2.toArray) k) (hg:FnT Tryz.prog zpi boolE (n+1) F w0 (.func (.func ff) f1.toArray f2.toArray) g) (x:Int) :
    Calls Tryz.prog 383 #[.int .u64 x,zp b1,zp b2] w0 (zpl Tryz.prog zpi n ((k x).bind g) F w0):=by
 refine kN Tryz.func383 rfl 11 rfl rfl fun fr r hB=>?_;refine wp_seq (wp_region_lit ?_)
 refine za7 (.cells (zpc false zpi.zero 0 0 0 0 .nilFunc) 44 (0,0)) r (fun R=>za6 tz44) rfl fun fr b3 w1 q1 r=>wn ?_;have h1:=keep q1.below h1
 have h2:=keep q1.below h2;have e3:=q1.eq;have z1:=q1.size;have h3:=q1.at_;have hB:=hB.trans (q1.below.mono hB.size);have zB:=hB.size;refine wp_seq ?_;refine zaM 5 [.val (.pointer (some ⟨b1,6,none⟩)),.val (.func (.func nf) n1.toArray n2.toArray),.val (U x),.pred (RepAt Tryz.prog zpD n (k x) F w0.heap.size b3) RepAt.stable,.val (.func (.func ff) f1.toArray f2.toArray)] mixed r kz (zaJ trivial (zaJ trivial (zaJ trivial (zaJ trivial (zaJ trivial zaB))))) ?_ ?_
 ·
  refine ec r (fun _ u _ b d s=>za3 s (b:=b1) (o:=0) rfl zoY bz) ?_;refine zbt r rfl (fun fr1 u w' hb' hd r'=>?_) ?_
  ·
   obtain ⟨d0,_⟩:=hd;exact za4 r' (v:=.func (.func nf) n1.toArray n2.toArray) d0 (keep hb' h1) zue rfl ⟨Below.refl _ _,rfl⟩
  refine ec r (fun _ u _ b d s=>zav s rfl bz) ?_;refine zbt r rfl (fun fr1 u w' hb' hd r'=>?_) ?_
  ·
   obtain ⟨d0,d1,_⟩:=hd;have zb:=hb'.size;have zb:w1.heap.size≤w'.heap.size:=zb;have hB':Below w0.heap.size w0 w':=hB.trans (Below.mono (w:=w1) ⟨hb'.os,hb'.tape,hb'.output,hb'.size,hb'.block⟩ hB.size);have d0:u 1=.func (.func nf) n1.toArray n2.toArray:=d0;have d1:u 2=.int .u64 x:=d1;refine zcc r' (fs:=n1) (cs:=n2) d0 d1 hk.at_.1 ((hk.at_.2 n (Nat.lt_succ_self n) x w' (Same.below hB' hF) hB'.size).mono ?_);rintro _ w2 ⟨v,rfl,hb2,hr2⟩;refine ⟨v,rfl,hb2,RepAt.zkX (fun b h=>Nat.lt_of_lt_of_le (hF b h) hB'.size) kw hB'.size hb2 (Rep.mono ?_ (Same.refl _ _) (Nat.le_refl _) n _ _ hr2)⟩
   rintro b (h | h)
   · exact .inl (.inl h)
   · exact .inr h
  refine ec r (fun _ u _ b d s=>za4 s rfl (keep b h2) zr3 rfl bz) ?_;exact zaW
 intro fr u w2 hb hΦ _ r;obtain ⟨_,hr3,_,hr⟩:RepAt Tryz.prog zpD n (k x) F w0.heap.size b3 (u 3) w2:=hΦ 3 ke;have r:=r.congr (sc (hΦ 4 ke) rfl);have z2:=hb.size;have h1:=keep hb h1;have h2:=keep hb h2;have h3:=keep hb h3;have hB2:=hB.trans (hb.mono hB.size);have zB2:=hB2.size;have hF1:∀ b,(kW F w0 w2 b3) b→b<w2.heap.size:=by rintro b (h | h); exact Nat.lt_of_lt_of_le (hF b h) hB2.size; exact h.2.1
 refine kC r (ih (F:=fun b=>F b∨(w0.heap.size≤b∧b<w2.heap.size∧b≠b3)) hF1 hr (hg.mono kw (fun b h=>.inl h) (Same.below hB2 hF) hB2.size)
  (.inr (hg.mono (Nat.le_refl _) (fun b h=>.inl h) (Same.below hB2 hF) hB2.size))) rfl zsg rfl ?_
 rintro _ w3 ⟨v2,rfl,hb2,hr2⟩;refine ⟨_,rfl,fun fr r=>?_⟩
 have z3:=hb2.size;have h3:=keep hb2 h3;have hB3:=hB2.trans (hb2.mono hB2.size);refine kP r hr2.shape rfl rfl h3 ts44 rfl rfl fun w4 u4 r=>wn ?_;have z4:=u4.size
 have h3:=u4.at_;have hB4:=u4.below hB3 kw
 refine wp_ret ?_;have hs:=hr2.shape.cells;refine za5 r rfl rfl h3 (k:=7) hs.1 ta44 ?_;rw [←hs.2.2];exact zpl.fin hB4 hr2 u4 (by rintro b (h | ⟨h1,h2,_⟩); exact .inl h; exact .inr ⟨h1,h2⟩) (by rintro (h | ⟨_,_,h⟩); (have:=hF _ h; omega); exact h rfl) kw kw kw
theorem zhv (n:Nat):ze7 n:=by
  induction n using Nat.strongRecOn with
  | _ n ih=>
  intro F w0 hF t pv fv g hp hf hd;obtain ⟨ff,f1,f2,hcf,rfl,hff⟩:=id hf;cases t with
  | cut=>unfold Rep at hp; exact hp.elim
  | done x0=>
    have hf:=hd.resolve_left (by intro h; cases h)
    unfold Rep at hp
    subst hp;refine enter (l:=[.agg (zpc true (zpD.cells x0) 0 0 0 0 .nilFunc),.func (.func ff) f1.toArray f2.toArray]) Tryz.func334 rfl 15 rfl rfl fun fr r=>?_;have hB:=Below.refl w0.heap.size w0
    refine wp_seq (wp_region_lit ?_);refine kX 316 (.agg (zpc true (zpD.cells x0) 0 0 0 0 .nilFunc)) r rfl rfl fun b1 w1 q1 r=>?_;refine kX 283 (.func (.func ff) f1.toArray f2.toArray) r rfl rfl fun b2 w2 q2 r=>?_
    refine za7 (.cells (zpc false zpi.zero 0 0 0 0 .nilFunc) 44 (0,0)) r (fun R=>za6 tz44) rfl fun fr b3 w3 q3 r=>wpList_nil ?_;have h1:=keep q3.below (keep q2.below q1.at_)
    have h2:=keep q3.below q2.at_;have h3:=q3.at_;have e1:=q1.eq; have e2:=q2.eq; have e3:=q3.eq; have z1:=q1.size; have z2:=q2.size; have z3:=q3.size;have hB:=((hB.trans q1.below).trans (q2.below.mono kw)).trans (q3.below.mono kw)
    have zB:=hB.size;refine wp_seq (wp_seq (wp_region_lit (za0 (zp b1) r (fun R=>za3 r (o:=0) rfl zni) rfl fun fr r=>?_)));refine za0 (.bool true) r (fun R=>za4 r (v:=.bool true) rfl h1 to4 rfl) rfl fun fr r=>wpList_nil ?_
    refine wp_cond_split (t:=true) (r.ev rfl) (fun _=>?_) (fun h=>by cases h)
    refine wp_seq (wp_region_lit (za0 (.func (.func ff) f1.toArray f2.toArray) r (fun R=>za4 r (v:=.func (.func ff) f1.toArray f2.toArray) rfl h2 zr3 rfl) rfl fun fr r=>za0 (.pointer (some ⟨b1,1,none⟩)) r (fun R=>za3 r (o:=0) rfl zoo) rfl fun fr r=>za0 (.bool x0) r (fun R=>za4 r (v:=(.bool x0)) rfl h1 to4 rfl) rfl fun fr r=>?_));refine zbx r (hf.at_.2 n (Nat.lt_succ_self n) x0 w3 (Same.below hB hF) hB.size) (fun R hc=>zdT r rfl rfl hf.at_.1 hc) rfl ?_
    rintro _ w4 ⟨v,rfl,hb,hr⟩;refine ⟨_,rfl,fun fr r=>?_⟩
    have z4:=hb.size;have h3:=keep hb h3;have hB:=hB.trans (hb.mono hB.size);refine kP r hr.shape rfl rfl h3 ts44 rfl rfl fun w5 u5 r=>wpList_nil ?_;have z5:=u5.size
    have h3:=u5.at_;have hB:=u5.below hB kw
    refine wp_ret ?_;have hs:=hr.shape.cells;refine za5 r rfl rfl h3 (k:=7) hs.1 ta44 ?_;rw [←hs.2.2];exact zpl.fin hB hr u5 (fun b hb=>.inl hb) (fun h=>by have:=hF _ h; omega) kw kw kw
  | act op at_ a b k=>
    obtain ⟨nf,n1,n2,hcn,rfl,hk⟩:∃ (nf:FuncId) (n1 n2:List Value),zpd Tryz.prog nf=true∧pv=.agg (zpc false zpD.zero op at_ a b (.func (.func nf) n1.toArray n2.toArray))∧FnT Tryz.prog zpD u64 n F w0 (.func (.func nf) n1.toArray n2.toArray) k:=by
      exact Rep.zcR hp
    refine enter (l:=[.agg (zpc false zpD.zero op at_ a b (.func (.func nf) n1.toArray n2.toArray)),.func (.func ff) f1.toArray f2.toArray]) Tryz.func334 rfl 15 rfl rfl fun fr r=>?_;have hB:=Below.refl w0.heap.size w0
    refine wp_seq (wp_region_lit ?_);refine kX 316 (.agg (zpc false zpD.zero op at_ a b (.func (.func nf) n1.toArray n2.toArray))) r rfl rfl fun b1 w1 q1 r=>?_;refine kX 283 (.func (.func ff) f1.toArray f2.toArray) r rfl rfl fun b2 w2 q2 r=>?_
    refine za7 (.cells (zpc false zpi.zero 0 0 0 0 .nilFunc) 44 (0,0)) r (fun R=>za6 tz44) rfl fun fr b3 w3 q3 r=>wpList_nil ?_;have h1:=keep q3.below (keep q2.below q1.at_)
    have h2:=keep q3.below q2.at_;have h3:=q3.at_;have e1:=q1.eq; have e2:=q2.eq; have e3:=q3.eq; have z1:=q1.size; have z2:=q2.size; have z3:=q3.size;have hB:=((hB.trans q1.below).trans (q2.below.mono kw)).trans (q3.below.mono kw)
    have zB:=hB.size;refine wp_seq (wp_seq (wp_region_lit (za0 (zp b1) r (fun R=>za3 r (o:=0) rfl zni) rfl fun fr r=>?_)));refine za0 (.bool false) r (fun R=>za4 r (v:=.bool false) rfl h1 to4 rfl) rfl fun fr r=>wpList_nil ?_
    refine wp_cond_split (t:=false) (r.ev rfl) (fun h=>by cases h) (fun _=>wp_skip ?_);refine wp_seq (wp_region_lit (za0 (.pointer (some ⟨b1,2,none⟩)) r (fun R=>za3 r (o:=0) rfl zoT) rfl fun fr r=>kG (zpq (⟨op,at_,a,b⟩:Access)) 4 r rfl h1 ta38 rfl rfl fun r=>za0 (.func (.func 383) #[] #[zp b1,zp b2]) r (fun R=>zae r rfl) rfl fun fr r=>?_))
    have hF1:∀ b,(fun b=>F b∨b=b1∨b=b2) b→b<w3.heap.size:=by rintro b (h | h | h); exact Nat.lt_of_lt_of_le (hF b h) hB.size; omega; omega
    refine kC r (zdX (F:=fun b=>F b∨b=b1∨b=b2) (n:=n) hF1 ⟨op,at_,a,b⟩ (a1:=fun x=>(k x).bind g) (show FnT Tryz.prog zpi u64 n (fun b=>F b∨b=b1∨b=b2) w3 (.func (.func 383) ([]:List Value).toArray [zp b1,zp b2].toArray) (fun x=>(k x).bind g) from
      ⟨383,[],[zp b1,zp b2],ztL,rfl,fun m hm x w' hs hz=>zhD (ih m hm) (fun b hb=>Nat.lt_of_lt_of_le (hF1 b hb) hz) (.inr (.inl rfl)) (hs.at_ (.inr (.inl rfl)) h1) (.inr (.inr rfl)) (hs.at_ (.inr (.inr rfl)) h2)
        (hk.mono kw (fun b h=>.inl h) ((Same.below hB hF).trans (hs.sub (fun b h=>.inl h))) (Nat.le_trans hB.size hz)) (hf.mono kw (fun b h=>.inl h) ((Same.below hB hF).trans (hs.sub (fun b h=>.inl h))) (Nat.le_trans hB.size hz)) x⟩)) rfl zqr rfl ?_
    rintro _ w4 ⟨v,rfl,hb,hr⟩;refine ⟨_,rfl,fun fr r=>?_⟩
    have z4:=hb.size;have h3:=keep hb h3;have hB:=hB.trans (hb.mono hB.size);refine kP r hr.shape rfl rfl h3 ts44 rfl rfl fun w5 u5 r=>wpList_nil ?_;have z5:=u5.size
    have h3:=u5.at_;have hB:=u5.below hB kw
    refine wp_ret ?_;have hs:=hr.shape.cells;refine za5 r rfl rfl h3 (k:=7) hs.1 ta44 ?_;rw [←hs.2.2];exact zpl.fin hB hr u5 (by rintro b (h | h | h); exact .inl h; exact .inr ⟨kw,kw⟩; exact .inr ⟨kw,kw⟩) (by rintro (h | h | h); (have:=hF _ h; omega); omega; omega) kw kw kw
theorem zg7 (hF:kH F w0) {t:T (Bool)} {pv fv:Value} {g:Bool→T (Int)} (hp:Rep Tryz.prog zpD n t F w0 pv) (hf:FnT Tryz.prog zpi boolE (n+1) F w0 fv g) :
    Calls Tryz.prog 334 #[pv,fv] w0 (zpl Tryz.prog zpi n (t.bind g) F w0):=zhv n hF hp (hf.mono kw (fun b h=>h) (Same.refl _ _) (Nat.le_refl _)) (.inr hf)
def zdI (n:Nat):Prop:=∀ {F:Nat→Prop} {w0:World},(∀ b,F b→b<w0.heap.size)→∀ {t:T (Unit)} {pv fv:Value} {g:Unit→T (Unit)},Rep Tryz.prog zph n t F w0 pv→FnT Tryz.prog zph noneE n F w0 fv g→
    (t.zpx=false∨FnT Tryz.prog zph noneE (n+1) F w0 fv g)→Calls Tryz.prog 356 #[pv,fv] w0 (zpl Tryz.prog zph n (t.bind g) F w0)
theorem zgM {n:Nat} (ih:zdI n) {F:Nat→Prop} {w0:World} (hF:∀ b,F b→b<w0.heap.size) {op at_ a b:Int} {nf:FuncId} {n1 n2:List Value} {k:Int→T (Unit)} {ff:FuncId} {f1 f2:List Value} {g:Unit→T (Unit)}
    {b1 b2:Nat} (F1:F b1) (h1:w0.heap[b1]?=some (.cells (zpc false zph.zero op at_ a b (.func (.func nf) n1.toArray n2.toArray)) 157 (0,0))) (F2:F b2) (h2:w0.heap[b2]?=some (.cells #[.func (.func ff) f1.toArray f2.toArray] 319 (0,0)))
    (hk:FnT Tryz.prog zph u64 (n+1) F w0 (.func (.func nf) n1.toArray n2.toArray) k) (hg:FnT Tryz.prog zph noneE (n+1) F w0 (.func (.func ff) f1.toArray f2.toArray) g) (x:Int) :
    Calls Tryz.prog 390 #[.int .u64 x,zp b1,zp b2] w0 (zpl Tryz.prog zph n ((k x).bind g) F w0):=by
 refine kN Tryz.func390 rfl 11 rfl rfl fun fr r hB=>?_;refine wp_seq (wp_region_lit ?_)
 refine za7 (.cells (zpc false zph.zero 0 0 0 0 .nilFunc) 157 (0,0)) r (fun R=>za6 zq0) rfl fun fr b3 w1 q1 r=>wn ?_;have h1:=keep q1.below h1
 have h2:=keep q1.below h2;have e3:=q1.eq;have z1:=q1.size;have h3:=q1.at_;have hB:=hB.trans (q1.below.mono hB.size);have zB:=hB.size;refine wp_seq ?_;refine zaM 5 [.val (.pointer (some ⟨b1,5,none⟩)),.val (.func (.func nf) n1.toArray n2.toArray),.val (U x),.pred (RepAt Tryz.prog zph n (k x) F w0.heap.size b3) RepAt.stable,.val (.func (.func ff) f1.toArray f2.toArray)] mixed r kz (zaJ trivial (zaJ trivial (zaJ trivial (zaJ trivial (zaJ trivial zaB))))) ?_ ?_
 ·
  refine ec r (fun _ u _ b d s=>za3 s (b:=b1) (o:=0) rfl zjX bz) ?_;refine zbt r rfl (fun fr1 u w' hb' hd r'=>?_) ?_
  ·
   obtain ⟨d0,_⟩:=hd;exact za4 r' (v:=.func (.func nf) n1.toArray n2.toArray) d0 (keep hb' h1) zqB rfl ⟨Below.refl _ _,rfl⟩
  refine ec r (fun _ u _ b d s=>zav s rfl bz) ?_;refine zbt r rfl (fun fr1 u w' hb' hd r'=>?_) ?_
  ·
   obtain ⟨d0,d1,_⟩:=hd;have zb:=hb'.size;have zb:w1.heap.size≤w'.heap.size:=zb;have hB':Below w0.heap.size w0 w':=hB.trans (Below.mono (w:=w1) ⟨hb'.os,hb'.tape,hb'.output,hb'.size,hb'.block⟩ hB.size);have d0:u 1=.func (.func nf) n1.toArray n2.toArray:=d0;have d1:u 2=.int .u64 x:=d1;refine zcc r' (fs:=n1) (cs:=n2) d0 d1 hk.at_.1 ((hk.at_.2 n (Nat.lt_succ_self n) x w' (Same.below hB' hF) hB'.size).mono ?_);rintro _ w2 ⟨v,rfl,hb2,hr2⟩;refine ⟨v,rfl,hb2,RepAt.zkX (fun b h=>Nat.lt_of_lt_of_le (hF b h) hB'.size) kw hB'.size hb2 (Rep.mono ?_ (Same.refl _ _) (Nat.le_refl _) n _ _ hr2)⟩
   rintro b (h | h)
   · exact .inl (.inl h)
   · exact .inr h
  refine ec r (fun _ u _ b d s=>za4 s rfl (keep b h2) zs1 rfl bz) ?_;exact zaW
 intro fr u w2 hb hΦ _ r;obtain ⟨_,hr3,_,hr⟩:RepAt Tryz.prog zph n (k x) F w0.heap.size b3 (u 3) w2:=hΦ 3 ke;have r:=r.congr (sc (hΦ 4 ke) rfl);have z2:=hb.size;have h1:=keep hb h1;have h2:=keep hb h2;have h3:=keep hb h3;have hB2:=hB.trans (hb.mono hB.size);have zB2:=hB2.size;have hF1:∀ b,(kW F w0 w2 b3) b→b<w2.heap.size:=by rintro b (h | h); exact Nat.lt_of_lt_of_le (hF b h) hB2.size; exact h.2.1
 refine kC r (ih (F:=fun b=>F b∨(w0.heap.size≤b∧b<w2.heap.size∧b≠b3)) hF1 hr (hg.mono kw (fun b h=>.inl h) (Same.below hB2 hF) hB2.size)
  (.inr (hg.mono (Nat.le_refl _) (fun b h=>.inl h) (Same.below hB2 hF) hB2.size))) rfl zst rfl ?_
 rintro _ w3 ⟨v2,rfl,hb2,hr2⟩;refine ⟨_,rfl,fun fr r=>?_⟩
 have z3:=hb2.size;have h3:=keep hb2 h3;have hB3:=hB2.trans (hb2.mono hB2.size);refine kP r hr2.shape rfl rfl h3 zpX rfl rfl fun w4 u4 r=>wn ?_;have z4:=u4.size
 have h3:=u4.at_;have hB4:=u4.below hB3 kw
 refine wp_ret ?_;have hs:=hr2.shape.cells;refine za5 r rfl rfl h3 (k:=6) hs.1 zpW ?_;rw [←hs.2.2];exact zpl.fin hB4 hr2 u4 (by rintro b (h | ⟨h1,h2,_⟩); exact .inl h; exact .inr ⟨h1,h2⟩) (by rintro (h | ⟨_,_,h⟩); (have:=hF _ h; omega); exact h rfl) kw kw kw
theorem zhh (n:Nat):zdI n:=by
  induction n using Nat.strongRecOn with
  | _ n ih=>
  intro F w0 hF t pv fv g hp hf hd;obtain ⟨ff,f1,f2,hcf,rfl,hff⟩:=id hf;cases t with
  | cut=>unfold Rep at hp; exact hp.elim
  | done x0=>
    have hf:=hd.resolve_left (by intro h; cases h)
    unfold Rep at hp
    subst hp;refine enter (l:=[.agg (zpc true (zph.cells x0) 0 0 0 0 .nilFunc),.func (.func ff) f1.toArray f2.toArray]) Tryz.func356 rfl 15 rfl rfl fun fr r=>?_;have hB:=Below.refl w0.heap.size w0
    refine wp_seq (wp_region_lit ?_);refine kX 157 (.agg (zpc true (zph.cells x0) 0 0 0 0 .nilFunc)) r rfl rfl fun b1 w1 q1 r=>?_;refine kX 319 (.func (.func ff) f1.toArray f2.toArray) r rfl rfl fun b2 w2 q2 r=>?_
    refine za7 (.cells (zpc false zph.zero 0 0 0 0 .nilFunc) 157 (0,0)) r (fun R=>za6 zq0) rfl fun fr b3 w3 q3 r=>wpList_nil ?_;have h1:=keep q3.below (keep q2.below q1.at_)
    have h2:=keep q3.below q2.at_;have h3:=q3.at_;have e1:=q1.eq; have e2:=q2.eq; have e3:=q3.eq; have z1:=q1.size; have z2:=q2.size; have z3:=q3.size;have hB:=((hB.trans q1.below).trans (q2.below.mono kw)).trans (q3.below.mono kw)
    have zB:=hB.size;refine wp_seq (wp_seq (wp_region_lit (za0 (zp b1) r (fun R=>za3 r (o:=0) rfl zf9) rfl fun fr r=>?_)));refine za0 (.bool true) r (fun R=>za4 r (v:=.bool true) rfl h1 to4 rfl) rfl fun fr r=>wpList_nil ?_
    refine wp_cond_split (t:=true) (r.ev rfl) (fun _=>?_) (fun h=>by cases h)
    refine wp_seq (wp_region_lit (za0 (.func (.func ff) f1.toArray f2.toArray) r (fun R=>za4 r (v:=.func (.func ff) f1.toArray f2.toArray) rfl h2 zs1 rfl) rfl fun fr r=>?_));refine zjG b1 1 r (fun R=>zey r rfl zqE h1) rfl fun fr sp r=>za0 (.agg #[]) r (fun R=>zf2 r rfl zqg) rfl fun fr r=>?_
    refine zbx r (hf.at_.2 n (Nat.lt_succ_self n) x0 w3 (Same.below hB hF) hB.size) (fun R hc=>zdT r rfl rfl hf.at_.1 hc) rfl ?_;rintro _ w4 ⟨v,rfl,hb,hr⟩
    refine ⟨_,rfl,fun fr r=>?_⟩
    have z4:=hb.size;have h3:=keep hb h3;have hB:=hB.trans (hb.mono hB.size);refine kP r hr.shape rfl rfl h3 zpX rfl rfl fun w5 u5 r=>wpList_nil ?_;have z5:=u5.size
    have h3:=u5.at_;have hB:=u5.below hB kw
    refine wp_ret ?_;have hs:=hr.shape.cells;refine za5 r rfl rfl h3 (k:=6) hs.1 zpW ?_;rw [←hs.2.2];exact zpl.fin hB hr u5 (fun b hb=>.inl hb) (fun h=>by have:=hF _ h; omega) kw kw kw
  | act op at_ a b k=>
    obtain ⟨nf,n1,n2,hcn,rfl,hk⟩:∃ (nf:FuncId) (n1 n2:List Value),zpd Tryz.prog nf=true∧pv=.agg (zpc false zph.zero op at_ a b (.func (.func nf) n1.toArray n2.toArray))∧FnT Tryz.prog zph u64 n F w0 (.func (.func nf) n1.toArray n2.toArray) k:=by
      exact Rep.zcR hp
    refine enter (l:=[.agg (zpc false zph.zero op at_ a b (.func (.func nf) n1.toArray n2.toArray)),.func (.func ff) f1.toArray f2.toArray]) Tryz.func356 rfl 15 rfl rfl fun fr r=>?_;have hB:=Below.refl w0.heap.size w0
    refine wp_seq (wp_region_lit ?_);refine kX 157 (.agg (zpc false zph.zero op at_ a b (.func (.func nf) n1.toArray n2.toArray))) r rfl rfl fun b1 w1 q1 r=>?_;refine kX 319 (.func (.func ff) f1.toArray f2.toArray) r rfl rfl fun b2 w2 q2 r=>?_
    refine za7 (.cells (zpc false zph.zero 0 0 0 0 .nilFunc) 157 (0,0)) r (fun R=>za6 zq0) rfl fun fr b3 w3 q3 r=>wpList_nil ?_;have h1:=keep q3.below (keep q2.below q1.at_)
    have h2:=keep q3.below q2.at_;have h3:=q3.at_;have e1:=q1.eq; have e2:=q2.eq; have e3:=q3.eq; have z1:=q1.size; have z2:=q2.size; have z3:=q3.size;have hB:=((hB.trans q1.below).trans (q2.below.mono kw)).trans (q3.below.mono kw)
    have zB:=hB.size;refine wp_seq (wp_seq (wp_region_lit (za0 (zp b1) r (fun R=>za3 r (o:=0) rfl zf9) rfl fun fr r=>?_)));refine za0 (.bool false) r (fun R=>za4 r (v:=.bool false) rfl h1 to4 rfl) rfl fun fr r=>wpList_nil ?_
    refine wp_cond_split (t:=false) (r.ev rfl) (fun h=>by cases h) (fun _=>wp_skip ?_);refine wp_seq (wp_region_lit (za0 (.pointer (some ⟨b1,1,none⟩)) r (fun R=>za3 r (o:=0) rfl zjU) rfl fun fr r=>kG (zpq (⟨op,at_,a,b⟩:Access)) 4 r rfl h1 ta38 rfl rfl fun r=>za0 (.func (.func 390) #[] #[zp b1,zp b2]) r (fun R=>zae r rfl) rfl fun fr r=>?_))
    have hF1:∀ b,(fun b=>F b∨b=b1∨b=b2) b→b<w3.heap.size:=by rintro b (h | h | h); exact Nat.lt_of_lt_of_le (hF b h) hB.size; omega; omega
    refine kC r (zhP (F:=fun b=>F b∨b=b1∨b=b2) (n:=n) hF1 ⟨op,at_,a,b⟩ (a1:=fun x=>(k x).bind g) (show FnT Tryz.prog zph u64 n (fun b=>F b∨b=b1∨b=b2) w3 (.func (.func 390) ([]:List Value).toArray [zp b1,zp b2].toArray) (fun x=>(k x).bind g) from
      ⟨390,[],[zp b1,zp b2],zte,rfl,fun m hm x w' hs hz=>zgM (ih m hm) (fun b hb=>Nat.lt_of_lt_of_le (hF1 b hb) hz) (.inr (.inl rfl)) (hs.at_ (.inr (.inl rfl)) h1) (.inr (.inr rfl)) (hs.at_ (.inr (.inr rfl)) h2)
        (hk.mono kw (fun b h=>.inl h) ((Same.below hB hF).trans (hs.sub (fun b h=>.inl h))) (Nat.le_trans hB.size hz)) (hf.mono kw (fun b h=>.inl h) ((Same.below hB hF).trans (hs.sub (fun b h=>.inl h))) (Nat.le_trans hB.size hz)) x⟩)) rfl zrL rfl ?_
    rintro _ w4 ⟨v,rfl,hb,hr⟩;refine ⟨_,rfl,fun fr r=>?_⟩
    have z4:=hb.size;have h3:=keep hb h3;have hB:=hB.trans (hb.mono hB.size);refine kP r hr.shape rfl rfl h3 zpX rfl rfl fun w5 u5 r=>wpList_nil ?_;have z5:=u5.size
    have h3:=u5.at_;have hB:=u5.below hB kw
    refine wp_ret ?_;have hs:=hr.shape.cells;refine za5 r rfl rfl h3 (k:=6) hs.1 zpW ?_;rw [←hs.2.2];exact zpl.fin hB hr u5 (by rintro b (h | h | h); exact .inl h; exact .inr ⟨kw,kw⟩; exact .inr ⟨kw,kw⟩) (by rintro (h | h | h); (have:=hF _ h; omega); omega; omega) kw kw kw
theorem zfU (hF:kH F w0) {t:T (Unit)} {pv fv:Value} {g:Unit→T (Unit)} (hp:Rep Tryz.prog zph n t F w0 pv) (hf:FnT Tryz.prog zph noneE n F w0 fv g) (hd:t.zpx=false) :
    Calls Tryz.prog 356 #[pv,fv] w0 (zpl Tryz.prog zph n (t.bind g) F w0):=zhh n hF hp hf (.inl hd)
def zdh (n:Nat):Prop:=∀ {F:Nat→Prop} {w0:World},(∀ b,F b→b<w0.heap.size)→∀ {t:T (Unit)} {pv fv:Value} {g:Unit→T (Int)},Rep Tryz.prog zph n t F w0 pv→FnT Tryz.prog zpu noneE n F w0 fv g→
    (t.zpx=false∨FnT Tryz.prog zpu noneE (n+1) F w0 fv g)→Calls Tryz.prog 364 #[pv,fv] w0 (zpl Tryz.prog zpu n (t.bind g) F w0)
theorem zgf {n:Nat} (ih:zdh n) {F:Nat→Prop} {w0:World} (hF:∀ b,F b→b<w0.heap.size) {op at_ a b:Int} {nf:FuncId} {n1 n2:List Value} {k:Int→T (Unit)} {ff:FuncId} {f1 f2:List Value} {g:Unit→T (Int)}
    {b1 b2:Nat} (F1:F b1) (h1:w0.heap[b1]?=some (.cells (zpc false zph.zero op at_ a b (.func (.func nf) n1.toArray n2.toArray)) 157 (0,0))) (F2:F b2) (h2:w0.heap[b2]?=some (.cells #[.func (.func ff) f1.toArray f2.toArray] 325 (0,0)))
    (hk:FnT Tryz.prog zph u64 (n+1) F w0 (.func (.func nf) n1.toArray n2.toArray) k) (hg:FnT Tryz.prog zpu noneE (n+1) F w0 (.func (.func ff) f1.toArray f2.toArray) g) (x:Int) :
    Calls Tryz.prog 391 #[.int .u64 x,zp b1,zp b2] w0 (zpl Tryz.prog zpu n ((k x).bind g) F w0):=by
 refine kN Tryz.func391 rfl 11 rfl rfl fun fr r hB=>?_;refine wp_seq (wp_region_lit ?_)
 refine za7 (.cells (zpc false zpu.zero 0 0 0 0 .nilFunc) 268 (0,0)) r (fun R=>za6 zq8) rfl fun fr b3 w1 q1 r=>wn ?_;have h1:=keep q1.below h1
 have h2:=keep q1.below h2;have e3:=q1.eq;have z1:=q1.size;have h3:=q1.at_;have hB:=hB.trans (q1.below.mono hB.size);have zB:=hB.size;refine wp_seq ?_;refine zaM 5 [.val (.pointer (some ⟨b1,5,none⟩)),.val (.func (.func nf) n1.toArray n2.toArray),.val (U x),.pred (RepAt Tryz.prog zph n (k x) F w0.heap.size b3) RepAt.stable,.val (.func (.func ff) f1.toArray f2.toArray)] mixed r kz (zaJ trivial (zaJ trivial (zaJ trivial (zaJ trivial (zaJ trivial zaB))))) ?_ ?_
 ·
  refine ec r (fun _ u _ b d s=>za3 s (b:=b1) (o:=0) rfl zjX bz) ?_;refine zbt r rfl (fun fr1 u w' hb' hd r'=>?_) ?_
  ·
   obtain ⟨d0,_⟩:=hd;exact za4 r' (v:=.func (.func nf) n1.toArray n2.toArray) d0 (keep hb' h1) zqB rfl ⟨Below.refl _ _,rfl⟩
  refine ec r (fun _ u _ b d s=>zav s rfl bz) ?_;refine zbt r rfl (fun fr1 u w' hb' hd r'=>?_) ?_
  ·
   obtain ⟨d0,d1,_⟩:=hd;have zb:=hb'.size;have zb:w1.heap.size≤w'.heap.size:=zb;have hB':Below w0.heap.size w0 w':=hB.trans (Below.mono (w:=w1) ⟨hb'.os,hb'.tape,hb'.output,hb'.size,hb'.block⟩ hB.size);have d0:u 1=.func (.func nf) n1.toArray n2.toArray:=d0;have d1:u 2=.int .u64 x:=d1;refine zcc r' (fs:=n1) (cs:=n2) d0 d1 hk.at_.1 ((hk.at_.2 n (Nat.lt_succ_self n) x w' (Same.below hB' hF) hB'.size).mono ?_);rintro _ w2 ⟨v,rfl,hb2,hr2⟩;refine ⟨v,rfl,hb2,RepAt.zkX (fun b h=>Nat.lt_of_lt_of_le (hF b h) hB'.size) kw hB'.size hb2 (Rep.mono ?_ (Same.refl _ _) (Nat.le_refl _) n _ _ hr2)⟩
   rintro b (h | h)
   · exact .inl (.inl h)
   · exact .inr h
  refine ec r (fun _ u _ b d s=>za4 s rfl (keep b h2) zrz rfl bz) ?_;exact zaW
 intro fr u w2 hb hΦ _ r;obtain ⟨_,hr3,_,hr⟩:RepAt Tryz.prog zph n (k x) F w0.heap.size b3 (u 3) w2:=hΦ 3 ke;have r:=r.congr (sc (hΦ 4 ke) rfl);have z2:=hb.size;have h1:=keep hb h1;have h2:=keep hb h2;have h3:=keep hb h3;have hB2:=hB.trans (hb.mono hB.size);have zB2:=hB2.size;have hF1:∀ b,(kW F w0 w2 b3) b→b<w2.heap.size:=by rintro b (h | h); exact Nat.lt_of_lt_of_le (hF b h) hB2.size; exact h.2.1
 refine kC r (ih (F:=fun b=>F b∨(w0.heap.size≤b∧b<w2.heap.size∧b≠b3)) hF1 hr (hg.mono kw (fun b h=>.inl h) (Same.below hB2 hF) hB2.size)
  (.inr (hg.mono (Nat.le_refl _) (fun b h=>.inl h) (Same.below hB2 hF) hB2.size))) rfl zrW rfl ?_
 rintro _ w3 ⟨v2,rfl,hb2,hr2⟩;refine ⟨_,rfl,fun fr r=>?_⟩
 have z3:=hb2.size;have h3:=keep hb2 h3;have hB3:=hB2.trans (hb2.mono hB2.size);refine kP r hr2.shape rfl rfl h3 zq4 rfl rfl fun w4 u4 r=>wn ?_;have z4:=u4.size
 have h3:=u4.at_;have hB4:=u4.below hB3 kw
 refine wp_ret ?_;have hs:=hr2.shape.cells;refine za5 r rfl rfl h3 (k:=7) hs.1 zq3 ?_;rw [←hs.2.2];exact zpl.fin hB4 hr2 u4 (by rintro b (h | ⟨h1,h2,_⟩); exact .inl h; exact .inr ⟨h1,h2⟩) (by rintro (h | ⟨_,_,h⟩); (have:=hF _ h; omega); exact h rfl) kw kw kw
theorem zgl (n:Nat):zdh n:=by
  induction n using Nat.strongRecOn with
  | _ n ih=>
  intro F w0 hF t pv fv g hp hf hd;obtain ⟨ff,f1,f2,hcf,rfl,hff⟩:=id hf;cases t with
  | cut=>unfold Rep at hp; exact hp.elim
  | done x0=>
    have hf:=hd.resolve_left (by intro h; cases h)
    unfold Rep at hp
    subst hp;refine enter (l:=[.agg (zpc true (zph.cells x0) 0 0 0 0 .nilFunc),.func (.func ff) f1.toArray f2.toArray]) Tryz.func364 rfl 15 rfl rfl fun fr r=>?_;have hB:=Below.refl w0.heap.size w0
    refine wp_seq (wp_region_lit ?_);refine kX 157 (.agg (zpc true (zph.cells x0) 0 0 0 0 .nilFunc)) r rfl rfl fun b1 w1 q1 r=>?_;refine kX 325 (.func (.func ff) f1.toArray f2.toArray) r rfl rfl fun b2 w2 q2 r=>?_
    refine za7 (.cells (zpc false zpu.zero 0 0 0 0 .nilFunc) 268 (0,0)) r (fun R=>za6 zq8) rfl fun fr b3 w3 q3 r=>wpList_nil ?_;have h1:=keep q3.below (keep q2.below q1.at_)
    have h2:=keep q3.below q2.at_;have h3:=q3.at_;have e1:=q1.eq; have e2:=q2.eq; have e3:=q3.eq; have z1:=q1.size; have z2:=q2.size; have z3:=q3.size;have hB:=((hB.trans q1.below).trans (q2.below.mono kw)).trans (q3.below.mono kw)
    have zB:=hB.size;refine wp_seq (wp_seq (wp_region_lit (za0 (zp b1) r (fun R=>za3 r (o:=0) rfl zf9) rfl fun fr r=>?_)));refine za0 (.bool true) r (fun R=>za4 r (v:=.bool true) rfl h1 to4 rfl) rfl fun fr r=>wpList_nil ?_
    refine wp_cond_split (t:=true) (r.ev rfl) (fun _=>?_) (fun h=>by cases h)
    refine wp_seq (wp_region_lit (za0 (.func (.func ff) f1.toArray f2.toArray) r (fun R=>za4 r (v:=.func (.func ff) f1.toArray f2.toArray) rfl h2 zrz rfl) rfl fun fr r=>?_));refine zjG b1 1 r (fun R=>zey r rfl zqE h1) rfl fun fr sp r=>za0 (.agg #[]) r (fun R=>zf2 r rfl zqg) rfl fun fr r=>?_
    refine zbx r (hf.at_.2 n (Nat.lt_succ_self n) x0 w3 (Same.below hB hF) hB.size) (fun R hc=>zdT r rfl rfl hf.at_.1 hc) rfl ?_;rintro _ w4 ⟨v,rfl,hb,hr⟩
    refine ⟨_,rfl,fun fr r=>?_⟩
    have z4:=hb.size;have h3:=keep hb h3;have hB:=hB.trans (hb.mono hB.size);refine kP r hr.shape rfl rfl h3 zq4 rfl rfl fun w5 u5 r=>wpList_nil ?_;have z5:=u5.size
    have h3:=u5.at_;have hB:=u5.below hB kw
    refine wp_ret ?_;have hs:=hr.shape.cells;refine za5 r rfl rfl h3 (k:=7) hs.1 zq3 ?_;rw [←hs.2.2];exact zpl.fin hB hr u5 (fun b hb=>.inl hb) (fun h=>by have:=hF _ h; omega) kw kw kw
  | act op at_ a b k=>
    obtain ⟨nf,n1,n2,hcn,rfl,hk⟩:∃ (nf:FuncId) (n1 n2:List Value),zpd Tryz.prog nf=true∧pv=.agg (zpc false zph.zero op at_ a b (.func (.func nf) n1.toArray n2.toArray))∧FnT Tryz.prog zph u64 n F w0 (.func (.func nf) n1.toArray n2.toArray) k:=by
      exact Rep.zcR hp
    refine enter (l:=[.agg (zpc false zph.zero op at_ a b (.func (.func nf) n1.toArray n2.toArray)),.func (.func ff) f1.toArray f2.toArray]) Tryz.func364 rfl 15 rfl rfl fun fr r=>?_;have hB:=Below.refl w0.heap.size w0
    refine wp_seq (wp_region_lit ?_);refine kX 157 (.agg (zpc false zph.zero op at_ a b (.func (.func nf) n1.toArray n2.toArray))) r rfl rfl fun b1 w1 q1 r=>?_;refine kX 325 (.func (.func ff) f1.toArray f2.toArray) r rfl rfl fun b2 w2 q2 r=>?_
    refine za7 (.cells (zpc false zpu.zero 0 0 0 0 .nilFunc) 268 (0,0)) r (fun R=>za6 zq8) rfl fun fr b3 w3 q3 r=>wpList_nil ?_;have h1:=keep q3.below (keep q2.below q1.at_)
    have h2:=keep q3.below q2.at_;have h3:=q3.at_;have e1:=q1.eq; have e2:=q2.eq; have e3:=q3.eq; have z1:=q1.size; have z2:=q2.size; have z3:=q3.size;have hB:=((hB.trans q1.below).trans (q2.below.mono kw)).trans (q3.below.mono kw)
    have zB:=hB.size;refine wp_seq (wp_seq (wp_region_lit (za0 (zp b1) r (fun R=>za3 r (o:=0) rfl zf9) rfl fun fr r=>?_)));refine za0 (.bool false) r (fun R=>za4 r (v:=.bool false) rfl h1 to4 rfl) rfl fun fr r=>wpList_nil ?_
    refine wp_cond_split (t:=false) (r.ev rfl) (fun h=>by cases h) (fun _=>wp_skip ?_);refine wp_seq (wp_region_lit (za0 (.pointer (some ⟨b1,1,none⟩)) r (fun R=>za3 r (o:=0) rfl zjU) rfl fun fr r=>kG (zpq (⟨op,at_,a,b⟩:Access)) 4 r rfl h1 ta38 rfl rfl fun r=>za0 (.func (.func 391) #[] #[zp b1,zp b2]) r (fun R=>zae r rfl) rfl fun fr r=>?_))
    have hF1:∀ b,(fun b=>F b∨b=b1∨b=b2) b→b<w3.heap.size:=by rintro b (h | h | h); exact Nat.lt_of_lt_of_le (hF b h) hB.size; omega; omega
    refine kC r (zgr (F:=fun b=>F b∨b=b1∨b=b2) (n:=n) hF1 ⟨op,at_,a,b⟩ (a1:=fun x=>(k x).bind g) (show FnT Tryz.prog zpu u64 n (fun b=>F b∨b=b1∨b=b2) w3 (.func (.func 391) ([]:List Value).toArray [zp b1,zp b2].toArray) (fun x=>(k x).bind g) from
      ⟨391,[],[zp b1,zp b2],zsP,rfl,fun m hm x w' hs hz=>zgf (ih m hm) (fun b hb=>Nat.lt_of_lt_of_le (hF1 b hb) hz) (.inr (.inl rfl)) (hs.at_ (.inr (.inl rfl)) h1) (.inr (.inr rfl)) (hs.at_ (.inr (.inr rfl)) h2)
        (hk.mono kw (fun b h=>.inl h) ((Same.below hB hF).trans (hs.sub (fun b h=>.inl h))) (Nat.le_trans hB.size hz)) (hf.mono kw (fun b h=>.inl h) ((Same.below hB hF).trans (hs.sub (fun b h=>.inl h))) (Nat.le_trans hB.size hz)) x⟩)) rfl zrG rfl ?_
    rintro _ w4 ⟨v,rfl,hb,hr⟩;refine ⟨_,rfl,fun fr r=>?_⟩
    have z4:=hb.size;have h3:=keep hb h3;have hB:=hB.trans (hb.mono hB.size);refine kP r hr.shape rfl rfl h3 zq4 rfl rfl fun w5 u5 r=>wpList_nil ?_;have z5:=u5.size
    have h3:=u5.at_;have hB:=u5.below hB kw
    refine wp_ret ?_;have hs:=hr.shape.cells;refine za5 r rfl rfl h3 (k:=7) hs.1 zq3 ?_;rw [←hs.2.2];exact zpl.fin hB hr u5 (by rintro b (h | h | h); exact .inl h; exact .inr ⟨kw,kw⟩; exact .inr ⟨kw,kw⟩) (by rintro (h | h | h); (have:=hF _ h; omega); omega; omega) kw kw kw
theorem zfj (hF:kH F w0) {t:T (Unit)} {pv fv:Value} {g:Unit→T (Int)} (hp:Rep Tryz.prog zph n t F w0 pv) (hf:FnT Tryz.prog zpu noneE (n+1) F w0 fv g) :
    Calls Tryz.prog 364 #[pv,fv] w0 (zpl Tryz.prog zpu n (t.bind g) F w0):=zgl n hF hp (hf.mono kw (fun b h=>h) (Same.refl _ _) (Nat.le_refl _)) (.inr hf)
def zdQ (n:Nat):Prop:=∀ {F:Nat→Prop} {w0:World},(∀ b,F b→b<w0.heap.size)→∀ {t:T (Int)} {pv fv:Value} {g:Int→T (Grant)},Rep Tryz.prog zpi n t F w0 pv→FnT Tryz.prog zpp i64 n F w0 fv g→
    (t.zpx=false∨FnT Tryz.prog zpp i64 (n+1) F w0 fv g)→Calls Tryz.prog 157 #[pv,fv] w0 (zpl Tryz.prog zpp n (t.bind g) F w0)
theorem zgL {n:Nat} (ih:zdQ n) {F:Nat→Prop} {w0:World} (hF:∀ b,F b→b<w0.heap.size) {op at_ a b:Int} {nf:FuncId} {n1 n2:List Value} {k:Int→T (Int)} {ff:FuncId} {f1 f2:List Value} {g:Int→T (Grant)}
    {b1 b2:Nat} (F1:F b1) (h1:w0.heap[b1]?=some (.cells (zpc false zpi.zero op at_ a b (.func (.func nf) n1.toArray n2.toArray)) 44 (0,0))) (F2:F b2) (h2:w0.heap[b2]?=some (.cells #[.func (.func ff) f1.toArray f2.toArray] 231 (0,0)))
    (hk:FnT Tryz.prog zpi u64 (n+1) F w0 (.func (.func nf) n1.toArray n2.toArray) k) (hg:FnT Tryz.prog zpp i64 (n+1) F w0 (.func (.func ff) f1.toArray f2.toArray) g) (x:Int) :
    Calls Tryz.prog 254 #[.int .u64 x,zp b1,zp b2] w0 (zpl Tryz.prog zpp n ((k x).bind g) F w0):=by
 refine kN Tryz.func254 rfl 11 rfl rfl fun fr r hB=>?_;refine wp_seq (wp_region_lit ?_)
 refine za7 (.cells (zpc false zpp.zero 0 0 0 0 .nilFunc) 41 (0,0)) r (fun R=>za6 tz41) rfl fun fr b3 w1 q1 r=>wn ?_;have h1:=keep q1.below h1
 have h2:=keep q1.below h2;have e3:=q1.eq;have z1:=q1.size;have h3:=q1.at_;have hB:=hB.trans (q1.below.mono hB.size);have zB:=hB.size;refine wp_seq ?_;refine zaM 5 [.val (.pointer (some ⟨b1,6,none⟩)),.val (.func (.func nf) n1.toArray n2.toArray),.val (U x),.pred (RepAt Tryz.prog zpi n (k x) F w0.heap.size b3) RepAt.stable,.val (.func (.func ff) f1.toArray f2.toArray)] mixed r kz (zaJ trivial (zaJ trivial (zaJ trivial (zaJ trivial (zaJ trivial zaB))))) ?_ ?_
 ·
  refine ec r (fun _ u _ b d s=>za3 s (b:=b1) (o:=0) rfl zmF bz) ?_;refine zbt r rfl (fun fr1 u w' hb' hd r'=>?_) ?_
  ·
   obtain ⟨d0,_⟩:=hd;exact za4 r' (v:=.func (.func nf) n1.toArray n2.toArray) d0 (keep hb' h1) to42 rfl ⟨Below.refl _ _,rfl⟩
  refine ec r (fun _ u _ b d s=>zav s rfl bz) ?_;refine zbt r rfl (fun fr1 u w' hb' hd r'=>?_) ?_
  ·
   obtain ⟨d0,d1,_⟩:=hd;have zb:=hb'.size;have zb:w1.heap.size≤w'.heap.size:=zb;have hB':Below w0.heap.size w0 w':=hB.trans (Below.mono (w:=w1) ⟨hb'.os,hb'.tape,hb'.output,hb'.size,hb'.block⟩ hB.size);have d0:u 1=.func (.func nf) n1.toArray n2.toArray:=d0;have d1:u 2=.int .u64 x:=d1;refine zcc r' (fs:=n1) (cs:=n2) d0 d1 hk.at_.1 ((hk.at_.2 n (Nat.lt_succ_self n) x w' (Same.below hB' hF) hB'.size).mono ?_);rintro _ w2 ⟨v,rfl,hb2,hr2⟩;refine ⟨v,rfl,hb2,RepAt.zkX (fun b h=>Nat.lt_of_lt_of_le (hF b h) hB'.size) kw hB'.size hb2 (Rep.mono ?_ (Same.refl _ _) (Nat.le_refl _) n _ _ hr2)⟩
   rintro b (h | h)
   · exact .inl (.inl h)
   · exact .inr h
  refine ec r (fun _ u _ b d s=>za4 s rfl (keep b h2) zrh rfl bz) ?_;exact zaW
 intro fr u w2 hb hΦ _ r;obtain ⟨_,hr3,_,hr⟩:RepAt Tryz.prog zpi n (k x) F w0.heap.size b3 (u 3) w2:=hΦ 3 ke;have r:=r.congr (sc (hΦ 4 ke) rfl);have z2:=hb.size;have h1:=keep hb h1;have h2:=keep hb h2;have h3:=keep hb h3;have hB2:=hB.trans (hb.mono hB.size);have zB2:=hB2.size;have hF1:∀ b,(kW F w0 w2 b3) b→b<w2.heap.size:=by rintro b (h | h); exact Nat.lt_of_lt_of_le (hF b h) hB2.size; exact h.2.1
 refine kC r (ih (F:=fun b=>F b∨(w0.heap.size≤b∧b<w2.heap.size∧b≠b3)) hF1 hr (hg.mono kw (fun b h=>.inl h) (Same.below hB2 hF) hB2.size)
  (.inr (hg.mono (Nat.le_refl _) (fun b h=>.inl h) (Same.below hB2 hF) hB2.size))) rfl zqR rfl ?_
 rintro _ w3 ⟨v2,rfl,hb2,hr2⟩;refine ⟨_,rfl,fun fr r=>?_⟩
 have z3:=hb2.size;have h3:=keep hb2 h3;have hB3:=hB2.trans (hb2.mono hB2.size);refine kP r hr2.shape rfl rfl h3 ts41 rfl rfl fun w4 u4 r=>wn ?_;have z4:=u4.size
 have h3:=u4.at_;have hB4:=u4.below hB3 kw
 refine wp_ret ?_;have hs:=hr2.shape.cells;refine za5 r rfl rfl h3 (k:=9) hs.1 ta41 ?_;rw [←hs.2.2];exact zpl.fin hB4 hr2 u4 (by rintro b (h | ⟨h1,h2,_⟩); exact .inl h; exact .inr ⟨h1,h2⟩) (by rintro (h | ⟨_,_,h⟩); (have:=hF _ h; omega); exact h rfl) kw kw kw
theorem zgQ (n:Nat):zdQ n:=by
  induction n using Nat.strongRecOn with
  | _ n ih=>
  intro F w0 hF t pv fv g hp hf hd;obtain ⟨ff,f1,f2,hcf,rfl,hff⟩:=id hf;cases t with
  | cut=>unfold Rep at hp; exact hp.elim
  | done x0=>
    have hf:=hd.resolve_left (by intro h; cases h)
    unfold Rep at hp
    subst hp;refine enter (l:=[.agg (zpc true (zpi.cells x0) 0 0 0 0 .nilFunc),.func (.func ff) f1.toArray f2.toArray]) Tryz.func157 rfl 15 rfl rfl fun fr r=>?_;have hB:=Below.refl w0.heap.size w0
    refine wp_seq (wp_region_lit ?_);refine kX 44 (.agg (zpc true (zpi.cells x0) 0 0 0 0 .nilFunc)) r rfl rfl fun b1 w1 q1 r=>?_;refine kX 231 (.func (.func ff) f1.toArray f2.toArray) r rfl rfl fun b2 w2 q2 r=>?_
    refine za7 (.cells (zpc false zpp.zero 0 0 0 0 .nilFunc) 41 (0,0)) r (fun R=>za6 tz41) rfl fun fr b3 w3 q3 r=>wpList_nil ?_;have h1:=keep q3.below (keep q2.below q1.at_)
    have h2:=keep q3.below q2.at_;have h3:=q3.at_;have e1:=q1.eq; have e2:=q2.eq; have e3:=q3.eq; have z1:=q1.size; have z2:=q2.size; have z3:=q3.size;have hB:=((hB.trans q1.below).trans (q2.below.mono kw)).trans (q3.below.mono kw)
    have zB:=hB.size;refine wp_seq (wp_seq (wp_region_lit (za0 (zp b1) r (fun R=>za3 r (o:=0) rfl zjl) rfl fun fr r=>?_)));refine za0 (.bool true) r (fun R=>za4 r (v:=.bool true) rfl h1 to4 rfl) rfl fun fr r=>wpList_nil ?_
    refine wp_cond_split (t:=true) (r.ev rfl) (fun _=>?_) (fun h=>by cases h)
    refine wp_seq (wp_region_lit (za0 (.func (.func ff) f1.toArray f2.toArray) r (fun R=>za4 r (v:=.func (.func ff) f1.toArray f2.toArray) rfl h2 zrh rfl) rfl fun fr r=>za0 (.pointer (some ⟨b1,1,none⟩)) r (fun R=>za3 r (o:=0) rfl zmJ) rfl fun fr r=>za0 (.int .i64 x0) r (fun R=>za4 r (v:=(.int .i64 x0)) rfl h1 to3 rfl) rfl fun fr r=>?_));refine zbx r (hf.at_.2 n (Nat.lt_succ_self n) x0 w3 (Same.below hB hF) hB.size) (fun R hc=>zdT r rfl rfl hf.at_.1 hc) rfl ?_
    rintro _ w4 ⟨v,rfl,hb,hr⟩;refine ⟨_,rfl,fun fr r=>?_⟩
    have z4:=hb.size;have h3:=keep hb h3;have hB:=hB.trans (hb.mono hB.size);refine kP r hr.shape rfl rfl h3 ts41 rfl rfl fun w5 u5 r=>wpList_nil ?_;have z5:=u5.size
    have h3:=u5.at_;have hB:=u5.below hB kw
    refine wp_ret ?_;have hs:=hr.shape.cells;refine za5 r rfl rfl h3 (k:=9) hs.1 ta41 ?_;rw [←hs.2.2];exact zpl.fin hB hr u5 (fun b hb=>.inl hb) (fun h=>by have:=hF _ h; omega) kw kw kw
  | act op at_ a b k=>
    obtain ⟨nf,n1,n2,hcn,rfl,hk⟩:∃ (nf:FuncId) (n1 n2:List Value),zpd Tryz.prog nf=true∧pv=.agg (zpc false zpi.zero op at_ a b (.func (.func nf) n1.toArray n2.toArray))∧FnT Tryz.prog zpi u64 n F w0 (.func (.func nf) n1.toArray n2.toArray) k:=by
      exact Rep.zcR hp
    refine enter (l:=[.agg (zpc false zpi.zero op at_ a b (.func (.func nf) n1.toArray n2.toArray)),.func (.func ff) f1.toArray f2.toArray]) Tryz.func157 rfl 15 rfl rfl fun fr r=>?_;have hB:=Below.refl w0.heap.size w0
    refine wp_seq (wp_region_lit ?_);refine kX 44 (.agg (zpc false zpi.zero op at_ a b (.func (.func nf) n1.toArray n2.toArray))) r rfl rfl fun b1 w1 q1 r=>?_;refine kX 231 (.func (.func ff) f1.toArray f2.toArray) r rfl rfl fun b2 w2 q2 r=>?_
    refine za7 (.cells (zpc false zpp.zero 0 0 0 0 .nilFunc) 41 (0,0)) r (fun R=>za6 tz41) rfl fun fr b3 w3 q3 r=>wpList_nil ?_;have h1:=keep q3.below (keep q2.below q1.at_)
    have h2:=keep q3.below q2.at_;have h3:=q3.at_;have e1:=q1.eq; have e2:=q2.eq; have e3:=q3.eq; have z1:=q1.size; have z2:=q2.size; have z3:=q3.size;have hB:=((hB.trans q1.below).trans (q2.below.mono kw)).trans (q3.below.mono kw)
    have zB:=hB.size;refine wp_seq (wp_seq (wp_region_lit (za0 (zp b1) r (fun R=>za3 r (o:=0) rfl zjl) rfl fun fr r=>?_)));refine za0 (.bool false) r (fun R=>za4 r (v:=.bool false) rfl h1 to4 rfl) rfl fun fr r=>wpList_nil ?_
    refine wp_cond_split (t:=false) (r.ev rfl) (fun h=>by cases h) (fun _=>wp_skip ?_);refine wp_seq (wp_region_lit (za0 (.pointer (some ⟨b1,2,none⟩)) r (fun R=>za3 r (o:=0) rfl zmG) rfl fun fr r=>kG (zpq (⟨op,at_,a,b⟩:Access)) 4 r rfl h1 ta38 rfl rfl fun r=>za0 (.func (.func 254) #[] #[zp b1,zp b2]) r (fun R=>zae r rfl) rfl fun fr r=>?_))
    have hF1:∀ b,(fun b=>F b∨b=b1∨b=b2) b→b<w3.heap.size:=by rintro b (h | h | h); exact Nat.lt_of_lt_of_le (hF b h) hB.size; omega; omega
    refine kC r (zf1 (F:=fun b=>F b∨b=b1∨b=b2) (n:=n) hF1 ⟨op,at_,a,b⟩ (a1:=fun x=>(k x).bind g) (show FnT Tryz.prog zpp u64 n (fun b=>F b∨b=b1∨b=b2) w3 (.func (.func 254) ([]:List Value).toArray [zp b1,zp b2].toArray) (fun x=>(k x).bind g) from
      ⟨254,[],[zp b1,zp b2],zup,rfl,fun m hm x w' hs hz=>zgL (ih m hm) (fun b hb=>Nat.lt_of_lt_of_le (hF1 b hb) hz) (.inr (.inl rfl)) (hs.at_ (.inr (.inl rfl)) h1) (.inr (.inr rfl)) (hs.at_ (.inr (.inr rfl)) h2)
        (hk.mono kw (fun b h=>.inl h) ((Same.below hB hF).trans (hs.sub (fun b h=>.inl h))) (Nat.le_trans hB.size hz)) (hf.mono kw (fun b h=>.inl h) ((Same.below hB hF).trans (hs.sub (fun b h=>.inl h))) (Nat.le_trans hB.size hz)) x⟩)) rfl zqT rfl ?_
    rintro _ w4 ⟨v,rfl,hb,hr⟩;refine ⟨_,rfl,fun fr r=>?_⟩
    have z4:=hb.size;have h3:=keep hb h3;have hB:=hB.trans (hb.mono hB.size);refine kP r hr.shape rfl rfl h3 ts41 rfl rfl fun w5 u5 r=>wpList_nil ?_;have z5:=u5.size
    have h3:=u5.at_;have hB:=u5.below hB kw
    refine wp_ret ?_;have hs:=hr.shape.cells;refine za5 r rfl rfl h3 (k:=9) hs.1 ta41 ?_;rw [←hs.2.2];exact zpl.fin hB hr u5 (by rintro b (h | h | h); exact .inl h; exact .inr ⟨kw,kw⟩; exact .inr ⟨kw,kw⟩) (by rintro (h | h | h); (have:=hF _ h; omega); omega; omega) kw kw kw
theorem zcu (hF:kH F w0) {t:T (Int)} {pv fv:Value} {g:Int→T (Grant)} (hp:Rep Tryz.prog zpi n t F w0 pv) (hf:FnT Tryz.prog zpp i64 (n+1) F w0 fv g) :
    Calls Tryz.prog 157 #[pv,fv] w0 (zpl Tryz.prog zpp n (t.bind g) F w0):=zgQ n hF hp (hf.mono kw (fun b h=>h) (Same.refl _ _) (Nat.le_refl _)) (.inr hf)
def zed (n:Nat):Prop:=∀ {F:Nat→Prop} {w0:World},(∀ b,F b→b<w0.heap.size)→∀ {t:T (Int)} {pv fv:Value} {g:Int→T (Int)},Rep Tryz.prog zpi n t F w0 pv→FnT Tryz.prog zpi i64 n F w0 fv g→
    (t.zpx=false∨FnT Tryz.prog zpi i64 (n+1) F w0 fv g)→Calls Tryz.prog 271 #[pv,fv] w0 (zpl Tryz.prog zpi n (t.bind g) F w0)
theorem zi4 {n:Nat} (ih:zed n) {F:Nat→Prop} {w0:World} (hF:∀ b,F b→b<w0.heap.size) {op at_ a b:Int} {nf:FuncId} {n1 n2:List Value} {k:Int→T (Int)} {ff:FuncId} {f1 f2:List Value} {g:Int→T (Int)}
    {b1 b2:Nat} (F1:F b1) (h1:w0.heap[b1]?=some (.cells (zpc false zpi.zero op at_ a b (.func (.func nf) n1.toArray n2.toArray)) 44 (0,0))) (F2:F b2) (h2:w0.heap[b2]?=some (.cells #[.func (.func ff) f1.toArray f2.toArray] 280 (0,0)))
    (hk:FnT Tryz.prog zpi u64 (n+1) F w0 (.func (.func nf) n1.toArray n2.toArray) k) (hg:FnT Tryz.prog zpi i64 (n+1) F w0 (.func (.func ff) f1.toArray f2.toArray) g) (x:Int) :
    Calls Tryz.prog 342 #[.int .u64 x,zp b1,zp b2] w0 (zpl Tryz.prog zpi n ((k x).bind g) F w0):=by
 refine kN Tryz.func342 rfl 11 rfl rfl fun fr r hB=>?_;refine wp_seq (wp_region_lit ?_)
 refine za7 (.cells (zpc false zpi.zero 0 0 0 0 .nilFunc) 44 (0,0)) r (fun R=>za6 tz44) rfl fun fr b3 w1 q1 r=>wn ?_;have h1:=keep q1.below h1
 have h2:=keep q1.below h2;have e3:=q1.eq;have z1:=q1.size;have h3:=q1.at_;have hB:=hB.trans (q1.below.mono hB.size);have zB:=hB.size;refine wp_seq ?_;refine zaM 5 [.val (.pointer (some ⟨b1,6,none⟩)),.val (.func (.func nf) n1.toArray n2.toArray),.val (U x),.pred (RepAt Tryz.prog zpi n (k x) F w0.heap.size b3) RepAt.stable,.val (.func (.func ff) f1.toArray f2.toArray)] mixed r kz (zaJ trivial (zaJ trivial (zaJ trivial (zaJ trivial (zaJ trivial zaB))))) ?_ ?_
 ·
  refine ec r (fun _ u _ b d s=>za3 s (b:=b1) (o:=0) rfl zmF bz) ?_;refine zbt r rfl (fun fr1 u w' hb' hd r'=>?_) ?_
  ·
   obtain ⟨d0,_⟩:=hd;exact za4 r' (v:=.func (.func nf) n1.toArray n2.toArray) d0 (keep hb' h1) to42 rfl ⟨Below.refl _ _,rfl⟩
  refine ec r (fun _ u _ b d s=>zav s rfl bz) ?_;refine zbt r rfl (fun fr1 u w' hb' hd r'=>?_) ?_
  ·
   obtain ⟨d0,d1,_⟩:=hd;have zb:=hb'.size;have zb:w1.heap.size≤w'.heap.size:=zb;have hB':Below w0.heap.size w0 w':=hB.trans (Below.mono (w:=w1) ⟨hb'.os,hb'.tape,hb'.output,hb'.size,hb'.block⟩ hB.size);have d0:u 1=.func (.func nf) n1.toArray n2.toArray:=d0;have d1:u 2=.int .u64 x:=d1;refine zcc r' (fs:=n1) (cs:=n2) d0 d1 hk.at_.1 ((hk.at_.2 n (Nat.lt_succ_self n) x w' (Same.below hB' hF) hB'.size).mono ?_);rintro _ w2 ⟨v,rfl,hb2,hr2⟩;refine ⟨v,rfl,hb2,RepAt.zkX (fun b h=>Nat.lt_of_lt_of_le (hF b h) hB'.size) kw hB'.size hb2 (Rep.mono ?_ (Same.refl _ _) (Nat.le_refl _) n _ _ hr2)⟩
   rintro b (h | h)
   · exact .inl (.inl h)
   · exact .inr h
  refine ec r (fun _ u _ b d s=>za4 s rfl (keep b h2) zrd rfl bz) ?_;exact zaW
 intro fr u w2 hb hΦ _ r;obtain ⟨_,hr3,_,hr⟩:RepAt Tryz.prog zpi n (k x) F w0.heap.size b3 (u 3) w2:=hΦ 3 ke;have r:=r.congr (sc (hΦ 4 ke) rfl);have z2:=hb.size;have h1:=keep hb h1;have h2:=keep hb h2;have h3:=keep hb h3;have hB2:=hB.trans (hb.mono hB.size);have zB2:=hB2.size;have hF1:∀ b,(kW F w0 w2 b3) b→b<w2.heap.size:=by rintro b (h | h); exact Nat.lt_of_lt_of_le (hF b h) hB2.size; exact h.2.1
 refine kC r (ih (F:=fun b=>F b∨(w0.heap.size≤b∧b<w2.heap.size∧b≠b3)) hF1 hr (hg.mono kw (fun b h=>.inl h) (Same.below hB2 hF) hB2.size)
  (.inr (hg.mono (Nat.le_refl _) (fun b h=>.inl h) (Same.below hB2 hF) hB2.size))) rfl zqw rfl ?_
 rintro _ w3 ⟨v2,rfl,hb2,hr2⟩;refine ⟨_,rfl,fun fr r=>?_⟩
 have z3:=hb2.size;have h3:=keep hb2 h3;have hB3:=hB2.trans (hb2.mono hB2.size);refine kP r hr2.shape rfl rfl h3 ts44 rfl rfl fun w4 u4 r=>wn ?_;have z4:=u4.size
 have h3:=u4.at_;have hB4:=u4.below hB3 kw
 refine wp_ret ?_;have hs:=hr2.shape.cells;refine za5 r rfl rfl h3 (k:=7) hs.1 ta44 ?_;rw [←hs.2.2];exact zpl.fin hB4 hr2 u4 (by rintro b (h | ⟨h1,h2,_⟩); exact .inl h; exact .inr ⟨h1,h2⟩) (by rintro (h | ⟨_,_,h⟩); (have:=hF _ h; omega); exact h rfl) kw kw kw
theorem zf5 (n:Nat):zed n:=by
  induction n using Nat.strongRecOn with
  | _ n ih=>
  intro F w0 hF t pv fv g hp hf hd;obtain ⟨ff,f1,f2,hcf,rfl,hff⟩:=id hf;cases t with
  | cut=>unfold Rep at hp; exact hp.elim
  | done x0=>
    have hf:=hd.resolve_left (by intro h; cases h)
    unfold Rep at hp
    subst hp;refine enter (l:=[.agg (zpc true (zpi.cells x0) 0 0 0 0 .nilFunc),.func (.func ff) f1.toArray f2.toArray]) Tryz.func271 rfl 15 rfl rfl fun fr r=>?_;have hB:=Below.refl w0.heap.size w0
    refine wp_seq (wp_region_lit ?_);refine kX 44 (.agg (zpc true (zpi.cells x0) 0 0 0 0 .nilFunc)) r rfl rfl fun b1 w1 q1 r=>?_;refine kX 280 (.func (.func ff) f1.toArray f2.toArray) r rfl rfl fun b2 w2 q2 r=>?_
    refine za7 (.cells (zpc false zpi.zero 0 0 0 0 .nilFunc) 44 (0,0)) r (fun R=>za6 tz44) rfl fun fr b3 w3 q3 r=>wpList_nil ?_;have h1:=keep q3.below (keep q2.below q1.at_)
    have h2:=keep q3.below q2.at_;have h3:=q3.at_;have e1:=q1.eq; have e2:=q2.eq; have e3:=q3.eq; have z1:=q1.size; have z2:=q2.size; have z3:=q3.size;have hB:=((hB.trans q1.below).trans (q2.below.mono kw)).trans (q3.below.mono kw)
    have zB:=hB.size;refine wp_seq (wp_seq (wp_region_lit (za0 (zp b1) r (fun R=>za3 r (o:=0) rfl zjl) rfl fun fr r=>?_)));refine za0 (.bool true) r (fun R=>za4 r (v:=.bool true) rfl h1 to4 rfl) rfl fun fr r=>wpList_nil ?_
    refine wp_cond_split (t:=true) (r.ev rfl) (fun _=>?_) (fun h=>by cases h)
    refine wp_seq (wp_region_lit (za0 (.func (.func ff) f1.toArray f2.toArray) r (fun R=>za4 r (v:=.func (.func ff) f1.toArray f2.toArray) rfl h2 zrd rfl) rfl fun fr r=>za0 (.pointer (some ⟨b1,1,none⟩)) r (fun R=>za3 r (o:=0) rfl zmJ) rfl fun fr r=>za0 (.int .i64 x0) r (fun R=>za4 r (v:=(.int .i64 x0)) rfl h1 to3 rfl) rfl fun fr r=>?_));refine zbx r (hf.at_.2 n (Nat.lt_succ_self n) x0 w3 (Same.below hB hF) hB.size) (fun R hc=>zdT r rfl rfl hf.at_.1 hc) rfl ?_
    rintro _ w4 ⟨v,rfl,hb,hr⟩;refine ⟨_,rfl,fun fr r=>?_⟩
    have z4:=hb.size;have h3:=keep hb h3;have hB:=hB.trans (hb.mono hB.size);refine kP r hr.shape rfl rfl h3 ts44 rfl rfl fun w5 u5 r=>wpList_nil ?_;have z5:=u5.size
    have h3:=u5.at_;have hB:=u5.below hB kw
    refine wp_ret ?_;have hs:=hr.shape.cells;refine za5 r rfl rfl h3 (k:=7) hs.1 ta44 ?_;rw [←hs.2.2];exact zpl.fin hB hr u5 (fun b hb=>.inl hb) (fun h=>by have:=hF _ h; omega) kw kw kw
  | act op at_ a b k=>
    obtain ⟨nf,n1,n2,hcn,rfl,hk⟩:∃ (nf:FuncId) (n1 n2:List Value),zpd Tryz.prog nf=true∧pv=.agg (zpc false zpi.zero op at_ a b (.func (.func nf) n1.toArray n2.toArray))∧FnT Tryz.prog zpi u64 n F w0 (.func (.func nf) n1.toArray n2.toArray) k:=by
      exact Rep.zcR hp
    refine enter (l:=[.agg (zpc false zpi.zero op at_ a b (.func (.func nf) n1.toArray n2.toArray)),.func (.func ff) f1.toArray f2.toArray]) Tryz.func271 rfl 15 rfl rfl fun fr r=>?_;have hB:=Below.refl w0.heap.size w0
    refine wp_seq (wp_region_lit ?_);refine kX 44 (.agg (zpc false zpi.zero op at_ a b (.func (.func nf) n1.toArray n2.toArray))) r rfl rfl fun b1 w1 q1 r=>?_;refine kX 280 (.func (.func ff) f1.toArray f2.toArray) r rfl rfl fun b2 w2 q2 r=>?_
    refine za7 (.cells (zpc false zpi.zero 0 0 0 0 .nilFunc) 44 (0,0)) r (fun R=>za6 tz44) rfl fun fr b3 w3 q3 r=>wpList_nil ?_;have h1:=keep q3.below (keep q2.below q1.at_)
    have h2:=keep q3.below q2.at_;have h3:=q3.at_;have e1:=q1.eq; have e2:=q2.eq; have e3:=q3.eq; have z1:=q1.size; have z2:=q2.size; have z3:=q3.size;have hB:=((hB.trans q1.below).trans (q2.below.mono kw)).trans (q3.below.mono kw)
    have zB:=hB.size;refine wp_seq (wp_seq (wp_region_lit (za0 (zp b1) r (fun R=>za3 r (o:=0) rfl zjl) rfl fun fr r=>?_)));refine za0 (.bool false) r (fun R=>za4 r (v:=.bool false) rfl h1 to4 rfl) rfl fun fr r=>wpList_nil ?_
    refine wp_cond_split (t:=false) (r.ev rfl) (fun h=>by cases h) (fun _=>wp_skip ?_);refine wp_seq (wp_region_lit (za0 (.pointer (some ⟨b1,2,none⟩)) r (fun R=>za3 r (o:=0) rfl zmG) rfl fun fr r=>kG (zpq (⟨op,at_,a,b⟩:Access)) 4 r rfl h1 ta38 rfl rfl fun r=>za0 (.func (.func 342) #[] #[zp b1,zp b2]) r (fun R=>zae r rfl) rfl fun fr r=>?_))
    have hF1:∀ b,(fun b=>F b∨b=b1∨b=b2) b→b<w3.heap.size:=by rintro b (h | h | h); exact Nat.lt_of_lt_of_le (hF b h) hB.size; omega; omega
    refine kC r (zdX (F:=fun b=>F b∨b=b1∨b=b2) (n:=n) hF1 ⟨op,at_,a,b⟩ (a1:=fun x=>(k x).bind g) (show FnT Tryz.prog zpi u64 n (fun b=>F b∨b=b1∨b=b2) w3 (.func (.func 342) ([]:List Value).toArray [zp b1,zp b2].toArray) (fun x=>(k x).bind g) from
      ⟨342,[],[zp b1,zp b2],zt5,rfl,fun m hm x w' hs hz=>zi4 (ih m hm) (fun b hb=>Nat.lt_of_lt_of_le (hF1 b hb) hz) (.inr (.inl rfl)) (hs.at_ (.inr (.inl rfl)) h1) (.inr (.inr rfl)) (hs.at_ (.inr (.inr rfl)) h2)
        (hk.mono kw (fun b h=>.inl h) ((Same.below hB hF).trans (hs.sub (fun b h=>.inl h))) (Nat.le_trans hB.size hz)) (hf.mono kw (fun b h=>.inl h) ((Same.below hB hF).trans (hs.sub (fun b h=>.inl h))) (Nat.le_trans hB.size hz)) x⟩)) rfl zqr rfl ?_
    rintro _ w4 ⟨v,rfl,hb,hr⟩;refine ⟨_,rfl,fun fr r=>?_⟩
    have z4:=hb.size;have h3:=keep hb h3;have hB:=hB.trans (hb.mono hB.size);refine kP r hr.shape rfl rfl h3 ts44 rfl rfl fun w5 u5 r=>wpList_nil ?_;have z5:=u5.size
    have h3:=u5.at_;have hB:=u5.below hB kw
    refine wp_ret ?_;have hs:=hr.shape.cells;refine za5 r rfl rfl h3 (k:=7) hs.1 ta44 ?_;rw [←hs.2.2];exact zpl.fin hB hr u5 (by rintro b (h | h | h); exact .inl h; exact .inr ⟨kw,kw⟩; exact .inr ⟨kw,kw⟩) (by rintro (h | h | h); (have:=hF _ h; omega); omega; omega) kw kw kw
theorem zgz (hF:kH F w0) {t:T (Int)} {pv fv:Value} {g:Int→T (Int)} (hp:Rep Tryz.prog zpi n t F w0 pv) (hf:FnT Tryz.prog zpi i64 n F w0 fv g) (hd:t.zpx=false) :
    Calls Tryz.prog 271 #[pv,fv] w0 (zpl Tryz.prog zpi n (t.bind g) F w0):=zf5 n hF hp hf (.inl hd)
theorem zcQ (hF:kH F w0) {t:T (Int)} {pv fv:Value} {g:Int→T (Int)} (hp:Rep Tryz.prog zpi n t F w0 pv) (hf:FnT Tryz.prog zpi i64 (n+1) F w0 fv g) :
    Calls Tryz.prog 271 #[pv,fv] w0 (zpl Tryz.prog zpi n (t.bind g) F w0):=zf5 n hF hp (hf.mono kw (fun b h=>h) (Same.refl _ _) (Nat.le_refl _)) (.inr hf)
end
end Go.Proofs.YtikjpdpgdmbdpaaGreat

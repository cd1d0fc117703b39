/- Ours. -/
import Derived.Test.YtikjpdpgdmbdpaaGreatLkM5
import Derived.Test.YtikjpdpgdmbdpaaGreatLkMems
set_option linter.all false
set_option maxRecDepth 20000
set_option maxHeartbeats 2000000
namespace Go.Proofs.YtikjpdpgdmbdpaaGreat
open Go.RowKit
section
variable {n : Nat} {F : Nat → Prop} {j : Nat} {w0 : World}
theorem uY:ag Tryz.prog 113:=by kernel_rfl
theorem mV:ag Tryz.prog 157:=by kernel_rfl
theorem qh:ag Tryz.prog 188:=by kernel_rfl
theorem gX:ag Tryz.prog 210:=by kernel_rfl
theorem Ew:ag Tryz.prog 211:=by kernel_rfl
theorem qK:ag Tryz.prog 214:=by kernel_rfl
theorem qt:ag Tryz.prog 253:=by kernel_rfl
theorem Db:ag Tryz.prog 254:=by kernel_rfl
theorem ku:ag Tryz.prog 267:=by kernel_rfl
theorem kK:ag Tryz.prog 271:=by kernel_rfl
theorem EH:ag Tryz.prog 280:=by kernel_rfl
theorem DT:ag Tryz.prog 306:=by kernel_rfl
theorem vk:ag Tryz.prog 334:=by kernel_rfl
theorem vM:ag Tryz.prog 340:=by kernel_rfl
theorem Dq:ag Tryz.prog 342:=by kernel_rfl
theorem wz:ag Tryz.prog 356:=by kernel_rfl
theorem vh:ag Tryz.prog 362:=by kernel_rfl
theorem wF:ag Tryz.prog 364:=by kernel_rfl
theorem DU:ag Tryz.prog 383:=by kernel_rfl
theorem Dz:ag Tryz.prog 390:=by kernel_rfl
theorem EO:ag Tryz.prog 391:=by kernel_rfl
theorem dX:ba Tryz.prog 157 0 0:=by kernel_rfl
theorem jZ:ba Tryz.prog 157 2 1:=by kernel_rfl
theorem jY:ba Tryz.prog 157 3 5:=by kernel_rfl
theorem ut:ba Tryz.prog 268 0 0:=by kernel_rfl
theorem BT:ba Tryz.prog 268 1 1:=by kernel_rfl
theorem C8:ba Tryz.prog 268 2 2:=by kernel_rfl
theorem Cf:ba Tryz.prog 268 3 6:=by kernel_rfl
theorem ul:ba Tryz.prog 316 0 0:=by kernel_rfl
theorem Ci:ba Tryz.prog 316 1 1:=by kernel_rfl
theorem BR:ba Tryz.prog 316 2 2:=by kernel_rfl
theorem Cd:ba Tryz.prog 316 3 6:=by kernel_rfl
theorem uT:ba Tryz.prog 41 0 0:=by kernel_rfl
theorem Cs:ba Tryz.prog 41 1 1:=by kernel_rfl
theorem Cj:ba Tryz.prog 41 2 4:=by kernel_rfl
theorem Cr:ba Tryz.prog 41 3 8:=by kernel_rfl
theorem fY:ba Tryz.prog 44 0 0:=by kernel_rfl
theorem mO:ba Tryz.prog 44 1 1:=by kernel_rfl
theorem mN:ba Tryz.prog 44 2 2:=by kernel_rfl
theorem mL:ba Tryz.prog 44 3 6:=by kernel_rfl
theorem qd:ba Tryz.prog 57 0 0:=by kernel_rfl
theorem Cm:ba Tryz.prog 57 1 1:=by kernel_rfl
theorem Cl:ba Tryz.prog 57 2 3:=by kernel_rfl
theorem Cw:ba Tryz.prog 57 3 7:=by kernel_rfl
theorem kx:fieldZ Tryz.prog 157 1 1:=by kernel_rfl
theorem gY:tyA Tryz.prog 152 0:=by kernel_rfl
theorem cA:tyA Tryz.prog 157 6:=by kernel_rfl
theorem dI:tyA Tryz.prog 268 7:=by kernel_rfl
theorem gi:tyA Tryz.prog 316 7:=by kernel_rfl
theorem ta35:tyA Tryz.prog 35 3:=by kernel_rfl
theorem ta38:tyA Tryz.prog 38 4:=by kernel_rfl
theorem ta41:tyA Tryz.prog 41 9:=by kernel_rfl
theorem ta44:tyA Tryz.prog 44 7:=by kernel_rfl
theorem ta54:tyA Tryz.prog 54 2:=by kernel_rfl
theorem ta57:tyA Tryz.prog 57 8:=by kernel_rfl
theorem kw:tyO Tryz.prog 155:=by kernel_rfl
theorem vu:tyO Tryz.prog 203:=by kernel_rfl
theorem qF:tyO Tryz.prog 231:=by kernel_rfl
theorem vZ:tyO Tryz.prog 252:=by kernel_rfl
theorem vH:tyO Tryz.prog 264:=by kernel_rfl
theorem Ey:tyO Tryz.prog 266:=by kernel_rfl
theorem qq:tyO Tryz.prog 280:=by kernel_rfl
theorem qk:tyO Tryz.prog 283:=by kernel_rfl
theorem Dm:tyO Tryz.prog 314:=by kernel_rfl
theorem vo:tyO Tryz.prog 319:=by kernel_rfl
theorem wB:tyO Tryz.prog 325:=by kernel_rfl
theorem to39:tyO Tryz.prog 39:=by kernel_rfl
theorem to4:tyO Tryz.prog 4:=by kernel_rfl
theorem to42:tyO Tryz.prog 42:=by kernel_rfl
theorem to55:tyO Tryz.prog 55:=by kernel_rfl
theorem cF:sized Tryz.prog 157 6:=by kernel_rfl
theorem dH:sized Tryz.prog 268 7:=by kernel_rfl
theorem gh:sized Tryz.prog 316 7:=by kernel_rfl
theorem ts41:sized Tryz.prog 41 9:=by kernel_rfl
theorem ts44:sized Tryz.prog 44 7:=by kernel_rfl
theorem ts57:sized Tryz.prog 57 8:=by kernel_rfl
theorem cW:zeroOf Tryz.prog 157=some (.agg (ae false az.zero 0 0 0 0 .nilFunc)):=by kernel_rfl
theorem dY:zeroOf Tryz.prog 268=some (.agg (ae false bB.zero 0 0 0 0 .nilFunc)):=by kernel_rfl
theorem j8:zeroOf Tryz.prog 316=some (.agg (ae false cc.zero 0 0 0 0 .nilFunc)):=by kernel_rfl
theorem tz41:zeroOf Tryz.prog 41=some (.agg (ae false bm.zero 0 0 0 0 .nilFunc)):=by kernel_rfl
theorem tz44:zeroOf Tryz.prog 44=some (.agg (ae false ak.zero 0 0 0 0 .nilFunc)):=by kernel_rfl
theorem tz57:zeroOf Tryz.prog 57=some (.agg (ae false ay.zero 0 0 0 0 .nilFunc)):=by kernel_rfl
def D.sA (a0:Access) (a1:(Int→T Unit)):T Unit:=(T.act a0.op a0.at_ a0.a a0.b a1)
theorem s5 (hF:kH F w0)
    (a0:Access) {a1f:FuncId} {a1_1 a1_2:List Value} {a1:(Int→T Unit)} (a1n:FnT Tryz.prog az u64 (n) F w0 (.func (.func a1f) a1_1.toArray a1_2.toArray) a1) :
    Calls Tryz.prog 340 #[.agg (bb a0).toArray,.func (.func a1f) a1_1.toArray a1_2.toArray] w0 (aB Tryz.prog az n (D.sA a0 a1) F w0):=by
 refine kN Tryz.func340 rfl 8 rfl rfl fun fr r hB=>?_;refine wsr ?_
 refine kX 38 (.agg (bb a0).toArray) r rfl rfl fun b1 w2 n3 r=>?_;obtain ⟨E1,Z2,H1,hB,zB⟩:=n3.all hB
 refine ai (.cells (ae false az.zero 0 0 0 0 .nilFunc) 157 (0,0)) r (fun R=>ah cW) rfl fun fr b4 w5 n6 r=>?_;have H1:=keep n6.below H1
 obtain ⟨E4,Z5,H4,hB,zB⟩:=n6.all hB;refine wn (wsr (kG (bb a0) 4 r rfl H1 ta38 rfl rfl fun r=>kM (.func (.func a1f) a1_1.toArray a1_2.toArray) r rfl rfl fun r=>kU (.agg (ae false az.zero a0.op a0.at_ a0.a a0.b (.func (.func a1f) a1_1.toArray a1_2.toArray))) r (by kernel_rfl) rfl fun r=>?_));refine bi (.cells (ae false az.zero a0.op a0.at_ a0.a a0.b (.func (.func a1f) a1_1.toArray a1_2.toArray)) 157 (0,0)) r (fun R=>aZ r (o:=0) (v:=(.agg (ae false az.zero a0.op a0.at_ a0.a a0.b (.func (.func a1f) a1_1.toArray a1_2.toArray)))) rfl rfl H4 cF (Nat.le_of_ble_eq_true rfl) rfl rfl) rfl fun fr w7 u8 r=>?_
 have Z7:=u8.size;have H1:=u8.keep H1 (by omega)
 have H4:=u8.at_;obtain ⟨hB,zB⟩:=u8.on hB (by omega)
 refine wn (wp_ret ?_);refine aq r rfl rfl H4 (k:=6) rfl cA ?_;exact ⟨_,rfl,hB,Rep.fZ (a1n.mono (Nat.le_refl _) (fun b hb=>.inl hb) (Same.below hB hF) hB.size)⟩
def D.lD :T Unit:=(T.done ())
theorem rK (hF:kH F w0)
     :
    Calls Tryz.prog 339 #[.agg #[]] w0 (aB Tryz.prog az n D.lD F w0):=by
 refine kN Tryz.func339 rfl 5 rfl rfl fun fr r hB=>?_;refine wsr ?_
 refine kX 152 (.agg #[]) r rfl rfl fun b1 w2 n3 r=>?_;obtain ⟨E1,Z2,H1,hB,zB⟩:=n3.all hB
 refine ai (.cells (ae false az.zero 0 0 0 0 .nilFunc) 157 (0,0)) r (fun R=>ah cW) rfl fun fr b4 w5 n6 r=>?_;have H1:=keep n6.below H1
 obtain ⟨E4,Z5,H4,hB,zB⟩:=n6.all hB;refine wn (wsr (kG [] 0 r rfl H1 gY rfl rfl fun r=>kU (.agg (ae true (az.cells ()) 0 0 0 0 .nilFunc)) r (by kernel_rfl) rfl fun r=>?_));refine bi (.cells (ae true (az.cells ()) 0 0 0 0 .nilFunc) 157 (0,0)) r (fun R=>aZ r (o:=0) (v:=(.agg (ae true (az.cells ()) 0 0 0 0 .nilFunc))) rfl rfl H4 cF (Nat.le_of_ble_eq_true rfl) rfl rfl) rfl fun fr w7 u8 r=>?_
 have Z7:=u8.size;have H1:=u8.keep H1 (by omega)
 have H4:=u8.at_;obtain ⟨hB,zB⟩:=u8.on hB (by omega)
 refine wn (wp_ret ?_);refine aq r rfl rfl H4 (k:=6) rfl cA ?_;exact ⟨_,rfl,hB,Rep.fQ⟩
def D.lV (a0:Access) (a1:(Int→T Int)):T Int:=(T.act a0.op a0.at_ a0.a a0.b a1)
theorem jy (hF:kH F w0)
    (a0:Access) {a1f:FuncId} {a1_1 a1_2:List Value} {a1:(Int→T Int)} (a1n:FnT Tryz.prog ak u64 (n) F w0 (.func (.func a1f) a1_1.toArray a1_2.toArray) a1) :
    Calls Tryz.prog 267 #[.agg (bb a0).toArray,.func (.func a1f) a1_1.toArray a1_2.toArray] w0 (aB Tryz.prog ak n (D.lV a0 a1) F w0):=by
 refine kN Tryz.func267 rfl 8 rfl rfl fun fr r hB=>?_;refine wsr ?_
 refine kX 38 (.agg (bb a0).toArray) r rfl rfl fun b1 w2 n3 r=>?_;obtain ⟨E1,Z2,H1,hB,zB⟩:=n3.all hB
 refine ai (.cells (ae false ak.zero 0 0 0 0 .nilFunc) 44 (0,0)) r (fun R=>ah tz44) rfl fun fr b4 w5 n6 r=>?_;have H1:=keep n6.below H1
 obtain ⟨E4,Z5,H4,hB,zB⟩:=n6.all hB;refine wn (wsr (kG (bb a0) 4 r rfl H1 ta38 rfl rfl fun r=>kM (.func (.func a1f) a1_1.toArray a1_2.toArray) r rfl rfl fun r=>kU (.agg (ae false ak.zero a0.op a0.at_ a0.a a0.b (.func (.func a1f) a1_1.toArray a1_2.toArray))) r (by kernel_rfl) rfl fun r=>?_));refine bi (.cells (ae false ak.zero a0.op a0.at_ a0.a a0.b (.func (.func a1f) a1_1.toArray a1_2.toArray)) 44 (0,0)) r (fun R=>aZ r (o:=0) (v:=(.agg (ae false ak.zero a0.op a0.at_ a0.a a0.b (.func (.func a1f) a1_1.toArray a1_2.toArray)))) rfl rfl H4 ts44 (Nat.le_of_ble_eq_true rfl) rfl rfl) rfl fun fr w7 u8 r=>?_
 have Z7:=u8.size;have H1:=u8.keep H1 (by omega)
 have H4:=u8.at_;obtain ⟨hB,zB⟩:=u8.on hB (by omega)
 refine wn (wp_ret ?_);refine aq r rfl rfl H4 (k:=7) rfl ta44 ?_;exact ⟨_,rfl,hB,Rep.fZ (a1n.mono (Nat.le_refl _) (fun b hb=>.inl hb) (Same.below hB hF) hB.size)⟩
def D.cH (a0:Int):T Int:=(T.done a0)
theorem dQ (hF:kH F w0)
    (a0:Int) :
    Calls Tryz.prog 256 #[.int .i64 a0] w0 (aB Tryz.prog ak n (D.cH a0) F w0):=by
 refine kN Tryz.func256 rfl 5 rfl rfl fun fr r hB=>?_;refine wsr ?_
 refine ai (.cells (ae false ak.zero 0 0 0 0 .nilFunc) 44 (0,0)) r (fun R=>ah tz44) rfl fun fr b1 w2 n3 r=>?_;obtain ⟨E1,Z2,H1,hB,zB⟩:=n3.all hB
 refine wn (wsr (kM (I a0) r rfl rfl fun r=>kU (.agg (ae true (ak.cells a0) 0 0 0 0 .nilFunc)) r (by kernel_rfl) rfl fun r=>?_));refine bi (.cells (ae true (ak.cells a0) 0 0 0 0 .nilFunc) 44 (0,0)) r (fun R=>aZ r (o:=0) (v:=(.agg (ae true (ak.cells a0) 0 0 0 0 .nilFunc))) rfl rfl H1 ts44 (Nat.le_of_ble_eq_true rfl) rfl rfl) rfl fun fr w4 u5 r=>?_
 have Z4:=u5.size;have H1:=u5.at_;obtain ⟨hB,zB⟩:=u5.on hB (by omega)
 refine wn (wp_ret ?_);refine aq r rfl rfl H1 (k:=7) rfl ta44 ?_;exact ⟨_,rfl,hB,Rep.fQ⟩
def D.lC (a0:Grant):T Grant:=(T.done a0)
theorem rD (hF:kH F w0)
    (a0:Grant) :
    Calls Tryz.prog 155 #[.agg (grantC a0).toArray] w0 (aB Tryz.prog bm n (D.lC a0) F w0):=by
 refine kN Tryz.func155 rfl 5 rfl rfl fun fr r hB=>?_;refine wsr ?_
 refine kX 35 (.agg (grantC a0).toArray) r rfl rfl fun b1 w2 n3 r=>?_;obtain ⟨E1,Z2,H1,hB,zB⟩:=n3.all hB
 refine ai (.cells (ae false bm.zero 0 0 0 0 .nilFunc) 41 (0,0)) r (fun R=>ah tz41) rfl fun fr b4 w5 n6 r=>?_;have H1:=keep n6.below H1
 obtain ⟨E4,Z5,H4,hB,zB⟩:=n6.all hB;refine wn (wsr (kG (grantC a0) 3 r rfl H1 ta35 rfl rfl fun r=>kU (.agg (ae true (bm.cells a0) 0 0 0 0 .nilFunc)) r (by kernel_rfl) rfl fun r=>?_));refine bi (.cells (ae true (bm.cells a0) 0 0 0 0 .nilFunc) 41 (0,0)) r (fun R=>aZ r (o:=0) (v:=(.agg (ae true (bm.cells a0) 0 0 0 0 .nilFunc))) rfl rfl H4 ts41 (Nat.le_of_ble_eq_true rfl) rfl rfl) rfl fun fr w7 u8 r=>?_
 have Z7:=u8.size;have H1:=u8.keep H1 (by omega)
 have H4:=u8.at_;obtain ⟨hB,zB⟩:=u8.on hB (by omega)
 refine wn (wp_ret ?_);refine aq r rfl rfl H4 (k:=9) rfl ta41 ?_;exact ⟨_,rfl,hB,Rep.fQ⟩
def D.ow (a0:Access) (a1:(Int→T Grant)):T Grant:=(T.act a0.op a0.at_ a0.a a0.b a1)
theorem oe (hF:kH F w0)
    (a0:Access) {a1f:FuncId} {a1_1 a1_2:List Value} {a1:(Int→T Grant)} (a1n:FnT Tryz.prog bm u64 (n) F w0 (.func (.func a1f) a1_1.toArray a1_2.toArray) a1) :
    Calls Tryz.prog 253 #[.agg (bb a0).toArray,.func (.func a1f) a1_1.toArray a1_2.toArray] w0 (aB Tryz.prog bm n (D.ow a0 a1) F w0):=by
 refine kN Tryz.func253 rfl 8 rfl rfl fun fr r hB=>?_;refine wsr ?_
 refine kX 38 (.agg (bb a0).toArray) r rfl rfl fun b1 w2 n3 r=>?_;obtain ⟨E1,Z2,H1,hB,zB⟩:=n3.all hB
 refine ai (.cells (ae false bm.zero 0 0 0 0 .nilFunc) 41 (0,0)) r (fun R=>ah tz41) rfl fun fr b4 w5 n6 r=>?_;have H1:=keep n6.below H1
 obtain ⟨E4,Z5,H4,hB,zB⟩:=n6.all hB;refine wn (wsr (kG (bb a0) 4 r rfl H1 ta38 rfl rfl fun r=>kM (.func (.func a1f) a1_1.toArray a1_2.toArray) r rfl rfl fun r=>kU (.agg (ae false bm.zero a0.op a0.at_ a0.a a0.b (.func (.func a1f) a1_1.toArray a1_2.toArray))) r (by kernel_rfl) rfl fun r=>?_));refine bi (.cells (ae false bm.zero a0.op a0.at_ a0.a a0.b (.func (.func a1f) a1_1.toArray a1_2.toArray)) 41 (0,0)) r (fun R=>aZ r (o:=0) (v:=(.agg (ae false bm.zero a0.op a0.at_ a0.a a0.b (.func (.func a1f) a1_1.toArray a1_2.toArray)))) rfl rfl H4 ts41 (Nat.le_of_ble_eq_true rfl) rfl rfl) rfl fun fr w7 u8 r=>?_
 have Z7:=u8.size;have H1:=u8.keep H1 (by omega)
 have H4:=u8.at_;obtain ⟨hB,zB⟩:=u8.on hB (by omega)
 refine wn (wp_ret ?_);refine aq r rfl rfl H4 (k:=9) rfl ta41 ?_;exact ⟨_,rfl,hB,Rep.fZ (a1n.mono (Nat.le_refl _) (fun b hb=>.inl hb) (Same.below hB hF) hB.size)⟩
def D.jr (a0:Bool):T Bool:=(T.done a0)
theorem rH (hF:kH F w0)
    (a0:Bool) :
    Calls Tryz.prog 404 #[.bool a0] w0 (aB Tryz.prog cc n (D.jr a0) F w0):=by
 refine kN Tryz.func404 rfl 5 rfl rfl fun fr r hB=>?_;refine wsr ?_
 refine ai (.cells (ae false cc.zero 0 0 0 0 .nilFunc) 316 (0,0)) r (fun R=>ah j8) rfl fun fr b1 w2 n3 r=>?_;obtain ⟨E1,Z2,H1,hB,zB⟩:=n3.all hB
 refine wn (wsr (kM (.bool a0) r rfl rfl fun r=>kU (.agg (ae true (cc.cells a0) 0 0 0 0 .nilFunc)) r (by kernel_rfl) rfl fun r=>?_));refine bi (.cells (ae true (cc.cells a0) 0 0 0 0 .nilFunc) 316 (0,0)) r (fun R=>aZ r (o:=0) (v:=(.agg (ae true (cc.cells a0) 0 0 0 0 .nilFunc))) rfl rfl H1 gh (Nat.le_of_ble_eq_true rfl) rfl rfl) rfl fun fr w4 u5 r=>?_
 have Z4:=u5.size;have H1:=u5.at_;obtain ⟨hB,zB⟩:=u5.on hB (by omega)
 refine wn (wp_ret ?_);refine aq r rfl rfl H1 (k:=7) rfl gi ?_;exact ⟨_,rfl,hB,Rep.fQ⟩
def D.sI (a0:Access) (a1:(Int→T Bool)):T Bool:=(T.act a0.op a0.at_ a0.a a0.b a1)
theorem zz (hF:kH F w0)
    (a0:Access) {a1f:FuncId} {a1_1 a1_2:List Value} {a1:(Int→T Bool)} (a1n:FnT Tryz.prog cc u64 (n) F w0 (.func (.func a1f) a1_1.toArray a1_2.toArray) a1) :
    Calls Tryz.prog 410 #[.agg (bb a0).toArray,.func (.func a1f) a1_1.toArray a1_2.toArray] w0 (aB Tryz.prog cc n (D.sI a0 a1) F w0):=by
 refine kN Tryz.func410 rfl 8 rfl rfl fun fr r hB=>?_;refine wsr ?_
 refine kX 38 (.agg (bb a0).toArray) r rfl rfl fun b1 w2 n3 r=>?_;obtain ⟨E1,Z2,H1,hB,zB⟩:=n3.all hB
 refine ai (.cells (ae false cc.zero 0 0 0 0 .nilFunc) 316 (0,0)) r (fun R=>ah j8) rfl fun fr b4 w5 n6 r=>?_;have H1:=keep n6.below H1
 obtain ⟨E4,Z5,H4,hB,zB⟩:=n6.all hB;refine wn (wsr (kG (bb a0) 4 r rfl H1 ta38 rfl rfl fun r=>kM (.func (.func a1f) a1_1.toArray a1_2.toArray) r rfl rfl fun r=>kU (.agg (ae false cc.zero a0.op a0.at_ a0.a a0.b (.func (.func a1f) a1_1.toArray a1_2.toArray))) r (by kernel_rfl) rfl fun r=>?_));refine bi (.cells (ae false cc.zero a0.op a0.at_ a0.a a0.b (.func (.func a1f) a1_1.toArray a1_2.toArray)) 316 (0,0)) r (fun R=>aZ r (o:=0) (v:=(.agg (ae false cc.zero a0.op a0.at_ a0.a a0.b (.func (.func a1f) a1_1.toArray a1_2.toArray)))) rfl rfl H4 gh (Nat.le_of_ble_eq_true rfl) rfl rfl) rfl fun fr w7 u8 r=>?_
 have Z7:=u8.size;have H1:=u8.keep H1 (by omega)
 have H4:=u8.at_;obtain ⟨hB,zB⟩:=u8.on hB (by omega)
 refine wn (wp_ret ?_);refine aq r rfl rfl H4 (k:=7) rfl gi ?_;exact ⟨_,rfl,hB,Rep.fZ (a1n.mono (Nat.le_refl _) (fun b hb=>.inl hb) (Same.below hB hF) hB.size)⟩
def D.lJ (a0:Res):T Res:=(T.done a0)
def D.lT (a0:Access) (a1:(Int→T Res)):T Res:=(T.act a0.op a0.at_ a0.a a0.b a1)
def D.rU (a0:Access) (a1:(Int→T Int)):T Int:=(T.act a0.op a0.at_ a0.a a0.b a1)
theorem rJ (hF:kH F w0)
    (a0:Access) {a1f:FuncId} {a1_1 a1_2:List Value} {a1:(Int→T Int)} (a1n:FnT Tryz.prog bB u64 (n) F w0 (.func (.func a1f) a1_1.toArray a1_2.toArray) a1) :
    Calls Tryz.prog 362 #[.agg (bb a0).toArray,.func (.func a1f) a1_1.toArray a1_2.toArray] w0 (aB Tryz.prog bB n (D.rU a0 a1) F w0):=by
 refine kN Tryz.func362 rfl 8 rfl rfl fun fr r hB=>?_;refine wsr ?_
 refine kX 38 (.agg (bb a0).toArray) r rfl rfl fun b1 w2 n3 r=>?_;obtain ⟨E1,Z2,H1,hB,zB⟩:=n3.all hB
 refine ai (.cells (ae false bB.zero 0 0 0 0 .nilFunc) 268 (0,0)) r (fun R=>ah dY) rfl fun fr b4 w5 n6 r=>?_;have H1:=keep n6.below H1
 obtain ⟨E4,Z5,H4,hB,zB⟩:=n6.all hB;refine wn (wsr (kG (bb a0) 4 r rfl H1 ta38 rfl rfl fun r=>kM (.func (.func a1f) a1_1.toArray a1_2.toArray) r rfl rfl fun r=>kU (.agg (ae false bB.zero a0.op a0.at_ a0.a a0.b (.func (.func a1f) a1_1.toArray a1_2.toArray))) r (by kernel_rfl) rfl fun r=>?_));refine bi (.cells (ae false bB.zero a0.op a0.at_ a0.a a0.b (.func (.func a1f) a1_1.toArray a1_2.toArray)) 268 (0,0)) r (fun R=>aZ r (o:=0) (v:=(.agg (ae false bB.zero a0.op a0.at_ a0.a a0.b (.func (.func a1f) a1_1.toArray a1_2.toArray)))) rfl rfl H4 dH (Nat.le_of_ble_eq_true rfl) rfl rfl) rfl fun fr w7 u8 r=>?_
 have Z7:=u8.size;have H1:=u8.keep H1 (by omega)
 have H4:=u8.at_;obtain ⟨hB,zB⟩:=u8.on hB (by omega)
 refine wn (wp_ret ?_);refine aq r rfl rfl H4 (k:=7) rfl dI ?_;exact ⟨_,rfl,hB,Rep.fZ (a1n.mono (Nat.le_refl _) (fun b hb=>.inl hb) (Same.below hB hF) hB.size)⟩
def D.jn (a0:Int):T Int:=(T.done a0)
theorem rB (hF:kH F w0)
    (a0:Int) :
    Calls Tryz.prog 363 #[.int .u64 a0] w0 (aB Tryz.prog bB n (D.jn a0) F w0):=by
 refine kN Tryz.func363 rfl 5 rfl rfl fun fr r hB=>?_;refine wsr ?_
 refine ai (.cells (ae false bB.zero 0 0 0 0 .nilFunc) 268 (0,0)) r (fun R=>ah dY) rfl fun fr b1 w2 n3 r=>?_;obtain ⟨E1,Z2,H1,hB,zB⟩:=n3.all hB
 refine wn (wsr (kM (U a0) r rfl rfl fun r=>kU (.agg (ae true (bB.cells a0) 0 0 0 0 .nilFunc)) r (by kernel_rfl) rfl fun r=>?_));refine bi (.cells (ae true (bB.cells a0) 0 0 0 0 .nilFunc) 268 (0,0)) r (fun R=>aZ r (o:=0) (v:=(.agg (ae true (bB.cells a0) 0 0 0 0 .nilFunc))) rfl rfl H1 dH (Nat.le_of_ble_eq_true rfl) rfl rfl) rfl fun fr w4 u5 r=>?_
 have Z4:=u5.size;have H1:=u5.at_;obtain ⟨hB,zB⟩:=u5.on hB (by omega)
 refine wn (wp_ret ?_);refine aq r rfl rfl H1 (k:=7) rfl dI ?_;exact ⟨_,rfl,hB,Rep.fQ⟩
def rj (n:Nat):Prop:=∀ {F:Nat→Prop} {w0:World},(∀ b,F b→b<w0.heap.size)→∀ {t:T (Bool)} {pv fv:Value} {g:Bool→T (Int)},Rep Tryz.prog cc n t F w0 pv→FnT Tryz.prog ak boolE n F w0 fv g→
    (t.bn=false∨FnT Tryz.prog ak boolE (n+1) F w0 fv g)→Calls Tryz.prog 334 #[pv,fv] w0 (aB Tryz.prog ak n (t.bind g) F w0)
theorem xL {n:Nat} (ih:rj n) {F:Nat→Prop} {w0:World} (hF:∀ b,F b→b<w0.heap.size) {op at_ a b:Int} {nf:FuncId} {n1 n2:List Value} {k:Int→T (Bool)} {ff:FuncId} {f1 f2:List Value} {g:Bool→T (Int)}
    {b1 b2:Nat} (F1:F b1) (h1:w0.heap[b1]?=some (.cells (ae false cc.zero op at_ a b (.func (.func nf) n1.toArray n2.toArray)) 316 (0,0))) (F2:F b2) (h2:w0.heap[b2]?=some (.cells #[.func (.func ff) f1.toArray f2.toArray] 283 (0,0)))
    (hk:FnT Tryz.prog cc u64 (n+1) F w0 (.func (.func nf) n1.toArray n2.toArray) k) (hg:FnT Tryz.prog ak boolE (n+1) F w0 (.func (.func ff) f1.toArray f2.toArray) g) (x:Int) :
    Calls Tryz.prog 383 #[.int .u64 x,zp b1,zp b2] w0 (aB Tryz.prog ak n ((k x).bind g) F w0):=by
 refine kN Tryz.func383 rfl 11 rfl rfl fun fr r hB=>?_;refine wp_seq (wp_region_lit ?_)
 refine ai (.cells (ae false ak.zero 0 0 0 0 .nilFunc) 44 (0,0)) r (fun R=>ah tz44) rfl fun fr b3 w1 q1 r=>wn ?_;have h1:=keep q1.below h1
 have h2:=keep q1.below h2;have e3:=q1.eq;have z1:=q1.size;have h3:=q1.at_;have hB:=hB.trans (q1.below.mono hB.size);have zB:=hB.size;refine wp_seq ?_;refine bH 5 [.val (.pointer (some ⟨b1,6,none⟩)),.val (.func (.func nf) n1.toArray n2.toArray),.val (U x),.pred (RepAt Tryz.prog cc n (k x) F w0.heap.size b3) RepAt.stable,.val (.func (.func ff) f1.toArray f2.toArray)] mixed r (by kernel_rfl) (bZ trivial (bZ trivial (bZ trivial (bZ trivial (bZ trivial bG))))) ?_ ?_
 ·
  refine ec r (fun _ u _ b d s=>ax s (b:=b1) (o:=0) rfl Cd bz) ?_;refine cR r rfl (fun fr1 u w' hb' hd r'=>?_) ?_
  ·
   obtain ⟨d0,_⟩:=hd;exact av r' (v:=.func (.func nf) n1.toArray n2.toArray) d0 (keep hb' h1) Dm rfl ⟨Below.refl _ _,rfl⟩
  refine ec r (fun _ u _ b d s=>aj s rfl bz) ?_;refine cR r rfl (fun fr1 u w' hb' hd r'=>?_) ?_
  ·
   obtain ⟨d0,d1,_⟩:=hd;have zb:=hb'.size;have zb:w1.heap.size≤w'.heap.size:=zb;have hB':Below w0.heap.size w0 w':=hB.trans (Below.mono (w:=w1) ⟨hb'.os,hb'.tape,hb'.output,hb'.size,hb'.block⟩ hB.size);have d0:u 1=.func (.func nf) n1.toArray n2.toArray:=d0;have d1:u 2=.int .u64 x:=d1;refine df r' (fs:=n1) (cs:=n2) d0 d1 hk.at_.1 ((hk.at_.2 n (Nat.lt_succ_self n) x w' (Same.below hB' hF) hB'.size).mono ?_);rintro _ w2 ⟨v,rfl,hb2,hr2⟩;refine ⟨v,rfl,hb2,RepAt.iZ (fun b h=>Nat.lt_of_lt_of_le (hF b h) hB'.size) (by omega) hB'.size hb2 (Rep.mono ?_ (Same.refl _ _) (Nat.le_refl _) n _ _ hr2)⟩
   rintro b (h | h)
   · exact .inl (.inl h)
   · exact .inr h
  refine ec r (fun _ u _ b d s=>av s rfl (keep b h2) qk rfl bz) ?_;exact bI
 intro fr u w2 hb hΦ _ r;obtain ⟨_,hr3,_,hr⟩:RepAt Tryz.prog cc n (k x) F w0.heap.size b3 (u 3) w2:=hΦ 3 (by decide);have r:=r.congr (sc (hΦ 4 (by decide)) rfl);have z2:=hb.size;have h1:=keep hb h1;have h2:=keep hb h2;have h3:=keep hb h3;have hB2:=hB.trans (hb.mono hB.size);have zB2:=hB2.size;have hF1:∀ b,(kW F w0 w2 b3) b→b<w2.heap.size:=by rintro b (h | h); exact Nat.lt_of_lt_of_le (hF b h) hB2.size; exact h.2.1
 refine kC r (ih (F:=fun b=>F b∨(w0.heap.size≤b∧b<w2.heap.size∧b≠b3)) hF1 hr (hg.mono (by omega) (fun b h=>.inl h) (Same.below hB2 hF) hB2.size)
  (.inr (hg.mono (Nat.le_refl _) (fun b h=>.inl h) (Same.below hB2 hF) hB2.size))) rfl vk rfl ?_
 rintro _ w3 ⟨v2,rfl,hb2,hr2⟩;refine ⟨_,rfl,fun fr r=>?_⟩
 have z3:=hb2.size;have h3:=keep hb2 h3;have hB3:=hB2.trans (hb2.mono hB2.size);refine kP r hr2.shape rfl rfl h3 ts44 rfl rfl fun w4 u4 r=>wn ?_;have z4:=u4.size
 have h3:=u4.at_;have hB4:=u4.below hB3 (by omega)
 refine wp_ret ?_;have hs:=hr2.shape.cells;refine aq r rfl rfl h3 (k:=7) hs.1 ta44 ?_;rw [←hs.2.2];exact aB.fin hB4 hr2 u4 (by rintro b (h | ⟨h1,h2,_⟩); exact .inl h; exact .inr ⟨h1,h2⟩) (by rintro (h | ⟨_,_,h⟩); (have:=hF _ h; omega); exact h rfl) (by omega) (by omega) (by omega)
theorem xN (n:Nat):rj n:=by
  induction n using Nat.strongRecOn with
  | _ n ih=>
  intro F w0 hF t pv fv g hp hf hd;obtain ⟨ff,f1,f2,hcf,rfl,hff⟩:=id hf;cases t with
  | cut=>unfold Rep at hp; exact hp.elim
  | done x0=>
    have hf:=hd.resolve_left (by intro h; cases h)
    unfold Rep at hp
    subst hp;refine enter (l:=[.agg (ae true (cc.cells x0) 0 0 0 0 .nilFunc),.func (.func ff) f1.toArray f2.toArray]) Tryz.func334 rfl 15 rfl rfl fun fr r=>?_;have hB:=Below.refl w0.heap.size w0
    refine wp_seq (wp_region_lit ?_);refine kX 316 (.agg (ae true (cc.cells x0) 0 0 0 0 .nilFunc)) r rfl rfl fun b1 w1 q1 r=>?_;refine kX 283 (.func (.func ff) f1.toArray f2.toArray) r rfl rfl fun b2 w2 q2 r=>?_
    refine ai (.cells (ae false ak.zero 0 0 0 0 .nilFunc) 44 (0,0)) r (fun R=>ah tz44) rfl fun fr b3 w3 q3 r=>wpList_nil ?_;have h1:=keep q3.below (keep q2.below q1.at_)
    have h2:=keep q3.below q2.at_;have h3:=q3.at_;have e1:=q1.eq; have e2:=q2.eq; have e3:=q3.eq; have z1:=q1.size; have z2:=q2.size; have z3:=q3.size;have hB:=((hB.trans q1.below).trans (q2.below.mono (by omega))).trans (q3.below.mono (by omega))
    have zB:=hB.size;refine wp_seq (wp_seq (wp_region_lit (ac (zp b1) r (fun R=>ax r (o:=0) rfl ul) rfl fun fr r=>?_)));refine ac (.bool true) r (fun R=>av r (v:=.bool true) rfl h1 to4 rfl) rfl fun fr r=>wpList_nil ?_
    refine wp_cond_split (t:=true) (r.ev rfl) (fun _=>?_) (fun h=>by cases h)
    refine wp_seq (wp_region_lit (ac (.func (.func ff) f1.toArray f2.toArray) r (fun R=>av r (v:=.func (.func ff) f1.toArray f2.toArray) rfl h2 qk rfl) rfl fun fr r=>ac (.pointer (some ⟨b1,1,none⟩)) r (fun R=>ax r (o:=0) rfl Ci) rfl fun fr r=>ac (.bool x0) r (fun R=>av r (v:=(.bool x0)) rfl h1 to4 rfl) rfl fun fr r=>?_));refine cz r (hf.at_.2 n (Nat.lt_succ_self n) x0 w3 (Same.below hB hF) hB.size) (fun R hc=>dC r rfl rfl hf.at_.1 hc) rfl ?_
    rintro _ w4 ⟨v,rfl,hb,hr⟩;refine ⟨_,rfl,fun fr r=>?_⟩
    have z4:=hb.size;have h3:=keep hb h3;have hB:=hB.trans (hb.mono hB.size);refine kP r hr.shape rfl rfl h3 ts44 rfl rfl fun w5 u5 r=>wpList_nil ?_;have z5:=u5.size
    have h3:=u5.at_;have hB:=u5.below hB (by omega)
    refine wp_ret ?_;have hs:=hr.shape.cells;refine aq r rfl rfl h3 (k:=7) hs.1 ta44 ?_;rw [←hs.2.2];exact aB.fin hB hr u5 (fun b hb=>.inl hb) (fun h=>by have:=hF _ h; omega) (by omega) (by omega) (by omega)
  | act op at_ a b k=>
    obtain ⟨nf,n1,n2,hcn,rfl,hk⟩:∃ (nf:FuncId) (n1 n2:List Value),ag Tryz.prog nf=true∧pv=.agg (ae false cc.zero op at_ a b (.func (.func nf) n1.toArray n2.toArray))∧FnT Tryz.prog cc u64 n F w0 (.func (.func nf) n1.toArray n2.toArray) k:=by
      exact Rep.cU hp
    refine enter (l:=[.agg (ae false cc.zero op at_ a b (.func (.func nf) n1.toArray n2.toArray)),.func (.func ff) f1.toArray f2.toArray]) Tryz.func334 rfl 15 rfl rfl fun fr r=>?_;have hB:=Below.refl w0.heap.size w0
    refine wp_seq (wp_region_lit ?_);refine kX 316 (.agg (ae false cc.zero op at_ a b (.func (.func nf) n1.toArray n2.toArray))) r rfl rfl fun b1 w1 q1 r=>?_;refine kX 283 (.func (.func ff) f1.toArray f2.toArray) r rfl rfl fun b2 w2 q2 r=>?_
    refine ai (.cells (ae false ak.zero 0 0 0 0 .nilFunc) 44 (0,0)) r (fun R=>ah tz44) rfl fun fr b3 w3 q3 r=>wpList_nil ?_;have h1:=keep q3.below (keep q2.below q1.at_)
    have h2:=keep q3.below q2.at_;have h3:=q3.at_;have e1:=q1.eq; have e2:=q2.eq; have e3:=q3.eq; have z1:=q1.size; have z2:=q2.size; have z3:=q3.size;have hB:=((hB.trans q1.below).trans (q2.below.mono (by omega))).trans (q3.below.mono (by omega))
    have zB:=hB.size;refine wp_seq (wp_seq (wp_region_lit (ac (zp b1) r (fun R=>ax r (o:=0) rfl ul) rfl fun fr r=>?_)));refine ac (.bool false) r (fun R=>av r (v:=.bool false) rfl h1 to4 rfl) rfl fun fr r=>wpList_nil ?_
    refine wp_cond_split (t:=false) (r.ev rfl) (fun h=>by cases h) (fun _=>wp_skip ?_);refine wp_seq (wp_region_lit (ac (.pointer (some ⟨b1,2,none⟩)) r (fun R=>ax r (o:=0) rfl BR) rfl fun fr r=>kG (bb (⟨op,at_,a,b⟩:Access)) 4 r rfl h1 ta38 rfl rfl fun r=>ac (.func (.func 383) #[] #[zp b1,zp b2]) r (fun R=>aT r rfl) rfl fun fr r=>?_))
    have hF1:∀ b,(fun b=>F b∨b=b1∨b=b2) b→b<w3.heap.size:=by rintro b (h | h | h); exact Nat.lt_of_lt_of_le (hF b h) hB.size; omega; omega
    refine kC r (jy (F:=fun b=>F b∨b=b1∨b=b2) (n:=n) hF1 ⟨op,at_,a,b⟩ (a1:=fun x=>(k x).bind g) (show FnT Tryz.prog ak u64 n (fun b=>F b∨b=b1∨b=b2) w3 (.func (.func 383) ([]:List Value).toArray [zp b1,zp b2].toArray) (fun x=>(k x).bind g) from
      ⟨383,[],[zp b1,zp b2],DU,rfl,fun m hm x w' hs hz=>xL (ih m hm) (fun b hb=>Nat.lt_of_lt_of_le (hF1 b hb) hz) (.inr (.inl rfl)) (hs.at_ (.inr (.inl rfl)) h1) (.inr (.inr rfl)) (hs.at_ (.inr (.inr rfl)) h2)
        (hk.mono (by omega) (fun b h=>.inl h) ((Same.below hB hF).trans (hs.sub (fun b h=>.inl h))) (Nat.le_trans hB.size hz)) (hf.mono (by omega) (fun b h=>.inl h) ((Same.below hB hF).trans (hs.sub (fun b h=>.inl h))) (Nat.le_trans hB.size hz)) x⟩)) rfl ku rfl ?_
    rintro _ w4 ⟨v,rfl,hb,hr⟩;refine ⟨_,rfl,fun fr r=>?_⟩
    have z4:=hb.size;have h3:=keep hb h3;have hB:=hB.trans (hb.mono hB.size);refine kP r hr.shape rfl rfl h3 ts44 rfl rfl fun w5 u5 r=>wpList_nil ?_;have z5:=u5.size
    have h3:=u5.at_;have hB:=u5.below hB (by omega)
    refine wp_ret ?_;have hs:=hr.shape.cells;refine aq r rfl rfl h3 (k:=7) hs.1 ta44 ?_;rw [←hs.2.2];exact aB.fin hB hr u5 (by rintro b (h | h | h); exact .inl h; exact .inr ⟨by omega,by omega⟩; exact .inr ⟨by omega,by omega⟩) (by rintro (h | h | h); (have:=hF _ h; omega); omega; omega) (by omega) (by omega) (by omega)
theorem wT (hF:kH F w0) {t:T (Bool)} {pv fv:Value} {g:Bool→T (Int)} (hp:Rep Tryz.prog cc n t F w0 pv) (hf:FnT Tryz.prog ak boolE (n+1) F w0 fv g) :
    Calls Tryz.prog 334 #[pv,fv] w0 (aB Tryz.prog ak n (t.bind g) F w0):=xN n hF hp (hf.mono (by omega) (fun b h=>h) (Same.refl _ _) (Nat.le_refl _)) (.inr hf)
def qZ (n:Nat):Prop:=∀ {F:Nat→Prop} {w0:World},(∀ b,F b→b<w0.heap.size)→∀ {t:T (Unit)} {pv fv:Value} {g:Unit→T (Unit)},Rep Tryz.prog az n t F w0 pv→FnT Tryz.prog az noneE n F w0 fv g→
    (t.bn=false∨FnT Tryz.prog az noneE (n+1) F w0 fv g)→Calls Tryz.prog 356 #[pv,fv] w0 (aB Tryz.prog az n (t.bind g) F w0)
theorem xD {n:Nat} (ih:qZ n) {F:Nat→Prop} {w0:World} (hF:∀ b,F b→b<w0.heap.size) {op at_ a b:Int} {nf:FuncId} {n1 n2:List Value} {k:Int→T (Unit)} {ff:FuncId} {f1 f2:List Value} {g:Unit→T (Unit)}
    {b1 b2:Nat} (F1:F b1) (h1:w0.heap[b1]?=some (.cells (ae false az.zero op at_ a b (.func (.func nf) n1.toArray n2.toArray)) 157 (0,0))) (F2:F b2) (h2:w0.heap[b2]?=some (.cells #[.func (.func ff) f1.toArray f2.toArray] 319 (0,0)))
    (hk:FnT Tryz.prog az u64 (n+1) F w0 (.func (.func nf) n1.toArray n2.toArray) k) (hg:FnT Tryz.prog az noneE (n+1) F w0 (.func (.func ff) f1.toArray f2.toArray) g) (x:Int) :
    Calls Tryz.prog 390 #[.int .u64 x,zp b1,zp b2] w0 (aB Tryz.prog az n ((k x).bind g) F w0):=by
 refine kN Tryz.func390 rfl 11 rfl rfl fun fr r hB=>?_;refine wp_seq (wp_region_lit ?_)
 refine ai (.cells (ae false az.zero 0 0 0 0 .nilFunc) 157 (0,0)) r (fun R=>ah cW) rfl fun fr b3 w1 q1 r=>wn ?_;have h1:=keep q1.below h1
 have h2:=keep q1.below h2;have e3:=q1.eq;have z1:=q1.size;have h3:=q1.at_;have hB:=hB.trans (q1.below.mono hB.size);have zB:=hB.size;refine wp_seq ?_;refine bH 5 [.val (.pointer (some ⟨b1,5,none⟩)),.val (.func (.func nf) n1.toArray n2.toArray),.val (U x),.pred (RepAt Tryz.prog az n (k x) F w0.heap.size b3) RepAt.stable,.val (.func (.func ff) f1.toArray f2.toArray)] mixed r (by kernel_rfl) (bZ trivial (bZ trivial (bZ trivial (bZ trivial (bZ trivial bG))))) ?_ ?_
 ·
  refine ec r (fun _ u _ b d s=>ax s (b:=b1) (o:=0) rfl jY bz) ?_;refine cR r rfl (fun fr1 u w' hb' hd r'=>?_) ?_
  ·
   obtain ⟨d0,_⟩:=hd;exact av r' (v:=.func (.func nf) n1.toArray n2.toArray) d0 (keep hb' h1) kw rfl ⟨Below.refl _ _,rfl⟩
  refine ec r (fun _ u _ b d s=>aj s rfl bz) ?_;refine cR r rfl (fun fr1 u w' hb' hd r'=>?_) ?_
  ·
   obtain ⟨d0,d1,_⟩:=hd;have zb:=hb'.size;have zb:w1.heap.size≤w'.heap.size:=zb;have hB':Below w0.heap.size w0 w':=hB.trans (Below.mono (w:=w1) ⟨hb'.os,hb'.tape,hb'.output,hb'.size,hb'.block⟩ hB.size);have d0:u 1=.func (.func nf) n1.toArray n2.toArray:=d0;have d1:u 2=.int .u64 x:=d1;refine df r' (fs:=n1) (cs:=n2) d0 d1 hk.at_.1 ((hk.at_.2 n (Nat.lt_succ_self n) x w' (Same.below hB' hF) hB'.size).mono ?_);rintro _ w2 ⟨v,rfl,hb2,hr2⟩;refine ⟨v,rfl,hb2,RepAt.iZ (fun b h=>Nat.lt_of_lt_of_le (hF b h) hB'.size) (by omega) hB'.size hb2 (Rep.mono ?_ (Same.refl _ _) (Nat.le_refl _) n _ _ hr2)⟩
   rintro b (h | h)
   · exact .inl (.inl h)
   · exact .inr h
  refine ec r (fun _ u _ b d s=>av s rfl (keep b h2) vo rfl bz) ?_;exact bI
 intro fr u w2 hb hΦ _ r;obtain ⟨_,hr3,_,hr⟩:RepAt Tryz.prog az n (k x) F w0.heap.size b3 (u 3) w2:=hΦ 3 (by decide);have r:=r.congr (sc (hΦ 4 (by decide)) rfl);have z2:=hb.size;have h1:=keep hb h1;have h2:=keep hb h2;have h3:=keep hb h3;have hB2:=hB.trans (hb.mono hB.size);have zB2:=hB2.size;have hF1:∀ b,(kW F w0 w2 b3) b→b<w2.heap.size:=by rintro b (h | h); exact Nat.lt_of_lt_of_le (hF b h) hB2.size; exact h.2.1
 refine kC r (ih (F:=fun b=>F b∨(w0.heap.size≤b∧b<w2.heap.size∧b≠b3)) hF1 hr (hg.mono (by omega) (fun b h=>.inl h) (Same.below hB2 hF) hB2.size)
  (.inr (hg.mono (Nat.le_refl _) (fun b h=>.inl h) (Same.below hB2 hF) hB2.size))) rfl wz rfl ?_
 rintro _ w3 ⟨v2,rfl,hb2,hr2⟩;refine ⟨_,rfl,fun fr r=>?_⟩
 have z3:=hb2.size;have h3:=keep hb2 h3;have hB3:=hB2.trans (hb2.mono hB2.size);refine kP r hr2.shape rfl rfl h3 cF rfl rfl fun w4 u4 r=>wn ?_;have z4:=u4.size
 have h3:=u4.at_;have hB4:=u4.below hB3 (by omega)
 refine wp_ret ?_;have hs:=hr2.shape.cells;refine aq r rfl rfl h3 (k:=6) hs.1 cA ?_;rw [←hs.2.2];exact aB.fin hB4 hr2 u4 (by rintro b (h | ⟨h1,h2,_⟩); exact .inl h; exact .inr ⟨h1,h2⟩) (by rintro (h | ⟨_,_,h⟩); (have:=hF _ h; omega); exact h rfl) (by omega) (by omega) (by omega)
theorem xl (n:Nat):qZ n:=by
  induction n using Nat.strongRecOn with
  | _ n ih=>
  intro F w0 hF t pv fv g hp hf hd;obtain ⟨ff,f1,f2,hcf,rfl,hff⟩:=id hf;cases t with
  | cut=>unfold Rep at hp; exact hp.elim
  | done x0=>
    have hf:=hd.resolve_left (by intro h; cases h)
    unfold Rep at hp
    subst hp;refine enter (l:=[.agg (ae true (az.cells x0) 0 0 0 0 .nilFunc),.func (.func ff) f1.toArray f2.toArray]) Tryz.func356 rfl 15 rfl rfl fun fr r=>?_;have hB:=Below.refl w0.heap.size w0
    refine wp_seq (wp_region_lit ?_);refine kX 157 (.agg (ae true (az.cells x0) 0 0 0 0 .nilFunc)) r rfl rfl fun b1 w1 q1 r=>?_;refine kX 319 (.func (.func ff) f1.toArray f2.toArray) r rfl rfl fun b2 w2 q2 r=>?_
    refine ai (.cells (ae false az.zero 0 0 0 0 .nilFunc) 157 (0,0)) r (fun R=>ah cW) rfl fun fr b3 w3 q3 r=>wpList_nil ?_;have h1:=keep q3.below (keep q2.below q1.at_)
    have h2:=keep q3.below q2.at_;have h3:=q3.at_;have e1:=q1.eq; have e2:=q2.eq; have e3:=q3.eq; have z1:=q1.size; have z2:=q2.size; have z3:=q3.size;have hB:=((hB.trans q1.below).trans (q2.below.mono (by omega))).trans (q3.below.mono (by omega))
    have zB:=hB.size;refine wp_seq (wp_seq (wp_region_lit (ac (zp b1) r (fun R=>ax r (o:=0) rfl dX) rfl fun fr r=>?_)));refine ac (.bool true) r (fun R=>av r (v:=.bool true) rfl h1 to4 rfl) rfl fun fr r=>wpList_nil ?_
    refine wp_cond_split (t:=true) (r.ev rfl) (fun _=>?_) (fun h=>by cases h)
    refine wp_seq (wp_region_lit (ac (.func (.func ff) f1.toArray f2.toArray) r (fun R=>av r (v:=.func (.func ff) f1.toArray f2.toArray) rfl h2 vo rfl) rfl fun fr r=>?_));refine mB b1 1 r (fun R=>jB r rfl kx h1) rfl fun fr sp r=>ac (.agg #[]) r (fun R=>jG r rfl gY) rfl fun fr r=>?_
    refine cz r (hf.at_.2 n (Nat.lt_succ_self n) x0 w3 (Same.below hB hF) hB.size) (fun R hc=>dC r rfl rfl hf.at_.1 hc) rfl ?_;rintro _ w4 ⟨v,rfl,hb,hr⟩
    refine ⟨_,rfl,fun fr r=>?_⟩
    have z4:=hb.size;have h3:=keep hb h3;have hB:=hB.trans (hb.mono hB.size);refine kP r hr.shape rfl rfl h3 cF rfl rfl fun w5 u5 r=>wpList_nil ?_;have z5:=u5.size
    have h3:=u5.at_;have hB:=u5.below hB (by omega)
    refine wp_ret ?_;have hs:=hr.shape.cells;refine aq r rfl rfl h3 (k:=6) hs.1 cA ?_;rw [←hs.2.2];exact aB.fin hB hr u5 (fun b hb=>.inl hb) (fun h=>by have:=hF _ h; omega) (by omega) (by omega) (by omega)
  | act op at_ a b k=>
    obtain ⟨nf,n1,n2,hcn,rfl,hk⟩:∃ (nf:FuncId) (n1 n2:List Value),ag Tryz.prog nf=true∧pv=.agg (ae false az.zero op at_ a b (.func (.func nf) n1.toArray n2.toArray))∧FnT Tryz.prog az u64 n F w0 (.func (.func nf) n1.toArray n2.toArray) k:=by
      exact Rep.cU hp
    refine enter (l:=[.agg (ae false az.zero op at_ a b (.func (.func nf) n1.toArray n2.toArray)),.func (.func ff) f1.toArray f2.toArray]) Tryz.func356 rfl 15 rfl rfl fun fr r=>?_;have hB:=Below.refl w0.heap.size w0
    refine wp_seq (wp_region_lit ?_);refine kX 157 (.agg (ae false az.zero op at_ a b (.func (.func nf) n1.toArray n2.toArray))) r rfl rfl fun b1 w1 q1 r=>?_;refine kX 319 (.func (.func ff) f1.toArray f2.toArray) r rfl rfl fun b2 w2 q2 r=>?_
    refine ai (.cells (ae false az.zero 0 0 0 0 .nilFunc) 157 (0,0)) r (fun R=>ah cW) rfl fun fr b3 w3 q3 r=>wpList_nil ?_;have h1:=keep q3.below (keep q2.below q1.at_)
    have h2:=keep q3.below q2.at_;have h3:=q3.at_;have e1:=q1.eq; have e2:=q2.eq; have e3:=q3.eq; have z1:=q1.size; have z2:=q2.size; have z3:=q3.size;have hB:=((hB.trans q1.below).trans (q2.below.mono (by omega))).trans (q3.below.mono (by omega))
    have zB:=hB.size;refine wp_seq (wp_seq (wp_region_lit (ac (zp b1) r (fun R=>ax r (o:=0) rfl dX) rfl fun fr r=>?_)));refine ac (.bool false) r (fun R=>av r (v:=.bool false) rfl h1 to4 rfl) rfl fun fr r=>wpList_nil ?_
    refine wp_cond_split (t:=false) (r.ev rfl) (fun h=>by cases h) (fun _=>wp_skip ?_);refine wp_seq (wp_region_lit (ac (.pointer (some ⟨b1,1,none⟩)) r (fun R=>ax r (o:=0) rfl jZ) rfl fun fr r=>kG (bb (⟨op,at_,a,b⟩:Access)) 4 r rfl h1 ta38 rfl rfl fun r=>ac (.func (.func 390) #[] #[zp b1,zp b2]) r (fun R=>aT r rfl) rfl fun fr r=>?_))
    have hF1:∀ b,(fun b=>F b∨b=b1∨b=b2) b→b<w3.heap.size:=by rintro b (h | h | h); exact Nat.lt_of_lt_of_le (hF b h) hB.size; omega; omega
    refine kC r (s5 (F:=fun b=>F b∨b=b1∨b=b2) (n:=n) hF1 ⟨op,at_,a,b⟩ (a1:=fun x=>(k x).bind g) (show FnT Tryz.prog az u64 n (fun b=>F b∨b=b1∨b=b2) w3 (.func (.func 390) ([]:List Value).toArray [zp b1,zp b2].toArray) (fun x=>(k x).bind g) from
      ⟨390,[],[zp b1,zp b2],Dz,rfl,fun m hm x w' hs hz=>xD (ih m hm) (fun b hb=>Nat.lt_of_lt_of_le (hF1 b hb) hz) (.inr (.inl rfl)) (hs.at_ (.inr (.inl rfl)) h1) (.inr (.inr rfl)) (hs.at_ (.inr (.inr rfl)) h2)
        (hk.mono (by omega) (fun b h=>.inl h) ((Same.below hB hF).trans (hs.sub (fun b h=>.inl h))) (Nat.le_trans hB.size hz)) (hf.mono (by omega) (fun b h=>.inl h) ((Same.below hB hF).trans (hs.sub (fun b h=>.inl h))) (Nat.le_trans hB.size hz)) x⟩)) rfl vM rfl ?_
    rintro _ w4 ⟨v,rfl,hb,hr⟩;refine ⟨_,rfl,fun fr r=>?_⟩
    have z4:=hb.size;have h3:=keep hb h3;have hB:=hB.trans (hb.mono hB.size);refine kP r hr.shape rfl rfl h3 cF rfl rfl fun w5 u5 r=>wpList_nil ?_;have z5:=u5.size
    have h3:=u5.at_;have hB:=u5.below hB (by omega)
    refine wp_ret ?_;have hs:=hr.shape.cells;refine aq r rfl rfl h3 (k:=6) hs.1 cA ?_;rw [←hs.2.2];exact aB.fin hB hr u5 (by rintro b (h | h | h); exact .inl h; exact .inr ⟨by omega,by omega⟩; exact .inr ⟨by omega,by omega⟩) (by rintro (h | h | h); (have:=hF _ h; omega); omega; omega) (by omega) (by omega) (by omega)
theorem wQ (hF:kH F w0) {t:T (Unit)} {pv fv:Value} {g:Unit→T (Unit)} (hp:Rep Tryz.prog az n t F w0 pv) (hf:FnT Tryz.prog az noneE n F w0 fv g) (hd:t.bn=false) :
    Calls Tryz.prog 356 #[pv,fv] w0 (aB Tryz.prog az n (t.bind g) F w0):=xl n hF hp hf (.inl hd)
def qQ (n:Nat):Prop:=∀ {F:Nat→Prop} {w0:World},(∀ b,F b→b<w0.heap.size)→∀ {t:T (Unit)} {pv fv:Value} {g:Unit→T (Int)},Rep Tryz.prog az n t F w0 pv→FnT Tryz.prog bB noneE n F w0 fv g→
    (t.bn=false∨FnT Tryz.prog bB noneE (n+1) F w0 fv g)→Calls Tryz.prog 364 #[pv,fv] w0 (aB Tryz.prog bB n (t.bind g) F w0)
theorem wS {n:Nat} (ih:qQ n) {F:Nat→Prop} {w0:World} (hF:∀ b,F b→b<w0.heap.size) {op at_ a b:Int} {nf:FuncId} {n1 n2:List Value} {k:Int→T (Unit)} {ff:FuncId} {f1 f2:List Value} {g:Unit→T (Int)}
    {b1 b2:Nat} (F1:F b1) (h1:w0.heap[b1]?=some (.cells (ae false az.zero op at_ a b (.func (.func nf) n1.toArray n2.toArray)) 157 (0,0))) (F2:F b2) (h2:w0.heap[b2]?=some (.cells #[.func (.func ff) f1.toArray f2.toArray] 325 (0,0)))
    (hk:FnT Tryz.prog az u64 (n+1) F w0 (.func (.func nf) n1.toArray n2.toArray) k) (hg:FnT Tryz.prog bB noneE (n+1) F w0 (.func (.func ff) f1.toArray f2.toArray) g) (x:Int) :
    Calls Tryz.prog 391 #[.int .u64 x,zp b1,zp b2] w0 (aB Tryz.prog bB n ((k x).bind g) F w0):=by
 refine kN Tryz.func391 rfl 11 rfl rfl fun fr r hB=>?_;refine wp_seq (wp_region_lit ?_)
 refine ai (.cells (ae false bB.zero 0 0 0 0 .nilFunc) 268 (0,0)) r (fun R=>ah dY) rfl fun fr b3 w1 q1 r=>wn ?_;have h1:=keep q1.below h1
 have h2:=keep q1.below h2;have e3:=q1.eq;have z1:=q1.size;have h3:=q1.at_;have hB:=hB.trans (q1.below.mono hB.size);have zB:=hB.size;refine wp_seq ?_;refine bH 5 [.val (.pointer (some ⟨b1,5,none⟩)),.val (.func (.func nf) n1.toArray n2.toArray),.val (U x),.pred (RepAt Tryz.prog az n (k x) F w0.heap.size b3) RepAt.stable,.val (.func (.func ff) f1.toArray f2.toArray)] mixed r (by kernel_rfl) (bZ trivial (bZ trivial (bZ trivial (bZ trivial (bZ trivial bG))))) ?_ ?_
 ·
  refine ec r (fun _ u _ b d s=>ax s (b:=b1) (o:=0) rfl jY bz) ?_;refine cR r rfl (fun fr1 u w' hb' hd r'=>?_) ?_
  ·
   obtain ⟨d0,_⟩:=hd;exact av r' (v:=.func (.func nf) n1.toArray n2.toArray) d0 (keep hb' h1) kw rfl ⟨Below.refl _ _,rfl⟩
  refine ec r (fun _ u _ b d s=>aj s rfl bz) ?_;refine cR r rfl (fun fr1 u w' hb' hd r'=>?_) ?_
  ·
   obtain ⟨d0,d1,_⟩:=hd;have zb:=hb'.size;have zb:w1.heap.size≤w'.heap.size:=zb;have hB':Below w0.heap.size w0 w':=hB.trans (Below.mono (w:=w1) ⟨hb'.os,hb'.tape,hb'.output,hb'.size,hb'.block⟩ hB.size);have d0:u 1=.func (.func nf) n1.toArray n2.toArray:=d0;have d1:u 2=.int .u64 x:=d1;refine df r' (fs:=n1) (cs:=n2) d0 d1 hk.at_.1 ((hk.at_.2 n (Nat.lt_succ_self n) x w' (Same.below hB' hF) hB'.size).mono ?_);rintro _ w2 ⟨v,rfl,hb2,hr2⟩;refine ⟨v,rfl,hb2,RepAt.iZ (fun b h=>Nat.lt_of_lt_of_le (hF b h) hB'.size) (by omega) hB'.size hb2 (Rep.mono ?_ (Same.refl _ _) (Nat.le_refl _) n _ _ hr2)⟩
   rintro b (h | h)
   · exact .inl (.inl h)
   · exact .inr h
  refine ec r (fun _ u _ b d s=>av s rfl (keep b h2) wB rfl bz) ?_;exact bI
 intro fr u w2 hb hΦ _ r;obtain ⟨_,hr3,_,hr⟩:RepAt Tryz.prog az n (k x) F w0.heap.size b3 (u 3) w2:=hΦ 3 (by decide);have r:=r.congr (sc (hΦ 4 (by decide)) rfl);have z2:=hb.size;have h1:=keep hb h1;have h2:=keep hb h2;have h3:=keep hb h3;have hB2:=hB.trans (hb.mono hB.size);have zB2:=hB2.size;have hF1:∀ b,(kW F w0 w2 b3) b→b<w2.heap.size:=by rintro b (h | h); exact Nat.lt_of_lt_of_le (hF b h) hB2.size; exact h.2.1
 refine kC r (ih (F:=fun b=>F b∨(w0.heap.size≤b∧b<w2.heap.size∧b≠b3)) hF1 hr (hg.mono (by omega) (fun b h=>.inl h) (Same.below hB2 hF) hB2.size)
  (.inr (hg.mono (Nat.le_refl _) (fun b h=>.inl h) (Same.below hB2 hF) hB2.size))) rfl wF rfl ?_
 rintro _ w3 ⟨v2,rfl,hb2,hr2⟩;refine ⟨_,rfl,fun fr r=>?_⟩
 have z3:=hb2.size;have h3:=keep hb2 h3;have hB3:=hB2.trans (hb2.mono hB2.size);refine kP r hr2.shape rfl rfl h3 dH rfl rfl fun w4 u4 r=>wn ?_;have z4:=u4.size
 have h3:=u4.at_;have hB4:=u4.below hB3 (by omega)
 refine wp_ret ?_;have hs:=hr2.shape.cells;refine aq r rfl rfl h3 (k:=7) hs.1 dI ?_;rw [←hs.2.2];exact aB.fin hB4 hr2 u4 (by rintro b (h | ⟨h1,h2,_⟩); exact .inl h; exact .inr ⟨h1,h2⟩) (by rintro (h | ⟨_,_,h⟩); (have:=hF _ h; omega); exact h rfl) (by omega) (by omega) (by omega)
theorem wU (n:Nat):qQ n:=by
  induction n using Nat.strongRecOn with
  | _ n ih=>
  intro F w0 hF t pv fv g hp hf hd;obtain ⟨ff,f1,f2,hcf,rfl,hff⟩:=id hf;cases t with
  | cut=>unfold Rep at hp; exact hp.elim
  | done x0=>
    have hf:=hd.resolve_left (by intro h; cases h)
    unfold Rep at hp
    subst hp;refine enter (l:=[.agg (ae true (az.cells x0) 0 0 0 0 .nilFunc),.func (.func ff) f1.toArray f2.toArray]) Tryz.func364 rfl 15 rfl rfl fun fr r=>?_;have hB:=Below.refl w0.heap.size w0
    refine wp_seq (wp_region_lit ?_);refine kX 157 (.agg (ae true (az.cells x0) 0 0 0 0 .nilFunc)) r rfl rfl fun b1 w1 q1 r=>?_;refine kX 325 (.func (.func ff) f1.toArray f2.toArray) r rfl rfl fun b2 w2 q2 r=>?_
    refine ai (.cells (ae false bB.zero 0 0 0 0 .nilFunc) 268 (0,0)) r (fun R=>ah dY) rfl fun fr b3 w3 q3 r=>wpList_nil ?_;have h1:=keep q3.below (keep q2.below q1.at_)
    have h2:=keep q3.below q2.at_;have h3:=q3.at_;have e1:=q1.eq; have e2:=q2.eq; have e3:=q3.eq; have z1:=q1.size; have z2:=q2.size; have z3:=q3.size;have hB:=((hB.trans q1.below).trans (q2.below.mono (by omega))).trans (q3.below.mono (by omega))
    have zB:=hB.size;refine wp_seq (wp_seq (wp_region_lit (ac (zp b1) r (fun R=>ax r (o:=0) rfl dX) rfl fun fr r=>?_)));refine ac (.bool true) r (fun R=>av r (v:=.bool true) rfl h1 to4 rfl) rfl fun fr r=>wpList_nil ?_
    refine wp_cond_split (t:=true) (r.ev rfl) (fun _=>?_) (fun h=>by cases h)
    refine wp_seq (wp_region_lit (ac (.func (.func ff) f1.toArray f2.toArray) r (fun R=>av r (v:=.func (.func ff) f1.toArray f2.toArray) rfl h2 wB rfl) rfl fun fr r=>?_));refine mB b1 1 r (fun R=>jB r rfl kx h1) rfl fun fr sp r=>ac (.agg #[]) r (fun R=>jG r rfl gY) rfl fun fr r=>?_
    refine cz r (hf.at_.2 n (Nat.lt_succ_self n) x0 w3 (Same.below hB hF) hB.size) (fun R hc=>dC r rfl rfl hf.at_.1 hc) rfl ?_;rintro _ w4 ⟨v,rfl,hb,hr⟩
    refine ⟨_,rfl,fun fr r=>?_⟩
    have z4:=hb.size;have h3:=keep hb h3;have hB:=hB.trans (hb.mono hB.size);refine kP r hr.shape rfl rfl h3 dH rfl rfl fun w5 u5 r=>wpList_nil ?_;have z5:=u5.size
    have h3:=u5.at_;have hB:=u5.below hB (by omega)
    refine wp_ret ?_;have hs:=hr.shape.cells;refine aq r rfl rfl h3 (k:=7) hs.1 dI ?_;rw [←hs.2.2];exact aB.fin hB hr u5 (fun b hb=>.inl hb) (fun h=>by have:=hF _ h; omega) (by omega) (by omega) (by omega)
  | act op at_ a b k=>
    obtain ⟨nf,n1,n2,hcn,rfl,hk⟩:∃ (nf:FuncId) (n1 n2:List Value),ag Tryz.prog nf=true∧pv=.agg (ae false az.zero op at_ a b (.func (.func nf) n1.toArray n2.toArray))∧FnT Tryz.prog az u64 n F w0 (.func (.func nf) n1.toArray n2.toArray) k:=by
      exact Rep.cU hp
    refine enter (l:=[.agg (ae false az.zero op at_ a b (.func (.func nf) n1.toArray n2.toArray)),.func (.func ff) f1.toArray f2.toArray]) Tryz.func364 rfl 15 rfl rfl fun fr r=>?_;have hB:=Below.refl w0.heap.size w0
    refine wp_seq (wp_region_lit ?_);refine kX 157 (.agg (ae false az.zero op at_ a b (.func (.func nf) n1.toArray n2.toArray))) r rfl rfl fun b1 w1 q1 r=>?_;refine kX 325 (.func (.func ff) f1.toArray f2.toArray) r rfl rfl fun b2 w2 q2 r=>?_
    refine ai (.cells (ae false bB.zero 0 0 0 0 .nilFunc) 268 (0,0)) r (fun R=>ah dY) rfl fun fr b3 w3 q3 r=>wpList_nil ?_;have h1:=keep q3.below (keep q2.below q1.at_)
    have h2:=keep q3.below q2.at_;have h3:=q3.at_;have e1:=q1.eq; have e2:=q2.eq; have e3:=q3.eq; have z1:=q1.size; have z2:=q2.size; have z3:=q3.size;have hB:=((hB.trans q1.below).trans (q2.below.mono (by omega))).trans (q3.below.mono (by omega))
    have zB:=hB.size;refine wp_seq (wp_seq (wp_region_lit (ac (zp b1) r (fun R=>ax r (o:=0) rfl dX) rfl fun fr r=>?_)));refine ac (.bool false) r (fun R=>av r (v:=.bool false) rfl h1 to4 rfl) rfl fun fr r=>wpList_nil ?_
    refine wp_cond_split (t:=false) (r.ev rfl) (fun h=>by cases h) (fun _=>wp_skip ?_);refine wp_seq (wp_region_lit (ac (.pointer (some ⟨b1,1,none⟩)) r (fun R=>ax r (o:=0) rfl jZ) rfl fun fr r=>kG (bb (⟨op,at_,a,b⟩:Access)) 4 r rfl h1 ta38 rfl rfl fun r=>ac (.func (.func 391) #[] #[zp b1,zp b2]) r (fun R=>aT r rfl) rfl fun fr r=>?_))
    have hF1:∀ b,(fun b=>F b∨b=b1∨b=b2) b→b<w3.heap.size:=by rintro b (h | h | h); exact Nat.lt_of_lt_of_le (hF b h) hB.size; omega; omega
    refine kC r (rJ (F:=fun b=>F b∨b=b1∨b=b2) (n:=n) hF1 ⟨op,at_,a,b⟩ (a1:=fun x=>(k x).bind g) (show FnT Tryz.prog bB u64 n (fun b=>F b∨b=b1∨b=b2) w3 (.func (.func 391) ([]:List Value).toArray [zp b1,zp b2].toArray) (fun x=>(k x).bind g) from
      ⟨391,[],[zp b1,zp b2],EO,rfl,fun m hm x w' hs hz=>wS (ih m hm) (fun b hb=>Nat.lt_of_lt_of_le (hF1 b hb) hz) (.inr (.inl rfl)) (hs.at_ (.inr (.inl rfl)) h1) (.inr (.inr rfl)) (hs.at_ (.inr (.inr rfl)) h2)
        (hk.mono (by omega) (fun b h=>.inl h) ((Same.below hB hF).trans (hs.sub (fun b h=>.inl h))) (Nat.le_trans hB.size hz)) (hf.mono (by omega) (fun b h=>.inl h) ((Same.below hB hF).trans (hs.sub (fun b h=>.inl h))) (Nat.le_trans hB.size hz)) x⟩)) rfl vh rfl ?_
    rintro _ w4 ⟨v,rfl,hb,hr⟩;refine ⟨_,rfl,fun fr r=>?_⟩
    have z4:=hb.size;have h3:=keep hb h3;have hB:=hB.trans (hb.mono hB.size);refine kP r hr.shape rfl rfl h3 dH rfl rfl fun w5 u5 r=>wpList_nil ?_;have z5:=u5.size
    have h3:=u5.at_;have hB:=u5.below hB (by omega)
    refine wp_ret ?_;have hs:=hr.shape.cells;refine aq r rfl rfl h3 (k:=7) hs.1 dI ?_;rw [←hs.2.2];exact aB.fin hB hr u5 (by rintro b (h | h | h); exact .inl h; exact .inr ⟨by omega,by omega⟩; exact .inr ⟨by omega,by omega⟩) (by rintro (h | h | h); (have:=hF _ h; omega); omega; omega) (by omega) (by omega) (by omega)
theorem wJ (hF:kH F w0) {t:T (Unit)} {pv fv:Value} {g:Unit→T (Int)} (hp:Rep Tryz.prog az n t F w0 pv) (hf:FnT Tryz.prog bB noneE (n+1) F w0 fv g) :
    Calls Tryz.prog 364 #[pv,fv] w0 (aB Tryz.prog bB n (t.bind g) F w0):=wU n hF hp (hf.mono (by omega) (fun b h=>h) (Same.refl _ _) (Nat.le_refl _)) (.inr hf)
def qV (n:Nat):Prop:=∀ {F:Nat→Prop} {w0:World},(∀ b,F b→b<w0.heap.size)→∀ {t:T (Int)} {pv fv:Value} {g:Int→T (Grant)},Rep Tryz.prog ak n t F w0 pv→FnT Tryz.prog bm i64 n F w0 fv g→
    (t.bn=false∨FnT Tryz.prog bm i64 (n+1) F w0 fv g)→Calls Tryz.prog 157 #[pv,fv] w0 (aB Tryz.prog bm n (t.bind g) F w0)
theorem xu {n:Nat} (ih:qV n) {F:Nat→Prop} {w0:World} (hF:∀ b,F b→b<w0.heap.size) {op at_ a b:Int} {nf:FuncId} {n1 n2:List Value} {k:Int→T (Int)} {ff:FuncId} {f1 f2:List Value} {g:Int→T (Grant)}
    {b1 b2:Nat} (F1:F b1) (h1:w0.heap[b1]?=some (.cells (ae false ak.zero op at_ a b (.func (.func nf) n1.toArray n2.toArray)) 44 (0,0))) (F2:F b2) (h2:w0.heap[b2]?=some (.cells #[.func (.func ff) f1.toArray f2.toArray] 231 (0,0)))
    (hk:FnT Tryz.prog ak u64 (n+1) F w0 (.func (.func nf) n1.toArray n2.toArray) k) (hg:FnT Tryz.prog bm i64 (n+1) F w0 (.func (.func ff) f1.toArray f2.toArray) g) (x:Int) :
    Calls Tryz.prog 254 #[.int .u64 x,zp b1,zp b2] w0 (aB Tryz.prog bm n ((k x).bind g) F w0):=by
 refine kN Tryz.func254 rfl 11 rfl rfl fun fr r hB=>?_;refine wp_seq (wp_region_lit ?_)
 refine ai (.cells (ae false bm.zero 0 0 0 0 .nilFunc) 41 (0,0)) r (fun R=>ah tz41) rfl fun fr b3 w1 q1 r=>wn ?_;have h1:=keep q1.below h1
 have h2:=keep q1.below h2;have e3:=q1.eq;have z1:=q1.size;have h3:=q1.at_;have hB:=hB.trans (q1.below.mono hB.size);have zB:=hB.size;refine wp_seq ?_;refine bH 5 [.val (.pointer (some ⟨b1,6,none⟩)),.val (.func (.func nf) n1.toArray n2.toArray),.val (U x),.pred (RepAt Tryz.prog ak n (k x) F w0.heap.size b3) RepAt.stable,.val (.func (.func ff) f1.toArray f2.toArray)] mixed r (by kernel_rfl) (bZ trivial (bZ trivial (bZ trivial (bZ trivial (bZ trivial bG))))) ?_ ?_
 ·
  refine ec r (fun _ u _ b d s=>ax s (b:=b1) (o:=0) rfl mL bz) ?_;refine cR r rfl (fun fr1 u w' hb' hd r'=>?_) ?_
  ·
   obtain ⟨d0,_⟩:=hd;exact av r' (v:=.func (.func nf) n1.toArray n2.toArray) d0 (keep hb' h1) to42 rfl ⟨Below.refl _ _,rfl⟩
  refine ec r (fun _ u _ b d s=>aj s rfl bz) ?_;refine cR r rfl (fun fr1 u w' hb' hd r'=>?_) ?_
  ·
   obtain ⟨d0,d1,_⟩:=hd;have zb:=hb'.size;have zb:w1.heap.size≤w'.heap.size:=zb;have hB':Below w0.heap.size w0 w':=hB.trans (Below.mono (w:=w1) ⟨hb'.os,hb'.tape,hb'.output,hb'.size,hb'.block⟩ hB.size);have d0:u 1=.func (.func nf) n1.toArray n2.toArray:=d0;have d1:u 2=.int .u64 x:=d1;refine df r' (fs:=n1) (cs:=n2) d0 d1 hk.at_.1 ((hk.at_.2 n (Nat.lt_succ_self n) x w' (Same.below hB' hF) hB'.size).mono ?_);rintro _ w2 ⟨v,rfl,hb2,hr2⟩;refine ⟨v,rfl,hb2,RepAt.iZ (fun b h=>Nat.lt_of_lt_of_le (hF b h) hB'.size) (by omega) hB'.size hb2 (Rep.mono ?_ (Same.refl _ _) (Nat.le_refl _) n _ _ hr2)⟩
   rintro b (h | h)
   · exact .inl (.inl h)
   · exact .inr h
  refine ec r (fun _ u _ b d s=>av s rfl (keep b h2) qF rfl bz) ?_;exact bI
 intro fr u w2 hb hΦ _ r;obtain ⟨_,hr3,_,hr⟩:RepAt Tryz.prog ak n (k x) F w0.heap.size b3 (u 3) w2:=hΦ 3 (by decide);have r:=r.congr (sc (hΦ 4 (by decide)) rfl);have z2:=hb.size;have h1:=keep hb h1;have h2:=keep hb h2;have h3:=keep hb h3;have hB2:=hB.trans (hb.mono hB.size);have zB2:=hB2.size;have hF1:∀ b,(kW F w0 w2 b3) b→b<w2.heap.size:=by rintro b (h | h); exact Nat.lt_of_lt_of_le (hF b h) hB2.size; exact h.2.1
 refine kC r (ih (F:=fun b=>F b∨(w0.heap.size≤b∧b<w2.heap.size∧b≠b3)) hF1 hr (hg.mono (by omega) (fun b h=>.inl h) (Same.below hB2 hF) hB2.size)
  (.inr (hg.mono (Nat.le_refl _) (fun b h=>.inl h) (Same.below hB2 hF) hB2.size))) rfl mV rfl ?_
 rintro _ w3 ⟨v2,rfl,hb2,hr2⟩;refine ⟨_,rfl,fun fr r=>?_⟩
 have z3:=hb2.size;have h3:=keep hb2 h3;have hB3:=hB2.trans (hb2.mono hB2.size);refine kP r hr2.shape rfl rfl h3 ts41 rfl rfl fun w4 u4 r=>wn ?_;have z4:=u4.size
 have h3:=u4.at_;have hB4:=u4.below hB3 (by omega)
 refine wp_ret ?_;have hs:=hr2.shape.cells;refine aq r rfl rfl h3 (k:=9) hs.1 ta41 ?_;rw [←hs.2.2];exact aB.fin hB4 hr2 u4 (by rintro b (h | ⟨h1,h2,_⟩); exact .inl h; exact .inr ⟨h1,h2⟩) (by rintro (h | ⟨_,_,h⟩); (have:=hF _ h; omega); exact h rfl) (by omega) (by omega) (by omega)
theorem xo (n:Nat):qV n:=by
  induction n using Nat.strongRecOn with
  | _ n ih=>
  intro F w0 hF t pv fv g hp hf hd;obtain ⟨ff,f1,f2,hcf,rfl,hff⟩:=id hf;cases t with
  | cut=>unfold Rep at hp; exact hp.elim
  | done x0=>
    have hf:=hd.resolve_left (by intro h; cases h)
    unfold Rep at hp
    subst hp;refine enter (l:=[.agg (ae true (ak.cells x0) 0 0 0 0 .nilFunc),.func (.func ff) f1.toArray f2.toArray]) Tryz.func157 rfl 15 rfl rfl fun fr r=>?_;have hB:=Below.refl w0.heap.size w0
    refine wp_seq (wp_region_lit ?_);refine kX 44 (.agg (ae true (ak.cells x0) 0 0 0 0 .nilFunc)) r rfl rfl fun b1 w1 q1 r=>?_;refine kX 231 (.func (.func ff) f1.toArray f2.toArray) r rfl rfl fun b2 w2 q2 r=>?_
    refine ai (.cells (ae false bm.zero 0 0 0 0 .nilFunc) 41 (0,0)) r (fun R=>ah tz41) rfl fun fr b3 w3 q3 r=>wpList_nil ?_;have h1:=keep q3.below (keep q2.below q1.at_)
    have h2:=keep q3.below q2.at_;have h3:=q3.at_;have e1:=q1.eq; have e2:=q2.eq; have e3:=q3.eq; have z1:=q1.size; have z2:=q2.size; have z3:=q3.size;have hB:=((hB.trans q1.below).trans (q2.below.mono (by omega))).trans (q3.below.mono (by omega))
    have zB:=hB.size;refine wp_seq (wp_seq (wp_region_lit (ac (zp b1) r (fun R=>ax r (o:=0) rfl fY) rfl fun fr r=>?_)));refine ac (.bool true) r (fun R=>av r (v:=.bool true) rfl h1 to4 rfl) rfl fun fr r=>wpList_nil ?_
    refine wp_cond_split (t:=true) (r.ev rfl) (fun _=>?_) (fun h=>by cases h)
    refine wp_seq (wp_region_lit (ac (.func (.func ff) f1.toArray f2.toArray) r (fun R=>av r (v:=.func (.func ff) f1.toArray f2.toArray) rfl h2 qF rfl) rfl fun fr r=>ac (.pointer (some ⟨b1,1,none⟩)) r (fun R=>ax r (o:=0) rfl mO) rfl fun fr r=>ac (.int .i64 x0) r (fun R=>av r (v:=(.int .i64 x0)) rfl h1 to3 rfl) rfl fun fr r=>?_));refine cz r (hf.at_.2 n (Nat.lt_succ_self n) x0 w3 (Same.below hB hF) hB.size) (fun R hc=>dC r rfl rfl hf.at_.1 hc) rfl ?_
    rintro _ w4 ⟨v,rfl,hb,hr⟩;refine ⟨_,rfl,fun fr r=>?_⟩
    have z4:=hb.size;have h3:=keep hb h3;have hB:=hB.trans (hb.mono hB.size);refine kP r hr.shape rfl rfl h3 ts41 rfl rfl fun w5 u5 r=>wpList_nil ?_;have z5:=u5.size
    have h3:=u5.at_;have hB:=u5.below hB (by omega)
    refine wp_ret ?_;have hs:=hr.shape.cells;refine aq r rfl rfl h3 (k:=9) hs.1 ta41 ?_;rw [←hs.2.2];exact aB.fin hB hr u5 (fun b hb=>.inl hb) (fun h=>by have:=hF _ h; omega) (by omega) (by omega) (by omega)
  | act op at_ a b k=>
    obtain ⟨nf,n1,n2,hcn,rfl,hk⟩:∃ (nf:FuncId) (n1 n2:List Value),ag Tryz.prog nf=true∧pv=.agg (ae false ak.zero op at_ a b (.func (.func nf) n1.toArray n2.toArray))∧FnT Tryz.prog ak u64 n F w0 (.func (.func nf) n1.toArray n2.toArray) k:=by
      exact Rep.cU hp
    refine enter (l:=[.agg (ae false ak.zero op at_ a b (.func (.func nf) n1.toArray n2.toArray)),.func (.func ff) f1.toArray f2.toArray]) Tryz.func157 rfl 15 rfl rfl fun fr r=>?_;have hB:=Below.refl w0.heap.size w0
    refine wp_seq (wp_region_lit ?_);refine kX 44 (.agg (ae false ak.zero op at_ a b (.func (.func nf) n1.toArray n2.toArray))) r rfl rfl fun b1 w1 q1 r=>?_;refine kX 231 (.func (.func ff) f1.toArray f2.toArray) r rfl rfl fun b2 w2 q2 r=>?_
    refine ai (.cells (ae false bm.zero 0 0 0 0 .nilFunc) 41 (0,0)) r (fun R=>ah tz41) rfl fun fr b3 w3 q3 r=>wpList_nil ?_;have h1:=keep q3.below (keep q2.below q1.at_)
    have h2:=keep q3.below q2.at_;have h3:=q3.at_;have e1:=q1.eq; have e2:=q2.eq; have e3:=q3.eq; have z1:=q1.size; have z2:=q2.size; have z3:=q3.size;have hB:=((hB.trans q1.below).trans (q2.below.mono (by omega))).trans (q3.below.mono (by omega))
    have zB:=hB.size;refine wp_seq (wp_seq (wp_region_lit (ac (zp b1) r (fun R=>ax r (o:=0) rfl fY) rfl fun fr r=>?_)));refine ac (.bool false) r (fun R=>av r (v:=.bool false) rfl h1 to4 rfl) rfl fun fr r=>wpList_nil ?_
    refine wp_cond_split (t:=false) (r.ev rfl) (fun h=>by cases h) (fun _=>wp_skip ?_);refine wp_seq (wp_region_lit (ac (.pointer (some ⟨b1,2,none⟩)) r (fun R=>ax r (o:=0) rfl mN) rfl fun fr r=>kG (bb (⟨op,at_,a,b⟩:Access)) 4 r rfl h1 ta38 rfl rfl fun r=>ac (.func (.func 254) #[] #[zp b1,zp b2]) r (fun R=>aT r rfl) rfl fun fr r=>?_))
    have hF1:∀ b,(fun b=>F b∨b=b1∨b=b2) b→b<w3.heap.size:=by rintro b (h | h | h); exact Nat.lt_of_lt_of_le (hF b h) hB.size; omega; omega
    refine kC r (oe (F:=fun b=>F b∨b=b1∨b=b2) (n:=n) hF1 ⟨op,at_,a,b⟩ (a1:=fun x=>(k x).bind g) (show FnT Tryz.prog bm u64 n (fun b=>F b∨b=b1∨b=b2) w3 (.func (.func 254) ([]:List Value).toArray [zp b1,zp b2].toArray) (fun x=>(k x).bind g) from
      ⟨254,[],[zp b1,zp b2],Db,rfl,fun m hm x w' hs hz=>xu (ih m hm) (fun b hb=>Nat.lt_of_lt_of_le (hF1 b hb) hz) (.inr (.inl rfl)) (hs.at_ (.inr (.inl rfl)) h1) (.inr (.inr rfl)) (hs.at_ (.inr (.inr rfl)) h2)
        (hk.mono (by omega) (fun b h=>.inl h) ((Same.below hB hF).trans (hs.sub (fun b h=>.inl h))) (Nat.le_trans hB.size hz)) (hf.mono (by omega) (fun b h=>.inl h) ((Same.below hB hF).trans (hs.sub (fun b h=>.inl h))) (Nat.le_trans hB.size hz)) x⟩)) rfl qt rfl ?_
    rintro _ w4 ⟨v,rfl,hb,hr⟩;refine ⟨_,rfl,fun fr r=>?_⟩
    have z4:=hb.size;have h3:=keep hb h3;have hB:=hB.trans (hb.mono hB.size);refine kP r hr.shape rfl rfl h3 ts41 rfl rfl fun w5 u5 r=>wpList_nil ?_;have z5:=u5.size
    have h3:=u5.at_;have hB:=u5.below hB (by omega)
    refine wp_ret ?_;have hs:=hr.shape.cells;refine aq r rfl rfl h3 (k:=9) hs.1 ta41 ?_;rw [←hs.2.2];exact aB.fin hB hr u5 (by rintro b (h | h | h); exact .inl h; exact .inr ⟨by omega,by omega⟩; exact .inr ⟨by omega,by omega⟩) (by rintro (h | h | h); (have:=hF _ h; omega); omega; omega) (by omega) (by omega) (by omega)
theorem nA (hF:kH F w0) {t:T (Int)} {pv fv:Value} {g:Int→T (Grant)} (hp:Rep Tryz.prog ak n t F w0 pv) (hf:FnT Tryz.prog bm i64 (n+1) F w0 fv g) :
    Calls Tryz.prog 157 #[pv,fv] w0 (aB Tryz.prog bm n (t.bind g) F w0):=xo n hF hp (hf.mono (by omega) (fun b h=>h) (Same.refl _ _) (Nat.le_refl _)) (.inr hf)
def rk (n:Nat):Prop:=∀ {F:Nat→Prop} {w0:World},(∀ b,F b→b<w0.heap.size)→∀ {t:T (Int)} {pv fv:Value} {g:Int→T (Int)},Rep Tryz.prog ak n t F w0 pv→FnT Tryz.prog ak i64 n F w0 fv g→
    (t.bn=false∨FnT Tryz.prog ak i64 (n+1) F w0 fv g)→Calls Tryz.prog 271 #[pv,fv] w0 (aB Tryz.prog ak n (t.bind g) F w0)
theorem xR {n:Nat} (ih:rk n) {F:Nat→Prop} {w0:World} (hF:∀ b,F b→b<w0.heap.size) {op at_ a b:Int} {nf:FuncId} {n1 n2:List Value} {k:Int→T (Int)} {ff:FuncId} {f1 f2:List Value} {g:Int→T (Int)}
    {b1 b2:Nat} (F1:F b1) (h1:w0.heap[b1]?=some (.cells (ae false ak.zero op at_ a b (.func (.func nf) n1.toArray n2.toArray)) 44 (0,0))) (F2:F b2) (h2:w0.heap[b2]?=some (.cells #[.func (.func ff) f1.toArray f2.toArray] 280 (0,0)))
    (hk:FnT Tryz.prog ak u64 (n+1) F w0 (.func (.func nf) n1.toArray n2.toArray) k) (hg:FnT Tryz.prog ak i64 (n+1) F w0 (.func (.func ff) f1.toArray f2.toArray) g) (x:Int) :
    Calls Tryz.prog 342 #[.int .u64 x,zp b1,zp b2] w0 (aB Tryz.prog ak n ((k x).bind g) F w0):=by
 refine kN Tryz.func342 rfl 11 rfl rfl fun fr r hB=>?_;refine wp_seq (wp_region_lit ?_)
 refine ai (.cells (ae false ak.zero 0 0 0 0 .nilFunc) 44 (0,0)) r (fun R=>ah tz44) rfl fun fr b3 w1 q1 r=>wn ?_;have h1:=keep q1.below h1
 have h2:=keep q1.below h2;have e3:=q1.eq;have z1:=q1.size;have h3:=q1.at_;have hB:=hB.trans (q1.below.mono hB.size);have zB:=hB.size;refine wp_seq ?_;refine bH 5 [.val (.pointer (some ⟨b1,6,none⟩)),.val (.func (.func nf) n1.toArray n2.toArray),.val (U x),.pred (RepAt Tryz.prog ak n (k x) F w0.heap.size b3) RepAt.stable,.val (.func (.func ff) f1.toArray f2.toArray)] mixed r (by kernel_rfl) (bZ trivial (bZ trivial (bZ trivial (bZ trivial (bZ trivial bG))))) ?_ ?_
 ·
  refine ec r (fun _ u _ b d s=>ax s (b:=b1) (o:=0) rfl mL bz) ?_;refine cR r rfl (fun fr1 u w' hb' hd r'=>?_) ?_
  ·
   obtain ⟨d0,_⟩:=hd;exact av r' (v:=.func (.func nf) n1.toArray n2.toArray) d0 (keep hb' h1) to42 rfl ⟨Below.refl _ _,rfl⟩
  refine ec r (fun _ u _ b d s=>aj s rfl bz) ?_;refine cR r rfl (fun fr1 u w' hb' hd r'=>?_) ?_
  ·
   obtain ⟨d0,d1,_⟩:=hd;have zb:=hb'.size;have zb:w1.heap.size≤w'.heap.size:=zb;have hB':Below w0.heap.size w0 w':=hB.trans (Below.mono (w:=w1) ⟨hb'.os,hb'.tape,hb'.output,hb'.size,hb'.block⟩ hB.size);have d0:u 1=.func (.func nf) n1.toArray n2.toArray:=d0;have d1:u 2=.int .u64 x:=d1;refine df r' (fs:=n1) (cs:=n2) d0 d1 hk.at_.1 ((hk.at_.2 n (Nat.lt_succ_self n) x w' (Same.below hB' hF) hB'.size).mono ?_);rintro _ w2 ⟨v,rfl,hb2,hr2⟩;refine ⟨v,rfl,hb2,RepAt.iZ (fun b h=>Nat.lt_of_lt_of_le (hF b h) hB'.size) (by omega) hB'.size hb2 (Rep.mono ?_ (Same.refl _ _) (Nat.le_refl _) n _ _ hr2)⟩
   rintro b (h | h)
   · exact .inl (.inl h)
   · exact .inr h
  refine ec r (fun _ u _ b d s=>av s rfl (keep b h2) qq rfl bz) ?_;exact bI
 intro fr u w2 hb hΦ _ r;obtain ⟨_,hr3,_,hr⟩:RepAt Tryz.prog ak n (k x) F w0.heap.size b3 (u 3) w2:=hΦ 3 (by decide);have r:=r.congr (sc (hΦ 4 (by decide)) rfl);have z2:=hb.size;have h1:=keep hb h1;have h2:=keep hb h2;have h3:=keep hb h3;have hB2:=hB.trans (hb.mono hB.size);have zB2:=hB2.size;have hF1:∀ b,(kW F w0 w2 b3) b→b<w2.heap.size:=by rintro b (h | h); exact Nat.lt_of_lt_of_le (hF b h) hB2.size; exact h.2.1
 refine kC r (ih (F:=fun b=>F b∨(w0.heap.size≤b∧b<w2.heap.size∧b≠b3)) hF1 hr (hg.mono (by omega) (fun b h=>.inl h) (Same.below hB2 hF) hB2.size)
  (.inr (hg.mono (Nat.le_refl _) (fun b h=>.inl h) (Same.below hB2 hF) hB2.size))) rfl kK rfl ?_
 rintro _ w3 ⟨v2,rfl,hb2,hr2⟩;refine ⟨_,rfl,fun fr r=>?_⟩
 have z3:=hb2.size;have h3:=keep hb2 h3;have hB3:=hB2.trans (hb2.mono hB2.size);refine kP r hr2.shape rfl rfl h3 ts44 rfl rfl fun w4 u4 r=>wn ?_;have z4:=u4.size
 have h3:=u4.at_;have hB4:=u4.below hB3 (by omega)
 refine wp_ret ?_;have hs:=hr2.shape.cells;refine aq r rfl rfl h3 (k:=7) hs.1 ta44 ?_;rw [←hs.2.2];exact aB.fin hB4 hr2 u4 (by rintro b (h | ⟨h1,h2,_⟩); exact .inl h; exact .inr ⟨h1,h2⟩) (by rintro (h | ⟨_,_,h⟩); (have:=hF _ h; omega); exact h rfl) (by omega) (by omega) (by omega)
theorem rr (n:Nat):rk n:=by
  induction n using Nat.strongRecOn with
  | _ n ih=>
  intro F w0 hF t pv fv g hp hf hd;obtain ⟨ff,f1,f2,hcf,rfl,hff⟩:=id hf;cases t with
  | cut=>unfold Rep at hp; exact hp.elim
  | done x0=>
    have hf:=hd.resolve_left (by intro h; cases h)
    unfold Rep at hp
    subst hp;refine enter (l:=[.agg (ae true (ak.cells x0) 0 0 0 0 .nilFunc),.func (.func ff) f1.toArray f2.toArray]) Tryz.func271 rfl 15 rfl rfl fun fr r=>?_;have hB:=Below.refl w0.heap.size w0
    refine wp_seq (wp_region_lit ?_);refine kX 44 (.agg (ae true (ak.cells x0) 0 0 0 0 .nilFunc)) r rfl rfl fun b1 w1 q1 r=>?_;refine kX 280 (.func (.func ff) f1.toArray f2.toArray) r rfl rfl fun b2 w2 q2 r=>?_
    refine ai (.cells (ae false ak.zero 0 0 0 0 .nilFunc) 44 (0,0)) r (fun R=>ah tz44) rfl fun fr b3 w3 q3 r=>wpList_nil ?_;have h1:=keep q3.below (keep q2.below q1.at_)
    have h2:=keep q3.below q2.at_;have h3:=q3.at_;have e1:=q1.eq; have e2:=q2.eq; have e3:=q3.eq; have z1:=q1.size; have z2:=q2.size; have z3:=q3.size;have hB:=((hB.trans q1.below).trans (q2.below.mono (by omega))).trans (q3.below.mono (by omega))
    have zB:=hB.size;refine wp_seq (wp_seq (wp_region_lit (ac (zp b1) r (fun R=>ax r (o:=0) rfl fY) rfl fun fr r=>?_)));refine ac (.bool true) r (fun R=>av r (v:=.bool true) rfl h1 to4 rfl) rfl fun fr r=>wpList_nil ?_
    refine wp_cond_split (t:=true) (r.ev rfl) (fun _=>?_) (fun h=>by cases h)
    refine wp_seq (wp_region_lit (ac (.func (.func ff) f1.toArray f2.toArray) r (fun R=>av r (v:=.func (.func ff) f1.toArray f2.toArray) rfl h2 qq rfl) rfl fun fr r=>ac (.pointer (some ⟨b1,1,none⟩)) r (fun R=>ax r (o:=0) rfl mO) rfl fun fr r=>ac (.int .i64 x0) r (fun R=>av r (v:=(.int .i64 x0)) rfl h1 to3 rfl) rfl fun fr r=>?_));refine cz r (hf.at_.2 n (Nat.lt_succ_self n) x0 w3 (Same.below hB hF) hB.size) (fun R hc=>dC r rfl rfl hf.at_.1 hc) rfl ?_
    rintro _ w4 ⟨v,rfl,hb,hr⟩;refine ⟨_,rfl,fun fr r=>?_⟩
    have z4:=hb.size;have h3:=keep hb h3;have hB:=hB.trans (hb.mono hB.size);refine kP r hr.shape rfl rfl h3 ts44 rfl rfl fun w5 u5 r=>wpList_nil ?_;have z5:=u5.size
    have h3:=u5.at_;have hB:=u5.below hB (by omega)
    refine wp_ret ?_;have hs:=hr.shape.cells;refine aq r rfl rfl h3 (k:=7) hs.1 ta44 ?_;rw [←hs.2.2];exact aB.fin hB hr u5 (fun b hb=>.inl hb) (fun h=>by have:=hF _ h; omega) (by omega) (by omega) (by omega)
  | act op at_ a b k=>
    obtain ⟨nf,n1,n2,hcn,rfl,hk⟩:∃ (nf:FuncId) (n1 n2:List Value),ag Tryz.prog nf=true∧pv=.agg (ae false ak.zero op at_ a b (.func (.func nf) n1.toArray n2.toArray))∧FnT Tryz.prog ak u64 n F w0 (.func (.func nf) n1.toArray n2.toArray) k:=by
      exact Rep.cU hp
    refine enter (l:=[.agg (ae false ak.zero op at_ a b (.func (.func nf) n1.toArray n2.toArray)),.func (.func ff) f1.toArray f2.toArray]) Tryz.func271 rfl 15 rfl rfl fun fr r=>?_;have hB:=Below.refl w0.heap.size w0
    refine wp_seq (wp_region_lit ?_);refine kX 44 (.agg (ae false ak.zero op at_ a b (.func (.func nf) n1.toArray n2.toArray))) r rfl rfl fun b1 w1 q1 r=>?_;refine kX 280 (.func (.func ff) f1.toArray f2.toArray) r rfl rfl fun b2 w2 q2 r=>?_
    refine ai (.cells (ae false ak.zero 0 0 0 0 .nilFunc) 44 (0,0)) r (fun R=>ah tz44) rfl fun fr b3 w3 q3 r=>wpList_nil ?_;have h1:=keep q3.below (keep q2.below q1.at_)
    have h2:=keep q3.below q2.at_;have h3:=q3.at_;have e1:=q1.eq; have e2:=q2.eq; have e3:=q3.eq; have z1:=q1.size; have z2:=q2.size; have z3:=q3.size;have hB:=((hB.trans q1.below).trans (q2.below.mono (by omega))).trans (q3.below.mono (by omega))
    have zB:=hB.size;refine wp_seq (wp_seq (wp_region_lit (ac (zp b1) r (fun R=>ax r (o:=0) rfl fY) rfl fun fr r=>?_)));refine ac (.bool false) r (fun R=>av r (v:=.bool false) rfl h1 to4 rfl) rfl fun fr r=>wpList_nil ?_
    refine wp_cond_split (t:=false) (r.ev rfl) (fun h=>by cases h) (fun _=>wp_skip ?_);refine wp_seq (wp_region_lit (ac (.pointer (some ⟨b1,2,none⟩)) r (fun R=>ax r (o:=0) rfl mN) rfl fun fr r=>kG (bb (⟨op,at_,a,b⟩:Access)) 4 r rfl h1 ta38 rfl rfl fun r=>ac (.func (.func 342) #[] #[zp b1,zp b2]) r (fun R=>aT r rfl) rfl fun fr r=>?_))
    have hF1:∀ b,(fun b=>F b∨b=b1∨b=b2) b→b<w3.heap.size:=by rintro b (h | h | h); exact Nat.lt_of_lt_of_le (hF b h) hB.size; omega; omega
    refine kC r (jy (F:=fun b=>F b∨b=b1∨b=b2) (n:=n) hF1 ⟨op,at_,a,b⟩ (a1:=fun x=>(k x).bind g) (show FnT Tryz.prog ak u64 n (fun b=>F b∨b=b1∨b=b2) w3 (.func (.func 342) ([]:List Value).toArray [zp b1,zp b2].toArray) (fun x=>(k x).bind g) from
      ⟨342,[],[zp b1,zp b2],Dq,rfl,fun m hm x w' hs hz=>xR (ih m hm) (fun b hb=>Nat.lt_of_lt_of_le (hF1 b hb) hz) (.inr (.inl rfl)) (hs.at_ (.inr (.inl rfl)) h1) (.inr (.inr rfl)) (hs.at_ (.inr (.inr rfl)) h2)
        (hk.mono (by omega) (fun b h=>.inl h) ((Same.below hB hF).trans (hs.sub (fun b h=>.inl h))) (Nat.le_trans hB.size hz)) (hf.mono (by omega) (fun b h=>.inl h) ((Same.below hB hF).trans (hs.sub (fun b h=>.inl h))) (Nat.le_trans hB.size hz)) x⟩)) rfl ku rfl ?_
    rintro _ w4 ⟨v,rfl,hb,hr⟩;refine ⟨_,rfl,fun fr r=>?_⟩
    have z4:=hb.size;have h3:=keep hb h3;have hB:=hB.trans (hb.mono hB.size);refine kP r hr.shape rfl rfl h3 ts44 rfl rfl fun w5 u5 r=>wpList_nil ?_;have z5:=u5.size
    have h3:=u5.at_;have hB:=u5.below hB (by omega)
    refine wp_ret ?_;have hs:=hr.shape.cells;refine aq r rfl rfl h3 (k:=7) hs.1 ta44 ?_;rw [←hs.2.2];exact aB.fin hB hr u5 (by rintro b (h | h | h); exact .inl h; exact .inr ⟨by omega,by omega⟩; exact .inr ⟨by omega,by omega⟩) (by rintro (h | h | h); (have:=hF _ h; omega); omega; omega) (by omega) (by omega) (by omega)
theorem xc (hF:kH F w0) {t:T (Int)} {pv fv:Value} {g:Int→T (Int)} (hp:Rep Tryz.prog ak n t F w0 pv) (hf:FnT Tryz.prog ak i64 n F w0 fv g) (hd:t.bn=false) :
    Calls Tryz.prog 271 #[pv,fv] w0 (aB Tryz.prog ak n (t.bind g) F w0):=rr n hF hp hf (.inl hd)
theorem nC (hF:kH F w0) {t:T (Int)} {pv fv:Value} {g:Int→T (Int)} (hp:Rep Tryz.prog ak n t F w0 pv) (hf:FnT Tryz.prog ak i64 (n+1) F w0 fv g) :
    Calls Tryz.prog 271 #[pv,fv] w0 (aB Tryz.prog ak n (t.bind g) F w0):=rr n hF hp (hf.mono (by omega) (fun b h=>h) (Same.refl _ _) (Nat.le_refl _)) (.inr hf)
end
end Go.Proofs.YtikjpdpgdmbdpaaGreat

/- Ours. -/
import Derived.Test.YtikjpdpgdmbdpaaGreatLrM7
import Derived.Test.YtikjpdpgdmbdpaaGreatLrMems
set_option linter.all false
set_option maxRecDepth 20000
set_option maxHeartbeats 2000000
namespace Go.Proofs.YtikjpdpgdmbdpaaGreat
open Go.RowKit
section
variable {n : Nat} {F : Nat → Prop} {j : Nat} {w0 : World}
theorem wU:ag Tryz.prog 113:=kz
theorem ng:ag Tryz.prog 157:=kz
theorem qZ:ag Tryz.prog 188:=kz
theorem hU:ag Tryz.prog 210:=kz
theorem Fy:ag Tryz.prog 211:=kz
theorem qW:ag Tryz.prog 214:=kz
theorem qC:ag Tryz.prog 253:=kz
theorem EU:ag Tryz.prog 254:=kz
theorem kT:ag Tryz.prog 267:=kz
theorem kq:ag Tryz.prog 271:=kz
theorem DN:ag Tryz.prog 280:=kz
theorem DG:ag Tryz.prog 306:=kz
theorem wI:ag Tryz.prog 334:=kz
theorem wm:ag Tryz.prog 340:=kz
theorem Ft:ag Tryz.prog 342:=kz
theorem vY:ag Tryz.prog 356:=kz
theorem wE:ag Tryz.prog 362:=kz
theorem xd:ag Tryz.prog 364:=kz
theorem Fw:ag Tryz.prog 383:=kz
theorem Fh:ag Tryz.prog 390:=kz
theorem FV:ag Tryz.prog 391:=kz
theorem eK:aZ Tryz.prog 157 0 0:=kz
theorem kf:aZ Tryz.prog 157 2 1:=kz
theorem jZ:aZ Tryz.prog 157 3 5:=kz
theorem uZ:aZ Tryz.prog 268 0 0:=kz
theorem CJ:aZ Tryz.prog 268 1 1:=kz
theorem CK:aZ Tryz.prog 268 2 2:=kz
theorem CA:aZ Tryz.prog 268 3 6:=kz
theorem vw:aZ Tryz.prog 316 0 0:=kz
theorem CB:aZ Tryz.prog 316 1 1:=kz
theorem CT:aZ Tryz.prog 316 2 2:=kz
theorem Ct:aZ Tryz.prog 316 3 6:=kz
theorem vM:aZ Tryz.prog 41 0 0:=kz
theorem D2:aZ Tryz.prog 41 1 1:=kz
theorem CZ:aZ Tryz.prog 41 2 4:=kz
theorem D8:aZ Tryz.prog 41 3 8:=kz
theorem gq:aZ Tryz.prog 44 0 0:=kz
theorem mW:aZ Tryz.prog 44 1 1:=kz
theorem mT:aZ Tryz.prog 44 2 2:=kz
theorem mV:aZ Tryz.prog 44 3 6:=kz
theorem qk:aZ Tryz.prog 57 0 0:=kz
theorem Db:aZ Tryz.prog 57 1 1:=kz
theorem Dl:aZ Tryz.prog 57 2 3:=kz
theorem D1:aZ Tryz.prog 57 3 7:=kz
theorem kp:fieldZ Tryz.prog 157 1 1:=kz
theorem ia:tyA Tryz.prog 152 0:=kz
theorem cC:tyA Tryz.prog 157 6:=kz
theorem dY:tyA Tryz.prog 268 7:=kz
theorem gz:tyA Tryz.prog 316 7:=kz
theorem ta35:tyA Tryz.prog 35 3:=kz
theorem ta38:tyA Tryz.prog 38 4:=kz
theorem ta41:tyA Tryz.prog 41 9:=kz
theorem ta44:tyA Tryz.prog 44 7:=kz
theorem ta54:tyA Tryz.prog 54 2:=kz
theorem ta57:tyA Tryz.prog 57 8:=kz
theorem kZ:tyO Tryz.prog 155:=kz
theorem wB:tyO Tryz.prog 203:=kz
theorem rl:tyO Tryz.prog 231:=kz
theorem xA:tyO Tryz.prog 252:=kz
theorem xm:tyO Tryz.prog 264:=kz
theorem Fl:tyO Tryz.prog 266:=kz
theorem qN:tyO Tryz.prog 280:=kz
theorem qF:tyO Tryz.prog 283:=kz
theorem Eh:tyO Tryz.prog 314:=kz
theorem wH:tyO Tryz.prog 319:=kz
theorem wk:tyO Tryz.prog 325:=kz
theorem to39:tyO Tryz.prog 39:=kz
theorem to4:tyO Tryz.prog 4:=kz
theorem to42:tyO Tryz.prog 42:=kz
theorem to55:tyO Tryz.prog 55:=kz
theorem cI:sized Tryz.prog 157 6:=kz
theorem dX:sized Tryz.prog 268 7:=kz
theorem gC:sized Tryz.prog 316 7:=kz
theorem ts41:sized Tryz.prog 41 9:=kz
theorem ts44:sized Tryz.prog 44 7:=kz
theorem ts57:sized Tryz.prog 57 8:=kz
theorem cZ:zeroOf Tryz.prog 157=some (.agg (af false aA.zero 0 0 0 0 .nilFunc)):=kz
theorem eO:zeroOf Tryz.prog 268=some (.agg (af false bC.zero 0 0 0 0 .nilFunc)):=kz
theorem j8:zeroOf Tryz.prog 316=some (.agg (af false cd.zero 0 0 0 0 .nilFunc)):=kz
theorem tz41:zeroOf Tryz.prog 41=some (.agg (af false bo.zero 0 0 0 0 .nilFunc)):=kz
theorem tz44:zeroOf Tryz.prog 44=some (.agg (af false ak.zero 0 0 0 0 .nilFunc)):=kz
theorem tz57:zeroOf Tryz.prog 57=some (.agg (af false aj.zero 0 0 0 0 .nilFunc)):=kz
def D.tq (a0:Access) (a1:(Int→T Unit)):T Unit:=(T.act a0.op a0.at_ a0.a a0.b a1)
theorem sJ (hF:kH F w0)
    (a0:Access) {a1f:FuncId} {a1_1 a1_2:List Value} {a1:(Int→T Unit)} (a1n:FnT Tryz.prog aA u64 (n) F w0 (.func (.func a1f) a1_1.toArray a1_2.toArray) a1) :
    Calls Tryz.prog 340 #[.agg (ba a0).toArray,.func (.func a1f) a1_1.toArray a1_2.toArray] w0 (aC Tryz.prog aA n (D.tq a0 a1) F w0):=by
 refine kN Tryz.func340 rfl 8 rfl rfl fun fr r hB=>?_;refine wsr ?_
 refine kX 38 (.agg (ba a0).toArray) r rfl rfl fun b1 w2 n3 r=>?_;obtain ⟨E1,Z2,H1,hB,zB⟩:=n3.all hB
 refine ai (.cells (af false aA.zero 0 0 0 0 .nilFunc) 157 (0,0)) r (fun R=>ah cZ) rfl fun fr b4 w5 n6 r=>?_;have H1:=keep n6.below H1
 obtain ⟨E4,Z5,H4,hB,zB⟩:=n6.all hB;refine wn (wsr (kG (ba a0) 4 r rfl H1 ta38 rfl rfl fun r=>kM (.func (.func a1f) a1_1.toArray a1_2.toArray) r rfl rfl fun r=>kU (.agg (af false aA.zero a0.op a0.at_ a0.a a0.b (.func (.func a1f) a1_1.toArray a1_2.toArray))) r kz rfl fun r=>?_));refine bh (.cells (af false aA.zero a0.op a0.at_ a0.a a0.b (.func (.func a1f) a1_1.toArray a1_2.toArray)) 157 (0,0)) r (fun R=>aT r (o:=0) (v:=(.agg (af false aA.zero a0.op a0.at_ a0.a a0.b (.func (.func a1f) a1_1.toArray a1_2.toArray)))) rfl rfl H4 cI (Nat.le_of_ble_eq_true rfl) rfl rfl) rfl fun fr w7 u8 r=>?_
 have Z7:=u8.size;have H1:=u8.keep H1 kw
 have H4:=u8.at_;obtain ⟨hB,zB⟩:=u8.on hB kw
 refine wn (wp_ret ?_);refine ar r rfl rfl H4 (k:=6) rfl cC ?_;exact ⟨_,rfl,hB,Rep.gp (a1n.mono (Nat.le_refl _) (fun b hb=>.inl hb) (Same.below hB hF) hB.size)⟩
def D.lI :T Unit:=(T.done ())
theorem s9 (hF:kH F w0)
     :
    Calls Tryz.prog 339 #[.agg #[]] w0 (aC Tryz.prog aA n D.lI F w0):=by
 refine kN Tryz.func339 rfl 5 rfl rfl fun fr r hB=>?_;refine wsr ?_
 refine kX 152 (.agg #[]) r rfl rfl fun b1 w2 n3 r=>?_;obtain ⟨E1,Z2,H1,hB,zB⟩:=n3.all hB
 refine ai (.cells (af false aA.zero 0 0 0 0 .nilFunc) 157 (0,0)) r (fun R=>ah cZ) rfl fun fr b4 w5 n6 r=>?_;have H1:=keep n6.below H1
 obtain ⟨E4,Z5,H4,hB,zB⟩:=n6.all hB;refine wn (wsr (kG [] 0 r rfl H1 ia rfl rfl fun r=>kU (.agg (af true (aA.cells ()) 0 0 0 0 .nilFunc)) r kz rfl fun r=>?_));refine bh (.cells (af true (aA.cells ()) 0 0 0 0 .nilFunc) 157 (0,0)) r (fun R=>aT r (o:=0) (v:=(.agg (af true (aA.cells ()) 0 0 0 0 .nilFunc))) rfl rfl H4 cI (Nat.le_of_ble_eq_true rfl) rfl rfl) rfl fun fr w7 u8 r=>?_
 have Z7:=u8.size;have H1:=u8.keep H1 kw
 have H4:=u8.at_;obtain ⟨hB,zB⟩:=u8.on hB kw
 refine wn (wp_ret ?_);refine ar r rfl rfl H4 (k:=6) rfl cC ?_;exact ⟨_,rfl,hB,Rep.ga⟩
def D.m4 (a0:Access) (a1:(Int→T Int)):T Int:=(T.act a0.op a0.at_ a0.a a0.b a1)
theorem jv (hF:kH F w0)
    (a0:Access) {a1f:FuncId} {a1_1 a1_2:List Value} {a1:(Int→T Int)} (a1n:FnT Tryz.prog ak u64 (n) F w0 (.func (.func a1f) a1_1.toArray a1_2.toArray) a1) :
    Calls Tryz.prog 267 #[.agg (ba a0).toArray,.func (.func a1f) a1_1.toArray a1_2.toArray] w0 (aC Tryz.prog ak n (D.m4 a0 a1) F w0):=by
 refine kN Tryz.func267 rfl 8 rfl rfl fun fr r hB=>?_;refine wsr ?_
 refine kX 38 (.agg (ba a0).toArray) r rfl rfl fun b1 w2 n3 r=>?_;obtain ⟨E1,Z2,H1,hB,zB⟩:=n3.all hB
 refine ai (.cells (af false ak.zero 0 0 0 0 .nilFunc) 44 (0,0)) r (fun R=>ah tz44) rfl fun fr b4 w5 n6 r=>?_;have H1:=keep n6.below H1
 obtain ⟨E4,Z5,H4,hB,zB⟩:=n6.all hB;refine wn (wsr (kG (ba a0) 4 r rfl H1 ta38 rfl rfl fun r=>kM (.func (.func a1f) a1_1.toArray a1_2.toArray) r rfl rfl fun r=>kU (.agg (af false ak.zero a0.op a0.at_ a0.a a0.b (.func (.func a1f) a1_1.toArray a1_2.toArray))) r kz rfl fun r=>?_));refine bh (.cells (af false ak.zero a0.op a0.at_ a0.a a0.b (.func (.func a1f) a1_1.toArray a1_2.toArray)) 44 (0,0)) r (fun R=>aT r (o:=0) (v:=(.agg (af false ak.zero a0.op a0.at_ a0.a a0.b (.func (.func a1f) a1_1.toArray a1_2.toArray)))) rfl rfl H4 ts44 (Nat.le_of_ble_eq_true rfl) rfl rfl) rfl fun fr w7 u8 r=>?_
 have Z7:=u8.size;have H1:=u8.keep H1 kw
 have H4:=u8.at_;obtain ⟨hB,zB⟩:=u8.on hB kw
 refine wn (wp_ret ?_);refine ar r rfl rfl H4 (k:=7) rfl ta44 ?_;exact ⟨_,rfl,hB,Rep.gp (a1n.mono (Nat.le_refl _) (fun b hb=>.inl hb) (Same.below hB hF) hB.size)⟩
def D.cJ (a0:Int):T Int:=(T.done a0)
theorem eB (hF:kH F w0)
    (a0:Int) :
    Calls Tryz.prog 256 #[.int .i64 a0] w0 (aC Tryz.prog ak n (D.cJ a0) F w0):=by
 refine kN Tryz.func256 rfl 5 rfl rfl fun fr r hB=>?_;refine wsr ?_
 refine ai (.cells (af false ak.zero 0 0 0 0 .nilFunc) 44 (0,0)) r (fun R=>ah tz44) rfl fun fr b1 w2 n3 r=>?_;obtain ⟨E1,Z2,H1,hB,zB⟩:=n3.all hB
 refine wn (wsr (kM (I a0) r rfl rfl fun r=>kU (.agg (af true (ak.cells a0) 0 0 0 0 .nilFunc)) r kz rfl fun r=>?_));refine bh (.cells (af true (ak.cells a0) 0 0 0 0 .nilFunc) 44 (0,0)) r (fun R=>aT r (o:=0) (v:=(.agg (af true (ak.cells a0) 0 0 0 0 .nilFunc))) rfl rfl H1 ts44 (Nat.le_of_ble_eq_true rfl) rfl rfl) rfl fun fr w4 u5 r=>?_
 have Z4:=u5.size;have H1:=u5.at_;obtain ⟨hB,zB⟩:=u5.on hB kw
 refine wn (wp_ret ?_);refine ar r rfl rfl H1 (k:=7) rfl ta44 ?_;exact ⟨_,rfl,hB,Rep.ga⟩
def D.lG (a0:Grant):T Grant:=(T.done a0)
theorem rX (hF:kH F w0)
    (a0:Grant) :
    Calls Tryz.prog 155 #[.agg (grantC a0).toArray] w0 (aC Tryz.prog bo n (D.lG a0) F w0):=by
 refine kN Tryz.func155 rfl 5 rfl rfl fun fr r hB=>?_;refine wsr ?_
 refine kX 35 (.agg (grantC a0).toArray) r rfl rfl fun b1 w2 n3 r=>?_;obtain ⟨E1,Z2,H1,hB,zB⟩:=n3.all hB
 refine ai (.cells (af false bo.zero 0 0 0 0 .nilFunc) 41 (0,0)) r (fun R=>ah tz41) rfl fun fr b4 w5 n6 r=>?_;have H1:=keep n6.below H1
 obtain ⟨E4,Z5,H4,hB,zB⟩:=n6.all hB;refine wn (wsr (kG (grantC a0) 3 r rfl H1 ta35 rfl rfl fun r=>kU (.agg (af true (bo.cells a0) 0 0 0 0 .nilFunc)) r kz rfl fun r=>?_));refine bh (.cells (af true (bo.cells a0) 0 0 0 0 .nilFunc) 41 (0,0)) r (fun R=>aT r (o:=0) (v:=(.agg (af true (bo.cells a0) 0 0 0 0 .nilFunc))) rfl rfl H4 ts41 (Nat.le_of_ble_eq_true rfl) rfl rfl) rfl fun fr w7 u8 r=>?_
 have Z7:=u8.size;have H1:=u8.keep H1 kw
 have H4:=u8.at_;obtain ⟨hB,zB⟩:=u8.on hB kw
 refine wn (wp_ret ?_);refine ar r rfl rfl H4 (k:=9) rfl ta41 ?_;exact ⟨_,rfl,hB,Rep.ga⟩
def D.oL (a0:Access) (a1:(Int→T Grant)):T Grant:=(T.act a0.op a0.at_ a0.a a0.b a1)
theorem om (hF:kH F w0)
    (a0:Access) {a1f:FuncId} {a1_1 a1_2:List Value} {a1:(Int→T Grant)} (a1n:FnT Tryz.prog bo u64 (n) F w0 (.func (.func a1f) a1_1.toArray a1_2.toArray) a1) :
    Calls Tryz.prog 253 #[.agg (ba a0).toArray,.func (.func a1f) a1_1.toArray a1_2.toArray] w0 (aC Tryz.prog bo n (D.oL a0 a1) F w0):=by
 refine kN Tryz.func253 rfl 8 rfl rfl fun fr r hB=>?_;refine wsr ?_
 refine kX 38 (.agg (ba a0).toArray) r rfl rfl fun b1 w2 n3 r=>?_;obtain ⟨E1,Z2,H1,hB,zB⟩:=n3.all hB
 refine ai (.cells (af false bo.zero 0 0 0 0 .nilFunc) 41 (0,0)) r (fun R=>ah tz41) rfl fun fr b4 w5 n6 r=>?_;have H1:=keep n6.below H1
 obtain ⟨E4,Z5,H4,hB,zB⟩:=n6.all hB;refine wn (wsr (kG (ba a0) 4 r rfl H1 ta38 rfl rfl fun r=>kM (.func (.func a1f) a1_1.toArray a1_2.toArray) r rfl rfl fun r=>kU (.agg (af false bo.zero a0.op a0.at_ a0.a a0.b (.func (.func a1f) a1_1.toArray a1_2.toArray))) r kz rfl fun r=>?_));refine bh (.cells (af false bo.zero a0.op a0.at_ a0.a a0.b (.func (.func a1f) a1_1.toArray a1_2.toArray)) 41 (0,0)) r (fun R=>aT r (o:=0) (v:=(.agg (af false bo.zero a0.op a0.at_ a0.a a0.b (.func (.func a1f) a1_1.toArray a1_2.toArray)))) rfl rfl H4 ts41 (Nat.le_of_ble_eq_true rfl) rfl rfl) rfl fun fr w7 u8 r=>?_
 have Z7:=u8.size;have H1:=u8.keep H1 kw
 have H4:=u8.at_;obtain ⟨hB,zB⟩:=u8.on hB kw
 refine wn (wp_ret ?_);refine ar r rfl rfl H4 (k:=9) rfl ta41 ?_;exact ⟨_,rfl,hB,Rep.gp (a1n.mono (Nat.le_refl _) (fun b hb=>.inl hb) (Same.below hB hF) hB.size)⟩
def D.jp (a0:Bool):T Bool:=(T.done a0)
theorem s5 (hF:kH F w0)
    (a0:Bool) :
    Calls Tryz.prog 404 #[.bool a0] w0 (aC Tryz.prog cd n (D.jp a0) F w0):=by
 refine kN Tryz.func404 rfl 5 rfl rfl fun fr r hB=>?_;refine wsr ?_
 refine ai (.cells (af false cd.zero 0 0 0 0 .nilFunc) 316 (0,0)) r (fun R=>ah j8) rfl fun fr b1 w2 n3 r=>?_;obtain ⟨E1,Z2,H1,hB,zB⟩:=n3.all hB
 refine wn (wsr (kM (.bool a0) r rfl rfl fun r=>kU (.agg (af true (cd.cells a0) 0 0 0 0 .nilFunc)) r kz rfl fun r=>?_));refine bh (.cells (af true (cd.cells a0) 0 0 0 0 .nilFunc) 316 (0,0)) r (fun R=>aT r (o:=0) (v:=(.agg (af true (cd.cells a0) 0 0 0 0 .nilFunc))) rfl rfl H1 gC (Nat.le_of_ble_eq_true rfl) rfl rfl) rfl fun fr w4 u5 r=>?_
 have Z4:=u5.size;have H1:=u5.at_;obtain ⟨hB,zB⟩:=u5.on hB kw
 refine wn (wp_ret ?_);refine ar r rfl rfl H1 (k:=7) rfl gz ?_;exact ⟨_,rfl,hB,Rep.ga⟩
def D.sW (a0:Access) (a1:(Int→T Bool)):T Bool:=(T.act a0.op a0.at_ a0.a a0.b a1)
theorem Ap (hF:kH F w0)
    (a0:Access) {a1f:FuncId} {a1_1 a1_2:List Value} {a1:(Int→T Bool)} (a1n:FnT Tryz.prog cd u64 (n) F w0 (.func (.func a1f) a1_1.toArray a1_2.toArray) a1) :
    Calls Tryz.prog 410 #[.agg (ba a0).toArray,.func (.func a1f) a1_1.toArray a1_2.toArray] w0 (aC Tryz.prog cd n (D.sW a0 a1) F w0):=by
 refine kN Tryz.func410 rfl 8 rfl rfl fun fr r hB=>?_;refine wsr ?_
 refine kX 38 (.agg (ba a0).toArray) r rfl rfl fun b1 w2 n3 r=>?_;obtain ⟨E1,Z2,H1,hB,zB⟩:=n3.all hB
 refine ai (.cells (af false cd.zero 0 0 0 0 .nilFunc) 316 (0,0)) r (fun R=>ah j8) rfl fun fr b4 w5 n6 r=>?_;have H1:=keep n6.below H1
 obtain ⟨E4,Z5,H4,hB,zB⟩:=n6.all hB;refine wn (wsr (kG (ba a0) 4 r rfl H1 ta38 rfl rfl fun r=>kM (.func (.func a1f) a1_1.toArray a1_2.toArray) r rfl rfl fun r=>kU (.agg (af false cd.zero a0.op a0.at_ a0.a a0.b (.func (.func a1f) a1_1.toArray a1_2.toArray))) r kz rfl fun r=>?_));refine bh (.cells (af false cd.zero a0.op a0.at_ a0.a a0.b (.func (.func a1f) a1_1.toArray a1_2.toArray)) 316 (0,0)) r (fun R=>aT r (o:=0) (v:=(.agg (af false cd.zero a0.op a0.at_ a0.a a0.b (.func (.func a1f) a1_1.toArray a1_2.toArray)))) rfl rfl H4 gC (Nat.le_of_ble_eq_true rfl) rfl rfl) rfl fun fr w7 u8 r=>?_
 have Z7:=u8.size;have H1:=u8.keep H1 kw
 have H4:=u8.at_;obtain ⟨hB,zB⟩:=u8.on hB kw
 refine wn (wp_ret ?_);refine ar r rfl rfl H4 (k:=7) rfl gz ?_;exact ⟨_,rfl,hB,Rep.gp (a1n.mono (Nat.le_refl _) (fun b hb=>.inl hb) (Same.below hB hF) hB.size)⟩
def D.lR (a0:Res):T Res:=(T.done a0)
def D.lZ (a0:Access) (a1:(Int→T Res)):T Res:=(T.act a0.op a0.at_ a0.a a0.b a1)
def D.sH (a0:Access) (a1:(Int→T Int)):T Int:=(T.act a0.op a0.at_ a0.a a0.b a1)
theorem s6 (hF:kH F w0)
    (a0:Access) {a1f:FuncId} {a1_1 a1_2:List Value} {a1:(Int→T Int)} (a1n:FnT Tryz.prog bC u64 (n) F w0 (.func (.func a1f) a1_1.toArray a1_2.toArray) a1) :
    Calls Tryz.prog 362 #[.agg (ba a0).toArray,.func (.func a1f) a1_1.toArray a1_2.toArray] w0 (aC Tryz.prog bC n (D.sH a0 a1) F w0):=by
 refine kN Tryz.func362 rfl 8 rfl rfl fun fr r hB=>?_;refine wsr ?_
 refine kX 38 (.agg (ba a0).toArray) r rfl rfl fun b1 w2 n3 r=>?_;obtain ⟨E1,Z2,H1,hB,zB⟩:=n3.all hB
 refine ai (.cells (af false bC.zero 0 0 0 0 .nilFunc) 268 (0,0)) r (fun R=>ah eO) rfl fun fr b4 w5 n6 r=>?_;have H1:=keep n6.below H1
 obtain ⟨E4,Z5,H4,hB,zB⟩:=n6.all hB;refine wn (wsr (kG (ba a0) 4 r rfl H1 ta38 rfl rfl fun r=>kM (.func (.func a1f) a1_1.toArray a1_2.toArray) r rfl rfl fun r=>kU (.agg (af false bC.zero a0.op a0.at_ a0.a a0.b (.func (.func a1f) a1_1.toArray a1_2.toArray))) r kz rfl fun r=>?_));refine bh (.cells (af false bC.zero a0.op a0.at_ a0.a a0.b (.func (.func a1f) a1_1.toArray a1_2.toArray)) 268 (0,0)) r (fun R=>aT r (o:=0) (v:=(.agg (af false bC.zero a0.op a0.at_ a0.a a0.b (.func (.func a1f) a1_1.toArray a1_2.toArray)))) rfl rfl H4 dX (Nat.le_of_ble_eq_true rfl) rfl rfl) rfl fun fr w7 u8 r=>?_
 have Z7:=u8.size;have H1:=u8.keep H1 kw
 have H4:=u8.at_;obtain ⟨hB,zB⟩:=u8.on hB kw
 refine wn (wp_ret ?_);refine ar r rfl rfl H4 (k:=7) rfl dY ?_;exact ⟨_,rfl,hB,Rep.gp (a1n.mono (Nat.le_refl _) (fun b hb=>.inl hb) (Same.below hB hF) hB.size)⟩
def D.jk (a0:Int):T Int:=(T.done a0)
theorem rR (hF:kH F w0)
    (a0:Int) :
    Calls Tryz.prog 363 #[.int .u64 a0] w0 (aC Tryz.prog bC n (D.jk a0) F w0):=by
 refine kN Tryz.func363 rfl 5 rfl rfl fun fr r hB=>?_;refine wsr ?_
 refine ai (.cells (af false bC.zero 0 0 0 0 .nilFunc) 268 (0,0)) r (fun R=>ah eO) rfl fun fr b1 w2 n3 r=>?_;obtain ⟨E1,Z2,H1,hB,zB⟩:=n3.all hB
 refine wn (wsr (kM (U a0) r rfl rfl fun r=>kU (.agg (af true (bC.cells a0) 0 0 0 0 .nilFunc)) r kz rfl fun r=>?_));refine bh (.cells (af true (bC.cells a0) 0 0 0 0 .nilFunc) 268 (0,0)) r (fun R=>aT r (o:=0) (v:=(.agg (af true (bC.cells a0) 0 0 0 0 .nilFunc))) rfl rfl H1 dX (Nat.le_of_ble_eq_true rfl) rfl rfl) rfl fun fr w4 u5 r=>?_
 have Z4:=u5.size;have H1:=u5.at_;obtain ⟨hB,zB⟩:=u5.on hB kw
 refine wn (wp_ret ?_);refine ar r rfl rfl H1 (k:=7) rfl dY ?_;exact ⟨_,rfl,hB,Rep.ga⟩
def rF (n:Nat):Prop:=∀ {F:Nat→Prop} {w0:World},(∀ b,F b→b<w0.heap.size)→∀ {t:T (Bool)} {pv fv:Value} {g:Bool→T (Int)},Rep Tryz.prog cd n t F w0 pv→FnT Tryz.prog ak aP n F w0 fv g→
    (t.bd=false∨FnT Tryz.prog ak aP (n+1) F w0 fv g)→Calls Tryz.prog 334 #[pv,fv] w0 (aC Tryz.prog ak n (t.bind g) F w0)
theorem yB {n:Nat} (ih:rF n) {F:Nat→Prop} {w0:World} (hF:∀ b,F b→b<w0.heap.size) {op at_ a b:Int} {nf:FuncId} {n1 n2:List Value} {k:Int→T (Bool)} {ff:FuncId} {f1 f2:List Value} {g:Bool→T (Int)}
    {b1 b2:Nat} (F1:F b1) (h1:w0.heap[b1]?=some (.cells (af false cd.zero op at_ a b (.func (.func nf) n1.toArray n2.toArray)) 316 (0,0))) (F2:F b2) (h2:w0.heap[b2]?=some (.cells #[.func (.func ff) f1.toArray f2.toArray] 283 (0,0)))
    (hk:FnT Tryz.prog cd u64 (n+1) F w0 (.func (.func nf) n1.toArray n2.toArray) k) (hg:FnT Tryz.prog ak aP (n+1) F w0 (.func (.func ff) f1.toArray f2.toArray) g) (x:Int) :
    Calls Tryz.prog 383 #[.int .u64 x,zp b1,zp b2] w0 (aC Tryz.prog ak n ((k x).bind g) F w0):=by
 refine kN Tryz.func383 rfl 11 rfl rfl fun fr r hB=>?_;refine wp_seq (wp_region_lit ?_)
 refine ai (.cells (af false ak.zero 0 0 0 0 .nilFunc) 44 (0,0)) r (fun R=>ah tz44) rfl fun fr b3 w1 q1 r=>wn ?_;have h1:=keep q1.below h1
 have h2:=keep q1.below h2;have e3:=q1.eq;have z1:=q1.size;have h3:=q1.at_;have hB:=hB.trans (q1.below.mono hB.size);have zB:=hB.size;refine wp_seq ?_;refine bI 5 [.val (.pointer (some ⟨b1,6,none⟩)),.val (.func (.func nf) n1.toArray n2.toArray),.val (U x),.pred (RepAt Tryz.prog cd n (k x) F w0.heap.size b3) RepAt.stable,.val (.func (.func ff) f1.toArray f2.toArray)] mixed r kz (bZ trivial (bZ trivial (bZ trivial (bZ trivial (bZ trivial bH))))) ?_ ?_
 ·
  refine ec r (fun _ u _ b d s=>ax s (b:=b1) (o:=0) rfl Ct bz) ?_;refine cX r rfl (fun fr1 u w' hb' hd r'=>?_) ?_
  ·
   obtain ⟨d0,_⟩:=hd;exact av r' (v:=.func (.func nf) n1.toArray n2.toArray) d0 (keep hb' h1) Eh rfl ⟨Below.refl _ _,rfl⟩
  refine ec r (fun _ u _ b d s=>ay s rfl bz) ?_;refine cX r rfl (fun fr1 u w' hb' hd r'=>?_) ?_
  ·
   obtain ⟨d0,d1,_⟩:=hd;have zb:=hb'.size;have zb:w1.heap.size≤w'.heap.size:=zb;have hB':Below w0.heap.size w0 w':=hB.trans (Below.mono (w:=w1) ⟨hb'.os,hb'.tape,hb'.output,hb'.size,hb'.block⟩ hB.size);have d0:u 1=.func (.func nf) n1.toArray n2.toArray:=d0;have d1:u 2=.int .u64 x:=d1;refine dn r' (fs:=n1) (cs:=n2) d0 d1 hk.at_.1 ((hk.at_.2 n (Nat.lt_succ_self n) x w' (Same.below hB' hF) hB'.size).mono ?_);rintro _ w2 ⟨v,rfl,hb2,hr2⟩;refine ⟨v,rfl,hb2,RepAt.iY (fun b h=>Nat.lt_of_lt_of_le (hF b h) hB'.size) kw hB'.size hb2 (Rep.mono ?_ (Same.refl _ _) (Nat.le_refl _) n _ _ hr2)⟩
   rintro b (h | h)
   · exact .inl (.inl h)
   · exact .inr h
  refine ec r (fun _ u _ b d s=>av s rfl (keep b h2) qF rfl bz) ?_;exact bJ
 intro fr u w2 hb hΦ _ r;obtain ⟨_,hr3,_,hr⟩:RepAt Tryz.prog cd n (k x) F w0.heap.size b3 (u 3) w2:=hΦ 3 ke;have r:=r.congr (sc (hΦ 4 ke) rfl);have z2:=hb.size;have h1:=keep hb h1;have h2:=keep hb h2;have h3:=keep hb h3;have hB2:=hB.trans (hb.mono hB.size);have zB2:=hB2.size;have hF1:∀ b,(kW F w0 w2 b3) b→b<w2.heap.size:=by rintro b (h | h); exact Nat.lt_of_lt_of_le (hF b h) hB2.size; exact h.2.1
 refine kC r (ih (F:=fun b=>F b∨(w0.heap.size≤b∧b<w2.heap.size∧b≠b3)) hF1 hr (hg.mono kw (fun b h=>.inl h) (Same.below hB2 hF) hB2.size)
  (.inr (hg.mono (Nat.le_refl _) (fun b h=>.inl h) (Same.below hB2 hF) hB2.size))) rfl wI rfl ?_
 rintro _ w3 ⟨v2,rfl,hb2,hr2⟩;refine ⟨_,rfl,fun fr r=>?_⟩
 have z3:=hb2.size;have h3:=keep hb2 h3;have hB3:=hB2.trans (hb2.mono hB2.size);refine kP r hr2.shape rfl rfl h3 ts44 rfl rfl fun w4 u4 r=>wn ?_;have z4:=u4.size
 have h3:=u4.at_;have hB4:=u4.below hB3 kw
 refine wp_ret ?_;have hs:=hr2.shape.cells;refine ar r rfl rfl h3 (k:=7) hs.1 ta44 ?_;rw [←hs.2.2];exact aC.fin hB4 hr2 u4 (by rintro b (h | ⟨h1,h2,_⟩); exact .inl h; exact .inr ⟨h1,h2⟩) (by rintro (h | ⟨_,_,h⟩); (have:=hF _ h; omega); exact h rfl) kw kw kw
theorem yF (n:Nat):rF n:=by
  induction n using Nat.strongRecOn with
  | _ n ih=>
  intro F w0 hF t pv fv g hp hf hd;obtain ⟨ff,f1,f2,hcf,rfl,hff⟩:=id hf;cases t with
  | cut=>unfold Rep at hp; exact hp.elim
  | done x0=>
    have hf:=hd.resolve_left (by intro h; cases h)
    unfold Rep at hp
    subst hp;refine enter (l:=[.agg (af true (cd.cells x0) 0 0 0 0 .nilFunc),.func (.func ff) f1.toArray f2.toArray]) Tryz.func334 rfl 15 rfl rfl fun fr r=>?_;have hB:=Below.refl w0.heap.size w0
    refine wp_seq (wp_region_lit ?_);refine kX 316 (.agg (af true (cd.cells x0) 0 0 0 0 .nilFunc)) r rfl rfl fun b1 w1 q1 r=>?_;refine kX 283 (.func (.func ff) f1.toArray f2.toArray) r rfl rfl fun b2 w2 q2 r=>?_
    refine ai (.cells (af false ak.zero 0 0 0 0 .nilFunc) 44 (0,0)) r (fun R=>ah tz44) rfl fun fr b3 w3 q3 r=>wpList_nil ?_;have h1:=keep q3.below (keep q2.below q1.at_)
    have h2:=keep q3.below q2.at_;have h3:=q3.at_;have e1:=q1.eq; have e2:=q2.eq; have e3:=q3.eq; have z1:=q1.size; have z2:=q2.size; have z3:=q3.size;have hB:=((hB.trans q1.below).trans (q2.below.mono kw)).trans (q3.below.mono kw)
    have zB:=hB.size;refine wp_seq (wp_seq (wp_region_lit (ac (zp b1) r (fun R=>ax r (o:=0) rfl vw) rfl fun fr r=>?_)));refine ac (.bool true) r (fun R=>av r (v:=.bool true) rfl h1 to4 rfl) rfl fun fr r=>wpList_nil ?_
    refine wp_cond_split (t:=true) (r.ev rfl) (fun _=>?_) (fun h=>by cases h)
    refine wp_seq (wp_region_lit (ac (.func (.func ff) f1.toArray f2.toArray) r (fun R=>av r (v:=.func (.func ff) f1.toArray f2.toArray) rfl h2 qF rfl) rfl fun fr r=>ac (.pointer (some ⟨b1,1,none⟩)) r (fun R=>ax r (o:=0) rfl CB) rfl fun fr r=>ac (.bool x0) r (fun R=>av r (v:=(.bool x0)) rfl h1 to4 rfl) rfl fun fr r=>?_));refine cA r (hf.at_.2 n (Nat.lt_succ_self n) x0 w3 (Same.below hB hF) hB.size) (fun R hc=>dN r rfl rfl hf.at_.1 hc) rfl ?_
    rintro _ w4 ⟨v,rfl,hb,hr⟩;refine ⟨_,rfl,fun fr r=>?_⟩
    have z4:=hb.size;have h3:=keep hb h3;have hB:=hB.trans (hb.mono hB.size);refine kP r hr.shape rfl rfl h3 ts44 rfl rfl fun w5 u5 r=>wpList_nil ?_;have z5:=u5.size
    have h3:=u5.at_;have hB:=u5.below hB kw
    refine wp_ret ?_;have hs:=hr.shape.cells;refine ar r rfl rfl h3 (k:=7) hs.1 ta44 ?_;rw [←hs.2.2];exact aC.fin hB hr u5 (fun b hb=>.inl hb) (fun h=>by have:=hF _ h; omega) kw kw kw
  | act op at_ a b k=>
    obtain ⟨nf,n1,n2,hcn,rfl,hk⟩:∃ (nf:FuncId) (n1 n2:List Value),ag Tryz.prog nf=true∧pv=.agg (af false cd.zero op at_ a b (.func (.func nf) n1.toArray n2.toArray))∧FnT Tryz.prog cd u64 n F w0 (.func (.func nf) n1.toArray n2.toArray) k:=by
      exact Rep.cY hp
    refine enter (l:=[.agg (af false cd.zero op at_ a b (.func (.func nf) n1.toArray n2.toArray)),.func (.func ff) f1.toArray f2.toArray]) Tryz.func334 rfl 15 rfl rfl fun fr r=>?_;have hB:=Below.refl w0.heap.size w0
    refine wp_seq (wp_region_lit ?_);refine kX 316 (.agg (af false cd.zero op at_ a b (.func (.func nf) n1.toArray n2.toArray))) r rfl rfl fun b1 w1 q1 r=>?_;refine kX 283 (.func (.func ff) f1.toArray f2.toArray) r rfl rfl fun b2 w2 q2 r=>?_
    refine ai (.cells (af false ak.zero 0 0 0 0 .nilFunc) 44 (0,0)) r (fun R=>ah tz44) rfl fun fr b3 w3 q3 r=>wpList_nil ?_;have h1:=keep q3.below (keep q2.below q1.at_)
    have h2:=keep q3.below q2.at_;have h3:=q3.at_;have e1:=q1.eq; have e2:=q2.eq; have e3:=q3.eq; have z1:=q1.size; have z2:=q2.size; have z3:=q3.size;have hB:=((hB.trans q1.below).trans (q2.below.mono kw)).trans (q3.below.mono kw)
    have zB:=hB.size;refine wp_seq (wp_seq (wp_region_lit (ac (zp b1) r (fun R=>ax r (o:=0) rfl vw) rfl fun fr r=>?_)));refine ac (.bool false) r (fun R=>av r (v:=.bool false) rfl h1 to4 rfl) rfl fun fr r=>wpList_nil ?_
    refine wp_cond_split (t:=false) (r.ev rfl) (fun h=>by cases h) (fun _=>wp_skip ?_);refine wp_seq (wp_region_lit (ac (.pointer (some ⟨b1,2,none⟩)) r (fun R=>ax r (o:=0) rfl CT) rfl fun fr r=>kG (ba (⟨op,at_,a,b⟩:Access)) 4 r rfl h1 ta38 rfl rfl fun r=>ac (.func (.func 383) #[] #[zp b1,zp b2]) r (fun R=>aU r rfl) rfl fun fr r=>?_))
    have hF1:∀ b,(fun b=>F b∨b=b1∨b=b2) b→b<w3.heap.size:=by rintro b (h | h | h); exact Nat.lt_of_lt_of_le (hF b h) hB.size; omega; omega
    refine kC r (jv (F:=fun b=>F b∨b=b1∨b=b2) (n:=n) hF1 ⟨op,at_,a,b⟩ (a1:=fun x=>(k x).bind g) (show FnT Tryz.prog ak u64 n (fun b=>F b∨b=b1∨b=b2) w3 (.func (.func 383) ([]:List Value).toArray [zp b1,zp b2].toArray) (fun x=>(k x).bind g) from
      ⟨383,[],[zp b1,zp b2],Fw,rfl,fun m hm x w' hs hz=>yB (ih m hm) (fun b hb=>Nat.lt_of_lt_of_le (hF1 b hb) hz) (.inr (.inl rfl)) (hs.at_ (.inr (.inl rfl)) h1) (.inr (.inr rfl)) (hs.at_ (.inr (.inr rfl)) h2)
        (hk.mono kw (fun b h=>.inl h) ((Same.below hB hF).trans (hs.sub (fun b h=>.inl h))) (Nat.le_trans hB.size hz)) (hf.mono kw (fun b h=>.inl h) ((Same.below hB hF).trans (hs.sub (fun b h=>.inl h))) (Nat.le_trans hB.size hz)) x⟩)) rfl kT rfl ?_
    rintro _ w4 ⟨v,rfl,hb,hr⟩;refine ⟨_,rfl,fun fr r=>?_⟩
    have z4:=hb.size;have h3:=keep hb h3;have hB:=hB.trans (hb.mono hB.size);refine kP r hr.shape rfl rfl h3 ts44 rfl rfl fun w5 u5 r=>wpList_nil ?_;have z5:=u5.size
    have h3:=u5.at_;have hB:=u5.below hB kw
    refine wp_ret ?_;have hs:=hr.shape.cells;refine ar r rfl rfl h3 (k:=7) hs.1 ta44 ?_;rw [←hs.2.2];exact aC.fin hB hr u5 (by rintro b (h | h | h); exact .inl h; exact .inr ⟨kw,kw⟩; exact .inr ⟨kw,kw⟩) (by rintro (h | h | h); (have:=hF _ h; omega); omega; omega) kw kw kw
theorem xQ (hF:kH F w0) {t:T (Bool)} {pv fv:Value} {g:Bool→T (Int)} (hp:Rep Tryz.prog cd n t F w0 pv) (hf:FnT Tryz.prog ak aP (n+1) F w0 fv g) :
    Calls Tryz.prog 334 #[pv,fv] w0 (aC Tryz.prog ak n (t.bind g) F w0):=yF n hF hp (hf.mono kw (fun b h=>h) (Same.refl _ _) (Nat.le_refl _)) (.inr hf)
def rB (n:Nat):Prop:=∀ {F:Nat→Prop} {w0:World},(∀ b,F b→b<w0.heap.size)→∀ {t:T (Unit)} {pv fv:Value} {g:Unit→T (Unit)},Rep Tryz.prog aA n t F w0 pv→FnT Tryz.prog aA noneE n F w0 fv g→
    (t.bd=false∨FnT Tryz.prog aA noneE (n+1) F w0 fv g)→Calls Tryz.prog 356 #[pv,fv] w0 (aC Tryz.prog aA n (t.bind g) F w0)
theorem yq {n:Nat} (ih:rB n) {F:Nat→Prop} {w0:World} (hF:∀ b,F b→b<w0.heap.size) {op at_ a b:Int} {nf:FuncId} {n1 n2:List Value} {k:Int→T (Unit)} {ff:FuncId} {f1 f2:List Value} {g:Unit→T (Unit)}
    {b1 b2:Nat} (F1:F b1) (h1:w0.heap[b1]?=some (.cells (af false aA.zero op at_ a b (.func (.func nf) n1.toArray n2.toArray)) 157 (0,0))) (F2:F b2) (h2:w0.heap[b2]?=some (.cells #[.func (.func ff) f1.toArray f2.toArray] 319 (0,0)))
    (hk:FnT Tryz.prog aA u64 (n+1) F w0 (.func (.func nf) n1.toArray n2.toArray) k) (hg:FnT Tryz.prog aA noneE (n+1) F w0 (.func (.func ff) f1.toArray f2.toArray) g) (x:Int) :
    Calls Tryz.prog 390 #[.int .u64 x,zp b1,zp b2] w0 (aC Tryz.prog aA n ((k x).bind g) F w0):=by
 refine kN Tryz.func390 rfl 11 rfl rfl fun fr r hB=>?_;refine wp_seq (wp_region_lit ?_)
 refine ai (.cells (af false aA.zero 0 0 0 0 .nilFunc) 157 (0,0)) r (fun R=>ah cZ) rfl fun fr b3 w1 q1 r=>wn ?_;have h1:=keep q1.below h1
 have h2:=keep q1.below h2;have e3:=q1.eq;have z1:=q1.size;have h3:=q1.at_;have hB:=hB.trans (q1.below.mono hB.size);have zB:=hB.size;refine wp_seq ?_;refine bI 5 [.val (.pointer (some ⟨b1,5,none⟩)),.val (.func (.func nf) n1.toArray n2.toArray),.val (U x),.pred (RepAt Tryz.prog aA n (k x) F w0.heap.size b3) RepAt.stable,.val (.func (.func ff) f1.toArray f2.toArray)] mixed r kz (bZ trivial (bZ trivial (bZ trivial (bZ trivial (bZ trivial bH))))) ?_ ?_
 ·
  refine ec r (fun _ u _ b d s=>ax s (b:=b1) (o:=0) rfl jZ bz) ?_;refine cX r rfl (fun fr1 u w' hb' hd r'=>?_) ?_
  ·
   obtain ⟨d0,_⟩:=hd;exact av r' (v:=.func (.func nf) n1.toArray n2.toArray) d0 (keep hb' h1) kZ rfl ⟨Below.refl _ _,rfl⟩
  refine ec r (fun _ u _ b d s=>ay s rfl bz) ?_;refine cX r rfl (fun fr1 u w' hb' hd r'=>?_) ?_
  ·
   obtain ⟨d0,d1,_⟩:=hd;have zb:=hb'.size;have zb:w1.heap.size≤w'.heap.size:=zb;have hB':Below w0.heap.size w0 w':=hB.trans (Below.mono (w:=w1) ⟨hb'.os,hb'.tape,hb'.output,hb'.size,hb'.block⟩ hB.size);have d0:u 1=.func (.func nf) n1.toArray n2.toArray:=d0;have d1:u 2=.int .u64 x:=d1;refine dn r' (fs:=n1) (cs:=n2) d0 d1 hk.at_.1 ((hk.at_.2 n (Nat.lt_succ_self n) x w' (Same.below hB' hF) hB'.size).mono ?_);rintro _ w2 ⟨v,rfl,hb2,hr2⟩;refine ⟨v,rfl,hb2,RepAt.iY (fun b h=>Nat.lt_of_lt_of_le (hF b h) hB'.size) kw hB'.size hb2 (Rep.mono ?_ (Same.refl _ _) (Nat.le_refl _) n _ _ hr2)⟩
   rintro b (h | h)
   · exact .inl (.inl h)
   · exact .inr h
  refine ec r (fun _ u _ b d s=>av s rfl (keep b h2) wH rfl bz) ?_;exact bJ
 intro fr u w2 hb hΦ _ r;obtain ⟨_,hr3,_,hr⟩:RepAt Tryz.prog aA n (k x) F w0.heap.size b3 (u 3) w2:=hΦ 3 ke;have r:=r.congr (sc (hΦ 4 ke) rfl);have z2:=hb.size;have h1:=keep hb h1;have h2:=keep hb h2;have h3:=keep hb h3;have hB2:=hB.trans (hb.mono hB.size);have zB2:=hB2.size;have hF1:∀ b,(kW F w0 w2 b3) b→b<w2.heap.size:=by rintro b (h | h); exact Nat.lt_of_lt_of_le (hF b h) hB2.size; exact h.2.1
 refine kC r (ih (F:=fun b=>F b∨(w0.heap.size≤b∧b<w2.heap.size∧b≠b3)) hF1 hr (hg.mono kw (fun b h=>.inl h) (Same.below hB2 hF) hB2.size)
  (.inr (hg.mono (Nat.le_refl _) (fun b h=>.inl h) (Same.below hB2 hF) hB2.size))) rfl vY rfl ?_
 rintro _ w3 ⟨v2,rfl,hb2,hr2⟩;refine ⟨_,rfl,fun fr r=>?_⟩
 have z3:=hb2.size;have h3:=keep hb2 h3;have hB3:=hB2.trans (hb2.mono hB2.size);refine kP r hr2.shape rfl rfl h3 cI rfl rfl fun w4 u4 r=>wn ?_;have z4:=u4.size
 have h3:=u4.at_;have hB4:=u4.below hB3 kw
 refine wp_ret ?_;have hs:=hr2.shape.cells;refine ar r rfl rfl h3 (k:=6) hs.1 cC ?_;rw [←hs.2.2];exact aC.fin hB4 hr2 u4 (by rintro b (h | ⟨h1,h2,_⟩); exact .inl h; exact .inr ⟨h1,h2⟩) (by rintro (h | ⟨_,_,h⟩); (have:=hF _ h; omega); exact h rfl) kw kw kw
theorem yt (n:Nat):rB n:=by
  induction n using Nat.strongRecOn with
  | _ n ih=>
  intro F w0 hF t pv fv g hp hf hd;obtain ⟨ff,f1,f2,hcf,rfl,hff⟩:=id hf;cases t with
  | cut=>unfold Rep at hp; exact hp.elim
  | done x0=>
    have hf:=hd.resolve_left (by intro h; cases h)
    unfold Rep at hp
    subst hp;refine enter (l:=[.agg (af true (aA.cells x0) 0 0 0 0 .nilFunc),.func (.func ff) f1.toArray f2.toArray]) Tryz.func356 rfl 15 rfl rfl fun fr r=>?_;have hB:=Below.refl w0.heap.size w0
    refine wp_seq (wp_region_lit ?_);refine kX 157 (.agg (af true (aA.cells x0) 0 0 0 0 .nilFunc)) r rfl rfl fun b1 w1 q1 r=>?_;refine kX 319 (.func (.func ff) f1.toArray f2.toArray) r rfl rfl fun b2 w2 q2 r=>?_
    refine ai (.cells (af false aA.zero 0 0 0 0 .nilFunc) 157 (0,0)) r (fun R=>ah cZ) rfl fun fr b3 w3 q3 r=>wpList_nil ?_;have h1:=keep q3.below (keep q2.below q1.at_)
    have h2:=keep q3.below q2.at_;have h3:=q3.at_;have e1:=q1.eq; have e2:=q2.eq; have e3:=q3.eq; have z1:=q1.size; have z2:=q2.size; have z3:=q3.size;have hB:=((hB.trans q1.below).trans (q2.below.mono kw)).trans (q3.below.mono kw)
    have zB:=hB.size;refine wp_seq (wp_seq (wp_region_lit (ac (zp b1) r (fun R=>ax r (o:=0) rfl eK) rfl fun fr r=>?_)));refine ac (.bool true) r (fun R=>av r (v:=.bool true) rfl h1 to4 rfl) rfl fun fr r=>wpList_nil ?_
    refine wp_cond_split (t:=true) (r.ev rfl) (fun _=>?_) (fun h=>by cases h)
    refine wp_seq (wp_region_lit (ac (.func (.func ff) f1.toArray f2.toArray) r (fun R=>av r (v:=.func (.func ff) f1.toArray f2.toArray) rfl h2 wH rfl) rfl fun fr r=>?_));refine mq b1 1 r (fun R=>jA r rfl kp h1) rfl fun fr sp r=>ac (.agg #[]) r (fun R=>jG r rfl ia) rfl fun fr r=>?_
    refine cA r (hf.at_.2 n (Nat.lt_succ_self n) x0 w3 (Same.below hB hF) hB.size) (fun R hc=>dN r rfl rfl hf.at_.1 hc) rfl ?_;rintro _ w4 ⟨v,rfl,hb,hr⟩
    refine ⟨_,rfl,fun fr r=>?_⟩
    have z4:=hb.size;have h3:=keep hb h3;have hB:=hB.trans (hb.mono hB.size);refine kP r hr.shape rfl rfl h3 cI rfl rfl fun w5 u5 r=>wpList_nil ?_;have z5:=u5.size
    have h3:=u5.at_;have hB:=u5.below hB kw
    refine wp_ret ?_;have hs:=hr.shape.cells;refine ar r rfl rfl h3 (k:=6) hs.1 cC ?_;rw [←hs.2.2];exact aC.fin hB hr u5 (fun b hb=>.inl hb) (fun h=>by have:=hF _ h; omega) kw kw kw
  | act op at_ a b k=>
    obtain ⟨nf,n1,n2,hcn,rfl,hk⟩:∃ (nf:FuncId) (n1 n2:List Value),ag Tryz.prog nf=true∧pv=.agg (af false aA.zero op at_ a b (.func (.func nf) n1.toArray n2.toArray))∧FnT Tryz.prog aA u64 n F w0 (.func (.func nf) n1.toArray n2.toArray) k:=by
      exact Rep.cY hp
    refine enter (l:=[.agg (af false aA.zero op at_ a b (.func (.func nf) n1.toArray n2.toArray)),.func (.func ff) f1.toArray f2.toArray]) Tryz.func356 rfl 15 rfl rfl fun fr r=>?_;have hB:=Below.refl w0.heap.size w0
    refine wp_seq (wp_region_lit ?_);refine kX 157 (.agg (af false aA.zero op at_ a b (.func (.func nf) n1.toArray n2.toArray))) r rfl rfl fun b1 w1 q1 r=>?_;refine kX 319 (.func (.func ff) f1.toArray f2.toArray) r rfl rfl fun b2 w2 q2 r=>?_
    refine ai (.cells (af false aA.zero 0 0 0 0 .nilFunc) 157 (0,0)) r (fun R=>ah cZ) rfl fun fr b3 w3 q3 r=>wpList_nil ?_;have h1:=keep q3.below (keep q2.below q1.at_)
    have h2:=keep q3.below q2.at_;have h3:=q3.at_;have e1:=q1.eq; have e2:=q2.eq; have e3:=q3.eq; have z1:=q1.size; have z2:=q2.size; have z3:=q3.size;have hB:=((hB.trans q1.below).trans (q2.below.mono kw)).trans (q3.below.mono kw)
    have zB:=hB.size;refine wp_seq (wp_seq (wp_region_lit (ac (zp b1) r (fun R=>ax r (o:=0) rfl eK) rfl fun fr r=>?_)));refine ac (.bool false) r (fun R=>av r (v:=.bool false) rfl h1 to4 rfl) rfl fun fr r=>wpList_nil ?_
    refine wp_cond_split (t:=false) (r.ev rfl) (fun h=>by cases h) (fun _=>wp_skip ?_);refine wp_seq (wp_region_lit (ac (.pointer (some ⟨b1,1,none⟩)) r (fun R=>ax r (o:=0) rfl kf) rfl fun fr r=>kG (ba (⟨op,at_,a,b⟩:Access)) 4 r rfl h1 ta38 rfl rfl fun r=>ac (.func (.func 390) #[] #[zp b1,zp b2]) r (fun R=>aU r rfl) rfl fun fr r=>?_))
    have hF1:∀ b,(fun b=>F b∨b=b1∨b=b2) b→b<w3.heap.size:=by rintro b (h | h | h); exact Nat.lt_of_lt_of_le (hF b h) hB.size; omega; omega
    refine kC r (sJ (F:=fun b=>F b∨b=b1∨b=b2) (n:=n) hF1 ⟨op,at_,a,b⟩ (a1:=fun x=>(k x).bind g) (show FnT Tryz.prog aA u64 n (fun b=>F b∨b=b1∨b=b2) w3 (.func (.func 390) ([]:List Value).toArray [zp b1,zp b2].toArray) (fun x=>(k x).bind g) from
      ⟨390,[],[zp b1,zp b2],Fh,rfl,fun m hm x w' hs hz=>yq (ih m hm) (fun b hb=>Nat.lt_of_lt_of_le (hF1 b hb) hz) (.inr (.inl rfl)) (hs.at_ (.inr (.inl rfl)) h1) (.inr (.inr rfl)) (hs.at_ (.inr (.inr rfl)) h2)
        (hk.mono kw (fun b h=>.inl h) ((Same.below hB hF).trans (hs.sub (fun b h=>.inl h))) (Nat.le_trans hB.size hz)) (hf.mono kw (fun b h=>.inl h) ((Same.below hB hF).trans (hs.sub (fun b h=>.inl h))) (Nat.le_trans hB.size hz)) x⟩)) rfl wm rfl ?_
    rintro _ w4 ⟨v,rfl,hb,hr⟩;refine ⟨_,rfl,fun fr r=>?_⟩
    have z4:=hb.size;have h3:=keep hb h3;have hB:=hB.trans (hb.mono hB.size);refine kP r hr.shape rfl rfl h3 cI rfl rfl fun w5 u5 r=>wpList_nil ?_;have z5:=u5.size
    have h3:=u5.at_;have hB:=u5.below hB kw
    refine wp_ret ?_;have hs:=hr.shape.cells;refine ar r rfl rfl h3 (k:=6) hs.1 cC ?_;rw [←hs.2.2];exact aC.fin hB hr u5 (by rintro b (h | h | h); exact .inl h; exact .inr ⟨kw,kw⟩; exact .inr ⟨kw,kw⟩) (by rintro (h | h | h); (have:=hF _ h; omega); omega; omega) kw kw kw
theorem xL (hF:kH F w0) {t:T (Unit)} {pv fv:Value} {g:Unit→T (Unit)} (hp:Rep Tryz.prog aA n t F w0 pv) (hf:FnT Tryz.prog aA noneE n F w0 fv g) (hd:t.bd=false) :
    Calls Tryz.prog 356 #[pv,fv] w0 (aC Tryz.prog aA n (t.bind g) F w0):=yt n hF hp hf (.inl hd)
def rq (n:Nat):Prop:=∀ {F:Nat→Prop} {w0:World},(∀ b,F b→b<w0.heap.size)→∀ {t:T (Unit)} {pv fv:Value} {g:Unit→T (Int)},Rep Tryz.prog aA n t F w0 pv→FnT Tryz.prog bC noneE n F w0 fv g→
    (t.bd=false∨FnT Tryz.prog bC noneE (n+1) F w0 fv g)→Calls Tryz.prog 364 #[pv,fv] w0 (aC Tryz.prog bC n (t.bind g) F w0)
theorem xM {n:Nat} (ih:rq n) {F:Nat→Prop} {w0:World} (hF:∀ b,F b→b<w0.heap.size) {op at_ a b:Int} {nf:FuncId} {n1 n2:List Value} {k:Int→T (Unit)} {ff:FuncId} {f1 f2:List Value} {g:Unit→T (Int)}
    {b1 b2:Nat} (F1:F b1) (h1:w0.heap[b1]?=some (.cells (af false aA.zero op at_ a b (.func (.func nf) n1.toArray n2.toArray)) 157 (0,0))) (F2:F b2) (h2:w0.heap[b2]?=some (.cells #[.func (.func ff) f1.toArray f2.toArray] 325 (0,0)))
    (hk:FnT Tryz.prog aA u64 (n+1) F w0 (.func (.func nf) n1.toArray n2.toArray) k) (hg:FnT Tryz.prog bC noneE (n+1) F w0 (.func (.func ff) f1.toArray f2.toArray) g) (x:Int) :
    Calls Tryz.prog 391 #[.int .u64 x,zp b1,zp b2] w0 (aC Tryz.prog bC n ((k x).bind g) F w0):=by
 refine kN Tryz.func391 rfl 11 rfl rfl fun fr r hB=>?_;refine wp_seq (wp_region_lit ?_)
 refine ai (.cells (af false bC.zero 0 0 0 0 .nilFunc) 268 (0,0)) r (fun R=>ah eO) rfl fun fr b3 w1 q1 r=>wn ?_;have h1:=keep q1.below h1
 have h2:=keep q1.below h2;have e3:=q1.eq;have z1:=q1.size;have h3:=q1.at_;have hB:=hB.trans (q1.below.mono hB.size);have zB:=hB.size;refine wp_seq ?_;refine bI 5 [.val (.pointer (some ⟨b1,5,none⟩)),.val (.func (.func nf) n1.toArray n2.toArray),.val (U x),.pred (RepAt Tryz.prog aA n (k x) F w0.heap.size b3) RepAt.stable,.val (.func (.func ff) f1.toArray f2.toArray)] mixed r kz (bZ trivial (bZ trivial (bZ trivial (bZ trivial (bZ trivial bH))))) ?_ ?_
 ·
  refine ec r (fun _ u _ b d s=>ax s (b:=b1) (o:=0) rfl jZ bz) ?_;refine cX r rfl (fun fr1 u w' hb' hd r'=>?_) ?_
  ·
   obtain ⟨d0,_⟩:=hd;exact av r' (v:=.func (.func nf) n1.toArray n2.toArray) d0 (keep hb' h1) kZ rfl ⟨Below.refl _ _,rfl⟩
  refine ec r (fun _ u _ b d s=>ay s rfl bz) ?_;refine cX r rfl (fun fr1 u w' hb' hd r'=>?_) ?_
  ·
   obtain ⟨d0,d1,_⟩:=hd;have zb:=hb'.size;have zb:w1.heap.size≤w'.heap.size:=zb;have hB':Below w0.heap.size w0 w':=hB.trans (Below.mono (w:=w1) ⟨hb'.os,hb'.tape,hb'.output,hb'.size,hb'.block⟩ hB.size);have d0:u 1=.func (.func nf) n1.toArray n2.toArray:=d0;have d1:u 2=.int .u64 x:=d1;refine dn r' (fs:=n1) (cs:=n2) d0 d1 hk.at_.1 ((hk.at_.2 n (Nat.lt_succ_self n) x w' (Same.below hB' hF) hB'.size).mono ?_);rintro _ w2 ⟨v,rfl,hb2,hr2⟩;refine ⟨v,rfl,hb2,RepAt.iY (fun b h=>Nat.lt_of_lt_of_le (hF b h) hB'.size) kw hB'.size hb2 (Rep.mono ?_ (Same.refl _ _) (Nat.le_refl _) n _ _ hr2)⟩
   rintro b (h | h)
   · exact .inl (.inl h)
   · exact .inr h
  refine ec r (fun _ u _ b d s=>av s rfl (keep b h2) wk rfl bz) ?_;exact bJ
 intro fr u w2 hb hΦ _ r;obtain ⟨_,hr3,_,hr⟩:RepAt Tryz.prog aA n (k x) F w0.heap.size b3 (u 3) w2:=hΦ 3 ke;have r:=r.congr (sc (hΦ 4 ke) rfl);have z2:=hb.size;have h1:=keep hb h1;have h2:=keep hb h2;have h3:=keep hb h3;have hB2:=hB.trans (hb.mono hB.size);have zB2:=hB2.size;have hF1:∀ b,(kW F w0 w2 b3) b→b<w2.heap.size:=by rintro b (h | h); exact Nat.lt_of_lt_of_le (hF b h) hB2.size; exact h.2.1
 refine kC r (ih (F:=fun b=>F b∨(w0.heap.size≤b∧b<w2.heap.size∧b≠b3)) hF1 hr (hg.mono kw (fun b h=>.inl h) (Same.below hB2 hF) hB2.size)
  (.inr (hg.mono (Nat.le_refl _) (fun b h=>.inl h) (Same.below hB2 hF) hB2.size))) rfl xd rfl ?_
 rintro _ w3 ⟨v2,rfl,hb2,hr2⟩;refine ⟨_,rfl,fun fr r=>?_⟩
 have z3:=hb2.size;have h3:=keep hb2 h3;have hB3:=hB2.trans (hb2.mono hB2.size);refine kP r hr2.shape rfl rfl h3 dX rfl rfl fun w4 u4 r=>wn ?_;have z4:=u4.size
 have h3:=u4.at_;have hB4:=u4.below hB3 kw
 refine wp_ret ?_;have hs:=hr2.shape.cells;refine ar r rfl rfl h3 (k:=7) hs.1 dY ?_;rw [←hs.2.2];exact aC.fin hB4 hr2 u4 (by rintro b (h | ⟨h1,h2,_⟩); exact .inl h; exact .inr ⟨h1,h2⟩) (by rintro (h | ⟨_,_,h⟩); (have:=hF _ h; omega); exact h rfl) kw kw kw
theorem xR (n:Nat):rq n:=by
  induction n using Nat.strongRecOn with
  | _ n ih=>
  intro F w0 hF t pv fv g hp hf hd;obtain ⟨ff,f1,f2,hcf,rfl,hff⟩:=id hf;cases t with
  | cut=>unfold Rep at hp; exact hp.elim
  | done x0=>
    have hf:=hd.resolve_left (by intro h; cases h)
    unfold Rep at hp
    subst hp;refine enter (l:=[.agg (af true (aA.cells x0) 0 0 0 0 .nilFunc),.func (.func ff) f1.toArray f2.toArray]) Tryz.func364 rfl 15 rfl rfl fun fr r=>?_;have hB:=Below.refl w0.heap.size w0
    refine wp_seq (wp_region_lit ?_);refine kX 157 (.agg (af true (aA.cells x0) 0 0 0 0 .nilFunc)) r rfl rfl fun b1 w1 q1 r=>?_;refine kX 325 (.func (.func ff) f1.toArray f2.toArray) r rfl rfl fun b2 w2 q2 r=>?_
    refine ai (.cells (af false bC.zero 0 0 0 0 .nilFunc) 268 (0,0)) r (fun R=>ah eO) rfl fun fr b3 w3 q3 r=>wpList_nil ?_;have h1:=keep q3.below (keep q2.below q1.at_)
    have h2:=keep q3.below q2.at_;have h3:=q3.at_;have e1:=q1.eq; have e2:=q2.eq; have e3:=q3.eq; have z1:=q1.size; have z2:=q2.size; have z3:=q3.size;have hB:=((hB.trans q1.below).trans (q2.below.mono kw)).trans (q3.below.mono kw)
    have zB:=hB.size;refine wp_seq (wp_seq (wp_region_lit (ac (zp b1) r (fun R=>ax r (o:=0) rfl eK) rfl fun fr r=>?_)));refine ac (.bool true) r (fun R=>av r (v:=.bool true) rfl h1 to4 rfl) rfl fun fr r=>wpList_nil ?_
    refine wp_cond_split (t:=true) (r.ev rfl) (fun _=>?_) (fun h=>by cases h)
    refine wp_seq (wp_region_lit (ac (.func (.func ff) f1.toArray f2.toArray) r (fun R=>av r (v:=.func (.func ff) f1.toArray f2.toArray) rfl h2 wk rfl) rfl fun fr r=>?_));refine mq b1 1 r (fun R=>jA r rfl kp h1) rfl fun fr sp r=>ac (.agg #[]) r (fun R=>jG r rfl ia) rfl fun fr r=>?_
    refine cA r (hf.at_.2 n (Nat.lt_succ_self n) x0 w3 (Same.below hB hF) hB.size) (fun R hc=>dN r rfl rfl hf.at_.1 hc) rfl ?_;rintro _ w4 ⟨v,rfl,hb,hr⟩
    refine ⟨_,rfl,fun fr r=>?_⟩
    have z4:=hb.size;have h3:=keep hb h3;have hB:=hB.trans (hb.mono hB.size);refine kP r hr.shape rfl rfl h3 dX rfl rfl fun w5 u5 r=>wpList_nil ?_;have z5:=u5.size
    have h3:=u5.at_;have hB:=u5.below hB kw
    refine wp_ret ?_;have hs:=hr.shape.cells;refine ar r rfl rfl h3 (k:=7) hs.1 dY ?_;rw [←hs.2.2];exact aC.fin hB hr u5 (fun b hb=>.inl hb) (fun h=>by have:=hF _ h; omega) kw kw kw
  | act op at_ a b k=>
    obtain ⟨nf,n1,n2,hcn,rfl,hk⟩:∃ (nf:FuncId) (n1 n2:List Value),ag Tryz.prog nf=true∧pv=.agg (af false aA.zero op at_ a b (.func (.func nf) n1.toArray n2.toArray))∧FnT Tryz.prog aA u64 n F w0 (.func (.func nf) n1.toArray n2.toArray) k:=by
      exact Rep.cY hp
    refine enter (l:=[.agg (af false aA.zero op at_ a b (.func (.func nf) n1.toArray n2.toArray)),.func (.func ff) f1.toArray f2.toArray]) Tryz.func364 rfl 15 rfl rfl fun fr r=>?_;have hB:=Below.refl w0.heap.size w0
    refine wp_seq (wp_region_lit ?_);refine kX 157 (.agg (af false aA.zero op at_ a b (.func (.func nf) n1.toArray n2.toArray))) r rfl rfl fun b1 w1 q1 r=>?_;refine kX 325 (.func (.func ff) f1.toArray f2.toArray) r rfl rfl fun b2 w2 q2 r=>?_
    refine ai (.cells (af false bC.zero 0 0 0 0 .nilFunc) 268 (0,0)) r (fun R=>ah eO) rfl fun fr b3 w3 q3 r=>wpList_nil ?_;have h1:=keep q3.below (keep q2.below q1.at_)
    have h2:=keep q3.below q2.at_;have h3:=q3.at_;have e1:=q1.eq; have e2:=q2.eq; have e3:=q3.eq; have z1:=q1.size; have z2:=q2.size; have z3:=q3.size;have hB:=((hB.trans q1.below).trans (q2.below.mono kw)).trans (q3.below.mono kw)
    have zB:=hB.size;refine wp_seq (wp_seq (wp_region_lit (ac (zp b1) r (fun R=>ax r (o:=0) rfl eK) rfl fun fr r=>?_)));refine ac (.bool false) r (fun R=>av r (v:=.bool false) rfl h1 to4 rfl) rfl fun fr r=>wpList_nil ?_
    refine wp_cond_split (t:=false) (r.ev rfl) (fun h=>by cases h) (fun _=>wp_skip ?_);refine wp_seq (wp_region_lit (ac (.pointer (some ⟨b1,1,none⟩)) r (fun R=>ax r (o:=0) rfl kf) rfl fun fr r=>kG (ba (⟨op,at_,a,b⟩:Access)) 4 r rfl h1 ta38 rfl rfl fun r=>ac (.func (.func 391) #[] #[zp b1,zp b2]) r (fun R=>aU r rfl) rfl fun fr r=>?_))
    have hF1:∀ b,(fun b=>F b∨b=b1∨b=b2) b→b<w3.heap.size:=by rintro b (h | h | h); exact Nat.lt_of_lt_of_le (hF b h) hB.size; omega; omega
    refine kC r (s6 (F:=fun b=>F b∨b=b1∨b=b2) (n:=n) hF1 ⟨op,at_,a,b⟩ (a1:=fun x=>(k x).bind g) (show FnT Tryz.prog bC u64 n (fun b=>F b∨b=b1∨b=b2) w3 (.func (.func 391) ([]:List Value).toArray [zp b1,zp b2].toArray) (fun x=>(k x).bind g) from
      ⟨391,[],[zp b1,zp b2],FV,rfl,fun m hm x w' hs hz=>xM (ih m hm) (fun b hb=>Nat.lt_of_lt_of_le (hF1 b hb) hz) (.inr (.inl rfl)) (hs.at_ (.inr (.inl rfl)) h1) (.inr (.inr rfl)) (hs.at_ (.inr (.inr rfl)) h2)
        (hk.mono kw (fun b h=>.inl h) ((Same.below hB hF).trans (hs.sub (fun b h=>.inl h))) (Nat.le_trans hB.size hz)) (hf.mono kw (fun b h=>.inl h) ((Same.below hB hF).trans (hs.sub (fun b h=>.inl h))) (Nat.le_trans hB.size hz)) x⟩)) rfl wE rfl ?_
    rintro _ w4 ⟨v,rfl,hb,hr⟩;refine ⟨_,rfl,fun fr r=>?_⟩
    have z4:=hb.size;have h3:=keep hb h3;have hB:=hB.trans (hb.mono hB.size);refine kP r hr.shape rfl rfl h3 dX rfl rfl fun w5 u5 r=>wpList_nil ?_;have z5:=u5.size
    have h3:=u5.at_;have hB:=u5.below hB kw
    refine wp_ret ?_;have hs:=hr.shape.cells;refine ar r rfl rfl h3 (k:=7) hs.1 dY ?_;rw [←hs.2.2];exact aC.fin hB hr u5 (by rintro b (h | h | h); exact .inl h; exact .inr ⟨kw,kw⟩; exact .inr ⟨kw,kw⟩) (by rintro (h | h | h); (have:=hF _ h; omega); omega; omega) kw kw kw
theorem xD (hF:kH F w0) {t:T (Unit)} {pv fv:Value} {g:Unit→T (Int)} (hp:Rep Tryz.prog aA n t F w0 pv) (hf:FnT Tryz.prog bC noneE (n+1) F w0 fv g) :
    Calls Tryz.prog 364 #[pv,fv] w0 (aC Tryz.prog bC n (t.bind g) F w0):=xR n hF hp (hf.mono kw (fun b h=>h) (Same.refl _ _) (Nat.le_refl _)) (.inr hf)
def ry (n:Nat):Prop:=∀ {F:Nat→Prop} {w0:World},(∀ b,F b→b<w0.heap.size)→∀ {t:T (Int)} {pv fv:Value} {g:Int→T (Grant)},Rep Tryz.prog ak n t F w0 pv→FnT Tryz.prog bo i64 n F w0 fv g→
    (t.bd=false∨FnT Tryz.prog bo i64 (n+1) F w0 fv g)→Calls Tryz.prog 157 #[pv,fv] w0 (aC Tryz.prog bo n (t.bind g) F w0)
theorem yf {n:Nat} (ih:ry n) {F:Nat→Prop} {w0:World} (hF:∀ b,F b→b<w0.heap.size) {op at_ a b:Int} {nf:FuncId} {n1 n2:List Value} {k:Int→T (Int)} {ff:FuncId} {f1 f2:List Value} {g:Int→T (Grant)}
    {b1 b2:Nat} (F1:F b1) (h1:w0.heap[b1]?=some (.cells (af false ak.zero op at_ a b (.func (.func nf) n1.toArray n2.toArray)) 44 (0,0))) (F2:F b2) (h2:w0.heap[b2]?=some (.cells #[.func (.func ff) f1.toArray f2.toArray] 231 (0,0)))
    (hk:FnT Tryz.prog ak u64 (n+1) F w0 (.func (.func nf) n1.toArray n2.toArray) k) (hg:FnT Tryz.prog bo i64 (n+1) F w0 (.func (.func ff) f1.toArray f2.toArray) g) (x:Int) :
    Calls Tryz.prog 254 #[.int .u64 x,zp b1,zp b2] w0 (aC Tryz.prog bo n ((k x).bind g) F w0):=by
 refine kN Tryz.func254 rfl 11 rfl rfl fun fr r hB=>?_;refine wp_seq (wp_region_lit ?_)
 refine ai (.cells (af false bo.zero 0 0 0 0 .nilFunc) 41 (0,0)) r (fun R=>ah tz41) rfl fun fr b3 w1 q1 r=>wn ?_;have h1:=keep q1.below h1
 have h2:=keep q1.below h2;have e3:=q1.eq;have z1:=q1.size;have h3:=q1.at_;have hB:=hB.trans (q1.below.mono hB.size);have zB:=hB.size;refine wp_seq ?_;refine bI 5 [.val (.pointer (some ⟨b1,6,none⟩)),.val (.func (.func nf) n1.toArray n2.toArray),.val (U x),.pred (RepAt Tryz.prog ak n (k x) F w0.heap.size b3) RepAt.stable,.val (.func (.func ff) f1.toArray f2.toArray)] mixed r kz (bZ trivial (bZ trivial (bZ trivial (bZ trivial (bZ trivial bH))))) ?_ ?_
 ·
  refine ec r (fun _ u _ b d s=>ax s (b:=b1) (o:=0) rfl mV bz) ?_;refine cX r rfl (fun fr1 u w' hb' hd r'=>?_) ?_
  ·
   obtain ⟨d0,_⟩:=hd;exact av r' (v:=.func (.func nf) n1.toArray n2.toArray) d0 (keep hb' h1) to42 rfl ⟨Below.refl _ _,rfl⟩
  refine ec r (fun _ u _ b d s=>ay s rfl bz) ?_;refine cX r rfl (fun fr1 u w' hb' hd r'=>?_) ?_
  ·
   obtain ⟨d0,d1,_⟩:=hd;have zb:=hb'.size;have zb:w1.heap.size≤w'.heap.size:=zb;have hB':Below w0.heap.size w0 w':=hB.trans (Below.mono (w:=w1) ⟨hb'.os,hb'.tape,hb'.output,hb'.size,hb'.block⟩ hB.size);have d0:u 1=.func (.func nf) n1.toArray n2.toArray:=d0;have d1:u 2=.int .u64 x:=d1;refine dn r' (fs:=n1) (cs:=n2) d0 d1 hk.at_.1 ((hk.at_.2 n (Nat.lt_succ_self n) x w' (Same.below hB' hF) hB'.size).mono ?_);rintro _ w2 ⟨v,rfl,hb2,hr2⟩;refine ⟨v,rfl,hb2,RepAt.iY (fun b h=>Nat.lt_of_lt_of_le (hF b h) hB'.size) kw hB'.size hb2 (Rep.mono ?_ (Same.refl _ _) (Nat.le_refl _) n _ _ hr2)⟩
   rintro b (h | h)
   · exact .inl (.inl h)
   · exact .inr h
  refine ec r (fun _ u _ b d s=>av s rfl (keep b h2) rl rfl bz) ?_;exact bJ
 intro fr u w2 hb hΦ _ r;obtain ⟨_,hr3,_,hr⟩:RepAt Tryz.prog ak n (k x) F w0.heap.size b3 (u 3) w2:=hΦ 3 ke;have r:=r.congr (sc (hΦ 4 ke) rfl);have z2:=hb.size;have h1:=keep hb h1;have h2:=keep hb h2;have h3:=keep hb h3;have hB2:=hB.trans (hb.mono hB.size);have zB2:=hB2.size;have hF1:∀ b,(kW F w0 w2 b3) b→b<w2.heap.size:=by rintro b (h | h); exact Nat.lt_of_lt_of_le (hF b h) hB2.size; exact h.2.1
 refine kC r (ih (F:=fun b=>F b∨(w0.heap.size≤b∧b<w2.heap.size∧b≠b3)) hF1 hr (hg.mono kw (fun b h=>.inl h) (Same.below hB2 hF) hB2.size)
  (.inr (hg.mono (Nat.le_refl _) (fun b h=>.inl h) (Same.below hB2 hF) hB2.size))) rfl ng rfl ?_
 rintro _ w3 ⟨v2,rfl,hb2,hr2⟩;refine ⟨_,rfl,fun fr r=>?_⟩
 have z3:=hb2.size;have h3:=keep hb2 h3;have hB3:=hB2.trans (hb2.mono hB2.size);refine kP r hr2.shape rfl rfl h3 ts41 rfl rfl fun w4 u4 r=>wn ?_;have z4:=u4.size
 have h3:=u4.at_;have hB4:=u4.below hB3 kw
 refine wp_ret ?_;have hs:=hr2.shape.cells;refine ar r rfl rfl h3 (k:=9) hs.1 ta41 ?_;rw [←hs.2.2];exact aC.fin hB4 hr2 u4 (by rintro b (h | ⟨h1,h2,_⟩); exact .inl h; exact .inr ⟨h1,h2⟩) (by rintro (h | ⟨_,_,h⟩); (have:=hF _ h; omega); exact h rfl) kw kw kw
theorem yu (n:Nat):ry n:=by
  induction n using Nat.strongRecOn with
  | _ n ih=>
  intro F w0 hF t pv fv g hp hf hd;obtain ⟨ff,f1,f2,hcf,rfl,hff⟩:=id hf;cases t with
  | cut=>unfold Rep at hp; exact hp.elim
  | done x0=>
    have hf:=hd.resolve_left (by intro h; cases h)
    unfold Rep at hp
    subst hp;refine enter (l:=[.agg (af true (ak.cells x0) 0 0 0 0 .nilFunc),.func (.func ff) f1.toArray f2.toArray]) Tryz.func157 rfl 15 rfl rfl fun fr r=>?_;have hB:=Below.refl w0.heap.size w0
    refine wp_seq (wp_region_lit ?_);refine kX 44 (.agg (af true (ak.cells x0) 0 0 0 0 .nilFunc)) r rfl rfl fun b1 w1 q1 r=>?_;refine kX 231 (.func (.func ff) f1.toArray f2.toArray) r rfl rfl fun b2 w2 q2 r=>?_
    refine ai (.cells (af false bo.zero 0 0 0 0 .nilFunc) 41 (0,0)) r (fun R=>ah tz41) rfl fun fr b3 w3 q3 r=>wpList_nil ?_;have h1:=keep q3.below (keep q2.below q1.at_)
    have h2:=keep q3.below q2.at_;have h3:=q3.at_;have e1:=q1.eq; have e2:=q2.eq; have e3:=q3.eq; have z1:=q1.size; have z2:=q2.size; have z3:=q3.size;have hB:=((hB.trans q1.below).trans (q2.below.mono kw)).trans (q3.below.mono kw)
    have zB:=hB.size;refine wp_seq (wp_seq (wp_region_lit (ac (zp b1) r (fun R=>ax r (o:=0) rfl gq) rfl fun fr r=>?_)));refine ac (.bool true) r (fun R=>av r (v:=.bool true) rfl h1 to4 rfl) rfl fun fr r=>wpList_nil ?_
    refine wp_cond_split (t:=true) (r.ev rfl) (fun _=>?_) (fun h=>by cases h)
    refine wp_seq (wp_region_lit (ac (.func (.func ff) f1.toArray f2.toArray) r (fun R=>av r (v:=.func (.func ff) f1.toArray f2.toArray) rfl h2 rl rfl) rfl fun fr r=>ac (.pointer (some ⟨b1,1,none⟩)) r (fun R=>ax r (o:=0) rfl mW) rfl fun fr r=>ac (.int .i64 x0) r (fun R=>av r (v:=(.int .i64 x0)) rfl h1 to3 rfl) rfl fun fr r=>?_));refine cA r (hf.at_.2 n (Nat.lt_succ_self n) x0 w3 (Same.below hB hF) hB.size) (fun R hc=>dN r rfl rfl hf.at_.1 hc) rfl ?_
    rintro _ w4 ⟨v,rfl,hb,hr⟩;refine ⟨_,rfl,fun fr r=>?_⟩
    have z4:=hb.size;have h3:=keep hb h3;have hB:=hB.trans (hb.mono hB.size);refine kP r hr.shape rfl rfl h3 ts41 rfl rfl fun w5 u5 r=>wpList_nil ?_;have z5:=u5.size
    have h3:=u5.at_;have hB:=u5.below hB kw
    refine wp_ret ?_;have hs:=hr.shape.cells;refine ar r rfl rfl h3 (k:=9) hs.1 ta41 ?_;rw [←hs.2.2];exact aC.fin hB hr u5 (fun b hb=>.inl hb) (fun h=>by have:=hF _ h; omega) kw kw kw
  | act op at_ a b k=>
    obtain ⟨nf,n1,n2,hcn,rfl,hk⟩:∃ (nf:FuncId) (n1 n2:List Value),ag Tryz.prog nf=true∧pv=.agg (af false ak.zero op at_ a b (.func (.func nf) n1.toArray n2.toArray))∧FnT Tryz.prog ak u64 n F w0 (.func (.func nf) n1.toArray n2.toArray) k:=by
      exact Rep.cY hp
    refine enter (l:=[.agg (af false ak.zero op at_ a b (.func (.func nf) n1.toArray n2.toArray)),.func (.func ff) f1.toArray f2.toArray]) Tryz.func157 rfl 15 rfl rfl fun fr r=>?_;have hB:=Below.refl w0.heap.size w0
    refine wp_seq (wp_region_lit ?_);refine kX 44 (.agg (af false ak.zero op at_ a b (.func (.func nf) n1.toArray n2.toArray))) r rfl rfl fun b1 w1 q1 r=>?_;refine kX 231 (.func (.func ff) f1.toArray f2.toArray) r rfl rfl fun b2 w2 q2 r=>?_
    refine ai (.cells (af false bo.zero 0 0 0 0 .nilFunc) 41 (0,0)) r (fun R=>ah tz41) rfl fun fr b3 w3 q3 r=>wpList_nil ?_;have h1:=keep q3.below (keep q2.below q1.at_)
    have h2:=keep q3.below q2.at_;have h3:=q3.at_;have e1:=q1.eq; have e2:=q2.eq; have e3:=q3.eq; have z1:=q1.size; have z2:=q2.size; have z3:=q3.size;have hB:=((hB.trans q1.below).trans (q2.below.mono kw)).trans (q3.below.mono kw)
    have zB:=hB.size;refine wp_seq (wp_seq (wp_region_lit (ac (zp b1) r (fun R=>ax r (o:=0) rfl gq) rfl fun fr r=>?_)));refine ac (.bool false) r (fun R=>av r (v:=.bool false) rfl h1 to4 rfl) rfl fun fr r=>wpList_nil ?_
    refine wp_cond_split (t:=false) (r.ev rfl) (fun h=>by cases h) (fun _=>wp_skip ?_);refine wp_seq (wp_region_lit (ac (.pointer (some ⟨b1,2,none⟩)) r (fun R=>ax r (o:=0) rfl mT) rfl fun fr r=>kG (ba (⟨op,at_,a,b⟩:Access)) 4 r rfl h1 ta38 rfl rfl fun r=>ac (.func (.func 254) #[] #[zp b1,zp b2]) r (fun R=>aU r rfl) rfl fun fr r=>?_))
    have hF1:∀ b,(fun b=>F b∨b=b1∨b=b2) b→b<w3.heap.size:=by rintro b (h | h | h); exact Nat.lt_of_lt_of_le (hF b h) hB.size; omega; omega
    refine kC r (om (F:=fun b=>F b∨b=b1∨b=b2) (n:=n) hF1 ⟨op,at_,a,b⟩ (a1:=fun x=>(k x).bind g) (show FnT Tryz.prog bo u64 n (fun b=>F b∨b=b1∨b=b2) w3 (.func (.func 254) ([]:List Value).toArray [zp b1,zp b2].toArray) (fun x=>(k x).bind g) from
      ⟨254,[],[zp b1,zp b2],EU,rfl,fun m hm x w' hs hz=>yf (ih m hm) (fun b hb=>Nat.lt_of_lt_of_le (hF1 b hb) hz) (.inr (.inl rfl)) (hs.at_ (.inr (.inl rfl)) h1) (.inr (.inr rfl)) (hs.at_ (.inr (.inr rfl)) h2)
        (hk.mono kw (fun b h=>.inl h) ((Same.below hB hF).trans (hs.sub (fun b h=>.inl h))) (Nat.le_trans hB.size hz)) (hf.mono kw (fun b h=>.inl h) ((Same.below hB hF).trans (hs.sub (fun b h=>.inl h))) (Nat.le_trans hB.size hz)) x⟩)) rfl qC rfl ?_
    rintro _ w4 ⟨v,rfl,hb,hr⟩;refine ⟨_,rfl,fun fr r=>?_⟩
    have z4:=hb.size;have h3:=keep hb h3;have hB:=hB.trans (hb.mono hB.size);refine kP r hr.shape rfl rfl h3 ts41 rfl rfl fun w5 u5 r=>wpList_nil ?_;have z5:=u5.size
    have h3:=u5.at_;have hB:=u5.below hB kw
    refine wp_ret ?_;have hs:=hr.shape.cells;refine ar r rfl rfl h3 (k:=9) hs.1 ta41 ?_;rw [←hs.2.2];exact aC.fin hB hr u5 (by rintro b (h | h | h); exact .inl h; exact .inr ⟨kw,kw⟩; exact .inr ⟨kw,kw⟩) (by rintro (h | h | h); (have:=hF _ h; omega); omega; omega) kw kw kw
theorem nI (hF:kH F w0) {t:T (Int)} {pv fv:Value} {g:Int→T (Grant)} (hp:Rep Tryz.prog ak n t F w0 pv) (hf:FnT Tryz.prog bo i64 (n+1) F w0 fv g) :
    Calls Tryz.prog 157 #[pv,fv] w0 (aC Tryz.prog bo n (t.bind g) F w0):=yu n hF hp (hf.mono kw (fun b h=>h) (Same.refl _ _) (Nat.le_refl _)) (.inr hf)
def rG (n:Nat):Prop:=∀ {F:Nat→Prop} {w0:World},(∀ b,F b→b<w0.heap.size)→∀ {t:T (Int)} {pv fv:Value} {g:Int→T (Int)},Rep Tryz.prog ak n t F w0 pv→FnT Tryz.prog ak i64 n F w0 fv g→
    (t.bd=false∨FnT Tryz.prog ak i64 (n+1) F w0 fv g)→Calls Tryz.prog 271 #[pv,fv] w0 (aC Tryz.prog ak n (t.bind g) F w0)
theorem yM {n:Nat} (ih:rG n) {F:Nat→Prop} {w0:World} (hF:∀ b,F b→b<w0.heap.size) {op at_ a b:Int} {nf:FuncId} {n1 n2:List Value} {k:Int→T (Int)} {ff:FuncId} {f1 f2:List Value} {g:Int→T (Int)}
    {b1 b2:Nat} (F1:F b1) (h1:w0.heap[b1]?=some (.cells (af false ak.zero op at_ a b (.func (.func nf) n1.toArray n2.toArray)) 44 (0,0))) (F2:F b2) (h2:w0.heap[b2]?=some (.cells #[.func (.func ff) f1.toArray f2.toArray] 280 (0,0)))
    (hk:FnT Tryz.prog ak u64 (n+1) F w0 (.func (.func nf) n1.toArray n2.toArray) k) (hg:FnT Tryz.prog ak i64 (n+1) F w0 (.func (.func ff) f1.toArray f2.toArray) g) (x:Int) :
    Calls Tryz.prog 342 #[.int .u64 x,zp b1,zp b2] w0 (aC Tryz.prog ak n ((k x).bind g) F w0):=by
 refine kN Tryz.func342 rfl 11 rfl rfl fun fr r hB=>?_;refine wp_seq (wp_region_lit ?_)
 refine ai (.cells (af false ak.zero 0 0 0 0 .nilFunc) 44 (0,0)) r (fun R=>ah tz44) rfl fun fr b3 w1 q1 r=>wn ?_;have h1:=keep q1.below h1
 have h2:=keep q1.below h2;have e3:=q1.eq;have z1:=q1.size;have h3:=q1.at_;have hB:=hB.trans (q1.below.mono hB.size);have zB:=hB.size;refine wp_seq ?_;refine bI 5 [.val (.pointer (some ⟨b1,6,none⟩)),.val (.func (.func nf) n1.toArray n2.toArray),.val (U x),.pred (RepAt Tryz.prog ak n (k x) F w0.heap.size b3) RepAt.stable,.val (.func (.func ff) f1.toArray f2.toArray)] mixed r kz (bZ trivial (bZ trivial (bZ trivial (bZ trivial (bZ trivial bH))))) ?_ ?_
 ·
  refine ec r (fun _ u _ b d s=>ax s (b:=b1) (o:=0) rfl mV bz) ?_;refine cX r rfl (fun fr1 u w' hb' hd r'=>?_) ?_
  ·
   obtain ⟨d0,_⟩:=hd;exact av r' (v:=.func (.func nf) n1.toArray n2.toArray) d0 (keep hb' h1) to42 rfl ⟨Below.refl _ _,rfl⟩
  refine ec r (fun _ u _ b d s=>ay s rfl bz) ?_;refine cX r rfl (fun fr1 u w' hb' hd r'=>?_) ?_
  ·
   obtain ⟨d0,d1,_⟩:=hd;have zb:=hb'.size;have zb:w1.heap.size≤w'.heap.size:=zb;have hB':Below w0.heap.size w0 w':=hB.trans (Below.mono (w:=w1) ⟨hb'.os,hb'.tape,hb'.output,hb'.size,hb'.block⟩ hB.size);have d0:u 1=.func (.func nf) n1.toArray n2.toArray:=d0;have d1:u 2=.int .u64 x:=d1;refine dn r' (fs:=n1) (cs:=n2) d0 d1 hk.at_.1 ((hk.at_.2 n (Nat.lt_succ_self n) x w' (Same.below hB' hF) hB'.size).mono ?_);rintro _ w2 ⟨v,rfl,hb2,hr2⟩;refine ⟨v,rfl,hb2,RepAt.iY (fun b h=>Nat.lt_of_lt_of_le (hF b h) hB'.size) kw hB'.size hb2 (Rep.mono ?_ (Same.refl _ _) (Nat.le_refl _) n _ _ hr2)⟩
   rintro b (h | h)
   · exact .inl (.inl h)
   · exact .inr h
  refine ec r (fun _ u _ b d s=>av s rfl (keep b h2) qN rfl bz) ?_;exact bJ
 intro fr u w2 hb hΦ _ r;obtain ⟨_,hr3,_,hr⟩:RepAt Tryz.prog ak n (k x) F w0.heap.size b3 (u 3) w2:=hΦ 3 ke;have r:=r.congr (sc (hΦ 4 ke) rfl);have z2:=hb.size;have h1:=keep hb h1;have h2:=keep hb h2;have h3:=keep hb h3;have hB2:=hB.trans (hb.mono hB.size);have zB2:=hB2.size;have hF1:∀ b,(kW F w0 w2 b3) b→b<w2.heap.size:=by rintro b (h | h); exact Nat.lt_of_lt_of_le (hF b h) hB2.size; exact h.2.1
 refine kC r (ih (F:=fun b=>F b∨(w0.heap.size≤b∧b<w2.heap.size∧b≠b3)) hF1 hr (hg.mono kw (fun b h=>.inl h) (Same.below hB2 hF) hB2.size)
  (.inr (hg.mono (Nat.le_refl _) (fun b h=>.inl h) (Same.below hB2 hF) hB2.size))) rfl kq rfl ?_
 rintro _ w3 ⟨v2,rfl,hb2,hr2⟩;refine ⟨_,rfl,fun fr r=>?_⟩
 have z3:=hb2.size;have h3:=keep hb2 h3;have hB3:=hB2.trans (hb2.mono hB2.size);refine kP r hr2.shape rfl rfl h3 ts44 rfl rfl fun w4 u4 r=>wn ?_;have z4:=u4.size
 have h3:=u4.at_;have hB4:=u4.below hB3 kw
 refine wp_ret ?_;have hs:=hr2.shape.cells;refine ar r rfl rfl h3 (k:=7) hs.1 ta44 ?_;rw [←hs.2.2];exact aC.fin hB4 hr2 u4 (by rintro b (h | ⟨h1,h2,_⟩); exact .inl h; exact .inr ⟨h1,h2⟩) (by rintro (h | ⟨_,_,h⟩); (have:=hF _ h; omega); exact h rfl) kw kw kw
theorem rO (n:Nat):rG n:=by
  induction n using Nat.strongRecOn with
  | _ n ih=>
  intro F w0 hF t pv fv g hp hf hd;obtain ⟨ff,f1,f2,hcf,rfl,hff⟩:=id hf;cases t with
  | cut=>unfold Rep at hp; exact hp.elim
  | done x0=>
    have hf:=hd.resolve_left (by intro h; cases h)
    unfold Rep at hp
    subst hp;refine enter (l:=[.agg (af true (ak.cells x0) 0 0 0 0 .nilFunc),.func (.func ff) f1.toArray f2.toArray]) Tryz.func271 rfl 15 rfl rfl fun fr r=>?_;have hB:=Below.refl w0.heap.size w0
    refine wp_seq (wp_region_lit ?_);refine kX 44 (.agg (af true (ak.cells x0) 0 0 0 0 .nilFunc)) r rfl rfl fun b1 w1 q1 r=>?_;refine kX 280 (.func (.func ff) f1.toArray f2.toArray) r rfl rfl fun b2 w2 q2 r=>?_
    refine ai (.cells (af false ak.zero 0 0 0 0 .nilFunc) 44 (0,0)) r (fun R=>ah tz44) rfl fun fr b3 w3 q3 r=>wpList_nil ?_;have h1:=keep q3.below (keep q2.below q1.at_)
    have h2:=keep q3.below q2.at_;have h3:=q3.at_;have e1:=q1.eq; have e2:=q2.eq; have e3:=q3.eq; have z1:=q1.size; have z2:=q2.size; have z3:=q3.size;have hB:=((hB.trans q1.below).trans (q2.below.mono kw)).trans (q3.below.mono kw)
    have zB:=hB.size;refine wp_seq (wp_seq (wp_region_lit (ac (zp b1) r (fun R=>ax r (o:=0) rfl gq) rfl fun fr r=>?_)));refine ac (.bool true) r (fun R=>av r (v:=.bool true) rfl h1 to4 rfl) rfl fun fr r=>wpList_nil ?_
    refine wp_cond_split (t:=true) (r.ev rfl) (fun _=>?_) (fun h=>by cases h)
    refine wp_seq (wp_region_lit (ac (.func (.func ff) f1.toArray f2.toArray) r (fun R=>av r (v:=.func (.func ff) f1.toArray f2.toArray) rfl h2 qN rfl) rfl fun fr r=>ac (.pointer (some ⟨b1,1,none⟩)) r (fun R=>ax r (o:=0) rfl mW) rfl fun fr r=>ac (.int .i64 x0) r (fun R=>av r (v:=(.int .i64 x0)) rfl h1 to3 rfl) rfl fun fr r=>?_));refine cA r (hf.at_.2 n (Nat.lt_succ_self n) x0 w3 (Same.below hB hF) hB.size) (fun R hc=>dN r rfl rfl hf.at_.1 hc) rfl ?_
    rintro _ w4 ⟨v,rfl,hb,hr⟩;refine ⟨_,rfl,fun fr r=>?_⟩
    have z4:=hb.size;have h3:=keep hb h3;have hB:=hB.trans (hb.mono hB.size);refine kP r hr.shape rfl rfl h3 ts44 rfl rfl fun w5 u5 r=>wpList_nil ?_;have z5:=u5.size
    have h3:=u5.at_;have hB:=u5.below hB kw
    refine wp_ret ?_;have hs:=hr.shape.cells;refine ar r rfl rfl h3 (k:=7) hs.1 ta44 ?_;rw [←hs.2.2];exact aC.fin hB hr u5 (fun b hb=>.inl hb) (fun h=>by have:=hF _ h; omega) kw kw kw
  | act op at_ a b k=>
    obtain ⟨nf,n1,n2,hcn,rfl,hk⟩:∃ (nf:FuncId) (n1 n2:List Value),ag Tryz.prog nf=true∧pv=.agg (af false ak.zero op at_ a b (.func (.func nf) n1.toArray n2.toArray))∧FnT Tryz.prog ak u64 n F w0 (.func (.func nf) n1.toArray n2.toArray) k:=by
      exact Rep.cY hp
    refine enter (l:=[.agg (af false ak.zero op at_ a b (.func (.func nf) n1.toArray n2.toArray)),.func (.func ff) f1.toArray f2.toArray]) Tryz.func271 rfl 15 rfl rfl fun fr r=>?_;have hB:=Below.refl w0.heap.size w0
    refine wp_seq (wp_region_lit ?_);refine kX 44 (.agg (af false ak.zero op at_ a b (.func (.func nf) n1.toArray n2.toArray))) r rfl rfl fun b1 w1 q1 r=>?_;refine kX 280 (.func (.func ff) f1.toArray f2.toArray) r rfl rfl fun b2 w2 q2 r=>?_
    refine ai (.cells (af false ak.zero 0 0 0 0 .nilFunc) 44 (0,0)) r (fun R=>ah tz44) rfl fun fr b3 w3 q3 r=>wpList_nil ?_;have h1:=keep q3.below (keep q2.below q1.at_)
    have h2:=keep q3.below q2.at_;have h3:=q3.at_;have e1:=q1.eq; have e2:=q2.eq; have e3:=q3.eq; have z1:=q1.size; have z2:=q2.size; have z3:=q3.size;have hB:=((hB.trans q1.below).trans (q2.below.mono kw)).trans (q3.below.mono kw)
    have zB:=hB.size;refine wp_seq (wp_seq (wp_region_lit (ac (zp b1) r (fun R=>ax r (o:=0) rfl gq) rfl fun fr r=>?_)));refine ac (.bool false) r (fun R=>av r (v:=.bool false) rfl h1 to4 rfl) rfl fun fr r=>wpList_nil ?_
    refine wp_cond_split (t:=false) (r.ev rfl) (fun h=>by cases h) (fun _=>wp_skip ?_);refine wp_seq (wp_region_lit (ac (.pointer (some ⟨b1,2,none⟩)) r (fun R=>ax r (o:=0) rfl mT) rfl fun fr r=>kG (ba (⟨op,at_,a,b⟩:Access)) 4 r rfl h1 ta38 rfl rfl fun r=>ac (.func (.func 342) #[] #[zp b1,zp b2]) r (fun R=>aU r rfl) rfl fun fr r=>?_))
    have hF1:∀ b,(fun b=>F b∨b=b1∨b=b2) b→b<w3.heap.size:=by rintro b (h | h | h); exact Nat.lt_of_lt_of_le (hF b h) hB.size; omega; omega
    refine kC r (jv (F:=fun b=>F b∨b=b1∨b=b2) (n:=n) hF1 ⟨op,at_,a,b⟩ (a1:=fun x=>(k x).bind g) (show FnT Tryz.prog ak u64 n (fun b=>F b∨b=b1∨b=b2) w3 (.func (.func 342) ([]:List Value).toArray [zp b1,zp b2].toArray) (fun x=>(k x).bind g) from
      ⟨342,[],[zp b1,zp b2],Ft,rfl,fun m hm x w' hs hz=>yM (ih m hm) (fun b hb=>Nat.lt_of_lt_of_le (hF1 b hb) hz) (.inr (.inl rfl)) (hs.at_ (.inr (.inl rfl)) h1) (.inr (.inr rfl)) (hs.at_ (.inr (.inr rfl)) h2)
        (hk.mono kw (fun b h=>.inl h) ((Same.below hB hF).trans (hs.sub (fun b h=>.inl h))) (Nat.le_trans hB.size hz)) (hf.mono kw (fun b h=>.inl h) ((Same.below hB hF).trans (hs.sub (fun b h=>.inl h))) (Nat.le_trans hB.size hz)) x⟩)) rfl kT rfl ?_
    rintro _ w4 ⟨v,rfl,hb,hr⟩;refine ⟨_,rfl,fun fr r=>?_⟩
    have z4:=hb.size;have h3:=keep hb h3;have hB:=hB.trans (hb.mono hB.size);refine kP r hr.shape rfl rfl h3 ts44 rfl rfl fun w5 u5 r=>wpList_nil ?_;have z5:=u5.size
    have h3:=u5.at_;have hB:=u5.below hB kw
    refine wp_ret ?_;have hs:=hr.shape.cells;refine ar r rfl rfl h3 (k:=7) hs.1 ta44 ?_;rw [←hs.2.2];exact aC.fin hB hr u5 (by rintro b (h | h | h); exact .inl h; exact .inr ⟨kw,kw⟩; exact .inr ⟨kw,kw⟩) (by rintro (h | h | h); (have:=hF _ h; omega); omega; omega) kw kw kw
theorem xV (hF:kH F w0) {t:T (Int)} {pv fv:Value} {g:Int→T (Int)} (hp:Rep Tryz.prog ak n t F w0 pv) (hf:FnT Tryz.prog ak i64 n F w0 fv g) (hd:t.bd=false) :
    Calls Tryz.prog 271 #[pv,fv] w0 (aC Tryz.prog ak n (t.bind g) F w0):=rO n hF hp hf (.inl hd)
theorem nJ (hF:kH F w0) {t:T (Int)} {pv fv:Value} {g:Int→T (Int)} (hp:Rep Tryz.prog ak n t F w0 pv) (hf:FnT Tryz.prog ak i64 (n+1) F w0 fv g) :
    Calls Tryz.prog 271 #[pv,fv] w0 (aC Tryz.prog ak n (t.bind g) F w0):=rO n hF hp (hf.mono kw (fun b h=>h) (Same.refl _ _) (Nat.le_refl _)) (.inr hf)
end
end Go.Proofs.YtikjpdpgdmbdpaaGreat

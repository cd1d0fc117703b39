/- Ours. -/
import Derived.Test.YtfpgnmhcfkikkaaGreatQdM6
import Derived.Test.YtfpgnmhcfkikkaaGreatQdMems
set_option linter.all false
set_option maxRecDepth 20000
set_option maxHeartbeats 2000000
namespace Go.Proofs.YtfpgnmhcfkikkaaGreat
open Go.RowKit
section
variable {n : Nat} {F : Nat → Prop} {j : Nat} {w0 : World}
theorem mK:ak Tryz.prog 112:=by kernel_rfl
theorem uN:ak Tryz.prog 167:=by kernel_rfl
theorem qi:ak Tryz.prog 210:=by kernel_rfl
theorem CY:ak Tryz.prog 211:=by kernel_rfl
theorem jZ:ak Tryz.prog 226:=by kernel_rfl
theorem jV:ak Tryz.prog 229:=by kernel_rfl
theorem ut:ak Tryz.prog 250:=by kernel_rfl
theorem pM:ak Tryz.prog 265:=by kernel_rfl
theorem gN:ak Tryz.prog 275:=by kernel_rfl
theorem Cz:ak Tryz.prog 284:=by kernel_rfl
theorem vA:ak Tryz.prog 286:=by kernel_rfl
theorem vg:ak Tryz.prog 321:=by kernel_rfl
theorem BL:ak Tryz.prog 325:=by kernel_rfl
theorem BU:ak Tryz.prog 334:=by kernel_rfl
theorem CN:ak Tryz.prog 343:=by kernel_rfl
theorem CX:ak Tryz.prog 355:=by kernel_rfl
theorem BV:ak Tryz.prog 384:=by kernel_rfl
theorem Dv:ak Tryz.prog 386:=by kernel_rfl
theorem uy:ak Tryz.prog 393:=by kernel_rfl
theorem uZ:ak Tryz.prog 395:=by kernel_rfl
theorem CV:ak Tryz.prog 419:=by kernel_rfl
theorem gH:ba Tryz.prog 195 0 0:=by kernel_rfl
theorem p8:ba Tryz.prog 195 2 1:=by kernel_rfl
theorem pd:ba Tryz.prog 195 3 5:=by kernel_rfl
theorem tJ:ba Tryz.prog 319 0 0:=by kernel_rfl
theorem AH:ba Tryz.prog 319 1 1:=by kernel_rfl
theorem Bd:ba Tryz.prog 319 2 2:=by kernel_rfl
theorem AY:ba Tryz.prog 319 3 6:=by kernel_rfl
theorem tE:ba Tryz.prog 336 0 0:=by kernel_rfl
theorem Bh:ba Tryz.prog 336 1 1:=by kernel_rfl
theorem AW:ba Tryz.prog 336 2 2:=by kernel_rfl
theorem AB:ba Tryz.prog 336 3 6:=by kernel_rfl
theorem ub:ba Tryz.prog 45 0 0:=by kernel_rfl
theorem Bz:ba Tryz.prog 45 1 1:=by kernel_rfl
theorem Bo:ba Tryz.prog 45 2 4:=by kernel_rfl
theorem Bx:ba Tryz.prog 45 3 8:=by kernel_rfl
theorem iP:ba Tryz.prog 61 0 0:=by kernel_rfl
theorem pC:ba Tryz.prog 61 1 1:=by kernel_rfl
theorem pF:ba Tryz.prog 61 2 2:=by kernel_rfl
theorem pw:ba Tryz.prog 61 3 6:=by kernel_rfl
theorem px:ba Tryz.prog 84 0 0:=by kernel_rfl
theorem Bs:ba Tryz.prog 84 1 1:=by kernel_rfl
theorem Bw:ba Tryz.prog 84 2 3:=by kernel_rfl
theorem Br:ba Tryz.prog 84 3 7:=by kernel_rfl
theorem qb:fieldZ Tryz.prog 195 1 1:=by kernel_rfl
theorem kf:tyA Tryz.prog 190 0:=by kernel_rfl
theorem cQ:tyA Tryz.prog 195 6:=by kernel_rfl
theorem dE:tyA Tryz.prog 319 7:=by kernel_rfl
theorem fT:tyA Tryz.prog 336 7:=by kernel_rfl
theorem ta37:tyA Tryz.prog 37 3:=by kernel_rfl
theorem ta42:tyA Tryz.prog 42 4:=by kernel_rfl
theorem ta45:tyA Tryz.prog 45 9:=by kernel_rfl
theorem ta61:tyA Tryz.prog 61 7:=by kernel_rfl
theorem ta81:tyA Tryz.prog 81 2:=by kernel_rfl
theorem ta84:tyA Tryz.prog 84 8:=by kernel_rfl
theorem pY:tyO Tryz.prog 193:=by kernel_rfl
theorem pZ:tyO Tryz.prog 200:=by kernel_rfl
theorem pV:tyO Tryz.prog 257:=by kernel_rfl
theorem vo:tyO Tryz.prog 260:=by kernel_rfl
theorem qt:tyO Tryz.prog 291:=by kernel_rfl
theorem qh:tyO Tryz.prog 294:=by kernel_rfl
theorem BQ:tyO Tryz.prog 317:=by kernel_rfl
theorem uK:tyO Tryz.prog 325:=by kernel_rfl
theorem Du:tyO Tryz.prog 334:=by kernel_rfl
theorem ul:tyO Tryz.prog 366:=by kernel_rfl
theorem to4:tyO Tryz.prog 4:=by kernel_rfl
theorem to43:tyO Tryz.prog 43:=by kernel_rfl
theorem to59:tyO Tryz.prog 59:=by kernel_rfl
theorem to82:tyO Tryz.prog 82:=by kernel_rfl
theorem db:sized Tryz.prog 195 6:=by kernel_rfl
theorem dC:sized Tryz.prog 319 7:=by kernel_rfl
theorem fU:sized Tryz.prog 336 7:=by kernel_rfl
theorem ts45:sized Tryz.prog 45 9:=by kernel_rfl
theorem ts61:sized Tryz.prog 61 7:=by kernel_rfl
theorem ts84:sized Tryz.prog 84 8:=by kernel_rfl
theorem dN:zeroOf Tryz.prog 195=some (.agg (ai false aO.zero 0 0 0 0 .nilFunc)):=by kernel_rfl
theorem dX:zeroOf Tryz.prog 319=some (.agg (ai false bD.zero 0 0 0 0 .nilFunc)):=by kernel_rfl
theorem iS:zeroOf Tryz.prog 336=some (.agg (ai false bT.zero 0 0 0 0 .nilFunc)):=by kernel_rfl
theorem tz45:zeroOf Tryz.prog 45=some (.agg (ai false bf.zero 0 0 0 0 .nilFunc)):=by kernel_rfl
theorem tz61:zeroOf Tryz.prog 61=some (.agg (ai false ax.zero 0 0 0 0 .nilFunc)):=by kernel_rfl
theorem tz84:zeroOf Tryz.prog 84=some (.agg (ai false aj.zero 0 0 0 0 .nilFunc)):=by kernel_rfl
def D.rG (a0:Access) (a1:(Int→T Unit)):T Unit:=(T.act a0.op a0.at_ a0.a a0.b a1)
theorem yB (hF:kH F w0)
    (a0:Access) {a1f:FuncId} {a1_1 a1_2:List Value} {a1:(Int→T Unit)} (a1n:FnT Tryz.prog aO u64 (n) F w0 (.func (.func a1f) a1_1.toArray a1_2.toArray) a1) :
    Calls Tryz.prog 384 #[.agg (bb a0).toArray,.func (.func a1f) a1_1.toArray a1_2.toArray] w0 (av Tryz.prog aO n (D.rG a0 a1) F w0):=by
 refine enter Tryz.func384 rfl 8 rfl rfl fun fr r=>?_;have hB:=Below.refl w0.heap.size w0
 refine wsr ?_;refine kX 42 (.agg (bb a0).toArray) r rfl rfl fun b1 w2 n3 r=>?_;obtain ⟨E1,Z2,H1,hB,zB⟩:=n3.all hB
 refine ar (.cells (ai false aO.zero 0 0 0 0 .nilFunc) 195 (0,0)) r (fun R=>aq dN) rfl fun fr b4 w5 n6 r=>?_;have H1:=keep n6.below H1
 obtain ⟨E4,Z5,H4,hB,zB⟩:=n6.all hB;refine wn (wsr (kG (bb a0) 4 r rfl H1 ta42 rfl rfl fun r=>kM (.func (.func a1f) a1_1.toArray a1_2.toArray) r rfl rfl fun r=>kU (.agg (ai false aO.zero a0.op a0.at_ a0.a a0.b (.func (.func a1f) a1_1.toArray a1_2.toArray))) r (by kernel_rfl) rfl fun r=>?_));refine aM (.cells (ai false aO.zero a0.op a0.at_ a0.a a0.b (.func (.func a1f) a1_1.toArray a1_2.toArray)) 195 (0,0)) r (fun R=>aX r (o:=0) (v:=(.agg (ai false aO.zero a0.op a0.at_ a0.a a0.b (.func (.func a1f) a1_1.toArray a1_2.toArray)))) rfl rfl H4 db (Nat.le_of_ble_eq_true rfl) rfl rfl) rfl fun fr w7 u8 r=>?_
 have Z7:=u8.size;have H1:=u8.keep H1 (by omega)
 have H4:=u8.at_;obtain ⟨hB,zB⟩:=u8.on hB (by omega)
 refine wn (wp_ret ?_);refine aH r rfl rfl H4 (k:=6) rfl cQ ?_;exact ⟨_,rfl,hB,Rep.iO (a1n.mono (Nat.le_refl _) (fun b hb=>.inl hb) (Same.below hB hF) hB.size)⟩
def D.ry :T Unit:=(T.done ())
theorem xV (hF:kH F w0)
     :
    Calls Tryz.prog 383 #[.agg #[]] w0 (av Tryz.prog aO n D.ry F w0):=by
 refine enter Tryz.func383 rfl 5 rfl rfl fun fr r=>?_;have hB:=Below.refl w0.heap.size w0
 refine wsr ?_;refine kX 190 (.agg #[]) r rfl rfl fun b1 w2 n3 r=>?_;obtain ⟨E1,Z2,H1,hB,zB⟩:=n3.all hB
 refine ar (.cells (ai false aO.zero 0 0 0 0 .nilFunc) 195 (0,0)) r (fun R=>aq dN) rfl fun fr b4 w5 n6 r=>?_;have H1:=keep n6.below H1
 obtain ⟨E4,Z5,H4,hB,zB⟩:=n6.all hB;refine wn (wsr (kG [] 0 r rfl H1 kf rfl rfl fun r=>kU (.agg (ai true (aO.cells ()) 0 0 0 0 .nilFunc)) r (by kernel_rfl) rfl fun r=>?_));refine aM (.cells (ai true (aO.cells ()) 0 0 0 0 .nilFunc) 195 (0,0)) r (fun R=>aX r (o:=0) (v:=(.agg (ai true (aO.cells ()) 0 0 0 0 .nilFunc))) rfl rfl H4 db (Nat.le_of_ble_eq_true rfl) rfl rfl) rfl fun fr w7 u8 r=>?_
 have Z7:=u8.size;have H1:=u8.keep H1 (by omega)
 have H4:=u8.at_;obtain ⟨hB,zB⟩:=u8.on hB (by omega)
 refine wn (wp_ret ?_);refine aH r rfl rfl H4 (k:=6) rfl cQ ?_;exact ⟨_,rfl,hB,Rep.iG⟩
def D.lG (a0:Access) (a1:(Int→T Int)):T Int:=(T.act a0.op a0.at_ a0.a a0.b a1)
theorem jm (hF:kH F w0)
    (a0:Access) {a1f:FuncId} {a1_1 a1_2:List Value} {a1:(Int→T Int)} (a1n:FnT Tryz.prog ax u64 (n) F w0 (.func (.func a1f) a1_1.toArray a1_2.toArray) a1) :
    Calls Tryz.prog 226 #[.agg (bb a0).toArray,.func (.func a1f) a1_1.toArray a1_2.toArray] w0 (av Tryz.prog ax n (D.lG a0 a1) F w0):=by
 refine enter Tryz.func226 rfl 8 rfl rfl fun fr r=>?_;have hB:=Below.refl w0.heap.size w0
 refine wsr ?_;refine kX 42 (.agg (bb a0).toArray) r rfl rfl fun b1 w2 n3 r=>?_;obtain ⟨E1,Z2,H1,hB,zB⟩:=n3.all hB
 refine ar (.cells (ai false ax.zero 0 0 0 0 .nilFunc) 61 (0,0)) r (fun R=>aq tz61) rfl fun fr b4 w5 n6 r=>?_;have H1:=keep n6.below H1
 obtain ⟨E4,Z5,H4,hB,zB⟩:=n6.all hB;refine wn (wsr (kG (bb a0) 4 r rfl H1 ta42 rfl rfl fun r=>kM (.func (.func a1f) a1_1.toArray a1_2.toArray) r rfl rfl fun r=>kU (.agg (ai false ax.zero a0.op a0.at_ a0.a a0.b (.func (.func a1f) a1_1.toArray a1_2.toArray))) r (by kernel_rfl) rfl fun r=>?_));refine aM (.cells (ai false ax.zero a0.op a0.at_ a0.a a0.b (.func (.func a1f) a1_1.toArray a1_2.toArray)) 61 (0,0)) r (fun R=>aX r (o:=0) (v:=(.agg (ai false ax.zero a0.op a0.at_ a0.a a0.b (.func (.func a1f) a1_1.toArray a1_2.toArray)))) rfl rfl H4 ts61 (Nat.le_of_ble_eq_true rfl) rfl rfl) rfl fun fr w7 u8 r=>?_
 have Z7:=u8.size;have H1:=u8.keep H1 (by omega)
 have H4:=u8.at_;obtain ⟨hB,zB⟩:=u8.on hB (by omega)
 refine wn (wp_ret ?_);refine aH r rfl rfl H4 (k:=7) rfl ta61 ?_;exact ⟨_,rfl,hB,Rep.iO (a1n.mono (Nat.le_refl _) (fun b hb=>.inl hb) (Same.below hB hF) hB.size)⟩
def D.cx (a0:Int):T Int:=(T.done a0)
theorem dP (hF:kH F w0)
    (a0:Int) :
    Calls Tryz.prog 213 #[.int .i64 a0] w0 (av Tryz.prog ax n (D.cx a0) F w0):=by
 refine enter Tryz.func213 rfl 5 rfl rfl fun fr r=>?_;have hB:=Below.refl w0.heap.size w0
 refine wsr ?_;refine ar (.cells (ai false ax.zero 0 0 0 0 .nilFunc) 61 (0,0)) r (fun R=>aq tz61) rfl fun fr b1 w2 n3 r=>?_;obtain ⟨E1,Z2,H1,hB,zB⟩:=n3.all hB
 refine wn (wsr (kM (I a0) r rfl rfl fun r=>kU (.agg (ai true (ax.cells a0) 0 0 0 0 .nilFunc)) r (by kernel_rfl) rfl fun r=>?_));refine aM (.cells (ai true (ax.cells a0) 0 0 0 0 .nilFunc) 61 (0,0)) r (fun R=>aX r (o:=0) (v:=(.agg (ai true (ax.cells a0) 0 0 0 0 .nilFunc))) rfl rfl H1 ts61 (Nat.le_of_ble_eq_true rfl) rfl rfl) rfl fun fr w4 u5 r=>?_
 have Z4:=u5.size;have H1:=u5.at_;obtain ⟨hB,zB⟩:=u5.on hB (by omega)
 refine wn (wp_ret ?_);refine aH r rfl rfl H1 (k:=7) rfl ta61 ?_;exact ⟨_,rfl,hB,Rep.iG⟩
def D.li (a0:Grant):T Grant:=(T.done a0)
theorem qY (hF:kH F w0)
    (a0:Grant) :
    Calls Tryz.prog 110 #[.agg (grantC a0).toArray] w0 (av Tryz.prog bf n (D.li a0) F w0):=by
 refine enter Tryz.func110 rfl 5 rfl rfl fun fr r=>?_;have hB:=Below.refl w0.heap.size w0
 refine wsr ?_;refine kX 37 (.agg (grantC a0).toArray) r rfl rfl fun b1 w2 n3 r=>?_;obtain ⟨E1,Z2,H1,hB,zB⟩:=n3.all hB
 refine ar (.cells (ai false bf.zero 0 0 0 0 .nilFunc) 45 (0,0)) r (fun R=>aq tz45) rfl fun fr b4 w5 n6 r=>?_;have H1:=keep n6.below H1
 obtain ⟨E4,Z5,H4,hB,zB⟩:=n6.all hB;refine wn (wsr (kG (grantC a0) 3 r rfl H1 ta37 rfl rfl fun r=>kU (.agg (ai true (bf.cells a0) 0 0 0 0 .nilFunc)) r (by kernel_rfl) rfl fun r=>?_));refine aM (.cells (ai true (bf.cells a0) 0 0 0 0 .nilFunc) 45 (0,0)) r (fun R=>aX r (o:=0) (v:=(.agg (ai true (bf.cells a0) 0 0 0 0 .nilFunc))) rfl rfl H4 ts45 (Nat.le_of_ble_eq_true rfl) rfl rfl) rfl fun fr w7 u8 r=>?_
 have Z7:=u8.size;have H1:=u8.keep H1 (by omega)
 have H4:=u8.at_;obtain ⟨hB,zB⟩:=u8.on hB (by omega)
 refine wn (wp_ret ?_);refine aH r rfl rfl H4 (k:=9) rfl ta45 ?_;exact ⟨_,rfl,hB,Rep.iG⟩
def D.nZ (a0:Access) (a1:(Int→T Grant)):T Grant:=(T.act a0.op a0.at_ a0.a a0.b a1)
theorem nQ (hF:kH F w0)
    (a0:Access) {a1f:FuncId} {a1_1 a1_2:List Value} {a1:(Int→T Grant)} (a1n:FnT Tryz.prog bf u64 (n) F w0 (.func (.func a1f) a1_1.toArray a1_2.toArray) a1) :
    Calls Tryz.prog 210 #[.agg (bb a0).toArray,.func (.func a1f) a1_1.toArray a1_2.toArray] w0 (av Tryz.prog bf n (D.nZ a0 a1) F w0):=by
 refine enter Tryz.func210 rfl 8 rfl rfl fun fr r=>?_;have hB:=Below.refl w0.heap.size w0
 refine wsr ?_;refine kX 42 (.agg (bb a0).toArray) r rfl rfl fun b1 w2 n3 r=>?_;obtain ⟨E1,Z2,H1,hB,zB⟩:=n3.all hB
 refine ar (.cells (ai false bf.zero 0 0 0 0 .nilFunc) 45 (0,0)) r (fun R=>aq tz45) rfl fun fr b4 w5 n6 r=>?_;have H1:=keep n6.below H1
 obtain ⟨E4,Z5,H4,hB,zB⟩:=n6.all hB;refine wn (wsr (kG (bb a0) 4 r rfl H1 ta42 rfl rfl fun r=>kM (.func (.func a1f) a1_1.toArray a1_2.toArray) r rfl rfl fun r=>kU (.agg (ai false bf.zero a0.op a0.at_ a0.a a0.b (.func (.func a1f) a1_1.toArray a1_2.toArray))) r (by kernel_rfl) rfl fun r=>?_));refine aM (.cells (ai false bf.zero a0.op a0.at_ a0.a a0.b (.func (.func a1f) a1_1.toArray a1_2.toArray)) 45 (0,0)) r (fun R=>aX r (o:=0) (v:=(.agg (ai false bf.zero a0.op a0.at_ a0.a a0.b (.func (.func a1f) a1_1.toArray a1_2.toArray)))) rfl rfl H4 ts45 (Nat.le_of_ble_eq_true rfl) rfl rfl) rfl fun fr w7 u8 r=>?_
 have Z7:=u8.size;have H1:=u8.keep H1 (by omega)
 have H4:=u8.at_;obtain ⟨hB,zB⟩:=u8.on hB (by omega)
 refine wn (wp_ret ?_);refine aH r rfl rfl H4 (k:=9) rfl ta45 ?_;exact ⟨_,rfl,hB,Rep.iO (a1n.mono (Nat.le_refl _) (fun b hb=>.inl hb) (Same.below hB hF) hB.size)⟩
def D.jg (a0:Bool):T Bool:=(T.done a0)
theorem qZ (hF:kH F w0)
    (a0:Bool) :
    Calls Tryz.prog 416 #[.bool a0] w0 (av Tryz.prog bT n (D.jg a0) F w0):=by
 refine enter Tryz.func416 rfl 5 rfl rfl fun fr r=>?_;have hB:=Below.refl w0.heap.size w0
 refine wsr ?_;refine ar (.cells (ai false bT.zero 0 0 0 0 .nilFunc) 336 (0,0)) r (fun R=>aq iS) rfl fun fr b1 w2 n3 r=>?_;obtain ⟨E1,Z2,H1,hB,zB⟩:=n3.all hB
 refine wn (wsr (kM (.bool a0) r rfl rfl fun r=>kU (.agg (ai true (bT.cells a0) 0 0 0 0 .nilFunc)) r (by kernel_rfl) rfl fun r=>?_));refine aM (.cells (ai true (bT.cells a0) 0 0 0 0 .nilFunc) 336 (0,0)) r (fun R=>aX r (o:=0) (v:=(.agg (ai true (bT.cells a0) 0 0 0 0 .nilFunc))) rfl rfl H1 fU (Nat.le_of_ble_eq_true rfl) rfl rfl) rfl fun fr w4 u5 r=>?_
 have Z4:=u5.size;have H1:=u5.at_;obtain ⟨hB,zB⟩:=u5.on hB (by omega)
 refine wn (wp_ret ?_);refine aH r rfl rfl H1 (k:=7) rfl fT ?_;exact ⟨_,rfl,hB,Rep.iG⟩
def D.rH (a0:Access) (a1:(Int→T Bool)):T Bool:=(T.act a0.op a0.at_ a0.a a0.b a1)
theorem yx (hF:kH F w0)
    (a0:Access) {a1f:FuncId} {a1_1 a1_2:List Value} {a1:(Int→T Bool)} (a1n:FnT Tryz.prog bT u64 (n) F w0 (.func (.func a1f) a1_1.toArray a1_2.toArray) a1) :
    Calls Tryz.prog 429 #[.agg (bb a0).toArray,.func (.func a1f) a1_1.toArray a1_2.toArray] w0 (av Tryz.prog bT n (D.rH a0 a1) F w0):=by
 refine enter Tryz.func429 rfl 8 rfl rfl fun fr r=>?_;have hB:=Below.refl w0.heap.size w0
 refine wsr ?_;refine kX 42 (.agg (bb a0).toArray) r rfl rfl fun b1 w2 n3 r=>?_;obtain ⟨E1,Z2,H1,hB,zB⟩:=n3.all hB
 refine ar (.cells (ai false bT.zero 0 0 0 0 .nilFunc) 336 (0,0)) r (fun R=>aq iS) rfl fun fr b4 w5 n6 r=>?_;have H1:=keep n6.below H1
 obtain ⟨E4,Z5,H4,hB,zB⟩:=n6.all hB;refine wn (wsr (kG (bb a0) 4 r rfl H1 ta42 rfl rfl fun r=>kM (.func (.func a1f) a1_1.toArray a1_2.toArray) r rfl rfl fun r=>kU (.agg (ai false bT.zero a0.op a0.at_ a0.a a0.b (.func (.func a1f) a1_1.toArray a1_2.toArray))) r (by kernel_rfl) rfl fun r=>?_));refine aM (.cells (ai false bT.zero a0.op a0.at_ a0.a a0.b (.func (.func a1f) a1_1.toArray a1_2.toArray)) 336 (0,0)) r (fun R=>aX r (o:=0) (v:=(.agg (ai false bT.zero a0.op a0.at_ a0.a a0.b (.func (.func a1f) a1_1.toArray a1_2.toArray)))) rfl rfl H4 fU (Nat.le_of_ble_eq_true rfl) rfl rfl) rfl fun fr w7 u8 r=>?_
 have Z7:=u8.size;have H1:=u8.keep H1 (by omega)
 have H4:=u8.at_;obtain ⟨hB,zB⟩:=u8.on hB (by omega)
 refine wn (wp_ret ?_);refine aH r rfl rfl H4 (k:=7) rfl fT ?_;exact ⟨_,rfl,hB,Rep.iO (a1n.mono (Nat.le_refl _) (fun b hb=>.inl hb) (Same.below hB hF) hB.size)⟩
def D.nY (a0:Res):T Res:=(T.done a0)
theorem rj (hF:kH F w0)
    (a0:Res) :
    Calls Tryz.prog 45 #[.agg (resC a0).toArray] w0 (av Tryz.prog aj n (D.nY a0) F w0):=by
 refine enter Tryz.func45 rfl 5 rfl rfl fun fr r=>?_;have hB:=Below.refl w0.heap.size w0
 refine wsr ?_;refine kX 81 (.agg (resC a0).toArray) r rfl rfl fun b1 w2 n3 r=>?_;obtain ⟨E1,Z2,H1,hB,zB⟩:=n3.all hB
 refine ar (.cells (ai false aj.zero 0 0 0 0 .nilFunc) 84 (0,0)) r (fun R=>aq tz84) rfl fun fr b4 w5 n6 r=>?_;have H1:=keep n6.below H1
 obtain ⟨E4,Z5,H4,hB,zB⟩:=n6.all hB;refine wn (wsr (kG (resC a0) 2 r rfl H1 ta81 rfl rfl fun r=>kU (.agg (ai true (aj.cells a0) 0 0 0 0 .nilFunc)) r (by kernel_rfl) rfl fun r=>?_));refine aM (.cells (ai true (aj.cells a0) 0 0 0 0 .nilFunc) 84 (0,0)) r (fun R=>aX r (o:=0) (v:=(.agg (ai true (aj.cells a0) 0 0 0 0 .nilFunc))) rfl rfl H4 ts84 (Nat.le_of_ble_eq_true rfl) rfl rfl) rfl fun fr w7 u8 r=>?_
 have Z7:=u8.size;have H1:=u8.keep H1 (by omega)
 have H4:=u8.at_;obtain ⟨hB,zB⟩:=u8.on hB (by omega)
 refine wn (wp_ret ?_);refine aH r rfl rfl H4 (k:=8) rfl ta84 ?_;exact ⟨_,rfl,hB,Rep.iG⟩
def D.lI (a0:Access) (a1:(Int→T Res)):T Res:=(T.act a0.op a0.at_ a0.a a0.b a1)
theorem gj (hF:kH F w0)
    (a0:Access) {a1f:FuncId} {a1_1 a1_2:List Value} {a1:(Int→T Res)} (a1n:FnT Tryz.prog aj u64 (n) F w0 (.func (.func a1f) a1_1.toArray a1_2.toArray) a1) :
    Calls Tryz.prog 275 #[.agg (bb a0).toArray,.func (.func a1f) a1_1.toArray a1_2.toArray] w0 (av Tryz.prog aj n (D.lI a0 a1) F w0):=by
 refine enter Tryz.func275 rfl 8 rfl rfl fun fr r=>?_;have hB:=Below.refl w0.heap.size w0
 refine wsr ?_;refine kX 42 (.agg (bb a0).toArray) r rfl rfl fun b1 w2 n3 r=>?_;obtain ⟨E1,Z2,H1,hB,zB⟩:=n3.all hB
 refine ar (.cells (ai false aj.zero 0 0 0 0 .nilFunc) 84 (0,0)) r (fun R=>aq tz84) rfl fun fr b4 w5 n6 r=>?_;have H1:=keep n6.below H1
 obtain ⟨E4,Z5,H4,hB,zB⟩:=n6.all hB;refine wn (wsr (kG (bb a0) 4 r rfl H1 ta42 rfl rfl fun r=>kM (.func (.func a1f) a1_1.toArray a1_2.toArray) r rfl rfl fun r=>kU (.agg (ai false aj.zero a0.op a0.at_ a0.a a0.b (.func (.func a1f) a1_1.toArray a1_2.toArray))) r (by kernel_rfl) rfl fun r=>?_));refine aM (.cells (ai false aj.zero a0.op a0.at_ a0.a a0.b (.func (.func a1f) a1_1.toArray a1_2.toArray)) 84 (0,0)) r (fun R=>aX r (o:=0) (v:=(.agg (ai false aj.zero a0.op a0.at_ a0.a a0.b (.func (.func a1f) a1_1.toArray a1_2.toArray)))) rfl rfl H4 ts84 (Nat.le_of_ble_eq_true rfl) rfl rfl) rfl fun fr w7 u8 r=>?_
 have Z7:=u8.size;have H1:=u8.keep H1 (by omega)
 have H4:=u8.at_;obtain ⟨hB,zB⟩:=u8.on hB (by omega)
 refine wn (wp_ret ?_);refine aH r rfl rfl H4 (k:=8) rfl ta84 ?_;exact ⟨_,rfl,hB,Rep.iO (a1n.mono (Nat.le_refl _) (fun b hb=>.inl hb) (Same.below hB hF) hB.size)⟩
def D.rq (a0:Access) (a1:(Int→T Int)):T Int:=(T.act a0.op a0.at_ a0.a a0.b a1)
theorem rf (hF:kH F w0)
    (a0:Access) {a1f:FuncId} {a1_1 a1_2:List Value} {a1:(Int→T Int)} (a1n:FnT Tryz.prog bD u64 (n) F w0 (.func (.func a1f) a1_1.toArray a1_2.toArray) a1) :
    Calls Tryz.prog 393 #[.agg (bb a0).toArray,.func (.func a1f) a1_1.toArray a1_2.toArray] w0 (av Tryz.prog bD n (D.rq a0 a1) F w0):=by
 refine enter Tryz.func393 rfl 8 rfl rfl fun fr r=>?_;have hB:=Below.refl w0.heap.size w0
 refine wsr ?_;refine kX 42 (.agg (bb a0).toArray) r rfl rfl fun b1 w2 n3 r=>?_;obtain ⟨E1,Z2,H1,hB,zB⟩:=n3.all hB
 refine ar (.cells (ai false bD.zero 0 0 0 0 .nilFunc) 319 (0,0)) r (fun R=>aq dX) rfl fun fr b4 w5 n6 r=>?_;have H1:=keep n6.below H1
 obtain ⟨E4,Z5,H4,hB,zB⟩:=n6.all hB;refine wn (wsr (kG (bb a0) 4 r rfl H1 ta42 rfl rfl fun r=>kM (.func (.func a1f) a1_1.toArray a1_2.toArray) r rfl rfl fun r=>kU (.agg (ai false bD.zero a0.op a0.at_ a0.a a0.b (.func (.func a1f) a1_1.toArray a1_2.toArray))) r (by kernel_rfl) rfl fun r=>?_));refine aM (.cells (ai false bD.zero a0.op a0.at_ a0.a a0.b (.func (.func a1f) a1_1.toArray a1_2.toArray)) 319 (0,0)) r (fun R=>aX r (o:=0) (v:=(.agg (ai false bD.zero a0.op a0.at_ a0.a a0.b (.func (.func a1f) a1_1.toArray a1_2.toArray)))) rfl rfl H4 dC (Nat.le_of_ble_eq_true rfl) rfl rfl) rfl fun fr w7 u8 r=>?_
 have Z7:=u8.size;have H1:=u8.keep H1 (by omega)
 have H4:=u8.at_;obtain ⟨hB,zB⟩:=u8.on hB (by omega)
 refine wn (wp_ret ?_);refine aH r rfl rfl H4 (k:=7) rfl dE ?_;exact ⟨_,rfl,hB,Rep.iO (a1n.mono (Nat.le_refl _) (fun b hb=>.inl hb) (Same.below hB hF) hB.size)⟩
def D.jc (a0:Int):T Int:=(T.done a0)
theorem qP (hF:kH F w0)
    (a0:Int) :
    Calls Tryz.prog 394 #[.int .u64 a0] w0 (av Tryz.prog bD n (D.jc a0) F w0):=by
 refine enter Tryz.func394 rfl 5 rfl rfl fun fr r=>?_;have hB:=Below.refl w0.heap.size w0
 refine wsr ?_;refine ar (.cells (ai false bD.zero 0 0 0 0 .nilFunc) 319 (0,0)) r (fun R=>aq dX) rfl fun fr b1 w2 n3 r=>?_;obtain ⟨E1,Z2,H1,hB,zB⟩:=n3.all hB
 refine wn (wsr (kM (U a0) r rfl rfl fun r=>kU (.agg (ai true (bD.cells a0) 0 0 0 0 .nilFunc)) r (by kernel_rfl) rfl fun r=>?_));refine aM (.cells (ai true (bD.cells a0) 0 0 0 0 .nilFunc) 319 (0,0)) r (fun R=>aX r (o:=0) (v:=(.agg (ai true (bD.cells a0) 0 0 0 0 .nilFunc))) rfl rfl H1 dC (Nat.le_of_ble_eq_true rfl) rfl rfl) rfl fun fr w4 u5 r=>?_
 have Z4:=u5.size;have H1:=u5.at_;obtain ⟨hB,zB⟩:=u5.on hB (by omega)
 refine wn (wp_ret ?_);refine aH r rfl rfl H1 (k:=7) rfl dE ?_;exact ⟨_,rfl,hB,Rep.iG⟩
def qC (n:Nat):Prop:=∀ {F:Nat→Prop} {w0:World},(∀ b,F b→b<w0.heap.size)→∀ {t:T (Bool)} {pv fv:Value} {g:Bool→T (Int)},Rep Tryz.prog bT n t F w0 pv→FnT Tryz.prog ax ah n F w0 fv g→
    (t.bn=false∨FnT Tryz.prog ax ah (n+1) F w0 fv g)→Calls Tryz.prog 321 #[pv,fv] w0 (av Tryz.prog ax n (t.bind g) F w0)
theorem wU {n:Nat} (ih:qC n) {F:Nat→Prop} {w0:World} (hF:∀ b,F b→b<w0.heap.size) {op at_ a b:Int} {nf:FuncId} {n1 n2:List Value} {k:Int→T (Bool)} {ff:FuncId} {f1 f2:List Value} {g:Bool→T (Int)}
    {b1 b2:Nat} (F1:F b1) (h1:w0.heap[b1]?=some (.cells (ai false bT.zero op at_ a b (.func (.func nf) n1.toArray n2.toArray)) 336 (0,0))) (F2:F b2) (h2:w0.heap[b2]?=some (.cells #[.func (.func ff) f1.toArray f2.toArray] 294 (0,0)))
    (hk:FnT Tryz.prog bT u64 (n+1) F w0 (.func (.func nf) n1.toArray n2.toArray) k) (hg:FnT Tryz.prog ax ah (n+1) F w0 (.func (.func ff) f1.toArray f2.toArray) g) (x:Int) :
    Calls Tryz.prog 386 #[.int .u64 x,zp b1,zp b2] w0 (av Tryz.prog ax n ((k x).bind g) F w0):=by
 refine enter Tryz.func386 rfl 11 rfl rfl fun fr r=>?_;have hB:=Below.refl w0.heap.size w0
 refine wp_seq (wp_region_lit ?_);refine ar (.cells (ai false ax.zero 0 0 0 0 .nilFunc) 61 (0,0)) r (fun R=>aq tz61) rfl fun fr b3 w1 q1 r=>wn ?_;have h1:=keep q1.below h1
 have h2:=keep q1.below h2;have e3:=q1.eq;have z1:=q1.size;have h3:=q1.at_;have hB:=hB.trans (q1.below.mono hB.size);have zB:=hB.size;refine wp_seq ?_;refine bw 5 [.val (.pointer (some ⟨b1,6,none⟩)),.val (.func (.func nf) n1.toArray n2.toArray),.val (U x),.pred (bL Tryz.prog bT n (k x) F w0.heap.size b3) bL.stable,.val (.func (.func ff) f1.toArray f2.toArray)] mixed r (by kernel_rfl) (ag trivial (ag trivial (ag trivial (ag trivial (ag trivial bv))))) ?_ ?_
 ·
  refine ec r (fun _ u _ b d s=>aG s (b:=b1) (o:=0) rfl AB bz) ?_;refine cq r rfl (fun fr1 u w' hb' hd r'=>?_) ?_
  ·
   obtain ⟨d0,_⟩:=hd;exact aB r' (v:=.func (.func nf) n1.toArray n2.toArray) d0 (keep hb' h1) Du rfl ⟨Below.refl _ _,rfl⟩
  refine ec r (fun _ u _ b d s=>aD s rfl bz) ?_;refine cq r rfl (fun fr1 u w' hb' hd r'=>?_) ?_
  ·
   obtain ⟨d0,d1,_⟩:=hd;have zb:=hb'.size;have zb:w1.heap.size≤w'.heap.size:=zb;have hB':Below w0.heap.size w0 w':=hB.trans (Below.mono (w:=w1) ⟨hb'.os,hb'.tape,hb'.output,hb'.size,hb'.block⟩ hB.size);have d0:u 1=.func (.func nf) n1.toArray n2.toArray:=d0;have d1:u 2=.int .u64 x:=d1;refine dx r' (fs:=n1) (cs:=n2) d0 d1 hk.at_.1 ((hk.at_.2 n (Nat.lt_succ_self n) x w' (Same.below hB' hF) hB'.size).mono ?_);rintro _ w2 ⟨v,rfl,hb2,hr2⟩;refine ⟨v,rfl,hb2,bL.fP (fun b h=>Nat.lt_of_lt_of_le (hF b h) hB'.size) (by omega) hB'.size hb2 (Rep.mono ?_ (Same.refl _ _) (Nat.le_refl _) n _ _ hr2)⟩
   rintro b (h | h)
   · exact .inl (.inl h)
   · exact .inr h
  refine ec r (fun _ u _ b d s=>aB s rfl (keep b h2) qh rfl bz) ?_;exact bA
 intro fr u w2 hb hΦ _ r;obtain ⟨_,hr3,_,hr⟩:bL Tryz.prog bT n (k x) F w0.heap.size b3 (u 3) w2:=hΦ 3 (by decide);have r:=r.congr (sc (hΦ 4 (by decide)) rfl);have z2:=hb.size;have h1:=keep hb h1;have h2:=keep hb h2;have h3:=keep hb h3;have hB2:=hB.trans (hb.mono hB.size);have zB2:=hB2.size;have hF1:∀ b,(kW F w0 w2 b3) b→b<w2.heap.size:=by rintro b (h | h); exact Nat.lt_of_lt_of_le (hF b h) hB2.size; exact h.2.1
 refine kC r (ih (F:=fun b=>F b∨(w0.heap.size≤b∧b<w2.heap.size∧b≠b3)) hF1 hr (hg.mono (by omega) (fun b h=>.inl h) (Same.below hB2 hF) hB2.size)
  (.inr (hg.mono (Nat.le_refl _) (fun b h=>.inl h) (Same.below hB2 hF) hB2.size))) rfl vg rfl ?_
 rintro _ w3 ⟨v2,rfl,hb2,hr2⟩;refine ⟨_,rfl,fun fr r=>?_⟩
 have z3:=hb2.size;have h3:=keep hb2 h3;have hB3:=hB2.trans (hb2.mono hB2.size);refine kP r hr2.shape rfl rfl h3 ts61 rfl rfl fun w4 u4 r=>wn ?_;have z4:=u4.size
 have h3:=u4.at_;have hB4:=u4.below hB3 (by omega)
 refine wp_ret ?_;have hs:=hr2.shape.cells;refine aH r rfl rfl h3 (k:=7) hs.1 ta61 ?_;rw [←hs.2.2];exact av.fin hB4 hr2 u4 (by rintro b (h | ⟨h1,h2,_⟩); exact .inl h; exact .inr ⟨h1,h2⟩) (by rintro (h | ⟨_,_,h⟩); (have:=hF _ h; omega); exact h rfl) (by omega) (by omega) (by omega)
theorem wK (n:Nat):qC n:=by
  induction n using Nat.strongRecOn with
  | _ n ih=>
  intro F w0 hF t pv fv g hp hf hd;obtain ⟨ff,f1,f2,hcf,rfl,hff⟩:=id hf;cases t with
  | cut=>unfold Rep at hp; exact hp.elim
  | done x0=>
    have hf:=hd.resolve_left (by intro h; cases h)
    unfold Rep at hp
    subst hp;refine enter (l:=[.agg (ai true (bT.cells x0) 0 0 0 0 .nilFunc),.func (.func ff) f1.toArray f2.toArray]) Tryz.func321 rfl 15 rfl rfl fun fr r=>?_;have hB:=Below.refl w0.heap.size w0
    refine wp_seq (wp_region_lit ?_);refine kX 336 (.agg (ai true (bT.cells x0) 0 0 0 0 .nilFunc)) r rfl rfl fun b1 w1 q1 r=>?_;refine kX 294 (.func (.func ff) f1.toArray f2.toArray) r rfl rfl fun b2 w2 q2 r=>?_
    refine ar (.cells (ai false ax.zero 0 0 0 0 .nilFunc) 61 (0,0)) r (fun R=>aq tz61) rfl fun fr b3 w3 q3 r=>wpList_nil ?_;have h1:=keep q3.below (keep q2.below q1.at_)
    have h2:=keep q3.below q2.at_;have h3:=q3.at_;have e1:=q1.eq; have e2:=q2.eq; have e3:=q3.eq; have z1:=q1.size; have z2:=q2.size; have z3:=q3.size;have hB:=((hB.trans q1.below).trans (q2.below.mono (by omega))).trans (q3.below.mono (by omega))
    have zB:=hB.size;refine wp_seq (wp_seq (wp_region_lit (ae (zp b1) r (fun R=>aG r (o:=0) rfl tE) rfl fun fr r=>?_)));refine ae (.bool true) r (fun R=>aB r (v:=.bool true) rfl h1 to4 rfl) rfl fun fr r=>wpList_nil ?_
    refine wp_cond_split (t:=true) (r.ev rfl) (fun _=>?_) (fun h=>by cases h)
    refine wp_seq (wp_region_lit (ae (.func (.func ff) f1.toArray f2.toArray) r (fun R=>aB r (v:=.func (.func ff) f1.toArray f2.toArray) rfl h2 qh rfl) rfl fun fr r=>ae (.pointer (some ⟨b1,1,none⟩)) r (fun R=>aG r (o:=0) rfl Bh) rfl fun fr r=>ae (.bool x0) r (fun R=>aB r (v:=(.bool x0)) rfl h1 to4 rfl) rfl fun fr r=>?_));refine cE r (hf.at_.2 n (Nat.lt_succ_self n) x0 w3 (Same.below hB hF) hB.size) (fun R hc=>ez r rfl rfl hf.at_.1 hc) rfl ?_
    rintro _ w4 ⟨v,rfl,hb,hr⟩;refine ⟨_,rfl,fun fr r=>?_⟩
    have z4:=hb.size;have h3:=keep hb h3;have hB:=hB.trans (hb.mono hB.size);refine kP r hr.shape rfl rfl h3 ts61 rfl rfl fun w5 u5 r=>wpList_nil ?_;have z5:=u5.size
    have h3:=u5.at_;have hB:=u5.below hB (by omega)
    refine wp_ret ?_;have hs:=hr.shape.cells;refine aH r rfl rfl h3 (k:=7) hs.1 ta61 ?_;rw [←hs.2.2];exact av.fin hB hr u5 (fun b hb=>.inl hb) (fun h=>by have:=hF _ h; omega) (by omega) (by omega) (by omega)
  | act op at_ a b k=>
    obtain ⟨nf,n1,n2,hcn,rfl,hk⟩:∃ (nf:FuncId) (n1 n2:List Value),ak Tryz.prog nf=true∧pv=.agg (ai false bT.zero op at_ a b (.func (.func nf) n1.toArray n2.toArray))∧FnT Tryz.prog bT u64 n F w0 (.func (.func nf) n1.toArray n2.toArray) k:=by
      exact Rep.dK hp
    refine enter (l:=[.agg (ai false bT.zero op at_ a b (.func (.func nf) n1.toArray n2.toArray)),.func (.func ff) f1.toArray f2.toArray]) Tryz.func321 rfl 15 rfl rfl fun fr r=>?_;have hB:=Below.refl w0.heap.size w0
    refine wp_seq (wp_region_lit ?_);refine kX 336 (.agg (ai false bT.zero op at_ a b (.func (.func nf) n1.toArray n2.toArray))) r rfl rfl fun b1 w1 q1 r=>?_;refine kX 294 (.func (.func ff) f1.toArray f2.toArray) r rfl rfl fun b2 w2 q2 r=>?_
    refine ar (.cells (ai false ax.zero 0 0 0 0 .nilFunc) 61 (0,0)) r (fun R=>aq tz61) rfl fun fr b3 w3 q3 r=>wpList_nil ?_;have h1:=keep q3.below (keep q2.below q1.at_)
    have h2:=keep q3.below q2.at_;have h3:=q3.at_;have e1:=q1.eq; have e2:=q2.eq; have e3:=q3.eq; have z1:=q1.size; have z2:=q2.size; have z3:=q3.size;have hB:=((hB.trans q1.below).trans (q2.below.mono (by omega))).trans (q3.below.mono (by omega))
    have zB:=hB.size;refine wp_seq (wp_seq (wp_region_lit (ae (zp b1) r (fun R=>aG r (o:=0) rfl tE) rfl fun fr r=>?_)));refine ae (.bool false) r (fun R=>aB r (v:=.bool false) rfl h1 to4 rfl) rfl fun fr r=>wpList_nil ?_
    refine wp_cond_split (t:=false) (r.ev rfl) (fun h=>by cases h) (fun _=>wp_skip ?_);refine wp_seq (wp_region_lit (ae (.pointer (some ⟨b1,2,none⟩)) r (fun R=>aG r (o:=0) rfl AW) rfl fun fr r=>kG (bb (⟨op,at_,a,b⟩:Access)) 4 r rfl h1 ta42 rfl rfl fun r=>ae (.func (.func 386) #[] #[zp b1,zp b2]) r (fun R=>aW r rfl) rfl fun fr r=>?_))
    have hF1:∀ b,(fun b=>F b∨b=b1∨b=b2) b→b<w3.heap.size:=by rintro b (h | h | h); exact Nat.lt_of_lt_of_le (hF b h) hB.size; omega; omega
    refine kC r (jm (F:=fun b=>F b∨b=b1∨b=b2) (n:=n) hF1 ⟨op,at_,a,b⟩ (a1:=fun x=>(k x).bind g) (show FnT Tryz.prog ax u64 n (fun b=>F b∨b=b1∨b=b2) w3 (.func (.func 386) ([]:List Value).toArray [zp b1,zp b2].toArray) (fun x=>(k x).bind g) from
      ⟨386,[],[zp b1,zp b2],Dv,rfl,fun m hm x w' hs hz=>wU (ih m hm) (fun b hb=>Nat.lt_of_lt_of_le (hF1 b hb) hz) (.inr (.inl rfl)) (hs.at_ (.inr (.inl rfl)) h1) (.inr (.inr rfl)) (hs.at_ (.inr (.inr rfl)) h2)
        (hk.mono (by omega) (fun b h=>.inl h) ((Same.below hB hF).trans (hs.sub (fun b h=>.inl h))) (Nat.le_trans hB.size hz)) (hf.mono (by omega) (fun b h=>.inl h) ((Same.below hB hF).trans (hs.sub (fun b h=>.inl h))) (Nat.le_trans hB.size hz)) x⟩)) rfl jZ rfl ?_
    rintro _ w4 ⟨v,rfl,hb,hr⟩;refine ⟨_,rfl,fun fr r=>?_⟩
    have z4:=hb.size;have h3:=keep hb h3;have hB:=hB.trans (hb.mono hB.size);refine kP r hr.shape rfl rfl h3 ts61 rfl rfl fun w5 u5 r=>wpList_nil ?_;have z5:=u5.size
    have h3:=u5.at_;have hB:=u5.below hB (by omega)
    refine wp_ret ?_;have hs:=hr.shape.cells;refine aH r rfl rfl h3 (k:=7) hs.1 ta61 ?_;rw [←hs.2.2];exact av.fin hB hr u5 (by rintro b (h | h | h); exact .inl h; exact .inr ⟨by omega,by omega⟩; exact .inr ⟨by omega,by omega⟩) (by rintro (h | h | h); (have:=hF _ h; omega); omega; omega) (by omega) (by omega) (by omega)
theorem vW (hF:kH F w0) {t:T (Bool)} {pv fv:Value} {g:Bool→T (Int)} (hp:Rep Tryz.prog bT n t F w0 pv) (hf:FnT Tryz.prog ax ah (n+1) F w0 fv g) :
    Calls Tryz.prog 321 #[pv,fv] w0 (av Tryz.prog ax n (t.bind g) F w0):=wK n hF hp (hf.mono (by omega) (fun b h=>h) (Same.refl _ _) (Nat.le_refl _)) (.inr hf)
def qz (n:Nat):Prop:=∀ {F:Nat→Prop} {w0:World},(∀ b,F b→b<w0.heap.size)→∀ {t:T (Grant)} {pv fv:Value} {g:Grant→T (Res)},Rep Tryz.prog bf n t F w0 pv→FnT Tryz.prog aj argGrant n F w0 fv g→
    (t.bn=false∨FnT Tryz.prog aj argGrant (n+1) F w0 fv g)→Calls Tryz.prog 167 #[pv,fv] w0 (av Tryz.prog aj n (t.bind g) F w0)
theorem wE {n:Nat} (ih:qz n) {F:Nat→Prop} {w0:World} (hF:∀ b,F b→b<w0.heap.size) {op at_ a b:Int} {nf:FuncId} {n1 n2:List Value} {k:Int→T (Grant)} {ff:FuncId} {f1 f2:List Value} {g:Grant→T (Res)}
    {b1 b2:Nat} (F1:F b1) (h1:w0.heap[b1]?=some (.cells (ai false bf.zero op at_ a b (.func (.func nf) n1.toArray n2.toArray)) 45 (0,0))) (F2:F b2) (h2:w0.heap[b2]?=some (.cells #[.func (.func ff) f1.toArray f2.toArray] 260 (0,0)))
    (hk:FnT Tryz.prog bf u64 (n+1) F w0 (.func (.func nf) n1.toArray n2.toArray) k) (hg:FnT Tryz.prog aj argGrant (n+1) F w0 (.func (.func ff) f1.toArray f2.toArray) g) (x:Int) :
    Calls Tryz.prog 284 #[.int .u64 x,zp b1,zp b2] w0 (av Tryz.prog aj n ((k x).bind g) F w0):=by
 refine enter Tryz.func284 rfl 11 rfl rfl fun fr r=>?_;have hB:=Below.refl w0.heap.size w0
 refine wp_seq (wp_region_lit ?_);refine ar (.cells (ai false aj.zero 0 0 0 0 .nilFunc) 84 (0,0)) r (fun R=>aq tz84) rfl fun fr b3 w1 q1 r=>wn ?_;have h1:=keep q1.below h1
 have h2:=keep q1.below h2;have e3:=q1.eq;have z1:=q1.size;have h3:=q1.at_;have hB:=hB.trans (q1.below.mono hB.size);have zB:=hB.size;refine wp_seq ?_;refine bw 5 [.val (.pointer (some ⟨b1,8,none⟩)),.val (.func (.func nf) n1.toArray n2.toArray),.val (U x),.pred (bL Tryz.prog bf n (k x) F w0.heap.size b3) bL.stable,.val (.func (.func ff) f1.toArray f2.toArray)] mixed r (by kernel_rfl) (ag trivial (ag trivial (ag trivial (ag trivial (ag trivial bv))))) ?_ ?_
 ·
  refine ec r (fun _ u _ b d s=>aG s (b:=b1) (o:=0) rfl Bx bz) ?_;refine cq r rfl (fun fr1 u w' hb' hd r'=>?_) ?_
  ·
   obtain ⟨d0,_⟩:=hd;exact aB r' (v:=.func (.func nf) n1.toArray n2.toArray) d0 (keep hb' h1) to43 rfl ⟨Below.refl _ _,rfl⟩
  refine ec r (fun _ u _ b d s=>aD s rfl bz) ?_;refine cq r rfl (fun fr1 u w' hb' hd r'=>?_) ?_
  ·
   obtain ⟨d0,d1,_⟩:=hd;have zb:=hb'.size;have zb:w1.heap.size≤w'.heap.size:=zb;have hB':Below w0.heap.size w0 w':=hB.trans (Below.mono (w:=w1) ⟨hb'.os,hb'.tape,hb'.output,hb'.size,hb'.block⟩ hB.size);have d0:u 1=.func (.func nf) n1.toArray n2.toArray:=d0;have d1:u 2=.int .u64 x:=d1;refine dx r' (fs:=n1) (cs:=n2) d0 d1 hk.at_.1 ((hk.at_.2 n (Nat.lt_succ_self n) x w' (Same.below hB' hF) hB'.size).mono ?_);rintro _ w2 ⟨v,rfl,hb2,hr2⟩;refine ⟨v,rfl,hb2,bL.fP (fun b h=>Nat.lt_of_lt_of_le (hF b h) hB'.size) (by omega) hB'.size hb2 (Rep.mono ?_ (Same.refl _ _) (Nat.le_refl _) n _ _ hr2)⟩
   rintro b (h | h)
   · exact .inl (.inl h)
   · exact .inr h
  refine ec r (fun _ u _ b d s=>aB s rfl (keep b h2) vo rfl bz) ?_;exact bA
 intro fr u w2 hb hΦ _ r;obtain ⟨_,hr3,_,hr⟩:bL Tryz.prog bf n (k x) F w0.heap.size b3 (u 3) w2:=hΦ 3 (by decide);have r:=r.congr (sc (hΦ 4 (by decide)) rfl);have z2:=hb.size;have h1:=keep hb h1;have h2:=keep hb h2;have h3:=keep hb h3;have hB2:=hB.trans (hb.mono hB.size);have zB2:=hB2.size;have hF1:∀ b,(kW F w0 w2 b3) b→b<w2.heap.size:=by rintro b (h | h); exact Nat.lt_of_lt_of_le (hF b h) hB2.size; exact h.2.1
 refine kC r (ih (F:=fun b=>F b∨(w0.heap.size≤b∧b<w2.heap.size∧b≠b3)) hF1 hr (hg.mono (by omega) (fun b h=>.inl h) (Same.below hB2 hF) hB2.size)
  (.inr (hg.mono (Nat.le_refl _) (fun b h=>.inl h) (Same.below hB2 hF) hB2.size))) rfl uN rfl ?_
 rintro _ w3 ⟨v2,rfl,hb2,hr2⟩;refine ⟨_,rfl,fun fr r=>?_⟩
 have z3:=hb2.size;have h3:=keep hb2 h3;have hB3:=hB2.trans (hb2.mono hB2.size);refine kP r hr2.shape rfl rfl h3 ts84 rfl rfl fun w4 u4 r=>wn ?_;have z4:=u4.size
 have h3:=u4.at_;have hB4:=u4.below hB3 (by omega)
 refine wp_ret ?_;have hs:=hr2.shape.cells;refine aH r rfl rfl h3 (k:=8) hs.1 ta84 ?_;rw [←hs.2.2];exact av.fin hB4 hr2 u4 (by rintro b (h | ⟨h1,h2,_⟩); exact .inl h; exact .inr ⟨h1,h2⟩) (by rintro (h | ⟨_,_,h⟩); (have:=hF _ h; omega); exact h rfl) (by omega) (by omega) (by omega)
theorem wD (n:Nat):qz n:=by
  induction n using Nat.strongRecOn with
  | _ n ih=>
  intro F w0 hF t pv fv g hp hf hd;obtain ⟨ff,f1,f2,hcf,rfl,hff⟩:=id hf;cases t with
  | cut=>unfold Rep at hp; exact hp.elim
  | done x0=>
    have hf:=hd.resolve_left (by intro h; cases h)
    unfold Rep at hp
    subst hp;refine enter (l:=[.agg (ai true (bf.cells x0) 0 0 0 0 .nilFunc),.func (.func ff) f1.toArray f2.toArray]) Tryz.func167 rfl 15 rfl rfl fun fr r=>?_;have hB:=Below.refl w0.heap.size w0
    refine wp_seq (wp_region_lit ?_);refine kX 45 (.agg (ai true (bf.cells x0) 0 0 0 0 .nilFunc)) r rfl rfl fun b1 w1 q1 r=>?_;refine kX 260 (.func (.func ff) f1.toArray f2.toArray) r rfl rfl fun b2 w2 q2 r=>?_
    refine ar (.cells (ai false aj.zero 0 0 0 0 .nilFunc) 84 (0,0)) r (fun R=>aq tz84) rfl fun fr b3 w3 q3 r=>wpList_nil ?_;have h1:=keep q3.below (keep q2.below q1.at_)
    have h2:=keep q3.below q2.at_;have h3:=q3.at_;have e1:=q1.eq; have e2:=q2.eq; have e3:=q3.eq; have z1:=q1.size; have z2:=q2.size; have z3:=q3.size;have hB:=((hB.trans q1.below).trans (q2.below.mono (by omega))).trans (q3.below.mono (by omega))
    have zB:=hB.size;refine wp_seq (wp_seq (wp_region_lit (ae (zp b1) r (fun R=>aG r (o:=0) rfl ub) rfl fun fr r=>?_)));refine ae (.bool true) r (fun R=>aB r (v:=.bool true) rfl h1 to4 rfl) rfl fun fr r=>wpList_nil ?_
    refine wp_cond_split (t:=true) (r.ev rfl) (fun _=>?_) (fun h=>by cases h)
    refine wp_seq (wp_region_lit (ae (.func (.func ff) f1.toArray f2.toArray) r (fun R=>aB r (v:=.func (.func ff) f1.toArray f2.toArray) rfl h2 vo rfl) rfl fun fr r=>ae (.pointer (some ⟨b1,1,none⟩)) r (fun R=>aG r (o:=0) rfl Bz) rfl fun fr r=>kG (grantC x0) 3 r rfl h1 ta37 rfl rfl fun r=>?_));refine cE r (hf.at_.2 n (Nat.lt_succ_self n) x0 w3 (Same.below hB hF) hB.size) (fun R hc=>ez r rfl rfl hf.at_.1 hc) rfl ?_
    rintro _ w4 ⟨v,rfl,hb,hr⟩;refine ⟨_,rfl,fun fr r=>?_⟩
    have z4:=hb.size;have h3:=keep hb h3;have hB:=hB.trans (hb.mono hB.size);refine kP r hr.shape rfl rfl h3 ts84 rfl rfl fun w5 u5 r=>wpList_nil ?_;have z5:=u5.size
    have h3:=u5.at_;have hB:=u5.below hB (by omega)
    refine wp_ret ?_;have hs:=hr.shape.cells;refine aH r rfl rfl h3 (k:=8) hs.1 ta84 ?_;rw [←hs.2.2];exact av.fin hB hr u5 (fun b hb=>.inl hb) (fun h=>by have:=hF _ h; omega) (by omega) (by omega) (by omega)
  | act op at_ a b k=>
    obtain ⟨nf,n1,n2,hcn,rfl,hk⟩:∃ (nf:FuncId) (n1 n2:List Value),ak Tryz.prog nf=true∧pv=.agg (ai false bf.zero op at_ a b (.func (.func nf) n1.toArray n2.toArray))∧FnT Tryz.prog bf u64 n F w0 (.func (.func nf) n1.toArray n2.toArray) k:=by
      exact Rep.dK hp
    refine enter (l:=[.agg (ai false bf.zero op at_ a b (.func (.func nf) n1.toArray n2.toArray)),.func (.func ff) f1.toArray f2.toArray]) Tryz.func167 rfl 15 rfl rfl fun fr r=>?_;have hB:=Below.refl w0.heap.size w0
    refine wp_seq (wp_region_lit ?_);refine kX 45 (.agg (ai false bf.zero op at_ a b (.func (.func nf) n1.toArray n2.toArray))) r rfl rfl fun b1 w1 q1 r=>?_;refine kX 260 (.func (.func ff) f1.toArray f2.toArray) r rfl rfl fun b2 w2 q2 r=>?_
    refine ar (.cells (ai false aj.zero 0 0 0 0 .nilFunc) 84 (0,0)) r (fun R=>aq tz84) rfl fun fr b3 w3 q3 r=>wpList_nil ?_;have h1:=keep q3.below (keep q2.below q1.at_)
    have h2:=keep q3.below q2.at_;have h3:=q3.at_;have e1:=q1.eq; have e2:=q2.eq; have e3:=q3.eq; have z1:=q1.size; have z2:=q2.size; have z3:=q3.size;have hB:=((hB.trans q1.below).trans (q2.below.mono (by omega))).trans (q3.below.mono (by omega))
    have zB:=hB.size;refine wp_seq (wp_seq (wp_region_lit (ae (zp b1) r (fun R=>aG r (o:=0) rfl ub) rfl fun fr r=>?_)));refine ae (.bool false) r (fun R=>aB r (v:=.bool false) rfl h1 to4 rfl) rfl fun fr r=>wpList_nil ?_
    refine wp_cond_split (t:=false) (r.ev rfl) (fun h=>by cases h) (fun _=>wp_skip ?_);refine wp_seq (wp_region_lit (ae (.pointer (some ⟨b1,4,none⟩)) r (fun R=>aG r (o:=0) rfl Bo) rfl fun fr r=>kG (bb (⟨op,at_,a,b⟩:Access)) 4 r rfl h1 ta42 rfl rfl fun r=>ae (.func (.func 284) #[] #[zp b1,zp b2]) r (fun R=>aW r rfl) rfl fun fr r=>?_))
    have hF1:∀ b,(fun b=>F b∨b=b1∨b=b2) b→b<w3.heap.size:=by rintro b (h | h | h); exact Nat.lt_of_lt_of_le (hF b h) hB.size; omega; omega
    refine kC r (gj (F:=fun b=>F b∨b=b1∨b=b2) (n:=n) hF1 ⟨op,at_,a,b⟩ (a1:=fun x=>(k x).bind g) (show FnT Tryz.prog aj u64 n (fun b=>F b∨b=b1∨b=b2) w3 (.func (.func 284) ([]:List Value).toArray [zp b1,zp b2].toArray) (fun x=>(k x).bind g) from
      ⟨284,[],[zp b1,zp b2],Cz,rfl,fun m hm x w' hs hz=>wE (ih m hm) (fun b hb=>Nat.lt_of_lt_of_le (hF1 b hb) hz) (.inr (.inl rfl)) (hs.at_ (.inr (.inl rfl)) h1) (.inr (.inr rfl)) (hs.at_ (.inr (.inr rfl)) h2)
        (hk.mono (by omega) (fun b h=>.inl h) ((Same.below hB hF).trans (hs.sub (fun b h=>.inl h))) (Nat.le_trans hB.size hz)) (hf.mono (by omega) (fun b h=>.inl h) ((Same.below hB hF).trans (hs.sub (fun b h=>.inl h))) (Nat.le_trans hB.size hz)) x⟩)) rfl gN rfl ?_
    rintro _ w4 ⟨v,rfl,hb,hr⟩;refine ⟨_,rfl,fun fr r=>?_⟩
    have z4:=hb.size;have h3:=keep hb h3;have hB:=hB.trans (hb.mono hB.size);refine kP r hr.shape rfl rfl h3 ts84 rfl rfl fun w5 u5 r=>wpList_nil ?_;have z5:=u5.size
    have h3:=u5.at_;have hB:=u5.below hB (by omega)
    refine wp_ret ?_;have hs:=hr.shape.cells;refine aH r rfl rfl h3 (k:=8) hs.1 ta84 ?_;rw [←hs.2.2];exact av.fin hB hr u5 (by rintro b (h | h | h); exact .inl h; exact .inr ⟨by omega,by omega⟩; exact .inr ⟨by omega,by omega⟩) (by rintro (h | h | h); (have:=hF _ h; omega); omega; omega) (by omega) (by omega) (by omega)
theorem vU (hF:kH F w0) {t:T (Grant)} {pv fv:Value} {g:Grant→T (Res)} (hp:Rep Tryz.prog bf n t F w0 pv) (hf:FnT Tryz.prog aj argGrant (n+1) F w0 fv g) :
    Calls Tryz.prog 167 #[pv,fv] w0 (av Tryz.prog aj n (t.bind g) F w0):=wD n hF hp (hf.mono (by omega) (fun b h=>h) (Same.refl _ _) (Nat.le_refl _)) (.inr hf)
def qD (n:Nat):Prop:=∀ {F:Nat→Prop} {w0:World},(∀ b,F b→b<w0.heap.size)→∀ {t:T (Unit)} {pv fv:Value} {g:Unit→T (Res)},Rep Tryz.prog aO n t F w0 pv→FnT Tryz.prog aj noneE n F w0 fv g→
    (t.bn=false∨FnT Tryz.prog aj noneE (n+1) F w0 fv g)→Calls Tryz.prog 286 #[pv,fv] w0 (av Tryz.prog aj n (t.bind g) F w0)
theorem wQ {n:Nat} (ih:qD n) {F:Nat→Prop} {w0:World} (hF:∀ b,F b→b<w0.heap.size) {op at_ a b:Int} {nf:FuncId} {n1 n2:List Value} {k:Int→T (Unit)} {ff:FuncId} {f1 f2:List Value} {g:Unit→T (Res)}
    {b1 b2:Nat} (F1:F b1) (h1:w0.heap[b1]?=some (.cells (ai false aO.zero op at_ a b (.func (.func nf) n1.toArray n2.toArray)) 195 (0,0))) (F2:F b2) (h2:w0.heap[b2]?=some (.cells #[.func (.func ff) f1.toArray f2.toArray] 325 (0,0)))
    (hk:FnT Tryz.prog aO u64 (n+1) F w0 (.func (.func nf) n1.toArray n2.toArray) k) (hg:FnT Tryz.prog aj noneE (n+1) F w0 (.func (.func ff) f1.toArray f2.toArray) g) (x:Int) :
    Calls Tryz.prog 355 #[.int .u64 x,zp b1,zp b2] w0 (av Tryz.prog aj n ((k x).bind g) F w0):=by
 refine enter Tryz.func355 rfl 11 rfl rfl fun fr r=>?_;have hB:=Below.refl w0.heap.size w0
 refine wp_seq (wp_region_lit ?_);refine ar (.cells (ai false aj.zero 0 0 0 0 .nilFunc) 84 (0,0)) r (fun R=>aq tz84) rfl fun fr b3 w1 q1 r=>wn ?_;have h1:=keep q1.below h1
 have h2:=keep q1.below h2;have e3:=q1.eq;have z1:=q1.size;have h3:=q1.at_;have hB:=hB.trans (q1.below.mono hB.size);have zB:=hB.size;refine wp_seq ?_;refine bw 5 [.val (.pointer (some ⟨b1,5,none⟩)),.val (.func (.func nf) n1.toArray n2.toArray),.val (U x),.pred (bL Tryz.prog aO n (k x) F w0.heap.size b3) bL.stable,.val (.func (.func ff) f1.toArray f2.toArray)] mixed r (by kernel_rfl) (ag trivial (ag trivial (ag trivial (ag trivial (ag trivial bv))))) ?_ ?_
 ·
  refine ec r (fun _ u _ b d s=>aG s (b:=b1) (o:=0) rfl pd bz) ?_;refine cq r rfl (fun fr1 u w' hb' hd r'=>?_) ?_
  ·
   obtain ⟨d0,_⟩:=hd;exact aB r' (v:=.func (.func nf) n1.toArray n2.toArray) d0 (keep hb' h1) pY rfl ⟨Below.refl _ _,rfl⟩
  refine ec r (fun _ u _ b d s=>aD s rfl bz) ?_;refine cq r rfl (fun fr1 u w' hb' hd r'=>?_) ?_
  ·
   obtain ⟨d0,d1,_⟩:=hd;have zb:=hb'.size;have zb:w1.heap.size≤w'.heap.size:=zb;have hB':Below w0.heap.size w0 w':=hB.trans (Below.mono (w:=w1) ⟨hb'.os,hb'.tape,hb'.output,hb'.size,hb'.block⟩ hB.size);have d0:u 1=.func (.func nf) n1.toArray n2.toArray:=d0;have d1:u 2=.int .u64 x:=d1;refine dx r' (fs:=n1) (cs:=n2) d0 d1 hk.at_.1 ((hk.at_.2 n (Nat.lt_succ_self n) x w' (Same.below hB' hF) hB'.size).mono ?_);rintro _ w2 ⟨v,rfl,hb2,hr2⟩;refine ⟨v,rfl,hb2,bL.fP (fun b h=>Nat.lt_of_lt_of_le (hF b h) hB'.size) (by omega) hB'.size hb2 (Rep.mono ?_ (Same.refl _ _) (Nat.le_refl _) n _ _ hr2)⟩
   rintro b (h | h)
   · exact .inl (.inl h)
   · exact .inr h
  refine ec r (fun _ u _ b d s=>aB s rfl (keep b h2) uK rfl bz) ?_;exact bA
 intro fr u w2 hb hΦ _ r;obtain ⟨_,hr3,_,hr⟩:bL Tryz.prog aO n (k x) F w0.heap.size b3 (u 3) w2:=hΦ 3 (by decide);have r:=r.congr (sc (hΦ 4 (by decide)) rfl);have z2:=hb.size;have h1:=keep hb h1;have h2:=keep hb h2;have h3:=keep hb h3;have hB2:=hB.trans (hb.mono hB.size);have zB2:=hB2.size;have hF1:∀ b,(kW F w0 w2 b3) b→b<w2.heap.size:=by rintro b (h | h); exact Nat.lt_of_lt_of_le (hF b h) hB2.size; exact h.2.1
 refine kC r (ih (F:=fun b=>F b∨(w0.heap.size≤b∧b<w2.heap.size∧b≠b3)) hF1 hr (hg.mono (by omega) (fun b h=>.inl h) (Same.below hB2 hF) hB2.size)
  (.inr (hg.mono (Nat.le_refl _) (fun b h=>.inl h) (Same.below hB2 hF) hB2.size))) rfl vA rfl ?_
 rintro _ w3 ⟨v2,rfl,hb2,hr2⟩;refine ⟨_,rfl,fun fr r=>?_⟩
 have z3:=hb2.size;have h3:=keep hb2 h3;have hB3:=hB2.trans (hb2.mono hB2.size);refine kP r hr2.shape rfl rfl h3 ts84 rfl rfl fun w4 u4 r=>wn ?_;have z4:=u4.size
 have h3:=u4.at_;have hB4:=u4.below hB3 (by omega)
 refine wp_ret ?_;have hs:=hr2.shape.cells;refine aH r rfl rfl h3 (k:=8) hs.1 ta84 ?_;rw [←hs.2.2];exact av.fin hB4 hr2 u4 (by rintro b (h | ⟨h1,h2,_⟩); exact .inl h; exact .inr ⟨h1,h2⟩) (by rintro (h | ⟨_,_,h⟩); (have:=hF _ h; omega); exact h rfl) (by omega) (by omega) (by omega)
theorem wS (n:Nat):qD n:=by
  induction n using Nat.strongRecOn with
  | _ n ih=>
  intro F w0 hF t pv fv g hp hf hd;obtain ⟨ff,f1,f2,hcf,rfl,hff⟩:=id hf;cases t with
  | cut=>unfold Rep at hp; exact hp.elim
  | done x0=>
    have hf:=hd.resolve_left (by intro h; cases h)
    unfold Rep at hp
    subst hp;refine enter (l:=[.agg (ai true (aO.cells x0) 0 0 0 0 .nilFunc),.func (.func ff) f1.toArray f2.toArray]) Tryz.func286 rfl 15 rfl rfl fun fr r=>?_;have hB:=Below.refl w0.heap.size w0
    refine wp_seq (wp_region_lit ?_);refine kX 195 (.agg (ai true (aO.cells x0) 0 0 0 0 .nilFunc)) r rfl rfl fun b1 w1 q1 r=>?_;refine kX 325 (.func (.func ff) f1.toArray f2.toArray) r rfl rfl fun b2 w2 q2 r=>?_
    refine ar (.cells (ai false aj.zero 0 0 0 0 .nilFunc) 84 (0,0)) r (fun R=>aq tz84) rfl fun fr b3 w3 q3 r=>wpList_nil ?_;have h1:=keep q3.below (keep q2.below q1.at_)
    have h2:=keep q3.below q2.at_;have h3:=q3.at_;have e1:=q1.eq; have e2:=q2.eq; have e3:=q3.eq; have z1:=q1.size; have z2:=q2.size; have z3:=q3.size;have hB:=((hB.trans q1.below).trans (q2.below.mono (by omega))).trans (q3.below.mono (by omega))
    have zB:=hB.size;refine wp_seq (wp_seq (wp_region_lit (ae (zp b1) r (fun R=>aG r (o:=0) rfl gH) rfl fun fr r=>?_)));refine ae (.bool true) r (fun R=>aB r (v:=.bool true) rfl h1 to4 rfl) rfl fun fr r=>wpList_nil ?_
    refine wp_cond_split (t:=true) (r.ev rfl) (fun _=>?_) (fun h=>by cases h)
    refine wp_seq (wp_region_lit (ae (.func (.func ff) f1.toArray f2.toArray) r (fun R=>aB r (v:=.func (.func ff) f1.toArray f2.toArray) rfl h2 uK rfl) rfl fun fr r=>?_));refine tD b1 1 r (fun R=>o7 r rfl qb h1) rfl fun fr sp r=>ae (.agg #[]) r (fun R=>ow r rfl kf) rfl fun fr r=>?_
    refine cE r (hf.at_.2 n (Nat.lt_succ_self n) x0 w3 (Same.below hB hF) hB.size) (fun R hc=>ez r rfl rfl hf.at_.1 hc) rfl ?_;rintro _ w4 ⟨v,rfl,hb,hr⟩
    refine ⟨_,rfl,fun fr r=>?_⟩
    have z4:=hb.size;have h3:=keep hb h3;have hB:=hB.trans (hb.mono hB.size);refine kP r hr.shape rfl rfl h3 ts84 rfl rfl fun w5 u5 r=>wpList_nil ?_;have z5:=u5.size
    have h3:=u5.at_;have hB:=u5.below hB (by omega)
    refine wp_ret ?_;have hs:=hr.shape.cells;refine aH r rfl rfl h3 (k:=8) hs.1 ta84 ?_;rw [←hs.2.2];exact av.fin hB hr u5 (fun b hb=>.inl hb) (fun h=>by have:=hF _ h; omega) (by omega) (by omega) (by omega)
  | act op at_ a b k=>
    obtain ⟨nf,n1,n2,hcn,rfl,hk⟩:∃ (nf:FuncId) (n1 n2:List Value),ak Tryz.prog nf=true∧pv=.agg (ai false aO.zero op at_ a b (.func (.func nf) n1.toArray n2.toArray))∧FnT Tryz.prog aO u64 n F w0 (.func (.func nf) n1.toArray n2.toArray) k:=by
      exact Rep.dK hp
    refine enter (l:=[.agg (ai false aO.zero op at_ a b (.func (.func nf) n1.toArray n2.toArray)),.func (.func ff) f1.toArray f2.toArray]) Tryz.func286 rfl 15 rfl rfl fun fr r=>?_;have hB:=Below.refl w0.heap.size w0
    refine wp_seq (wp_region_lit ?_);refine kX 195 (.agg (ai false aO.zero op at_ a b (.func (.func nf) n1.toArray n2.toArray))) r rfl rfl fun b1 w1 q1 r=>?_;refine kX 325 (.func (.func ff) f1.toArray f2.toArray) r rfl rfl fun b2 w2 q2 r=>?_
    refine ar (.cells (ai false aj.zero 0 0 0 0 .nilFunc) 84 (0,0)) r (fun R=>aq tz84) rfl fun fr b3 w3 q3 r=>wpList_nil ?_;have h1:=keep q3.below (keep q2.below q1.at_)
    have h2:=keep q3.below q2.at_;have h3:=q3.at_;have e1:=q1.eq; have e2:=q2.eq; have e3:=q3.eq; have z1:=q1.size; have z2:=q2.size; have z3:=q3.size;have hB:=((hB.trans q1.below).trans (q2.below.mono (by omega))).trans (q3.below.mono (by omega))
    have zB:=hB.size;refine wp_seq (wp_seq (wp_region_lit (ae (zp b1) r (fun R=>aG r (o:=0) rfl gH) rfl fun fr r=>?_)));refine ae (.bool false) r (fun R=>aB r (v:=.bool false) rfl h1 to4 rfl) rfl fun fr r=>wpList_nil ?_
    refine wp_cond_split (t:=false) (r.ev rfl) (fun h=>by cases h) (fun _=>wp_skip ?_);refine wp_seq (wp_region_lit (ae (.pointer (some ⟨b1,1,none⟩)) r (fun R=>aG r (o:=0) rfl p8) rfl fun fr r=>kG (bb (⟨op,at_,a,b⟩:Access)) 4 r rfl h1 ta42 rfl rfl fun r=>ae (.func (.func 355) #[] #[zp b1,zp b2]) r (fun R=>aW r rfl) rfl fun fr r=>?_))
    have hF1:∀ b,(fun b=>F b∨b=b1∨b=b2) b→b<w3.heap.size:=by rintro b (h | h | h); exact Nat.lt_of_lt_of_le (hF b h) hB.size; omega; omega
    refine kC r (gj (F:=fun b=>F b∨b=b1∨b=b2) (n:=n) hF1 ⟨op,at_,a,b⟩ (a1:=fun x=>(k x).bind g) (show FnT Tryz.prog aj u64 n (fun b=>F b∨b=b1∨b=b2) w3 (.func (.func 355) ([]:List Value).toArray [zp b1,zp b2].toArray) (fun x=>(k x).bind g) from
      ⟨355,[],[zp b1,zp b2],CX,rfl,fun m hm x w' hs hz=>wQ (ih m hm) (fun b hb=>Nat.lt_of_lt_of_le (hF1 b hb) hz) (.inr (.inl rfl)) (hs.at_ (.inr (.inl rfl)) h1) (.inr (.inr rfl)) (hs.at_ (.inr (.inr rfl)) h2)
        (hk.mono (by omega) (fun b h=>.inl h) ((Same.below hB hF).trans (hs.sub (fun b h=>.inl h))) (Nat.le_trans hB.size hz)) (hf.mono (by omega) (fun b h=>.inl h) ((Same.below hB hF).trans (hs.sub (fun b h=>.inl h))) (Nat.le_trans hB.size hz)) x⟩)) rfl gN rfl ?_
    rintro _ w4 ⟨v,rfl,hb,hr⟩;refine ⟨_,rfl,fun fr r=>?_⟩
    have z4:=hb.size;have h3:=keep hb h3;have hB:=hB.trans (hb.mono hB.size);refine kP r hr.shape rfl rfl h3 ts84 rfl rfl fun w5 u5 r=>wpList_nil ?_;have z5:=u5.size
    have h3:=u5.at_;have hB:=u5.below hB (by omega)
    refine wp_ret ?_;have hs:=hr.shape.cells;refine aH r rfl rfl h3 (k:=8) hs.1 ta84 ?_;rw [←hs.2.2];exact av.fin hB hr u5 (by rintro b (h | h | h); exact .inl h; exact .inr ⟨by omega,by omega⟩; exact .inr ⟨by omega,by omega⟩) (by rintro (h | h | h); (have:=hF _ h; omega); omega; omega) (by omega) (by omega) (by omega)
theorem wg (hF:kH F w0) {t:T (Unit)} {pv fv:Value} {g:Unit→T (Res)} (hp:Rep Tryz.prog aO n t F w0 pv) (hf:FnT Tryz.prog aj noneE (n+1) F w0 fv g) :
    Calls Tryz.prog 286 #[pv,fv] w0 (av Tryz.prog aj n (t.bind g) F w0):=wS n hF hp (hf.mono (by omega) (fun b h=>h) (Same.refl _ _) (Nat.le_refl _)) (.inr hf)
def qu (n:Nat):Prop:=∀ {F:Nat→Prop} {w0:World},(∀ b,F b→b<w0.heap.size)→∀ {t:T (Unit)} {pv fv:Value} {g:Unit→T (Int)},Rep Tryz.prog aO n t F w0 pv→FnT Tryz.prog bD noneE n F w0 fv g→
    (t.bn=false∨FnT Tryz.prog bD noneE (n+1) F w0 fv g)→Calls Tryz.prog 395 #[pv,fv] w0 (av Tryz.prog bD n (t.bind g) F w0)
theorem wj {n:Nat} (ih:qu n) {F:Nat→Prop} {w0:World} (hF:∀ b,F b→b<w0.heap.size) {op at_ a b:Int} {nf:FuncId} {n1 n2:List Value} {k:Int→T (Unit)} {ff:FuncId} {f1 f2:List Value} {g:Unit→T (Int)}
    {b1 b2:Nat} (F1:F b1) (h1:w0.heap[b1]?=some (.cells (ai false aO.zero op at_ a b (.func (.func nf) n1.toArray n2.toArray)) 195 (0,0))) (F2:F b2) (h2:w0.heap[b2]?=some (.cells #[.func (.func ff) f1.toArray f2.toArray] 366 (0,0)))
    (hk:FnT Tryz.prog aO u64 (n+1) F w0 (.func (.func nf) n1.toArray n2.toArray) k) (hg:FnT Tryz.prog bD noneE (n+1) F w0 (.func (.func ff) f1.toArray f2.toArray) g) (x:Int) :
    Calls Tryz.prog 419 #[.int .u64 x,zp b1,zp b2] w0 (av Tryz.prog bD n ((k x).bind g) F w0):=by
 refine enter Tryz.func419 rfl 11 rfl rfl fun fr r=>?_;have hB:=Below.refl w0.heap.size w0
 refine wp_seq (wp_region_lit ?_);refine ar (.cells (ai false bD.zero 0 0 0 0 .nilFunc) 319 (0,0)) r (fun R=>aq dX) rfl fun fr b3 w1 q1 r=>wn ?_;have h1:=keep q1.below h1
 have h2:=keep q1.below h2;have e3:=q1.eq;have z1:=q1.size;have h3:=q1.at_;have hB:=hB.trans (q1.below.mono hB.size);have zB:=hB.size;refine wp_seq ?_;refine bw 5 [.val (.pointer (some ⟨b1,5,none⟩)),.val (.func (.func nf) n1.toArray n2.toArray),.val (U x),.pred (bL Tryz.prog aO n (k x) F w0.heap.size b3) bL.stable,.val (.func (.func ff) f1.toArray f2.toArray)] mixed r (by kernel_rfl) (ag trivial (ag trivial (ag trivial (ag trivial (ag trivial bv))))) ?_ ?_
 ·
  refine ec r (fun _ u _ b d s=>aG s (b:=b1) (o:=0) rfl pd bz) ?_;refine cq r rfl (fun fr1 u w' hb' hd r'=>?_) ?_
  ·
   obtain ⟨d0,_⟩:=hd;exact aB r' (v:=.func (.func nf) n1.toArray n2.toArray) d0 (keep hb' h1) pY rfl ⟨Below.refl _ _,rfl⟩
  refine ec r (fun _ u _ b d s=>aD s rfl bz) ?_;refine cq r rfl (fun fr1 u w' hb' hd r'=>?_) ?_
  ·
   obtain ⟨d0,d1,_⟩:=hd;have zb:=hb'.size;have zb:w1.heap.size≤w'.heap.size:=zb;have hB':Below w0.heap.size w0 w':=hB.trans (Below.mono (w:=w1) ⟨hb'.os,hb'.tape,hb'.output,hb'.size,hb'.block⟩ hB.size);have d0:u 1=.func (.func nf) n1.toArray n2.toArray:=d0;have d1:u 2=.int .u64 x:=d1;refine dx r' (fs:=n1) (cs:=n2) d0 d1 hk.at_.1 ((hk.at_.2 n (Nat.lt_succ_self n) x w' (Same.below hB' hF) hB'.size).mono ?_);rintro _ w2 ⟨v,rfl,hb2,hr2⟩;refine ⟨v,rfl,hb2,bL.fP (fun b h=>Nat.lt_of_lt_of_le (hF b h) hB'.size) (by omega) hB'.size hb2 (Rep.mono ?_ (Same.refl _ _) (Nat.le_refl _) n _ _ hr2)⟩
   rintro b (h | h)
   · exact .inl (.inl h)
   · exact .inr h
  refine ec r (fun _ u _ b d s=>aB s rfl (keep b h2) ul rfl bz) ?_;exact bA
 intro fr u w2 hb hΦ _ r;obtain ⟨_,hr3,_,hr⟩:bL Tryz.prog aO n (k x) F w0.heap.size b3 (u 3) w2:=hΦ 3 (by decide);have r:=r.congr (sc (hΦ 4 (by decide)) rfl);have z2:=hb.size;have h1:=keep hb h1;have h2:=keep hb h2;have h3:=keep hb h3;have hB2:=hB.trans (hb.mono hB.size);have zB2:=hB2.size;have hF1:∀ b,(kW F w0 w2 b3) b→b<w2.heap.size:=by rintro b (h | h); exact Nat.lt_of_lt_of_le (hF b h) hB2.size; exact h.2.1
 refine kC r (ih (F:=fun b=>F b∨(w0.heap.size≤b∧b<w2.heap.size∧b≠b3)) hF1 hr (hg.mono (by omega) (fun b h=>.inl h) (Same.below hB2 hF) hB2.size)
  (.inr (hg.mono (Nat.le_refl _) (fun b h=>.inl h) (Same.below hB2 hF) hB2.size))) rfl uZ rfl ?_
 rintro _ w3 ⟨v2,rfl,hb2,hr2⟩;refine ⟨_,rfl,fun fr r=>?_⟩
 have z3:=hb2.size;have h3:=keep hb2 h3;have hB3:=hB2.trans (hb2.mono hB2.size);refine kP r hr2.shape rfl rfl h3 dC rfl rfl fun w4 u4 r=>wn ?_;have z4:=u4.size
 have h3:=u4.at_;have hB4:=u4.below hB3 (by omega)
 refine wp_ret ?_;have hs:=hr2.shape.cells;refine aH r rfl rfl h3 (k:=7) hs.1 dE ?_;rw [←hs.2.2];exact av.fin hB4 hr2 u4 (by rintro b (h | ⟨h1,h2,_⟩); exact .inl h; exact .inr ⟨h1,h2⟩) (by rintro (h | ⟨_,_,h⟩); (have:=hF _ h; omega); exact h rfl) (by omega) (by omega) (by omega)
theorem vX (n:Nat):qu n:=by
  induction n using Nat.strongRecOn with
  | _ n ih=>
  intro F w0 hF t pv fv g hp hf hd;obtain ⟨ff,f1,f2,hcf,rfl,hff⟩:=id hf;cases t with
  | cut=>unfold Rep at hp; exact hp.elim
  | done x0=>
    have hf:=hd.resolve_left (by intro h; cases h)
    unfold Rep at hp
    subst hp;refine enter (l:=[.agg (ai true (aO.cells x0) 0 0 0 0 .nilFunc),.func (.func ff) f1.toArray f2.toArray]) Tryz.func395 rfl 15 rfl rfl fun fr r=>?_;have hB:=Below.refl w0.heap.size w0
    refine wp_seq (wp_region_lit ?_);refine kX 195 (.agg (ai true (aO.cells x0) 0 0 0 0 .nilFunc)) r rfl rfl fun b1 w1 q1 r=>?_;refine kX 366 (.func (.func ff) f1.toArray f2.toArray) r rfl rfl fun b2 w2 q2 r=>?_
    refine ar (.cells (ai false bD.zero 0 0 0 0 .nilFunc) 319 (0,0)) r (fun R=>aq dX) rfl fun fr b3 w3 q3 r=>wpList_nil ?_;have h1:=keep q3.below (keep q2.below q1.at_)
    have h2:=keep q3.below q2.at_;have h3:=q3.at_;have e1:=q1.eq; have e2:=q2.eq; have e3:=q3.eq; have z1:=q1.size; have z2:=q2.size; have z3:=q3.size;have hB:=((hB.trans q1.below).trans (q2.below.mono (by omega))).trans (q3.below.mono (by omega))
    have zB:=hB.size;refine wp_seq (wp_seq (wp_region_lit (ae (zp b1) r (fun R=>aG r (o:=0) rfl gH) rfl fun fr r=>?_)));refine ae (.bool true) r (fun R=>aB r (v:=.bool true) rfl h1 to4 rfl) rfl fun fr r=>wpList_nil ?_
    refine wp_cond_split (t:=true) (r.ev rfl) (fun _=>?_) (fun h=>by cases h)
    refine wp_seq (wp_region_lit (ae (.func (.func ff) f1.toArray f2.toArray) r (fun R=>aB r (v:=.func (.func ff) f1.toArray f2.toArray) rfl h2 ul rfl) rfl fun fr r=>?_));refine tD b1 1 r (fun R=>o7 r rfl qb h1) rfl fun fr sp r=>ae (.agg #[]) r (fun R=>ow r rfl kf) rfl fun fr r=>?_
    refine cE r (hf.at_.2 n (Nat.lt_succ_self n) x0 w3 (Same.below hB hF) hB.size) (fun R hc=>ez r rfl rfl hf.at_.1 hc) rfl ?_;rintro _ w4 ⟨v,rfl,hb,hr⟩
    refine ⟨_,rfl,fun fr r=>?_⟩
    have z4:=hb.size;have h3:=keep hb h3;have hB:=hB.trans (hb.mono hB.size);refine kP r hr.shape rfl rfl h3 dC rfl rfl fun w5 u5 r=>wpList_nil ?_;have z5:=u5.size
    have h3:=u5.at_;have hB:=u5.below hB (by omega)
    refine wp_ret ?_;have hs:=hr.shape.cells;refine aH r rfl rfl h3 (k:=7) hs.1 dE ?_;rw [←hs.2.2];exact av.fin hB hr u5 (fun b hb=>.inl hb) (fun h=>by have:=hF _ h; omega) (by omega) (by omega) (by omega)
  | act op at_ a b k=>
    obtain ⟨nf,n1,n2,hcn,rfl,hk⟩:∃ (nf:FuncId) (n1 n2:List Value),ak Tryz.prog nf=true∧pv=.agg (ai false aO.zero op at_ a b (.func (.func nf) n1.toArray n2.toArray))∧FnT Tryz.prog aO u64 n F w0 (.func (.func nf) n1.toArray n2.toArray) k:=by
      exact Rep.dK hp
    refine enter (l:=[.agg (ai false aO.zero op at_ a b (.func (.func nf) n1.toArray n2.toArray)),.func (.func ff) f1.toArray f2.toArray]) Tryz.func395 rfl 15 rfl rfl fun fr r=>?_;have hB:=Below.refl w0.heap.size w0
    refine wp_seq (wp_region_lit ?_);refine kX 195 (.agg (ai false aO.zero op at_ a b (.func (.func nf) n1.toArray n2.toArray))) r rfl rfl fun b1 w1 q1 r=>?_;refine kX 366 (.func (.func ff) f1.toArray f2.toArray) r rfl rfl fun b2 w2 q2 r=>?_
    refine ar (.cells (ai false bD.zero 0 0 0 0 .nilFunc) 319 (0,0)) r (fun R=>aq dX) rfl fun fr b3 w3 q3 r=>wpList_nil ?_;have h1:=keep q3.below (keep q2.below q1.at_)
    have h2:=keep q3.below q2.at_;have h3:=q3.at_;have e1:=q1.eq; have e2:=q2.eq; have e3:=q3.eq; have z1:=q1.size; have z2:=q2.size; have z3:=q3.size;have hB:=((hB.trans q1.below).trans (q2.below.mono (by omega))).trans (q3.below.mono (by omega))
    have zB:=hB.size;refine wp_seq (wp_seq (wp_region_lit (ae (zp b1) r (fun R=>aG r (o:=0) rfl gH) rfl fun fr r=>?_)));refine ae (.bool false) r (fun R=>aB r (v:=.bool false) rfl h1 to4 rfl) rfl fun fr r=>wpList_nil ?_
    refine wp_cond_split (t:=false) (r.ev rfl) (fun h=>by cases h) (fun _=>wp_skip ?_);refine wp_seq (wp_region_lit (ae (.pointer (some ⟨b1,1,none⟩)) r (fun R=>aG r (o:=0) rfl p8) rfl fun fr r=>kG (bb (⟨op,at_,a,b⟩:Access)) 4 r rfl h1 ta42 rfl rfl fun r=>ae (.func (.func 419) #[] #[zp b1,zp b2]) r (fun R=>aW r rfl) rfl fun fr r=>?_))
    have hF1:∀ b,(fun b=>F b∨b=b1∨b=b2) b→b<w3.heap.size:=by rintro b (h | h | h); exact Nat.lt_of_lt_of_le (hF b h) hB.size; omega; omega
    refine kC r (rf (F:=fun b=>F b∨b=b1∨b=b2) (n:=n) hF1 ⟨op,at_,a,b⟩ (a1:=fun x=>(k x).bind g) (show FnT Tryz.prog bD u64 n (fun b=>F b∨b=b1∨b=b2) w3 (.func (.func 419) ([]:List Value).toArray [zp b1,zp b2].toArray) (fun x=>(k x).bind g) from
      ⟨419,[],[zp b1,zp b2],CV,rfl,fun m hm x w' hs hz=>wj (ih m hm) (fun b hb=>Nat.lt_of_lt_of_le (hF1 b hb) hz) (.inr (.inl rfl)) (hs.at_ (.inr (.inl rfl)) h1) (.inr (.inr rfl)) (hs.at_ (.inr (.inr rfl)) h2)
        (hk.mono (by omega) (fun b h=>.inl h) ((Same.below hB hF).trans (hs.sub (fun b h=>.inl h))) (Nat.le_trans hB.size hz)) (hf.mono (by omega) (fun b h=>.inl h) ((Same.below hB hF).trans (hs.sub (fun b h=>.inl h))) (Nat.le_trans hB.size hz)) x⟩)) rfl uy rfl ?_
    rintro _ w4 ⟨v,rfl,hb,hr⟩;refine ⟨_,rfl,fun fr r=>?_⟩
    have z4:=hb.size;have h3:=keep hb h3;have hB:=hB.trans (hb.mono hB.size);refine kP r hr.shape rfl rfl h3 dC rfl rfl fun w5 u5 r=>wpList_nil ?_;have z5:=u5.size
    have h3:=u5.at_;have hB:=u5.below hB (by omega)
    refine wp_ret ?_;have hs:=hr.shape.cells;refine aH r rfl rfl h3 (k:=7) hs.1 dE ?_;rw [←hs.2.2];exact av.fin hB hr u5 (by rintro b (h | h | h); exact .inl h; exact .inr ⟨by omega,by omega⟩; exact .inr ⟨by omega,by omega⟩) (by rintro (h | h | h); (have:=hF _ h; omega); omega; omega) (by omega) (by omega) (by omega)
theorem vK (hF:kH F w0) {t:T (Unit)} {pv fv:Value} {g:Unit→T (Int)} (hp:Rep Tryz.prog aO n t F w0 pv) (hf:FnT Tryz.prog bD noneE (n+1) F w0 fv g) :
    Calls Tryz.prog 395 #[pv,fv] w0 (av Tryz.prog bD n (t.bind g) F w0):=vX n hF hp (hf.mono (by omega) (fun b h=>h) (Same.refl _ _) (Nat.le_refl _)) (.inr hf)
def qA (n:Nat):Prop:=∀ {F:Nat→Prop} {w0:World},(∀ b,F b→b<w0.heap.size)→∀ {t:T (Int)} {pv fv:Value} {g:Int→T (Grant)},Rep Tryz.prog ax n t F w0 pv→FnT Tryz.prog bf i64 n F w0 fv g→
    (t.bn=false∨FnT Tryz.prog bf i64 (n+1) F w0 fv g)→Calls Tryz.prog 112 #[pv,fv] w0 (av Tryz.prog bf n (t.bind g) F w0)
theorem wI {n:Nat} (ih:qA n) {F:Nat→Prop} {w0:World} (hF:∀ b,F b→b<w0.heap.size) {op at_ a b:Int} {nf:FuncId} {n1 n2:List Value} {k:Int→T (Int)} {ff:FuncId} {f1 f2:List Value} {g:Int→T (Grant)}
    {b1 b2:Nat} (F1:F b1) (h1:w0.heap[b1]?=some (.cells (ai false ax.zero op at_ a b (.func (.func nf) n1.toArray n2.toArray)) 61 (0,0))) (F2:F b2) (h2:w0.heap[b2]?=some (.cells #[.func (.func ff) f1.toArray f2.toArray] 200 (0,0)))
    (hk:FnT Tryz.prog ax u64 (n+1) F w0 (.func (.func nf) n1.toArray n2.toArray) k) (hg:FnT Tryz.prog bf i64 (n+1) F w0 (.func (.func ff) f1.toArray f2.toArray) g) (x:Int) :
    Calls Tryz.prog 211 #[.int .u64 x,zp b1,zp b2] w0 (av Tryz.prog bf n ((k x).bind g) F w0):=by
 refine enter Tryz.func211 rfl 11 rfl rfl fun fr r=>?_;have hB:=Below.refl w0.heap.size w0
 refine wp_seq (wp_region_lit ?_);refine ar (.cells (ai false bf.zero 0 0 0 0 .nilFunc) 45 (0,0)) r (fun R=>aq tz45) rfl fun fr b3 w1 q1 r=>wn ?_;have h1:=keep q1.below h1
 have h2:=keep q1.below h2;have e3:=q1.eq;have z1:=q1.size;have h3:=q1.at_;have hB:=hB.trans (q1.below.mono hB.size);have zB:=hB.size;refine wp_seq ?_;refine bw 5 [.val (.pointer (some ⟨b1,6,none⟩)),.val (.func (.func nf) n1.toArray n2.toArray),.val (U x),.pred (bL Tryz.prog ax n (k x) F w0.heap.size b3) bL.stable,.val (.func (.func ff) f1.toArray f2.toArray)] mixed r (by kernel_rfl) (ag trivial (ag trivial (ag trivial (ag trivial (ag trivial bv))))) ?_ ?_
 ·
  refine ec r (fun _ u _ b d s=>aG s (b:=b1) (o:=0) rfl pw bz) ?_;refine cq r rfl (fun fr1 u w' hb' hd r'=>?_) ?_
  ·
   obtain ⟨d0,_⟩:=hd;exact aB r' (v:=.func (.func nf) n1.toArray n2.toArray) d0 (keep hb' h1) to59 rfl ⟨Below.refl _ _,rfl⟩
  refine ec r (fun _ u _ b d s=>aD s rfl bz) ?_;refine cq r rfl (fun fr1 u w' hb' hd r'=>?_) ?_
  ·
   obtain ⟨d0,d1,_⟩:=hd;have zb:=hb'.size;have zb:w1.heap.size≤w'.heap.size:=zb;have hB':Below w0.heap.size w0 w':=hB.trans (Below.mono (w:=w1) ⟨hb'.os,hb'.tape,hb'.output,hb'.size,hb'.block⟩ hB.size);have d0:u 1=.func (.func nf) n1.toArray n2.toArray:=d0;have d1:u 2=.int .u64 x:=d1;refine dx r' (fs:=n1) (cs:=n2) d0 d1 hk.at_.1 ((hk.at_.2 n (Nat.lt_succ_self n) x w' (Same.below hB' hF) hB'.size).mono ?_);rintro _ w2 ⟨v,rfl,hb2,hr2⟩;refine ⟨v,rfl,hb2,bL.fP (fun b h=>Nat.lt_of_lt_of_le (hF b h) hB'.size) (by omega) hB'.size hb2 (Rep.mono ?_ (Same.refl _ _) (Nat.le_refl _) n _ _ hr2)⟩
   rintro b (h | h)
   · exact .inl (.inl h)
   · exact .inr h
  refine ec r (fun _ u _ b d s=>aB s rfl (keep b h2) pZ rfl bz) ?_;exact bA
 intro fr u w2 hb hΦ _ r;obtain ⟨_,hr3,_,hr⟩:bL Tryz.prog ax n (k x) F w0.heap.size b3 (u 3) w2:=hΦ 3 (by decide);have r:=r.congr (sc (hΦ 4 (by decide)) rfl);have z2:=hb.size;have h1:=keep hb h1;have h2:=keep hb h2;have h3:=keep hb h3;have hB2:=hB.trans (hb.mono hB.size);have zB2:=hB2.size;have hF1:∀ b,(kW F w0 w2 b3) b→b<w2.heap.size:=by rintro b (h | h); exact Nat.lt_of_lt_of_le (hF b h) hB2.size; exact h.2.1
 refine kC r (ih (F:=fun b=>F b∨(w0.heap.size≤b∧b<w2.heap.size∧b≠b3)) hF1 hr (hg.mono (by omega) (fun b h=>.inl h) (Same.below hB2 hF) hB2.size)
  (.inr (hg.mono (Nat.le_refl _) (fun b h=>.inl h) (Same.below hB2 hF) hB2.size))) rfl mK rfl ?_
 rintro _ w3 ⟨v2,rfl,hb2,hr2⟩;refine ⟨_,rfl,fun fr r=>?_⟩
 have z3:=hb2.size;have h3:=keep hb2 h3;have hB3:=hB2.trans (hb2.mono hB2.size);refine kP r hr2.shape rfl rfl h3 ts45 rfl rfl fun w4 u4 r=>wn ?_;have z4:=u4.size
 have h3:=u4.at_;have hB4:=u4.below hB3 (by omega)
 refine wp_ret ?_;have hs:=hr2.shape.cells;refine aH r rfl rfl h3 (k:=9) hs.1 ta45 ?_;rw [←hs.2.2];exact av.fin hB4 hr2 u4 (by rintro b (h | ⟨h1,h2,_⟩); exact .inl h; exact .inr ⟨h1,h2⟩) (by rintro (h | ⟨_,_,h⟩); (have:=hF _ h; omega); exact h rfl) (by omega) (by omega) (by omega)
theorem wz (n:Nat):qA n:=by
  induction n using Nat.strongRecOn with
  | _ n ih=>
  intro F w0 hF t pv fv g hp hf hd;obtain ⟨ff,f1,f2,hcf,rfl,hff⟩:=id hf;cases t with
  | cut=>unfold Rep at hp; exact hp.elim
  | done x0=>
    have hf:=hd.resolve_left (by intro h; cases h)
    unfold Rep at hp
    subst hp;refine enter (l:=[.agg (ai true (ax.cells x0) 0 0 0 0 .nilFunc),.func (.func ff) f1.toArray f2.toArray]) Tryz.func112 rfl 15 rfl rfl fun fr r=>?_;have hB:=Below.refl w0.heap.size w0
    refine wp_seq (wp_region_lit ?_);refine kX 61 (.agg (ai true (ax.cells x0) 0 0 0 0 .nilFunc)) r rfl rfl fun b1 w1 q1 r=>?_;refine kX 200 (.func (.func ff) f1.toArray f2.toArray) r rfl rfl fun b2 w2 q2 r=>?_
    refine ar (.cells (ai false bf.zero 0 0 0 0 .nilFunc) 45 (0,0)) r (fun R=>aq tz45) rfl fun fr b3 w3 q3 r=>wpList_nil ?_;have h1:=keep q3.below (keep q2.below q1.at_)
    have h2:=keep q3.below q2.at_;have h3:=q3.at_;have e1:=q1.eq; have e2:=q2.eq; have e3:=q3.eq; have z1:=q1.size; have z2:=q2.size; have z3:=q3.size;have hB:=((hB.trans q1.below).trans (q2.below.mono (by omega))).trans (q3.below.mono (by omega))
    have zB:=hB.size;refine wp_seq (wp_seq (wp_region_lit (ae (zp b1) r (fun R=>aG r (o:=0) rfl iP) rfl fun fr r=>?_)));refine ae (.bool true) r (fun R=>aB r (v:=.bool true) rfl h1 to4 rfl) rfl fun fr r=>wpList_nil ?_
    refine wp_cond_split (t:=true) (r.ev rfl) (fun _=>?_) (fun h=>by cases h)
    refine wp_seq (wp_region_lit (ae (.func (.func ff) f1.toArray f2.toArray) r (fun R=>aB r (v:=.func (.func ff) f1.toArray f2.toArray) rfl h2 pZ rfl) rfl fun fr r=>ae (.pointer (some ⟨b1,1,none⟩)) r (fun R=>aG r (o:=0) rfl pC) rfl fun fr r=>ae (.int .i64 x0) r (fun R=>aB r (v:=(.int .i64 x0)) rfl h1 to3 rfl) rfl fun fr r=>?_));refine cE r (hf.at_.2 n (Nat.lt_succ_self n) x0 w3 (Same.below hB hF) hB.size) (fun R hc=>ez r rfl rfl hf.at_.1 hc) rfl ?_
    rintro _ w4 ⟨v,rfl,hb,hr⟩;refine ⟨_,rfl,fun fr r=>?_⟩
    have z4:=hb.size;have h3:=keep hb h3;have hB:=hB.trans (hb.mono hB.size);refine kP r hr.shape rfl rfl h3 ts45 rfl rfl fun w5 u5 r=>wpList_nil ?_;have z5:=u5.size
    have h3:=u5.at_;have hB:=u5.below hB (by omega)
    refine wp_ret ?_;have hs:=hr.shape.cells;refine aH r rfl rfl h3 (k:=9) hs.1 ta45 ?_;rw [←hs.2.2];exact av.fin hB hr u5 (fun b hb=>.inl hb) (fun h=>by have:=hF _ h; omega) (by omega) (by omega) (by omega)
  | act op at_ a b k=>
    obtain ⟨nf,n1,n2,hcn,rfl,hk⟩:∃ (nf:FuncId) (n1 n2:List Value),ak Tryz.prog nf=true∧pv=.agg (ai false ax.zero op at_ a b (.func (.func nf) n1.toArray n2.toArray))∧FnT Tryz.prog ax u64 n F w0 (.func (.func nf) n1.toArray n2.toArray) k:=by
      exact Rep.dK hp
    refine enter (l:=[.agg (ai false ax.zero op at_ a b (.func (.func nf) n1.toArray n2.toArray)),.func (.func ff) f1.toArray f2.toArray]) Tryz.func112 rfl 15 rfl rfl fun fr r=>?_;have hB:=Below.refl w0.heap.size w0
    refine wp_seq (wp_region_lit ?_);refine kX 61 (.agg (ai false ax.zero op at_ a b (.func (.func nf) n1.toArray n2.toArray))) r rfl rfl fun b1 w1 q1 r=>?_;refine kX 200 (.func (.func ff) f1.toArray f2.toArray) r rfl rfl fun b2 w2 q2 r=>?_
    refine ar (.cells (ai false bf.zero 0 0 0 0 .nilFunc) 45 (0,0)) r (fun R=>aq tz45) rfl fun fr b3 w3 q3 r=>wpList_nil ?_;have h1:=keep q3.below (keep q2.below q1.at_)
    have h2:=keep q3.below q2.at_;have h3:=q3.at_;have e1:=q1.eq; have e2:=q2.eq; have e3:=q3.eq; have z1:=q1.size; have z2:=q2.size; have z3:=q3.size;have hB:=((hB.trans q1.below).trans (q2.below.mono (by omega))).trans (q3.below.mono (by omega))
    have zB:=hB.size;refine wp_seq (wp_seq (wp_region_lit (ae (zp b1) r (fun R=>aG r (o:=0) rfl iP) rfl fun fr r=>?_)));refine ae (.bool false) r (fun R=>aB r (v:=.bool false) rfl h1 to4 rfl) rfl fun fr r=>wpList_nil ?_
    refine wp_cond_split (t:=false) (r.ev rfl) (fun h=>by cases h) (fun _=>wp_skip ?_);refine wp_seq (wp_region_lit (ae (.pointer (some ⟨b1,2,none⟩)) r (fun R=>aG r (o:=0) rfl pF) rfl fun fr r=>kG (bb (⟨op,at_,a,b⟩:Access)) 4 r rfl h1 ta42 rfl rfl fun r=>ae (.func (.func 211) #[] #[zp b1,zp b2]) r (fun R=>aW r rfl) rfl fun fr r=>?_))
    have hF1:∀ b,(fun b=>F b∨b=b1∨b=b2) b→b<w3.heap.size:=by rintro b (h | h | h); exact Nat.lt_of_lt_of_le (hF b h) hB.size; omega; omega
    refine kC r (nQ (F:=fun b=>F b∨b=b1∨b=b2) (n:=n) hF1 ⟨op,at_,a,b⟩ (a1:=fun x=>(k x).bind g) (show FnT Tryz.prog bf u64 n (fun b=>F b∨b=b1∨b=b2) w3 (.func (.func 211) ([]:List Value).toArray [zp b1,zp b2].toArray) (fun x=>(k x).bind g) from
      ⟨211,[],[zp b1,zp b2],CY,rfl,fun m hm x w' hs hz=>wI (ih m hm) (fun b hb=>Nat.lt_of_lt_of_le (hF1 b hb) hz) (.inr (.inl rfl)) (hs.at_ (.inr (.inl rfl)) h1) (.inr (.inr rfl)) (hs.at_ (.inr (.inr rfl)) h2)
        (hk.mono (by omega) (fun b h=>.inl h) ((Same.below hB hF).trans (hs.sub (fun b h=>.inl h))) (Nat.le_trans hB.size hz)) (hf.mono (by omega) (fun b h=>.inl h) ((Same.below hB hF).trans (hs.sub (fun b h=>.inl h))) (Nat.le_trans hB.size hz)) x⟩)) rfl qi rfl ?_
    rintro _ w4 ⟨v,rfl,hb,hr⟩;refine ⟨_,rfl,fun fr r=>?_⟩
    have z4:=hb.size;have h3:=keep hb h3;have hB:=hB.trans (hb.mono hB.size);refine kP r hr.shape rfl rfl h3 ts45 rfl rfl fun w5 u5 r=>wpList_nil ?_;have z5:=u5.size
    have h3:=u5.at_;have hB:=u5.below hB (by omega)
    refine wp_ret ?_;have hs:=hr.shape.cells;refine aH r rfl rfl h3 (k:=9) hs.1 ta45 ?_;rw [←hs.2.2];exact av.fin hB hr u5 (by rintro b (h | h | h); exact .inl h; exact .inr ⟨by omega,by omega⟩; exact .inr ⟨by omega,by omega⟩) (by rintro (h | h | h); (have:=hF _ h; omega); omega; omega) (by omega) (by omega) (by omega)
theorem mU (hF:kH F w0) {t:T (Int)} {pv fv:Value} {g:Int→T (Grant)} (hp:Rep Tryz.prog ax n t F w0 pv) (hf:FnT Tryz.prog bf i64 (n+1) F w0 fv g) :
    Calls Tryz.prog 112 #[pv,fv] w0 (av Tryz.prog bf n (t.bind g) F w0):=wz n hF hp (hf.mono (by omega) (fun b h=>h) (Same.refl _ _) (Nat.le_refl _)) (.inr hf)
def qE (n:Nat):Prop:=∀ {F:Nat→Prop} {w0:World},(∀ b,F b→b<w0.heap.size)→∀ {t:T (Int)} {pv fv:Value} {g:Int→T (Res)},Rep Tryz.prog ax n t F w0 pv→FnT Tryz.prog aj i64 n F w0 fv g→
    (t.bn=false∨FnT Tryz.prog aj i64 (n+1) F w0 fv g)→Calls Tryz.prog 250 #[pv,fv] w0 (av Tryz.prog aj n (t.bind g) F w0)
theorem wX {n:Nat} (ih:qE n) {F:Nat→Prop} {w0:World} (hF:∀ b,F b→b<w0.heap.size) {op at_ a b:Int} {nf:FuncId} {n1 n2:List Value} {k:Int→T (Int)} {ff:FuncId} {f1 f2:List Value} {g:Int→T (Res)}
    {b1 b2:Nat} (F1:F b1) (h1:w0.heap[b1]?=some (.cells (ai false ax.zero op at_ a b (.func (.func nf) n1.toArray n2.toArray)) 61 (0,0))) (F2:F b2) (h2:w0.heap[b2]?=some (.cells #[.func (.func ff) f1.toArray f2.toArray] 257 (0,0)))
    (hk:FnT Tryz.prog ax u64 (n+1) F w0 (.func (.func nf) n1.toArray n2.toArray) k) (hg:FnT Tryz.prog aj i64 (n+1) F w0 (.func (.func ff) f1.toArray f2.toArray) g) (x:Int) :
    Calls Tryz.prog 334 #[.int .u64 x,zp b1,zp b2] w0 (av Tryz.prog aj n ((k x).bind g) F w0):=by
 refine enter Tryz.func334 rfl 11 rfl rfl fun fr r=>?_;have hB:=Below.refl w0.heap.size w0
 refine wp_seq (wp_region_lit ?_);refine ar (.cells (ai false aj.zero 0 0 0 0 .nilFunc) 84 (0,0)) r (fun R=>aq tz84) rfl fun fr b3 w1 q1 r=>wn ?_;have h1:=keep q1.below h1
 have h2:=keep q1.below h2;have e3:=q1.eq;have z1:=q1.size;have h3:=q1.at_;have hB:=hB.trans (q1.below.mono hB.size);have zB:=hB.size;refine wp_seq ?_;refine bw 5 [.val (.pointer (some ⟨b1,6,none⟩)),.val (.func (.func nf) n1.toArray n2.toArray),.val (U x),.pred (bL Tryz.prog ax n (k x) F w0.heap.size b3) bL.stable,.val (.func (.func ff) f1.toArray f2.toArray)] mixed r (by kernel_rfl) (ag trivial (ag trivial (ag trivial (ag trivial (ag trivial bv))))) ?_ ?_
 ·
  refine ec r (fun _ u _ b d s=>aG s (b:=b1) (o:=0) rfl pw bz) ?_;refine cq r rfl (fun fr1 u w' hb' hd r'=>?_) ?_
  ·
   obtain ⟨d0,_⟩:=hd;exact aB r' (v:=.func (.func nf) n1.toArray n2.toArray) d0 (keep hb' h1) to59 rfl ⟨Below.refl _ _,rfl⟩
  refine ec r (fun _ u _ b d s=>aD s rfl bz) ?_;refine cq r rfl (fun fr1 u w' hb' hd r'=>?_) ?_
  ·
   obtain ⟨d0,d1,_⟩:=hd;have zb:=hb'.size;have zb:w1.heap.size≤w'.heap.size:=zb;have hB':Below w0.heap.size w0 w':=hB.trans (Below.mono (w:=w1) ⟨hb'.os,hb'.tape,hb'.output,hb'.size,hb'.block⟩ hB.size);have d0:u 1=.func (.func nf) n1.toArray n2.toArray:=d0;have d1:u 2=.int .u64 x:=d1;refine dx r' (fs:=n1) (cs:=n2) d0 d1 hk.at_.1 ((hk.at_.2 n (Nat.lt_succ_self n) x w' (Same.below hB' hF) hB'.size).mono ?_);rintro _ w2 ⟨v,rfl,hb2,hr2⟩;refine ⟨v,rfl,hb2,bL.fP (fun b h=>Nat.lt_of_lt_of_le (hF b h) hB'.size) (by omega) hB'.size hb2 (Rep.mono ?_ (Same.refl _ _) (Nat.le_refl _) n _ _ hr2)⟩
   rintro b (h | h)
   · exact .inl (.inl h)
   · exact .inr h
  refine ec r (fun _ u _ b d s=>aB s rfl (keep b h2) pV rfl bz) ?_;exact bA
 intro fr u w2 hb hΦ _ r;obtain ⟨_,hr3,_,hr⟩:bL Tryz.prog ax n (k x) F w0.heap.size b3 (u 3) w2:=hΦ 3 (by decide);have r:=r.congr (sc (hΦ 4 (by decide)) rfl);have z2:=hb.size;have h1:=keep hb h1;have h2:=keep hb h2;have h3:=keep hb h3;have hB2:=hB.trans (hb.mono hB.size);have zB2:=hB2.size;have hF1:∀ b,(kW F w0 w2 b3) b→b<w2.heap.size:=by rintro b (h | h); exact Nat.lt_of_lt_of_le (hF b h) hB2.size; exact h.2.1
 refine kC r (ih (F:=fun b=>F b∨(w0.heap.size≤b∧b<w2.heap.size∧b≠b3)) hF1 hr (hg.mono (by omega) (fun b h=>.inl h) (Same.below hB2 hF) hB2.size)
  (.inr (hg.mono (Nat.le_refl _) (fun b h=>.inl h) (Same.below hB2 hF) hB2.size))) rfl ut rfl ?_
 rintro _ w3 ⟨v2,rfl,hb2,hr2⟩;refine ⟨_,rfl,fun fr r=>?_⟩
 have z3:=hb2.size;have h3:=keep hb2 h3;have hB3:=hB2.trans (hb2.mono hB2.size);refine kP r hr2.shape rfl rfl h3 ts84 rfl rfl fun w4 u4 r=>wn ?_;have z4:=u4.size
 have h3:=u4.at_;have hB4:=u4.below hB3 (by omega)
 refine wp_ret ?_;have hs:=hr2.shape.cells;refine aH r rfl rfl h3 (k:=8) hs.1 ta84 ?_;rw [←hs.2.2];exact av.fin hB4 hr2 u4 (by rintro b (h | ⟨h1,h2,_⟩); exact .inl h; exact .inr ⟨h1,h2⟩) (by rintro (h | ⟨_,_,h⟩); (have:=hF _ h; omega); exact h rfl) (by omega) (by omega) (by omega)
theorem wY (n:Nat):qE n:=by
  induction n using Nat.strongRecOn with
  | _ n ih=>
  intro F w0 hF t pv fv g hp hf hd;obtain ⟨ff,f1,f2,hcf,rfl,hff⟩:=id hf;cases t with
  | cut=>unfold Rep at hp; exact hp.elim
  | done x0=>
    have hf:=hd.resolve_left (by intro h; cases h)
    unfold Rep at hp
    subst hp;refine enter (l:=[.agg (ai true (ax.cells x0) 0 0 0 0 .nilFunc),.func (.func ff) f1.toArray f2.toArray]) Tryz.func250 rfl 15 rfl rfl fun fr r=>?_;have hB:=Below.refl w0.heap.size w0
    refine wp_seq (wp_region_lit ?_);refine kX 61 (.agg (ai true (ax.cells x0) 0 0 0 0 .nilFunc)) r rfl rfl fun b1 w1 q1 r=>?_;refine kX 257 (.func (.func ff) f1.toArray f2.toArray) r rfl rfl fun b2 w2 q2 r=>?_
    refine ar (.cells (ai false aj.zero 0 0 0 0 .nilFunc) 84 (0,0)) r (fun R=>aq tz84) rfl fun fr b3 w3 q3 r=>wpList_nil ?_;have h1:=keep q3.below (keep q2.below q1.at_)
    have h2:=keep q3.below q2.at_;have h3:=q3.at_;have e1:=q1.eq; have e2:=q2.eq; have e3:=q3.eq; have z1:=q1.size; have z2:=q2.size; have z3:=q3.size;have hB:=((hB.trans q1.below).trans (q2.below.mono (by omega))).trans (q3.below.mono (by omega))
    have zB:=hB.size;refine wp_seq (wp_seq (wp_region_lit (ae (zp b1) r (fun R=>aG r (o:=0) rfl iP) rfl fun fr r=>?_)));refine ae (.bool true) r (fun R=>aB r (v:=.bool true) rfl h1 to4 rfl) rfl fun fr r=>wpList_nil ?_
    refine wp_cond_split (t:=true) (r.ev rfl) (fun _=>?_) (fun h=>by cases h)
    refine wp_seq (wp_region_lit (ae (.func (.func ff) f1.toArray f2.toArray) r (fun R=>aB r (v:=.func (.func ff) f1.toArray f2.toArray) rfl h2 pV rfl) rfl fun fr r=>ae (.pointer (some ⟨b1,1,none⟩)) r (fun R=>aG r (o:=0) rfl pC) rfl fun fr r=>ae (.int .i64 x0) r (fun R=>aB r (v:=(.int .i64 x0)) rfl h1 to3 rfl) rfl fun fr r=>?_));refine cE r (hf.at_.2 n (Nat.lt_succ_self n) x0 w3 (Same.below hB hF) hB.size) (fun R hc=>ez r rfl rfl hf.at_.1 hc) rfl ?_
    rintro _ w4 ⟨v,rfl,hb,hr⟩;refine ⟨_,rfl,fun fr r=>?_⟩
    have z4:=hb.size;have h3:=keep hb h3;have hB:=hB.trans (hb.mono hB.size);refine kP r hr.shape rfl rfl h3 ts84 rfl rfl fun w5 u5 r=>wpList_nil ?_;have z5:=u5.size
    have h3:=u5.at_;have hB:=u5.below hB (by omega)
    refine wp_ret ?_;have hs:=hr.shape.cells;refine aH r rfl rfl h3 (k:=8) hs.1 ta84 ?_;rw [←hs.2.2];exact av.fin hB hr u5 (fun b hb=>.inl hb) (fun h=>by have:=hF _ h; omega) (by omega) (by omega) (by omega)
  | act op at_ a b k=>
    obtain ⟨nf,n1,n2,hcn,rfl,hk⟩:∃ (nf:FuncId) (n1 n2:List Value),ak Tryz.prog nf=true∧pv=.agg (ai false ax.zero op at_ a b (.func (.func nf) n1.toArray n2.toArray))∧FnT Tryz.prog ax u64 n F w0 (.func (.func nf) n1.toArray n2.toArray) k:=by
      exact Rep.dK hp
    refine enter (l:=[.agg (ai false ax.zero op at_ a b (.func (.func nf) n1.toArray n2.toArray)),.func (.func ff) f1.toArray f2.toArray]) Tryz.func250 rfl 15 rfl rfl fun fr r=>?_;have hB:=Below.refl w0.heap.size w0
    refine wp_seq (wp_region_lit ?_);refine kX 61 (.agg (ai false ax.zero op at_ a b (.func (.func nf) n1.toArray n2.toArray))) r rfl rfl fun b1 w1 q1 r=>?_;refine kX 257 (.func (.func ff) f1.toArray f2.toArray) r rfl rfl fun b2 w2 q2 r=>?_
    refine ar (.cells (ai false aj.zero 0 0 0 0 .nilFunc) 84 (0,0)) r (fun R=>aq tz84) rfl fun fr b3 w3 q3 r=>wpList_nil ?_;have h1:=keep q3.below (keep q2.below q1.at_)
    have h2:=keep q3.below q2.at_;have h3:=q3.at_;have e1:=q1.eq; have e2:=q2.eq; have e3:=q3.eq; have z1:=q1.size; have z2:=q2.size; have z3:=q3.size;have hB:=((hB.trans q1.below).trans (q2.below.mono (by omega))).trans (q3.below.mono (by omega))
    have zB:=hB.size;refine wp_seq (wp_seq (wp_region_lit (ae (zp b1) r (fun R=>aG r (o:=0) rfl iP) rfl fun fr r=>?_)));refine ae (.bool false) r (fun R=>aB r (v:=.bool false) rfl h1 to4 rfl) rfl fun fr r=>wpList_nil ?_
    refine wp_cond_split (t:=false) (r.ev rfl) (fun h=>by cases h) (fun _=>wp_skip ?_);refine wp_seq (wp_region_lit (ae (.pointer (some ⟨b1,2,none⟩)) r (fun R=>aG r (o:=0) rfl pF) rfl fun fr r=>kG (bb (⟨op,at_,a,b⟩:Access)) 4 r rfl h1 ta42 rfl rfl fun r=>ae (.func (.func 334) #[] #[zp b1,zp b2]) r (fun R=>aW r rfl) rfl fun fr r=>?_))
    have hF1:∀ b,(fun b=>F b∨b=b1∨b=b2) b→b<w3.heap.size:=by rintro b (h | h | h); exact Nat.lt_of_lt_of_le (hF b h) hB.size; omega; omega
    refine kC r (gj (F:=fun b=>F b∨b=b1∨b=b2) (n:=n) hF1 ⟨op,at_,a,b⟩ (a1:=fun x=>(k x).bind g) (show FnT Tryz.prog aj u64 n (fun b=>F b∨b=b1∨b=b2) w3 (.func (.func 334) ([]:List Value).toArray [zp b1,zp b2].toArray) (fun x=>(k x).bind g) from
      ⟨334,[],[zp b1,zp b2],BU,rfl,fun m hm x w' hs hz=>wX (ih m hm) (fun b hb=>Nat.lt_of_lt_of_le (hF1 b hb) hz) (.inr (.inl rfl)) (hs.at_ (.inr (.inl rfl)) h1) (.inr (.inr rfl)) (hs.at_ (.inr (.inr rfl)) h2)
        (hk.mono (by omega) (fun b h=>.inl h) ((Same.below hB hF).trans (hs.sub (fun b h=>.inl h))) (Nat.le_trans hB.size hz)) (hf.mono (by omega) (fun b h=>.inl h) ((Same.below hB hF).trans (hs.sub (fun b h=>.inl h))) (Nat.le_trans hB.size hz)) x⟩)) rfl gN rfl ?_
    rintro _ w4 ⟨v,rfl,hb,hr⟩;refine ⟨_,rfl,fun fr r=>?_⟩
    have z4:=hb.size;have h3:=keep hb h3;have hB:=hB.trans (hb.mono hB.size);refine kP r hr.shape rfl rfl h3 ts84 rfl rfl fun w5 u5 r=>wpList_nil ?_;have z5:=u5.size
    have h3:=u5.at_;have hB:=u5.below hB (by omega)
    refine wp_ret ?_;have hs:=hr.shape.cells;refine aH r rfl rfl h3 (k:=8) hs.1 ta84 ?_;rw [←hs.2.2];exact av.fin hB hr u5 (by rintro b (h | h | h); exact .inl h; exact .inr ⟨by omega,by omega⟩; exact .inr ⟨by omega,by omega⟩) (by rintro (h | h | h); (have:=hF _ h; omega); omega; omega) (by omega) (by omega) (by omega)
theorem wu (hF:kH F w0) {t:T (Int)} {pv fv:Value} {g:Int→T (Res)} (hp:Rep Tryz.prog ax n t F w0 pv) (hf:FnT Tryz.prog aj i64 (n+1) F w0 fv g) :
    Calls Tryz.prog 250 #[pv,fv] w0 (av Tryz.prog aj n (t.bind g) F w0):=wY n hF hp (hf.mono (by omega) (fun b h=>h) (Same.refl _ _) (Nat.le_refl _)) (.inr hf)
def qF (n:Nat):Prop:=∀ {F:Nat→Prop} {w0:World},(∀ b,F b→b<w0.heap.size)→∀ {t:T (Int)} {pv fv:Value} {g:Int→T (Int)},Rep Tryz.prog ax n t F w0 pv→FnT Tryz.prog ax i64 n F w0 fv g→
    (t.bn=false∨FnT Tryz.prog ax i64 (n+1) F w0 fv g)→Calls Tryz.prog 229 #[pv,fv] w0 (av Tryz.prog ax n (t.bind g) F w0)
theorem xb {n:Nat} (ih:qF n) {F:Nat→Prop} {w0:World} (hF:∀ b,F b→b<w0.heap.size) {op at_ a b:Int} {nf:FuncId} {n1 n2:List Value} {k:Int→T (Int)} {ff:FuncId} {f1 f2:List Value} {g:Int→T (Int)}
    {b1 b2:Nat} (F1:F b1) (h1:w0.heap[b1]?=some (.cells (ai false ax.zero op at_ a b (.func (.func nf) n1.toArray n2.toArray)) 61 (0,0))) (F2:F b2) (h2:w0.heap[b2]?=some (.cells #[.func (.func ff) f1.toArray f2.toArray] 291 (0,0)))
    (hk:FnT Tryz.prog ax u64 (n+1) F w0 (.func (.func nf) n1.toArray n2.toArray) k) (hg:FnT Tryz.prog ax i64 (n+1) F w0 (.func (.func ff) f1.toArray f2.toArray) g) (x:Int) :
    Calls Tryz.prog 325 #[.int .u64 x,zp b1,zp b2] w0 (av Tryz.prog ax n ((k x).bind g) F w0):=by
 refine enter Tryz.func325 rfl 11 rfl rfl fun fr r=>?_;have hB:=Below.refl w0.heap.size w0
 refine wp_seq (wp_region_lit ?_);refine ar (.cells (ai false ax.zero 0 0 0 0 .nilFunc) 61 (0,0)) r (fun R=>aq tz61) rfl fun fr b3 w1 q1 r=>wn ?_;have h1:=keep q1.below h1
 have h2:=keep q1.below h2;have e3:=q1.eq;have z1:=q1.size;have h3:=q1.at_;have hB:=hB.trans (q1.below.mono hB.size);have zB:=hB.size;refine wp_seq ?_;refine bw 5 [.val (.pointer (some ⟨b1,6,none⟩)),.val (.func (.func nf) n1.toArray n2.toArray),.val (U x),.pred (bL Tryz.prog ax n (k x) F w0.heap.size b3) bL.stable,.val (.func (.func ff) f1.toArray f2.toArray)] mixed r (by kernel_rfl) (ag trivial (ag trivial (ag trivial (ag trivial (ag trivial bv))))) ?_ ?_
 ·
  refine ec r (fun _ u _ b d s=>aG s (b:=b1) (o:=0) rfl pw bz) ?_;refine cq r rfl (fun fr1 u w' hb' hd r'=>?_) ?_
  ·
   obtain ⟨d0,_⟩:=hd;exact aB r' (v:=.func (.func nf) n1.toArray n2.toArray) d0 (keep hb' h1) to59 rfl ⟨Below.refl _ _,rfl⟩
  refine ec r (fun _ u _ b d s=>aD s rfl bz) ?_;refine cq r rfl (fun fr1 u w' hb' hd r'=>?_) ?_
  ·
   obtain ⟨d0,d1,_⟩:=hd;have zb:=hb'.size;have zb:w1.heap.size≤w'.heap.size:=zb;have hB':Below w0.heap.size w0 w':=hB.trans (Below.mono (w:=w1) ⟨hb'.os,hb'.tape,hb'.output,hb'.size,hb'.block⟩ hB.size);have d0:u 1=.func (.func nf) n1.toArray n2.toArray:=d0;have d1:u 2=.int .u64 x:=d1;refine dx r' (fs:=n1) (cs:=n2) d0 d1 hk.at_.1 ((hk.at_.2 n (Nat.lt_succ_self n) x w' (Same.below hB' hF) hB'.size).mono ?_);rintro _ w2 ⟨v,rfl,hb2,hr2⟩;refine ⟨v,rfl,hb2,bL.fP (fun b h=>Nat.lt_of_lt_of_le (hF b h) hB'.size) (by omega) hB'.size hb2 (Rep.mono ?_ (Same.refl _ _) (Nat.le_refl _) n _ _ hr2)⟩
   rintro b (h | h)
   · exact .inl (.inl h)
   · exact .inr h
  refine ec r (fun _ u _ b d s=>aB s rfl (keep b h2) qt rfl bz) ?_;exact bA
 intro fr u w2 hb hΦ _ r;obtain ⟨_,hr3,_,hr⟩:bL Tryz.prog ax n (k x) F w0.heap.size b3 (u 3) w2:=hΦ 3 (by decide);have r:=r.congr (sc (hΦ 4 (by decide)) rfl);have z2:=hb.size;have h1:=keep hb h1;have h2:=keep hb h2;have h3:=keep hb h3;have hB2:=hB.trans (hb.mono hB.size);have zB2:=hB2.size;have hF1:∀ b,(kW F w0 w2 b3) b→b<w2.heap.size:=by rintro b (h | h); exact Nat.lt_of_lt_of_le (hF b h) hB2.size; exact h.2.1
 refine kC r (ih (F:=fun b=>F b∨(w0.heap.size≤b∧b<w2.heap.size∧b≠b3)) hF1 hr (hg.mono (by omega) (fun b h=>.inl h) (Same.below hB2 hF) hB2.size)
  (.inr (hg.mono (Nat.le_refl _) (fun b h=>.inl h) (Same.below hB2 hF) hB2.size))) rfl jV rfl ?_
 rintro _ w3 ⟨v2,rfl,hb2,hr2⟩;refine ⟨_,rfl,fun fr r=>?_⟩
 have z3:=hb2.size;have h3:=keep hb2 h3;have hB3:=hB2.trans (hb2.mono hB2.size);refine kP r hr2.shape rfl rfl h3 ts61 rfl rfl fun w4 u4 r=>wn ?_;have z4:=u4.size
 have h3:=u4.at_;have hB4:=u4.below hB3 (by omega)
 refine wp_ret ?_;have hs:=hr2.shape.cells;refine aH r rfl rfl h3 (k:=7) hs.1 ta61 ?_;rw [←hs.2.2];exact av.fin hB4 hr2 u4 (by rintro b (h | ⟨h1,h2,_⟩); exact .inl h; exact .inr ⟨h1,h2⟩) (by rintro (h | ⟨_,_,h⟩); (have:=hF _ h; omega); exact h rfl) (by omega) (by omega) (by omega)
theorem qM (n:Nat):qF n:=by
  induction n using Nat.strongRecOn with
  | _ n ih=>
  intro F w0 hF t pv fv g hp hf hd;obtain ⟨ff,f1,f2,hcf,rfl,hff⟩:=id hf;cases t with
  | cut=>unfold Rep at hp; exact hp.elim
  | done x0=>
    have hf:=hd.resolve_left (by intro h; cases h)
    unfold Rep at hp
    subst hp;refine enter (l:=[.agg (ai true (ax.cells x0) 0 0 0 0 .nilFunc),.func (.func ff) f1.toArray f2.toArray]) Tryz.func229 rfl 15 rfl rfl fun fr r=>?_;have hB:=Below.refl w0.heap.size w0
    refine wp_seq (wp_region_lit ?_);refine kX 61 (.agg (ai true (ax.cells x0) 0 0 0 0 .nilFunc)) r rfl rfl fun b1 w1 q1 r=>?_;refine kX 291 (.func (.func ff) f1.toArray f2.toArray) r rfl rfl fun b2 w2 q2 r=>?_
    refine ar (.cells (ai false ax.zero 0 0 0 0 .nilFunc) 61 (0,0)) r (fun R=>aq tz61) rfl fun fr b3 w3 q3 r=>wpList_nil ?_;have h1:=keep q3.below (keep q2.below q1.at_)
    have h2:=keep q3.below q2.at_;have h3:=q3.at_;have e1:=q1.eq; have e2:=q2.eq; have e3:=q3.eq; have z1:=q1.size; have z2:=q2.size; have z3:=q3.size;have hB:=((hB.trans q1.below).trans (q2.below.mono (by omega))).trans (q3.below.mono (by omega))
    have zB:=hB.size;refine wp_seq (wp_seq (wp_region_lit (ae (zp b1) r (fun R=>aG r (o:=0) rfl iP) rfl fun fr r=>?_)));refine ae (.bool true) r (fun R=>aB r (v:=.bool true) rfl h1 to4 rfl) rfl fun fr r=>wpList_nil ?_
    refine wp_cond_split (t:=true) (r.ev rfl) (fun _=>?_) (fun h=>by cases h)
    refine wp_seq (wp_region_lit (ae (.func (.func ff) f1.toArray f2.toArray) r (fun R=>aB r (v:=.func (.func ff) f1.toArray f2.toArray) rfl h2 qt rfl) rfl fun fr r=>ae (.pointer (some ⟨b1,1,none⟩)) r (fun R=>aG r (o:=0) rfl pC) rfl fun fr r=>ae (.int .i64 x0) r (fun R=>aB r (v:=(.int .i64 x0)) rfl h1 to3 rfl) rfl fun fr r=>?_));refine cE r (hf.at_.2 n (Nat.lt_succ_self n) x0 w3 (Same.below hB hF) hB.size) (fun R hc=>ez r rfl rfl hf.at_.1 hc) rfl ?_
    rintro _ w4 ⟨v,rfl,hb,hr⟩;refine ⟨_,rfl,fun fr r=>?_⟩
    have z4:=hb.size;have h3:=keep hb h3;have hB:=hB.trans (hb.mono hB.size);refine kP r hr.shape rfl rfl h3 ts61 rfl rfl fun w5 u5 r=>wpList_nil ?_;have z5:=u5.size
    have h3:=u5.at_;have hB:=u5.below hB (by omega)
    refine wp_ret ?_;have hs:=hr.shape.cells;refine aH r rfl rfl h3 (k:=7) hs.1 ta61 ?_;rw [←hs.2.2];exact av.fin hB hr u5 (fun b hb=>.inl hb) (fun h=>by have:=hF _ h; omega) (by omega) (by omega) (by omega)
  | act op at_ a b k=>
    obtain ⟨nf,n1,n2,hcn,rfl,hk⟩:∃ (nf:FuncId) (n1 n2:List Value),ak Tryz.prog nf=true∧pv=.agg (ai false ax.zero op at_ a b (.func (.func nf) n1.toArray n2.toArray))∧FnT Tryz.prog ax u64 n F w0 (.func (.func nf) n1.toArray n2.toArray) k:=by
      exact Rep.dK hp
    refine enter (l:=[.agg (ai false ax.zero op at_ a b (.func (.func nf) n1.toArray n2.toArray)),.func (.func ff) f1.toArray f2.toArray]) Tryz.func229 rfl 15 rfl rfl fun fr r=>?_;have hB:=Below.refl w0.heap.size w0
    refine wp_seq (wp_region_lit ?_);refine kX 61 (.agg (ai false ax.zero op at_ a b (.func (.func nf) n1.toArray n2.toArray))) r rfl rfl fun b1 w1 q1 r=>?_;refine kX 291 (.func (.func ff) f1.toArray f2.toArray) r rfl rfl fun b2 w2 q2 r=>?_
    refine ar (.cells (ai false ax.zero 0 0 0 0 .nilFunc) 61 (0,0)) r (fun R=>aq tz61) rfl fun fr b3 w3 q3 r=>wpList_nil ?_;have h1:=keep q3.below (keep q2.below q1.at_)
    have h2:=keep q3.below q2.at_;have h3:=q3.at_;have e1:=q1.eq; have e2:=q2.eq; have e3:=q3.eq; have z1:=q1.size; have z2:=q2.size; have z3:=q3.size;have hB:=((hB.trans q1.below).trans (q2.below.mono (by omega))).trans (q3.below.mono (by omega))
    have zB:=hB.size;refine wp_seq (wp_seq (wp_region_lit (ae (zp b1) r (fun R=>aG r (o:=0) rfl iP) rfl fun fr r=>?_)));refine ae (.bool false) r (fun R=>aB r (v:=.bool false) rfl h1 to4 rfl) rfl fun fr r=>wpList_nil ?_
    refine wp_cond_split (t:=false) (r.ev rfl) (fun h=>by cases h) (fun _=>wp_skip ?_);refine wp_seq (wp_region_lit (ae (.pointer (some ⟨b1,2,none⟩)) r (fun R=>aG r (o:=0) rfl pF) rfl fun fr r=>kG (bb (⟨op,at_,a,b⟩:Access)) 4 r rfl h1 ta42 rfl rfl fun r=>ae (.func (.func 325) #[] #[zp b1,zp b2]) r (fun R=>aW r rfl) rfl fun fr r=>?_))
    have hF1:∀ b,(fun b=>F b∨b=b1∨b=b2) b→b<w3.heap.size:=by rintro b (h | h | h); exact Nat.lt_of_lt_of_le (hF b h) hB.size; omega; omega
    refine kC r (jm (F:=fun b=>F b∨b=b1∨b=b2) (n:=n) hF1 ⟨op,at_,a,b⟩ (a1:=fun x=>(k x).bind g) (show FnT Tryz.prog ax u64 n (fun b=>F b∨b=b1∨b=b2) w3 (.func (.func 325) ([]:List Value).toArray [zp b1,zp b2].toArray) (fun x=>(k x).bind g) from
      ⟨325,[],[zp b1,zp b2],BL,rfl,fun m hm x w' hs hz=>xb (ih m hm) (fun b hb=>Nat.lt_of_lt_of_le (hF1 b hb) hz) (.inr (.inl rfl)) (hs.at_ (.inr (.inl rfl)) h1) (.inr (.inr rfl)) (hs.at_ (.inr (.inr rfl)) h2)
        (hk.mono (by omega) (fun b h=>.inl h) ((Same.below hB hF).trans (hs.sub (fun b h=>.inl h))) (Nat.le_trans hB.size hz)) (hf.mono (by omega) (fun b h=>.inl h) ((Same.below hB hF).trans (hs.sub (fun b h=>.inl h))) (Nat.le_trans hB.size hz)) x⟩)) rfl jZ rfl ?_
    rintro _ w4 ⟨v,rfl,hb,hr⟩;refine ⟨_,rfl,fun fr r=>?_⟩
    have z4:=hb.size;have h3:=keep hb h3;have hB:=hB.trans (hb.mono hB.size);refine kP r hr.shape rfl rfl h3 ts61 rfl rfl fun w5 u5 r=>wpList_nil ?_;have z5:=u5.size
    have h3:=u5.at_;have hB:=u5.below hB (by omega)
    refine wp_ret ?_;have hs:=hr.shape.cells;refine aH r rfl rfl h3 (k:=7) hs.1 ta61 ?_;rw [←hs.2.2];exact av.fin hB hr u5 (by rintro b (h | h | h); exact .inl h; exact .inr ⟨by omega,by omega⟩; exact .inr ⟨by omega,by omega⟩) (by rintro (h | h | h); (have:=hF _ h; omega); omega; omega) (by omega) (by omega) (by omega)
theorem wo (hF:kH F w0) {t:T (Int)} {pv fv:Value} {g:Int→T (Int)} (hp:Rep Tryz.prog ax n t F w0 pv) (hf:FnT Tryz.prog ax i64 n F w0 fv g) (hd:t.bn=false) :
    Calls Tryz.prog 229 #[pv,fv] w0 (av Tryz.prog ax n (t.bind g) F w0):=qM n hF hp hf (.inl hd)
theorem mX (hF:kH F w0) {t:T (Int)} {pv fv:Value} {g:Int→T (Int)} (hp:Rep Tryz.prog ax n t F w0 pv) (hf:FnT Tryz.prog ax i64 (n+1) F w0 fv g) :
    Calls Tryz.prog 229 #[pv,fv] w0 (av Tryz.prog ax n (t.bind g) F w0):=qM n hF hp (hf.mono (by omega) (fun b h=>h) (Same.refl _ _) (Nat.le_refl _)) (.inr hf)
def qy (n:Nat):Prop:=∀ {F:Nat→Prop} {w0:World},(∀ b,F b→b<w0.heap.size)→∀ {t:T (Int)} {pv fv:Value} {g:Int→T (Res)},Rep Tryz.prog bD n t F w0 pv→FnT Tryz.prog aj u64 n F w0 fv g→
    (t.bn=false∨FnT Tryz.prog aj u64 (n+1) F w0 fv g)→Calls Tryz.prog 265 #[pv,fv] w0 (av Tryz.prog aj n (t.bind g) F w0)
theorem wk {n:Nat} (ih:qy n) {F:Nat→Prop} {w0:World} (hF:∀ b,F b→b<w0.heap.size) {op at_ a b:Int} {nf:FuncId} {n1 n2:List Value} {k:Int→T (Int)} {ff:FuncId} {f1 f2:List Value} {g:Int→T (Res)}
    {b1 b2:Nat} (F1:F b1) (h1:w0.heap[b1]?=some (.cells (ai false bD.zero op at_ a b (.func (.func nf) n1.toArray n2.toArray)) 319 (0,0))) (F2:F b2) (h2:w0.heap[b2]?=some (.cells #[.func (.func ff) f1.toArray f2.toArray] 82 (0,0)))
    (hk:FnT Tryz.prog bD u64 (n+1) F w0 (.func (.func nf) n1.toArray n2.toArray) k) (hg:FnT Tryz.prog aj u64 (n+1) F w0 (.func (.func ff) f1.toArray f2.toArray) g) (x:Int) :
    Calls Tryz.prog 343 #[.int .u64 x,zp b1,zp b2] w0 (av Tryz.prog aj n ((k x).bind g) F w0):=by
 refine enter Tryz.func343 rfl 11 rfl rfl fun fr r=>?_;have hB:=Below.refl w0.heap.size w0
 refine wp_seq (wp_region_lit ?_);refine ar (.cells (ai false aj.zero 0 0 0 0 .nilFunc) 84 (0,0)) r (fun R=>aq tz84) rfl fun fr b3 w1 q1 r=>wn ?_;have h1:=keep q1.below h1
 have h2:=keep q1.below h2;have e3:=q1.eq;have z1:=q1.size;have h3:=q1.at_;have hB:=hB.trans (q1.below.mono hB.size);have zB:=hB.size;refine wp_seq ?_;refine bw 5 [.val (.pointer (some ⟨b1,6,none⟩)),.val (.func (.func nf) n1.toArray n2.toArray),.val (U x),.pred (bL Tryz.prog bD n (k x) F w0.heap.size b3) bL.stable,.val (.func (.func ff) f1.toArray f2.toArray)] mixed r (by kernel_rfl) (ag trivial (ag trivial (ag trivial (ag trivial (ag trivial bv))))) ?_ ?_
 ·
  refine ec r (fun _ u _ b d s=>aG s (b:=b1) (o:=0) rfl AY bz) ?_;refine cq r rfl (fun fr1 u w' hb' hd r'=>?_) ?_
  ·
   obtain ⟨d0,_⟩:=hd;exact aB r' (v:=.func (.func nf) n1.toArray n2.toArray) d0 (keep hb' h1) BQ rfl ⟨Below.refl _ _,rfl⟩
  refine ec r (fun _ u _ b d s=>aD s rfl bz) ?_;refine cq r rfl (fun fr1 u w' hb' hd r'=>?_) ?_
  ·
   obtain ⟨d0,d1,_⟩:=hd;have zb:=hb'.size;have zb:w1.heap.size≤w'.heap.size:=zb;have hB':Below w0.heap.size w0 w':=hB.trans (Below.mono (w:=w1) ⟨hb'.os,hb'.tape,hb'.output,hb'.size,hb'.block⟩ hB.size);have d0:u 1=.func (.func nf) n1.toArray n2.toArray:=d0;have d1:u 2=.int .u64 x:=d1;refine dx r' (fs:=n1) (cs:=n2) d0 d1 hk.at_.1 ((hk.at_.2 n (Nat.lt_succ_self n) x w' (Same.below hB' hF) hB'.size).mono ?_);rintro _ w2 ⟨v,rfl,hb2,hr2⟩;refine ⟨v,rfl,hb2,bL.fP (fun b h=>Nat.lt_of_lt_of_le (hF b h) hB'.size) (by omega) hB'.size hb2 (Rep.mono ?_ (Same.refl _ _) (Nat.le_refl _) n _ _ hr2)⟩
   rintro b (h | h)
   · exact .inl (.inl h)
   · exact .inr h
  refine ec r (fun _ u _ b d s=>aB s rfl (keep b h2) to82 rfl bz) ?_;exact bA
 intro fr u w2 hb hΦ _ r;obtain ⟨_,hr3,_,hr⟩:bL Tryz.prog bD n (k x) F w0.heap.size b3 (u 3) w2:=hΦ 3 (by decide);have r:=r.congr (sc (hΦ 4 (by decide)) rfl);have z2:=hb.size;have h1:=keep hb h1;have h2:=keep hb h2;have h3:=keep hb h3;have hB2:=hB.trans (hb.mono hB.size);have zB2:=hB2.size;have hF1:∀ b,(kW F w0 w2 b3) b→b<w2.heap.size:=by rintro b (h | h); exact Nat.lt_of_lt_of_le (hF b h) hB2.size; exact h.2.1
 refine kC r (ih (F:=fun b=>F b∨(w0.heap.size≤b∧b<w2.heap.size∧b≠b3)) hF1 hr (hg.mono (by omega) (fun b h=>.inl h) (Same.below hB2 hF) hB2.size)
  (.inr (hg.mono (Nat.le_refl _) (fun b h=>.inl h) (Same.below hB2 hF) hB2.size))) rfl pM rfl ?_
 rintro _ w3 ⟨v2,rfl,hb2,hr2⟩;refine ⟨_,rfl,fun fr r=>?_⟩
 have z3:=hb2.size;have h3:=keep hb2 h3;have hB3:=hB2.trans (hb2.mono hB2.size);refine kP r hr2.shape rfl rfl h3 ts84 rfl rfl fun w4 u4 r=>wn ?_;have z4:=u4.size
 have h3:=u4.at_;have hB4:=u4.below hB3 (by omega)
 refine wp_ret ?_;have hs:=hr2.shape.cells;refine aH r rfl rfl h3 (k:=8) hs.1 ta84 ?_;rw [←hs.2.2];exact av.fin hB4 hr2 u4 (by rintro b (h | ⟨h1,h2,_⟩); exact .inl h; exact .inr ⟨h1,h2⟩) (by rintro (h | ⟨_,_,h⟩); (have:=hF _ h; omega); exact h rfl) (by omega) (by omega) (by omega)
theorem wy (n:Nat):qy n:=by
  induction n using Nat.strongRecOn with
  | _ n ih=>
  intro F w0 hF t pv fv g hp hf hd;obtain ⟨ff,f1,f2,hcf,rfl,hff⟩:=id hf;cases t with
  | cut=>unfold Rep at hp; exact hp.elim
  | done x0=>
    have hf:=hd.resolve_left (by intro h; cases h)
    unfold Rep at hp
    subst hp;refine enter (l:=[.agg (ai true (bD.cells x0) 0 0 0 0 .nilFunc),.func (.func ff) f1.toArray f2.toArray]) Tryz.func265 rfl 15 rfl rfl fun fr r=>?_;have hB:=Below.refl w0.heap.size w0
    refine wp_seq (wp_region_lit ?_);refine kX 319 (.agg (ai true (bD.cells x0) 0 0 0 0 .nilFunc)) r rfl rfl fun b1 w1 q1 r=>?_;refine kX 82 (.func (.func ff) f1.toArray f2.toArray) r rfl rfl fun b2 w2 q2 r=>?_
    refine ar (.cells (ai false aj.zero 0 0 0 0 .nilFunc) 84 (0,0)) r (fun R=>aq tz84) rfl fun fr b3 w3 q3 r=>wpList_nil ?_;have h1:=keep q3.below (keep q2.below q1.at_)
    have h2:=keep q3.below q2.at_;have h3:=q3.at_;have e1:=q1.eq; have e2:=q2.eq; have e3:=q3.eq; have z1:=q1.size; have z2:=q2.size; have z3:=q3.size;have hB:=((hB.trans q1.below).trans (q2.below.mono (by omega))).trans (q3.below.mono (by omega))
    have zB:=hB.size;refine wp_seq (wp_seq (wp_region_lit (ae (zp b1) r (fun R=>aG r (o:=0) rfl tJ) rfl fun fr r=>?_)));refine ae (.bool true) r (fun R=>aB r (v:=.bool true) rfl h1 to4 rfl) rfl fun fr r=>wpList_nil ?_
    refine wp_cond_split (t:=true) (r.ev rfl) (fun _=>?_) (fun h=>by cases h)
    refine wp_seq (wp_region_lit (ae (.func (.func ff) f1.toArray f2.toArray) r (fun R=>aB r (v:=.func (.func ff) f1.toArray f2.toArray) rfl h2 to82 rfl) rfl fun fr r=>ae (.pointer (some ⟨b1,1,none⟩)) r (fun R=>aG r (o:=0) rfl AH) rfl fun fr r=>ae (.int .u64 x0) r (fun R=>aB r (v:=(.int .u64 x0)) rfl h1 to40 rfl) rfl fun fr r=>?_));refine cE r (hf.at_.2 n (Nat.lt_succ_self n) x0 w3 (Same.below hB hF) hB.size) (fun R hc=>ez r rfl rfl hf.at_.1 hc) rfl ?_
    rintro _ w4 ⟨v,rfl,hb,hr⟩;refine ⟨_,rfl,fun fr r=>?_⟩
    have z4:=hb.size;have h3:=keep hb h3;have hB:=hB.trans (hb.mono hB.size);refine kP r hr.shape rfl rfl h3 ts84 rfl rfl fun w5 u5 r=>wpList_nil ?_;have z5:=u5.size
    have h3:=u5.at_;have hB:=u5.below hB (by omega)
    refine wp_ret ?_;have hs:=hr.shape.cells;refine aH r rfl rfl h3 (k:=8) hs.1 ta84 ?_;rw [←hs.2.2];exact av.fin hB hr u5 (fun b hb=>.inl hb) (fun h=>by have:=hF _ h; omega) (by omega) (by omega) (by omega)
  | act op at_ a b k=>
    obtain ⟨nf,n1,n2,hcn,rfl,hk⟩:∃ (nf:FuncId) (n1 n2:List Value),ak Tryz.prog nf=true∧pv=.agg (ai false bD.zero op at_ a b (.func (.func nf) n1.toArray n2.toArray))∧FnT Tryz.prog bD u64 n F w0 (.func (.func nf) n1.toArray n2.toArray) k:=by
      exact Rep.dK hp
    refine enter (l:=[.agg (ai false bD.zero op at_ a b (.func (.func nf) n1.toArray n2.toArray)),.func (.func ff) f1.toArray f2.toArray]) Tryz.func265 rfl 15 rfl rfl fun fr r=>?_;have hB:=Below.refl w0.heap.size w0
    refine wp_seq (wp_region_lit ?_);refine kX 319 (.agg (ai false bD.zero op at_ a b (.func (.func nf) n1.toArray n2.toArray))) r rfl rfl fun b1 w1 q1 r=>?_;refine kX 82 (.func (.func ff) f1.toArray f2.toArray) r rfl rfl fun b2 w2 q2 r=>?_
    refine ar (.cells (ai false aj.zero 0 0 0 0 .nilFunc) 84 (0,0)) r (fun R=>aq tz84) rfl fun fr b3 w3 q3 r=>wpList_nil ?_;have h1:=keep q3.below (keep q2.below q1.at_)
    have h2:=keep q3.below q2.at_;have h3:=q3.at_;have e1:=q1.eq; have e2:=q2.eq; have e3:=q3.eq; have z1:=q1.size; have z2:=q2.size; have z3:=q3.size;have hB:=((hB.trans q1.below).trans (q2.below.mono (by omega))).trans (q3.below.mono (by omega))
    have zB:=hB.size;refine wp_seq (wp_seq (wp_region_lit (ae (zp b1) r (fun R=>aG r (o:=0) rfl tJ) rfl fun fr r=>?_)));refine ae (.bool false) r (fun R=>aB r (v:=.bool false) rfl h1 to4 rfl) rfl fun fr r=>wpList_nil ?_
    refine wp_cond_split (t:=false) (r.ev rfl) (fun h=>by cases h) (fun _=>wp_skip ?_);refine wp_seq (wp_region_lit (ae (.pointer (some ⟨b1,2,none⟩)) r (fun R=>aG r (o:=0) rfl Bd) rfl fun fr r=>kG (bb (⟨op,at_,a,b⟩:Access)) 4 r rfl h1 ta42 rfl rfl fun r=>ae (.func (.func 343) #[] #[zp b1,zp b2]) r (fun R=>aW r rfl) rfl fun fr r=>?_))
    have hF1:∀ b,(fun b=>F b∨b=b1∨b=b2) b→b<w3.heap.size:=by rintro b (h | h | h); exact Nat.lt_of_lt_of_le (hF b h) hB.size; omega; omega
    refine kC r (gj (F:=fun b=>F b∨b=b1∨b=b2) (n:=n) hF1 ⟨op,at_,a,b⟩ (a1:=fun x=>(k x).bind g) (show FnT Tryz.prog aj u64 n (fun b=>F b∨b=b1∨b=b2) w3 (.func (.func 343) ([]:List Value).toArray [zp b1,zp b2].toArray) (fun x=>(k x).bind g) from
      ⟨343,[],[zp b1,zp b2],CN,rfl,fun m hm x w' hs hz=>wk (ih m hm) (fun b hb=>Nat.lt_of_lt_of_le (hF1 b hb) hz) (.inr (.inl rfl)) (hs.at_ (.inr (.inl rfl)) h1) (.inr (.inr rfl)) (hs.at_ (.inr (.inr rfl)) h2)
        (hk.mono (by omega) (fun b h=>.inl h) ((Same.below hB hF).trans (hs.sub (fun b h=>.inl h))) (Nat.le_trans hB.size hz)) (hf.mono (by omega) (fun b h=>.inl h) ((Same.below hB hF).trans (hs.sub (fun b h=>.inl h))) (Nat.le_trans hB.size hz)) x⟩)) rfl gN rfl ?_
    rintro _ w4 ⟨v,rfl,hb,hr⟩;refine ⟨_,rfl,fun fr r=>?_⟩
    have z4:=hb.size;have h3:=keep hb h3;have hB:=hB.trans (hb.mono hB.size);refine kP r hr.shape rfl rfl h3 ts84 rfl rfl fun w5 u5 r=>wpList_nil ?_;have z5:=u5.size
    have h3:=u5.at_;have hB:=u5.below hB (by omega)
    refine wp_ret ?_;have hs:=hr.shape.cells;refine aH r rfl rfl h3 (k:=8) hs.1 ta84 ?_;rw [←hs.2.2];exact av.fin hB hr u5 (by rintro b (h | h | h); exact .inl h; exact .inr ⟨by omega,by omega⟩; exact .inr ⟨by omega,by omega⟩) (by rintro (h | h | h); (have:=hF _ h; omega); omega; omega) (by omega) (by omega) (by omega)
theorem qw (hF:kH F w0) {t:T (Int)} {pv fv:Value} {g:Int→T (Res)} (hp:Rep Tryz.prog bD n t F w0 pv) (hf:FnT Tryz.prog aj u64 (n+1) F w0 fv g) :
    Calls Tryz.prog 265 #[pv,fv] w0 (av Tryz.prog aj n (t.bind g) F w0):=wy n hF hp (hf.mono (by omega) (fun b h=>h) (Same.refl _ _) (Nat.le_refl _)) (.inr hf)
end
end Go.Proofs.YtfpgnmhcfkikkaaGreat

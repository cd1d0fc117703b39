/- Ours. -/
import Derived.Test.YtbbipmelhmgmfaaGreatTcM7
import Derived.Test.YtbbipmelhmgmfaaGreatTcMems
set_option linter.all false
set_option maxRecDepth 100000
set_option maxHeartbeats 20000000
namespace Go.Proofs.YtbbipmelhmgmfaaGreat
open Go.RowKit
section
variable {n : Nat} {F : Nat → Prop} {j : Nat} {w0 : World}
theorem cl130:callable Tryz.prog 130:=by kernel_rfl
theorem cl140:callable Tryz.prog 140:=by kernel_rfl
theorem cl177:callable Tryz.prog 177:=by kernel_rfl
theorem cl181:callable Tryz.prog 181:=by kernel_rfl
theorem cl215:callable Tryz.prog 215:=by kernel_rfl
theorem cl220:callable Tryz.prog 220:=by kernel_rfl
theorem cl223:callable Tryz.prog 223:=by kernel_rfl
theorem cl228:callable Tryz.prog 228:=by kernel_rfl
theorem cl274:callable Tryz.prog 274:=by kernel_rfl
theorem cl275:callable Tryz.prog 275:=by kernel_rfl
theorem cl283:callable Tryz.prog 283:=by kernel_rfl
theorem cl293:callable Tryz.prog 293:=by kernel_rfl
theorem cl297:callable Tryz.prog 297:=by kernel_rfl
theorem cl301:callable Tryz.prog 301:=by kernel_rfl
theorem cl348:callable Tryz.prog 348:=by kernel_rfl
theorem cl352:callable Tryz.prog 352:=by kernel_rfl
theorem cl358:callable Tryz.prog 358:=by kernel_rfl
theorem cl360:callable Tryz.prog 360:=by kernel_rfl
theorem cl379:callable Tryz.prog 379:=by kernel_rfl
theorem cl385:callable Tryz.prog 385:=by kernel_rfl
theorem cl386:callable Tryz.prog 386:=by kernel_rfl
theorem fo116_0:fieldOff Tryz.prog 116 0 0:=by kernel_rfl
theorem fo116_1:fieldOff Tryz.prog 116 1 1:=by kernel_rfl
theorem fo116_2:fieldOff Tryz.prog 116 2 4:=by kernel_rfl
theorem fo116_3:fieldOff Tryz.prog 116 3 8:=by kernel_rfl
theorem fo119_0:fieldOff Tryz.prog 119 0 0:=by kernel_rfl
theorem fo119_1:fieldOff Tryz.prog 119 1 1:=by kernel_rfl
theorem fo119_2:fieldOff Tryz.prog 119 2 2:=by kernel_rfl
theorem fo119_3:fieldOff Tryz.prog 119 3 6:=by kernel_rfl
theorem fo133_0:fieldOff Tryz.prog 133 0 0:=by kernel_rfl
theorem fo133_2:fieldOff Tryz.prog 133 2 1:=by kernel_rfl
theorem fo133_3:fieldOff Tryz.prog 133 3 5:=by kernel_rfl
theorem fo271_0:fieldOff Tryz.prog 271 0 0:=by kernel_rfl
theorem fo271_1:fieldOff Tryz.prog 271 1 1:=by kernel_rfl
theorem fo271_2:fieldOff Tryz.prog 271 2 2:=by kernel_rfl
theorem fo271_3:fieldOff Tryz.prog 271 3 6:=by kernel_rfl
theorem fo318_0:fieldOff Tryz.prog 318 0 0:=by kernel_rfl
theorem fo318_1:fieldOff Tryz.prog 318 1 1:=by kernel_rfl
theorem fo318_2:fieldOff Tryz.prog 318 2 2:=by kernel_rfl
theorem fo318_3:fieldOff Tryz.prog 318 3 6:=by kernel_rfl
theorem fo41_0:fieldOff Tryz.prog 41 0 0:=by kernel_rfl
theorem fo41_1:fieldOff Tryz.prog 41 1 1:=by kernel_rfl
theorem fo41_2:fieldOff Tryz.prog 41 2 3:=by kernel_rfl
theorem fo41_3:fieldOff Tryz.prog 41 3 7:=by kernel_rfl
theorem fz133:fieldZ Tryz.prog 133 1 1:=by kernel_rfl
theorem ta113:tyA Tryz.prog 113 3:=by kernel_rfl
theorem ta116:tyA Tryz.prog 116 9:=by kernel_rfl
theorem ta119:tyA Tryz.prog 119 7:=by kernel_rfl
theorem ta128:tyA Tryz.prog 128 0:=by kernel_rfl
theorem ta133:tyA Tryz.prog 133 6:=by kernel_rfl
theorem ta271:tyA Tryz.prog 271 7:=by kernel_rfl
theorem ta318:tyA Tryz.prog 318 7:=by kernel_rfl
theorem ta36:tyA Tryz.prog 36 2:=by kernel_rfl
theorem ta38:tyA Tryz.prog 38 4:=by kernel_rfl
theorem ta41:tyA Tryz.prog 41 8:=by kernel_rfl
theorem to114:tyO Tryz.prog 114:=by kernel_rfl
theorem to117:tyO Tryz.prog 117:=by kernel_rfl
theorem to131:tyO Tryz.prog 131:=by kernel_rfl
theorem to207:tyO Tryz.prog 207:=by kernel_rfl
theorem to213:tyO Tryz.prog 213:=by kernel_rfl
theorem to233:tyO Tryz.prog 233:=by kernel_rfl
theorem to261:tyO Tryz.prog 261:=by kernel_rfl
theorem to265:tyO Tryz.prog 265:=by kernel_rfl
theorem to269:tyO Tryz.prog 269:=by kernel_rfl
theorem to290:tyO Tryz.prog 290:=by kernel_rfl
theorem to296:tyO Tryz.prog 296:=by kernel_rfl
theorem to316:tyO Tryz.prog 316:=by kernel_rfl
theorem to324:tyO Tryz.prog 324:=by kernel_rfl
theorem to39:tyO Tryz.prog 39:=by kernel_rfl
theorem to4:tyO Tryz.prog 4:=by kernel_rfl
theorem ts116:sized Tryz.prog 116 9:=by kernel_rfl
theorem ts119:sized Tryz.prog 119 7:=by kernel_rfl
theorem ts133:sized Tryz.prog 133 6:=by kernel_rfl
theorem ts271:sized Tryz.prog 271 7:=by kernel_rfl
theorem ts318:sized Tryz.prog 318 7:=by kernel_rfl
theorem ts41:sized Tryz.prog 41 8:=by kernel_rfl
theorem tz116:zeroOf Tryz.prog 116=some (.agg (kq encGrant)):=by kernel_rfl
theorem tz119:zeroOf Tryz.prog 119=some (.agg (kq encInt)):=by kernel_rfl
theorem tz133:zeroOf Tryz.prog 133=some (.agg (kq encNone)):=by kernel_rfl
theorem tz271:zeroOf Tryz.prog 271=some (.agg (kq encWord)):=by kernel_rfl
theorem tz318:zeroOf Tryz.prog 318=some (.agg (kq encBool)):=by kernel_rfl
theorem tz41:zeroOf Tryz.prog 41=some (.agg (kq encRes)):=by kernel_rfl
def D.prog_Do_None (a0:Access) (a1:(Int→T Unit)):T Unit:=(T.act a0.op a0.at_ a0.a a0.b a1)
theorem c_prog_Do_None (hF:kH F w0)
    (a0:Access) {a1f:FuncId} {a1_1 a1_2:List Value} {a1:(Int→T Unit)} (a1n:FnT Tryz.prog encNone u64 (n) F w0 (kf a1f a1_1 a1_2) a1) :
    Calls Tryz.prog 293 #[.agg (accessC a0).toArray,kf a1f a1_1 a1_2] w0 (RepRes Tryz.prog encNone n (D.prog_Do_None a0 a1) F w0):=by
 refine kN Tryz.func293 rfl 8 rfl rfl fun fr r hB=>?_;refine wsr ?_
 refine kX 38 (.agg (accessC a0).toArray) r rfl rfl fun b1 w2 n3 r=>?_;obtain ⟨E1,Z2,H1,hB,zB⟩:=n3.all hB
 refine seq_new (.cells (kq encNone) 133 (0,0)) r (fun R=>y_alloc tz133) rfl fun fr b4 w5 n6 r=>?_;have H1:=keep n6.below H1
 obtain ⟨E4,Z5,H4,hB,zB⟩:=n6.all hB;refine wn (wsr (kG (accessC a0) 4 r rfl H1 ta38 rfl rfl fun r=>kM (kf a1f a1_1 a1_2) r rfl rfl fun r=>kU (.agg (progCells false encNone.zero a0.op a0.at_ a0.a a0.b (kf a1f a1_1 a1_2))) r (by kernel_rfl) rfl fun r=>?_));refine seq_upd (.cells (progCells false encNone.zero a0.op a0.at_ a0.a a0.b (kf a1f a1_1 a1_2)) 133 (0,0)) r (fun R=>y_store r (o:=0) (v:=(.agg (progCells false encNone.zero a0.op a0.at_ a0.a a0.b (kf a1f a1_1 a1_2)))) rfl rfl H4 ts133 (Nat.le_of_ble_eq_true rfl) rfl rfl) rfl fun fr w7 u8 r=>?_
 have Z7:=u8.size;have H1:=u8.keep H1 (by omega)
 have H4:=u8.at_;obtain ⟨hB,zB⟩:=u8.on hB (by omega)
 refine wn (wp_ret ?_);refine ret_cell r rfl rfl H4 (k:=6) rfl ta133 ?_;exact ⟨_,rfl,hB,Rep.act_of (a1n.mono (Nat.le_refl _) (fun b hb=>.inl hb) (Same.below hB hF) hB.size)⟩
def D.prog_Done_None :T Unit:=(T.done ())
theorem c_prog_Done_None (hF:kH F w0)
     :
    Calls Tryz.prog 292 #[.agg #[]] w0 (RepRes Tryz.prog encNone n D.prog_Done_None F w0):=by
 refine kN Tryz.func292 rfl 5 rfl rfl fun fr r hB=>?_;refine wsr ?_
 refine kX 128 (.agg #[]) r rfl rfl fun b1 w2 n3 r=>?_;obtain ⟨E1,Z2,H1,hB,zB⟩:=n3.all hB
 refine seq_new (.cells (kq encNone) 133 (0,0)) r (fun R=>y_alloc tz133) rfl fun fr b4 w5 n6 r=>?_;have H1:=keep n6.below H1
 obtain ⟨E4,Z5,H4,hB,zB⟩:=n6.all hB;refine wn (wsr (kG [] 0 r rfl H1 ta128 rfl rfl fun r=>kU (.agg (progCells true (encNone.cells ()) 0 0 0 0 .nilFunc)) r (by kernel_rfl) rfl fun r=>?_));refine seq_upd (.cells (progCells true (encNone.cells ()) 0 0 0 0 .nilFunc) 133 (0,0)) r (fun R=>y_store r (o:=0) (v:=(.agg (progCells true (encNone.cells ()) 0 0 0 0 .nilFunc))) rfl rfl H4 ts133 (Nat.le_of_ble_eq_true rfl) rfl rfl) rfl fun fr w7 u8 r=>?_
 have Z7:=u8.size;have H1:=u8.keep H1 (by omega)
 have H4:=u8.at_;obtain ⟨hB,zB⟩:=u8.on hB (by omega)
 refine wn (wp_ret ?_);refine ret_cell r rfl rfl H4 (k:=6) rfl ta133 ?_;exact ⟨_,rfl,hB,Rep.done_of⟩
def D.prog_Done_Res (a0:Res):T Res:=(T.done a0)
def D.prog_Do_Res (a0:Access) (a1:(Int→T Res)):T Res:=(T.act a0.op a0.at_ a0.a a0.b a1)
def D.prog_Do_int (a0:Access) (a1:(Int→T Int)):T Int:=(T.act a0.op a0.at_ a0.a a0.b a1)
theorem c_prog_Do_int (hF:kH F w0)
    (a0:Access) {a1f:FuncId} {a1_1 a1_2:List Value} {a1:(Int→T Int)} (a1n:FnT Tryz.prog encInt u64 (n) F w0 (kf a1f a1_1 a1_2) a1) :
    Calls Tryz.prog 283 #[.agg (accessC a0).toArray,kf a1f a1_1 a1_2] w0 (RepRes Tryz.prog encInt n (D.prog_Do_int a0 a1) F w0):=by
 refine kN Tryz.func283 rfl 8 rfl rfl fun fr r hB=>?_;refine wsr ?_
 refine kX 38 (.agg (accessC a0).toArray) r rfl rfl fun b1 w2 n3 r=>?_;obtain ⟨E1,Z2,H1,hB,zB⟩:=n3.all hB
 refine seq_new (.cells (kq encInt) 119 (0,0)) r (fun R=>y_alloc tz119) rfl fun fr b4 w5 n6 r=>?_;have H1:=keep n6.below H1
 obtain ⟨E4,Z5,H4,hB,zB⟩:=n6.all hB;refine wn (wsr (kG (accessC a0) 4 r rfl H1 ta38 rfl rfl fun r=>kM (kf a1f a1_1 a1_2) r rfl rfl fun r=>kU (.agg (progCells false encInt.zero a0.op a0.at_ a0.a a0.b (kf a1f a1_1 a1_2))) r (by kernel_rfl) rfl fun r=>?_));refine seq_upd (.cells (progCells false encInt.zero a0.op a0.at_ a0.a a0.b (kf a1f a1_1 a1_2)) 119 (0,0)) r (fun R=>y_store r (o:=0) (v:=(.agg (progCells false encInt.zero a0.op a0.at_ a0.a a0.b (kf a1f a1_1 a1_2)))) rfl rfl H4 ts119 (Nat.le_of_ble_eq_true rfl) rfl rfl) rfl fun fr w7 u8 r=>?_
 have Z7:=u8.size;have H1:=u8.keep H1 (by omega)
 have H4:=u8.at_;obtain ⟨hB,zB⟩:=u8.on hB (by omega)
 refine wn (wp_ret ?_);refine ret_cell r rfl rfl H4 (k:=7) rfl ta119 ?_;exact ⟨_,rfl,hB,Rep.act_of (a1n.mono (Nat.le_refl _) (fun b hb=>.inl hb) (Same.below hB hF) hB.size)⟩
def D.prog_Done_int (a0:Int):T Int:=(T.done a0)
theorem c_prog_Done_int (hF:kH F w0)
    (a0:Int) :
    Calls Tryz.prog 222 #[.int .i64 a0] w0 (RepRes Tryz.prog encInt n (D.prog_Done_int a0) F w0):=by
 refine kN Tryz.func222 rfl 5 rfl rfl fun fr r hB=>?_;refine wsr ?_
 refine seq_new (.cells (kq encInt) 119 (0,0)) r (fun R=>y_alloc tz119) rfl fun fr b1 w2 n3 r=>?_;obtain ⟨E1,Z2,H1,hB,zB⟩:=n3.all hB
 refine wn (wsr (kM (I a0) r rfl rfl fun r=>kU (.agg (progCells true (encInt.cells a0) 0 0 0 0 .nilFunc)) r (by kernel_rfl) rfl fun r=>?_));refine seq_upd (.cells (progCells true (encInt.cells a0) 0 0 0 0 .nilFunc) 119 (0,0)) r (fun R=>y_store r (o:=0) (v:=(.agg (progCells true (encInt.cells a0) 0 0 0 0 .nilFunc))) rfl rfl H1 ts119 (Nat.le_of_ble_eq_true rfl) rfl rfl) rfl fun fr w4 u5 r=>?_
 have Z4:=u5.size;have H1:=u5.at_;obtain ⟨hB,zB⟩:=u5.on hB (by omega)
 refine wn (wp_ret ?_);refine ret_cell r rfl rfl H1 (k:=7) rfl ta119 ?_;exact ⟨_,rfl,hB,Rep.done_of⟩
def D.prog_Done_Grant (a0:Grant):T Grant:=(T.done a0)
theorem c_prog_Done_Grant (hF:kH F w0)
    (a0:Grant) :
    Calls Tryz.prog 179 #[.agg (grantC a0).toArray] w0 (RepRes Tryz.prog encGrant n (D.prog_Done_Grant a0) F w0):=by
 refine kN Tryz.func179 rfl 5 rfl rfl fun fr r hB=>?_;refine wsr ?_
 refine kX 113 (.agg (grantC a0).toArray) r rfl rfl fun b1 w2 n3 r=>?_;obtain ⟨E1,Z2,H1,hB,zB⟩:=n3.all hB
 refine seq_new (.cells (kq encGrant) 116 (0,0)) r (fun R=>y_alloc tz116) rfl fun fr b4 w5 n6 r=>?_;have H1:=keep n6.below H1
 obtain ⟨E4,Z5,H4,hB,zB⟩:=n6.all hB;refine wn (wsr (kG (grantC a0) 3 r rfl H1 ta113 rfl rfl fun r=>kU (.agg (progCells true (encGrant.cells a0) 0 0 0 0 .nilFunc)) r (by kernel_rfl) rfl fun r=>?_));refine seq_upd (.cells (progCells true (encGrant.cells a0) 0 0 0 0 .nilFunc) 116 (0,0)) r (fun R=>y_store r (o:=0) (v:=(.agg (progCells true (encGrant.cells a0) 0 0 0 0 .nilFunc))) rfl rfl H4 ts116 (Nat.le_of_ble_eq_true rfl) rfl rfl) rfl fun fr w7 u8 r=>?_
 have Z7:=u8.size;have H1:=u8.keep H1 (by omega)
 have H4:=u8.at_;obtain ⟨hB,zB⟩:=u8.on hB (by omega)
 refine wn (wp_ret ?_);refine ret_cell r rfl rfl H4 (k:=9) rfl ta116 ?_;exact ⟨_,rfl,hB,Rep.done_of⟩
def D.prog_Do_Grant (a0:Access) (a1:(Int→T Grant)):T Grant:=(T.act a0.op a0.at_ a0.a a0.b a1)
theorem c_prog_Do_Grant (hF:kH F w0)
    (a0:Access) {a1f:FuncId} {a1_1 a1_2:List Value} {a1:(Int→T Grant)} (a1n:FnT Tryz.prog encGrant u64 (n) F w0 (kf a1f a1_1 a1_2) a1) :
    Calls Tryz.prog 274 #[.agg (accessC a0).toArray,kf a1f a1_1 a1_2] w0 (RepRes Tryz.prog encGrant n (D.prog_Do_Grant a0 a1) F w0):=by
 refine kN Tryz.func274 rfl 8 rfl rfl fun fr r hB=>?_;refine wsr ?_
 refine kX 38 (.agg (accessC a0).toArray) r rfl rfl fun b1 w2 n3 r=>?_;obtain ⟨E1,Z2,H1,hB,zB⟩:=n3.all hB
 refine seq_new (.cells (kq encGrant) 116 (0,0)) r (fun R=>y_alloc tz116) rfl fun fr b4 w5 n6 r=>?_;have H1:=keep n6.below H1
 obtain ⟨E4,Z5,H4,hB,zB⟩:=n6.all hB;refine wn (wsr (kG (accessC a0) 4 r rfl H1 ta38 rfl rfl fun r=>kM (kf a1f a1_1 a1_2) r rfl rfl fun r=>kU (.agg (progCells false encGrant.zero a0.op a0.at_ a0.a a0.b (kf a1f a1_1 a1_2))) r (by kernel_rfl) rfl fun r=>?_));refine seq_upd (.cells (progCells false encGrant.zero a0.op a0.at_ a0.a a0.b (kf a1f a1_1 a1_2)) 116 (0,0)) r (fun R=>y_store r (o:=0) (v:=(.agg (progCells false encGrant.zero a0.op a0.at_ a0.a a0.b (kf a1f a1_1 a1_2)))) rfl rfl H4 ts116 (Nat.le_of_ble_eq_true rfl) rfl rfl) rfl fun fr w7 u8 r=>?_
 have Z7:=u8.size;have H1:=u8.keep H1 (by omega)
 have H4:=u8.at_;obtain ⟨hB,zB⟩:=u8.on hB (by omega)
 refine wn (wp_ret ?_);refine ret_cell r rfl rfl H4 (k:=9) rfl ta116 ?_;exact ⟨_,rfl,hB,Rep.act_of (a1n.mono (Nat.le_refl _) (fun b hb=>.inl hb) (Same.below hB hF) hB.size)⟩
def D.prog_Done_bool (a0:Bool):T Bool:=(T.done a0)
theorem c_prog_Done_bool (hF:kH F w0)
    (a0:Bool) :
    Calls Tryz.prog 395 #[.bool a0] w0 (RepRes Tryz.prog encBool n (D.prog_Done_bool a0) F w0):=by
 refine kN Tryz.func395 rfl 5 rfl rfl fun fr r hB=>?_;refine wsr ?_
 refine seq_new (.cells (kq encBool) 318 (0,0)) r (fun R=>y_alloc tz318) rfl fun fr b1 w2 n3 r=>?_;obtain ⟨E1,Z2,H1,hB,zB⟩:=n3.all hB
 refine wn (wsr (kM (.bool a0) r rfl rfl fun r=>kU (.agg (progCells true (encBool.cells a0) 0 0 0 0 .nilFunc)) r (by kernel_rfl) rfl fun r=>?_));refine seq_upd (.cells (progCells true (encBool.cells a0) 0 0 0 0 .nilFunc) 318 (0,0)) r (fun R=>y_store r (o:=0) (v:=(.agg (progCells true (encBool.cells a0) 0 0 0 0 .nilFunc))) rfl rfl H1 ts318 (Nat.le_of_ble_eq_true rfl) rfl rfl) rfl fun fr w4 u5 r=>?_
 have Z4:=u5.size;have H1:=u5.at_;obtain ⟨hB,zB⟩:=u5.on hB (by omega)
 refine wn (wp_ret ?_);refine ret_cell r rfl rfl H1 (k:=7) rfl ta318 ?_;exact ⟨_,rfl,hB,Rep.done_of⟩
def D.prog_Do_bool (a0:Access) (a1:(Int→T Bool)):T Bool:=(T.act a0.op a0.at_ a0.a a0.b a1)
theorem c_prog_Do_bool (hF:kH F w0)
    (a0:Access) {a1f:FuncId} {a1_1 a1_2:List Value} {a1:(Int→T Bool)} (a1n:FnT Tryz.prog encBool u64 (n) F w0 (kf a1f a1_1 a1_2) a1) :
    Calls Tryz.prog 400 #[.agg (accessC a0).toArray,kf a1f a1_1 a1_2] w0 (RepRes Tryz.prog encBool n (D.prog_Do_bool a0 a1) F w0):=by
 refine kN Tryz.func400 rfl 8 rfl rfl fun fr r hB=>?_;refine wsr ?_
 refine kX 38 (.agg (accessC a0).toArray) r rfl rfl fun b1 w2 n3 r=>?_;obtain ⟨E1,Z2,H1,hB,zB⟩:=n3.all hB
 refine seq_new (.cells (kq encBool) 318 (0,0)) r (fun R=>y_alloc tz318) rfl fun fr b4 w5 n6 r=>?_;have H1:=keep n6.below H1
 obtain ⟨E4,Z5,H4,hB,zB⟩:=n6.all hB;refine wn (wsr (kG (accessC a0) 4 r rfl H1 ta38 rfl rfl fun r=>kM (kf a1f a1_1 a1_2) r rfl rfl fun r=>kU (.agg (progCells false encBool.zero a0.op a0.at_ a0.a a0.b (kf a1f a1_1 a1_2))) r (by kernel_rfl) rfl fun r=>?_));refine seq_upd (.cells (progCells false encBool.zero a0.op a0.at_ a0.a a0.b (kf a1f a1_1 a1_2)) 318 (0,0)) r (fun R=>y_store r (o:=0) (v:=(.agg (progCells false encBool.zero a0.op a0.at_ a0.a a0.b (kf a1f a1_1 a1_2)))) rfl rfl H4 ts318 (Nat.le_of_ble_eq_true rfl) rfl rfl) rfl fun fr w7 u8 r=>?_
 have Z7:=u8.size;have H1:=u8.keep H1 (by omega)
 have H4:=u8.at_;obtain ⟨hB,zB⟩:=u8.on hB (by omega)
 refine wn (wp_ret ?_);refine ret_cell r rfl rfl H4 (k:=7) rfl ta318 ?_;exact ⟨_,rfl,hB,Rep.act_of (a1n.mono (Nat.le_refl _) (fun b hb=>.inl hb) (Same.below hB hF) hB.size)⟩
def D.prog_Do_uint64 (a0:Access) (a1:(Int→T Int)):T Int:=(T.act a0.op a0.at_ a0.a a0.b a1)
theorem c_prog_Do_uint64 (hF:kH F w0)
    (a0:Access) {a1f:FuncId} {a1_1 a1_2:List Value} {a1:(Int→T Int)} (a1n:FnT Tryz.prog encWord u64 (n) F w0 (kf a1f a1_1 a1_2) a1) :
    Calls Tryz.prog 358 #[.agg (accessC a0).toArray,kf a1f a1_1 a1_2] w0 (RepRes Tryz.prog encWord n (D.prog_Do_uint64 a0 a1) F w0):=by
 refine kN Tryz.func358 rfl 8 rfl rfl fun fr r hB=>?_;refine wsr ?_
 refine kX 38 (.agg (accessC a0).toArray) r rfl rfl fun b1 w2 n3 r=>?_;obtain ⟨E1,Z2,H1,hB,zB⟩:=n3.all hB
 refine seq_new (.cells (kq encWord) 271 (0,0)) r (fun R=>y_alloc tz271) rfl fun fr b4 w5 n6 r=>?_;have H1:=keep n6.below H1
 obtain ⟨E4,Z5,H4,hB,zB⟩:=n6.all hB;refine wn (wsr (kG (accessC a0) 4 r rfl H1 ta38 rfl rfl fun r=>kM (kf a1f a1_1 a1_2) r rfl rfl fun r=>kU (.agg (progCells false encWord.zero a0.op a0.at_ a0.a a0.b (kf a1f a1_1 a1_2))) r (by kernel_rfl) rfl fun r=>?_));refine seq_upd (.cells (progCells false encWord.zero a0.op a0.at_ a0.a a0.b (kf a1f a1_1 a1_2)) 271 (0,0)) r (fun R=>y_store r (o:=0) (v:=(.agg (progCells false encWord.zero a0.op a0.at_ a0.a a0.b (kf a1f a1_1 a1_2)))) rfl rfl H4 ts271 (Nat.le_of_ble_eq_true rfl) rfl rfl) rfl fun fr w7 u8 r=>?_
 have Z7:=u8.size;have H1:=u8.keep H1 (by omega)
 have H4:=u8.at_;obtain ⟨hB,zB⟩:=u8.on hB (by omega)
 refine wn (wp_ret ?_);refine ret_cell r rfl rfl H4 (k:=7) rfl ta271 ?_;exact ⟨_,rfl,hB,Rep.act_of (a1n.mono (Nat.le_refl _) (fun b hb=>.inl hb) (Same.below hB hF) hB.size)⟩
def D.prog_Done_uint64 (a0:Int):T Int:=(T.done a0)
theorem c_prog_Done_uint64 (hF:kH F w0)
    (a0:Int) :
    Calls Tryz.prog 359 #[.int .u64 a0] w0 (RepRes Tryz.prog encWord n (D.prog_Done_uint64 a0) F w0):=by
 refine kN Tryz.func359 rfl 5 rfl rfl fun fr r hB=>?_;refine wsr ?_
 refine seq_new (.cells (kq encWord) 271 (0,0)) r (fun R=>y_alloc tz271) rfl fun fr b1 w2 n3 r=>?_;obtain ⟨E1,Z2,H1,hB,zB⟩:=n3.all hB
 refine wn (wsr (kM (U a0) r rfl rfl fun r=>kU (.agg (progCells true (encWord.cells a0) 0 0 0 0 .nilFunc)) r (by kernel_rfl) rfl fun r=>?_));refine seq_upd (.cells (progCells true (encWord.cells a0) 0 0 0 0 .nilFunc) 271 (0,0)) r (fun R=>y_store r (o:=0) (v:=(.agg (progCells true (encWord.cells a0) 0 0 0 0 .nilFunc))) rfl rfl H1 ts271 (Nat.le_of_ble_eq_true rfl) rfl rfl) rfl fun fr w4 u5 r=>?_
 have Z4:=u5.size;have H1:=u5.at_;obtain ⟨hB,zB⟩:=u5.on hB (by omega)
 refine wn (wp_ret ?_);refine ret_cell r rfl rfl H1 (k:=7) rfl ta271 ?_;exact ⟨_,rfl,hB,Rep.done_of⟩
def Spec_prog_Then_bool_int (n:Nat):Prop:=∀ {F:Nat→Prop} {w0:World},(∀ b,F b→b<w0.heap.size)→∀ {t:T (Bool)} {pv fv:Value} {g:Bool→T (Int)},Rep Tryz.prog encBool n t F w0 pv→FnT Tryz.prog encInt boolE n F w0 fv g→
    (t.isDone=false∨FnT Tryz.prog encInt boolE (n+1) F w0 fv g)→Calls Tryz.prog 348 #[pv,fv] w0 (RepRes Tryz.prog encInt n (t.bind g) F w0)
theorem k_prog_Then_bool_int {n:Nat} (ih:Spec_prog_Then_bool_int n) {F:Nat→Prop} {w0:World} (hF:∀ b,F b→b<w0.heap.size) {op at_ a b:Int} {nf:FuncId} {n1 n2:List Value} {k:Int→T (Bool)} {ff:FuncId} {f1 f2:List Value} {g:Bool→T (Int)}
    {b1 b2:Nat} (F1:F b1) (h1:w0.heap[b1]?=some (.cells (progCells false encBool.zero op at_ a b (kf nf n1 n2)) 318 (0,0))) (F2:F b2) (h2:w0.heap[b2]?=some (.cells #[kf ff f1 f2] 290 (0,0)))
    (hk:FnT Tryz.prog encBool u64 (n+1) F w0 (kf nf n1 n2) k) (hg:FnT Tryz.prog encInt boolE (n+1) F w0 (kf ff f1 f2) g) (x:Int) :
    Calls Tryz.prog 379 #[.int .u64 x,zp b1,zp b2] w0 (RepRes Tryz.prog encInt n ((k x).bind g) F w0):=by
 refine kN Tryz.func379 rfl 11 rfl rfl fun fr r hB=>?_;refine wp_seq (wp_region_lit ?_)
 refine seq_new (.cells (kq encInt) 119 (0,0)) r (fun R=>y_alloc tz119) rfl fun fr b3 w1 q1 r=>wn ?_;have h1:=keep q1.below h1
 have h2:=keep q1.below h2;have e3:=q1.eq;have z1:=q1.size;have h3:=q1.at_;have hB:=hB.trans (q1.below.mono hB.size);have zB:=hB.size;refine wp_seq ?_;refine wp_drawnF 5 [.val (.pointer (some ⟨b1,6,none⟩)),.val (kf nf n1 n2),.val (U x),.pred (RepAt Tryz.prog encBool n (k x) F w0.heap.size b3) RepAt.stable,.val (kf ff f1 f2)] mixed r (by kernel_rfl) (within_cons trivial (within_cons trivial (within_cons trivial (within_cons trivial (within_cons trivial within_nil))))) ?_ ?_
 ·
  refine ec r (fun _ u _ b d s=>y_fieldAddr s (b:=b1) (o:=0) rfl fo318_3 bz) ?_;refine each_consF r rfl (fun fr1 u w' hb' hd r'=>?_) ?_
  ·
   obtain ⟨d0,_⟩:=hd;exact y_load_one r' (v:=kf nf n1 n2) d0 (keep hb' h1) to316 rfl bz
  refine ec r (fun _ u _ b d s=>y_move s rfl bz) ?_;refine each_consF r rfl (fun fr1 u w' hb' hd r'=>?_) ?_
  ·
   obtain ⟨d0,d1,_⟩:=hd;have zb:=hb'.size;have zb:w1.heap.size≤w'.heap.size:=zb;have hB':Below w0.heap.size w0 w':=hB.trans (Below.mono (w:=w1) ⟨hb'.os,hb'.tape,hb'.output,hb'.size,hb'.block⟩ hB.size);have d0:u 1=kf nf n1 n2:=d0;have d1:u 2=.int .u64 x:=d1;refine y_callv1 r' (fs:=n1) (cs:=n2) d0 d1 hk.at_.1 ((hk.at_.2 n (Nat.lt_succ_self n) x w' (Same.below hB' hF) hB'.size).mono ?_);rintro _ w2 ⟨v,rfl,hb2,hr2⟩;refine ⟨v,rfl,hb2,RepAt.of_res (fun b h=>Nat.lt_of_lt_of_le (hF b h) hB'.size) (by omega) hB'.size hb2 (Rep.mono ?_ (Same.refl _ _) (Nat.le_refl _) n _ _ hr2)⟩
   rintro b (h | h)
   · exact .inl (.inl h)
   · exact .inr h
  refine ec r (fun _ u _ b d s=>y_load_one s rfl (keep b h2) to290 rfl bz) ?_;exact each_nil
 intro fr u w2 hb hΦ _ r;obtain ⟨_,hr3,_,hr⟩:RepAt Tryz.prog encBool n (k x) F w0.heap.size b3 (u 3) w2:=hΦ 3 (by decide);have r:=r.congr (sc (hΦ 4 (by decide)) rfl);have z2:=hb.size;have h1:=keep hb h1;have h2:=keep hb h2;have h3:=keep hb h3;have hB2:=hB.trans (hb.mono hB.size);have zB2:=hB2.size;have hF1:∀ b,(kW F w0 w2 b3) b→b<w2.heap.size:=by rintro b (h | h); exact Nat.lt_of_lt_of_le (hF b h) hB2.size; exact h.2.1
 refine kC r (ih (F:=fun b=>F b∨(w0.heap.size≤b∧b<w2.heap.size∧b≠b3)) hF1 hr (hg.mono (by omega) (fun b h=>.inl h) (Same.below hB2 hF) hB2.size)
  (.inr (hg.mono (Nat.le_refl _) (fun b h=>.inl h) (Same.below hB2 hF) hB2.size))) rfl cl348 rfl ?_
 rintro _ w3 ⟨v2,rfl,hb2,hr2⟩;refine ⟨_,rfl,fun fr r=>?_⟩
 have z3:=hb2.size;have h3:=keep hb2 h3;have hB3:=hB2.trans (hb2.mono hB2.size);refine kP r hr2.shape rfl rfl h3 ts119 rfl rfl fun w4 u4 r=>wn ?_;have z4:=u4.size
 have h3:=u4.at_;have hB4:=u4.below hB3 (by omega)
 refine wp_ret ?_;have hs:=hr2.shape.cells;refine ret_cell r rfl rfl h3 (k:=7) hs.1 ta119 ?_;rw [←hs.2.2];exact RepRes.fin hB4 hr2 u4 (by rintro b (h | ⟨h1,h2,_⟩); exact .inl h; exact .inr ⟨h1,h2⟩) (by rintro (h | ⟨_,_,h⟩); (have:=hF _ h; omega); exact h rfl) (by omega) (by omega) (by omega)
theorem s_prog_Then_bool_int (n:Nat):Spec_prog_Then_bool_int n:=by
  induction n using Nat.strongRecOn with
  | _ n ih=>
  intro F w0 hF t pv fv g hp hf hd;obtain ⟨ff,f1,f2,hcf,rfl,hff⟩:=id hf;cases t with
  | cut=>unfold Rep at hp; exact hp.elim
  | done x0=>
    have hf:=hd.resolve_left (by intro h; cases h)
    unfold Rep at hp
    subst hp;refine enter (l:=[.agg (progCells true (encBool.cells x0) 0 0 0 0 .nilFunc),kf ff f1 f2]) Tryz.func348 rfl 15 rfl rfl fun fr r=>?_;have hB:=Below.refl w0.heap.size w0
    refine wp_seq (wp_region_lit ?_);refine kX 318 (.agg (progCells true (encBool.cells x0) 0 0 0 0 .nilFunc)) r rfl rfl fun b1 w1 q1 r=>?_;refine kX 290 (kf ff f1 f2) r rfl rfl fun b2 w2 q2 r=>?_
    refine seq_new (.cells (kq encInt) 119 (0,0)) r (fun R=>y_alloc tz119) rfl fun fr b3 w3 q3 r=>wpList_nil ?_;have h1:=keep q3.below (keep q2.below q1.at_)
    have h2:=keep q3.below q2.at_;have h3:=q3.at_;have e1:=q1.eq; have e2:=q2.eq; have e3:=q3.eq; have z1:=q1.size; have z2:=q2.size; have z3:=q3.size;have hB:=((hB.trans q1.below).trans (q2.below.mono (by omega))).trans (q3.below.mono (by omega))
    have zB:=hB.size;refine wp_seq (wp_seq (wp_region_lit (seq_val (zp b1) r (fun R=>y_fieldAddr r (o:=0) rfl fo318_0) rfl fun fr r=>?_)));refine seq_val (.bool true) r (fun R=>y_load_one r (v:=.bool true) rfl h1 to4 rfl) rfl fun fr r=>wpList_nil ?_
    refine wp_cond_split (t:=true) (r.ev rfl) (fun _=>?_) (fun h=>by cases h)
    refine wp_seq (wp_region_lit (seq_val (kf ff f1 f2) r (fun R=>y_load_one r (v:=kf ff f1 f2) rfl h2 to290 rfl) rfl fun fr r=>seq_val (.pointer (some ⟨b1,1,none⟩)) r (fun R=>y_fieldAddr r (o:=0) rfl fo318_1) rfl fun fr r=>seq_val (.bool x0) r (fun R=>y_load_one r (v:=(.bool x0)) rfl h1 to4 rfl) rfl fun fr r=>?_));refine seq_call r (hf.at_.2 n (Nat.lt_succ_self n) x0 w3 (Same.below hB hF) hB.size) (fun R hc=>y_callv r rfl rfl hf.at_.1 hc) rfl ?_
    rintro _ w4 ⟨v,rfl,hb,hr⟩;refine ⟨_,rfl,fun fr r=>?_⟩
    have z4:=hb.size;have h3:=keep hb h3;have hB:=hB.trans (hb.mono hB.size);refine kP r hr.shape rfl rfl h3 ts119 rfl rfl fun w5 u5 r=>wpList_nil ?_;have z5:=u5.size
    have h3:=u5.at_;have hB:=u5.below hB (by omega)
    refine wp_ret ?_;have hs:=hr.shape.cells;refine ret_cell r rfl rfl h3 (k:=7) hs.1 ta119 ?_;rw [←hs.2.2];exact RepRes.fin hB hr u5 (fun b hb=>.inl hb) (fun h=>by have:=hF _ h; omega) (by omega) (by omega) (by omega)
  | act op at_ a b k=>
    obtain ⟨nf,n1,n2,hcn,rfl,hk⟩:∃ (nf:FuncId) (n1 n2:List Value),callable Tryz.prog nf=true∧pv=.agg (progCells false encBool.zero op at_ a b (kf nf n1 n2))∧FnT Tryz.prog encBool u64 n F w0 (kf nf n1 n2) k:=by
      exact Rep.act_inv hp
    refine enter (l:=[.agg (progCells false encBool.zero op at_ a b (kf nf n1 n2)),kf ff f1 f2]) Tryz.func348 rfl 15 rfl rfl fun fr r=>?_;have hB:=Below.refl w0.heap.size w0
    refine wp_seq (wp_region_lit ?_);refine kX 318 (.agg (progCells false encBool.zero op at_ a b (kf nf n1 n2))) r rfl rfl fun b1 w1 q1 r=>?_;refine kX 290 (kf ff f1 f2) r rfl rfl fun b2 w2 q2 r=>?_
    refine seq_new (.cells (kq encInt) 119 (0,0)) r (fun R=>y_alloc tz119) rfl fun fr b3 w3 q3 r=>wpList_nil ?_;have h1:=keep q3.below (keep q2.below q1.at_)
    have h2:=keep q3.below q2.at_;have h3:=q3.at_;have e1:=q1.eq; have e2:=q2.eq; have e3:=q3.eq; have z1:=q1.size; have z2:=q2.size; have z3:=q3.size;have hB:=((hB.trans q1.below).trans (q2.below.mono (by omega))).trans (q3.below.mono (by omega))
    have zB:=hB.size;refine wp_seq (wp_seq (wp_region_lit (seq_val (zp b1) r (fun R=>y_fieldAddr r (o:=0) rfl fo318_0) rfl fun fr r=>?_)));refine seq_val (.bool false) r (fun R=>y_load_one r (v:=.bool false) rfl h1 to4 rfl) rfl fun fr r=>wpList_nil ?_
    refine wp_cond_split (t:=false) (r.ev rfl) (fun h=>by cases h) (fun _=>wp_skip ?_);refine wp_seq (wp_region_lit (seq_val (.pointer (some ⟨b1,2,none⟩)) r (fun R=>y_fieldAddr r (o:=0) rfl fo318_2) rfl fun fr r=>kG (accessC (⟨op,at_,a,b⟩:Access)) 4 r rfl h1 ta38 rfl rfl fun r=>seq_val (.func (.func 379) #[] #[zp b1,zp b2]) r (fun R=>y_makeFunc r rfl) rfl fun fr r=>?_))
    have hF1:∀ b,(fun b=>F b∨b=b1∨b=b2) b→b<w3.heap.size:=by rintro b (h | h | h); exact Nat.lt_of_lt_of_le (hF b h) hB.size; omega; omega
    refine kC r (c_prog_Do_int (F:=fun b=>F b∨b=b1∨b=b2) (n:=n) hF1 ⟨op,at_,a,b⟩ (a1:=fun x=>(k x).bind g) (show FnT Tryz.prog encInt u64 n (fun b=>F b∨b=b1∨b=b2) w3 (kf 379 [] [zp b1,zp b2]) (fun x=>(k x).bind g) from
      ⟨379,[],[zp b1,zp b2],cl379,rfl,fun m hm x w' hs hz=>k_prog_Then_bool_int (ih m hm) (fun b hb=>Nat.lt_of_lt_of_le (hF1 b hb) hz) (.inr (.inl rfl)) (hs.at_ (.inr (.inl rfl)) h1) (.inr (.inr rfl)) (hs.at_ (.inr (.inr rfl)) h2)
        (hk.mono (by omega) (fun b h=>.inl h) ((Same.below hB hF).trans (hs.sub (fun b h=>.inl h))) (Nat.le_trans hB.size hz)) (hf.mono (by omega) (fun b h=>.inl h) ((Same.below hB hF).trans (hs.sub (fun b h=>.inl h))) (Nat.le_trans hB.size hz)) x⟩)) rfl cl283 rfl ?_
    rintro _ w4 ⟨v,rfl,hb,hr⟩;refine ⟨_,rfl,fun fr r=>?_⟩
    have z4:=hb.size;have h3:=keep hb h3;have hB:=hB.trans (hb.mono hB.size);refine kP r hr.shape rfl rfl h3 ts119 rfl rfl fun w5 u5 r=>wpList_nil ?_;have z5:=u5.size
    have h3:=u5.at_;have hB:=u5.below hB (by omega)
    refine wp_ret ?_;have hs:=hr.shape.cells;refine ret_cell r rfl rfl h3 (k:=7) hs.1 ta119 ?_;rw [←hs.2.2];exact RepRes.fin hB hr u5 (by rintro b (h | h | h); exact .inl h; exact .inr ⟨by omega,by omega⟩; exact .inr ⟨by omega,by omega⟩) (by rintro (h | h | h); (have:=hF _ h; omega); omega; omega) (by omega) (by omega) (by omega)
theorem c_prog_Then_bool_int_le (hF:kH F w0) {t:T (Bool)} {pv fv:Value} {g:Bool→T (Int)} (hp:Rep Tryz.prog encBool n t F w0 pv) (hf:FnT Tryz.prog encInt boolE (n+1) F w0 fv g) :
    Calls Tryz.prog 348 #[pv,fv] w0 (RepRes Tryz.prog encInt n (t.bind g) F w0):=s_prog_Then_bool_int n hF hp (hf.mono (by omega) (fun b h=>h) (Same.refl _ _) (Nat.le_refl _)) (.inr hf)
def Spec_prog_Then_None_None (n:Nat):Prop:=∀ {F:Nat→Prop} {w0:World},(∀ b,F b→b<w0.heap.size)→∀ {t:T (Unit)} {pv fv:Value} {g:Unit→T (Unit)},Rep Tryz.prog encNone n t F w0 pv→FnT Tryz.prog encNone noneE n F w0 fv g→
    (t.isDone=false∨FnT Tryz.prog encNone noneE (n+1) F w0 fv g)→Calls Tryz.prog 352 #[pv,fv] w0 (RepRes Tryz.prog encNone n (t.bind g) F w0)
theorem k_prog_Then_None_None {n:Nat} (ih:Spec_prog_Then_None_None n) {F:Nat→Prop} {w0:World} (hF:∀ b,F b→b<w0.heap.size) {op at_ a b:Int} {nf:FuncId} {n1 n2:List Value} {k:Int→T (Unit)} {ff:FuncId} {f1 f2:List Value} {g:Unit→T (Unit)}
    {b1 b2:Nat} (F1:F b1) (h1:w0.heap[b1]?=some (.cells (progCells false encNone.zero op at_ a b (kf nf n1 n2)) 133 (0,0))) (F2:F b2) (h2:w0.heap[b2]?=some (.cells #[kf ff f1 f2] 296 (0,0)))
    (hk:FnT Tryz.prog encNone u64 (n+1) F w0 (kf nf n1 n2) k) (hg:FnT Tryz.prog encNone noneE (n+1) F w0 (kf ff f1 f2) g) (x:Int) :
    Calls Tryz.prog 385 #[.int .u64 x,zp b1,zp b2] w0 (RepRes Tryz.prog encNone n ((k x).bind g) F w0):=by
 refine kN Tryz.func385 rfl 11 rfl rfl fun fr r hB=>?_;refine wp_seq (wp_region_lit ?_)
 refine seq_new (.cells (kq encNone) 133 (0,0)) r (fun R=>y_alloc tz133) rfl fun fr b3 w1 q1 r=>wn ?_;have h1:=keep q1.below h1
 have h2:=keep q1.below h2;have e3:=q1.eq;have z1:=q1.size;have h3:=q1.at_;have hB:=hB.trans (q1.below.mono hB.size);have zB:=hB.size;refine wp_seq ?_;refine wp_drawnF 5 [.val (.pointer (some ⟨b1,5,none⟩)),.val (kf nf n1 n2),.val (U x),.pred (RepAt Tryz.prog encNone n (k x) F w0.heap.size b3) RepAt.stable,.val (kf ff f1 f2)] mixed r (by kernel_rfl) (within_cons trivial (within_cons trivial (within_cons trivial (within_cons trivial (within_cons trivial within_nil))))) ?_ ?_
 ·
  refine ec r (fun _ u _ b d s=>y_fieldAddr s (b:=b1) (o:=0) rfl fo133_3 bz) ?_;refine each_consF r rfl (fun fr1 u w' hb' hd r'=>?_) ?_
  ·
   obtain ⟨d0,_⟩:=hd;exact y_load_one r' (v:=kf nf n1 n2) d0 (keep hb' h1) to131 rfl bz
  refine ec r (fun _ u _ b d s=>y_move s rfl bz) ?_;refine each_consF r rfl (fun fr1 u w' hb' hd r'=>?_) ?_
  ·
   obtain ⟨d0,d1,_⟩:=hd;have zb:=hb'.size;have zb:w1.heap.size≤w'.heap.size:=zb;have hB':Below w0.heap.size w0 w':=hB.trans (Below.mono (w:=w1) ⟨hb'.os,hb'.tape,hb'.output,hb'.size,hb'.block⟩ hB.size);have d0:u 1=kf nf n1 n2:=d0;have d1:u 2=.int .u64 x:=d1;refine y_callv1 r' (fs:=n1) (cs:=n2) d0 d1 hk.at_.1 ((hk.at_.2 n (Nat.lt_succ_self n) x w' (Same.below hB' hF) hB'.size).mono ?_);rintro _ w2 ⟨v,rfl,hb2,hr2⟩;refine ⟨v,rfl,hb2,RepAt.of_res (fun b h=>Nat.lt_of_lt_of_le (hF b h) hB'.size) (by omega) hB'.size hb2 (Rep.mono ?_ (Same.refl _ _) (Nat.le_refl _) n _ _ hr2)⟩
   rintro b (h | h)
   · exact .inl (.inl h)
   · exact .inr h
  refine ec r (fun _ u _ b d s=>y_load_one s rfl (keep b h2) to296 rfl bz) ?_;exact each_nil
 intro fr u w2 hb hΦ _ r;obtain ⟨_,hr3,_,hr⟩:RepAt Tryz.prog encNone n (k x) F w0.heap.size b3 (u 3) w2:=hΦ 3 (by decide);have r:=r.congr (sc (hΦ 4 (by decide)) rfl);have z2:=hb.size;have h1:=keep hb h1;have h2:=keep hb h2;have h3:=keep hb h3;have hB2:=hB.trans (hb.mono hB.size);have zB2:=hB2.size;have hF1:∀ b,(kW F w0 w2 b3) b→b<w2.heap.size:=by rintro b (h | h); exact Nat.lt_of_lt_of_le (hF b h) hB2.size; exact h.2.1
 refine kC r (ih (F:=fun b=>F b∨(w0.heap.size≤b∧b<w2.heap.size∧b≠b3)) hF1 hr (hg.mono (by omega) (fun b h=>.inl h) (Same.below hB2 hF) hB2.size)
  (.inr (hg.mono (Nat.le_refl _) (fun b h=>.inl h) (Same.below hB2 hF) hB2.size))) rfl cl352 rfl ?_
 rintro _ w3 ⟨v2,rfl,hb2,hr2⟩;refine ⟨_,rfl,fun fr r=>?_⟩
 have z3:=hb2.size;have h3:=keep hb2 h3;have hB3:=hB2.trans (hb2.mono hB2.size);refine kP r hr2.shape rfl rfl h3 ts133 rfl rfl fun w4 u4 r=>wn ?_;have z4:=u4.size
 have h3:=u4.at_;have hB4:=u4.below hB3 (by omega)
 refine wp_ret ?_;have hs:=hr2.shape.cells;refine ret_cell r rfl rfl h3 (k:=6) hs.1 ta133 ?_;rw [←hs.2.2];exact RepRes.fin hB4 hr2 u4 (by rintro b (h | ⟨h1,h2,_⟩); exact .inl h; exact .inr ⟨h1,h2⟩) (by rintro (h | ⟨_,_,h⟩); (have:=hF _ h; omega); exact h rfl) (by omega) (by omega) (by omega)
theorem s_prog_Then_None_None (n:Nat):Spec_prog_Then_None_None n:=by
  induction n using Nat.strongRecOn with
  | _ n ih=>
  intro F w0 hF t pv fv g hp hf hd;obtain ⟨ff,f1,f2,hcf,rfl,hff⟩:=id hf;cases t with
  | cut=>unfold Rep at hp; exact hp.elim
  | done x0=>
    have hf:=hd.resolve_left (by intro h; cases h)
    unfold Rep at hp
    subst hp;refine enter (l:=[.agg (progCells true (encNone.cells x0) 0 0 0 0 .nilFunc),kf ff f1 f2]) Tryz.func352 rfl 15 rfl rfl fun fr r=>?_;have hB:=Below.refl w0.heap.size w0
    refine wp_seq (wp_region_lit ?_);refine kX 133 (.agg (progCells true (encNone.cells x0) 0 0 0 0 .nilFunc)) r rfl rfl fun b1 w1 q1 r=>?_;refine kX 296 (kf ff f1 f2) r rfl rfl fun b2 w2 q2 r=>?_
    refine seq_new (.cells (kq encNone) 133 (0,0)) r (fun R=>y_alloc tz133) rfl fun fr b3 w3 q3 r=>wpList_nil ?_;have h1:=keep q3.below (keep q2.below q1.at_)
    have h2:=keep q3.below q2.at_;have h3:=q3.at_;have e1:=q1.eq; have e2:=q2.eq; have e3:=q3.eq; have z1:=q1.size; have z2:=q2.size; have z3:=q3.size;have hB:=((hB.trans q1.below).trans (q2.below.mono (by omega))).trans (q3.below.mono (by omega))
    have zB:=hB.size;refine wp_seq (wp_seq (wp_region_lit (seq_val (zp b1) r (fun R=>y_fieldAddr r (o:=0) rfl fo133_0) rfl fun fr r=>?_)));refine seq_val (.bool true) r (fun R=>y_load_one r (v:=.bool true) rfl h1 to4 rfl) rfl fun fr r=>wpList_nil ?_
    refine wp_cond_split (t:=true) (r.ev rfl) (fun _=>?_) (fun h=>by cases h)
    refine wp_seq (wp_region_lit (seq_val (kf ff f1 f2) r (fun R=>y_load_one r (v:=kf ff f1 f2) rfl h2 to296 rfl) rfl fun fr r=>?_));refine seq_valZ b1 1 r (fun R=>y_fieldAddrZ r rfl fz133 h1) rfl fun fr sp r=>seq_val (.agg #[]) r (fun R=>y_load_zero r rfl ta128) rfl fun fr r=>?_
    refine seq_call r (hf.at_.2 n (Nat.lt_succ_self n) x0 w3 (Same.below hB hF) hB.size) (fun R hc=>y_callv r rfl rfl hf.at_.1 hc) rfl ?_;rintro _ w4 ⟨v,rfl,hb,hr⟩
    refine ⟨_,rfl,fun fr r=>?_⟩
    have z4:=hb.size;have h3:=keep hb h3;have hB:=hB.trans (hb.mono hB.size);refine kP r hr.shape rfl rfl h3 ts133 rfl rfl fun w5 u5 r=>wpList_nil ?_;have z5:=u5.size
    have h3:=u5.at_;have hB:=u5.below hB (by omega)
    refine wp_ret ?_;have hs:=hr.shape.cells;refine ret_cell r rfl rfl h3 (k:=6) hs.1 ta133 ?_;rw [←hs.2.2];exact RepRes.fin hB hr u5 (fun b hb=>.inl hb) (fun h=>by have:=hF _ h; omega) (by omega) (by omega) (by omega)
  | act op at_ a b k=>
    obtain ⟨nf,n1,n2,hcn,rfl,hk⟩:∃ (nf:FuncId) (n1 n2:List Value),callable Tryz.prog nf=true∧pv=.agg (progCells false encNone.zero op at_ a b (kf nf n1 n2))∧FnT Tryz.prog encNone u64 n F w0 (kf nf n1 n2) k:=by
      exact Rep.act_inv hp
    refine enter (l:=[.agg (progCells false encNone.zero op at_ a b (kf nf n1 n2)),kf ff f1 f2]) Tryz.func352 rfl 15 rfl rfl fun fr r=>?_;have hB:=Below.refl w0.heap.size w0
    refine wp_seq (wp_region_lit ?_);refine kX 133 (.agg (progCells false encNone.zero op at_ a b (kf nf n1 n2))) r rfl rfl fun b1 w1 q1 r=>?_;refine kX 296 (kf ff f1 f2) r rfl rfl fun b2 w2 q2 r=>?_
    refine seq_new (.cells (kq encNone) 133 (0,0)) r (fun R=>y_alloc tz133) rfl fun fr b3 w3 q3 r=>wpList_nil ?_;have h1:=keep q3.below (keep q2.below q1.at_)
    have h2:=keep q3.below q2.at_;have h3:=q3.at_;have e1:=q1.eq; have e2:=q2.eq; have e3:=q3.eq; have z1:=q1.size; have z2:=q2.size; have z3:=q3.size;have hB:=((hB.trans q1.below).trans (q2.below.mono (by omega))).trans (q3.below.mono (by omega))
    have zB:=hB.size;refine wp_seq (wp_seq (wp_region_lit (seq_val (zp b1) r (fun R=>y_fieldAddr r (o:=0) rfl fo133_0) rfl fun fr r=>?_)));refine seq_val (.bool false) r (fun R=>y_load_one r (v:=.bool false) rfl h1 to4 rfl) rfl fun fr r=>wpList_nil ?_
    refine wp_cond_split (t:=false) (r.ev rfl) (fun h=>by cases h) (fun _=>wp_skip ?_);refine wp_seq (wp_region_lit (seq_val (.pointer (some ⟨b1,1,none⟩)) r (fun R=>y_fieldAddr r (o:=0) rfl fo133_2) rfl fun fr r=>kG (accessC (⟨op,at_,a,b⟩:Access)) 4 r rfl h1 ta38 rfl rfl fun r=>seq_val (.func (.func 385) #[] #[zp b1,zp b2]) r (fun R=>y_makeFunc r rfl) rfl fun fr r=>?_))
    have hF1:∀ b,(fun b=>F b∨b=b1∨b=b2) b→b<w3.heap.size:=by rintro b (h | h | h); exact Nat.lt_of_lt_of_le (hF b h) hB.size; omega; omega
    refine kC r (c_prog_Do_None (F:=fun b=>F b∨b=b1∨b=b2) (n:=n) hF1 ⟨op,at_,a,b⟩ (a1:=fun x=>(k x).bind g) (show FnT Tryz.prog encNone u64 n (fun b=>F b∨b=b1∨b=b2) w3 (kf 385 [] [zp b1,zp b2]) (fun x=>(k x).bind g) from
      ⟨385,[],[zp b1,zp b2],cl385,rfl,fun m hm x w' hs hz=>k_prog_Then_None_None (ih m hm) (fun b hb=>Nat.lt_of_lt_of_le (hF1 b hb) hz) (.inr (.inl rfl)) (hs.at_ (.inr (.inl rfl)) h1) (.inr (.inr rfl)) (hs.at_ (.inr (.inr rfl)) h2)
        (hk.mono (by omega) (fun b h=>.inl h) ((Same.below hB hF).trans (hs.sub (fun b h=>.inl h))) (Nat.le_trans hB.size hz)) (hf.mono (by omega) (fun b h=>.inl h) ((Same.below hB hF).trans (hs.sub (fun b h=>.inl h))) (Nat.le_trans hB.size hz)) x⟩)) rfl cl293 rfl ?_
    rintro _ w4 ⟨v,rfl,hb,hr⟩;refine ⟨_,rfl,fun fr r=>?_⟩
    have z4:=hb.size;have h3:=keep hb h3;have hB:=hB.trans (hb.mono hB.size);refine kP r hr.shape rfl rfl h3 ts133 rfl rfl fun w5 u5 r=>wpList_nil ?_;have z5:=u5.size
    have h3:=u5.at_;have hB:=u5.below hB (by omega)
    refine wp_ret ?_;have hs:=hr.shape.cells;refine ret_cell r rfl rfl h3 (k:=6) hs.1 ta133 ?_;rw [←hs.2.2];exact RepRes.fin hB hr u5 (by rintro b (h | h | h); exact .inl h; exact .inr ⟨by omega,by omega⟩; exact .inr ⟨by omega,by omega⟩) (by rintro (h | h | h); (have:=hF _ h; omega); omega; omega) (by omega) (by omega) (by omega)
theorem c_prog_Then_None_None_lt (hF:kH F w0) {t:T (Unit)} {pv fv:Value} {g:Unit→T (Unit)} (hp:Rep Tryz.prog encNone n t F w0 pv) (hf:FnT Tryz.prog encNone noneE n F w0 fv g) (hd:t.isDone=false) :
    Calls Tryz.prog 352 #[pv,fv] w0 (RepRes Tryz.prog encNone n (t.bind g) F w0):=s_prog_Then_None_None n hF hp hf (.inl hd)
def Spec_prog_Then_None_uint64 (n:Nat):Prop:=∀ {F:Nat→Prop} {w0:World},(∀ b,F b→b<w0.heap.size)→∀ {t:T (Unit)} {pv fv:Value} {g:Unit→T (Int)},Rep Tryz.prog encNone n t F w0 pv→FnT Tryz.prog encWord noneE n F w0 fv g→
    (t.isDone=false∨FnT Tryz.prog encWord noneE (n+1) F w0 fv g)→Calls Tryz.prog 360 #[pv,fv] w0 (RepRes Tryz.prog encWord n (t.bind g) F w0)
theorem k_prog_Then_None_uint64 {n:Nat} (ih:Spec_prog_Then_None_uint64 n) {F:Nat→Prop} {w0:World} (hF:∀ b,F b→b<w0.heap.size) {op at_ a b:Int} {nf:FuncId} {n1 n2:List Value} {k:Int→T (Unit)} {ff:FuncId} {f1 f2:List Value} {g:Unit→T (Int)}
    {b1 b2:Nat} (F1:F b1) (h1:w0.heap[b1]?=some (.cells (progCells false encNone.zero op at_ a b (kf nf n1 n2)) 133 (0,0))) (F2:F b2) (h2:w0.heap[b2]?=some (.cells #[kf ff f1 f2] 324 (0,0)))
    (hk:FnT Tryz.prog encNone u64 (n+1) F w0 (kf nf n1 n2) k) (hg:FnT Tryz.prog encWord noneE (n+1) F w0 (kf ff f1 f2) g) (x:Int) :
    Calls Tryz.prog 386 #[.int .u64 x,zp b1,zp b2] w0 (RepRes Tryz.prog encWord n ((k x).bind g) F w0):=by
 refine kN Tryz.func386 rfl 11 rfl rfl fun fr r hB=>?_;refine wp_seq (wp_region_lit ?_)
 refine seq_new (.cells (kq encWord) 271 (0,0)) r (fun R=>y_alloc tz271) rfl fun fr b3 w1 q1 r=>wn ?_;have h1:=keep q1.below h1
 have h2:=keep q1.below h2;have e3:=q1.eq;have z1:=q1.size;have h3:=q1.at_;have hB:=hB.trans (q1.below.mono hB.size);have zB:=hB.size;refine wp_seq ?_;refine wp_drawnF 5 [.val (.pointer (some ⟨b1,5,none⟩)),.val (kf nf n1 n2),.val (U x),.pred (RepAt Tryz.prog encNone n (k x) F w0.heap.size b3) RepAt.stable,.val (kf ff f1 f2)] mixed r (by kernel_rfl) (within_cons trivial (within_cons trivial (within_cons trivial (within_cons trivial (within_cons trivial within_nil))))) ?_ ?_
 ·
  refine ec r (fun _ u _ b d s=>y_fieldAddr s (b:=b1) (o:=0) rfl fo133_3 bz) ?_;refine each_consF r rfl (fun fr1 u w' hb' hd r'=>?_) ?_
  ·
   obtain ⟨d0,_⟩:=hd;exact y_load_one r' (v:=kf nf n1 n2) d0 (keep hb' h1) to131 rfl bz
  refine ec r (fun _ u _ b d s=>y_move s rfl bz) ?_;refine each_consF r rfl (fun fr1 u w' hb' hd r'=>?_) ?_
  ·
   obtain ⟨d0,d1,_⟩:=hd;have zb:=hb'.size;have zb:w1.heap.size≤w'.heap.size:=zb;have hB':Below w0.heap.size w0 w':=hB.trans (Below.mono (w:=w1) ⟨hb'.os,hb'.tape,hb'.output,hb'.size,hb'.block⟩ hB.size);have d0:u 1=kf nf n1 n2:=d0;have d1:u 2=.int .u64 x:=d1;refine y_callv1 r' (fs:=n1) (cs:=n2) d0 d1 hk.at_.1 ((hk.at_.2 n (Nat.lt_succ_self n) x w' (Same.below hB' hF) hB'.size).mono ?_);rintro _ w2 ⟨v,rfl,hb2,hr2⟩;refine ⟨v,rfl,hb2,RepAt.of_res (fun b h=>Nat.lt_of_lt_of_le (hF b h) hB'.size) (by omega) hB'.size hb2 (Rep.mono ?_ (Same.refl _ _) (Nat.le_refl _) n _ _ hr2)⟩
   rintro b (h | h)
   · exact .inl (.inl h)
   · exact .inr h
  refine ec r (fun _ u _ b d s=>y_load_one s rfl (keep b h2) to324 rfl bz) ?_;exact each_nil
 intro fr u w2 hb hΦ _ r;obtain ⟨_,hr3,_,hr⟩:RepAt Tryz.prog encNone n (k x) F w0.heap.size b3 (u 3) w2:=hΦ 3 (by decide);have r:=r.congr (sc (hΦ 4 (by decide)) rfl);have z2:=hb.size;have h1:=keep hb h1;have h2:=keep hb h2;have h3:=keep hb h3;have hB2:=hB.trans (hb.mono hB.size);have zB2:=hB2.size;have hF1:∀ b,(kW F w0 w2 b3) b→b<w2.heap.size:=by rintro b (h | h); exact Nat.lt_of_lt_of_le (hF b h) hB2.size; exact h.2.1
 refine kC r (ih (F:=fun b=>F b∨(w0.heap.size≤b∧b<w2.heap.size∧b≠b3)) hF1 hr (hg.mono (by omega) (fun b h=>.inl h) (Same.below hB2 hF) hB2.size)
  (.inr (hg.mono (Nat.le_refl _) (fun b h=>.inl h) (Same.below hB2 hF) hB2.size))) rfl cl360 rfl ?_
 rintro _ w3 ⟨v2,rfl,hb2,hr2⟩;refine ⟨_,rfl,fun fr r=>?_⟩
 have z3:=hb2.size;have h3:=keep hb2 h3;have hB3:=hB2.trans (hb2.mono hB2.size);refine kP r hr2.shape rfl rfl h3 ts271 rfl rfl fun w4 u4 r=>wn ?_;have z4:=u4.size
 have h3:=u4.at_;have hB4:=u4.below hB3 (by omega)
 refine wp_ret ?_;have hs:=hr2.shape.cells;refine ret_cell r rfl rfl h3 (k:=7) hs.1 ta271 ?_;rw [←hs.2.2];exact RepRes.fin hB4 hr2 u4 (by rintro b (h | ⟨h1,h2,_⟩); exact .inl h; exact .inr ⟨h1,h2⟩) (by rintro (h | ⟨_,_,h⟩); (have:=hF _ h; omega); exact h rfl) (by omega) (by omega) (by omega)
theorem s_prog_Then_None_uint64 (n:Nat):Spec_prog_Then_None_uint64 n:=by
  induction n using Nat.strongRecOn with
  | _ n ih=>
  intro F w0 hF t pv fv g hp hf hd;obtain ⟨ff,f1,f2,hcf,rfl,hff⟩:=id hf;cases t with
  | cut=>unfold Rep at hp; exact hp.elim
  | done x0=>
    have hf:=hd.resolve_left (by intro h; cases h)
    unfold Rep at hp
    subst hp;refine enter (l:=[.agg (progCells true (encNone.cells x0) 0 0 0 0 .nilFunc),kf ff f1 f2]) Tryz.func360 rfl 15 rfl rfl fun fr r=>?_;have hB:=Below.refl w0.heap.size w0
    refine wp_seq (wp_region_lit ?_);refine kX 133 (.agg (progCells true (encNone.cells x0) 0 0 0 0 .nilFunc)) r rfl rfl fun b1 w1 q1 r=>?_;refine kX 324 (kf ff f1 f2) r rfl rfl fun b2 w2 q2 r=>?_
    refine seq_new (.cells (kq encWord) 271 (0,0)) r (fun R=>y_alloc tz271) rfl fun fr b3 w3 q3 r=>wpList_nil ?_;have h1:=keep q3.below (keep q2.below q1.at_)
    have h2:=keep q3.below q2.at_;have h3:=q3.at_;have e1:=q1.eq; have e2:=q2.eq; have e3:=q3.eq; have z1:=q1.size; have z2:=q2.size; have z3:=q3.size;have hB:=((hB.trans q1.below).trans (q2.below.mono (by omega))).trans (q3.below.mono (by omega))
    have zB:=hB.size;refine wp_seq (wp_seq (wp_region_lit (seq_val (zp b1) r (fun R=>y_fieldAddr r (o:=0) rfl fo133_0) rfl fun fr r=>?_)));refine seq_val (.bool true) r (fun R=>y_load_one r (v:=.bool true) rfl h1 to4 rfl) rfl fun fr r=>wpList_nil ?_
    refine wp_cond_split (t:=true) (r.ev rfl) (fun _=>?_) (fun h=>by cases h)
    refine wp_seq (wp_region_lit (seq_val (kf ff f1 f2) r (fun R=>y_load_one r (v:=kf ff f1 f2) rfl h2 to324 rfl) rfl fun fr r=>?_));refine seq_valZ b1 1 r (fun R=>y_fieldAddrZ r rfl fz133 h1) rfl fun fr sp r=>seq_val (.agg #[]) r (fun R=>y_load_zero r rfl ta128) rfl fun fr r=>?_
    refine seq_call r (hf.at_.2 n (Nat.lt_succ_self n) x0 w3 (Same.below hB hF) hB.size) (fun R hc=>y_callv r rfl rfl hf.at_.1 hc) rfl ?_;rintro _ w4 ⟨v,rfl,hb,hr⟩
    refine ⟨_,rfl,fun fr r=>?_⟩
    have z4:=hb.size;have h3:=keep hb h3;have hB:=hB.trans (hb.mono hB.size);refine kP r hr.shape rfl rfl h3 ts271 rfl rfl fun w5 u5 r=>wpList_nil ?_;have z5:=u5.size
    have h3:=u5.at_;have hB:=u5.below hB (by omega)
    refine wp_ret ?_;have hs:=hr.shape.cells;refine ret_cell r rfl rfl h3 (k:=7) hs.1 ta271 ?_;rw [←hs.2.2];exact RepRes.fin hB hr u5 (fun b hb=>.inl hb) (fun h=>by have:=hF _ h; omega) (by omega) (by omega) (by omega)
  | act op at_ a b k=>
    obtain ⟨nf,n1,n2,hcn,rfl,hk⟩:∃ (nf:FuncId) (n1 n2:List Value),callable Tryz.prog nf=true∧pv=.agg (progCells false encNone.zero op at_ a b (kf nf n1 n2))∧FnT Tryz.prog encNone u64 n F w0 (kf nf n1 n2) k:=by
      exact Rep.act_inv hp
    refine enter (l:=[.agg (progCells false encNone.zero op at_ a b (kf nf n1 n2)),kf ff f1 f2]) Tryz.func360 rfl 15 rfl rfl fun fr r=>?_;have hB:=Below.refl w0.heap.size w0
    refine wp_seq (wp_region_lit ?_);refine kX 133 (.agg (progCells false encNone.zero op at_ a b (kf nf n1 n2))) r rfl rfl fun b1 w1 q1 r=>?_;refine kX 324 (kf ff f1 f2) r rfl rfl fun b2 w2 q2 r=>?_
    refine seq_new (.cells (kq encWord) 271 (0,0)) r (fun R=>y_alloc tz271) rfl fun fr b3 w3 q3 r=>wpList_nil ?_;have h1:=keep q3.below (keep q2.below q1.at_)
    have h2:=keep q3.below q2.at_;have h3:=q3.at_;have e1:=q1.eq; have e2:=q2.eq; have e3:=q3.eq; have z1:=q1.size; have z2:=q2.size; have z3:=q3.size;have hB:=((hB.trans q1.below).trans (q2.below.mono (by omega))).trans (q3.below.mono (by omega))
    have zB:=hB.size;refine wp_seq (wp_seq (wp_region_lit (seq_val (zp b1) r (fun R=>y_fieldAddr r (o:=0) rfl fo133_0) rfl fun fr r=>?_)));refine seq_val (.bool false) r (fun R=>y_load_one r (v:=.bool false) rfl h1 to4 rfl) rfl fun fr r=>wpList_nil ?_
    refine wp_cond_split (t:=false) (r.ev rfl) (fun h=>by cases h) (fun _=>wp_skip ?_);refine wp_seq (wp_region_lit (seq_val (.pointer (some ⟨b1,1,none⟩)) r (fun R=>y_fieldAddr r (o:=0) rfl fo133_2) rfl fun fr r=>kG (accessC (⟨op,at_,a,b⟩:Access)) 4 r rfl h1 ta38 rfl rfl fun r=>seq_val (.func (.func 386) #[] #[zp b1,zp b2]) r (fun R=>y_makeFunc r rfl) rfl fun fr r=>?_))
    have hF1:∀ b,(fun b=>F b∨b=b1∨b=b2) b→b<w3.heap.size:=by rintro b (h | h | h); exact Nat.lt_of_lt_of_le (hF b h) hB.size; omega; omega
    refine kC r (c_prog_Do_uint64 (F:=fun b=>F b∨b=b1∨b=b2) (n:=n) hF1 ⟨op,at_,a,b⟩ (a1:=fun x=>(k x).bind g) (show FnT Tryz.prog encWord u64 n (fun b=>F b∨b=b1∨b=b2) w3 (kf 386 [] [zp b1,zp b2]) (fun x=>(k x).bind g) from
      ⟨386,[],[zp b1,zp b2],cl386,rfl,fun m hm x w' hs hz=>k_prog_Then_None_uint64 (ih m hm) (fun b hb=>Nat.lt_of_lt_of_le (hF1 b hb) hz) (.inr (.inl rfl)) (hs.at_ (.inr (.inl rfl)) h1) (.inr (.inr rfl)) (hs.at_ (.inr (.inr rfl)) h2)
        (hk.mono (by omega) (fun b h=>.inl h) ((Same.below hB hF).trans (hs.sub (fun b h=>.inl h))) (Nat.le_trans hB.size hz)) (hf.mono (by omega) (fun b h=>.inl h) ((Same.below hB hF).trans (hs.sub (fun b h=>.inl h))) (Nat.le_trans hB.size hz)) x⟩)) rfl cl358 rfl ?_
    rintro _ w4 ⟨v,rfl,hb,hr⟩;refine ⟨_,rfl,fun fr r=>?_⟩
    have z4:=hb.size;have h3:=keep hb h3;have hB:=hB.trans (hb.mono hB.size);refine kP r hr.shape rfl rfl h3 ts271 rfl rfl fun w5 u5 r=>wpList_nil ?_;have z5:=u5.size
    have h3:=u5.at_;have hB:=u5.below hB (by omega)
    refine wp_ret ?_;have hs:=hr.shape.cells;refine ret_cell r rfl rfl h3 (k:=7) hs.1 ta271 ?_;rw [←hs.2.2];exact RepRes.fin hB hr u5 (by rintro b (h | h | h); exact .inl h; exact .inr ⟨by omega,by omega⟩; exact .inr ⟨by omega,by omega⟩) (by rintro (h | h | h); (have:=hF _ h; omega); omega; omega) (by omega) (by omega) (by omega)
theorem c_prog_Then_None_uint64_le (hF:kH F w0) {t:T (Unit)} {pv fv:Value} {g:Unit→T (Int)} (hp:Rep Tryz.prog encNone n t F w0 pv) (hf:FnT Tryz.prog encWord noneE (n+1) F w0 fv g) :
    Calls Tryz.prog 360 #[pv,fv] w0 (RepRes Tryz.prog encWord n (t.bind g) F w0):=s_prog_Then_None_uint64 n hF hp (hf.mono (by omega) (fun b h=>h) (Same.refl _ _) (Nat.le_refl _)) (.inr hf)
def Spec_prog_Then_int_Grant (n:Nat):Prop:=∀ {F:Nat→Prop} {w0:World},(∀ b,F b→b<w0.heap.size)→∀ {t:T (Int)} {pv fv:Value} {g:Int→T (Grant)},Rep Tryz.prog encInt n t F w0 pv→FnT Tryz.prog encGrant i64 n F w0 fv g→
    (t.isDone=false∨FnT Tryz.prog encGrant i64 (n+1) F w0 fv g)→Calls Tryz.prog 181 #[pv,fv] w0 (RepRes Tryz.prog encGrant n (t.bind g) F w0)
theorem k_prog_Then_int_Grant {n:Nat} (ih:Spec_prog_Then_int_Grant n) {F:Nat→Prop} {w0:World} (hF:∀ b,F b→b<w0.heap.size) {op at_ a b:Int} {nf:FuncId} {n1 n2:List Value} {k:Int→T (Int)} {ff:FuncId} {f1 f2:List Value} {g:Int→T (Grant)}
    {b1 b2:Nat} (F1:F b1) (h1:w0.heap[b1]?=some (.cells (progCells false encInt.zero op at_ a b (kf nf n1 n2)) 119 (0,0))) (F2:F b2) (h2:w0.heap[b2]?=some (.cells #[kf ff f1 f2] 233 (0,0)))
    (hk:FnT Tryz.prog encInt u64 (n+1) F w0 (kf nf n1 n2) k) (hg:FnT Tryz.prog encGrant i64 (n+1) F w0 (kf ff f1 f2) g) (x:Int) :
    Calls Tryz.prog 275 #[.int .u64 x,zp b1,zp b2] w0 (RepRes Tryz.prog encGrant n ((k x).bind g) F w0):=by
 refine kN Tryz.func275 rfl 11 rfl rfl fun fr r hB=>?_;refine wp_seq (wp_region_lit ?_)
 refine seq_new (.cells (kq encGrant) 116 (0,0)) r (fun R=>y_alloc tz116) rfl fun fr b3 w1 q1 r=>wn ?_;have h1:=keep q1.below h1
 have h2:=keep q1.below h2;have e3:=q1.eq;have z1:=q1.size;have h3:=q1.at_;have hB:=hB.trans (q1.below.mono hB.size);have zB:=hB.size;refine wp_seq ?_;refine wp_drawnF 5 [.val (.pointer (some ⟨b1,6,none⟩)),.val (kf nf n1 n2),.val (U x),.pred (RepAt Tryz.prog encInt n (k x) F w0.heap.size b3) RepAt.stable,.val (kf ff f1 f2)] mixed r (by kernel_rfl) (within_cons trivial (within_cons trivial (within_cons trivial (within_cons trivial (within_cons trivial within_nil))))) ?_ ?_
 ·
  refine ec r (fun _ u _ b d s=>y_fieldAddr s (b:=b1) (o:=0) rfl fo119_3 bz) ?_;refine each_consF r rfl (fun fr1 u w' hb' hd r'=>?_) ?_
  ·
   obtain ⟨d0,_⟩:=hd;exact y_load_one r' (v:=kf nf n1 n2) d0 (keep hb' h1) to117 rfl bz
  refine ec r (fun _ u _ b d s=>y_move s rfl bz) ?_;refine each_consF r rfl (fun fr1 u w' hb' hd r'=>?_) ?_
  ·
   obtain ⟨d0,d1,_⟩:=hd;have zb:=hb'.size;have zb:w1.heap.size≤w'.heap.size:=zb;have hB':Below w0.heap.size w0 w':=hB.trans (Below.mono (w:=w1) ⟨hb'.os,hb'.tape,hb'.output,hb'.size,hb'.block⟩ hB.size);have d0:u 1=kf nf n1 n2:=d0;have d1:u 2=.int .u64 x:=d1;refine y_callv1 r' (fs:=n1) (cs:=n2) d0 d1 hk.at_.1 ((hk.at_.2 n (Nat.lt_succ_self n) x w' (Same.below hB' hF) hB'.size).mono ?_);rintro _ w2 ⟨v,rfl,hb2,hr2⟩;refine ⟨v,rfl,hb2,RepAt.of_res (fun b h=>Nat.lt_of_lt_of_le (hF b h) hB'.size) (by omega) hB'.size hb2 (Rep.mono ?_ (Same.refl _ _) (Nat.le_refl _) n _ _ hr2)⟩
   rintro b (h | h)
   · exact .inl (.inl h)
   · exact .inr h
  refine ec r (fun _ u _ b d s=>y_load_one s rfl (keep b h2) to233 rfl bz) ?_;exact each_nil
 intro fr u w2 hb hΦ _ r;obtain ⟨_,hr3,_,hr⟩:RepAt Tryz.prog encInt n (k x) F w0.heap.size b3 (u 3) w2:=hΦ 3 (by decide);have r:=r.congr (sc (hΦ 4 (by decide)) rfl);have z2:=hb.size;have h1:=keep hb h1;have h2:=keep hb h2;have h3:=keep hb h3;have hB2:=hB.trans (hb.mono hB.size);have zB2:=hB2.size;have hF1:∀ b,(kW F w0 w2 b3) b→b<w2.heap.size:=by rintro b (h | h); exact Nat.lt_of_lt_of_le (hF b h) hB2.size; exact h.2.1
 refine kC r (ih (F:=fun b=>F b∨(w0.heap.size≤b∧b<w2.heap.size∧b≠b3)) hF1 hr (hg.mono (by omega) (fun b h=>.inl h) (Same.below hB2 hF) hB2.size)
  (.inr (hg.mono (Nat.le_refl _) (fun b h=>.inl h) (Same.below hB2 hF) hB2.size))) rfl cl181 rfl ?_
 rintro _ w3 ⟨v2,rfl,hb2,hr2⟩;refine ⟨_,rfl,fun fr r=>?_⟩
 have z3:=hb2.size;have h3:=keep hb2 h3;have hB3:=hB2.trans (hb2.mono hB2.size);refine kP r hr2.shape rfl rfl h3 ts116 rfl rfl fun w4 u4 r=>wn ?_;have z4:=u4.size
 have h3:=u4.at_;have hB4:=u4.below hB3 (by omega)
 refine wp_ret ?_;have hs:=hr2.shape.cells;refine ret_cell r rfl rfl h3 (k:=9) hs.1 ta116 ?_;rw [←hs.2.2];exact RepRes.fin hB4 hr2 u4 (by rintro b (h | ⟨h1,h2,_⟩); exact .inl h; exact .inr ⟨h1,h2⟩) (by rintro (h | ⟨_,_,h⟩); (have:=hF _ h; omega); exact h rfl) (by omega) (by omega) (by omega)
theorem s_prog_Then_int_Grant (n:Nat):Spec_prog_Then_int_Grant n:=by
  induction n using Nat.strongRecOn with
  | _ n ih=>
  intro F w0 hF t pv fv g hp hf hd;obtain ⟨ff,f1,f2,hcf,rfl,hff⟩:=id hf;cases t with
  | cut=>unfold Rep at hp; exact hp.elim
  | done x0=>
    have hf:=hd.resolve_left (by intro h; cases h)
    unfold Rep at hp
    subst hp;refine enter (l:=[.agg (progCells true (encInt.cells x0) 0 0 0 0 .nilFunc),kf ff f1 f2]) Tryz.func181 rfl 15 rfl rfl fun fr r=>?_;have hB:=Below.refl w0.heap.size w0
    refine wp_seq (wp_region_lit ?_);refine kX 119 (.agg (progCells true (encInt.cells x0) 0 0 0 0 .nilFunc)) r rfl rfl fun b1 w1 q1 r=>?_;refine kX 233 (kf ff f1 f2) r rfl rfl fun b2 w2 q2 r=>?_
    refine seq_new (.cells (kq encGrant) 116 (0,0)) r (fun R=>y_alloc tz116) rfl fun fr b3 w3 q3 r=>wpList_nil ?_;have h1:=keep q3.below (keep q2.below q1.at_)
    have h2:=keep q3.below q2.at_;have h3:=q3.at_;have e1:=q1.eq; have e2:=q2.eq; have e3:=q3.eq; have z1:=q1.size; have z2:=q2.size; have z3:=q3.size;have hB:=((hB.trans q1.below).trans (q2.below.mono (by omega))).trans (q3.below.mono (by omega))
    have zB:=hB.size;refine wp_seq (wp_seq (wp_region_lit (seq_val (zp b1) r (fun R=>y_fieldAddr r (o:=0) rfl fo119_0) rfl fun fr r=>?_)));refine seq_val (.bool true) r (fun R=>y_load_one r (v:=.bool true) rfl h1 to4 rfl) rfl fun fr r=>wpList_nil ?_
    refine wp_cond_split (t:=true) (r.ev rfl) (fun _=>?_) (fun h=>by cases h)
    refine wp_seq (wp_region_lit (seq_val (kf ff f1 f2) r (fun R=>y_load_one r (v:=kf ff f1 f2) rfl h2 to233 rfl) rfl fun fr r=>seq_val (.pointer (some ⟨b1,1,none⟩)) r (fun R=>y_fieldAddr r (o:=0) rfl fo119_1) rfl fun fr r=>seq_val (.int .i64 x0) r (fun R=>y_load_one r (v:=(.int .i64 x0)) rfl h1 to3 rfl) rfl fun fr r=>?_));refine seq_call r (hf.at_.2 n (Nat.lt_succ_self n) x0 w3 (Same.below hB hF) hB.size) (fun R hc=>y_callv r rfl rfl hf.at_.1 hc) rfl ?_
    rintro _ w4 ⟨v,rfl,hb,hr⟩;refine ⟨_,rfl,fun fr r=>?_⟩
    have z4:=hb.size;have h3:=keep hb h3;have hB:=hB.trans (hb.mono hB.size);refine kP r hr.shape rfl rfl h3 ts116 rfl rfl fun w5 u5 r=>wpList_nil ?_;have z5:=u5.size
    have h3:=u5.at_;have hB:=u5.below hB (by omega)
    refine wp_ret ?_;have hs:=hr.shape.cells;refine ret_cell r rfl rfl h3 (k:=9) hs.1 ta116 ?_;rw [←hs.2.2];exact RepRes.fin hB hr u5 (fun b hb=>.inl hb) (fun h=>by have:=hF _ h; omega) (by omega) (by omega) (by omega)
  | act op at_ a b k=>
    obtain ⟨nf,n1,n2,hcn,rfl,hk⟩:∃ (nf:FuncId) (n1 n2:List Value),callable Tryz.prog nf=true∧pv=.agg (progCells false encInt.zero op at_ a b (kf nf n1 n2))∧FnT Tryz.prog encInt u64 n F w0 (kf nf n1 n2) k:=by
      exact Rep.act_inv hp
    refine enter (l:=[.agg (progCells false encInt.zero op at_ a b (kf nf n1 n2)),kf ff f1 f2]) Tryz.func181 rfl 15 rfl rfl fun fr r=>?_;have hB:=Below.refl w0.heap.size w0
    refine wp_seq (wp_region_lit ?_);refine kX 119 (.agg (progCells false encInt.zero op at_ a b (kf nf n1 n2))) r rfl rfl fun b1 w1 q1 r=>?_;refine kX 233 (kf ff f1 f2) r rfl rfl fun b2 w2 q2 r=>?_
    refine seq_new (.cells (kq encGrant) 116 (0,0)) r (fun R=>y_alloc tz116) rfl fun fr b3 w3 q3 r=>wpList_nil ?_;have h1:=keep q3.below (keep q2.below q1.at_)
    have h2:=keep q3.below q2.at_;have h3:=q3.at_;have e1:=q1.eq; have e2:=q2.eq; have e3:=q3.eq; have z1:=q1.size; have z2:=q2.size; have z3:=q3.size;have hB:=((hB.trans q1.below).trans (q2.below.mono (by omega))).trans (q3.below.mono (by omega))
    have zB:=hB.size;refine wp_seq (wp_seq (wp_region_lit (seq_val (zp b1) r (fun R=>y_fieldAddr r (o:=0) rfl fo119_0) rfl fun fr r=>?_)));refine seq_val (.bool false) r (fun R=>y_load_one r (v:=.bool false) rfl h1 to4 rfl) rfl fun fr r=>wpList_nil ?_
    refine wp_cond_split (t:=false) (r.ev rfl) (fun h=>by cases h) (fun _=>wp_skip ?_);refine wp_seq (wp_region_lit (seq_val (.pointer (some ⟨b1,2,none⟩)) r (fun R=>y_fieldAddr r (o:=0) rfl fo119_2) rfl fun fr r=>kG (accessC (⟨op,at_,a,b⟩:Access)) 4 r rfl h1 ta38 rfl rfl fun r=>seq_val (.func (.func 275) #[] #[zp b1,zp b2]) r (fun R=>y_makeFunc r rfl) rfl fun fr r=>?_))
    have hF1:∀ b,(fun b=>F b∨b=b1∨b=b2) b→b<w3.heap.size:=by rintro b (h | h | h); exact Nat.lt_of_lt_of_le (hF b h) hB.size; omega; omega
    refine kC r (c_prog_Do_Grant (F:=fun b=>F b∨b=b1∨b=b2) (n:=n) hF1 ⟨op,at_,a,b⟩ (a1:=fun x=>(k x).bind g) (show FnT Tryz.prog encGrant u64 n (fun b=>F b∨b=b1∨b=b2) w3 (kf 275 [] [zp b1,zp b2]) (fun x=>(k x).bind g) from
      ⟨275,[],[zp b1,zp b2],cl275,rfl,fun m hm x w' hs hz=>k_prog_Then_int_Grant (ih m hm) (fun b hb=>Nat.lt_of_lt_of_le (hF1 b hb) hz) (.inr (.inl rfl)) (hs.at_ (.inr (.inl rfl)) h1) (.inr (.inr rfl)) (hs.at_ (.inr (.inr rfl)) h2)
        (hk.mono (by omega) (fun b h=>.inl h) ((Same.below hB hF).trans (hs.sub (fun b h=>.inl h))) (Nat.le_trans hB.size hz)) (hf.mono (by omega) (fun b h=>.inl h) ((Same.below hB hF).trans (hs.sub (fun b h=>.inl h))) (Nat.le_trans hB.size hz)) x⟩)) rfl cl274 rfl ?_
    rintro _ w4 ⟨v,rfl,hb,hr⟩;refine ⟨_,rfl,fun fr r=>?_⟩
    have z4:=hb.size;have h3:=keep hb h3;have hB:=hB.trans (hb.mono hB.size);refine kP r hr.shape rfl rfl h3 ts116 rfl rfl fun w5 u5 r=>wpList_nil ?_;have z5:=u5.size
    have h3:=u5.at_;have hB:=u5.below hB (by omega)
    refine wp_ret ?_;have hs:=hr.shape.cells;refine ret_cell r rfl rfl h3 (k:=9) hs.1 ta116 ?_;rw [←hs.2.2];exact RepRes.fin hB hr u5 (by rintro b (h | h | h); exact .inl h; exact .inr ⟨by omega,by omega⟩; exact .inr ⟨by omega,by omega⟩) (by rintro (h | h | h); (have:=hF _ h; omega); omega; omega) (by omega) (by omega) (by omega)
theorem c_prog_Then_int_Grant_le (hF:kH F w0) {t:T (Int)} {pv fv:Value} {g:Int→T (Grant)} (hp:Rep Tryz.prog encInt n t F w0 pv) (hf:FnT Tryz.prog encGrant i64 (n+1) F w0 fv g) :
    Calls Tryz.prog 181 #[pv,fv] w0 (RepRes Tryz.prog encGrant n (t.bind g) F w0):=s_prog_Then_int_Grant n hF hp (hf.mono (by omega) (fun b h=>h) (Same.refl _ _) (Nat.le_refl _)) (.inr hf)
def Spec_prog_Then_int_int (n:Nat):Prop:=∀ {F:Nat→Prop} {w0:World},(∀ b,F b→b<w0.heap.size)→∀ {t:T (Int)} {pv fv:Value} {g:Int→T (Int)},Rep Tryz.prog encInt n t F w0 pv→FnT Tryz.prog encInt i64 n F w0 fv g→
    (t.isDone=false∨FnT Tryz.prog encInt i64 (n+1) F w0 fv g)→Calls Tryz.prog 223 #[pv,fv] w0 (RepRes Tryz.prog encInt n (t.bind g) F w0)
theorem k_prog_Then_int_int {n:Nat} (ih:Spec_prog_Then_int_int n) {F:Nat→Prop} {w0:World} (hF:∀ b,F b→b<w0.heap.size) {op at_ a b:Int} {nf:FuncId} {n1 n2:List Value} {k:Int→T (Int)} {ff:FuncId} {f1 f2:List Value} {g:Int→T (Int)}
    {b1 b2:Nat} (F1:F b1) (h1:w0.heap[b1]?=some (.cells (progCells false encInt.zero op at_ a b (kf nf n1 n2)) 119 (0,0))) (F2:F b2) (h2:w0.heap[b2]?=some (.cells #[kf ff f1 f2] 261 (0,0)))
    (hk:FnT Tryz.prog encInt u64 (n+1) F w0 (kf nf n1 n2) k) (hg:FnT Tryz.prog encInt i64 (n+1) F w0 (kf ff f1 f2) g) (x:Int) :
    Calls Tryz.prog 297 #[.int .u64 x,zp b1,zp b2] w0 (RepRes Tryz.prog encInt n ((k x).bind g) F w0):=by
 refine kN Tryz.func297 rfl 11 rfl rfl fun fr r hB=>?_;refine wp_seq (wp_region_lit ?_)
 refine seq_new (.cells (kq encInt) 119 (0,0)) r (fun R=>y_alloc tz119) rfl fun fr b3 w1 q1 r=>wn ?_;have h1:=keep q1.below h1
 have h2:=keep q1.below h2;have e3:=q1.eq;have z1:=q1.size;have h3:=q1.at_;have hB:=hB.trans (q1.below.mono hB.size);have zB:=hB.size;refine wp_seq ?_;refine wp_drawnF 5 [.val (.pointer (some ⟨b1,6,none⟩)),.val (kf nf n1 n2),.val (U x),.pred (RepAt Tryz.prog encInt n (k x) F w0.heap.size b3) RepAt.stable,.val (kf ff f1 f2)] mixed r (by kernel_rfl) (within_cons trivial (within_cons trivial (within_cons trivial (within_cons trivial (within_cons trivial within_nil))))) ?_ ?_
 ·
  refine ec r (fun _ u _ b d s=>y_fieldAddr s (b:=b1) (o:=0) rfl fo119_3 bz) ?_;refine each_consF r rfl (fun fr1 u w' hb' hd r'=>?_) ?_
  ·
   obtain ⟨d0,_⟩:=hd;exact y_load_one r' (v:=kf nf n1 n2) d0 (keep hb' h1) to117 rfl bz
  refine ec r (fun _ u _ b d s=>y_move s rfl bz) ?_;refine each_consF r rfl (fun fr1 u w' hb' hd r'=>?_) ?_
  ·
   obtain ⟨d0,d1,_⟩:=hd;have zb:=hb'.size;have zb:w1.heap.size≤w'.heap.size:=zb;have hB':Below w0.heap.size w0 w':=hB.trans (Below.mono (w:=w1) ⟨hb'.os,hb'.tape,hb'.output,hb'.size,hb'.block⟩ hB.size);have d0:u 1=kf nf n1 n2:=d0;have d1:u 2=.int .u64 x:=d1;refine y_callv1 r' (fs:=n1) (cs:=n2) d0 d1 hk.at_.1 ((hk.at_.2 n (Nat.lt_succ_self n) x w' (Same.below hB' hF) hB'.size).mono ?_);rintro _ w2 ⟨v,rfl,hb2,hr2⟩;refine ⟨v,rfl,hb2,RepAt.of_res (fun b h=>Nat.lt_of_lt_of_le (hF b h) hB'.size) (by omega) hB'.size hb2 (Rep.mono ?_ (Same.refl _ _) (Nat.le_refl _) n _ _ hr2)⟩
   rintro b (h | h)
   · exact .inl (.inl h)
   · exact .inr h
  refine ec r (fun _ u _ b d s=>y_load_one s rfl (keep b h2) to261 rfl bz) ?_;exact each_nil
 intro fr u w2 hb hΦ _ r;obtain ⟨_,hr3,_,hr⟩:RepAt Tryz.prog encInt n (k x) F w0.heap.size b3 (u 3) w2:=hΦ 3 (by decide);have r:=r.congr (sc (hΦ 4 (by decide)) rfl);have z2:=hb.size;have h1:=keep hb h1;have h2:=keep hb h2;have h3:=keep hb h3;have hB2:=hB.trans (hb.mono hB.size);have zB2:=hB2.size;have hF1:∀ b,(kW F w0 w2 b3) b→b<w2.heap.size:=by rintro b (h | h); exact Nat.lt_of_lt_of_le (hF b h) hB2.size; exact h.2.1
 refine kC r (ih (F:=fun b=>F b∨(w0.heap.size≤b∧b<w2.heap.size∧b≠b3)) hF1 hr (hg.mono (by omega) (fun b h=>.inl h) (Same.below hB2 hF) hB2.size)
  (.inr (hg.mono (Nat.le_refl _) (fun b h=>.inl h) (Same.below hB2 hF) hB2.size))) rfl cl223 rfl ?_
 rintro _ w3 ⟨v2,rfl,hb2,hr2⟩;refine ⟨_,rfl,fun fr r=>?_⟩
 have z3:=hb2.size;have h3:=keep hb2 h3;have hB3:=hB2.trans (hb2.mono hB2.size);refine kP r hr2.shape rfl rfl h3 ts119 rfl rfl fun w4 u4 r=>wn ?_;have z4:=u4.size
 have h3:=u4.at_;have hB4:=u4.below hB3 (by omega)
 refine wp_ret ?_;have hs:=hr2.shape.cells;refine ret_cell r rfl rfl h3 (k:=7) hs.1 ta119 ?_;rw [←hs.2.2];exact RepRes.fin hB4 hr2 u4 (by rintro b (h | ⟨h1,h2,_⟩); exact .inl h; exact .inr ⟨h1,h2⟩) (by rintro (h | ⟨_,_,h⟩); (have:=hF _ h; omega); exact h rfl) (by omega) (by omega) (by omega)
theorem s_prog_Then_int_int (n:Nat):Spec_prog_Then_int_int n:=by
  induction n using Nat.strongRecOn with
  | _ n ih=>
  intro F w0 hF t pv fv g hp hf hd;obtain ⟨ff,f1,f2,hcf,rfl,hff⟩:=id hf;cases t with
  | cut=>unfold Rep at hp; exact hp.elim
  | done x0=>
    have hf:=hd.resolve_left (by intro h; cases h)
    unfold Rep at hp
    subst hp;refine enter (l:=[.agg (progCells true (encInt.cells x0) 0 0 0 0 .nilFunc),kf ff f1 f2]) Tryz.func223 rfl 15 rfl rfl fun fr r=>?_;have hB:=Below.refl w0.heap.size w0
    refine wp_seq (wp_region_lit ?_);refine kX 119 (.agg (progCells true (encInt.cells x0) 0 0 0 0 .nilFunc)) r rfl rfl fun b1 w1 q1 r=>?_;refine kX 261 (kf ff f1 f2) r rfl rfl fun b2 w2 q2 r=>?_
    refine seq_new (.cells (kq encInt) 119 (0,0)) r (fun R=>y_alloc tz119) rfl fun fr b3 w3 q3 r=>wpList_nil ?_;have h1:=keep q3.below (keep q2.below q1.at_)
    have h2:=keep q3.below q2.at_;have h3:=q3.at_;have e1:=q1.eq; have e2:=q2.eq; have e3:=q3.eq; have z1:=q1.size; have z2:=q2.size; have z3:=q3.size;have hB:=((hB.trans q1.below).trans (q2.below.mono (by omega))).trans (q3.below.mono (by omega))
    have zB:=hB.size;refine wp_seq (wp_seq (wp_region_lit (seq_val (zp b1) r (fun R=>y_fieldAddr r (o:=0) rfl fo119_0) rfl fun fr r=>?_)));refine seq_val (.bool true) r (fun R=>y_load_one r (v:=.bool true) rfl h1 to4 rfl) rfl fun fr r=>wpList_nil ?_
    refine wp_cond_split (t:=true) (r.ev rfl) (fun _=>?_) (fun h=>by cases h)
    refine wp_seq (wp_region_lit (seq_val (kf ff f1 f2) r (fun R=>y_load_one r (v:=kf ff f1 f2) rfl h2 to261 rfl) rfl fun fr r=>seq_val (.pointer (some ⟨b1,1,none⟩)) r (fun R=>y_fieldAddr r (o:=0) rfl fo119_1) rfl fun fr r=>seq_val (.int .i64 x0) r (fun R=>y_load_one r (v:=(.int .i64 x0)) rfl h1 to3 rfl) rfl fun fr r=>?_));refine seq_call r (hf.at_.2 n (Nat.lt_succ_self n) x0 w3 (Same.below hB hF) hB.size) (fun R hc=>y_callv r rfl rfl hf.at_.1 hc) rfl ?_
    rintro _ w4 ⟨v,rfl,hb,hr⟩;refine ⟨_,rfl,fun fr r=>?_⟩
    have z4:=hb.size;have h3:=keep hb h3;have hB:=hB.trans (hb.mono hB.size);refine kP r hr.shape rfl rfl h3 ts119 rfl rfl fun w5 u5 r=>wpList_nil ?_;have z5:=u5.size
    have h3:=u5.at_;have hB:=u5.below hB (by omega)
    refine wp_ret ?_;have hs:=hr.shape.cells;refine ret_cell r rfl rfl h3 (k:=7) hs.1 ta119 ?_;rw [←hs.2.2];exact RepRes.fin hB hr u5 (fun b hb=>.inl hb) (fun h=>by have:=hF _ h; omega) (by omega) (by omega) (by omega)
  | act op at_ a b k=>
    obtain ⟨nf,n1,n2,hcn,rfl,hk⟩:∃ (nf:FuncId) (n1 n2:List Value),callable Tryz.prog nf=true∧pv=.agg (progCells false encInt.zero op at_ a b (kf nf n1 n2))∧FnT Tryz.prog encInt u64 n F w0 (kf nf n1 n2) k:=by
      exact Rep.act_inv hp
    refine enter (l:=[.agg (progCells false encInt.zero op at_ a b (kf nf n1 n2)),kf ff f1 f2]) Tryz.func223 rfl 15 rfl rfl fun fr r=>?_;have hB:=Below.refl w0.heap.size w0
    refine wp_seq (wp_region_lit ?_);refine kX 119 (.agg (progCells false encInt.zero op at_ a b (kf nf n1 n2))) r rfl rfl fun b1 w1 q1 r=>?_;refine kX 261 (kf ff f1 f2) r rfl rfl fun b2 w2 q2 r=>?_
    refine seq_new (.cells (kq encInt) 119 (0,0)) r (fun R=>y_alloc tz119) rfl fun fr b3 w3 q3 r=>wpList_nil ?_;have h1:=keep q3.below (keep q2.below q1.at_)
    have h2:=keep q3.below q2.at_;have h3:=q3.at_;have e1:=q1.eq; have e2:=q2.eq; have e3:=q3.eq; have z1:=q1.size; have z2:=q2.size; have z3:=q3.size;have hB:=((hB.trans q1.below).trans (q2.below.mono (by omega))).trans (q3.below.mono (by omega))
    have zB:=hB.size;refine wp_seq (wp_seq (wp_region_lit (seq_val (zp b1) r (fun R=>y_fieldAddr r (o:=0) rfl fo119_0) rfl fun fr r=>?_)));refine seq_val (.bool false) r (fun R=>y_load_one r (v:=.bool false) rfl h1 to4 rfl) rfl fun fr r=>wpList_nil ?_
    refine wp_cond_split (t:=false) (r.ev rfl) (fun h=>by cases h) (fun _=>wp_skip ?_);refine wp_seq (wp_region_lit (seq_val (.pointer (some ⟨b1,2,none⟩)) r (fun R=>y_fieldAddr r (o:=0) rfl fo119_2) rfl fun fr r=>kG (accessC (⟨op,at_,a,b⟩:Access)) 4 r rfl h1 ta38 rfl rfl fun r=>seq_val (.func (.func 297) #[] #[zp b1,zp b2]) r (fun R=>y_makeFunc r rfl) rfl fun fr r=>?_))
    have hF1:∀ b,(fun b=>F b∨b=b1∨b=b2) b→b<w3.heap.size:=by rintro b (h | h | h); exact Nat.lt_of_lt_of_le (hF b h) hB.size; omega; omega
    refine kC r (c_prog_Do_int (F:=fun b=>F b∨b=b1∨b=b2) (n:=n) hF1 ⟨op,at_,a,b⟩ (a1:=fun x=>(k x).bind g) (show FnT Tryz.prog encInt u64 n (fun b=>F b∨b=b1∨b=b2) w3 (kf 297 [] [zp b1,zp b2]) (fun x=>(k x).bind g) from
      ⟨297,[],[zp b1,zp b2],cl297,rfl,fun m hm x w' hs hz=>k_prog_Then_int_int (ih m hm) (fun b hb=>Nat.lt_of_lt_of_le (hF1 b hb) hz) (.inr (.inl rfl)) (hs.at_ (.inr (.inl rfl)) h1) (.inr (.inr rfl)) (hs.at_ (.inr (.inr rfl)) h2)
        (hk.mono (by omega) (fun b h=>.inl h) ((Same.below hB hF).trans (hs.sub (fun b h=>.inl h))) (Nat.le_trans hB.size hz)) (hf.mono (by omega) (fun b h=>.inl h) ((Same.below hB hF).trans (hs.sub (fun b h=>.inl h))) (Nat.le_trans hB.size hz)) x⟩)) rfl cl283 rfl ?_
    rintro _ w4 ⟨v,rfl,hb,hr⟩;refine ⟨_,rfl,fun fr r=>?_⟩
    have z4:=hb.size;have h3:=keep hb h3;have hB:=hB.trans (hb.mono hB.size);refine kP r hr.shape rfl rfl h3 ts119 rfl rfl fun w5 u5 r=>wpList_nil ?_;have z5:=u5.size
    have h3:=u5.at_;have hB:=u5.below hB (by omega)
    refine wp_ret ?_;have hs:=hr.shape.cells;refine ret_cell r rfl rfl h3 (k:=7) hs.1 ta119 ?_;rw [←hs.2.2];exact RepRes.fin hB hr u5 (by rintro b (h | h | h); exact .inl h; exact .inr ⟨by omega,by omega⟩; exact .inr ⟨by omega,by omega⟩) (by rintro (h | h | h); (have:=hF _ h; omega); omega; omega) (by omega) (by omega) (by omega)
theorem c_prog_Then_int_int_lt (hF:kH F w0) {t:T (Int)} {pv fv:Value} {g:Int→T (Int)} (hp:Rep Tryz.prog encInt n t F w0 pv) (hf:FnT Tryz.prog encInt i64 n F w0 fv g) (hd:t.isDone=false) :
    Calls Tryz.prog 223 #[pv,fv] w0 (RepRes Tryz.prog encInt n (t.bind g) F w0):=s_prog_Then_int_int n hF hp hf (.inl hd)
theorem c_prog_Then_int_int_le (hF:kH F w0) {t:T (Int)} {pv fv:Value} {g:Int→T (Int)} (hp:Rep Tryz.prog encInt n t F w0 pv) (hf:FnT Tryz.prog encInt i64 (n+1) F w0 fv g) :
    Calls Tryz.prog 223 #[pv,fv] w0 (RepRes Tryz.prog encInt n (t.bind g) F w0):=s_prog_Then_int_int n hF hp (hf.mono (by omega) (fun b h=>h) (Same.refl _ _) (Nat.le_refl _)) (.inr hf)
end
end Go.Proofs.YtbbipmelhmgmfaaGreat

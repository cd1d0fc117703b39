/- Ours. -/
import Derived.Test.YtbbipmelhmgmfaaGreatTcThens
set_option linter.all false
set_option maxRecDepth 100000
set_option maxHeartbeats 20000000
namespace Go.Proofs.YtbbipmelhmgmfaaGreat
open Go.RowKit
section
variable {n : Nat} {F : Nat → Prop} {j : Nat} {w0 : World}
theorem cl202:callable Tryz.prog 202:=by kernel_rfl
theorem cl204:callable Tryz.prog 204:=by kernel_rfl
theorem cl214:callable Tryz.prog 214:=by kernel_rfl
theorem cl284:callable Tryz.prog 284:=by kernel_rfl
theorem cl291:callable Tryz.prog 291:=by kernel_rfl
theorem cl292:callable Tryz.prog 292:=by kernel_rfl
theorem cl294:callable Tryz.prog 294:=by kernel_rfl
theorem cl344:callable Tryz.prog 344:=by kernel_rfl
theorem cl345:callable Tryz.prog 345:=by kernel_rfl
theorem cl400:callable Tryz.prog 400:=by kernel_rfl
theorem to171:tyO Tryz.prog 171:=by kernel_rfl
theorem to200:tyO Tryz.prog 200:=by kernel_rfl
theorem to239:tyO Tryz.prog 239:=by kernel_rfl
theorem to252:tyO Tryz.prog 252:=by kernel_rfl
theorem to286:tyO Tryz.prog 286:=by kernel_rfl
def D.prog_Store_None_1 (c0:(Unit→T Unit)) (a0:Int):T Unit:=(c0 ())
theorem c_prog_Store_None_1 (hF:kH F w0)
    {c0f:FuncId} {c0_1 c0_2:List Value} {c0:(Unit→T Unit)} {c0b:Nat} (c0F:F c0b) (c0h:w0.heap[c0b]?=some (.cells #[kf c0f c0_1 c0_2] 252 (0,0))) (c0n:FnT Tryz.prog encNone unitE (n+1) F w0 (kf c0f c0_1 c0_2) c0) (a0:Int) :
    Calls Tryz.prog 294 #[.int .u64 a0,zp c0b] w0 (RepRes Tryz.prog encNone n (D.prog_Store_None_1 c0 a0) F w0):=by
 refine kN Tryz.func294 rfl 6 rfl rfl fun fr r hB=>?_;have lc0b:=lt_of_block c0h
 refine wsr ?_;refine seq_new (.cells (kq encNone) 133 (0,0)) r (fun R=>y_alloc tz133) rfl fun fr b1 w2 n3 r=>?_;obtain ⟨eb1,zw2,hb1,hB,zB⟩:=n3.all hB
 refine wn (wsr (kL (kf c0f c0_1 c0_2) r rfl (keep hB c0h) to252 rfl rfl fun r=>?_));refine seq_call r (c0n.at_.2 n (Nat.lt_succ_self n) () w2 (Same.below hB hF) hB.size) (fun R hc=>y_callv0 r rfl c0n.at_.1 hc) rfl ?_
 rintro _ w4 ⟨v5,rfl,hb,hr6⟩;refine ⟨_,rfl,fun fr r=>?_⟩
 have zw4:=hb.size;have hb1:=keep hb hb1;obtain ⟨hB,zB⟩:=bon hb hB;refine kP r hr6.shape rfl rfl hb1 ts133 rfl rfl fun w7 u8 r=>?_;have zw7:=u8.size
 have hb1:=u8.at_;obtain ⟨hB,zB⟩:=u8.on hB (by omega)
 refine wn (wp_ret ?_);have hs:=hr6.shape.cells;refine ret_cell r rfl rfl hb1 (k:=6) hs.1 ta133 ?_;rw [←hs.2.2];exact RepRes.fin hB hr6 u8 (fun b hb=>.inl hb) (fun h=>by have:=hF _ h; omega) (by omega) (by omega) (by omega)
def D.prog_Store_None (a0:Int) (a1:Int) (a2:(Unit→T Unit)):T Unit:=(D.prog_Do_None (⟨1,a0,a1,0⟩:Access) (fun x=>(D.prog_Store_None_1 a2 x)))
theorem c_prog_Store_None (hF:kH F w0)
    (a0:Int) (a1:Int) {a2f:FuncId} {a2_1 a2_2:List Value} {a2:(Unit→T Unit)} (a2n:FnT Tryz.prog encNone unitE (n) F w0 (kf a2f a2_1 a2_2) a2) :
    Calls Tryz.prog 202 #[.int .i64 a0,.int .u64 a1,kf a2f a2_1 a2_2] w0 (RepRes Tryz.prog encNone n (D.prog_Store_None a0 a1 a2) F w0):=by
 refine kN Tryz.func202 rfl 12 rfl rfl fun fr r hB=>?_;refine wsr ?_
 refine kX 252 (kf a2f a2_1 a2_2) r rfl rfl fun b1 w2 n3 r=>?_;obtain ⟨eb1,zw2,hb1,hB,zB⟩:=n3.all hB
 refine seq_new (.cells (kq encNone) 133 (0,0)) r (fun R=>y_alloc tz133) rfl fun fr b4 w5 n6 r=>?_;have hb1:=keep n6.below hb1
 obtain ⟨eb4,zw5,hb4,hB,zB⟩:=n6.all hB;refine wn (wsr (kM (I a0) r rfl rfl fun r=>kM (U a1) r rfl rfl fun r=>kU (.agg (accessC (⟨1,a0,a1,0⟩:Access)).toArray) r (by kernel_rfl) rfl fun r=>seq_val (.func (.func 294) #[] #[zp b1]) r (fun R=>y_makeFunc r rfl) rfl fun fr r=>?_));have hF1:=fgrow hF hB b4
 have f7:((kW F w0 w5 b4)) b1:=(.inr ⟨by omega,by omega,by omega⟩)
 refine kD r (c_prog_Do_None (F:=(kW F w0 w5 b4)) (n:=n) hF1 (⟨1,a0,a1,0⟩:Access) ⟨294,[],[zp b1],cl294,rfl,fun m hm x w' hs hz=>c_prog_Store_None_1 (fun b hb=>Nat.lt_of_lt_of_le (hF1 b hb) hz) f7 (hs.at_ f7 hb1) (a2n.mono (by omega) (fun b h=>.inl h) ((Same.below hB hF).trans (hs.sub (fun b h=>.inl h))) (Nat.le_trans hB.size hz)) x⟩) rfl cl293 rfl fun w8 v9 hb hr10 r=>?_;have zw8:=hb.size
 have hb1:=keep hb hb1;have hb4:=keep hb hb4;obtain ⟨hB,zB⟩:=bon hb hB;refine kP r hr10.shape rfl rfl hb4 ts133 rfl rfl fun w11 u12 r=>?_;have zw11:=u12.size
 have hb1:=u12.keep hb1 (by omega)
 have hb4:=u12.at_;obtain ⟨hB,zB⟩:=u12.on hB (by omega)
 exact wn (wp_ret (kR r hr10 rfl rfl hb4 rfl ta133 hF hB u12 (by omega) (by omega) (by omega)))
def D.prog_Set_1 :T Unit:=D.prog_Done_None
theorem c_prog_Set_1 (hF:kH F w0)
     :
    Calls Tryz.prog 291 #[] w0 (RepRes Tryz.prog encNone n D.prog_Set_1 F w0):=by
 refine kN Tryz.func291 rfl 3 rfl rfl fun fr r hB=>?_;refine wsr ?_
 refine seq_new (.cells (kq encNone) 133 (0,0)) r (fun R=>y_alloc tz133) rfl fun fr b1 w2 n3 r=>?_;obtain ⟨eb1,zw2,hb1,hB,zB⟩:=n3.all hB
 refine wn (wsr (kU (.agg #[]) r (by kernel_rfl) rfl fun r=>?_));have hF1:=fgrow hF hB b1
 refine kD r (c_prog_Done_None (F:=(kW F w0 w2 b1)) (n:=n) hF1 ) rfl cl292 rfl fun w4 v5 hb hr6 r=>?_;have zw4:=hb.size
 have hb1:=keep hb hb1;obtain ⟨hB,zB⟩:=bon hb hB;refine kP r hr6.shape rfl rfl hb1 ts133 rfl rfl fun w7 u8 r=>?_;have zw7:=u8.size
 have hb1:=u8.at_;obtain ⟨hB,zB⟩:=u8.on hB (by omega)
 exact wn (wp_ret (kR r hr6 rfl rfl hb1 rfl ta133 hF hB u8 (by omega) (by omega) (by omega)))
def D.prog_Set (a0:Int) (a1:Int):T Unit:=(D.prog_Store_None a0 a1 (fun _=>D.prog_Set_1))
theorem c_prog_Set (hF:kH F w0)
    (a0:Int) (a1:Int) :
    Calls Tryz.prog 200 #[.int .i64 a0,.int .u64 a1] w0 (RepRes Tryz.prog encNone n (D.prog_Set a0 a1) F w0):=by
 refine kN Tryz.func200 rfl 8 rfl rfl fun fr r hB=>?_;refine wsr ?_
 refine seq_new (.cells (kq encNone) 133 (0,0)) r (fun R=>y_alloc tz133) rfl fun fr b1 w2 n3 r=>?_;obtain ⟨eb1,zw2,hb1,hB,zB⟩:=n3.all hB
 refine wn (wsr (kM (I a0) r rfl rfl fun r=>kM (U a1) r rfl rfl fun r=>?_));have hF1:=fgrow hF hB b1
 refine kD r (c_prog_Store_None (F:=(kW F w0 w2 b1)) (n:=n) hF1 a0 a1 ⟨291,[],[],cl291,rfl,fun m hm _ w' hs hz=>c_prog_Set_1 (fun b hb=>Nat.lt_of_lt_of_le (hF1 b hb) hz) ⟩) rfl cl202 rfl fun w4 v5 hb hr6 r=>?_;have zw4:=hb.size
 have hb1:=keep hb hb1;obtain ⟨hB,zB⟩:=bon hb hB;refine kP r hr6.shape rfl rfl hb1 ts133 rfl rfl fun w7 u8 r=>?_;have zw7:=u8.size
 have hb1:=u8.at_;obtain ⟨hB,zB⟩:=u8.on hB (by omega)
 exact wn (wp_ret (kR r hr6 rfl rfl hb1 rfl ta133 hF hB u8 (by omega) (by omega) (by omega)))
def D.prog_Swap_Res_1 (c0:(Bool→T Res)) (c1:Int) (a0:Int):T Res:=(c0 (a0==c1))
def D.prog_Swap_Res (a0:Int) (a1:Int) (a2:Int) (a3:(Bool→T Res)):T Res:=(D.prog_Do_Res (⟨2,a0,a1,a2⟩:Access) (fun x=>(D.prog_Swap_Res_1 a3 a1 x)))
def D.prog_Store_Res_1 (c0:(Unit→T Res)) (a0:Int):T Res:=(c0 ())
def D.prog_Store_Res (a0:Int) (a1:Int) (a2:(Unit→T Res)):T Res:=(D.prog_Do_Res (⟨1,a0,a1,0⟩:Access) (fun x=>(D.prog_Store_Res_1 a2 x)))
def D.prog_Load_int (a0:Int) (a1:(Int→T Int)):T Int:=(D.prog_Do_int (⟨0,a0,0,0⟩:Access) a1)
theorem c_prog_Load_int (hF:kH F w0)
    (a0:Int) {a1f:FuncId} {a1_1 a1_2:List Value} {a1:(Int→T Int)} (a1n:FnT Tryz.prog encInt u64 (n) F w0 (kf a1f a1_1 a1_2) a1) :
    Calls Tryz.prog 186 #[.int .i64 a0,kf a1f a1_1 a1_2] w0 (RepRes Tryz.prog encInt n (D.prog_Load_int a0 a1) F w0):=by
 refine kN Tryz.func186 rfl 9 rfl rfl fun fr r hB=>?_;refine wsr ?_
 refine seq_new (.cells (kq encInt) 119 (0,0)) r (fun R=>y_alloc tz119) rfl fun fr b1 w2 n3 r=>?_;obtain ⟨eb1,zw2,hb1,hB,zB⟩:=n3.all hB
 refine wn (wsr (kM (I a0) r rfl rfl fun r=>kU (.agg (accessC (⟨0,a0,0,0⟩:Access)).toArray) r (by kernel_rfl) rfl fun r=>kM (kf a1f a1_1 a1_2) r rfl rfl fun r=>?_));have hF1:=fgrow hF hB b1
 refine kD r (c_prog_Do_int (F:=(kW F w0 w2 b1)) (n:=n) hF1 (⟨0,a0,0,0⟩:Access) (a1n.mono (by omega) (fun b h=>.inl h) (Same.below hB hF) hB.size)) rfl cl283 rfl fun w4 v5 hb hr6 r=>?_;have zw4:=hb.size
 have hb1:=keep hb hb1;obtain ⟨hB,zB⟩:=bon hb hB;refine kP r hr6.shape rfl rfl hb1 ts119 rfl rfl fun w7 u8 r=>?_;have zw7:=u8.size
 have hb1:=u8.at_;obtain ⟨hB,zB⟩:=u8.on hB (by omega)
 exact wn (wp_ret (kR r hr6 rfl rfl hb1 rfl ta119 hF hB u8 (by omega) (by omega) (by omega)))
def D.prog_Swap_int_1 (c0:(Bool→T Int)) (c1:Int) (a0:Int):T Int:=(c0 (a0==c1))
theorem c_prog_Swap_int_1 (hF:kH F w0)
    {c0f:FuncId} {c0_1 c0_2:List Value} {c0:(Bool→T Int)} {c0b:Nat} (c0F:F c0b) (c0h:w0.heap[c0b]?=some (.cells #[kf c0f c0_1 c0_2] 290 (0,0))) (c0n:FnT Tryz.prog encInt boolE (n+1) F w0 (kf c0f c0_1 c0_2) c0) (c1:Int) {c1b:Nat} (c1F:F c1b) (c1h:w0.heap[c1b]?=some (.cells ([(.int .u64 c1)]).toArray 34 (0,0))) (a0:Int) :
    Calls Tryz.prog 345 #[.int .u64 a0,zp c0b,zp c1b] w0 (RepRes Tryz.prog encInt n (D.prog_Swap_int_1 c0 c1 a0) F w0):=by
 refine kN Tryz.func345 rfl 10 rfl rfl fun fr r hB=>?_;have lc0b:=lt_of_block c0h
 have lc1b:=lt_of_block c1h;refine wsr ?_;refine seq_new (.cells (kq encInt) 119 (0,0)) r (fun R=>y_alloc tz119) rfl fun fr b1 w2 n3 r=>?_;obtain ⟨eb1,zw2,hb1,hB,zB⟩:=n3.all hB
 refine wn (wsr (kL (kf c0f c0_1 c0_2) r rfl (keep hB c0h) to290 rfl rfl fun r=>kM (U a0) r rfl rfl fun r=>kL (U c1) r rfl (keep hB c1h) to34 rfl rfl fun r=>kB r rfl rfl rfl rfl rfl fun r=>?_));refine seq_call r (c0n.at_.2 n (Nat.lt_succ_self n) (a0==c1) w2 (Same.below hB hF) hB.size) (fun R hc=>y_callv1 r rfl rfl c0n.at_.1 hc) rfl ?_
 rintro _ w4 ⟨v5,rfl,hb,hr6⟩;refine ⟨_,rfl,fun fr r=>?_⟩
 have zw4:=hb.size;have hb1:=keep hb hb1;obtain ⟨hB,zB⟩:=bon hb hB;refine kP r hr6.shape rfl rfl hb1 ts119 rfl rfl fun w7 u8 r=>?_;have zw7:=u8.size
 have hb1:=u8.at_;obtain ⟨hB,zB⟩:=u8.on hB (by omega)
 refine wn (wp_ret ?_);have hs:=hr6.shape.cells;refine ret_cell r rfl rfl hb1 (k:=7) hs.1 ta119 ?_;rw [←hs.2.2];exact RepRes.fin hB hr6 u8 (fun b hb=>.inl hb) (fun h=>by have:=hF _ h; omega) (by omega) (by omega) (by omega)
def D.prog_Swap_int (a0:Int) (a1:Int) (a2:Int) (a3:(Bool→T Int)):T Int:=(D.prog_Do_int (⟨2,a0,a1,a2⟩:Access) (fun x=>(D.prog_Swap_int_1 a3 a1 x)))
theorem c_prog_Swap_int (hF:kH F w0)
    (a0:Int) (a1:Int) (a2:Int) {a3f:FuncId} {a3_1 a3_2:List Value} {a3:(Bool→T Int)} (a3n:FnT Tryz.prog encInt boolE (n) F w0 (kf a3f a3_1 a3_2) a3) :
    Calls Tryz.prog 278 #[.int .i64 a0,.int .u64 a1,.int .u64 a2,kf a3f a3_1 a3_2] w0 (RepRes Tryz.prog encInt n (D.prog_Swap_int a0 a1 a2 a3) F w0):=by
 refine kN Tryz.func278 rfl 15 rfl rfl fun fr r hB=>?_;refine wsr ?_
 refine kX 34 (U a1) r rfl rfl fun b1 w2 n3 r=>?_;obtain ⟨eb1,zw2,hb1,hB,zB⟩:=n3.all hB
 refine kX 290 (kf a3f a3_1 a3_2) r rfl rfl fun b4 w5 n6 r=>?_;have hb1:=keep n6.below hb1
 obtain ⟨eb4,zw5,hb4,hB,zB⟩:=n6.all hB;refine seq_new (.cells (kq encInt) 119 (0,0)) r (fun R=>y_alloc tz119) rfl fun fr b7 w8 n9 r=>?_;have hb1:=keep n9.below hb1
 have hb4:=keep n9.below hb4;obtain ⟨eb7,zw8,hb7,hB,zB⟩:=n9.all hB;refine wn (wsr (kM (I a0) r rfl rfl fun r=>kL (U a1) r rfl hb1 to34 rfl rfl fun r=>kM (U a2) r rfl rfl fun r=>kU (.agg (accessC (⟨2,a0,a1,a2⟩:Access)).toArray) r (by kernel_rfl) rfl fun r=>seq_val (.func (.func 345) #[] #[zp b4,zp b1]) r (fun R=>y_makeFunc r rfl) rfl fun fr r=>?_));have hF1:=fgrow hF hB b7
 have f10:((kW F w0 w8 b7)) b4:=(.inr ⟨by omega,by omega,by omega⟩)
 have f11:((kW F w0 w8 b7)) b1:=(.inr ⟨by omega,by omega,by omega⟩)
 refine kD r (c_prog_Do_int (F:=(kW F w0 w8 b7)) (n:=n) hF1 (⟨2,a0,a1,a2⟩:Access) ⟨345,[],[zp b4,zp b1],cl345,rfl,fun m hm x w' hs hz=>c_prog_Swap_int_1 (fun b hb=>Nat.lt_of_lt_of_le (hF1 b hb) hz) f10 (hs.at_ f10 hb4) (a3n.mono (by omega) (fun b h=>.inl h) ((Same.below hB hF).trans (hs.sub (fun b h=>.inl h))) (Nat.le_trans hB.size hz)) a1 f11 (hs.at_ f11 hb1) x⟩) rfl cl283 rfl fun w12 v13 hb hr14 r=>?_;have zw12:=hb.size
 have hb1:=keep hb hb1;have hb4:=keep hb hb4;have hb7:=keep hb hb7;obtain ⟨hB,zB⟩:=bon hb hB;refine kP r hr14.shape rfl rfl hb7 ts119 rfl rfl fun w15 u16 r=>?_;have zw15:=u16.size
 have hb1:=u16.keep hb1 (by omega)
 have hb4:=u16.keep hb4 (by omega)
 have hb7:=u16.at_;obtain ⟨hB,zB⟩:=u16.on hB (by omega)
 exact wn (wp_ret (kR r hr14 rfl rfl hb7 rfl ta119 hF hB u16 (by omega) (by omega) (by omega)))
def D.prog_Load_Grant (a0:Int) (a1:(Int→T Grant)):T Grant:=(D.prog_Do_Grant (⟨0,a0,0,0⟩:Access) a1)
theorem c_prog_Load_Grant (hF:kH F w0)
    (a0:Int) {a1f:FuncId} {a1_1 a1_2:List Value} {a1:(Int→T Grant)} (a1n:FnT Tryz.prog encGrant u64 (n) F w0 (kf a1f a1_1 a1_2) a1) :
    Calls Tryz.prog 269 #[.int .i64 a0,kf a1f a1_1 a1_2] w0 (RepRes Tryz.prog encGrant n (D.prog_Load_Grant a0 a1) F w0):=by
 refine kN Tryz.func269 rfl 9 rfl rfl fun fr r hB=>?_;refine wsr ?_
 refine seq_new (.cells (kq encGrant) 116 (0,0)) r (fun R=>y_alloc tz116) rfl fun fr b1 w2 n3 r=>?_;obtain ⟨eb1,zw2,hb1,hB,zB⟩:=n3.all hB
 refine wn (wsr (kM (I a0) r rfl rfl fun r=>kU (.agg (accessC (⟨0,a0,0,0⟩:Access)).toArray) r (by kernel_rfl) rfl fun r=>kM (kf a1f a1_1 a1_2) r rfl rfl fun r=>?_));have hF1:=fgrow hF hB b1
 refine kD r (c_prog_Do_Grant (F:=(kW F w0 w2 b1)) (n:=n) hF1 (⟨0,a0,0,0⟩:Access) (a1n.mono (by omega) (fun b h=>.inl h) (Same.below hB hF) hB.size)) rfl cl274 rfl fun w4 v5 hb hr6 r=>?_;have zw4:=hb.size
 have hb1:=keep hb hb1;obtain ⟨hB,zB⟩:=bon hb hB;refine kP r hr6.shape rfl rfl hb1 ts116 rfl rfl fun w7 u8 r=>?_;have zw7:=u8.size
 have hb1:=u8.at_;obtain ⟨hB,zB⟩:=u8.on hB (by omega)
 exact wn (wp_ret (kR r hr6 rfl rfl hb1 rfl ta116 hF hB u8 (by omega) (by omega) (by omega)))
def D.prog_Store_Grant_1 (c0:(Unit→T Grant)) (a0:Int):T Grant:=(c0 ())
theorem c_prog_Store_Grant_1 (hF:kH F w0)
    {c0f:FuncId} {c0_1 c0_2:List Value} {c0:(Unit→T Grant)} {c0b:Nat} (c0F:F c0b) (c0h:w0.heap[c0b]?=some (.cells #[kf c0f c0_1 c0_2] 286 (0,0))) (c0n:FnT Tryz.prog encGrant unitE (n+1) F w0 (kf c0f c0_1 c0_2) c0) (a0:Int) :
    Calls Tryz.prog 344 #[.int .u64 a0,zp c0b] w0 (RepRes Tryz.prog encGrant n (D.prog_Store_Grant_1 c0 a0) F w0):=by
 refine kN Tryz.func344 rfl 6 rfl rfl fun fr r hB=>?_;have lc0b:=lt_of_block c0h
 refine wsr ?_;refine seq_new (.cells (kq encGrant) 116 (0,0)) r (fun R=>y_alloc tz116) rfl fun fr b1 w2 n3 r=>?_;obtain ⟨eb1,zw2,hb1,hB,zB⟩:=n3.all hB
 refine wn (wsr (kL (kf c0f c0_1 c0_2) r rfl (keep hB c0h) to286 rfl rfl fun r=>?_));refine seq_call r (c0n.at_.2 n (Nat.lt_succ_self n) () w2 (Same.below hB hF) hB.size) (fun R hc=>y_callv0 r rfl c0n.at_.1 hc) rfl ?_
 rintro _ w4 ⟨v5,rfl,hb,hr6⟩;refine ⟨_,rfl,fun fr r=>?_⟩
 have zw4:=hb.size;have hb1:=keep hb hb1;obtain ⟨hB,zB⟩:=bon hb hB;refine kP r hr6.shape rfl rfl hb1 ts116 rfl rfl fun w7 u8 r=>?_;have zw7:=u8.size
 have hb1:=u8.at_;obtain ⟨hB,zB⟩:=u8.on hB (by omega)
 refine wn (wp_ret ?_);have hs:=hr6.shape.cells;refine ret_cell r rfl rfl hb1 (k:=9) hs.1 ta116 ?_;rw [←hs.2.2];exact RepRes.fin hB hr6 u8 (fun b hb=>.inl hb) (fun h=>by have:=hF _ h; omega) (by omega) (by omega) (by omega)
def D.prog_Store_Grant (a0:Int) (a1:Int) (a2:(Unit→T Grant)):T Grant:=(D.prog_Do_Grant (⟨1,a0,a1,0⟩:Access) (fun x=>(D.prog_Store_Grant_1 a2 x)))
theorem c_prog_Store_Grant (hF:kH F w0)
    (a0:Int) (a1:Int) {a2f:FuncId} {a2_1 a2_2:List Value} {a2:(Unit→T Grant)} (a2n:FnT Tryz.prog encGrant unitE (n) F w0 (kf a2f a2_1 a2_2) a2) :
    Calls Tryz.prog 271 #[.int .i64 a0,.int .u64 a1,kf a2f a2_1 a2_2] w0 (RepRes Tryz.prog encGrant n (D.prog_Store_Grant a0 a1 a2) F w0):=by
 refine kN Tryz.func271 rfl 12 rfl rfl fun fr r hB=>?_;refine wsr ?_
 refine kX 286 (kf a2f a2_1 a2_2) r rfl rfl fun b1 w2 n3 r=>?_;obtain ⟨eb1,zw2,hb1,hB,zB⟩:=n3.all hB
 refine seq_new (.cells (kq encGrant) 116 (0,0)) r (fun R=>y_alloc tz116) rfl fun fr b4 w5 n6 r=>?_;have hb1:=keep n6.below hb1
 obtain ⟨eb4,zw5,hb4,hB,zB⟩:=n6.all hB;refine wn (wsr (kM (I a0) r rfl rfl fun r=>kM (U a1) r rfl rfl fun r=>kU (.agg (accessC (⟨1,a0,a1,0⟩:Access)).toArray) r (by kernel_rfl) rfl fun r=>seq_val (.func (.func 344) #[] #[zp b1]) r (fun R=>y_makeFunc r rfl) rfl fun fr r=>?_));have hF1:=fgrow hF hB b4
 have f7:((kW F w0 w5 b4)) b1:=(.inr ⟨by omega,by omega,by omega⟩)
 refine kD r (c_prog_Do_Grant (F:=(kW F w0 w5 b4)) (n:=n) hF1 (⟨1,a0,a1,0⟩:Access) ⟨344,[],[zp b1],cl344,rfl,fun m hm x w' hs hz=>c_prog_Store_Grant_1 (fun b hb=>Nat.lt_of_lt_of_le (hF1 b hb) hz) f7 (hs.at_ f7 hb1) (a2n.mono (by omega) (fun b h=>.inl h) ((Same.below hB hF).trans (hs.sub (fun b h=>.inl h))) (Nat.le_trans hB.size hz)) x⟩) rfl cl274 rfl fun w8 v9 hb hr10 r=>?_;have zw8:=hb.size
 have hb1:=keep hb hb1;have hb4:=keep hb hb4;obtain ⟨hB,zB⟩:=bon hb hB;refine kP r hr10.shape rfl rfl hb4 ts116 rfl rfl fun w11 u12 r=>?_;have zw11:=u12.size
 have hb1:=u12.keep hb1 (by omega)
 have hb4:=u12.at_;obtain ⟨hB,zB⟩:=u12.on hB (by omega)
 exact wn (wp_ret (kR r hr10 rfl rfl hb4 rfl ta116 hF hB u12 (by omega) (by omega) (by omega)))
def D.prog_Load_bool (a0:Int) (a1:(Int→T Bool)):T Bool:=(D.prog_Do_bool (⟨0,a0,0,0⟩:Access) a1)
theorem c_prog_Load_bool (hF:kH F w0)
    (a0:Int) {a1f:FuncId} {a1_1 a1_2:List Value} {a1:(Int→T Bool)} (a1n:FnT Tryz.prog encBool u64 (n) F w0 (kf a1f a1_1 a1_2) a1) :
    Calls Tryz.prog 396 #[.int .i64 a0,kf a1f a1_1 a1_2] w0 (RepRes Tryz.prog encBool n (D.prog_Load_bool a0 a1) F w0):=by
 refine kN Tryz.func396 rfl 9 rfl rfl fun fr r hB=>?_;refine wsr ?_
 refine seq_new (.cells (kq encBool) 318 (0,0)) r (fun R=>y_alloc tz318) rfl fun fr b1 w2 n3 r=>?_;obtain ⟨eb1,zw2,hb1,hB,zB⟩:=n3.all hB
 refine wn (wsr (kM (I a0) r rfl rfl fun r=>kU (.agg (accessC (⟨0,a0,0,0⟩:Access)).toArray) r (by kernel_rfl) rfl fun r=>kM (kf a1f a1_1 a1_2) r rfl rfl fun r=>?_));have hF1:=fgrow hF hB b1
 refine kD r (c_prog_Do_bool (F:=(kW F w0 w2 b1)) (n:=n) hF1 (⟨0,a0,0,0⟩:Access) (a1n.mono (by omega) (fun b h=>.inl h) (Same.below hB hF) hB.size)) rfl cl400 rfl fun w4 v5 hb hr6 r=>?_;have zw4:=hb.size
 have hb1:=keep hb hb1;obtain ⟨hB,zB⟩:=bon hb hB;refine kP r hr6.shape rfl rfl hb1 ts318 rfl rfl fun w7 u8 r=>?_;have zw7:=u8.size
 have hb1:=u8.at_;obtain ⟨hB,zB⟩:=u8.on hB (by omega)
 exact wn (wp_ret (kR r hr6 rfl rfl hb1 rfl ta318 hF hB u8 (by omega) (by omega) (by omega)))
def D.prog_Store_int_1 (c0:(Unit→T Int)) (a0:Int):T Int:=(c0 ())
theorem c_prog_Store_int_1 (hF:kH F w0)
    {c0f:FuncId} {c0_1 c0_2:List Value} {c0:(Unit→T Int)} {c0b:Nat} (c0F:F c0b) (c0h:w0.heap[c0b]?=some (.cells #[kf c0f c0_1 c0_2] 239 (0,0))) (c0n:FnT Tryz.prog encInt unitE (n+1) F w0 (kf c0f c0_1 c0_2) c0) (a0:Int) :
    Calls Tryz.prog 284 #[.int .u64 a0,zp c0b] w0 (RepRes Tryz.prog encInt n (D.prog_Store_int_1 c0 a0) F w0):=by
 refine kN Tryz.func284 rfl 6 rfl rfl fun fr r hB=>?_;have lc0b:=lt_of_block c0h
 refine wsr ?_;refine seq_new (.cells (kq encInt) 119 (0,0)) r (fun R=>y_alloc tz119) rfl fun fr b1 w2 n3 r=>?_;obtain ⟨eb1,zw2,hb1,hB,zB⟩:=n3.all hB
 refine wn (wsr (kL (kf c0f c0_1 c0_2) r rfl (keep hB c0h) to239 rfl rfl fun r=>?_));refine seq_call r (c0n.at_.2 n (Nat.lt_succ_self n) () w2 (Same.below hB hF) hB.size) (fun R hc=>y_callv0 r rfl c0n.at_.1 hc) rfl ?_
 rintro _ w4 ⟨v5,rfl,hb,hr6⟩;refine ⟨_,rfl,fun fr r=>?_⟩
 have zw4:=hb.size;have hb1:=keep hb hb1;obtain ⟨hB,zB⟩:=bon hb hB;refine kP r hr6.shape rfl rfl hb1 ts119 rfl rfl fun w7 u8 r=>?_;have zw7:=u8.size
 have hb1:=u8.at_;obtain ⟨hB,zB⟩:=u8.on hB (by omega)
 refine wn (wp_ret ?_);have hs:=hr6.shape.cells;refine ret_cell r rfl rfl hb1 (k:=7) hs.1 ta119 ?_;rw [←hs.2.2];exact RepRes.fin hB hr6 u8 (fun b hb=>.inl hb) (fun h=>by have:=hF _ h; omega) (by omega) (by omega) (by omega)
def D.prog_Store_int (a0:Int) (a1:Int) (a2:(Unit→T Int)):T Int:=(D.prog_Do_int (⟨1,a0,a1,0⟩:Access) (fun x=>(D.prog_Store_int_1 a2 x)))
theorem c_prog_Store_int (hF:kH F w0)
    (a0:Int) (a1:Int) {a2f:FuncId} {a2_1 a2_2:List Value} {a2:(Unit→T Int)} (a2n:FnT Tryz.prog encInt unitE (n) F w0 (kf a2f a2_1 a2_2) a2) :
    Calls Tryz.prog 188 #[.int .i64 a0,.int .u64 a1,kf a2f a2_1 a2_2] w0 (RepRes Tryz.prog encInt n (D.prog_Store_int a0 a1 a2) F w0):=by
 refine kN Tryz.func188 rfl 12 rfl rfl fun fr r hB=>?_;refine wsr ?_
 refine kX 239 (kf a2f a2_1 a2_2) r rfl rfl fun b1 w2 n3 r=>?_;obtain ⟨eb1,zw2,hb1,hB,zB⟩:=n3.all hB
 refine seq_new (.cells (kq encInt) 119 (0,0)) r (fun R=>y_alloc tz119) rfl fun fr b4 w5 n6 r=>?_;have hb1:=keep n6.below hb1
 obtain ⟨eb4,zw5,hb4,hB,zB⟩:=n6.all hB;refine wn (wsr (kM (I a0) r rfl rfl fun r=>kM (U a1) r rfl rfl fun r=>kU (.agg (accessC (⟨1,a0,a1,0⟩:Access)).toArray) r (by kernel_rfl) rfl fun r=>seq_val (.func (.func 284) #[] #[zp b1]) r (fun R=>y_makeFunc r rfl) rfl fun fr r=>?_));have hF1:=fgrow hF hB b4
 have f7:((kW F w0 w5 b4)) b1:=(.inr ⟨by omega,by omega,by omega⟩)
 refine kD r (c_prog_Do_int (F:=(kW F w0 w5 b4)) (n:=n) hF1 (⟨1,a0,a1,0⟩:Access) ⟨284,[],[zp b1],cl284,rfl,fun m hm x w' hs hz=>c_prog_Store_int_1 (fun b hb=>Nat.lt_of_lt_of_le (hF1 b hb) hz) f7 (hs.at_ f7 hb1) (a2n.mono (by omega) (fun b h=>.inl h) ((Same.below hB hF).trans (hs.sub (fun b h=>.inl h))) (Nat.le_trans hB.size hz)) x⟩) rfl cl283 rfl fun w8 v9 hb hr10 r=>?_;have zw8:=hb.size
 have hb1:=keep hb hb1;have hb4:=keep hb hb4;obtain ⟨hB,zB⟩:=bon hb hB;refine kP r hr10.shape rfl rfl hb4 ts119 rfl rfl fun w11 u12 r=>?_;have zw11:=u12.size
 have hb1:=u12.keep hb1 (by omega)
 have hb4:=u12.at_;obtain ⟨hB,zB⟩:=u12.on hB (by omega)
 exact wn (wp_ret (kR r hr10 rfl rfl hb4 rfl ta119 hF hB u12 (by omega) (by omega) (by omega)))
def D.prog_Load_uint64 (a0:Int) (a1:(Int→T Int)):T Int:=(D.prog_Do_uint64 (⟨0,a0,0,0⟩:Access) a1)
theorem c_prog_Load_uint64 (hF:kH F w0)
    (a0:Int) {a1f:FuncId} {a1_1 a1_2:List Value} {a1:(Int→T Int)} (a1n:FnT Tryz.prog encWord u64 (n) F w0 (kf a1f a1_1 a1_2) a1) :
    Calls Tryz.prog 313 #[.int .i64 a0,kf a1f a1_1 a1_2] w0 (RepRes Tryz.prog encWord n (D.prog_Load_uint64 a0 a1) F w0):=by
 refine kN Tryz.func313 rfl 9 rfl rfl fun fr r hB=>?_;refine wsr ?_
 refine seq_new (.cells (kq encWord) 271 (0,0)) r (fun R=>y_alloc tz271) rfl fun fr b1 w2 n3 r=>?_;obtain ⟨eb1,zw2,hb1,hB,zB⟩:=n3.all hB
 refine wn (wsr (kM (I a0) r rfl rfl fun r=>kU (.agg (accessC (⟨0,a0,0,0⟩:Access)).toArray) r (by kernel_rfl) rfl fun r=>kM (kf a1f a1_1 a1_2) r rfl rfl fun r=>?_));have hF1:=fgrow hF hB b1
 refine kD r (c_prog_Do_uint64 (F:=(kW F w0 w2 b1)) (n:=n) hF1 (⟨0,a0,0,0⟩:Access) (a1n.mono (by omega) (fun b h=>.inl h) (Same.below hB hF) hB.size)) rfl cl358 rfl fun w4 v5 hb hr6 r=>?_;have zw4:=hb.size
 have hb1:=keep hb hb1;obtain ⟨hB,zB⟩:=bon hb hB;refine kP r hr6.shape rfl rfl hb1 ts271 rfl rfl fun w7 u8 r=>?_;have zw7:=u8.size
 have hb1:=u8.at_;obtain ⟨hB,zB⟩:=u8.on hB (by omega)
 exact wn (wp_ret (kR r hr6 rfl rfl hb1 rfl ta271 hF hB u8 (by omega) (by omega) (by omega)))
end
end Go.Proofs.YtbbipmelhmgmfaaGreat

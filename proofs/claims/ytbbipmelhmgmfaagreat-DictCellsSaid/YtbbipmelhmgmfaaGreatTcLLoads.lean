/- Ours. -/
import Derived.Test.YtbbipmelhmgmfaaGreatTcLThens
set_option linter.all false
set_option maxRecDepth 100000
set_option maxHeartbeats 20000000
namespace Go.Proofs.YtbbipmelhmgmfaaGreat
open Go.RowKit
section
variable {n : Nat} {F : Nat → Prop} {j : Nat} {w0 : World}
theorem cl398:callable Tryz.prog 398:=by kernel_rfl
theorem to334:tyO Tryz.prog 334:=by kernel_rfl
theorem cl_prog_Swap_Res_1 (hF:kH F w0)
    {c0f:FuncId} {c0_1 c0_2:List Value} {c0:(Bool→T Res)} {c0b:Nat} (c0F:F c0b) (c0h:w0.heap[c0b]?=some (.cells #[kf c0f c0_1 c0_2] 200 (0,0))) (c0n:FnL Tryz.prog encRes boolE (n+1) F w0 (kf c0f c0_1 c0_2) c0) (c1:Int) {c1b:Nat} (c1F:F c1b) (c1h:w0.heap[c1b]?=some (.cells ([(.int .u64 c1)]).toArray 34 (0,0))) (a0:Int) :
    Calls Tryz.prog 204 #[.int .u64 a0,zp c0b,zp c1b] w0 (RepResL Tryz.prog encRes n (D.prog_Swap_Res_1 c0 c1 a0) F w0):=by
 refine kN Tryz.func204 rfl 10 rfl rfl fun fr r hB=>?_;have lc0b:=lt_of_block c0h
 have lc1b:=lt_of_block c1h;refine wsr ?_;refine seq_new (.cells (kq encRes) 41 (0,0)) r (fun R=>y_alloc tz41) rfl fun fr b1 w2 n3 r=>?_;have c0h:=keep n3.below c0h
 have c1h:=keep n3.below c1h;obtain ⟨eb1,zw2,hb1,hB,zB⟩:=n3.all hB;refine wn (wsr (kL (kf c0f c0_1 c0_2) r rfl c0h to200 rfl rfl fun r=>kM (U a0) r rfl rfl fun r=>kL (U c1) r rfl c1h to34 rfl rfl fun r=>kB r rfl rfl rfl rfl rfl fun r=>?_));refine seq_call r (c0n.at_.2 n (Nat.lt_succ_self n) (a0==c1) w2 (Same.below hB hF) hB.size) (fun R hc=>y_callv1 r rfl rfl c0n.at_.1 hc) rfl ?_
 rintro _ w4 ⟨v5,rfl,hb,hr6⟩;refine ⟨_,rfl,fun fr r=>?_⟩
 have zw4:=hb.size;have hb1:=keepC hb hb1 (fun h=>by have:=hF _ h; omega)
 have hB:=Chg.belowZ (Z:=F) hB;have hB:=hB.thenF hb (fun _ _ h=>h)
 have zB:=hB.size;refine kP r hr6.shape rfl rfl hb1 ts41 rfl rfl fun w7 u8 r=>?_;have zw7:=u8.size
 have hb1:=u8.at_;have hB:=hB.thenU u8 (.inl (by omega))
 have zB:=hB.size;refine wn (wp_ret ?_);have hs:=hr6.shape.cells;refine ret_cell r rfl rfl hb1 (k:=8) hs.1 ta41 ?_;rw [←hs.2.2];exact RepResL.fin hB hr6 u8 (fun b hb=>.inl hb) (fun h=>by have:=hF _ h; omega) (by omega) (by omega) (by omega)
theorem cl_prog_Swap_Res (hF:kH F w0)
    (a0:Int) (a1:Int) (a2:Int) {a3f:FuncId} {a3_1 a3_2:List Value} {a3:(Bool→T Res)} (a3n:FnL Tryz.prog encRes boolE (n) F w0 (kf a3f a3_1 a3_2) a3) :
    Calls Tryz.prog 118 #[.int .i64 a0,.int .u64 a1,.int .u64 a2,kf a3f a3_1 a3_2] w0 (RepResL Tryz.prog encRes n (D.prog_Swap_Res a0 a1 a2 a3) F w0):=by
 refine kN Tryz.func118 rfl 15 rfl rfl fun fr r hB=>?_;refine wsr ?_
 refine kX 34 (U a1) r rfl rfl fun b1 w2 n3 r=>?_;obtain ⟨eb1,zw2,hb1,hB,zB⟩:=n3.all hB
 refine kX 200 (kf a3f a3_1 a3_2) r rfl rfl fun b4 w5 n6 r=>?_;have hb1:=keep n6.below hb1
 obtain ⟨eb4,zw5,hb4,hB,zB⟩:=n6.all hB;refine seq_new (.cells (kq encRes) 41 (0,0)) r (fun R=>y_alloc tz41) rfl fun fr b7 w8 n9 r=>?_;have hb1:=keep n9.below hb1
 have hb4:=keep n9.below hb4;obtain ⟨eb7,zw8,hb7,hB,zB⟩:=n9.all hB;refine wn (wsr (kM (I a0) r rfl rfl fun r=>kL (U a1) r rfl hb1 to34 rfl rfl fun r=>kM (U a2) r rfl rfl fun r=>kU (.agg (accessC (⟨2,a0,a1,a2⟩:Access)).toArray) r (by kernel_rfl) rfl fun r=>seq_val (.func (.func 204) #[] #[zp b4,zp b1]) r (fun R=>y_makeFunc r rfl) rfl fun fr r=>?_));have hF1:=fgrowC hF hB.size b7
 have f13:((kW F w0 w8 b7)) b4:=(.inr ⟨by omega,by omega,by omega⟩)
 have f14:((kW F w0 w8 b7)) b1:=(.inr ⟨by omega,by omega,by omega⟩)
 refine kJ r (cl_prog_Do_Res (F:=(kW F w0 w8 b7)) (n:=n) hF1 (⟨2,a0,a1,a2⟩:Access) ⟨204,[],[zp b4,zp b1],cl204,rfl,fun m hm x w' hs hz=>cl_prog_Swap_Res_1 (fun b hb=>Nat.lt_of_lt_of_le (hF1 b hb) hz) f13 (hs.at_ f13 hb4) (a3n.mono (by omega) (fun b h=>.inl h) ((Same.below hB hF).trans (hs.sub (fun b h=>.inl h))) (Nat.le_trans hB.size hz)) a1 f14 (hs.at_ f14 hb1) x⟩) rfl cl177 rfl fun w10 v11 hb hr12 r=>?_;have zw10:=hb.size
 have hb7:=keepC hb hb7 (by rintro (h | ⟨_,_,h⟩); (have:=hF _ h; omega); exact h rfl)
 have hB:=Chg.belowZ (Z:=F) hB;have hB:=hB.thenF hb (by rintro b hlt (h | ⟨h,_⟩); exact h; omega)
 have zB:=hB.size;refine kP r hr12.shape rfl rfl hb7 ts41 rfl rfl fun w15 u16 r=>?_;have zw15:=u16.size
 have hb7:=u16.at_;have hB:=hB.thenU u16 (.inl (by omega))
 have zB:=hB.size;refine wn (wp_ret ?_);have hs:=hr12.shape.cells;refine ret_cell r rfl rfl hb7 (k:=8) hs.1 ta41 ?_;rw [←hs.2.2];exact RepResL.fin hB hr12 u16 (by rintro b (h | ⟨h1,h2,_⟩); exact .inl h; exact .inr ⟨h1,h2⟩) (by rintro (h | ⟨_,_,h⟩); (have:=hF _ h; omega); exact h rfl) (by omega) (by omega) (by omega)
theorem cl_prog_Store_Res_1 (hF:kH F w0)
    {c0f:FuncId} {c0_1 c0_2:List Value} {c0:(Unit→T Res)} {c0b:Nat} (c0F:F c0b) (c0h:w0.heap[c0b]?=some (.cells #[kf c0f c0_1 c0_2] 171 (0,0))) (c0n:FnL Tryz.prog encRes unitE (n+1) F w0 (kf c0f c0_1 c0_2) c0) (a0:Int) :
    Calls Tryz.prog 214 #[.int .u64 a0,zp c0b] w0 (RepResL Tryz.prog encRes n (D.prog_Store_Res_1 c0 a0) F w0):=by
 refine kN Tryz.func214 rfl 6 rfl rfl fun fr r hB=>?_;have lc0b:=lt_of_block c0h
 refine wsr ?_;refine seq_new (.cells (kq encRes) 41 (0,0)) r (fun R=>y_alloc tz41) rfl fun fr b1 w2 n3 r=>?_;have c0h:=keep n3.below c0h
 obtain ⟨eb1,zw2,hb1,hB,zB⟩:=n3.all hB;refine wn (wsr (kL (kf c0f c0_1 c0_2) r rfl c0h to171 rfl rfl fun r=>?_));refine seq_call r (c0n.at_.2 n (Nat.lt_succ_self n) () w2 (Same.below hB hF) hB.size) (fun R hc=>y_callv0 r rfl c0n.at_.1 hc) rfl ?_
 rintro _ w4 ⟨v5,rfl,hb,hr6⟩;refine ⟨_,rfl,fun fr r=>?_⟩
 have zw4:=hb.size;have hb1:=keepC hb hb1 (fun h=>by have:=hF _ h; omega)
 have hB:=Chg.belowZ (Z:=F) hB;have hB:=hB.thenF hb (fun _ _ h=>h)
 have zB:=hB.size;refine kP r hr6.shape rfl rfl hb1 ts41 rfl rfl fun w7 u8 r=>?_;have zw7:=u8.size
 have hb1:=u8.at_;have hB:=hB.thenU u8 (.inl (by omega))
 have zB:=hB.size;refine wn (wp_ret ?_);have hs:=hr6.shape.cells;refine ret_cell r rfl rfl hb1 (k:=8) hs.1 ta41 ?_;rw [←hs.2.2];exact RepResL.fin hB hr6 u8 (fun b hb=>.inl hb) (fun h=>by have:=hF _ h; omega) (by omega) (by omega) (by omega)
theorem cl_prog_Store_Res (hF:kH F w0)
    (a0:Int) (a1:Int) {a2f:FuncId} {a2_1 a2_2:List Value} {a2:(Unit→T Res)} (a2n:FnL Tryz.prog encRes unitE (n) F w0 (kf a2f a2_1 a2_2) a2) :
    Calls Tryz.prog 124 #[.int .i64 a0,.int .u64 a1,kf a2f a2_1 a2_2] w0 (RepResL Tryz.prog encRes n (D.prog_Store_Res a0 a1 a2) F w0):=by
 refine kN Tryz.func124 rfl 12 rfl rfl fun fr r hB=>?_;refine wsr ?_
 refine kX 171 (kf a2f a2_1 a2_2) r rfl rfl fun b1 w2 n3 r=>?_;obtain ⟨eb1,zw2,hb1,hB,zB⟩:=n3.all hB
 refine seq_new (.cells (kq encRes) 41 (0,0)) r (fun R=>y_alloc tz41) rfl fun fr b4 w5 n6 r=>?_;have hb1:=keep n6.below hb1
 obtain ⟨eb4,zw5,hb4,hB,zB⟩:=n6.all hB;refine wn (wsr (kM (I a0) r rfl rfl fun r=>kM (U a1) r rfl rfl fun r=>kU (.agg (accessC (⟨1,a0,a1,0⟩:Access)).toArray) r (by kernel_rfl) rfl fun r=>seq_val (.func (.func 214) #[] #[zp b1]) r (fun R=>y_makeFunc r rfl) rfl fun fr r=>?_));have hF1:=fgrowC hF hB.size b4
 have f10:((kW F w0 w5 b4)) b1:=(.inr ⟨by omega,by omega,by omega⟩)
 refine kJ r (cl_prog_Do_Res (F:=(kW F w0 w5 b4)) (n:=n) hF1 (⟨1,a0,a1,0⟩:Access) ⟨214,[],[zp b1],cl214,rfl,fun m hm x w' hs hz=>cl_prog_Store_Res_1 (fun b hb=>Nat.lt_of_lt_of_le (hF1 b hb) hz) f10 (hs.at_ f10 hb1) (a2n.mono (by omega) (fun b h=>.inl h) ((Same.below hB hF).trans (hs.sub (fun b h=>.inl h))) (Nat.le_trans hB.size hz)) x⟩) rfl cl177 rfl fun w7 v8 hb hr9 r=>?_;have zw7:=hb.size
 have hb4:=keepC hb hb4 (by rintro (h | ⟨_,_,h⟩); (have:=hF _ h; omega); exact h rfl)
 have hB:=Chg.belowZ (Z:=F) hB;have hB:=hB.thenF hb (by rintro b hlt (h | ⟨h,_⟩); exact h; omega)
 have zB:=hB.size;refine kP r hr9.shape rfl rfl hb4 ts41 rfl rfl fun w11 u12 r=>?_;have zw11:=u12.size
 have hb4:=u12.at_;have hB:=hB.thenU u12 (.inl (by omega))
 have zB:=hB.size;refine wn (wp_ret ?_);have hs:=hr9.shape.cells;refine ret_cell r rfl rfl hb4 (k:=8) hs.1 ta41 ?_;rw [←hs.2.2];exact RepResL.fin hB hr9 u12 (by rintro b (h | ⟨h1,h2,_⟩); exact .inl h; exact .inr ⟨h1,h2⟩) (by rintro (h | ⟨_,_,h⟩); (have:=hF _ h; omega); exact h rfl) (by omega) (by omega) (by omega)
def D.prog_Load_walk (a0:Int) (a1:(Int→T Walk)):T Walk:=(D.prog_Do_walk (⟨0,a0,0,0⟩:Access) a1)
theorem cl_prog_Load_walk (hF:kH F w0)
    (a0:Int) {a1f:FuncId} {a1_1 a1_2:List Value} {a1:(Int→T Walk)} (a1n:FnL Tryz.prog encWalk u64 (n) F w0 (kf a1f a1_1 a1_2) a1) :
    Calls Tryz.prog 317 #[.int .i64 a0,kf a1f a1_1 a1_2] w0 (RepResL Tryz.prog encWalk n (D.prog_Load_walk a0 a1) F w0):=by
 refine kN Tryz.func317 rfl 9 rfl rfl fun fr r hB=>?_;refine wsr ?_
 refine seq_new (.cells (kq encWalk) 224 (0,0)) r (fun R=>y_alloc tz224) rfl fun fr b1 w2 n3 r=>?_;obtain ⟨eb1,zw2,hb1,hB,zB⟩:=n3.all hB
 refine wn (wsr (kM (I a0) r rfl rfl fun r=>kU (.agg (accessC (⟨0,a0,0,0⟩:Access)).toArray) r (by kernel_rfl) rfl fun r=>kM (kf a1f a1_1 a1_2) r rfl rfl fun r=>?_));have hF1:=fgrowC hF hB.size b1
 refine kJ r (cl_prog_Do_walk (F:=(kW F w0 w2 b1)) (n:=n) hF1 (⟨0,a0,0,0⟩:Access) (a1n.mono (by omega) (fun b h=>.inl h) (Same.below hB hF) hB.size)) rfl cl311 rfl fun w4 v5 hb hr6 r=>?_;have zw4:=hb.size
 have hb1:=keepC hb hb1 (by rintro (h | ⟨_,_,h⟩); (have:=hF _ h; omega); exact h rfl)
 have hB:=Chg.belowZ (Z:=F) hB;have hB:=hB.thenF hb (by rintro b hlt (h | ⟨h,_⟩); exact h; omega)
 have zB:=hB.size;refine kP r hr6.shape rfl rfl hb1 ts224 rfl rfl fun w7 u8 r=>?_;have zw7:=u8.size
 have hb1:=u8.at_;have hB:=hB.thenU u8 (.inl (by omega))
 have zB:=hB.size;refine wn (wp_ret ?_);have hs:=hr6.shape.cells;refine ret_cell r rfl rfl hb1 (k:=20) hs.1 ta224 ?_;rw [←hs.2.2];exact RepResL.fin hB hr6 u8 (by rintro b (h | ⟨h1,h2,_⟩); exact .inl h; exact .inr ⟨h1,h2⟩) (by rintro (h | ⟨_,_,h⟩); (have:=hF _ h; omega); exact h rfl) (by omega) (by omega) (by omega)
def D.prog_Swap_walk_1 (c0:(Bool→T Walk)) (c1:Int) (a0:Int):T Walk:=(c0 (a0==c1))
theorem cl_prog_Swap_walk_1 (hF:kH F w0)
    {c0f:FuncId} {c0_1 c0_2:List Value} {c0:(Bool→T Walk)} {c0b:Nat} (c0F:F c0b) (c0h:w0.heap[c0b]?=some (.cells #[kf c0f c0_1 c0_2] 334 (0,0))) (c0n:FnL Tryz.prog encWalk boolE (n+1) F w0 (kf c0f c0_1 c0_2) c0) (c1:Int) {c1b:Nat} (c1F:F c1b) (c1h:w0.heap[c1b]?=some (.cells ([(.int .u64 c1)]).toArray 34 (0,0))) (a0:Int) :
    Calls Tryz.prog 398 #[.int .u64 a0,zp c0b,zp c1b] w0 (RepResL Tryz.prog encWalk n (D.prog_Swap_walk_1 c0 c1 a0) F w0):=by
 refine kN Tryz.func398 rfl 10 rfl rfl fun fr r hB=>?_;have lc0b:=lt_of_block c0h
 have lc1b:=lt_of_block c1h;refine wsr ?_;refine seq_new (.cells (kq encWalk) 224 (0,0)) r (fun R=>y_alloc tz224) rfl fun fr b1 w2 n3 r=>?_;have c0h:=keep n3.below c0h
 have c1h:=keep n3.below c1h;obtain ⟨eb1,zw2,hb1,hB,zB⟩:=n3.all hB;refine wn (wsr (kL (kf c0f c0_1 c0_2) r rfl c0h to334 rfl rfl fun r=>kM (U a0) r rfl rfl fun r=>kL (U c1) r rfl c1h to34 rfl rfl fun r=>kB r rfl rfl rfl rfl rfl fun r=>?_));refine seq_call r (c0n.at_.2 n (Nat.lt_succ_self n) (a0==c1) w2 (Same.below hB hF) hB.size) (fun R hc=>y_callv1 r rfl rfl c0n.at_.1 hc) rfl ?_
 rintro _ w4 ⟨v5,rfl,hb,hr6⟩;refine ⟨_,rfl,fun fr r=>?_⟩
 have zw4:=hb.size;have hb1:=keepC hb hb1 (fun h=>by have:=hF _ h; omega)
 have hB:=Chg.belowZ (Z:=F) hB;have hB:=hB.thenF hb (fun _ _ h=>h)
 have zB:=hB.size;refine kP r hr6.shape rfl rfl hb1 ts224 rfl rfl fun w7 u8 r=>?_;have zw7:=u8.size
 have hb1:=u8.at_;have hB:=hB.thenU u8 (.inl (by omega))
 have zB:=hB.size;refine wn (wp_ret ?_);have hs:=hr6.shape.cells;refine ret_cell r rfl rfl hb1 (k:=20) hs.1 ta224 ?_;rw [←hs.2.2];exact RepResL.fin hB hr6 u8 (fun b hb=>.inl hb) (fun h=>by have:=hF _ h; omega) (by omega) (by omega) (by omega)
def D.prog_Swap_walk (a0:Int) (a1:Int) (a2:Int) (a3:(Bool→T Walk)):T Walk:=(D.prog_Do_walk (⟨2,a0,a1,a2⟩:Access) (fun x=>(D.prog_Swap_walk_1 a3 a1 x)))
theorem cl_prog_Swap_walk (hF:kH F w0)
    (a0:Int) (a1:Int) (a2:Int) {a3f:FuncId} {a3_1 a3_2:List Value} {a3:(Bool→T Walk)} (a3n:FnL Tryz.prog encWalk boolE (n) F w0 (kf a3f a3_1 a3_2) a3) :
    Calls Tryz.prog 388 #[.int .i64 a0,.int .u64 a1,.int .u64 a2,kf a3f a3_1 a3_2] w0 (RepResL Tryz.prog encWalk n (D.prog_Swap_walk a0 a1 a2 a3) F w0):=by
 refine kN Tryz.func388 rfl 15 rfl rfl fun fr r hB=>?_;refine wsr ?_
 refine kX 34 (U a1) r rfl rfl fun b1 w2 n3 r=>?_;obtain ⟨eb1,zw2,hb1,hB,zB⟩:=n3.all hB
 refine kX 334 (kf a3f a3_1 a3_2) r rfl rfl fun b4 w5 n6 r=>?_;have hb1:=keep n6.below hb1
 obtain ⟨eb4,zw5,hb4,hB,zB⟩:=n6.all hB;refine seq_new (.cells (kq encWalk) 224 (0,0)) r (fun R=>y_alloc tz224) rfl fun fr b7 w8 n9 r=>?_;have hb1:=keep n9.below hb1
 have hb4:=keep n9.below hb4;obtain ⟨eb7,zw8,hb7,hB,zB⟩:=n9.all hB;refine wn (wsr (kM (I a0) r rfl rfl fun r=>kL (U a1) r rfl hb1 to34 rfl rfl fun r=>kM (U a2) r rfl rfl fun r=>kU (.agg (accessC (⟨2,a0,a1,a2⟩:Access)).toArray) r (by kernel_rfl) rfl fun r=>seq_val (.func (.func 398) #[] #[zp b4,zp b1]) r (fun R=>y_makeFunc r rfl) rfl fun fr r=>?_));have hF1:=fgrowC hF hB.size b7
 have f13:((kW F w0 w8 b7)) b4:=(.inr ⟨by omega,by omega,by omega⟩)
 have f14:((kW F w0 w8 b7)) b1:=(.inr ⟨by omega,by omega,by omega⟩)
 refine kJ r (cl_prog_Do_walk (F:=(kW F w0 w8 b7)) (n:=n) hF1 (⟨2,a0,a1,a2⟩:Access) ⟨398,[],[zp b4,zp b1],cl398,rfl,fun m hm x w' hs hz=>cl_prog_Swap_walk_1 (fun b hb=>Nat.lt_of_lt_of_le (hF1 b hb) hz) f13 (hs.at_ f13 hb4) (a3n.mono (by omega) (fun b h=>.inl h) ((Same.below hB hF).trans (hs.sub (fun b h=>.inl h))) (Nat.le_trans hB.size hz)) a1 f14 (hs.at_ f14 hb1) x⟩) rfl cl311 rfl fun w10 v11 hb hr12 r=>?_;have zw10:=hb.size
 have hb7:=keepC hb hb7 (by rintro (h | ⟨_,_,h⟩); (have:=hF _ h; omega); exact h rfl)
 have hB:=Chg.belowZ (Z:=F) hB;have hB:=hB.thenF hb (by rintro b hlt (h | ⟨h,_⟩); exact h; omega)
 have zB:=hB.size;refine kP r hr12.shape rfl rfl hb7 ts224 rfl rfl fun w15 u16 r=>?_;have zw15:=u16.size
 have hb7:=u16.at_;have hB:=hB.thenU u16 (.inl (by omega))
 have zB:=hB.size;refine wn (wp_ret ?_);have hs:=hr12.shape.cells;refine ret_cell r rfl rfl hb7 (k:=20) hs.1 ta224 ?_;rw [←hs.2.2];exact RepResL.fin hB hr12 u16 (by rintro b (h | ⟨h1,h2,_⟩); exact .inl h; exact .inr ⟨h1,h2⟩) (by rintro (h | ⟨_,_,h⟩); (have:=hF _ h; omega); exact h rfl) (by omega) (by omega) (by omega)
end
end Go.Proofs.YtbbipmelhmgmfaaGreat

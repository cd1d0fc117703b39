/- Ours. -/
import Derived.Test.YtbbipmelhmgmfaaGreatTcM5
import Derived.Test.YtbbipmelhmgmfaaGreatTcM16
set_option linter.all false
set_option maxRecDepth 100000
set_option maxHeartbeats 20000000
namespace Go.Proofs.YtbbipmelhmgmfaaGreat
open Go.RowKit
section
variable {n : Nat} {F : Nat → Prop} {j : Nat} {w0 : World}
theorem cl157:callable Tryz.prog 157:=by kernel_rfl
theorem cl245:callable Tryz.prog 245:=by kernel_rfl
theorem cl246:callable Tryz.prog 246:=by kernel_rfl
theorem cl311:callable Tryz.prog 311:=by kernel_rfl
theorem cl312:callable Tryz.prog 312:=by kernel_rfl
theorem cl363:callable Tryz.prog 363:=by kernel_rfl
theorem cl387:callable Tryz.prog 387:=by kernel_rfl
theorem cl390:callable Tryz.prog 390:=by kernel_rfl
theorem cl399:callable Tryz.prog 399:=by kernel_rfl
theorem fo224_0:fieldOff Tryz.prog 224 0 0:=by kernel_rfl
theorem fo224_1:fieldOff Tryz.prog 224 1 1:=by kernel_rfl
theorem fo224_2:fieldOff Tryz.prog 224 2 15:=by kernel_rfl
theorem fo224_3:fieldOff Tryz.prog 224 3 19:=by kernel_rfl
theorem ta221:tyA Tryz.prog 221 14:=by kernel_rfl
theorem ta224:tyA Tryz.prog 224 20:=by kernel_rfl
theorem to222:tyO Tryz.prog 222:=by kernel_rfl
theorem to228:tyO Tryz.prog 228:=by kernel_rfl
theorem to306:tyO Tryz.prog 306:=by kernel_rfl
theorem to326:tyO Tryz.prog 326:=by kernel_rfl
theorem ts224:sized Tryz.prog 224 20:=by kernel_rfl
theorem tz224:zeroOf Tryz.prog 224=some (.agg (kq encWalk)):=by kernel_rfl
theorem cl_prog_Done_Res (hF:kH F w0)
    (a0:Res) :
    Calls Tryz.prog 15 #[.agg (resC a0).toArray] w0 (RepResL Tryz.prog encRes n (D.prog_Done_Res a0) F w0):=by
 refine kN Tryz.func15 rfl 5 rfl rfl fun fr r hB=>?_;refine wsr ?_
 refine kX 36 (.agg (resC a0).toArray) r rfl rfl fun b1 w2 n3 r=>?_;obtain ⟨E1,Z2,H1,hB,zB⟩:=n3.all hB
 refine seq_new (.cells (kq encRes) 41 (0,0)) r (fun R=>y_alloc tz41) rfl fun fr b4 w5 n6 r=>?_;have H1:=keep n6.below H1
 obtain ⟨E4,Z5,H4,hB,zB⟩:=n6.all hB;refine wn (wsr (kG (resC a0) 2 r rfl H1 ta36 rfl rfl fun r=>kU (.agg (progCells true (encRes.cells a0) 0 0 0 0 .nilFunc)) r (by kernel_rfl) rfl fun r=>?_));refine seq_upd (.cells (progCells true (encRes.cells a0) 0 0 0 0 .nilFunc) 41 (0,0)) r (fun R=>y_store r (o:=0) (v:=(.agg (progCells true (encRes.cells a0) 0 0 0 0 .nilFunc))) rfl rfl H4 ts41 (Nat.le_of_ble_eq_true rfl) rfl rfl) rfl fun fr w7 u8 r=>?_
 have Z7:=u8.size;have H1:=u8.keep H1 (by omega)
 have H4:=u8.at_;obtain ⟨hB,zB⟩:=u8.on hB (by omega)
 refine wn (wp_ret ?_);refine ret_cell r rfl rfl H4 (k:=8) rfl ta41 ?_;exact ⟨_,rfl,(Chg.belowZ hB),RepL.done_of⟩
theorem cl_prog_Do_Res (hF:kH F w0)
    (a0:Access) {a1f:FuncId} {a1_1 a1_2:List Value} {a1:(Int→T Res)} (a1n:FnL Tryz.prog encRes u64 (n) F w0 (kf a1f a1_1 a1_2) a1) :
    Calls Tryz.prog 177 #[.agg (accessC a0).toArray,kf a1f a1_1 a1_2] w0 (RepResL Tryz.prog encRes n (D.prog_Do_Res a0 a1) F w0):=by
 refine kN Tryz.func177 rfl 8 rfl rfl fun fr r hB=>?_;refine wsr ?_
 refine kX 38 (.agg (accessC a0).toArray) r rfl rfl fun b1 w2 n3 r=>?_;obtain ⟨E1,Z2,H1,hB,zB⟩:=n3.all hB
 refine seq_new (.cells (kq encRes) 41 (0,0)) r (fun R=>y_alloc tz41) rfl fun fr b4 w5 n6 r=>?_;have H1:=keep n6.below H1
 obtain ⟨E4,Z5,H4,hB,zB⟩:=n6.all hB;refine wn (wsr (kG (accessC a0) 4 r rfl H1 ta38 rfl rfl fun r=>kM (kf a1f a1_1 a1_2) r rfl rfl fun r=>kU (.agg (progCells false encRes.zero a0.op a0.at_ a0.a a0.b (kf a1f a1_1 a1_2))) r (by kernel_rfl) rfl fun r=>?_));refine seq_upd (.cells (progCells false encRes.zero a0.op a0.at_ a0.a a0.b (kf a1f a1_1 a1_2)) 41 (0,0)) r (fun R=>y_store r (o:=0) (v:=(.agg (progCells false encRes.zero a0.op a0.at_ a0.a a0.b (kf a1f a1_1 a1_2)))) rfl rfl H4 ts41 (Nat.le_of_ble_eq_true rfl) rfl rfl) rfl fun fr w7 u8 r=>?_
 have Z7:=u8.size;have H1:=u8.keep H1 (by omega)
 have H4:=u8.at_;obtain ⟨hB,zB⟩:=u8.on hB (by omega)
 refine wn (wp_ret ?_);refine ret_cell r rfl rfl H4 (k:=8) rfl ta41 ?_;exact ⟨_,rfl,(Chg.belowZ hB),RepL.act_of (a1n.mono (Nat.le_refl _) (fun b hb=>.inl hb) (Same.below hB hF) hB.size)⟩
def D.prog_Done_walk (a0:Walk):T Walk:=(T.done a0)
theorem cl_prog_Done_walk (hF:kH F w0)
    (a0:Walk) :
    Calls Tryz.prog 316 #[.agg (walkC a0).toArray] w0 (RepResL Tryz.prog encWalk n (D.prog_Done_walk a0) F w0):=by
 refine kN Tryz.func316 rfl 5 rfl rfl fun fr r hB=>?_;refine wsr ?_
 refine kX 221 (.agg (walkC a0).toArray) r rfl rfl fun b1 w2 n3 r=>?_;obtain ⟨E1,Z2,H1,hB,zB⟩:=n3.all hB
 refine seq_new (.cells (kq encWalk) 224 (0,0)) r (fun R=>y_alloc tz224) rfl fun fr b4 w5 n6 r=>?_;have H1:=keep n6.below H1
 obtain ⟨E4,Z5,H4,hB,zB⟩:=n6.all hB;refine wn (wsr (kG (walkC a0) 14 r rfl H1 ta221 rfl rfl fun r=>kU (.agg (progCells true (encWalk.cells a0) 0 0 0 0 .nilFunc)) r (by kernel_rfl) rfl fun r=>?_));refine seq_upd (.cells (progCells true (encWalk.cells a0) 0 0 0 0 .nilFunc) 224 (0,0)) r (fun R=>y_store r (o:=0) (v:=(.agg (progCells true (encWalk.cells a0) 0 0 0 0 .nilFunc))) rfl rfl H4 ts224 (Nat.le_of_ble_eq_true rfl) rfl (over_all rfl)) rfl fun fr w7 u8 r=>?_
 have Z7:=u8.size;have H1:=u8.keep H1 (by omega)
 have H4:=u8.at_;obtain ⟨hB,zB⟩:=u8.on hB (by omega)
 refine wn (wp_ret ?_);refine ret_cell r rfl rfl H4 (k:=20) rfl ta224 ?_;exact ⟨_,rfl,(Chg.belowZ hB),RepL.done_of⟩
def D.prog_Do_walk (a0:Access) (a1:(Int→T Walk)):T Walk:=(T.act a0.op a0.at_ a0.a a0.b a1)
theorem cl_prog_Do_walk (hF:kH F w0)
    (a0:Access) {a1f:FuncId} {a1_1 a1_2:List Value} {a1:(Int→T Walk)} (a1n:FnL Tryz.prog encWalk u64 (n) F w0 (kf a1f a1_1 a1_2) a1) :
    Calls Tryz.prog 311 #[.agg (accessC a0).toArray,kf a1f a1_1 a1_2] w0 (RepResL Tryz.prog encWalk n (D.prog_Do_walk a0 a1) F w0):=by
 refine kN Tryz.func311 rfl 8 rfl rfl fun fr r hB=>?_;refine wsr ?_
 refine kX 38 (.agg (accessC a0).toArray) r rfl rfl fun b1 w2 n3 r=>?_;obtain ⟨E1,Z2,H1,hB,zB⟩:=n3.all hB
 refine seq_new (.cells (kq encWalk) 224 (0,0)) r (fun R=>y_alloc tz224) rfl fun fr b4 w5 n6 r=>?_;have H1:=keep n6.below H1
 obtain ⟨E4,Z5,H4,hB,zB⟩:=n6.all hB;refine wn (wsr (kG (accessC a0) 4 r rfl H1 ta38 rfl rfl fun r=>kM (kf a1f a1_1 a1_2) r rfl rfl fun r=>kU (.agg (progCells false encWalk.zero a0.op a0.at_ a0.a a0.b (kf a1f a1_1 a1_2))) r (by kernel_rfl) rfl fun r=>?_));refine seq_upd (.cells (progCells false encWalk.zero a0.op a0.at_ a0.a a0.b (kf a1f a1_1 a1_2)) 224 (0,0)) r (fun R=>y_store r (o:=0) (v:=(.agg (progCells false encWalk.zero a0.op a0.at_ a0.a a0.b (kf a1f a1_1 a1_2)))) rfl rfl H4 ts224 (Nat.le_of_ble_eq_true rfl) rfl (over_all rfl)) rfl fun fr w7 u8 r=>?_
 have Z7:=u8.size;have H1:=u8.keep H1 (by omega)
 have H4:=u8.at_;obtain ⟨hB,zB⟩:=u8.on hB (by omega)
 refine wn (wp_ret ?_);refine ret_cell r rfl rfl H4 (k:=20) rfl ta224 ?_;exact ⟨_,rfl,(Chg.belowZ hB),RepL.act_of (a1n.mono (Nat.le_refl _) (fun b hb=>.inl hb) (Same.below hB hF) hB.size)⟩
def SpecL_prog_Then_Grant_Res (n:Nat):Prop:=∀ {F F1 F2:Nat→Prop} {w0:World},(∀ b,F b→b<w0.heap.size)→(∀ b,F1 b→F b)→(∀ b,F2 b→F b)→(∀ b,F1 b→¬ F2 b)→∀ {t:T (Grant)} {pv fv:Value} {g:Grant→T (Res)},RepL Tryz.prog encGrant n t F1 w0 pv→FnL Tryz.prog encRes argGrant n F2 w0 fv g→
    (t.isDone=false∨FnL Tryz.prog encRes argGrant (n+1) F2 w0 fv g)→Calls Tryz.prog 130 #[pv,fv] w0 (RepResL Tryz.prog encRes n (t.bind g) F w0)
theorem kl_prog_Then_Grant_Res {n:Nat} (ih:SpecL_prog_Then_Grant_Res n) {F F1 F2:Nat→Prop} {w0:World} (hF:∀ b,F b→b<w0.heap.size) (s1:∀ b,F1 b→F b) (s2:∀ b,F2 b→F b) (hdj:∀ b,F1 b→¬ F2 b) {op at_ a b:Int} {nf:FuncId} {n1 n2:List Value} {k:Int→T (Grant)} {ff:FuncId} {f1 f2:List Value} {g:Grant→T (Res)}
    {b1 b2:Nat} (m1:¬ F1 b1) (h1:w0.heap[b1]?=some (.cells (progCells false encGrant.zero op at_ a b (kf nf n1 n2)) 116 (0,0))) (m2:¬ F1 b2) (h2:w0.heap[b2]?=some (.cells #[kf ff f1 f2] 207 (0,0)))
    (hk:FnL Tryz.prog encGrant u64 (n+1) F1 w0 (kf nf n1 n2) k) (hg:FnL Tryz.prog encRes argGrant (n+1) F2 w0 (kf ff f1 f2) g) (x:Int) :
    Calls Tryz.prog 215 #[.int .u64 x,zp b1,zp b2] w0 (RepResL Tryz.prog encRes n ((k x).bind g) F w0):=by
 refine kN Tryz.func215 rfl 11 rfl rfl fun fr r hB=>?_;have hF1:∀ b,F1 b→b<w0.heap.size:=fun b h=>hF b (s1 b h)
 have hF2:∀ b,F2 b→b<w0.heap.size:=fun b h=>hF b (s2 b h)
 refine wp_seq (wp_region_lit ?_);refine seq_new (.cells (kq encRes) 41 (0,0)) r (fun R=>y_alloc tz41) rfl fun fr b3 w1 q1 r=>wn ?_;have h1:=keep q1.below h1
 have h2:=keep q1.below h2;have e3:=q1.eq;have z1:=q1.size;have h3:=q1.at_;have hB:=hB.trans (q1.below.mono hB.size);have zB:=hB.size;have hk1:=hk.mono (Nat.le_refl _) (fun b h=>h) (Same.below hB hF1) hB.size
 have hF1':∀ b,F1 b→b<w1.heap.size:=fun b h=>Nat.lt_of_lt_of_le (hF1 b h) zB
 refine wp_seq ?_;refine wp_freeSE 5 F1 [.val (.pointer (some ⟨b1,8,none⟩)),.val (kf nf n1 n2),.val (U x),.eff (StepE Tryz.prog encGrant n (k x) F1) (StepE.st hF1'),.val (kf ff f1 f2)] mixed r hF1' (by kernel_rfl) ?_ ?_
 ·
  refine eachS_late r rfl (fun fr1 g w' hk' hd r'=>?_) ?_
  · exact y_fieldAddr r' (b:=b1) (o:=0) (k:=8) rfl fo116_3 bz
  refine eachS_late r rfl (fun fr1 g w' hk' hd r'=>?_) ?_
  · exact y_load_one r' (v:=kf nf n1 n2) (hd 0 rfl).1 (keepC (drK hk') h1 m1) to114 rfl bz
  refine eachS_late r rfl (fun fr1 g w' hk' hd r'=>?_) ?_
  · exact y_move r' (v:=.int .u64 x) rfl bz
  refine eachS_early r rfl (by kernel_rfl) (fun fr1 g w' hb' hd r'=>?_) ?_
  ·
   have hb':Below w1.heap.size w1 w':=dr hb';refine y_callv1 r' (fs:=n1) (cs:=n2) (hd 1 rfl).1 (hd 2 rfl).1 hk1.at_.1 ((hk1.at_.2 n (Nat.lt_succ_self n) x w' (Same.below hb' hF1') hb'.size).mono ?_);rintro _ w2 ⟨v,rfl,hb2,hr2⟩;exact ⟨v,rfl,hb2.kept,hr2⟩
  refine eachS_late r rfl (fun fr1 g w' hk' hd r'=>?_) ?_
  · exact y_load_one r' (v:=kf ff f1 f2) rfl (keepC (drK hk') h2 m2) to207 rfl bz
  exact eachF_nil
 intro fr gg w2 hb hΦ _ r;have hr:RepL Tryz.prog encGrant n (k x) (fun b=>F1 b∨((gg 3).lo≤b∧b<(gg 3).hi)) w2 (gg 3).v:=(hΦ 3 rfl).1
 have hrg:=(hΦ 3 rfl).2;have r:=r.congr (sc ((hΦ 4 rfl).1) rfl);have z2:=hb.size;have hr3:¬ F1 b3:=fun h=>by have:=hF1 _ h; omega
 have h3:=keepC hb h3 hr3;have hC:Chg F w0 w2:=(Chg.belowZ hB).thenF hb fun b _ h=>s1 b h
 have zB2:=hC.size;have hS2:Same F2 w0 w2:=fun b h=>(hb.block b (Nat.lt_of_lt_of_le (hF2 b h) zB) fun h'=>hdj b h' h).trans (hB.block b (hF2 b h))
 have hFb:∀ b,(kW F w0 w2 b3) b→b<w2.heap.size:=by rintro b (h | h); exact Nat.lt_of_lt_of_le (hF b h) zB2; exact h.2.1
 refine kC r (ih (F:=fun b=>F b∨(w0.heap.size≤b∧b<w2.heap.size∧b≠b3)) (F1:=fun b=>F1 b∨((gg 3).lo≤b∧b<(gg 3).hi)) (F2:=F2) hFb (by rintro b (h | ⟨h,h'⟩); exact .inl (s1 b h); exact .inr ⟨by omega,by omega,by omega⟩) (fun b h=>.inl (s2 b h))
  (by rintro b (h | ⟨h,h'⟩) h2; exact hdj b h h2; have:=hF2 b h2; omega) hr (hg.mono (by omega) (fun b h=>h) hS2 zB2) (.inr (hg.mono (Nat.le_refl _) (fun b h=>h) hS2 zB2))) rfl cl130 rfl ?_
 rintro _ w3 ⟨v2,rfl,hb2,hr2⟩;refine ⟨_,rfl,fun fr r=>?_⟩
 have z3:=hb2.size;have hF3:¬ (kW F w0 w2 b3) b3:=by rintro (h | ⟨_,_,h⟩); (have:=hF _ h; omega); exact h rfl
 have h3:=keepC hb2 h3 hF3;have hC:=hC.thenF hb2 (by rintro b hlt (h | ⟨h,_⟩); exact h; omega)
 refine kP r hr2.shape rfl rfl h3 ts41 rfl rfl fun w4 u4 r=>wn ?_;have z4:=u4.size
 have h3:=u4.at_;have hC:=hC.thenU u4 (.inl (by omega))
 refine wp_ret ?_;have hs:=hr2.shape.cells;refine ret_cell r rfl rfl h3 (k:=8) hs.1 ta41 ?_;rw [←hs.2.2];exact RepResL.fin hC hr2 u4 (by rintro b (h | ⟨h1,h2,_⟩); exact .inl h; exact .inr ⟨h1,h2⟩) hF3 (by omega) (by omega) (by omega)
theorem sl_prog_Then_Grant_Res (n:Nat):SpecL_prog_Then_Grant_Res n:=by
  induction n using Nat.strongRecOn with
  | _ n ih=>
  intro F F1 F2 w0 hF s1 s2 hdj t pv fv g hp hf hd;obtain ⟨ff,f1,f2,hcf,rfl,hff⟩:=id hf;have hF1:∀ b,F1 b→b<w0.heap.size:=fun b h=>hF b (s1 b h)
  have hF2:∀ b,F2 b→b<w0.heap.size:=fun b h=>hF b (s2 b h)
  cases t with
  | cut=>unfold RepL at hp; exact hp.elim
  | done x0=>
    have hf:=hd.resolve_left (by intro h; cases h)
    unfold RepL at hp
    subst hp;refine enter (l:=[.agg (progCells true (encGrant.cells x0) 0 0 0 0 .nilFunc),kf ff f1 f2]) Tryz.func130 rfl 15 rfl rfl fun fr r=>?_;have hB:=Below.refl w0.heap.size w0
    refine wp_seq (wp_region_lit ?_);refine kX 116 (.agg (progCells true (encGrant.cells x0) 0 0 0 0 .nilFunc)) r rfl rfl fun b1 w1 q1 r=>?_;refine kX 207 (kf ff f1 f2) r rfl rfl fun b2 w2 q2 r=>?_
    refine seq_new (.cells (kq encRes) 41 (0,0)) r (fun R=>y_alloc tz41) rfl fun fr b3 w3 q3 r=>wpList_nil ?_;have h1:=keep q3.below (keep q2.below q1.at_)
    have h2:=keep q3.below q2.at_;have h3:=q3.at_;have e1:=q1.eq; have e2:=q2.eq; have e3:=q3.eq; have z1:=q1.size; have z2:=q2.size; have z3:=q3.size;have hB:=((hB.trans q1.below).trans (q2.below.mono (by omega))).trans (q3.below.mono (by omega))
    have zB:=hB.size;refine wp_seq (wp_seq (wp_region_lit (seq_val (zp b1) r (fun R=>y_fieldAddr r (o:=0) rfl fo116_0) rfl fun fr r=>?_)));refine seq_val (.bool true) r (fun R=>y_load_one r (v:=.bool true) rfl h1 to4 rfl) rfl fun fr r=>wpList_nil ?_
    refine wp_cond_split (t:=true) (r.ev rfl) (fun _=>?_) (fun h=>by cases h)
    refine wp_seq (wp_region_lit (seq_val (kf ff f1 f2) r (fun R=>y_load_one r (v:=kf ff f1 f2) rfl h2 to207 rfl) rfl fun fr r=>seq_val (.pointer (some ⟨b1,1,none⟩)) r (fun R=>y_fieldAddr r (o:=0) rfl fo116_1) rfl fun fr r=>kG (grantC x0) 3 r rfl h1 ta113 rfl rfl fun r=>?_));refine seq_call r (hf.at_.2 n (Nat.lt_succ_self n) x0 w3 (Same.below hB hF2) hB.size) (fun R hc=>y_callv r rfl rfl hf.at_.1 hc) rfl ?_
    rintro _ w4 ⟨v,rfl,hb,hr⟩;refine ⟨_,rfl,fun fr r=>?_⟩
    have z4:=hb.size;have n3:¬ F2 b3:=fun h=>by have:=hF2 _ h; omega
    have h3:=keepC hb h3 n3;have hC:Chg F w0 w4:=(Chg.belowZ hB).thenF hb fun b _ h=>s2 b h
    refine kP r hr.shape rfl rfl h3 ts41 rfl rfl fun w5 u5 r=>wpList_nil ?_;have z5:=u5.size
    have h3:=u5.at_;have hC:=hC.thenU u5 (.inl (by omega))
    refine wp_ret ?_;have hs:=hr.shape.cells;refine ret_cell r rfl rfl h3 (k:=8) hs.1 ta41 ?_;rw [←hs.2.2];exact RepResL.fin hC hr u5 (fun b hb=>.inl (s2 b hb)) n3 (by omega) (by omega) (by omega)
  | act op at_ a b k=>
    obtain ⟨nf,n1,n2,hcn,rfl,hk⟩:∃ (nf:FuncId) (n1 n2:List Value),callable Tryz.prog nf=true∧pv=.agg (progCells false encGrant.zero op at_ a b (kf nf n1 n2))∧FnL Tryz.prog encGrant u64 n F1 w0 (kf nf n1 n2) k:=by
      exact RepL.act_inv hp
    refine enter (l:=[.agg (progCells false encGrant.zero op at_ a b (kf nf n1 n2)),kf ff f1 f2]) Tryz.func130 rfl 15 rfl rfl fun fr r=>?_;have hB:=Below.refl w0.heap.size w0
    refine wp_seq (wp_region_lit ?_);refine kX 116 (.agg (progCells false encGrant.zero op at_ a b (kf nf n1 n2))) r rfl rfl fun b1 w1 q1 r=>?_;refine kX 207 (kf ff f1 f2) r rfl rfl fun b2 w2 q2 r=>?_
    refine seq_new (.cells (kq encRes) 41 (0,0)) r (fun R=>y_alloc tz41) rfl fun fr b3 w3 q3 r=>wpList_nil ?_;have h1:=keep q3.below (keep q2.below q1.at_)
    have h2:=keep q3.below q2.at_;have h3:=q3.at_;have e1:=q1.eq; have e2:=q2.eq; have e3:=q3.eq; have z1:=q1.size; have z2:=q2.size; have z3:=q3.size;have hB:=((hB.trans q1.below).trans (q2.below.mono (by omega))).trans (q3.below.mono (by omega))
    have zB:=hB.size;refine wp_seq (wp_seq (wp_region_lit (seq_val (zp b1) r (fun R=>y_fieldAddr r (o:=0) rfl fo116_0) rfl fun fr r=>?_)));refine seq_val (.bool false) r (fun R=>y_load_one r (v:=.bool false) rfl h1 to4 rfl) rfl fun fr r=>wpList_nil ?_
    refine wp_cond_split (t:=false) (r.ev rfl) (fun h=>by cases h) (fun _=>wp_skip ?_);refine wp_seq (wp_region_lit (seq_val (.pointer (some ⟨b1,4,none⟩)) r (fun R=>y_fieldAddr r (o:=0) rfl fo116_2) rfl fun fr r=>kG (accessC (⟨op,at_,a,b⟩:Access)) 4 r rfl h1 ta38 rfl rfl fun r=>seq_val (.func (.func 215) #[] #[zp b1,zp b2]) r (fun R=>y_makeFunc r rfl) rfl fun fr r=>?_))
    have hFb:∀ b,(fun b=>F b∨b=b1∨b=b2) b→b<w3.heap.size:=by rintro b (h | h | h); exact Nat.lt_of_lt_of_le (hF b h) hB.size; omega; omega
    have m1:¬ F1 b1:=fun h=>by have:=hF1 _ h; omega
    have m2:¬ F1 b2:=fun h=>by have:=hF1 _ h; omega
    refine kC r (cl_prog_Do_Res (F:=fun b=>F b∨b=b1∨b=b2) (n:=n) hFb ⟨op,at_,a,b⟩ (a1:=fun x=>(k x).bind g) (show FnL Tryz.prog encRes u64 n (fun b=>F b∨b=b1∨b=b2) w3 (kf 215 [] [zp b1,zp b2]) (fun x=>(k x).bind g) from
      ⟨215,[],[zp b1,zp b2],cl215,rfl,fun m hm x w' hs hz=>kl_prog_Then_Grant_Res (ih m hm) (fun b hb=>Nat.lt_of_lt_of_le (hFb b hb) hz) (fun b h=>.inl (s1 b h)) (fun b h=>.inl (s2 b h)) hdj m1 (hs.at_ (.inr (.inl rfl)) h1) m2 (hs.at_ (.inr (.inr rfl)) h2)
        (hk.mono (by omega) (fun b h=>h) ((Same.below hB hF1).trans (hs.sub (fun b h=>.inl (s1 b h)))) (Nat.le_trans hB.size hz)) (hf.mono (by omega) (fun b h=>h) ((Same.below hB hF2).trans (hs.sub (fun b h=>.inl (s2 b h)))) (Nat.le_trans hB.size hz)) x⟩)) rfl cl177 rfl ?_
    rintro _ w4 ⟨v,rfl,hb,hr⟩;refine ⟨_,rfl,fun fr r=>?_⟩
    have z4:=hb.size;have n3:¬ (fun b=>F b∨b=b1∨b=b2) b3:=by rintro (h | h | h); (have:=hF _ h; omega); omega; omega
    have h3:=keepC hb h3 n3;have hC:Chg F w0 w4:=(Chg.belowZ hB).thenF hb (by rintro b hlt (h | h | h); exact h; omega; omega)
    refine kP r hr.shape rfl rfl h3 ts41 rfl rfl fun w5 u5 r=>wpList_nil ?_;have z5:=u5.size
    have h3:=u5.at_;have hC:=hC.thenU u5 (.inl (by omega))
    refine wp_ret ?_;have hs:=hr.shape.cells;refine ret_cell r rfl rfl h3 (k:=8) hs.1 ta41 ?_;rw [←hs.2.2];exact RepResL.fin hC hr u5 (by rintro b (h | h | h); exact .inl h; exact .inr ⟨by omega,by omega⟩; exact .inr ⟨by omega,by omega⟩) n3 (by omega) (by omega) (by omega)
theorem cl_prog_Then_Grant_Res_le {n:Nat} {F F1 F2:Nat→Prop} {w0:World} (hF:∀ b,F b→b<w0.heap.size) (s1:∀ b,F1 b→F b) (s2:∀ b,F2 b→F b) (hdj:∀ b,F1 b→¬ F2 b) {t:T (Grant)} {pv fv:Value} {g:Grant→T (Res)} (hp:RepL Tryz.prog encGrant n t F1 w0 pv) (hf:FnL Tryz.prog encRes argGrant (n+1) F2 w0 fv g) :
    Calls Tryz.prog 130 #[pv,fv] w0 (RepResL Tryz.prog encRes n (t.bind g) F w0):=sl_prog_Then_Grant_Res n hF s1 s2 hdj hp (hf.mono (by omega) (fun b h=>h) (Same.refl _ _) (Nat.le_refl _)) (.inr hf)
def SpecL_prog_Then_walk_Res (n:Nat):Prop:=∀ {F F1 F2:Nat→Prop} {w0:World},(∀ b,F b→b<w0.heap.size)→(∀ b,F1 b→F b)→(∀ b,F2 b→F b)→(∀ b,F1 b→¬ F2 b)→∀ {t:T (Walk)} {pv fv:Value} {g:Walk→T (Res)},RepL Tryz.prog encWalk n t F1 w0 pv→FnL Tryz.prog encRes argWalk n F2 w0 fv g→
    (t.isDone=false∨FnL Tryz.prog encRes argWalk (n+1) F2 w0 fv g)→Calls Tryz.prog 157 #[pv,fv] w0 (RepResL Tryz.prog encRes n (t.bind g) F w0)
theorem kl_prog_Then_walk_Res {n:Nat} (ih:SpecL_prog_Then_walk_Res n) {F F1 F2:Nat→Prop} {w0:World} (hF:∀ b,F b→b<w0.heap.size) (s1:∀ b,F1 b→F b) (s2:∀ b,F2 b→F b) (hdj:∀ b,F1 b→¬ F2 b) {op at_ a b:Int} {nf:FuncId} {n1 n2:List Value} {k:Int→T (Walk)} {ff:FuncId} {f1 f2:List Value} {g:Walk→T (Res)}
    {b1 b2:Nat} (m1:¬ F1 b1) (h1:w0.heap[b1]?=some (.cells (progCells false encWalk.zero op at_ a b (kf nf n1 n2)) 224 (0,0))) (m2:¬ F1 b2) (h2:w0.heap[b2]?=some (.cells #[kf ff f1 f2] 228 (0,0)))
    (hk:FnL Tryz.prog encWalk u64 (n+1) F1 w0 (kf nf n1 n2) k) (hg:FnL Tryz.prog encRes argWalk (n+1) F2 w0 (kf ff f1 f2) g) (x:Int) :
    Calls Tryz.prog 245 #[.int .u64 x,zp b1,zp b2] w0 (RepResL Tryz.prog encRes n ((k x).bind g) F w0):=by
 refine kN Tryz.func245 rfl 11 rfl rfl fun fr r hB=>?_;have hF1:∀ b,F1 b→b<w0.heap.size:=fun b h=>hF b (s1 b h)
 have hF2:∀ b,F2 b→b<w0.heap.size:=fun b h=>hF b (s2 b h)
 refine wp_seq (wp_region_lit ?_);refine seq_new (.cells (kq encRes) 41 (0,0)) r (fun R=>y_alloc tz41) rfl fun fr b3 w1 q1 r=>wn ?_;have h1:=keep q1.below h1
 have h2:=keep q1.below h2;have e3:=q1.eq;have z1:=q1.size;have h3:=q1.at_;have hB:=hB.trans (q1.below.mono hB.size);have zB:=hB.size;have hk1:=hk.mono (Nat.le_refl _) (fun b h=>h) (Same.below hB hF1) hB.size
 have hF1':∀ b,F1 b→b<w1.heap.size:=fun b h=>Nat.lt_of_lt_of_le (hF1 b h) zB
 refine wp_seq ?_;refine wp_freeSE 5 F1 [.val (.pointer (some ⟨b1,19,none⟩)),.val (kf nf n1 n2),.val (U x),.eff (StepE Tryz.prog encWalk n (k x) F1) (StepE.st hF1'),.val (kf ff f1 f2)] mixed r hF1' (by kernel_rfl) ?_ ?_
 ·
  refine eachS_late r rfl (fun fr1 g w' hk' hd r'=>?_) ?_
  · exact y_fieldAddr r' (b:=b1) (o:=0) (k:=19) rfl fo224_3 bz
  refine eachS_late r rfl (fun fr1 g w' hk' hd r'=>?_) ?_
  · exact y_load_one r' (v:=kf nf n1 n2) (hd 0 rfl).1 (keepC (drK hk') h1 m1) to222 rfl bz
  refine eachS_late r rfl (fun fr1 g w' hk' hd r'=>?_) ?_
  · exact y_move r' (v:=.int .u64 x) rfl bz
  refine eachS_early r rfl (by kernel_rfl) (fun fr1 g w' hb' hd r'=>?_) ?_
  ·
   have hb':Below w1.heap.size w1 w':=dr hb';refine y_callv1 r' (fs:=n1) (cs:=n2) (hd 1 rfl).1 (hd 2 rfl).1 hk1.at_.1 ((hk1.at_.2 n (Nat.lt_succ_self n) x w' (Same.below hb' hF1') hb'.size).mono ?_);rintro _ w2 ⟨v,rfl,hb2,hr2⟩;exact ⟨v,rfl,hb2.kept,hr2⟩
  refine eachS_late r rfl (fun fr1 g w' hk' hd r'=>?_) ?_
  · exact y_load_one r' (v:=kf ff f1 f2) rfl (keepC (drK hk') h2 m2) to228 rfl bz
  exact eachF_nil
 intro fr gg w2 hb hΦ _ r;have hr:RepL Tryz.prog encWalk n (k x) (fun b=>F1 b∨((gg 3).lo≤b∧b<(gg 3).hi)) w2 (gg 3).v:=(hΦ 3 rfl).1
 have hrg:=(hΦ 3 rfl).2;have r:=r.congr (sc ((hΦ 4 rfl).1) rfl);have z2:=hb.size;have hr3:¬ F1 b3:=fun h=>by have:=hF1 _ h; omega
 have h3:=keepC hb h3 hr3;have hC:Chg F w0 w2:=(Chg.belowZ hB).thenF hb fun b _ h=>s1 b h
 have zB2:=hC.size;have hS2:Same F2 w0 w2:=fun b h=>(hb.block b (Nat.lt_of_lt_of_le (hF2 b h) zB) fun h'=>hdj b h' h).trans (hB.block b (hF2 b h))
 have hFb:∀ b,(kW F w0 w2 b3) b→b<w2.heap.size:=by rintro b (h | h); exact Nat.lt_of_lt_of_le (hF b h) zB2; exact h.2.1
 refine kC r (ih (F:=fun b=>F b∨(w0.heap.size≤b∧b<w2.heap.size∧b≠b3)) (F1:=fun b=>F1 b∨((gg 3).lo≤b∧b<(gg 3).hi)) (F2:=F2) hFb (by rintro b (h | ⟨h,h'⟩); exact .inl (s1 b h); exact .inr ⟨by omega,by omega,by omega⟩) (fun b h=>.inl (s2 b h))
  (by rintro b (h | ⟨h,h'⟩) h2; exact hdj b h h2; have:=hF2 b h2; omega) hr (hg.mono (by omega) (fun b h=>h) hS2 zB2) (.inr (hg.mono (Nat.le_refl _) (fun b h=>h) hS2 zB2))) rfl cl157 rfl ?_
 rintro _ w3 ⟨v2,rfl,hb2,hr2⟩;refine ⟨_,rfl,fun fr r=>?_⟩
 have z3:=hb2.size;have hF3:¬ (kW F w0 w2 b3) b3:=by rintro (h | ⟨_,_,h⟩); (have:=hF _ h; omega); exact h rfl
 have h3:=keepC hb2 h3 hF3;have hC:=hC.thenF hb2 (by rintro b hlt (h | ⟨h,_⟩); exact h; omega)
 refine kP r hr2.shape rfl rfl h3 ts41 rfl rfl fun w4 u4 r=>wn ?_;have z4:=u4.size
 have h3:=u4.at_;have hC:=hC.thenU u4 (.inl (by omega))
 refine wp_ret ?_;have hs:=hr2.shape.cells;refine ret_cell r rfl rfl h3 (k:=8) hs.1 ta41 ?_;rw [←hs.2.2];exact RepResL.fin hC hr2 u4 (by rintro b (h | ⟨h1,h2,_⟩); exact .inl h; exact .inr ⟨h1,h2⟩) hF3 (by omega) (by omega) (by omega)
theorem sl_prog_Then_walk_Res (n:Nat):SpecL_prog_Then_walk_Res n:=by
  induction n using Nat.strongRecOn with
  | _ n ih=>
  intro F F1 F2 w0 hF s1 s2 hdj t pv fv g hp hf hd;obtain ⟨ff,f1,f2,hcf,rfl,hff⟩:=id hf;have hF1:∀ b,F1 b→b<w0.heap.size:=fun b h=>hF b (s1 b h)
  have hF2:∀ b,F2 b→b<w0.heap.size:=fun b h=>hF b (s2 b h)
  cases t with
  | cut=>unfold RepL at hp; exact hp.elim
  | done x0=>
    have hf:=hd.resolve_left (by intro h; cases h)
    unfold RepL at hp
    subst hp;refine enter (l:=[.agg (progCells true (encWalk.cells x0) 0 0 0 0 .nilFunc),kf ff f1 f2]) Tryz.func157 rfl 15 rfl rfl fun fr r=>?_;have hB:=Below.refl w0.heap.size w0
    refine wp_seq (wp_region_lit ?_);refine kX 224 (.agg (progCells true (encWalk.cells x0) 0 0 0 0 .nilFunc)) r rfl rfl fun b1 w1 q1 r=>?_;refine kX 228 (kf ff f1 f2) r rfl rfl fun b2 w2 q2 r=>?_
    refine seq_new (.cells (kq encRes) 41 (0,0)) r (fun R=>y_alloc tz41) rfl fun fr b3 w3 q3 r=>wpList_nil ?_;have h1:=keep q3.below (keep q2.below q1.at_)
    have h2:=keep q3.below q2.at_;have h3:=q3.at_;have e1:=q1.eq; have e2:=q2.eq; have e3:=q3.eq; have z1:=q1.size; have z2:=q2.size; have z3:=q3.size;have hB:=((hB.trans q1.below).trans (q2.below.mono (by omega))).trans (q3.below.mono (by omega))
    have zB:=hB.size;refine wp_seq (wp_seq (wp_region_lit (seq_val (zp b1) r (fun R=>y_fieldAddr r (o:=0) rfl fo224_0) rfl fun fr r=>?_)));refine seq_val (.bool true) r (fun R=>y_load_one r (v:=.bool true) rfl h1 to4 rfl) rfl fun fr r=>wpList_nil ?_
    refine wp_cond_split (t:=true) (r.ev rfl) (fun _=>?_) (fun h=>by cases h)
    refine wp_seq (wp_region_lit (seq_val (kf ff f1 f2) r (fun R=>y_load_one r (v:=kf ff f1 f2) rfl h2 to228 rfl) rfl fun fr r=>seq_val (.pointer (some ⟨b1,1,none⟩)) r (fun R=>y_fieldAddr r (o:=0) rfl fo224_1) rfl fun fr r=>kG (walkC x0) 14 r rfl h1 ta221 rfl rfl fun r=>?_));refine seq_call r (hf.at_.2 n (Nat.lt_succ_self n) x0 w3 (Same.below hB hF2) hB.size) (fun R hc=>y_callv r rfl rfl hf.at_.1 hc) rfl ?_
    rintro _ w4 ⟨v,rfl,hb,hr⟩;refine ⟨_,rfl,fun fr r=>?_⟩
    have z4:=hb.size;have n3:¬ F2 b3:=fun h=>by have:=hF2 _ h; omega
    have h3:=keepC hb h3 n3;have hC:Chg F w0 w4:=(Chg.belowZ hB).thenF hb fun b _ h=>s2 b h
    refine kP r hr.shape rfl rfl h3 ts41 rfl rfl fun w5 u5 r=>wpList_nil ?_;have z5:=u5.size
    have h3:=u5.at_;have hC:=hC.thenU u5 (.inl (by omega))
    refine wp_ret ?_;have hs:=hr.shape.cells;refine ret_cell r rfl rfl h3 (k:=8) hs.1 ta41 ?_;rw [←hs.2.2];exact RepResL.fin hC hr u5 (fun b hb=>.inl (s2 b hb)) n3 (by omega) (by omega) (by omega)
  | act op at_ a b k=>
    obtain ⟨nf,n1,n2,hcn,rfl,hk⟩:∃ (nf:FuncId) (n1 n2:List Value),callable Tryz.prog nf=true∧pv=.agg (progCells false encWalk.zero op at_ a b (kf nf n1 n2))∧FnL Tryz.prog encWalk u64 n F1 w0 (kf nf n1 n2) k:=by
      exact RepL.act_inv hp
    refine enter (l:=[.agg (progCells false encWalk.zero op at_ a b (kf nf n1 n2)),kf ff f1 f2]) Tryz.func157 rfl 15 rfl rfl fun fr r=>?_;have hB:=Below.refl w0.heap.size w0
    refine wp_seq (wp_region_lit ?_);refine kX 224 (.agg (progCells false encWalk.zero op at_ a b (kf nf n1 n2))) r rfl rfl fun b1 w1 q1 r=>?_;refine kX 228 (kf ff f1 f2) r rfl rfl fun b2 w2 q2 r=>?_
    refine seq_new (.cells (kq encRes) 41 (0,0)) r (fun R=>y_alloc tz41) rfl fun fr b3 w3 q3 r=>wpList_nil ?_;have h1:=keep q3.below (keep q2.below q1.at_)
    have h2:=keep q3.below q2.at_;have h3:=q3.at_;have e1:=q1.eq; have e2:=q2.eq; have e3:=q3.eq; have z1:=q1.size; have z2:=q2.size; have z3:=q3.size;have hB:=((hB.trans q1.below).trans (q2.below.mono (by omega))).trans (q3.below.mono (by omega))
    have zB:=hB.size;refine wp_seq (wp_seq (wp_region_lit (seq_val (zp b1) r (fun R=>y_fieldAddr r (o:=0) rfl fo224_0) rfl fun fr r=>?_)));refine seq_val (.bool false) r (fun R=>y_load_one r (v:=.bool false) rfl h1 to4 rfl) rfl fun fr r=>wpList_nil ?_
    refine wp_cond_split (t:=false) (r.ev rfl) (fun h=>by cases h) (fun _=>wp_skip ?_);refine wp_seq (wp_region_lit (seq_val (.pointer (some ⟨b1,15,none⟩)) r (fun R=>y_fieldAddr r (o:=0) rfl fo224_2) rfl fun fr r=>kG (accessC (⟨op,at_,a,b⟩:Access)) 4 r rfl h1 ta38 rfl rfl fun r=>seq_val (.func (.func 245) #[] #[zp b1,zp b2]) r (fun R=>y_makeFunc r rfl) rfl fun fr r=>?_))
    have hFb:∀ b,(fun b=>F b∨b=b1∨b=b2) b→b<w3.heap.size:=by rintro b (h | h | h); exact Nat.lt_of_lt_of_le (hF b h) hB.size; omega; omega
    have m1:¬ F1 b1:=fun h=>by have:=hF1 _ h; omega
    have m2:¬ F1 b2:=fun h=>by have:=hF1 _ h; omega
    refine kC r (cl_prog_Do_Res (F:=fun b=>F b∨b=b1∨b=b2) (n:=n) hFb ⟨op,at_,a,b⟩ (a1:=fun x=>(k x).bind g) (show FnL Tryz.prog encRes u64 n (fun b=>F b∨b=b1∨b=b2) w3 (kf 245 [] [zp b1,zp b2]) (fun x=>(k x).bind g) from
      ⟨245,[],[zp b1,zp b2],cl245,rfl,fun m hm x w' hs hz=>kl_prog_Then_walk_Res (ih m hm) (fun b hb=>Nat.lt_of_lt_of_le (hFb b hb) hz) (fun b h=>.inl (s1 b h)) (fun b h=>.inl (s2 b h)) hdj m1 (hs.at_ (.inr (.inl rfl)) h1) m2 (hs.at_ (.inr (.inr rfl)) h2)
        (hk.mono (by omega) (fun b h=>h) ((Same.below hB hF1).trans (hs.sub (fun b h=>.inl (s1 b h)))) (Nat.le_trans hB.size hz)) (hf.mono (by omega) (fun b h=>h) ((Same.below hB hF2).trans (hs.sub (fun b h=>.inl (s2 b h)))) (Nat.le_trans hB.size hz)) x⟩)) rfl cl177 rfl ?_
    rintro _ w4 ⟨v,rfl,hb,hr⟩;refine ⟨_,rfl,fun fr r=>?_⟩
    have z4:=hb.size;have n3:¬ (fun b=>F b∨b=b1∨b=b2) b3:=by rintro (h | h | h); (have:=hF _ h; omega); omega; omega
    have h3:=keepC hb h3 n3;have hC:Chg F w0 w4:=(Chg.belowZ hB).thenF hb (by rintro b hlt (h | h | h); exact h; omega; omega)
    refine kP r hr.shape rfl rfl h3 ts41 rfl rfl fun w5 u5 r=>wpList_nil ?_;have z5:=u5.size
    have h3:=u5.at_;have hC:=hC.thenU u5 (.inl (by omega))
    refine wp_ret ?_;have hs:=hr.shape.cells;refine ret_cell r rfl rfl h3 (k:=8) hs.1 ta41 ?_;rw [←hs.2.2];exact RepResL.fin hC hr u5 (by rintro b (h | h | h); exact .inl h; exact .inr ⟨by omega,by omega⟩; exact .inr ⟨by omega,by omega⟩) n3 (by omega) (by omega) (by omega)
theorem cl_prog_Then_walk_Res_le {n:Nat} {F F1 F2:Nat→Prop} {w0:World} (hF:∀ b,F b→b<w0.heap.size) (s1:∀ b,F1 b→F b) (s2:∀ b,F2 b→F b) (hdj:∀ b,F1 b→¬ F2 b) {t:T (Walk)} {pv fv:Value} {g:Walk→T (Res)} (hp:RepL Tryz.prog encWalk n t F1 w0 pv) (hf:FnL Tryz.prog encRes argWalk (n+1) F2 w0 fv g) :
    Calls Tryz.prog 157 #[pv,fv] w0 (RepResL Tryz.prog encRes n (t.bind g) F w0):=sl_prog_Then_walk_Res n hF s1 s2 hdj hp (hf.mono (by omega) (fun b h=>h) (Same.refl _ _) (Nat.le_refl _)) (.inr hf)
def SpecL_prog_Then_None_Res (n:Nat):Prop:=∀ {F F1 F2:Nat→Prop} {w0:World},(∀ b,F b→b<w0.heap.size)→(∀ b,F1 b→F b)→(∀ b,F2 b→F b)→(∀ b,F1 b→¬ F2 b)→∀ {t:T (Unit)} {pv fv:Value} {g:Unit→T (Res)},RepL Tryz.prog encNone n t F1 w0 pv→FnL Tryz.prog encRes noneE n F2 w0 fv g→
    (t.isDone=false∨FnL Tryz.prog encRes noneE (n+1) F2 w0 fv g)→Calls Tryz.prog 228 #[pv,fv] w0 (RepResL Tryz.prog encRes n (t.bind g) F w0)
theorem kl_prog_Then_None_Res {n:Nat} (ih:SpecL_prog_Then_None_Res n) {F F1 F2:Nat→Prop} {w0:World} (hF:∀ b,F b→b<w0.heap.size) (s1:∀ b,F1 b→F b) (s2:∀ b,F2 b→F b) (hdj:∀ b,F1 b→¬ F2 b) {op at_ a b:Int} {nf:FuncId} {n1 n2:List Value} {k:Int→T (Unit)} {ff:FuncId} {f1 f2:List Value} {g:Unit→T (Res)}
    {b1 b2:Nat} (m1:¬ F1 b1) (h1:w0.heap[b1]?=some (.cells (progCells false encNone.zero op at_ a b (kf nf n1 n2)) 133 (0,0))) (m2:¬ F1 b2) (h2:w0.heap[b2]?=some (.cells #[kf ff f1 f2] 265 (0,0)))
    (hk:FnL Tryz.prog encNone u64 (n+1) F1 w0 (kf nf n1 n2) k) (hg:FnL Tryz.prog encRes noneE (n+1) F2 w0 (kf ff f1 f2) g) (x:Int) :
    Calls Tryz.prog 301 #[.int .u64 x,zp b1,zp b2] w0 (RepResL Tryz.prog encRes n ((k x).bind g) F w0):=by
 refine kN Tryz.func301 rfl 11 rfl rfl fun fr r hB=>?_;have hF1:∀ b,F1 b→b<w0.heap.size:=fun b h=>hF b (s1 b h)
 have hF2:∀ b,F2 b→b<w0.heap.size:=fun b h=>hF b (s2 b h)
 refine wp_seq (wp_region_lit ?_);refine seq_new (.cells (kq encRes) 41 (0,0)) r (fun R=>y_alloc tz41) rfl fun fr b3 w1 q1 r=>wn ?_;have h1:=keep q1.below h1
 have h2:=keep q1.below h2;have e3:=q1.eq;have z1:=q1.size;have h3:=q1.at_;have hB:=hB.trans (q1.below.mono hB.size);have zB:=hB.size;have hk1:=hk.mono (Nat.le_refl _) (fun b h=>h) (Same.below hB hF1) hB.size
 have hF1':∀ b,F1 b→b<w1.heap.size:=fun b h=>Nat.lt_of_lt_of_le (hF1 b h) zB
 refine wp_seq ?_;refine wp_freeSE 5 F1 [.val (.pointer (some ⟨b1,5,none⟩)),.val (kf nf n1 n2),.val (U x),.eff (StepE Tryz.prog encNone n (k x) F1) (StepE.st hF1'),.val (kf ff f1 f2)] mixed r hF1' (by kernel_rfl) ?_ ?_
 ·
  refine eachS_late r rfl (fun fr1 g w' hk' hd r'=>?_) ?_
  · exact y_fieldAddr r' (b:=b1) (o:=0) (k:=5) rfl fo133_3 bz
  refine eachS_late r rfl (fun fr1 g w' hk' hd r'=>?_) ?_
  · exact y_load_one r' (v:=kf nf n1 n2) (hd 0 rfl).1 (keepC (drK hk') h1 m1) to131 rfl bz
  refine eachS_late r rfl (fun fr1 g w' hk' hd r'=>?_) ?_
  · exact y_move r' (v:=.int .u64 x) rfl bz
  refine eachS_early r rfl (by kernel_rfl) (fun fr1 g w' hb' hd r'=>?_) ?_
  ·
   have hb':Below w1.heap.size w1 w':=dr hb';refine y_callv1 r' (fs:=n1) (cs:=n2) (hd 1 rfl).1 (hd 2 rfl).1 hk1.at_.1 ((hk1.at_.2 n (Nat.lt_succ_self n) x w' (Same.below hb' hF1') hb'.size).mono ?_);rintro _ w2 ⟨v,rfl,hb2,hr2⟩;exact ⟨v,rfl,hb2.kept,hr2⟩
  refine eachS_late r rfl (fun fr1 g w' hk' hd r'=>?_) ?_
  · exact y_load_one r' (v:=kf ff f1 f2) rfl (keepC (drK hk') h2 m2) to265 rfl bz
  exact eachF_nil
 intro fr gg w2 hb hΦ _ r;have hr:RepL Tryz.prog encNone n (k x) (fun b=>F1 b∨((gg 3).lo≤b∧b<(gg 3).hi)) w2 (gg 3).v:=(hΦ 3 rfl).1
 have hrg:=(hΦ 3 rfl).2;have r:=r.congr (sc ((hΦ 4 rfl).1) rfl);have z2:=hb.size;have hr3:¬ F1 b3:=fun h=>by have:=hF1 _ h; omega
 have h3:=keepC hb h3 hr3;have hC:Chg F w0 w2:=(Chg.belowZ hB).thenF hb fun b _ h=>s1 b h
 have zB2:=hC.size;have hS2:Same F2 w0 w2:=fun b h=>(hb.block b (Nat.lt_of_lt_of_le (hF2 b h) zB) fun h'=>hdj b h' h).trans (hB.block b (hF2 b h))
 have hFb:∀ b,(kW F w0 w2 b3) b→b<w2.heap.size:=by rintro b (h | h); exact Nat.lt_of_lt_of_le (hF b h) zB2; exact h.2.1
 refine kC r (ih (F:=fun b=>F b∨(w0.heap.size≤b∧b<w2.heap.size∧b≠b3)) (F1:=fun b=>F1 b∨((gg 3).lo≤b∧b<(gg 3).hi)) (F2:=F2) hFb (by rintro b (h | ⟨h,h'⟩); exact .inl (s1 b h); exact .inr ⟨by omega,by omega,by omega⟩) (fun b h=>.inl (s2 b h))
  (by rintro b (h | ⟨h,h'⟩) h2; exact hdj b h h2; have:=hF2 b h2; omega) hr (hg.mono (by omega) (fun b h=>h) hS2 zB2) (.inr (hg.mono (Nat.le_refl _) (fun b h=>h) hS2 zB2))) rfl cl228 rfl ?_
 rintro _ w3 ⟨v2,rfl,hb2,hr2⟩;refine ⟨_,rfl,fun fr r=>?_⟩
 have z3:=hb2.size;have hF3:¬ (kW F w0 w2 b3) b3:=by rintro (h | ⟨_,_,h⟩); (have:=hF _ h; omega); exact h rfl
 have h3:=keepC hb2 h3 hF3;have hC:=hC.thenF hb2 (by rintro b hlt (h | ⟨h,_⟩); exact h; omega)
 refine kP r hr2.shape rfl rfl h3 ts41 rfl rfl fun w4 u4 r=>wn ?_;have z4:=u4.size
 have h3:=u4.at_;have hC:=hC.thenU u4 (.inl (by omega))
 refine wp_ret ?_;have hs:=hr2.shape.cells;refine ret_cell r rfl rfl h3 (k:=8) hs.1 ta41 ?_;rw [←hs.2.2];exact RepResL.fin hC hr2 u4 (by rintro b (h | ⟨h1,h2,_⟩); exact .inl h; exact .inr ⟨h1,h2⟩) hF3 (by omega) (by omega) (by omega)
theorem sl_prog_Then_None_Res (n:Nat):SpecL_prog_Then_None_Res n:=by
  induction n using Nat.strongRecOn with
  | _ n ih=>
  intro F F1 F2 w0 hF s1 s2 hdj t pv fv g hp hf hd;obtain ⟨ff,f1,f2,hcf,rfl,hff⟩:=id hf;have hF1:∀ b,F1 b→b<w0.heap.size:=fun b h=>hF b (s1 b h)
  have hF2:∀ b,F2 b→b<w0.heap.size:=fun b h=>hF b (s2 b h)
  cases t with
  | cut=>unfold RepL at hp; exact hp.elim
  | done x0=>
    have hf:=hd.resolve_left (by intro h; cases h)
    unfold RepL at hp
    subst hp;refine enter (l:=[.agg (progCells true (encNone.cells x0) 0 0 0 0 .nilFunc),kf ff f1 f2]) Tryz.func228 rfl 15 rfl rfl fun fr r=>?_;have hB:=Below.refl w0.heap.size w0
    refine wp_seq (wp_region_lit ?_);refine kX 133 (.agg (progCells true (encNone.cells x0) 0 0 0 0 .nilFunc)) r rfl rfl fun b1 w1 q1 r=>?_;refine kX 265 (kf ff f1 f2) r rfl rfl fun b2 w2 q2 r=>?_
    refine seq_new (.cells (kq encRes) 41 (0,0)) r (fun R=>y_alloc tz41) rfl fun fr b3 w3 q3 r=>wpList_nil ?_;have h1:=keep q3.below (keep q2.below q1.at_)
    have h2:=keep q3.below q2.at_;have h3:=q3.at_;have e1:=q1.eq; have e2:=q2.eq; have e3:=q3.eq; have z1:=q1.size; have z2:=q2.size; have z3:=q3.size;have hB:=((hB.trans q1.below).trans (q2.below.mono (by omega))).trans (q3.below.mono (by omega))
    have zB:=hB.size;refine wp_seq (wp_seq (wp_region_lit (seq_val (zp b1) r (fun R=>y_fieldAddr r (o:=0) rfl fo133_0) rfl fun fr r=>?_)));refine seq_val (.bool true) r (fun R=>y_load_one r (v:=.bool true) rfl h1 to4 rfl) rfl fun fr r=>wpList_nil ?_
    refine wp_cond_split (t:=true) (r.ev rfl) (fun _=>?_) (fun h=>by cases h)
    refine wp_seq (wp_region_lit (seq_val (kf ff f1 f2) r (fun R=>y_load_one r (v:=kf ff f1 f2) rfl h2 to265 rfl) rfl fun fr r=>?_));refine seq_valZ b1 1 r (fun R=>y_fieldAddrZ r rfl fz133 h1) rfl fun fr sp r=>seq_val (.agg #[]) r (fun R=>y_load_zero r rfl ta128) rfl fun fr r=>?_
    refine seq_call r (hf.at_.2 n (Nat.lt_succ_self n) x0 w3 (Same.below hB hF2) hB.size) (fun R hc=>y_callv r rfl rfl hf.at_.1 hc) rfl ?_;rintro _ w4 ⟨v,rfl,hb,hr⟩
    refine ⟨_,rfl,fun fr r=>?_⟩
    have z4:=hb.size;have n3:¬ F2 b3:=fun h=>by have:=hF2 _ h; omega
    have h3:=keepC hb h3 n3;have hC:Chg F w0 w4:=(Chg.belowZ hB).thenF hb fun b _ h=>s2 b h
    refine kP r hr.shape rfl rfl h3 ts41 rfl rfl fun w5 u5 r=>wpList_nil ?_;have z5:=u5.size
    have h3:=u5.at_;have hC:=hC.thenU u5 (.inl (by omega))
    refine wp_ret ?_;have hs:=hr.shape.cells;refine ret_cell r rfl rfl h3 (k:=8) hs.1 ta41 ?_;rw [←hs.2.2];exact RepResL.fin hC hr u5 (fun b hb=>.inl (s2 b hb)) n3 (by omega) (by omega) (by omega)
  | act op at_ a b k=>
    obtain ⟨nf,n1,n2,hcn,rfl,hk⟩:∃ (nf:FuncId) (n1 n2:List Value),callable Tryz.prog nf=true∧pv=.agg (progCells false encNone.zero op at_ a b (kf nf n1 n2))∧FnL Tryz.prog encNone u64 n F1 w0 (kf nf n1 n2) k:=by
      exact RepL.act_inv hp
    refine enter (l:=[.agg (progCells false encNone.zero op at_ a b (kf nf n1 n2)),kf ff f1 f2]) Tryz.func228 rfl 15 rfl rfl fun fr r=>?_;have hB:=Below.refl w0.heap.size w0
    refine wp_seq (wp_region_lit ?_);refine kX 133 (.agg (progCells false encNone.zero op at_ a b (kf nf n1 n2))) r rfl rfl fun b1 w1 q1 r=>?_;refine kX 265 (kf ff f1 f2) r rfl rfl fun b2 w2 q2 r=>?_
    refine seq_new (.cells (kq encRes) 41 (0,0)) r (fun R=>y_alloc tz41) rfl fun fr b3 w3 q3 r=>wpList_nil ?_;have h1:=keep q3.below (keep q2.below q1.at_)
    have h2:=keep q3.below q2.at_;have h3:=q3.at_;have e1:=q1.eq; have e2:=q2.eq; have e3:=q3.eq; have z1:=q1.size; have z2:=q2.size; have z3:=q3.size;have hB:=((hB.trans q1.below).trans (q2.below.mono (by omega))).trans (q3.below.mono (by omega))
    have zB:=hB.size;refine wp_seq (wp_seq (wp_region_lit (seq_val (zp b1) r (fun R=>y_fieldAddr r (o:=0) rfl fo133_0) rfl fun fr r=>?_)));refine seq_val (.bool false) r (fun R=>y_load_one r (v:=.bool false) rfl h1 to4 rfl) rfl fun fr r=>wpList_nil ?_
    refine wp_cond_split (t:=false) (r.ev rfl) (fun h=>by cases h) (fun _=>wp_skip ?_);refine wp_seq (wp_region_lit (seq_val (.pointer (some ⟨b1,1,none⟩)) r (fun R=>y_fieldAddr r (o:=0) rfl fo133_2) rfl fun fr r=>kG (accessC (⟨op,at_,a,b⟩:Access)) 4 r rfl h1 ta38 rfl rfl fun r=>seq_val (.func (.func 301) #[] #[zp b1,zp b2]) r (fun R=>y_makeFunc r rfl) rfl fun fr r=>?_))
    have hFb:∀ b,(fun b=>F b∨b=b1∨b=b2) b→b<w3.heap.size:=by rintro b (h | h | h); exact Nat.lt_of_lt_of_le (hF b h) hB.size; omega; omega
    have m1:¬ F1 b1:=fun h=>by have:=hF1 _ h; omega
    have m2:¬ F1 b2:=fun h=>by have:=hF1 _ h; omega
    refine kC r (cl_prog_Do_Res (F:=fun b=>F b∨b=b1∨b=b2) (n:=n) hFb ⟨op,at_,a,b⟩ (a1:=fun x=>(k x).bind g) (show FnL Tryz.prog encRes u64 n (fun b=>F b∨b=b1∨b=b2) w3 (kf 301 [] [zp b1,zp b2]) (fun x=>(k x).bind g) from
      ⟨301,[],[zp b1,zp b2],cl301,rfl,fun m hm x w' hs hz=>kl_prog_Then_None_Res (ih m hm) (fun b hb=>Nat.lt_of_lt_of_le (hFb b hb) hz) (fun b h=>.inl (s1 b h)) (fun b h=>.inl (s2 b h)) hdj m1 (hs.at_ (.inr (.inl rfl)) h1) m2 (hs.at_ (.inr (.inr rfl)) h2)
        (hk.mono (by omega) (fun b h=>h) ((Same.below hB hF1).trans (hs.sub (fun b h=>.inl (s1 b h)))) (Nat.le_trans hB.size hz)) (hf.mono (by omega) (fun b h=>h) ((Same.below hB hF2).trans (hs.sub (fun b h=>.inl (s2 b h)))) (Nat.le_trans hB.size hz)) x⟩)) rfl cl177 rfl ?_
    rintro _ w4 ⟨v,rfl,hb,hr⟩;refine ⟨_,rfl,fun fr r=>?_⟩
    have z4:=hb.size;have n3:¬ (fun b=>F b∨b=b1∨b=b2) b3:=by rintro (h | h | h); (have:=hF _ h; omega); omega; omega
    have h3:=keepC hb h3 n3;have hC:Chg F w0 w4:=(Chg.belowZ hB).thenF hb (by rintro b hlt (h | h | h); exact h; omega; omega)
    refine kP r hr.shape rfl rfl h3 ts41 rfl rfl fun w5 u5 r=>wpList_nil ?_;have z5:=u5.size
    have h3:=u5.at_;have hC:=hC.thenU u5 (.inl (by omega))
    refine wp_ret ?_;have hs:=hr.shape.cells;refine ret_cell r rfl rfl h3 (k:=8) hs.1 ta41 ?_;rw [←hs.2.2];exact RepResL.fin hC hr u5 (by rintro b (h | h | h); exact .inl h; exact .inr ⟨by omega,by omega⟩; exact .inr ⟨by omega,by omega⟩) n3 (by omega) (by omega) (by omega)
theorem cl_prog_Then_None_Res_le {n:Nat} {F F1 F2:Nat→Prop} {w0:World} (hF:∀ b,F b→b<w0.heap.size) (s1:∀ b,F1 b→F b) (s2:∀ b,F2 b→F b) (hdj:∀ b,F1 b→¬ F2 b) {t:T (Unit)} {pv fv:Value} {g:Unit→T (Res)} (hp:RepL Tryz.prog encNone n t F1 w0 pv) (hf:FnL Tryz.prog encRes noneE (n+1) F2 w0 fv g) :
    Calls Tryz.prog 228 #[pv,fv] w0 (RepResL Tryz.prog encRes n (t.bind g) F w0):=sl_prog_Then_None_Res n hF s1 s2 hdj hp (hf.mono (by omega) (fun b h=>h) (Same.refl _ _) (Nat.le_refl _)) (.inr hf)
def SpecL_prog_Then_None_walk (n:Nat):Prop:=∀ {F F1 F2:Nat→Prop} {w0:World},(∀ b,F b→b<w0.heap.size)→(∀ b,F1 b→F b)→(∀ b,F2 b→F b)→(∀ b,F1 b→¬ F2 b)→∀ {t:T (Unit)} {pv fv:Value} {g:Unit→T (Walk)},RepL Tryz.prog encNone n t F1 w0 pv→FnL Tryz.prog encWalk noneE n F2 w0 fv g→
    (t.isDone=false∨FnL Tryz.prog encWalk noneE (n+1) F2 w0 fv g)→Calls Tryz.prog 363 #[pv,fv] w0 (RepResL Tryz.prog encWalk n (t.bind g) F w0)
theorem kl_prog_Then_None_walk {n:Nat} (ih:SpecL_prog_Then_None_walk n) {F F1 F2:Nat→Prop} {w0:World} (hF:∀ b,F b→b<w0.heap.size) (s1:∀ b,F1 b→F b) (s2:∀ b,F2 b→F b) (hdj:∀ b,F1 b→¬ F2 b) {op at_ a b:Int} {nf:FuncId} {n1 n2:List Value} {k:Int→T (Unit)} {ff:FuncId} {f1 f2:List Value} {g:Unit→T (Walk)}
    {b1 b2:Nat} (m1:¬ F1 b1) (h1:w0.heap[b1]?=some (.cells (progCells false encNone.zero op at_ a b (kf nf n1 n2)) 133 (0,0))) (m2:¬ F1 b2) (h2:w0.heap[b2]?=some (.cells #[kf ff f1 f2] 326 (0,0)))
    (hk:FnL Tryz.prog encNone u64 (n+1) F1 w0 (kf nf n1 n2) k) (hg:FnL Tryz.prog encWalk noneE (n+1) F2 w0 (kf ff f1 f2) g) (x:Int) :
    Calls Tryz.prog 387 #[.int .u64 x,zp b1,zp b2] w0 (RepResL Tryz.prog encWalk n ((k x).bind g) F w0):=by
 refine kN Tryz.func387 rfl 11 rfl rfl fun fr r hB=>?_;have hF1:∀ b,F1 b→b<w0.heap.size:=fun b h=>hF b (s1 b h)
 have hF2:∀ b,F2 b→b<w0.heap.size:=fun b h=>hF b (s2 b h)
 refine wp_seq (wp_region_lit ?_);refine seq_new (.cells (kq encWalk) 224 (0,0)) r (fun R=>y_alloc tz224) rfl fun fr b3 w1 q1 r=>wn ?_;have h1:=keep q1.below h1
 have h2:=keep q1.below h2;have e3:=q1.eq;have z1:=q1.size;have h3:=q1.at_;have hB:=hB.trans (q1.below.mono hB.size);have zB:=hB.size;have hk1:=hk.mono (Nat.le_refl _) (fun b h=>h) (Same.below hB hF1) hB.size
 have hF1':∀ b,F1 b→b<w1.heap.size:=fun b h=>Nat.lt_of_lt_of_le (hF1 b h) zB
 refine wp_seq ?_;refine wp_freeSE 5 F1 [.val (.pointer (some ⟨b1,5,none⟩)),.val (kf nf n1 n2),.val (U x),.eff (StepE Tryz.prog encNone n (k x) F1) (StepE.st hF1'),.val (kf ff f1 f2)] mixed r hF1' (by kernel_rfl) ?_ ?_
 ·
  refine eachS_late r rfl (fun fr1 g w' hk' hd r'=>?_) ?_
  · exact y_fieldAddr r' (b:=b1) (o:=0) (k:=5) rfl fo133_3 bz
  refine eachS_late r rfl (fun fr1 g w' hk' hd r'=>?_) ?_
  · exact y_load_one r' (v:=kf nf n1 n2) (hd 0 rfl).1 (keepC (drK hk') h1 m1) to131 rfl bz
  refine eachS_late r rfl (fun fr1 g w' hk' hd r'=>?_) ?_
  · exact y_move r' (v:=.int .u64 x) rfl bz
  refine eachS_early r rfl (by kernel_rfl) (fun fr1 g w' hb' hd r'=>?_) ?_
  ·
   have hb':Below w1.heap.size w1 w':=dr hb';refine y_callv1 r' (fs:=n1) (cs:=n2) (hd 1 rfl).1 (hd 2 rfl).1 hk1.at_.1 ((hk1.at_.2 n (Nat.lt_succ_self n) x w' (Same.below hb' hF1') hb'.size).mono ?_);rintro _ w2 ⟨v,rfl,hb2,hr2⟩;exact ⟨v,rfl,hb2.kept,hr2⟩
  refine eachS_late r rfl (fun fr1 g w' hk' hd r'=>?_) ?_
  · exact y_load_one r' (v:=kf ff f1 f2) rfl (keepC (drK hk') h2 m2) to326 rfl bz
  exact eachF_nil
 intro fr gg w2 hb hΦ _ r;have hr:RepL Tryz.prog encNone n (k x) (fun b=>F1 b∨((gg 3).lo≤b∧b<(gg 3).hi)) w2 (gg 3).v:=(hΦ 3 rfl).1
 have hrg:=(hΦ 3 rfl).2;have r:=r.congr (sc ((hΦ 4 rfl).1) rfl);have z2:=hb.size;have hr3:¬ F1 b3:=fun h=>by have:=hF1 _ h; omega
 have h3:=keepC hb h3 hr3;have hC:Chg F w0 w2:=(Chg.belowZ hB).thenF hb fun b _ h=>s1 b h
 have zB2:=hC.size;have hS2:Same F2 w0 w2:=fun b h=>(hb.block b (Nat.lt_of_lt_of_le (hF2 b h) zB) fun h'=>hdj b h' h).trans (hB.block b (hF2 b h))
 have hFb:∀ b,(kW F w0 w2 b3) b→b<w2.heap.size:=by rintro b (h | h); exact Nat.lt_of_lt_of_le (hF b h) zB2; exact h.2.1
 refine kC r (ih (F:=fun b=>F b∨(w0.heap.size≤b∧b<w2.heap.size∧b≠b3)) (F1:=fun b=>F1 b∨((gg 3).lo≤b∧b<(gg 3).hi)) (F2:=F2) hFb (by rintro b (h | ⟨h,h'⟩); exact .inl (s1 b h); exact .inr ⟨by omega,by omega,by omega⟩) (fun b h=>.inl (s2 b h))
  (by rintro b (h | ⟨h,h'⟩) h2; exact hdj b h h2; have:=hF2 b h2; omega) hr (hg.mono (by omega) (fun b h=>h) hS2 zB2) (.inr (hg.mono (Nat.le_refl _) (fun b h=>h) hS2 zB2))) rfl cl363 rfl ?_
 rintro _ w3 ⟨v2,rfl,hb2,hr2⟩;refine ⟨_,rfl,fun fr r=>?_⟩
 have z3:=hb2.size;have hF3:¬ (kW F w0 w2 b3) b3:=by rintro (h | ⟨_,_,h⟩); (have:=hF _ h; omega); exact h rfl
 have h3:=keepC hb2 h3 hF3;have hC:=hC.thenF hb2 (by rintro b hlt (h | ⟨h,_⟩); exact h; omega)
 refine kP r hr2.shape rfl rfl h3 ts224 rfl rfl fun w4 u4 r=>wn ?_;have z4:=u4.size
 have h3:=u4.at_;have hC:=hC.thenU u4 (.inl (by omega))
 refine wp_ret ?_;have hs:=hr2.shape.cells;refine ret_cell r rfl rfl h3 (k:=20) hs.1 ta224 ?_;rw [←hs.2.2];exact RepResL.fin hC hr2 u4 (by rintro b (h | ⟨h1,h2,_⟩); exact .inl h; exact .inr ⟨h1,h2⟩) hF3 (by omega) (by omega) (by omega)
theorem sl_prog_Then_None_walk (n:Nat):SpecL_prog_Then_None_walk n:=by
  induction n using Nat.strongRecOn with
  | _ n ih=>
  intro F F1 F2 w0 hF s1 s2 hdj t pv fv g hp hf hd;obtain ⟨ff,f1,f2,hcf,rfl,hff⟩:=id hf;have hF1:∀ b,F1 b→b<w0.heap.size:=fun b h=>hF b (s1 b h)
  have hF2:∀ b,F2 b→b<w0.heap.size:=fun b h=>hF b (s2 b h)
  cases t with
  | cut=>unfold RepL at hp; exact hp.elim
  | done x0=>
    have hf:=hd.resolve_left (by intro h; cases h)
    unfold RepL at hp
    subst hp;refine enter (l:=[.agg (progCells true (encNone.cells x0) 0 0 0 0 .nilFunc),kf ff f1 f2]) Tryz.func363 rfl 15 rfl rfl fun fr r=>?_;have hB:=Below.refl w0.heap.size w0
    refine wp_seq (wp_region_lit ?_);refine kX 133 (.agg (progCells true (encNone.cells x0) 0 0 0 0 .nilFunc)) r rfl rfl fun b1 w1 q1 r=>?_;refine kX 326 (kf ff f1 f2) r rfl rfl fun b2 w2 q2 r=>?_
    refine seq_new (.cells (kq encWalk) 224 (0,0)) r (fun R=>y_alloc tz224) rfl fun fr b3 w3 q3 r=>wpList_nil ?_;have h1:=keep q3.below (keep q2.below q1.at_)
    have h2:=keep q3.below q2.at_;have h3:=q3.at_;have e1:=q1.eq; have e2:=q2.eq; have e3:=q3.eq; have z1:=q1.size; have z2:=q2.size; have z3:=q3.size;have hB:=((hB.trans q1.below).trans (q2.below.mono (by omega))).trans (q3.below.mono (by omega))
    have zB:=hB.size;refine wp_seq (wp_seq (wp_region_lit (seq_val (zp b1) r (fun R=>y_fieldAddr r (o:=0) rfl fo133_0) rfl fun fr r=>?_)));refine seq_val (.bool true) r (fun R=>y_load_one r (v:=.bool true) rfl h1 to4 rfl) rfl fun fr r=>wpList_nil ?_
    refine wp_cond_split (t:=true) (r.ev rfl) (fun _=>?_) (fun h=>by cases h)
    refine wp_seq (wp_region_lit (seq_val (kf ff f1 f2) r (fun R=>y_load_one r (v:=kf ff f1 f2) rfl h2 to326 rfl) rfl fun fr r=>?_));refine seq_valZ b1 1 r (fun R=>y_fieldAddrZ r rfl fz133 h1) rfl fun fr sp r=>seq_val (.agg #[]) r (fun R=>y_load_zero r rfl ta128) rfl fun fr r=>?_
    refine seq_call r (hf.at_.2 n (Nat.lt_succ_self n) x0 w3 (Same.below hB hF2) hB.size) (fun R hc=>y_callv r rfl rfl hf.at_.1 hc) rfl ?_;rintro _ w4 ⟨v,rfl,hb,hr⟩
    refine ⟨_,rfl,fun fr r=>?_⟩
    have z4:=hb.size;have n3:¬ F2 b3:=fun h=>by have:=hF2 _ h; omega
    have h3:=keepC hb h3 n3;have hC:Chg F w0 w4:=(Chg.belowZ hB).thenF hb fun b _ h=>s2 b h
    refine kP r hr.shape rfl rfl h3 ts224 rfl rfl fun w5 u5 r=>wpList_nil ?_;have z5:=u5.size
    have h3:=u5.at_;have hC:=hC.thenU u5 (.inl (by omega))
    refine wp_ret ?_;have hs:=hr.shape.cells;refine ret_cell r rfl rfl h3 (k:=20) hs.1 ta224 ?_;rw [←hs.2.2];exact RepResL.fin hC hr u5 (fun b hb=>.inl (s2 b hb)) n3 (by omega) (by omega) (by omega)
  | act op at_ a b k=>
    obtain ⟨nf,n1,n2,hcn,rfl,hk⟩:∃ (nf:FuncId) (n1 n2:List Value),callable Tryz.prog nf=true∧pv=.agg (progCells false encNone.zero op at_ a b (kf nf n1 n2))∧FnL Tryz.prog encNone u64 n F1 w0 (kf nf n1 n2) k:=by
      exact RepL.act_inv hp
    refine enter (l:=[.agg (progCells false encNone.zero op at_ a b (kf nf n1 n2)),kf ff f1 f2]) Tryz.func363 rfl 15 rfl rfl fun fr r=>?_;have hB:=Below.refl w0.heap.size w0
    refine wp_seq (wp_region_lit ?_);refine kX 133 (.agg (progCells false encNone.zero op at_ a b (kf nf n1 n2))) r rfl rfl fun b1 w1 q1 r=>?_;refine kX 326 (kf ff f1 f2) r rfl rfl fun b2 w2 q2 r=>?_
    refine seq_new (.cells (kq encWalk) 224 (0,0)) r (fun R=>y_alloc tz224) rfl fun fr b3 w3 q3 r=>wpList_nil ?_;have h1:=keep q3.below (keep q2.below q1.at_)
    have h2:=keep q3.below q2.at_;have h3:=q3.at_;have e1:=q1.eq; have e2:=q2.eq; have e3:=q3.eq; have z1:=q1.size; have z2:=q2.size; have z3:=q3.size;have hB:=((hB.trans q1.below).trans (q2.below.mono (by omega))).trans (q3.below.mono (by omega))
    have zB:=hB.size;refine wp_seq (wp_seq (wp_region_lit (seq_val (zp b1) r (fun R=>y_fieldAddr r (o:=0) rfl fo133_0) rfl fun fr r=>?_)));refine seq_val (.bool false) r (fun R=>y_load_one r (v:=.bool false) rfl h1 to4 rfl) rfl fun fr r=>wpList_nil ?_
    refine wp_cond_split (t:=false) (r.ev rfl) (fun h=>by cases h) (fun _=>wp_skip ?_);refine wp_seq (wp_region_lit (seq_val (.pointer (some ⟨b1,1,none⟩)) r (fun R=>y_fieldAddr r (o:=0) rfl fo133_2) rfl fun fr r=>kG (accessC (⟨op,at_,a,b⟩:Access)) 4 r rfl h1 ta38 rfl rfl fun r=>seq_val (.func (.func 387) #[] #[zp b1,zp b2]) r (fun R=>y_makeFunc r rfl) rfl fun fr r=>?_))
    have hFb:∀ b,(fun b=>F b∨b=b1∨b=b2) b→b<w3.heap.size:=by rintro b (h | h | h); exact Nat.lt_of_lt_of_le (hF b h) hB.size; omega; omega
    have m1:¬ F1 b1:=fun h=>by have:=hF1 _ h; omega
    have m2:¬ F1 b2:=fun h=>by have:=hF1 _ h; omega
    refine kC r (cl_prog_Do_walk (F:=fun b=>F b∨b=b1∨b=b2) (n:=n) hFb ⟨op,at_,a,b⟩ (a1:=fun x=>(k x).bind g) (show FnL Tryz.prog encWalk u64 n (fun b=>F b∨b=b1∨b=b2) w3 (kf 387 [] [zp b1,zp b2]) (fun x=>(k x).bind g) from
      ⟨387,[],[zp b1,zp b2],cl387,rfl,fun m hm x w' hs hz=>kl_prog_Then_None_walk (ih m hm) (fun b hb=>Nat.lt_of_lt_of_le (hFb b hb) hz) (fun b h=>.inl (s1 b h)) (fun b h=>.inl (s2 b h)) hdj m1 (hs.at_ (.inr (.inl rfl)) h1) m2 (hs.at_ (.inr (.inr rfl)) h2)
        (hk.mono (by omega) (fun b h=>h) ((Same.below hB hF1).trans (hs.sub (fun b h=>.inl (s1 b h)))) (Nat.le_trans hB.size hz)) (hf.mono (by omega) (fun b h=>h) ((Same.below hB hF2).trans (hs.sub (fun b h=>.inl (s2 b h)))) (Nat.le_trans hB.size hz)) x⟩)) rfl cl311 rfl ?_
    rintro _ w4 ⟨v,rfl,hb,hr⟩;refine ⟨_,rfl,fun fr r=>?_⟩
    have z4:=hb.size;have n3:¬ (fun b=>F b∨b=b1∨b=b2) b3:=by rintro (h | h | h); (have:=hF _ h; omega); omega; omega
    have h3:=keepC hb h3 n3;have hC:Chg F w0 w4:=(Chg.belowZ hB).thenF hb (by rintro b hlt (h | h | h); exact h; omega; omega)
    refine kP r hr.shape rfl rfl h3 ts224 rfl rfl fun w5 u5 r=>wpList_nil ?_;have z5:=u5.size
    have h3:=u5.at_;have hC:=hC.thenU u5 (.inl (by omega))
    refine wp_ret ?_;have hs:=hr.shape.cells;refine ret_cell r rfl rfl h3 (k:=20) hs.1 ta224 ?_;rw [←hs.2.2];exact RepResL.fin hC hr u5 (by rintro b (h | h | h); exact .inl h; exact .inr ⟨by omega,by omega⟩; exact .inr ⟨by omega,by omega⟩) n3 (by omega) (by omega) (by omega)
theorem cl_prog_Then_None_walk_lt {n:Nat} {F F1 F2:Nat→Prop} {w0:World} (hF:∀ b,F b→b<w0.heap.size) (s1:∀ b,F1 b→F b) (s2:∀ b,F2 b→F b) (hdj:∀ b,F1 b→¬ F2 b) {t:T (Unit)} {pv fv:Value} {g:Unit→T (Walk)} (hp:RepL Tryz.prog encNone n t F1 w0 pv) (hf:FnL Tryz.prog encWalk noneE n F2 w0 fv g) (hd:t.isDone=false) :
    Calls Tryz.prog 363 #[pv,fv] w0 (RepResL Tryz.prog encWalk n (t.bind g) F w0):=sl_prog_Then_None_walk n hF s1 s2 hdj hp hf (.inl hd)
def SpecL_prog_Then_int_Res (n:Nat):Prop:=∀ {F F1 F2:Nat→Prop} {w0:World},(∀ b,F b→b<w0.heap.size)→(∀ b,F1 b→F b)→(∀ b,F2 b→F b)→(∀ b,F1 b→¬ F2 b)→∀ {t:T (Int)} {pv fv:Value} {g:Int→T (Res)},RepL Tryz.prog encInt n t F1 w0 pv→FnL Tryz.prog encRes i64 n F2 w0 fv g→
    (t.isDone=false∨FnL Tryz.prog encRes i64 (n+1) F2 w0 fv g)→Calls Tryz.prog 140 #[pv,fv] w0 (RepResL Tryz.prog encRes n (t.bind g) F w0)
theorem kl_prog_Then_int_Res {n:Nat} (ih:SpecL_prog_Then_int_Res n) {F F1 F2:Nat→Prop} {w0:World} (hF:∀ b,F b→b<w0.heap.size) (s1:∀ b,F1 b→F b) (s2:∀ b,F2 b→F b) (hdj:∀ b,F1 b→¬ F2 b) {op at_ a b:Int} {nf:FuncId} {n1 n2:List Value} {k:Int→T (Int)} {ff:FuncId} {f1 f2:List Value} {g:Int→T (Res)}
    {b1 b2:Nat} (m1:¬ F1 b1) (h1:w0.heap[b1]?=some (.cells (progCells false encInt.zero op at_ a b (kf nf n1 n2)) 119 (0,0))) (m2:¬ F1 b2) (h2:w0.heap[b2]?=some (.cells #[kf ff f1 f2] 213 (0,0)))
    (hk:FnL Tryz.prog encInt u64 (n+1) F1 w0 (kf nf n1 n2) k) (hg:FnL Tryz.prog encRes i64 (n+1) F2 w0 (kf ff f1 f2) g) (x:Int) :
    Calls Tryz.prog 220 #[.int .u64 x,zp b1,zp b2] w0 (RepResL Tryz.prog encRes n ((k x).bind g) F w0):=by
 refine kN Tryz.func220 rfl 11 rfl rfl fun fr r hB=>?_;have hF1:∀ b,F1 b→b<w0.heap.size:=fun b h=>hF b (s1 b h)
 have hF2:∀ b,F2 b→b<w0.heap.size:=fun b h=>hF b (s2 b h)
 refine wp_seq (wp_region_lit ?_);refine seq_new (.cells (kq encRes) 41 (0,0)) r (fun R=>y_alloc tz41) rfl fun fr b3 w1 q1 r=>wn ?_;have h1:=keep q1.below h1
 have h2:=keep q1.below h2;have e3:=q1.eq;have z1:=q1.size;have h3:=q1.at_;have hB:=hB.trans (q1.below.mono hB.size);have zB:=hB.size;have hk1:=hk.mono (Nat.le_refl _) (fun b h=>h) (Same.below hB hF1) hB.size
 have hF1':∀ b,F1 b→b<w1.heap.size:=fun b h=>Nat.lt_of_lt_of_le (hF1 b h) zB
 refine wp_seq ?_;refine wp_freeSE 5 F1 [.val (.pointer (some ⟨b1,6,none⟩)),.val (kf nf n1 n2),.val (U x),.eff (StepE Tryz.prog encInt n (k x) F1) (StepE.st hF1'),.val (kf ff f1 f2)] mixed r hF1' (by kernel_rfl) ?_ ?_
 ·
  refine eachS_late r rfl (fun fr1 g w' hk' hd r'=>?_) ?_
  · exact y_fieldAddr r' (b:=b1) (o:=0) (k:=6) rfl fo119_3 bz
  refine eachS_late r rfl (fun fr1 g w' hk' hd r'=>?_) ?_
  · exact y_load_one r' (v:=kf nf n1 n2) (hd 0 rfl).1 (keepC (drK hk') h1 m1) to117 rfl bz
  refine eachS_late r rfl (fun fr1 g w' hk' hd r'=>?_) ?_
  · exact y_move r' (v:=.int .u64 x) rfl bz
  refine eachS_early r rfl (by kernel_rfl) (fun fr1 g w' hb' hd r'=>?_) ?_
  ·
   have hb':Below w1.heap.size w1 w':=dr hb';refine y_callv1 r' (fs:=n1) (cs:=n2) (hd 1 rfl).1 (hd 2 rfl).1 hk1.at_.1 ((hk1.at_.2 n (Nat.lt_succ_self n) x w' (Same.below hb' hF1') hb'.size).mono ?_);rintro _ w2 ⟨v,rfl,hb2,hr2⟩;exact ⟨v,rfl,hb2.kept,hr2⟩
  refine eachS_late r rfl (fun fr1 g w' hk' hd r'=>?_) ?_
  · exact y_load_one r' (v:=kf ff f1 f2) rfl (keepC (drK hk') h2 m2) to213 rfl bz
  exact eachF_nil
 intro fr gg w2 hb hΦ _ r;have hr:RepL Tryz.prog encInt n (k x) (fun b=>F1 b∨((gg 3).lo≤b∧b<(gg 3).hi)) w2 (gg 3).v:=(hΦ 3 rfl).1
 have hrg:=(hΦ 3 rfl).2;have r:=r.congr (sc ((hΦ 4 rfl).1) rfl);have z2:=hb.size;have hr3:¬ F1 b3:=fun h=>by have:=hF1 _ h; omega
 have h3:=keepC hb h3 hr3;have hC:Chg F w0 w2:=(Chg.belowZ hB).thenF hb fun b _ h=>s1 b h
 have zB2:=hC.size;have hS2:Same F2 w0 w2:=fun b h=>(hb.block b (Nat.lt_of_lt_of_le (hF2 b h) zB) fun h'=>hdj b h' h).trans (hB.block b (hF2 b h))
 have hFb:∀ b,(kW F w0 w2 b3) b→b<w2.heap.size:=by rintro b (h | h); exact Nat.lt_of_lt_of_le (hF b h) zB2; exact h.2.1
 refine kC r (ih (F:=fun b=>F b∨(w0.heap.size≤b∧b<w2.heap.size∧b≠b3)) (F1:=fun b=>F1 b∨((gg 3).lo≤b∧b<(gg 3).hi)) (F2:=F2) hFb (by rintro b (h | ⟨h,h'⟩); exact .inl (s1 b h); exact .inr ⟨by omega,by omega,by omega⟩) (fun b h=>.inl (s2 b h))
  (by rintro b (h | ⟨h,h'⟩) h2; exact hdj b h h2; have:=hF2 b h2; omega) hr (hg.mono (by omega) (fun b h=>h) hS2 zB2) (.inr (hg.mono (Nat.le_refl _) (fun b h=>h) hS2 zB2))) rfl cl140 rfl ?_
 rintro _ w3 ⟨v2,rfl,hb2,hr2⟩;refine ⟨_,rfl,fun fr r=>?_⟩
 have z3:=hb2.size;have hF3:¬ (kW F w0 w2 b3) b3:=by rintro (h | ⟨_,_,h⟩); (have:=hF _ h; omega); exact h rfl
 have h3:=keepC hb2 h3 hF3;have hC:=hC.thenF hb2 (by rintro b hlt (h | ⟨h,_⟩); exact h; omega)
 refine kP r hr2.shape rfl rfl h3 ts41 rfl rfl fun w4 u4 r=>wn ?_;have z4:=u4.size
 have h3:=u4.at_;have hC:=hC.thenU u4 (.inl (by omega))
 refine wp_ret ?_;have hs:=hr2.shape.cells;refine ret_cell r rfl rfl h3 (k:=8) hs.1 ta41 ?_;rw [←hs.2.2];exact RepResL.fin hC hr2 u4 (by rintro b (h | ⟨h1,h2,_⟩); exact .inl h; exact .inr ⟨h1,h2⟩) hF3 (by omega) (by omega) (by omega)
theorem sl_prog_Then_int_Res (n:Nat):SpecL_prog_Then_int_Res n:=by
  induction n using Nat.strongRecOn with
  | _ n ih=>
  intro F F1 F2 w0 hF s1 s2 hdj t pv fv g hp hf hd;obtain ⟨ff,f1,f2,hcf,rfl,hff⟩:=id hf;have hF1:∀ b,F1 b→b<w0.heap.size:=fun b h=>hF b (s1 b h)
  have hF2:∀ b,F2 b→b<w0.heap.size:=fun b h=>hF b (s2 b h)
  cases t with
  | cut=>unfold RepL at hp; exact hp.elim
  | done x0=>
    have hf:=hd.resolve_left (by intro h; cases h)
    unfold RepL at hp
    subst hp;refine enter (l:=[.agg (progCells true (encInt.cells x0) 0 0 0 0 .nilFunc),kf ff f1 f2]) Tryz.func140 rfl 15 rfl rfl fun fr r=>?_;have hB:=Below.refl w0.heap.size w0
    refine wp_seq (wp_region_lit ?_);refine kX 119 (.agg (progCells true (encInt.cells x0) 0 0 0 0 .nilFunc)) r rfl rfl fun b1 w1 q1 r=>?_;refine kX 213 (kf ff f1 f2) r rfl rfl fun b2 w2 q2 r=>?_
    refine seq_new (.cells (kq encRes) 41 (0,0)) r (fun R=>y_alloc tz41) rfl fun fr b3 w3 q3 r=>wpList_nil ?_;have h1:=keep q3.below (keep q2.below q1.at_)
    have h2:=keep q3.below q2.at_;have h3:=q3.at_;have e1:=q1.eq; have e2:=q2.eq; have e3:=q3.eq; have z1:=q1.size; have z2:=q2.size; have z3:=q3.size;have hB:=((hB.trans q1.below).trans (q2.below.mono (by omega))).trans (q3.below.mono (by omega))
    have zB:=hB.size;refine wp_seq (wp_seq (wp_region_lit (seq_val (zp b1) r (fun R=>y_fieldAddr r (o:=0) rfl fo119_0) rfl fun fr r=>?_)));refine seq_val (.bool true) r (fun R=>y_load_one r (v:=.bool true) rfl h1 to4 rfl) rfl fun fr r=>wpList_nil ?_
    refine wp_cond_split (t:=true) (r.ev rfl) (fun _=>?_) (fun h=>by cases h)
    refine wp_seq (wp_region_lit (seq_val (kf ff f1 f2) r (fun R=>y_load_one r (v:=kf ff f1 f2) rfl h2 to213 rfl) rfl fun fr r=>seq_val (.pointer (some ⟨b1,1,none⟩)) r (fun R=>y_fieldAddr r (o:=0) rfl fo119_1) rfl fun fr r=>seq_val (.int .i64 x0) r (fun R=>y_load_one r (v:=(.int .i64 x0)) rfl h1 to3 rfl) rfl fun fr r=>?_));refine seq_call r (hf.at_.2 n (Nat.lt_succ_self n) x0 w3 (Same.below hB hF2) hB.size) (fun R hc=>y_callv r rfl rfl hf.at_.1 hc) rfl ?_
    rintro _ w4 ⟨v,rfl,hb,hr⟩;refine ⟨_,rfl,fun fr r=>?_⟩
    have z4:=hb.size;have n3:¬ F2 b3:=fun h=>by have:=hF2 _ h; omega
    have h3:=keepC hb h3 n3;have hC:Chg F w0 w4:=(Chg.belowZ hB).thenF hb fun b _ h=>s2 b h
    refine kP r hr.shape rfl rfl h3 ts41 rfl rfl fun w5 u5 r=>wpList_nil ?_;have z5:=u5.size
    have h3:=u5.at_;have hC:=hC.thenU u5 (.inl (by omega))
    refine wp_ret ?_;have hs:=hr.shape.cells;refine ret_cell r rfl rfl h3 (k:=8) hs.1 ta41 ?_;rw [←hs.2.2];exact RepResL.fin hC hr u5 (fun b hb=>.inl (s2 b hb)) n3 (by omega) (by omega) (by omega)
  | act op at_ a b k=>
    obtain ⟨nf,n1,n2,hcn,rfl,hk⟩:∃ (nf:FuncId) (n1 n2:List Value),callable Tryz.prog nf=true∧pv=.agg (progCells false encInt.zero op at_ a b (kf nf n1 n2))∧FnL Tryz.prog encInt u64 n F1 w0 (kf nf n1 n2) k:=by
      exact RepL.act_inv hp
    refine enter (l:=[.agg (progCells false encInt.zero op at_ a b (kf nf n1 n2)),kf ff f1 f2]) Tryz.func140 rfl 15 rfl rfl fun fr r=>?_;have hB:=Below.refl w0.heap.size w0
    refine wp_seq (wp_region_lit ?_);refine kX 119 (.agg (progCells false encInt.zero op at_ a b (kf nf n1 n2))) r rfl rfl fun b1 w1 q1 r=>?_;refine kX 213 (kf ff f1 f2) r rfl rfl fun b2 w2 q2 r=>?_
    refine seq_new (.cells (kq encRes) 41 (0,0)) r (fun R=>y_alloc tz41) rfl fun fr b3 w3 q3 r=>wpList_nil ?_;have h1:=keep q3.below (keep q2.below q1.at_)
    have h2:=keep q3.below q2.at_;have h3:=q3.at_;have e1:=q1.eq; have e2:=q2.eq; have e3:=q3.eq; have z1:=q1.size; have z2:=q2.size; have z3:=q3.size;have hB:=((hB.trans q1.below).trans (q2.below.mono (by omega))).trans (q3.below.mono (by omega))
    have zB:=hB.size;refine wp_seq (wp_seq (wp_region_lit (seq_val (zp b1) r (fun R=>y_fieldAddr r (o:=0) rfl fo119_0) rfl fun fr r=>?_)));refine seq_val (.bool false) r (fun R=>y_load_one r (v:=.bool false) rfl h1 to4 rfl) rfl fun fr r=>wpList_nil ?_
    refine wp_cond_split (t:=false) (r.ev rfl) (fun h=>by cases h) (fun _=>wp_skip ?_);refine wp_seq (wp_region_lit (seq_val (.pointer (some ⟨b1,2,none⟩)) r (fun R=>y_fieldAddr r (o:=0) rfl fo119_2) rfl fun fr r=>kG (accessC (⟨op,at_,a,b⟩:Access)) 4 r rfl h1 ta38 rfl rfl fun r=>seq_val (.func (.func 220) #[] #[zp b1,zp b2]) r (fun R=>y_makeFunc r rfl) rfl fun fr r=>?_))
    have hFb:∀ b,(fun b=>F b∨b=b1∨b=b2) b→b<w3.heap.size:=by rintro b (h | h | h); exact Nat.lt_of_lt_of_le (hF b h) hB.size; omega; omega
    have m1:¬ F1 b1:=fun h=>by have:=hF1 _ h; omega
    have m2:¬ F1 b2:=fun h=>by have:=hF1 _ h; omega
    refine kC r (cl_prog_Do_Res (F:=fun b=>F b∨b=b1∨b=b2) (n:=n) hFb ⟨op,at_,a,b⟩ (a1:=fun x=>(k x).bind g) (show FnL Tryz.prog encRes u64 n (fun b=>F b∨b=b1∨b=b2) w3 (kf 220 [] [zp b1,zp b2]) (fun x=>(k x).bind g) from
      ⟨220,[],[zp b1,zp b2],cl220,rfl,fun m hm x w' hs hz=>kl_prog_Then_int_Res (ih m hm) (fun b hb=>Nat.lt_of_lt_of_le (hFb b hb) hz) (fun b h=>.inl (s1 b h)) (fun b h=>.inl (s2 b h)) hdj m1 (hs.at_ (.inr (.inl rfl)) h1) m2 (hs.at_ (.inr (.inr rfl)) h2)
        (hk.mono (by omega) (fun b h=>h) ((Same.below hB hF1).trans (hs.sub (fun b h=>.inl (s1 b h)))) (Nat.le_trans hB.size hz)) (hf.mono (by omega) (fun b h=>h) ((Same.below hB hF2).trans (hs.sub (fun b h=>.inl (s2 b h)))) (Nat.le_trans hB.size hz)) x⟩)) rfl cl177 rfl ?_
    rintro _ w4 ⟨v,rfl,hb,hr⟩;refine ⟨_,rfl,fun fr r=>?_⟩
    have z4:=hb.size;have n3:¬ (fun b=>F b∨b=b1∨b=b2) b3:=by rintro (h | h | h); (have:=hF _ h; omega); omega; omega
    have h3:=keepC hb h3 n3;have hC:Chg F w0 w4:=(Chg.belowZ hB).thenF hb (by rintro b hlt (h | h | h); exact h; omega; omega)
    refine kP r hr.shape rfl rfl h3 ts41 rfl rfl fun w5 u5 r=>wpList_nil ?_;have z5:=u5.size
    have h3:=u5.at_;have hC:=hC.thenU u5 (.inl (by omega))
    refine wp_ret ?_;have hs:=hr.shape.cells;refine ret_cell r rfl rfl h3 (k:=8) hs.1 ta41 ?_;rw [←hs.2.2];exact RepResL.fin hC hr u5 (by rintro b (h | h | h); exact .inl h; exact .inr ⟨by omega,by omega⟩; exact .inr ⟨by omega,by omega⟩) n3 (by omega) (by omega) (by omega)
theorem cl_prog_Then_int_Res_le {n:Nat} {F F1 F2:Nat→Prop} {w0:World} (hF:∀ b,F b→b<w0.heap.size) (s1:∀ b,F1 b→F b) (s2:∀ b,F2 b→F b) (hdj:∀ b,F1 b→¬ F2 b) {t:T (Int)} {pv fv:Value} {g:Int→T (Res)} (hp:RepL Tryz.prog encInt n t F1 w0 pv) (hf:FnL Tryz.prog encRes i64 (n+1) F2 w0 fv g) :
    Calls Tryz.prog 140 #[pv,fv] w0 (RepResL Tryz.prog encRes n (t.bind g) F w0):=sl_prog_Then_int_Res n hF s1 s2 hdj hp (hf.mono (by omega) (fun b h=>h) (Same.refl _ _) (Nat.le_refl _)) (.inr hf)
def SpecL_prog_Then_int_walk (n:Nat):Prop:=∀ {F F1 F2:Nat→Prop} {w0:World},(∀ b,F b→b<w0.heap.size)→(∀ b,F1 b→F b)→(∀ b,F2 b→F b)→(∀ b,F1 b→¬ F2 b)→∀ {t:T (Int)} {pv fv:Value} {g:Int→T (Walk)},RepL Tryz.prog encInt n t F1 w0 pv→FnL Tryz.prog encWalk i64 n F2 w0 fv g→
    (t.isDone=false∨FnL Tryz.prog encWalk i64 (n+1) F2 w0 fv g)→Calls Tryz.prog 390 #[pv,fv] w0 (RepResL Tryz.prog encWalk n (t.bind g) F w0)
theorem kl_prog_Then_int_walk {n:Nat} (ih:SpecL_prog_Then_int_walk n) {F F1 F2:Nat→Prop} {w0:World} (hF:∀ b,F b→b<w0.heap.size) (s1:∀ b,F1 b→F b) (s2:∀ b,F2 b→F b) (hdj:∀ b,F1 b→¬ F2 b) {op at_ a b:Int} {nf:FuncId} {n1 n2:List Value} {k:Int→T (Int)} {ff:FuncId} {f1 f2:List Value} {g:Int→T (Walk)}
    {b1 b2:Nat} (m1:¬ F1 b1) (h1:w0.heap[b1]?=some (.cells (progCells false encInt.zero op at_ a b (kf nf n1 n2)) 119 (0,0))) (m2:¬ F1 b2) (h2:w0.heap[b2]?=some (.cells #[kf ff f1 f2] 306 (0,0)))
    (hk:FnL Tryz.prog encInt u64 (n+1) F1 w0 (kf nf n1 n2) k) (hg:FnL Tryz.prog encWalk i64 (n+1) F2 w0 (kf ff f1 f2) g) (x:Int) :
    Calls Tryz.prog 399 #[.int .u64 x,zp b1,zp b2] w0 (RepResL Tryz.prog encWalk n ((k x).bind g) F w0):=by
 refine kN Tryz.func399 rfl 11 rfl rfl fun fr r hB=>?_;have hF1:∀ b,F1 b→b<w0.heap.size:=fun b h=>hF b (s1 b h)
 have hF2:∀ b,F2 b→b<w0.heap.size:=fun b h=>hF b (s2 b h)
 refine wp_seq (wp_region_lit ?_);refine seq_new (.cells (kq encWalk) 224 (0,0)) r (fun R=>y_alloc tz224) rfl fun fr b3 w1 q1 r=>wn ?_;have h1:=keep q1.below h1
 have h2:=keep q1.below h2;have e3:=q1.eq;have z1:=q1.size;have h3:=q1.at_;have hB:=hB.trans (q1.below.mono hB.size);have zB:=hB.size;have hk1:=hk.mono (Nat.le_refl _) (fun b h=>h) (Same.below hB hF1) hB.size
 have hF1':∀ b,F1 b→b<w1.heap.size:=fun b h=>Nat.lt_of_lt_of_le (hF1 b h) zB
 refine wp_seq ?_;refine wp_freeSE 5 F1 [.val (.pointer (some ⟨b1,6,none⟩)),.val (kf nf n1 n2),.val (U x),.eff (StepE Tryz.prog encInt n (k x) F1) (StepE.st hF1'),.val (kf ff f1 f2)] mixed r hF1' (by kernel_rfl) ?_ ?_
 ·
  refine eachS_late r rfl (fun fr1 g w' hk' hd r'=>?_) ?_
  · exact y_fieldAddr r' (b:=b1) (o:=0) (k:=6) rfl fo119_3 bz
  refine eachS_late r rfl (fun fr1 g w' hk' hd r'=>?_) ?_
  · exact y_load_one r' (v:=kf nf n1 n2) (hd 0 rfl).1 (keepC (drK hk') h1 m1) to117 rfl bz
  refine eachS_late r rfl (fun fr1 g w' hk' hd r'=>?_) ?_
  · exact y_move r' (v:=.int .u64 x) rfl bz
  refine eachS_early r rfl (by kernel_rfl) (fun fr1 g w' hb' hd r'=>?_) ?_
  ·
   have hb':Below w1.heap.size w1 w':=dr hb';refine y_callv1 r' (fs:=n1) (cs:=n2) (hd 1 rfl).1 (hd 2 rfl).1 hk1.at_.1 ((hk1.at_.2 n (Nat.lt_succ_self n) x w' (Same.below hb' hF1') hb'.size).mono ?_);rintro _ w2 ⟨v,rfl,hb2,hr2⟩;exact ⟨v,rfl,hb2.kept,hr2⟩
  refine eachS_late r rfl (fun fr1 g w' hk' hd r'=>?_) ?_
  · exact y_load_one r' (v:=kf ff f1 f2) rfl (keepC (drK hk') h2 m2) to306 rfl bz
  exact eachF_nil
 intro fr gg w2 hb hΦ _ r;have hr:RepL Tryz.prog encInt n (k x) (fun b=>F1 b∨((gg 3).lo≤b∧b<(gg 3).hi)) w2 (gg 3).v:=(hΦ 3 rfl).1
 have hrg:=(hΦ 3 rfl).2;have r:=r.congr (sc ((hΦ 4 rfl).1) rfl);have z2:=hb.size;have hr3:¬ F1 b3:=fun h=>by have:=hF1 _ h; omega
 have h3:=keepC hb h3 hr3;have hC:Chg F w0 w2:=(Chg.belowZ hB).thenF hb fun b _ h=>s1 b h
 have zB2:=hC.size;have hS2:Same F2 w0 w2:=fun b h=>(hb.block b (Nat.lt_of_lt_of_le (hF2 b h) zB) fun h'=>hdj b h' h).trans (hB.block b (hF2 b h))
 have hFb:∀ b,(kW F w0 w2 b3) b→b<w2.heap.size:=by rintro b (h | h); exact Nat.lt_of_lt_of_le (hF b h) zB2; exact h.2.1
 refine kC r (ih (F:=fun b=>F b∨(w0.heap.size≤b∧b<w2.heap.size∧b≠b3)) (F1:=fun b=>F1 b∨((gg 3).lo≤b∧b<(gg 3).hi)) (F2:=F2) hFb (by rintro b (h | ⟨h,h'⟩); exact .inl (s1 b h); exact .inr ⟨by omega,by omega,by omega⟩) (fun b h=>.inl (s2 b h))
  (by rintro b (h | ⟨h,h'⟩) h2; exact hdj b h h2; have:=hF2 b h2; omega) hr (hg.mono (by omega) (fun b h=>h) hS2 zB2) (.inr (hg.mono (Nat.le_refl _) (fun b h=>h) hS2 zB2))) rfl cl390 rfl ?_
 rintro _ w3 ⟨v2,rfl,hb2,hr2⟩;refine ⟨_,rfl,fun fr r=>?_⟩
 have z3:=hb2.size;have hF3:¬ (kW F w0 w2 b3) b3:=by rintro (h | ⟨_,_,h⟩); (have:=hF _ h; omega); exact h rfl
 have h3:=keepC hb2 h3 hF3;have hC:=hC.thenF hb2 (by rintro b hlt (h | ⟨h,_⟩); exact h; omega)
 refine kP r hr2.shape rfl rfl h3 ts224 rfl rfl fun w4 u4 r=>wn ?_;have z4:=u4.size
 have h3:=u4.at_;have hC:=hC.thenU u4 (.inl (by omega))
 refine wp_ret ?_;have hs:=hr2.shape.cells;refine ret_cell r rfl rfl h3 (k:=20) hs.1 ta224 ?_;rw [←hs.2.2];exact RepResL.fin hC hr2 u4 (by rintro b (h | ⟨h1,h2,_⟩); exact .inl h; exact .inr ⟨h1,h2⟩) hF3 (by omega) (by omega) (by omega)
theorem sl_prog_Then_int_walk (n:Nat):SpecL_prog_Then_int_walk n:=by
  induction n using Nat.strongRecOn with
  | _ n ih=>
  intro F F1 F2 w0 hF s1 s2 hdj t pv fv g hp hf hd;obtain ⟨ff,f1,f2,hcf,rfl,hff⟩:=id hf;have hF1:∀ b,F1 b→b<w0.heap.size:=fun b h=>hF b (s1 b h)
  have hF2:∀ b,F2 b→b<w0.heap.size:=fun b h=>hF b (s2 b h)
  cases t with
  | cut=>unfold RepL at hp; exact hp.elim
  | done x0=>
    have hf:=hd.resolve_left (by intro h; cases h)
    unfold RepL at hp
    subst hp;refine enter (l:=[.agg (progCells true (encInt.cells x0) 0 0 0 0 .nilFunc),kf ff f1 f2]) Tryz.func390 rfl 15 rfl rfl fun fr r=>?_;have hB:=Below.refl w0.heap.size w0
    refine wp_seq (wp_region_lit ?_);refine kX 119 (.agg (progCells true (encInt.cells x0) 0 0 0 0 .nilFunc)) r rfl rfl fun b1 w1 q1 r=>?_;refine kX 306 (kf ff f1 f2) r rfl rfl fun b2 w2 q2 r=>?_
    refine seq_new (.cells (kq encWalk) 224 (0,0)) r (fun R=>y_alloc tz224) rfl fun fr b3 w3 q3 r=>wpList_nil ?_;have h1:=keep q3.below (keep q2.below q1.at_)
    have h2:=keep q3.below q2.at_;have h3:=q3.at_;have e1:=q1.eq; have e2:=q2.eq; have e3:=q3.eq; have z1:=q1.size; have z2:=q2.size; have z3:=q3.size;have hB:=((hB.trans q1.below).trans (q2.below.mono (by omega))).trans (q3.below.mono (by omega))
    have zB:=hB.size;refine wp_seq (wp_seq (wp_region_lit (seq_val (zp b1) r (fun R=>y_fieldAddr r (o:=0) rfl fo119_0) rfl fun fr r=>?_)));refine seq_val (.bool true) r (fun R=>y_load_one r (v:=.bool true) rfl h1 to4 rfl) rfl fun fr r=>wpList_nil ?_
    refine wp_cond_split (t:=true) (r.ev rfl) (fun _=>?_) (fun h=>by cases h)
    refine wp_seq (wp_region_lit (seq_val (kf ff f1 f2) r (fun R=>y_load_one r (v:=kf ff f1 f2) rfl h2 to306 rfl) rfl fun fr r=>seq_val (.pointer (some ⟨b1,1,none⟩)) r (fun R=>y_fieldAddr r (o:=0) rfl fo119_1) rfl fun fr r=>seq_val (.int .i64 x0) r (fun R=>y_load_one r (v:=(.int .i64 x0)) rfl h1 to3 rfl) rfl fun fr r=>?_));refine seq_call r (hf.at_.2 n (Nat.lt_succ_self n) x0 w3 (Same.below hB hF2) hB.size) (fun R hc=>y_callv r rfl rfl hf.at_.1 hc) rfl ?_
    rintro _ w4 ⟨v,rfl,hb,hr⟩;refine ⟨_,rfl,fun fr r=>?_⟩
    have z4:=hb.size;have n3:¬ F2 b3:=fun h=>by have:=hF2 _ h; omega
    have h3:=keepC hb h3 n3;have hC:Chg F w0 w4:=(Chg.belowZ hB).thenF hb fun b _ h=>s2 b h
    refine kP r hr.shape rfl rfl h3 ts224 rfl rfl fun w5 u5 r=>wpList_nil ?_;have z5:=u5.size
    have h3:=u5.at_;have hC:=hC.thenU u5 (.inl (by omega))
    refine wp_ret ?_;have hs:=hr.shape.cells;refine ret_cell r rfl rfl h3 (k:=20) hs.1 ta224 ?_;rw [←hs.2.2];exact RepResL.fin hC hr u5 (fun b hb=>.inl (s2 b hb)) n3 (by omega) (by omega) (by omega)
  | act op at_ a b k=>
    obtain ⟨nf,n1,n2,hcn,rfl,hk⟩:∃ (nf:FuncId) (n1 n2:List Value),callable Tryz.prog nf=true∧pv=.agg (progCells false encInt.zero op at_ a b (kf nf n1 n2))∧FnL Tryz.prog encInt u64 n F1 w0 (kf nf n1 n2) k:=by
      exact RepL.act_inv hp
    refine enter (l:=[.agg (progCells false encInt.zero op at_ a b (kf nf n1 n2)),kf ff f1 f2]) Tryz.func390 rfl 15 rfl rfl fun fr r=>?_;have hB:=Below.refl w0.heap.size w0
    refine wp_seq (wp_region_lit ?_);refine kX 119 (.agg (progCells false encInt.zero op at_ a b (kf nf n1 n2))) r rfl rfl fun b1 w1 q1 r=>?_;refine kX 306 (kf ff f1 f2) r rfl rfl fun b2 w2 q2 r=>?_
    refine seq_new (.cells (kq encWalk) 224 (0,0)) r (fun R=>y_alloc tz224) rfl fun fr b3 w3 q3 r=>wpList_nil ?_;have h1:=keep q3.below (keep q2.below q1.at_)
    have h2:=keep q3.below q2.at_;have h3:=q3.at_;have e1:=q1.eq; have e2:=q2.eq; have e3:=q3.eq; have z1:=q1.size; have z2:=q2.size; have z3:=q3.size;have hB:=((hB.trans q1.below).trans (q2.below.mono (by omega))).trans (q3.below.mono (by omega))
    have zB:=hB.size;refine wp_seq (wp_seq (wp_region_lit (seq_val (zp b1) r (fun R=>y_fieldAddr r (o:=0) rfl fo119_0) rfl fun fr r=>?_)));refine seq_val (.bool false) r (fun R=>y_load_one r (v:=.bool false) rfl h1 to4 rfl) rfl fun fr r=>wpList_nil ?_
    refine wp_cond_split (t:=false) (r.ev rfl) (fun h=>by cases h) (fun _=>wp_skip ?_);refine wp_seq (wp_region_lit (seq_val (.pointer (some ⟨b1,2,none⟩)) r (fun R=>y_fieldAddr r (o:=0) rfl fo119_2) rfl fun fr r=>kG (accessC (⟨op,at_,a,b⟩:Access)) 4 r rfl h1 ta38 rfl rfl fun r=>seq_val (.func (.func 399) #[] #[zp b1,zp b2]) r (fun R=>y_makeFunc r rfl) rfl fun fr r=>?_))
    have hFb:∀ b,(fun b=>F b∨b=b1∨b=b2) b→b<w3.heap.size:=by rintro b (h | h | h); exact Nat.lt_of_lt_of_le (hF b h) hB.size; omega; omega
    have m1:¬ F1 b1:=fun h=>by have:=hF1 _ h; omega
    have m2:¬ F1 b2:=fun h=>by have:=hF1 _ h; omega
    refine kC r (cl_prog_Do_walk (F:=fun b=>F b∨b=b1∨b=b2) (n:=n) hFb ⟨op,at_,a,b⟩ (a1:=fun x=>(k x).bind g) (show FnL Tryz.prog encWalk u64 n (fun b=>F b∨b=b1∨b=b2) w3 (kf 399 [] [zp b1,zp b2]) (fun x=>(k x).bind g) from
      ⟨399,[],[zp b1,zp b2],cl399,rfl,fun m hm x w' hs hz=>kl_prog_Then_int_walk (ih m hm) (fun b hb=>Nat.lt_of_lt_of_le (hFb b hb) hz) (fun b h=>.inl (s1 b h)) (fun b h=>.inl (s2 b h)) hdj m1 (hs.at_ (.inr (.inl rfl)) h1) m2 (hs.at_ (.inr (.inr rfl)) h2)
        (hk.mono (by omega) (fun b h=>h) ((Same.below hB hF1).trans (hs.sub (fun b h=>.inl (s1 b h)))) (Nat.le_trans hB.size hz)) (hf.mono (by omega) (fun b h=>h) ((Same.below hB hF2).trans (hs.sub (fun b h=>.inl (s2 b h)))) (Nat.le_trans hB.size hz)) x⟩)) rfl cl311 rfl ?_
    rintro _ w4 ⟨v,rfl,hb,hr⟩;refine ⟨_,rfl,fun fr r=>?_⟩
    have z4:=hb.size;have n3:¬ (fun b=>F b∨b=b1∨b=b2) b3:=by rintro (h | h | h); (have:=hF _ h; omega); omega; omega
    have h3:=keepC hb h3 n3;have hC:Chg F w0 w4:=(Chg.belowZ hB).thenF hb (by rintro b hlt (h | h | h); exact h; omega; omega)
    refine kP r hr.shape rfl rfl h3 ts224 rfl rfl fun w5 u5 r=>wpList_nil ?_;have z5:=u5.size
    have h3:=u5.at_;have hC:=hC.thenU u5 (.inl (by omega))
    refine wp_ret ?_;have hs:=hr.shape.cells;refine ret_cell r rfl rfl h3 (k:=20) hs.1 ta224 ?_;rw [←hs.2.2];exact RepResL.fin hC hr u5 (by rintro b (h | h | h); exact .inl h; exact .inr ⟨by omega,by omega⟩; exact .inr ⟨by omega,by omega⟩) n3 (by omega) (by omega) (by omega)
theorem cl_prog_Then_int_walk_le {n:Nat} {F F1 F2:Nat→Prop} {w0:World} (hF:∀ b,F b→b<w0.heap.size) (s1:∀ b,F1 b→F b) (s2:∀ b,F2 b→F b) (hdj:∀ b,F1 b→¬ F2 b) {t:T (Int)} {pv fv:Value} {g:Int→T (Walk)} (hp:RepL Tryz.prog encInt n t F1 w0 pv) (hf:FnL Tryz.prog encWalk i64 (n+1) F2 w0 fv g) :
    Calls Tryz.prog 390 #[pv,fv] w0 (RepResL Tryz.prog encWalk n (t.bind g) F w0):=sl_prog_Then_int_walk n hF s1 s2 hdj hp (hf.mono (by omega) (fun b h=>h) (Same.refl _ _) (Nat.le_refl _)) (.inr hf)
def SpecL_prog_Then_uint64_walk (n:Nat):Prop:=∀ {F F1 F2:Nat→Prop} {w0:World},(∀ b,F b→b<w0.heap.size)→(∀ b,F1 b→F b)→(∀ b,F2 b→F b)→(∀ b,F1 b→¬ F2 b)→∀ {t:T (Int)} {pv fv:Value} {g:Int→T (Walk)},RepL Tryz.prog encWord n t F1 w0 pv→FnL Tryz.prog encWalk u64 n F2 w0 fv g→
    (t.isDone=false∨FnL Tryz.prog encWalk u64 (n+1) F2 w0 fv g)→Calls Tryz.prog 246 #[pv,fv] w0 (RepResL Tryz.prog encWalk n (t.bind g) F w0)
theorem kl_prog_Then_uint64_walk {n:Nat} (ih:SpecL_prog_Then_uint64_walk n) {F F1 F2:Nat→Prop} {w0:World} (hF:∀ b,F b→b<w0.heap.size) (s1:∀ b,F1 b→F b) (s2:∀ b,F2 b→F b) (hdj:∀ b,F1 b→¬ F2 b) {op at_ a b:Int} {nf:FuncId} {n1 n2:List Value} {k:Int→T (Int)} {ff:FuncId} {f1 f2:List Value} {g:Int→T (Walk)}
    {b1 b2:Nat} (m1:¬ F1 b1) (h1:w0.heap[b1]?=some (.cells (progCells false encWord.zero op at_ a b (kf nf n1 n2)) 271 (0,0))) (m2:¬ F1 b2) (h2:w0.heap[b2]?=some (.cells #[kf ff f1 f2] 222 (0,0)))
    (hk:FnL Tryz.prog encWord u64 (n+1) F1 w0 (kf nf n1 n2) k) (hg:FnL Tryz.prog encWalk u64 (n+1) F2 w0 (kf ff f1 f2) g) (x:Int) :
    Calls Tryz.prog 312 #[.int .u64 x,zp b1,zp b2] w0 (RepResL Tryz.prog encWalk n ((k x).bind g) F w0):=by
 refine kN Tryz.func312 rfl 11 rfl rfl fun fr r hB=>?_;have hF1:∀ b,F1 b→b<w0.heap.size:=fun b h=>hF b (s1 b h)
 have hF2:∀ b,F2 b→b<w0.heap.size:=fun b h=>hF b (s2 b h)
 refine wp_seq (wp_region_lit ?_);refine seq_new (.cells (kq encWalk) 224 (0,0)) r (fun R=>y_alloc tz224) rfl fun fr b3 w1 q1 r=>wn ?_;have h1:=keep q1.below h1
 have h2:=keep q1.below h2;have e3:=q1.eq;have z1:=q1.size;have h3:=q1.at_;have hB:=hB.trans (q1.below.mono hB.size);have zB:=hB.size;have hk1:=hk.mono (Nat.le_refl _) (fun b h=>h) (Same.below hB hF1) hB.size
 have hF1':∀ b,F1 b→b<w1.heap.size:=fun b h=>Nat.lt_of_lt_of_le (hF1 b h) zB
 refine wp_seq ?_;refine wp_freeSE 5 F1 [.val (.pointer (some ⟨b1,6,none⟩)),.val (kf nf n1 n2),.val (U x),.eff (StepE Tryz.prog encWord n (k x) F1) (StepE.st hF1'),.val (kf ff f1 f2)] mixed r hF1' (by kernel_rfl) ?_ ?_
 ·
  refine eachS_late r rfl (fun fr1 g w' hk' hd r'=>?_) ?_
  · exact y_fieldAddr r' (b:=b1) (o:=0) (k:=6) rfl fo271_3 bz
  refine eachS_late r rfl (fun fr1 g w' hk' hd r'=>?_) ?_
  · exact y_load_one r' (v:=kf nf n1 n2) (hd 0 rfl).1 (keepC (drK hk') h1 m1) to269 rfl bz
  refine eachS_late r rfl (fun fr1 g w' hk' hd r'=>?_) ?_
  · exact y_move r' (v:=.int .u64 x) rfl bz
  refine eachS_early r rfl (by kernel_rfl) (fun fr1 g w' hb' hd r'=>?_) ?_
  ·
   have hb':Below w1.heap.size w1 w':=dr hb';refine y_callv1 r' (fs:=n1) (cs:=n2) (hd 1 rfl).1 (hd 2 rfl).1 hk1.at_.1 ((hk1.at_.2 n (Nat.lt_succ_self n) x w' (Same.below hb' hF1') hb'.size).mono ?_);rintro _ w2 ⟨v,rfl,hb2,hr2⟩;exact ⟨v,rfl,hb2.kept,hr2⟩
  refine eachS_late r rfl (fun fr1 g w' hk' hd r'=>?_) ?_
  · exact y_load_one r' (v:=kf ff f1 f2) rfl (keepC (drK hk') h2 m2) to222 rfl bz
  exact eachF_nil
 intro fr gg w2 hb hΦ _ r;have hr:RepL Tryz.prog encWord n (k x) (fun b=>F1 b∨((gg 3).lo≤b∧b<(gg 3).hi)) w2 (gg 3).v:=(hΦ 3 rfl).1
 have hrg:=(hΦ 3 rfl).2;have r:=r.congr (sc ((hΦ 4 rfl).1) rfl);have z2:=hb.size;have hr3:¬ F1 b3:=fun h=>by have:=hF1 _ h; omega
 have h3:=keepC hb h3 hr3;have hC:Chg F w0 w2:=(Chg.belowZ hB).thenF hb fun b _ h=>s1 b h
 have zB2:=hC.size;have hS2:Same F2 w0 w2:=fun b h=>(hb.block b (Nat.lt_of_lt_of_le (hF2 b h) zB) fun h'=>hdj b h' h).trans (hB.block b (hF2 b h))
 have hFb:∀ b,(kW F w0 w2 b3) b→b<w2.heap.size:=by rintro b (h | h); exact Nat.lt_of_lt_of_le (hF b h) zB2; exact h.2.1
 refine kC r (ih (F:=fun b=>F b∨(w0.heap.size≤b∧b<w2.heap.size∧b≠b3)) (F1:=fun b=>F1 b∨((gg 3).lo≤b∧b<(gg 3).hi)) (F2:=F2) hFb (by rintro b (h | ⟨h,h'⟩); exact .inl (s1 b h); exact .inr ⟨by omega,by omega,by omega⟩) (fun b h=>.inl (s2 b h))
  (by rintro b (h | ⟨h,h'⟩) h2; exact hdj b h h2; have:=hF2 b h2; omega) hr (hg.mono (by omega) (fun b h=>h) hS2 zB2) (.inr (hg.mono (Nat.le_refl _) (fun b h=>h) hS2 zB2))) rfl cl246 rfl ?_
 rintro _ w3 ⟨v2,rfl,hb2,hr2⟩;refine ⟨_,rfl,fun fr r=>?_⟩
 have z3:=hb2.size;have hF3:¬ (kW F w0 w2 b3) b3:=by rintro (h | ⟨_,_,h⟩); (have:=hF _ h; omega); exact h rfl
 have h3:=keepC hb2 h3 hF3;have hC:=hC.thenF hb2 (by rintro b hlt (h | ⟨h,_⟩); exact h; omega)
 refine kP r hr2.shape rfl rfl h3 ts224 rfl rfl fun w4 u4 r=>wn ?_;have z4:=u4.size
 have h3:=u4.at_;have hC:=hC.thenU u4 (.inl (by omega))
 refine wp_ret ?_;have hs:=hr2.shape.cells;refine ret_cell r rfl rfl h3 (k:=20) hs.1 ta224 ?_;rw [←hs.2.2];exact RepResL.fin hC hr2 u4 (by rintro b (h | ⟨h1,h2,_⟩); exact .inl h; exact .inr ⟨h1,h2⟩) hF3 (by omega) (by omega) (by omega)
theorem sl_prog_Then_uint64_walk (n:Nat):SpecL_prog_Then_uint64_walk n:=by
  induction n using Nat.strongRecOn with
  | _ n ih=>
  intro F F1 F2 w0 hF s1 s2 hdj t pv fv g hp hf hd;obtain ⟨ff,f1,f2,hcf,rfl,hff⟩:=id hf;have hF1:∀ b,F1 b→b<w0.heap.size:=fun b h=>hF b (s1 b h)
  have hF2:∀ b,F2 b→b<w0.heap.size:=fun b h=>hF b (s2 b h)
  cases t with
  | cut=>unfold RepL at hp; exact hp.elim
  | done x0=>
    have hf:=hd.resolve_left (by intro h; cases h)
    unfold RepL at hp
    subst hp;refine enter (l:=[.agg (progCells true (encWord.cells x0) 0 0 0 0 .nilFunc),kf ff f1 f2]) Tryz.func246 rfl 15 rfl rfl fun fr r=>?_;have hB:=Below.refl w0.heap.size w0
    refine wp_seq (wp_region_lit ?_);refine kX 271 (.agg (progCells true (encWord.cells x0) 0 0 0 0 .nilFunc)) r rfl rfl fun b1 w1 q1 r=>?_;refine kX 222 (kf ff f1 f2) r rfl rfl fun b2 w2 q2 r=>?_
    refine seq_new (.cells (kq encWalk) 224 (0,0)) r (fun R=>y_alloc tz224) rfl fun fr b3 w3 q3 r=>wpList_nil ?_;have h1:=keep q3.below (keep q2.below q1.at_)
    have h2:=keep q3.below q2.at_;have h3:=q3.at_;have e1:=q1.eq; have e2:=q2.eq; have e3:=q3.eq; have z1:=q1.size; have z2:=q2.size; have z3:=q3.size;have hB:=((hB.trans q1.below).trans (q2.below.mono (by omega))).trans (q3.below.mono (by omega))
    have zB:=hB.size;refine wp_seq (wp_seq (wp_region_lit (seq_val (zp b1) r (fun R=>y_fieldAddr r (o:=0) rfl fo271_0) rfl fun fr r=>?_)));refine seq_val (.bool true) r (fun R=>y_load_one r (v:=.bool true) rfl h1 to4 rfl) rfl fun fr r=>wpList_nil ?_
    refine wp_cond_split (t:=true) (r.ev rfl) (fun _=>?_) (fun h=>by cases h)
    refine wp_seq (wp_region_lit (seq_val (kf ff f1 f2) r (fun R=>y_load_one r (v:=kf ff f1 f2) rfl h2 to222 rfl) rfl fun fr r=>seq_val (.pointer (some ⟨b1,1,none⟩)) r (fun R=>y_fieldAddr r (o:=0) rfl fo271_1) rfl fun fr r=>seq_val (.int .u64 x0) r (fun R=>y_load_one r (v:=(.int .u64 x0)) rfl h1 to34 rfl) rfl fun fr r=>?_));refine seq_call r (hf.at_.2 n (Nat.lt_succ_self n) x0 w3 (Same.below hB hF2) hB.size) (fun R hc=>y_callv r rfl rfl hf.at_.1 hc) rfl ?_
    rintro _ w4 ⟨v,rfl,hb,hr⟩;refine ⟨_,rfl,fun fr r=>?_⟩
    have z4:=hb.size;have n3:¬ F2 b3:=fun h=>by have:=hF2 _ h; omega
    have h3:=keepC hb h3 n3;have hC:Chg F w0 w4:=(Chg.belowZ hB).thenF hb fun b _ h=>s2 b h
    refine kP r hr.shape rfl rfl h3 ts224 rfl rfl fun w5 u5 r=>wpList_nil ?_;have z5:=u5.size
    have h3:=u5.at_;have hC:=hC.thenU u5 (.inl (by omega))
    refine wp_ret ?_;have hs:=hr.shape.cells;refine ret_cell r rfl rfl h3 (k:=20) hs.1 ta224 ?_;rw [←hs.2.2];exact RepResL.fin hC hr u5 (fun b hb=>.inl (s2 b hb)) n3 (by omega) (by omega) (by omega)
  | act op at_ a b k=>
    obtain ⟨nf,n1,n2,hcn,rfl,hk⟩:∃ (nf:FuncId) (n1 n2:List Value),callable Tryz.prog nf=true∧pv=.agg (progCells false encWord.zero op at_ a b (kf nf n1 n2))∧FnL Tryz.prog encWord u64 n F1 w0 (kf nf n1 n2) k:=by
      exact RepL.act_inv hp
    refine enter (l:=[.agg (progCells false encWord.zero op at_ a b (kf nf n1 n2)),kf ff f1 f2]) Tryz.func246 rfl 15 rfl rfl fun fr r=>?_;have hB:=Below.refl w0.heap.size w0
    refine wp_seq (wp_region_lit ?_);refine kX 271 (.agg (progCells false encWord.zero op at_ a b (kf nf n1 n2))) r rfl rfl fun b1 w1 q1 r=>?_;refine kX 222 (kf ff f1 f2) r rfl rfl fun b2 w2 q2 r=>?_
    refine seq_new (.cells (kq encWalk) 224 (0,0)) r (fun R=>y_alloc tz224) rfl fun fr b3 w3 q3 r=>wpList_nil ?_;have h1:=keep q3.below (keep q2.below q1.at_)
    have h2:=keep q3.below q2.at_;have h3:=q3.at_;have e1:=q1.eq; have e2:=q2.eq; have e3:=q3.eq; have z1:=q1.size; have z2:=q2.size; have z3:=q3.size;have hB:=((hB.trans q1.below).trans (q2.below.mono (by omega))).trans (q3.below.mono (by omega))
    have zB:=hB.size;refine wp_seq (wp_seq (wp_region_lit (seq_val (zp b1) r (fun R=>y_fieldAddr r (o:=0) rfl fo271_0) rfl fun fr r=>?_)));refine seq_val (.bool false) r (fun R=>y_load_one r (v:=.bool false) rfl h1 to4 rfl) rfl fun fr r=>wpList_nil ?_
    refine wp_cond_split (t:=false) (r.ev rfl) (fun h=>by cases h) (fun _=>wp_skip ?_);refine wp_seq (wp_region_lit (seq_val (.pointer (some ⟨b1,2,none⟩)) r (fun R=>y_fieldAddr r (o:=0) rfl fo271_2) rfl fun fr r=>kG (accessC (⟨op,at_,a,b⟩:Access)) 4 r rfl h1 ta38 rfl rfl fun r=>seq_val (.func (.func 312) #[] #[zp b1,zp b2]) r (fun R=>y_makeFunc r rfl) rfl fun fr r=>?_))
    have hFb:∀ b,(fun b=>F b∨b=b1∨b=b2) b→b<w3.heap.size:=by rintro b (h | h | h); exact Nat.lt_of_lt_of_le (hF b h) hB.size; omega; omega
    have m1:¬ F1 b1:=fun h=>by have:=hF1 _ h; omega
    have m2:¬ F1 b2:=fun h=>by have:=hF1 _ h; omega
    refine kC r (cl_prog_Do_walk (F:=fun b=>F b∨b=b1∨b=b2) (n:=n) hFb ⟨op,at_,a,b⟩ (a1:=fun x=>(k x).bind g) (show FnL Tryz.prog encWalk u64 n (fun b=>F b∨b=b1∨b=b2) w3 (kf 312 [] [zp b1,zp b2]) (fun x=>(k x).bind g) from
      ⟨312,[],[zp b1,zp b2],cl312,rfl,fun m hm x w' hs hz=>kl_prog_Then_uint64_walk (ih m hm) (fun b hb=>Nat.lt_of_lt_of_le (hFb b hb) hz) (fun b h=>.inl (s1 b h)) (fun b h=>.inl (s2 b h)) hdj m1 (hs.at_ (.inr (.inl rfl)) h1) m2 (hs.at_ (.inr (.inr rfl)) h2)
        (hk.mono (by omega) (fun b h=>h) ((Same.below hB hF1).trans (hs.sub (fun b h=>.inl (s1 b h)))) (Nat.le_trans hB.size hz)) (hf.mono (by omega) (fun b h=>h) ((Same.below hB hF2).trans (hs.sub (fun b h=>.inl (s2 b h)))) (Nat.le_trans hB.size hz)) x⟩)) rfl cl311 rfl ?_
    rintro _ w4 ⟨v,rfl,hb,hr⟩;refine ⟨_,rfl,fun fr r=>?_⟩
    have z4:=hb.size;have n3:¬ (fun b=>F b∨b=b1∨b=b2) b3:=by rintro (h | h | h); (have:=hF _ h; omega); omega; omega
    have h3:=keepC hb h3 n3;have hC:Chg F w0 w4:=(Chg.belowZ hB).thenF hb (by rintro b hlt (h | h | h); exact h; omega; omega)
    refine kP r hr.shape rfl rfl h3 ts224 rfl rfl fun w5 u5 r=>wpList_nil ?_;have z5:=u5.size
    have h3:=u5.at_;have hC:=hC.thenU u5 (.inl (by omega))
    refine wp_ret ?_;have hs:=hr.shape.cells;refine ret_cell r rfl rfl h3 (k:=20) hs.1 ta224 ?_;rw [←hs.2.2];exact RepResL.fin hC hr u5 (by rintro b (h | h | h); exact .inl h; exact .inr ⟨by omega,by omega⟩; exact .inr ⟨by omega,by omega⟩) n3 (by omega) (by omega) (by omega)
theorem cl_prog_Then_uint64_walk_lt {n:Nat} {F F1 F2:Nat→Prop} {w0:World} (hF:∀ b,F b→b<w0.heap.size) (s1:∀ b,F1 b→F b) (s2:∀ b,F2 b→F b) (hdj:∀ b,F1 b→¬ F2 b) {t:T (Int)} {pv fv:Value} {g:Int→T (Walk)} (hp:RepL Tryz.prog encWord n t F1 w0 pv) (hf:FnL Tryz.prog encWalk u64 n F2 w0 fv g) (hd:t.isDone=false) :
    Calls Tryz.prog 246 #[pv,fv] w0 (RepResL Tryz.prog encWalk n (t.bind g) F w0):=sl_prog_Then_uint64_walk n hF s1 s2 hdj hp hf (.inl hd)
end
end Go.Proofs.YtbbipmelhmgmfaaGreat

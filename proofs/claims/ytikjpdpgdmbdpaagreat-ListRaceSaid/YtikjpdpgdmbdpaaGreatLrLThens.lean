/- Ours. -/
import Derived.Test.YtikjpdpgdmbdpaaGreatLrLoud
import Derived.Test.YtikjpdpgdmbdpaaGreatLrM15
import Derived.Test.YtikjpdpgdmbdpaaGreatLrM16
set_option linter.all false
set_option maxRecDepth 20000
set_option maxHeartbeats 2000000
namespace Go.Proofs.YtikjpdpgdmbdpaaGreat
open Go.RowKit
section
variable {n : Nat} {F : Nat → Prop} {j : Nat} {w0 : World}
theorem ny:ag Tryz.prog 121:=kz
theorem Ez:ag Tryz.prog 222:=kz
theorem wY:ag Tryz.prog 223:=kz
theorem ky:ag Tryz.prog 314:=kz
theorem EP:ag Tryz.prog 315:=kz
theorem wZ:ag Tryz.prog 367:=kz
theorem EB:ag Tryz.prog 392:=kz
theorem wF:ag Tryz.prog 395:=kz
theorem Dz:ag Tryz.prog 408:=kz
theorem vq:aZ Tryz.prog 209 0 0:=kz
theorem Cr:aZ Tryz.prog 209 1 1:=kz
theorem CS:aZ Tryz.prog 209 2 15:=kz
theorem Cv:aZ Tryz.prog 209 3 19:=kz
theorem dc:tyA Tryz.prog 206 14:=kz
theorem bU:tyA Tryz.prog 209 20:=kz
theorem qR:tyO Tryz.prog 207:=kz
theorem wq:tyO Tryz.prog 216:=kz
theorem xz:tyO Tryz.prog 310:=kz
theorem xg:tyO Tryz.prog 327:=kz
theorem bT:sized Tryz.prog 209 20:=kz
theorem cl:zeroOf Tryz.prog 209=some (.agg (af false aK.zero 0 0 0 0 .nilFunc)):=kz
set_option maxRecDepth 20000 in
set_option maxHeartbeats 8000000 in
theorem s8 (hF:kH F w0)
    (a0:Res) :
    Calls Tryz.prog 23 #[.agg (resC a0).toArray] w0 (au Tryz.prog aj n (D.lR a0) F w0):=by
 refine kN Tryz.func23 rfl 5 rfl rfl fun fr r hB=>?_;refine wsr ?_
 refine kX 54 (.agg (resC a0).toArray) r rfl rfl fun b1 w2 n3 r=>?_;obtain ⟨E1,Z2,H1,hB,zB⟩:=n3.all hB
 refine ai (.cells (af false aj.zero 0 0 0 0 .nilFunc) 57 (0,0)) r (fun R=>ah tz57) rfl fun fr b4 w5 n6 r=>?_;have H1:=keep n6.below H1
 obtain ⟨E4,Z5,H4,hB,zB⟩:=n6.all hB;refine wn (wsr (kG (resC a0) 2 r rfl H1 ta54 rfl rfl fun r=>kU (.agg (af true (aj.cells a0) 0 0 0 0 .nilFunc)) r kz rfl fun r=>?_));refine bh (.cells (af true (aj.cells a0) 0 0 0 0 .nilFunc) 57 (0,0)) r (fun R=>aT r (o:=0) (v:=(.agg (af true (aj.cells a0) 0 0 0 0 .nilFunc))) rfl rfl H4 ts57 (Nat.le_of_ble_eq_true rfl) rfl rfl) rfl fun fr w7 u8 r=>?_
 have Z7:=u8.size;have H1:=u8.keep H1 kw
 have H4:=u8.at_;obtain ⟨hB,zB⟩:=u8.on hB kw
 refine wn (wp_ret ?_);refine ar r rfl rfl H4 (k:=8) rfl ta57 ?_;exact ⟨_,rfl,(Chg.aR hB),RepL.ga⟩
set_option maxRecDepth 20000 in
set_option maxHeartbeats 8000000 in
theorem gK (hF:kH F w0)
    (a0:Access) {a1f:FuncId} {a1_1 a1_2:List Value} {a1:(Int→T Res)} (a1n:FnL Tryz.prog aj u64 (n) F w0 (.func (.func a1f) a1_1.toArray a1_2.toArray) a1) :
    Calls Tryz.prog 210 #[.agg (ba a0).toArray,.func (.func a1f) a1_1.toArray a1_2.toArray] w0 (au Tryz.prog aj n (D.lZ a0 a1) F w0):=by
 refine kN Tryz.func210 rfl 8 rfl rfl fun fr r hB=>?_;refine wsr ?_
 refine kX 38 (.agg (ba a0).toArray) r rfl rfl fun b1 w2 n3 r=>?_;obtain ⟨E1,Z2,H1,hB,zB⟩:=n3.all hB
 refine ai (.cells (af false aj.zero 0 0 0 0 .nilFunc) 57 (0,0)) r (fun R=>ah tz57) rfl fun fr b4 w5 n6 r=>?_;have H1:=keep n6.below H1
 obtain ⟨E4,Z5,H4,hB,zB⟩:=n6.all hB;refine wn (wsr (kG (ba a0) 4 r rfl H1 ta38 rfl rfl fun r=>kM (.func (.func a1f) a1_1.toArray a1_2.toArray) r rfl rfl fun r=>kU (.agg (af false aj.zero a0.op a0.at_ a0.a a0.b (.func (.func a1f) a1_1.toArray a1_2.toArray))) r kz rfl fun r=>?_));refine bh (.cells (af false aj.zero a0.op a0.at_ a0.a a0.b (.func (.func a1f) a1_1.toArray a1_2.toArray)) 57 (0,0)) r (fun R=>aT r (o:=0) (v:=(.agg (af false aj.zero a0.op a0.at_ a0.a a0.b (.func (.func a1f) a1_1.toArray a1_2.toArray)))) rfl rfl H4 ts57 (Nat.le_of_ble_eq_true rfl) rfl rfl) rfl fun fr w7 u8 r=>?_
 have Z7:=u8.size;have H1:=u8.keep H1 kw
 have H4:=u8.at_;obtain ⟨hB,zB⟩:=u8.on hB kw
 refine wn (wp_ret ?_);refine ar r rfl rfl H4 (k:=8) rfl ta57 ?_;exact ⟨_,rfl,(Chg.aR hB),RepL.gp (a1n.mono (Nat.le_refl _) (fun b hb=>.inl hb) (Same.below hB hF) hB.size)⟩
def D.iw (a0:Walk):T Walk:=(T.done a0)
set_option maxRecDepth 20000 in
set_option maxHeartbeats 8000000 in
theorem rU (hF:kH F w0)
    (a0:Walk) :
    Calls Tryz.prog 319 #[.agg (bb a0).toArray] w0 (au Tryz.prog aK n (D.iw a0) F w0):=by
 refine kN Tryz.func319 rfl 5 rfl rfl fun fr r hB=>?_;refine wsr ?_
 refine kX 206 (.agg (bb a0).toArray) r rfl rfl fun b1 w2 n3 r=>?_;obtain ⟨E1,Z2,H1,hB,zB⟩:=n3.all hB
 refine ai (.cells (af false aK.zero 0 0 0 0 .nilFunc) 209 (0,0)) r (fun R=>ah cl) rfl fun fr b4 w5 n6 r=>?_;have H1:=keep n6.below H1
 obtain ⟨E4,Z5,H4,hB,zB⟩:=n6.all hB;refine wn (wsr (kG (bb a0) 14 r rfl H1 dc rfl rfl fun r=>kU (.agg (af true (aK.cells a0) 0 0 0 0 .nilFunc)) r kz rfl fun r=>?_));refine bh (.cells (af true (aK.cells a0) 0 0 0 0 .nilFunc) 209 (0,0)) r (fun R=>aT r (o:=0) (v:=(.agg (af true (aK.cells a0) 0 0 0 0 .nilFunc))) rfl rfl H4 bT (Nat.le_of_ble_eq_true rfl) rfl (pH rfl)) rfl fun fr w7 u8 r=>?_
 have Z7:=u8.size;have H1:=u8.keep H1 kw
 have H4:=u8.at_;obtain ⟨hB,zB⟩:=u8.on hB kw
 refine wn (wp_ret ?_);refine ar r rfl rfl H4 (k:=20) rfl bU ?_;exact ⟨_,rfl,(Chg.aR hB),RepL.ga⟩
def D.oP (a0:Access) (a1:(Int→T Walk)):T Walk:=(T.act a0.op a0.at_ a0.a a0.b a1)
set_option maxRecDepth 20000 in
set_option maxHeartbeats 8000000 in
theorem jm (hF:kH F w0)
    (a0:Access) {a1f:FuncId} {a1_1 a1_2:List Value} {a1:(Int→T Walk)} (a1n:FnL Tryz.prog aK u64 (n) F w0 (.func (.func a1f) a1_1.toArray a1_2.toArray) a1) :
    Calls Tryz.prog 314 #[.agg (ba a0).toArray,.func (.func a1f) a1_1.toArray a1_2.toArray] w0 (au Tryz.prog aK n (D.oP a0 a1) F w0):=by
 refine kN Tryz.func314 rfl 8 rfl rfl fun fr r hB=>?_;refine wsr ?_
 refine kX 38 (.agg (ba a0).toArray) r rfl rfl fun b1 w2 n3 r=>?_;obtain ⟨E1,Z2,H1,hB,zB⟩:=n3.all hB
 refine ai (.cells (af false aK.zero 0 0 0 0 .nilFunc) 209 (0,0)) r (fun R=>ah cl) rfl fun fr b4 w5 n6 r=>?_;have H1:=keep n6.below H1
 obtain ⟨E4,Z5,H4,hB,zB⟩:=n6.all hB;refine wn (wsr (kG (ba a0) 4 r rfl H1 ta38 rfl rfl fun r=>kM (.func (.func a1f) a1_1.toArray a1_2.toArray) r rfl rfl fun r=>kU (.agg (af false aK.zero a0.op a0.at_ a0.a a0.b (.func (.func a1f) a1_1.toArray a1_2.toArray))) r kz rfl fun r=>?_));refine bh (.cells (af false aK.zero a0.op a0.at_ a0.a a0.b (.func (.func a1f) a1_1.toArray a1_2.toArray)) 209 (0,0)) r (fun R=>aT r (o:=0) (v:=(.agg (af false aK.zero a0.op a0.at_ a0.a a0.b (.func (.func a1f) a1_1.toArray a1_2.toArray)))) rfl rfl H4 bT (Nat.le_of_ble_eq_true rfl) rfl (pH rfl)) rfl fun fr w7 u8 r=>?_
 have Z7:=u8.size;have H1:=u8.keep H1 kw
 have H4:=u8.at_;obtain ⟨hB,zB⟩:=u8.on hB kw
 refine wn (wp_ret ?_);refine ar r rfl rfl H4 (k:=20) rfl bU ?_;exact ⟨_,rfl,(Chg.aR hB),RepL.gp (a1n.mono (Nat.le_refl _) (fun b hb=>.inl hb) (Same.below hB hF) hB.size)⟩
def ru (n:Nat):Prop:=∀ {F F1 F2:Nat→Prop} {w0:World},(∀ b,F b→b<w0.heap.size)→(∀ b,F1 b→F b)→(∀ b,F2 b→F b)→(∀ b,F1 b→¬ F2 b)→∀ {t:T (Grant)} {pv fv:Value} {g:Grant→T (Res)},RepL Tryz.prog bo n t F1 w0 pv→FnL Tryz.prog aj argGrant n F2 w0 fv g→
    (t.bd=false∨FnL Tryz.prog aj argGrant (n+1) F2 w0 fv g)→Calls Tryz.prog 113 #[pv,fv] w0 (au Tryz.prog aj n (t.bind g) F w0)
theorem yd {n:Nat} (ih:ru n) {F F1 F2:Nat→Prop} {w0:World} (hF:∀ b,F b→b<w0.heap.size) (s1:∀ b,F1 b→F b) (s2:∀ b,F2 b→F b) (hdj:∀ b,F1 b→¬ F2 b) {op at_ a b:Int} {nf:FuncId} {n1 n2:List Value} {k:Int→T (Grant)} {ff:FuncId} {f1 f2:List Value} {g:Grant→T (Res)}
    {b1 b2:Nat} (m1:¬ F1 b1) (h1:w0.heap[b1]?=some (.cells (af false bo.zero op at_ a b (.func (.func nf) n1.toArray n2.toArray)) 41 (0,0))) (m2:¬ F1 b2) (h2:w0.heap[b2]?=some (.cells #[.func (.func ff) f1.toArray f2.toArray] 203 (0,0)))
    (hk:FnL Tryz.prog bo u64 (n+1) F1 w0 (.func (.func nf) n1.toArray n2.toArray) k) (hg:FnL Tryz.prog aj argGrant (n+1) F2 w0 (.func (.func ff) f1.toArray f2.toArray) g) (x:Int) :
    Calls Tryz.prog 211 #[.int .u64 x,zp b1,zp b2] w0 (au Tryz.prog aj n ((k x).bind g) F w0):=by
 refine kN Tryz.func211 rfl 11 rfl rfl fun fr r hB=>?_;have hF1:∀ b,F1 b→b<w0.heap.size:=fun b h=>hF b (s1 b h)
 have hF2:∀ b,F2 b→b<w0.heap.size:=fun b h=>hF b (s2 b h)
 refine wp_seq (wp_region_lit ?_);refine ai (.cells (af false aj.zero 0 0 0 0 .nilFunc) 57 (0,0)) r (fun R=>ah tz57) rfl fun fr b3 w1 q1 r=>wn ?_;have h1:=keep q1.below h1
 have h2:=keep q1.below h2;have e3:=q1.eq;have z1:=q1.size;have h3:=q1.at_;have hB:=hB.trans (q1.below.mono hB.size);have zB:=hB.size;have hk1:=hk.mono (Nat.le_refl _) (fun b h=>h) (Same.below hB hF1) hB.size
 have hF1':∀ b,F1 b→b<w1.heap.size:=fun b h=>Nat.lt_of_lt_of_le (hF1 b h) zB
 refine wp_seq ?_;refine gW 5 F1 [.val (.pointer (some ⟨b1,8,none⟩)),.val (.func (.func nf) n1.toArray n2.toArray),.val (U x),.eff (StepE Tryz.prog bo n (k x) F1) (StepE.st hF1'),.val (.func (.func ff) f1.toArray f2.toArray)] mixed r hF1' kz ?_ ?_
 ·
  refine cv r rfl (fun fr1 g w' hk' hd r'=>?_) ?_
  · exact ax r' (b:=b1) (o:=0) (k:=8) rfl D8 ⟨Below.refl _ _,rfl⟩
  refine cv r rfl (fun fr1 g w' hk' hd r'=>?_) ?_
  · exact av r' (v:=.func (.func nf) n1.toArray n2.toArray) (hd 0 rfl).1 (aX (drK hk') h1 m1) to39 rfl ⟨Below.refl _ _,rfl⟩
  refine cv r rfl (fun fr1 g w' hk' hd r'=>?_) ?_
  · exact ay r' (v:=.int .u64 x) rfl ⟨Below.refl _ _,rfl⟩
  refine gQ r rfl kz (fun fr1 g w' hb' hd r'=>?_) ?_
  ·
   have hb':Below w1.heap.size w1 w':=dr hb';refine dn r' (fs:=n1) (cs:=n2) (hd 1 rfl).1 (hd 2 rfl).1 hk1.at_.1 ((hk1.at_.2 n (Nat.lt_succ_self n) x w' (Same.below hb' hF1') hb'.size).mono ?_);rintro _ w2 ⟨v,rfl,hb2,hr2⟩;exact ⟨v,rfl,hb2.kept,hr2⟩
  refine cv r rfl (fun fr1 g w' hk' hd r'=>?_) ?_
  · exact av r' (v:=.func (.func ff) f1.toArray f2.toArray) rfl (aX (drK hk') h2 m2) wB rfl ⟨Below.refl _ _,rfl⟩
  exact cc
 intro fr gg w2 hb hΦ _ r;have hr:RepL Tryz.prog bo n (k x) (fun b=>F1 b∨((gg 3).lo≤b∧b<(gg 3).hi)) w2 (gg 3).v:=(hΦ 3 rfl).1
 have hrg:=(hΦ 3 rfl).2;have r:=r.congr (sc ((hΦ 4 rfl).1) rfl);have z2:=hb.size;have hr3:¬ F1 b3:=fun h=>by have:=hF1 _ h; omega
 have h3:=aX hb h3 hr3;have hC:Chg F w0 w2:=(Chg.aR hB).bk hb fun b _ h=>s1 b h
 have zB2:=hC.size;have hS2:Same F2 w0 w2:=fun b h=>(hb.block b (Nat.lt_of_lt_of_le (hF2 b h) zB) fun h'=>hdj b h' h).trans (hB.block b (hF2 b h))
 have hFb:∀ b,(kW F w0 w2 b3) b→b<w2.heap.size:=by rintro b (h | h); exact Nat.lt_of_lt_of_le (hF b h) zB2; exact h.2.1
 refine kC r (ih (F:=fun b=>F b∨(w0.heap.size≤b∧b<w2.heap.size∧b≠b3)) (F1:=fun b=>F1 b∨((gg 3).lo≤b∧b<(gg 3).hi)) (F2:=F2) hFb (by rintro b (h | ⟨h,h'⟩); exact .inl (s1 b h); exact .inr ⟨kw,kw,kw⟩) (fun b h=>.inl (s2 b h))
  (by rintro b (h | ⟨h,h'⟩) h2; exact hdj b h h2; have:=hF2 b h2; omega) hr (hg.mono kw (fun b h=>h) hS2 zB2) (.inr (hg.mono (Nat.le_refl _) (fun b h=>h) hS2 zB2))) rfl wU rfl ?_
 rintro _ w3 ⟨v2,rfl,hb2,hr2⟩;refine ⟨_,rfl,fun fr r=>?_⟩
 have z3:=hb2.size;have hF3:¬ (kW F w0 w2 b3) b3:=by rintro (h | ⟨_,_,h⟩); (have:=hF _ h; omega); exact h rfl
 have h3:=aX hb2 h3 hF3;have hC:=hC.bk hb2 (by rintro b hlt (h | ⟨h,_⟩); exact h; omega)
 refine kP r hr2.shape rfl rfl h3 ts57 rfl rfl fun w4 u4 r=>wn ?_;have z4:=u4.size
 have h3:=u4.at_;have hC:=hC.bi u4 (.inl kw)
 refine wp_ret ?_;have hs:=hr2.shape.cells;refine ar r rfl rfl h3 (k:=8) hs.1 ta57 ?_;rw [←hs.2.2];exact au.fin hC hr2 u4 (by rintro b (h | ⟨h1,h2,_⟩); exact .inl h; exact .inr ⟨h1,h2⟩) hF3 kw kw kw
theorem xU (n:Nat):ru n:=by
  induction n using Nat.strongRecOn with
  | _ n ih=>
  intro F F1 F2 w0 hF s1 s2 hdj t pv fv g hp hf hd;obtain ⟨ff,f1,f2,hcf,rfl,hff⟩:=id hf;have hF1:∀ b,F1 b→b<w0.heap.size:=fun b h=>hF b (s1 b h)
  have hF2:∀ b,F2 b→b<w0.heap.size:=fun b h=>hF b (s2 b h)
  cases t with
  | cut=>unfold RepL at hp; exact hp.elim
  | done x0=>
    have hf:=hd.resolve_left (by intro h; cases h)
    unfold RepL at hp
    subst hp;refine enter (l:=[.agg (af true (bo.cells x0) 0 0 0 0 .nilFunc),.func (.func ff) f1.toArray f2.toArray]) Tryz.func113 rfl 15 rfl rfl fun fr r=>?_;have hB:=Below.refl w0.heap.size w0
    refine wp_seq (wp_region_lit ?_);refine kX 41 (.agg (af true (bo.cells x0) 0 0 0 0 .nilFunc)) r rfl rfl fun b1 w1 q1 r=>?_;refine kX 203 (.func (.func ff) f1.toArray f2.toArray) r rfl rfl fun b2 w2 q2 r=>?_
    refine ai (.cells (af false aj.zero 0 0 0 0 .nilFunc) 57 (0,0)) r (fun R=>ah tz57) rfl fun fr b3 w3 q3 r=>wpList_nil ?_;have h1:=keep q3.below (keep q2.below q1.at_)
    have h2:=keep q3.below q2.at_;have h3:=q3.at_;have e1:=q1.eq; have e2:=q2.eq; have e3:=q3.eq; have z1:=q1.size; have z2:=q2.size; have z3:=q3.size;have hB:=((hB.trans q1.below).trans (q2.below.mono kw)).trans (q3.below.mono kw)
    have zB:=hB.size;refine wp_seq (wp_seq (wp_region_lit (ac (zp b1) r (fun R=>ax r (o:=0) rfl vM) rfl fun fr r=>?_)));refine ac (.bool true) r (fun R=>av r (v:=.bool true) rfl h1 to4 rfl) rfl fun fr r=>wpList_nil ?_
    refine wp_cond_split (t:=true) (r.ev rfl) (fun _=>?_) (fun h=>by cases h)
    refine wp_seq (wp_region_lit (ac (.func (.func ff) f1.toArray f2.toArray) r (fun R=>av r (v:=.func (.func ff) f1.toArray f2.toArray) rfl h2 wB rfl) rfl fun fr r=>ac (.pointer (some ⟨b1,1,none⟩)) r (fun R=>ax r (o:=0) rfl D2) rfl fun fr r=>kG (grantC x0) 3 r rfl h1 ta35 rfl rfl fun r=>?_));refine cA r (hf.at_.2 n (Nat.lt_succ_self n) x0 w3 (Same.below hB hF2) hB.size) (fun R hc=>dN r rfl rfl hf.at_.1 hc) rfl ?_
    rintro _ w4 ⟨v,rfl,hb,hr⟩;refine ⟨_,rfl,fun fr r=>?_⟩
    have z4:=hb.size;have n3:¬ F2 b3:=fun h=>by have:=hF2 _ h; omega
    have h3:=aX hb h3 n3;have hC:Chg F w0 w4:=(Chg.aR hB).bk hb fun b _ h=>s2 b h
    refine kP r hr.shape rfl rfl h3 ts57 rfl rfl fun w5 u5 r=>wpList_nil ?_;have z5:=u5.size
    have h3:=u5.at_;have hC:=hC.bi u5 (.inl kw)
    refine wp_ret ?_;have hs:=hr.shape.cells;refine ar r rfl rfl h3 (k:=8) hs.1 ta57 ?_;rw [←hs.2.2];exact au.fin hC hr u5 (fun b hb=>.inl (s2 b hb)) n3 kw kw kw
  | act op at_ a b k=>
    obtain ⟨nf,n1,n2,hcn,rfl,hk⟩:∃ (nf:FuncId) (n1 n2:List Value),ag Tryz.prog nf=true∧pv=.agg (af false bo.zero op at_ a b (.func (.func nf) n1.toArray n2.toArray))∧FnL Tryz.prog bo u64 n F1 w0 (.func (.func nf) n1.toArray n2.toArray) k:=by
      exact RepL.cY hp
    refine enter (l:=[.agg (af false bo.zero op at_ a b (.func (.func nf) n1.toArray n2.toArray)),.func (.func ff) f1.toArray f2.toArray]) Tryz.func113 rfl 15 rfl rfl fun fr r=>?_;have hB:=Below.refl w0.heap.size w0
    refine wp_seq (wp_region_lit ?_);refine kX 41 (.agg (af false bo.zero op at_ a b (.func (.func nf) n1.toArray n2.toArray))) r rfl rfl fun b1 w1 q1 r=>?_;refine kX 203 (.func (.func ff) f1.toArray f2.toArray) r rfl rfl fun b2 w2 q2 r=>?_
    refine ai (.cells (af false aj.zero 0 0 0 0 .nilFunc) 57 (0,0)) r (fun R=>ah tz57) rfl fun fr b3 w3 q3 r=>wpList_nil ?_;have h1:=keep q3.below (keep q2.below q1.at_)
    have h2:=keep q3.below q2.at_;have h3:=q3.at_;have e1:=q1.eq; have e2:=q2.eq; have e3:=q3.eq; have z1:=q1.size; have z2:=q2.size; have z3:=q3.size;have hB:=((hB.trans q1.below).trans (q2.below.mono kw)).trans (q3.below.mono kw)
    have zB:=hB.size;refine wp_seq (wp_seq (wp_region_lit (ac (zp b1) r (fun R=>ax r (o:=0) rfl vM) rfl fun fr r=>?_)));refine ac (.bool false) r (fun R=>av r (v:=.bool false) rfl h1 to4 rfl) rfl fun fr r=>wpList_nil ?_
    refine wp_cond_split (t:=false) (r.ev rfl) (fun h=>by cases h) (fun _=>wp_skip ?_);refine wp_seq (wp_region_lit (ac (.pointer (some ⟨b1,4,none⟩)) r (fun R=>ax r (o:=0) rfl CZ) rfl fun fr r=>kG (ba (⟨op,at_,a,b⟩:Access)) 4 r rfl h1 ta38 rfl rfl fun r=>ac (.func (.func 211) #[] #[zp b1,zp b2]) r (fun R=>aU r rfl) rfl fun fr r=>?_))
    have hFb:∀ b,(fun b=>F b∨b=b1∨b=b2) b→b<w3.heap.size:=by rintro b (h | h | h); exact Nat.lt_of_lt_of_le (hF b h) hB.size; omega; omega
    have m1:¬ F1 b1:=fun h=>by have:=hF1 _ h; omega
    have m2:¬ F1 b2:=fun h=>by have:=hF1 _ h; omega
    refine kC r (gK (F:=fun b=>F b∨b=b1∨b=b2) (n:=n) hFb ⟨op,at_,a,b⟩ (a1:=fun x=>(k x).bind g) (show FnL Tryz.prog aj u64 n (fun b=>F b∨b=b1∨b=b2) w3 (.func (.func 211) ([]:List Value).toArray [zp b1,zp b2].toArray) (fun x=>(k x).bind g) from
      ⟨211,[],[zp b1,zp b2],Fy,rfl,fun m hm x w' hs hz=>yd (ih m hm) (fun b hb=>Nat.lt_of_lt_of_le (hFb b hb) hz) (fun b h=>.inl (s1 b h)) (fun b h=>.inl (s2 b h)) hdj m1 (hs.at_ (.inr (.inl rfl)) h1) m2 (hs.at_ (.inr (.inr rfl)) h2)
        (hk.mono kw (fun b h=>h) ((Same.below hB hF1).trans (hs.sub (fun b h=>.inl (s1 b h)))) (Nat.le_trans hB.size hz)) (hf.mono kw (fun b h=>h) ((Same.below hB hF2).trans (hs.sub (fun b h=>.inl (s2 b h)))) (Nat.le_trans hB.size hz)) x⟩)) rfl hU rfl ?_
    rintro _ w4 ⟨v,rfl,hb,hr⟩;refine ⟨_,rfl,fun fr r=>?_⟩
    have z4:=hb.size;have n3:¬ (fun b=>F b∨b=b1∨b=b2) b3:=by rintro (h | h | h); (have:=hF _ h; omega); omega; omega
    have h3:=aX hb h3 n3;have hC:Chg F w0 w4:=(Chg.aR hB).bk hb (by rintro b hlt (h | h | h); exact h; omega; omega)
    refine kP r hr.shape rfl rfl h3 ts57 rfl rfl fun w5 u5 r=>wpList_nil ?_;have z5:=u5.size
    have h3:=u5.at_;have hC:=hC.bi u5 (.inl kw)
    refine wp_ret ?_;have hs:=hr.shape.cells;refine ar r rfl rfl h3 (k:=8) hs.1 ta57 ?_;rw [←hs.2.2];exact au.fin hC hr u5 (by rintro b (h | h | h); exact .inl h; exact .inr ⟨kw,kw⟩; exact .inr ⟨kw,kw⟩) n3 kw kw kw
theorem xE {n:Nat} {F F1 F2:Nat→Prop} {w0:World} (hF:∀ b,F b→b<w0.heap.size) (s1:∀ b,F1 b→F b) (s2:∀ b,F2 b→F b) (hdj:∀ b,F1 b→¬ F2 b) {t:T (Grant)} {pv fv:Value} {g:Grant→T (Res)} (hp:RepL Tryz.prog bo n t F1 w0 pv) (hf:FnL Tryz.prog aj argGrant (n+1) F2 w0 fv g) :
    Calls Tryz.prog 113 #[pv,fv] w0 (au Tryz.prog aj n (t.bind g) F w0):=xU n hF s1 s2 hdj hp (hf.mono kw (fun b h=>h) (Same.refl _ _) (Nat.le_refl _)) (.inr hf)
def rz (n:Nat):Prop:=∀ {F F1 F2:Nat→Prop} {w0:World},(∀ b,F b→b<w0.heap.size)→(∀ b,F1 b→F b)→(∀ b,F2 b→F b)→(∀ b,F1 b→¬ F2 b)→∀ {t:T (Walk)} {pv fv:Value} {g:Walk→T (Res)},RepL Tryz.prog aK n t F1 w0 pv→FnL Tryz.prog aj argWalk n F2 w0 fv g→
    (t.bd=false∨FnL Tryz.prog aj argWalk (n+1) F2 w0 fv g)→Calls Tryz.prog 121 #[pv,fv] w0 (au Tryz.prog aj n (t.bind g) F w0)
theorem ym {n:Nat} (ih:rz n) {F F1 F2:Nat→Prop} {w0:World} (hF:∀ b,F b→b<w0.heap.size) (s1:∀ b,F1 b→F b) (s2:∀ b,F2 b→F b) (hdj:∀ b,F1 b→¬ F2 b) {op at_ a b:Int} {nf:FuncId} {n1 n2:List Value} {k:Int→T (Walk)} {ff:FuncId} {f1 f2:List Value} {g:Walk→T (Res)}
    {b1 b2:Nat} (m1:¬ F1 b1) (h1:w0.heap[b1]?=some (.cells (af false aK.zero op at_ a b (.func (.func nf) n1.toArray n2.toArray)) 209 (0,0))) (m2:¬ F1 b2) (h2:w0.heap[b2]?=some (.cells #[.func (.func ff) f1.toArray f2.toArray] 216 (0,0)))
    (hk:FnL Tryz.prog aK u64 (n+1) F1 w0 (.func (.func nf) n1.toArray n2.toArray) k) (hg:FnL Tryz.prog aj argWalk (n+1) F2 w0 (.func (.func ff) f1.toArray f2.toArray) g) (x:Int) :
    Calls Tryz.prog 222 #[.int .u64 x,zp b1,zp b2] w0 (au Tryz.prog aj n ((k x).bind g) F w0):=by
 refine kN Tryz.func222 rfl 11 rfl rfl fun fr r hB=>?_;have hF1:∀ b,F1 b→b<w0.heap.size:=fun b h=>hF b (s1 b h)
 have hF2:∀ b,F2 b→b<w0.heap.size:=fun b h=>hF b (s2 b h)
 refine wp_seq (wp_region_lit ?_);refine ai (.cells (af false aj.zero 0 0 0 0 .nilFunc) 57 (0,0)) r (fun R=>ah tz57) rfl fun fr b3 w1 q1 r=>wn ?_;have h1:=keep q1.below h1
 have h2:=keep q1.below h2;have e3:=q1.eq;have z1:=q1.size;have h3:=q1.at_;have hB:=hB.trans (q1.below.mono hB.size);have zB:=hB.size;have hk1:=hk.mono (Nat.le_refl _) (fun b h=>h) (Same.below hB hF1) hB.size
 have hF1':∀ b,F1 b→b<w1.heap.size:=fun b h=>Nat.lt_of_lt_of_le (hF1 b h) zB
 refine wp_seq ?_;refine gW 5 F1 [.val (.pointer (some ⟨b1,19,none⟩)),.val (.func (.func nf) n1.toArray n2.toArray),.val (U x),.eff (StepE Tryz.prog aK n (k x) F1) (StepE.st hF1'),.val (.func (.func ff) f1.toArray f2.toArray)] mixed r hF1' kz ?_ ?_
 ·
  refine cv r rfl (fun fr1 g w' hk' hd r'=>?_) ?_
  · exact ax r' (b:=b1) (o:=0) (k:=19) rfl Cv ⟨Below.refl _ _,rfl⟩
  refine cv r rfl (fun fr1 g w' hk' hd r'=>?_) ?_
  · exact av r' (v:=.func (.func nf) n1.toArray n2.toArray) (hd 0 rfl).1 (aX (drK hk') h1 m1) qR rfl ⟨Below.refl _ _,rfl⟩
  refine cv r rfl (fun fr1 g w' hk' hd r'=>?_) ?_
  · exact ay r' (v:=.int .u64 x) rfl ⟨Below.refl _ _,rfl⟩
  refine gQ r rfl kz (fun fr1 g w' hb' hd r'=>?_) ?_
  ·
   have hb':Below w1.heap.size w1 w':=dr hb';refine dn r' (fs:=n1) (cs:=n2) (hd 1 rfl).1 (hd 2 rfl).1 hk1.at_.1 ((hk1.at_.2 n (Nat.lt_succ_self n) x w' (Same.below hb' hF1') hb'.size).mono ?_);rintro _ w2 ⟨v,rfl,hb2,hr2⟩;exact ⟨v,rfl,hb2.kept,hr2⟩
  refine cv r rfl (fun fr1 g w' hk' hd r'=>?_) ?_
  · exact av r' (v:=.func (.func ff) f1.toArray f2.toArray) rfl (aX (drK hk') h2 m2) wq rfl ⟨Below.refl _ _,rfl⟩
  exact cc
 intro fr gg w2 hb hΦ _ r;have hr:RepL Tryz.prog aK n (k x) (fun b=>F1 b∨((gg 3).lo≤b∧b<(gg 3).hi)) w2 (gg 3).v:=(hΦ 3 rfl).1
 have hrg:=(hΦ 3 rfl).2;have r:=r.congr (sc ((hΦ 4 rfl).1) rfl);have z2:=hb.size;have hr3:¬ F1 b3:=fun h=>by have:=hF1 _ h; omega
 have h3:=aX hb h3 hr3;have hC:Chg F w0 w2:=(Chg.aR hB).bk hb fun b _ h=>s1 b h
 have zB2:=hC.size;have hS2:Same F2 w0 w2:=fun b h=>(hb.block b (Nat.lt_of_lt_of_le (hF2 b h) zB) fun h'=>hdj b h' h).trans (hB.block b (hF2 b h))
 have hFb:∀ b,(kW F w0 w2 b3) b→b<w2.heap.size:=by rintro b (h | h); exact Nat.lt_of_lt_of_le (hF b h) zB2; exact h.2.1
 refine kC r (ih (F:=fun b=>F b∨(w0.heap.size≤b∧b<w2.heap.size∧b≠b3)) (F1:=fun b=>F1 b∨((gg 3).lo≤b∧b<(gg 3).hi)) (F2:=F2) hFb (by rintro b (h | ⟨h,h'⟩); exact .inl (s1 b h); exact .inr ⟨kw,kw,kw⟩) (fun b h=>.inl (s2 b h))
  (by rintro b (h | ⟨h,h'⟩) h2; exact hdj b h h2; have:=hF2 b h2; omega) hr (hg.mono kw (fun b h=>h) hS2 zB2) (.inr (hg.mono (Nat.le_refl _) (fun b h=>h) hS2 zB2))) rfl ny rfl ?_
 rintro _ w3 ⟨v2,rfl,hb2,hr2⟩;refine ⟨_,rfl,fun fr r=>?_⟩
 have z3:=hb2.size;have hF3:¬ (kW F w0 w2 b3) b3:=by rintro (h | ⟨_,_,h⟩); (have:=hF _ h; omega); exact h rfl
 have h3:=aX hb2 h3 hF3;have hC:=hC.bk hb2 (by rintro b hlt (h | ⟨h,_⟩); exact h; omega)
 refine kP r hr2.shape rfl rfl h3 ts57 rfl rfl fun w4 u4 r=>wn ?_;have z4:=u4.size
 have h3:=u4.at_;have hC:=hC.bi u4 (.inl kw)
 refine wp_ret ?_;have hs:=hr2.shape.cells;refine ar r rfl rfl h3 (k:=8) hs.1 ta57 ?_;rw [←hs.2.2];exact au.fin hC hr2 u4 (by rintro b (h | ⟨h1,h2,_⟩); exact .inl h; exact .inr ⟨h1,h2⟩) hF3 kw kw kw
theorem yx (n:Nat):rz n:=by
  induction n using Nat.strongRecOn with
  | _ n ih=>
  intro F F1 F2 w0 hF s1 s2 hdj t pv fv g hp hf hd;obtain ⟨ff,f1,f2,hcf,rfl,hff⟩:=id hf;have hF1:∀ b,F1 b→b<w0.heap.size:=fun b h=>hF b (s1 b h)
  have hF2:∀ b,F2 b→b<w0.heap.size:=fun b h=>hF b (s2 b h)
  cases t with
  | cut=>unfold RepL at hp; exact hp.elim
  | done x0=>
    have hf:=hd.resolve_left (by intro h; cases h)
    unfold RepL at hp
    subst hp;refine enter (l:=[.agg (af true (aK.cells x0) 0 0 0 0 .nilFunc),.func (.func ff) f1.toArray f2.toArray]) Tryz.func121 rfl 15 rfl rfl fun fr r=>?_;have hB:=Below.refl w0.heap.size w0
    refine wp_seq (wp_region_lit ?_);refine kX 209 (.agg (af true (aK.cells x0) 0 0 0 0 .nilFunc)) r rfl rfl fun b1 w1 q1 r=>?_;refine kX 216 (.func (.func ff) f1.toArray f2.toArray) r rfl rfl fun b2 w2 q2 r=>?_
    refine ai (.cells (af false aj.zero 0 0 0 0 .nilFunc) 57 (0,0)) r (fun R=>ah tz57) rfl fun fr b3 w3 q3 r=>wpList_nil ?_;have h1:=keep q3.below (keep q2.below q1.at_)
    have h2:=keep q3.below q2.at_;have h3:=q3.at_;have e1:=q1.eq; have e2:=q2.eq; have e3:=q3.eq; have z1:=q1.size; have z2:=q2.size; have z3:=q3.size;have hB:=((hB.trans q1.below).trans (q2.below.mono kw)).trans (q3.below.mono kw)
    have zB:=hB.size;refine wp_seq (wp_seq (wp_region_lit (ac (zp b1) r (fun R=>ax r (o:=0) rfl vq) rfl fun fr r=>?_)));refine ac (.bool true) r (fun R=>av r (v:=.bool true) rfl h1 to4 rfl) rfl fun fr r=>wpList_nil ?_
    refine wp_cond_split (t:=true) (r.ev rfl) (fun _=>?_) (fun h=>by cases h)
    refine wp_seq (wp_region_lit (ac (.func (.func ff) f1.toArray f2.toArray) r (fun R=>av r (v:=.func (.func ff) f1.toArray f2.toArray) rfl h2 wq rfl) rfl fun fr r=>ac (.pointer (some ⟨b1,1,none⟩)) r (fun R=>ax r (o:=0) rfl Cr) rfl fun fr r=>kG (bb x0) 14 r rfl h1 dc rfl rfl fun r=>?_));refine cA r (hf.at_.2 n (Nat.lt_succ_self n) x0 w3 (Same.below hB hF2) hB.size) (fun R hc=>dN r rfl rfl hf.at_.1 hc) rfl ?_
    rintro _ w4 ⟨v,rfl,hb,hr⟩;refine ⟨_,rfl,fun fr r=>?_⟩
    have z4:=hb.size;have n3:¬ F2 b3:=fun h=>by have:=hF2 _ h; omega
    have h3:=aX hb h3 n3;have hC:Chg F w0 w4:=(Chg.aR hB).bk hb fun b _ h=>s2 b h
    refine kP r hr.shape rfl rfl h3 ts57 rfl rfl fun w5 u5 r=>wpList_nil ?_;have z5:=u5.size
    have h3:=u5.at_;have hC:=hC.bi u5 (.inl kw)
    refine wp_ret ?_;have hs:=hr.shape.cells;refine ar r rfl rfl h3 (k:=8) hs.1 ta57 ?_;rw [←hs.2.2];exact au.fin hC hr u5 (fun b hb=>.inl (s2 b hb)) n3 kw kw kw
  | act op at_ a b k=>
    obtain ⟨nf,n1,n2,hcn,rfl,hk⟩:∃ (nf:FuncId) (n1 n2:List Value),ag Tryz.prog nf=true∧pv=.agg (af false aK.zero op at_ a b (.func (.func nf) n1.toArray n2.toArray))∧FnL Tryz.prog aK u64 n F1 w0 (.func (.func nf) n1.toArray n2.toArray) k:=by
      exact RepL.cY hp
    refine enter (l:=[.agg (af false aK.zero op at_ a b (.func (.func nf) n1.toArray n2.toArray)),.func (.func ff) f1.toArray f2.toArray]) Tryz.func121 rfl 15 rfl rfl fun fr r=>?_;have hB:=Below.refl w0.heap.size w0
    refine wp_seq (wp_region_lit ?_);refine kX 209 (.agg (af false aK.zero op at_ a b (.func (.func nf) n1.toArray n2.toArray))) r rfl rfl fun b1 w1 q1 r=>?_;refine kX 216 (.func (.func ff) f1.toArray f2.toArray) r rfl rfl fun b2 w2 q2 r=>?_
    refine ai (.cells (af false aj.zero 0 0 0 0 .nilFunc) 57 (0,0)) r (fun R=>ah tz57) rfl fun fr b3 w3 q3 r=>wpList_nil ?_;have h1:=keep q3.below (keep q2.below q1.at_)
    have h2:=keep q3.below q2.at_;have h3:=q3.at_;have e1:=q1.eq; have e2:=q2.eq; have e3:=q3.eq; have z1:=q1.size; have z2:=q2.size; have z3:=q3.size;have hB:=((hB.trans q1.below).trans (q2.below.mono kw)).trans (q3.below.mono kw)
    have zB:=hB.size;refine wp_seq (wp_seq (wp_region_lit (ac (zp b1) r (fun R=>ax r (o:=0) rfl vq) rfl fun fr r=>?_)));refine ac (.bool false) r (fun R=>av r (v:=.bool false) rfl h1 to4 rfl) rfl fun fr r=>wpList_nil ?_
    refine wp_cond_split (t:=false) (r.ev rfl) (fun h=>by cases h) (fun _=>wp_skip ?_);refine wp_seq (wp_region_lit (ac (.pointer (some ⟨b1,15,none⟩)) r (fun R=>ax r (o:=0) rfl CS) rfl fun fr r=>kG (ba (⟨op,at_,a,b⟩:Access)) 4 r rfl h1 ta38 rfl rfl fun r=>ac (.func (.func 222) #[] #[zp b1,zp b2]) r (fun R=>aU r rfl) rfl fun fr r=>?_))
    have hFb:∀ b,(fun b=>F b∨b=b1∨b=b2) b→b<w3.heap.size:=by rintro b (h | h | h); exact Nat.lt_of_lt_of_le (hF b h) hB.size; omega; omega
    have m1:¬ F1 b1:=fun h=>by have:=hF1 _ h; omega
    have m2:¬ F1 b2:=fun h=>by have:=hF1 _ h; omega
    refine kC r (gK (F:=fun b=>F b∨b=b1∨b=b2) (n:=n) hFb ⟨op,at_,a,b⟩ (a1:=fun x=>(k x).bind g) (show FnL Tryz.prog aj u64 n (fun b=>F b∨b=b1∨b=b2) w3 (.func (.func 222) ([]:List Value).toArray [zp b1,zp b2].toArray) (fun x=>(k x).bind g) from
      ⟨222,[],[zp b1,zp b2],Ez,rfl,fun m hm x w' hs hz=>ym (ih m hm) (fun b hb=>Nat.lt_of_lt_of_le (hFb b hb) hz) (fun b h=>.inl (s1 b h)) (fun b h=>.inl (s2 b h)) hdj m1 (hs.at_ (.inr (.inl rfl)) h1) m2 (hs.at_ (.inr (.inr rfl)) h2)
        (hk.mono kw (fun b h=>h) ((Same.below hB hF1).trans (hs.sub (fun b h=>.inl (s1 b h)))) (Nat.le_trans hB.size hz)) (hf.mono kw (fun b h=>h) ((Same.below hB hF2).trans (hs.sub (fun b h=>.inl (s2 b h)))) (Nat.le_trans hB.size hz)) x⟩)) rfl hU rfl ?_
    rintro _ w4 ⟨v,rfl,hb,hr⟩;refine ⟨_,rfl,fun fr r=>?_⟩
    have z4:=hb.size;have n3:¬ (fun b=>F b∨b=b1∨b=b2) b3:=by rintro (h | h | h); (have:=hF _ h; omega); omega; omega
    have h3:=aX hb h3 n3;have hC:Chg F w0 w4:=(Chg.aR hB).bk hb (by rintro b hlt (h | h | h); exact h; omega; omega)
    refine kP r hr.shape rfl rfl h3 ts57 rfl rfl fun w5 u5 r=>wpList_nil ?_;have z5:=u5.size
    have h3:=u5.at_;have hC:=hC.bi u5 (.inl kw)
    refine wp_ret ?_;have hs:=hr.shape.cells;refine ar r rfl rfl h3 (k:=8) hs.1 ta57 ?_;rw [←hs.2.2];exact au.fin hC hr u5 (by rintro b (h | h | h); exact .inl h; exact .inr ⟨kw,kw⟩; exact .inr ⟨kw,kw⟩) n3 kw kw kw
theorem nH {n:Nat} {F F1 F2:Nat→Prop} {w0:World} (hF:∀ b,F b→b<w0.heap.size) (s1:∀ b,F1 b→F b) (s2:∀ b,F2 b→F b) (hdj:∀ b,F1 b→¬ F2 b) {t:T (Walk)} {pv fv:Value} {g:Walk→T (Res)} (hp:RepL Tryz.prog aK n t F1 w0 pv) (hf:FnL Tryz.prog aj argWalk (n+1) F2 w0 fv g) :
    Calls Tryz.prog 121 #[pv,fv] w0 (au Tryz.prog aj n (t.bind g) F w0):=yx n hF s1 s2 hdj hp (hf.mono kw (fun b h=>h) (Same.refl _ _) (Nat.le_refl _)) (.inr hf)
def rA (n:Nat):Prop:=∀ {F F1 F2:Nat→Prop} {w0:World},(∀ b,F b→b<w0.heap.size)→(∀ b,F1 b→F b)→(∀ b,F2 b→F b)→(∀ b,F1 b→¬ F2 b)→∀ {t:T (Unit)} {pv fv:Value} {g:Unit→T (Res)},RepL Tryz.prog aA n t F1 w0 pv→FnL Tryz.prog aj noneE n F2 w0 fv g→
    (t.bd=false∨FnL Tryz.prog aj noneE (n+1) F2 w0 fv g)→Calls Tryz.prog 214 #[pv,fv] w0 (au Tryz.prog aj n (t.bind g) F w0)
theorem yo {n:Nat} (ih:rA n) {F F1 F2:Nat→Prop} {w0:World} (hF:∀ b,F b→b<w0.heap.size) (s1:∀ b,F1 b→F b) (s2:∀ b,F2 b→F b) (hdj:∀ b,F1 b→¬ F2 b) {op at_ a b:Int} {nf:FuncId} {n1 n2:List Value} {k:Int→T (Unit)} {ff:FuncId} {f1 f2:List Value} {g:Unit→T (Res)}
    {b1 b2:Nat} (m1:¬ F1 b1) (h1:w0.heap[b1]?=some (.cells (af false aA.zero op at_ a b (.func (.func nf) n1.toArray n2.toArray)) 157 (0,0))) (m2:¬ F1 b2) (h2:w0.heap[b2]?=some (.cells #[.func (.func ff) f1.toArray f2.toArray] 264 (0,0)))
    (hk:FnL Tryz.prog aA u64 (n+1) F1 w0 (.func (.func nf) n1.toArray n2.toArray) k) (hg:FnL Tryz.prog aj noneE (n+1) F2 w0 (.func (.func ff) f1.toArray f2.toArray) g) (x:Int) :
    Calls Tryz.prog 306 #[.int .u64 x,zp b1,zp b2] w0 (au Tryz.prog aj n ((k x).bind g) F w0):=by
 refine kN Tryz.func306 rfl 11 rfl rfl fun fr r hB=>?_;have hF1:∀ b,F1 b→b<w0.heap.size:=fun b h=>hF b (s1 b h)
 have hF2:∀ b,F2 b→b<w0.heap.size:=fun b h=>hF b (s2 b h)
 refine wp_seq (wp_region_lit ?_);refine ai (.cells (af false aj.zero 0 0 0 0 .nilFunc) 57 (0,0)) r (fun R=>ah tz57) rfl fun fr b3 w1 q1 r=>wn ?_;have h1:=keep q1.below h1
 have h2:=keep q1.below h2;have e3:=q1.eq;have z1:=q1.size;have h3:=q1.at_;have hB:=hB.trans (q1.below.mono hB.size);have zB:=hB.size;have hk1:=hk.mono (Nat.le_refl _) (fun b h=>h) (Same.below hB hF1) hB.size
 have hF1':∀ b,F1 b→b<w1.heap.size:=fun b h=>Nat.lt_of_lt_of_le (hF1 b h) zB
 refine wp_seq ?_;refine gW 5 F1 [.val (.pointer (some ⟨b1,5,none⟩)),.val (.func (.func nf) n1.toArray n2.toArray),.val (U x),.eff (StepE Tryz.prog aA n (k x) F1) (StepE.st hF1'),.val (.func (.func ff) f1.toArray f2.toArray)] mixed r hF1' kz ?_ ?_
 ·
  refine cv r rfl (fun fr1 g w' hk' hd r'=>?_) ?_
  · exact ax r' (b:=b1) (o:=0) (k:=5) rfl jZ ⟨Below.refl _ _,rfl⟩
  refine cv r rfl (fun fr1 g w' hk' hd r'=>?_) ?_
  · exact av r' (v:=.func (.func nf) n1.toArray n2.toArray) (hd 0 rfl).1 (aX (drK hk') h1 m1) kZ rfl ⟨Below.refl _ _,rfl⟩
  refine cv r rfl (fun fr1 g w' hk' hd r'=>?_) ?_
  · exact ay r' (v:=.int .u64 x) rfl ⟨Below.refl _ _,rfl⟩
  refine gQ r rfl kz (fun fr1 g w' hb' hd r'=>?_) ?_
  ·
   have hb':Below w1.heap.size w1 w':=dr hb';refine dn r' (fs:=n1) (cs:=n2) (hd 1 rfl).1 (hd 2 rfl).1 hk1.at_.1 ((hk1.at_.2 n (Nat.lt_succ_self n) x w' (Same.below hb' hF1') hb'.size).mono ?_);rintro _ w2 ⟨v,rfl,hb2,hr2⟩;exact ⟨v,rfl,hb2.kept,hr2⟩
  refine cv r rfl (fun fr1 g w' hk' hd r'=>?_) ?_
  · exact av r' (v:=.func (.func ff) f1.toArray f2.toArray) rfl (aX (drK hk') h2 m2) xm rfl ⟨Below.refl _ _,rfl⟩
  exact cc
 intro fr gg w2 hb hΦ _ r;have hr:RepL Tryz.prog aA n (k x) (fun b=>F1 b∨((gg 3).lo≤b∧b<(gg 3).hi)) w2 (gg 3).v:=(hΦ 3 rfl).1
 have hrg:=(hΦ 3 rfl).2;have r:=r.congr (sc ((hΦ 4 rfl).1) rfl);have z2:=hb.size;have hr3:¬ F1 b3:=fun h=>by have:=hF1 _ h; omega
 have h3:=aX hb h3 hr3;have hC:Chg F w0 w2:=(Chg.aR hB).bk hb fun b _ h=>s1 b h
 have zB2:=hC.size;have hS2:Same F2 w0 w2:=fun b h=>(hb.block b (Nat.lt_of_lt_of_le (hF2 b h) zB) fun h'=>hdj b h' h).trans (hB.block b (hF2 b h))
 have hFb:∀ b,(kW F w0 w2 b3) b→b<w2.heap.size:=by rintro b (h | h); exact Nat.lt_of_lt_of_le (hF b h) zB2; exact h.2.1
 refine kC r (ih (F:=fun b=>F b∨(w0.heap.size≤b∧b<w2.heap.size∧b≠b3)) (F1:=fun b=>F1 b∨((gg 3).lo≤b∧b<(gg 3).hi)) (F2:=F2) hFb (by rintro b (h | ⟨h,h'⟩); exact .inl (s1 b h); exact .inr ⟨kw,kw,kw⟩) (fun b h=>.inl (s2 b h))
  (by rintro b (h | ⟨h,h'⟩) h2; exact hdj b h h2; have:=hF2 b h2; omega) hr (hg.mono kw (fun b h=>h) hS2 zB2) (.inr (hg.mono (Nat.le_refl _) (fun b h=>h) hS2 zB2))) rfl qW rfl ?_
 rintro _ w3 ⟨v2,rfl,hb2,hr2⟩;refine ⟨_,rfl,fun fr r=>?_⟩
 have z3:=hb2.size;have hF3:¬ (kW F w0 w2 b3) b3:=by rintro (h | ⟨_,_,h⟩); (have:=hF _ h; omega); exact h rfl
 have h3:=aX hb2 h3 hF3;have hC:=hC.bk hb2 (by rintro b hlt (h | ⟨h,_⟩); exact h; omega)
 refine kP r hr2.shape rfl rfl h3 ts57 rfl rfl fun w4 u4 r=>wn ?_;have z4:=u4.size
 have h3:=u4.at_;have hC:=hC.bi u4 (.inl kw)
 refine wp_ret ?_;have hs:=hr2.shape.cells;refine ar r rfl rfl h3 (k:=8) hs.1 ta57 ?_;rw [←hs.2.2];exact au.fin hC hr2 u4 (by rintro b (h | ⟨h1,h2,_⟩); exact .inl h; exact .inr ⟨h1,h2⟩) hF3 kw kw kw
theorem yw (n:Nat):rA n:=by
  induction n using Nat.strongRecOn with
  | _ n ih=>
  intro F F1 F2 w0 hF s1 s2 hdj t pv fv g hp hf hd;obtain ⟨ff,f1,f2,hcf,rfl,hff⟩:=id hf;have hF1:∀ b,F1 b→b<w0.heap.size:=fun b h=>hF b (s1 b h)
  have hF2:∀ b,F2 b→b<w0.heap.size:=fun b h=>hF b (s2 b h)
  cases t with
  | cut=>unfold RepL at hp; exact hp.elim
  | done x0=>
    have hf:=hd.resolve_left (by intro h; cases h)
    unfold RepL at hp
    subst hp;refine enter (l:=[.agg (af true (aA.cells x0) 0 0 0 0 .nilFunc),.func (.func ff) f1.toArray f2.toArray]) Tryz.func214 rfl 15 rfl rfl fun fr r=>?_;have hB:=Below.refl w0.heap.size w0
    refine wp_seq (wp_region_lit ?_);refine kX 157 (.agg (af true (aA.cells x0) 0 0 0 0 .nilFunc)) r rfl rfl fun b1 w1 q1 r=>?_;refine kX 264 (.func (.func ff) f1.toArray f2.toArray) r rfl rfl fun b2 w2 q2 r=>?_
    refine ai (.cells (af false aj.zero 0 0 0 0 .nilFunc) 57 (0,0)) r (fun R=>ah tz57) rfl fun fr b3 w3 q3 r=>wpList_nil ?_;have h1:=keep q3.below (keep q2.below q1.at_)
    have h2:=keep q3.below q2.at_;have h3:=q3.at_;have e1:=q1.eq; have e2:=q2.eq; have e3:=q3.eq; have z1:=q1.size; have z2:=q2.size; have z3:=q3.size;have hB:=((hB.trans q1.below).trans (q2.below.mono kw)).trans (q3.below.mono kw)
    have zB:=hB.size;refine wp_seq (wp_seq (wp_region_lit (ac (zp b1) r (fun R=>ax r (o:=0) rfl eK) rfl fun fr r=>?_)));refine ac (.bool true) r (fun R=>av r (v:=.bool true) rfl h1 to4 rfl) rfl fun fr r=>wpList_nil ?_
    refine wp_cond_split (t:=true) (r.ev rfl) (fun _=>?_) (fun h=>by cases h)
    refine wp_seq (wp_region_lit (ac (.func (.func ff) f1.toArray f2.toArray) r (fun R=>av r (v:=.func (.func ff) f1.toArray f2.toArray) rfl h2 xm rfl) rfl fun fr r=>?_));refine mq b1 1 r (fun R=>jA r rfl kp h1) rfl fun fr sp r=>ac (.agg #[]) r (fun R=>jG r rfl ia) rfl fun fr r=>?_
    refine cA r (hf.at_.2 n (Nat.lt_succ_self n) x0 w3 (Same.below hB hF2) hB.size) (fun R hc=>dN r rfl rfl hf.at_.1 hc) rfl ?_;rintro _ w4 ⟨v,rfl,hb,hr⟩
    refine ⟨_,rfl,fun fr r=>?_⟩
    have z4:=hb.size;have n3:¬ F2 b3:=fun h=>by have:=hF2 _ h; omega
    have h3:=aX hb h3 n3;have hC:Chg F w0 w4:=(Chg.aR hB).bk hb fun b _ h=>s2 b h
    refine kP r hr.shape rfl rfl h3 ts57 rfl rfl fun w5 u5 r=>wpList_nil ?_;have z5:=u5.size
    have h3:=u5.at_;have hC:=hC.bi u5 (.inl kw)
    refine wp_ret ?_;have hs:=hr.shape.cells;refine ar r rfl rfl h3 (k:=8) hs.1 ta57 ?_;rw [←hs.2.2];exact au.fin hC hr u5 (fun b hb=>.inl (s2 b hb)) n3 kw kw kw
  | act op at_ a b k=>
    obtain ⟨nf,n1,n2,hcn,rfl,hk⟩:∃ (nf:FuncId) (n1 n2:List Value),ag Tryz.prog nf=true∧pv=.agg (af false aA.zero op at_ a b (.func (.func nf) n1.toArray n2.toArray))∧FnL Tryz.prog aA u64 n F1 w0 (.func (.func nf) n1.toArray n2.toArray) k:=by
      exact RepL.cY hp
    refine enter (l:=[.agg (af false aA.zero op at_ a b (.func (.func nf) n1.toArray n2.toArray)),.func (.func ff) f1.toArray f2.toArray]) Tryz.func214 rfl 15 rfl rfl fun fr r=>?_;have hB:=Below.refl w0.heap.size w0
    refine wp_seq (wp_region_lit ?_);refine kX 157 (.agg (af false aA.zero op at_ a b (.func (.func nf) n1.toArray n2.toArray))) r rfl rfl fun b1 w1 q1 r=>?_;refine kX 264 (.func (.func ff) f1.toArray f2.toArray) r rfl rfl fun b2 w2 q2 r=>?_
    refine ai (.cells (af false aj.zero 0 0 0 0 .nilFunc) 57 (0,0)) r (fun R=>ah tz57) rfl fun fr b3 w3 q3 r=>wpList_nil ?_;have h1:=keep q3.below (keep q2.below q1.at_)
    have h2:=keep q3.below q2.at_;have h3:=q3.at_;have e1:=q1.eq; have e2:=q2.eq; have e3:=q3.eq; have z1:=q1.size; have z2:=q2.size; have z3:=q3.size;have hB:=((hB.trans q1.below).trans (q2.below.mono kw)).trans (q3.below.mono kw)
    have zB:=hB.size;refine wp_seq (wp_seq (wp_region_lit (ac (zp b1) r (fun R=>ax r (o:=0) rfl eK) rfl fun fr r=>?_)));refine ac (.bool false) r (fun R=>av r (v:=.bool false) rfl h1 to4 rfl) rfl fun fr r=>wpList_nil ?_
    refine wp_cond_split (t:=false) (r.ev rfl) (fun h=>by cases h) (fun _=>wp_skip ?_);refine wp_seq (wp_region_lit (ac (.pointer (some ⟨b1,1,none⟩)) r (fun R=>ax r (o:=0) rfl kf) rfl fun fr r=>kG (ba (⟨op,at_,a,b⟩:Access)) 4 r rfl h1 ta38 rfl rfl fun r=>ac (.func (.func 306) #[] #[zp b1,zp b2]) r (fun R=>aU r rfl) rfl fun fr r=>?_))
    have hFb:∀ b,(fun b=>F b∨b=b1∨b=b2) b→b<w3.heap.size:=by rintro b (h | h | h); exact Nat.lt_of_lt_of_le (hF b h) hB.size; omega; omega
    have m1:¬ F1 b1:=fun h=>by have:=hF1 _ h; omega
    have m2:¬ F1 b2:=fun h=>by have:=hF1 _ h; omega
    refine kC r (gK (F:=fun b=>F b∨b=b1∨b=b2) (n:=n) hFb ⟨op,at_,a,b⟩ (a1:=fun x=>(k x).bind g) (show FnL Tryz.prog aj u64 n (fun b=>F b∨b=b1∨b=b2) w3 (.func (.func 306) ([]:List Value).toArray [zp b1,zp b2].toArray) (fun x=>(k x).bind g) from
      ⟨306,[],[zp b1,zp b2],DG,rfl,fun m hm x w' hs hz=>yo (ih m hm) (fun b hb=>Nat.lt_of_lt_of_le (hFb b hb) hz) (fun b h=>.inl (s1 b h)) (fun b h=>.inl (s2 b h)) hdj m1 (hs.at_ (.inr (.inl rfl)) h1) m2 (hs.at_ (.inr (.inr rfl)) h2)
        (hk.mono kw (fun b h=>h) ((Same.below hB hF1).trans (hs.sub (fun b h=>.inl (s1 b h)))) (Nat.le_trans hB.size hz)) (hf.mono kw (fun b h=>h) ((Same.below hB hF2).trans (hs.sub (fun b h=>.inl (s2 b h)))) (Nat.le_trans hB.size hz)) x⟩)) rfl hU rfl ?_
    rintro _ w4 ⟨v,rfl,hb,hr⟩;refine ⟨_,rfl,fun fr r=>?_⟩
    have z4:=hb.size;have n3:¬ (fun b=>F b∨b=b1∨b=b2) b3:=by rintro (h | h | h); (have:=hF _ h; omega); omega; omega
    have h3:=aX hb h3 n3;have hC:Chg F w0 w4:=(Chg.aR hB).bk hb (by rintro b hlt (h | h | h); exact h; omega; omega)
    refine kP r hr.shape rfl rfl h3 ts57 rfl rfl fun w5 u5 r=>wpList_nil ?_;have z5:=u5.size
    have h3:=u5.at_;have hC:=hC.bi u5 (.inl kw)
    refine wp_ret ?_;have hs:=hr.shape.cells;refine ar r rfl rfl h3 (k:=8) hs.1 ta57 ?_;rw [←hs.2.2];exact au.fin hC hr u5 (by rintro b (h | h | h); exact .inl h; exact .inr ⟨kw,kw⟩; exact .inr ⟨kw,kw⟩) n3 kw kw kw
theorem rv {n:Nat} {F F1 F2:Nat→Prop} {w0:World} (hF:∀ b,F b→b<w0.heap.size) (s1:∀ b,F1 b→F b) (s2:∀ b,F2 b→F b) (hdj:∀ b,F1 b→¬ F2 b) {t:T (Unit)} {pv fv:Value} {g:Unit→T (Res)} (hp:RepL Tryz.prog aA n t F1 w0 pv) (hf:FnL Tryz.prog aj noneE (n+1) F2 w0 fv g) :
    Calls Tryz.prog 214 #[pv,fv] w0 (au Tryz.prog aj n (t.bind g) F w0):=yw n hF s1 s2 hdj hp (hf.mono kw (fun b h=>h) (Same.refl _ _) (Nat.le_refl _)) (.inr hf)
def rr (n:Nat):Prop:=∀ {F F1 F2:Nat→Prop} {w0:World},(∀ b,F b→b<w0.heap.size)→(∀ b,F1 b→F b)→(∀ b,F2 b→F b)→(∀ b,F1 b→¬ F2 b)→∀ {t:T (Unit)} {pv fv:Value} {g:Unit→T (Walk)},RepL Tryz.prog aA n t F1 w0 pv→FnL Tryz.prog aK noneE n F2 w0 fv g→
    (t.bd=false∨FnL Tryz.prog aK noneE (n+1) F2 w0 fv g)→Calls Tryz.prog 367 #[pv,fv] w0 (au Tryz.prog aK n (t.bind g) F w0)
theorem yc {n:Nat} (ih:rr n) {F F1 F2:Nat→Prop} {w0:World} (hF:∀ b,F b→b<w0.heap.size) (s1:∀ b,F1 b→F b) (s2:∀ b,F2 b→F b) (hdj:∀ b,F1 b→¬ F2 b) {op at_ a b:Int} {nf:FuncId} {n1 n2:List Value} {k:Int→T (Unit)} {ff:FuncId} {f1 f2:List Value} {g:Unit→T (Walk)}
    {b1 b2:Nat} (m1:¬ F1 b1) (h1:w0.heap[b1]?=some (.cells (af false aA.zero op at_ a b (.func (.func nf) n1.toArray n2.toArray)) 157 (0,0))) (m2:¬ F1 b2) (h2:w0.heap[b2]?=some (.cells #[.func (.func ff) f1.toArray f2.toArray] 327 (0,0)))
    (hk:FnL Tryz.prog aA u64 (n+1) F1 w0 (.func (.func nf) n1.toArray n2.toArray) k) (hg:FnL Tryz.prog aK noneE (n+1) F2 w0 (.func (.func ff) f1.toArray f2.toArray) g) (x:Int) :
    Calls Tryz.prog 392 #[.int .u64 x,zp b1,zp b2] w0 (au Tryz.prog aK n ((k x).bind g) F w0):=by
 refine kN Tryz.func392 rfl 11 rfl rfl fun fr r hB=>?_;have hF1:∀ b,F1 b→b<w0.heap.size:=fun b h=>hF b (s1 b h)
 have hF2:∀ b,F2 b→b<w0.heap.size:=fun b h=>hF b (s2 b h)
 refine wp_seq (wp_region_lit ?_);refine ai (.cells (af false aK.zero 0 0 0 0 .nilFunc) 209 (0,0)) r (fun R=>ah cl) rfl fun fr b3 w1 q1 r=>wn ?_;have h1:=keep q1.below h1
 have h2:=keep q1.below h2;have e3:=q1.eq;have z1:=q1.size;have h3:=q1.at_;have hB:=hB.trans (q1.below.mono hB.size);have zB:=hB.size;have hk1:=hk.mono (Nat.le_refl _) (fun b h=>h) (Same.below hB hF1) hB.size
 have hF1':∀ b,F1 b→b<w1.heap.size:=fun b h=>Nat.lt_of_lt_of_le (hF1 b h) zB
 refine wp_seq ?_;refine gW 5 F1 [.val (.pointer (some ⟨b1,5,none⟩)),.val (.func (.func nf) n1.toArray n2.toArray),.val (U x),.eff (StepE Tryz.prog aA n (k x) F1) (StepE.st hF1'),.val (.func (.func ff) f1.toArray f2.toArray)] mixed r hF1' kz ?_ ?_
 ·
  refine cv r rfl (fun fr1 g w' hk' hd r'=>?_) ?_
  · exact ax r' (b:=b1) (o:=0) (k:=5) rfl jZ ⟨Below.refl _ _,rfl⟩
  refine cv r rfl (fun fr1 g w' hk' hd r'=>?_) ?_
  · exact av r' (v:=.func (.func nf) n1.toArray n2.toArray) (hd 0 rfl).1 (aX (drK hk') h1 m1) kZ rfl ⟨Below.refl _ _,rfl⟩
  refine cv r rfl (fun fr1 g w' hk' hd r'=>?_) ?_
  · exact ay r' (v:=.int .u64 x) rfl ⟨Below.refl _ _,rfl⟩
  refine gQ r rfl kz (fun fr1 g w' hb' hd r'=>?_) ?_
  ·
   have hb':Below w1.heap.size w1 w':=dr hb';refine dn r' (fs:=n1) (cs:=n2) (hd 1 rfl).1 (hd 2 rfl).1 hk1.at_.1 ((hk1.at_.2 n (Nat.lt_succ_self n) x w' (Same.below hb' hF1') hb'.size).mono ?_);rintro _ w2 ⟨v,rfl,hb2,hr2⟩;exact ⟨v,rfl,hb2.kept,hr2⟩
  refine cv r rfl (fun fr1 g w' hk' hd r'=>?_) ?_
  · exact av r' (v:=.func (.func ff) f1.toArray f2.toArray) rfl (aX (drK hk') h2 m2) xg rfl ⟨Below.refl _ _,rfl⟩
  exact cc
 intro fr gg w2 hb hΦ _ r;have hr:RepL Tryz.prog aA n (k x) (fun b=>F1 b∨((gg 3).lo≤b∧b<(gg 3).hi)) w2 (gg 3).v:=(hΦ 3 rfl).1
 have hrg:=(hΦ 3 rfl).2;have r:=r.congr (sc ((hΦ 4 rfl).1) rfl);have z2:=hb.size;have hr3:¬ F1 b3:=fun h=>by have:=hF1 _ h; omega
 have h3:=aX hb h3 hr3;have hC:Chg F w0 w2:=(Chg.aR hB).bk hb fun b _ h=>s1 b h
 have zB2:=hC.size;have hS2:Same F2 w0 w2:=fun b h=>(hb.block b (Nat.lt_of_lt_of_le (hF2 b h) zB) fun h'=>hdj b h' h).trans (hB.block b (hF2 b h))
 have hFb:∀ b,(kW F w0 w2 b3) b→b<w2.heap.size:=by rintro b (h | h); exact Nat.lt_of_lt_of_le (hF b h) zB2; exact h.2.1
 refine kC r (ih (F:=fun b=>F b∨(w0.heap.size≤b∧b<w2.heap.size∧b≠b3)) (F1:=fun b=>F1 b∨((gg 3).lo≤b∧b<(gg 3).hi)) (F2:=F2) hFb (by rintro b (h | ⟨h,h'⟩); exact .inl (s1 b h); exact .inr ⟨kw,kw,kw⟩) (fun b h=>.inl (s2 b h))
  (by rintro b (h | ⟨h,h'⟩) h2; exact hdj b h h2; have:=hF2 b h2; omega) hr (hg.mono kw (fun b h=>h) hS2 zB2) (.inr (hg.mono (Nat.le_refl _) (fun b h=>h) hS2 zB2))) rfl wZ rfl ?_
 rintro _ w3 ⟨v2,rfl,hb2,hr2⟩;refine ⟨_,rfl,fun fr r=>?_⟩
 have z3:=hb2.size;have hF3:¬ (kW F w0 w2 b3) b3:=by rintro (h | ⟨_,_,h⟩); (have:=hF _ h; omega); exact h rfl
 have h3:=aX hb2 h3 hF3;have hC:=hC.bk hb2 (by rintro b hlt (h | ⟨h,_⟩); exact h; omega)
 refine kP r hr2.shape rfl rfl h3 bT rfl rfl fun w4 u4 r=>wn ?_;have z4:=u4.size
 have h3:=u4.at_;have hC:=hC.bi u4 (.inl kw)
 refine wp_ret ?_;have hs:=hr2.shape.cells;refine ar r rfl rfl h3 (k:=20) hs.1 bU ?_;rw [←hs.2.2];exact au.fin hC hr2 u4 (by rintro b (h | ⟨h1,h2,_⟩); exact .inl h; exact .inr ⟨h1,h2⟩) hF3 kw kw kw
theorem xX (n:Nat):rr n:=by
  induction n using Nat.strongRecOn with
  | _ n ih=>
  intro F F1 F2 w0 hF s1 s2 hdj t pv fv g hp hf hd;obtain ⟨ff,f1,f2,hcf,rfl,hff⟩:=id hf;have hF1:∀ b,F1 b→b<w0.heap.size:=fun b h=>hF b (s1 b h)
  have hF2:∀ b,F2 b→b<w0.heap.size:=fun b h=>hF b (s2 b h)
  cases t with
  | cut=>unfold RepL at hp; exact hp.elim
  | done x0=>
    have hf:=hd.resolve_left (by intro h; cases h)
    unfold RepL at hp
    subst hp;refine enter (l:=[.agg (af true (aA.cells x0) 0 0 0 0 .nilFunc),.func (.func ff) f1.toArray f2.toArray]) Tryz.func367 rfl 15 rfl rfl fun fr r=>?_;have hB:=Below.refl w0.heap.size w0
    refine wp_seq (wp_region_lit ?_);refine kX 157 (.agg (af true (aA.cells x0) 0 0 0 0 .nilFunc)) r rfl rfl fun b1 w1 q1 r=>?_;refine kX 327 (.func (.func ff) f1.toArray f2.toArray) r rfl rfl fun b2 w2 q2 r=>?_
    refine ai (.cells (af false aK.zero 0 0 0 0 .nilFunc) 209 (0,0)) r (fun R=>ah cl) rfl fun fr b3 w3 q3 r=>wpList_nil ?_;have h1:=keep q3.below (keep q2.below q1.at_)
    have h2:=keep q3.below q2.at_;have h3:=q3.at_;have e1:=q1.eq; have e2:=q2.eq; have e3:=q3.eq; have z1:=q1.size; have z2:=q2.size; have z3:=q3.size;have hB:=((hB.trans q1.below).trans (q2.below.mono kw)).trans (q3.below.mono kw)
    have zB:=hB.size;refine wp_seq (wp_seq (wp_region_lit (ac (zp b1) r (fun R=>ax r (o:=0) rfl eK) rfl fun fr r=>?_)));refine ac (.bool true) r (fun R=>av r (v:=.bool true) rfl h1 to4 rfl) rfl fun fr r=>wpList_nil ?_
    refine wp_cond_split (t:=true) (r.ev rfl) (fun _=>?_) (fun h=>by cases h)
    refine wp_seq (wp_region_lit (ac (.func (.func ff) f1.toArray f2.toArray) r (fun R=>av r (v:=.func (.func ff) f1.toArray f2.toArray) rfl h2 xg rfl) rfl fun fr r=>?_));refine mq b1 1 r (fun R=>jA r rfl kp h1) rfl fun fr sp r=>ac (.agg #[]) r (fun R=>jG r rfl ia) rfl fun fr r=>?_
    refine cA r (hf.at_.2 n (Nat.lt_succ_self n) x0 w3 (Same.below hB hF2) hB.size) (fun R hc=>dN r rfl rfl hf.at_.1 hc) rfl ?_;rintro _ w4 ⟨v,rfl,hb,hr⟩
    refine ⟨_,rfl,fun fr r=>?_⟩
    have z4:=hb.size;have n3:¬ F2 b3:=fun h=>by have:=hF2 _ h; omega
    have h3:=aX hb h3 n3;have hC:Chg F w0 w4:=(Chg.aR hB).bk hb fun b _ h=>s2 b h
    refine kP r hr.shape rfl rfl h3 bT rfl rfl fun w5 u5 r=>wpList_nil ?_;have z5:=u5.size
    have h3:=u5.at_;have hC:=hC.bi u5 (.inl kw)
    refine wp_ret ?_;have hs:=hr.shape.cells;refine ar r rfl rfl h3 (k:=20) hs.1 bU ?_;rw [←hs.2.2];exact au.fin hC hr u5 (fun b hb=>.inl (s2 b hb)) n3 kw kw kw
  | act op at_ a b k=>
    obtain ⟨nf,n1,n2,hcn,rfl,hk⟩:∃ (nf:FuncId) (n1 n2:List Value),ag Tryz.prog nf=true∧pv=.agg (af false aA.zero op at_ a b (.func (.func nf) n1.toArray n2.toArray))∧FnL Tryz.prog aA u64 n F1 w0 (.func (.func nf) n1.toArray n2.toArray) k:=by
      exact RepL.cY hp
    refine enter (l:=[.agg (af false aA.zero op at_ a b (.func (.func nf) n1.toArray n2.toArray)),.func (.func ff) f1.toArray f2.toArray]) Tryz.func367 rfl 15 rfl rfl fun fr r=>?_;have hB:=Below.refl w0.heap.size w0
    refine wp_seq (wp_region_lit ?_);refine kX 157 (.agg (af false aA.zero op at_ a b (.func (.func nf) n1.toArray n2.toArray))) r rfl rfl fun b1 w1 q1 r=>?_;refine kX 327 (.func (.func ff) f1.toArray f2.toArray) r rfl rfl fun b2 w2 q2 r=>?_
    refine ai (.cells (af false aK.zero 0 0 0 0 .nilFunc) 209 (0,0)) r (fun R=>ah cl) rfl fun fr b3 w3 q3 r=>wpList_nil ?_;have h1:=keep q3.below (keep q2.below q1.at_)
    have h2:=keep q3.below q2.at_;have h3:=q3.at_;have e1:=q1.eq; have e2:=q2.eq; have e3:=q3.eq; have z1:=q1.size; have z2:=q2.size; have z3:=q3.size;have hB:=((hB.trans q1.below).trans (q2.below.mono kw)).trans (q3.below.mono kw)
    have zB:=hB.size;refine wp_seq (wp_seq (wp_region_lit (ac (zp b1) r (fun R=>ax r (o:=0) rfl eK) rfl fun fr r=>?_)));refine ac (.bool false) r (fun R=>av r (v:=.bool false) rfl h1 to4 rfl) rfl fun fr r=>wpList_nil ?_
    refine wp_cond_split (t:=false) (r.ev rfl) (fun h=>by cases h) (fun _=>wp_skip ?_);refine wp_seq (wp_region_lit (ac (.pointer (some ⟨b1,1,none⟩)) r (fun R=>ax r (o:=0) rfl kf) rfl fun fr r=>kG (ba (⟨op,at_,a,b⟩:Access)) 4 r rfl h1 ta38 rfl rfl fun r=>ac (.func (.func 392) #[] #[zp b1,zp b2]) r (fun R=>aU r rfl) rfl fun fr r=>?_))
    have hFb:∀ b,(fun b=>F b∨b=b1∨b=b2) b→b<w3.heap.size:=by rintro b (h | h | h); exact Nat.lt_of_lt_of_le (hF b h) hB.size; omega; omega
    have m1:¬ F1 b1:=fun h=>by have:=hF1 _ h; omega
    have m2:¬ F1 b2:=fun h=>by have:=hF1 _ h; omega
    refine kC r (jm (F:=fun b=>F b∨b=b1∨b=b2) (n:=n) hFb ⟨op,at_,a,b⟩ (a1:=fun x=>(k x).bind g) (show FnL Tryz.prog aK u64 n (fun b=>F b∨b=b1∨b=b2) w3 (.func (.func 392) ([]:List Value).toArray [zp b1,zp b2].toArray) (fun x=>(k x).bind g) from
      ⟨392,[],[zp b1,zp b2],EB,rfl,fun m hm x w' hs hz=>yc (ih m hm) (fun b hb=>Nat.lt_of_lt_of_le (hFb b hb) hz) (fun b h=>.inl (s1 b h)) (fun b h=>.inl (s2 b h)) hdj m1 (hs.at_ (.inr (.inl rfl)) h1) m2 (hs.at_ (.inr (.inr rfl)) h2)
        (hk.mono kw (fun b h=>h) ((Same.below hB hF1).trans (hs.sub (fun b h=>.inl (s1 b h)))) (Nat.le_trans hB.size hz)) (hf.mono kw (fun b h=>h) ((Same.below hB hF2).trans (hs.sub (fun b h=>.inl (s2 b h)))) (Nat.le_trans hB.size hz)) x⟩)) rfl ky rfl ?_
    rintro _ w4 ⟨v,rfl,hb,hr⟩;refine ⟨_,rfl,fun fr r=>?_⟩
    have z4:=hb.size;have n3:¬ (fun b=>F b∨b=b1∨b=b2) b3:=by rintro (h | h | h); (have:=hF _ h; omega); omega; omega
    have h3:=aX hb h3 n3;have hC:Chg F w0 w4:=(Chg.aR hB).bk hb (by rintro b hlt (h | h | h); exact h; omega; omega)
    refine kP r hr.shape rfl rfl h3 bT rfl rfl fun w5 u5 r=>wpList_nil ?_;have z5:=u5.size
    have h3:=u5.at_;have hC:=hC.bi u5 (.inl kw)
    refine wp_ret ?_;have hs:=hr.shape.cells;refine ar r rfl rfl h3 (k:=20) hs.1 bU ?_;rw [←hs.2.2];exact au.fin hC hr u5 (by rintro b (h | h | h); exact .inl h; exact .inr ⟨kw,kw⟩; exact .inr ⟨kw,kw⟩) n3 kw kw kw
theorem xF {n:Nat} {F F1 F2:Nat→Prop} {w0:World} (hF:∀ b,F b→b<w0.heap.size) (s1:∀ b,F1 b→F b) (s2:∀ b,F2 b→F b) (hdj:∀ b,F1 b→¬ F2 b) {t:T (Unit)} {pv fv:Value} {g:Unit→T (Walk)} (hp:RepL Tryz.prog aA n t F1 w0 pv) (hf:FnL Tryz.prog aK noneE n F2 w0 fv g) (hd:t.bd=false) :
    Calls Tryz.prog 367 #[pv,fv] w0 (au Tryz.prog aK n (t.bind g) F w0):=xX n hF s1 s2 hdj hp hf (.inl hd)
def rD (n:Nat):Prop:=∀ {F F1 F2:Nat→Prop} {w0:World},(∀ b,F b→b<w0.heap.size)→(∀ b,F1 b→F b)→(∀ b,F2 b→F b)→(∀ b,F1 b→¬ F2 b)→∀ {t:T (Int)} {pv fv:Value} {g:Int→T (Res)},RepL Tryz.prog ak n t F1 w0 pv→FnL Tryz.prog aj i64 n F2 w0 fv g→
    (t.bd=false∨FnL Tryz.prog aj i64 (n+1) F2 w0 fv g)→Calls Tryz.prog 188 #[pv,fv] w0 (au Tryz.prog aj n (t.bind g) F w0)
theorem yJ {n:Nat} (ih:rD n) {F F1 F2:Nat→Prop} {w0:World} (hF:∀ b,F b→b<w0.heap.size) (s1:∀ b,F1 b→F b) (s2:∀ b,F2 b→F b) (hdj:∀ b,F1 b→¬ F2 b) {op at_ a b:Int} {nf:FuncId} {n1 n2:List Value} {k:Int→T (Int)} {ff:FuncId} {f1 f2:List Value} {g:Int→T (Res)}
    {b1 b2:Nat} (m1:¬ F1 b1) (h1:w0.heap[b1]?=some (.cells (af false ak.zero op at_ a b (.func (.func nf) n1.toArray n2.toArray)) 44 (0,0))) (m2:¬ F1 b2) (h2:w0.heap[b2]?=some (.cells #[.func (.func ff) f1.toArray f2.toArray] 252 (0,0)))
    (hk:FnL Tryz.prog ak u64 (n+1) F1 w0 (.func (.func nf) n1.toArray n2.toArray) k) (hg:FnL Tryz.prog aj i64 (n+1) F2 w0 (.func (.func ff) f1.toArray f2.toArray) g) (x:Int) :
    Calls Tryz.prog 280 #[.int .u64 x,zp b1,zp b2] w0 (au Tryz.prog aj n ((k x).bind g) F w0):=by
 refine kN Tryz.func280 rfl 11 rfl rfl fun fr r hB=>?_;have hF1:∀ b,F1 b→b<w0.heap.size:=fun b h=>hF b (s1 b h)
 have hF2:∀ b,F2 b→b<w0.heap.size:=fun b h=>hF b (s2 b h)
 refine wp_seq (wp_region_lit ?_);refine ai (.cells (af false aj.zero 0 0 0 0 .nilFunc) 57 (0,0)) r (fun R=>ah tz57) rfl fun fr b3 w1 q1 r=>wn ?_;have h1:=keep q1.below h1
 have h2:=keep q1.below h2;have e3:=q1.eq;have z1:=q1.size;have h3:=q1.at_;have hB:=hB.trans (q1.below.mono hB.size);have zB:=hB.size;have hk1:=hk.mono (Nat.le_refl _) (fun b h=>h) (Same.below hB hF1) hB.size
 have hF1':∀ b,F1 b→b<w1.heap.size:=fun b h=>Nat.lt_of_lt_of_le (hF1 b h) zB
 refine wp_seq ?_;refine gW 5 F1 [.val (.pointer (some ⟨b1,6,none⟩)),.val (.func (.func nf) n1.toArray n2.toArray),.val (U x),.eff (StepE Tryz.prog ak n (k x) F1) (StepE.st hF1'),.val (.func (.func ff) f1.toArray f2.toArray)] mixed r hF1' kz ?_ ?_
 ·
  refine cv r rfl (fun fr1 g w' hk' hd r'=>?_) ?_
  · exact ax r' (b:=b1) (o:=0) (k:=6) rfl mV ⟨Below.refl _ _,rfl⟩
  refine cv r rfl (fun fr1 g w' hk' hd r'=>?_) ?_
  · exact av r' (v:=.func (.func nf) n1.toArray n2.toArray) (hd 0 rfl).1 (aX (drK hk') h1 m1) to42 rfl ⟨Below.refl _ _,rfl⟩
  refine cv r rfl (fun fr1 g w' hk' hd r'=>?_) ?_
  · exact ay r' (v:=.int .u64 x) rfl ⟨Below.refl _ _,rfl⟩
  refine gQ r rfl kz (fun fr1 g w' hb' hd r'=>?_) ?_
  ·
   have hb':Below w1.heap.size w1 w':=dr hb';refine dn r' (fs:=n1) (cs:=n2) (hd 1 rfl).1 (hd 2 rfl).1 hk1.at_.1 ((hk1.at_.2 n (Nat.lt_succ_self n) x w' (Same.below hb' hF1') hb'.size).mono ?_);rintro _ w2 ⟨v,rfl,hb2,hr2⟩;exact ⟨v,rfl,hb2.kept,hr2⟩
  refine cv r rfl (fun fr1 g w' hk' hd r'=>?_) ?_
  · exact av r' (v:=.func (.func ff) f1.toArray f2.toArray) rfl (aX (drK hk') h2 m2) xA rfl ⟨Below.refl _ _,rfl⟩
  exact cc
 intro fr gg w2 hb hΦ _ r;have hr:RepL Tryz.prog ak n (k x) (fun b=>F1 b∨((gg 3).lo≤b∧b<(gg 3).hi)) w2 (gg 3).v:=(hΦ 3 rfl).1
 have hrg:=(hΦ 3 rfl).2;have r:=r.congr (sc ((hΦ 4 rfl).1) rfl);have z2:=hb.size;have hr3:¬ F1 b3:=fun h=>by have:=hF1 _ h; omega
 have h3:=aX hb h3 hr3;have hC:Chg F w0 w2:=(Chg.aR hB).bk hb fun b _ h=>s1 b h
 have zB2:=hC.size;have hS2:Same F2 w0 w2:=fun b h=>(hb.block b (Nat.lt_of_lt_of_le (hF2 b h) zB) fun h'=>hdj b h' h).trans (hB.block b (hF2 b h))
 have hFb:∀ b,(kW F w0 w2 b3) b→b<w2.heap.size:=by rintro b (h | h); exact Nat.lt_of_lt_of_le (hF b h) zB2; exact h.2.1
 refine kC r (ih (F:=fun b=>F b∨(w0.heap.size≤b∧b<w2.heap.size∧b≠b3)) (F1:=fun b=>F1 b∨((gg 3).lo≤b∧b<(gg 3).hi)) (F2:=F2) hFb (by rintro b (h | ⟨h,h'⟩); exact .inl (s1 b h); exact .inr ⟨kw,kw,kw⟩) (fun b h=>.inl (s2 b h))
  (by rintro b (h | ⟨h,h'⟩) h2; exact hdj b h h2; have:=hF2 b h2; omega) hr (hg.mono kw (fun b h=>h) hS2 zB2) (.inr (hg.mono (Nat.le_refl _) (fun b h=>h) hS2 zB2))) rfl qZ rfl ?_
 rintro _ w3 ⟨v2,rfl,hb2,hr2⟩;refine ⟨_,rfl,fun fr r=>?_⟩
 have z3:=hb2.size;have hF3:¬ (kW F w0 w2 b3) b3:=by rintro (h | ⟨_,_,h⟩); (have:=hF _ h; omega); exact h rfl
 have h3:=aX hb2 h3 hF3;have hC:=hC.bk hb2 (by rintro b hlt (h | ⟨h,_⟩); exact h; omega)
 refine kP r hr2.shape rfl rfl h3 ts57 rfl rfl fun w4 u4 r=>wn ?_;have z4:=u4.size
 have h3:=u4.at_;have hC:=hC.bi u4 (.inl kw)
 refine wp_ret ?_;have hs:=hr2.shape.cells;refine ar r rfl rfl h3 (k:=8) hs.1 ta57 ?_;rw [←hs.2.2];exact au.fin hC hr2 u4 (by rintro b (h | ⟨h1,h2,_⟩); exact .inl h; exact .inr ⟨h1,h2⟩) hF3 kw kw kw
theorem yE (n:Nat):rD n:=by
  induction n using Nat.strongRecOn with
  | _ n ih=>
  intro F F1 F2 w0 hF s1 s2 hdj t pv fv g hp hf hd;obtain ⟨ff,f1,f2,hcf,rfl,hff⟩:=id hf;have hF1:∀ b,F1 b→b<w0.heap.size:=fun b h=>hF b (s1 b h)
  have hF2:∀ b,F2 b→b<w0.heap.size:=fun b h=>hF b (s2 b h)
  cases t with
  | cut=>unfold RepL at hp; exact hp.elim
  | done x0=>
    have hf:=hd.resolve_left (by intro h; cases h)
    unfold RepL at hp
    subst hp;refine enter (l:=[.agg (af true (ak.cells x0) 0 0 0 0 .nilFunc),.func (.func ff) f1.toArray f2.toArray]) Tryz.func188 rfl 15 rfl rfl fun fr r=>?_;have hB:=Below.refl w0.heap.size w0
    refine wp_seq (wp_region_lit ?_);refine kX 44 (.agg (af true (ak.cells x0) 0 0 0 0 .nilFunc)) r rfl rfl fun b1 w1 q1 r=>?_;refine kX 252 (.func (.func ff) f1.toArray f2.toArray) r rfl rfl fun b2 w2 q2 r=>?_
    refine ai (.cells (af false aj.zero 0 0 0 0 .nilFunc) 57 (0,0)) r (fun R=>ah tz57) rfl fun fr b3 w3 q3 r=>wpList_nil ?_;have h1:=keep q3.below (keep q2.below q1.at_)
    have h2:=keep q3.below q2.at_;have h3:=q3.at_;have e1:=q1.eq; have e2:=q2.eq; have e3:=q3.eq; have z1:=q1.size; have z2:=q2.size; have z3:=q3.size;have hB:=((hB.trans q1.below).trans (q2.below.mono kw)).trans (q3.below.mono kw)
    have zB:=hB.size;refine wp_seq (wp_seq (wp_region_lit (ac (zp b1) r (fun R=>ax r (o:=0) rfl gq) rfl fun fr r=>?_)));refine ac (.bool true) r (fun R=>av r (v:=.bool true) rfl h1 to4 rfl) rfl fun fr r=>wpList_nil ?_
    refine wp_cond_split (t:=true) (r.ev rfl) (fun _=>?_) (fun h=>by cases h)
    refine wp_seq (wp_region_lit (ac (.func (.func ff) f1.toArray f2.toArray) r (fun R=>av r (v:=.func (.func ff) f1.toArray f2.toArray) rfl h2 xA rfl) rfl fun fr r=>ac (.pointer (some ⟨b1,1,none⟩)) r (fun R=>ax r (o:=0) rfl mW) rfl fun fr r=>ac (.int .i64 x0) r (fun R=>av r (v:=(.int .i64 x0)) rfl h1 to3 rfl) rfl fun fr r=>?_));refine cA r (hf.at_.2 n (Nat.lt_succ_self n) x0 w3 (Same.below hB hF2) hB.size) (fun R hc=>dN r rfl rfl hf.at_.1 hc) rfl ?_
    rintro _ w4 ⟨v,rfl,hb,hr⟩;refine ⟨_,rfl,fun fr r=>?_⟩
    have z4:=hb.size;have n3:¬ F2 b3:=fun h=>by have:=hF2 _ h; omega
    have h3:=aX hb h3 n3;have hC:Chg F w0 w4:=(Chg.aR hB).bk hb fun b _ h=>s2 b h
    refine kP r hr.shape rfl rfl h3 ts57 rfl rfl fun w5 u5 r=>wpList_nil ?_;have z5:=u5.size
    have h3:=u5.at_;have hC:=hC.bi u5 (.inl kw)
    refine wp_ret ?_;have hs:=hr.shape.cells;refine ar r rfl rfl h3 (k:=8) hs.1 ta57 ?_;rw [←hs.2.2];exact au.fin hC hr u5 (fun b hb=>.inl (s2 b hb)) n3 kw kw kw
  | act op at_ a b k=>
    obtain ⟨nf,n1,n2,hcn,rfl,hk⟩:∃ (nf:FuncId) (n1 n2:List Value),ag Tryz.prog nf=true∧pv=.agg (af false ak.zero op at_ a b (.func (.func nf) n1.toArray n2.toArray))∧FnL Tryz.prog ak u64 n F1 w0 (.func (.func nf) n1.toArray n2.toArray) k:=by
      exact RepL.cY hp
    refine enter (l:=[.agg (af false ak.zero op at_ a b (.func (.func nf) n1.toArray n2.toArray)),.func (.func ff) f1.toArray f2.toArray]) Tryz.func188 rfl 15 rfl rfl fun fr r=>?_;have hB:=Below.refl w0.heap.size w0
    refine wp_seq (wp_region_lit ?_);refine kX 44 (.agg (af false ak.zero op at_ a b (.func (.func nf) n1.toArray n2.toArray))) r rfl rfl fun b1 w1 q1 r=>?_;refine kX 252 (.func (.func ff) f1.toArray f2.toArray) r rfl rfl fun b2 w2 q2 r=>?_
    refine ai (.cells (af false aj.zero 0 0 0 0 .nilFunc) 57 (0,0)) r (fun R=>ah tz57) rfl fun fr b3 w3 q3 r=>wpList_nil ?_;have h1:=keep q3.below (keep q2.below q1.at_)
    have h2:=keep q3.below q2.at_;have h3:=q3.at_;have e1:=q1.eq; have e2:=q2.eq; have e3:=q3.eq; have z1:=q1.size; have z2:=q2.size; have z3:=q3.size;have hB:=((hB.trans q1.below).trans (q2.below.mono kw)).trans (q3.below.mono kw)
    have zB:=hB.size;refine wp_seq (wp_seq (wp_region_lit (ac (zp b1) r (fun R=>ax r (o:=0) rfl gq) rfl fun fr r=>?_)));refine ac (.bool false) r (fun R=>av r (v:=.bool false) rfl h1 to4 rfl) rfl fun fr r=>wpList_nil ?_
    refine wp_cond_split (t:=false) (r.ev rfl) (fun h=>by cases h) (fun _=>wp_skip ?_);refine wp_seq (wp_region_lit (ac (.pointer (some ⟨b1,2,none⟩)) r (fun R=>ax r (o:=0) rfl mT) rfl fun fr r=>kG (ba (⟨op,at_,a,b⟩:Access)) 4 r rfl h1 ta38 rfl rfl fun r=>ac (.func (.func 280) #[] #[zp b1,zp b2]) r (fun R=>aU r rfl) rfl fun fr r=>?_))
    have hFb:∀ b,(fun b=>F b∨b=b1∨b=b2) b→b<w3.heap.size:=by rintro b (h | h | h); exact Nat.lt_of_lt_of_le (hF b h) hB.size; omega; omega
    have m1:¬ F1 b1:=fun h=>by have:=hF1 _ h; omega
    have m2:¬ F1 b2:=fun h=>by have:=hF1 _ h; omega
    refine kC r (gK (F:=fun b=>F b∨b=b1∨b=b2) (n:=n) hFb ⟨op,at_,a,b⟩ (a1:=fun x=>(k x).bind g) (show FnL Tryz.prog aj u64 n (fun b=>F b∨b=b1∨b=b2) w3 (.func (.func 280) ([]:List Value).toArray [zp b1,zp b2].toArray) (fun x=>(k x).bind g) from
      ⟨280,[],[zp b1,zp b2],DN,rfl,fun m hm x w' hs hz=>yJ (ih m hm) (fun b hb=>Nat.lt_of_lt_of_le (hFb b hb) hz) (fun b h=>.inl (s1 b h)) (fun b h=>.inl (s2 b h)) hdj m1 (hs.at_ (.inr (.inl rfl)) h1) m2 (hs.at_ (.inr (.inr rfl)) h2)
        (hk.mono kw (fun b h=>h) ((Same.below hB hF1).trans (hs.sub (fun b h=>.inl (s1 b h)))) (Nat.le_trans hB.size hz)) (hf.mono kw (fun b h=>h) ((Same.below hB hF2).trans (hs.sub (fun b h=>.inl (s2 b h)))) (Nat.le_trans hB.size hz)) x⟩)) rfl hU rfl ?_
    rintro _ w4 ⟨v,rfl,hb,hr⟩;refine ⟨_,rfl,fun fr r=>?_⟩
    have z4:=hb.size;have n3:¬ (fun b=>F b∨b=b1∨b=b2) b3:=by rintro (h | h | h); (have:=hF _ h; omega); omega; omega
    have h3:=aX hb h3 n3;have hC:Chg F w0 w4:=(Chg.aR hB).bk hb (by rintro b hlt (h | h | h); exact h; omega; omega)
    refine kP r hr.shape rfl rfl h3 ts57 rfl rfl fun w5 u5 r=>wpList_nil ?_;have z5:=u5.size
    have h3:=u5.at_;have hC:=hC.bi u5 (.inl kw)
    refine wp_ret ?_;have hs:=hr.shape.cells;refine ar r rfl rfl h3 (k:=8) hs.1 ta57 ?_;rw [←hs.2.2];exact au.fin hC hr u5 (by rintro b (h | h | h); exact .inl h; exact .inr ⟨kw,kw⟩; exact .inr ⟨kw,kw⟩) n3 kw kw kw
theorem rE {n:Nat} {F F1 F2:Nat→Prop} {w0:World} (hF:∀ b,F b→b<w0.heap.size) (s1:∀ b,F1 b→F b) (s2:∀ b,F2 b→F b) (hdj:∀ b,F1 b→¬ F2 b) {t:T (Int)} {pv fv:Value} {g:Int→T (Res)} (hp:RepL Tryz.prog ak n t F1 w0 pv) (hf:FnL Tryz.prog aj i64 (n+1) F2 w0 fv g) :
    Calls Tryz.prog 188 #[pv,fv] w0 (au Tryz.prog aj n (t.bind g) F w0):=yE n hF s1 s2 hdj hp (hf.mono kw (fun b h=>h) (Same.refl _ _) (Nat.le_refl _)) (.inr hf)
def rC (n:Nat):Prop:=∀ {F F1 F2:Nat→Prop} {w0:World},(∀ b,F b→b<w0.heap.size)→(∀ b,F1 b→F b)→(∀ b,F2 b→F b)→(∀ b,F1 b→¬ F2 b)→∀ {t:T (Int)} {pv fv:Value} {g:Int→T (Walk)},RepL Tryz.prog ak n t F1 w0 pv→FnL Tryz.prog aK i64 n F2 w0 fv g→
    (t.bd=false∨FnL Tryz.prog aK i64 (n+1) F2 w0 fv g)→Calls Tryz.prog 395 #[pv,fv] w0 (au Tryz.prog aK n (t.bind g) F w0)
theorem yl {n:Nat} (ih:rC n) {F F1 F2:Nat→Prop} {w0:World} (hF:∀ b,F b→b<w0.heap.size) (s1:∀ b,F1 b→F b) (s2:∀ b,F2 b→F b) (hdj:∀ b,F1 b→¬ F2 b) {op at_ a b:Int} {nf:FuncId} {n1 n2:List Value} {k:Int→T (Int)} {ff:FuncId} {f1 f2:List Value} {g:Int→T (Walk)}
    {b1 b2:Nat} (m1:¬ F1 b1) (h1:w0.heap[b1]?=some (.cells (af false ak.zero op at_ a b (.func (.func nf) n1.toArray n2.toArray)) 44 (0,0))) (m2:¬ F1 b2) (h2:w0.heap[b2]?=some (.cells #[.func (.func ff) f1.toArray f2.toArray] 310 (0,0)))
    (hk:FnL Tryz.prog ak u64 (n+1) F1 w0 (.func (.func nf) n1.toArray n2.toArray) k) (hg:FnL Tryz.prog aK i64 (n+1) F2 w0 (.func (.func ff) f1.toArray f2.toArray) g) (x:Int) :
    Calls Tryz.prog 408 #[.int .u64 x,zp b1,zp b2] w0 (au Tryz.prog aK n ((k x).bind g) F w0):=by
 refine kN Tryz.func408 rfl 11 rfl rfl fun fr r hB=>?_;have hF1:∀ b,F1 b→b<w0.heap.size:=fun b h=>hF b (s1 b h)
 have hF2:∀ b,F2 b→b<w0.heap.size:=fun b h=>hF b (s2 b h)
 refine wp_seq (wp_region_lit ?_);refine ai (.cells (af false aK.zero 0 0 0 0 .nilFunc) 209 (0,0)) r (fun R=>ah cl) rfl fun fr b3 w1 q1 r=>wn ?_;have h1:=keep q1.below h1
 have h2:=keep q1.below h2;have e3:=q1.eq;have z1:=q1.size;have h3:=q1.at_;have hB:=hB.trans (q1.below.mono hB.size);have zB:=hB.size;have hk1:=hk.mono (Nat.le_refl _) (fun b h=>h) (Same.below hB hF1) hB.size
 have hF1':∀ b,F1 b→b<w1.heap.size:=fun b h=>Nat.lt_of_lt_of_le (hF1 b h) zB
 refine wp_seq ?_;refine gW 5 F1 [.val (.pointer (some ⟨b1,6,none⟩)),.val (.func (.func nf) n1.toArray n2.toArray),.val (U x),.eff (StepE Tryz.prog ak n (k x) F1) (StepE.st hF1'),.val (.func (.func ff) f1.toArray f2.toArray)] mixed r hF1' kz ?_ ?_
 ·
  refine cv r rfl (fun fr1 g w' hk' hd r'=>?_) ?_
  · exact ax r' (b:=b1) (o:=0) (k:=6) rfl mV ⟨Below.refl _ _,rfl⟩
  refine cv r rfl (fun fr1 g w' hk' hd r'=>?_) ?_
  · exact av r' (v:=.func (.func nf) n1.toArray n2.toArray) (hd 0 rfl).1 (aX (drK hk') h1 m1) to42 rfl ⟨Below.refl _ _,rfl⟩
  refine cv r rfl (fun fr1 g w' hk' hd r'=>?_) ?_
  · exact ay r' (v:=.int .u64 x) rfl ⟨Below.refl _ _,rfl⟩
  refine gQ r rfl kz (fun fr1 g w' hb' hd r'=>?_) ?_
  ·
   have hb':Below w1.heap.size w1 w':=dr hb';refine dn r' (fs:=n1) (cs:=n2) (hd 1 rfl).1 (hd 2 rfl).1 hk1.at_.1 ((hk1.at_.2 n (Nat.lt_succ_self n) x w' (Same.below hb' hF1') hb'.size).mono ?_);rintro _ w2 ⟨v,rfl,hb2,hr2⟩;exact ⟨v,rfl,hb2.kept,hr2⟩
  refine cv r rfl (fun fr1 g w' hk' hd r'=>?_) ?_
  · exact av r' (v:=.func (.func ff) f1.toArray f2.toArray) rfl (aX (drK hk') h2 m2) xz rfl ⟨Below.refl _ _,rfl⟩
  exact cc
 intro fr gg w2 hb hΦ _ r;have hr:RepL Tryz.prog ak n (k x) (fun b=>F1 b∨((gg 3).lo≤b∧b<(gg 3).hi)) w2 (gg 3).v:=(hΦ 3 rfl).1
 have hrg:=(hΦ 3 rfl).2;have r:=r.congr (sc ((hΦ 4 rfl).1) rfl);have z2:=hb.size;have hr3:¬ F1 b3:=fun h=>by have:=hF1 _ h; omega
 have h3:=aX hb h3 hr3;have hC:Chg F w0 w2:=(Chg.aR hB).bk hb fun b _ h=>s1 b h
 have zB2:=hC.size;have hS2:Same F2 w0 w2:=fun b h=>(hb.block b (Nat.lt_of_lt_of_le (hF2 b h) zB) fun h'=>hdj b h' h).trans (hB.block b (hF2 b h))
 have hFb:∀ b,(kW F w0 w2 b3) b→b<w2.heap.size:=by rintro b (h | h); exact Nat.lt_of_lt_of_le (hF b h) zB2; exact h.2.1
 refine kC r (ih (F:=fun b=>F b∨(w0.heap.size≤b∧b<w2.heap.size∧b≠b3)) (F1:=fun b=>F1 b∨((gg 3).lo≤b∧b<(gg 3).hi)) (F2:=F2) hFb (by rintro b (h | ⟨h,h'⟩); exact .inl (s1 b h); exact .inr ⟨kw,kw,kw⟩) (fun b h=>.inl (s2 b h))
  (by rintro b (h | ⟨h,h'⟩) h2; exact hdj b h h2; have:=hF2 b h2; omega) hr (hg.mono kw (fun b h=>h) hS2 zB2) (.inr (hg.mono (Nat.le_refl _) (fun b h=>h) hS2 zB2))) rfl wF rfl ?_
 rintro _ w3 ⟨v2,rfl,hb2,hr2⟩;refine ⟨_,rfl,fun fr r=>?_⟩
 have z3:=hb2.size;have hF3:¬ (kW F w0 w2 b3) b3:=by rintro (h | ⟨_,_,h⟩); (have:=hF _ h; omega); exact h rfl
 have h3:=aX hb2 h3 hF3;have hC:=hC.bk hb2 (by rintro b hlt (h | ⟨h,_⟩); exact h; omega)
 refine kP r hr2.shape rfl rfl h3 bT rfl rfl fun w4 u4 r=>wn ?_;have z4:=u4.size
 have h3:=u4.at_;have hC:=hC.bi u4 (.inl kw)
 refine wp_ret ?_;have hs:=hr2.shape.cells;refine ar r rfl rfl h3 (k:=20) hs.1 bU ?_;rw [←hs.2.2];exact au.fin hC hr2 u4 (by rintro b (h | ⟨h1,h2,_⟩); exact .inl h; exact .inr ⟨h1,h2⟩) hF3 kw kw kw
theorem yh (n:Nat):rC n:=by
  induction n using Nat.strongRecOn with
  | _ n ih=>
  intro F F1 F2 w0 hF s1 s2 hdj t pv fv g hp hf hd;obtain ⟨ff,f1,f2,hcf,rfl,hff⟩:=id hf;have hF1:∀ b,F1 b→b<w0.heap.size:=fun b h=>hF b (s1 b h)
  have hF2:∀ b,F2 b→b<w0.heap.size:=fun b h=>hF b (s2 b h)
  cases t with
  | cut=>unfold RepL at hp; exact hp.elim
  | done x0=>
    have hf:=hd.resolve_left (by intro h; cases h)
    unfold RepL at hp
    subst hp;refine enter (l:=[.agg (af true (ak.cells x0) 0 0 0 0 .nilFunc),.func (.func ff) f1.toArray f2.toArray]) Tryz.func395 rfl 15 rfl rfl fun fr r=>?_;have hB:=Below.refl w0.heap.size w0
    refine wp_seq (wp_region_lit ?_);refine kX 44 (.agg (af true (ak.cells x0) 0 0 0 0 .nilFunc)) r rfl rfl fun b1 w1 q1 r=>?_;refine kX 310 (.func (.func ff) f1.toArray f2.toArray) r rfl rfl fun b2 w2 q2 r=>?_
    refine ai (.cells (af false aK.zero 0 0 0 0 .nilFunc) 209 (0,0)) r (fun R=>ah cl) rfl fun fr b3 w3 q3 r=>wpList_nil ?_;have h1:=keep q3.below (keep q2.below q1.at_)
    have h2:=keep q3.below q2.at_;have h3:=q3.at_;have e1:=q1.eq; have e2:=q2.eq; have e3:=q3.eq; have z1:=q1.size; have z2:=q2.size; have z3:=q3.size;have hB:=((hB.trans q1.below).trans (q2.below.mono kw)).trans (q3.below.mono kw)
    have zB:=hB.size;refine wp_seq (wp_seq (wp_region_lit (ac (zp b1) r (fun R=>ax r (o:=0) rfl gq) rfl fun fr r=>?_)));refine ac (.bool true) r (fun R=>av r (v:=.bool true) rfl h1 to4 rfl) rfl fun fr r=>wpList_nil ?_
    refine wp_cond_split (t:=true) (r.ev rfl) (fun _=>?_) (fun h=>by cases h)
    refine wp_seq (wp_region_lit (ac (.func (.func ff) f1.toArray f2.toArray) r (fun R=>av r (v:=.func (.func ff) f1.toArray f2.toArray) rfl h2 xz rfl) rfl fun fr r=>ac (.pointer (some ⟨b1,1,none⟩)) r (fun R=>ax r (o:=0) rfl mW) rfl fun fr r=>ac (.int .i64 x0) r (fun R=>av r (v:=(.int .i64 x0)) rfl h1 to3 rfl) rfl fun fr r=>?_));refine cA r (hf.at_.2 n (Nat.lt_succ_self n) x0 w3 (Same.below hB hF2) hB.size) (fun R hc=>dN r rfl rfl hf.at_.1 hc) rfl ?_
    rintro _ w4 ⟨v,rfl,hb,hr⟩;refine ⟨_,rfl,fun fr r=>?_⟩
    have z4:=hb.size;have n3:¬ F2 b3:=fun h=>by have:=hF2 _ h; omega
    have h3:=aX hb h3 n3;have hC:Chg F w0 w4:=(Chg.aR hB).bk hb fun b _ h=>s2 b h
    refine kP r hr.shape rfl rfl h3 bT rfl rfl fun w5 u5 r=>wpList_nil ?_;have z5:=u5.size
    have h3:=u5.at_;have hC:=hC.bi u5 (.inl kw)
    refine wp_ret ?_;have hs:=hr.shape.cells;refine ar r rfl rfl h3 (k:=20) hs.1 bU ?_;rw [←hs.2.2];exact au.fin hC hr u5 (fun b hb=>.inl (s2 b hb)) n3 kw kw kw
  | act op at_ a b k=>
    obtain ⟨nf,n1,n2,hcn,rfl,hk⟩:∃ (nf:FuncId) (n1 n2:List Value),ag Tryz.prog nf=true∧pv=.agg (af false ak.zero op at_ a b (.func (.func nf) n1.toArray n2.toArray))∧FnL Tryz.prog ak u64 n F1 w0 (.func (.func nf) n1.toArray n2.toArray) k:=by
      exact RepL.cY hp
    refine enter (l:=[.agg (af false ak.zero op at_ a b (.func (.func nf) n1.toArray n2.toArray)),.func (.func ff) f1.toArray f2.toArray]) Tryz.func395 rfl 15 rfl rfl fun fr r=>?_;have hB:=Below.refl w0.heap.size w0
    refine wp_seq (wp_region_lit ?_);refine kX 44 (.agg (af false ak.zero op at_ a b (.func (.func nf) n1.toArray n2.toArray))) r rfl rfl fun b1 w1 q1 r=>?_;refine kX 310 (.func (.func ff) f1.toArray f2.toArray) r rfl rfl fun b2 w2 q2 r=>?_
    refine ai (.cells (af false aK.zero 0 0 0 0 .nilFunc) 209 (0,0)) r (fun R=>ah cl) rfl fun fr b3 w3 q3 r=>wpList_nil ?_;have h1:=keep q3.below (keep q2.below q1.at_)
    have h2:=keep q3.below q2.at_;have h3:=q3.at_;have e1:=q1.eq; have e2:=q2.eq; have e3:=q3.eq; have z1:=q1.size; have z2:=q2.size; have z3:=q3.size;have hB:=((hB.trans q1.below).trans (q2.below.mono kw)).trans (q3.below.mono kw)
    have zB:=hB.size;refine wp_seq (wp_seq (wp_region_lit (ac (zp b1) r (fun R=>ax r (o:=0) rfl gq) rfl fun fr r=>?_)));refine ac (.bool false) r (fun R=>av r (v:=.bool false) rfl h1 to4 rfl) rfl fun fr r=>wpList_nil ?_
    refine wp_cond_split (t:=false) (r.ev rfl) (fun h=>by cases h) (fun _=>wp_skip ?_);refine wp_seq (wp_region_lit (ac (.pointer (some ⟨b1,2,none⟩)) r (fun R=>ax r (o:=0) rfl mT) rfl fun fr r=>kG (ba (⟨op,at_,a,b⟩:Access)) 4 r rfl h1 ta38 rfl rfl fun r=>ac (.func (.func 408) #[] #[zp b1,zp b2]) r (fun R=>aU r rfl) rfl fun fr r=>?_))
    have hFb:∀ b,(fun b=>F b∨b=b1∨b=b2) b→b<w3.heap.size:=by rintro b (h | h | h); exact Nat.lt_of_lt_of_le (hF b h) hB.size; omega; omega
    have m1:¬ F1 b1:=fun h=>by have:=hF1 _ h; omega
    have m2:¬ F1 b2:=fun h=>by have:=hF1 _ h; omega
    refine kC r (jm (F:=fun b=>F b∨b=b1∨b=b2) (n:=n) hFb ⟨op,at_,a,b⟩ (a1:=fun x=>(k x).bind g) (show FnL Tryz.prog aK u64 n (fun b=>F b∨b=b1∨b=b2) w3 (.func (.func 408) ([]:List Value).toArray [zp b1,zp b2].toArray) (fun x=>(k x).bind g) from
      ⟨408,[],[zp b1,zp b2],Dz,rfl,fun m hm x w' hs hz=>yl (ih m hm) (fun b hb=>Nat.lt_of_lt_of_le (hFb b hb) hz) (fun b h=>.inl (s1 b h)) (fun b h=>.inl (s2 b h)) hdj m1 (hs.at_ (.inr (.inl rfl)) h1) m2 (hs.at_ (.inr (.inr rfl)) h2)
        (hk.mono kw (fun b h=>h) ((Same.below hB hF1).trans (hs.sub (fun b h=>.inl (s1 b h)))) (Nat.le_trans hB.size hz)) (hf.mono kw (fun b h=>h) ((Same.below hB hF2).trans (hs.sub (fun b h=>.inl (s2 b h)))) (Nat.le_trans hB.size hz)) x⟩)) rfl ky rfl ?_
    rintro _ w4 ⟨v,rfl,hb,hr⟩;refine ⟨_,rfl,fun fr r=>?_⟩
    have z4:=hb.size;have n3:¬ (fun b=>F b∨b=b1∨b=b2) b3:=by rintro (h | h | h); (have:=hF _ h; omega); omega; omega
    have h3:=aX hb h3 n3;have hC:Chg F w0 w4:=(Chg.aR hB).bk hb (by rintro b hlt (h | h | h); exact h; omega; omega)
    refine kP r hr.shape rfl rfl h3 bT rfl rfl fun w5 u5 r=>wpList_nil ?_;have z5:=u5.size
    have h3:=u5.at_;have hC:=hC.bi u5 (.inl kw)
    refine wp_ret ?_;have hs:=hr.shape.cells;refine ar r rfl rfl h3 (k:=20) hs.1 bU ?_;rw [←hs.2.2];exact au.fin hC hr u5 (by rintro b (h | h | h); exact .inl h; exact .inr ⟨kw,kw⟩; exact .inr ⟨kw,kw⟩) n3 kw kw kw
theorem xK {n:Nat} {F F1 F2:Nat→Prop} {w0:World} (hF:∀ b,F b→b<w0.heap.size) (s1:∀ b,F1 b→F b) (s2:∀ b,F2 b→F b) (hdj:∀ b,F1 b→¬ F2 b) {t:T (Int)} {pv fv:Value} {g:Int→T (Walk)} (hp:RepL Tryz.prog ak n t F1 w0 pv) (hf:FnL Tryz.prog aK i64 (n+1) F2 w0 fv g) :
    Calls Tryz.prog 395 #[pv,fv] w0 (au Tryz.prog aK n (t.bind g) F w0):=yh n hF s1 s2 hdj hp (hf.mono kw (fun b h=>h) (Same.refl _ _) (Nat.le_refl _)) (.inr hf)
def rp (n:Nat):Prop:=∀ {F F1 F2:Nat→Prop} {w0:World},(∀ b,F b→b<w0.heap.size)→(∀ b,F1 b→F b)→(∀ b,F2 b→F b)→(∀ b,F1 b→¬ F2 b)→∀ {t:T (Int)} {pv fv:Value} {g:Int→T (Walk)},RepL Tryz.prog bC n t F1 w0 pv→FnL Tryz.prog aK u64 n F2 w0 fv g→
    (t.bd=false∨FnL Tryz.prog aK u64 (n+1) F2 w0 fv g)→Calls Tryz.prog 223 #[pv,fv] w0 (au Tryz.prog aK n (t.bind g) F w0)
theorem xI {n:Nat} (ih:rp n) {F F1 F2:Nat→Prop} {w0:World} (hF:∀ b,F b→b<w0.heap.size) (s1:∀ b,F1 b→F b) (s2:∀ b,F2 b→F b) (hdj:∀ b,F1 b→¬ F2 b) {op at_ a b:Int} {nf:FuncId} {n1 n2:List Value} {k:Int→T (Int)} {ff:FuncId} {f1 f2:List Value} {g:Int→T (Walk)}
    {b1 b2:Nat} (m1:¬ F1 b1) (h1:w0.heap[b1]?=some (.cells (af false bC.zero op at_ a b (.func (.func nf) n1.toArray n2.toArray)) 268 (0,0))) (m2:¬ F1 b2) (h2:w0.heap[b2]?=some (.cells #[.func (.func ff) f1.toArray f2.toArray] 207 (0,0)))
    (hk:FnL Tryz.prog bC u64 (n+1) F1 w0 (.func (.func nf) n1.toArray n2.toArray) k) (hg:FnL Tryz.prog aK u64 (n+1) F2 w0 (.func (.func ff) f1.toArray f2.toArray) g) (x:Int) :
    Calls Tryz.prog 315 #[.int .u64 x,zp b1,zp b2] w0 (au Tryz.prog aK n ((k x).bind g) F w0):=by
 refine kN Tryz.func315 rfl 11 rfl rfl fun fr r hB=>?_;have hF1:∀ b,F1 b→b<w0.heap.size:=fun b h=>hF b (s1 b h)
 have hF2:∀ b,F2 b→b<w0.heap.size:=fun b h=>hF b (s2 b h)
 refine wp_seq (wp_region_lit ?_);refine ai (.cells (af false aK.zero 0 0 0 0 .nilFunc) 209 (0,0)) r (fun R=>ah cl) rfl fun fr b3 w1 q1 r=>wn ?_;have h1:=keep q1.below h1
 have h2:=keep q1.below h2;have e3:=q1.eq;have z1:=q1.size;have h3:=q1.at_;have hB:=hB.trans (q1.below.mono hB.size);have zB:=hB.size;have hk1:=hk.mono (Nat.le_refl _) (fun b h=>h) (Same.below hB hF1) hB.size
 have hF1':∀ b,F1 b→b<w1.heap.size:=fun b h=>Nat.lt_of_lt_of_le (hF1 b h) zB
 refine wp_seq ?_;refine gW 5 F1 [.val (.pointer (some ⟨b1,6,none⟩)),.val (.func (.func nf) n1.toArray n2.toArray),.val (U x),.eff (StepE Tryz.prog bC n (k x) F1) (StepE.st hF1'),.val (.func (.func ff) f1.toArray f2.toArray)] mixed r hF1' kz ?_ ?_
 ·
  refine cv r rfl (fun fr1 g w' hk' hd r'=>?_) ?_
  · exact ax r' (b:=b1) (o:=0) (k:=6) rfl CA ⟨Below.refl _ _,rfl⟩
  refine cv r rfl (fun fr1 g w' hk' hd r'=>?_) ?_
  · exact av r' (v:=.func (.func nf) n1.toArray n2.toArray) (hd 0 rfl).1 (aX (drK hk') h1 m1) Fl rfl ⟨Below.refl _ _,rfl⟩
  refine cv r rfl (fun fr1 g w' hk' hd r'=>?_) ?_
  · exact ay r' (v:=.int .u64 x) rfl ⟨Below.refl _ _,rfl⟩
  refine gQ r rfl kz (fun fr1 g w' hb' hd r'=>?_) ?_
  ·
   have hb':Below w1.heap.size w1 w':=dr hb';refine dn r' (fs:=n1) (cs:=n2) (hd 1 rfl).1 (hd 2 rfl).1 hk1.at_.1 ((hk1.at_.2 n (Nat.lt_succ_self n) x w' (Same.below hb' hF1') hb'.size).mono ?_);rintro _ w2 ⟨v,rfl,hb2,hr2⟩;exact ⟨v,rfl,hb2.kept,hr2⟩
  refine cv r rfl (fun fr1 g w' hk' hd r'=>?_) ?_
  · exact av r' (v:=.func (.func ff) f1.toArray f2.toArray) rfl (aX (drK hk') h2 m2) qR rfl ⟨Below.refl _ _,rfl⟩
  exact cc
 intro fr gg w2 hb hΦ _ r;have hr:RepL Tryz.prog bC n (k x) (fun b=>F1 b∨((gg 3).lo≤b∧b<(gg 3).hi)) w2 (gg 3).v:=(hΦ 3 rfl).1
 have hrg:=(hΦ 3 rfl).2;have r:=r.congr (sc ((hΦ 4 rfl).1) rfl);have z2:=hb.size;have hr3:¬ F1 b3:=fun h=>by have:=hF1 _ h; omega
 have h3:=aX hb h3 hr3;have hC:Chg F w0 w2:=(Chg.aR hB).bk hb fun b _ h=>s1 b h
 have zB2:=hC.size;have hS2:Same F2 w0 w2:=fun b h=>(hb.block b (Nat.lt_of_lt_of_le (hF2 b h) zB) fun h'=>hdj b h' h).trans (hB.block b (hF2 b h))
 have hFb:∀ b,(kW F w0 w2 b3) b→b<w2.heap.size:=by rintro b (h | h); exact Nat.lt_of_lt_of_le (hF b h) zB2; exact h.2.1
 refine kC r (ih (F:=fun b=>F b∨(w0.heap.size≤b∧b<w2.heap.size∧b≠b3)) (F1:=fun b=>F1 b∨((gg 3).lo≤b∧b<(gg 3).hi)) (F2:=F2) hFb (by rintro b (h | ⟨h,h'⟩); exact .inl (s1 b h); exact .inr ⟨kw,kw,kw⟩) (fun b h=>.inl (s2 b h))
  (by rintro b (h | ⟨h,h'⟩) h2; exact hdj b h h2; have:=hF2 b h2; omega) hr (hg.mono kw (fun b h=>h) hS2 zB2) (.inr (hg.mono (Nat.le_refl _) (fun b h=>h) hS2 zB2))) rfl wY rfl ?_
 rintro _ w3 ⟨v2,rfl,hb2,hr2⟩;refine ⟨_,rfl,fun fr r=>?_⟩
 have z3:=hb2.size;have hF3:¬ (kW F w0 w2 b3) b3:=by rintro (h | ⟨_,_,h⟩); (have:=hF _ h; omega); exact h rfl
 have h3:=aX hb2 h3 hF3;have hC:=hC.bk hb2 (by rintro b hlt (h | ⟨h,_⟩); exact h; omega)
 refine kP r hr2.shape rfl rfl h3 bT rfl rfl fun w4 u4 r=>wn ?_;have z4:=u4.size
 have h3:=u4.at_;have hC:=hC.bi u4 (.inl kw)
 refine wp_ret ?_;have hs:=hr2.shape.cells;refine ar r rfl rfl h3 (k:=20) hs.1 bU ?_;rw [←hs.2.2];exact au.fin hC hr2 u4 (by rintro b (h | ⟨h1,h2,_⟩); exact .inl h; exact .inr ⟨h1,h2⟩) hF3 kw kw kw
theorem xJ (n:Nat):rp n:=by
  induction n using Nat.strongRecOn with
  | _ n ih=>
  intro F F1 F2 w0 hF s1 s2 hdj t pv fv g hp hf hd;obtain ⟨ff,f1,f2,hcf,rfl,hff⟩:=id hf;have hF1:∀ b,F1 b→b<w0.heap.size:=fun b h=>hF b (s1 b h)
  have hF2:∀ b,F2 b→b<w0.heap.size:=fun b h=>hF b (s2 b h)
  cases t with
  | cut=>unfold RepL at hp; exact hp.elim
  | done x0=>
    have hf:=hd.resolve_left (by intro h; cases h)
    unfold RepL at hp
    subst hp;refine enter (l:=[.agg (af true (bC.cells x0) 0 0 0 0 .nilFunc),.func (.func ff) f1.toArray f2.toArray]) Tryz.func223 rfl 15 rfl rfl fun fr r=>?_;have hB:=Below.refl w0.heap.size w0
    refine wp_seq (wp_region_lit ?_);refine kX 268 (.agg (af true (bC.cells x0) 0 0 0 0 .nilFunc)) r rfl rfl fun b1 w1 q1 r=>?_;refine kX 207 (.func (.func ff) f1.toArray f2.toArray) r rfl rfl fun b2 w2 q2 r=>?_
    refine ai (.cells (af false aK.zero 0 0 0 0 .nilFunc) 209 (0,0)) r (fun R=>ah cl) rfl fun fr b3 w3 q3 r=>wpList_nil ?_;have h1:=keep q3.below (keep q2.below q1.at_)
    have h2:=keep q3.below q2.at_;have h3:=q3.at_;have e1:=q1.eq; have e2:=q2.eq; have e3:=q3.eq; have z1:=q1.size; have z2:=q2.size; have z3:=q3.size;have hB:=((hB.trans q1.below).trans (q2.below.mono kw)).trans (q3.below.mono kw)
    have zB:=hB.size;refine wp_seq (wp_seq (wp_region_lit (ac (zp b1) r (fun R=>ax r (o:=0) rfl uZ) rfl fun fr r=>?_)));refine ac (.bool true) r (fun R=>av r (v:=.bool true) rfl h1 to4 rfl) rfl fun fr r=>wpList_nil ?_
    refine wp_cond_split (t:=true) (r.ev rfl) (fun _=>?_) (fun h=>by cases h)
    refine wp_seq (wp_region_lit (ac (.func (.func ff) f1.toArray f2.toArray) r (fun R=>av r (v:=.func (.func ff) f1.toArray f2.toArray) rfl h2 qR rfl) rfl fun fr r=>ac (.pointer (some ⟨b1,1,none⟩)) r (fun R=>ax r (o:=0) rfl CJ) rfl fun fr r=>ac (.int .u64 x0) r (fun R=>av r (v:=(.int .u64 x0)) rfl h1 to36 rfl) rfl fun fr r=>?_));refine cA r (hf.at_.2 n (Nat.lt_succ_self n) x0 w3 (Same.below hB hF2) hB.size) (fun R hc=>dN r rfl rfl hf.at_.1 hc) rfl ?_
    rintro _ w4 ⟨v,rfl,hb,hr⟩;refine ⟨_,rfl,fun fr r=>?_⟩
    have z4:=hb.size;have n3:¬ F2 b3:=fun h=>by have:=hF2 _ h; omega
    have h3:=aX hb h3 n3;have hC:Chg F w0 w4:=(Chg.aR hB).bk hb fun b _ h=>s2 b h
    refine kP r hr.shape rfl rfl h3 bT rfl rfl fun w5 u5 r=>wpList_nil ?_;have z5:=u5.size
    have h3:=u5.at_;have hC:=hC.bi u5 (.inl kw)
    refine wp_ret ?_;have hs:=hr.shape.cells;refine ar r rfl rfl h3 (k:=20) hs.1 bU ?_;rw [←hs.2.2];exact au.fin hC hr u5 (fun b hb=>.inl (s2 b hb)) n3 kw kw kw
  | act op at_ a b k=>
    obtain ⟨nf,n1,n2,hcn,rfl,hk⟩:∃ (nf:FuncId) (n1 n2:List Value),ag Tryz.prog nf=true∧pv=.agg (af false bC.zero op at_ a b (.func (.func nf) n1.toArray n2.toArray))∧FnL Tryz.prog bC u64 n F1 w0 (.func (.func nf) n1.toArray n2.toArray) k:=by
      exact RepL.cY hp
    refine enter (l:=[.agg (af false bC.zero op at_ a b (.func (.func nf) n1.toArray n2.toArray)),.func (.func ff) f1.toArray f2.toArray]) Tryz.func223 rfl 15 rfl rfl fun fr r=>?_;have hB:=Below.refl w0.heap.size w0
    refine wp_seq (wp_region_lit ?_);refine kX 268 (.agg (af false bC.zero op at_ a b (.func (.func nf) n1.toArray n2.toArray))) r rfl rfl fun b1 w1 q1 r=>?_;refine kX 207 (.func (.func ff) f1.toArray f2.toArray) r rfl rfl fun b2 w2 q2 r=>?_
    refine ai (.cells (af false aK.zero 0 0 0 0 .nilFunc) 209 (0,0)) r (fun R=>ah cl) rfl fun fr b3 w3 q3 r=>wpList_nil ?_;have h1:=keep q3.below (keep q2.below q1.at_)
    have h2:=keep q3.below q2.at_;have h3:=q3.at_;have e1:=q1.eq; have e2:=q2.eq; have e3:=q3.eq; have z1:=q1.size; have z2:=q2.size; have z3:=q3.size;have hB:=((hB.trans q1.below).trans (q2.below.mono kw)).trans (q3.below.mono kw)
    have zB:=hB.size;refine wp_seq (wp_seq (wp_region_lit (ac (zp b1) r (fun R=>ax r (o:=0) rfl uZ) rfl fun fr r=>?_)));refine ac (.bool false) r (fun R=>av r (v:=.bool false) rfl h1 to4 rfl) rfl fun fr r=>wpList_nil ?_
    refine wp_cond_split (t:=false) (r.ev rfl) (fun h=>by cases h) (fun _=>wp_skip ?_);refine wp_seq (wp_region_lit (ac (.pointer (some ⟨b1,2,none⟩)) r (fun R=>ax r (o:=0) rfl CK) rfl fun fr r=>kG (ba (⟨op,at_,a,b⟩:Access)) 4 r rfl h1 ta38 rfl rfl fun r=>ac (.func (.func 315) #[] #[zp b1,zp b2]) r (fun R=>aU r rfl) rfl fun fr r=>?_))
    have hFb:∀ b,(fun b=>F b∨b=b1∨b=b2) b→b<w3.heap.size:=by rintro b (h | h | h); exact Nat.lt_of_lt_of_le (hF b h) hB.size; omega; omega
    have m1:¬ F1 b1:=fun h=>by have:=hF1 _ h; omega
    have m2:¬ F1 b2:=fun h=>by have:=hF1 _ h; omega
    refine kC r (jm (F:=fun b=>F b∨b=b1∨b=b2) (n:=n) hFb ⟨op,at_,a,b⟩ (a1:=fun x=>(k x).bind g) (show FnL Tryz.prog aK u64 n (fun b=>F b∨b=b1∨b=b2) w3 (.func (.func 315) ([]:List Value).toArray [zp b1,zp b2].toArray) (fun x=>(k x).bind g) from
      ⟨315,[],[zp b1,zp b2],EP,rfl,fun m hm x w' hs hz=>xI (ih m hm) (fun b hb=>Nat.lt_of_lt_of_le (hFb b hb) hz) (fun b h=>.inl (s1 b h)) (fun b h=>.inl (s2 b h)) hdj m1 (hs.at_ (.inr (.inl rfl)) h1) m2 (hs.at_ (.inr (.inr rfl)) h2)
        (hk.mono kw (fun b h=>h) ((Same.below hB hF1).trans (hs.sub (fun b h=>.inl (s1 b h)))) (Nat.le_trans hB.size hz)) (hf.mono kw (fun b h=>h) ((Same.below hB hF2).trans (hs.sub (fun b h=>.inl (s2 b h)))) (Nat.le_trans hB.size hz)) x⟩)) rfl ky rfl ?_
    rintro _ w4 ⟨v,rfl,hb,hr⟩;refine ⟨_,rfl,fun fr r=>?_⟩
    have z4:=hb.size;have n3:¬ (fun b=>F b∨b=b1∨b=b2) b3:=by rintro (h | h | h); (have:=hF _ h; omega); omega; omega
    have h3:=aX hb h3 n3;have hC:Chg F w0 w4:=(Chg.aR hB).bk hb (by rintro b hlt (h | h | h); exact h; omega; omega)
    refine kP r hr.shape rfl rfl h3 bT rfl rfl fun w5 u5 r=>wpList_nil ?_;have z5:=u5.size
    have h3:=u5.at_;have hC:=hC.bi u5 (.inl kw)
    refine wp_ret ?_;have hs:=hr.shape.cells;refine ar r rfl rfl h3 (k:=20) hs.1 bU ?_;rw [←hs.2.2];exact au.fin hC hr u5 (by rintro b (h | h | h); exact .inl h; exact .inr ⟨kw,kw⟩; exact .inr ⟨kw,kw⟩) n3 kw kw kw
theorem xB {n:Nat} {F F1 F2:Nat→Prop} {w0:World} (hF:∀ b,F b→b<w0.heap.size) (s1:∀ b,F1 b→F b) (s2:∀ b,F2 b→F b) (hdj:∀ b,F1 b→¬ F2 b) {t:T (Int)} {pv fv:Value} {g:Int→T (Walk)} (hp:RepL Tryz.prog bC n t F1 w0 pv) (hf:FnL Tryz.prog aK u64 n F2 w0 fv g) (hd:t.bd=false) :
    Calls Tryz.prog 223 #[pv,fv] w0 (au Tryz.prog aK n (t.bind g) F w0):=xJ n hF s1 s2 hdj hp hf (.inl hd)
end
end Go.Proofs.YtikjpdpgdmbdpaaGreat

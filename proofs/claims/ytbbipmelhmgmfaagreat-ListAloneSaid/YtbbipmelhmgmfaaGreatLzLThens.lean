/- Ours. -/
import Derived.Test.YtbbipmelhmgmfaaGreatLzM17
import Derived.Test.YtbbipmelhmgmfaaGreatLzM16
set_option linter.all false
set_option maxRecDepth 100000
set_option maxHeartbeats 20000000
namespace Go.Proofs.YtbbipmelhmgmfaaGreat
open Go.RowKit
section
variable {n : Nat} {F : Nat → Prop} {j : Nat} {w0 : World}
theorem ma:af y6 157:=kz
theorem EB:af y6 245:=kz
theorem xL:af y6 246:=kz
theorem m7:af y6 311:=kz
theorem Fj:af y6 312:=kz
theorem xg:af y6 363:=kz
theorem Gb:af y6 387:=kz
theorem wQ:af y6 390:=kz
theorem Gv:af y6 399:=kz
theorem vT:ba y6 224 0 0:=kz
theorem D3:ba y6 224 1 1:=kz
theorem DD:ba y6 224 2 15:=kz
theorem DH:ba y6 224 3 19:=kz
theorem dB:tyA y6 221 14:=kz
theorem bZ:tyA y6 224 20:=kz
theorem rD:tyO y6 222:=kz
theorem xz:tyO y6 228:=kz
theorem xl:tyO y6 306:=kz
theorem xY:tyO y6 326:=kz
theorem bY:sized y6 224 20:=kz
theorem cA:zeroOf y6 224=some (.agg (kq aK)):=kz
theorem sV (hF:kH F w0)
    (a0:Res) :
    Calls y6 15 #[u7 (resC a0)] w0 (aw y6 aA n (D.qa a0) F w0):=by
 refine kN Tryz.func15 rfl 5 rfl rfl fun fr r hB=>?_;refine wsr ?_
 refine kX 36 (u7 (resC a0)) r rfl rfl fun b1 w2 n3 r=>?_;obtain ⟨E1,Z2,H1,hB,zB⟩:=n3.all hB
 refine ah (.cells (kq aA) 41 (0,0)) r (fun R=>ag tz41) rfl fun fr b4 w5 n6 r=>?_;have H1:=keep n6.below H1
 obtain ⟨E4,Z5,H4,hB,zB⟩:=n6.all hB;refine wn (wsr (kG (resC a0) 2 r rfl H1 ta36 rfl rfl fun r=>kU (.agg (aC true (aA.cells a0) 0 0 0 0 .nilFunc)) r kz rfl fun r=>?_));refine aJ (.cells (aC true (aA.cells a0) 0 0 0 0 .nilFunc) 41 (0,0)) r (fun R=>bb r (o:=0) (v:=(.agg (aC true (aA.cells a0) 0 0 0 0 .nilFunc))) rfl rfl H4 ts41 r9 rfl rfl) rfl fun fr w7 u8 r=>?_
 have Z7:=u8.size;have H1:=u8.keep H1 kw
 have H4:=u8.at_;obtain ⟨hB,zB⟩:=u8.on hB kw
 refine wn (d9 ?_);refine ak r rfl rfl H4 (k:=8) rfl ta41 ?_;exact ⟨_,rfl,(Chg.aT hB),RepL.gV⟩
theorem iA (hF:kH F w0)
    (a0:Access) {a1f:FuncId} {GU GV:List Value} {a1:(Int→T Res)} (a1n:FnL y6 aA u64 (n) F w0 (kf a1f GU GV) a1) :
    Calls y6 177 #[u7 (bk a0),kf a1f GU GV] w0 (aw y6 aA n (D.nI a0 a1) F w0):=by
 refine kN Tryz.func177 rfl 8 rfl rfl fun fr r hB=>?_;refine wsr ?_
 refine kX 38 (u7 (bk a0)) r rfl rfl fun b1 w2 n3 r=>?_;obtain ⟨E1,Z2,H1,hB,zB⟩:=n3.all hB
 refine ah (.cells (kq aA) 41 (0,0)) r (fun R=>ag tz41) rfl fun fr b4 w5 n6 r=>?_;have H1:=keep n6.below H1
 obtain ⟨E4,Z5,H4,hB,zB⟩:=n6.all hB;refine wn (wsr (kG (bk a0) 4 r rfl H1 ta38 rfl rfl fun r=>kM (kf a1f GU GV) r rfl rfl fun r=>kU (.agg (aC false aA.zero a0.op a0.at_ a0.a a0.b (kf a1f GU GV))) r kz rfl fun r=>?_));refine aJ (.cells (aC false aA.zero a0.op a0.at_ a0.a a0.b (kf a1f GU GV)) 41 (0,0)) r (fun R=>bb r (o:=0) (v:=(.agg (aC false aA.zero a0.op a0.at_ a0.a a0.b (kf a1f GU GV)))) rfl rfl H4 ts41 r9 rfl rfl) rfl fun fr w7 u8 r=>?_
 have Z7:=u8.size;have H1:=u8.keep H1 kw
 have H4:=u8.at_;obtain ⟨hB,zB⟩:=u8.on hB kw
 refine wn (d9 ?_);refine ak r rfl rfl H4 (k:=8) rfl ta41 ?_;exact ⟨_,rfl,(Chg.aT hB),RepL.hU (a1n.mono (Nat.le_refl _) (fun b hb=>.inl hb) (Same.below hB hF) hB.size)⟩
def D.je (a0:Walk):T Walk:=(T.done a0)
theorem sT (hF:kH F w0)
    (a0:Walk) :
    Calls y6 316 #[u7 (bh a0)] w0 (aw y6 aK n (D.je a0) F w0):=by
 refine kN Tryz.func316 rfl 5 rfl rfl fun fr r hB=>?_;refine wsr ?_
 refine kX 221 (u7 (bh a0)) r rfl rfl fun b1 w2 n3 r=>?_;obtain ⟨E1,Z2,H1,hB,zB⟩:=n3.all hB
 refine ah (.cells (kq aK) 224 (0,0)) r (fun R=>ag cA) rfl fun fr b4 w5 n6 r=>?_;have H1:=keep n6.below H1
 obtain ⟨E4,Z5,H4,hB,zB⟩:=n6.all hB;refine wn (wsr (kG (bh a0) 14 r rfl H1 dB rfl rfl fun r=>kU (.agg (aC true (aK.cells a0) 0 0 0 0 .nilFunc)) r kz rfl fun r=>?_));refine aJ (.cells (aC true (aK.cells a0) 0 0 0 0 .nilFunc) 224 (0,0)) r (fun R=>bb r (o:=0) (v:=(.agg (aC true (aK.cells a0) 0 0 0 0 .nilFunc))) rfl rfl H4 bY r9 rfl (qD rfl)) rfl fun fr w7 u8 r=>?_
 have Z7:=u8.size;have H1:=u8.keep H1 kw
 have H4:=u8.at_;obtain ⟨hB,zB⟩:=u8.on hB kw
 refine wn (d9 ?_);refine ak r rfl rfl H4 (k:=20) rfl bZ ?_;exact ⟨_,rfl,(Chg.aT hB),RepL.gV⟩
def D.qe (a0:Access) (a1:(Int→T Walk)):T Walk:=(T.act a0.op a0.at_ a0.a a0.b a1)
theorem kQ (hF:kH F w0)
    (a0:Access) {a1f:FuncId} {GU GV:List Value} {a1:(Int→T Walk)} (a1n:FnL y6 aK u64 (n) F w0 (kf a1f GU GV) a1) :
    Calls y6 311 #[u7 (bk a0),kf a1f GU GV] w0 (aw y6 aK n (D.qe a0 a1) F w0):=by
 refine kN Tryz.func311 rfl 8 rfl rfl fun fr r hB=>?_;refine wsr ?_
 refine kX 38 (u7 (bk a0)) r rfl rfl fun b1 w2 n3 r=>?_;obtain ⟨E1,Z2,H1,hB,zB⟩:=n3.all hB
 refine ah (.cells (kq aK) 224 (0,0)) r (fun R=>ag cA) rfl fun fr b4 w5 n6 r=>?_;have H1:=keep n6.below H1
 obtain ⟨E4,Z5,H4,hB,zB⟩:=n6.all hB;refine wn (wsr (kG (bk a0) 4 r rfl H1 ta38 rfl rfl fun r=>kM (kf a1f GU GV) r rfl rfl fun r=>kU (.agg (aC false aK.zero a0.op a0.at_ a0.a a0.b (kf a1f GU GV))) r kz rfl fun r=>?_));refine aJ (.cells (aC false aK.zero a0.op a0.at_ a0.a a0.b (kf a1f GU GV)) 224 (0,0)) r (fun R=>bb r (o:=0) (v:=(.agg (aC false aK.zero a0.op a0.at_ a0.a a0.b (kf a1f GU GV)))) rfl rfl H4 bY r9 rfl (qD rfl)) rfl fun fr w7 u8 r=>?_
 have Z7:=u8.size;have H1:=u8.keep H1 kw
 have H4:=u8.at_;obtain ⟨hB,zB⟩:=u8.on hB kw
 refine wn (d9 ?_);refine ak r rfl rfl H4 (k:=20) rfl bZ ?_;exact ⟨_,rfl,(Chg.aT hB),RepL.hU (a1n.mono (Nat.le_refl _) (fun b hb=>.inl hb) (Same.below hB hF) hB.size)⟩
def s9 (n:Nat):Prop:=∀ {F F1 F2:Nat→Prop} {w0:World},(∀ b,F b→b<w0.heap.size)→(∀ b,F1 b→F b)→(∀ b,F2 b→F b)→(∀ b,F1 b→¬ F2 b)→∀ {t:T (Grant)} {pv fv:Value} {g:Grant→T (Res)},RepL y6 bw n t F1 w0 pv→FnL y6 aA argGrant n F2 w0 fv g→
  (t.bA=false∨FnL y6 aA argGrant (n+1) F2 w0 fv g)→Calls y6 130 #[pv,fv] w0 (aw y6 aA n (t.bind g) F w0)
theorem yG {n:Nat} (ih:s9 n) {F F1 F2:Nat→Prop} {w0:World} (hF:∀ b,F b→b<w0.heap.size) (s1:∀ b,F1 b→F b) (s2:∀ b,F2 b→F b) (hdj:∀ b,F1 b→¬ F2 b) {op at_ a b:Int} {nf:FuncId} {n1 n2:List Value} {k:Int→T (Grant)} {ff:FuncId} {f1 f2:List Value} {g:Grant→T (Res)}
    {b1 b2:Nat} (m1:¬ F1 b1) (h1:w0.heap[b1]?=some (.cells (aC false bw.zero op at_ a b (kf nf n1 n2)) 116 (0,0))) (m2:¬ F1 b2) (h2:w0.heap[b2]?=some (.cells #[kf ff f1 f2] 207 (0,0)))
    (hk:FnL y6 bw u64 (n+1) F1 w0 (kf nf n1 n2) k) (hg:FnL y6 aA argGrant (n+1) F2 w0 (kf ff f1 f2) g) (x:Int) :
    Calls y6 215 #[.int .u64 x,zp b1,zp b2] w0 (aw y6 aA n ((k x).bind g) F w0):=by
 refine kN Tryz.func215 rfl 11 rfl rfl fun fr r hB=>?_;have hF1:∀ b,F1 b→b<w0.heap.size:=fun b h=>hF b (s1 b h)
 have hF2:∀ b,F2 b→b<w0.heap.size:=fun b h=>hF b (s2 b h)
 refine a9 (q5 ?_);refine ah (.cells (kq aA) 41 (0,0)) r (fun R=>ag tz41) rfl fun fr b3 w1 q1 r=>wn ?_;have h1:=keep q1.below h1
 have h2:=keep q1.below h2;have e3:=q1.eq;have z1:=q1.size;have h3:=q1.at_;have hB:=hB.trans (q1.below.mono hB.size);have zB:=hB.size;have hk1:=hk.mono (Nat.le_refl _) (fun b h=>h) (Same.below hB hF1) hB.size
 have hF1':∀ b,F1 b→b<w1.heap.size:=fun b h=>q8 (hF1 b h) zB
 refine a9 ?_;refine iM 5 F1 [.val (.pointer (some ⟨b1,8,none⟩)),.val (kf nf n1 n2),.val (U x),.eff (StepE y6 bw n (k x) F1) (StepE.st hF1'),.val (kf ff f1 f2)] mixed r hF1' kz ?_ ?_
 ·
  refine cJ r rfl (fun fr1 g w' hk' hd r'=>?_) ?_
  · exact az r' (b:=b1) (o:=0) (k:=8) rfl Dy bz
  refine cJ r rfl (fun fr1 g w' hk' hd r'=>?_) ?_
  · exact av r' (v:=kf nf n1 n2) (hd 0 rfl).1 (bc (drK hk') h1 m1) Em rfl bz
  refine cJ r rfl (fun fr1 g w' hk' hd r'=>?_) ?_
  · exact ay r' (v:=.int .u64 x) rfl bz
  refine iF r rfl kz (fun fr1 g w' hb' hd r'=>?_) ?_
  ·
   have hb':Below w1.heap.size w1 w':=dr hb';refine dI r' (fs:=n1) (cs:=n2) (hd 1 rfl).1 (hd 2 rfl).1 hk1.at_.1 ((hk1.at_.2 n (Nat.lt_succ_self n) x w' (Same.below hb' hF1') hb'.size).mono ?_);rintro _ w2 ⟨v,rfl,hb2,hr2⟩;exact ⟨v,rfl,hb2.kept,hr2⟩
  refine cJ r rfl (fun fr1 g w' hk' hd r'=>?_) ?_
  · exact av r' (v:=kf ff f1 f2) rfl (bc (drK hk') h2 m2) xq rfl bz
  exact bS
 intro fr gg w2 hb hΦ _ r;have hr:RepL y6 bw n (k x) (fun b=>F1 b∨((gg 3).lo≤b∧b<(gg 3).hi)) w2 (gg 3).v:=(hΦ 3 rfl).1
 have hrg:=(hΦ 3 rfl).2;have r:=r.congr (sc ((hΦ 4 rfl).1) rfl);have z2:=hb.size;have hr3:¬ F1 b3:=fun h=>by have:=hF1 _ h; omega
 have h3:=bc hb h3 hr3;have hC:Chg F w0 w2:=(Chg.aT hB).bn hb fun b _ h=>s1 b h
 have zB2:=hC.size;have hS2:Same F2 w0 w2:=fun b h=>(hb.block b (q8 (hF2 b h) zB) fun h'=>hdj b h' h).trans (hB.block b (hF2 b h))
 have hFb:∀ b,(kW F w0 w2 b3) b→b<w2.heap.size:=by rintro b (h | h); exact q8 (hF b h) zB2; exact h.2.1
 refine kC r (ih (F:=fun b=>F b∨(w0.heap.size≤b∧b<w2.heap.size∧b≠b3)) (F1:=fun b=>F1 b∨((gg 3).lo≤b∧b<(gg 3).hi)) (F2:=F2) hFb yao (fun b h=>.inl (s2 b h))
  yap hr (hg.mono kw (fun b h=>h) hS2 zB2) (.inr (hg.mono (Nat.le_refl _) (fun b h=>h) hS2 zB2))) rfl wV rfl ?_
 rintro _ w3 ⟨v2,rfl,hb2,hr2⟩;refine ⟨_,rfl,fun fr r=>?_⟩
 have z3:=hb2.size;have hF3:¬ (kW F w0 w2 b3) b3:=by rintro (h | ⟨_,_,h⟩); (have:=hF _ h; omega); exact h rfl
 have h3:=bc hb2 h3 hF3;have hC:=hC.bn hb2 yad
 refine kP r hr2.shape rfl rfl h3 ts41 rfl rfl fun w4 u4 r=>wn ?_;have z4:=u4.size
 have h3:=u4.at_;have hC:=hC.bm u4 (.inl kw)
 refine d9 ?_;have hs:=hr2.shape.cells;refine ak r rfl rfl h3 (k:=8) hs.1 ta41 ?_;rw [←hs.2.2];exact aw.fin hC hr2 u4 yac hF3 kw kw kw
theorem yL (n:Nat):s9 n:=by
 induction n using Nat.strongRecOn with
 | _ n ih=>
 intro F F1 F2 w0 hF s1 s2 hdj t pv fv g hp hf hd;obtain ⟨ff,f1,f2,hcf,rfl,hff⟩:=id hf;have hF1:∀ b,F1 b→b<w0.heap.size:=fun b h=>hF b (s1 b h)
 have hF2:∀ b,F2 b→b<w0.heap.size:=fun b h=>hF b (s2 b h)
 cases t with
 | cut=>unfold RepL at hp; exact hp.elim
 | done x0=>
  have hf:=hd.resolve_left yaB
  unfold RepL at hp
  subst hp;refine enter (l:=[.agg (aC true (bw.cells x0) 0 0 0 0 .nilFunc),kf ff f1 f2]) Tryz.func130 rfl 15 rfl rfl fun fr r=>?_;have hB:=Below.refl w0.heap.size w0
  refine a9 (q5 ?_);refine kX 116 (.agg (aC true (bw.cells x0) 0 0 0 0 .nilFunc)) r rfl rfl fun b1 w1 q1 r=>?_;refine kX 207 (kf ff f1 f2) r rfl rfl fun b2 w2 q2 r=>?_
  refine ah (.cells (kq aA) 41 (0,0)) r (fun R=>ag tz41) rfl fun fr b3 w3 q3 r=>q9 ?_;have h1:=keep q3.below (keep q2.below q1.at_)
  have h2:=keep q3.below q2.at_;have h3:=q3.at_;have e1:=q1.eq; have e2:=q2.eq; have e3:=q3.eq; have z1:=q1.size; have z2:=q2.size; have z3:=q3.size;have hB:=((hB.trans q1.below).trans (q2.below.mono kw)).trans (q3.below.mono kw)
  have zB:=hB.size;refine a9 (a9 (q5 (aa (zp b1) r (fun R=>az r (o:=0) rfl vG) rfl fun fr r=>?_)));refine aa (.bool true) r (fun R=>av r (v:=.bool true) rfl h1 to4 rfl) rfl fun fr r=>q9 ?_
  refine q4 (t:=true) (r.ev rfl) (fun _=>?_) (fun h=>by cases h)
  refine a9 (q5 (aa (kf ff f1 f2) r (fun R=>av r (v:=kf ff f1 f2) rfl h2 xq rfl) rfl fun fr r=>aa (.pointer (some ⟨b1,1,none⟩)) r (fun R=>az r (o:=0) rfl Dw) rfl fun fr r=>kG (grantC x0) 3 r rfl h1 xA rfl rfl fun r=>?_));refine cS r (hf.at_.2 n (Nat.lt_succ_self n) x0 w3 (Same.below hB hF2) hB.size) (fun R hc=>ek r rfl rfl hf.at_.1 hc) rfl ?_
  rintro _ w4 ⟨v,rfl,hb,hr⟩;refine ⟨_,rfl,fun fr r=>?_⟩
  have z4:=hb.size;have n3:¬ F2 b3:=fun h=>by have:=hF2 _ h; omega
  have h3:=bc hb h3 n3;have hC:Chg F w0 w4:=(Chg.aT hB).bn hb fun b _ h=>s2 b h
  refine kP r hr.shape rfl rfl h3 ts41 rfl rfl fun w5 u5 r=>q9 ?_;have z5:=u5.size
  have h3:=u5.at_;have hC:=hC.bm u5 (.inl kw)
  refine d9 ?_;have hs:=hr.shape.cells;refine ak r rfl rfl h3 (k:=8) hs.1 ta41 ?_;rw [←hs.2.2];exact aw.fin hC hr u5 (fun b hb=>.inl (s2 b hb)) n3 kw kw kw
 | act op at_ a b k=>
  obtain ⟨nf,n1,n2,hcn,rfl,hk⟩:∃ (nf:FuncId) (n1 n2:List Value),af y6 nf=true∧pv=.agg (aC false bw.zero op at_ a b (kf nf n1 n2))∧FnL y6 bw u64 n F1 w0 (kf nf n1 n2) k:=by
   exact RepL.dx hp
  refine enter (l:=[.agg (aC false bw.zero op at_ a b (kf nf n1 n2)),kf ff f1 f2]) Tryz.func130 rfl 15 rfl rfl fun fr r=>?_;have hB:=Below.refl w0.heap.size w0
  refine a9 (q5 ?_);refine kX 116 (.agg (aC false bw.zero op at_ a b (kf nf n1 n2))) r rfl rfl fun b1 w1 q1 r=>?_;refine kX 207 (kf ff f1 f2) r rfl rfl fun b2 w2 q2 r=>?_
  refine ah (.cells (kq aA) 41 (0,0)) r (fun R=>ag tz41) rfl fun fr b3 w3 q3 r=>q9 ?_;have h1:=keep q3.below (keep q2.below q1.at_)
  have h2:=keep q3.below q2.at_;have h3:=q3.at_;have e1:=q1.eq; have e2:=q2.eq; have e3:=q3.eq; have z1:=q1.size; have z2:=q2.size; have z3:=q3.size;have hB:=((hB.trans q1.below).trans (q2.below.mono kw)).trans (q3.below.mono kw)
  have zB:=hB.size;refine a9 (a9 (q5 (aa (zp b1) r (fun R=>az r (o:=0) rfl vG) rfl fun fr r=>?_)));refine aa (.bool false) r (fun R=>av r (v:=.bool false) rfl h1 to4 rfl) rfl fun fr r=>q9 ?_
  refine q4 (t:=false) (r.ev rfl) (fun h=>by cases h) (fun _=>q6 ?_);refine a9 (q5 (aa (.pointer (some ⟨b1,4,none⟩)) r (fun R=>az r (o:=0) rfl Dc) rfl fun fr r=>kG (bk (⟨op,at_,a,b⟩:Access)) 4 r rfl h1 ta38 rfl rfl fun r=>aa (.func (.func 215) #[] #[zp b1,zp b2]) r (fun R=>aZ r rfl) rfl fun fr r=>?_))
  have hFb:∀ b,(fun b=>F b∨b=b1∨b=b2) b→b<w3.heap.size:=by rintro b (h | h | h); exact q8 (hF b h) hB.size; omega; omega
  have m1:¬ F1 b1:=fun h=>by have:=hF1 _ h; omega
  have m2:¬ F1 b2:=fun h=>by have:=hF1 _ h; omega
  refine kC r (iA (F:=fun b=>F b∨b=b1∨b=b2) (n:=n) hFb ⟨op,at_,a,b⟩ (a1:=fun x=>(k x).bind g) (show FnL y6 aA u64 n (fun b=>F b∨b=b1∨b=b2) w3 (kf 215 [] [zp b1,zp b2]) (fun x=>(k x).bind g) from
   ⟨215,[],[zp b1,zp b2],Gl,rfl,fun m hm x w' hs hz=>yG (ih m hm) (fun b hb=>q8 (hFb b hb) hz) (fun b h=>.inl (s1 b h)) (fun b h=>.inl (s2 b h)) hdj m1 (hs.at_ (.inr (.inl rfl)) h1) m2 (hs.at_ (.inr (.inr rfl)) h2)
    (hk.mono kw (fun b h=>h) ((Same.below hB hF1).trans (hs.sub (fun b h=>.inl (s1 b h)))) (Nat.le_trans hB.size hz)) (hf.mono kw (fun b h=>h) ((Same.below hB hF2).trans (hs.sub (fun b h=>.inl (s2 b h)))) (Nat.le_trans hB.size hz)) x⟩)) rfl j3 rfl ?_
  rintro _ w4 ⟨v,rfl,hb,hr⟩;refine ⟨_,rfl,fun fr r=>?_⟩
  have z4:=hb.size;have n3:¬ (fun b=>F b∨b=b1∨b=b2) b3:=by rintro (h | h | h); (have:=hF _ h; omega); omega; omega
  have h3:=bc hb h3 n3;have hC:Chg F w0 w4:=(Chg.aT hB).bn hb yat
  refine kP r hr.shape rfl rfl h3 ts41 rfl rfl fun w5 u5 r=>q9 ?_;have z5:=u5.size
  have h3:=u5.at_;have hC:=hC.bm u5 (.inl kw)
  refine d9 ?_;have hs:=hr.shape.cells;refine ak r rfl rfl h3 (k:=8) hs.1 ta41 ?_;rw [←hs.2.2];exact aw.fin hC hr u5 yag n3 kw kw kw
theorem ym {n:Nat} {F F1 F2:Nat→Prop} {w0:World} (hF:∀ b,F b→b<w0.heap.size) (s1:∀ b,F1 b→F b) (s2:∀ b,F2 b→F b) (hdj:∀ b,F1 b→¬ F2 b) {t:T (Grant)} {pv fv:Value} {g:Grant→T (Res)} (hp:RepL y6 bw n t F1 w0 pv) (hf:FnL y6 aA argGrant (n+1) F2 w0 fv g) :
  Calls y6 130 #[pv,fv] w0 (aw y6 aA n (t.bind g) F w0):=yL n hF s1 s2 hdj hp (hf.mono kw (fun b h=>h) (Same.refl _ _) (Nat.le_refl _)) (.inr hf)
def su (n:Nat):Prop:=∀ {F F1 F2:Nat→Prop} {w0:World},(∀ b,F b→b<w0.heap.size)→(∀ b,F1 b→F b)→(∀ b,F2 b→F b)→(∀ b,F1 b→¬ F2 b)→∀ {t:T (Walk)} {pv fv:Value} {g:Walk→T (Res)},RepL y6 aK n t F1 w0 pv→FnL y6 aA argWalk n F2 w0 fv g→
  (t.bA=false∨FnL y6 aA argWalk (n+1) F2 w0 fv g)→Calls y6 157 #[pv,fv] w0 (aw y6 aA n (t.bind g) F w0)
theorem yX {n:Nat} (ih:su n) {F F1 F2:Nat→Prop} {w0:World} (hF:∀ b,F b→b<w0.heap.size) (s1:∀ b,F1 b→F b) (s2:∀ b,F2 b→F b) (hdj:∀ b,F1 b→¬ F2 b) {op at_ a b:Int} {nf:FuncId} {n1 n2:List Value} {k:Int→T (Walk)} {ff:FuncId} {f1 f2:List Value} {g:Walk→T (Res)}
    {b1 b2:Nat} (m1:¬ F1 b1) (h1:w0.heap[b1]?=some (.cells (aC false aK.zero op at_ a b (kf nf n1 n2)) 224 (0,0))) (m2:¬ F1 b2) (h2:w0.heap[b2]?=some (.cells #[kf ff f1 f2] 228 (0,0)))
    (hk:FnL y6 aK u64 (n+1) F1 w0 (kf nf n1 n2) k) (hg:FnL y6 aA argWalk (n+1) F2 w0 (kf ff f1 f2) g) (x:Int) :
    Calls y6 245 #[.int .u64 x,zp b1,zp b2] w0 (aw y6 aA n ((k x).bind g) F w0):=by
 refine kN Tryz.func245 rfl 11 rfl rfl fun fr r hB=>?_;have hF1:∀ b,F1 b→b<w0.heap.size:=fun b h=>hF b (s1 b h)
 have hF2:∀ b,F2 b→b<w0.heap.size:=fun b h=>hF b (s2 b h)
 refine a9 (q5 ?_);refine ah (.cells (kq aA) 41 (0,0)) r (fun R=>ag tz41) rfl fun fr b3 w1 q1 r=>wn ?_;have h1:=keep q1.below h1
 have h2:=keep q1.below h2;have e3:=q1.eq;have z1:=q1.size;have h3:=q1.at_;have hB:=hB.trans (q1.below.mono hB.size);have zB:=hB.size;have hk1:=hk.mono (Nat.le_refl _) (fun b h=>h) (Same.below hB hF1) hB.size
 have hF1':∀ b,F1 b→b<w1.heap.size:=fun b h=>q8 (hF1 b h) zB
 refine a9 ?_;refine iM 5 F1 [.val (.pointer (some ⟨b1,19,none⟩)),.val (kf nf n1 n2),.val (U x),.eff (StepE y6 aK n (k x) F1) (StepE.st hF1'),.val (kf ff f1 f2)] mixed r hF1' kz ?_ ?_
 ·
  refine cJ r rfl (fun fr1 g w' hk' hd r'=>?_) ?_
  · exact az r' (b:=b1) (o:=0) (k:=19) rfl DH bz
  refine cJ r rfl (fun fr1 g w' hk' hd r'=>?_) ?_
  · exact av r' (v:=kf nf n1 n2) (hd 0 rfl).1 (bc (drK hk') h1 m1) rD rfl bz
  refine cJ r rfl (fun fr1 g w' hk' hd r'=>?_) ?_
  · exact ay r' (v:=.int .u64 x) rfl bz
  refine iF r rfl kz (fun fr1 g w' hb' hd r'=>?_) ?_
  ·
   have hb':Below w1.heap.size w1 w':=dr hb';refine dI r' (fs:=n1) (cs:=n2) (hd 1 rfl).1 (hd 2 rfl).1 hk1.at_.1 ((hk1.at_.2 n (Nat.lt_succ_self n) x w' (Same.below hb' hF1') hb'.size).mono ?_);rintro _ w2 ⟨v,rfl,hb2,hr2⟩;exact ⟨v,rfl,hb2.kept,hr2⟩
  refine cJ r rfl (fun fr1 g w' hk' hd r'=>?_) ?_
  · exact av r' (v:=kf ff f1 f2) rfl (bc (drK hk') h2 m2) xz rfl bz
  exact bS
 intro fr gg w2 hb hΦ _ r;have hr:RepL y6 aK n (k x) (fun b=>F1 b∨((gg 3).lo≤b∧b<(gg 3).hi)) w2 (gg 3).v:=(hΦ 3 rfl).1
 have hrg:=(hΦ 3 rfl).2;have r:=r.congr (sc ((hΦ 4 rfl).1) rfl);have z2:=hb.size;have hr3:¬ F1 b3:=fun h=>by have:=hF1 _ h; omega
 have h3:=bc hb h3 hr3;have hC:Chg F w0 w2:=(Chg.aT hB).bn hb fun b _ h=>s1 b h
 have zB2:=hC.size;have hS2:Same F2 w0 w2:=fun b h=>(hb.block b (q8 (hF2 b h) zB) fun h'=>hdj b h' h).trans (hB.block b (hF2 b h))
 have hFb:∀ b,(kW F w0 w2 b3) b→b<w2.heap.size:=by rintro b (h | h); exact q8 (hF b h) zB2; exact h.2.1
 refine kC r (ih (F:=fun b=>F b∨(w0.heap.size≤b∧b<w2.heap.size∧b≠b3)) (F1:=fun b=>F1 b∨((gg 3).lo≤b∧b<(gg 3).hi)) (F2:=F2) hFb yao (fun b h=>.inl (s2 b h))
  yap hr (hg.mono kw (fun b h=>h) hS2 zB2) (.inr (hg.mono (Nat.le_refl _) (fun b h=>h) hS2 zB2))) rfl ma rfl ?_
 rintro _ w3 ⟨v2,rfl,hb2,hr2⟩;refine ⟨_,rfl,fun fr r=>?_⟩
 have z3:=hb2.size;have hF3:¬ (kW F w0 w2 b3) b3:=by rintro (h | ⟨_,_,h⟩); (have:=hF _ h; omega); exact h rfl
 have h3:=bc hb2 h3 hF3;have hC:=hC.bn hb2 yad
 refine kP r hr2.shape rfl rfl h3 ts41 rfl rfl fun w4 u4 r=>wn ?_;have z4:=u4.size
 have h3:=u4.at_;have hC:=hC.bm u4 (.inl kw)
 refine d9 ?_;have hs:=hr2.shape.cells;refine ak r rfl rfl h3 (k:=8) hs.1 ta41 ?_;rw [←hs.2.2];exact aw.fin hC hr2 u4 yac hF3 kw kw kw
theorem za (n:Nat):su n:=by
 induction n using Nat.strongRecOn with
 | _ n ih=>
 intro F F1 F2 w0 hF s1 s2 hdj t pv fv g hp hf hd;obtain ⟨ff,f1,f2,hcf,rfl,hff⟩:=id hf;have hF1:∀ b,F1 b→b<w0.heap.size:=fun b h=>hF b (s1 b h)
 have hF2:∀ b,F2 b→b<w0.heap.size:=fun b h=>hF b (s2 b h)
 cases t with
 | cut=>unfold RepL at hp; exact hp.elim
 | done x0=>
  have hf:=hd.resolve_left yaB
  unfold RepL at hp
  subst hp;refine enter (l:=[.agg (aC true (aK.cells x0) 0 0 0 0 .nilFunc),kf ff f1 f2]) Tryz.func157 rfl 15 rfl rfl fun fr r=>?_;have hB:=Below.refl w0.heap.size w0
  refine a9 (q5 ?_);refine kX 224 (.agg (aC true (aK.cells x0) 0 0 0 0 .nilFunc)) r rfl rfl fun b1 w1 q1 r=>?_;refine kX 228 (kf ff f1 f2) r rfl rfl fun b2 w2 q2 r=>?_
  refine ah (.cells (kq aA) 41 (0,0)) r (fun R=>ag tz41) rfl fun fr b3 w3 q3 r=>q9 ?_;have h1:=keep q3.below (keep q2.below q1.at_)
  have h2:=keep q3.below q2.at_;have h3:=q3.at_;have e1:=q1.eq; have e2:=q2.eq; have e3:=q3.eq; have z1:=q1.size; have z2:=q2.size; have z3:=q3.size;have hB:=((hB.trans q1.below).trans (q2.below.mono kw)).trans (q3.below.mono kw)
  have zB:=hB.size;refine a9 (a9 (q5 (aa (zp b1) r (fun R=>az r (o:=0) rfl vT) rfl fun fr r=>?_)));refine aa (.bool true) r (fun R=>av r (v:=.bool true) rfl h1 to4 rfl) rfl fun fr r=>q9 ?_
  refine q4 (t:=true) (r.ev rfl) (fun _=>?_) (fun h=>by cases h)
  refine a9 (q5 (aa (kf ff f1 f2) r (fun R=>av r (v:=kf ff f1 f2) rfl h2 xz rfl) rfl fun fr r=>aa (.pointer (some ⟨b1,1,none⟩)) r (fun R=>az r (o:=0) rfl D3) rfl fun fr r=>kG (bh x0) 14 r rfl h1 dB rfl rfl fun r=>?_));refine cS r (hf.at_.2 n (Nat.lt_succ_self n) x0 w3 (Same.below hB hF2) hB.size) (fun R hc=>ek r rfl rfl hf.at_.1 hc) rfl ?_
  rintro _ w4 ⟨v,rfl,hb,hr⟩;refine ⟨_,rfl,fun fr r=>?_⟩
  have z4:=hb.size;have n3:¬ F2 b3:=fun h=>by have:=hF2 _ h; omega
  have h3:=bc hb h3 n3;have hC:Chg F w0 w4:=(Chg.aT hB).bn hb fun b _ h=>s2 b h
  refine kP r hr.shape rfl rfl h3 ts41 rfl rfl fun w5 u5 r=>q9 ?_;have z5:=u5.size
  have h3:=u5.at_;have hC:=hC.bm u5 (.inl kw)
  refine d9 ?_;have hs:=hr.shape.cells;refine ak r rfl rfl h3 (k:=8) hs.1 ta41 ?_;rw [←hs.2.2];exact aw.fin hC hr u5 (fun b hb=>.inl (s2 b hb)) n3 kw kw kw
 | act op at_ a b k=>
  obtain ⟨nf,n1,n2,hcn,rfl,hk⟩:∃ (nf:FuncId) (n1 n2:List Value),af y6 nf=true∧pv=.agg (aC false aK.zero op at_ a b (kf nf n1 n2))∧FnL y6 aK u64 n F1 w0 (kf nf n1 n2) k:=by
   exact RepL.dx hp
  refine enter (l:=[.agg (aC false aK.zero op at_ a b (kf nf n1 n2)),kf ff f1 f2]) Tryz.func157 rfl 15 rfl rfl fun fr r=>?_;have hB:=Below.refl w0.heap.size w0
  refine a9 (q5 ?_);refine kX 224 (.agg (aC false aK.zero op at_ a b (kf nf n1 n2))) r rfl rfl fun b1 w1 q1 r=>?_;refine kX 228 (kf ff f1 f2) r rfl rfl fun b2 w2 q2 r=>?_
  refine ah (.cells (kq aA) 41 (0,0)) r (fun R=>ag tz41) rfl fun fr b3 w3 q3 r=>q9 ?_;have h1:=keep q3.below (keep q2.below q1.at_)
  have h2:=keep q3.below q2.at_;have h3:=q3.at_;have e1:=q1.eq; have e2:=q2.eq; have e3:=q3.eq; have z1:=q1.size; have z2:=q2.size; have z3:=q3.size;have hB:=((hB.trans q1.below).trans (q2.below.mono kw)).trans (q3.below.mono kw)
  have zB:=hB.size;refine a9 (a9 (q5 (aa (zp b1) r (fun R=>az r (o:=0) rfl vT) rfl fun fr r=>?_)));refine aa (.bool false) r (fun R=>av r (v:=.bool false) rfl h1 to4 rfl) rfl fun fr r=>q9 ?_
  refine q4 (t:=false) (r.ev rfl) (fun h=>by cases h) (fun _=>q6 ?_);refine a9 (q5 (aa (.pointer (some ⟨b1,15,none⟩)) r (fun R=>az r (o:=0) rfl DD) rfl fun fr r=>kG (bk (⟨op,at_,a,b⟩:Access)) 4 r rfl h1 ta38 rfl rfl fun r=>aa (.func (.func 245) #[] #[zp b1,zp b2]) r (fun R=>aZ r rfl) rfl fun fr r=>?_))
  have hFb:∀ b,(fun b=>F b∨b=b1∨b=b2) b→b<w3.heap.size:=by rintro b (h | h | h); exact q8 (hF b h) hB.size; omega; omega
  have m1:¬ F1 b1:=fun h=>by have:=hF1 _ h; omega
  have m2:¬ F1 b2:=fun h=>by have:=hF1 _ h; omega
  refine kC r (iA (F:=fun b=>F b∨b=b1∨b=b2) (n:=n) hFb ⟨op,at_,a,b⟩ (a1:=fun x=>(k x).bind g) (show FnL y6 aA u64 n (fun b=>F b∨b=b1∨b=b2) w3 (kf 245 [] [zp b1,zp b2]) (fun x=>(k x).bind g) from
   ⟨245,[],[zp b1,zp b2],EB,rfl,fun m hm x w' hs hz=>yX (ih m hm) (fun b hb=>q8 (hFb b hb) hz) (fun b h=>.inl (s1 b h)) (fun b h=>.inl (s2 b h)) hdj m1 (hs.at_ (.inr (.inl rfl)) h1) m2 (hs.at_ (.inr (.inr rfl)) h2)
    (hk.mono kw (fun b h=>h) ((Same.below hB hF1).trans (hs.sub (fun b h=>.inl (s1 b h)))) (Nat.le_trans hB.size hz)) (hf.mono kw (fun b h=>h) ((Same.below hB hF2).trans (hs.sub (fun b h=>.inl (s2 b h)))) (Nat.le_trans hB.size hz)) x⟩)) rfl j3 rfl ?_
  rintro _ w4 ⟨v,rfl,hb,hr⟩;refine ⟨_,rfl,fun fr r=>?_⟩
  have z4:=hb.size;have n3:¬ (fun b=>F b∨b=b1∨b=b2) b3:=by rintro (h | h | h); (have:=hF _ h; omega); omega; omega
  have h3:=bc hb h3 n3;have hC:Chg F w0 w4:=(Chg.aT hB).bn hb yat
  refine kP r hr.shape rfl rfl h3 ts41 rfl rfl fun w5 u5 r=>q9 ?_;have z5:=u5.size
  have h3:=u5.at_;have hC:=hC.bm u5 (.inl kw)
  refine d9 ?_;have hs:=hr.shape.cells;refine ak r rfl rfl h3 (k:=8) hs.1 ta41 ?_;rw [←hs.2.2];exact aw.fin hC hr u5 yag n3 kw kw kw
theorem mr {n:Nat} {F F1 F2:Nat→Prop} {w0:World} (hF:∀ b,F b→b<w0.heap.size) (s1:∀ b,F1 b→F b) (s2:∀ b,F2 b→F b) (hdj:∀ b,F1 b→¬ F2 b) {t:T (Walk)} {pv fv:Value} {g:Walk→T (Res)} (hp:RepL y6 aK n t F1 w0 pv) (hf:FnL y6 aA argWalk (n+1) F2 w0 fv g) :
  Calls y6 157 #[pv,fv] w0 (aw y6 aA n (t.bind g) F w0):=za n hF s1 s2 hdj hp (hf.mono kw (fun b h=>h) (Same.refl _ _) (Nat.le_refl _)) (.inr hf)
def si (n:Nat):Prop:=∀ {F F1 F2:Nat→Prop} {w0:World},(∀ b,F b→b<w0.heap.size)→(∀ b,F1 b→F b)→(∀ b,F2 b→F b)→(∀ b,F1 b→¬ F2 b)→∀ {t:T (Unit)} {pv fv:Value} {g:Unit→T (Res)},RepL y6 aD n t F1 w0 pv→FnL y6 aA noneE n F2 w0 fv g→
  (t.bA=false∨FnL y6 aA noneE (n+1) F2 w0 fv g)→Calls y6 228 #[pv,fv] w0 (aw y6 aA n (t.bind g) F w0)
theorem zg {n:Nat} (ih:si n) {F F1 F2:Nat→Prop} {w0:World} (hF:∀ b,F b→b<w0.heap.size) (s1:∀ b,F1 b→F b) (s2:∀ b,F2 b→F b) (hdj:∀ b,F1 b→¬ F2 b) {op at_ a b:Int} {nf:FuncId} {n1 n2:List Value} {k:Int→T (Unit)} {ff:FuncId} {f1 f2:List Value} {g:Unit→T (Res)}
    {b1 b2:Nat} (m1:¬ F1 b1) (h1:w0.heap[b1]?=some (.cells (aC false aD.zero op at_ a b (kf nf n1 n2)) 133 (0,0))) (m2:¬ F1 b2) (h2:w0.heap[b2]?=some (.cells #[kf ff f1 f2] 265 (0,0)))
    (hk:FnL y6 aD u64 (n+1) F1 w0 (kf nf n1 n2) k) (hg:FnL y6 aA noneE (n+1) F2 w0 (kf ff f1 f2) g) (x:Int) :
    Calls y6 301 #[.int .u64 x,zp b1,zp b2] w0 (aw y6 aA n ((k x).bind g) F w0):=by
 refine kN Tryz.func301 rfl 11 rfl rfl fun fr r hB=>?_;have hF1:∀ b,F1 b→b<w0.heap.size:=fun b h=>hF b (s1 b h)
 have hF2:∀ b,F2 b→b<w0.heap.size:=fun b h=>hF b (s2 b h)
 refine a9 (q5 ?_);refine ah (.cells (kq aA) 41 (0,0)) r (fun R=>ag tz41) rfl fun fr b3 w1 q1 r=>wn ?_;have h1:=keep q1.below h1
 have h2:=keep q1.below h2;have e3:=q1.eq;have z1:=q1.size;have h3:=q1.at_;have hB:=hB.trans (q1.below.mono hB.size);have zB:=hB.size;have hk1:=hk.mono (Nat.le_refl _) (fun b h=>h) (Same.below hB hF1) hB.size
 have hF1':∀ b,F1 b→b<w1.heap.size:=fun b h=>q8 (hF1 b h) zB
 refine a9 ?_;refine iM 5 F1 [.val (.pointer (some ⟨b1,5,none⟩)),.val (kf nf n1 n2),.val (U x),.eff (StepE y6 aD n (k x) F1) (StepE.st hF1'),.val (kf ff f1 f2)] mixed r hF1' kz ?_ ?_
 ·
  refine cJ r rfl (fun fr1 g w' hk' hd r'=>?_) ?_
  · exact az r' (b:=b1) (o:=0) (k:=5) rfl lR bz
  refine cJ r rfl (fun fr1 g w' hk' hd r'=>?_) ?_
  · exact av r' (v:=kf nf n1 n2) (hd 0 rfl).1 (bc (drK hk') h1 m1) m9 rfl bz
  refine cJ r rfl (fun fr1 g w' hk' hd r'=>?_) ?_
  · exact ay r' (v:=.int .u64 x) rfl bz
  refine iF r rfl kz (fun fr1 g w' hb' hd r'=>?_) ?_
  ·
   have hb':Below w1.heap.size w1 w':=dr hb';refine dI r' (fs:=n1) (cs:=n2) (hd 1 rfl).1 (hd 2 rfl).1 hk1.at_.1 ((hk1.at_.2 n (Nat.lt_succ_self n) x w' (Same.below hb' hF1') hb'.size).mono ?_);rintro _ w2 ⟨v,rfl,hb2,hr2⟩;exact ⟨v,rfl,hb2.kept,hr2⟩
  refine cJ r rfl (fun fr1 g w' hk' hd r'=>?_) ?_
  · exact av r' (v:=kf ff f1 f2) rfl (bc (drK hk') h2 m2) wL rfl bz
  exact bS
 intro fr gg w2 hb hΦ _ r;have hr:RepL y6 aD n (k x) (fun b=>F1 b∨((gg 3).lo≤b∧b<(gg 3).hi)) w2 (gg 3).v:=(hΦ 3 rfl).1
 have hrg:=(hΦ 3 rfl).2;have r:=r.congr (sc ((hΦ 4 rfl).1) rfl);have z2:=hb.size;have hr3:¬ F1 b3:=fun h=>by have:=hF1 _ h; omega
 have h3:=bc hb h3 hr3;have hC:Chg F w0 w2:=(Chg.aT hB).bn hb fun b _ h=>s1 b h
 have zB2:=hC.size;have hS2:Same F2 w0 w2:=fun b h=>(hb.block b (q8 (hF2 b h) zB) fun h'=>hdj b h' h).trans (hB.block b (hF2 b h))
 have hFb:∀ b,(kW F w0 w2 b3) b→b<w2.heap.size:=by rintro b (h | h); exact q8 (hF b h) zB2; exact h.2.1
 refine kC r (ih (F:=fun b=>F b∨(w0.heap.size≤b∧b<w2.heap.size∧b≠b3)) (F1:=fun b=>F1 b∨((gg 3).lo≤b∧b<(gg 3).hi)) (F2:=F2) hFb yao (fun b h=>.inl (s2 b h))
  yap hr (hg.mono kw (fun b h=>h) hS2 zB2) (.inr (hg.mono (Nat.le_refl _) (fun b h=>h) hS2 zB2))) rfl rU rfl ?_
 rintro _ w3 ⟨v2,rfl,hb2,hr2⟩;refine ⟨_,rfl,fun fr r=>?_⟩
 have z3:=hb2.size;have hF3:¬ (kW F w0 w2 b3) b3:=by rintro (h | ⟨_,_,h⟩); (have:=hF _ h; omega); exact h rfl
 have h3:=bc hb2 h3 hF3;have hC:=hC.bn hb2 yad
 refine kP r hr2.shape rfl rfl h3 ts41 rfl rfl fun w4 u4 r=>wn ?_;have z4:=u4.size
 have h3:=u4.at_;have hC:=hC.bm u4 (.inl kw)
 refine d9 ?_;have hs:=hr2.shape.cells;refine ak r rfl rfl h3 (k:=8) hs.1 ta41 ?_;rw [←hs.2.2];exact aw.fin hC hr2 u4 yac hF3 kw kw kw
theorem zf (n:Nat):si n:=by
 induction n using Nat.strongRecOn with
 | _ n ih=>
 intro F F1 F2 w0 hF s1 s2 hdj t pv fv g hp hf hd;obtain ⟨ff,f1,f2,hcf,rfl,hff⟩:=id hf;have hF1:∀ b,F1 b→b<w0.heap.size:=fun b h=>hF b (s1 b h)
 have hF2:∀ b,F2 b→b<w0.heap.size:=fun b h=>hF b (s2 b h)
 cases t with
 | cut=>unfold RepL at hp; exact hp.elim
 | done x0=>
  have hf:=hd.resolve_left yaB
  unfold RepL at hp
  subst hp;refine enter (l:=[.agg (aC true (aD.cells x0) 0 0 0 0 .nilFunc),kf ff f1 f2]) Tryz.func228 rfl 15 rfl rfl fun fr r=>?_;have hB:=Below.refl w0.heap.size w0
  refine a9 (q5 ?_);refine kX 133 (.agg (aC true (aD.cells x0) 0 0 0 0 .nilFunc)) r rfl rfl fun b1 w1 q1 r=>?_;refine kX 265 (kf ff f1 f2) r rfl rfl fun b2 w2 q2 r=>?_
  refine ah (.cells (kq aA) 41 (0,0)) r (fun R=>ag tz41) rfl fun fr b3 w3 q3 r=>q9 ?_;have h1:=keep q3.below (keep q2.below q1.at_)
  have h2:=keep q3.below q2.at_;have h3:=q3.at_;have e1:=q1.eq; have e2:=q2.eq; have e3:=q3.eq; have z1:=q1.size; have z2:=q2.size; have z3:=q3.size;have hB:=((hB.trans q1.below).trans (q2.below.mono kw)).trans (q3.below.mono kw)
  have zB:=hB.size;refine a9 (a9 (q5 (aa (zp b1) r (fun R=>az r (o:=0) rfl eU) rfl fun fr r=>?_)));refine aa (.bool true) r (fun R=>av r (v:=.bool true) rfl h1 to4 rfl) rfl fun fr r=>q9 ?_
  refine q4 (t:=true) (r.ev rfl) (fun _=>?_) (fun h=>by cases h)
  refine a9 (q5 (aa (kf ff f1 f2) r (fun R=>av r (v:=kf ff f1 f2) rfl h2 wL rfl) rfl fun fr r=>?_));refine o9 b1 1 r (fun R=>ld r rfl m4 h1) rfl fun fr sp r=>aa (.agg #[]) r (fun R=>ll r rfl iY) rfl fun fr r=>?_
  refine cS r (hf.at_.2 n (Nat.lt_succ_self n) x0 w3 (Same.below hB hF2) hB.size) (fun R hc=>ek r rfl rfl hf.at_.1 hc) rfl ?_;rintro _ w4 ⟨v,rfl,hb,hr⟩
  refine ⟨_,rfl,fun fr r=>?_⟩
  have z4:=hb.size;have n3:¬ F2 b3:=fun h=>by have:=hF2 _ h; omega
  have h3:=bc hb h3 n3;have hC:Chg F w0 w4:=(Chg.aT hB).bn hb fun b _ h=>s2 b h
  refine kP r hr.shape rfl rfl h3 ts41 rfl rfl fun w5 u5 r=>q9 ?_;have z5:=u5.size
  have h3:=u5.at_;have hC:=hC.bm u5 (.inl kw)
  refine d9 ?_;have hs:=hr.shape.cells;refine ak r rfl rfl h3 (k:=8) hs.1 ta41 ?_;rw [←hs.2.2];exact aw.fin hC hr u5 (fun b hb=>.inl (s2 b hb)) n3 kw kw kw
 | act op at_ a b k=>
  obtain ⟨nf,n1,n2,hcn,rfl,hk⟩:∃ (nf:FuncId) (n1 n2:List Value),af y6 nf=true∧pv=.agg (aC false aD.zero op at_ a b (kf nf n1 n2))∧FnL y6 aD u64 n F1 w0 (kf nf n1 n2) k:=by
   exact RepL.dx hp
  refine enter (l:=[.agg (aC false aD.zero op at_ a b (kf nf n1 n2)),kf ff f1 f2]) Tryz.func228 rfl 15 rfl rfl fun fr r=>?_;have hB:=Below.refl w0.heap.size w0
  refine a9 (q5 ?_);refine kX 133 (.agg (aC false aD.zero op at_ a b (kf nf n1 n2))) r rfl rfl fun b1 w1 q1 r=>?_;refine kX 265 (kf ff f1 f2) r rfl rfl fun b2 w2 q2 r=>?_
  refine ah (.cells (kq aA) 41 (0,0)) r (fun R=>ag tz41) rfl fun fr b3 w3 q3 r=>q9 ?_;have h1:=keep q3.below (keep q2.below q1.at_)
  have h2:=keep q3.below q2.at_;have h3:=q3.at_;have e1:=q1.eq; have e2:=q2.eq; have e3:=q3.eq; have z1:=q1.size; have z2:=q2.size; have z3:=q3.size;have hB:=((hB.trans q1.below).trans (q2.below.mono kw)).trans (q3.below.mono kw)
  have zB:=hB.size;refine a9 (a9 (q5 (aa (zp b1) r (fun R=>az r (o:=0) rfl eU) rfl fun fr r=>?_)));refine aa (.bool false) r (fun R=>av r (v:=.bool false) rfl h1 to4 rfl) rfl fun fr r=>q9 ?_
  refine q4 (t:=false) (r.ev rfl) (fun h=>by cases h) (fun _=>q6 ?_);refine a9 (q5 (aa (.pointer (some ⟨b1,1,none⟩)) r (fun R=>az r (o:=0) rfl lQ) rfl fun fr r=>kG (bk (⟨op,at_,a,b⟩:Access)) 4 r rfl h1 ta38 rfl rfl fun r=>aa (.func (.func 301) #[] #[zp b1,zp b2]) r (fun R=>aZ r rfl) rfl fun fr r=>?_))
  have hFb:∀ b,(fun b=>F b∨b=b1∨b=b2) b→b<w3.heap.size:=by rintro b (h | h | h); exact q8 (hF b h) hB.size; omega; omega
  have m1:¬ F1 b1:=fun h=>by have:=hF1 _ h; omega
  have m2:¬ F1 b2:=fun h=>by have:=hF1 _ h; omega
  refine kC r (iA (F:=fun b=>F b∨b=b1∨b=b2) (n:=n) hFb ⟨op,at_,a,b⟩ (a1:=fun x=>(k x).bind g) (show FnL y6 aA u64 n (fun b=>F b∨b=b1∨b=b2) w3 (kf 301 [] [zp b1,zp b2]) (fun x=>(k x).bind g) from
   ⟨301,[],[zp b1,zp b2],Fx,rfl,fun m hm x w' hs hz=>zg (ih m hm) (fun b hb=>q8 (hFb b hb) hz) (fun b h=>.inl (s1 b h)) (fun b h=>.inl (s2 b h)) hdj m1 (hs.at_ (.inr (.inl rfl)) h1) m2 (hs.at_ (.inr (.inr rfl)) h2)
    (hk.mono kw (fun b h=>h) ((Same.below hB hF1).trans (hs.sub (fun b h=>.inl (s1 b h)))) (Nat.le_trans hB.size hz)) (hf.mono kw (fun b h=>h) ((Same.below hB hF2).trans (hs.sub (fun b h=>.inl (s2 b h)))) (Nat.le_trans hB.size hz)) x⟩)) rfl j3 rfl ?_
  rintro _ w4 ⟨v,rfl,hb,hr⟩;refine ⟨_,rfl,fun fr r=>?_⟩
  have z4:=hb.size;have n3:¬ (fun b=>F b∨b=b1∨b=b2) b3:=by rintro (h | h | h); (have:=hF _ h; omega); omega; omega
  have h3:=bc hb h3 n3;have hC:Chg F w0 w4:=(Chg.aT hB).bn hb yat
  refine kP r hr.shape rfl rfl h3 ts41 rfl rfl fun w5 u5 r=>q9 ?_;have z5:=u5.size
  have h3:=u5.at_;have hC:=hC.bm u5 (.inl kw)
  refine d9 ?_;have hs:=hr.shape.cells;refine ak r rfl rfl h3 (k:=8) hs.1 ta41 ?_;rw [←hs.2.2];exact aw.fin hC hr u5 yag n3 kw kw kw
theorem sq {n:Nat} {F F1 F2:Nat→Prop} {w0:World} (hF:∀ b,F b→b<w0.heap.size) (s1:∀ b,F1 b→F b) (s2:∀ b,F2 b→F b) (hdj:∀ b,F1 b→¬ F2 b) {t:T (Unit)} {pv fv:Value} {g:Unit→T (Res)} (hp:RepL y6 aD n t F1 w0 pv) (hf:FnL y6 aA noneE (n+1) F2 w0 fv g) :
  Calls y6 228 #[pv,fv] w0 (aw y6 aA n (t.bind g) F w0):=zf n hF s1 s2 hdj hp (hf.mono kw (fun b h=>h) (Same.refl _ _) (Nat.le_refl _)) (.inr hf)
def s8 (n:Nat):Prop:=∀ {F F1 F2:Nat→Prop} {w0:World},(∀ b,F b→b<w0.heap.size)→(∀ b,F1 b→F b)→(∀ b,F2 b→F b)→(∀ b,F1 b→¬ F2 b)→∀ {t:T (Unit)} {pv fv:Value} {g:Unit→T (Walk)},RepL y6 aD n t F1 w0 pv→FnL y6 aK noneE n F2 w0 fv g→
  (t.bA=false∨FnL y6 aK noneE (n+1) F2 w0 fv g)→Calls y6 363 #[pv,fv] w0 (aw y6 aK n (t.bind g) F w0)
theorem yJ {n:Nat} (ih:s8 n) {F F1 F2:Nat→Prop} {w0:World} (hF:∀ b,F b→b<w0.heap.size) (s1:∀ b,F1 b→F b) (s2:∀ b,F2 b→F b) (hdj:∀ b,F1 b→¬ F2 b) {op at_ a b:Int} {nf:FuncId} {n1 n2:List Value} {k:Int→T (Unit)} {ff:FuncId} {f1 f2:List Value} {g:Unit→T (Walk)}
    {b1 b2:Nat} (m1:¬ F1 b1) (h1:w0.heap[b1]?=some (.cells (aC false aD.zero op at_ a b (kf nf n1 n2)) 133 (0,0))) (m2:¬ F1 b2) (h2:w0.heap[b2]?=some (.cells #[kf ff f1 f2] 326 (0,0)))
    (hk:FnL y6 aD u64 (n+1) F1 w0 (kf nf n1 n2) k) (hg:FnL y6 aK noneE (n+1) F2 w0 (kf ff f1 f2) g) (x:Int) :
    Calls y6 387 #[.int .u64 x,zp b1,zp b2] w0 (aw y6 aK n ((k x).bind g) F w0):=by
 refine kN Tryz.func387 rfl 11 rfl rfl fun fr r hB=>?_;have hF1:∀ b,F1 b→b<w0.heap.size:=fun b h=>hF b (s1 b h)
 have hF2:∀ b,F2 b→b<w0.heap.size:=fun b h=>hF b (s2 b h)
 refine a9 (q5 ?_);refine ah (.cells (kq aK) 224 (0,0)) r (fun R=>ag cA) rfl fun fr b3 w1 q1 r=>wn ?_;have h1:=keep q1.below h1
 have h2:=keep q1.below h2;have e3:=q1.eq;have z1:=q1.size;have h3:=q1.at_;have hB:=hB.trans (q1.below.mono hB.size);have zB:=hB.size;have hk1:=hk.mono (Nat.le_refl _) (fun b h=>h) (Same.below hB hF1) hB.size
 have hF1':∀ b,F1 b→b<w1.heap.size:=fun b h=>q8 (hF1 b h) zB
 refine a9 ?_;refine iM 5 F1 [.val (.pointer (some ⟨b1,5,none⟩)),.val (kf nf n1 n2),.val (U x),.eff (StepE y6 aD n (k x) F1) (StepE.st hF1'),.val (kf ff f1 f2)] mixed r hF1' kz ?_ ?_
 ·
  refine cJ r rfl (fun fr1 g w' hk' hd r'=>?_) ?_
  · exact az r' (b:=b1) (o:=0) (k:=5) rfl lR bz
  refine cJ r rfl (fun fr1 g w' hk' hd r'=>?_) ?_
  · exact av r' (v:=kf nf n1 n2) (hd 0 rfl).1 (bc (drK hk') h1 m1) m9 rfl bz
  refine cJ r rfl (fun fr1 g w' hk' hd r'=>?_) ?_
  · exact ay r' (v:=.int .u64 x) rfl bz
  refine iF r rfl kz (fun fr1 g w' hb' hd r'=>?_) ?_
  ·
   have hb':Below w1.heap.size w1 w':=dr hb';refine dI r' (fs:=n1) (cs:=n2) (hd 1 rfl).1 (hd 2 rfl).1 hk1.at_.1 ((hk1.at_.2 n (Nat.lt_succ_self n) x w' (Same.below hb' hF1') hb'.size).mono ?_);rintro _ w2 ⟨v,rfl,hb2,hr2⟩;exact ⟨v,rfl,hb2.kept,hr2⟩
  refine cJ r rfl (fun fr1 g w' hk' hd r'=>?_) ?_
  · exact av r' (v:=kf ff f1 f2) rfl (bc (drK hk') h2 m2) xY rfl bz
  exact bS
 intro fr gg w2 hb hΦ _ r;have hr:RepL y6 aD n (k x) (fun b=>F1 b∨((gg 3).lo≤b∧b<(gg 3).hi)) w2 (gg 3).v:=(hΦ 3 rfl).1
 have hrg:=(hΦ 3 rfl).2;have r:=r.congr (sc ((hΦ 4 rfl).1) rfl);have z2:=hb.size;have hr3:¬ F1 b3:=fun h=>by have:=hF1 _ h; omega
 have h3:=bc hb h3 hr3;have hC:Chg F w0 w2:=(Chg.aT hB).bn hb fun b _ h=>s1 b h
 have zB2:=hC.size;have hS2:Same F2 w0 w2:=fun b h=>(hb.block b (q8 (hF2 b h) zB) fun h'=>hdj b h' h).trans (hB.block b (hF2 b h))
 have hFb:∀ b,(kW F w0 w2 b3) b→b<w2.heap.size:=by rintro b (h | h); exact q8 (hF b h) zB2; exact h.2.1
 refine kC r (ih (F:=fun b=>F b∨(w0.heap.size≤b∧b<w2.heap.size∧b≠b3)) (F1:=fun b=>F1 b∨((gg 3).lo≤b∧b<(gg 3).hi)) (F2:=F2) hFb yao (fun b h=>.inl (s2 b h))
  yap hr (hg.mono kw (fun b h=>h) hS2 zB2) (.inr (hg.mono (Nat.le_refl _) (fun b h=>h) hS2 zB2))) rfl xg rfl ?_
 rintro _ w3 ⟨v2,rfl,hb2,hr2⟩;refine ⟨_,rfl,fun fr r=>?_⟩
 have z3:=hb2.size;have hF3:¬ (kW F w0 w2 b3) b3:=by rintro (h | ⟨_,_,h⟩); (have:=hF _ h; omega); exact h rfl
 have h3:=bc hb2 h3 hF3;have hC:=hC.bn hb2 yad
 refine kP r hr2.shape rfl rfl h3 bY rfl rfl fun w4 u4 r=>wn ?_;have z4:=u4.size
 have h3:=u4.at_;have hC:=hC.bm u4 (.inl kw)
 refine d9 ?_;have hs:=hr2.shape.cells;refine ak r rfl rfl h3 (k:=20) hs.1 bZ ?_;rw [←hs.2.2];exact aw.fin hC hr2 u4 yac hF3 kw kw kw
theorem yM (n:Nat):s8 n:=by
 induction n using Nat.strongRecOn with
 | _ n ih=>
 intro F F1 F2 w0 hF s1 s2 hdj t pv fv g hp hf hd;obtain ⟨ff,f1,f2,hcf,rfl,hff⟩:=id hf;have hF1:∀ b,F1 b→b<w0.heap.size:=fun b h=>hF b (s1 b h)
 have hF2:∀ b,F2 b→b<w0.heap.size:=fun b h=>hF b (s2 b h)
 cases t with
 | cut=>unfold RepL at hp; exact hp.elim
 | done x0=>
  have hf:=hd.resolve_left yaB
  unfold RepL at hp
  subst hp;refine enter (l:=[.agg (aC true (aD.cells x0) 0 0 0 0 .nilFunc),kf ff f1 f2]) Tryz.func363 rfl 15 rfl rfl fun fr r=>?_;have hB:=Below.refl w0.heap.size w0
  refine a9 (q5 ?_);refine kX 133 (.agg (aC true (aD.cells x0) 0 0 0 0 .nilFunc)) r rfl rfl fun b1 w1 q1 r=>?_;refine kX 326 (kf ff f1 f2) r rfl rfl fun b2 w2 q2 r=>?_
  refine ah (.cells (kq aK) 224 (0,0)) r (fun R=>ag cA) rfl fun fr b3 w3 q3 r=>q9 ?_;have h1:=keep q3.below (keep q2.below q1.at_)
  have h2:=keep q3.below q2.at_;have h3:=q3.at_;have e1:=q1.eq; have e2:=q2.eq; have e3:=q3.eq; have z1:=q1.size; have z2:=q2.size; have z3:=q3.size;have hB:=((hB.trans q1.below).trans (q2.below.mono kw)).trans (q3.below.mono kw)
  have zB:=hB.size;refine a9 (a9 (q5 (aa (zp b1) r (fun R=>az r (o:=0) rfl eU) rfl fun fr r=>?_)));refine aa (.bool true) r (fun R=>av r (v:=.bool true) rfl h1 to4 rfl) rfl fun fr r=>q9 ?_
  refine q4 (t:=true) (r.ev rfl) (fun _=>?_) (fun h=>by cases h)
  refine a9 (q5 (aa (kf ff f1 f2) r (fun R=>av r (v:=kf ff f1 f2) rfl h2 xY rfl) rfl fun fr r=>?_));refine o9 b1 1 r (fun R=>ld r rfl m4 h1) rfl fun fr sp r=>aa (.agg #[]) r (fun R=>ll r rfl iY) rfl fun fr r=>?_
  refine cS r (hf.at_.2 n (Nat.lt_succ_self n) x0 w3 (Same.below hB hF2) hB.size) (fun R hc=>ek r rfl rfl hf.at_.1 hc) rfl ?_;rintro _ w4 ⟨v,rfl,hb,hr⟩
  refine ⟨_,rfl,fun fr r=>?_⟩
  have z4:=hb.size;have n3:¬ F2 b3:=fun h=>by have:=hF2 _ h; omega
  have h3:=bc hb h3 n3;have hC:Chg F w0 w4:=(Chg.aT hB).bn hb fun b _ h=>s2 b h
  refine kP r hr.shape rfl rfl h3 bY rfl rfl fun w5 u5 r=>q9 ?_;have z5:=u5.size
  have h3:=u5.at_;have hC:=hC.bm u5 (.inl kw)
  refine d9 ?_;have hs:=hr.shape.cells;refine ak r rfl rfl h3 (k:=20) hs.1 bZ ?_;rw [←hs.2.2];exact aw.fin hC hr u5 (fun b hb=>.inl (s2 b hb)) n3 kw kw kw
 | act op at_ a b k=>
  obtain ⟨nf,n1,n2,hcn,rfl,hk⟩:∃ (nf:FuncId) (n1 n2:List Value),af y6 nf=true∧pv=.agg (aC false aD.zero op at_ a b (kf nf n1 n2))∧FnL y6 aD u64 n F1 w0 (kf nf n1 n2) k:=by
   exact RepL.dx hp
  refine enter (l:=[.agg (aC false aD.zero op at_ a b (kf nf n1 n2)),kf ff f1 f2]) Tryz.func363 rfl 15 rfl rfl fun fr r=>?_;have hB:=Below.refl w0.heap.size w0
  refine a9 (q5 ?_);refine kX 133 (.agg (aC false aD.zero op at_ a b (kf nf n1 n2))) r rfl rfl fun b1 w1 q1 r=>?_;refine kX 326 (kf ff f1 f2) r rfl rfl fun b2 w2 q2 r=>?_
  refine ah (.cells (kq aK) 224 (0,0)) r (fun R=>ag cA) rfl fun fr b3 w3 q3 r=>q9 ?_;have h1:=keep q3.below (keep q2.below q1.at_)
  have h2:=keep q3.below q2.at_;have h3:=q3.at_;have e1:=q1.eq; have e2:=q2.eq; have e3:=q3.eq; have z1:=q1.size; have z2:=q2.size; have z3:=q3.size;have hB:=((hB.trans q1.below).trans (q2.below.mono kw)).trans (q3.below.mono kw)
  have zB:=hB.size;refine a9 (a9 (q5 (aa (zp b1) r (fun R=>az r (o:=0) rfl eU) rfl fun fr r=>?_)));refine aa (.bool false) r (fun R=>av r (v:=.bool false) rfl h1 to4 rfl) rfl fun fr r=>q9 ?_
  refine q4 (t:=false) (r.ev rfl) (fun h=>by cases h) (fun _=>q6 ?_);refine a9 (q5 (aa (.pointer (some ⟨b1,1,none⟩)) r (fun R=>az r (o:=0) rfl lQ) rfl fun fr r=>kG (bk (⟨op,at_,a,b⟩:Access)) 4 r rfl h1 ta38 rfl rfl fun r=>aa (.func (.func 387) #[] #[zp b1,zp b2]) r (fun R=>aZ r rfl) rfl fun fr r=>?_))
  have hFb:∀ b,(fun b=>F b∨b=b1∨b=b2) b→b<w3.heap.size:=by rintro b (h | h | h); exact q8 (hF b h) hB.size; omega; omega
  have m1:¬ F1 b1:=fun h=>by have:=hF1 _ h; omega
  have m2:¬ F1 b2:=fun h=>by have:=hF1 _ h; omega
  refine kC r (kQ (F:=fun b=>F b∨b=b1∨b=b2) (n:=n) hFb ⟨op,at_,a,b⟩ (a1:=fun x=>(k x).bind g) (show FnL y6 aK u64 n (fun b=>F b∨b=b1∨b=b2) w3 (kf 387 [] [zp b1,zp b2]) (fun x=>(k x).bind g) from
   ⟨387,[],[zp b1,zp b2],Gb,rfl,fun m hm x w' hs hz=>yJ (ih m hm) (fun b hb=>q8 (hFb b hb) hz) (fun b h=>.inl (s1 b h)) (fun b h=>.inl (s2 b h)) hdj m1 (hs.at_ (.inr (.inl rfl)) h1) m2 (hs.at_ (.inr (.inr rfl)) h2)
    (hk.mono kw (fun b h=>h) ((Same.below hB hF1).trans (hs.sub (fun b h=>.inl (s1 b h)))) (Nat.le_trans hB.size hz)) (hf.mono kw (fun b h=>h) ((Same.below hB hF2).trans (hs.sub (fun b h=>.inl (s2 b h)))) (Nat.le_trans hB.size hz)) x⟩)) rfl m7 rfl ?_
  rintro _ w4 ⟨v,rfl,hb,hr⟩;refine ⟨_,rfl,fun fr r=>?_⟩
  have z4:=hb.size;have n3:¬ (fun b=>F b∨b=b1∨b=b2) b3:=by rintro (h | h | h); (have:=hF _ h; omega); omega; omega
  have h3:=bc hb h3 n3;have hC:Chg F w0 w4:=(Chg.aT hB).bn hb yat
  refine kP r hr.shape rfl rfl h3 bY rfl rfl fun w5 u5 r=>q9 ?_;have z5:=u5.size
  have h3:=u5.at_;have hC:=hC.bm u5 (.inl kw)
  refine d9 ?_;have hs:=hr.shape.cells;refine ak r rfl rfl h3 (k:=20) hs.1 bZ ?_;rw [←hs.2.2];exact aw.fin hC hr u5 yag n3 kw kw kw
theorem yo {n:Nat} {F F1 F2:Nat→Prop} {w0:World} (hF:∀ b,F b→b<w0.heap.size) (s1:∀ b,F1 b→F b) (s2:∀ b,F2 b→F b) (hdj:∀ b,F1 b→¬ F2 b) {t:T (Unit)} {pv fv:Value} {g:Unit→T (Walk)} (hp:RepL y6 aD n t F1 w0 pv) (hf:FnL y6 aK noneE n F2 w0 fv g) (hd:t.bA=false) :
  Calls y6 363 #[pv,fv] w0 (aw y6 aK n (t.bind g) F w0):=yM n hF s1 s2 hdj hp hf (.inl hd)
def sx (n:Nat):Prop:=∀ {F F1 F2:Nat→Prop} {w0:World},(∀ b,F b→b<w0.heap.size)→(∀ b,F1 b→F b)→(∀ b,F2 b→F b)→(∀ b,F1 b→¬ F2 b)→∀ {t:T (Int)} {pv fv:Value} {g:Int→T (Res)},RepL y6 aj n t F1 w0 pv→FnL y6 aA i64 n F2 w0 fv g→
  (t.bA=false∨FnL y6 aA i64 (n+1) F2 w0 fv g)→Calls y6 140 #[pv,fv] w0 (aw y6 aA n (t.bind g) F w0)
theorem zj {n:Nat} (ih:sx n) {F F1 F2:Nat→Prop} {w0:World} (hF:∀ b,F b→b<w0.heap.size) (s1:∀ b,F1 b→F b) (s2:∀ b,F2 b→F b) (hdj:∀ b,F1 b→¬ F2 b) {op at_ a b:Int} {nf:FuncId} {n1 n2:List Value} {k:Int→T (Int)} {ff:FuncId} {f1 f2:List Value} {g:Int→T (Res)}
    {b1 b2:Nat} (m1:¬ F1 b1) (h1:w0.heap[b1]?=some (.cells (aC false aj.zero op at_ a b (kf nf n1 n2)) 119 (0,0))) (m2:¬ F1 b2) (h2:w0.heap[b2]?=some (.cells #[kf ff f1 f2] 213 (0,0)))
    (hk:FnL y6 aj u64 (n+1) F1 w0 (kf nf n1 n2) k) (hg:FnL y6 aA i64 (n+1) F2 w0 (kf ff f1 f2) g) (x:Int) :
    Calls y6 220 #[.int .u64 x,zp b1,zp b2] w0 (aw y6 aA n ((k x).bind g) F w0):=by
 refine kN Tryz.func220 rfl 11 rfl rfl fun fr r hB=>?_;have hF1:∀ b,F1 b→b<w0.heap.size:=fun b h=>hF b (s1 b h)
 have hF2:∀ b,F2 b→b<w0.heap.size:=fun b h=>hF b (s2 b h)
 refine a9 (q5 ?_);refine ah (.cells (kq aA) 41 (0,0)) r (fun R=>ag tz41) rfl fun fr b3 w1 q1 r=>wn ?_;have h1:=keep q1.below h1
 have h2:=keep q1.below h2;have e3:=q1.eq;have z1:=q1.size;have h3:=q1.at_;have hB:=hB.trans (q1.below.mono hB.size);have zB:=hB.size;have hk1:=hk.mono (Nat.le_refl _) (fun b h=>h) (Same.below hB hF1) hB.size
 have hF1':∀ b,F1 b→b<w1.heap.size:=fun b h=>q8 (hF1 b h) zB
 refine a9 ?_;refine iM 5 F1 [.val (.pointer (some ⟨b1,6,none⟩)),.val (kf nf n1 n2),.val (U x),.eff (StepE y6 aj n (k x) F1) (StepE.st hF1'),.val (kf ff f1 f2)] mixed r hF1' kz ?_ ?_
 ·
  refine cJ r rfl (fun fr1 g w' hk' hd r'=>?_) ?_
  · exact az r' (b:=b1) (o:=0) (k:=6) rfl ow bz
  refine cJ r rfl (fun fr1 g w' hk' hd r'=>?_) ?_
  · exact av r' (v:=kf nf n1 n2) (hd 0 rfl).1 (bc (drK hk') h1 m1) oN rfl bz
  refine cJ r rfl (fun fr1 g w' hk' hd r'=>?_) ?_
  · exact ay r' (v:=.int .u64 x) rfl bz
  refine iF r rfl kz (fun fr1 g w' hb' hd r'=>?_) ?_
  ·
   have hb':Below w1.heap.size w1 w':=dr hb';refine dI r' (fs:=n1) (cs:=n2) (hd 1 rfl).1 (hd 2 rfl).1 hk1.at_.1 ((hk1.at_.2 n (Nat.lt_succ_self n) x w' (Same.below hb' hF1') hb'.size).mono ?_);rintro _ w2 ⟨v,rfl,hb2,hr2⟩;exact ⟨v,rfl,hb2.kept,hr2⟩
  refine cJ r rfl (fun fr1 g w' hk' hd r'=>?_) ?_
  · exact av r' (v:=kf ff f1 f2) rfl (bc (drK hk') h2 m2) xh rfl bz
  exact bS
 intro fr gg w2 hb hΦ _ r;have hr:RepL y6 aj n (k x) (fun b=>F1 b∨((gg 3).lo≤b∧b<(gg 3).hi)) w2 (gg 3).v:=(hΦ 3 rfl).1
 have hrg:=(hΦ 3 rfl).2;have r:=r.congr (sc ((hΦ 4 rfl).1) rfl);have z2:=hb.size;have hr3:¬ F1 b3:=fun h=>by have:=hF1 _ h; omega
 have h3:=bc hb h3 hr3;have hC:Chg F w0 w2:=(Chg.aT hB).bn hb fun b _ h=>s1 b h
 have zB2:=hC.size;have hS2:Same F2 w0 w2:=fun b h=>(hb.block b (q8 (hF2 b h) zB) fun h'=>hdj b h' h).trans (hB.block b (hF2 b h))
 have hFb:∀ b,(kW F w0 w2 b3) b→b<w2.heap.size:=by rintro b (h | h); exact q8 (hF b h) zB2; exact h.2.1
 refine kC r (ih (F:=fun b=>F b∨(w0.heap.size≤b∧b<w2.heap.size∧b≠b3)) (F1:=fun b=>F1 b∨((gg 3).lo≤b∧b<(gg 3).hi)) (F2:=F2) hFb yao (fun b h=>.inl (s2 b h))
  yap hr (hg.mono kw (fun b h=>h) hS2 zB2) (.inr (hg.mono (Nat.le_refl _) (fun b h=>h) hS2 zB2))) rfl rO rfl ?_
 rintro _ w3 ⟨v2,rfl,hb2,hr2⟩;refine ⟨_,rfl,fun fr r=>?_⟩
 have z3:=hb2.size;have hF3:¬ (kW F w0 w2 b3) b3:=by rintro (h | ⟨_,_,h⟩); (have:=hF _ h; omega); exact h rfl
 have h3:=bc hb2 h3 hF3;have hC:=hC.bn hb2 yad
 refine kP r hr2.shape rfl rfl h3 ts41 rfl rfl fun w4 u4 r=>wn ?_;have z4:=u4.size
 have h3:=u4.at_;have hC:=hC.bm u4 (.inl kw)
 refine d9 ?_;have hs:=hr2.shape.cells;refine ak r rfl rfl h3 (k:=8) hs.1 ta41 ?_;rw [←hs.2.2];exact aw.fin hC hr2 u4 yac hF3 kw kw kw
theorem zl (n:Nat):sx n:=by
 induction n using Nat.strongRecOn with
 | _ n ih=>
 intro F F1 F2 w0 hF s1 s2 hdj t pv fv g hp hf hd;obtain ⟨ff,f1,f2,hcf,rfl,hff⟩:=id hf;have hF1:∀ b,F1 b→b<w0.heap.size:=fun b h=>hF b (s1 b h)
 have hF2:∀ b,F2 b→b<w0.heap.size:=fun b h=>hF b (s2 b h)
 cases t with
 | cut=>unfold RepL at hp; exact hp.elim
 | done x0=>
  have hf:=hd.resolve_left yaB
  unfold RepL at hp
  subst hp;refine enter (l:=[.agg (aC true (aj.cells x0) 0 0 0 0 .nilFunc),kf ff f1 f2]) Tryz.func140 rfl 15 rfl rfl fun fr r=>?_;have hB:=Below.refl w0.heap.size w0
  refine a9 (q5 ?_);refine kX 119 (.agg (aC true (aj.cells x0) 0 0 0 0 .nilFunc)) r rfl rfl fun b1 w1 q1 r=>?_;refine kX 213 (kf ff f1 f2) r rfl rfl fun b2 w2 q2 r=>?_
  refine ah (.cells (kq aA) 41 (0,0)) r (fun R=>ag tz41) rfl fun fr b3 w3 q3 r=>q9 ?_;have h1:=keep q3.below (keep q2.below q1.at_)
  have h2:=keep q3.below q2.at_;have h3:=q3.at_;have e1:=q1.eq; have e2:=q2.eq; have e3:=q3.eq; have z1:=q1.size; have z2:=q2.size; have z3:=q3.size;have hB:=((hB.trans q1.below).trans (q2.below.mono kw)).trans (q3.below.mono kw)
  have zB:=hB.size;refine a9 (a9 (q5 (aa (zp b1) r (fun R=>az r (o:=0) rfl gW) rfl fun fr r=>?_)));refine aa (.bool true) r (fun R=>av r (v:=.bool true) rfl h1 to4 rfl) rfl fun fr r=>q9 ?_
  refine q4 (t:=true) (r.ev rfl) (fun _=>?_) (fun h=>by cases h)
  refine a9 (q5 (aa (kf ff f1 f2) r (fun R=>av r (v:=kf ff f1 f2) rfl h2 xh rfl) rfl fun fr r=>aa (.pointer (some ⟨b1,1,none⟩)) r (fun R=>az r (o:=0) rfl om) rfl fun fr r=>aa (.int .i64 x0) r (fun R=>av r (v:=(.int .i64 x0)) rfl h1 to3 rfl) rfl fun fr r=>?_));refine cS r (hf.at_.2 n (Nat.lt_succ_self n) x0 w3 (Same.below hB hF2) hB.size) (fun R hc=>ek r rfl rfl hf.at_.1 hc) rfl ?_
  rintro _ w4 ⟨v,rfl,hb,hr⟩;refine ⟨_,rfl,fun fr r=>?_⟩
  have z4:=hb.size;have n3:¬ F2 b3:=fun h=>by have:=hF2 _ h; omega
  have h3:=bc hb h3 n3;have hC:Chg F w0 w4:=(Chg.aT hB).bn hb fun b _ h=>s2 b h
  refine kP r hr.shape rfl rfl h3 ts41 rfl rfl fun w5 u5 r=>q9 ?_;have z5:=u5.size
  have h3:=u5.at_;have hC:=hC.bm u5 (.inl kw)
  refine d9 ?_;have hs:=hr.shape.cells;refine ak r rfl rfl h3 (k:=8) hs.1 ta41 ?_;rw [←hs.2.2];exact aw.fin hC hr u5 (fun b hb=>.inl (s2 b hb)) n3 kw kw kw
 | act op at_ a b k=>
  obtain ⟨nf,n1,n2,hcn,rfl,hk⟩:∃ (nf:FuncId) (n1 n2:List Value),af y6 nf=true∧pv=.agg (aC false aj.zero op at_ a b (kf nf n1 n2))∧FnL y6 aj u64 n F1 w0 (kf nf n1 n2) k:=by
   exact RepL.dx hp
  refine enter (l:=[.agg (aC false aj.zero op at_ a b (kf nf n1 n2)),kf ff f1 f2]) Tryz.func140 rfl 15 rfl rfl fun fr r=>?_;have hB:=Below.refl w0.heap.size w0
  refine a9 (q5 ?_);refine kX 119 (.agg (aC false aj.zero op at_ a b (kf nf n1 n2))) r rfl rfl fun b1 w1 q1 r=>?_;refine kX 213 (kf ff f1 f2) r rfl rfl fun b2 w2 q2 r=>?_
  refine ah (.cells (kq aA) 41 (0,0)) r (fun R=>ag tz41) rfl fun fr b3 w3 q3 r=>q9 ?_;have h1:=keep q3.below (keep q2.below q1.at_)
  have h2:=keep q3.below q2.at_;have h3:=q3.at_;have e1:=q1.eq; have e2:=q2.eq; have e3:=q3.eq; have z1:=q1.size; have z2:=q2.size; have z3:=q3.size;have hB:=((hB.trans q1.below).trans (q2.below.mono kw)).trans (q3.below.mono kw)
  have zB:=hB.size;refine a9 (a9 (q5 (aa (zp b1) r (fun R=>az r (o:=0) rfl gW) rfl fun fr r=>?_)));refine aa (.bool false) r (fun R=>av r (v:=.bool false) rfl h1 to4 rfl) rfl fun fr r=>q9 ?_
  refine q4 (t:=false) (r.ev rfl) (fun h=>by cases h) (fun _=>q6 ?_);refine a9 (q5 (aa (.pointer (some ⟨b1,2,none⟩)) r (fun R=>az r (o:=0) rfl ou) rfl fun fr r=>kG (bk (⟨op,at_,a,b⟩:Access)) 4 r rfl h1 ta38 rfl rfl fun r=>aa (.func (.func 220) #[] #[zp b1,zp b2]) r (fun R=>aZ r rfl) rfl fun fr r=>?_))
  have hFb:∀ b,(fun b=>F b∨b=b1∨b=b2) b→b<w3.heap.size:=by rintro b (h | h | h); exact q8 (hF b h) hB.size; omega; omega
  have m1:¬ F1 b1:=fun h=>by have:=hF1 _ h; omega
  have m2:¬ F1 b2:=fun h=>by have:=hF1 _ h; omega
  refine kC r (iA (F:=fun b=>F b∨b=b1∨b=b2) (n:=n) hFb ⟨op,at_,a,b⟩ (a1:=fun x=>(k x).bind g) (show FnL y6 aA u64 n (fun b=>F b∨b=b1∨b=b2) w3 (kf 220 [] [zp b1,zp b2]) (fun x=>(k x).bind g) from
   ⟨220,[],[zp b1,zp b2],Gi,rfl,fun m hm x w' hs hz=>zj (ih m hm) (fun b hb=>q8 (hFb b hb) hz) (fun b h=>.inl (s1 b h)) (fun b h=>.inl (s2 b h)) hdj m1 (hs.at_ (.inr (.inl rfl)) h1) m2 (hs.at_ (.inr (.inr rfl)) h2)
    (hk.mono kw (fun b h=>h) ((Same.below hB hF1).trans (hs.sub (fun b h=>.inl (s1 b h)))) (Nat.le_trans hB.size hz)) (hf.mono kw (fun b h=>h) ((Same.below hB hF2).trans (hs.sub (fun b h=>.inl (s2 b h)))) (Nat.le_trans hB.size hz)) x⟩)) rfl j3 rfl ?_
  rintro _ w4 ⟨v,rfl,hb,hr⟩;refine ⟨_,rfl,fun fr r=>?_⟩
  have z4:=hb.size;have n3:¬ (fun b=>F b∨b=b1∨b=b2) b3:=by rintro (h | h | h); (have:=hF _ h; omega); omega; omega
  have h3:=bc hb h3 n3;have hC:Chg F w0 w4:=(Chg.aT hB).bn hb yat
  refine kP r hr.shape rfl rfl h3 ts41 rfl rfl fun w5 u5 r=>q9 ?_;have z5:=u5.size
  have h3:=u5.at_;have hC:=hC.bm u5 (.inl kw)
  refine d9 ?_;have hs:=hr.shape.cells;refine ak r rfl rfl h3 (k:=8) hs.1 ta41 ?_;rw [←hs.2.2];exact aw.fin hC hr u5 yag n3 kw kw kw
theorem sA {n:Nat} {F F1 F2:Nat→Prop} {w0:World} (hF:∀ b,F b→b<w0.heap.size) (s1:∀ b,F1 b→F b) (s2:∀ b,F2 b→F b) (hdj:∀ b,F1 b→¬ F2 b) {t:T (Int)} {pv fv:Value} {g:Int→T (Res)} (hp:RepL y6 aj n t F1 w0 pv) (hf:FnL y6 aA i64 (n+1) F2 w0 fv g) :
  Calls y6 140 #[pv,fv] w0 (aw y6 aA n (t.bind g) F w0):=zl n hF s1 s2 hdj hp (hf.mono kw (fun b h=>h) (Same.refl _ _) (Nat.le_refl _)) (.inr hf)
def sr (n:Nat):Prop:=∀ {F F1 F2:Nat→Prop} {w0:World},(∀ b,F b→b<w0.heap.size)→(∀ b,F1 b→F b)→(∀ b,F2 b→F b)→(∀ b,F1 b→¬ F2 b)→∀ {t:T (Int)} {pv fv:Value} {g:Int→T (Walk)},RepL y6 aj n t F1 w0 pv→FnL y6 aK i64 n F2 w0 fv g→
  (t.bA=false∨FnL y6 aK i64 (n+1) F2 w0 fv g)→Calls y6 390 #[pv,fv] w0 (aw y6 aK n (t.bind g) F w0)
theorem yZ {n:Nat} (ih:sr n) {F F1 F2:Nat→Prop} {w0:World} (hF:∀ b,F b→b<w0.heap.size) (s1:∀ b,F1 b→F b) (s2:∀ b,F2 b→F b) (hdj:∀ b,F1 b→¬ F2 b) {op at_ a b:Int} {nf:FuncId} {n1 n2:List Value} {k:Int→T (Int)} {ff:FuncId} {f1 f2:List Value} {g:Int→T (Walk)}
    {b1 b2:Nat} (m1:¬ F1 b1) (h1:w0.heap[b1]?=some (.cells (aC false aj.zero op at_ a b (kf nf n1 n2)) 119 (0,0))) (m2:¬ F1 b2) (h2:w0.heap[b2]?=some (.cells #[kf ff f1 f2] 306 (0,0)))
    (hk:FnL y6 aj u64 (n+1) F1 w0 (kf nf n1 n2) k) (hg:FnL y6 aK i64 (n+1) F2 w0 (kf ff f1 f2) g) (x:Int) :
    Calls y6 399 #[.int .u64 x,zp b1,zp b2] w0 (aw y6 aK n ((k x).bind g) F w0):=by
 refine kN Tryz.func399 rfl 11 rfl rfl fun fr r hB=>?_;have hF1:∀ b,F1 b→b<w0.heap.size:=fun b h=>hF b (s1 b h)
 have hF2:∀ b,F2 b→b<w0.heap.size:=fun b h=>hF b (s2 b h)
 refine a9 (q5 ?_);refine ah (.cells (kq aK) 224 (0,0)) r (fun R=>ag cA) rfl fun fr b3 w1 q1 r=>wn ?_;have h1:=keep q1.below h1
 have h2:=keep q1.below h2;have e3:=q1.eq;have z1:=q1.size;have h3:=q1.at_;have hB:=hB.trans (q1.below.mono hB.size);have zB:=hB.size;have hk1:=hk.mono (Nat.le_refl _) (fun b h=>h) (Same.below hB hF1) hB.size
 have hF1':∀ b,F1 b→b<w1.heap.size:=fun b h=>q8 (hF1 b h) zB
 refine a9 ?_;refine iM 5 F1 [.val (.pointer (some ⟨b1,6,none⟩)),.val (kf nf n1 n2),.val (U x),.eff (StepE y6 aj n (k x) F1) (StepE.st hF1'),.val (kf ff f1 f2)] mixed r hF1' kz ?_ ?_
 ·
  refine cJ r rfl (fun fr1 g w' hk' hd r'=>?_) ?_
  · exact az r' (b:=b1) (o:=0) (k:=6) rfl ow bz
  refine cJ r rfl (fun fr1 g w' hk' hd r'=>?_) ?_
  · exact av r' (v:=kf nf n1 n2) (hd 0 rfl).1 (bc (drK hk') h1 m1) oN rfl bz
  refine cJ r rfl (fun fr1 g w' hk' hd r'=>?_) ?_
  · exact ay r' (v:=.int .u64 x) rfl bz
  refine iF r rfl kz (fun fr1 g w' hb' hd r'=>?_) ?_
  ·
   have hb':Below w1.heap.size w1 w':=dr hb';refine dI r' (fs:=n1) (cs:=n2) (hd 1 rfl).1 (hd 2 rfl).1 hk1.at_.1 ((hk1.at_.2 n (Nat.lt_succ_self n) x w' (Same.below hb' hF1') hb'.size).mono ?_);rintro _ w2 ⟨v,rfl,hb2,hr2⟩;exact ⟨v,rfl,hb2.kept,hr2⟩
  refine cJ r rfl (fun fr1 g w' hk' hd r'=>?_) ?_
  · exact av r' (v:=kf ff f1 f2) rfl (bc (drK hk') h2 m2) xl rfl bz
  exact bS
 intro fr gg w2 hb hΦ _ r;have hr:RepL y6 aj n (k x) (fun b=>F1 b∨((gg 3).lo≤b∧b<(gg 3).hi)) w2 (gg 3).v:=(hΦ 3 rfl).1
 have hrg:=(hΦ 3 rfl).2;have r:=r.congr (sc ((hΦ 4 rfl).1) rfl);have z2:=hb.size;have hr3:¬ F1 b3:=fun h=>by have:=hF1 _ h; omega
 have h3:=bc hb h3 hr3;have hC:Chg F w0 w2:=(Chg.aT hB).bn hb fun b _ h=>s1 b h
 have zB2:=hC.size;have hS2:Same F2 w0 w2:=fun b h=>(hb.block b (q8 (hF2 b h) zB) fun h'=>hdj b h' h).trans (hB.block b (hF2 b h))
 have hFb:∀ b,(kW F w0 w2 b3) b→b<w2.heap.size:=by rintro b (h | h); exact q8 (hF b h) zB2; exact h.2.1
 refine kC r (ih (F:=fun b=>F b∨(w0.heap.size≤b∧b<w2.heap.size∧b≠b3)) (F1:=fun b=>F1 b∨((gg 3).lo≤b∧b<(gg 3).hi)) (F2:=F2) hFb yao (fun b h=>.inl (s2 b h))
  yap hr (hg.mono kw (fun b h=>h) hS2 zB2) (.inr (hg.mono (Nat.le_refl _) (fun b h=>h) hS2 zB2))) rfl wQ rfl ?_
 rintro _ w3 ⟨v2,rfl,hb2,hr2⟩;refine ⟨_,rfl,fun fr r=>?_⟩
 have z3:=hb2.size;have hF3:¬ (kW F w0 w2 b3) b3:=by rintro (h | ⟨_,_,h⟩); (have:=hF _ h; omega); exact h rfl
 have h3:=bc hb2 h3 hF3;have hC:=hC.bn hb2 yad
 refine kP r hr2.shape rfl rfl h3 bY rfl rfl fun w4 u4 r=>wn ?_;have z4:=u4.size
 have h3:=u4.at_;have hC:=hC.bm u4 (.inl kw)
 refine d9 ?_;have hs:=hr2.shape.cells;refine ak r rfl rfl h3 (k:=20) hs.1 bZ ?_;rw [←hs.2.2];exact aw.fin hC hr2 u4 yac hF3 kw kw kw
theorem yS (n:Nat):sr n:=by
 induction n using Nat.strongRecOn with
 | _ n ih=>
 intro F F1 F2 w0 hF s1 s2 hdj t pv fv g hp hf hd;obtain ⟨ff,f1,f2,hcf,rfl,hff⟩:=id hf;have hF1:∀ b,F1 b→b<w0.heap.size:=fun b h=>hF b (s1 b h)
 have hF2:∀ b,F2 b→b<w0.heap.size:=fun b h=>hF b (s2 b h)
 cases t with
 | cut=>unfold RepL at hp; exact hp.elim
 | done x0=>
  have hf:=hd.resolve_left yaB
  unfold RepL at hp
  subst hp;refine enter (l:=[.agg (aC true (aj.cells x0) 0 0 0 0 .nilFunc),kf ff f1 f2]) Tryz.func390 rfl 15 rfl rfl fun fr r=>?_;have hB:=Below.refl w0.heap.size w0
  refine a9 (q5 ?_);refine kX 119 (.agg (aC true (aj.cells x0) 0 0 0 0 .nilFunc)) r rfl rfl fun b1 w1 q1 r=>?_;refine kX 306 (kf ff f1 f2) r rfl rfl fun b2 w2 q2 r=>?_
  refine ah (.cells (kq aK) 224 (0,0)) r (fun R=>ag cA) rfl fun fr b3 w3 q3 r=>q9 ?_;have h1:=keep q3.below (keep q2.below q1.at_)
  have h2:=keep q3.below q2.at_;have h3:=q3.at_;have e1:=q1.eq; have e2:=q2.eq; have e3:=q3.eq; have z1:=q1.size; have z2:=q2.size; have z3:=q3.size;have hB:=((hB.trans q1.below).trans (q2.below.mono kw)).trans (q3.below.mono kw)
  have zB:=hB.size;refine a9 (a9 (q5 (aa (zp b1) r (fun R=>az r (o:=0) rfl gW) rfl fun fr r=>?_)));refine aa (.bool true) r (fun R=>av r (v:=.bool true) rfl h1 to4 rfl) rfl fun fr r=>q9 ?_
  refine q4 (t:=true) (r.ev rfl) (fun _=>?_) (fun h=>by cases h)
  refine a9 (q5 (aa (kf ff f1 f2) r (fun R=>av r (v:=kf ff f1 f2) rfl h2 xl rfl) rfl fun fr r=>aa (.pointer (some ⟨b1,1,none⟩)) r (fun R=>az r (o:=0) rfl om) rfl fun fr r=>aa (.int .i64 x0) r (fun R=>av r (v:=(.int .i64 x0)) rfl h1 to3 rfl) rfl fun fr r=>?_));refine cS r (hf.at_.2 n (Nat.lt_succ_self n) x0 w3 (Same.below hB hF2) hB.size) (fun R hc=>ek r rfl rfl hf.at_.1 hc) rfl ?_
  rintro _ w4 ⟨v,rfl,hb,hr⟩;refine ⟨_,rfl,fun fr r=>?_⟩
  have z4:=hb.size;have n3:¬ F2 b3:=fun h=>by have:=hF2 _ h; omega
  have h3:=bc hb h3 n3;have hC:Chg F w0 w4:=(Chg.aT hB).bn hb fun b _ h=>s2 b h
  refine kP r hr.shape rfl rfl h3 bY rfl rfl fun w5 u5 r=>q9 ?_;have z5:=u5.size
  have h3:=u5.at_;have hC:=hC.bm u5 (.inl kw)
  refine d9 ?_;have hs:=hr.shape.cells;refine ak r rfl rfl h3 (k:=20) hs.1 bZ ?_;rw [←hs.2.2];exact aw.fin hC hr u5 (fun b hb=>.inl (s2 b hb)) n3 kw kw kw
 | act op at_ a b k=>
  obtain ⟨nf,n1,n2,hcn,rfl,hk⟩:∃ (nf:FuncId) (n1 n2:List Value),af y6 nf=true∧pv=.agg (aC false aj.zero op at_ a b (kf nf n1 n2))∧FnL y6 aj u64 n F1 w0 (kf nf n1 n2) k:=by
   exact RepL.dx hp
  refine enter (l:=[.agg (aC false aj.zero op at_ a b (kf nf n1 n2)),kf ff f1 f2]) Tryz.func390 rfl 15 rfl rfl fun fr r=>?_;have hB:=Below.refl w0.heap.size w0
  refine a9 (q5 ?_);refine kX 119 (.agg (aC false aj.zero op at_ a b (kf nf n1 n2))) r rfl rfl fun b1 w1 q1 r=>?_;refine kX 306 (kf ff f1 f2) r rfl rfl fun b2 w2 q2 r=>?_
  refine ah (.cells (kq aK) 224 (0,0)) r (fun R=>ag cA) rfl fun fr b3 w3 q3 r=>q9 ?_;have h1:=keep q3.below (keep q2.below q1.at_)
  have h2:=keep q3.below q2.at_;have h3:=q3.at_;have e1:=q1.eq; have e2:=q2.eq; have e3:=q3.eq; have z1:=q1.size; have z2:=q2.size; have z3:=q3.size;have hB:=((hB.trans q1.below).trans (q2.below.mono kw)).trans (q3.below.mono kw)
  have zB:=hB.size;refine a9 (a9 (q5 (aa (zp b1) r (fun R=>az r (o:=0) rfl gW) rfl fun fr r=>?_)));refine aa (.bool false) r (fun R=>av r (v:=.bool false) rfl h1 to4 rfl) rfl fun fr r=>q9 ?_
  refine q4 (t:=false) (r.ev rfl) (fun h=>by cases h) (fun _=>q6 ?_);refine a9 (q5 (aa (.pointer (some ⟨b1,2,none⟩)) r (fun R=>az r (o:=0) rfl ou) rfl fun fr r=>kG (bk (⟨op,at_,a,b⟩:Access)) 4 r rfl h1 ta38 rfl rfl fun r=>aa (.func (.func 399) #[] #[zp b1,zp b2]) r (fun R=>aZ r rfl) rfl fun fr r=>?_))
  have hFb:∀ b,(fun b=>F b∨b=b1∨b=b2) b→b<w3.heap.size:=by rintro b (h | h | h); exact q8 (hF b h) hB.size; omega; omega
  have m1:¬ F1 b1:=fun h=>by have:=hF1 _ h; omega
  have m2:¬ F1 b2:=fun h=>by have:=hF1 _ h; omega
  refine kC r (kQ (F:=fun b=>F b∨b=b1∨b=b2) (n:=n) hFb ⟨op,at_,a,b⟩ (a1:=fun x=>(k x).bind g) (show FnL y6 aK u64 n (fun b=>F b∨b=b1∨b=b2) w3 (kf 399 [] [zp b1,zp b2]) (fun x=>(k x).bind g) from
   ⟨399,[],[zp b1,zp b2],Gv,rfl,fun m hm x w' hs hz=>yZ (ih m hm) (fun b hb=>q8 (hFb b hb) hz) (fun b h=>.inl (s1 b h)) (fun b h=>.inl (s2 b h)) hdj m1 (hs.at_ (.inr (.inl rfl)) h1) m2 (hs.at_ (.inr (.inr rfl)) h2)
    (hk.mono kw (fun b h=>h) ((Same.below hB hF1).trans (hs.sub (fun b h=>.inl (s1 b h)))) (Nat.le_trans hB.size hz)) (hf.mono kw (fun b h=>h) ((Same.below hB hF2).trans (hs.sub (fun b h=>.inl (s2 b h)))) (Nat.le_trans hB.size hz)) x⟩)) rfl m7 rfl ?_
  rintro _ w4 ⟨v,rfl,hb,hr⟩;refine ⟨_,rfl,fun fr r=>?_⟩
  have z4:=hb.size;have n3:¬ (fun b=>F b∨b=b1∨b=b2) b3:=by rintro (h | h | h); (have:=hF _ h; omega); omega; omega
  have h3:=bc hb h3 n3;have hC:Chg F w0 w4:=(Chg.aT hB).bn hb yat
  refine kP r hr.shape rfl rfl h3 bY rfl rfl fun w5 u5 r=>q9 ?_;have z5:=u5.size
  have h3:=u5.at_;have hC:=hC.bm u5 (.inl kw)
  refine d9 ?_;have hs:=hr.shape.cells;refine ak r rfl rfl h3 (k:=20) hs.1 bZ ?_;rw [←hs.2.2];exact aw.fin hC hr u5 yag n3 kw kw kw
theorem yq {n:Nat} {F F1 F2:Nat→Prop} {w0:World} (hF:∀ b,F b→b<w0.heap.size) (s1:∀ b,F1 b→F b) (s2:∀ b,F2 b→F b) (hdj:∀ b,F1 b→¬ F2 b) {t:T (Int)} {pv fv:Value} {g:Int→T (Walk)} (hp:RepL y6 aj n t F1 w0 pv) (hf:FnL y6 aK i64 (n+1) F2 w0 fv g) :
  Calls y6 390 #[pv,fv] w0 (aw y6 aK n (t.bind g) F w0):=yS n hF s1 s2 hdj hp (hf.mono kw (fun b h=>h) (Same.refl _ _) (Nat.le_refl _)) (.inr hf)
def s5 (n:Nat):Prop:=∀ {F F1 F2:Nat→Prop} {w0:World},(∀ b,F b→b<w0.heap.size)→(∀ b,F1 b→F b)→(∀ b,F2 b→F b)→(∀ b,F1 b→¬ F2 b)→∀ {t:T (Int)} {pv fv:Value} {g:Int→T (Walk)},RepL y6 bH n t F1 w0 pv→FnL y6 aK u64 n F2 w0 fv g→
  (t.bA=false∨FnL y6 aK u64 (n+1) F2 w0 fv g)→Calls y6 246 #[pv,fv] w0 (aw y6 aK n (t.bind g) F w0)
theorem yt {n:Nat} (ih:s5 n) {F F1 F2:Nat→Prop} {w0:World} (hF:∀ b,F b→b<w0.heap.size) (s1:∀ b,F1 b→F b) (s2:∀ b,F2 b→F b) (hdj:∀ b,F1 b→¬ F2 b) {op at_ a b:Int} {nf:FuncId} {n1 n2:List Value} {k:Int→T (Int)} {ff:FuncId} {f1 f2:List Value} {g:Int→T (Walk)}
    {b1 b2:Nat} (m1:¬ F1 b1) (h1:w0.heap[b1]?=some (.cells (aC false bH.zero op at_ a b (kf nf n1 n2)) 271 (0,0))) (m2:¬ F1 b2) (h2:w0.heap[b2]?=some (.cells #[kf ff f1 f2] 222 (0,0)))
    (hk:FnL y6 bH u64 (n+1) F1 w0 (kf nf n1 n2) k) (hg:FnL y6 aK u64 (n+1) F2 w0 (kf ff f1 f2) g) (x:Int) :
    Calls y6 312 #[.int .u64 x,zp b1,zp b2] w0 (aw y6 aK n ((k x).bind g) F w0):=by
 refine kN Tryz.func312 rfl 11 rfl rfl fun fr r hB=>?_;have hF1:∀ b,F1 b→b<w0.heap.size:=fun b h=>hF b (s1 b h)
 have hF2:∀ b,F2 b→b<w0.heap.size:=fun b h=>hF b (s2 b h)
 refine a9 (q5 ?_);refine ah (.cells (kq aK) 224 (0,0)) r (fun R=>ag cA) rfl fun fr b3 w1 q1 r=>wn ?_;have h1:=keep q1.below h1
 have h2:=keep q1.below h2;have e3:=q1.eq;have z1:=q1.size;have h3:=q1.at_;have hB:=hB.trans (q1.below.mono hB.size);have zB:=hB.size;have hk1:=hk.mono (Nat.le_refl _) (fun b h=>h) (Same.below hB hF1) hB.size
 have hF1':∀ b,F1 b→b<w1.heap.size:=fun b h=>q8 (hF1 b h) zB
 refine a9 ?_;refine iM 5 F1 [.val (.pointer (some ⟨b1,6,none⟩)),.val (kf nf n1 n2),.val (U x),.eff (StepE y6 bH n (k x) F1) (StepE.st hF1'),.val (kf ff f1 f2)] mixed r hF1' kz ?_ ?_
 ·
  refine cJ r rfl (fun fr1 g w' hk' hd r'=>?_) ?_
  · exact az r' (b:=b1) (o:=0) (k:=6) rfl Di bz
  refine cJ r rfl (fun fr1 g w' hk' hd r'=>?_) ?_
  · exact av r' (v:=kf nf n1 n2) (hd 0 rfl).1 (bc (drK hk') h1 m1) Fl rfl bz
  refine cJ r rfl (fun fr1 g w' hk' hd r'=>?_) ?_
  · exact ay r' (v:=.int .u64 x) rfl bz
  refine iF r rfl kz (fun fr1 g w' hb' hd r'=>?_) ?_
  ·
   have hb':Below w1.heap.size w1 w':=dr hb';refine dI r' (fs:=n1) (cs:=n2) (hd 1 rfl).1 (hd 2 rfl).1 hk1.at_.1 ((hk1.at_.2 n (Nat.lt_succ_self n) x w' (Same.below hb' hF1') hb'.size).mono ?_);rintro _ w2 ⟨v,rfl,hb2,hr2⟩;exact ⟨v,rfl,hb2.kept,hr2⟩
  refine cJ r rfl (fun fr1 g w' hk' hd r'=>?_) ?_
  · exact av r' (v:=kf ff f1 f2) rfl (bc (drK hk') h2 m2) rD rfl bz
  exact bS
 intro fr gg w2 hb hΦ _ r;have hr:RepL y6 bH n (k x) (fun b=>F1 b∨((gg 3).lo≤b∧b<(gg 3).hi)) w2 (gg 3).v:=(hΦ 3 rfl).1
 have hrg:=(hΦ 3 rfl).2;have r:=r.congr (sc ((hΦ 4 rfl).1) rfl);have z2:=hb.size;have hr3:¬ F1 b3:=fun h=>by have:=hF1 _ h; omega
 have h3:=bc hb h3 hr3;have hC:Chg F w0 w2:=(Chg.aT hB).bn hb fun b _ h=>s1 b h
 have zB2:=hC.size;have hS2:Same F2 w0 w2:=fun b h=>(hb.block b (q8 (hF2 b h) zB) fun h'=>hdj b h' h).trans (hB.block b (hF2 b h))
 have hFb:∀ b,(kW F w0 w2 b3) b→b<w2.heap.size:=by rintro b (h | h); exact q8 (hF b h) zB2; exact h.2.1
 refine kC r (ih (F:=fun b=>F b∨(w0.heap.size≤b∧b<w2.heap.size∧b≠b3)) (F1:=fun b=>F1 b∨((gg 3).lo≤b∧b<(gg 3).hi)) (F2:=F2) hFb yao (fun b h=>.inl (s2 b h))
  yap hr (hg.mono kw (fun b h=>h) hS2 zB2) (.inr (hg.mono (Nat.le_refl _) (fun b h=>h) hS2 zB2))) rfl xL rfl ?_
 rintro _ w3 ⟨v2,rfl,hb2,hr2⟩;refine ⟨_,rfl,fun fr r=>?_⟩
 have z3:=hb2.size;have hF3:¬ (kW F w0 w2 b3) b3:=by rintro (h | ⟨_,_,h⟩); (have:=hF _ h; omega); exact h rfl
 have h3:=bc hb2 h3 hF3;have hC:=hC.bn hb2 yad
 refine kP r hr2.shape rfl rfl h3 bY rfl rfl fun w4 u4 r=>wn ?_;have z4:=u4.size
 have h3:=u4.at_;have hC:=hC.bm u4 (.inl kw)
 refine d9 ?_;have hs:=hr2.shape.cells;refine ak r rfl rfl h3 (k:=20) hs.1 bZ ?_;rw [←hs.2.2];exact aw.fin hC hr2 u4 yac hF3 kw kw kw
theorem yp (n:Nat):s5 n:=by
 induction n using Nat.strongRecOn with
 | _ n ih=>
 intro F F1 F2 w0 hF s1 s2 hdj t pv fv g hp hf hd;obtain ⟨ff,f1,f2,hcf,rfl,hff⟩:=id hf;have hF1:∀ b,F1 b→b<w0.heap.size:=fun b h=>hF b (s1 b h)
 have hF2:∀ b,F2 b→b<w0.heap.size:=fun b h=>hF b (s2 b h)
 cases t with
 | cut=>unfold RepL at hp; exact hp.elim
 | done x0=>
  have hf:=hd.resolve_left yaB
  unfold RepL at hp
  subst hp;refine enter (l:=[.agg (aC true (bH.cells x0) 0 0 0 0 .nilFunc),kf ff f1 f2]) Tryz.func246 rfl 15 rfl rfl fun fr r=>?_;have hB:=Below.refl w0.heap.size w0
  refine a9 (q5 ?_);refine kX 271 (.agg (aC true (bH.cells x0) 0 0 0 0 .nilFunc)) r rfl rfl fun b1 w1 q1 r=>?_;refine kX 222 (kf ff f1 f2) r rfl rfl fun b2 w2 q2 r=>?_
  refine ah (.cells (kq aK) 224 (0,0)) r (fun R=>ag cA) rfl fun fr b3 w3 q3 r=>q9 ?_;have h1:=keep q3.below (keep q2.below q1.at_)
  have h2:=keep q3.below q2.at_;have h3:=q3.at_;have e1:=q1.eq; have e2:=q2.eq; have e3:=q3.eq; have z1:=q1.size; have z2:=q2.size; have z3:=q3.size;have hB:=((hB.trans q1.below).trans (q2.below.mono kw)).trans (q3.below.mono kw)
  have zB:=hB.size;refine a9 (a9 (q5 (aa (zp b1) r (fun R=>az r (o:=0) rfl vN) rfl fun fr r=>?_)));refine aa (.bool true) r (fun R=>av r (v:=.bool true) rfl h1 to4 rfl) rfl fun fr r=>q9 ?_
  refine q4 (t:=true) (r.ev rfl) (fun _=>?_) (fun h=>by cases h)
  refine a9 (q5 (aa (kf ff f1 f2) r (fun R=>av r (v:=kf ff f1 f2) rfl h2 rD rfl) rfl fun fr r=>aa (.pointer (some ⟨b1,1,none⟩)) r (fun R=>az r (o:=0) rfl D8) rfl fun fr r=>aa (.int .u64 x0) r (fun R=>av r (v:=(.int .u64 x0)) rfl h1 to34 rfl) rfl fun fr r=>?_));refine cS r (hf.at_.2 n (Nat.lt_succ_self n) x0 w3 (Same.below hB hF2) hB.size) (fun R hc=>ek r rfl rfl hf.at_.1 hc) rfl ?_
  rintro _ w4 ⟨v,rfl,hb,hr⟩;refine ⟨_,rfl,fun fr r=>?_⟩
  have z4:=hb.size;have n3:¬ F2 b3:=fun h=>by have:=hF2 _ h; omega
  have h3:=bc hb h3 n3;have hC:Chg F w0 w4:=(Chg.aT hB).bn hb fun b _ h=>s2 b h
  refine kP r hr.shape rfl rfl h3 bY rfl rfl fun w5 u5 r=>q9 ?_;have z5:=u5.size
  have h3:=u5.at_;have hC:=hC.bm u5 (.inl kw)
  refine d9 ?_;have hs:=hr.shape.cells;refine ak r rfl rfl h3 (k:=20) hs.1 bZ ?_;rw [←hs.2.2];exact aw.fin hC hr u5 (fun b hb=>.inl (s2 b hb)) n3 kw kw kw
 | act op at_ a b k=>
  obtain ⟨nf,n1,n2,hcn,rfl,hk⟩:∃ (nf:FuncId) (n1 n2:List Value),af y6 nf=true∧pv=.agg (aC false bH.zero op at_ a b (kf nf n1 n2))∧FnL y6 bH u64 n F1 w0 (kf nf n1 n2) k:=by
   exact RepL.dx hp
  refine enter (l:=[.agg (aC false bH.zero op at_ a b (kf nf n1 n2)),kf ff f1 f2]) Tryz.func246 rfl 15 rfl rfl fun fr r=>?_;have hB:=Below.refl w0.heap.size w0
  refine a9 (q5 ?_);refine kX 271 (.agg (aC false bH.zero op at_ a b (kf nf n1 n2))) r rfl rfl fun b1 w1 q1 r=>?_;refine kX 222 (kf ff f1 f2) r rfl rfl fun b2 w2 q2 r=>?_
  refine ah (.cells (kq aK) 224 (0,0)) r (fun R=>ag cA) rfl fun fr b3 w3 q3 r=>q9 ?_;have h1:=keep q3.below (keep q2.below q1.at_)
  have h2:=keep q3.below q2.at_;have h3:=q3.at_;have e1:=q1.eq; have e2:=q2.eq; have e3:=q3.eq; have z1:=q1.size; have z2:=q2.size; have z3:=q3.size;have hB:=((hB.trans q1.below).trans (q2.below.mono kw)).trans (q3.below.mono kw)
  have zB:=hB.size;refine a9 (a9 (q5 (aa (zp b1) r (fun R=>az r (o:=0) rfl vN) rfl fun fr r=>?_)));refine aa (.bool false) r (fun R=>av r (v:=.bool false) rfl h1 to4 rfl) rfl fun fr r=>q9 ?_
  refine q4 (t:=false) (r.ev rfl) (fun h=>by cases h) (fun _=>q6 ?_);refine a9 (q5 (aa (.pointer (some ⟨b1,2,none⟩)) r (fun R=>az r (o:=0) rfl D7) rfl fun fr r=>kG (bk (⟨op,at_,a,b⟩:Access)) 4 r rfl h1 ta38 rfl rfl fun r=>aa (.func (.func 312) #[] #[zp b1,zp b2]) r (fun R=>aZ r rfl) rfl fun fr r=>?_))
  have hFb:∀ b,(fun b=>F b∨b=b1∨b=b2) b→b<w3.heap.size:=by rintro b (h | h | h); exact q8 (hF b h) hB.size; omega; omega
  have m1:¬ F1 b1:=fun h=>by have:=hF1 _ h; omega
  have m2:¬ F1 b2:=fun h=>by have:=hF1 _ h; omega
  refine kC r (kQ (F:=fun b=>F b∨b=b1∨b=b2) (n:=n) hFb ⟨op,at_,a,b⟩ (a1:=fun x=>(k x).bind g) (show FnL y6 aK u64 n (fun b=>F b∨b=b1∨b=b2) w3 (kf 312 [] [zp b1,zp b2]) (fun x=>(k x).bind g) from
   ⟨312,[],[zp b1,zp b2],Fj,rfl,fun m hm x w' hs hz=>yt (ih m hm) (fun b hb=>q8 (hFb b hb) hz) (fun b h=>.inl (s1 b h)) (fun b h=>.inl (s2 b h)) hdj m1 (hs.at_ (.inr (.inl rfl)) h1) m2 (hs.at_ (.inr (.inr rfl)) h2)
    (hk.mono kw (fun b h=>h) ((Same.below hB hF1).trans (hs.sub (fun b h=>.inl (s1 b h)))) (Nat.le_trans hB.size hz)) (hf.mono kw (fun b h=>h) ((Same.below hB hF2).trans (hs.sub (fun b h=>.inl (s2 b h)))) (Nat.le_trans hB.size hz)) x⟩)) rfl m7 rfl ?_
  rintro _ w4 ⟨v,rfl,hb,hr⟩;refine ⟨_,rfl,fun fr r=>?_⟩
  have z4:=hb.size;have n3:¬ (fun b=>F b∨b=b1∨b=b2) b3:=by rintro (h | h | h); (have:=hF _ h; omega); omega; omega
  have h3:=bc hb h3 n3;have hC:Chg F w0 w4:=(Chg.aT hB).bn hb yat
  refine kP r hr.shape rfl rfl h3 bY rfl rfl fun w5 u5 r=>q9 ?_;have z5:=u5.size
  have h3:=u5.at_;have hC:=hC.bm u5 (.inl kw)
  refine d9 ?_;have hs:=hr.shape.cells;refine ak r rfl rfl h3 (k:=20) hs.1 bZ ?_;rw [←hs.2.2];exact aw.fin hC hr u5 yag n3 kw kw kw
theorem yf {n:Nat} {F F1 F2:Nat→Prop} {w0:World} (hF:∀ b,F b→b<w0.heap.size) (s1:∀ b,F1 b→F b) (s2:∀ b,F2 b→F b) (hdj:∀ b,F1 b→¬ F2 b) {t:T (Int)} {pv fv:Value} {g:Int→T (Walk)} (hp:RepL y6 bH n t F1 w0 pv) (hf:FnL y6 aK u64 n F2 w0 fv g) (hd:t.bA=false) :
  Calls y6 246 #[pv,fv] w0 (aw y6 aK n (t.bind g) F w0):=yp n hF s1 s2 hdj hp hf (.inl hd)
end
end Go.Proofs.YtbbipmelhmgmfaaGreat

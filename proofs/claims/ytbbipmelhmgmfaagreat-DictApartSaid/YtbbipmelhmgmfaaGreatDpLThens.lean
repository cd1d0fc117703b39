/- Ours. -/
import Derived.Test.YtbbipmelhmgmfaaGreatDpLoud
import Derived.Test.YtbbipmelhmgmfaaGreatDpM16
set_option linter.all false
set_option maxRecDepth 100000
set_option maxHeartbeats 20000000
namespace Go.Proofs.YtbbipmelhmgmfaaGreat
open Go.RowKit
section
variable {n : Nat} {F : Nat → Prop} {j : Nat} {w0 : World}
theorem zqD:zpf ar 157:=kz
theorem zsJ:zpf ar 245:=kz
theorem zrZ:zpf ar 246:=kz
theorem zqL:zpf ar 311:=kz
theorem ztt:zpf ar 312:=kz
theorem zsg:zpf ar 363:=kz
theorem zuh:zpf ar 387:=kz
theorem zsf:zpf ar 390:=kz
theorem ztR:zpf ar 399:=kz
theorem zn8:zpq ar 224 0 0:=kz
theorem zoX:zpq ar 224 1 1:=kz
theorem zoR:zpq ar 224 2 15:=kz
theorem zoU:zpq ar 224 3 19:=kz
theorem zq5:tyA ar 221 14:=kz
theorem zpU:tyA ar 224 20:=kz
theorem zrl:tyO ar 222:=kz
theorem zrW:tyO ar 228:=kz
theorem zsk:tyO ar 306:=kz
theorem zrR:tyO ar 326:=kz
theorem zpV:sized ar 224 20:=kz
theorem zpX:zeroOf ar 224=some (.agg (kq zpo)):=kz
theorem zgl (hF:kH F w0)
    (a0:Res) :
    Calls ar 15 #[aq (resC a0)] w0 (zpj ar zpn n (D.zfS a0) F w0):=by
 refine kN Tryz.func15 rfl 5 rfl rfl fun fr r hB=>?_;refine wsr ?_
 refine kX 36 (aq (resC a0)) r rfl rfl fun b1 w2 n3 r=>?_;obtain ⟨E1,Z2,H1,hB,zB⟩:=n3.all hB
 refine za7 (.cells (kq zpn) 41 (0,0)) r (fun R=>za6 tz41) rfl fun fr b4 w5 n6 r=>?_;have H1:=keep n6.below H1
 obtain ⟨E4,Z5,H4,hB,zB⟩:=n6.all hB;refine wn (wsr (kG (resC a0) 2 r rfl H1 ta36 rfl rfl fun r=>kU (.agg (zph true (zpn.cells a0) 0 0 0 0 .nilFunc)) r kz rfl fun r=>?_));refine zaD (.cells (zph true (zpn.cells a0) 0 0 0 0 .nilFunc) 41 (0,0)) r (fun R=>zax r (o:=0) (v:=(.agg (zph true (zpn.cells a0) 0 0 0 0 .nilFunc))) rfl rfl H4 ts41 ak rfl rfl) rfl fun fr w7 u8 r=>?_
 have Z7:=u8.size;have H1:=u8.keep H1 kw
 have H4:=u8.at_;obtain ⟨hB,zB⟩:=u8.on hB kw
 refine wn (ac ?_);refine za5 r rfl rfl H4 (k:=8) rfl ta41 ?_;exact ⟨_,rfl,(Chg.zpv hB),RepL.zgO⟩
theorem zcf (hF:kH F w0)
    (a0:Access) {a1f:FuncId} {aG aH:List Value} {a1:(Int→T Res)} (a1n:FnL ar zpn u64 (n) F w0 (kf a1f aG aH) a1) :
    Calls ar 177 #[aq (zpu a0),kf a1f aG aH] w0 (zpj ar zpn n (D.zgb a0 a1) F w0):=by
 refine kN Tryz.func177 rfl 8 rfl rfl fun fr r hB=>?_;refine wsr ?_
 refine kX 38 (aq (zpu a0)) r rfl rfl fun b1 w2 n3 r=>?_;obtain ⟨E1,Z2,H1,hB,zB⟩:=n3.all hB
 refine za7 (.cells (kq zpn) 41 (0,0)) r (fun R=>za6 tz41) rfl fun fr b4 w5 n6 r=>?_;have H1:=keep n6.below H1
 obtain ⟨E4,Z5,H4,hB,zB⟩:=n6.all hB;refine wn (wsr (kG (zpu a0) 4 r rfl H1 ta38 rfl rfl fun r=>kM (kf a1f aG aH) r rfl rfl fun r=>kU (.agg (zph false zpn.zero a0.op a0.at_ a0.a a0.b (kf a1f aG aH))) r kz rfl fun r=>?_));refine zaD (.cells (zph false zpn.zero a0.op a0.at_ a0.a a0.b (kf a1f aG aH)) 41 (0,0)) r (fun R=>zax r (o:=0) (v:=(.agg (zph false zpn.zero a0.op a0.at_ a0.a a0.b (kf a1f aG aH)))) rfl rfl H4 ts41 ak rfl rfl) rfl fun fr w7 u8 r=>?_
 have Z7:=u8.size;have H1:=u8.keep H1 kw
 have H4:=u8.at_;obtain ⟨hB,zB⟩:=u8.on hB kw
 refine wn (ac ?_);refine za5 r rfl rfl H4 (k:=8) rfl ta41 ?_;exact ⟨_,rfl,(Chg.zpv hB),RepL.ziT (a1n.mono (Nat.le_refl _) (fun b hb=>.inl hb) (Same.below hB hF) hB.size)⟩
def D.zcE (a0:Walk):T Walk:=(T.done a0)
theorem zfG (hF:kH F w0)
    (a0:Walk) :
    Calls ar 316 #[aq (zpF a0)] w0 (zpj ar zpo n (D.zcE a0) F w0):=by
 refine kN Tryz.func316 rfl 5 rfl rfl fun fr r hB=>?_;refine wsr ?_
 refine kX 221 (aq (zpF a0)) r rfl rfl fun b1 w2 n3 r=>?_;obtain ⟨E1,Z2,H1,hB,zB⟩:=n3.all hB
 refine za7 (.cells (kq zpo) 224 (0,0)) r (fun R=>za6 zpX) rfl fun fr b4 w5 n6 r=>?_;have H1:=keep n6.below H1
 obtain ⟨E4,Z5,H4,hB,zB⟩:=n6.all hB;refine wn (wsr (kG (zpF a0) 14 r rfl H1 zq5 rfl rfl fun r=>kU (.agg (zph true (zpo.cells a0) 0 0 0 0 .nilFunc)) r kz rfl fun r=>?_));refine zaD (.cells (zph true (zpo.cells a0) 0 0 0 0 .nilFunc) 224 (0,0)) r (fun R=>zax r (o:=0) (v:=(.agg (zph true (zpo.cells a0) 0 0 0 0 .nilFunc))) rfl rfl H4 zpV ak rfl (zkQ rfl)) rfl fun fr w7 u8 r=>?_
 have Z7:=u8.size;have H1:=u8.keep H1 kw
 have H4:=u8.at_;obtain ⟨hB,zB⟩:=u8.on hB kw
 refine wn (ac ?_);refine za5 r rfl rfl H4 (k:=20) rfl zpU ?_;exact ⟨_,rfl,(Chg.zpv hB),RepL.zgO⟩
def D.zh6 (a0:Access) (a1:(Int→T Walk)):T Walk:=(T.act a0.op a0.at_ a0.a a0.b a1)
theorem zcT (hF:kH F w0)
    (a0:Access) {a1f:FuncId} {aG aH:List Value} {a1:(Int→T Walk)} (a1n:FnL ar zpo u64 (n) F w0 (kf a1f aG aH) a1) :
    Calls ar 311 #[aq (zpu a0),kf a1f aG aH] w0 (zpj ar zpo n (D.zh6 a0 a1) F w0):=by
 refine kN Tryz.func311 rfl 8 rfl rfl fun fr r hB=>?_;refine wsr ?_
 refine kX 38 (aq (zpu a0)) r rfl rfl fun b1 w2 n3 r=>?_;obtain ⟨E1,Z2,H1,hB,zB⟩:=n3.all hB
 refine za7 (.cells (kq zpo) 224 (0,0)) r (fun R=>za6 zpX) rfl fun fr b4 w5 n6 r=>?_;have H1:=keep n6.below H1
 obtain ⟨E4,Z5,H4,hB,zB⟩:=n6.all hB;refine wn (wsr (kG (zpu a0) 4 r rfl H1 ta38 rfl rfl fun r=>kM (kf a1f aG aH) r rfl rfl fun r=>kU (.agg (zph false zpo.zero a0.op a0.at_ a0.a a0.b (kf a1f aG aH))) r kz rfl fun r=>?_));refine zaD (.cells (zph false zpo.zero a0.op a0.at_ a0.a a0.b (kf a1f aG aH)) 224 (0,0)) r (fun R=>zax r (o:=0) (v:=(.agg (zph false zpo.zero a0.op a0.at_ a0.a a0.b (kf a1f aG aH)))) rfl rfl H4 zpV ak rfl (zkQ rfl)) rfl fun fr w7 u8 r=>?_
 have Z7:=u8.size;have H1:=u8.keep H1 kw
 have H4:=u8.at_;obtain ⟨hB,zB⟩:=u8.on hB kw
 refine wn (ac ?_);refine za5 r rfl rfl H4 (k:=20) rfl zpU ?_;exact ⟨_,rfl,(Chg.zpv hB),RepL.ziT (a1n.mono (Nat.le_refl _) (fun b hb=>.inl hb) (Same.below hB hF) hB.size)⟩
def zdl (n:Nat):Prop:=∀ {F F1 F2:Nat→Prop} {w0:World},(∀ b,F b→b<w0.heap.size)→(∀ b,F1 b→F b)→(∀ b,F2 b→F b)→(∀ b,F1 b→¬ F2 b)→∀ {t:T (Grant)} {pv fv:Value} {g:Grant→T (Res)},RepL ar zpt n t F1 w0 pv→FnL ar zpn argGrant n F2 w0 fv g→
  (t.zpB=false∨FnL ar zpn argGrant (n+1) F2 w0 fv g)→Calls ar 130 #[pv,fv] w0 (zpj ar zpn n (t.bind g) F w0)
theorem zgr {n:Nat} (ih:zdl n) {F F1 F2:Nat→Prop} {w0:World} (hF:∀ b,F b→b<w0.heap.size) (s1:∀ b,F1 b→F b) (s2:∀ b,F2 b→F b) (hdj:∀ b,F1 b→¬ F2 b) {op at_ a b:Int} {nf:FuncId} {n1 n2:List Value} {k:Int→T (Grant)} {ff:FuncId} {f1 f2:List Value} {g:Grant→T (Res)}
    {b1 b2:Nat} (m1:¬ F1 b1) (h1:w0.heap[b1]?=some (.cells (zph false zpt.zero op at_ a b (kf nf n1 n2)) 116 (0,0))) (m2:¬ F1 b2) (h2:w0.heap[b2]?=some (.cells #[kf ff f1 f2] 207 (0,0)))
    (hk:FnL ar zpt u64 (n+1) F1 w0 (kf nf n1 n2) k) (hg:FnL ar zpn argGrant (n+1) F2 w0 (kf ff f1 f2) g) (x:Int) :
    Calls ar 215 #[.int .u64 x,zp b1,zp b2] w0 (zpj ar zpn n ((k x).bind g) F w0):=by
 refine kN Tryz.func215 rfl 11 rfl rfl fun fr r hB=>?_;have hF1:∀ b,F1 b→b<w0.heap.size:=fun b h=>hF b (s1 b h)
 have hF2:∀ b,F2 b→b<w0.heap.size:=fun b h=>hF b (s2 b h)
 refine aa (af ?_);refine za7 (.cells (kq zpn) 41 (0,0)) r (fun R=>za6 tz41) rfl fun fr b3 w1 q1 r=>wn ?_;have h1:=keep q1.below h1
 have h2:=keep q1.below h2;have e3:=q1.eq;have z1:=q1.size;have h3:=q1.at_;have hB:=hB.trans (q1.below.mono hB.size);have zB:=hB.size;have hk1:=hk.mono (Nat.le_refl _) (fun b h=>h) (Same.below hB hF1) hB.size
 have hF1':∀ b,F1 b→b<w1.heap.size:=fun b h=>ai (hF1 b h) zB
 refine aa ?_;refine zeq 5 F1 [.val (.pointer (some ⟨b1,8,none⟩)),.val (kf nf n1 n2),.val (U x),.eff (StepE ar zpt n (k x) F1) (StepE.st hF1'),.val (kf ff f1 f2)] mixed r hF1' kz ?_ ?_
 ·
  refine zaW r rfl (fun fr1 g w' hk' hd r'=>?_) ?_
  · exact za3 r' (b:=b1) (o:=0) (k:=8) rfl zoM bz
  refine zaW r rfl (fun fr1 g w' hk' hd r'=>?_) ?_
  · exact za4 r' (v:=kf nf n1 n2) (hd 0 rfl).1 (zpE (drK hk') h1 m1) ztU rfl bz
  refine zaW r rfl (fun fr1 g w' hk' hd r'=>?_) ?_
  · exact zar r' (v:=.int .u64 x) rfl bz
  refine zdw r rfl kz (fun fr1 g w' hb' hd r'=>?_) ?_
  ·
   have hb':Below w1.heap.size w1 w':=dr hb';refine zca r' (fs:=n1) (cs:=n2) (hd 1 rfl).1 (hd 2 rfl).1 hk1.at_.1 ((hk1.at_.2 n (Nat.lt_succ_self n) x w' (Same.below hb' hF1') hb'.size).mono ?_);rintro _ w2 ⟨v,rfl,hb2,hr2⟩;exact ⟨v,rfl,hb2.kept,hr2⟩
  refine zaW r rfl (fun fr1 g w' hk' hd r'=>?_) ?_
  · exact za4 r' (v:=kf ff f1 f2) rfl (zpE (drK hk') h2 m2) zsx rfl bz
  exact zb4
 intro fr gg w2 hb hΦ _ r;have hr:RepL ar zpt n (k x) (fun b=>F1 b∨((gg 3).lo≤b∧b<(gg 3).hi)) w2 (gg 3).v:=(hΦ 3 rfl).1
 have hrg:=(hΦ 3 rfl).2;have r:=r.congr (sc ((hΦ 4 rfl).1) rfl);have z2:=hb.size;have hr3:¬ F1 b3:=fun h=>by have:=hF1 _ h; omega
 have h3:=zpE hb h3 hr3;have hC:Chg F w0 w2:=(Chg.zpv hB).zpK hb fun b _ h=>s1 b h
 have zB2:=hC.size;have hS2:Same F2 w0 w2:=fun b h=>(hb.block b (ai (hF2 b h) zB) fun h'=>hdj b h' h).trans (hB.block b (hF2 b h))
 have hFb:∀ b,(kW F w0 w2 b3) b→b<w2.heap.size:=by rintro b (h | h); exact ai (hF b h) zB2; exact h.2.1
 refine kC r (ih (F:=fun b=>F b∨(w0.heap.size≤b∧b<w2.heap.size∧b≠b3)) (F1:=fun b=>F1 b∨((gg 3).lo≤b∧b<(gg 3).hi)) (F2:=F2) hFb yao (fun b h=>.inl (s2 b h))
  yap hr (hg.mono kw (fun b h=>h) hS2 zB2) (.inr (hg.mono (Nat.le_refl _) (fun b h=>h) hS2 zB2))) rfl zs4 rfl ?_
 rintro _ w3 ⟨v2,rfl,hb2,hr2⟩;refine ⟨_,rfl,fun fr r=>?_⟩
 have z3:=hb2.size;have hF3:¬ (kW F w0 w2 b3) b3:=by rintro (h | ⟨_,_,h⟩); (have:=hF _ h; omega); exact h rfl
 have h3:=zpE hb2 h3 hF3;have hC:=hC.zpK hb2 yad
 refine kP r hr2.shape rfl rfl h3 ts41 rfl rfl fun w4 u4 r=>wn ?_;have z4:=u4.size
 have h3:=u4.at_;have hC:=hC.zpI u4 (.inl kw)
 refine ac ?_;have hs:=hr2.shape.cells;refine za5 r rfl rfl h3 (k:=8) hs.1 ta41 ?_;rw [←hs.2.2];exact zpj.fin hC hr2 u4 yac hF3 kw kw kw
theorem zgo (n:Nat):zdl n:=by
 induction n using Nat.strongRecOn with
 | _ n ih=>
 intro F F1 F2 w0 hF s1 s2 hdj t pv fv g hp hf hd;obtain ⟨ff,f1,f2,hcf,rfl,hff⟩:=id hf;have hF1:∀ b,F1 b→b<w0.heap.size:=fun b h=>hF b (s1 b h)
 have hF2:∀ b,F2 b→b<w0.heap.size:=fun b h=>hF b (s2 b h)
 cases t with
 | cut=>unfold RepL at hp; exact hp.elim
 | done x0=>
  have hf:=hd.resolve_left yax
  unfold RepL at hp
  subst hp;refine enter (l:=[.agg (zph true (zpt.cells x0) 0 0 0 0 .nilFunc),kf ff f1 f2]) Tryz.func130 rfl 15 rfl rfl fun fr r=>?_;have hB:=Below.refl w0.heap.size w0
  refine aa (af ?_);refine kX 116 (.agg (zph true (zpt.cells x0) 0 0 0 0 .nilFunc)) r rfl rfl fun b1 w1 q1 r=>?_;refine kX 207 (kf ff f1 f2) r rfl rfl fun b2 w2 q2 r=>?_
  refine za7 (.cells (kq zpn) 41 (0,0)) r (fun R=>za6 tz41) rfl fun fr b3 w3 q3 r=>aj ?_;have h1:=keep q3.below (keep q2.below q1.at_)
  have h2:=keep q3.below q2.at_;have h3:=q3.at_;have e1:=q1.eq; have e2:=q2.eq; have e3:=q3.eq; have z1:=q1.size; have z2:=q2.size; have z3:=q3.size;have hB:=((hB.trans q1.below).trans (q2.below.mono kw)).trans (q3.below.mono kw)
  have zB:=hB.size;refine aa (aa (af (za0 (zp b1) r (fun R=>za3 r (o:=0) rfl zn7) rfl fun fr r=>?_)));refine za0 (.bool true) r (fun R=>za4 r (v:=.bool true) rfl h1 to4 rfl) rfl fun fr r=>aj ?_
  refine ae (t:=true) (r.ev rfl) (fun _=>?_) (fun h=>by cases h)
  refine aa (af (za0 (kf ff f1 f2) r (fun R=>za4 r (v:=kf ff f1 f2) rfl h2 zsx rfl) rfl fun fr r=>za0 (.pointer (some ⟨b1,1,none⟩)) r (fun R=>za3 r (o:=0) rfl zp0) rfl fun fr r=>kG (grantC x0) 3 r rfl h1 zsp rfl rfl fun r=>?_));refine zbq r (hf.at_.2 n (Nat.lt_succ_self n) x0 w3 (Same.below hB hF2) hB.size) (fun R hc=>ze6 r rfl rfl hf.at_.1 hc) rfl ?_
  rintro _ w4 ⟨v,rfl,hb,hr⟩;refine ⟨_,rfl,fun fr r=>?_⟩
  have z4:=hb.size;have n3:¬ F2 b3:=fun h=>by have:=hF2 _ h; omega
  have h3:=zpE hb h3 n3;have hC:Chg F w0 w4:=(Chg.zpv hB).zpK hb fun b _ h=>s2 b h
  refine kP r hr.shape rfl rfl h3 ts41 rfl rfl fun w5 u5 r=>aj ?_;have z5:=u5.size
  have h3:=u5.at_;have hC:=hC.zpI u5 (.inl kw)
  refine ac ?_;have hs:=hr.shape.cells;refine za5 r rfl rfl h3 (k:=8) hs.1 ta41 ?_;rw [←hs.2.2];exact zpj.fin hC hr u5 (fun b hb=>.inl (s2 b hb)) n3 kw kw kw
 | act op at_ a b k=>
  obtain ⟨nf,n1,n2,hcn,rfl,hk⟩:∃ (nf:FuncId) (n1 n2:List Value),zpf ar nf=true∧pv=.agg (zph false zpt.zero op at_ a b (kf nf n1 n2))∧FnL ar zpt u64 n F1 w0 (kf nf n1 n2) k:=by
   exact RepL.zcG hp
  refine enter (l:=[.agg (zph false zpt.zero op at_ a b (kf nf n1 n2)),kf ff f1 f2]) Tryz.func130 rfl 15 rfl rfl fun fr r=>?_;have hB:=Below.refl w0.heap.size w0
  refine aa (af ?_);refine kX 116 (.agg (zph false zpt.zero op at_ a b (kf nf n1 n2))) r rfl rfl fun b1 w1 q1 r=>?_;refine kX 207 (kf ff f1 f2) r rfl rfl fun b2 w2 q2 r=>?_
  refine za7 (.cells (kq zpn) 41 (0,0)) r (fun R=>za6 tz41) rfl fun fr b3 w3 q3 r=>aj ?_;have h1:=keep q3.below (keep q2.below q1.at_)
  have h2:=keep q3.below q2.at_;have h3:=q3.at_;have e1:=q1.eq; have e2:=q2.eq; have e3:=q3.eq; have z1:=q1.size; have z2:=q2.size; have z3:=q3.size;have hB:=((hB.trans q1.below).trans (q2.below.mono kw)).trans (q3.below.mono kw)
  have zB:=hB.size;refine aa (aa (af (za0 (zp b1) r (fun R=>za3 r (o:=0) rfl zn7) rfl fun fr r=>?_)));refine za0 (.bool false) r (fun R=>za4 r (v:=.bool false) rfl h1 to4 rfl) rfl fun fr r=>aj ?_
  refine ae (t:=false) (r.ev rfl) (fun h=>by cases h) (fun _=>ag ?_);refine aa (af (za0 (.pointer (some ⟨b1,4,none⟩)) r (fun R=>za3 r (o:=0) rfl zoT) rfl fun fr r=>kG (zpu (⟨op,at_,a,b⟩:Access)) 4 r rfl h1 ta38 rfl rfl fun r=>za0 (.func (.func 215) #[] #[zp b1,zp b2]) r (fun R=>zaf r rfl) rfl fun fr r=>?_))
  have hFb:∀ b,(fun b=>F b∨b=b1∨b=b2) b→b<w3.heap.size:=by rintro b (h | h | h); exact ai (hF b h) hB.size; omega; omega
  have m1:¬ F1 b1:=fun h=>by have:=hF1 _ h; omega
  have m2:¬ F1 b2:=fun h=>by have:=hF1 _ h; omega
  refine kC r (zcf (F:=fun b=>F b∨b=b1∨b=b2) (n:=n) hFb ⟨op,at_,a,b⟩ (a1:=fun x=>(k x).bind g) (show FnL ar zpn u64 n (fun b=>F b∨b=b1∨b=b2) w3 (kf 215 [] [zp b1,zp b2]) (fun x=>(k x).bind g) from
   ⟨215,[],[zp b1,zp b2],zts,rfl,fun m hm x w' hs hz=>zgr (ih m hm) (fun b hb=>ai (hFb b hb) hz) (fun b h=>.inl (s1 b h)) (fun b h=>.inl (s2 b h)) hdj m1 (hs.at_ (.inr (.inl rfl)) h1) m2 (hs.at_ (.inr (.inr rfl)) h2)
    (hk.mono kw (fun b h=>h) ((Same.below hB hF1).trans (hs.sub (fun b h=>.inl (s1 b h)))) (Nat.le_trans hB.size hz)) (hf.mono kw (fun b h=>h) ((Same.below hB hF2).trans (hs.sub (fun b h=>.inl (s2 b h)))) (Nat.le_trans hB.size hz)) x⟩)) rfl zqp rfl ?_
  rintro _ w4 ⟨v,rfl,hb,hr⟩;refine ⟨_,rfl,fun fr r=>?_⟩
  have z4:=hb.size;have n3:¬ (fun b=>F b∨b=b1∨b=b2) b3:=by rintro (h | h | h); (have:=hF _ h; omega); omega; omega
  have h3:=zpE hb h3 n3;have hC:Chg F w0 w4:=(Chg.zpv hB).zpK hb yar
  refine kP r hr.shape rfl rfl h3 ts41 rfl rfl fun w5 u5 r=>aj ?_;have z5:=u5.size
  have h3:=u5.at_;have hC:=hC.zpI u5 (.inl kw)
  refine ac ?_;have hs:=hr.shape.cells;refine za5 r rfl rfl h3 (k:=8) hs.1 ta41 ?_;rw [←hs.2.2];exact zpj.fin hC hr u5 yaf n3 kw kw kw
theorem zfs {n:Nat} {F F1 F2:Nat→Prop} {w0:World} (hF:∀ b,F b→b<w0.heap.size) (s1:∀ b,F1 b→F b) (s2:∀ b,F2 b→F b) (hdj:∀ b,F1 b→¬ F2 b) {t:T (Grant)} {pv fv:Value} {g:Grant→T (Res)} (hp:RepL ar zpt n t F1 w0 pv) (hf:FnL ar zpn argGrant (n+1) F2 w0 fv g) :
  Calls ar 130 #[pv,fv] w0 (zpj ar zpn n (t.bind g) F w0):=zgo n hF s1 s2 hdj hp (hf.mono kw (fun b h=>h) (Same.refl _ _) (Nat.le_refl _)) (.inr hf)
def zdL (n:Nat):Prop:=∀ {F F1 F2:Nat→Prop} {w0:World},(∀ b,F b→b<w0.heap.size)→(∀ b,F1 b→F b)→(∀ b,F2 b→F b)→(∀ b,F1 b→¬ F2 b)→∀ {t:T (Walk)} {pv fv:Value} {g:Walk→T (Res)},RepL ar zpo n t F1 w0 pv→FnL ar zpn argWalk n F2 w0 fv g→
  (t.zpB=false∨FnL ar zpn argWalk (n+1) F2 w0 fv g)→Calls ar 157 #[pv,fv] w0 (zpj ar zpn n (t.bind g) F w0)
theorem zh2 {n:Nat} (ih:zdL n) {F F1 F2:Nat→Prop} {w0:World} (hF:∀ b,F b→b<w0.heap.size) (s1:∀ b,F1 b→F b) (s2:∀ b,F2 b→F b) (hdj:∀ b,F1 b→¬ F2 b) {op at_ a b:Int} {nf:FuncId} {n1 n2:List Value} {k:Int→T (Walk)} {ff:FuncId} {f1 f2:List Value} {g:Walk→T (Res)}
    {b1 b2:Nat} (m1:¬ F1 b1) (h1:w0.heap[b1]?=some (.cells (zph false zpo.zero op at_ a b (kf nf n1 n2)) 224 (0,0))) (m2:¬ F1 b2) (h2:w0.heap[b2]?=some (.cells #[kf ff f1 f2] 228 (0,0)))
    (hk:FnL ar zpo u64 (n+1) F1 w0 (kf nf n1 n2) k) (hg:FnL ar zpn argWalk (n+1) F2 w0 (kf ff f1 f2) g) (x:Int) :
    Calls ar 245 #[.int .u64 x,zp b1,zp b2] w0 (zpj ar zpn n ((k x).bind g) F w0):=by
 refine kN Tryz.func245 rfl 11 rfl rfl fun fr r hB=>?_;have hF1:∀ b,F1 b→b<w0.heap.size:=fun b h=>hF b (s1 b h)
 have hF2:∀ b,F2 b→b<w0.heap.size:=fun b h=>hF b (s2 b h)
 refine aa (af ?_);refine za7 (.cells (kq zpn) 41 (0,0)) r (fun R=>za6 tz41) rfl fun fr b3 w1 q1 r=>wn ?_;have h1:=keep q1.below h1
 have h2:=keep q1.below h2;have e3:=q1.eq;have z1:=q1.size;have h3:=q1.at_;have hB:=hB.trans (q1.below.mono hB.size);have zB:=hB.size;have hk1:=hk.mono (Nat.le_refl _) (fun b h=>h) (Same.below hB hF1) hB.size
 have hF1':∀ b,F1 b→b<w1.heap.size:=fun b h=>ai (hF1 b h) zB
 refine aa ?_;refine zeq 5 F1 [.val (.pointer (some ⟨b1,19,none⟩)),.val (kf nf n1 n2),.val (U x),.eff (StepE ar zpo n (k x) F1) (StepE.st hF1'),.val (kf ff f1 f2)] mixed r hF1' kz ?_ ?_
 ·
  refine zaW r rfl (fun fr1 g w' hk' hd r'=>?_) ?_
  · exact za3 r' (b:=b1) (o:=0) (k:=19) rfl zoU bz
  refine zaW r rfl (fun fr1 g w' hk' hd r'=>?_) ?_
  · exact za4 r' (v:=kf nf n1 n2) (hd 0 rfl).1 (zpE (drK hk') h1 m1) zrl rfl bz
  refine zaW r rfl (fun fr1 g w' hk' hd r'=>?_) ?_
  · exact zar r' (v:=.int .u64 x) rfl bz
  refine zdw r rfl kz (fun fr1 g w' hb' hd r'=>?_) ?_
  ·
   have hb':Below w1.heap.size w1 w':=dr hb';refine zca r' (fs:=n1) (cs:=n2) (hd 1 rfl).1 (hd 2 rfl).1 hk1.at_.1 ((hk1.at_.2 n (Nat.lt_succ_self n) x w' (Same.below hb' hF1') hb'.size).mono ?_);rintro _ w2 ⟨v,rfl,hb2,hr2⟩;exact ⟨v,rfl,hb2.kept,hr2⟩
  refine zaW r rfl (fun fr1 g w' hk' hd r'=>?_) ?_
  · exact za4 r' (v:=kf ff f1 f2) rfl (zpE (drK hk') h2 m2) zrW rfl bz
  exact zb4
 intro fr gg w2 hb hΦ _ r;have hr:RepL ar zpo n (k x) (fun b=>F1 b∨((gg 3).lo≤b∧b<(gg 3).hi)) w2 (gg 3).v:=(hΦ 3 rfl).1
 have hrg:=(hΦ 3 rfl).2;have r:=r.congr (sc ((hΦ 4 rfl).1) rfl);have z2:=hb.size;have hr3:¬ F1 b3:=fun h=>by have:=hF1 _ h; omega
 have h3:=zpE hb h3 hr3;have hC:Chg F w0 w2:=(Chg.zpv hB).zpK hb fun b _ h=>s1 b h
 have zB2:=hC.size;have hS2:Same F2 w0 w2:=fun b h=>(hb.block b (ai (hF2 b h) zB) fun h'=>hdj b h' h).trans (hB.block b (hF2 b h))
 have hFb:∀ b,(kW F w0 w2 b3) b→b<w2.heap.size:=by rintro b (h | h); exact ai (hF b h) zB2; exact h.2.1
 refine kC r (ih (F:=fun b=>F b∨(w0.heap.size≤b∧b<w2.heap.size∧b≠b3)) (F1:=fun b=>F1 b∨((gg 3).lo≤b∧b<(gg 3).hi)) (F2:=F2) hFb yao (fun b h=>.inl (s2 b h))
  yap hr (hg.mono kw (fun b h=>h) hS2 zB2) (.inr (hg.mono (Nat.le_refl _) (fun b h=>h) hS2 zB2))) rfl zqD rfl ?_
 rintro _ w3 ⟨v2,rfl,hb2,hr2⟩;refine ⟨_,rfl,fun fr r=>?_⟩
 have z3:=hb2.size;have hF3:¬ (kW F w0 w2 b3) b3:=by rintro (h | ⟨_,_,h⟩); (have:=hF _ h; omega); exact h rfl
 have h3:=zpE hb2 h3 hF3;have hC:=hC.zpK hb2 yad
 refine kP r hr2.shape rfl rfl h3 ts41 rfl rfl fun w4 u4 r=>wn ?_;have z4:=u4.size
 have h3:=u4.at_;have hC:=hC.zpI u4 (.inl kw)
 refine ac ?_;have hs:=hr2.shape.cells;refine za5 r rfl rfl h3 (k:=8) hs.1 ta41 ?_;rw [←hs.2.2];exact zpj.fin hC hr2 u4 yac hF3 kw kw kw
theorem zgA (n:Nat):zdL n:=by
 induction n using Nat.strongRecOn with
 | _ n ih=>
 intro F F1 F2 w0 hF s1 s2 hdj t pv fv g hp hf hd;obtain ⟨ff,f1,f2,hcf,rfl,hff⟩:=id hf;have hF1:∀ b,F1 b→b<w0.heap.size:=fun b h=>hF b (s1 b h)
 have hF2:∀ b,F2 b→b<w0.heap.size:=fun b h=>hF b (s2 b h)
 cases t with
 | cut=>unfold RepL at hp; exact hp.elim
 | done x0=>
  have hf:=hd.resolve_left yax
  unfold RepL at hp
  subst hp;refine enter (l:=[.agg (zph true (zpo.cells x0) 0 0 0 0 .nilFunc),kf ff f1 f2]) Tryz.func157 rfl 15 rfl rfl fun fr r=>?_;have hB:=Below.refl w0.heap.size w0
  refine aa (af ?_);refine kX 224 (.agg (zph true (zpo.cells x0) 0 0 0 0 .nilFunc)) r rfl rfl fun b1 w1 q1 r=>?_;refine kX 228 (kf ff f1 f2) r rfl rfl fun b2 w2 q2 r=>?_
  refine za7 (.cells (kq zpn) 41 (0,0)) r (fun R=>za6 tz41) rfl fun fr b3 w3 q3 r=>aj ?_;have h1:=keep q3.below (keep q2.below q1.at_)
  have h2:=keep q3.below q2.at_;have h3:=q3.at_;have e1:=q1.eq; have e2:=q2.eq; have e3:=q3.eq; have z1:=q1.size; have z2:=q2.size; have z3:=q3.size;have hB:=((hB.trans q1.below).trans (q2.below.mono kw)).trans (q3.below.mono kw)
  have zB:=hB.size;refine aa (aa (af (za0 (zp b1) r (fun R=>za3 r (o:=0) rfl zn8) rfl fun fr r=>?_)));refine za0 (.bool true) r (fun R=>za4 r (v:=.bool true) rfl h1 to4 rfl) rfl fun fr r=>aj ?_
  refine ae (t:=true) (r.ev rfl) (fun _=>?_) (fun h=>by cases h)
  refine aa (af (za0 (kf ff f1 f2) r (fun R=>za4 r (v:=kf ff f1 f2) rfl h2 zrW rfl) rfl fun fr r=>za0 (.pointer (some ⟨b1,1,none⟩)) r (fun R=>za3 r (o:=0) rfl zoX) rfl fun fr r=>kG (zpF x0) 14 r rfl h1 zq5 rfl rfl fun r=>?_));refine zbq r (hf.at_.2 n (Nat.lt_succ_self n) x0 w3 (Same.below hB hF2) hB.size) (fun R hc=>ze6 r rfl rfl hf.at_.1 hc) rfl ?_
  rintro _ w4 ⟨v,rfl,hb,hr⟩;refine ⟨_,rfl,fun fr r=>?_⟩
  have z4:=hb.size;have n3:¬ F2 b3:=fun h=>by have:=hF2 _ h; omega
  have h3:=zpE hb h3 n3;have hC:Chg F w0 w4:=(Chg.zpv hB).zpK hb fun b _ h=>s2 b h
  refine kP r hr.shape rfl rfl h3 ts41 rfl rfl fun w5 u5 r=>aj ?_;have z5:=u5.size
  have h3:=u5.at_;have hC:=hC.zpI u5 (.inl kw)
  refine ac ?_;have hs:=hr.shape.cells;refine za5 r rfl rfl h3 (k:=8) hs.1 ta41 ?_;rw [←hs.2.2];exact zpj.fin hC hr u5 (fun b hb=>.inl (s2 b hb)) n3 kw kw kw
 | act op at_ a b k=>
  obtain ⟨nf,n1,n2,hcn,rfl,hk⟩:∃ (nf:FuncId) (n1 n2:List Value),zpf ar nf=true∧pv=.agg (zph false zpo.zero op at_ a b (kf nf n1 n2))∧FnL ar zpo u64 n F1 w0 (kf nf n1 n2) k:=by
   exact RepL.zcG hp
  refine enter (l:=[.agg (zph false zpo.zero op at_ a b (kf nf n1 n2)),kf ff f1 f2]) Tryz.func157 rfl 15 rfl rfl fun fr r=>?_;have hB:=Below.refl w0.heap.size w0
  refine aa (af ?_);refine kX 224 (.agg (zph false zpo.zero op at_ a b (kf nf n1 n2))) r rfl rfl fun b1 w1 q1 r=>?_;refine kX 228 (kf ff f1 f2) r rfl rfl fun b2 w2 q2 r=>?_
  refine za7 (.cells (kq zpn) 41 (0,0)) r (fun R=>za6 tz41) rfl fun fr b3 w3 q3 r=>aj ?_;have h1:=keep q3.below (keep q2.below q1.at_)
  have h2:=keep q3.below q2.at_;have h3:=q3.at_;have e1:=q1.eq; have e2:=q2.eq; have e3:=q3.eq; have z1:=q1.size; have z2:=q2.size; have z3:=q3.size;have hB:=((hB.trans q1.below).trans (q2.below.mono kw)).trans (q3.below.mono kw)
  have zB:=hB.size;refine aa (aa (af (za0 (zp b1) r (fun R=>za3 r (o:=0) rfl zn8) rfl fun fr r=>?_)));refine za0 (.bool false) r (fun R=>za4 r (v:=.bool false) rfl h1 to4 rfl) rfl fun fr r=>aj ?_
  refine ae (t:=false) (r.ev rfl) (fun h=>by cases h) (fun _=>ag ?_);refine aa (af (za0 (.pointer (some ⟨b1,15,none⟩)) r (fun R=>za3 r (o:=0) rfl zoR) rfl fun fr r=>kG (zpu (⟨op,at_,a,b⟩:Access)) 4 r rfl h1 ta38 rfl rfl fun r=>za0 (.func (.func 245) #[] #[zp b1,zp b2]) r (fun R=>zaf r rfl) rfl fun fr r=>?_))
  have hFb:∀ b,(fun b=>F b∨b=b1∨b=b2) b→b<w3.heap.size:=by rintro b (h | h | h); exact ai (hF b h) hB.size; omega; omega
  have m1:¬ F1 b1:=fun h=>by have:=hF1 _ h; omega
  have m2:¬ F1 b2:=fun h=>by have:=hF1 _ h; omega
  refine kC r (zcf (F:=fun b=>F b∨b=b1∨b=b2) (n:=n) hFb ⟨op,at_,a,b⟩ (a1:=fun x=>(k x).bind g) (show FnL ar zpn u64 n (fun b=>F b∨b=b1∨b=b2) w3 (kf 245 [] [zp b1,zp b2]) (fun x=>(k x).bind g) from
   ⟨245,[],[zp b1,zp b2],zsJ,rfl,fun m hm x w' hs hz=>zh2 (ih m hm) (fun b hb=>ai (hFb b hb) hz) (fun b h=>.inl (s1 b h)) (fun b h=>.inl (s2 b h)) hdj m1 (hs.at_ (.inr (.inl rfl)) h1) m2 (hs.at_ (.inr (.inr rfl)) h2)
    (hk.mono kw (fun b h=>h) ((Same.below hB hF1).trans (hs.sub (fun b h=>.inl (s1 b h)))) (Nat.le_trans hB.size hz)) (hf.mono kw (fun b h=>h) ((Same.below hB hF2).trans (hs.sub (fun b h=>.inl (s2 b h)))) (Nat.le_trans hB.size hz)) x⟩)) rfl zqp rfl ?_
  rintro _ w4 ⟨v,rfl,hb,hr⟩;refine ⟨_,rfl,fun fr r=>?_⟩
  have z4:=hb.size;have n3:¬ (fun b=>F b∨b=b1∨b=b2) b3:=by rintro (h | h | h); (have:=hF _ h; omega); omega; omega
  have h3:=zpE hb h3 n3;have hC:Chg F w0 w4:=(Chg.zpv hB).zpK hb yar
  refine kP r hr.shape rfl rfl h3 ts41 rfl rfl fun w5 u5 r=>aj ?_;have z5:=u5.size
  have h3:=u5.at_;have hC:=hC.zpI u5 (.inl kw)
  refine ac ?_;have hs:=hr.shape.cells;refine za5 r rfl rfl h3 (k:=8) hs.1 ta41 ?_;rw [←hs.2.2];exact zpj.fin hC hr u5 yaf n3 kw kw kw
theorem zbO {n:Nat} {F F1 F2:Nat→Prop} {w0:World} (hF:∀ b,F b→b<w0.heap.size) (s1:∀ b,F1 b→F b) (s2:∀ b,F2 b→F b) (hdj:∀ b,F1 b→¬ F2 b) {t:T (Walk)} {pv fv:Value} {g:Walk→T (Res)} (hp:RepL ar zpo n t F1 w0 pv) (hf:FnL ar zpn argWalk (n+1) F2 w0 fv g) :
  Calls ar 157 #[pv,fv] w0 (zpj ar zpn n (t.bind g) F w0):=zgA n hF s1 s2 hdj hp (hf.mono kw (fun b h=>h) (Same.refl _ _) (Nat.le_refl _)) (.inr hf)
def zdO (n:Nat):Prop:=∀ {F F1 F2:Nat→Prop} {w0:World},(∀ b,F b→b<w0.heap.size)→(∀ b,F1 b→F b)→(∀ b,F2 b→F b)→(∀ b,F1 b→¬ F2 b)→∀ {t:T (Unit)} {pv fv:Value} {g:Unit→T (Res)},RepL ar zpk n t F1 w0 pv→FnL ar zpn noneE n F2 w0 fv g→
  (t.zpB=false∨FnL ar zpn noneE (n+1) F2 w0 fv g)→Calls ar 228 #[pv,fv] w0 (zpj ar zpn n (t.bind g) F w0)
theorem zh8 {n:Nat} (ih:zdO n) {F F1 F2:Nat→Prop} {w0:World} (hF:∀ b,F b→b<w0.heap.size) (s1:∀ b,F1 b→F b) (s2:∀ b,F2 b→F b) (hdj:∀ b,F1 b→¬ F2 b) {op at_ a b:Int} {nf:FuncId} {n1 n2:List Value} {k:Int→T (Unit)} {ff:FuncId} {f1 f2:List Value} {g:Unit→T (Res)}
    {b1 b2:Nat} (m1:¬ F1 b1) (h1:w0.heap[b1]?=some (.cells (zph false zpk.zero op at_ a b (kf nf n1 n2)) 133 (0,0))) (m2:¬ F1 b2) (h2:w0.heap[b2]?=some (.cells #[kf ff f1 f2] 265 (0,0)))
    (hk:FnL ar zpk u64 (n+1) F1 w0 (kf nf n1 n2) k) (hg:FnL ar zpn noneE (n+1) F2 w0 (kf ff f1 f2) g) (x:Int) :
    Calls ar 301 #[.int .u64 x,zp b1,zp b2] w0 (zpj ar zpn n ((k x).bind g) F w0):=by
 refine kN Tryz.func301 rfl 11 rfl rfl fun fr r hB=>?_;have hF1:∀ b,F1 b→b<w0.heap.size:=fun b h=>hF b (s1 b h)
 have hF2:∀ b,F2 b→b<w0.heap.size:=fun b h=>hF b (s2 b h)
 refine aa (af ?_);refine za7 (.cells (kq zpn) 41 (0,0)) r (fun R=>za6 tz41) rfl fun fr b3 w1 q1 r=>wn ?_;have h1:=keep q1.below h1
 have h2:=keep q1.below h2;have e3:=q1.eq;have z1:=q1.size;have h3:=q1.at_;have hB:=hB.trans (q1.below.mono hB.size);have zB:=hB.size;have hk1:=hk.mono (Nat.le_refl _) (fun b h=>h) (Same.below hB hF1) hB.size
 have hF1':∀ b,F1 b→b<w1.heap.size:=fun b h=>ai (hF1 b h) zB
 refine aa ?_;refine zeq 5 F1 [.val (.pointer (some ⟨b1,5,none⟩)),.val (kf nf n1 n2),.val (U x),.eff (StepE ar zpk n (k x) F1) (StepE.st hF1'),.val (kf ff f1 f2)] mixed r hF1' kz ?_ ?_
 ·
  refine zaW r rfl (fun fr1 g w' hk' hd r'=>?_) ?_
  · exact za3 r' (b:=b1) (o:=0) (k:=5) rfl zk0 bz
  refine zaW r rfl (fun fr1 g w' hk' hd r'=>?_) ?_
  · exact za4 r' (v:=kf nf n1 n2) (hd 0 rfl).1 (zpE (drK hk') h1 m1) zqG rfl bz
  refine zaW r rfl (fun fr1 g w' hk' hd r'=>?_) ?_
  · exact zar r' (v:=.int .u64 x) rfl bz
  refine zdw r rfl kz (fun fr1 g w' hb' hd r'=>?_) ?_
  ·
   have hb':Below w1.heap.size w1 w':=dr hb';refine zca r' (fs:=n1) (cs:=n2) (hd 1 rfl).1 (hd 2 rfl).1 hk1.at_.1 ((hk1.at_.2 n (Nat.lt_succ_self n) x w' (Same.below hb' hF1') hb'.size).mono ?_);rintro _ w2 ⟨v,rfl,hb2,hr2⟩;exact ⟨v,rfl,hb2.kept,hr2⟩
  refine zaW r rfl (fun fr1 g w' hk' hd r'=>?_) ?_
  · exact za4 r' (v:=kf ff f1 f2) rfl (zpE (drK hk') h2 m2) zrV rfl bz
  exact zb4
 intro fr gg w2 hb hΦ _ r;have hr:RepL ar zpk n (k x) (fun b=>F1 b∨((gg 3).lo≤b∧b<(gg 3).hi)) w2 (gg 3).v:=(hΦ 3 rfl).1
 have hrg:=(hΦ 3 rfl).2;have r:=r.congr (sc ((hΦ 4 rfl).1) rfl);have z2:=hb.size;have hr3:¬ F1 b3:=fun h=>by have:=hF1 _ h; omega
 have h3:=zpE hb h3 hr3;have hC:Chg F w0 w2:=(Chg.zpv hB).zpK hb fun b _ h=>s1 b h
 have zB2:=hC.size;have hS2:Same F2 w0 w2:=fun b h=>(hb.block b (ai (hF2 b h) zB) fun h'=>hdj b h' h).trans (hB.block b (hF2 b h))
 have hFb:∀ b,(kW F w0 w2 b3) b→b<w2.heap.size:=by rintro b (h | h); exact ai (hF b h) zB2; exact h.2.1
 refine kC r (ih (F:=fun b=>F b∨(w0.heap.size≤b∧b<w2.heap.size∧b≠b3)) (F1:=fun b=>F1 b∨((gg 3).lo≤b∧b<(gg 3).hi)) (F2:=F2) hFb yao (fun b h=>.inl (s2 b h))
  yap hr (hg.mono kw (fun b h=>h) hS2 zB2) (.inr (hg.mono (Nat.le_refl _) (fun b h=>h) hS2 zB2))) rfl zr7 rfl ?_
 rintro _ w3 ⟨v2,rfl,hb2,hr2⟩;refine ⟨_,rfl,fun fr r=>?_⟩
 have z3:=hb2.size;have hF3:¬ (kW F w0 w2 b3) b3:=by rintro (h | ⟨_,_,h⟩); (have:=hF _ h; omega); exact h rfl
 have h3:=zpE hb2 h3 hF3;have hC:=hC.zpK hb2 yad
 refine kP r hr2.shape rfl rfl h3 ts41 rfl rfl fun w4 u4 r=>wn ?_;have z4:=u4.size
 have h3:=u4.at_;have hC:=hC.zpI u4 (.inl kw)
 refine ac ?_;have hs:=hr2.shape.cells;refine za5 r rfl rfl h3 (k:=8) hs.1 ta41 ?_;rw [←hs.2.2];exact zpj.fin hC hr2 u4 yac hF3 kw kw kw
theorem zh5 (n:Nat):zdO n:=by
 induction n using Nat.strongRecOn with
 | _ n ih=>
 intro F F1 F2 w0 hF s1 s2 hdj t pv fv g hp hf hd;obtain ⟨ff,f1,f2,hcf,rfl,hff⟩:=id hf;have hF1:∀ b,F1 b→b<w0.heap.size:=fun b h=>hF b (s1 b h)
 have hF2:∀ b,F2 b→b<w0.heap.size:=fun b h=>hF b (s2 b h)
 cases t with
 | cut=>unfold RepL at hp; exact hp.elim
 | done x0=>
  have hf:=hd.resolve_left yax
  unfold RepL at hp
  subst hp;refine enter (l:=[.agg (zph true (zpk.cells x0) 0 0 0 0 .nilFunc),kf ff f1 f2]) Tryz.func228 rfl 15 rfl rfl fun fr r=>?_;have hB:=Below.refl w0.heap.size w0
  refine aa (af ?_);refine kX 133 (.agg (zph true (zpk.cells x0) 0 0 0 0 .nilFunc)) r rfl rfl fun b1 w1 q1 r=>?_;refine kX 265 (kf ff f1 f2) r rfl rfl fun b2 w2 q2 r=>?_
  refine za7 (.cells (kq zpn) 41 (0,0)) r (fun R=>za6 tz41) rfl fun fr b3 w3 q3 r=>aj ?_;have h1:=keep q3.below (keep q2.below q1.at_)
  have h2:=keep q3.below q2.at_;have h3:=q3.at_;have e1:=q1.eq; have e2:=q2.eq; have e3:=q3.eq; have z1:=q1.size; have z2:=q2.size; have z3:=q3.size;have hB:=((hB.trans q1.below).trans (q2.below.mono kw)).trans (q3.below.mono kw)
  have zB:=hB.size;refine aa (aa (af (za0 (zp b1) r (fun R=>za3 r (o:=0) rfl zeV) rfl fun fr r=>?_)));refine za0 (.bool true) r (fun R=>za4 r (v:=.bool true) rfl h1 to4 rfl) rfl fun fr r=>aj ?_
  refine ae (t:=true) (r.ev rfl) (fun _=>?_) (fun h=>by cases h)
  refine aa (af (za0 (kf ff f1 f2) r (fun R=>za4 r (v:=kf ff f1 f2) rfl h2 zrV rfl) rfl fun fr r=>?_));refine zjs b1 1 r (fun R=>zeu r rfl zqB h1) rfl fun fr sp r=>za0 (.agg #[]) r (fun R=>zeY r rfl zqr) rfl fun fr r=>?_
  refine zbq r (hf.at_.2 n (Nat.lt_succ_self n) x0 w3 (Same.below hB hF2) hB.size) (fun R hc=>ze6 r rfl rfl hf.at_.1 hc) rfl ?_;rintro _ w4 ⟨v,rfl,hb,hr⟩
  refine ⟨_,rfl,fun fr r=>?_⟩
  have z4:=hb.size;have n3:¬ F2 b3:=fun h=>by have:=hF2 _ h; omega
  have h3:=zpE hb h3 n3;have hC:Chg F w0 w4:=(Chg.zpv hB).zpK hb fun b _ h=>s2 b h
  refine kP r hr.shape rfl rfl h3 ts41 rfl rfl fun w5 u5 r=>aj ?_;have z5:=u5.size
  have h3:=u5.at_;have hC:=hC.zpI u5 (.inl kw)
  refine ac ?_;have hs:=hr.shape.cells;refine za5 r rfl rfl h3 (k:=8) hs.1 ta41 ?_;rw [←hs.2.2];exact zpj.fin hC hr u5 (fun b hb=>.inl (s2 b hb)) n3 kw kw kw
 | act op at_ a b k=>
  obtain ⟨nf,n1,n2,hcn,rfl,hk⟩:∃ (nf:FuncId) (n1 n2:List Value),zpf ar nf=true∧pv=.agg (zph false zpk.zero op at_ a b (kf nf n1 n2))∧FnL ar zpk u64 n F1 w0 (kf nf n1 n2) k:=by
   exact RepL.zcG hp
  refine enter (l:=[.agg (zph false zpk.zero op at_ a b (kf nf n1 n2)),kf ff f1 f2]) Tryz.func228 rfl 15 rfl rfl fun fr r=>?_;have hB:=Below.refl w0.heap.size w0
  refine aa (af ?_);refine kX 133 (.agg (zph false zpk.zero op at_ a b (kf nf n1 n2))) r rfl rfl fun b1 w1 q1 r=>?_;refine kX 265 (kf ff f1 f2) r rfl rfl fun b2 w2 q2 r=>?_
  refine za7 (.cells (kq zpn) 41 (0,0)) r (fun R=>za6 tz41) rfl fun fr b3 w3 q3 r=>aj ?_;have h1:=keep q3.below (keep q2.below q1.at_)
  have h2:=keep q3.below q2.at_;have h3:=q3.at_;have e1:=q1.eq; have e2:=q2.eq; have e3:=q3.eq; have z1:=q1.size; have z2:=q2.size; have z3:=q3.size;have hB:=((hB.trans q1.below).trans (q2.below.mono kw)).trans (q3.below.mono kw)
  have zB:=hB.size;refine aa (aa (af (za0 (zp b1) r (fun R=>za3 r (o:=0) rfl zeV) rfl fun fr r=>?_)));refine za0 (.bool false) r (fun R=>za4 r (v:=.bool false) rfl h1 to4 rfl) rfl fun fr r=>aj ?_
  refine ae (t:=false) (r.ev rfl) (fun h=>by cases h) (fun _=>ag ?_);refine aa (af (za0 (.pointer (some ⟨b1,1,none⟩)) r (fun R=>za3 r (o:=0) rfl zjS) rfl fun fr r=>kG (zpu (⟨op,at_,a,b⟩:Access)) 4 r rfl h1 ta38 rfl rfl fun r=>za0 (.func (.func 301) #[] #[zp b1,zp b2]) r (fun R=>zaf r rfl) rfl fun fr r=>?_))
  have hFb:∀ b,(fun b=>F b∨b=b1∨b=b2) b→b<w3.heap.size:=by rintro b (h | h | h); exact ai (hF b h) hB.size; omega; omega
  have m1:¬ F1 b1:=fun h=>by have:=hF1 _ h; omega
  have m2:¬ F1 b2:=fun h=>by have:=hF1 _ h; omega
  refine kC r (zcf (F:=fun b=>F b∨b=b1∨b=b2) (n:=n) hFb ⟨op,at_,a,b⟩ (a1:=fun x=>(k x).bind g) (show FnL ar zpn u64 n (fun b=>F b∨b=b1∨b=b2) w3 (kf 301 [] [zp b1,zp b2]) (fun x=>(k x).bind g) from
   ⟨301,[],[zp b1,zp b2],zua,rfl,fun m hm x w' hs hz=>zh8 (ih m hm) (fun b hb=>ai (hFb b hb) hz) (fun b h=>.inl (s1 b h)) (fun b h=>.inl (s2 b h)) hdj m1 (hs.at_ (.inr (.inl rfl)) h1) m2 (hs.at_ (.inr (.inr rfl)) h2)
    (hk.mono kw (fun b h=>h) ((Same.below hB hF1).trans (hs.sub (fun b h=>.inl (s1 b h)))) (Nat.le_trans hB.size hz)) (hf.mono kw (fun b h=>h) ((Same.below hB hF2).trans (hs.sub (fun b h=>.inl (s2 b h)))) (Nat.le_trans hB.size hz)) x⟩)) rfl zqp rfl ?_
  rintro _ w4 ⟨v,rfl,hb,hr⟩;refine ⟨_,rfl,fun fr r=>?_⟩
  have z4:=hb.size;have n3:¬ (fun b=>F b∨b=b1∨b=b2) b3:=by rintro (h | h | h); (have:=hF _ h; omega); omega; omega
  have h3:=zpE hb h3 n3;have hC:Chg F w0 w4:=(Chg.zpv hB).zpK hb yar
  refine kP r hr.shape rfl rfl h3 ts41 rfl rfl fun w5 u5 r=>aj ?_;have z5:=u5.size
  have h3:=u5.at_;have hC:=hC.zpI u5 (.inl kw)
  refine ac ?_;have hs:=hr.shape.cells;refine za5 r rfl rfl h3 (k:=8) hs.1 ta41 ?_;rw [←hs.2.2];exact zpj.fin hC hr u5 yaf n3 kw kw kw
theorem zdJ {n:Nat} {F F1 F2:Nat→Prop} {w0:World} (hF:∀ b,F b→b<w0.heap.size) (s1:∀ b,F1 b→F b) (s2:∀ b,F2 b→F b) (hdj:∀ b,F1 b→¬ F2 b) {t:T (Unit)} {pv fv:Value} {g:Unit→T (Res)} (hp:RepL ar zpk n t F1 w0 pv) (hf:FnL ar zpn noneE (n+1) F2 w0 fv g) :
  Calls ar 228 #[pv,fv] w0 (zpj ar zpn n (t.bind g) F w0):=zh5 n hF s1 s2 hdj hp (hf.mono kw (fun b h=>h) (Same.refl _ _) (Nat.le_refl _)) (.inr hf)
def zdm (n:Nat):Prop:=∀ {F F1 F2:Nat→Prop} {w0:World},(∀ b,F b→b<w0.heap.size)→(∀ b,F1 b→F b)→(∀ b,F2 b→F b)→(∀ b,F1 b→¬ F2 b)→∀ {t:T (Unit)} {pv fv:Value} {g:Unit→T (Walk)},RepL ar zpk n t F1 w0 pv→FnL ar zpo noneE n F2 w0 fv g→
  (t.zpB=false∨FnL ar zpo noneE (n+1) F2 w0 fv g)→Calls ar 363 #[pv,fv] w0 (zpj ar zpo n (t.bind g) F w0)
theorem zgs {n:Nat} (ih:zdm n) {F F1 F2:Nat→Prop} {w0:World} (hF:∀ b,F b→b<w0.heap.size) (s1:∀ b,F1 b→F b) (s2:∀ b,F2 b→F b) (hdj:∀ b,F1 b→¬ F2 b) {op at_ a b:Int} {nf:FuncId} {n1 n2:List Value} {k:Int→T (Unit)} {ff:FuncId} {f1 f2:List Value} {g:Unit→T (Walk)}
    {b1 b2:Nat} (m1:¬ F1 b1) (h1:w0.heap[b1]?=some (.cells (zph false zpk.zero op at_ a b (kf nf n1 n2)) 133 (0,0))) (m2:¬ F1 b2) (h2:w0.heap[b2]?=some (.cells #[kf ff f1 f2] 326 (0,0)))
    (hk:FnL ar zpk u64 (n+1) F1 w0 (kf nf n1 n2) k) (hg:FnL ar zpo noneE (n+1) F2 w0 (kf ff f1 f2) g) (x:Int) :
    Calls ar 387 #[.int .u64 x,zp b1,zp b2] w0 (zpj ar zpo n ((k x).bind g) F w0):=by
 refine kN Tryz.func387 rfl 11 rfl rfl fun fr r hB=>?_;have hF1:∀ b,F1 b→b<w0.heap.size:=fun b h=>hF b (s1 b h)
 have hF2:∀ b,F2 b→b<w0.heap.size:=fun b h=>hF b (s2 b h)
 refine aa (af ?_);refine za7 (.cells (kq zpo) 224 (0,0)) r (fun R=>za6 zpX) rfl fun fr b3 w1 q1 r=>wn ?_;have h1:=keep q1.below h1
 have h2:=keep q1.below h2;have e3:=q1.eq;have z1:=q1.size;have h3:=q1.at_;have hB:=hB.trans (q1.below.mono hB.size);have zB:=hB.size;have hk1:=hk.mono (Nat.le_refl _) (fun b h=>h) (Same.below hB hF1) hB.size
 have hF1':∀ b,F1 b→b<w1.heap.size:=fun b h=>ai (hF1 b h) zB
 refine aa ?_;refine zeq 5 F1 [.val (.pointer (some ⟨b1,5,none⟩)),.val (kf nf n1 n2),.val (U x),.eff (StepE ar zpk n (k x) F1) (StepE.st hF1'),.val (kf ff f1 f2)] mixed r hF1' kz ?_ ?_
 ·
  refine zaW r rfl (fun fr1 g w' hk' hd r'=>?_) ?_
  · exact za3 r' (b:=b1) (o:=0) (k:=5) rfl zk0 bz
  refine zaW r rfl (fun fr1 g w' hk' hd r'=>?_) ?_
  · exact za4 r' (v:=kf nf n1 n2) (hd 0 rfl).1 (zpE (drK hk') h1 m1) zqG rfl bz
  refine zaW r rfl (fun fr1 g w' hk' hd r'=>?_) ?_
  · exact zar r' (v:=.int .u64 x) rfl bz
  refine zdw r rfl kz (fun fr1 g w' hb' hd r'=>?_) ?_
  ·
   have hb':Below w1.heap.size w1 w':=dr hb';refine zca r' (fs:=n1) (cs:=n2) (hd 1 rfl).1 (hd 2 rfl).1 hk1.at_.1 ((hk1.at_.2 n (Nat.lt_succ_self n) x w' (Same.below hb' hF1') hb'.size).mono ?_);rintro _ w2 ⟨v,rfl,hb2,hr2⟩;exact ⟨v,rfl,hb2.kept,hr2⟩
  refine zaW r rfl (fun fr1 g w' hk' hd r'=>?_) ?_
  · exact za4 r' (v:=kf ff f1 f2) rfl (zpE (drK hk') h2 m2) zrR rfl bz
  exact zb4
 intro fr gg w2 hb hΦ _ r;have hr:RepL ar zpk n (k x) (fun b=>F1 b∨((gg 3).lo≤b∧b<(gg 3).hi)) w2 (gg 3).v:=(hΦ 3 rfl).1
 have hrg:=(hΦ 3 rfl).2;have r:=r.congr (sc ((hΦ 4 rfl).1) rfl);have z2:=hb.size;have hr3:¬ F1 b3:=fun h=>by have:=hF1 _ h; omega
 have h3:=zpE hb h3 hr3;have hC:Chg F w0 w2:=(Chg.zpv hB).zpK hb fun b _ h=>s1 b h
 have zB2:=hC.size;have hS2:Same F2 w0 w2:=fun b h=>(hb.block b (ai (hF2 b h) zB) fun h'=>hdj b h' h).trans (hB.block b (hF2 b h))
 have hFb:∀ b,(kW F w0 w2 b3) b→b<w2.heap.size:=by rintro b (h | h); exact ai (hF b h) zB2; exact h.2.1
 refine kC r (ih (F:=fun b=>F b∨(w0.heap.size≤b∧b<w2.heap.size∧b≠b3)) (F1:=fun b=>F1 b∨((gg 3).lo≤b∧b<(gg 3).hi)) (F2:=F2) hFb yao (fun b h=>.inl (s2 b h))
  yap hr (hg.mono kw (fun b h=>h) hS2 zB2) (.inr (hg.mono (Nat.le_refl _) (fun b h=>h) hS2 zB2))) rfl zsg rfl ?_
 rintro _ w3 ⟨v2,rfl,hb2,hr2⟩;refine ⟨_,rfl,fun fr r=>?_⟩
 have z3:=hb2.size;have hF3:¬ (kW F w0 w2 b3) b3:=by rintro (h | ⟨_,_,h⟩); (have:=hF _ h; omega); exact h rfl
 have h3:=zpE hb2 h3 hF3;have hC:=hC.zpK hb2 yad
 refine kP r hr2.shape rfl rfl h3 zpV rfl rfl fun w4 u4 r=>wn ?_;have z4:=u4.size
 have h3:=u4.at_;have hC:=hC.zpI u4 (.inl kw)
 refine ac ?_;have hs:=hr2.shape.cells;refine za5 r rfl rfl h3 (k:=20) hs.1 zpU ?_;rw [←hs.2.2];exact zpj.fin hC hr2 u4 yac hF3 kw kw kw
theorem zgm (n:Nat):zdm n:=by
 induction n using Nat.strongRecOn with
 | _ n ih=>
 intro F F1 F2 w0 hF s1 s2 hdj t pv fv g hp hf hd;obtain ⟨ff,f1,f2,hcf,rfl,hff⟩:=id hf;have hF1:∀ b,F1 b→b<w0.heap.size:=fun b h=>hF b (s1 b h)
 have hF2:∀ b,F2 b→b<w0.heap.size:=fun b h=>hF b (s2 b h)
 cases t with
 | cut=>unfold RepL at hp; exact hp.elim
 | done x0=>
  have hf:=hd.resolve_left yax
  unfold RepL at hp
  subst hp;refine enter (l:=[.agg (zph true (zpk.cells x0) 0 0 0 0 .nilFunc),kf ff f1 f2]) Tryz.func363 rfl 15 rfl rfl fun fr r=>?_;have hB:=Below.refl w0.heap.size w0
  refine aa (af ?_);refine kX 133 (.agg (zph true (zpk.cells x0) 0 0 0 0 .nilFunc)) r rfl rfl fun b1 w1 q1 r=>?_;refine kX 326 (kf ff f1 f2) r rfl rfl fun b2 w2 q2 r=>?_
  refine za7 (.cells (kq zpo) 224 (0,0)) r (fun R=>za6 zpX) rfl fun fr b3 w3 q3 r=>aj ?_;have h1:=keep q3.below (keep q2.below q1.at_)
  have h2:=keep q3.below q2.at_;have h3:=q3.at_;have e1:=q1.eq; have e2:=q2.eq; have e3:=q3.eq; have z1:=q1.size; have z2:=q2.size; have z3:=q3.size;have hB:=((hB.trans q1.below).trans (q2.below.mono kw)).trans (q3.below.mono kw)
  have zB:=hB.size;refine aa (aa (af (za0 (zp b1) r (fun R=>za3 r (o:=0) rfl zeV) rfl fun fr r=>?_)));refine za0 (.bool true) r (fun R=>za4 r (v:=.bool true) rfl h1 to4 rfl) rfl fun fr r=>aj ?_
  refine ae (t:=true) (r.ev rfl) (fun _=>?_) (fun h=>by cases h)
  refine aa (af (za0 (kf ff f1 f2) r (fun R=>za4 r (v:=kf ff f1 f2) rfl h2 zrR rfl) rfl fun fr r=>?_));refine zjs b1 1 r (fun R=>zeu r rfl zqB h1) rfl fun fr sp r=>za0 (.agg #[]) r (fun R=>zeY r rfl zqr) rfl fun fr r=>?_
  refine zbq r (hf.at_.2 n (Nat.lt_succ_self n) x0 w3 (Same.below hB hF2) hB.size) (fun R hc=>ze6 r rfl rfl hf.at_.1 hc) rfl ?_;rintro _ w4 ⟨v,rfl,hb,hr⟩
  refine ⟨_,rfl,fun fr r=>?_⟩
  have z4:=hb.size;have n3:¬ F2 b3:=fun h=>by have:=hF2 _ h; omega
  have h3:=zpE hb h3 n3;have hC:Chg F w0 w4:=(Chg.zpv hB).zpK hb fun b _ h=>s2 b h
  refine kP r hr.shape rfl rfl h3 zpV rfl rfl fun w5 u5 r=>aj ?_;have z5:=u5.size
  have h3:=u5.at_;have hC:=hC.zpI u5 (.inl kw)
  refine ac ?_;have hs:=hr.shape.cells;refine za5 r rfl rfl h3 (k:=20) hs.1 zpU ?_;rw [←hs.2.2];exact zpj.fin hC hr u5 (fun b hb=>.inl (s2 b hb)) n3 kw kw kw
 | act op at_ a b k=>
  obtain ⟨nf,n1,n2,hcn,rfl,hk⟩:∃ (nf:FuncId) (n1 n2:List Value),zpf ar nf=true∧pv=.agg (zph false zpk.zero op at_ a b (kf nf n1 n2))∧FnL ar zpk u64 n F1 w0 (kf nf n1 n2) k:=by
   exact RepL.zcG hp
  refine enter (l:=[.agg (zph false zpk.zero op at_ a b (kf nf n1 n2)),kf ff f1 f2]) Tryz.func363 rfl 15 rfl rfl fun fr r=>?_;have hB:=Below.refl w0.heap.size w0
  refine aa (af ?_);refine kX 133 (.agg (zph false zpk.zero op at_ a b (kf nf n1 n2))) r rfl rfl fun b1 w1 q1 r=>?_;refine kX 326 (kf ff f1 f2) r rfl rfl fun b2 w2 q2 r=>?_
  refine za7 (.cells (kq zpo) 224 (0,0)) r (fun R=>za6 zpX) rfl fun fr b3 w3 q3 r=>aj ?_;have h1:=keep q3.below (keep q2.below q1.at_)
  have h2:=keep q3.below q2.at_;have h3:=q3.at_;have e1:=q1.eq; have e2:=q2.eq; have e3:=q3.eq; have z1:=q1.size; have z2:=q2.size; have z3:=q3.size;have hB:=((hB.trans q1.below).trans (q2.below.mono kw)).trans (q3.below.mono kw)
  have zB:=hB.size;refine aa (aa (af (za0 (zp b1) r (fun R=>za3 r (o:=0) rfl zeV) rfl fun fr r=>?_)));refine za0 (.bool false) r (fun R=>za4 r (v:=.bool false) rfl h1 to4 rfl) rfl fun fr r=>aj ?_
  refine ae (t:=false) (r.ev rfl) (fun h=>by cases h) (fun _=>ag ?_);refine aa (af (za0 (.pointer (some ⟨b1,1,none⟩)) r (fun R=>za3 r (o:=0) rfl zjS) rfl fun fr r=>kG (zpu (⟨op,at_,a,b⟩:Access)) 4 r rfl h1 ta38 rfl rfl fun r=>za0 (.func (.func 387) #[] #[zp b1,zp b2]) r (fun R=>zaf r rfl) rfl fun fr r=>?_))
  have hFb:∀ b,(fun b=>F b∨b=b1∨b=b2) b→b<w3.heap.size:=by rintro b (h | h | h); exact ai (hF b h) hB.size; omega; omega
  have m1:¬ F1 b1:=fun h=>by have:=hF1 _ h; omega
  have m2:¬ F1 b2:=fun h=>by have:=hF1 _ h; omega
  refine kC r (zcT (F:=fun b=>F b∨b=b1∨b=b2) (n:=n) hFb ⟨op,at_,a,b⟩ (a1:=fun x=>(k x).bind g) (show FnL ar zpo u64 n (fun b=>F b∨b=b1∨b=b2) w3 (kf 387 [] [zp b1,zp b2]) (fun x=>(k x).bind g) from
   ⟨387,[],[zp b1,zp b2],zuh,rfl,fun m hm x w' hs hz=>zgs (ih m hm) (fun b hb=>ai (hFb b hb) hz) (fun b h=>.inl (s1 b h)) (fun b h=>.inl (s2 b h)) hdj m1 (hs.at_ (.inr (.inl rfl)) h1) m2 (hs.at_ (.inr (.inr rfl)) h2)
    (hk.mono kw (fun b h=>h) ((Same.below hB hF1).trans (hs.sub (fun b h=>.inl (s1 b h)))) (Nat.le_trans hB.size hz)) (hf.mono kw (fun b h=>h) ((Same.below hB hF2).trans (hs.sub (fun b h=>.inl (s2 b h)))) (Nat.le_trans hB.size hz)) x⟩)) rfl zqL rfl ?_
  rintro _ w4 ⟨v,rfl,hb,hr⟩;refine ⟨_,rfl,fun fr r=>?_⟩
  have z4:=hb.size;have n3:¬ (fun b=>F b∨b=b1∨b=b2) b3:=by rintro (h | h | h); (have:=hF _ h; omega); omega; omega
  have h3:=zpE hb h3 n3;have hC:Chg F w0 w4:=(Chg.zpv hB).zpK hb yar
  refine kP r hr.shape rfl rfl h3 zpV rfl rfl fun w5 u5 r=>aj ?_;have z5:=u5.size
  have h3:=u5.at_;have hC:=hC.zpI u5 (.inl kw)
  refine ac ?_;have hs:=hr.shape.cells;refine za5 r rfl rfl h3 (k:=20) hs.1 zpU ?_;rw [←hs.2.2];exact zpj.fin hC hr u5 yaf n3 kw kw kw
theorem zfv {n:Nat} {F F1 F2:Nat→Prop} {w0:World} (hF:∀ b,F b→b<w0.heap.size) (s1:∀ b,F1 b→F b) (s2:∀ b,F2 b→F b) (hdj:∀ b,F1 b→¬ F2 b) {t:T (Unit)} {pv fv:Value} {g:Unit→T (Walk)} (hp:RepL ar zpk n t F1 w0 pv) (hf:FnL ar zpo noneE n F2 w0 fv g) (hd:t.zpB=false) :
  Calls ar 363 #[pv,fv] w0 (zpj ar zpo n (t.bind g) F w0):=zgm n hF s1 s2 hdj hp hf (.inl hd)
def zdR (n:Nat):Prop:=∀ {F F1 F2:Nat→Prop} {w0:World},(∀ b,F b→b<w0.heap.size)→(∀ b,F1 b→F b)→(∀ b,F2 b→F b)→(∀ b,F1 b→¬ F2 b)→∀ {t:T (Int)} {pv fv:Value} {g:Int→T (Res)},RepL ar zpl n t F1 w0 pv→FnL ar zpn i64 n F2 w0 fv g→
  (t.zpB=false∨FnL ar zpn i64 (n+1) F2 w0 fv g)→Calls ar 140 #[pv,fv] w0 (zpj ar zpn n (t.bind g) F w0)
theorem zht {n:Nat} (ih:zdR n) {F F1 F2:Nat→Prop} {w0:World} (hF:∀ b,F b→b<w0.heap.size) (s1:∀ b,F1 b→F b) (s2:∀ b,F2 b→F b) (hdj:∀ b,F1 b→¬ F2 b) {op at_ a b:Int} {nf:FuncId} {n1 n2:List Value} {k:Int→T (Int)} {ff:FuncId} {f1 f2:List Value} {g:Int→T (Res)}
    {b1 b2:Nat} (m1:¬ F1 b1) (h1:w0.heap[b1]?=some (.cells (zph false zpl.zero op at_ a b (kf nf n1 n2)) 119 (0,0))) (m2:¬ F1 b2) (h2:w0.heap[b2]?=some (.cells #[kf ff f1 f2] 213 (0,0)))
    (hk:FnL ar zpl u64 (n+1) F1 w0 (kf nf n1 n2) k) (hg:FnL ar zpn i64 (n+1) F2 w0 (kf ff f1 f2) g) (x:Int) :
    Calls ar 220 #[.int .u64 x,zp b1,zp b2] w0 (zpj ar zpn n ((k x).bind g) F w0):=by
 refine kN Tryz.func220 rfl 11 rfl rfl fun fr r hB=>?_;have hF1:∀ b,F1 b→b<w0.heap.size:=fun b h=>hF b (s1 b h)
 have hF2:∀ b,F2 b→b<w0.heap.size:=fun b h=>hF b (s2 b h)
 refine aa (af ?_);refine za7 (.cells (kq zpn) 41 (0,0)) r (fun R=>za6 tz41) rfl fun fr b3 w1 q1 r=>wn ?_;have h1:=keep q1.below h1
 have h2:=keep q1.below h2;have e3:=q1.eq;have z1:=q1.size;have h3:=q1.at_;have hB:=hB.trans (q1.below.mono hB.size);have zB:=hB.size;have hk1:=hk.mono (Nat.le_refl _) (fun b h=>h) (Same.below hB hF1) hB.size
 have hF1':∀ b,F1 b→b<w1.heap.size:=fun b h=>ai (hF1 b h) zB
 refine aa ?_;refine zeq 5 F1 [.val (.pointer (some ⟨b1,6,none⟩)),.val (kf nf n1 n2),.val (U x),.eff (StepE ar zpl n (k x) F1) (StepE.st hF1'),.val (kf ff f1 f2)] mixed r hF1' kz ?_ ?_
 ·
  refine zaW r rfl (fun fr1 g w' hk' hd r'=>?_) ?_
  · exact za3 r' (b:=b1) (o:=0) (k:=6) rfl zkI bz
  refine zaW r rfl (fun fr1 g w' hk' hd r'=>?_) ?_
  · exact za4 r' (v:=kf nf n1 n2) (hd 0 rfl).1 (zpE (drK hk') h1 m1) zqO rfl bz
  refine zaW r rfl (fun fr1 g w' hk' hd r'=>?_) ?_
  · exact zar r' (v:=.int .u64 x) rfl bz
  refine zdw r rfl kz (fun fr1 g w' hb' hd r'=>?_) ?_
  ·
   have hb':Below w1.heap.size w1 w':=dr hb';refine zca r' (fs:=n1) (cs:=n2) (hd 1 rfl).1 (hd 2 rfl).1 hk1.at_.1 ((hk1.at_.2 n (Nat.lt_succ_self n) x w' (Same.below hb' hF1') hb'.size).mono ?_);rintro _ w2 ⟨v,rfl,hb2,hr2⟩;exact ⟨v,rfl,hb2.kept,hr2⟩
  refine zaW r rfl (fun fr1 g w' hk' hd r'=>?_) ?_
  · exact za4 r' (v:=kf ff f1 f2) rfl (zpE (drK hk') h2 m2) zss rfl bz
  exact zb4
 intro fr gg w2 hb hΦ _ r;have hr:RepL ar zpl n (k x) (fun b=>F1 b∨((gg 3).lo≤b∧b<(gg 3).hi)) w2 (gg 3).v:=(hΦ 3 rfl).1
 have hrg:=(hΦ 3 rfl).2;have r:=r.congr (sc ((hΦ 4 rfl).1) rfl);have z2:=hb.size;have hr3:¬ F1 b3:=fun h=>by have:=hF1 _ h; omega
 have h3:=zpE hb h3 hr3;have hC:Chg F w0 w2:=(Chg.zpv hB).zpK hb fun b _ h=>s1 b h
 have zB2:=hC.size;have hS2:Same F2 w0 w2:=fun b h=>(hb.block b (ai (hF2 b h) zB) fun h'=>hdj b h' h).trans (hB.block b (hF2 b h))
 have hFb:∀ b,(kW F w0 w2 b3) b→b<w2.heap.size:=by rintro b (h | h); exact ai (hF b h) zB2; exact h.2.1
 refine kC r (ih (F:=fun b=>F b∨(w0.heap.size≤b∧b<w2.heap.size∧b≠b3)) (F1:=fun b=>F1 b∨((gg 3).lo≤b∧b<(gg 3).hi)) (F2:=F2) hFb yao (fun b h=>.inl (s2 b h))
  yap hr (hg.mono kw (fun b h=>h) hS2 zB2) (.inr (hg.mono (Nat.le_refl _) (fun b h=>h) hS2 zB2))) rfl zr9 rfl ?_
 rintro _ w3 ⟨v2,rfl,hb2,hr2⟩;refine ⟨_,rfl,fun fr r=>?_⟩
 have z3:=hb2.size;have hF3:¬ (kW F w0 w2 b3) b3:=by rintro (h | ⟨_,_,h⟩); (have:=hF _ h; omega); exact h rfl
 have h3:=zpE hb2 h3 hF3;have hC:=hC.zpK hb2 yad
 refine kP r hr2.shape rfl rfl h3 ts41 rfl rfl fun w4 u4 r=>wn ?_;have z4:=u4.size
 have h3:=u4.at_;have hC:=hC.zpI u4 (.inl kw)
 refine ac ?_;have hs:=hr2.shape.cells;refine za5 r rfl rfl h3 (k:=8) hs.1 ta41 ?_;rw [←hs.2.2];exact zpj.fin hC hr2 u4 yac hF3 kw kw kw
theorem zhm (n:Nat):zdR n:=by
 induction n using Nat.strongRecOn with
 | _ n ih=>
 intro F F1 F2 w0 hF s1 s2 hdj t pv fv g hp hf hd;obtain ⟨ff,f1,f2,hcf,rfl,hff⟩:=id hf;have hF1:∀ b,F1 b→b<w0.heap.size:=fun b h=>hF b (s1 b h)
 have hF2:∀ b,F2 b→b<w0.heap.size:=fun b h=>hF b (s2 b h)
 cases t with
 | cut=>unfold RepL at hp; exact hp.elim
 | done x0=>
  have hf:=hd.resolve_left yax
  unfold RepL at hp
  subst hp;refine enter (l:=[.agg (zph true (zpl.cells x0) 0 0 0 0 .nilFunc),kf ff f1 f2]) Tryz.func140 rfl 15 rfl rfl fun fr r=>?_;have hB:=Below.refl w0.heap.size w0
  refine aa (af ?_);refine kX 119 (.agg (zph true (zpl.cells x0) 0 0 0 0 .nilFunc)) r rfl rfl fun b1 w1 q1 r=>?_;refine kX 213 (kf ff f1 f2) r rfl rfl fun b2 w2 q2 r=>?_
  refine za7 (.cells (kq zpn) 41 (0,0)) r (fun R=>za6 tz41) rfl fun fr b3 w3 q3 r=>aj ?_;have h1:=keep q3.below (keep q2.below q1.at_)
  have h2:=keep q3.below q2.at_;have h3:=q3.at_;have e1:=q1.eq; have e2:=q2.eq; have e3:=q3.eq; have z1:=q1.size; have z2:=q2.size; have z3:=q3.size;have hB:=((hB.trans q1.below).trans (q2.below.mono kw)).trans (q3.below.mono kw)
  have zB:=hB.size;refine aa (aa (af (za0 (zp b1) r (fun R=>za3 r (o:=0) rfl zgH) rfl fun fr r=>?_)));refine za0 (.bool true) r (fun R=>za4 r (v:=.bool true) rfl h1 to4 rfl) rfl fun fr r=>aj ?_
  refine ae (t:=true) (r.ev rfl) (fun _=>?_) (fun h=>by cases h)
  refine aa (af (za0 (kf ff f1 f2) r (fun R=>za4 r (v:=kf ff f1 f2) rfl h2 zss rfl) rfl fun fr r=>za0 (.pointer (some ⟨b1,1,none⟩)) r (fun R=>za3 r (o:=0) rfl zkD) rfl fun fr r=>za0 (.int .i64 x0) r (fun R=>za4 r (v:=(.int .i64 x0)) rfl h1 to3 rfl) rfl fun fr r=>?_));refine zbq r (hf.at_.2 n (Nat.lt_succ_self n) x0 w3 (Same.below hB hF2) hB.size) (fun R hc=>ze6 r rfl rfl hf.at_.1 hc) rfl ?_
  rintro _ w4 ⟨v,rfl,hb,hr⟩;refine ⟨_,rfl,fun fr r=>?_⟩
  have z4:=hb.size;have n3:¬ F2 b3:=fun h=>by have:=hF2 _ h; omega
  have h3:=zpE hb h3 n3;have hC:Chg F w0 w4:=(Chg.zpv hB).zpK hb fun b _ h=>s2 b h
  refine kP r hr.shape rfl rfl h3 ts41 rfl rfl fun w5 u5 r=>aj ?_;have z5:=u5.size
  have h3:=u5.at_;have hC:=hC.zpI u5 (.inl kw)
  refine ac ?_;have hs:=hr.shape.cells;refine za5 r rfl rfl h3 (k:=8) hs.1 ta41 ?_;rw [←hs.2.2];exact zpj.fin hC hr u5 (fun b hb=>.inl (s2 b hb)) n3 kw kw kw
 | act op at_ a b k=>
  obtain ⟨nf,n1,n2,hcn,rfl,hk⟩:∃ (nf:FuncId) (n1 n2:List Value),zpf ar nf=true∧pv=.agg (zph false zpl.zero op at_ a b (kf nf n1 n2))∧FnL ar zpl u64 n F1 w0 (kf nf n1 n2) k:=by
   exact RepL.zcG hp
  refine enter (l:=[.agg (zph false zpl.zero op at_ a b (kf nf n1 n2)),kf ff f1 f2]) Tryz.func140 rfl 15 rfl rfl fun fr r=>?_;have hB:=Below.refl w0.heap.size w0
  refine aa (af ?_);refine kX 119 (.agg (zph false zpl.zero op at_ a b (kf nf n1 n2))) r rfl rfl fun b1 w1 q1 r=>?_;refine kX 213 (kf ff f1 f2) r rfl rfl fun b2 w2 q2 r=>?_
  refine za7 (.cells (kq zpn) 41 (0,0)) r (fun R=>za6 tz41) rfl fun fr b3 w3 q3 r=>aj ?_;have h1:=keep q3.below (keep q2.below q1.at_)
  have h2:=keep q3.below q2.at_;have h3:=q3.at_;have e1:=q1.eq; have e2:=q2.eq; have e3:=q3.eq; have z1:=q1.size; have z2:=q2.size; have z3:=q3.size;have hB:=((hB.trans q1.below).trans (q2.below.mono kw)).trans (q3.below.mono kw)
  have zB:=hB.size;refine aa (aa (af (za0 (zp b1) r (fun R=>za3 r (o:=0) rfl zgH) rfl fun fr r=>?_)));refine za0 (.bool false) r (fun R=>za4 r (v:=.bool false) rfl h1 to4 rfl) rfl fun fr r=>aj ?_
  refine ae (t:=false) (r.ev rfl) (fun h=>by cases h) (fun _=>ag ?_);refine aa (af (za0 (.pointer (some ⟨b1,2,none⟩)) r (fun R=>za3 r (o:=0) rfl zl1) rfl fun fr r=>kG (zpu (⟨op,at_,a,b⟩:Access)) 4 r rfl h1 ta38 rfl rfl fun r=>za0 (.func (.func 220) #[] #[zp b1,zp b2]) r (fun R=>zaf r rfl) rfl fun fr r=>?_))
  have hFb:∀ b,(fun b=>F b∨b=b1∨b=b2) b→b<w3.heap.size:=by rintro b (h | h | h); exact ai (hF b h) hB.size; omega; omega
  have m1:¬ F1 b1:=fun h=>by have:=hF1 _ h; omega
  have m2:¬ F1 b2:=fun h=>by have:=hF1 _ h; omega
  refine kC r (zcf (F:=fun b=>F b∨b=b1∨b=b2) (n:=n) hFb ⟨op,at_,a,b⟩ (a1:=fun x=>(k x).bind g) (show FnL ar zpn u64 n (fun b=>F b∨b=b1∨b=b2) w3 (kf 220 [] [zp b1,zp b2]) (fun x=>(k x).bind g) from
   ⟨220,[],[zp b1,zp b2],zuQ,rfl,fun m hm x w' hs hz=>zht (ih m hm) (fun b hb=>ai (hFb b hb) hz) (fun b h=>.inl (s1 b h)) (fun b h=>.inl (s2 b h)) hdj m1 (hs.at_ (.inr (.inl rfl)) h1) m2 (hs.at_ (.inr (.inr rfl)) h2)
    (hk.mono kw (fun b h=>h) ((Same.below hB hF1).trans (hs.sub (fun b h=>.inl (s1 b h)))) (Nat.le_trans hB.size hz)) (hf.mono kw (fun b h=>h) ((Same.below hB hF2).trans (hs.sub (fun b h=>.inl (s2 b h)))) (Nat.le_trans hB.size hz)) x⟩)) rfl zqp rfl ?_
  rintro _ w4 ⟨v,rfl,hb,hr⟩;refine ⟨_,rfl,fun fr r=>?_⟩
  have z4:=hb.size;have n3:¬ (fun b=>F b∨b=b1∨b=b2) b3:=by rintro (h | h | h); (have:=hF _ h; omega); omega; omega
  have h3:=zpE hb h3 n3;have hC:Chg F w0 w4:=(Chg.zpv hB).zpK hb yar
  refine kP r hr.shape rfl rfl h3 ts41 rfl rfl fun w5 u5 r=>aj ?_;have z5:=u5.size
  have h3:=u5.at_;have hC:=hC.zpI u5 (.inl kw)
  refine ac ?_;have hs:=hr.shape.cells;refine za5 r rfl rfl h3 (k:=8) hs.1 ta41 ?_;rw [←hs.2.2];exact zpj.fin hC hr u5 yaf n3 kw kw kw
theorem ze5 {n:Nat} {F F1 F2:Nat→Prop} {w0:World} (hF:∀ b,F b→b<w0.heap.size) (s1:∀ b,F1 b→F b) (s2:∀ b,F2 b→F b) (hdj:∀ b,F1 b→¬ F2 b) {t:T (Int)} {pv fv:Value} {g:Int→T (Res)} (hp:RepL ar zpl n t F1 w0 pv) (hf:FnL ar zpn i64 (n+1) F2 w0 fv g) :
  Calls ar 140 #[pv,fv] w0 (zpj ar zpn n (t.bind g) F w0):=zhm n hF s1 s2 hdj hp (hf.mono kw (fun b h=>h) (Same.refl _ _) (Nat.le_refl _)) (.inr hf)
def zdD (n:Nat):Prop:=∀ {F F1 F2:Nat→Prop} {w0:World},(∀ b,F b→b<w0.heap.size)→(∀ b,F1 b→F b)→(∀ b,F2 b→F b)→(∀ b,F1 b→¬ F2 b)→∀ {t:T (Int)} {pv fv:Value} {g:Int→T (Walk)},RepL ar zpl n t F1 w0 pv→FnL ar zpo i64 n F2 w0 fv g→
  (t.zpB=false∨FnL ar zpo i64 (n+1) F2 w0 fv g)→Calls ar 390 #[pv,fv] w0 (zpj ar zpo n (t.bind g) F w0)
theorem zh1 {n:Nat} (ih:zdD n) {F F1 F2:Nat→Prop} {w0:World} (hF:∀ b,F b→b<w0.heap.size) (s1:∀ b,F1 b→F b) (s2:∀ b,F2 b→F b) (hdj:∀ b,F1 b→¬ F2 b) {op at_ a b:Int} {nf:FuncId} {n1 n2:List Value} {k:Int→T (Int)} {ff:FuncId} {f1 f2:List Value} {g:Int→T (Walk)}
    {b1 b2:Nat} (m1:¬ F1 b1) (h1:w0.heap[b1]?=some (.cells (zph false zpl.zero op at_ a b (kf nf n1 n2)) 119 (0,0))) (m2:¬ F1 b2) (h2:w0.heap[b2]?=some (.cells #[kf ff f1 f2] 306 (0,0)))
    (hk:FnL ar zpl u64 (n+1) F1 w0 (kf nf n1 n2) k) (hg:FnL ar zpo i64 (n+1) F2 w0 (kf ff f1 f2) g) (x:Int) :
    Calls ar 399 #[.int .u64 x,zp b1,zp b2] w0 (zpj ar zpo n ((k x).bind g) F w0):=by
 refine kN Tryz.func399 rfl 11 rfl rfl fun fr r hB=>?_;have hF1:∀ b,F1 b→b<w0.heap.size:=fun b h=>hF b (s1 b h)
 have hF2:∀ b,F2 b→b<w0.heap.size:=fun b h=>hF b (s2 b h)
 refine aa (af ?_);refine za7 (.cells (kq zpo) 224 (0,0)) r (fun R=>za6 zpX) rfl fun fr b3 w1 q1 r=>wn ?_;have h1:=keep q1.below h1
 have h2:=keep q1.below h2;have e3:=q1.eq;have z1:=q1.size;have h3:=q1.at_;have hB:=hB.trans (q1.below.mono hB.size);have zB:=hB.size;have hk1:=hk.mono (Nat.le_refl _) (fun b h=>h) (Same.below hB hF1) hB.size
 have hF1':∀ b,F1 b→b<w1.heap.size:=fun b h=>ai (hF1 b h) zB
 refine aa ?_;refine zeq 5 F1 [.val (.pointer (some ⟨b1,6,none⟩)),.val (kf nf n1 n2),.val (U x),.eff (StepE ar zpl n (k x) F1) (StepE.st hF1'),.val (kf ff f1 f2)] mixed r hF1' kz ?_ ?_
 ·
  refine zaW r rfl (fun fr1 g w' hk' hd r'=>?_) ?_
  · exact za3 r' (b:=b1) (o:=0) (k:=6) rfl zkI bz
  refine zaW r rfl (fun fr1 g w' hk' hd r'=>?_) ?_
  · exact za4 r' (v:=kf nf n1 n2) (hd 0 rfl).1 (zpE (drK hk') h1 m1) zqO rfl bz
  refine zaW r rfl (fun fr1 g w' hk' hd r'=>?_) ?_
  · exact zar r' (v:=.int .u64 x) rfl bz
  refine zdw r rfl kz (fun fr1 g w' hb' hd r'=>?_) ?_
  ·
   have hb':Below w1.heap.size w1 w':=dr hb';refine zca r' (fs:=n1) (cs:=n2) (hd 1 rfl).1 (hd 2 rfl).1 hk1.at_.1 ((hk1.at_.2 n (Nat.lt_succ_self n) x w' (Same.below hb' hF1') hb'.size).mono ?_);rintro _ w2 ⟨v,rfl,hb2,hr2⟩;exact ⟨v,rfl,hb2.kept,hr2⟩
  refine zaW r rfl (fun fr1 g w' hk' hd r'=>?_) ?_
  · exact za4 r' (v:=kf ff f1 f2) rfl (zpE (drK hk') h2 m2) zsk rfl bz
  exact zb4
 intro fr gg w2 hb hΦ _ r;have hr:RepL ar zpl n (k x) (fun b=>F1 b∨((gg 3).lo≤b∧b<(gg 3).hi)) w2 (gg 3).v:=(hΦ 3 rfl).1
 have hrg:=(hΦ 3 rfl).2;have r:=r.congr (sc ((hΦ 4 rfl).1) rfl);have z2:=hb.size;have hr3:¬ F1 b3:=fun h=>by have:=hF1 _ h; omega
 have h3:=zpE hb h3 hr3;have hC:Chg F w0 w2:=(Chg.zpv hB).zpK hb fun b _ h=>s1 b h
 have zB2:=hC.size;have hS2:Same F2 w0 w2:=fun b h=>(hb.block b (ai (hF2 b h) zB) fun h'=>hdj b h' h).trans (hB.block b (hF2 b h))
 have hFb:∀ b,(kW F w0 w2 b3) b→b<w2.heap.size:=by rintro b (h | h); exact ai (hF b h) zB2; exact h.2.1
 refine kC r (ih (F:=fun b=>F b∨(w0.heap.size≤b∧b<w2.heap.size∧b≠b3)) (F1:=fun b=>F1 b∨((gg 3).lo≤b∧b<(gg 3).hi)) (F2:=F2) hFb yao (fun b h=>.inl (s2 b h))
  yap hr (hg.mono kw (fun b h=>h) hS2 zB2) (.inr (hg.mono (Nat.le_refl _) (fun b h=>h) hS2 zB2))) rfl zsf rfl ?_
 rintro _ w3 ⟨v2,rfl,hb2,hr2⟩;refine ⟨_,rfl,fun fr r=>?_⟩
 have z3:=hb2.size;have hF3:¬ (kW F w0 w2 b3) b3:=by rintro (h | ⟨_,_,h⟩); (have:=hF _ h; omega); exact h rfl
 have h3:=zpE hb2 h3 hF3;have hC:=hC.zpK hb2 yad
 refine kP r hr2.shape rfl rfl h3 zpV rfl rfl fun w4 u4 r=>wn ?_;have z4:=u4.size
 have h3:=u4.at_;have hC:=hC.zpI u4 (.inl kw)
 refine ac ?_;have hs:=hr2.shape.cells;refine za5 r rfl rfl h3 (k:=20) hs.1 zpU ?_;rw [←hs.2.2];exact zpj.fin hC hr2 u4 yac hF3 kw kw kw
theorem zgG (n:Nat):zdD n:=by
 induction n using Nat.strongRecOn with
 | _ n ih=>
 intro F F1 F2 w0 hF s1 s2 hdj t pv fv g hp hf hd;obtain ⟨ff,f1,f2,hcf,rfl,hff⟩:=id hf;have hF1:∀ b,F1 b→b<w0.heap.size:=fun b h=>hF b (s1 b h)
 have hF2:∀ b,F2 b→b<w0.heap.size:=fun b h=>hF b (s2 b h)
 cases t with
 | cut=>unfold RepL at hp; exact hp.elim
 | done x0=>
  have hf:=hd.resolve_left yax
  unfold RepL at hp
  subst hp;refine enter (l:=[.agg (zph true (zpl.cells x0) 0 0 0 0 .nilFunc),kf ff f1 f2]) Tryz.func390 rfl 15 rfl rfl fun fr r=>?_;have hB:=Below.refl w0.heap.size w0
  refine aa (af ?_);refine kX 119 (.agg (zph true (zpl.cells x0) 0 0 0 0 .nilFunc)) r rfl rfl fun b1 w1 q1 r=>?_;refine kX 306 (kf ff f1 f2) r rfl rfl fun b2 w2 q2 r=>?_
  refine za7 (.cells (kq zpo) 224 (0,0)) r (fun R=>za6 zpX) rfl fun fr b3 w3 q3 r=>aj ?_;have h1:=keep q3.below (keep q2.below q1.at_)
  have h2:=keep q3.below q2.at_;have h3:=q3.at_;have e1:=q1.eq; have e2:=q2.eq; have e3:=q3.eq; have z1:=q1.size; have z2:=q2.size; have z3:=q3.size;have hB:=((hB.trans q1.below).trans (q2.below.mono kw)).trans (q3.below.mono kw)
  have zB:=hB.size;refine aa (aa (af (za0 (zp b1) r (fun R=>za3 r (o:=0) rfl zgH) rfl fun fr r=>?_)));refine za0 (.bool true) r (fun R=>za4 r (v:=.bool true) rfl h1 to4 rfl) rfl fun fr r=>aj ?_
  refine ae (t:=true) (r.ev rfl) (fun _=>?_) (fun h=>by cases h)
  refine aa (af (za0 (kf ff f1 f2) r (fun R=>za4 r (v:=kf ff f1 f2) rfl h2 zsk rfl) rfl fun fr r=>za0 (.pointer (some ⟨b1,1,none⟩)) r (fun R=>za3 r (o:=0) rfl zkD) rfl fun fr r=>za0 (.int .i64 x0) r (fun R=>za4 r (v:=(.int .i64 x0)) rfl h1 to3 rfl) rfl fun fr r=>?_));refine zbq r (hf.at_.2 n (Nat.lt_succ_self n) x0 w3 (Same.below hB hF2) hB.size) (fun R hc=>ze6 r rfl rfl hf.at_.1 hc) rfl ?_
  rintro _ w4 ⟨v,rfl,hb,hr⟩;refine ⟨_,rfl,fun fr r=>?_⟩
  have z4:=hb.size;have n3:¬ F2 b3:=fun h=>by have:=hF2 _ h; omega
  have h3:=zpE hb h3 n3;have hC:Chg F w0 w4:=(Chg.zpv hB).zpK hb fun b _ h=>s2 b h
  refine kP r hr.shape rfl rfl h3 zpV rfl rfl fun w5 u5 r=>aj ?_;have z5:=u5.size
  have h3:=u5.at_;have hC:=hC.zpI u5 (.inl kw)
  refine ac ?_;have hs:=hr.shape.cells;refine za5 r rfl rfl h3 (k:=20) hs.1 zpU ?_;rw [←hs.2.2];exact zpj.fin hC hr u5 (fun b hb=>.inl (s2 b hb)) n3 kw kw kw
 | act op at_ a b k=>
  obtain ⟨nf,n1,n2,hcn,rfl,hk⟩:∃ (nf:FuncId) (n1 n2:List Value),zpf ar nf=true∧pv=.agg (zph false zpl.zero op at_ a b (kf nf n1 n2))∧FnL ar zpl u64 n F1 w0 (kf nf n1 n2) k:=by
   exact RepL.zcG hp
  refine enter (l:=[.agg (zph false zpl.zero op at_ a b (kf nf n1 n2)),kf ff f1 f2]) Tryz.func390 rfl 15 rfl rfl fun fr r=>?_;have hB:=Below.refl w0.heap.size w0
  refine aa (af ?_);refine kX 119 (.agg (zph false zpl.zero op at_ a b (kf nf n1 n2))) r rfl rfl fun b1 w1 q1 r=>?_;refine kX 306 (kf ff f1 f2) r rfl rfl fun b2 w2 q2 r=>?_
  refine za7 (.cells (kq zpo) 224 (0,0)) r (fun R=>za6 zpX) rfl fun fr b3 w3 q3 r=>aj ?_;have h1:=keep q3.below (keep q2.below q1.at_)
  have h2:=keep q3.below q2.at_;have h3:=q3.at_;have e1:=q1.eq; have e2:=q2.eq; have e3:=q3.eq; have z1:=q1.size; have z2:=q2.size; have z3:=q3.size;have hB:=((hB.trans q1.below).trans (q2.below.mono kw)).trans (q3.below.mono kw)
  have zB:=hB.size;refine aa (aa (af (za0 (zp b1) r (fun R=>za3 r (o:=0) rfl zgH) rfl fun fr r=>?_)));refine za0 (.bool false) r (fun R=>za4 r (v:=.bool false) rfl h1 to4 rfl) rfl fun fr r=>aj ?_
  refine ae (t:=false) (r.ev rfl) (fun h=>by cases h) (fun _=>ag ?_);refine aa (af (za0 (.pointer (some ⟨b1,2,none⟩)) r (fun R=>za3 r (o:=0) rfl zl1) rfl fun fr r=>kG (zpu (⟨op,at_,a,b⟩:Access)) 4 r rfl h1 ta38 rfl rfl fun r=>za0 (.func (.func 399) #[] #[zp b1,zp b2]) r (fun R=>zaf r rfl) rfl fun fr r=>?_))
  have hFb:∀ b,(fun b=>F b∨b=b1∨b=b2) b→b<w3.heap.size:=by rintro b (h | h | h); exact ai (hF b h) hB.size; omega; omega
  have m1:¬ F1 b1:=fun h=>by have:=hF1 _ h; omega
  have m2:¬ F1 b2:=fun h=>by have:=hF1 _ h; omega
  refine kC r (zcT (F:=fun b=>F b∨b=b1∨b=b2) (n:=n) hFb ⟨op,at_,a,b⟩ (a1:=fun x=>(k x).bind g) (show FnL ar zpo u64 n (fun b=>F b∨b=b1∨b=b2) w3 (kf 399 [] [zp b1,zp b2]) (fun x=>(k x).bind g) from
   ⟨399,[],[zp b1,zp b2],ztR,rfl,fun m hm x w' hs hz=>zh1 (ih m hm) (fun b hb=>ai (hFb b hb) hz) (fun b h=>.inl (s1 b h)) (fun b h=>.inl (s2 b h)) hdj m1 (hs.at_ (.inr (.inl rfl)) h1) m2 (hs.at_ (.inr (.inr rfl)) h2)
    (hk.mono kw (fun b h=>h) ((Same.below hB hF1).trans (hs.sub (fun b h=>.inl (s1 b h)))) (Nat.le_trans hB.size hz)) (hf.mono kw (fun b h=>h) ((Same.below hB hF2).trans (hs.sub (fun b h=>.inl (s2 b h)))) (Nat.le_trans hB.size hz)) x⟩)) rfl zqL rfl ?_
  rintro _ w4 ⟨v,rfl,hb,hr⟩;refine ⟨_,rfl,fun fr r=>?_⟩
  have z4:=hb.size;have n3:¬ (fun b=>F b∨b=b1∨b=b2) b3:=by rintro (h | h | h); (have:=hF _ h; omega); omega; omega
  have h3:=zpE hb h3 n3;have hC:Chg F w0 w4:=(Chg.zpv hB).zpK hb yar
  refine kP r hr.shape rfl rfl h3 zpV rfl rfl fun w5 u5 r=>aj ?_;have z5:=u5.size
  have h3:=u5.at_;have hC:=hC.zpI u5 (.inl kw)
  refine ac ?_;have hs:=hr.shape.cells;refine za5 r rfl rfl h3 (k:=20) hs.1 zpU ?_;rw [←hs.2.2];exact zpj.fin hC hr u5 yaf n3 kw kw kw
theorem zfJ {n:Nat} {F F1 F2:Nat→Prop} {w0:World} (hF:∀ b,F b→b<w0.heap.size) (s1:∀ b,F1 b→F b) (s2:∀ b,F2 b→F b) (hdj:∀ b,F1 b→¬ F2 b) {t:T (Int)} {pv fv:Value} {g:Int→T (Walk)} (hp:RepL ar zpl n t F1 w0 pv) (hf:FnL ar zpo i64 (n+1) F2 w0 fv g) :
  Calls ar 390 #[pv,fv] w0 (zpj ar zpo n (t.bind g) F w0):=zgG n hF s1 s2 hdj hp (hf.mono kw (fun b h=>h) (Same.refl _ _) (Nat.le_refl _)) (.inr hf)
def zcS (n:Nat):Prop:=∀ {F F1 F2:Nat→Prop} {w0:World},(∀ b,F b→b<w0.heap.size)→(∀ b,F1 b→F b)→(∀ b,F2 b→F b)→(∀ b,F1 b→¬ F2 b)→∀ {t:T (Int)} {pv fv:Value} {g:Int→T (Walk)},RepL ar zpy n t F1 w0 pv→FnL ar zpo u64 n F2 w0 fv g→
  (t.zpB=false∨FnL ar zpo u64 (n+1) F2 w0 fv g)→Calls ar 246 #[pv,fv] w0 (zpj ar zpo n (t.bind g) F w0)
theorem zfy {n:Nat} (ih:zcS n) {F F1 F2:Nat→Prop} {w0:World} (hF:∀ b,F b→b<w0.heap.size) (s1:∀ b,F1 b→F b) (s2:∀ b,F2 b→F b) (hdj:∀ b,F1 b→¬ F2 b) {op at_ a b:Int} {nf:FuncId} {n1 n2:List Value} {k:Int→T (Int)} {ff:FuncId} {f1 f2:List Value} {g:Int→T (Walk)}
    {b1 b2:Nat} (m1:¬ F1 b1) (h1:w0.heap[b1]?=some (.cells (zph false zpy.zero op at_ a b (kf nf n1 n2)) 271 (0,0))) (m2:¬ F1 b2) (h2:w0.heap[b2]?=some (.cells #[kf ff f1 f2] 222 (0,0)))
    (hk:FnL ar zpy u64 (n+1) F1 w0 (kf nf n1 n2) k) (hg:FnL ar zpo u64 (n+1) F2 w0 (kf ff f1 f2) g) (x:Int) :
    Calls ar 312 #[.int .u64 x,zp b1,zp b2] w0 (zpj ar zpo n ((k x).bind g) F w0):=by
 refine kN Tryz.func312 rfl 11 rfl rfl fun fr r hB=>?_;have hF1:∀ b,F1 b→b<w0.heap.size:=fun b h=>hF b (s1 b h)
 have hF2:∀ b,F2 b→b<w0.heap.size:=fun b h=>hF b (s2 b h)
 refine aa (af ?_);refine za7 (.cells (kq zpo) 224 (0,0)) r (fun R=>za6 zpX) rfl fun fr b3 w1 q1 r=>wn ?_;have h1:=keep q1.below h1
 have h2:=keep q1.below h2;have e3:=q1.eq;have z1:=q1.size;have h3:=q1.at_;have hB:=hB.trans (q1.below.mono hB.size);have zB:=hB.size;have hk1:=hk.mono (Nat.le_refl _) (fun b h=>h) (Same.below hB hF1) hB.size
 have hF1':∀ b,F1 b→b<w1.heap.size:=fun b h=>ai (hF1 b h) zB
 refine aa ?_;refine zeq 5 F1 [.val (.pointer (some ⟨b1,6,none⟩)),.val (kf nf n1 n2),.val (U x),.eff (StepE ar zpy n (k x) F1) (StepE.st hF1'),.val (kf ff f1 f2)] mixed r hF1' kz ?_ ?_
 ·
  refine zaW r rfl (fun fr1 g w' hk' hd r'=>?_) ?_
  · exact za3 r' (b:=b1) (o:=0) (k:=6) rfl zos bz
  refine zaW r rfl (fun fr1 g w' hk' hd r'=>?_) ?_
  · exact za4 r' (v:=kf nf n1 n2) (hd 0 rfl).1 (zpE (drK hk') h1 m1) ztP rfl bz
  refine zaW r rfl (fun fr1 g w' hk' hd r'=>?_) ?_
  · exact zar r' (v:=.int .u64 x) rfl bz
  refine zdw r rfl kz (fun fr1 g w' hb' hd r'=>?_) ?_
  ·
   have hb':Below w1.heap.size w1 w':=dr hb';refine zca r' (fs:=n1) (cs:=n2) (hd 1 rfl).1 (hd 2 rfl).1 hk1.at_.1 ((hk1.at_.2 n (Nat.lt_succ_self n) x w' (Same.below hb' hF1') hb'.size).mono ?_);rintro _ w2 ⟨v,rfl,hb2,hr2⟩;exact ⟨v,rfl,hb2.kept,hr2⟩
  refine zaW r rfl (fun fr1 g w' hk' hd r'=>?_) ?_
  · exact za4 r' (v:=kf ff f1 f2) rfl (zpE (drK hk') h2 m2) zrl rfl bz
  exact zb4
 intro fr gg w2 hb hΦ _ r;have hr:RepL ar zpy n (k x) (fun b=>F1 b∨((gg 3).lo≤b∧b<(gg 3).hi)) w2 (gg 3).v:=(hΦ 3 rfl).1
 have hrg:=(hΦ 3 rfl).2;have r:=r.congr (sc ((hΦ 4 rfl).1) rfl);have z2:=hb.size;have hr3:¬ F1 b3:=fun h=>by have:=hF1 _ h; omega
 have h3:=zpE hb h3 hr3;have hC:Chg F w0 w2:=(Chg.zpv hB).zpK hb fun b _ h=>s1 b h
 have zB2:=hC.size;have hS2:Same F2 w0 w2:=fun b h=>(hb.block b (ai (hF2 b h) zB) fun h'=>hdj b h' h).trans (hB.block b (hF2 b h))
 have hFb:∀ b,(kW F w0 w2 b3) b→b<w2.heap.size:=by rintro b (h | h); exact ai (hF b h) zB2; exact h.2.1
 refine kC r (ih (F:=fun b=>F b∨(w0.heap.size≤b∧b<w2.heap.size∧b≠b3)) (F1:=fun b=>F1 b∨((gg 3).lo≤b∧b<(gg 3).hi)) (F2:=F2) hFb yao (fun b h=>.inl (s2 b h))
  yap hr (hg.mono kw (fun b h=>h) hS2 zB2) (.inr (hg.mono (Nat.le_refl _) (fun b h=>h) hS2 zB2))) rfl zrZ rfl ?_
 rintro _ w3 ⟨v2,rfl,hb2,hr2⟩;refine ⟨_,rfl,fun fr r=>?_⟩
 have z3:=hb2.size;have hF3:¬ (kW F w0 w2 b3) b3:=by rintro (h | ⟨_,_,h⟩); (have:=hF _ h; omega); exact h rfl
 have h3:=zpE hb2 h3 hF3;have hC:=hC.zpK hb2 yad
 refine kP r hr2.shape rfl rfl h3 zpV rfl rfl fun w4 u4 r=>wn ?_;have z4:=u4.size
 have h3:=u4.at_;have hC:=hC.zpI u4 (.inl kw)
 refine ac ?_;have hs:=hr2.shape.cells;refine za5 r rfl rfl h3 (k:=20) hs.1 zpU ?_;rw [←hs.2.2];exact zpj.fin hC hr2 u4 yac hF3 kw kw kw
theorem zfA (n:Nat):zcS n:=by
 induction n using Nat.strongRecOn with
 | _ n ih=>
 intro F F1 F2 w0 hF s1 s2 hdj t pv fv g hp hf hd;obtain ⟨ff,f1,f2,hcf,rfl,hff⟩:=id hf;have hF1:∀ b,F1 b→b<w0.heap.size:=fun b h=>hF b (s1 b h)
 have hF2:∀ b,F2 b→b<w0.heap.size:=fun b h=>hF b (s2 b h)
 cases t with
 | cut=>unfold RepL at hp; exact hp.elim
 | done x0=>
  have hf:=hd.resolve_left yax
  unfold RepL at hp
  subst hp;refine enter (l:=[.agg (zph true (zpy.cells x0) 0 0 0 0 .nilFunc),kf ff f1 f2]) Tryz.func246 rfl 15 rfl rfl fun fr r=>?_;have hB:=Below.refl w0.heap.size w0
  refine aa (af ?_);refine kX 271 (.agg (zph true (zpy.cells x0) 0 0 0 0 .nilFunc)) r rfl rfl fun b1 w1 q1 r=>?_;refine kX 222 (kf ff f1 f2) r rfl rfl fun b2 w2 q2 r=>?_
  refine za7 (.cells (kq zpo) 224 (0,0)) r (fun R=>za6 zpX) rfl fun fr b3 w3 q3 r=>aj ?_;have h1:=keep q3.below (keep q2.below q1.at_)
  have h2:=keep q3.below q2.at_;have h3:=q3.at_;have e1:=q1.eq; have e2:=q2.eq; have e3:=q3.eq; have z1:=q1.size; have z2:=q2.size; have z3:=q3.size;have hB:=((hB.trans q1.below).trans (q2.below.mono kw)).trans (q3.below.mono kw)
  have zB:=hB.size;refine aa (aa (af (za0 (zp b1) r (fun R=>za3 r (o:=0) rfl znG) rfl fun fr r=>?_)));refine za0 (.bool true) r (fun R=>za4 r (v:=.bool true) rfl h1 to4 rfl) rfl fun fr r=>aj ?_
  refine ae (t:=true) (r.ev rfl) (fun _=>?_) (fun h=>by cases h)
  refine aa (af (za0 (kf ff f1 f2) r (fun R=>za4 r (v:=kf ff f1 f2) rfl h2 zrl rfl) rfl fun fr r=>za0 (.pointer (some ⟨b1,1,none⟩)) r (fun R=>za3 r (o:=0) rfl zoH) rfl fun fr r=>za0 (.int .u64 x0) r (fun R=>za4 r (v:=(.int .u64 x0)) rfl h1 to34 rfl) rfl fun fr r=>?_));refine zbq r (hf.at_.2 n (Nat.lt_succ_self n) x0 w3 (Same.below hB hF2) hB.size) (fun R hc=>ze6 r rfl rfl hf.at_.1 hc) rfl ?_
  rintro _ w4 ⟨v,rfl,hb,hr⟩;refine ⟨_,rfl,fun fr r=>?_⟩
  have z4:=hb.size;have n3:¬ F2 b3:=fun h=>by have:=hF2 _ h; omega
  have h3:=zpE hb h3 n3;have hC:Chg F w0 w4:=(Chg.zpv hB).zpK hb fun b _ h=>s2 b h
  refine kP r hr.shape rfl rfl h3 zpV rfl rfl fun w5 u5 r=>aj ?_;have z5:=u5.size
  have h3:=u5.at_;have hC:=hC.zpI u5 (.inl kw)
  refine ac ?_;have hs:=hr.shape.cells;refine za5 r rfl rfl h3 (k:=20) hs.1 zpU ?_;rw [←hs.2.2];exact zpj.fin hC hr u5 (fun b hb=>.inl (s2 b hb)) n3 kw kw kw
 | act op at_ a b k=>
  obtain ⟨nf,n1,n2,hcn,rfl,hk⟩:∃ (nf:FuncId) (n1 n2:List Value),zpf ar nf=true∧pv=.agg (zph false zpy.zero op at_ a b (kf nf n1 n2))∧FnL ar zpy u64 n F1 w0 (kf nf n1 n2) k:=by
   exact RepL.zcG hp
  refine enter (l:=[.agg (zph false zpy.zero op at_ a b (kf nf n1 n2)),kf ff f1 f2]) Tryz.func246 rfl 15 rfl rfl fun fr r=>?_;have hB:=Below.refl w0.heap.size w0
  refine aa (af ?_);refine kX 271 (.agg (zph false zpy.zero op at_ a b (kf nf n1 n2))) r rfl rfl fun b1 w1 q1 r=>?_;refine kX 222 (kf ff f1 f2) r rfl rfl fun b2 w2 q2 r=>?_
  refine za7 (.cells (kq zpo) 224 (0,0)) r (fun R=>za6 zpX) rfl fun fr b3 w3 q3 r=>aj ?_;have h1:=keep q3.below (keep q2.below q1.at_)
  have h2:=keep q3.below q2.at_;have h3:=q3.at_;have e1:=q1.eq; have e2:=q2.eq; have e3:=q3.eq; have z1:=q1.size; have z2:=q2.size; have z3:=q3.size;have hB:=((hB.trans q1.below).trans (q2.below.mono kw)).trans (q3.below.mono kw)
  have zB:=hB.size;refine aa (aa (af (za0 (zp b1) r (fun R=>za3 r (o:=0) rfl znG) rfl fun fr r=>?_)));refine za0 (.bool false) r (fun R=>za4 r (v:=.bool false) rfl h1 to4 rfl) rfl fun fr r=>aj ?_
  refine ae (t:=false) (r.ev rfl) (fun h=>by cases h) (fun _=>ag ?_);refine aa (af (za0 (.pointer (some ⟨b1,2,none⟩)) r (fun R=>za3 r (o:=0) rfl zoK) rfl fun fr r=>kG (zpu (⟨op,at_,a,b⟩:Access)) 4 r rfl h1 ta38 rfl rfl fun r=>za0 (.func (.func 312) #[] #[zp b1,zp b2]) r (fun R=>zaf r rfl) rfl fun fr r=>?_))
  have hFb:∀ b,(fun b=>F b∨b=b1∨b=b2) b→b<w3.heap.size:=by rintro b (h | h | h); exact ai (hF b h) hB.size; omega; omega
  have m1:¬ F1 b1:=fun h=>by have:=hF1 _ h; omega
  have m2:¬ F1 b2:=fun h=>by have:=hF1 _ h; omega
  refine kC r (zcT (F:=fun b=>F b∨b=b1∨b=b2) (n:=n) hFb ⟨op,at_,a,b⟩ (a1:=fun x=>(k x).bind g) (show FnL ar zpo u64 n (fun b=>F b∨b=b1∨b=b2) w3 (kf 312 [] [zp b1,zp b2]) (fun x=>(k x).bind g) from
   ⟨312,[],[zp b1,zp b2],ztt,rfl,fun m hm x w' hs hz=>zfy (ih m hm) (fun b hb=>ai (hFb b hb) hz) (fun b h=>.inl (s1 b h)) (fun b h=>.inl (s2 b h)) hdj m1 (hs.at_ (.inr (.inl rfl)) h1) m2 (hs.at_ (.inr (.inr rfl)) h2)
    (hk.mono kw (fun b h=>h) ((Same.below hB hF1).trans (hs.sub (fun b h=>.inl (s1 b h)))) (Nat.le_trans hB.size hz)) (hf.mono kw (fun b h=>h) ((Same.below hB hF2).trans (hs.sub (fun b h=>.inl (s2 b h)))) (Nat.le_trans hB.size hz)) x⟩)) rfl zqL rfl ?_
  rintro _ w4 ⟨v,rfl,hb,hr⟩;refine ⟨_,rfl,fun fr r=>?_⟩
  have z4:=hb.size;have n3:¬ (fun b=>F b∨b=b1∨b=b2) b3:=by rintro (h | h | h); (have:=hF _ h; omega); omega; omega
  have h3:=zpE hb h3 n3;have hC:Chg F w0 w4:=(Chg.zpv hB).zpK hb yar
  refine kP r hr.shape rfl rfl h3 zpV rfl rfl fun w5 u5 r=>aj ?_;have z5:=u5.size
  have h3:=u5.at_;have hC:=hC.zpI u5 (.inl kw)
  refine ac ?_;have hs:=hr.shape.cells;refine za5 r rfl rfl h3 (k:=20) hs.1 zpU ?_;rw [←hs.2.2];exact zpj.fin hC hr u5 yaf n3 kw kw kw
theorem zeU {n:Nat} {F F1 F2:Nat→Prop} {w0:World} (hF:∀ b,F b→b<w0.heap.size) (s1:∀ b,F1 b→F b) (s2:∀ b,F2 b→F b) (hdj:∀ b,F1 b→¬ F2 b) {t:T (Int)} {pv fv:Value} {g:Int→T (Walk)} (hp:RepL ar zpy n t F1 w0 pv) (hf:FnL ar zpo u64 n F2 w0 fv g) (hd:t.zpB=false) :
  Calls ar 246 #[pv,fv] w0 (zpj ar zpo n (t.bind g) F w0):=zfA n hF s1 s2 hdj hp hf (.inl hd)
end
end Go.Proofs.YtbbipmelhmgmfaaGreat

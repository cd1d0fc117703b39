/- Ours. -/
import Derived.Test.YtbbipmelhmgmfaaGreatDbLoud
import Derived.Test.YtbbipmelhmgmfaaGreatDbM16
set_option linter.all false
set_option maxRecDepth 100000
set_option maxHeartbeats 20000000
namespace Go.Proofs.YtbbipmelhmgmfaaGreat
open Go.RowKit
section
variable {n : Nat} {F : Nat → Prop} {j : Nat} {w0 : World}
theorem zqy:zp7 ar 157:=kz
theorem zud:zp7 ar 245:=kz
theorem zse:zp7 ar 246:=kz
theorem zqq:zp7 ar 311:=kz
theorem ztv:zp7 ar 312:=kz
theorem zsm:zp7 ar 363:=kz
theorem ztK:zp7 ar 387:=kz
theorem zrK:zp7 ar 390:=kz
theorem ztN:zp7 ar 399:=kz
theorem znv:zph ar 224 0 0:=kz
theorem zow:zph ar 224 1 1:=kz
theorem zoR:zph ar 224 2 15:=kz
theorem zoA:zph ar 224 3 19:=kz
theorem zpX:tyA ar 221 14:=kz
theorem zpN:tyA ar 224 20:=kz
theorem zqW:tyO ar 222:=kz
theorem zrZ:tyO ar 228:=kz
theorem zsg:tyO ar 306:=kz
theorem zs2:tyO ar 326:=kz
theorem zpM:sized ar 224 20:=kz
theorem zpP:zeroOf ar 224=some (.agg (kq zpf)):=kz
theorem zgd (hF:kH F w0)
    (a0:Res) :
    Calls ar 15 #[aq (resC a0)] w0 (zpa ar zpe n (D.zfZ a0) F w0):=by
 refine kN Tryz.func15 rfl 5 rfl rfl fun fr r hB=>?_;refine wsr ?_
 refine kX 36 (aq (resC a0)) r rfl rfl fun b1 w2 n3 r=>?_;obtain ⟨E1,Z2,H1,hB,zB⟩:=n3.all hB
 refine za7 (.cells (kq zpe) 41 (0,0)) r (fun R=>za6 tz41) rfl fun fr b4 w5 n6 r=>?_;have H1:=keep n6.below H1
 obtain ⟨E4,Z5,H4,hB,zB⟩:=n6.all hB;refine wn (wsr (kG (resC a0) 2 r rfl H1 ta36 rfl rfl fun r=>kU (.agg (zp9 true (zpe.cells a0) 0 0 0 0 .nilFunc)) r kz rfl fun r=>?_));refine zaJ (.cells (zp9 true (zpe.cells a0) 0 0 0 0 .nilFunc) 41 (0,0)) r (fun R=>zaB r (o:=0) (v:=(.agg (zp9 true (zpe.cells a0) 0 0 0 0 .nilFunc))) rfl rfl H4 ts41 ak rfl rfl) rfl fun fr w7 u8 r=>?_
 have Z7:=u8.size;have H1:=u8.keep H1 kw
 have H4:=u8.at_;obtain ⟨hB,zB⟩:=u8.on hB kw
 refine wn (ac ?_);refine za5 r rfl rfl H4 (k:=8) rfl ta41 ?_;exact ⟨_,rfl,(Chg.zpl hB),RepL.zgV⟩
theorem zcb (hF:kH F w0)
    (a0:Access) {a1f:FuncId} {aG aH:List Value} {a1:(Int→T Res)} (a1n:FnL ar zpe u64 (n) F w0 (kf a1f aG aH) a1) :
    Calls ar 177 #[aq (zpm a0),kf a1f aG aH] w0 (zpa ar zpe n (D.zfW a0 a1) F w0):=by
 refine kN Tryz.func177 rfl 8 rfl rfl fun fr r hB=>?_;refine wsr ?_
 refine kX 38 (aq (zpm a0)) r rfl rfl fun b1 w2 n3 r=>?_;obtain ⟨E1,Z2,H1,hB,zB⟩:=n3.all hB
 refine za7 (.cells (kq zpe) 41 (0,0)) r (fun R=>za6 tz41) rfl fun fr b4 w5 n6 r=>?_;have H1:=keep n6.below H1
 obtain ⟨E4,Z5,H4,hB,zB⟩:=n6.all hB;refine wn (wsr (kG (zpm a0) 4 r rfl H1 ta38 rfl rfl fun r=>kM (kf a1f aG aH) r rfl rfl fun r=>kU (.agg (zp9 false zpe.zero a0.op a0.at_ a0.a a0.b (kf a1f aG aH))) r kz rfl fun r=>?_));refine zaJ (.cells (zp9 false zpe.zero a0.op a0.at_ a0.a a0.b (kf a1f aG aH)) 41 (0,0)) r (fun R=>zaB r (o:=0) (v:=(.agg (zp9 false zpe.zero a0.op a0.at_ a0.a a0.b (kf a1f aG aH)))) rfl rfl H4 ts41 ak rfl rfl) rfl fun fr w7 u8 r=>?_
 have Z7:=u8.size;have H1:=u8.keep H1 kw
 have H4:=u8.at_;obtain ⟨hB,zB⟩:=u8.on hB kw
 refine wn (ac ?_);refine za5 r rfl rfl H4 (k:=8) rfl ta41 ?_;exact ⟨_,rfl,(Chg.zpl hB),RepL.ziZ (a1n.mono (Nat.le_refl _) (fun b hb=>.inl hb) (Same.below hB hF) hB.size)⟩
def D.zcC (a0:Walk):T Walk:=(T.done a0)
theorem zfK (hF:kH F w0)
    (a0:Walk) :
    Calls ar 316 #[aq (zpv a0)] w0 (zpa ar zpf n (D.zcC a0) F w0):=by
 refine kN Tryz.func316 rfl 5 rfl rfl fun fr r hB=>?_;refine wsr ?_
 refine kX 221 (aq (zpv a0)) r rfl rfl fun b1 w2 n3 r=>?_;obtain ⟨E1,Z2,H1,hB,zB⟩:=n3.all hB
 refine za7 (.cells (kq zpf) 224 (0,0)) r (fun R=>za6 zpP) rfl fun fr b4 w5 n6 r=>?_;have H1:=keep n6.below H1
 obtain ⟨E4,Z5,H4,hB,zB⟩:=n6.all hB;refine wn (wsr (kG (zpv a0) 14 r rfl H1 zpX rfl rfl fun r=>kU (.agg (zp9 true (zpf.cells a0) 0 0 0 0 .nilFunc)) r kz rfl fun r=>?_));refine zaJ (.cells (zp9 true (zpf.cells a0) 0 0 0 0 .nilFunc) 224 (0,0)) r (fun R=>zaB r (o:=0) (v:=(.agg (zp9 true (zpf.cells a0) 0 0 0 0 .nilFunc))) rfl rfl H4 zpM ak rfl (zkP rfl)) rfl fun fr w7 u8 r=>?_
 have Z7:=u8.size;have H1:=u8.keep H1 kw
 have H4:=u8.at_;obtain ⟨hB,zB⟩:=u8.on hB kw
 refine wn (ac ?_);refine za5 r rfl rfl H4 (k:=20) rfl zpN ?_;exact ⟨_,rfl,(Chg.zpl hB),RepL.zgV⟩
def D.zgI (a0:Access) (a1:(Int→T Walk)):T Walk:=(T.act a0.op a0.at_ a0.a a0.b a1)
theorem zcR (hF:kH F w0)
    (a0:Access) {a1f:FuncId} {aG aH:List Value} {a1:(Int→T Walk)} (a1n:FnL ar zpf u64 (n) F w0 (kf a1f aG aH) a1) :
    Calls ar 311 #[aq (zpm a0),kf a1f aG aH] w0 (zpa ar zpf n (D.zgI a0 a1) F w0):=by
 refine kN Tryz.func311 rfl 8 rfl rfl fun fr r hB=>?_;refine wsr ?_
 refine kX 38 (aq (zpm a0)) r rfl rfl fun b1 w2 n3 r=>?_;obtain ⟨E1,Z2,H1,hB,zB⟩:=n3.all hB
 refine za7 (.cells (kq zpf) 224 (0,0)) r (fun R=>za6 zpP) rfl fun fr b4 w5 n6 r=>?_;have H1:=keep n6.below H1
 obtain ⟨E4,Z5,H4,hB,zB⟩:=n6.all hB;refine wn (wsr (kG (zpm a0) 4 r rfl H1 ta38 rfl rfl fun r=>kM (kf a1f aG aH) r rfl rfl fun r=>kU (.agg (zp9 false zpf.zero a0.op a0.at_ a0.a a0.b (kf a1f aG aH))) r kz rfl fun r=>?_));refine zaJ (.cells (zp9 false zpf.zero a0.op a0.at_ a0.a a0.b (kf a1f aG aH)) 224 (0,0)) r (fun R=>zaB r (o:=0) (v:=(.agg (zp9 false zpf.zero a0.op a0.at_ a0.a a0.b (kf a1f aG aH)))) rfl rfl H4 zpM ak rfl (zkP rfl)) rfl fun fr w7 u8 r=>?_
 have Z7:=u8.size;have H1:=u8.keep H1 kw
 have H4:=u8.at_;obtain ⟨hB,zB⟩:=u8.on hB kw
 refine wn (ac ?_);refine za5 r rfl rfl H4 (k:=20) rfl zpN ?_;exact ⟨_,rfl,(Chg.zpl hB),RepL.ziZ (a1n.mono (Nat.le_refl _) (fun b hb=>.inl hb) (Same.below hB hF) hB.size)⟩
def zdf (n:Nat):Prop:=∀ {F F1 F2:Nat→Prop} {w0:World},(∀ b,F b→b<w0.heap.size)→(∀ b,F1 b→F b)→(∀ b,F2 b→F b)→(∀ b,F1 b→¬ F2 b)→∀ {t:T (Grant)} {pv fv:Value} {g:Grant→T (Res)},RepL ar zpk n t F1 w0 pv→FnL ar zpe argGrant n F2 w0 fv g→
  (t.zps=false∨FnL ar zpe argGrant (n+1) F2 w0 fv g)→Calls ar 130 #[pv,fv] w0 (zpa ar zpe n (t.bind g) F w0)
theorem zgn {n:Nat} (ih:zdf n) {F F1 F2:Nat→Prop} {w0:World} (hF:∀ b,F b→b<w0.heap.size) (s1:∀ b,F1 b→F b) (s2:∀ b,F2 b→F b) (hdj:∀ b,F1 b→¬ F2 b) {op at_ a b:Int} {nf:FuncId} {n1 n2:List Value} {k:Int→T (Grant)} {ff:FuncId} {f1 f2:List Value} {g:Grant→T (Res)}
    {b1 b2:Nat} (m1:¬ F1 b1) (h1:w0.heap[b1]?=some (.cells (zp9 false zpk.zero op at_ a b (kf nf n1 n2)) 116 (0,0))) (m2:¬ F1 b2) (h2:w0.heap[b2]?=some (.cells #[kf ff f1 f2] 207 (0,0)))
    (hk:FnL ar zpk u64 (n+1) F1 w0 (kf nf n1 n2) k) (hg:FnL ar zpe argGrant (n+1) F2 w0 (kf ff f1 f2) g) (x:Int) :
    Calls ar 215 #[.int .u64 x,zp b1,zp b2] w0 (zpa ar zpe n ((k x).bind g) F w0):=by
 refine kN Tryz.func215 rfl 11 rfl rfl fun fr r hB=>?_;have hF1:∀ b,F1 b→b<w0.heap.size:=fun b h=>hF b (s1 b h)
 have hF2:∀ b,F2 b→b<w0.heap.size:=fun b h=>hF b (s2 b h)
 refine aa (af ?_);refine za7 (.cells (kq zpe) 41 (0,0)) r (fun R=>za6 tz41) rfl fun fr b3 w1 q1 r=>wn ?_;have h1:=keep q1.below h1
 have h2:=keep q1.below h2;have e3:=q1.eq;have z1:=q1.size;have h3:=q1.at_;have hB:=hB.trans (q1.below.mono hB.size);have zB:=hB.size;have hk1:=hk.mono (Nat.le_refl _) (fun b h=>h) (Same.below hB hF1) hB.size
 have hF1':∀ b,F1 b→b<w1.heap.size:=fun b h=>ai (hF1 b h) zB
 refine aa ?_;refine zes 5 F1 [.val (.pointer (some ⟨b1,8,none⟩)),.val (kf nf n1 n2),.val (U x),.eff (StepE ar zpk n (k x) F1) (StepE.st hF1'),.val (kf ff f1 f2)] mixed r hF1' kz ?_ ?_
 ·
  refine zaV r rfl (fun fr1 g w' hk' hd r'=>?_) ?_
  · exact za3 r' (b:=b1) (o:=0) (k:=8) rfl zoI bz
  refine zaV r rfl (fun fr1 g w' hk' hd r'=>?_) ?_
  · exact za4 r' (v:=kf nf n1 n2) (hd 0 rfl).1 (zpu (drK hk') h1 m1) zsV rfl bz
  refine zaV r rfl (fun fr1 g w' hk' hd r'=>?_) ?_
  · exact zap r' (v:=.int .u64 x) rfl bz
  refine zdz r rfl kz (fun fr1 g w' hb' hd r'=>?_) ?_
  ·
   have hb':Below w1.heap.size w1 w':=dr hb';refine zc6 r' (fs:=n1) (cs:=n2) (hd 1 rfl).1 (hd 2 rfl).1 hk1.at_.1 ((hk1.at_.2 n (Nat.lt_succ_self n) x w' (Same.below hb' hF1') hb'.size).mono ?_);rintro _ w2 ⟨v,rfl,hb2,hr2⟩;exact ⟨v,rfl,hb2.kept,hr2⟩
  refine zaV r rfl (fun fr1 g w' hk' hd r'=>?_) ?_
  · exact za4 r' (v:=kf ff f1 f2) rfl (zpu (drK hk') h2 m2) zrI rfl bz
  exact zb3
 intro fr gg w2 hb hΦ _ r;have hr:RepL ar zpk n (k x) (fun b=>F1 b∨((gg 3).lo≤b∧b<(gg 3).hi)) w2 (gg 3).v:=(hΦ 3 rfl).1
 have hrg:=(hΦ 3 rfl).2;have r:=r.congr (sc ((hΦ 4 rfl).1) rfl);have z2:=hb.size;have hr3:¬ F1 b3:=fun h=>by have:=hF1 _ h; omega
 have h3:=zpu hb h3 hr3;have hC:Chg F w0 w2:=(Chg.zpl hB).zpB hb fun b _ h=>s1 b h
 have zB2:=hC.size;have hS2:Same F2 w0 w2:=fun b h=>(hb.block b (ai (hF2 b h) zB) fun h'=>hdj b h' h).trans (hB.block b (hF2 b h))
 have hFb:∀ b,(kW F w0 w2 b3) b→b<w2.heap.size:=by rintro b (h | h); exact ai (hF b h) zB2; exact h.2.1
 refine kC r (ih (F:=fun b=>F b∨(w0.heap.size≤b∧b<w2.heap.size∧b≠b3)) (F1:=fun b=>F1 b∨((gg 3).lo≤b∧b<(gg 3).hi)) (F2:=F2) hFb yao (fun b h=>.inl (s2 b h))
  yap hr (hg.mono kw (fun b h=>h) hS2 zB2) (.inr (hg.mono (Nat.le_refl _) (fun b h=>h) hS2 zB2))) rfl zsp rfl ?_
 rintro _ w3 ⟨v2,rfl,hb2,hr2⟩;refine ⟨_,rfl,fun fr r=>?_⟩
 have z3:=hb2.size;have hF3:¬ (kW F w0 w2 b3) b3:=by rintro (h | ⟨_,_,h⟩); (have:=hF _ h; omega); exact h rfl
 have h3:=zpu hb2 h3 hF3;have hC:=hC.zpB hb2 yad
 refine kP r hr2.shape rfl rfl h3 ts41 rfl rfl fun w4 u4 r=>wn ?_;have z4:=u4.size
 have h3:=u4.at_;have hC:=hC.zpA u4 (.inl kw)
 refine ac ?_;have hs:=hr2.shape.cells;refine za5 r rfl rfl h3 (k:=8) hs.1 ta41 ?_;rw [←hs.2.2];exact zpa.fin hC hr2 u4 yac hF3 kw kw kw
theorem zgk (n:Nat):zdf n:=by
 induction n using Nat.strongRecOn with
 | _ n ih=>
 intro F F1 F2 w0 hF s1 s2 hdj t pv fv g hp hf hd;obtain ⟨ff,f1,f2,hcf,rfl,hff⟩:=id hf;have hF1:∀ b,F1 b→b<w0.heap.size:=fun b h=>hF b (s1 b h)
 have hF2:∀ b,F2 b→b<w0.heap.size:=fun b h=>hF b (s2 b h)
 cases t with
 | cut=>unfold RepL at hp; exact hp.elim
 | done x0=>
  have hf:=hd.resolve_left yay
  unfold RepL at hp
  subst hp;refine enter (l:=[.agg (zp9 true (zpk.cells x0) 0 0 0 0 .nilFunc),kf ff f1 f2]) Tryz.func130 rfl 15 rfl rfl fun fr r=>?_;have hB:=Below.refl w0.heap.size w0
  refine aa (af ?_);refine kX 116 (.agg (zp9 true (zpk.cells x0) 0 0 0 0 .nilFunc)) r rfl rfl fun b1 w1 q1 r=>?_;refine kX 207 (kf ff f1 f2) r rfl rfl fun b2 w2 q2 r=>?_
  refine za7 (.cells (kq zpe) 41 (0,0)) r (fun R=>za6 tz41) rfl fun fr b3 w3 q3 r=>aj ?_;have h1:=keep q3.below (keep q2.below q1.at_)
  have h2:=keep q3.below q2.at_;have h3:=q3.at_;have e1:=q1.eq; have e2:=q2.eq; have e3:=q3.eq; have z1:=q1.size; have z2:=q2.size; have z3:=q3.size;have hB:=((hB.trans q1.below).trans (q2.below.mono kw)).trans (q3.below.mono kw)
  have zB:=hB.size;refine aa (aa (af (za0 (zp b1) r (fun R=>za3 r (o:=0) rfl znk) rfl fun fr r=>?_)));refine za0 (.bool true) r (fun R=>za4 r (v:=.bool true) rfl h1 to4 rfl) rfl fun fr r=>aj ?_
  refine ae (t:=true) (r.ev rfl) (fun _=>?_) (fun h=>by cases h)
  refine aa (af (za0 (kf ff f1 f2) r (fun R=>za4 r (v:=kf ff f1 f2) rfl h2 zrI rfl) rfl fun fr r=>za0 (.pointer (some ⟨b1,1,none⟩)) r (fun R=>za3 r (o:=0) rfl zoT) rfl fun fr r=>kG (grantC x0) 3 r rfl h1 zrE rfl rfl fun r=>?_));refine zbo r (hf.at_.2 n (Nat.lt_succ_self n) x0 w3 (Same.below hB hF2) hB.size) (fun R hc=>zdR r rfl rfl hf.at_.1 hc) rfl ?_
  rintro _ w4 ⟨v,rfl,hb,hr⟩;refine ⟨_,rfl,fun fr r=>?_⟩
  have z4:=hb.size;have n3:¬ F2 b3:=fun h=>by have:=hF2 _ h; omega
  have h3:=zpu hb h3 n3;have hC:Chg F w0 w4:=(Chg.zpl hB).zpB hb fun b _ h=>s2 b h
  refine kP r hr.shape rfl rfl h3 ts41 rfl rfl fun w5 u5 r=>aj ?_;have z5:=u5.size
  have h3:=u5.at_;have hC:=hC.zpA u5 (.inl kw)
  refine ac ?_;have hs:=hr.shape.cells;refine za5 r rfl rfl h3 (k:=8) hs.1 ta41 ?_;rw [←hs.2.2];exact zpa.fin hC hr u5 (fun b hb=>.inl (s2 b hb)) n3 kw kw kw
 | act op at_ a b k=>
  obtain ⟨nf,n1,n2,hcn,rfl,hk⟩:∃ (nf:FuncId) (n1 n2:List Value),zp7 ar nf=true∧pv=.agg (zp9 false zpk.zero op at_ a b (kf nf n1 n2))∧FnL ar zpk u64 n F1 w0 (kf nf n1 n2) k:=by
   exact RepL.zcH hp
  refine enter (l:=[.agg (zp9 false zpk.zero op at_ a b (kf nf n1 n2)),kf ff f1 f2]) Tryz.func130 rfl 15 rfl rfl fun fr r=>?_;have hB:=Below.refl w0.heap.size w0
  refine aa (af ?_);refine kX 116 (.agg (zp9 false zpk.zero op at_ a b (kf nf n1 n2))) r rfl rfl fun b1 w1 q1 r=>?_;refine kX 207 (kf ff f1 f2) r rfl rfl fun b2 w2 q2 r=>?_
  refine za7 (.cells (kq zpe) 41 (0,0)) r (fun R=>za6 tz41) rfl fun fr b3 w3 q3 r=>aj ?_;have h1:=keep q3.below (keep q2.below q1.at_)
  have h2:=keep q3.below q2.at_;have h3:=q3.at_;have e1:=q1.eq; have e2:=q2.eq; have e3:=q3.eq; have z1:=q1.size; have z2:=q2.size; have z3:=q3.size;have hB:=((hB.trans q1.below).trans (q2.below.mono kw)).trans (q3.below.mono kw)
  have zB:=hB.size;refine aa (aa (af (za0 (zp b1) r (fun R=>za3 r (o:=0) rfl znk) rfl fun fr r=>?_)));refine za0 (.bool false) r (fun R=>za4 r (v:=.bool false) rfl h1 to4 rfl) rfl fun fr r=>aj ?_
  refine ae (t:=false) (r.ev rfl) (fun h=>by cases h) (fun _=>ag ?_);refine aa (af (za0 (.pointer (some ⟨b1,4,none⟩)) r (fun R=>za3 r (o:=0) rfl zoi) rfl fun fr r=>kG (zpm (⟨op,at_,a,b⟩:Access)) 4 r rfl h1 ta38 rfl rfl fun r=>za0 (.func (.func 215) #[] #[zp b1,zp b2]) r (fun R=>zae r rfl) rfl fun fr r=>?_))
  have hFb:∀ b,(fun b=>F b∨b=b1∨b=b2) b→b<w3.heap.size:=by rintro b (h | h | h); exact ai (hF b h) hB.size; omega; omega
  have m1:¬ F1 b1:=fun h=>by have:=hF1 _ h; omega
  have m2:¬ F1 b2:=fun h=>by have:=hF1 _ h; omega
  refine kC r (zcb (F:=fun b=>F b∨b=b1∨b=b2) (n:=n) hFb ⟨op,at_,a,b⟩ (a1:=fun x=>(k x).bind g) (show FnL ar zpe u64 n (fun b=>F b∨b=b1∨b=b2) w3 (kf 215 [] [zp b1,zp b2]) (fun x=>(k x).bind g) from
   ⟨215,[],[zp b1,zp b2],zt6,rfl,fun m hm x w' hs hz=>zgn (ih m hm) (fun b hb=>ai (hFb b hb) hz) (fun b h=>.inl (s1 b h)) (fun b h=>.inl (s2 b h)) hdj m1 (hs.at_ (.inr (.inl rfl)) h1) m2 (hs.at_ (.inr (.inr rfl)) h2)
    (hk.mono kw (fun b h=>h) ((Same.below hB hF1).trans (hs.sub (fun b h=>.inl (s1 b h)))) (Nat.le_trans hB.size hz)) (hf.mono kw (fun b h=>h) ((Same.below hB hF2).trans (hs.sub (fun b h=>.inl (s2 b h)))) (Nat.le_trans hB.size hz)) x⟩)) rfl zqf rfl ?_
  rintro _ w4 ⟨v,rfl,hb,hr⟩;refine ⟨_,rfl,fun fr r=>?_⟩
  have z4:=hb.size;have n3:¬ (fun b=>F b∨b=b1∨b=b2) b3:=by rintro (h | h | h); (have:=hF _ h; omega); omega; omega
  have h3:=zpu hb h3 n3;have hC:Chg F w0 w4:=(Chg.zpl hB).zpB hb yar
  refine kP r hr.shape rfl rfl h3 ts41 rfl rfl fun w5 u5 r=>aj ?_;have z5:=u5.size
  have h3:=u5.at_;have hC:=hC.zpA u5 (.inl kw)
  refine ac ?_;have hs:=hr.shape.cells;refine za5 r rfl rfl h3 (k:=8) hs.1 ta41 ?_;rw [←hs.2.2];exact zpa.fin hC hr u5 yaf n3 kw kw kw
theorem zfv {n:Nat} {F F1 F2:Nat→Prop} {w0:World} (hF:∀ b,F b→b<w0.heap.size) (s1:∀ b,F1 b→F b) (s2:∀ b,F2 b→F b) (hdj:∀ b,F1 b→¬ F2 b) {t:T (Grant)} {pv fv:Value} {g:Grant→T (Res)} (hp:RepL ar zpk n t F1 w0 pv) (hf:FnL ar zpe argGrant (n+1) F2 w0 fv g) :
  Calls ar 130 #[pv,fv] w0 (zpa ar zpe n (t.bind g) F w0):=zgk n hF s1 s2 hdj hp (hf.mono kw (fun b h=>h) (Same.refl _ _) (Nat.le_refl _)) (.inr hf)
def zdL (n:Nat):Prop:=∀ {F F1 F2:Nat→Prop} {w0:World},(∀ b,F b→b<w0.heap.size)→(∀ b,F1 b→F b)→(∀ b,F2 b→F b)→(∀ b,F1 b→¬ F2 b)→∀ {t:T (Walk)} {pv fv:Value} {g:Walk→T (Res)},RepL ar zpf n t F1 w0 pv→FnL ar zpe argWalk n F2 w0 fv g→
  (t.zps=false∨FnL ar zpe argWalk (n+1) F2 w0 fv g)→Calls ar 157 #[pv,fv] w0 (zpa ar zpe n (t.bind g) F w0)
theorem zgK {n:Nat} (ih:zdL n) {F F1 F2:Nat→Prop} {w0:World} (hF:∀ b,F b→b<w0.heap.size) (s1:∀ b,F1 b→F b) (s2:∀ b,F2 b→F b) (hdj:∀ b,F1 b→¬ F2 b) {op at_ a b:Int} {nf:FuncId} {n1 n2:List Value} {k:Int→T (Walk)} {ff:FuncId} {f1 f2:List Value} {g:Walk→T (Res)}
    {b1 b2:Nat} (m1:¬ F1 b1) (h1:w0.heap[b1]?=some (.cells (zp9 false zpf.zero op at_ a b (kf nf n1 n2)) 224 (0,0))) (m2:¬ F1 b2) (h2:w0.heap[b2]?=some (.cells #[kf ff f1 f2] 228 (0,0)))
    (hk:FnL ar zpf u64 (n+1) F1 w0 (kf nf n1 n2) k) (hg:FnL ar zpe argWalk (n+1) F2 w0 (kf ff f1 f2) g) (x:Int) :
    Calls ar 245 #[.int .u64 x,zp b1,zp b2] w0 (zpa ar zpe n ((k x).bind g) F w0):=by
 refine kN Tryz.func245 rfl 11 rfl rfl fun fr r hB=>?_;have hF1:∀ b,F1 b→b<w0.heap.size:=fun b h=>hF b (s1 b h)
 have hF2:∀ b,F2 b→b<w0.heap.size:=fun b h=>hF b (s2 b h)
 refine aa (af ?_);refine za7 (.cells (kq zpe) 41 (0,0)) r (fun R=>za6 tz41) rfl fun fr b3 w1 q1 r=>wn ?_;have h1:=keep q1.below h1
 have h2:=keep q1.below h2;have e3:=q1.eq;have z1:=q1.size;have h3:=q1.at_;have hB:=hB.trans (q1.below.mono hB.size);have zB:=hB.size;have hk1:=hk.mono (Nat.le_refl _) (fun b h=>h) (Same.below hB hF1) hB.size
 have hF1':∀ b,F1 b→b<w1.heap.size:=fun b h=>ai (hF1 b h) zB
 refine aa ?_;refine zes 5 F1 [.val (.pointer (some ⟨b1,19,none⟩)),.val (kf nf n1 n2),.val (U x),.eff (StepE ar zpf n (k x) F1) (StepE.st hF1'),.val (kf ff f1 f2)] mixed r hF1' kz ?_ ?_
 ·
  refine zaV r rfl (fun fr1 g w' hk' hd r'=>?_) ?_
  · exact za3 r' (b:=b1) (o:=0) (k:=19) rfl zoA bz
  refine zaV r rfl (fun fr1 g w' hk' hd r'=>?_) ?_
  · exact za4 r' (v:=kf nf n1 n2) (hd 0 rfl).1 (zpu (drK hk') h1 m1) zqW rfl bz
  refine zaV r rfl (fun fr1 g w' hk' hd r'=>?_) ?_
  · exact zap r' (v:=.int .u64 x) rfl bz
  refine zdz r rfl kz (fun fr1 g w' hb' hd r'=>?_) ?_
  ·
   have hb':Below w1.heap.size w1 w':=dr hb';refine zc6 r' (fs:=n1) (cs:=n2) (hd 1 rfl).1 (hd 2 rfl).1 hk1.at_.1 ((hk1.at_.2 n (Nat.lt_succ_self n) x w' (Same.below hb' hF1') hb'.size).mono ?_);rintro _ w2 ⟨v,rfl,hb2,hr2⟩;exact ⟨v,rfl,hb2.kept,hr2⟩
  refine zaV r rfl (fun fr1 g w' hk' hd r'=>?_) ?_
  · exact za4 r' (v:=kf ff f1 f2) rfl (zpu (drK hk') h2 m2) zrZ rfl bz
  exact zb3
 intro fr gg w2 hb hΦ _ r;have hr:RepL ar zpf n (k x) (fun b=>F1 b∨((gg 3).lo≤b∧b<(gg 3).hi)) w2 (gg 3).v:=(hΦ 3 rfl).1
 have hrg:=(hΦ 3 rfl).2;have r:=r.congr (sc ((hΦ 4 rfl).1) rfl);have z2:=hb.size;have hr3:¬ F1 b3:=fun h=>by have:=hF1 _ h; omega
 have h3:=zpu hb h3 hr3;have hC:Chg F w0 w2:=(Chg.zpl hB).zpB hb fun b _ h=>s1 b h
 have zB2:=hC.size;have hS2:Same F2 w0 w2:=fun b h=>(hb.block b (ai (hF2 b h) zB) fun h'=>hdj b h' h).trans (hB.block b (hF2 b h))
 have hFb:∀ b,(kW F w0 w2 b3) b→b<w2.heap.size:=by rintro b (h | h); exact ai (hF b h) zB2; exact h.2.1
 refine kC r (ih (F:=fun b=>F b∨(w0.heap.size≤b∧b<w2.heap.size∧b≠b3)) (F1:=fun b=>F1 b∨((gg 3).lo≤b∧b<(gg 3).hi)) (F2:=F2) hFb yao (fun b h=>.inl (s2 b h))
  yap hr (hg.mono kw (fun b h=>h) hS2 zB2) (.inr (hg.mono (Nat.le_refl _) (fun b h=>h) hS2 zB2))) rfl zqy rfl ?_
 rintro _ w3 ⟨v2,rfl,hb2,hr2⟩;refine ⟨_,rfl,fun fr r=>?_⟩
 have z3:=hb2.size;have hF3:¬ (kW F w0 w2 b3) b3:=by rintro (h | ⟨_,_,h⟩); (have:=hF _ h; omega); exact h rfl
 have h3:=zpu hb2 h3 hF3;have hC:=hC.zpB hb2 yad
 refine kP r hr2.shape rfl rfl h3 ts41 rfl rfl fun w4 u4 r=>wn ?_;have z4:=u4.size
 have h3:=u4.at_;have hC:=hC.zpA u4 (.inl kw)
 refine ac ?_;have hs:=hr2.shape.cells;refine za5 r rfl rfl h3 (k:=8) hs.1 ta41 ?_;rw [←hs.2.2];exact zpa.fin hC hr2 u4 yac hF3 kw kw kw
theorem zgF (n:Nat):zdL n:=by
 induction n using Nat.strongRecOn with
 | _ n ih=>
 intro F F1 F2 w0 hF s1 s2 hdj t pv fv g hp hf hd;obtain ⟨ff,f1,f2,hcf,rfl,hff⟩:=id hf;have hF1:∀ b,F1 b→b<w0.heap.size:=fun b h=>hF b (s1 b h)
 have hF2:∀ b,F2 b→b<w0.heap.size:=fun b h=>hF b (s2 b h)
 cases t with
 | cut=>unfold RepL at hp; exact hp.elim
 | done x0=>
  have hf:=hd.resolve_left yay
  unfold RepL at hp
  subst hp;refine enter (l:=[.agg (zp9 true (zpf.cells x0) 0 0 0 0 .nilFunc),kf ff f1 f2]) Tryz.func157 rfl 15 rfl rfl fun fr r=>?_;have hB:=Below.refl w0.heap.size w0
  refine aa (af ?_);refine kX 224 (.agg (zp9 true (zpf.cells x0) 0 0 0 0 .nilFunc)) r rfl rfl fun b1 w1 q1 r=>?_;refine kX 228 (kf ff f1 f2) r rfl rfl fun b2 w2 q2 r=>?_
  refine za7 (.cells (kq zpe) 41 (0,0)) r (fun R=>za6 tz41) rfl fun fr b3 w3 q3 r=>aj ?_;have h1:=keep q3.below (keep q2.below q1.at_)
  have h2:=keep q3.below q2.at_;have h3:=q3.at_;have e1:=q1.eq; have e2:=q2.eq; have e3:=q3.eq; have z1:=q1.size; have z2:=q2.size; have z3:=q3.size;have hB:=((hB.trans q1.below).trans (q2.below.mono kw)).trans (q3.below.mono kw)
  have zB:=hB.size;refine aa (aa (af (za0 (zp b1) r (fun R=>za3 r (o:=0) rfl znv) rfl fun fr r=>?_)));refine za0 (.bool true) r (fun R=>za4 r (v:=.bool true) rfl h1 to4 rfl) rfl fun fr r=>aj ?_
  refine ae (t:=true) (r.ev rfl) (fun _=>?_) (fun h=>by cases h)
  refine aa (af (za0 (kf ff f1 f2) r (fun R=>za4 r (v:=kf ff f1 f2) rfl h2 zrZ rfl) rfl fun fr r=>za0 (.pointer (some ⟨b1,1,none⟩)) r (fun R=>za3 r (o:=0) rfl zow) rfl fun fr r=>kG (zpv x0) 14 r rfl h1 zpX rfl rfl fun r=>?_));refine zbo r (hf.at_.2 n (Nat.lt_succ_self n) x0 w3 (Same.below hB hF2) hB.size) (fun R hc=>zdR r rfl rfl hf.at_.1 hc) rfl ?_
  rintro _ w4 ⟨v,rfl,hb,hr⟩;refine ⟨_,rfl,fun fr r=>?_⟩
  have z4:=hb.size;have n3:¬ F2 b3:=fun h=>by have:=hF2 _ h; omega
  have h3:=zpu hb h3 n3;have hC:Chg F w0 w4:=(Chg.zpl hB).zpB hb fun b _ h=>s2 b h
  refine kP r hr.shape rfl rfl h3 ts41 rfl rfl fun w5 u5 r=>aj ?_;have z5:=u5.size
  have h3:=u5.at_;have hC:=hC.zpA u5 (.inl kw)
  refine ac ?_;have hs:=hr.shape.cells;refine za5 r rfl rfl h3 (k:=8) hs.1 ta41 ?_;rw [←hs.2.2];exact zpa.fin hC hr u5 (fun b hb=>.inl (s2 b hb)) n3 kw kw kw
 | act op at_ a b k=>
  obtain ⟨nf,n1,n2,hcn,rfl,hk⟩:∃ (nf:FuncId) (n1 n2:List Value),zp7 ar nf=true∧pv=.agg (zp9 false zpf.zero op at_ a b (kf nf n1 n2))∧FnL ar zpf u64 n F1 w0 (kf nf n1 n2) k:=by
   exact RepL.zcH hp
  refine enter (l:=[.agg (zp9 false zpf.zero op at_ a b (kf nf n1 n2)),kf ff f1 f2]) Tryz.func157 rfl 15 rfl rfl fun fr r=>?_;have hB:=Below.refl w0.heap.size w0
  refine aa (af ?_);refine kX 224 (.agg (zp9 false zpf.zero op at_ a b (kf nf n1 n2))) r rfl rfl fun b1 w1 q1 r=>?_;refine kX 228 (kf ff f1 f2) r rfl rfl fun b2 w2 q2 r=>?_
  refine za7 (.cells (kq zpe) 41 (0,0)) r (fun R=>za6 tz41) rfl fun fr b3 w3 q3 r=>aj ?_;have h1:=keep q3.below (keep q2.below q1.at_)
  have h2:=keep q3.below q2.at_;have h3:=q3.at_;have e1:=q1.eq; have e2:=q2.eq; have e3:=q3.eq; have z1:=q1.size; have z2:=q2.size; have z3:=q3.size;have hB:=((hB.trans q1.below).trans (q2.below.mono kw)).trans (q3.below.mono kw)
  have zB:=hB.size;refine aa (aa (af (za0 (zp b1) r (fun R=>za3 r (o:=0) rfl znv) rfl fun fr r=>?_)));refine za0 (.bool false) r (fun R=>za4 r (v:=.bool false) rfl h1 to4 rfl) rfl fun fr r=>aj ?_
  refine ae (t:=false) (r.ev rfl) (fun h=>by cases h) (fun _=>ag ?_);refine aa (af (za0 (.pointer (some ⟨b1,15,none⟩)) r (fun R=>za3 r (o:=0) rfl zoR) rfl fun fr r=>kG (zpm (⟨op,at_,a,b⟩:Access)) 4 r rfl h1 ta38 rfl rfl fun r=>za0 (.func (.func 245) #[] #[zp b1,zp b2]) r (fun R=>zae r rfl) rfl fun fr r=>?_))
  have hFb:∀ b,(fun b=>F b∨b=b1∨b=b2) b→b<w3.heap.size:=by rintro b (h | h | h); exact ai (hF b h) hB.size; omega; omega
  have m1:¬ F1 b1:=fun h=>by have:=hF1 _ h; omega
  have m2:¬ F1 b2:=fun h=>by have:=hF1 _ h; omega
  refine kC r (zcb (F:=fun b=>F b∨b=b1∨b=b2) (n:=n) hFb ⟨op,at_,a,b⟩ (a1:=fun x=>(k x).bind g) (show FnL ar zpe u64 n (fun b=>F b∨b=b1∨b=b2) w3 (kf 245 [] [zp b1,zp b2]) (fun x=>(k x).bind g) from
   ⟨245,[],[zp b1,zp b2],zud,rfl,fun m hm x w' hs hz=>zgK (ih m hm) (fun b hb=>ai (hFb b hb) hz) (fun b h=>.inl (s1 b h)) (fun b h=>.inl (s2 b h)) hdj m1 (hs.at_ (.inr (.inl rfl)) h1) m2 (hs.at_ (.inr (.inr rfl)) h2)
    (hk.mono kw (fun b h=>h) ((Same.below hB hF1).trans (hs.sub (fun b h=>.inl (s1 b h)))) (Nat.le_trans hB.size hz)) (hf.mono kw (fun b h=>h) ((Same.below hB hF2).trans (hs.sub (fun b h=>.inl (s2 b h)))) (Nat.le_trans hB.size hz)) x⟩)) rfl zqf rfl ?_
  rintro _ w4 ⟨v,rfl,hb,hr⟩;refine ⟨_,rfl,fun fr r=>?_⟩
  have z4:=hb.size;have n3:¬ (fun b=>F b∨b=b1∨b=b2) b3:=by rintro (h | h | h); (have:=hF _ h; omega); omega; omega
  have h3:=zpu hb h3 n3;have hC:Chg F w0 w4:=(Chg.zpl hB).zpB hb yar
  refine kP r hr.shape rfl rfl h3 ts41 rfl rfl fun w5 u5 r=>aj ?_;have z5:=u5.size
  have h3:=u5.at_;have hC:=hC.zpA u5 (.inl kw)
  refine ac ?_;have hs:=hr.shape.cells;refine za5 r rfl rfl h3 (k:=8) hs.1 ta41 ?_;rw [←hs.2.2];exact zpa.fin hC hr u5 yaf n3 kw kw kw
theorem zbM {n:Nat} {F F1 F2:Nat→Prop} {w0:World} (hF:∀ b,F b→b<w0.heap.size) (s1:∀ b,F1 b→F b) (s2:∀ b,F2 b→F b) (hdj:∀ b,F1 b→¬ F2 b) {t:T (Walk)} {pv fv:Value} {g:Walk→T (Res)} (hp:RepL ar zpf n t F1 w0 pv) (hf:FnL ar zpe argWalk (n+1) F2 w0 fv g) :
  Calls ar 157 #[pv,fv] w0 (zpa ar zpe n (t.bind g) F w0):=zgF n hF s1 s2 hdj hp (hf.mono kw (fun b h=>h) (Same.refl _ _) (Nat.le_refl _)) (.inr hf)
def zdI (n:Nat):Prop:=∀ {F F1 F2:Nat→Prop} {w0:World},(∀ b,F b→b<w0.heap.size)→(∀ b,F1 b→F b)→(∀ b,F2 b→F b)→(∀ b,F1 b→¬ F2 b)→∀ {t:T (Unit)} {pv fv:Value} {g:Unit→T (Res)},RepL ar zpc n t F1 w0 pv→FnL ar zpe noneE n F2 w0 fv g→
  (t.zps=false∨FnL ar zpe noneE (n+1) F2 w0 fv g)→Calls ar 228 #[pv,fv] w0 (zpa ar zpe n (t.bind g) F w0)
theorem zgY {n:Nat} (ih:zdI n) {F F1 F2:Nat→Prop} {w0:World} (hF:∀ b,F b→b<w0.heap.size) (s1:∀ b,F1 b→F b) (s2:∀ b,F2 b→F b) (hdj:∀ b,F1 b→¬ F2 b) {op at_ a b:Int} {nf:FuncId} {n1 n2:List Value} {k:Int→T (Unit)} {ff:FuncId} {f1 f2:List Value} {g:Unit→T (Res)}
    {b1 b2:Nat} (m1:¬ F1 b1) (h1:w0.heap[b1]?=some (.cells (zp9 false zpc.zero op at_ a b (kf nf n1 n2)) 133 (0,0))) (m2:¬ F1 b2) (h2:w0.heap[b2]?=some (.cells #[kf ff f1 f2] 265 (0,0)))
    (hk:FnL ar zpc u64 (n+1) F1 w0 (kf nf n1 n2) k) (hg:FnL ar zpe noneE (n+1) F2 w0 (kf ff f1 f2) g) (x:Int) :
    Calls ar 301 #[.int .u64 x,zp b1,zp b2] w0 (zpa ar zpe n ((k x).bind g) F w0):=by
 refine kN Tryz.func301 rfl 11 rfl rfl fun fr r hB=>?_;have hF1:∀ b,F1 b→b<w0.heap.size:=fun b h=>hF b (s1 b h)
 have hF2:∀ b,F2 b→b<w0.heap.size:=fun b h=>hF b (s2 b h)
 refine aa (af ?_);refine za7 (.cells (kq zpe) 41 (0,0)) r (fun R=>za6 tz41) rfl fun fr b3 w1 q1 r=>wn ?_;have h1:=keep q1.below h1
 have h2:=keep q1.below h2;have e3:=q1.eq;have z1:=q1.size;have h3:=q1.at_;have hB:=hB.trans (q1.below.mono hB.size);have zB:=hB.size;have hk1:=hk.mono (Nat.le_refl _) (fun b h=>h) (Same.below hB hF1) hB.size
 have hF1':∀ b,F1 b→b<w1.heap.size:=fun b h=>ai (hF1 b h) zB
 refine aa ?_;refine zes 5 F1 [.val (.pointer (some ⟨b1,5,none⟩)),.val (kf nf n1 n2),.val (U x),.eff (StepE ar zpc n (k x) F1) (StepE.st hF1'),.val (kf ff f1 f2)] mixed r hF1' kz ?_ ?_
 ·
  refine zaV r rfl (fun fr1 g w' hk' hd r'=>?_) ?_
  · exact za3 r' (b:=b1) (o:=0) (k:=5) rfl zjE bz
  refine zaV r rfl (fun fr1 g w' hk' hd r'=>?_) ?_
  · exact za4 r' (v:=kf nf n1 n2) (hd 0 rfl).1 (zpu (drK hk') h1 m1) zqt rfl bz
  refine zaV r rfl (fun fr1 g w' hk' hd r'=>?_) ?_
  · exact zap r' (v:=.int .u64 x) rfl bz
  refine zdz r rfl kz (fun fr1 g w' hb' hd r'=>?_) ?_
  ·
   have hb':Below w1.heap.size w1 w':=dr hb';refine zc6 r' (fs:=n1) (cs:=n2) (hd 1 rfl).1 (hd 2 rfl).1 hk1.at_.1 ((hk1.at_.2 n (Nat.lt_succ_self n) x w' (Same.below hb' hF1') hb'.size).mono ?_);rintro _ w2 ⟨v,rfl,hb2,hr2⟩;exact ⟨v,rfl,hb2.kept,hr2⟩
  refine zaV r rfl (fun fr1 g w' hk' hd r'=>?_) ?_
  · exact za4 r' (v:=kf ff f1 f2) rfl (zpu (drK hk') h2 m2) zry rfl bz
  exact zb3
 intro fr gg w2 hb hΦ _ r;have hr:RepL ar zpc n (k x) (fun b=>F1 b∨((gg 3).lo≤b∧b<(gg 3).hi)) w2 (gg 3).v:=(hΦ 3 rfl).1
 have hrg:=(hΦ 3 rfl).2;have r:=r.congr (sc ((hΦ 4 rfl).1) rfl);have z2:=hb.size;have hr3:¬ F1 b3:=fun h=>by have:=hF1 _ h; omega
 have h3:=zpu hb h3 hr3;have hC:Chg F w0 w2:=(Chg.zpl hB).zpB hb fun b _ h=>s1 b h
 have zB2:=hC.size;have hS2:Same F2 w0 w2:=fun b h=>(hb.block b (ai (hF2 b h) zB) fun h'=>hdj b h' h).trans (hB.block b (hF2 b h))
 have hFb:∀ b,(kW F w0 w2 b3) b→b<w2.heap.size:=by rintro b (h | h); exact ai (hF b h) zB2; exact h.2.1
 refine kC r (ih (F:=fun b=>F b∨(w0.heap.size≤b∧b<w2.heap.size∧b≠b3)) (F1:=fun b=>F1 b∨((gg 3).lo≤b∧b<(gg 3).hi)) (F2:=F2) hFb yao (fun b h=>.inl (s2 b h))
  yap hr (hg.mono kw (fun b h=>h) hS2 zB2) (.inr (hg.mono (Nat.le_refl _) (fun b h=>h) hS2 zB2))) rfl zrd rfl ?_
 rintro _ w3 ⟨v2,rfl,hb2,hr2⟩;refine ⟨_,rfl,fun fr r=>?_⟩
 have z3:=hb2.size;have hF3:¬ (kW F w0 w2 b3) b3:=by rintro (h | ⟨_,_,h⟩); (have:=hF _ h; omega); exact h rfl
 have h3:=zpu hb2 h3 hF3;have hC:=hC.zpB hb2 yad
 refine kP r hr2.shape rfl rfl h3 ts41 rfl rfl fun w4 u4 r=>wn ?_;have z4:=u4.size
 have h3:=u4.at_;have hC:=hC.zpA u4 (.inl kw)
 refine ac ?_;have hs:=hr2.shape.cells;refine za5 r rfl rfl h3 (k:=8) hs.1 ta41 ?_;rw [←hs.2.2];exact zpa.fin hC hr2 u4 yac hF3 kw kw kw
theorem zh2 (n:Nat):zdI n:=by
 induction n using Nat.strongRecOn with
 | _ n ih=>
 intro F F1 F2 w0 hF s1 s2 hdj t pv fv g hp hf hd;obtain ⟨ff,f1,f2,hcf,rfl,hff⟩:=id hf;have hF1:∀ b,F1 b→b<w0.heap.size:=fun b h=>hF b (s1 b h)
 have hF2:∀ b,F2 b→b<w0.heap.size:=fun b h=>hF b (s2 b h)
 cases t with
 | cut=>unfold RepL at hp; exact hp.elim
 | done x0=>
  have hf:=hd.resolve_left yay
  unfold RepL at hp
  subst hp;refine enter (l:=[.agg (zp9 true (zpc.cells x0) 0 0 0 0 .nilFunc),kf ff f1 f2]) Tryz.func228 rfl 15 rfl rfl fun fr r=>?_;have hB:=Below.refl w0.heap.size w0
  refine aa (af ?_);refine kX 133 (.agg (zp9 true (zpc.cells x0) 0 0 0 0 .nilFunc)) r rfl rfl fun b1 w1 q1 r=>?_;refine kX 265 (kf ff f1 f2) r rfl rfl fun b2 w2 q2 r=>?_
  refine za7 (.cells (kq zpe) 41 (0,0)) r (fun R=>za6 tz41) rfl fun fr b3 w3 q3 r=>aj ?_;have h1:=keep q3.below (keep q2.below q1.at_)
  have h2:=keep q3.below q2.at_;have h3:=q3.at_;have e1:=q1.eq; have e2:=q2.eq; have e3:=q3.eq; have z1:=q1.size; have z2:=q2.size; have z3:=q3.size;have hB:=((hB.trans q1.below).trans (q2.below.mono kw)).trans (q3.below.mono kw)
  have zB:=hB.size;refine aa (aa (af (za0 (zp b1) r (fun R=>za3 r (o:=0) rfl zf3) rfl fun fr r=>?_)));refine za0 (.bool true) r (fun R=>za4 r (v:=.bool true) rfl h1 to4 rfl) rfl fun fr r=>aj ?_
  refine ae (t:=true) (r.ev rfl) (fun _=>?_) (fun h=>by cases h)
  refine aa (af (za0 (kf ff f1 f2) r (fun R=>za4 r (v:=kf ff f1 f2) rfl h2 zry rfl) rfl fun fr r=>?_));refine zjn b1 1 r (fun R=>zex r rfl zqw h1) rfl fun fr sp r=>za0 (.agg #[]) r (fun R=>zf4 r rfl zqh) rfl fun fr r=>?_
  refine zbo r (hf.at_.2 n (Nat.lt_succ_self n) x0 w3 (Same.below hB hF2) hB.size) (fun R hc=>zdR r rfl rfl hf.at_.1 hc) rfl ?_;rintro _ w4 ⟨v,rfl,hb,hr⟩
  refine ⟨_,rfl,fun fr r=>?_⟩
  have z4:=hb.size;have n3:¬ F2 b3:=fun h=>by have:=hF2 _ h; omega
  have h3:=zpu hb h3 n3;have hC:Chg F w0 w4:=(Chg.zpl hB).zpB hb fun b _ h=>s2 b h
  refine kP r hr.shape rfl rfl h3 ts41 rfl rfl fun w5 u5 r=>aj ?_;have z5:=u5.size
  have h3:=u5.at_;have hC:=hC.zpA u5 (.inl kw)
  refine ac ?_;have hs:=hr.shape.cells;refine za5 r rfl rfl h3 (k:=8) hs.1 ta41 ?_;rw [←hs.2.2];exact zpa.fin hC hr u5 (fun b hb=>.inl (s2 b hb)) n3 kw kw kw
 | act op at_ a b k=>
  obtain ⟨nf,n1,n2,hcn,rfl,hk⟩:∃ (nf:FuncId) (n1 n2:List Value),zp7 ar nf=true∧pv=.agg (zp9 false zpc.zero op at_ a b (kf nf n1 n2))∧FnL ar zpc u64 n F1 w0 (kf nf n1 n2) k:=by
   exact RepL.zcH hp
  refine enter (l:=[.agg (zp9 false zpc.zero op at_ a b (kf nf n1 n2)),kf ff f1 f2]) Tryz.func228 rfl 15 rfl rfl fun fr r=>?_;have hB:=Below.refl w0.heap.size w0
  refine aa (af ?_);refine kX 133 (.agg (zp9 false zpc.zero op at_ a b (kf nf n1 n2))) r rfl rfl fun b1 w1 q1 r=>?_;refine kX 265 (kf ff f1 f2) r rfl rfl fun b2 w2 q2 r=>?_
  refine za7 (.cells (kq zpe) 41 (0,0)) r (fun R=>za6 tz41) rfl fun fr b3 w3 q3 r=>aj ?_;have h1:=keep q3.below (keep q2.below q1.at_)
  have h2:=keep q3.below q2.at_;have h3:=q3.at_;have e1:=q1.eq; have e2:=q2.eq; have e3:=q3.eq; have z1:=q1.size; have z2:=q2.size; have z3:=q3.size;have hB:=((hB.trans q1.below).trans (q2.below.mono kw)).trans (q3.below.mono kw)
  have zB:=hB.size;refine aa (aa (af (za0 (zp b1) r (fun R=>za3 r (o:=0) rfl zf3) rfl fun fr r=>?_)));refine za0 (.bool false) r (fun R=>za4 r (v:=.bool false) rfl h1 to4 rfl) rfl fun fr r=>aj ?_
  refine ae (t:=false) (r.ev rfl) (fun h=>by cases h) (fun _=>ag ?_);refine aa (af (za0 (.pointer (some ⟨b1,1,none⟩)) r (fun R=>za3 r (o:=0) rfl zjI) rfl fun fr r=>kG (zpm (⟨op,at_,a,b⟩:Access)) 4 r rfl h1 ta38 rfl rfl fun r=>za0 (.func (.func 301) #[] #[zp b1,zp b2]) r (fun R=>zae r rfl) rfl fun fr r=>?_))
  have hFb:∀ b,(fun b=>F b∨b=b1∨b=b2) b→b<w3.heap.size:=by rintro b (h | h | h); exact ai (hF b h) hB.size; omega; omega
  have m1:¬ F1 b1:=fun h=>by have:=hF1 _ h; omega
  have m2:¬ F1 b2:=fun h=>by have:=hF1 _ h; omega
  refine kC r (zcb (F:=fun b=>F b∨b=b1∨b=b2) (n:=n) hFb ⟨op,at_,a,b⟩ (a1:=fun x=>(k x).bind g) (show FnL ar zpe u64 n (fun b=>F b∨b=b1∨b=b2) w3 (kf 301 [] [zp b1,zp b2]) (fun x=>(k x).bind g) from
   ⟨301,[],[zp b1,zp b2],ztl,rfl,fun m hm x w' hs hz=>zgY (ih m hm) (fun b hb=>ai (hFb b hb) hz) (fun b h=>.inl (s1 b h)) (fun b h=>.inl (s2 b h)) hdj m1 (hs.at_ (.inr (.inl rfl)) h1) m2 (hs.at_ (.inr (.inr rfl)) h2)
    (hk.mono kw (fun b h=>h) ((Same.below hB hF1).trans (hs.sub (fun b h=>.inl (s1 b h)))) (Nat.le_trans hB.size hz)) (hf.mono kw (fun b h=>h) ((Same.below hB hF2).trans (hs.sub (fun b h=>.inl (s2 b h)))) (Nat.le_trans hB.size hz)) x⟩)) rfl zqf rfl ?_
  rintro _ w4 ⟨v,rfl,hb,hr⟩;refine ⟨_,rfl,fun fr r=>?_⟩
  have z4:=hb.size;have n3:¬ (fun b=>F b∨b=b1∨b=b2) b3:=by rintro (h | h | h); (have:=hF _ h; omega); omega; omega
  have h3:=zpu hb h3 n3;have hC:Chg F w0 w4:=(Chg.zpl hB).zpB hb yar
  refine kP r hr.shape rfl rfl h3 ts41 rfl rfl fun w5 u5 r=>aj ?_;have z5:=u5.size
  have h3:=u5.at_;have hC:=hC.zpA u5 (.inl kw)
  refine ac ?_;have hs:=hr.shape.cells;refine za5 r rfl rfl h3 (k:=8) hs.1 ta41 ?_;rw [←hs.2.2];exact zpa.fin hC hr u5 yaf n3 kw kw kw
theorem zdM {n:Nat} {F F1 F2:Nat→Prop} {w0:World} (hF:∀ b,F b→b<w0.heap.size) (s1:∀ b,F1 b→F b) (s2:∀ b,F2 b→F b) (hdj:∀ b,F1 b→¬ F2 b) {t:T (Unit)} {pv fv:Value} {g:Unit→T (Res)} (hp:RepL ar zpc n t F1 w0 pv) (hf:FnL ar zpe noneE (n+1) F2 w0 fv g) :
  Calls ar 228 #[pv,fv] w0 (zpa ar zpe n (t.bind g) F w0):=zh2 n hF s1 s2 hdj hp (hf.mono kw (fun b h=>h) (Same.refl _ _) (Nat.le_refl _)) (.inr hf)
def zdd (n:Nat):Prop:=∀ {F F1 F2:Nat→Prop} {w0:World},(∀ b,F b→b<w0.heap.size)→(∀ b,F1 b→F b)→(∀ b,F2 b→F b)→(∀ b,F1 b→¬ F2 b)→∀ {t:T (Unit)} {pv fv:Value} {g:Unit→T (Walk)},RepL ar zpc n t F1 w0 pv→FnL ar zpf noneE n F2 w0 fv g→
  (t.zps=false∨FnL ar zpf noneE (n+1) F2 w0 fv g)→Calls ar 363 #[pv,fv] w0 (zpa ar zpf n (t.bind g) F w0)
theorem zgm {n:Nat} (ih:zdd n) {F F1 F2:Nat→Prop} {w0:World} (hF:∀ b,F b→b<w0.heap.size) (s1:∀ b,F1 b→F b) (s2:∀ b,F2 b→F b) (hdj:∀ b,F1 b→¬ F2 b) {op at_ a b:Int} {nf:FuncId} {n1 n2:List Value} {k:Int→T (Unit)} {ff:FuncId} {f1 f2:List Value} {g:Unit→T (Walk)}
    {b1 b2:Nat} (m1:¬ F1 b1) (h1:w0.heap[b1]?=some (.cells (zp9 false zpc.zero op at_ a b (kf nf n1 n2)) 133 (0,0))) (m2:¬ F1 b2) (h2:w0.heap[b2]?=some (.cells #[kf ff f1 f2] 326 (0,0)))
    (hk:FnL ar zpc u64 (n+1) F1 w0 (kf nf n1 n2) k) (hg:FnL ar zpf noneE (n+1) F2 w0 (kf ff f1 f2) g) (x:Int) :
    Calls ar 387 #[.int .u64 x,zp b1,zp b2] w0 (zpa ar zpf n ((k x).bind g) F w0):=by
 refine kN Tryz.func387 rfl 11 rfl rfl fun fr r hB=>?_;have hF1:∀ b,F1 b→b<w0.heap.size:=fun b h=>hF b (s1 b h)
 have hF2:∀ b,F2 b→b<w0.heap.size:=fun b h=>hF b (s2 b h)
 refine aa (af ?_);refine za7 (.cells (kq zpf) 224 (0,0)) r (fun R=>za6 zpP) rfl fun fr b3 w1 q1 r=>wn ?_;have h1:=keep q1.below h1
 have h2:=keep q1.below h2;have e3:=q1.eq;have z1:=q1.size;have h3:=q1.at_;have hB:=hB.trans (q1.below.mono hB.size);have zB:=hB.size;have hk1:=hk.mono (Nat.le_refl _) (fun b h=>h) (Same.below hB hF1) hB.size
 have hF1':∀ b,F1 b→b<w1.heap.size:=fun b h=>ai (hF1 b h) zB
 refine aa ?_;refine zes 5 F1 [.val (.pointer (some ⟨b1,5,none⟩)),.val (kf nf n1 n2),.val (U x),.eff (StepE ar zpc n (k x) F1) (StepE.st hF1'),.val (kf ff f1 f2)] mixed r hF1' kz ?_ ?_
 ·
  refine zaV r rfl (fun fr1 g w' hk' hd r'=>?_) ?_
  · exact za3 r' (b:=b1) (o:=0) (k:=5) rfl zjE bz
  refine zaV r rfl (fun fr1 g w' hk' hd r'=>?_) ?_
  · exact za4 r' (v:=kf nf n1 n2) (hd 0 rfl).1 (zpu (drK hk') h1 m1) zqt rfl bz
  refine zaV r rfl (fun fr1 g w' hk' hd r'=>?_) ?_
  · exact zap r' (v:=.int .u64 x) rfl bz
  refine zdz r rfl kz (fun fr1 g w' hb' hd r'=>?_) ?_
  ·
   have hb':Below w1.heap.size w1 w':=dr hb';refine zc6 r' (fs:=n1) (cs:=n2) (hd 1 rfl).1 (hd 2 rfl).1 hk1.at_.1 ((hk1.at_.2 n (Nat.lt_succ_self n) x w' (Same.below hb' hF1') hb'.size).mono ?_);rintro _ w2 ⟨v,rfl,hb2,hr2⟩;exact ⟨v,rfl,hb2.kept,hr2⟩
  refine zaV r rfl (fun fr1 g w' hk' hd r'=>?_) ?_
  · exact za4 r' (v:=kf ff f1 f2) rfl (zpu (drK hk') h2 m2) zs2 rfl bz
  exact zb3
 intro fr gg w2 hb hΦ _ r;have hr:RepL ar zpc n (k x) (fun b=>F1 b∨((gg 3).lo≤b∧b<(gg 3).hi)) w2 (gg 3).v:=(hΦ 3 rfl).1
 have hrg:=(hΦ 3 rfl).2;have r:=r.congr (sc ((hΦ 4 rfl).1) rfl);have z2:=hb.size;have hr3:¬ F1 b3:=fun h=>by have:=hF1 _ h; omega
 have h3:=zpu hb h3 hr3;have hC:Chg F w0 w2:=(Chg.zpl hB).zpB hb fun b _ h=>s1 b h
 have zB2:=hC.size;have hS2:Same F2 w0 w2:=fun b h=>(hb.block b (ai (hF2 b h) zB) fun h'=>hdj b h' h).trans (hB.block b (hF2 b h))
 have hFb:∀ b,(kW F w0 w2 b3) b→b<w2.heap.size:=by rintro b (h | h); exact ai (hF b h) zB2; exact h.2.1
 refine kC r (ih (F:=fun b=>F b∨(w0.heap.size≤b∧b<w2.heap.size∧b≠b3)) (F1:=fun b=>F1 b∨((gg 3).lo≤b∧b<(gg 3).hi)) (F2:=F2) hFb yao (fun b h=>.inl (s2 b h))
  yap hr (hg.mono kw (fun b h=>h) hS2 zB2) (.inr (hg.mono (Nat.le_refl _) (fun b h=>h) hS2 zB2))) rfl zsm rfl ?_
 rintro _ w3 ⟨v2,rfl,hb2,hr2⟩;refine ⟨_,rfl,fun fr r=>?_⟩
 have z3:=hb2.size;have hF3:¬ (kW F w0 w2 b3) b3:=by rintro (h | ⟨_,_,h⟩); (have:=hF _ h; omega); exact h rfl
 have h3:=zpu hb2 h3 hF3;have hC:=hC.zpB hb2 yad
 refine kP r hr2.shape rfl rfl h3 zpM rfl rfl fun w4 u4 r=>wn ?_;have z4:=u4.size
 have h3:=u4.at_;have hC:=hC.zpA u4 (.inl kw)
 refine ac ?_;have hs:=hr2.shape.cells;refine za5 r rfl rfl h3 (k:=20) hs.1 zpN ?_;rw [←hs.2.2];exact zpa.fin hC hr2 u4 yac hF3 kw kw kw
theorem zgr (n:Nat):zdd n:=by
 induction n using Nat.strongRecOn with
 | _ n ih=>
 intro F F1 F2 w0 hF s1 s2 hdj t pv fv g hp hf hd;obtain ⟨ff,f1,f2,hcf,rfl,hff⟩:=id hf;have hF1:∀ b,F1 b→b<w0.heap.size:=fun b h=>hF b (s1 b h)
 have hF2:∀ b,F2 b→b<w0.heap.size:=fun b h=>hF b (s2 b h)
 cases t with
 | cut=>unfold RepL at hp; exact hp.elim
 | done x0=>
  have hf:=hd.resolve_left yay
  unfold RepL at hp
  subst hp;refine enter (l:=[.agg (zp9 true (zpc.cells x0) 0 0 0 0 .nilFunc),kf ff f1 f2]) Tryz.func363 rfl 15 rfl rfl fun fr r=>?_;have hB:=Below.refl w0.heap.size w0
  refine aa (af ?_);refine kX 133 (.agg (zp9 true (zpc.cells x0) 0 0 0 0 .nilFunc)) r rfl rfl fun b1 w1 q1 r=>?_;refine kX 326 (kf ff f1 f2) r rfl rfl fun b2 w2 q2 r=>?_
  refine za7 (.cells (kq zpf) 224 (0,0)) r (fun R=>za6 zpP) rfl fun fr b3 w3 q3 r=>aj ?_;have h1:=keep q3.below (keep q2.below q1.at_)
  have h2:=keep q3.below q2.at_;have h3:=q3.at_;have e1:=q1.eq; have e2:=q2.eq; have e3:=q3.eq; have z1:=q1.size; have z2:=q2.size; have z3:=q3.size;have hB:=((hB.trans q1.below).trans (q2.below.mono kw)).trans (q3.below.mono kw)
  have zB:=hB.size;refine aa (aa (af (za0 (zp b1) r (fun R=>za3 r (o:=0) rfl zf3) rfl fun fr r=>?_)));refine za0 (.bool true) r (fun R=>za4 r (v:=.bool true) rfl h1 to4 rfl) rfl fun fr r=>aj ?_
  refine ae (t:=true) (r.ev rfl) (fun _=>?_) (fun h=>by cases h)
  refine aa (af (za0 (kf ff f1 f2) r (fun R=>za4 r (v:=kf ff f1 f2) rfl h2 zs2 rfl) rfl fun fr r=>?_));refine zjn b1 1 r (fun R=>zex r rfl zqw h1) rfl fun fr sp r=>za0 (.agg #[]) r (fun R=>zf4 r rfl zqh) rfl fun fr r=>?_
  refine zbo r (hf.at_.2 n (Nat.lt_succ_self n) x0 w3 (Same.below hB hF2) hB.size) (fun R hc=>zdR r rfl rfl hf.at_.1 hc) rfl ?_;rintro _ w4 ⟨v,rfl,hb,hr⟩
  refine ⟨_,rfl,fun fr r=>?_⟩
  have z4:=hb.size;have n3:¬ F2 b3:=fun h=>by have:=hF2 _ h; omega
  have h3:=zpu hb h3 n3;have hC:Chg F w0 w4:=(Chg.zpl hB).zpB hb fun b _ h=>s2 b h
  refine kP r hr.shape rfl rfl h3 zpM rfl rfl fun w5 u5 r=>aj ?_;have z5:=u5.size
  have h3:=u5.at_;have hC:=hC.zpA u5 (.inl kw)
  refine ac ?_;have hs:=hr.shape.cells;refine za5 r rfl rfl h3 (k:=20) hs.1 zpN ?_;rw [←hs.2.2];exact zpa.fin hC hr u5 (fun b hb=>.inl (s2 b hb)) n3 kw kw kw
 | act op at_ a b k=>
  obtain ⟨nf,n1,n2,hcn,rfl,hk⟩:∃ (nf:FuncId) (n1 n2:List Value),zp7 ar nf=true∧pv=.agg (zp9 false zpc.zero op at_ a b (kf nf n1 n2))∧FnL ar zpc u64 n F1 w0 (kf nf n1 n2) k:=by
   exact RepL.zcH hp
  refine enter (l:=[.agg (zp9 false zpc.zero op at_ a b (kf nf n1 n2)),kf ff f1 f2]) Tryz.func363 rfl 15 rfl rfl fun fr r=>?_;have hB:=Below.refl w0.heap.size w0
  refine aa (af ?_);refine kX 133 (.agg (zp9 false zpc.zero op at_ a b (kf nf n1 n2))) r rfl rfl fun b1 w1 q1 r=>?_;refine kX 326 (kf ff f1 f2) r rfl rfl fun b2 w2 q2 r=>?_
  refine za7 (.cells (kq zpf) 224 (0,0)) r (fun R=>za6 zpP) rfl fun fr b3 w3 q3 r=>aj ?_;have h1:=keep q3.below (keep q2.below q1.at_)
  have h2:=keep q3.below q2.at_;have h3:=q3.at_;have e1:=q1.eq; have e2:=q2.eq; have e3:=q3.eq; have z1:=q1.size; have z2:=q2.size; have z3:=q3.size;have hB:=((hB.trans q1.below).trans (q2.below.mono kw)).trans (q3.below.mono kw)
  have zB:=hB.size;refine aa (aa (af (za0 (zp b1) r (fun R=>za3 r (o:=0) rfl zf3) rfl fun fr r=>?_)));refine za0 (.bool false) r (fun R=>za4 r (v:=.bool false) rfl h1 to4 rfl) rfl fun fr r=>aj ?_
  refine ae (t:=false) (r.ev rfl) (fun h=>by cases h) (fun _=>ag ?_);refine aa (af (za0 (.pointer (some ⟨b1,1,none⟩)) r (fun R=>za3 r (o:=0) rfl zjI) rfl fun fr r=>kG (zpm (⟨op,at_,a,b⟩:Access)) 4 r rfl h1 ta38 rfl rfl fun r=>za0 (.func (.func 387) #[] #[zp b1,zp b2]) r (fun R=>zae r rfl) rfl fun fr r=>?_))
  have hFb:∀ b,(fun b=>F b∨b=b1∨b=b2) b→b<w3.heap.size:=by rintro b (h | h | h); exact ai (hF b h) hB.size; omega; omega
  have m1:¬ F1 b1:=fun h=>by have:=hF1 _ h; omega
  have m2:¬ F1 b2:=fun h=>by have:=hF1 _ h; omega
  refine kC r (zcR (F:=fun b=>F b∨b=b1∨b=b2) (n:=n) hFb ⟨op,at_,a,b⟩ (a1:=fun x=>(k x).bind g) (show FnL ar zpf u64 n (fun b=>F b∨b=b1∨b=b2) w3 (kf 387 [] [zp b1,zp b2]) (fun x=>(k x).bind g) from
   ⟨387,[],[zp b1,zp b2],ztK,rfl,fun m hm x w' hs hz=>zgm (ih m hm) (fun b hb=>ai (hFb b hb) hz) (fun b h=>.inl (s1 b h)) (fun b h=>.inl (s2 b h)) hdj m1 (hs.at_ (.inr (.inl rfl)) h1) m2 (hs.at_ (.inr (.inr rfl)) h2)
    (hk.mono kw (fun b h=>h) ((Same.below hB hF1).trans (hs.sub (fun b h=>.inl (s1 b h)))) (Nat.le_trans hB.size hz)) (hf.mono kw (fun b h=>h) ((Same.below hB hF2).trans (hs.sub (fun b h=>.inl (s2 b h)))) (Nat.le_trans hB.size hz)) x⟩)) rfl zqq rfl ?_
  rintro _ w4 ⟨v,rfl,hb,hr⟩;refine ⟨_,rfl,fun fr r=>?_⟩
  have z4:=hb.size;have n3:¬ (fun b=>F b∨b=b1∨b=b2) b3:=by rintro (h | h | h); (have:=hF _ h; omega); omega; omega
  have h3:=zpu hb h3 n3;have hC:Chg F w0 w4:=(Chg.zpl hB).zpB hb yar
  refine kP r hr.shape rfl rfl h3 zpM rfl rfl fun w5 u5 r=>aj ?_;have z5:=u5.size
  have h3:=u5.at_;have hC:=hC.zpA u5 (.inl kw)
  refine ac ?_;have hs:=hr.shape.cells;refine za5 r rfl rfl h3 (k:=20) hs.1 zpN ?_;rw [←hs.2.2];exact zpa.fin hC hr u5 yaf n3 kw kw kw
theorem zfp {n:Nat} {F F1 F2:Nat→Prop} {w0:World} (hF:∀ b,F b→b<w0.heap.size) (s1:∀ b,F1 b→F b) (s2:∀ b,F2 b→F b) (hdj:∀ b,F1 b→¬ F2 b) {t:T (Unit)} {pv fv:Value} {g:Unit→T (Walk)} (hp:RepL ar zpc n t F1 w0 pv) (hf:FnL ar zpf noneE n F2 w0 fv g) (hd:t.zps=false) :
  Calls ar 363 #[pv,fv] w0 (zpa ar zpf n (t.bind g) F w0):=zgr n hF s1 s2 hdj hp hf (.inl hd)
def zdW (n:Nat):Prop:=∀ {F F1 F2:Nat→Prop} {w0:World},(∀ b,F b→b<w0.heap.size)→(∀ b,F1 b→F b)→(∀ b,F2 b→F b)→(∀ b,F1 b→¬ F2 b)→∀ {t:T (Int)} {pv fv:Value} {g:Int→T (Res)},RepL ar zpd n t F1 w0 pv→FnL ar zpe i64 n F2 w0 fv g→
  (t.zps=false∨FnL ar zpe i64 (n+1) F2 w0 fv g)→Calls ar 140 #[pv,fv] w0 (zpa ar zpe n (t.bind g) F w0)
theorem zho {n:Nat} (ih:zdW n) {F F1 F2:Nat→Prop} {w0:World} (hF:∀ b,F b→b<w0.heap.size) (s1:∀ b,F1 b→F b) (s2:∀ b,F2 b→F b) (hdj:∀ b,F1 b→¬ F2 b) {op at_ a b:Int} {nf:FuncId} {n1 n2:List Value} {k:Int→T (Int)} {ff:FuncId} {f1 f2:List Value} {g:Int→T (Res)}
    {b1 b2:Nat} (m1:¬ F1 b1) (h1:w0.heap[b1]?=some (.cells (zp9 false zpd.zero op at_ a b (kf nf n1 n2)) 119 (0,0))) (m2:¬ F1 b2) (h2:w0.heap[b2]?=some (.cells #[kf ff f1 f2] 213 (0,0)))
    (hk:FnL ar zpd u64 (n+1) F1 w0 (kf nf n1 n2) k) (hg:FnL ar zpe i64 (n+1) F2 w0 (kf ff f1 f2) g) (x:Int) :
    Calls ar 220 #[.int .u64 x,zp b1,zp b2] w0 (zpa ar zpe n ((k x).bind g) F w0):=by
 refine kN Tryz.func220 rfl 11 rfl rfl fun fr r hB=>?_;have hF1:∀ b,F1 b→b<w0.heap.size:=fun b h=>hF b (s1 b h)
 have hF2:∀ b,F2 b→b<w0.heap.size:=fun b h=>hF b (s2 b h)
 refine aa (af ?_);refine za7 (.cells (kq zpe) 41 (0,0)) r (fun R=>za6 tz41) rfl fun fr b3 w1 q1 r=>wn ?_;have h1:=keep q1.below h1
 have h2:=keep q1.below h2;have e3:=q1.eq;have z1:=q1.size;have h3:=q1.at_;have hB:=hB.trans (q1.below.mono hB.size);have zB:=hB.size;have hk1:=hk.mono (Nat.le_refl _) (fun b h=>h) (Same.below hB hF1) hB.size
 have hF1':∀ b,F1 b→b<w1.heap.size:=fun b h=>ai (hF1 b h) zB
 refine aa ?_;refine zes 5 F1 [.val (.pointer (some ⟨b1,6,none⟩)),.val (kf nf n1 n2),.val (U x),.eff (StepE ar zpd n (k x) F1) (StepE.st hF1'),.val (kf ff f1 f2)] mixed r hF1' kz ?_ ?_
 ·
  refine zaV r rfl (fun fr1 g w' hk' hd r'=>?_) ?_
  · exact za3 r' (b:=b1) (o:=0) (k:=6) rfl zkV bz
  refine zaV r rfl (fun fr1 g w' hk' hd r'=>?_) ?_
  · exact za4 r' (v:=kf nf n1 n2) (hd 0 rfl).1 (zpu (drK hk') h1 m1) zqE rfl bz
  refine zaV r rfl (fun fr1 g w' hk' hd r'=>?_) ?_
  · exact zap r' (v:=.int .u64 x) rfl bz
  refine zdz r rfl kz (fun fr1 g w' hb' hd r'=>?_) ?_
  ·
   have hb':Below w1.heap.size w1 w':=dr hb';refine zc6 r' (fs:=n1) (cs:=n2) (hd 1 rfl).1 (hd 2 rfl).1 hk1.at_.1 ((hk1.at_.2 n (Nat.lt_succ_self n) x w' (Same.below hb' hF1') hb'.size).mono ?_);rintro _ w2 ⟨v,rfl,hb2,hr2⟩;exact ⟨v,rfl,hb2.kept,hr2⟩
  refine zaV r rfl (fun fr1 g w' hk' hd r'=>?_) ?_
  · exact za4 r' (v:=kf ff f1 f2) rfl (zpu (drK hk') h2 m2) zsn rfl bz
  exact zb3
 intro fr gg w2 hb hΦ _ r;have hr:RepL ar zpd n (k x) (fun b=>F1 b∨((gg 3).lo≤b∧b<(gg 3).hi)) w2 (gg 3).v:=(hΦ 3 rfl).1
 have hrg:=(hΦ 3 rfl).2;have r:=r.congr (sc ((hΦ 4 rfl).1) rfl);have z2:=hb.size;have hr3:¬ F1 b3:=fun h=>by have:=hF1 _ h; omega
 have h3:=zpu hb h3 hr3;have hC:Chg F w0 w2:=(Chg.zpl hB).zpB hb fun b _ h=>s1 b h
 have zB2:=hC.size;have hS2:Same F2 w0 w2:=fun b h=>(hb.block b (ai (hF2 b h) zB) fun h'=>hdj b h' h).trans (hB.block b (hF2 b h))
 have hFb:∀ b,(kW F w0 w2 b3) b→b<w2.heap.size:=by rintro b (h | h); exact ai (hF b h) zB2; exact h.2.1
 refine kC r (ih (F:=fun b=>F b∨(w0.heap.size≤b∧b<w2.heap.size∧b≠b3)) (F1:=fun b=>F1 b∨((gg 3).lo≤b∧b<(gg 3).hi)) (F2:=F2) hFb yao (fun b h=>.inl (s2 b h))
  yap hr (hg.mono kw (fun b h=>h) hS2 zB2) (.inr (hg.mono (Nat.le_refl _) (fun b h=>h) hS2 zB2))) rfl zr2 rfl ?_
 rintro _ w3 ⟨v2,rfl,hb2,hr2⟩;refine ⟨_,rfl,fun fr r=>?_⟩
 have z3:=hb2.size;have hF3:¬ (kW F w0 w2 b3) b3:=by rintro (h | ⟨_,_,h⟩); (have:=hF _ h; omega); exact h rfl
 have h3:=zpu hb2 h3 hF3;have hC:=hC.zpB hb2 yad
 refine kP r hr2.shape rfl rfl h3 ts41 rfl rfl fun w4 u4 r=>wn ?_;have z4:=u4.size
 have h3:=u4.at_;have hC:=hC.zpA u4 (.inl kw)
 refine ac ?_;have hs:=hr2.shape.cells;refine za5 r rfl rfl h3 (k:=8) hs.1 ta41 ?_;rw [←hs.2.2];exact zpa.fin hC hr2 u4 yac hF3 kw kw kw
theorem zhl (n:Nat):zdW n:=by
 induction n using Nat.strongRecOn with
 | _ n ih=>
 intro F F1 F2 w0 hF s1 s2 hdj t pv fv g hp hf hd;obtain ⟨ff,f1,f2,hcf,rfl,hff⟩:=id hf;have hF1:∀ b,F1 b→b<w0.heap.size:=fun b h=>hF b (s1 b h)
 have hF2:∀ b,F2 b→b<w0.heap.size:=fun b h=>hF b (s2 b h)
 cases t with
 | cut=>unfold RepL at hp; exact hp.elim
 | done x0=>
  have hf:=hd.resolve_left yay
  unfold RepL at hp
  subst hp;refine enter (l:=[.agg (zp9 true (zpd.cells x0) 0 0 0 0 .nilFunc),kf ff f1 f2]) Tryz.func140 rfl 15 rfl rfl fun fr r=>?_;have hB:=Below.refl w0.heap.size w0
  refine aa (af ?_);refine kX 119 (.agg (zp9 true (zpd.cells x0) 0 0 0 0 .nilFunc)) r rfl rfl fun b1 w1 q1 r=>?_;refine kX 213 (kf ff f1 f2) r rfl rfl fun b2 w2 q2 r=>?_
  refine za7 (.cells (kq zpe) 41 (0,0)) r (fun R=>za6 tz41) rfl fun fr b3 w3 q3 r=>aj ?_;have h1:=keep q3.below (keep q2.below q1.at_)
  have h2:=keep q3.below q2.at_;have h3:=q3.at_;have e1:=q1.eq; have e2:=q2.eq; have e3:=q3.eq; have z1:=q1.size; have z2:=q2.size; have z3:=q3.size;have hB:=((hB.trans q1.below).trans (q2.below.mono kw)).trans (q3.below.mono kw)
  have zB:=hB.size;refine aa (aa (af (za0 (zp b1) r (fun R=>za3 r (o:=0) rfl zgS) rfl fun fr r=>?_)));refine za0 (.bool true) r (fun R=>za4 r (v:=.bool true) rfl h1 to4 rfl) rfl fun fr r=>aj ?_
  refine ae (t:=true) (r.ev rfl) (fun _=>?_) (fun h=>by cases h)
  refine aa (af (za0 (kf ff f1 f2) r (fun R=>za4 r (v:=kf ff f1 f2) rfl h2 zsn rfl) rfl fun fr r=>za0 (.pointer (some ⟨b1,1,none⟩)) r (fun R=>za3 r (o:=0) rfl zl6) rfl fun fr r=>za0 (.int .i64 x0) r (fun R=>za4 r (v:=(.int .i64 x0)) rfl h1 to3 rfl) rfl fun fr r=>?_));refine zbo r (hf.at_.2 n (Nat.lt_succ_self n) x0 w3 (Same.below hB hF2) hB.size) (fun R hc=>zdR r rfl rfl hf.at_.1 hc) rfl ?_
  rintro _ w4 ⟨v,rfl,hb,hr⟩;refine ⟨_,rfl,fun fr r=>?_⟩
  have z4:=hb.size;have n3:¬ F2 b3:=fun h=>by have:=hF2 _ h; omega
  have h3:=zpu hb h3 n3;have hC:Chg F w0 w4:=(Chg.zpl hB).zpB hb fun b _ h=>s2 b h
  refine kP r hr.shape rfl rfl h3 ts41 rfl rfl fun w5 u5 r=>aj ?_;have z5:=u5.size
  have h3:=u5.at_;have hC:=hC.zpA u5 (.inl kw)
  refine ac ?_;have hs:=hr.shape.cells;refine za5 r rfl rfl h3 (k:=8) hs.1 ta41 ?_;rw [←hs.2.2];exact zpa.fin hC hr u5 (fun b hb=>.inl (s2 b hb)) n3 kw kw kw
 | act op at_ a b k=>
  obtain ⟨nf,n1,n2,hcn,rfl,hk⟩:∃ (nf:FuncId) (n1 n2:List Value),zp7 ar nf=true∧pv=.agg (zp9 false zpd.zero op at_ a b (kf nf n1 n2))∧FnL ar zpd u64 n F1 w0 (kf nf n1 n2) k:=by
   exact RepL.zcH hp
  refine enter (l:=[.agg (zp9 false zpd.zero op at_ a b (kf nf n1 n2)),kf ff f1 f2]) Tryz.func140 rfl 15 rfl rfl fun fr r=>?_;have hB:=Below.refl w0.heap.size w0
  refine aa (af ?_);refine kX 119 (.agg (zp9 false zpd.zero op at_ a b (kf nf n1 n2))) r rfl rfl fun b1 w1 q1 r=>?_;refine kX 213 (kf ff f1 f2) r rfl rfl fun b2 w2 q2 r=>?_
  refine za7 (.cells (kq zpe) 41 (0,0)) r (fun R=>za6 tz41) rfl fun fr b3 w3 q3 r=>aj ?_;have h1:=keep q3.below (keep q2.below q1.at_)
  have h2:=keep q3.below q2.at_;have h3:=q3.at_;have e1:=q1.eq; have e2:=q2.eq; have e3:=q3.eq; have z1:=q1.size; have z2:=q2.size; have z3:=q3.size;have hB:=((hB.trans q1.below).trans (q2.below.mono kw)).trans (q3.below.mono kw)
  have zB:=hB.size;refine aa (aa (af (za0 (zp b1) r (fun R=>za3 r (o:=0) rfl zgS) rfl fun fr r=>?_)));refine za0 (.bool false) r (fun R=>za4 r (v:=.bool false) rfl h1 to4 rfl) rfl fun fr r=>aj ?_
  refine ae (t:=false) (r.ev rfl) (fun h=>by cases h) (fun _=>ag ?_);refine aa (af (za0 (.pointer (some ⟨b1,2,none⟩)) r (fun R=>za3 r (o:=0) rfl zkA) rfl fun fr r=>kG (zpm (⟨op,at_,a,b⟩:Access)) 4 r rfl h1 ta38 rfl rfl fun r=>za0 (.func (.func 220) #[] #[zp b1,zp b2]) r (fun R=>zae r rfl) rfl fun fr r=>?_))
  have hFb:∀ b,(fun b=>F b∨b=b1∨b=b2) b→b<w3.heap.size:=by rintro b (h | h | h); exact ai (hF b h) hB.size; omega; omega
  have m1:¬ F1 b1:=fun h=>by have:=hF1 _ h; omega
  have m2:¬ F1 b2:=fun h=>by have:=hF1 _ h; omega
  refine kC r (zcb (F:=fun b=>F b∨b=b1∨b=b2) (n:=n) hFb ⟨op,at_,a,b⟩ (a1:=fun x=>(k x).bind g) (show FnL ar zpe u64 n (fun b=>F b∨b=b1∨b=b2) w3 (kf 220 [] [zp b1,zp b2]) (fun x=>(k x).bind g) from
   ⟨220,[],[zp b1,zp b2],zur,rfl,fun m hm x w' hs hz=>zho (ih m hm) (fun b hb=>ai (hFb b hb) hz) (fun b h=>.inl (s1 b h)) (fun b h=>.inl (s2 b h)) hdj m1 (hs.at_ (.inr (.inl rfl)) h1) m2 (hs.at_ (.inr (.inr rfl)) h2)
    (hk.mono kw (fun b h=>h) ((Same.below hB hF1).trans (hs.sub (fun b h=>.inl (s1 b h)))) (Nat.le_trans hB.size hz)) (hf.mono kw (fun b h=>h) ((Same.below hB hF2).trans (hs.sub (fun b h=>.inl (s2 b h)))) (Nat.le_trans hB.size hz)) x⟩)) rfl zqf rfl ?_
  rintro _ w4 ⟨v,rfl,hb,hr⟩;refine ⟨_,rfl,fun fr r=>?_⟩
  have z4:=hb.size;have n3:¬ (fun b=>F b∨b=b1∨b=b2) b3:=by rintro (h | h | h); (have:=hF _ h; omega); omega; omega
  have h3:=zpu hb h3 n3;have hC:Chg F w0 w4:=(Chg.zpl hB).zpB hb yar
  refine kP r hr.shape rfl rfl h3 ts41 rfl rfl fun w5 u5 r=>aj ?_;have z5:=u5.size
  have h3:=u5.at_;have hC:=hC.zpA u5 (.inl kw)
  refine ac ?_;have hs:=hr.shape.cells;refine za5 r rfl rfl h3 (k:=8) hs.1 ta41 ?_;rw [←hs.2.2];exact zpa.fin hC hr u5 yaf n3 kw kw kw
theorem zdY {n:Nat} {F F1 F2:Nat→Prop} {w0:World} (hF:∀ b,F b→b<w0.heap.size) (s1:∀ b,F1 b→F b) (s2:∀ b,F2 b→F b) (hdj:∀ b,F1 b→¬ F2 b) {t:T (Int)} {pv fv:Value} {g:Int→T (Res)} (hp:RepL ar zpd n t F1 w0 pv) (hf:FnL ar zpe i64 (n+1) F2 w0 fv g) :
  Calls ar 140 #[pv,fv] w0 (zpa ar zpe n (t.bind g) F w0):=zhl n hF s1 s2 hdj hp (hf.mono kw (fun b h=>h) (Same.refl _ _) (Nat.le_refl _)) (.inr hf)
def zdK (n:Nat):Prop:=∀ {F F1 F2:Nat→Prop} {w0:World},(∀ b,F b→b<w0.heap.size)→(∀ b,F1 b→F b)→(∀ b,F2 b→F b)→(∀ b,F1 b→¬ F2 b)→∀ {t:T (Int)} {pv fv:Value} {g:Int→T (Walk)},RepL ar zpd n t F1 w0 pv→FnL ar zpf i64 n F2 w0 fv g→
  (t.zps=false∨FnL ar zpf i64 (n+1) F2 w0 fv g)→Calls ar 390 #[pv,fv] w0 (zpa ar zpf n (t.bind g) F w0)
theorem zgE {n:Nat} (ih:zdK n) {F F1 F2:Nat→Prop} {w0:World} (hF:∀ b,F b→b<w0.heap.size) (s1:∀ b,F1 b→F b) (s2:∀ b,F2 b→F b) (hdj:∀ b,F1 b→¬ F2 b) {op at_ a b:Int} {nf:FuncId} {n1 n2:List Value} {k:Int→T (Int)} {ff:FuncId} {f1 f2:List Value} {g:Int→T (Walk)}
    {b1 b2:Nat} (m1:¬ F1 b1) (h1:w0.heap[b1]?=some (.cells (zp9 false zpd.zero op at_ a b (kf nf n1 n2)) 119 (0,0))) (m2:¬ F1 b2) (h2:w0.heap[b2]?=some (.cells #[kf ff f1 f2] 306 (0,0)))
    (hk:FnL ar zpd u64 (n+1) F1 w0 (kf nf n1 n2) k) (hg:FnL ar zpf i64 (n+1) F2 w0 (kf ff f1 f2) g) (x:Int) :
    Calls ar 399 #[.int .u64 x,zp b1,zp b2] w0 (zpa ar zpf n ((k x).bind g) F w0):=by
 refine kN Tryz.func399 rfl 11 rfl rfl fun fr r hB=>?_;have hF1:∀ b,F1 b→b<w0.heap.size:=fun b h=>hF b (s1 b h)
 have hF2:∀ b,F2 b→b<w0.heap.size:=fun b h=>hF b (s2 b h)
 refine aa (af ?_);refine za7 (.cells (kq zpf) 224 (0,0)) r (fun R=>za6 zpP) rfl fun fr b3 w1 q1 r=>wn ?_;have h1:=keep q1.below h1
 have h2:=keep q1.below h2;have e3:=q1.eq;have z1:=q1.size;have h3:=q1.at_;have hB:=hB.trans (q1.below.mono hB.size);have zB:=hB.size;have hk1:=hk.mono (Nat.le_refl _) (fun b h=>h) (Same.below hB hF1) hB.size
 have hF1':∀ b,F1 b→b<w1.heap.size:=fun b h=>ai (hF1 b h) zB
 refine aa ?_;refine zes 5 F1 [.val (.pointer (some ⟨b1,6,none⟩)),.val (kf nf n1 n2),.val (U x),.eff (StepE ar zpd n (k x) F1) (StepE.st hF1'),.val (kf ff f1 f2)] mixed r hF1' kz ?_ ?_
 ·
  refine zaV r rfl (fun fr1 g w' hk' hd r'=>?_) ?_
  · exact za3 r' (b:=b1) (o:=0) (k:=6) rfl zkV bz
  refine zaV r rfl (fun fr1 g w' hk' hd r'=>?_) ?_
  · exact za4 r' (v:=kf nf n1 n2) (hd 0 rfl).1 (zpu (drK hk') h1 m1) zqE rfl bz
  refine zaV r rfl (fun fr1 g w' hk' hd r'=>?_) ?_
  · exact zap r' (v:=.int .u64 x) rfl bz
  refine zdz r rfl kz (fun fr1 g w' hb' hd r'=>?_) ?_
  ·
   have hb':Below w1.heap.size w1 w':=dr hb';refine zc6 r' (fs:=n1) (cs:=n2) (hd 1 rfl).1 (hd 2 rfl).1 hk1.at_.1 ((hk1.at_.2 n (Nat.lt_succ_self n) x w' (Same.below hb' hF1') hb'.size).mono ?_);rintro _ w2 ⟨v,rfl,hb2,hr2⟩;exact ⟨v,rfl,hb2.kept,hr2⟩
  refine zaV r rfl (fun fr1 g w' hk' hd r'=>?_) ?_
  · exact za4 r' (v:=kf ff f1 f2) rfl (zpu (drK hk') h2 m2) zsg rfl bz
  exact zb3
 intro fr gg w2 hb hΦ _ r;have hr:RepL ar zpd n (k x) (fun b=>F1 b∨((gg 3).lo≤b∧b<(gg 3).hi)) w2 (gg 3).v:=(hΦ 3 rfl).1
 have hrg:=(hΦ 3 rfl).2;have r:=r.congr (sc ((hΦ 4 rfl).1) rfl);have z2:=hb.size;have hr3:¬ F1 b3:=fun h=>by have:=hF1 _ h; omega
 have h3:=zpu hb h3 hr3;have hC:Chg F w0 w2:=(Chg.zpl hB).zpB hb fun b _ h=>s1 b h
 have zB2:=hC.size;have hS2:Same F2 w0 w2:=fun b h=>(hb.block b (ai (hF2 b h) zB) fun h'=>hdj b h' h).trans (hB.block b (hF2 b h))
 have hFb:∀ b,(kW F w0 w2 b3) b→b<w2.heap.size:=by rintro b (h | h); exact ai (hF b h) zB2; exact h.2.1
 refine kC r (ih (F:=fun b=>F b∨(w0.heap.size≤b∧b<w2.heap.size∧b≠b3)) (F1:=fun b=>F1 b∨((gg 3).lo≤b∧b<(gg 3).hi)) (F2:=F2) hFb yao (fun b h=>.inl (s2 b h))
  yap hr (hg.mono kw (fun b h=>h) hS2 zB2) (.inr (hg.mono (Nat.le_refl _) (fun b h=>h) hS2 zB2))) rfl zrK rfl ?_
 rintro _ w3 ⟨v2,rfl,hb2,hr2⟩;refine ⟨_,rfl,fun fr r=>?_⟩
 have z3:=hb2.size;have hF3:¬ (kW F w0 w2 b3) b3:=by rintro (h | ⟨_,_,h⟩); (have:=hF _ h; omega); exact h rfl
 have h3:=zpu hb2 h3 hF3;have hC:=hC.zpB hb2 yad
 refine kP r hr2.shape rfl rfl h3 zpM rfl rfl fun w4 u4 r=>wn ?_;have z4:=u4.size
 have h3:=u4.at_;have hC:=hC.zpA u4 (.inl kw)
 refine ac ?_;have hs:=hr2.shape.cells;refine za5 r rfl rfl h3 (k:=20) hs.1 zpN ?_;rw [←hs.2.2];exact zpa.fin hC hr2 u4 yac hF3 kw kw kw
theorem zgD (n:Nat):zdK n:=by
 induction n using Nat.strongRecOn with
 | _ n ih=>
 intro F F1 F2 w0 hF s1 s2 hdj t pv fv g hp hf hd;obtain ⟨ff,f1,f2,hcf,rfl,hff⟩:=id hf;have hF1:∀ b,F1 b→b<w0.heap.size:=fun b h=>hF b (s1 b h)
 have hF2:∀ b,F2 b→b<w0.heap.size:=fun b h=>hF b (s2 b h)
 cases t with
 | cut=>unfold RepL at hp; exact hp.elim
 | done x0=>
  have hf:=hd.resolve_left yay
  unfold RepL at hp
  subst hp;refine enter (l:=[.agg (zp9 true (zpd.cells x0) 0 0 0 0 .nilFunc),kf ff f1 f2]) Tryz.func390 rfl 15 rfl rfl fun fr r=>?_;have hB:=Below.refl w0.heap.size w0
  refine aa (af ?_);refine kX 119 (.agg (zp9 true (zpd.cells x0) 0 0 0 0 .nilFunc)) r rfl rfl fun b1 w1 q1 r=>?_;refine kX 306 (kf ff f1 f2) r rfl rfl fun b2 w2 q2 r=>?_
  refine za7 (.cells (kq zpf) 224 (0,0)) r (fun R=>za6 zpP) rfl fun fr b3 w3 q3 r=>aj ?_;have h1:=keep q3.below (keep q2.below q1.at_)
  have h2:=keep q3.below q2.at_;have h3:=q3.at_;have e1:=q1.eq; have e2:=q2.eq; have e3:=q3.eq; have z1:=q1.size; have z2:=q2.size; have z3:=q3.size;have hB:=((hB.trans q1.below).trans (q2.below.mono kw)).trans (q3.below.mono kw)
  have zB:=hB.size;refine aa (aa (af (za0 (zp b1) r (fun R=>za3 r (o:=0) rfl zgS) rfl fun fr r=>?_)));refine za0 (.bool true) r (fun R=>za4 r (v:=.bool true) rfl h1 to4 rfl) rfl fun fr r=>aj ?_
  refine ae (t:=true) (r.ev rfl) (fun _=>?_) (fun h=>by cases h)
  refine aa (af (za0 (kf ff f1 f2) r (fun R=>za4 r (v:=kf ff f1 f2) rfl h2 zsg rfl) rfl fun fr r=>za0 (.pointer (some ⟨b1,1,none⟩)) r (fun R=>za3 r (o:=0) rfl zl6) rfl fun fr r=>za0 (.int .i64 x0) r (fun R=>za4 r (v:=(.int .i64 x0)) rfl h1 to3 rfl) rfl fun fr r=>?_));refine zbo r (hf.at_.2 n (Nat.lt_succ_self n) x0 w3 (Same.below hB hF2) hB.size) (fun R hc=>zdR r rfl rfl hf.at_.1 hc) rfl ?_
  rintro _ w4 ⟨v,rfl,hb,hr⟩;refine ⟨_,rfl,fun fr r=>?_⟩
  have z4:=hb.size;have n3:¬ F2 b3:=fun h=>by have:=hF2 _ h; omega
  have h3:=zpu hb h3 n3;have hC:Chg F w0 w4:=(Chg.zpl hB).zpB hb fun b _ h=>s2 b h
  refine kP r hr.shape rfl rfl h3 zpM rfl rfl fun w5 u5 r=>aj ?_;have z5:=u5.size
  have h3:=u5.at_;have hC:=hC.zpA u5 (.inl kw)
  refine ac ?_;have hs:=hr.shape.cells;refine za5 r rfl rfl h3 (k:=20) hs.1 zpN ?_;rw [←hs.2.2];exact zpa.fin hC hr u5 (fun b hb=>.inl (s2 b hb)) n3 kw kw kw
 | act op at_ a b k=>
  obtain ⟨nf,n1,n2,hcn,rfl,hk⟩:∃ (nf:FuncId) (n1 n2:List Value),zp7 ar nf=true∧pv=.agg (zp9 false zpd.zero op at_ a b (kf nf n1 n2))∧FnL ar zpd u64 n F1 w0 (kf nf n1 n2) k:=by
   exact RepL.zcH hp
  refine enter (l:=[.agg (zp9 false zpd.zero op at_ a b (kf nf n1 n2)),kf ff f1 f2]) Tryz.func390 rfl 15 rfl rfl fun fr r=>?_;have hB:=Below.refl w0.heap.size w0
  refine aa (af ?_);refine kX 119 (.agg (zp9 false zpd.zero op at_ a b (kf nf n1 n2))) r rfl rfl fun b1 w1 q1 r=>?_;refine kX 306 (kf ff f1 f2) r rfl rfl fun b2 w2 q2 r=>?_
  refine za7 (.cells (kq zpf) 224 (0,0)) r (fun R=>za6 zpP) rfl fun fr b3 w3 q3 r=>aj ?_;have h1:=keep q3.below (keep q2.below q1.at_)
  have h2:=keep q3.below q2.at_;have h3:=q3.at_;have e1:=q1.eq; have e2:=q2.eq; have e3:=q3.eq; have z1:=q1.size; have z2:=q2.size; have z3:=q3.size;have hB:=((hB.trans q1.below).trans (q2.below.mono kw)).trans (q3.below.mono kw)
  have zB:=hB.size;refine aa (aa (af (za0 (zp b1) r (fun R=>za3 r (o:=0) rfl zgS) rfl fun fr r=>?_)));refine za0 (.bool false) r (fun R=>za4 r (v:=.bool false) rfl h1 to4 rfl) rfl fun fr r=>aj ?_
  refine ae (t:=false) (r.ev rfl) (fun h=>by cases h) (fun _=>ag ?_);refine aa (af (za0 (.pointer (some ⟨b1,2,none⟩)) r (fun R=>za3 r (o:=0) rfl zkA) rfl fun fr r=>kG (zpm (⟨op,at_,a,b⟩:Access)) 4 r rfl h1 ta38 rfl rfl fun r=>za0 (.func (.func 399) #[] #[zp b1,zp b2]) r (fun R=>zae r rfl) rfl fun fr r=>?_))
  have hFb:∀ b,(fun b=>F b∨b=b1∨b=b2) b→b<w3.heap.size:=by rintro b (h | h | h); exact ai (hF b h) hB.size; omega; omega
  have m1:¬ F1 b1:=fun h=>by have:=hF1 _ h; omega
  have m2:¬ F1 b2:=fun h=>by have:=hF1 _ h; omega
  refine kC r (zcR (F:=fun b=>F b∨b=b1∨b=b2) (n:=n) hFb ⟨op,at_,a,b⟩ (a1:=fun x=>(k x).bind g) (show FnL ar zpf u64 n (fun b=>F b∨b=b1∨b=b2) w3 (kf 399 [] [zp b1,zp b2]) (fun x=>(k x).bind g) from
   ⟨399,[],[zp b1,zp b2],ztN,rfl,fun m hm x w' hs hz=>zgE (ih m hm) (fun b hb=>ai (hFb b hb) hz) (fun b h=>.inl (s1 b h)) (fun b h=>.inl (s2 b h)) hdj m1 (hs.at_ (.inr (.inl rfl)) h1) m2 (hs.at_ (.inr (.inr rfl)) h2)
    (hk.mono kw (fun b h=>h) ((Same.below hB hF1).trans (hs.sub (fun b h=>.inl (s1 b h)))) (Nat.le_trans hB.size hz)) (hf.mono kw (fun b h=>h) ((Same.below hB hF2).trans (hs.sub (fun b h=>.inl (s2 b h)))) (Nat.le_trans hB.size hz)) x⟩)) rfl zqq rfl ?_
  rintro _ w4 ⟨v,rfl,hb,hr⟩;refine ⟨_,rfl,fun fr r=>?_⟩
  have z4:=hb.size;have n3:¬ (fun b=>F b∨b=b1∨b=b2) b3:=by rintro (h | h | h); (have:=hF _ h; omega); omega; omega
  have h3:=zpu hb h3 n3;have hC:Chg F w0 w4:=(Chg.zpl hB).zpB hb yar
  refine kP r hr.shape rfl rfl h3 zpM rfl rfl fun w5 u5 r=>aj ?_;have z5:=u5.size
  have h3:=u5.at_;have hC:=hC.zpA u5 (.inl kw)
  refine ac ?_;have hs:=hr.shape.cells;refine za5 r rfl rfl h3 (k:=20) hs.1 zpN ?_;rw [←hs.2.2];exact zpa.fin hC hr u5 yaf n3 kw kw kw
theorem zfN {n:Nat} {F F1 F2:Nat→Prop} {w0:World} (hF:∀ b,F b→b<w0.heap.size) (s1:∀ b,F1 b→F b) (s2:∀ b,F2 b→F b) (hdj:∀ b,F1 b→¬ F2 b) {t:T (Int)} {pv fv:Value} {g:Int→T (Walk)} (hp:RepL ar zpd n t F1 w0 pv) (hf:FnL ar zpf i64 (n+1) F2 w0 fv g) :
  Calls ar 390 #[pv,fv] w0 (zpa ar zpf n (t.bind g) F w0):=zgD n hF s1 s2 hdj hp (hf.mono kw (fun b h=>h) (Same.refl _ _) (Nat.le_refl _)) (.inr hf)
def zcQ (n:Nat):Prop:=∀ {F F1 F2:Nat→Prop} {w0:World},(∀ b,F b→b<w0.heap.size)→(∀ b,F1 b→F b)→(∀ b,F2 b→F b)→(∀ b,F1 b→¬ F2 b)→∀ {t:T (Int)} {pv fv:Value} {g:Int→T (Walk)},RepL ar zpp n t F1 w0 pv→FnL ar zpf u64 n F2 w0 fv g→
  (t.zps=false∨FnL ar zpf u64 (n+1) F2 w0 fv g)→Calls ar 246 #[pv,fv] w0 (zpa ar zpf n (t.bind g) F w0)
theorem zfF {n:Nat} (ih:zcQ n) {F F1 F2:Nat→Prop} {w0:World} (hF:∀ b,F b→b<w0.heap.size) (s1:∀ b,F1 b→F b) (s2:∀ b,F2 b→F b) (hdj:∀ b,F1 b→¬ F2 b) {op at_ a b:Int} {nf:FuncId} {n1 n2:List Value} {k:Int→T (Int)} {ff:FuncId} {f1 f2:List Value} {g:Int→T (Walk)}
    {b1 b2:Nat} (m1:¬ F1 b1) (h1:w0.heap[b1]?=some (.cells (zp9 false zpp.zero op at_ a b (kf nf n1 n2)) 271 (0,0))) (m2:¬ F1 b2) (h2:w0.heap[b2]?=some (.cells #[kf ff f1 f2] 222 (0,0)))
    (hk:FnL ar zpp u64 (n+1) F1 w0 (kf nf n1 n2) k) (hg:FnL ar zpf u64 (n+1) F2 w0 (kf ff f1 f2) g) (x:Int) :
    Calls ar 312 #[.int .u64 x,zp b1,zp b2] w0 (zpa ar zpf n ((k x).bind g) F w0):=by
 refine kN Tryz.func312 rfl 11 rfl rfl fun fr r hB=>?_;have hF1:∀ b,F1 b→b<w0.heap.size:=fun b h=>hF b (s1 b h)
 have hF2:∀ b,F2 b→b<w0.heap.size:=fun b h=>hF b (s2 b h)
 refine aa (af ?_);refine za7 (.cells (kq zpf) 224 (0,0)) r (fun R=>za6 zpP) rfl fun fr b3 w1 q1 r=>wn ?_;have h1:=keep q1.below h1
 have h2:=keep q1.below h2;have e3:=q1.eq;have z1:=q1.size;have h3:=q1.at_;have hB:=hB.trans (q1.below.mono hB.size);have zB:=hB.size;have hk1:=hk.mono (Nat.le_refl _) (fun b h=>h) (Same.below hB hF1) hB.size
 have hF1':∀ b,F1 b→b<w1.heap.size:=fun b h=>ai (hF1 b h) zB
 refine aa ?_;refine zes 5 F1 [.val (.pointer (some ⟨b1,6,none⟩)),.val (kf nf n1 n2),.val (U x),.eff (StepE ar zpp n (k x) F1) (StepE.st hF1'),.val (kf ff f1 f2)] mixed r hF1' kz ?_ ?_
 ·
  refine zaV r rfl (fun fr1 g w' hk' hd r'=>?_) ?_
  · exact za3 r' (b:=b1) (o:=0) (k:=6) rfl zou bz
  refine zaV r rfl (fun fr1 g w' hk' hd r'=>?_) ?_
  · exact za4 r' (v:=kf nf n1 n2) (hd 0 rfl).1 (zpu (drK hk') h1 m1) zsG rfl bz
  refine zaV r rfl (fun fr1 g w' hk' hd r'=>?_) ?_
  · exact zap r' (v:=.int .u64 x) rfl bz
  refine zdz r rfl kz (fun fr1 g w' hb' hd r'=>?_) ?_
  ·
   have hb':Below w1.heap.size w1 w':=dr hb';refine zc6 r' (fs:=n1) (cs:=n2) (hd 1 rfl).1 (hd 2 rfl).1 hk1.at_.1 ((hk1.at_.2 n (Nat.lt_succ_self n) x w' (Same.below hb' hF1') hb'.size).mono ?_);rintro _ w2 ⟨v,rfl,hb2,hr2⟩;exact ⟨v,rfl,hb2.kept,hr2⟩
  refine zaV r rfl (fun fr1 g w' hk' hd r'=>?_) ?_
  · exact za4 r' (v:=kf ff f1 f2) rfl (zpu (drK hk') h2 m2) zqW rfl bz
  exact zb3
 intro fr gg w2 hb hΦ _ r;have hr:RepL ar zpp n (k x) (fun b=>F1 b∨((gg 3).lo≤b∧b<(gg 3).hi)) w2 (gg 3).v:=(hΦ 3 rfl).1
 have hrg:=(hΦ 3 rfl).2;have r:=r.congr (sc ((hΦ 4 rfl).1) rfl);have z2:=hb.size;have hr3:¬ F1 b3:=fun h=>by have:=hF1 _ h; omega
 have h3:=zpu hb h3 hr3;have hC:Chg F w0 w2:=(Chg.zpl hB).zpB hb fun b _ h=>s1 b h
 have zB2:=hC.size;have hS2:Same F2 w0 w2:=fun b h=>(hb.block b (ai (hF2 b h) zB) fun h'=>hdj b h' h).trans (hB.block b (hF2 b h))
 have hFb:∀ b,(kW F w0 w2 b3) b→b<w2.heap.size:=by rintro b (h | h); exact ai (hF b h) zB2; exact h.2.1
 refine kC r (ih (F:=fun b=>F b∨(w0.heap.size≤b∧b<w2.heap.size∧b≠b3)) (F1:=fun b=>F1 b∨((gg 3).lo≤b∧b<(gg 3).hi)) (F2:=F2) hFb yao (fun b h=>.inl (s2 b h))
  yap hr (hg.mono kw (fun b h=>h) hS2 zB2) (.inr (hg.mono (Nat.le_refl _) (fun b h=>h) hS2 zB2))) rfl zse rfl ?_
 rintro _ w3 ⟨v2,rfl,hb2,hr2⟩;refine ⟨_,rfl,fun fr r=>?_⟩
 have z3:=hb2.size;have hF3:¬ (kW F w0 w2 b3) b3:=by rintro (h | ⟨_,_,h⟩); (have:=hF _ h; omega); exact h rfl
 have h3:=zpu hb2 h3 hF3;have hC:=hC.zpB hb2 yad
 refine kP r hr2.shape rfl rfl h3 zpM rfl rfl fun w4 u4 r=>wn ?_;have z4:=u4.size
 have h3:=u4.at_;have hC:=hC.zpA u4 (.inl kw)
 refine ac ?_;have hs:=hr2.shape.cells;refine za5 r rfl rfl h3 (k:=20) hs.1 zpN ?_;rw [←hs.2.2];exact zpa.fin hC hr2 u4 yac hF3 kw kw kw
theorem zfC (n:Nat):zcQ n:=by
 induction n using Nat.strongRecOn with
 | _ n ih=>
 intro F F1 F2 w0 hF s1 s2 hdj t pv fv g hp hf hd;obtain ⟨ff,f1,f2,hcf,rfl,hff⟩:=id hf;have hF1:∀ b,F1 b→b<w0.heap.size:=fun b h=>hF b (s1 b h)
 have hF2:∀ b,F2 b→b<w0.heap.size:=fun b h=>hF b (s2 b h)
 cases t with
 | cut=>unfold RepL at hp; exact hp.elim
 | done x0=>
  have hf:=hd.resolve_left yay
  unfold RepL at hp
  subst hp;refine enter (l:=[.agg (zp9 true (zpp.cells x0) 0 0 0 0 .nilFunc),kf ff f1 f2]) Tryz.func246 rfl 15 rfl rfl fun fr r=>?_;have hB:=Below.refl w0.heap.size w0
  refine aa (af ?_);refine kX 271 (.agg (zp9 true (zpp.cells x0) 0 0 0 0 .nilFunc)) r rfl rfl fun b1 w1 q1 r=>?_;refine kX 222 (kf ff f1 f2) r rfl rfl fun b2 w2 q2 r=>?_
  refine za7 (.cells (kq zpf) 224 (0,0)) r (fun R=>za6 zpP) rfl fun fr b3 w3 q3 r=>aj ?_;have h1:=keep q3.below (keep q2.below q1.at_)
  have h2:=keep q3.below q2.at_;have h3:=q3.at_;have e1:=q1.eq; have e2:=q2.eq; have e3:=q3.eq; have z1:=q1.size; have z2:=q2.size; have z3:=q3.size;have hB:=((hB.trans q1.below).trans (q2.below.mono kw)).trans (q3.below.mono kw)
  have zB:=hB.size;refine aa (aa (af (za0 (zp b1) r (fun R=>za3 r (o:=0) rfl zmZ) rfl fun fr r=>?_)));refine za0 (.bool true) r (fun R=>za4 r (v:=.bool true) rfl h1 to4 rfl) rfl fun fr r=>aj ?_
  refine ae (t:=true) (r.ev rfl) (fun _=>?_) (fun h=>by cases h)
  refine aa (af (za0 (kf ff f1 f2) r (fun R=>za4 r (v:=kf ff f1 f2) rfl h2 zqW rfl) rfl fun fr r=>za0 (.pointer (some ⟨b1,1,none⟩)) r (fun R=>za3 r (o:=0) rfl zot) rfl fun fr r=>za0 (.int .u64 x0) r (fun R=>za4 r (v:=(.int .u64 x0)) rfl h1 to34 rfl) rfl fun fr r=>?_));refine zbo r (hf.at_.2 n (Nat.lt_succ_self n) x0 w3 (Same.below hB hF2) hB.size) (fun R hc=>zdR r rfl rfl hf.at_.1 hc) rfl ?_
  rintro _ w4 ⟨v,rfl,hb,hr⟩;refine ⟨_,rfl,fun fr r=>?_⟩
  have z4:=hb.size;have n3:¬ F2 b3:=fun h=>by have:=hF2 _ h; omega
  have h3:=zpu hb h3 n3;have hC:Chg F w0 w4:=(Chg.zpl hB).zpB hb fun b _ h=>s2 b h
  refine kP r hr.shape rfl rfl h3 zpM rfl rfl fun w5 u5 r=>aj ?_;have z5:=u5.size
  have h3:=u5.at_;have hC:=hC.zpA u5 (.inl kw)
  refine ac ?_;have hs:=hr.shape.cells;refine za5 r rfl rfl h3 (k:=20) hs.1 zpN ?_;rw [←hs.2.2];exact zpa.fin hC hr u5 (fun b hb=>.inl (s2 b hb)) n3 kw kw kw
 | act op at_ a b k=>
  obtain ⟨nf,n1,n2,hcn,rfl,hk⟩:∃ (nf:FuncId) (n1 n2:List Value),zp7 ar nf=true∧pv=.agg (zp9 false zpp.zero op at_ a b (kf nf n1 n2))∧FnL ar zpp u64 n F1 w0 (kf nf n1 n2) k:=by
   exact RepL.zcH hp
  refine enter (l:=[.agg (zp9 false zpp.zero op at_ a b (kf nf n1 n2)),kf ff f1 f2]) Tryz.func246 rfl 15 rfl rfl fun fr r=>?_;have hB:=Below.refl w0.heap.size w0
  refine aa (af ?_);refine kX 271 (.agg (zp9 false zpp.zero op at_ a b (kf nf n1 n2))) r rfl rfl fun b1 w1 q1 r=>?_;refine kX 222 (kf ff f1 f2) r rfl rfl fun b2 w2 q2 r=>?_
  refine za7 (.cells (kq zpf) 224 (0,0)) r (fun R=>za6 zpP) rfl fun fr b3 w3 q3 r=>aj ?_;have h1:=keep q3.below (keep q2.below q1.at_)
  have h2:=keep q3.below q2.at_;have h3:=q3.at_;have e1:=q1.eq; have e2:=q2.eq; have e3:=q3.eq; have z1:=q1.size; have z2:=q2.size; have z3:=q3.size;have hB:=((hB.trans q1.below).trans (q2.below.mono kw)).trans (q3.below.mono kw)
  have zB:=hB.size;refine aa (aa (af (za0 (zp b1) r (fun R=>za3 r (o:=0) rfl zmZ) rfl fun fr r=>?_)));refine za0 (.bool false) r (fun R=>za4 r (v:=.bool false) rfl h1 to4 rfl) rfl fun fr r=>aj ?_
  refine ae (t:=false) (r.ev rfl) (fun h=>by cases h) (fun _=>ag ?_);refine aa (af (za0 (.pointer (some ⟨b1,2,none⟩)) r (fun R=>za3 r (o:=0) rfl zok) rfl fun fr r=>kG (zpm (⟨op,at_,a,b⟩:Access)) 4 r rfl h1 ta38 rfl rfl fun r=>za0 (.func (.func 312) #[] #[zp b1,zp b2]) r (fun R=>zae r rfl) rfl fun fr r=>?_))
  have hFb:∀ b,(fun b=>F b∨b=b1∨b=b2) b→b<w3.heap.size:=by rintro b (h | h | h); exact ai (hF b h) hB.size; omega; omega
  have m1:¬ F1 b1:=fun h=>by have:=hF1 _ h; omega
  have m2:¬ F1 b2:=fun h=>by have:=hF1 _ h; omega
  refine kC r (zcR (F:=fun b=>F b∨b=b1∨b=b2) (n:=n) hFb ⟨op,at_,a,b⟩ (a1:=fun x=>(k x).bind g) (show FnL ar zpf u64 n (fun b=>F b∨b=b1∨b=b2) w3 (kf 312 [] [zp b1,zp b2]) (fun x=>(k x).bind g) from
   ⟨312,[],[zp b1,zp b2],ztv,rfl,fun m hm x w' hs hz=>zfF (ih m hm) (fun b hb=>ai (hFb b hb) hz) (fun b h=>.inl (s1 b h)) (fun b h=>.inl (s2 b h)) hdj m1 (hs.at_ (.inr (.inl rfl)) h1) m2 (hs.at_ (.inr (.inr rfl)) h2)
    (hk.mono kw (fun b h=>h) ((Same.below hB hF1).trans (hs.sub (fun b h=>.inl (s1 b h)))) (Nat.le_trans hB.size hz)) (hf.mono kw (fun b h=>h) ((Same.below hB hF2).trans (hs.sub (fun b h=>.inl (s2 b h)))) (Nat.le_trans hB.size hz)) x⟩)) rfl zqq rfl ?_
  rintro _ w4 ⟨v,rfl,hb,hr⟩;refine ⟨_,rfl,fun fr r=>?_⟩
  have z4:=hb.size;have n3:¬ (fun b=>F b∨b=b1∨b=b2) b3:=by rintro (h | h | h); (have:=hF _ h; omega); omega; omega
  have h3:=zpu hb h3 n3;have hC:Chg F w0 w4:=(Chg.zpl hB).zpB hb yar
  refine kP r hr.shape rfl rfl h3 zpM rfl rfl fun w5 u5 r=>aj ?_;have z5:=u5.size
  have h3:=u5.at_;have hC:=hC.zpA u5 (.inl kw)
  refine ac ?_;have hs:=hr.shape.cells;refine za5 r rfl rfl h3 (k:=20) hs.1 zpN ?_;rw [←hs.2.2];exact zpa.fin hC hr u5 yaf n3 kw kw kw
theorem zeW {n:Nat} {F F1 F2:Nat→Prop} {w0:World} (hF:∀ b,F b→b<w0.heap.size) (s1:∀ b,F1 b→F b) (s2:∀ b,F2 b→F b) (hdj:∀ b,F1 b→¬ F2 b) {t:T (Int)} {pv fv:Value} {g:Int→T (Walk)} (hp:RepL ar zpp n t F1 w0 pv) (hf:FnL ar zpf u64 n F2 w0 fv g) (hd:t.zps=false) :
  Calls ar 246 #[pv,fv] w0 (zpa ar zpf n (t.bind g) F w0):=zfC n hF s1 s2 hdj hp hf (.inl hd)
end
end Go.Proofs.YtbbipmelhmgmfaaGreat

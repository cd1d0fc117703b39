/- Ours. -/
import Derived.Test.YtbbipmelhmgmfaaGreatDzM17
import Derived.Test.YtbbipmelhmgmfaaGreatDzM16
set_option linter.all false
set_option maxRecDepth 100000
set_option maxHeartbeats 20000000
namespace Go.Proofs.YtbbipmelhmgmfaaGreat
open Go.RowKit
section
variable {n : Nat} {F : Nat -> Prop} {j : Nat} {w0 : World}
theorem mD:af B0 157:=kz
theorem FT:af B0 245:=kz
theorem xY:af B0 246:=kz
theorem mA:af B0 311:=kz
theorem GA:af B0 312:=kz
theorem xJ:af B0 363:=kz
theorem FN:af B0 387:=kz
theorem xG:af B0 390:=kz
theorem FM:af B0 399:=kz
theorem wR:ba B0 224 0 0:=kz
theorem Ec:ba B0 224 1 1:=kz
theorem En:ba B0 224 2 15:=kz
theorem Er:ba B0 224 3 19:=kz
theorem dG:tyA B0 221 14:=kz
theorem ce:tyA B0 224 20:=kz
theorem sr:tyO B0 222:=kz
theorem yc:tyO B0 228:=kz
theorem yI:tyO B0 306:=kz
theorem yL:tyO B0 326:=kz
theorem cd:sized B0 224 20:=kz
theorem cB:zeroOf B0 224=some (.agg (kq aK)):=kz
theorem tL (hF:kH F w0)
    (a0:IM) :
    Calls B0 15 #[z6 (ID a0)] w0 (av B0 aA n (D.qw a0) F w0):=by
 refine kN Tryz.func15 rfl 5 rfl rfl fun fr r hB=>?_;refine I0 ?_
 refine kX 36 (z6 (ID a0)) r rfl rfl fun b1 w2 n3 r=>?_;obtain ⟨E1,Z2,H1,hB,zB⟩:=n3.all hB
 refine ah (.cells (kq aA) 41 (0,0)) r (fun R=>ag JD) rfl fun fr b4 w5 n6 r=>?_;have H1:=keep n6.below H1
 obtain ⟨E4,Z5,H4,hB,zB⟩:=n6.all hB;refine wn (I0 (kG (ID a0) 2 r rfl H1 ta36 rfl rfl fun r=>kU (.agg (aC true (aA.cells a0) 0 0 0 0 .nilFunc)) r kz rfl fun r=>?_));refine aM (.cells (aC true (aA.cells a0) 0 0 0 0 .nilFunc) 41 (0,0)) r (fun R=>bb r (o:=0) (v:=(.agg (aC true (aA.cells a0) 0 0 0 0 .nilFunc))) rfl rfl H4 Ju u7 rfl rfl) rfl fun fr w7 u8 r=>?_
 have Z7:=u8.size;have H1:=u8.keep H1 O
 have H4:=u8.at_;obtain ⟨hB,zB⟩:=u8.on hB O
 refine wn (q4 ?_);refine ak r rfl rfl H4 (k:=8) rfl Jt ?_;exact ⟨_,rfl,(Jd.aS hB),IK.ib⟩
theorem iJ (hF:kH F w0)
    (a0:Access) {Ks:FuncId} {HP HQ:List Value} {a1:(Int->T IM)} (a1n:K1 B0 aA u64 (n) F w0 (kf Ks HP HQ) a1) :
    Calls B0 177 #[z6 (bh a0),kf Ks HP HQ] w0 (av B0 aA n (D.nS a0 a1) F w0):=by
 refine kN Tryz.func177 rfl 8 rfl rfl fun fr r hB=>?_;refine I0 ?_
 refine kX 38 (z6 (bh a0)) r rfl rfl fun b1 w2 n3 r=>?_;obtain ⟨E1,Z2,H1,hB,zB⟩:=n3.all hB
 refine ah (.cells (kq aA) 41 (0,0)) r (fun R=>ag JD) rfl fun fr b4 w5 n6 r=>?_;have H1:=keep n6.below H1
 obtain ⟨E4,Z5,H4,hB,zB⟩:=n6.all hB;refine wn (I0 (kG (bh a0) 4 r rfl H1 KX rfl rfl fun r=>kM (kf Ks HP HQ) r rfl rfl fun r=>kU (.agg (aC false aA.zero a0.op a0.at_ a0.a a0.b (kf Ks HP HQ))) r kz rfl fun r=>?_));refine aM (.cells (aC false aA.zero a0.op a0.at_ a0.a a0.b (kf Ks HP HQ)) 41 (0,0)) r (fun R=>bb r (o:=0) (v:=(.agg (aC false aA.zero a0.op a0.at_ a0.a a0.b (kf Ks HP HQ)))) rfl rfl H4 Ju u7 rfl rfl) rfl fun fr w7 u8 r=>?_
 have Z7:=u8.size;have H1:=u8.keep H1 O
 have H4:=u8.at_;obtain ⟨hB,zB⟩:=u8.on hB O
 refine wn (q4 ?_);refine ak r rfl rfl H4 (k:=8) rfl Jt ?_;exact ⟨_,rfl,(Jd.aS hB),IK.iq (a1n.mono (Nat.le_refl _) (fun b hb=>.inl hb) (I8.below hB hF) hB.size)⟩
def D.jq (a0:Walk):T Walk:=(T.done a0)
theorem tI (hF:kH F w0)
    (a0:Walk) :
    Calls B0 316 #[z6 (bf a0)] w0 (av B0 aK n (D.jq a0) F w0):=by
 refine kN Tryz.func316 rfl 5 rfl rfl fun fr r hB=>?_;refine I0 ?_
 refine kX 221 (z6 (bf a0)) r rfl rfl fun b1 w2 n3 r=>?_;obtain ⟨E1,Z2,H1,hB,zB⟩:=n3.all hB
 refine ah (.cells (kq aK) 224 (0,0)) r (fun R=>ag cB) rfl fun fr b4 w5 n6 r=>?_;have H1:=keep n6.below H1
 obtain ⟨E4,Z5,H4,hB,zB⟩:=n6.all hB;refine wn (I0 (kG (bf a0) 14 r rfl H1 dG rfl rfl fun r=>kU (.agg (aC true (aK.cells a0) 0 0 0 0 .nilFunc)) r kz rfl fun r=>?_));refine aM (.cells (aC true (aK.cells a0) 0 0 0 0 .nilFunc) 224 (0,0)) r (fun R=>bb r (o:=0) (v:=(.agg (aC true (aK.cells a0) 0 0 0 0 .nilFunc))) rfl rfl H4 cd u7 rfl (rl rfl)) rfl fun fr w7 u8 r=>?_
 have Z7:=u8.size;have H1:=u8.keep H1 O
 have H4:=u8.at_;obtain ⟨hB,zB⟩:=u8.on hB O
 refine wn (q4 ?_);refine ak r rfl rfl H4 (k:=20) rfl ce ?_;exact ⟨_,rfl,(Jd.aS hB),IK.ib⟩
def D.qE (a0:Access) (a1:(Int->T Walk)):T Walk:=(T.act a0.op a0.at_ a0.a a0.b a1)
theorem li (hF:kH F w0)
    (a0:Access) {Ks:FuncId} {HP HQ:List Value} {a1:(Int->T Walk)} (a1n:K1 B0 aK u64 (n) F w0 (kf Ks HP HQ) a1) :
    Calls B0 311 #[z6 (bh a0),kf Ks HP HQ] w0 (av B0 aK n (D.qE a0 a1) F w0):=by
 refine kN Tryz.func311 rfl 8 rfl rfl fun fr r hB=>?_;refine I0 ?_
 refine kX 38 (z6 (bh a0)) r rfl rfl fun b1 w2 n3 r=>?_;obtain ⟨E1,Z2,H1,hB,zB⟩:=n3.all hB
 refine ah (.cells (kq aK) 224 (0,0)) r (fun R=>ag cB) rfl fun fr b4 w5 n6 r=>?_;have H1:=keep n6.below H1
 obtain ⟨E4,Z5,H4,hB,zB⟩:=n6.all hB;refine wn (I0 (kG (bh a0) 4 r rfl H1 KX rfl rfl fun r=>kM (kf Ks HP HQ) r rfl rfl fun r=>kU (.agg (aC false aK.zero a0.op a0.at_ a0.a a0.b (kf Ks HP HQ))) r kz rfl fun r=>?_));refine aM (.cells (aC false aK.zero a0.op a0.at_ a0.a a0.b (kf Ks HP HQ)) 224 (0,0)) r (fun R=>bb r (o:=0) (v:=(.agg (aC false aK.zero a0.op a0.at_ a0.a a0.b (kf Ks HP HQ)))) rfl rfl H4 cd u7 rfl (rl rfl)) rfl fun fr w7 u8 r=>?_
 have Z7:=u8.size;have H1:=u8.keep H1 O
 have H4:=u8.at_;obtain ⟨hB,zB⟩:=u8.on hB O
 refine wn (q4 ?_);refine ak r rfl rfl H4 (k:=20) rfl ce ?_;exact ⟨_,rfl,(Jd.aS hB),IK.iq (a1n.mono (Nat.le_refl _) (fun b hb=>.inl hb) (I8.below hB hF) hB.size)⟩
def sQ (n:Nat):Prop:=∀ {F F1 F2:Nat->Prop} {w0:World},(∀ b,F b->b<w0.heap.size)->(∀ b,F1 b->F b)->(∀ b,F2 b->F b)->(∀ b,F1 b->¬ F2 b)->∀ {t:T (IY)} {pv fv:Value} {g:IY->T (IM)},IK B0 bA n t F1 w0 pv->K1 B0 aA argGrant n F2 w0 fv g->
  (t.bC=false\/K1 B0 aA argGrant (n+1) F2 w0 fv g)->Calls B0 130 #[pv,fv] w0 (av B0 aA n (t.bind g) F w0)
theorem zz {n:Nat} (ih:sQ n) {F F1 F2:Nat->Prop} {w0:World} (hF:∀ b,F b->b<w0.heap.size) (s1:∀ b,F1 b->F b) (s2:∀ b,F2 b->F b) (hdj:∀ b,F1 b->¬ F2 b) {op at_ a b:Int} {nf:FuncId} {n1 n2:List Value} {k:Int->T (IY)} {ff:FuncId} {f1 f2:List Value} {g:IY->T (IM)}
    {b1 b2:Nat} (m1:¬ F1 b1) (h1:w0.heap[b1]?=some (.cells (aC false bA.zero op at_ a b (kf nf n1 n2)) 116 (0,0))) (m2:¬ F1 b2) (h2:w0.heap[b2]?=some (.cells #[kf ff f1 f2] 207 (0,0)))
    (hk:K1 B0 bA u64 (n+1) F1 w0 (kf nf n1 n2) k) (hg:K1 B0 aA argGrant (n+1) F2 w0 (kf ff f1 f2) g) (x:Int) :
    Calls B0 215 #[.int .u64 x,zp b1,zp b2] w0 (av B0 aA n ((k x).bind g) F w0):=by
 refine kN Tryz.func215 rfl 11 rfl rfl fun fr r hB=>?_;have I4:∀ b,F1 b->b<w0.heap.size:=fun b h=>hF b (s1 b h)
 have JZ:∀ b,F2 b->b<w0.heap.size:=fun b h=>hF b (s2 b h)
 refine d9 (q6 ?_);refine ah (.cells (kq aA) 41 (0,0)) r (fun R=>ag JD) rfl fun fr b3 w1 q1 r=>wn ?_;have h1:=keep q1.below h1
 have h2:=keep q1.below h2;have e3:=q1.eq;have z1:=q1.size;have h3:=q1.at_;have hB:=hB.trans (q1.below.mono hB.size);have zB:=hB.size;have hk1:=hk.mono (Nat.le_refl _) (fun b h=>h) (I8.below hB I4) hB.size
 have KL:∀ b,F1 b->b<w1.heap.size:=fun b h=>q9 (I4 b h) zB
 refine d9 ?_;refine iT 5 F1 [.val (.pointer (some ⟨b1,8,none⟩)),.val (kf nf n1 n2),.val (U x),.eff (StepE B0 bA n (k x) F1) (StepE.st KL),.val (kf ff f1 f2)] mixed r KL kz ?_ ?_
 ·
  refine cK r rfl (fun I2 g w' hk' hd r'=>?_) ?_
  · exact az r' (b:=b1) (o:=0) (k:=8) rfl Eo bz
  refine cK r rfl (fun I2 g w' hk' hd r'=>?_) ?_
  · exact ax r' (v:=kf nf n1 n2) (hd 0 rfl).1 (bc (drK hk') h1 m1) FC rfl bz
  refine cK r rfl (fun I2 g w' hk' hd r'=>?_) ?_
  · exact aw r' (v:=.int .u64 x) rfl bz
  refine iL r rfl kz (fun I2 g w' hb' hd r'=>?_) ?_
  ·
   have hb':Below w1.heap.size w1 w':=dr hb';refine dM r' (fs:=n1) (cs:=n2) (hd 1 rfl).1 (hd 2 rfl).1 hk1.at_.1 ((hk1.at_.2 n (Nat.lt_succ_self n) x w' (I8.below hb' KL) hb'.size).mono ?_);rintro _ w2 ⟨v,rfl,hb2,Jz⟩;exact ⟨v,rfl,hb2.kept,Jz⟩
  refine cK r rfl (fun I2 g w' hk' hd r'=>?_) ?_
  · exact ax r' (v:=kf ff f1 f2) rfl (bc (drK hk') h2 m2) xU rfl bz
  exact bU
 intro fr gg w2 hb Iz _ r;have hr:IK B0 bA n (k x) (fun b=>F1 b\/((gg 3).lo<=b/\b<(gg 3).hi)) w2 (gg 3).v:=(Iz 3 rfl).1
 have hrg:=(Iz 3 rfl).2;have r:=r.congr (sc ((Iz 4 rfl).1) rfl);have z2:=hb.size;have hr3:¬ F1 b3:=fun h=>by have:=I4 _ h; omega
 have h3:=bc hb h3 hr3;have hC:Jd F w0 w2:=(Jd.aS hB).bn hb fun b _ h=>s1 b h
 have zB2:=hC.size;have hS2:I8 F2 w0 w2:=fun b h=>(hb.block b (q9 (JZ b h) zB) fun h'=>hdj b h' h).trans (hB.block b (JZ b h))
 have hFb:∀ b,(kW F w0 w2 b3) b->b<w2.heap.size:=by rintro b (h | h); exact q9 (hF b h) zB2; exact h.2.1
 refine kC r (ih (F:=fun b=>F b\/(w0.heap.size<=b/\b<w2.heap.size/\b≠b3)) (F1:=fun b=>F1 b\/((gg 3).lo<=b/\b<(gg 3).hi)) (F2:=F2) hFb yap (fun b h=>.inl (s2 b h))
  yaq hr (hg.mono O (fun b h=>h) hS2 zB2) (.inr (hg.mono (Nat.le_refl _) (fun b h=>h) hS2 zB2))) rfl xL rfl ?_
 rintro _ w3 ⟨v2,rfl,hb2,Jz⟩;refine ⟨_,rfl,fun fr r=>?_⟩
 have z3:=hb2.size;have hF3:¬ (kW F w0 w2 b3) b3:=by rintro (h | ⟨_,_,h⟩); (have:=hF _ h; omega); exact h rfl
 have h3:=bc hb2 h3 hF3;have hC:=hC.bn hb2 yad
 refine kP r Jz.shape rfl rfl h3 Ju rfl rfl fun w4 u4 r=>wn ?_;have z4:=u4.size
 have h3:=u4.at_;have hC:=hC.bm u4 (.inl O)
 refine q4 ?_;have hs:=Jz.shape.cells;refine ak r rfl rfl h3 (k:=8) hs.1 Jt ?_;rw [<-hs.2.2];exact av.fin hC Jz u4 yac hF3 O O O
theorem zw (n:Nat):sQ n:=by
 induction n using Nat.strongRecOn with
 | _ n ih=>
 intro F F1 F2 w0 hF s1 s2 hdj t pv fv g hp hf hd;obtain ⟨ff,f1,f2,hcf,rfl,hff⟩:=id hf;have I4:∀ b,F1 b->b<w0.heap.size:=fun b h=>hF b (s1 b h)
 have JZ:∀ b,F2 b->b<w0.heap.size:=fun b h=>hF b (s2 b h)
 cases t with
 | cut=>unfold IK at hp; exact hp.elim
 | done x0=>
  have hf:=hd.resolve_left yaA
  unfold IK at hp
  subst hp;refine enter (l:=[.agg (aC true (bA.cells x0) 0 0 0 0 .nilFunc),kf ff f1 f2]) Tryz.func130 rfl 15 rfl rfl fun fr r=>?_;have hB:=Below.refl w0.heap.size w0
  refine d9 (q6 ?_);refine kX 116 (.agg (aC true (bA.cells x0) 0 0 0 0 .nilFunc)) r rfl rfl fun b1 w1 q1 r=>?_;refine kX 207 (kf ff f1 f2) r rfl rfl fun b2 w2 q2 r=>?_
  refine ah (.cells (kq aA) 41 (0,0)) r (fun R=>ag JD) rfl fun fr b3 w3 q3 r=>r9 ?_;have h1:=keep q3.below (keep q2.below q1.at_)
  have h2:=keep q3.below q2.at_;have h3:=q3.at_;have e1:=q1.eq; have e2:=q2.eq; have e3:=q3.eq; have z1:=q1.size; have z2:=q2.size; have z3:=q3.size;have hB:=((hB.trans q1.below).trans (q2.below.mono O)).trans (q3.below.mono O)
  have zB:=hB.size;refine d9 (d9 (q6 (aa (zp b1) r (fun R=>az r (o:=0) rfl wy) rfl fun fr r=>?_)));refine aa (.bool true) r (fun R=>ax r (v:=.bool true) rfl h1 to4 rfl) rfl fun fr r=>r9 ?_
  refine q5 (t:=true) (r.ev rfl) (fun _=>?_) (fun h=>by cases h)
  refine d9 (q6 (aa (kf ff f1 f2) r (fun R=>ax r (v:=kf ff f1 f2) rfl h2 xU rfl) rfl fun fr r=>aa (.pointer (some ⟨b1,1,none⟩)) r (fun R=>az r (o:=0) rfl Ep) rfl fun fr r=>kG (grantC x0) 3 r rfl h1 yA rfl rfl fun r=>?_));refine cS r (hf.at_.2 n (Nat.lt_succ_self n) x0 w3 (I8.below hB JZ) hB.size) (fun R hc=>eu r rfl rfl hf.at_.1 hc) rfl ?_
  rintro _ w4 ⟨v,rfl,hb,hr⟩;refine ⟨_,rfl,fun fr r=>?_⟩
  have z4:=hb.size;have n3:¬ F2 b3:=fun h=>by have:=JZ _ h; omega
  have h3:=bc hb h3 n3;have hC:Jd F w0 w4:=(Jd.aS hB).bn hb fun b _ h=>s2 b h
  refine kP r hr.shape rfl rfl h3 Ju rfl rfl fun w5 u5 r=>r9 ?_;have z5:=u5.size
  have h3:=u5.at_;have hC:=hC.bm u5 (.inl O)
  refine q4 ?_;have hs:=hr.shape.cells;refine ak r rfl rfl h3 (k:=8) hs.1 Jt ?_;rw [<-hs.2.2];exact av.fin hC hr u5 (fun b hb=>.inl (s2 b hb)) n3 O O O
 | act op at_ a b k=>
  obtain ⟨nf,n1,n2,hcn,rfl,hk⟩:∃ (nf:FuncId) (n1 n2:List Value),af B0 nf=true/\pv=.agg (aC false bA.zero op at_ a b (kf nf n1 n2))/\K1 B0 bA u64 n F1 w0 (kf nf n1 n2) k:=by
   exact IK.dD hp
  refine enter (l:=[.agg (aC false bA.zero op at_ a b (kf nf n1 n2)),kf ff f1 f2]) Tryz.func130 rfl 15 rfl rfl fun fr r=>?_;have hB:=Below.refl w0.heap.size w0
  refine d9 (q6 ?_);refine kX 116 (.agg (aC false bA.zero op at_ a b (kf nf n1 n2))) r rfl rfl fun b1 w1 q1 r=>?_;refine kX 207 (kf ff f1 f2) r rfl rfl fun b2 w2 q2 r=>?_
  refine ah (.cells (kq aA) 41 (0,0)) r (fun R=>ag JD) rfl fun fr b3 w3 q3 r=>r9 ?_;have h1:=keep q3.below (keep q2.below q1.at_)
  have h2:=keep q3.below q2.at_;have h3:=q3.at_;have e1:=q1.eq; have e2:=q2.eq; have e3:=q3.eq; have z1:=q1.size; have z2:=q2.size; have z3:=q3.size;have hB:=((hB.trans q1.below).trans (q2.below.mono O)).trans (q3.below.mono O)
  have zB:=hB.size;refine d9 (d9 (q6 (aa (zp b1) r (fun R=>az r (o:=0) rfl wy) rfl fun fr r=>?_)));refine aa (.bool false) r (fun R=>ax r (v:=.bool false) rfl h1 to4 rfl) rfl fun fr r=>r9 ?_
  refine q5 (t:=false) (r.ev rfl) (fun h=>by cases h) (fun _=>q7 ?_);refine d9 (q6 (aa (.pointer (some ⟨b1,4,none⟩)) r (fun R=>az r (o:=0) rfl DX) rfl fun fr r=>kG (bh (⟨op,at_,a,b⟩:Access)) 4 r rfl h1 KX rfl rfl fun r=>aa (.func (.func 215) #[] #[zp b1,zp b2]) r (fun R=>aZ r rfl) rfl fun fr r=>?_))
  have hFb:∀ b,(fun b=>F b\/b=b1\/b=b2) b->b<w3.heap.size:=by rintro b (h | h | h); exact q9 (hF b h) hB.size; omega; omega
  have m1:¬ F1 b1:=fun h=>by have:=I4 _ h; omega
  have m2:¬ F1 b2:=fun h=>by have:=I4 _ h; omega
  refine kC r (iJ (F:=fun b=>F b\/b=b1\/b=b2) (n:=n) hFb ⟨op,at_,a,b⟩ (a1:=fun x=>(k x).bind g) (show K1 B0 aA u64 n (fun b=>F b\/b=b1\/b=b2) w3 (kf 215 [] [zp b1,zp b2]) (fun x=>(k x).bind g) from
   ⟨215,[],[zp b1,zp b2],Hx,rfl,fun m hm x w' hs hz=>zz (ih m hm) (fun b hb=>q9 (hFb b hb) hz) (fun b h=>.inl (s1 b h)) (fun b h=>.inl (s2 b h)) hdj m1 (hs.at_ (.inr (.inl rfl)) h1) m2 (hs.at_ (.inr (.inr rfl)) h2)
    (hk.mono O (fun b h=>h) ((I8.below hB I4).trans (hs.sub (fun b h=>.inl (s1 b h)))) (Nat.le_trans hB.size hz)) (hf.mono O (fun b h=>h) ((I8.below hB JZ).trans (hs.sub (fun b h=>.inl (s2 b h)))) (Nat.le_trans hB.size hz)) x⟩)) rfl jd rfl ?_
  rintro _ w4 ⟨v,rfl,hb,hr⟩;refine ⟨_,rfl,fun fr r=>?_⟩
  have z4:=hb.size;have n3:¬ (fun b=>F b\/b=b1\/b=b2) b3:=by rintro (h | h | h); (have:=hF _ h; omega); omega; omega
  have h3:=bc hb h3 n3;have hC:Jd F w0 w4:=(Jd.aS hB).bn hb yau
  refine kP r hr.shape rfl rfl h3 Ju rfl rfl fun w5 u5 r=>r9 ?_;have z5:=u5.size
  have h3:=u5.at_;have hC:=hC.bm u5 (.inl O)
  refine q4 ?_;have hs:=hr.shape.cells;refine ak r rfl rfl h3 (k:=8) hs.1 Jt ?_;rw [<-hs.2.2];exact av.fin hC hr u5 yaf n3 O O O
theorem yX {n:Nat} {F F1 F2:Nat->Prop} {w0:World} (hF:∀ b,F b->b<w0.heap.size) (s1:∀ b,F1 b->F b) (s2:∀ b,F2 b->F b) (hdj:∀ b,F1 b->¬ F2 b) {t:T (IY)} {pv fv:Value} {g:IY->T (IM)} (hp:IK B0 bA n t F1 w0 pv) (hf:K1 B0 aA argGrant (n+1) F2 w0 fv g) :
  Calls B0 130 #[pv,fv] w0 (av B0 aA n (t.bind g) F w0):=zw n hF s1 s2 hdj hp (hf.mono O (fun b h=>h) (I8.refl _ _) (Nat.le_refl _)) (.inr hf)
def sX (n:Nat):Prop:=∀ {F F1 F2:Nat->Prop} {w0:World},(∀ b,F b->b<w0.heap.size)->(∀ b,F1 b->F b)->(∀ b,F2 b->F b)->(∀ b,F1 b->¬ F2 b)->∀ {t:T (Walk)} {pv fv:Value} {g:Walk->T (IM)},IK B0 aK n t F1 w0 pv->K1 B0 aA argWalk n F2 w0 fv g->
  (t.bC=false\/K1 B0 aA argWalk (n+1) F2 w0 fv g)->Calls B0 157 #[pv,fv] w0 (av B0 aA n (t.bind g) F w0)
theorem zR {n:Nat} (ih:sX n) {F F1 F2:Nat->Prop} {w0:World} (hF:∀ b,F b->b<w0.heap.size) (s1:∀ b,F1 b->F b) (s2:∀ b,F2 b->F b) (hdj:∀ b,F1 b->¬ F2 b) {op at_ a b:Int} {nf:FuncId} {n1 n2:List Value} {k:Int->T (Walk)} {ff:FuncId} {f1 f2:List Value} {g:Walk->T (IM)}
    {b1 b2:Nat} (m1:¬ F1 b1) (h1:w0.heap[b1]?=some (.cells (aC false aK.zero op at_ a b (kf nf n1 n2)) 224 (0,0))) (m2:¬ F1 b2) (h2:w0.heap[b2]?=some (.cells #[kf ff f1 f2] 228 (0,0)))
    (hk:K1 B0 aK u64 (n+1) F1 w0 (kf nf n1 n2) k) (hg:K1 B0 aA argWalk (n+1) F2 w0 (kf ff f1 f2) g) (x:Int) :
    Calls B0 245 #[.int .u64 x,zp b1,zp b2] w0 (av B0 aA n ((k x).bind g) F w0):=by
 refine kN Tryz.func245 rfl 11 rfl rfl fun fr r hB=>?_;have I4:∀ b,F1 b->b<w0.heap.size:=fun b h=>hF b (s1 b h)
 have JZ:∀ b,F2 b->b<w0.heap.size:=fun b h=>hF b (s2 b h)
 refine d9 (q6 ?_);refine ah (.cells (kq aA) 41 (0,0)) r (fun R=>ag JD) rfl fun fr b3 w1 q1 r=>wn ?_;have h1:=keep q1.below h1
 have h2:=keep q1.below h2;have e3:=q1.eq;have z1:=q1.size;have h3:=q1.at_;have hB:=hB.trans (q1.below.mono hB.size);have zB:=hB.size;have hk1:=hk.mono (Nat.le_refl _) (fun b h=>h) (I8.below hB I4) hB.size
 have KL:∀ b,F1 b->b<w1.heap.size:=fun b h=>q9 (I4 b h) zB
 refine d9 ?_;refine iT 5 F1 [.val (.pointer (some ⟨b1,19,none⟩)),.val (kf nf n1 n2),.val (U x),.eff (StepE B0 aK n (k x) F1) (StepE.st KL),.val (kf ff f1 f2)] mixed r KL kz ?_ ?_
 ·
  refine cK r rfl (fun I2 g w' hk' hd r'=>?_) ?_
  · exact az r' (b:=b1) (o:=0) (k:=19) rfl Er bz
  refine cK r rfl (fun I2 g w' hk' hd r'=>?_) ?_
  · exact ax r' (v:=kf nf n1 n2) (hd 0 rfl).1 (bc (drK hk') h1 m1) sr rfl bz
  refine cK r rfl (fun I2 g w' hk' hd r'=>?_) ?_
  · exact aw r' (v:=.int .u64 x) rfl bz
  refine iL r rfl kz (fun I2 g w' hb' hd r'=>?_) ?_
  ·
   have hb':Below w1.heap.size w1 w':=dr hb';refine dM r' (fs:=n1) (cs:=n2) (hd 1 rfl).1 (hd 2 rfl).1 hk1.at_.1 ((hk1.at_.2 n (Nat.lt_succ_self n) x w' (I8.below hb' KL) hb'.size).mono ?_);rintro _ w2 ⟨v,rfl,hb2,Jz⟩;exact ⟨v,rfl,hb2.kept,Jz⟩
  refine cK r rfl (fun I2 g w' hk' hd r'=>?_) ?_
  · exact ax r' (v:=kf ff f1 f2) rfl (bc (drK hk') h2 m2) yc rfl bz
  exact bU
 intro fr gg w2 hb Iz _ r;have hr:IK B0 aK n (k x) (fun b=>F1 b\/((gg 3).lo<=b/\b<(gg 3).hi)) w2 (gg 3).v:=(Iz 3 rfl).1
 have hrg:=(Iz 3 rfl).2;have r:=r.congr (sc ((Iz 4 rfl).1) rfl);have z2:=hb.size;have hr3:¬ F1 b3:=fun h=>by have:=I4 _ h; omega
 have h3:=bc hb h3 hr3;have hC:Jd F w0 w2:=(Jd.aS hB).bn hb fun b _ h=>s1 b h
 have zB2:=hC.size;have hS2:I8 F2 w0 w2:=fun b h=>(hb.block b (q9 (JZ b h) zB) fun h'=>hdj b h' h).trans (hB.block b (JZ b h))
 have hFb:∀ b,(kW F w0 w2 b3) b->b<w2.heap.size:=by rintro b (h | h); exact q9 (hF b h) zB2; exact h.2.1
 refine kC r (ih (F:=fun b=>F b\/(w0.heap.size<=b/\b<w2.heap.size/\b≠b3)) (F1:=fun b=>F1 b\/((gg 3).lo<=b/\b<(gg 3).hi)) (F2:=F2) hFb yap (fun b h=>.inl (s2 b h))
  yaq hr (hg.mono O (fun b h=>h) hS2 zB2) (.inr (hg.mono (Nat.le_refl _) (fun b h=>h) hS2 zB2))) rfl mD rfl ?_
 rintro _ w3 ⟨v2,rfl,hb2,Jz⟩;refine ⟨_,rfl,fun fr r=>?_⟩
 have z3:=hb2.size;have hF3:¬ (kW F w0 w2 b3) b3:=by rintro (h | ⟨_,_,h⟩); (have:=hF _ h; omega); exact h rfl
 have h3:=bc hb2 h3 hF3;have hC:=hC.bn hb2 yad
 refine kP r Jz.shape rfl rfl h3 Ju rfl rfl fun w4 u4 r=>wn ?_;have z4:=u4.size
 have h3:=u4.at_;have hC:=hC.bm u4 (.inl O)
 refine q4 ?_;have hs:=Jz.shape.cells;refine ak r rfl rfl h3 (k:=8) hs.1 Jt ?_;rw [<-hs.2.2];exact av.fin hC Jz u4 yac hF3 O O O
theorem zI (n:Nat):sX n:=by
 induction n using Nat.strongRecOn with
 | _ n ih=>
 intro F F1 F2 w0 hF s1 s2 hdj t pv fv g hp hf hd;obtain ⟨ff,f1,f2,hcf,rfl,hff⟩:=id hf;have I4:∀ b,F1 b->b<w0.heap.size:=fun b h=>hF b (s1 b h)
 have JZ:∀ b,F2 b->b<w0.heap.size:=fun b h=>hF b (s2 b h)
 cases t with
 | cut=>unfold IK at hp; exact hp.elim
 | done x0=>
  have hf:=hd.resolve_left yaA
  unfold IK at hp
  subst hp;refine enter (l:=[.agg (aC true (aK.cells x0) 0 0 0 0 .nilFunc),kf ff f1 f2]) Tryz.func157 rfl 15 rfl rfl fun fr r=>?_;have hB:=Below.refl w0.heap.size w0
  refine d9 (q6 ?_);refine kX 224 (.agg (aC true (aK.cells x0) 0 0 0 0 .nilFunc)) r rfl rfl fun b1 w1 q1 r=>?_;refine kX 228 (kf ff f1 f2) r rfl rfl fun b2 w2 q2 r=>?_
  refine ah (.cells (kq aA) 41 (0,0)) r (fun R=>ag JD) rfl fun fr b3 w3 q3 r=>r9 ?_;have h1:=keep q3.below (keep q2.below q1.at_)
  have h2:=keep q3.below q2.at_;have h3:=q3.at_;have e1:=q1.eq; have e2:=q2.eq; have e3:=q3.eq; have z1:=q1.size; have z2:=q2.size; have z3:=q3.size;have hB:=((hB.trans q1.below).trans (q2.below.mono O)).trans (q3.below.mono O)
  have zB:=hB.size;refine d9 (d9 (q6 (aa (zp b1) r (fun R=>az r (o:=0) rfl wR) rfl fun fr r=>?_)));refine aa (.bool true) r (fun R=>ax r (v:=.bool true) rfl h1 to4 rfl) rfl fun fr r=>r9 ?_
  refine q5 (t:=true) (r.ev rfl) (fun _=>?_) (fun h=>by cases h)
  refine d9 (q6 (aa (kf ff f1 f2) r (fun R=>ax r (v:=kf ff f1 f2) rfl h2 yc rfl) rfl fun fr r=>aa (.pointer (some ⟨b1,1,none⟩)) r (fun R=>az r (o:=0) rfl Ec) rfl fun fr r=>kG (bf x0) 14 r rfl h1 dG rfl rfl fun r=>?_));refine cS r (hf.at_.2 n (Nat.lt_succ_self n) x0 w3 (I8.below hB JZ) hB.size) (fun R hc=>eu r rfl rfl hf.at_.1 hc) rfl ?_
  rintro _ w4 ⟨v,rfl,hb,hr⟩;refine ⟨_,rfl,fun fr r=>?_⟩
  have z4:=hb.size;have n3:¬ F2 b3:=fun h=>by have:=JZ _ h; omega
  have h3:=bc hb h3 n3;have hC:Jd F w0 w4:=(Jd.aS hB).bn hb fun b _ h=>s2 b h
  refine kP r hr.shape rfl rfl h3 Ju rfl rfl fun w5 u5 r=>r9 ?_;have z5:=u5.size
  have h3:=u5.at_;have hC:=hC.bm u5 (.inl O)
  refine q4 ?_;have hs:=hr.shape.cells;refine ak r rfl rfl h3 (k:=8) hs.1 Jt ?_;rw [<-hs.2.2];exact av.fin hC hr u5 (fun b hb=>.inl (s2 b hb)) n3 O O O
 | act op at_ a b k=>
  obtain ⟨nf,n1,n2,hcn,rfl,hk⟩:∃ (nf:FuncId) (n1 n2:List Value),af B0 nf=true/\pv=.agg (aC false aK.zero op at_ a b (kf nf n1 n2))/\K1 B0 aK u64 n F1 w0 (kf nf n1 n2) k:=by
   exact IK.dD hp
  refine enter (l:=[.agg (aC false aK.zero op at_ a b (kf nf n1 n2)),kf ff f1 f2]) Tryz.func157 rfl 15 rfl rfl fun fr r=>?_;have hB:=Below.refl w0.heap.size w0
  refine d9 (q6 ?_);refine kX 224 (.agg (aC false aK.zero op at_ a b (kf nf n1 n2))) r rfl rfl fun b1 w1 q1 r=>?_;refine kX 228 (kf ff f1 f2) r rfl rfl fun b2 w2 q2 r=>?_
  refine ah (.cells (kq aA) 41 (0,0)) r (fun R=>ag JD) rfl fun fr b3 w3 q3 r=>r9 ?_;have h1:=keep q3.below (keep q2.below q1.at_)
  have h2:=keep q3.below q2.at_;have h3:=q3.at_;have e1:=q1.eq; have e2:=q2.eq; have e3:=q3.eq; have z1:=q1.size; have z2:=q2.size; have z3:=q3.size;have hB:=((hB.trans q1.below).trans (q2.below.mono O)).trans (q3.below.mono O)
  have zB:=hB.size;refine d9 (d9 (q6 (aa (zp b1) r (fun R=>az r (o:=0) rfl wR) rfl fun fr r=>?_)));refine aa (.bool false) r (fun R=>ax r (v:=.bool false) rfl h1 to4 rfl) rfl fun fr r=>r9 ?_
  refine q5 (t:=false) (r.ev rfl) (fun h=>by cases h) (fun _=>q7 ?_);refine d9 (q6 (aa (.pointer (some ⟨b1,15,none⟩)) r (fun R=>az r (o:=0) rfl En) rfl fun fr r=>kG (bh (⟨op,at_,a,b⟩:Access)) 4 r rfl h1 KX rfl rfl fun r=>aa (.func (.func 245) #[] #[zp b1,zp b2]) r (fun R=>aZ r rfl) rfl fun fr r=>?_))
  have hFb:∀ b,(fun b=>F b\/b=b1\/b=b2) b->b<w3.heap.size:=by rintro b (h | h | h); exact q9 (hF b h) hB.size; omega; omega
  have m1:¬ F1 b1:=fun h=>by have:=I4 _ h; omega
  have m2:¬ F1 b2:=fun h=>by have:=I4 _ h; omega
  refine kC r (iJ (F:=fun b=>F b\/b=b1\/b=b2) (n:=n) hFb ⟨op,at_,a,b⟩ (a1:=fun x=>(k x).bind g) (show K1 B0 aA u64 n (fun b=>F b\/b=b1\/b=b2) w3 (kf 245 [] [zp b1,zp b2]) (fun x=>(k x).bind g) from
   ⟨245,[],[zp b1,zp b2],FT,rfl,fun m hm x w' hs hz=>zR (ih m hm) (fun b hb=>q9 (hFb b hb) hz) (fun b h=>.inl (s1 b h)) (fun b h=>.inl (s2 b h)) hdj m1 (hs.at_ (.inr (.inl rfl)) h1) m2 (hs.at_ (.inr (.inr rfl)) h2)
    (hk.mono O (fun b h=>h) ((I8.below hB I4).trans (hs.sub (fun b h=>.inl (s1 b h)))) (Nat.le_trans hB.size hz)) (hf.mono O (fun b h=>h) ((I8.below hB JZ).trans (hs.sub (fun b h=>.inl (s2 b h)))) (Nat.le_trans hB.size hz)) x⟩)) rfl jd rfl ?_
  rintro _ w4 ⟨v,rfl,hb,hr⟩;refine ⟨_,rfl,fun fr r=>?_⟩
  have z4:=hb.size;have n3:¬ (fun b=>F b\/b=b1\/b=b2) b3:=by rintro (h | h | h); (have:=hF _ h; omega); omega; omega
  have h3:=bc hb h3 n3;have hC:Jd F w0 w4:=(Jd.aS hB).bn hb yau
  refine kP r hr.shape rfl rfl h3 Ju rfl rfl fun w5 u5 r=>r9 ?_;have z5:=u5.size
  have h3:=u5.at_;have hC:=hC.bm u5 (.inl O)
  refine q4 ?_;have hs:=hr.shape.cells;refine ak r rfl rfl h3 (k:=8) hs.1 Jt ?_;rw [<-hs.2.2];exact av.fin hC hr u5 yaf n3 O O O
theorem mH {n:Nat} {F F1 F2:Nat->Prop} {w0:World} (hF:∀ b,F b->b<w0.heap.size) (s1:∀ b,F1 b->F b) (s2:∀ b,F2 b->F b) (hdj:∀ b,F1 b->¬ F2 b) {t:T (Walk)} {pv fv:Value} {g:Walk->T (IM)} (hp:IK B0 aK n t F1 w0 pv) (hf:K1 B0 aA argWalk (n+1) F2 w0 fv g) :
  Calls B0 157 #[pv,fv] w0 (av B0 aA n (t.bind g) F w0):=zI n hF s1 s2 hdj hp (hf.mono O (fun b h=>h) (I8.refl _ _) (Nat.le_refl _)) (.inr hf)
def sU (n:Nat):Prop:=∀ {F F1 F2:Nat->Prop} {w0:World},(∀ b,F b->b<w0.heap.size)->(∀ b,F1 b->F b)->(∀ b,F2 b->F b)->(∀ b,F1 b->¬ F2 b)->∀ {t:T (Unit)} {pv fv:Value} {g:Unit->T (IM)},IK B0 aD n t F1 w0 pv->K1 B0 aA noneE n F2 w0 fv g->
  (t.bC=false\/K1 B0 aA noneE (n+1) F2 w0 fv g)->Calls B0 228 #[pv,fv] w0 (av B0 aA n (t.bind g) F w0)
theorem zP {n:Nat} (ih:sU n) {F F1 F2:Nat->Prop} {w0:World} (hF:∀ b,F b->b<w0.heap.size) (s1:∀ b,F1 b->F b) (s2:∀ b,F2 b->F b) (hdj:∀ b,F1 b->¬ F2 b) {op at_ a b:Int} {nf:FuncId} {n1 n2:List Value} {k:Int->T (Unit)} {ff:FuncId} {f1 f2:List Value} {g:Unit->T (IM)}
    {b1 b2:Nat} (m1:¬ F1 b1) (h1:w0.heap[b1]?=some (.cells (aC false aD.zero op at_ a b (kf nf n1 n2)) 133 (0,0))) (m2:¬ F1 b2) (h2:w0.heap[b2]?=some (.cells #[kf ff f1 f2] 265 (0,0)))
    (hk:K1 B0 aD u64 (n+1) F1 w0 (kf nf n1 n2) k) (hg:K1 B0 aA noneE (n+1) F2 w0 (kf ff f1 f2) g) (x:Int) :
    Calls B0 301 #[.int .u64 x,zp b1,zp b2] w0 (av B0 aA n ((k x).bind g) F w0):=by
 refine kN Tryz.func301 rfl 11 rfl rfl fun fr r hB=>?_;have I4:∀ b,F1 b->b<w0.heap.size:=fun b h=>hF b (s1 b h)
 have JZ:∀ b,F2 b->b<w0.heap.size:=fun b h=>hF b (s2 b h)
 refine d9 (q6 ?_);refine ah (.cells (kq aA) 41 (0,0)) r (fun R=>ag JD) rfl fun fr b3 w1 q1 r=>wn ?_;have h1:=keep q1.below h1
 have h2:=keep q1.below h2;have e3:=q1.eq;have z1:=q1.size;have h3:=q1.at_;have hB:=hB.trans (q1.below.mono hB.size);have zB:=hB.size;have hk1:=hk.mono (Nat.le_refl _) (fun b h=>h) (I8.below hB I4) hB.size
 have KL:∀ b,F1 b->b<w1.heap.size:=fun b h=>q9 (I4 b h) zB
 refine d9 ?_;refine iT 5 F1 [.val (.pointer (some ⟨b1,5,none⟩)),.val (kf nf n1 n2),.val (U x),.eff (StepE B0 aD n (k x) F1) (StepE.st KL),.val (kf ff f1 f2)] mixed r KL kz ?_ ?_
 ·
  refine cK r rfl (fun I2 g w' hk' hd r'=>?_) ?_
  · exact az r' (b:=b1) (o:=0) (k:=5) rfl lY bz
  refine cK r rfl (fun I2 g w' hk' hd r'=>?_) ?_
  · exact ax r' (v:=kf nf n1 n2) (hd 0 rfl).1 (bc (drK hk') h1 m1) mi rfl bz
  refine cK r rfl (fun I2 g w' hk' hd r'=>?_) ?_
  · exact aw r' (v:=.int .u64 x) rfl bz
  refine iL r rfl kz (fun I2 g w' hb' hd r'=>?_) ?_
  ·
   have hb':Below w1.heap.size w1 w':=dr hb';refine dM r' (fs:=n1) (cs:=n2) (hd 1 rfl).1 (hd 2 rfl).1 hk1.at_.1 ((hk1.at_.2 n (Nat.lt_succ_self n) x w' (I8.below hb' KL) hb'.size).mono ?_);rintro _ w2 ⟨v,rfl,hb2,Jz⟩;exact ⟨v,rfl,hb2.kept,Jz⟩
  refine cK r rfl (fun I2 g w' hk' hd r'=>?_) ?_
  · exact ax r' (v:=kf ff f1 f2) rfl (bc (drK hk') h2 m2) xR rfl bz
  exact bU
 intro fr gg w2 hb Iz _ r;have hr:IK B0 aD n (k x) (fun b=>F1 b\/((gg 3).lo<=b/\b<(gg 3).hi)) w2 (gg 3).v:=(Iz 3 rfl).1
 have hrg:=(Iz 3 rfl).2;have r:=r.congr (sc ((Iz 4 rfl).1) rfl);have z2:=hb.size;have hr3:¬ F1 b3:=fun h=>by have:=I4 _ h; omega
 have h3:=bc hb h3 hr3;have hC:Jd F w0 w2:=(Jd.aS hB).bn hb fun b _ h=>s1 b h
 have zB2:=hC.size;have hS2:I8 F2 w0 w2:=fun b h=>(hb.block b (q9 (JZ b h) zB) fun h'=>hdj b h' h).trans (hB.block b (JZ b h))
 have hFb:∀ b,(kW F w0 w2 b3) b->b<w2.heap.size:=by rintro b (h | h); exact q9 (hF b h) zB2; exact h.2.1
 refine kC r (ih (F:=fun b=>F b\/(w0.heap.size<=b/\b<w2.heap.size/\b≠b3)) (F1:=fun b=>F1 b\/((gg 3).lo<=b/\b<(gg 3).hi)) (F2:=F2) hFb yap (fun b h=>.inl (s2 b h))
  yaq hr (hg.mono O (fun b h=>h) hS2 zB2) (.inr (hg.mono (Nat.le_refl _) (fun b h=>h) hS2 zB2))) rfl sj rfl ?_
 rintro _ w3 ⟨v2,rfl,hb2,Jz⟩;refine ⟨_,rfl,fun fr r=>?_⟩
 have z3:=hb2.size;have hF3:¬ (kW F w0 w2 b3) b3:=by rintro (h | ⟨_,_,h⟩); (have:=hF _ h; omega); exact h rfl
 have h3:=bc hb2 h3 hF3;have hC:=hC.bn hb2 yad
 refine kP r Jz.shape rfl rfl h3 Ju rfl rfl fun w4 u4 r=>wn ?_;have z4:=u4.size
 have h3:=u4.at_;have hC:=hC.bm u4 (.inl O)
 refine q4 ?_;have hs:=Jz.shape.cells;refine ak r rfl rfl h3 (k:=8) hs.1 Jt ?_;rw [<-hs.2.2];exact av.fin hC Jz u4 yac hF3 O O O
theorem zG (n:Nat):sU n:=by
 induction n using Nat.strongRecOn with
 | _ n ih=>
 intro F F1 F2 w0 hF s1 s2 hdj t pv fv g hp hf hd;obtain ⟨ff,f1,f2,hcf,rfl,hff⟩:=id hf;have I4:∀ b,F1 b->b<w0.heap.size:=fun b h=>hF b (s1 b h)
 have JZ:∀ b,F2 b->b<w0.heap.size:=fun b h=>hF b (s2 b h)
 cases t with
 | cut=>unfold IK at hp; exact hp.elim
 | done x0=>
  have hf:=hd.resolve_left yaA
  unfold IK at hp
  subst hp;refine enter (l:=[.agg (aC true (aD.cells x0) 0 0 0 0 .nilFunc),kf ff f1 f2]) Tryz.func228 rfl 15 rfl rfl fun fr r=>?_;have hB:=Below.refl w0.heap.size w0
  refine d9 (q6 ?_);refine kX 133 (.agg (aC true (aD.cells x0) 0 0 0 0 .nilFunc)) r rfl rfl fun b1 w1 q1 r=>?_;refine kX 265 (kf ff f1 f2) r rfl rfl fun b2 w2 q2 r=>?_
  refine ah (.cells (kq aA) 41 (0,0)) r (fun R=>ag JD) rfl fun fr b3 w3 q3 r=>r9 ?_;have h1:=keep q3.below (keep q2.below q1.at_)
  have h2:=keep q3.below q2.at_;have h3:=q3.at_;have e1:=q1.eq; have e2:=q2.eq; have e3:=q3.eq; have z1:=q1.size; have z2:=q2.size; have z3:=q3.size;have hB:=((hB.trans q1.below).trans (q2.below.mono O)).trans (q3.below.mono O)
  have zB:=hB.size;refine d9 (d9 (q6 (aa (zp b1) r (fun R=>az r (o:=0) rfl eX) rfl fun fr r=>?_)));refine aa (.bool true) r (fun R=>ax r (v:=.bool true) rfl h1 to4 rfl) rfl fun fr r=>r9 ?_
  refine q5 (t:=true) (r.ev rfl) (fun _=>?_) (fun h=>by cases h)
  refine d9 (q6 (aa (kf ff f1 f2) r (fun R=>ax r (v:=kf ff f1 f2) rfl h2 xR rfl) rfl fun fr r=>?_));refine oD b1 1 r (fun R=>lD r rfl mq h1) rfl fun fr sp r=>aa (.agg #[]) r (fun R=>lJ r rfl jc) rfl fun fr r=>?_
  refine cS r (hf.at_.2 n (Nat.lt_succ_self n) x0 w3 (I8.below hB JZ) hB.size) (fun R hc=>eu r rfl rfl hf.at_.1 hc) rfl ?_;rintro _ w4 ⟨v,rfl,hb,hr⟩
  refine ⟨_,rfl,fun fr r=>?_⟩
  have z4:=hb.size;have n3:¬ F2 b3:=fun h=>by have:=JZ _ h; omega
  have h3:=bc hb h3 n3;have hC:Jd F w0 w4:=(Jd.aS hB).bn hb fun b _ h=>s2 b h
  refine kP r hr.shape rfl rfl h3 Ju rfl rfl fun w5 u5 r=>r9 ?_;have z5:=u5.size
  have h3:=u5.at_;have hC:=hC.bm u5 (.inl O)
  refine q4 ?_;have hs:=hr.shape.cells;refine ak r rfl rfl h3 (k:=8) hs.1 Jt ?_;rw [<-hs.2.2];exact av.fin hC hr u5 (fun b hb=>.inl (s2 b hb)) n3 O O O
 | act op at_ a b k=>
  obtain ⟨nf,n1,n2,hcn,rfl,hk⟩:∃ (nf:FuncId) (n1 n2:List Value),af B0 nf=true/\pv=.agg (aC false aD.zero op at_ a b (kf nf n1 n2))/\K1 B0 aD u64 n F1 w0 (kf nf n1 n2) k:=by
   exact IK.dD hp
  refine enter (l:=[.agg (aC false aD.zero op at_ a b (kf nf n1 n2)),kf ff f1 f2]) Tryz.func228 rfl 15 rfl rfl fun fr r=>?_;have hB:=Below.refl w0.heap.size w0
  refine d9 (q6 ?_);refine kX 133 (.agg (aC false aD.zero op at_ a b (kf nf n1 n2))) r rfl rfl fun b1 w1 q1 r=>?_;refine kX 265 (kf ff f1 f2) r rfl rfl fun b2 w2 q2 r=>?_
  refine ah (.cells (kq aA) 41 (0,0)) r (fun R=>ag JD) rfl fun fr b3 w3 q3 r=>r9 ?_;have h1:=keep q3.below (keep q2.below q1.at_)
  have h2:=keep q3.below q2.at_;have h3:=q3.at_;have e1:=q1.eq; have e2:=q2.eq; have e3:=q3.eq; have z1:=q1.size; have z2:=q2.size; have z3:=q3.size;have hB:=((hB.trans q1.below).trans (q2.below.mono O)).trans (q3.below.mono O)
  have zB:=hB.size;refine d9 (d9 (q6 (aa (zp b1) r (fun R=>az r (o:=0) rfl eX) rfl fun fr r=>?_)));refine aa (.bool false) r (fun R=>ax r (v:=.bool false) rfl h1 to4 rfl) rfl fun fr r=>r9 ?_
  refine q5 (t:=false) (r.ev rfl) (fun h=>by cases h) (fun _=>q7 ?_);refine d9 (q6 (aa (.pointer (some ⟨b1,1,none⟩)) r (fun R=>az r (o:=0) rfl lZ) rfl fun fr r=>kG (bh (⟨op,at_,a,b⟩:Access)) 4 r rfl h1 KX rfl rfl fun r=>aa (.func (.func 301) #[] #[zp b1,zp b2]) r (fun R=>aZ r rfl) rfl fun fr r=>?_))
  have hFb:∀ b,(fun b=>F b\/b=b1\/b=b2) b->b<w3.heap.size:=by rintro b (h | h | h); exact q9 (hF b h) hB.size; omega; omega
  have m1:¬ F1 b1:=fun h=>by have:=I4 _ h; omega
  have m2:¬ F1 b2:=fun h=>by have:=I4 _ h; omega
  refine kC r (iJ (F:=fun b=>F b\/b=b1\/b=b2) (n:=n) hFb ⟨op,at_,a,b⟩ (a1:=fun x=>(k x).bind g) (show K1 B0 aA u64 n (fun b=>F b\/b=b1\/b=b2) w3 (kf 301 [] [zp b1,zp b2]) (fun x=>(k x).bind g) from
   ⟨301,[],[zp b1,zp b2],EZ,rfl,fun m hm x w' hs hz=>zP (ih m hm) (fun b hb=>q9 (hFb b hb) hz) (fun b h=>.inl (s1 b h)) (fun b h=>.inl (s2 b h)) hdj m1 (hs.at_ (.inr (.inl rfl)) h1) m2 (hs.at_ (.inr (.inr rfl)) h2)
    (hk.mono O (fun b h=>h) ((I8.below hB I4).trans (hs.sub (fun b h=>.inl (s1 b h)))) (Nat.le_trans hB.size hz)) (hf.mono O (fun b h=>h) ((I8.below hB JZ).trans (hs.sub (fun b h=>.inl (s2 b h)))) (Nat.le_trans hB.size hz)) x⟩)) rfl jd rfl ?_
  rintro _ w4 ⟨v,rfl,hb,hr⟩;refine ⟨_,rfl,fun fr r=>?_⟩
  have z4:=hb.size;have n3:¬ (fun b=>F b\/b=b1\/b=b2) b3:=by rintro (h | h | h); (have:=hF _ h; omega); omega; omega
  have h3:=bc hb h3 n3;have hC:Jd F w0 w4:=(Jd.aS hB).bn hb yau
  refine kP r hr.shape rfl rfl h3 Ju rfl rfl fun w5 u5 r=>r9 ?_;have z5:=u5.size
  have h3:=u5.at_;have hC:=hC.bm u5 (.inl O)
  refine q4 ?_;have hs:=hr.shape.cells;refine ak r rfl rfl h3 (k:=8) hs.1 Jt ?_;rw [<-hs.2.2];exact av.fin hC hr u5 yaf n3 O O O
theorem sR {n:Nat} {F F1 F2:Nat->Prop} {w0:World} (hF:∀ b,F b->b<w0.heap.size) (s1:∀ b,F1 b->F b) (s2:∀ b,F2 b->F b) (hdj:∀ b,F1 b->¬ F2 b) {t:T (Unit)} {pv fv:Value} {g:Unit->T (IM)} (hp:IK B0 aD n t F1 w0 pv) (hf:K1 B0 aA noneE (n+1) F2 w0 fv g) :
  Calls B0 228 #[pv,fv] w0 (av B0 aA n (t.bind g) F w0):=zG n hF s1 s2 hdj hp (hf.mono O (fun b h=>h) (I8.refl _ _) (Nat.le_refl _)) (.inr hf)
def sP (n:Nat):Prop:=∀ {F F1 F2:Nat->Prop} {w0:World},(∀ b,F b->b<w0.heap.size)->(∀ b,F1 b->F b)->(∀ b,F2 b->F b)->(∀ b,F1 b->¬ F2 b)->∀ {t:T (Unit)} {pv fv:Value} {g:Unit->T (Walk)},IK B0 aD n t F1 w0 pv->K1 B0 aK noneE n F2 w0 fv g->
  (t.bC=false\/K1 B0 aK noneE (n+1) F2 w0 fv g)->Calls B0 363 #[pv,fv] w0 (av B0 aK n (t.bind g) F w0)
theorem zx {n:Nat} (ih:sP n) {F F1 F2:Nat->Prop} {w0:World} (hF:∀ b,F b->b<w0.heap.size) (s1:∀ b,F1 b->F b) (s2:∀ b,F2 b->F b) (hdj:∀ b,F1 b->¬ F2 b) {op at_ a b:Int} {nf:FuncId} {n1 n2:List Value} {k:Int->T (Unit)} {ff:FuncId} {f1 f2:List Value} {g:Unit->T (Walk)}
    {b1 b2:Nat} (m1:¬ F1 b1) (h1:w0.heap[b1]?=some (.cells (aC false aD.zero op at_ a b (kf nf n1 n2)) 133 (0,0))) (m2:¬ F1 b2) (h2:w0.heap[b2]?=some (.cells #[kf ff f1 f2] 326 (0,0)))
    (hk:K1 B0 aD u64 (n+1) F1 w0 (kf nf n1 n2) k) (hg:K1 B0 aK noneE (n+1) F2 w0 (kf ff f1 f2) g) (x:Int) :
    Calls B0 387 #[.int .u64 x,zp b1,zp b2] w0 (av B0 aK n ((k x).bind g) F w0):=by
 refine kN Tryz.func387 rfl 11 rfl rfl fun fr r hB=>?_;have I4:∀ b,F1 b->b<w0.heap.size:=fun b h=>hF b (s1 b h)
 have JZ:∀ b,F2 b->b<w0.heap.size:=fun b h=>hF b (s2 b h)
 refine d9 (q6 ?_);refine ah (.cells (kq aK) 224 (0,0)) r (fun R=>ag cB) rfl fun fr b3 w1 q1 r=>wn ?_;have h1:=keep q1.below h1
 have h2:=keep q1.below h2;have e3:=q1.eq;have z1:=q1.size;have h3:=q1.at_;have hB:=hB.trans (q1.below.mono hB.size);have zB:=hB.size;have hk1:=hk.mono (Nat.le_refl _) (fun b h=>h) (I8.below hB I4) hB.size
 have KL:∀ b,F1 b->b<w1.heap.size:=fun b h=>q9 (I4 b h) zB
 refine d9 ?_;refine iT 5 F1 [.val (.pointer (some ⟨b1,5,none⟩)),.val (kf nf n1 n2),.val (U x),.eff (StepE B0 aD n (k x) F1) (StepE.st KL),.val (kf ff f1 f2)] mixed r KL kz ?_ ?_
 ·
  refine cK r rfl (fun I2 g w' hk' hd r'=>?_) ?_
  · exact az r' (b:=b1) (o:=0) (k:=5) rfl lY bz
  refine cK r rfl (fun I2 g w' hk' hd r'=>?_) ?_
  · exact ax r' (v:=kf nf n1 n2) (hd 0 rfl).1 (bc (drK hk') h1 m1) mi rfl bz
  refine cK r rfl (fun I2 g w' hk' hd r'=>?_) ?_
  · exact aw r' (v:=.int .u64 x) rfl bz
  refine iL r rfl kz (fun I2 g w' hb' hd r'=>?_) ?_
  ·
   have hb':Below w1.heap.size w1 w':=dr hb';refine dM r' (fs:=n1) (cs:=n2) (hd 1 rfl).1 (hd 2 rfl).1 hk1.at_.1 ((hk1.at_.2 n (Nat.lt_succ_self n) x w' (I8.below hb' KL) hb'.size).mono ?_);rintro _ w2 ⟨v,rfl,hb2,Jz⟩;exact ⟨v,rfl,hb2.kept,Jz⟩
  refine cK r rfl (fun I2 g w' hk' hd r'=>?_) ?_
  · exact ax r' (v:=kf ff f1 f2) rfl (bc (drK hk') h2 m2) yL rfl bz
  exact bU
 intro fr gg w2 hb Iz _ r;have hr:IK B0 aD n (k x) (fun b=>F1 b\/((gg 3).lo<=b/\b<(gg 3).hi)) w2 (gg 3).v:=(Iz 3 rfl).1
 have hrg:=(Iz 3 rfl).2;have r:=r.congr (sc ((Iz 4 rfl).1) rfl);have z2:=hb.size;have hr3:¬ F1 b3:=fun h=>by have:=I4 _ h; omega
 have h3:=bc hb h3 hr3;have hC:Jd F w0 w2:=(Jd.aS hB).bn hb fun b _ h=>s1 b h
 have zB2:=hC.size;have hS2:I8 F2 w0 w2:=fun b h=>(hb.block b (q9 (JZ b h) zB) fun h'=>hdj b h' h).trans (hB.block b (JZ b h))
 have hFb:∀ b,(kW F w0 w2 b3) b->b<w2.heap.size:=by rintro b (h | h); exact q9 (hF b h) zB2; exact h.2.1
 refine kC r (ih (F:=fun b=>F b\/(w0.heap.size<=b/\b<w2.heap.size/\b≠b3)) (F1:=fun b=>F1 b\/((gg 3).lo<=b/\b<(gg 3).hi)) (F2:=F2) hFb yap (fun b h=>.inl (s2 b h))
  yaq hr (hg.mono O (fun b h=>h) hS2 zB2) (.inr (hg.mono (Nat.le_refl _) (fun b h=>h) hS2 zB2))) rfl xJ rfl ?_
 rintro _ w3 ⟨v2,rfl,hb2,Jz⟩;refine ⟨_,rfl,fun fr r=>?_⟩
 have z3:=hb2.size;have hF3:¬ (kW F w0 w2 b3) b3:=by rintro (h | ⟨_,_,h⟩); (have:=hF _ h; omega); exact h rfl
 have h3:=bc hb2 h3 hF3;have hC:=hC.bn hb2 yad
 refine kP r Jz.shape rfl rfl h3 cd rfl rfl fun w4 u4 r=>wn ?_;have z4:=u4.size
 have h3:=u4.at_;have hC:=hC.bm u4 (.inl O)
 refine q4 ?_;have hs:=Jz.shape.cells;refine ak r rfl rfl h3 (k:=20) hs.1 ce ?_;rw [<-hs.2.2];exact av.fin hC Jz u4 yac hF3 O O O
theorem zA (n:Nat):sP n:=by
 induction n using Nat.strongRecOn with
 | _ n ih=>
 intro F F1 F2 w0 hF s1 s2 hdj t pv fv g hp hf hd;obtain ⟨ff,f1,f2,hcf,rfl,hff⟩:=id hf;have I4:∀ b,F1 b->b<w0.heap.size:=fun b h=>hF b (s1 b h)
 have JZ:∀ b,F2 b->b<w0.heap.size:=fun b h=>hF b (s2 b h)
 cases t with
 | cut=>unfold IK at hp; exact hp.elim
 | done x0=>
  have hf:=hd.resolve_left yaA
  unfold IK at hp
  subst hp;refine enter (l:=[.agg (aC true (aD.cells x0) 0 0 0 0 .nilFunc),kf ff f1 f2]) Tryz.func363 rfl 15 rfl rfl fun fr r=>?_;have hB:=Below.refl w0.heap.size w0
  refine d9 (q6 ?_);refine kX 133 (.agg (aC true (aD.cells x0) 0 0 0 0 .nilFunc)) r rfl rfl fun b1 w1 q1 r=>?_;refine kX 326 (kf ff f1 f2) r rfl rfl fun b2 w2 q2 r=>?_
  refine ah (.cells (kq aK) 224 (0,0)) r (fun R=>ag cB) rfl fun fr b3 w3 q3 r=>r9 ?_;have h1:=keep q3.below (keep q2.below q1.at_)
  have h2:=keep q3.below q2.at_;have h3:=q3.at_;have e1:=q1.eq; have e2:=q2.eq; have e3:=q3.eq; have z1:=q1.size; have z2:=q2.size; have z3:=q3.size;have hB:=((hB.trans q1.below).trans (q2.below.mono O)).trans (q3.below.mono O)
  have zB:=hB.size;refine d9 (d9 (q6 (aa (zp b1) r (fun R=>az r (o:=0) rfl eX) rfl fun fr r=>?_)));refine aa (.bool true) r (fun R=>ax r (v:=.bool true) rfl h1 to4 rfl) rfl fun fr r=>r9 ?_
  refine q5 (t:=true) (r.ev rfl) (fun _=>?_) (fun h=>by cases h)
  refine d9 (q6 (aa (kf ff f1 f2) r (fun R=>ax r (v:=kf ff f1 f2) rfl h2 yL rfl) rfl fun fr r=>?_));refine oD b1 1 r (fun R=>lD r rfl mq h1) rfl fun fr sp r=>aa (.agg #[]) r (fun R=>lJ r rfl jc) rfl fun fr r=>?_
  refine cS r (hf.at_.2 n (Nat.lt_succ_self n) x0 w3 (I8.below hB JZ) hB.size) (fun R hc=>eu r rfl rfl hf.at_.1 hc) rfl ?_;rintro _ w4 ⟨v,rfl,hb,hr⟩
  refine ⟨_,rfl,fun fr r=>?_⟩
  have z4:=hb.size;have n3:¬ F2 b3:=fun h=>by have:=JZ _ h; omega
  have h3:=bc hb h3 n3;have hC:Jd F w0 w4:=(Jd.aS hB).bn hb fun b _ h=>s2 b h
  refine kP r hr.shape rfl rfl h3 cd rfl rfl fun w5 u5 r=>r9 ?_;have z5:=u5.size
  have h3:=u5.at_;have hC:=hC.bm u5 (.inl O)
  refine q4 ?_;have hs:=hr.shape.cells;refine ak r rfl rfl h3 (k:=20) hs.1 ce ?_;rw [<-hs.2.2];exact av.fin hC hr u5 (fun b hb=>.inl (s2 b hb)) n3 O O O
 | act op at_ a b k=>
  obtain ⟨nf,n1,n2,hcn,rfl,hk⟩:∃ (nf:FuncId) (n1 n2:List Value),af B0 nf=true/\pv=.agg (aC false aD.zero op at_ a b (kf nf n1 n2))/\K1 B0 aD u64 n F1 w0 (kf nf n1 n2) k:=by
   exact IK.dD hp
  refine enter (l:=[.agg (aC false aD.zero op at_ a b (kf nf n1 n2)),kf ff f1 f2]) Tryz.func363 rfl 15 rfl rfl fun fr r=>?_;have hB:=Below.refl w0.heap.size w0
  refine d9 (q6 ?_);refine kX 133 (.agg (aC false aD.zero op at_ a b (kf nf n1 n2))) r rfl rfl fun b1 w1 q1 r=>?_;refine kX 326 (kf ff f1 f2) r rfl rfl fun b2 w2 q2 r=>?_
  refine ah (.cells (kq aK) 224 (0,0)) r (fun R=>ag cB) rfl fun fr b3 w3 q3 r=>r9 ?_;have h1:=keep q3.below (keep q2.below q1.at_)
  have h2:=keep q3.below q2.at_;have h3:=q3.at_;have e1:=q1.eq; have e2:=q2.eq; have e3:=q3.eq; have z1:=q1.size; have z2:=q2.size; have z3:=q3.size;have hB:=((hB.trans q1.below).trans (q2.below.mono O)).trans (q3.below.mono O)
  have zB:=hB.size;refine d9 (d9 (q6 (aa (zp b1) r (fun R=>az r (o:=0) rfl eX) rfl fun fr r=>?_)));refine aa (.bool false) r (fun R=>ax r (v:=.bool false) rfl h1 to4 rfl) rfl fun fr r=>r9 ?_
  refine q5 (t:=false) (r.ev rfl) (fun h=>by cases h) (fun _=>q7 ?_);refine d9 (q6 (aa (.pointer (some ⟨b1,1,none⟩)) r (fun R=>az r (o:=0) rfl lZ) rfl fun fr r=>kG (bh (⟨op,at_,a,b⟩:Access)) 4 r rfl h1 KX rfl rfl fun r=>aa (.func (.func 387) #[] #[zp b1,zp b2]) r (fun R=>aZ r rfl) rfl fun fr r=>?_))
  have hFb:∀ b,(fun b=>F b\/b=b1\/b=b2) b->b<w3.heap.size:=by rintro b (h | h | h); exact q9 (hF b h) hB.size; omega; omega
  have m1:¬ F1 b1:=fun h=>by have:=I4 _ h; omega
  have m2:¬ F1 b2:=fun h=>by have:=I4 _ h; omega
  refine kC r (li (F:=fun b=>F b\/b=b1\/b=b2) (n:=n) hFb ⟨op,at_,a,b⟩ (a1:=fun x=>(k x).bind g) (show K1 B0 aK u64 n (fun b=>F b\/b=b1\/b=b2) w3 (kf 387 [] [zp b1,zp b2]) (fun x=>(k x).bind g) from
   ⟨387,[],[zp b1,zp b2],FN,rfl,fun m hm x w' hs hz=>zx (ih m hm) (fun b hb=>q9 (hFb b hb) hz) (fun b h=>.inl (s1 b h)) (fun b h=>.inl (s2 b h)) hdj m1 (hs.at_ (.inr (.inl rfl)) h1) m2 (hs.at_ (.inr (.inr rfl)) h2)
    (hk.mono O (fun b h=>h) ((I8.below hB I4).trans (hs.sub (fun b h=>.inl (s1 b h)))) (Nat.le_trans hB.size hz)) (hf.mono O (fun b h=>h) ((I8.below hB JZ).trans (hs.sub (fun b h=>.inl (s2 b h)))) (Nat.le_trans hB.size hz)) x⟩)) rfl mA rfl ?_
  rintro _ w4 ⟨v,rfl,hb,hr⟩;refine ⟨_,rfl,fun fr r=>?_⟩
  have z4:=hb.size;have n3:¬ (fun b=>F b\/b=b1\/b=b2) b3:=by rintro (h | h | h); (have:=hF _ h; omega); omega; omega
  have h3:=bc hb h3 n3;have hC:Jd F w0 w4:=(Jd.aS hB).bn hb yau
  refine kP r hr.shape rfl rfl h3 cd rfl rfl fun w5 u5 r=>r9 ?_;have z5:=u5.size
  have h3:=u5.at_;have hC:=hC.bm u5 (.inl O)
  refine q4 ?_;have hs:=hr.shape.cells;refine ak r rfl rfl h3 (k:=20) hs.1 ce ?_;rw [<-hs.2.2];exact av.fin hC hr u5 yaf n3 O O O
theorem yZ {n:Nat} {F F1 F2:Nat->Prop} {w0:World} (hF:∀ b,F b->b<w0.heap.size) (s1:∀ b,F1 b->F b) (s2:∀ b,F2 b->F b) (hdj:∀ b,F1 b->¬ F2 b) {t:T (Unit)} {pv fv:Value} {g:Unit->T (Walk)} (hp:IK B0 aD n t F1 w0 pv) (hf:K1 B0 aK noneE n F2 w0 fv g) (hd:t.bC=false) :
  Calls B0 363 #[pv,fv] w0 (av B0 aK n (t.bind g) F w0):=zA n hF s1 s2 hdj hp hf (.inl hd)
def tj (n:Nat):Prop:=∀ {F F1 F2:Nat->Prop} {w0:World},(∀ b,F b->b<w0.heap.size)->(∀ b,F1 b->F b)->(∀ b,F2 b->F b)->(∀ b,F1 b->¬ F2 b)->∀ {t:T (Int)} {pv fv:Value} {g:Int->T (IM)},IK B0 aj n t F1 w0 pv->K1 B0 aA i64 n F2 w0 fv g->
  (t.bC=false\/K1 B0 aA i64 (n+1) F2 w0 fv g)->Calls B0 140 #[pv,fv] w0 (av B0 aA n (t.bind g) F w0)
theorem zW {n:Nat} (ih:tj n) {F F1 F2:Nat->Prop} {w0:World} (hF:∀ b,F b->b<w0.heap.size) (s1:∀ b,F1 b->F b) (s2:∀ b,F2 b->F b) (hdj:∀ b,F1 b->¬ F2 b) {op at_ a b:Int} {nf:FuncId} {n1 n2:List Value} {k:Int->T (Int)} {ff:FuncId} {f1 f2:List Value} {g:Int->T (IM)}
    {b1 b2:Nat} (m1:¬ F1 b1) (h1:w0.heap[b1]?=some (.cells (aC false aj.zero op at_ a b (kf nf n1 n2)) 119 (0,0))) (m2:¬ F1 b2) (h2:w0.heap[b2]?=some (.cells #[kf ff f1 f2] 213 (0,0)))
    (hk:K1 B0 aj u64 (n+1) F1 w0 (kf nf n1 n2) k) (hg:K1 B0 aA i64 (n+1) F2 w0 (kf ff f1 f2) g) (x:Int) :
    Calls B0 220 #[.int .u64 x,zp b1,zp b2] w0 (av B0 aA n ((k x).bind g) F w0):=by
 refine kN Tryz.func220 rfl 11 rfl rfl fun fr r hB=>?_;have I4:∀ b,F1 b->b<w0.heap.size:=fun b h=>hF b (s1 b h)
 have JZ:∀ b,F2 b->b<w0.heap.size:=fun b h=>hF b (s2 b h)
 refine d9 (q6 ?_);refine ah (.cells (kq aA) 41 (0,0)) r (fun R=>ag JD) rfl fun fr b3 w1 q1 r=>wn ?_;have h1:=keep q1.below h1
 have h2:=keep q1.below h2;have e3:=q1.eq;have z1:=q1.size;have h3:=q1.at_;have hB:=hB.trans (q1.below.mono hB.size);have zB:=hB.size;have hk1:=hk.mono (Nat.le_refl _) (fun b h=>h) (I8.below hB I4) hB.size
 have KL:∀ b,F1 b->b<w1.heap.size:=fun b h=>q9 (I4 b h) zB
 refine d9 ?_;refine iT 5 F1 [.val (.pointer (some ⟨b1,6,none⟩)),.val (kf nf n1 n2),.val (U x),.eff (StepE B0 aj n (k x) F1) (StepE.st KL),.val (kf ff f1 f2)] mixed r KL kz ?_ ?_
 ·
  refine cK r rfl (fun I2 g w' hk' hd r'=>?_) ?_
  · exact az r' (b:=b1) (o:=0) (k:=6) rfl oQ bz
  refine cK r rfl (fun I2 g w' hk' hd r'=>?_) ?_
  · exact ax r' (v:=kf nf n1 n2) (hd 0 rfl).1 (bc (drK hk') h1 m1) pd rfl bz
  refine cK r rfl (fun I2 g w' hk' hd r'=>?_) ?_
  · exact aw r' (v:=.int .u64 x) rfl bz
  refine iL r rfl kz (fun I2 g w' hb' hd r'=>?_) ?_
  ·
   have hb':Below w1.heap.size w1 w':=dr hb';refine dM r' (fs:=n1) (cs:=n2) (hd 1 rfl).1 (hd 2 rfl).1 hk1.at_.1 ((hk1.at_.2 n (Nat.lt_succ_self n) x w' (I8.below hb' KL) hb'.size).mono ?_);rintro _ w2 ⟨v,rfl,hb2,Jz⟩;exact ⟨v,rfl,hb2.kept,Jz⟩
  refine cK r rfl (fun I2 g w' hk' hd r'=>?_) ?_
  · exact ax r' (v:=kf ff f1 f2) rfl (bc (drK hk') h2 m2) yH rfl bz
  exact bU
 intro fr gg w2 hb Iz _ r;have hr:IK B0 aj n (k x) (fun b=>F1 b\/((gg 3).lo<=b/\b<(gg 3).hi)) w2 (gg 3).v:=(Iz 3 rfl).1
 have hrg:=(Iz 3 rfl).2;have r:=r.congr (sc ((Iz 4 rfl).1) rfl);have z2:=hb.size;have hr3:¬ F1 b3:=fun h=>by have:=I4 _ h; omega
 have h3:=bc hb h3 hr3;have hC:Jd F w0 w2:=(Jd.aS hB).bn hb fun b _ h=>s1 b h
 have zB2:=hC.size;have hS2:I8 F2 w0 w2:=fun b h=>(hb.block b (q9 (JZ b h) zB) fun h'=>hdj b h' h).trans (hB.block b (JZ b h))
 have hFb:∀ b,(kW F w0 w2 b3) b->b<w2.heap.size:=by rintro b (h | h); exact q9 (hF b h) zB2; exact h.2.1
 refine kC r (ih (F:=fun b=>F b\/(w0.heap.size<=b/\b<w2.heap.size/\b≠b3)) (F1:=fun b=>F1 b\/((gg 3).lo<=b/\b<(gg 3).hi)) (F2:=F2) hFb yap (fun b h=>.inl (s2 b h))
  yaq hr (hg.mono O (fun b h=>h) hS2 zB2) (.inr (hg.mono (Nat.le_refl _) (fun b h=>h) hS2 zB2))) rfl rY rfl ?_
 rintro _ w3 ⟨v2,rfl,hb2,Jz⟩;refine ⟨_,rfl,fun fr r=>?_⟩
 have z3:=hb2.size;have hF3:¬ (kW F w0 w2 b3) b3:=by rintro (h | ⟨_,_,h⟩); (have:=hF _ h; omega); exact h rfl
 have h3:=bc hb2 h3 hF3;have hC:=hC.bn hb2 yad
 refine kP r Jz.shape rfl rfl h3 Ju rfl rfl fun w4 u4 r=>wn ?_;have z4:=u4.size
 have h3:=u4.at_;have hC:=hC.bm u4 (.inl O)
 refine q4 ?_;have hs:=Jz.shape.cells;refine ak r rfl rfl h3 (k:=8) hs.1 Jt ?_;rw [<-hs.2.2];exact av.fin hC Jz u4 yac hF3 O O O
theorem zT (n:Nat):tj n:=by
 induction n using Nat.strongRecOn with
 | _ n ih=>
 intro F F1 F2 w0 hF s1 s2 hdj t pv fv g hp hf hd;obtain ⟨ff,f1,f2,hcf,rfl,hff⟩:=id hf;have I4:∀ b,F1 b->b<w0.heap.size:=fun b h=>hF b (s1 b h)
 have JZ:∀ b,F2 b->b<w0.heap.size:=fun b h=>hF b (s2 b h)
 cases t with
 | cut=>unfold IK at hp; exact hp.elim
 | done x0=>
  have hf:=hd.resolve_left yaA
  unfold IK at hp
  subst hp;refine enter (l:=[.agg (aC true (aj.cells x0) 0 0 0 0 .nilFunc),kf ff f1 f2]) Tryz.func140 rfl 15 rfl rfl fun fr r=>?_;have hB:=Below.refl w0.heap.size w0
  refine d9 (q6 ?_);refine kX 119 (.agg (aC true (aj.cells x0) 0 0 0 0 .nilFunc)) r rfl rfl fun b1 w1 q1 r=>?_;refine kX 213 (kf ff f1 f2) r rfl rfl fun b2 w2 q2 r=>?_
  refine ah (.cells (kq aA) 41 (0,0)) r (fun R=>ag JD) rfl fun fr b3 w3 q3 r=>r9 ?_;have h1:=keep q3.below (keep q2.below q1.at_)
  have h2:=keep q3.below q2.at_;have h3:=q3.at_;have e1:=q1.eq; have e2:=q2.eq; have e3:=q3.eq; have z1:=q1.size; have z2:=q2.size; have z3:=q3.size;have hB:=((hB.trans q1.below).trans (q2.below.mono O)).trans (q3.below.mono O)
  have zB:=hB.size;refine d9 (d9 (q6 (aa (zp b1) r (fun R=>az r (o:=0) rfl ij) rfl fun fr r=>?_)));refine aa (.bool true) r (fun R=>ax r (v:=.bool true) rfl h1 to4 rfl) rfl fun fr r=>r9 ?_
  refine q5 (t:=true) (r.ev rfl) (fun _=>?_) (fun h=>by cases h)
  refine d9 (q6 (aa (kf ff f1 f2) r (fun R=>ax r (v:=kf ff f1 f2) rfl h2 yH rfl) rfl fun fr r=>aa (.pointer (some ⟨b1,1,none⟩)) r (fun R=>az r (o:=0) rfl oT) rfl fun fr r=>aa (.int .i64 x0) r (fun R=>ax r (v:=(.int .i64 x0)) rfl h1 IL rfl) rfl fun fr r=>?_));refine cS r (hf.at_.2 n (Nat.lt_succ_self n) x0 w3 (I8.below hB JZ) hB.size) (fun R hc=>eu r rfl rfl hf.at_.1 hc) rfl ?_
  rintro _ w4 ⟨v,rfl,hb,hr⟩;refine ⟨_,rfl,fun fr r=>?_⟩
  have z4:=hb.size;have n3:¬ F2 b3:=fun h=>by have:=JZ _ h; omega
  have h3:=bc hb h3 n3;have hC:Jd F w0 w4:=(Jd.aS hB).bn hb fun b _ h=>s2 b h
  refine kP r hr.shape rfl rfl h3 Ju rfl rfl fun w5 u5 r=>r9 ?_;have z5:=u5.size
  have h3:=u5.at_;have hC:=hC.bm u5 (.inl O)
  refine q4 ?_;have hs:=hr.shape.cells;refine ak r rfl rfl h3 (k:=8) hs.1 Jt ?_;rw [<-hs.2.2];exact av.fin hC hr u5 (fun b hb=>.inl (s2 b hb)) n3 O O O
 | act op at_ a b k=>
  obtain ⟨nf,n1,n2,hcn,rfl,hk⟩:∃ (nf:FuncId) (n1 n2:List Value),af B0 nf=true/\pv=.agg (aC false aj.zero op at_ a b (kf nf n1 n2))/\K1 B0 aj u64 n F1 w0 (kf nf n1 n2) k:=by
   exact IK.dD hp
  refine enter (l:=[.agg (aC false aj.zero op at_ a b (kf nf n1 n2)),kf ff f1 f2]) Tryz.func140 rfl 15 rfl rfl fun fr r=>?_;have hB:=Below.refl w0.heap.size w0
  refine d9 (q6 ?_);refine kX 119 (.agg (aC false aj.zero op at_ a b (kf nf n1 n2))) r rfl rfl fun b1 w1 q1 r=>?_;refine kX 213 (kf ff f1 f2) r rfl rfl fun b2 w2 q2 r=>?_
  refine ah (.cells (kq aA) 41 (0,0)) r (fun R=>ag JD) rfl fun fr b3 w3 q3 r=>r9 ?_;have h1:=keep q3.below (keep q2.below q1.at_)
  have h2:=keep q3.below q2.at_;have h3:=q3.at_;have e1:=q1.eq; have e2:=q2.eq; have e3:=q3.eq; have z1:=q1.size; have z2:=q2.size; have z3:=q3.size;have hB:=((hB.trans q1.below).trans (q2.below.mono O)).trans (q3.below.mono O)
  have zB:=hB.size;refine d9 (d9 (q6 (aa (zp b1) r (fun R=>az r (o:=0) rfl ij) rfl fun fr r=>?_)));refine aa (.bool false) r (fun R=>ax r (v:=.bool false) rfl h1 to4 rfl) rfl fun fr r=>r9 ?_
  refine q5 (t:=false) (r.ev rfl) (fun h=>by cases h) (fun _=>q7 ?_);refine d9 (q6 (aa (.pointer (some ⟨b1,2,none⟩)) r (fun R=>az r (o:=0) rfl oV) rfl fun fr r=>kG (bh (⟨op,at_,a,b⟩:Access)) 4 r rfl h1 KX rfl rfl fun r=>aa (.func (.func 220) #[] #[zp b1,zp b2]) r (fun R=>aZ r rfl) rfl fun fr r=>?_))
  have hFb:∀ b,(fun b=>F b\/b=b1\/b=b2) b->b<w3.heap.size:=by rintro b (h | h | h); exact q9 (hF b h) hB.size; omega; omega
  have m1:¬ F1 b1:=fun h=>by have:=I4 _ h; omega
  have m2:¬ F1 b2:=fun h=>by have:=I4 _ h; omega
  refine kC r (iJ (F:=fun b=>F b\/b=b1\/b=b2) (n:=n) hFb ⟨op,at_,a,b⟩ (a1:=fun x=>(k x).bind g) (show K1 B0 aA u64 n (fun b=>F b\/b=b1\/b=b2) w3 (kf 220 [] [zp b1,zp b2]) (fun x=>(k x).bind g) from
   ⟨220,[],[zp b1,zp b2],Fb,rfl,fun m hm x w' hs hz=>zW (ih m hm) (fun b hb=>q9 (hFb b hb) hz) (fun b h=>.inl (s1 b h)) (fun b h=>.inl (s2 b h)) hdj m1 (hs.at_ (.inr (.inl rfl)) h1) m2 (hs.at_ (.inr (.inr rfl)) h2)
    (hk.mono O (fun b h=>h) ((I8.below hB I4).trans (hs.sub (fun b h=>.inl (s1 b h)))) (Nat.le_trans hB.size hz)) (hf.mono O (fun b h=>h) ((I8.below hB JZ).trans (hs.sub (fun b h=>.inl (s2 b h)))) (Nat.le_trans hB.size hz)) x⟩)) rfl jd rfl ?_
  rintro _ w4 ⟨v,rfl,hb,hr⟩;refine ⟨_,rfl,fun fr r=>?_⟩
  have z4:=hb.size;have n3:¬ (fun b=>F b\/b=b1\/b=b2) b3:=by rintro (h | h | h); (have:=hF _ h; omega); omega; omega
  have h3:=bc hb h3 n3;have hC:Jd F w0 w4:=(Jd.aS hB).bn hb yau
  refine kP r hr.shape rfl rfl h3 Ju rfl rfl fun w5 u5 r=>r9 ?_;have z5:=u5.size
  have h3:=u5.at_;have hC:=hC.bm u5 (.inl O)
  refine q4 ?_;have hs:=hr.shape.cells;refine ak r rfl rfl h3 (k:=8) hs.1 Jt ?_;rw [<-hs.2.2];exact av.fin hC hr u5 yaf n3 O O O
theorem tk {n:Nat} {F F1 F2:Nat->Prop} {w0:World} (hF:∀ b,F b->b<w0.heap.size) (s1:∀ b,F1 b->F b) (s2:∀ b,F2 b->F b) (hdj:∀ b,F1 b->¬ F2 b) {t:T (Int)} {pv fv:Value} {g:Int->T (IM)} (hp:IK B0 aj n t F1 w0 pv) (hf:K1 B0 aA i64 (n+1) F2 w0 fv g) :
  Calls B0 140 #[pv,fv] w0 (av B0 aA n (t.bind g) F w0):=zT n hF s1 s2 hdj hp (hf.mono O (fun b h=>h) (I8.refl _ _) (Nat.le_refl _)) (.inr hf)
def sT (n:Nat):Prop:=∀ {F F1 F2:Nat->Prop} {w0:World},(∀ b,F b->b<w0.heap.size)->(∀ b,F1 b->F b)->(∀ b,F2 b->F b)->(∀ b,F1 b->¬ F2 b)->∀ {t:T (Int)} {pv fv:Value} {g:Int->T (Walk)},IK B0 aj n t F1 w0 pv->K1 B0 aK i64 n F2 w0 fv g->
  (t.bC=false\/K1 B0 aK i64 (n+1) F2 w0 fv g)->Calls B0 390 #[pv,fv] w0 (av B0 aK n (t.bind g) F w0)
theorem zN {n:Nat} (ih:sT n) {F F1 F2:Nat->Prop} {w0:World} (hF:∀ b,F b->b<w0.heap.size) (s1:∀ b,F1 b->F b) (s2:∀ b,F2 b->F b) (hdj:∀ b,F1 b->¬ F2 b) {op at_ a b:Int} {nf:FuncId} {n1 n2:List Value} {k:Int->T (Int)} {ff:FuncId} {f1 f2:List Value} {g:Int->T (Walk)}
    {b1 b2:Nat} (m1:¬ F1 b1) (h1:w0.heap[b1]?=some (.cells (aC false aj.zero op at_ a b (kf nf n1 n2)) 119 (0,0))) (m2:¬ F1 b2) (h2:w0.heap[b2]?=some (.cells #[kf ff f1 f2] 306 (0,0)))
    (hk:K1 B0 aj u64 (n+1) F1 w0 (kf nf n1 n2) k) (hg:K1 B0 aK i64 (n+1) F2 w0 (kf ff f1 f2) g) (x:Int) :
    Calls B0 399 #[.int .u64 x,zp b1,zp b2] w0 (av B0 aK n ((k x).bind g) F w0):=by
 refine kN Tryz.func399 rfl 11 rfl rfl fun fr r hB=>?_;have I4:∀ b,F1 b->b<w0.heap.size:=fun b h=>hF b (s1 b h)
 have JZ:∀ b,F2 b->b<w0.heap.size:=fun b h=>hF b (s2 b h)
 refine d9 (q6 ?_);refine ah (.cells (kq aK) 224 (0,0)) r (fun R=>ag cB) rfl fun fr b3 w1 q1 r=>wn ?_;have h1:=keep q1.below h1
 have h2:=keep q1.below h2;have e3:=q1.eq;have z1:=q1.size;have h3:=q1.at_;have hB:=hB.trans (q1.below.mono hB.size);have zB:=hB.size;have hk1:=hk.mono (Nat.le_refl _) (fun b h=>h) (I8.below hB I4) hB.size
 have KL:∀ b,F1 b->b<w1.heap.size:=fun b h=>q9 (I4 b h) zB
 refine d9 ?_;refine iT 5 F1 [.val (.pointer (some ⟨b1,6,none⟩)),.val (kf nf n1 n2),.val (U x),.eff (StepE B0 aj n (k x) F1) (StepE.st KL),.val (kf ff f1 f2)] mixed r KL kz ?_ ?_
 ·
  refine cK r rfl (fun I2 g w' hk' hd r'=>?_) ?_
  · exact az r' (b:=b1) (o:=0) (k:=6) rfl oQ bz
  refine cK r rfl (fun I2 g w' hk' hd r'=>?_) ?_
  · exact ax r' (v:=kf nf n1 n2) (hd 0 rfl).1 (bc (drK hk') h1 m1) pd rfl bz
  refine cK r rfl (fun I2 g w' hk' hd r'=>?_) ?_
  · exact aw r' (v:=.int .u64 x) rfl bz
  refine iL r rfl kz (fun I2 g w' hb' hd r'=>?_) ?_
  ·
   have hb':Below w1.heap.size w1 w':=dr hb';refine dM r' (fs:=n1) (cs:=n2) (hd 1 rfl).1 (hd 2 rfl).1 hk1.at_.1 ((hk1.at_.2 n (Nat.lt_succ_self n) x w' (I8.below hb' KL) hb'.size).mono ?_);rintro _ w2 ⟨v,rfl,hb2,Jz⟩;exact ⟨v,rfl,hb2.kept,Jz⟩
  refine cK r rfl (fun I2 g w' hk' hd r'=>?_) ?_
  · exact ax r' (v:=kf ff f1 f2) rfl (bc (drK hk') h2 m2) yI rfl bz
  exact bU
 intro fr gg w2 hb Iz _ r;have hr:IK B0 aj n (k x) (fun b=>F1 b\/((gg 3).lo<=b/\b<(gg 3).hi)) w2 (gg 3).v:=(Iz 3 rfl).1
 have hrg:=(Iz 3 rfl).2;have r:=r.congr (sc ((Iz 4 rfl).1) rfl);have z2:=hb.size;have hr3:¬ F1 b3:=fun h=>by have:=I4 _ h; omega
 have h3:=bc hb h3 hr3;have hC:Jd F w0 w2:=(Jd.aS hB).bn hb fun b _ h=>s1 b h
 have zB2:=hC.size;have hS2:I8 F2 w0 w2:=fun b h=>(hb.block b (q9 (JZ b h) zB) fun h'=>hdj b h' h).trans (hB.block b (JZ b h))
 have hFb:∀ b,(kW F w0 w2 b3) b->b<w2.heap.size:=by rintro b (h | h); exact q9 (hF b h) zB2; exact h.2.1
 refine kC r (ih (F:=fun b=>F b\/(w0.heap.size<=b/\b<w2.heap.size/\b≠b3)) (F1:=fun b=>F1 b\/((gg 3).lo<=b/\b<(gg 3).hi)) (F2:=F2) hFb yap (fun b h=>.inl (s2 b h))
  yaq hr (hg.mono O (fun b h=>h) hS2 zB2) (.inr (hg.mono (Nat.le_refl _) (fun b h=>h) hS2 zB2))) rfl xG rfl ?_
 rintro _ w3 ⟨v2,rfl,hb2,Jz⟩;refine ⟨_,rfl,fun fr r=>?_⟩
 have z3:=hb2.size;have hF3:¬ (kW F w0 w2 b3) b3:=by rintro (h | ⟨_,_,h⟩); (have:=hF _ h; omega); exact h rfl
 have h3:=bc hb2 h3 hF3;have hC:=hC.bn hb2 yad
 refine kP r Jz.shape rfl rfl h3 cd rfl rfl fun w4 u4 r=>wn ?_;have z4:=u4.size
 have h3:=u4.at_;have hC:=hC.bm u4 (.inl O)
 refine q4 ?_;have hs:=Jz.shape.cells;refine ak r rfl rfl h3 (k:=20) hs.1 ce ?_;rw [<-hs.2.2];exact av.fin hC Jz u4 yac hF3 O O O
theorem zK (n:Nat):sT n:=by
 induction n using Nat.strongRecOn with
 | _ n ih=>
 intro F F1 F2 w0 hF s1 s2 hdj t pv fv g hp hf hd;obtain ⟨ff,f1,f2,hcf,rfl,hff⟩:=id hf;have I4:∀ b,F1 b->b<w0.heap.size:=fun b h=>hF b (s1 b h)
 have JZ:∀ b,F2 b->b<w0.heap.size:=fun b h=>hF b (s2 b h)
 cases t with
 | cut=>unfold IK at hp; exact hp.elim
 | done x0=>
  have hf:=hd.resolve_left yaA
  unfold IK at hp
  subst hp;refine enter (l:=[.agg (aC true (aj.cells x0) 0 0 0 0 .nilFunc),kf ff f1 f2]) Tryz.func390 rfl 15 rfl rfl fun fr r=>?_;have hB:=Below.refl w0.heap.size w0
  refine d9 (q6 ?_);refine kX 119 (.agg (aC true (aj.cells x0) 0 0 0 0 .nilFunc)) r rfl rfl fun b1 w1 q1 r=>?_;refine kX 306 (kf ff f1 f2) r rfl rfl fun b2 w2 q2 r=>?_
  refine ah (.cells (kq aK) 224 (0,0)) r (fun R=>ag cB) rfl fun fr b3 w3 q3 r=>r9 ?_;have h1:=keep q3.below (keep q2.below q1.at_)
  have h2:=keep q3.below q2.at_;have h3:=q3.at_;have e1:=q1.eq; have e2:=q2.eq; have e3:=q3.eq; have z1:=q1.size; have z2:=q2.size; have z3:=q3.size;have hB:=((hB.trans q1.below).trans (q2.below.mono O)).trans (q3.below.mono O)
  have zB:=hB.size;refine d9 (d9 (q6 (aa (zp b1) r (fun R=>az r (o:=0) rfl ij) rfl fun fr r=>?_)));refine aa (.bool true) r (fun R=>ax r (v:=.bool true) rfl h1 to4 rfl) rfl fun fr r=>r9 ?_
  refine q5 (t:=true) (r.ev rfl) (fun _=>?_) (fun h=>by cases h)
  refine d9 (q6 (aa (kf ff f1 f2) r (fun R=>ax r (v:=kf ff f1 f2) rfl h2 yI rfl) rfl fun fr r=>aa (.pointer (some ⟨b1,1,none⟩)) r (fun R=>az r (o:=0) rfl oT) rfl fun fr r=>aa (.int .i64 x0) r (fun R=>ax r (v:=(.int .i64 x0)) rfl h1 IL rfl) rfl fun fr r=>?_));refine cS r (hf.at_.2 n (Nat.lt_succ_self n) x0 w3 (I8.below hB JZ) hB.size) (fun R hc=>eu r rfl rfl hf.at_.1 hc) rfl ?_
  rintro _ w4 ⟨v,rfl,hb,hr⟩;refine ⟨_,rfl,fun fr r=>?_⟩
  have z4:=hb.size;have n3:¬ F2 b3:=fun h=>by have:=JZ _ h; omega
  have h3:=bc hb h3 n3;have hC:Jd F w0 w4:=(Jd.aS hB).bn hb fun b _ h=>s2 b h
  refine kP r hr.shape rfl rfl h3 cd rfl rfl fun w5 u5 r=>r9 ?_;have z5:=u5.size
  have h3:=u5.at_;have hC:=hC.bm u5 (.inl O)
  refine q4 ?_;have hs:=hr.shape.cells;refine ak r rfl rfl h3 (k:=20) hs.1 ce ?_;rw [<-hs.2.2];exact av.fin hC hr u5 (fun b hb=>.inl (s2 b hb)) n3 O O O
 | act op at_ a b k=>
  obtain ⟨nf,n1,n2,hcn,rfl,hk⟩:∃ (nf:FuncId) (n1 n2:List Value),af B0 nf=true/\pv=.agg (aC false aj.zero op at_ a b (kf nf n1 n2))/\K1 B0 aj u64 n F1 w0 (kf nf n1 n2) k:=by
   exact IK.dD hp
  refine enter (l:=[.agg (aC false aj.zero op at_ a b (kf nf n1 n2)),kf ff f1 f2]) Tryz.func390 rfl 15 rfl rfl fun fr r=>?_;have hB:=Below.refl w0.heap.size w0
  refine d9 (q6 ?_);refine kX 119 (.agg (aC false aj.zero op at_ a b (kf nf n1 n2))) r rfl rfl fun b1 w1 q1 r=>?_;refine kX 306 (kf ff f1 f2) r rfl rfl fun b2 w2 q2 r=>?_
  refine ah (.cells (kq aK) 224 (0,0)) r (fun R=>ag cB) rfl fun fr b3 w3 q3 r=>r9 ?_;have h1:=keep q3.below (keep q2.below q1.at_)
  have h2:=keep q3.below q2.at_;have h3:=q3.at_;have e1:=q1.eq; have e2:=q2.eq; have e3:=q3.eq; have z1:=q1.size; have z2:=q2.size; have z3:=q3.size;have hB:=((hB.trans q1.below).trans (q2.below.mono O)).trans (q3.below.mono O)
  have zB:=hB.size;refine d9 (d9 (q6 (aa (zp b1) r (fun R=>az r (o:=0) rfl ij) rfl fun fr r=>?_)));refine aa (.bool false) r (fun R=>ax r (v:=.bool false) rfl h1 to4 rfl) rfl fun fr r=>r9 ?_
  refine q5 (t:=false) (r.ev rfl) (fun h=>by cases h) (fun _=>q7 ?_);refine d9 (q6 (aa (.pointer (some ⟨b1,2,none⟩)) r (fun R=>az r (o:=0) rfl oV) rfl fun fr r=>kG (bh (⟨op,at_,a,b⟩:Access)) 4 r rfl h1 KX rfl rfl fun r=>aa (.func (.func 399) #[] #[zp b1,zp b2]) r (fun R=>aZ r rfl) rfl fun fr r=>?_))
  have hFb:∀ b,(fun b=>F b\/b=b1\/b=b2) b->b<w3.heap.size:=by rintro b (h | h | h); exact q9 (hF b h) hB.size; omega; omega
  have m1:¬ F1 b1:=fun h=>by have:=I4 _ h; omega
  have m2:¬ F1 b2:=fun h=>by have:=I4 _ h; omega
  refine kC r (li (F:=fun b=>F b\/b=b1\/b=b2) (n:=n) hFb ⟨op,at_,a,b⟩ (a1:=fun x=>(k x).bind g) (show K1 B0 aK u64 n (fun b=>F b\/b=b1\/b=b2) w3 (kf 399 [] [zp b1,zp b2]) (fun x=>(k x).bind g) from
   ⟨399,[],[zp b1,zp b2],FM,rfl,fun m hm x w' hs hz=>zN (ih m hm) (fun b hb=>q9 (hFb b hb) hz) (fun b h=>.inl (s1 b h)) (fun b h=>.inl (s2 b h)) hdj m1 (hs.at_ (.inr (.inl rfl)) h1) m2 (hs.at_ (.inr (.inr rfl)) h2)
    (hk.mono O (fun b h=>h) ((I8.below hB I4).trans (hs.sub (fun b h=>.inl (s1 b h)))) (Nat.le_trans hB.size hz)) (hf.mono O (fun b h=>h) ((I8.below hB JZ).trans (hs.sub (fun b h=>.inl (s2 b h)))) (Nat.le_trans hB.size hz)) x⟩)) rfl mA rfl ?_
  rintro _ w4 ⟨v,rfl,hb,hr⟩;refine ⟨_,rfl,fun fr r=>?_⟩
  have z4:=hb.size;have n3:¬ (fun b=>F b\/b=b1\/b=b2) b3:=by rintro (h | h | h); (have:=hF _ h; omega); omega; omega
  have h3:=bc hb h3 n3;have hC:Jd F w0 w4:=(Jd.aS hB).bn hb yau
  refine kP r hr.shape rfl rfl h3 cd rfl rfl fun w5 u5 r=>r9 ?_;have z5:=u5.size
  have h3:=u5.at_;have hC:=hC.bm u5 (.inl O)
  refine q4 ?_;have hs:=hr.shape.cells;refine ak r rfl rfl h3 (k:=20) hs.1 ce ?_;rw [<-hs.2.2];exact av.fin hC hr u5 yaf n3 O O O
theorem zh {n:Nat} {F F1 F2:Nat->Prop} {w0:World} (hF:∀ b,F b->b<w0.heap.size) (s1:∀ b,F1 b->F b) (s2:∀ b,F2 b->F b) (hdj:∀ b,F1 b->¬ F2 b) {t:T (Int)} {pv fv:Value} {g:Int->T (Walk)} (hp:IK B0 aj n t F1 w0 pv) (hf:K1 B0 aK i64 (n+1) F2 w0 fv g) :
  Calls B0 390 #[pv,fv] w0 (av B0 aK n (t.bind g) F w0):=zK n hF s1 s2 hdj hp (hf.mono O (fun b h=>h) (I8.refl _ _) (Nat.le_refl _)) (.inr hf)
def sN (n:Nat):Prop:=∀ {F F1 F2:Nat->Prop} {w0:World},(∀ b,F b->b<w0.heap.size)->(∀ b,F1 b->F b)->(∀ b,F2 b->F b)->(∀ b,F1 b->¬ F2 b)->∀ {t:T (Int)} {pv fv:Value} {g:Int->T (Walk)},IK B0 bK n t F1 w0 pv->K1 B0 aK u64 n F2 w0 fv g->
  (t.bC=false\/K1 B0 aK u64 (n+1) F2 w0 fv g)->Calls B0 246 #[pv,fv] w0 (av B0 aK n (t.bind g) F w0)
theorem zi {n:Nat} (ih:sN n) {F F1 F2:Nat->Prop} {w0:World} (hF:∀ b,F b->b<w0.heap.size) (s1:∀ b,F1 b->F b) (s2:∀ b,F2 b->F b) (hdj:∀ b,F1 b->¬ F2 b) {op at_ a b:Int} {nf:FuncId} {n1 n2:List Value} {k:Int->T (Int)} {ff:FuncId} {f1 f2:List Value} {g:Int->T (Walk)}
    {b1 b2:Nat} (m1:¬ F1 b1) (h1:w0.heap[b1]?=some (.cells (aC false bK.zero op at_ a b (kf nf n1 n2)) 271 (0,0))) (m2:¬ F1 b2) (h2:w0.heap[b2]?=some (.cells #[kf ff f1 f2] 222 (0,0)))
    (hk:K1 B0 bK u64 (n+1) F1 w0 (kf nf n1 n2) k) (hg:K1 B0 aK u64 (n+1) F2 w0 (kf ff f1 f2) g) (x:Int) :
    Calls B0 312 #[.int .u64 x,zp b1,zp b2] w0 (av B0 aK n ((k x).bind g) F w0):=by
 refine kN Tryz.func312 rfl 11 rfl rfl fun fr r hB=>?_;have I4:∀ b,F1 b->b<w0.heap.size:=fun b h=>hF b (s1 b h)
 have JZ:∀ b,F2 b->b<w0.heap.size:=fun b h=>hF b (s2 b h)
 refine d9 (q6 ?_);refine ah (.cells (kq aK) 224 (0,0)) r (fun R=>ag cB) rfl fun fr b3 w1 q1 r=>wn ?_;have h1:=keep q1.below h1
 have h2:=keep q1.below h2;have e3:=q1.eq;have z1:=q1.size;have h3:=q1.at_;have hB:=hB.trans (q1.below.mono hB.size);have zB:=hB.size;have hk1:=hk.mono (Nat.le_refl _) (fun b h=>h) (I8.below hB I4) hB.size
 have KL:∀ b,F1 b->b<w1.heap.size:=fun b h=>q9 (I4 b h) zB
 refine d9 ?_;refine iT 5 F1 [.val (.pointer (some ⟨b1,6,none⟩)),.val (kf nf n1 n2),.val (U x),.eff (StepE B0 bK n (k x) F1) (StepE.st KL),.val (kf ff f1 f2)] mixed r KL kz ?_ ?_
 ·
  refine cK r rfl (fun I2 g w' hk' hd r'=>?_) ?_
  · exact az r' (b:=b1) (o:=0) (k:=6) rfl DY bz
  refine cK r rfl (fun I2 g w' hk' hd r'=>?_) ?_
  · exact ax r' (v:=kf nf n1 n2) (hd 0 rfl).1 (bc (drK hk') h1 m1) Fk rfl bz
  refine cK r rfl (fun I2 g w' hk' hd r'=>?_) ?_
  · exact aw r' (v:=.int .u64 x) rfl bz
  refine iL r rfl kz (fun I2 g w' hb' hd r'=>?_) ?_
  ·
   have hb':Below w1.heap.size w1 w':=dr hb';refine dM r' (fs:=n1) (cs:=n2) (hd 1 rfl).1 (hd 2 rfl).1 hk1.at_.1 ((hk1.at_.2 n (Nat.lt_succ_self n) x w' (I8.below hb' KL) hb'.size).mono ?_);rintro _ w2 ⟨v,rfl,hb2,Jz⟩;exact ⟨v,rfl,hb2.kept,Jz⟩
  refine cK r rfl (fun I2 g w' hk' hd r'=>?_) ?_
  · exact ax r' (v:=kf ff f1 f2) rfl (bc (drK hk') h2 m2) sr rfl bz
  exact bU
 intro fr gg w2 hb Iz _ r;have hr:IK B0 bK n (k x) (fun b=>F1 b\/((gg 3).lo<=b/\b<(gg 3).hi)) w2 (gg 3).v:=(Iz 3 rfl).1
 have hrg:=(Iz 3 rfl).2;have r:=r.congr (sc ((Iz 4 rfl).1) rfl);have z2:=hb.size;have hr3:¬ F1 b3:=fun h=>by have:=I4 _ h; omega
 have h3:=bc hb h3 hr3;have hC:Jd F w0 w2:=(Jd.aS hB).bn hb fun b _ h=>s1 b h
 have zB2:=hC.size;have hS2:I8 F2 w0 w2:=fun b h=>(hb.block b (q9 (JZ b h) zB) fun h'=>hdj b h' h).trans (hB.block b (JZ b h))
 have hFb:∀ b,(kW F w0 w2 b3) b->b<w2.heap.size:=by rintro b (h | h); exact q9 (hF b h) zB2; exact h.2.1
 refine kC r (ih (F:=fun b=>F b\/(w0.heap.size<=b/\b<w2.heap.size/\b≠b3)) (F1:=fun b=>F1 b\/((gg 3).lo<=b/\b<(gg 3).hi)) (F2:=F2) hFb yap (fun b h=>.inl (s2 b h))
  yaq hr (hg.mono O (fun b h=>h) hS2 zB2) (.inr (hg.mono (Nat.le_refl _) (fun b h=>h) hS2 zB2))) rfl xY rfl ?_
 rintro _ w3 ⟨v2,rfl,hb2,Jz⟩;refine ⟨_,rfl,fun fr r=>?_⟩
 have z3:=hb2.size;have hF3:¬ (kW F w0 w2 b3) b3:=by rintro (h | ⟨_,_,h⟩); (have:=hF _ h; omega); exact h rfl
 have h3:=bc hb2 h3 hF3;have hC:=hC.bn hb2 yad
 refine kP r Jz.shape rfl rfl h3 cd rfl rfl fun w4 u4 r=>wn ?_;have z4:=u4.size
 have h3:=u4.at_;have hC:=hC.bm u4 (.inl O)
 refine q4 ?_;have hs:=Jz.shape.cells;refine ak r rfl rfl h3 (k:=20) hs.1 ce ?_;rw [<-hs.2.2];exact av.fin hC Jz u4 yac hF3 O O O
theorem ze (n:Nat):sN n:=by
 induction n using Nat.strongRecOn with
 | _ n ih=>
 intro F F1 F2 w0 hF s1 s2 hdj t pv fv g hp hf hd;obtain ⟨ff,f1,f2,hcf,rfl,hff⟩:=id hf;have I4:∀ b,F1 b->b<w0.heap.size:=fun b h=>hF b (s1 b h)
 have JZ:∀ b,F2 b->b<w0.heap.size:=fun b h=>hF b (s2 b h)
 cases t with
 | cut=>unfold IK at hp; exact hp.elim
 | done x0=>
  have hf:=hd.resolve_left yaA
  unfold IK at hp
  subst hp;refine enter (l:=[.agg (aC true (bK.cells x0) 0 0 0 0 .nilFunc),kf ff f1 f2]) Tryz.func246 rfl 15 rfl rfl fun fr r=>?_;have hB:=Below.refl w0.heap.size w0
  refine d9 (q6 ?_);refine kX 271 (.agg (aC true (bK.cells x0) 0 0 0 0 .nilFunc)) r rfl rfl fun b1 w1 q1 r=>?_;refine kX 222 (kf ff f1 f2) r rfl rfl fun b2 w2 q2 r=>?_
  refine ah (.cells (kq aK) 224 (0,0)) r (fun R=>ag cB) rfl fun fr b3 w3 q3 r=>r9 ?_;have h1:=keep q3.below (keep q2.below q1.at_)
  have h2:=keep q3.below q2.at_;have h3:=q3.at_;have e1:=q1.eq; have e2:=q2.eq; have e3:=q3.eq; have z1:=q1.size; have z2:=q2.size; have z3:=q3.size;have hB:=((hB.trans q1.below).trans (q2.below.mono O)).trans (q3.below.mono O)
  have zB:=hB.size;refine d9 (d9 (q6 (aa (zp b1) r (fun R=>az r (o:=0) rfl wA) rfl fun fr r=>?_)));refine aa (.bool true) r (fun R=>ax r (v:=.bool true) rfl h1 to4 rfl) rfl fun fr r=>r9 ?_
  refine q5 (t:=true) (r.ev rfl) (fun _=>?_) (fun h=>by cases h)
  refine d9 (q6 (aa (kf ff f1 f2) r (fun R=>ax r (v:=kf ff f1 f2) rfl h2 sr rfl) rfl fun fr r=>aa (.pointer (some ⟨b1,1,none⟩)) r (fun R=>az r (o:=0) rfl Ek) rfl fun fr r=>aa (.int .u64 x0) r (fun R=>ax r (v:=(.int .u64 x0)) rfl h1 Ja rfl) rfl fun fr r=>?_));refine cS r (hf.at_.2 n (Nat.lt_succ_self n) x0 w3 (I8.below hB JZ) hB.size) (fun R hc=>eu r rfl rfl hf.at_.1 hc) rfl ?_
  rintro _ w4 ⟨v,rfl,hb,hr⟩;refine ⟨_,rfl,fun fr r=>?_⟩
  have z4:=hb.size;have n3:¬ F2 b3:=fun h=>by have:=JZ _ h; omega
  have h3:=bc hb h3 n3;have hC:Jd F w0 w4:=(Jd.aS hB).bn hb fun b _ h=>s2 b h
  refine kP r hr.shape rfl rfl h3 cd rfl rfl fun w5 u5 r=>r9 ?_;have z5:=u5.size
  have h3:=u5.at_;have hC:=hC.bm u5 (.inl O)
  refine q4 ?_;have hs:=hr.shape.cells;refine ak r rfl rfl h3 (k:=20) hs.1 ce ?_;rw [<-hs.2.2];exact av.fin hC hr u5 (fun b hb=>.inl (s2 b hb)) n3 O O O
 | act op at_ a b k=>
  obtain ⟨nf,n1,n2,hcn,rfl,hk⟩:∃ (nf:FuncId) (n1 n2:List Value),af B0 nf=true/\pv=.agg (aC false bK.zero op at_ a b (kf nf n1 n2))/\K1 B0 bK u64 n F1 w0 (kf nf n1 n2) k:=by
   exact IK.dD hp
  refine enter (l:=[.agg (aC false bK.zero op at_ a b (kf nf n1 n2)),kf ff f1 f2]) Tryz.func246 rfl 15 rfl rfl fun fr r=>?_;have hB:=Below.refl w0.heap.size w0
  refine d9 (q6 ?_);refine kX 271 (.agg (aC false bK.zero op at_ a b (kf nf n1 n2))) r rfl rfl fun b1 w1 q1 r=>?_;refine kX 222 (kf ff f1 f2) r rfl rfl fun b2 w2 q2 r=>?_
  refine ah (.cells (kq aK) 224 (0,0)) r (fun R=>ag cB) rfl fun fr b3 w3 q3 r=>r9 ?_;have h1:=keep q3.below (keep q2.below q1.at_)
  have h2:=keep q3.below q2.at_;have h3:=q3.at_;have e1:=q1.eq; have e2:=q2.eq; have e3:=q3.eq; have z1:=q1.size; have z2:=q2.size; have z3:=q3.size;have hB:=((hB.trans q1.below).trans (q2.below.mono O)).trans (q3.below.mono O)
  have zB:=hB.size;refine d9 (d9 (q6 (aa (zp b1) r (fun R=>az r (o:=0) rfl wA) rfl fun fr r=>?_)));refine aa (.bool false) r (fun R=>ax r (v:=.bool false) rfl h1 to4 rfl) rfl fun fr r=>r9 ?_
  refine q5 (t:=false) (r.ev rfl) (fun h=>by cases h) (fun _=>q7 ?_);refine d9 (q6 (aa (.pointer (some ⟨b1,2,none⟩)) r (fun R=>az r (o:=0) rfl Ej) rfl fun fr r=>kG (bh (⟨op,at_,a,b⟩:Access)) 4 r rfl h1 KX rfl rfl fun r=>aa (.func (.func 312) #[] #[zp b1,zp b2]) r (fun R=>aZ r rfl) rfl fun fr r=>?_))
  have hFb:∀ b,(fun b=>F b\/b=b1\/b=b2) b->b<w3.heap.size:=by rintro b (h | h | h); exact q9 (hF b h) hB.size; omega; omega
  have m1:¬ F1 b1:=fun h=>by have:=I4 _ h; omega
  have m2:¬ F1 b2:=fun h=>by have:=I4 _ h; omega
  refine kC r (li (F:=fun b=>F b\/b=b1\/b=b2) (n:=n) hFb ⟨op,at_,a,b⟩ (a1:=fun x=>(k x).bind g) (show K1 B0 aK u64 n (fun b=>F b\/b=b1\/b=b2) w3 (kf 312 [] [zp b1,zp b2]) (fun x=>(k x).bind g) from
   ⟨312,[],[zp b1,zp b2],GA,rfl,fun m hm x w' hs hz=>zi (ih m hm) (fun b hb=>q9 (hFb b hb) hz) (fun b h=>.inl (s1 b h)) (fun b h=>.inl (s2 b h)) hdj m1 (hs.at_ (.inr (.inl rfl)) h1) m2 (hs.at_ (.inr (.inr rfl)) h2)
    (hk.mono O (fun b h=>h) ((I8.below hB I4).trans (hs.sub (fun b h=>.inl (s1 b h)))) (Nat.le_trans hB.size hz)) (hf.mono O (fun b h=>h) ((I8.below hB JZ).trans (hs.sub (fun b h=>.inl (s2 b h)))) (Nat.le_trans hB.size hz)) x⟩)) rfl mA rfl ?_
  rintro _ w4 ⟨v,rfl,hb,hr⟩;refine ⟨_,rfl,fun fr r=>?_⟩
  have z4:=hb.size;have n3:¬ (fun b=>F b\/b=b1\/b=b2) b3:=by rintro (h | h | h); (have:=hF _ h; omega); omega; omega
  have h3:=bc hb h3 n3;have hC:Jd F w0 w4:=(Jd.aS hB).bn hb yau
  refine kP r hr.shape rfl rfl h3 cd rfl rfl fun w5 u5 r=>r9 ?_;have z5:=u5.size
  have h3:=u5.at_;have hC:=hC.bm u5 (.inl O)
  refine q4 ?_;have hs:=hr.shape.cells;refine ak r rfl rfl h3 (k:=20) hs.1 ce ?_;rw [<-hs.2.2];exact av.fin hC hr u5 yaf n3 O O O
theorem yS {n:Nat} {F F1 F2:Nat->Prop} {w0:World} (hF:∀ b,F b->b<w0.heap.size) (s1:∀ b,F1 b->F b) (s2:∀ b,F2 b->F b) (hdj:∀ b,F1 b->¬ F2 b) {t:T (Int)} {pv fv:Value} {g:Int->T (Walk)} (hp:IK B0 bK n t F1 w0 pv) (hf:K1 B0 aK u64 n F2 w0 fv g) (hd:t.bC=false) :
  Calls B0 246 #[pv,fv] w0 (av B0 aK n (t.bind g) F w0):=ze n hF s1 s2 hdj hp hf (.inl hd)
end
end Go.Proofs.YtbbipmelhmgmfaaGreat

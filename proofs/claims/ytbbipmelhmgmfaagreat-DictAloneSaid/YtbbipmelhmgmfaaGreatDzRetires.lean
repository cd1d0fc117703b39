/- Ours. -/
import Derived.Test.YtbbipmelhmgmfaaGreatDzM8
import Derived.Test.YtbbipmelhmgmfaaGreatDzM13
set_option linter.all false
set_option maxRecDepth 100000
set_option maxHeartbeats 20000000
namespace Go.Proofs.YtbbipmelhmgmfaaGreat
open Go.RowKit
section
variable {n : Nat} {F : Nat -> Prop} {j : Nat} {w0 : World}
theorem sJ:af B0 111:=kz
theorem kp:af B0 112:=kz
theorem sD:af B0 137:=kz
theorem pz:af B0 194:=kz
theorem p7:af B0 195:=kz
theorem xV:af B0 240:=kz
theorem Gz:af B0 281:=kz
theorem mg:af B0 282:=kz
theorem ET:af B0 298:=kz
theorem Fm:af B0 299:=kz
theorem G5:af B0 300:=kz
theorem xC:af B0 305:=kz
theorem EX:af B0 306:=kz
theorem FU:af B0 307:=kz
theorem Hl:af B0 308:=kz
theorem G9:af B0 309:=kz
theorem Fl:af B0 347:=kz
theorem Gi:af B0 349:=kz
theorem FV:af B0 350:=kz
theorem Fs:af B0 351:=kz
theorem G8:af B0 354:=kz
theorem yt:af B0 381:=kz
theorem GR:af B0 382:=kz
theorem Fz:af B0 383:=kz
theorem Gb:af B0 384:=kz
theorem cl89:af B0 89:=kz
theorem jV:ba B0 293 0 0:=kz
theorem wT:ba B0 293 1 1:=kz
theorem rJ:ba B0 293 2 2:=kz
theorem p8:tyA B0 293 3:=kz
theorem Ga:sized B0 239 1:=kz
theorem FP:sized B0 293 3:=kz
theorem Hj:zeroOf B0 239=some .nilFunc:=kz
theorem Fv:zeroOf B0 293=some (z6 (Kn (⟨0,0,0⟩:J4))):=kz
def D.qt (HR:Plan->Int->Int->(Unit->T Int)->T Int) (c0:Plan) (c1:Int) (c2:Int) (c3:(Unit->T Int)):T Int:=(HR c0 c1 (IntKind.i64.wrap (c2+1)) c3)
def D.fo (HR:Plan->Int->Int->(Unit->T Int)->T Int) (a0:Plan) (a1:Int) (a2:Int) (a3:(Unit->T Int)):T Int:=(bif (a2==3) then (a3 ()) else (D.ee (D.bo a0 a1 a2) 0 (fun _=>(D.qt HR a0 a1 a2 a3))))
def D.eP:Nat->Plan->Int->Int->(Unit->T Int)->T Int
 | 0,_,_,_,_=>.cut
 | k+1,a0,a1,a2,a3=>D.fo (D.eP k) a0 a1 a2 a3
def pY (r:Plan->Int->Int->(Unit->T Int)->T Int) (n:Nat):Prop:=∀ (F:Nat->Prop) (w0:World),(∀ b,F b->b<w0.heap.size)->∀ (a0:Plan) (a1:Int) (a2:Int) {a3f:FuncId} {Ik Il:List Value} {a3:(Unit->T Int)} (a3n:Kq B0 aj unitE (n+1) F w0 (kf a3f Ik Il) a3),Calls B0 305 #[z6 (ac a0),.int .i64 a1,.int .i64 a2,kf a3f Ik Il] w0 (aH B0 aj n (r a0 a1 a2 a3) F w0)
theorem Bv {HR:Plan->Int->Int->(Unit->T Int)->T Int} (hF:kH F w0) (Io:∀ m,m<=n->pY HR m)
    (c0:Plan) {I5:Nat} (J9:F I5) (I3:w0.heap[I5]?=some (.cells ((ac c0)).toArray 23 (0,0))) (c1:Int) {IE:Nat} (Ka:F IE) (IA:w0.heap[IE]?=some (.cells ([(.int .i64 c1)]).toArray 3 (0,0))) (c2:Int) {IU:Nat} (c2F:F IU) (IR:w0.heap[IU]?=some (.cells ([(.int .i64 c2)]).toArray 3 (0,0))) {c3f:FuncId} {c3_1 c3_2:List Value} {c3:(Unit->T Int)} {Jr:Nat} (c3F:F Jr) (JB:w0.heap[Jr]?=some (.cells #[kf c3f c3_1 c3_2] 239 (0,0))) (c3n:Kq B0 aj unitE (n+1) F w0 (kf c3f c3_1 c3_2) c3) :
    Calls B0 354 #[zp I5,zp IE,zp IU,zp Jr] w0 (aH B0 aj n (D.qt HR c0 c1 c2 c3) F w0):=by
 refine kN Tryz.func354 rfl 11 rfl rfl fun fr r hB=>?_;have Jq:=q8 I3
 have Jy:=q8 IA;have Kg:=q8 IR;have KY:=q8 JB;refine I0 ?_;refine ah (.cells (kq aj) 119 (0,0)) r (fun R=>ag bP) rfl fun fr b1 w2 n3 r=>?_;obtain ⟨E1,Z2,H1,hB,zB⟩:=n3.all hB
 refine wn (I0 (kG (ac c0) 6 r rfl (keep hB I3) IJ rfl rfl fun r=>kL (I c1) r rfl (keep hB IA) IL rfl rfl fun r=>kL (I c2) r rfl (keep hB IR) IL rfl rfl fun r=>kB r rfl rfl rfl rfl rfl fun r=>kL (kf c3f c3_1 c3_2) r rfl (keep hB JB) mG rfl rfl fun r=>?_));have I4:=aP hF hB b1
 refine kD r ((Io n O) (kW F w0 w2 b1) _ I4 c0 c1 (W (c2+1)) (c3n.mono O (fun b h=>.inl h) (I8.below hB hF) hB.size)) rfl xC rfl fun w4 v5 hb J0 r=>?_;have Z4:=hb.size
 have H1:=keep hb H1;obtain ⟨hB,zB⟩:=IQ hb hB;refine kP r J0.shape rfl rfl H1 bv rfl rfl fun w7 u8 r=>?_;have Z7:=u8.size
 have H1:=u8.at_;obtain ⟨hB,zB⟩:=u8.on hB O
 exact wn (q4 (kR r J0 rfl rfl H1 rfl bu hF hB u8 O O O))
theorem BS {n:Nat} {F:Nat->Prop} {HR:Plan->Int->Int->(Unit->T Int)->T Int} {w0:World} (hF:∀ b,F b->b<w0.heap.size) (Io:∀ m,m<n->pY HR m)
    (a0:Plan) (a1:Int) (a2:Int) {a3f:FuncId} {Ik Il:List Value} {a3:(Unit->T Int)} (a3n:Kq B0 aj unitE (n+1) F w0 (kf a3f Ik Il) a3) :
    Calls B0 305 #[z6 (ac a0),.int .i64 a1,.int .i64 a2,kf a3f Ik Il] w0 (aH B0 aj n (D.fo HR a0 a1 a2 a3) F w0):=by
 refine kN Tryz.func305 rfl 19 rfl rfl fun fr r hB=>?_;refine I0 ?_
 refine kX 23 (z6 (ac a0)) r rfl rfl fun b1 w2 n3 r=>?_;obtain ⟨E1,Z2,H1,hB,zB⟩:=n3.all hB
 refine kX 3 (I a1) r rfl rfl fun b4 w5 n6 r=>?_;have H1:=keep n6.below H1
 obtain ⟨E4,Z5,H4,hB,zB⟩:=n6.all hB;refine kX 3 (I a2) r rfl rfl fun b7 w8 n9 r=>?_;have H1:=keep n9.below H1
 have H4:=keep n9.below H4;obtain ⟨E7,Z8,H7,hB,zB⟩:=n9.all hB;refine kX 239 (kf a3f Ik Il) r rfl rfl fun b10 JV JN r=>?_;have H1:=keep JN.below H1
 have H4:=keep JN.below H4;have H7:=keep JN.below H7;obtain ⟨E10,Z11,Jp,hB,zB⟩:=JN.all hB;refine ah (.cells (kq aj) 119 (0,0)) r (fun R=>ag bP) rfl fun fr b13 w14 n15 r=>?_;have H1:=keep n15.below H1
 have H4:=keep n15.below H4;have H7:=keep n15.below H7;have Jp:=keep n15.below Jp;obtain ⟨E13,Z14,K0,hB,zB⟩:=n15.all hB;refine wn (d9 (I0 (kL (I a2) r rfl H7 IL rfl rfl fun r=>kB r rfl rfl rfl rfl rfl fun r=>wn ?_)));refine q5 (t:=(a2==3)) (r.ev rfl) (fun h16=>?_) (fun h16=>?_)
 ·
  refine I0 (kL (kf a3f Ik Il) r rfl Jp mG rfl rfl fun r=>?_);refine cS r (a3n.at_.2 n (Nat.lt_succ_self n) () w14 (I8.below hB hF) hB.size) (fun R hc=>iW r rfl a3n.at_.1 hc) rfl ?_
  rintro _ w17 ⟨v18,rfl,hb,KI⟩;refine ⟨_,rfl,fun fr r=>?_⟩
  have Z17:=hb.size;have H1:=keep hb H1;have H4:=keep hb H4;have H7:=keep hb H7;have Jp:=keep hb Jp;have K0:=keep hb K0;obtain ⟨hB,zB⟩:=IQ hb hB;refine kP r KI.shape rfl rfl K0 bv rfl rfl fun w20 u21 r=>?_;have Z20:=u21.size
  have H1:=u21.keep H1 O
  have H4:=u21.keep H4 O
  have H7:=u21.keep H7 O
  have Jp:=u21.keep Jp O
  have K0:=u21.at_;obtain ⟨hB,zB⟩:=u21.on hB O
  refine wn (q4 ?_);have hd:D.fo HR a0 a1 a2 a3=(a3 ()):=(ar h16).trans (rfl);have hs:=KI.shape.cells;refine ak r rfl rfl K0 (k:=7) hs.1 bu ?_;rw [<-hs.2.2,hd];exact aH.fin hB KI u21 (fun b hb=>.inl hb) (fun h=>by have:=hF _ h; omega) O O O
 refine q7 (I0 (kG (ac a0) 6 r rfl H1 IJ rfl rfl fun r=>kL (I a1) r rfl H4 IL rfl rfl fun r=>kL (I a2) r rfl H7 IL rfl rfl fun r=>?_));refine kE r (eB w14 a0 a1 a2) rfl cl89 rfl fun w22 hb r=>?_
 have Z22:=hb.size;have H1:=keep hb H1;have H4:=keep hb H4;have H7:=keep hb H7;have Jp:=keep hb Jp;have K0:=keep hb K0;obtain ⟨hB,zB⟩:=IQ hb hB;refine aa (.func (.func 354) #[] #[zp b1,zp b4,zp b7,zp b10]) r (fun R=>aZ r rfl) rfl fun fr r=>?_;have I4:=aP hF hB b13
 have f23:((kW F w0 w22 b13)) b1:=(.inr ⟨O,O,O⟩)
 have f24:((kW F w0 w22 b13)) b4:=(.inr ⟨O,O,O⟩)
 have f25:((kW F w0 w22 b13)) b7:=(.inr ⟨O,O,O⟩)
 have f26:((kW F w0 w22 b13)) b10:=(.inr ⟨O,O,O⟩)
 refine kD r (gH (F:=(kW F w0 w22 b13)) (n:=n) I4 (D.bo a0 a1 a2) 0 ⟨354,[],[zp b1,zp b4,zp b7,zp b10],G8,rfl,fun m hm _ w' hs hz=>Bv (fun b hb=>q9 (I4 b hb) hz) (fun m' hm'=>Io m' O) a0 f23 (hs.at_ f23 H1) a1 f24 (hs.at_ f24 H4) a2 f25 (hs.at_ f25 H7) f26 (hs.at_ f26 Jp) (a3n.mono O (fun b h=>.inl h) ((I8.below hB hF).trans (hs.sub (fun b h=>.inl h))) (Nat.le_trans hB.size hz))⟩) rfl iz rfl fun w27 v28 hb hr29 r=>?_;have Z27:=hb.size
 have H1:=keep hb H1;have H4:=keep hb H4;have H7:=keep hb H7;have Jp:=keep hb Jp;have K0:=keep hb K0;obtain ⟨hB,zB⟩:=IQ hb hB;refine kP r hr29.shape rfl rfl K0 bv rfl rfl fun w30 u31 r=>?_;have Z30:=u31.size
 have H1:=u31.keep H1 O
 have H4:=u31.keep H4 O
 have H7:=u31.keep H7 O
 have Jp:=u31.keep Jp O
 have K0:=u31.at_;obtain ⟨hB,zB⟩:=u31.on hB O
 refine wn (q4 ?_);have hd:D.fo HR a0 a1 a2 a3=(D.ee (D.bo a0 a1 a2) 0 (fun _=>(D.qt HR a0 a1 a2 a3))):=(ai h16).trans (rfl)
 have hs:=hr29.shape.cells;refine ak r rfl rfl K0 (k:=7) hs.1 bu ?_;rw [<-hs.2.2,hd];exact JR hF hB hr29 u31 O O O
theorem BW {n:Nat} {k:Nat} (hk:n<k):pY (D.eP k) n:=by
 induction n using Nat.strongRecOn generalizing k with
 | _ n ih=>
  obtain ⟨k,rfl⟩:∃ q,k=q+1:=⟨k - 1,O⟩
  intro F w0 hF;have h:=@BS n F (D.eP k) w0 hF (fun m hm=>ih m hm O)
  exact h
def D.gz (j:Nat) (c0:State) (c1:Plan) (c2:Int):T Int:=(bif (c0.mode==3) then (D.df (-1)) else (D.eU j c1 c2))
theorem zy (hF:kH F w0) (hj:n<j)
    (c0:State) {I5:Nat} (J9:F I5) (I3:w0.heap[I5]?=some (.cells ((aQ c0)).toArray 190 (0,0))) (c1:Plan) {IE:Nat} (Ka:F IE) (IA:w0.heap[IE]?=some (.cells ((ac c1)).toArray 23 (0,0))) (c2:Int) {IU:Nat} (c2F:F IU) (IR:w0.heap[IU]?=some (.cells ([(.int .i64 c2)]).toArray 3 (0,0))) :
    Calls B0 309 #[zp I5,zp IE,zp IU] w0 (aH B0 aj n (D.gz j c0 c1 c2) F w0):=by
 refine kN Tryz.func309 rfl 11 rfl rfl fun fr r hB=>?_;have Jq:=q8 I3
 have Jy:=q8 IA;have Kg:=q8 IR;refine I0 ?_;refine ah (.cells (kq aj) 119 (0,0)) r (fun R=>ag bP) rfl fun fr b1 w2 n3 r=>?_;obtain ⟨E1,Z2,H1,hB,zB⟩:=n3.all hB
 refine wn (d9 (I0 (kF 0 r rfl lX rfl fun r=>kL (I c0.mode) r rfl (keep hB I3) IL rfl rfl fun r=>kB r rfl rfl rfl rfl rfl fun r=>wn ?_)));refine q5 (t:=(c0.mode==3)) (r.ev rfl) (fun h4=>?_) (fun h4=>?_)
 ·
  refine I0 ?_;have I4:=aP hF hB b1;refine kD r (eT (F:=(kW F w0 w2 b1)) (n:=n) I4 (-1)) rfl fe rfl fun w5 v6 hb Kj r=>?_;have Z5:=hb.size
  have H1:=keep hb H1;obtain ⟨hB,zB⟩:=IQ hb hB;refine kP r Kj.shape rfl rfl H1 bv rfl rfl fun w8 u9 r=>?_;have Z8:=u9.size
  have H1:=u9.at_;obtain ⟨hB,zB⟩:=u9.on hB O
  refine wn (q4 ?_);have hd:D.gz j c0 c1 c2=(D.df (-1)):=(ar h4).trans (rfl);have hs:=Kj.shape.cells;refine ak r rfl rfl H1 (k:=7) hs.1 bu ?_;rw [<-hs.2.2,hd];exact JR hF hB Kj u9 O O O
 refine q7 (I0 (kG (ac c1) 6 r rfl (keep hB IA) IJ rfl rfl fun r=>kL (I c2) r rfl (keep hB IR) IL rfl rfl fun r=>?_));have I4:=aP hF hB b1
 refine kD r ((Cy (k:=j) (n:=n) O) (kW F w0 w2 b1) _ I4 c1 c2) rfl xZ rfl fun J8 v11 hb Jl r=>?_;have Z10:=hb.size
 have H1:=keep hb H1;obtain ⟨hB,zB⟩:=IQ hb hB;refine kP r Jl.shape rfl rfl H1 bv rfl rfl fun Kc Kr r=>?_;have Z13:=Kr.size
 have H1:=Kr.at_;obtain ⟨hB,zB⟩:=Kr.on hB O
 refine wn (q4 ?_);have hd:D.gz j c0 c1 c2=(D.eU j c1 c2):=(ai h4).trans (rfl);have hs:=Jl.shape.cells;refine ak r rfl rfl H1 (k:=7) hs.1 bu ?_;rw [<-hs.2.2,hd];exact JR hF hB Jl Kr O O O
def D.pM (j:Nat) (c0:Plan) (c1:Int) (a0:Int):T Int:=(D.ee (D.dc c0 c1) (D.cq (D.bR ((D.aV a0).1) c0.IP)) (fun _=>(D.gz j (D.bR ((D.aV a0).1) c0.IP) c0 c1)))
theorem zX (hF:kH F w0) (hj:n<j)
    (c0:Plan) {I5:Nat} (J9:F I5) (I3:w0.heap[I5]?=some (.cells ((ac c0)).toArray 23 (0,0))) (c1:Int) {IE:Nat} (Ka:F IE) (IA:w0.heap[IE]?=some (.cells ([(.int .i64 c1)]).toArray 3 (0,0))) (a0:Int) :
    Calls B0 307 #[.int .u64 a0,zp I5,zp IE] w0 (aH B0 aj n (D.pM j c0 c1 a0) F w0):=by
 refine kN Tryz.func307 rfl 24 rfl rfl fun fr r hB=>?_;have Jq:=q8 I3
 have Jy:=q8 IA;refine I0 ?_;refine ah (.cells (kq aj) 119 (0,0)) r (fun R=>ag bP) rfl fun fr b1 w2 n3 r=>?_;obtain ⟨E1,Z2,H1,hB,zB⟩:=n3.all hB
 refine wn (I0 (kM (U a0) r rfl rfl fun r=>?_));refine kE r (lM w2 a0) rfl sJ rfl fun w4 hb r=>?_
 have Z4:=hb.size;have H1:=keep hb H1;obtain ⟨hB,zB⟩:=IQ hb hB;refine kM (.tuple #[(z6 (aQ (D.aV a0).1)),(.bool (D.aV a0).2)]) r rfl rfl fun r=>aa (z6 (aQ (D.aV a0).1)) r (fun R=>bZ r (vs:=#[(z6 (aQ (D.aV a0).1)),(.bool (D.aV a0).2)]) rfl rfl) rfl fun fr r=>aa (.bool (D.aV a0).2) r (fun R=>bZ r (vs:=#[(z6 (aQ (D.aV a0).1)),(.bool (D.aV a0).2)]) rfl rfl) rfl fun fr r=>?_;refine ah (.cells ((aQ (⟨0,0,0⟩:State))).toArray 190 (0,0)) r (fun R=>ag gu) rfl fun fr b5 w6 n7 r=>?_
 have H1:=keep n7.below H1;obtain ⟨E5,Z6,H5,hB,zB⟩:=n7.all hB;refine aM (.cells ((aQ ((D.aV a0).1))).toArray 190 (0,0)) r (fun R=>bb r (o:=0) (v:=(z6 (aQ (D.aV a0).1))) rfl rfl H5 eS u7 rfl rfl) rfl fun fr w8 u9 r=>?_;have Z8:=u9.size
 have H1:=u9.keep H1 O
 have H5:=u9.at_;obtain ⟨hB,zB⟩:=u9.on hB O
 refine kA (.bool (D.aV a0).2) r rfl rfl fun r=>wn (I0 (aa (z6 (aQ (D.aV a0).1)) r (fun R=>aU r (cs:=(aQ ((D.aV a0).1))) (n:=3) rfl H5 dY rfl) rfl fun fr r=>kF 0 r rfl m8 rfl fun r=>kL (I c0.IP) r rfl (keep hB I3) IL rfl rfl fun r=>?_));refine kE r (A9 w8 ((D.aV a0).1) c0.IP) rfl Hl rfl fun J8 hb r=>?_
 have Z10:=hb.size;have H1:=keep hb H1;have H5:=keep hb H5;obtain ⟨hB,zB⟩:=IQ hb hB;refine ah (.cells ((aQ (⟨0,0,0⟩:State))).toArray 190 (0,0)) r (fun R=>ag gu) rfl fun fr b11 w12 n13 r=>?_;have H1:=keep n13.below H1
 have H5:=keep n13.below H5;obtain ⟨E11,Z12,H11,hB,zB⟩:=n13.all hB;refine aM (.cells ((aQ (D.bR ((D.aV a0).1) c0.IP))).toArray 190 (0,0)) r (fun R=>bb r (o:=0) (v:=(.agg (aQ (D.bR ((D.aV a0).1) c0.IP)).toArray)) rfl rfl H11 eS u7 rfl rfl) rfl fun fr w14 u15 r=>?_;have Z14:=u15.size
 have H1:=u15.keep H1 O
 have H5:=u15.keep H5 O
 have H11:=u15.at_;obtain ⟨hB,zB⟩:=u15.on hB O
 refine wn (d9 ?_);refine bI 6 [.val (z6 (ac c0)),.val (I c1),.val (I (D.dc c0 c1)),.val (.agg (aQ (D.bR ((D.aV a0).1) c0.IP)).toArray),.val (U (D.cq (D.bR ((D.aV a0).1) c0.IP))),.val (.func (.func 309) #[] #[zp b11,zp I5,zp IE])] mixed r kz (kV (kV (kV (kV (kV (kV bH)))))) ?_ ?_
 ·
  refine ec r (fun _ u _ b d s=>aU s (cs:=(ac c0)) (n:=6) rfl (cr hB b I3) IJ rfl bz) (ec r (fun _ u _ b d s=>ax s rfl (cr hB b IA) IL rfl bz) (ec r (fun I2 u w' hb' hd r'=>aN r' (args:=[(z6 (ac c0)),(I c1)]) (lc hd.1 (lc hd.2.1 l0)) kp ((ji _ c0 c1).mono JL)) (ec r (fun _ u _ b d s=>aU s (cs:=(aQ (D.bR ((D.aV a0).1) c0.IP))) (n:=3) rfl (keep b H11) dY rfl bz) (ec r (fun I2 u w' hb' hd r'=>aN r' (args:=[(.agg (aQ (D.bR ((D.aV a0).1) c0.IP)).toArray)]) (lc hd.1 l0) sD ((l4 _ (D.bR ((D.aV a0).1) c0.IP)).mono JL)) (ec r (fun _ u _ b d s=>aZ s (v:=(.func (.func 309) #[] #[zp b11,zp I5,zp IE])) rfl bz) ?_)))));exact bJ
 intro fr u w16 hb Iz hne r;have r:=r.congr (sc (Iz 5 ke) (sc (Iz 4 ke) (sc (Iz 3 ke) (sc (Iz 2 ke) (sc (Iz 1 ke) (sc (Iz 0 ke) rfl))))));have Z16:=hb.size;have H1:=keep hb H1;have H5:=keep hb H5;have H11:=keep hb H11;obtain ⟨hB,zB⟩:=IQ hb hB;have I4:=aP hF hB b1;have f17:((kW F w0 w16 b1)) b11:=(.inr ⟨O,O,O⟩)
 have f18:((kW F w0 w16 b1)) I5:=(.inl J9);have f19:((kW F w0 w16 b1)) IE:=(.inl Ka);refine kD r (gH (F:=(kW F w0 w16 b1)) (n:=n) I4 (D.dc c0 c1) (D.cq (D.bR ((D.aV a0).1) c0.IP)) ⟨309,[],[zp b11,zp I5,zp IE],G9,rfl,fun m hm _ w' hs hz=>zy (j:=j) (fun b hb=>q9 (I4 b hb) hz) O (D.bR ((D.aV a0).1) c0.IP) f17 (hs.at_ f17 H11) c0 f18 (hs.at_ f18 (keep hB I3)) c1 f19 (hs.at_ f19 (keep hB IA))⟩) rfl iz rfl fun w20 KF hb hr22 r=>?_;have Z20:=hb.size
 have H1:=keep hb H1;have H5:=keep hb H5;have H11:=keep hb H11;obtain ⟨hB,zB⟩:=IQ hb hB;refine kP r hr22.shape rfl rfl H1 bv rfl rfl fun w23 u24 r=>?_;have Z23:=u24.size
 have H5:=u24.keep H5 O
 have H11:=u24.keep H11 O
 have H1:=u24.at_;obtain ⟨hB,zB⟩:=u24.on hB O
 exact wn (q4 (kR r hr22 rfl rfl H1 rfl bu hF hB u24 O O O))
def D.pZ (j:Nat) (c0:Plan) (c1:Int):T Int:=(D.dL (D.dc c0 c1) (fun x=>(D.pM j c0 c1 x)))
theorem Ap (hF:kH F w0) (hj:n<j)
    (c0:Plan) {I5:Nat} (J9:F I5) (I3:w0.heap[I5]?=some (.cells ((ac c0)).toArray 23 (0,0))) (c1:Int) {IE:Nat} (Ka:F IE) (IA:w0.heap[IE]?=some (.cells ([(.int .i64 c1)]).toArray 3 (0,0))) :
    Calls B0 306 #[zp I5,zp IE] w0 (aH B0 aj n (D.pZ j c0 c1) F w0):=by
 refine kN Tryz.func306 rfl 8 rfl rfl fun fr r hB=>?_;have Jq:=q8 I3
 have Jy:=q8 IA;refine I0 ?_;refine ah (.cells (kq aj) 119 (0,0)) r (fun R=>ag bP) rfl fun fr b1 w2 n3 r=>?_;obtain ⟨E1,Z2,H1,hB,zB⟩:=n3.all hB
 refine wn (I0 (kG (ac c0) 6 r rfl (keep hB I3) IJ rfl rfl fun r=>kL (I c1) r rfl (keep hB IA) IL rfl rfl fun r=>?_));refine kE r (ji w2 c0 c1) rfl kp rfl fun w4 hb r=>?_
 have Z4:=hb.size;have H1:=keep hb H1;obtain ⟨hB,zB⟩:=IQ hb hB;refine aa (.func (.func 307) #[] #[zp I5,zp IE]) r (fun R=>aZ r rfl) rfl fun fr r=>?_;have I4:=aP hF hB b1
 have f5:((kW F w0 w4 b1)) I5:=(.inl J9);have f6:((kW F w0 w4 b1)) IE:=(.inl Ka);refine kD r (fP (F:=(kW F w0 w4 b1)) (n:=n) I4 (D.dc c0 c1) ⟨307,[],[zp I5,zp IE],FU,rfl,fun m hm x w' hs hz=>zX (j:=j) (fun b hb=>q9 (I4 b hb) hz) O c0 f5 (hs.at_ f5 (keep hB I3)) c1 f6 (hs.at_ f6 (keep hB IA)) x⟩) rfl gx rfl fun w7 v8 hb hr9 r=>?_;have Z7:=hb.size
 have H1:=keep hb H1;obtain ⟨hB,zB⟩:=IQ hb hB;refine kP r hr9.shape rfl rfl H1 bv rfl rfl fun J8 JG r=>?_;have Z10:=JG.size
 have H1:=JG.at_;obtain ⟨hB,zB⟩:=JG.on hB O
 exact wn (q4 (kR r hr9 rfl rfl H1 rfl bu hF hB JG O O O))
def D.jr (j:Nat) (a0:Plan) (a1:Int):T Int:=(D.eP j a0 a1 0 (fun _=>(D.pZ j a0 a1)))
theorem tO (hF:kH F w0) (hj:n<j)
    (a0:Plan) (a1:Int) :
    Calls B0 240 #[z6 (ac a0),.int .i64 a1] w0 (aH B0 aj n (D.jr j a0 a1) F w0):=by
 refine kN Tryz.func240 rfl 9 rfl rfl fun fr r hB=>?_;refine I0 ?_
 refine kX 23 (z6 (ac a0)) r rfl rfl fun b1 w2 n3 r=>?_;obtain ⟨E1,Z2,H1,hB,zB⟩:=n3.all hB
 refine kX 3 (I a1) r rfl rfl fun b4 w5 n6 r=>?_;have H1:=keep n6.below H1
 obtain ⟨E4,Z5,H4,hB,zB⟩:=n6.all hB;refine ah (.cells (kq aj) 119 (0,0)) r (fun R=>ag bP) rfl fun fr b7 w8 n9 r=>?_;have H1:=keep n9.below H1
 have H4:=keep n9.below H4;obtain ⟨E7,Z8,H7,hB,zB⟩:=n9.all hB;refine wn (I0 (kG (ac a0) 6 r rfl H1 IJ rfl rfl fun r=>kL (I a1) r rfl H4 IL rfl rfl fun r=>aa (.func (.func 306) #[] #[zp b1,zp b4]) r (fun R=>aZ r rfl) rfl fun fr r=>?_));have I4:=aP hF hB b7
 have f10:((kW F w0 w8 b7)) b1:=(.inr ⟨O,O,O⟩)
 have f11:((kW F w0 w8 b7)) b4:=(.inr ⟨O,O,O⟩)
 refine kD r ((BW (k:=j) (n:=n) O) (kW F w0 w8 b7) _ I4 a0 a1 0 ⟨306,[],[zp b1,zp b4],EX,rfl,fun m hm _ w' hs hz=>Ap (j:=j) (fun b hb=>q9 (I4 b hb) hz) O a0 f10 (hs.at_ f10 H1) a1 f11 (hs.at_ f11 H4)⟩) rfl xC rfl fun w12 v13 hb hr14 r=>?_;have Z12:=hb.size
 have H1:=keep hb H1;have H4:=keep hb H4;have H7:=keep hb H7;obtain ⟨hB,zB⟩:=IQ hb hB;refine kP r hr14.shape rfl rfl H7 bv rfl rfl fun w15 u16 r=>?_;have Z15:=u16.size
 have H1:=u16.keep H1 O
 have H4:=u16.keep H4 O
 have H7:=u16.at_;obtain ⟨hB,zB⟩:=u16.on hB O
 exact wn (q4 (kR r hr14 rfl rfl H7 rfl bu hF hB u16 O O O))
def D.nn (c0:Plan) (c1:Int) (c2:J4) (c3:(Unit->T Int)) (a0:Int):T Int:=(D.ee (D.dI c0 c1 c2.at_) a0 c3)
theorem Az (hF:kH F w0)
    (c0:Plan) {I5:Nat} (J9:F I5) (I3:w0.heap[I5]?=some (.cells ((ac c0)).toArray 23 (0,0))) (c1:Int) {IE:Nat} (Ka:F IE) (IA:w0.heap[IE]?=some (.cells ([(.int .i64 c1)]).toArray 3 (0,0))) (c2:J4) {IU:Nat} (c2F:F IU) (IR:w0.heap[IU]?=some (.cells ((Kn c2)).toArray 293 (0,0))) {c3f:FuncId} {c3_1 c3_2:List Value} {c3:(Unit->T Int)} {Jr:Nat} (c3F:F Jr) (JB:w0.heap[Jr]?=some (.cells #[kf c3f c3_1 c3_2] 239 (0,0))) (c3n:Kq B0 aj unitE (n+1) F w0 (kf c3f c3_1 c3_2) c3) (a0:Int) :
    Calls B0 384 #[.int .u64 a0,zp I5,zp IE,zp IU,zp Jr] w0 (aH B0 aj n (D.nn c0 c1 c2 c3 a0) F w0):=by
 refine kN Tryz.func384 rfl 15 rfl rfl fun fr r hB=>?_;have Jq:=q8 I3
 have Jy:=q8 IA;have Kg:=q8 IR;have KY:=q8 JB;refine I0 ?_;refine ah (.cells (kq aj) 119 (0,0)) r (fun R=>ag bP) rfl fun fr b1 w2 n3 r=>?_;obtain ⟨E1,Z2,H1,hB,zB⟩:=n3.all hB
 refine wn (d9 ?_);refine bI 7 [.val (z6 (ac c0)),.val (I c1),.val (zp IU),.val (I c2.at_),.val (I (D.dI c0 c1 c2.at_)),.val (U a0),.val (kf c3f c3_1 c3_2)] mixed r kz (kV (kV (kV (kV (kV (kV (kV bH))))))) ?_ ?_
 ·
  refine ec r (fun _ u _ b d s=>aU s (cs:=(ac c0)) (n:=6) rfl (cr hB b I3) IJ rfl bz) (ec r (fun _ u _ b d s=>ax s rfl (cr hB b IA) IL rfl bz) (ec r (fun _ u _ b d s=>az s (b:=IU) (o:=0) rfl jV bz) (ec r (fun _ u _ b d s=>ax s d.1 (cr hB b IR) IL rfl bz) (ec r (fun I2 u w' hb' hd r'=>aN r' (args:=[(z6 (ac c0)),(I c1),(I c2.at_)]) (lc hd.1 (lc hd.2.1 (lc hd.2.2.1 l0))) p7 ((mN _ c0 c1 c2.at_).mono JL)) (ec r (fun _ u _ b d s=>aw s rfl bz) (ec r (fun _ u _ b d s=>ax s rfl (cr hB b JB) mG rfl bz) ?_))))));exact bJ
 intro fr u w4 hb Iz hne r;have r:=r.congr (sc (Iz 6 ke) (sc (Iz 5 ke) (sc (Iz 4 ke) (sc (Iz 3 ke) (sc (Iz 2 ke) (sc (Iz 1 ke) (sc (Iz 0 ke) rfl)))))));have Z4:=hb.size;have H1:=keep hb H1;obtain ⟨hB,zB⟩:=IQ hb hB;have I4:=aP hF hB b1;refine kD r (gH (F:=(kW F w0 w4 b1)) (n:=n) I4 (D.dI c0 c1 c2.at_) a0 (c3n.mono O (fun b h=>.inl h) (I8.below hB hF) hB.size)) rfl iz rfl fun w5 v6 hb Kj r=>?_;have Z5:=hb.size
 have H1:=keep hb H1;obtain ⟨hB,zB⟩:=IQ hb hB;refine kP r Kj.shape rfl rfl H1 bv rfl rfl fun w8 u9 r=>?_;have Z8:=u9.size
 have H1:=u9.at_;obtain ⟨hB,zB⟩:=u9.on hB O
 exact wn (q4 (kR r Kj rfl rfl H1 rfl bu hF hB u9 O O O))
def D.mL (j:Nat) (E0:Plan->Int->J4->T Int) (c0:Plan) (c1:Int) (c2:J4) (c3:Int) (a0:Int):T Int:=(E0 c0 c1 (⟨(IntKind.i64.wrap (c2.at_ - 1)),c3,(IntKind.i64.wrap (c2.done+1))⟩:J4))
def D.pO (j:Nat) (E0:Plan->Int->J4->T Int) (c0:Plan) (c1:Int) (c2:Int) (c3:J4) (c4:Int):T Int:=(T.bind (D.jr j c0 c1) (fun x=>(D.mL j E0 c0 c2 c3 c4 x)))
def D.fN (j:Nat) (E0:Plan->Int->J4->T Int) (c0:Plan) (c1:Int) (c2:Int) (c3:Int) (c4:J4):T Int:=(D.ee (D.dZ c0 c1) (IntKind.u64.wrap c2) (fun _=>(D.pO j E0 c0 c3 c1 c4 c2)))
def D.iI (j:Nat) (E0:Plan->Int->J4->T Int) (a0:Plan) (a1:Int) (a2:J4) (a3:Int):T Int:=(bif (a2.at_==(IntKind.i64.wrap (a2.left - 1))) then ((fun _=>(D.fN j E0 a0 a1 (IntKind.i64.wrap (a2.left - 1)) a3 a2)) ()) else (D.dL (D.dI a0 a1 (IntKind.i64.wrap (a2.left - 1))) (fun x=>(D.nn a0 a1 a2 (fun _=>(D.fN j E0 a0 a1 (IntKind.i64.wrap (a2.left - 1)) a3 a2)) x))))
def D.fK (j:Nat) (E0:Plan->Int->J4->T Int) (c0:Plan) (c1:Int) (c2:J4) (c3:J4) (c4:Int) (a0:Bool):T Int:=(bif a0 then (E0 c0 c1 c2) else (D.iI j E0 c0 c1 c3 (IntKind.i64.wrap ((IntKind.i64.wrap c4) - 1))))
def D.iG (j:Nat) (E0:Plan->Int->J4->T Int) (c0:Plan) (c1:Int) (c2:J4) (c3:J4) (a0:Int):T Int:=(bif (decide (a0<1)) then (E0 c0 c1 c2) else (bif (decide (a0 > (IntKind.u64.wrap c0.nodes))) then (E0 c0 c1 c2) else (T.bind (D.nV j c0 (IntKind.i64.wrap ((IntKind.i64.wrap a0) - 1))) (fun x=>(D.fK j E0 c0 c1 c2 c3 a0 x)))))
def D.gA (j:Nat) (E0:Plan->Int->J4->T Int) (a0:Plan) (a1:Int) (a2:J4):T Int:=(bif (decide (a2.at_<0)) then (D.df a2.done) else (D.dL (D.dI a0 a1 a2.at_) (fun x=>(D.iG j E0 a0 a1 (⟨(IntKind.i64.wrap (a2.at_ - 1)),a2.left,a2.done⟩:J4) a2 x))))
def D.ek (j:Nat):Nat->Plan->Int->J4->T Int
 | 0,_,_,_=>.cut
 | k+1,a0,a1,a2=>D.gA j (D.ek j k) a0 a1 a2
def gD (r:Plan->Int->J4->T Int) (n:Nat):Prop:=∀ (F:Nat->Prop) (w0:World),(∀ b,F b->b<w0.heap.size)->∀ (a0:Plan) (a1:Int) (a2:J4),Calls B0 282 #[z6 (ac a0),.int .i64 a1,z6 (Kn a2)] w0 (aH B0 aj n (r a0 a1 a2) F w0)
theorem zt {E0:Plan->Int->J4->T Int} (hF:kH F w0) (hj:n<j) (H0:∀ m,m<=n->gD E0 m)
    (c0:Plan) {I5:Nat} (J9:F I5) (I3:w0.heap[I5]?=some (.cells ((ac c0)).toArray 23 (0,0))) (c1:Int) {IE:Nat} (Ka:F IE) (IA:w0.heap[IE]?=some (.cells ([(.int .i64 c1)]).toArray 3 (0,0))) (c2:J4) {IU:Nat} (c2F:F IU) (IR:w0.heap[IU]?=some (.cells ((Kn c2)).toArray 293 (0,0))) (c3:Int) {Jr:Nat} (c3F:F Jr) (JB:w0.heap[Jr]?=some (.cells ([(.int .i64 c3)]).toArray 3 (0,0))) (a0:Int) :
    Calls B0 383 #[.int .i64 a0,zp I5,zp IE,zp IU,zp Jr] w0 (aH B0 aj n (D.mL j E0 c0 c1 c2 c3 a0) F w0):=by
 refine kN Tryz.func383 rfl 18 rfl rfl fun fr r hB=>?_;have Jq:=q8 I3
 have Jy:=q8 IA;have Kg:=q8 IR;have KY:=q8 JB;refine I0 ?_;refine ah (.cells (kq aj) 119 (0,0)) r (fun R=>ag bP) rfl fun fr b1 w2 n3 r=>?_;obtain ⟨E1,Z2,H1,hB,zB⟩:=n3.all hB
 refine wn (I0 (kG (ac c0) 6 r rfl (keep hB I3) IJ rfl rfl fun r=>kL (I c1) r rfl (keep hB IA) IL rfl rfl fun r=>kF 0 r rfl jV rfl fun r=>kL (I c2.at_) r rfl (keep hB IR) IL rfl rfl fun r=>kB r rfl rfl rfl rfl rfl fun r=>kL (I c3) r rfl (keep hB JB) IL rfl rfl fun r=>kF 0 r rfl rJ rfl fun r=>kL (I c2.done) r rfl (keep hB IR) IL rfl rfl fun r=>kB r rfl rfl rfl rfl rfl fun r=>kU (.agg (Kn (⟨(W (c2.at_ - 1)),c3,(W (c2.done+1))⟩:J4)).toArray) r kz rfl fun r=>?_));have I4:=aP hF hB b1
 refine kD r ((H0 n O) (kW F w0 w2 b1) _ I4 c0 c1 (⟨(W (c2.at_ - 1)),c3,(W (c2.done+1))⟩:J4)) rfl mg rfl fun w4 v5 hb J0 r=>?_;have Z4:=hb.size
 have H1:=keep hb H1;obtain ⟨hB,zB⟩:=IQ hb hB;refine kP r J0.shape rfl rfl H1 bv rfl rfl fun w7 u8 r=>?_;have Z7:=u8.size
 have H1:=u8.at_;obtain ⟨hB,zB⟩:=u8.on hB O
 exact wn (q4 (kR r J0 rfl rfl H1 rfl bu hF hB u8 O O O))
theorem zU {E0:Plan->Int->J4->T Int} (hF:kH F w0) (hj:n<j) (H0:∀ m,m<n->gD E0 m)
    (c0:Plan) {I5:Nat} (J9:F I5) (I3:w0.heap[I5]?=some (.cells ((ac c0)).toArray 23 (0,0))) (c1:Int) {IE:Nat} (Ka:F IE) (IA:w0.heap[IE]?=some (.cells ([(.int .i64 c1)]).toArray 3 (0,0))) (c2:Int) {IU:Nat} (c2F:F IU) (IR:w0.heap[IU]?=some (.cells ([(.int .i64 c2)]).toArray 3 (0,0))) (c3:J4) {Jr:Nat} (c3F:F Jr) (JB:w0.heap[Jr]?=some (.cells ((Kn c3)).toArray 293 (0,0))) (c4:Int) {KG:Nat} (c4F:F KG) (c4h:w0.heap[KG]?=some (.cells ([(.int .i64 c4)]).toArray 3 (0,0))) :
    Calls B0 382 #[zp I5,zp IE,zp IU,zp Jr,zp KG] w0 (aH B0 aj n (D.pO j E0 c0 c1 c2 c3 c4) F w0):=by
 refine kN Tryz.func382 rfl 11 rfl rfl fun fr r hB=>?_;have Jq:=q8 I3
 have Jy:=q8 IA;have Kg:=q8 IR;have KY:=q8 JB;have lc4b:=q8 c4h;refine I0 ?_;refine ah (.cells (kq aj) 119 (0,0)) r (fun R=>ag bP) rfl fun fr b1 w2 n3 r=>?_;obtain ⟨E1,Z2,H1,hB,zB⟩:=n3.all hB
 refine wn (I0 (kG (ac c0) 6 r rfl (keep hB I3) IJ rfl rfl fun r=>kL (I c1) r rfl (keep hB IA) IL rfl rfl fun r=>?_));have I4:=aP hF hB b1
 refine kD r (tO (j:=j) (F:=(kW F w0 w2 b1)) (n:=n) I4 O c0 c1) rfl xV rfl fun w4 v5 hb J0 r=>?_;have Z4:=hb.size
 have H1:=keep hb H1;obtain ⟨hB,zB⟩:=IQ hb hB;refine aa (.func (.func 383) #[] #[zp I5,zp IU,zp Jr,zp KG]) r (fun R=>aZ r rfl) rfl fun fr r=>?_;have I4:=aP hF hB b1
 have f7:((kW F w0 w4 b1)) I5:=(.inl J9);have f8:((kW F w0 w4 b1)) IU:=(.inl c2F);have f9:((kW F w0 w4 b1)) Jr:=(.inl c3F);have f10:((kW F w0 w4 b1)) KG:=(.inl c4F);refine kD r (zu (F:=(kW F w0 w4 b1)) (n:=n) I4 (Jm.mono yae (I8.refl _ _) O n _ _ J0) ⟨383,[],[zp I5,zp IU,zp Jr,zp KG],Fz,rfl,fun m hm x w' hs hz=>zt (j:=j) (fun b hb=>q9 (I4 b hb) hz) O (fun m' hm'=>H0 m' O) c0 f7 (hs.at_ f7 (keep hB I3)) c2 f8 (hs.at_ f8 (keep hB IR)) c3 f9 (hs.at_ f9 (keep hB JB)) c4 f10 (hs.at_ f10 (keep hB c4h)) x⟩ (by first | rfl | (cases j with | zero=>omega | succ q=>rfl))) rfl mr rfl fun JV v12 hb KA r=>?_
 have Z11:=hb.size;have H1:=keep hb H1;obtain ⟨hB,zB⟩:=IQ hb hB;refine kP r KA.shape rfl rfl H1 bv rfl rfl fun w14 u15 r=>?_;have Z14:=u15.size
 have H1:=u15.at_;obtain ⟨hB,zB⟩:=u15.on hB O
 exact wn (q4 (kR r KA rfl rfl H1 rfl bu hF hB u15 O O O))
theorem tE {E0:Plan->Int->J4->T Int} (hF:kH F w0) (hj:n<j) (H0:∀ m,m<n->gD E0 m)
    (c0:Plan) {I5:Nat} (J9:F I5) (I3:w0.heap[I5]?=some (.cells ((ac c0)).toArray 23 (0,0))) (c1:Int) {IE:Nat} (Ka:F IE) (IA:w0.heap[IE]?=some (.cells ([(.int .i64 c1)]).toArray 3 (0,0))) (c2:Int) {IU:Nat} (c2F:F IU) (IR:w0.heap[IU]?=some (.cells ([(.int .i64 c2)]).toArray 3 (0,0))) (c3:Int) {Jr:Nat} (c3F:F Jr) (JB:w0.heap[Jr]?=some (.cells ([(.int .i64 c3)]).toArray 3 (0,0))) (c4:J4) {KG:Nat} (c4F:F KG) (c4h:w0.heap[KG]?=some (.cells ((Kn c4)).toArray 293 (0,0))) :
    Calls B0 381 #[zp I5,zp IE,zp IU,zp Jr,zp KG] w0 (aH B0 aj n (D.fN j E0 c0 c1 c2 c3 c4) F w0):=by
 refine kN Tryz.func381 rfl 13 rfl rfl fun fr r hB=>?_;have Jq:=q8 I3
 have Jy:=q8 IA;have Kg:=q8 IR;have KY:=q8 JB;have lc4b:=q8 c4h;refine I0 ?_;refine ah (.cells (kq aj) 119 (0,0)) r (fun R=>ag bP) rfl fun fr b1 w2 n3 r=>?_;obtain ⟨E1,Z2,H1,hB,zB⟩:=n3.all hB
 refine wn (d9 ?_);refine bI 6 [.val (z6 (ac c0)),.val (I c1),.val (I (D.dZ c0 c1)),.val (I c2),.val (U (V c2)),.val (.func (.func 382) #[] #[zp I5,zp Jr,zp IE,zp KG,zp IU])] mixed r kz (kV (kV (kV (kV (kV (kV bH)))))) ?_ ?_
 ·
  refine ec r (fun _ u _ b d s=>aU s (cs:=(ac c0)) (n:=6) rfl (cr hB b I3) IJ rfl bz) (ec r (fun _ u _ b d s=>ax s rfl (cr hB b IA) IL rfl bz) (ec r (fun I2 u w' hb' hd r'=>aN r' (args:=[(z6 (ac c0)),(I c1)]) (lc hd.1 (lc hd.2.1 l0)) pz ((mS _ c0 c1).mono JL)) (ec r (fun _ u _ b d s=>ax s rfl (cr hB b IR) IL rfl bz) (ec r (fun _ u _ b d s=>cV s (n:=c2) d.1 ti3 KO bz) (ec r (fun _ u _ b d s=>aZ s (v:=(.func (.func 382) #[] #[zp I5,zp Jr,zp IE,zp KG,zp IU])) rfl bz) ?_)))));exact bJ
 intro fr u w4 hb Iz hne r;have r:=r.congr (sc (Iz 5 ke) (sc (Iz 4 ke) (sc (Iz 3 ke) (sc (Iz 2 ke) (sc (Iz 1 ke) (sc (Iz 0 ke) rfl))))));have Z4:=hb.size;have H1:=keep hb H1;obtain ⟨hB,zB⟩:=IQ hb hB;have I4:=aP hF hB b1;have f5:((kW F w0 w4 b1)) I5:=(.inl J9);have f6:((kW F w0 w4 b1)) Jr:=(.inl c3F);have f7:((kW F w0 w4 b1)) IE:=(.inl Ka);have f8:((kW F w0 w4 b1)) KG:=(.inl c4F);have f9:((kW F w0 w4 b1)) IU:=(.inl c2F);refine kD r (gH (F:=(kW F w0 w4 b1)) (n:=n) I4 (D.dZ c0 c1) (V c2) ⟨382,[],[zp I5,zp Jr,zp IE,zp KG,zp IU],GR,rfl,fun m hm _ w' hs hz=>zU (j:=j) (fun b hb=>q9 (I4 b hb) hz) O (fun m' hm'=>H0 m' O) c0 f5 (hs.at_ f5 (keep hB I3)) c3 f6 (hs.at_ f6 (keep hB JB)) c1 f7 (hs.at_ f7 (keep hB IA)) c4 f8 (hs.at_ f8 (keep hB c4h)) c2 f9 (hs.at_ f9 (keep hB IR))⟩) rfl iz rfl fun J8 v11 hb Jl r=>?_;have Z10:=hb.size
 have H1:=keep hb H1;obtain ⟨hB,zB⟩:=IQ hb hB;refine kP r Jl.shape rfl rfl H1 bv rfl rfl fun Kc Kr r=>?_;have Z13:=Kr.size
 have H1:=Kr.at_;obtain ⟨hB,zB⟩:=Kr.on hB O
 exact wn (q4 (kR r Jl rfl rfl H1 rfl bu hF hB Kr O O O))
theorem Bh {E0:Plan->Int->J4->T Int} (hF:kH F w0) (hj:n<j) (H0:∀ m,m<n->gD E0 m)
    (a0:Plan) (a1:Int) (a2:J4) (a3:Int) :
    Calls B0 351 #[z6 (ac a0),.int .i64 a1,z6 (Kn a2),.int .i64 a3] w0 (aH B0 aj n (D.iI j E0 a0 a1 a2 a3) F w0):=by
 refine kN Tryz.func351 rfl 27 rfl rfl fun fr r hB=>?_;refine I0 ?_
 refine kX 23 (z6 (ac a0)) r rfl rfl fun b1 w2 n3 r=>?_;obtain ⟨E1,Z2,H1,hB,zB⟩:=n3.all hB
 refine kX 3 (I a1) r rfl rfl fun b4 w5 n6 r=>?_;have H1:=keep n6.below H1
 obtain ⟨E4,Z5,H4,hB,zB⟩:=n6.all hB;refine kX 293 (z6 (Kn a2)) r rfl rfl fun b7 w8 n9 r=>?_;have H1:=keep n9.below H1
 have H4:=keep n9.below H4;obtain ⟨E7,Z8,H7,hB,zB⟩:=n9.all hB;refine kX 3 (I a3) r rfl rfl fun b10 JV JN r=>?_;have H1:=keep JN.below H1
 have H4:=keep JN.below H4;have H7:=keep JN.below H7;obtain ⟨E10,Z11,Jp,hB,zB⟩:=JN.all hB;refine ah (.cells (kq aj) 119 (0,0)) r (fun R=>ag bP) rfl fun fr b13 w14 n15 r=>?_;have H1:=keep n15.below H1
 have H4:=keep n15.below H4;have H7:=keep n15.below H7;have Jp:=keep n15.below Jp;obtain ⟨E13,Z14,K0,hB,zB⟩:=n15.all hB;refine wn (I0 (kF 0 r rfl wT rfl fun r=>kL (I a2.left) r rfl H7 IL rfl rfl fun r=>kB r rfl rfl rfl rfl rfl fun r=>?_));refine ah (.cells #[(I 0)] 3 (0,0)) r (fun R=>ag tz3) rfl fun fr b16 w17 n18 r=>?_
 have H1:=keep n18.below H1;have H4:=keep n18.below H4;have H7:=keep n18.below H7;have Jp:=keep n18.below Jp;have K0:=keep n18.below K0;obtain ⟨E16,Z17,H16,hB,zB⟩:=n18.all hB;refine aM (.cells #[(I (W (a2.left - 1)))] 3 (0,0)) r (fun R=>bb r (o:=0) (v:=(I (W (a2.left - 1)))) rfl rfl H16 ts3 u7 rfl rfl) rfl fun fr w19 u20 r=>?_;have Z19:=u20.size
 have H1:=u20.keep H1 O
 have H4:=u20.keep H4 O
 have H7:=u20.keep H7 O
 have Jp:=u20.keep Jp O
 have K0:=u20.keep K0 O
 have H16:=u20.at_;obtain ⟨hB,zB⟩:=u20.on hB O
 refine wn (I0 (aa (.func (.func 381) #[] #[zp b1,zp b4,zp b16,zp b10,zp b7]) r (fun R=>aZ r rfl) rfl fun fr r=>?_));refine ah (.cells #[.nilFunc] 239 (0,0)) r (fun R=>ag Hj) rfl fun fr b21 w22 n23 r=>?_
 have H1:=keep n23.below H1;have H4:=keep n23.below H4;have H7:=keep n23.below H7;have Jp:=keep n23.below Jp;have K0:=keep n23.below K0;have H16:=keep n23.below H16;obtain ⟨E21,Z22,H21,hB,zB⟩:=n23.all hB;refine aM (.cells #[.func (.func 381) #[] #[zp b1,zp b4,zp b16,zp b10,zp b7]] 239 (0,0)) r (fun R=>bb r (o:=0) (v:=(.func (.func 381) #[] #[zp b1,zp b4,zp b16,zp b10,zp b7])) rfl rfl H21 Ga u7 rfl rfl) rfl fun fr w24 u25 r=>?_;have Z24:=u25.size
 have H1:=u25.keep H1 O
 have H4:=u25.keep H4 O
 have H7:=u25.keep H7 O
 have Jp:=u25.keep Jp O
 have K0:=u25.keep K0 O
 have H16:=u25.keep H16 O
 have H21:=u25.at_;obtain ⟨hB,zB⟩:=u25.on hB O
 refine wn (d9 (I0 (kF 0 r rfl jV rfl fun r=>kL (I a2.at_) r rfl H7 IL rfl rfl fun r=>kL (I (W (a2.left - 1))) r rfl H16 IL rfl rfl fun r=>kB r rfl rfl rfl rfl rfl fun r=>wn ?_)));refine q5 (t:=(a2.at_==(W (a2.left - 1)))) (r.ev rfl) (fun h26=>?_) (fun h26=>?_)
 ·
  refine I0 (kL (.func (.func 381) #[] #[zp b1,zp b4,zp b16,zp b10,zp b7]) r rfl H21 mG rfl rfl fun r=>?_);have I4:=aP hF hB b13
  have f27:((kW F w0 w24 b13)) b1:=(.inr ⟨O,O,O⟩)
  have f28:((kW F w0 w24 b13)) b4:=(.inr ⟨O,O,O⟩)
  have f29:((kW F w0 w24 b13)) b16:=(.inr ⟨O,O,O⟩)
  have f30:((kW F w0 w24 b13)) b10:=(.inr ⟨O,O,O⟩)
  have f31:((kW F w0 w24 b13)) b7:=(.inr ⟨O,O,O⟩)
  have q32:Kq B0 aj unitE (n+1) (kW F w0 w24 b13) w24 (.func (.func 381) #[] #[zp b1,zp b4,zp b16,zp b10,zp b7]) (fun _=>(D.fN j E0 a0 a1 (W (a2.left - 1)) a3 a2)):=⟨381,[],[zp b1,zp b4,zp b16,zp b10,zp b7],yt,rfl,fun m hm _ w' hs hz=>tE (j:=j) (fun b hb=>q9 (I4 b hb) hz) O (fun m' hm'=>H0 m' O) a0 f27 (hs.at_ f27 H1) a1 f28 (hs.at_ f28 H4) (W (a2.left - 1)) f29 (hs.at_ f29 H16) a3 f30 (hs.at_ f30 Jp) a2 f31 (hs.at_ f31 H7)⟩
  refine cS r (q32.at_.2 n (Nat.lt_succ_self n) () w24 (I8.refl _ _) (Nat.le_refl _)) (fun R hc=>iW r rfl q32.at_.1 hc) rfl ?_;rintro _ w33 ⟨v34,rfl,hb,hr35⟩
  refine ⟨_,rfl,fun fr r=>?_⟩
  have Z33:=hb.size;have H1:=keep hb H1;have H4:=keep hb H4;have H7:=keep hb H7;have Jp:=keep hb Jp;have K0:=keep hb K0;have H16:=keep hb H16;have H21:=keep hb H21;obtain ⟨hB,zB⟩:=IQ hb hB;refine kP r hr35.shape rfl rfl K0 bv rfl rfl fun w36 u37 r=>?_;have Z36:=u37.size
  have H1:=u37.keep H1 O
  have H4:=u37.keep H4 O
  have H7:=u37.keep H7 O
  have Jp:=u37.keep Jp O
  have H16:=u37.keep H16 O
  have H21:=u37.keep H21 O
  have K0:=u37.at_;obtain ⟨hB,zB⟩:=u37.on hB O
  refine wn (q4 ?_);have hd:D.iI j E0 a0 a1 a2 a3=((fun _=>(D.fN j E0 a0 a1 (W (a2.left - 1)) a3 a2)) ()):=(ar h26).trans (rfl)
  have hs:=hr35.shape.cells;refine ak r rfl rfl K0 (k:=7) hs.1 bu ?_;rw [<-hs.2.2,hd];exact JR hF hB hr35 u37 O O O
 refine q7 (I0 (kG (ac a0) 6 r rfl H1 IJ rfl rfl fun r=>kL (I a1) r rfl H4 IL rfl rfl fun r=>kL (I (W (a2.left - 1))) r rfl H16 IL rfl rfl fun r=>?_));refine kE r (mN w24 a0 a1 (W (a2.left - 1))) rfl p7 rfl fun w38 hb r=>?_
 have Z38:=hb.size;have H1:=keep hb H1;have H4:=keep hb H4;have H7:=keep hb H7;have Jp:=keep hb Jp;have K0:=keep hb K0;have H16:=keep hb H16;have H21:=keep hb H21;obtain ⟨hB,zB⟩:=IQ hb hB;refine aa (.func (.func 384) #[] #[zp b1,zp b4,zp b7,zp b21]) r (fun R=>aZ r rfl) rfl fun fr r=>?_;have I4:=aP hF hB b13
 have f39:((kW F w0 w38 b13)) b1:=(.inr ⟨O,O,O⟩)
 have f40:((kW F w0 w38 b13)) b4:=(.inr ⟨O,O,O⟩)
 have f41:((kW F w0 w38 b13)) b7:=(.inr ⟨O,O,O⟩)
 have f42:((kW F w0 w38 b13)) b21:=(.inr ⟨O,O,O⟩)
 have f44:((kW F w0 w38 b13)) b1:=(.inr ⟨O,O,O⟩)
 have f45:((kW F w0 w38 b13)) b4:=(.inr ⟨O,O,O⟩)
 have f46:((kW F w0 w38 b13)) b16:=(.inr ⟨O,O,O⟩)
 have f47:((kW F w0 w38 b13)) b10:=(.inr ⟨O,O,O⟩)
 have f48:((kW F w0 w38 b13)) b7:=(.inr ⟨O,O,O⟩)
 have q43:Kq B0 aj unitE (n) (kW F w0 w38 b13) w38 (.func (.func 381) #[] #[zp b1,zp b4,zp b16,zp b10,zp b7]) (fun _=>(D.fN j E0 a0 a1 (W (a2.left - 1)) a3 a2)):=⟨381,[],[zp b1,zp b4,zp b16,zp b10,zp b7],yt,rfl,fun m hm _ w' hs hz=>tE (j:=j) (fun b hb=>q9 (I4 b hb) hz) O (fun m' hm'=>H0 m' O) a0 f44 (hs.at_ f44 H1) a1 f45 (hs.at_ f45 H4) (W (a2.left - 1)) f46 (hs.at_ f46 H16) a3 f47 (hs.at_ f47 Jp) a2 f48 (hs.at_ f48 H7)⟩
 refine kD r (fP (F:=(kW F w0 w38 b13)) (n:=n) I4 (D.dI a0 a1 (W (a2.left - 1))) ⟨384,[],[zp b1,zp b4,zp b7,zp b21],Gb,rfl,fun m hm x w' hs hz=>Az (fun b hb=>q9 (I4 b hb) hz) a0 f39 (hs.at_ f39 H1) a1 f40 (hs.at_ f40 H4) a2 f41 (hs.at_ f41 H7) f42 (hs.at_ f42 H21) (q43.mono O (fun b h=>h) hs hz) x⟩) rfl gx rfl fun w49 v50 hb hr51 r=>?_;have Z49:=hb.size
 have H1:=keep hb H1;have H4:=keep hb H4;have H7:=keep hb H7;have Jp:=keep hb Jp;have K0:=keep hb K0;have H16:=keep hb H16;have H21:=keep hb H21;obtain ⟨hB,zB⟩:=IQ hb hB;refine kP r hr51.shape rfl rfl K0 bv rfl rfl fun w52 u53 r=>?_;have Z52:=u53.size
 have H1:=u53.keep H1 O
 have H4:=u53.keep H4 O
 have H7:=u53.keep H7 O
 have Jp:=u53.keep Jp O
 have H16:=u53.keep H16 O
 have H21:=u53.keep H21 O
 have K0:=u53.at_;obtain ⟨hB,zB⟩:=u53.on hB O
 refine wn (q4 ?_);have hd:D.iI j E0 a0 a1 a2 a3=(D.dL (D.dI a0 a1 (W (a2.left - 1))) (fun x=>(D.nn a0 a1 a2 (fun _=>(D.fN j E0 a0 a1 (W (a2.left - 1)) a3 a2)) x))):=(ai h26).trans (rfl)
 have hs:=hr51.shape.cells;refine ak r rfl rfl K0 (k:=7) hs.1 bu ?_;rw [<-hs.2.2,hd];exact JR hF hB hr51 u53 O O O
theorem zZ {E0:Plan->Int->J4->T Int} (hF:kH F w0) (hj:n<j) (H0:∀ m,m<=n->gD E0 m)
    (c0:Plan) {I5:Nat} (J9:F I5) (I3:w0.heap[I5]?=some (.cells ((ac c0)).toArray 23 (0,0))) (c1:Int) {IE:Nat} (Ka:F IE) (IA:w0.heap[IE]?=some (.cells ([(.int .i64 c1)]).toArray 3 (0,0))) (c2:J4) {IU:Nat} (c2F:F IU) (IR:w0.heap[IU]?=some (.cells ((Kn c2)).toArray 293 (0,0))) (c3:J4) {Jr:Nat} (c3F:F Jr) (JB:w0.heap[Jr]?=some (.cells ((Kn c3)).toArray 293 (0,0))) (c4:Int) {KG:Nat} (c4F:F KG) (c4h:w0.heap[KG]?=some (.cells ([(.int .u64 c4)]).toArray 34 (0,0))) (a0:Bool) :
    Calls B0 350 #[.bool a0,zp I5,zp IE,zp IU,zp Jr,zp KG] w0 (aH B0 aj n (D.fK j E0 c0 c1 c2 c3 c4 a0) F w0):=by
 refine kN Tryz.func350 rfl 20 rfl rfl fun fr r hB=>?_;have Jq:=q8 I3
 have Jy:=q8 IA;have Kg:=q8 IR;have KY:=q8 JB;have lc4b:=q8 c4h;refine I0 ?_;refine ah (.cells (kq aj) 119 (0,0)) r (fun R=>ag bP) rfl fun fr b1 w2 n3 r=>?_;obtain ⟨E1,Z2,H1,hB,zB⟩:=n3.all hB
 refine wn (d9 (I0 (kM (.bool a0) r rfl rfl fun r=>wn ?_)));refine q5 (t:=a0) (r.ev rfl) (fun h4=>?_) (fun h4=>?_)
 ·
  refine I0 (kG (ac c0) 6 r rfl (keep hB I3) IJ rfl rfl fun r=>kL (I c1) r rfl (keep hB IA) IL rfl rfl fun r=>kG (Kn c2) 3 r rfl (keep hB IR) p8 rfl rfl fun r=>?_);have I4:=aP hF hB b1
  refine kD r ((H0 n O) (kW F w0 w2 b1) _ I4 c0 c1 c2) rfl mg rfl fun w5 v6 hb Kj r=>?_;have Z5:=hb.size
  have H1:=keep hb H1;obtain ⟨hB,zB⟩:=IQ hb hB;refine kP r Kj.shape rfl rfl H1 bv rfl rfl fun w8 u9 r=>?_;have Z8:=u9.size
  have H1:=u9.at_;obtain ⟨hB,zB⟩:=u9.on hB O
  refine wn (q4 ?_);have hd:D.fK j E0 c0 c1 c2 c3 c4 a0=(E0 c0 c1 c2):=(ar h4).trans (rfl);have hs:=Kj.shape.cells;refine ak r rfl rfl H1 (k:=7) hs.1 bu ?_;rw [<-hs.2.2,hd];exact JR hF hB Kj u9 O O O
 refine q7 (I0 (kG (ac c0) 6 r rfl (keep hB I3) IJ rfl rfl fun r=>kL (I c1) r rfl (keep hB IA) IL rfl rfl fun r=>kG (Kn c3) 3 r rfl (keep hB JB) p8 rfl rfl fun r=>kL (U c4) r rfl (keep hB c4h) Ja rfl rfl fun r=>aa (I (W c4)) r (fun R=>cV r rfl KO ti3) rfl fun fr r=>kB r rfl rfl rfl rfl rfl fun r=>?_));have I4:=aP hF hB b1
 refine kD r (Bh (j:=j) (F:=(kW F w0 w2 b1)) (n:=n) I4 O (fun m' hm'=>H0 m' O) c0 c1 c3 (W ((W c4) - 1))) rfl Fs rfl fun J8 v11 hb Jl r=>?_;have Z10:=hb.size
 have H1:=keep hb H1;obtain ⟨hB,zB⟩:=IQ hb hB;refine kP r Jl.shape rfl rfl H1 bv rfl rfl fun Kc Kr r=>?_;have Z13:=Kr.size
 have H1:=Kr.at_;obtain ⟨hB,zB⟩:=Kr.on hB O
 refine wn (q4 ?_);have hd:D.fK j E0 c0 c1 c2 c3 c4 a0=(D.iI j E0 c0 c1 c3 (W ((W c4) - 1))):=(ai h4).trans (rfl);have hs:=Jl.shape.cells;refine ak r rfl rfl H1 (k:=7) hs.1 bu ?_;rw [<-hs.2.2,hd];exact JR hF hB Jl Kr O O O
theorem AC {E0:Plan->Int->J4->T Int} (hF:kH F w0) (hj:n<j) (H0:∀ m,m<=n->gD E0 m)
    (c0:Plan) {I5:Nat} (J9:F I5) (I3:w0.heap[I5]?=some (.cells ((ac c0)).toArray 23 (0,0))) (c1:Int) {IE:Nat} (Ka:F IE) (IA:w0.heap[IE]?=some (.cells ([(.int .i64 c1)]).toArray 3 (0,0))) (c2:J4) {IU:Nat} (c2F:F IU) (IR:w0.heap[IU]?=some (.cells ((Kn c2)).toArray 293 (0,0))) (c3:J4) {Jr:Nat} (c3F:F Jr) (JB:w0.heap[Jr]?=some (.cells ((Kn c3)).toArray 293 (0,0))) (a0:Int) :
    Calls B0 347 #[.int .u64 a0,zp I5,zp IE,zp IU,zp Jr] w0 (aH B0 aj n (D.iG j E0 c0 c1 c2 c3 a0) F w0):=by
 refine kN Tryz.func347 rfl 27 rfl rfl fun fr r hB=>?_;have Jq:=q8 I3
 have Jy:=q8 IA;have Kg:=q8 IR;have KY:=q8 JB;refine I0 ?_;refine kX 34 (U a0) r rfl rfl fun b1 w2 n3 r=>?_;obtain ⟨E1,Z2,H1,hB,zB⟩:=n3.all hB
 refine ah (.cells (kq aj) 119 (0,0)) r (fun R=>ag bP) rfl fun fr b4 w5 n6 r=>?_;have H1:=keep n6.below H1
 obtain ⟨E4,Z5,H4,hB,zB⟩:=n6.all hB;refine wn (d9 (I0 (kL (U a0) r rfl H1 Ja rfl rfl fun r=>kB r rfl rfl rfl rfl rfl fun r=>kM (.bool (decide (a0<1))) r rfl rfl fun r=>?_)));refine bG (decide (a0<1)) (fun h7=>?_) (fun h7=>?_)
 ·
  refine s0 r h7 fun fr r=>s0 r h7 fun fr r=>s0 r h7 fun fr r=>s0 r h7 fun fr r=>s0 r h7 fun fr r=>aa (.bool true) r (fun R=>ay r (b:=true) (kb h7) rfl) rfl fun fr r=>wn ?_;refine q5 (t:=true) (r.ev rfl) (fun _=>?_) (fun h=>absurd ((rfl:true=_).symm.trans h) ke)
  refine I0 (kG (ac c0) 6 r rfl (keep hB I3) IJ rfl rfl fun r=>kL (I c1) r rfl (keep hB IA) IL rfl rfl fun r=>kG (Kn c2) 3 r rfl (keep hB IR) p8 rfl rfl fun r=>?_);have I4:=aP hF hB b4
  refine kD r ((H0 n O) (kW F w0 w5 b4) _ I4 c0 c1 c2) rfl mg rfl fun w8 v9 hb Jv r=>?_;have Z8:=hb.size
  have H1:=keep hb H1;have H4:=keep hb H4;obtain ⟨hB,zB⟩:=IQ hb hB;refine kP r Jv.shape rfl rfl H4 bv rfl rfl fun JV JH r=>?_;have Z11:=JH.size
  have H1:=JH.keep H1 O
  have H4:=JH.at_;obtain ⟨hB,zB⟩:=JH.on hB O
  refine wn (q4 ?_);have hd:D.iG j E0 c0 c1 c2 c3 a0=(E0 c0 c1 c2):=(ar h7).trans (rfl);have hs:=Jv.shape.cells;refine ak r rfl rfl H4 (k:=7) hs.1 bu ?_;rw [<-hs.2.2,hd];exact JR hF hB Jv JH O O O
 refine s1 r h7 (kL (U a0) r rfl H1 Ja rfl rfl fun r=>s1 r h7 (kF 0 r rfl eR rfl fun r=>s1 r h7 (kL (I c0.nodes) r rfl (keep hB I3) IL rfl rfl fun r=>s1 r h7 (aa (U (V c0.nodes)) r (fun R=>cV r rfl ti3 KO) rfl fun fr r=>s1 r h7 (kB r rfl rfl rfl rfl rfl fun r=>aa (.bool (decide (a0 > (V c0.nodes)))) r (fun R=>ay r (b:=false) (kb h7) rfl) rfl fun fr r=>wn ?_)))));refine q5 (t:=(decide (a0 > (V c0.nodes)))) (r.ev rfl) (fun J6=>?_) (fun J6=>?_)
 ·
  refine I0 (kG (ac c0) 6 r rfl (keep hB I3) IJ rfl rfl fun r=>kL (I c1) r rfl (keep hB IA) IL rfl rfl fun r=>kG (Kn c2) 3 r rfl (keep hB IR) p8 rfl rfl fun r=>?_);have I4:=aP hF hB b4
  refine kD r ((H0 n O) (kW F w0 w5 b4) _ I4 c0 c1 c2) rfl mg rfl fun w14 JF hb KM r=>?_;have Z14:=hb.size
  have H1:=keep hb H1;have H4:=keep hb H4;obtain ⟨hB,zB⟩:=IQ hb hB;refine kP r KM.shape rfl rfl H4 bv rfl rfl fun w17 K7 r=>?_;have Z17:=K7.size
  have H1:=K7.keep H1 O
  have H4:=K7.at_;obtain ⟨hB,zB⟩:=K7.on hB O
  refine wn (q4 ?_);have hd:D.iG j E0 c0 c1 c2 c3 a0=(E0 c0 c1 c2):=(ai h7).trans ((ar J6).trans (rfl));have hs:=KM.shape.cells;refine ak r rfl rfl H4 (k:=7) hs.1 bu ?_;rw [<-hs.2.2,hd];exact JR hF hB KM K7 O O O
 refine q7 (I0 (kG (ac c0) 6 r rfl (keep hB I3) IJ rfl rfl fun r=>kL (U a0) r rfl H1 Ja rfl rfl fun r=>aa (I (W a0)) r (fun R=>cV r rfl KO ti3) rfl fun fr r=>kB r rfl rfl rfl rfl rfl fun r=>?_));have I4:=aP hF hB b4
 refine kD r (C6 (j:=j) (F:=(kW F w0 w5 b4)) (n:=n) I4 O c0 (W ((W a0) - 1))) rfl Gi rfl fun w19 v20 hb hr21 r=>?_;have Z19:=hb.size
 have H1:=keep hb H1;have H4:=keep hb H4;obtain ⟨hB,zB⟩:=IQ hb hB;refine aa (.func (.func 350) #[] #[zp I5,zp IE,zp IU,zp Jr,zp b1]) r (fun R=>aZ r rfl) rfl fun fr r=>?_;have I4:=aP hF hB b4
 have f22:((kW F w0 w19 b4)) I5:=(.inl J9);have f23:((kW F w0 w19 b4)) IE:=(.inl Ka);have f24:((kW F w0 w19 b4)) IU:=(.inl c2F);have f25:((kW F w0 w19 b4)) Jr:=(.inl c3F);have f26:((kW F w0 w19 b4)) b1:=(.inr ⟨O,O,O⟩)
 refine kD r (zl (F:=(kW F w0 w19 b4)) (n:=n) I4 (Jm.mono yae (I8.refl _ _) O n _ _ hr21) ⟨350,[],[zp I5,zp IE,zp IU,zp Jr,zp b1],FV,rfl,fun m hm x w' hs hz=>zZ (j:=j) (fun b hb=>q9 (I4 b hb) hz) O (fun m' hm'=>H0 m' O) c0 f22 (hs.at_ f22 (keep hB I3)) c1 f23 (hs.at_ f23 (keep hB IA)) c2 f24 (hs.at_ f24 (keep hB IR)) c3 f25 (hs.at_ f25 (keep hB JB)) a0 f26 (hs.at_ f26 H1) x⟩) rfl yw rfl fun w27 v28 hb hr29 r=>?_
 have Z27:=hb.size;have H1:=keep hb H1;have H4:=keep hb H4;obtain ⟨hB,zB⟩:=IQ hb hB;refine kP r hr29.shape rfl rfl H4 bv rfl rfl fun w30 u31 r=>?_;have Z30:=u31.size
 have H1:=u31.keep H1 O
 have H4:=u31.at_;obtain ⟨hB,zB⟩:=u31.on hB O
 refine wn (q4 ?_);have hd:D.iG j E0 c0 c1 c2 c3 a0=(T.bind (D.nV j c0 (W ((W a0) - 1))) (fun x=>(D.fK j E0 c0 c1 c2 c3 a0 x))):=(ai h7).trans ((ai J6).trans (rfl))
 have hs:=hr29.shape.cells;refine ak r rfl rfl H4 (k:=7) hs.1 bu ?_;rw [<-hs.2.2,hd];exact JR hF hB hr29 u31 O O O
theorem AZ {n:Nat} {F:Nat->Prop} {j:Nat} {E0:Plan->Int->J4->T Int} {w0:World} (hF:∀ b,F b->b<w0.heap.size) (hj:n<j) (H0:∀ m,m<n->gD E0 m)
    (a0:Plan) (a1:Int) (a2:J4) :
    Calls B0 282 #[z6 (ac a0),.int .i64 a1,z6 (Kn a2)] w0 (aH B0 aj n (D.gA j E0 a0 a1 a2) F w0):=by
 refine kN Tryz.func282 rfl 29 rfl rfl fun fr r hB=>?_;refine I0 ?_
 refine kX 23 (z6 (ac a0)) r rfl rfl fun b1 w2 n3 r=>?_;obtain ⟨E1,Z2,H1,hB,zB⟩:=n3.all hB
 refine kX 3 (I a1) r rfl rfl fun b4 w5 n6 r=>?_;have H1:=keep n6.below H1
 obtain ⟨E4,Z5,H4,hB,zB⟩:=n6.all hB;refine kX 293 (z6 (Kn a2)) r rfl rfl fun b7 w8 n9 r=>?_;have H1:=keep n9.below H1
 have H4:=keep n9.below H4;obtain ⟨E7,Z8,H7,hB,zB⟩:=n9.all hB;refine ah (.cells (kq aj) 119 (0,0)) r (fun R=>ag bP) rfl fun fr b10 JV JN r=>?_;have H1:=keep JN.below H1
 have H4:=keep JN.below H4;have H7:=keep JN.below H7;obtain ⟨E10,Z11,Jp,hB,zB⟩:=JN.all hB;refine wn (d9 (I0 (kF 0 r rfl jV rfl fun r=>kL (I a2.at_) r rfl H7 IL rfl rfl fun r=>kB r rfl rfl rfl rfl rfl fun r=>wn ?_)));refine q5 (t:=(decide (a2.at_<0))) (r.ev rfl) (fun J6=>?_) (fun J6=>?_)
 ·
  refine I0 (kF 0 r rfl rJ rfl fun r=>kL (I a2.done) r rfl H7 IL rfl rfl fun r=>?_);have I4:=aP hF hB b10
  refine kD r (eT (F:=(kW F w0 JV b10)) (n:=n) I4 a2.done) rfl fe rfl fun w14 JF hb KM r=>?_;have Z14:=hb.size
  have H1:=keep hb H1;have H4:=keep hb H4;have H7:=keep hb H7;have Jp:=keep hb Jp;obtain ⟨hB,zB⟩:=IQ hb hB;refine kP r KM.shape rfl rfl Jp bv rfl rfl fun w17 K7 r=>?_;have Z17:=K7.size
  have H1:=K7.keep H1 O
  have H4:=K7.keep H4 O
  have H7:=K7.keep H7 O
  have Jp:=K7.at_;obtain ⟨hB,zB⟩:=K7.on hB O
  refine wn (q4 ?_);have hd:D.gA j E0 a0 a1 a2=(D.df a2.done):=(ar J6).trans (rfl);have hs:=KM.shape.cells;refine ak r rfl rfl Jp (k:=7) hs.1 bu ?_;rw [<-hs.2.2,hd];exact JR hF hB KM K7 O O O
 refine q7 (I0 (kF 0 r rfl jV rfl fun r=>kL (I a2.at_) r rfl H7 IL rfl rfl fun r=>kB r rfl rfl rfl rfl rfl fun r=>kF 0 r rfl wT rfl fun r=>kL (I a2.left) r rfl H7 IL rfl rfl fun r=>kF 0 r rfl rJ rfl fun r=>kL (I a2.done) r rfl H7 IL rfl rfl fun r=>kU (.agg (Kn (⟨(W (a2.at_ - 1)),a2.left,a2.done⟩:J4)).toArray) r kz rfl fun r=>?_));refine ah (.cells ((Kn (⟨0,0,0⟩:J4))).toArray 293 (0,0)) r (fun R=>ag Fv) rfl fun fr b19 w20 n21 r=>?_
 have H1:=keep n21.below H1;have H4:=keep n21.below H4;have H7:=keep n21.below H7;have Jp:=keep n21.below Jp;obtain ⟨E19,Z20,H19,hB,zB⟩:=n21.all hB;refine aM (.cells ((Kn (⟨(W (a2.at_ - 1)),a2.left,a2.done⟩:J4))).toArray 293 (0,0)) r (fun R=>bb r (o:=0) (v:=(.agg (Kn (⟨(W (a2.at_ - 1)),a2.left,a2.done⟩:J4)).toArray)) rfl rfl H19 FP u7 rfl rfl) rfl fun fr w22 u23 r=>?_;have Z22:=u23.size
 have H1:=u23.keep H1 O
 have H4:=u23.keep H4 O
 have H7:=u23.keep H7 O
 have Jp:=u23.keep Jp O
 have H19:=u23.at_;obtain ⟨hB,zB⟩:=u23.on hB O
 refine wn (I0 (kG (ac a0) 6 r rfl H1 IJ rfl rfl fun r=>kL (I a1) r rfl H4 IL rfl rfl fun r=>kF 0 r rfl jV rfl fun r=>kL (I a2.at_) r rfl H7 IL rfl rfl fun r=>?_));refine kE r (mN w22 a0 a1 a2.at_) rfl p7 rfl fun w24 hb r=>?_
 have Z24:=hb.size;have H1:=keep hb H1;have H4:=keep hb H4;have H7:=keep hb H7;have Jp:=keep hb Jp;have H19:=keep hb H19;obtain ⟨hB,zB⟩:=IQ hb hB;refine aa (.func (.func 347) #[] #[zp b1,zp b4,zp b19,zp b7]) r (fun R=>aZ r rfl) rfl fun fr r=>?_;have I4:=aP hF hB b10
 have f25:((kW F w0 w24 b10)) b1:=(.inr ⟨O,O,O⟩)
 have f26:((kW F w0 w24 b10)) b4:=(.inr ⟨O,O,O⟩)
 have f27:((kW F w0 w24 b10)) b19:=(.inr ⟨O,O,O⟩)
 have f28:((kW F w0 w24 b10)) b7:=(.inr ⟨O,O,O⟩)
 refine kD r (fP (F:=(kW F w0 w24 b10)) (n:=n) I4 (D.dI a0 a1 a2.at_) ⟨347,[],[zp b1,zp b4,zp b19,zp b7],Fl,rfl,fun m hm x w' hs hz=>AC (j:=j) (fun b hb=>q9 (I4 b hb) hz) O (fun m' hm'=>H0 m' O) a0 f25 (hs.at_ f25 H1) a1 f26 (hs.at_ f26 H4) (⟨(W (a2.at_ - 1)),a2.left,a2.done⟩:J4) f27 (hs.at_ f27 H19) a2 f28 (hs.at_ f28 H7) x⟩) rfl gx rfl fun w29 v30 hb hr31 r=>?_;have Z29:=hb.size
 have H1:=keep hb H1;have H4:=keep hb H4;have H7:=keep hb H7;have Jp:=keep hb Jp;have H19:=keep hb H19;obtain ⟨hB,zB⟩:=IQ hb hB;refine kP r hr31.shape rfl rfl Jp bv rfl rfl fun w32 u33 r=>?_;have Z32:=u33.size
 have H1:=u33.keep H1 O
 have H4:=u33.keep H4 O
 have H7:=u33.keep H7 O
 have H19:=u33.keep H19 O
 have Jp:=u33.at_;obtain ⟨hB,zB⟩:=u33.on hB O
 refine wn (q4 ?_);have hd:D.gA j E0 a0 a1 a2=(D.dL (D.dI a0 a1 a2.at_) (fun x=>(D.iG j E0 a0 a1 (⟨(W (a2.at_ - 1)),a2.left,a2.done⟩:J4) a2 x))):=(ai J6).trans (rfl)
 have hs:=hr31.shape.cells;refine ak r rfl rfl Jp (k:=7) hs.1 bu ?_;rw [<-hs.2.2,hd];exact JR hF hB hr31 u33 O O O
theorem Bi {n:Nat} {j:Nat} (hj:n<j) {k:Nat} (hk:n<k):gD (D.ek j k) n:=by
 induction n using Nat.strongRecOn generalizing k with
 | _ n ih=>
  obtain ⟨k,rfl⟩:∃ q,k=q+1:=⟨k - 1,O⟩
  intro F w0 hF;have h:=@AZ n F j (D.ek j k) w0 hF hj (fun m hm=>ih m hm O O)
  exact h
def D.qx (j:Nat) (c0:Plan) (c1:Int) (a0:Int):T Int:=(D.ek j j c0 c1 (⟨(IntKind.i64.wrap ((IntKind.i64.wrap (minI a0 (IntKind.u64.wrap c0.retire))) - 1)),(IntKind.i64.wrap (minI a0 (IntKind.u64.wrap c0.retire))),0⟩:J4))
theorem Bp (hF:kH F w0) (hj:n<j)
    (c0:Plan) {I5:Nat} (J9:F I5) (I3:w0.heap[I5]?=some (.cells ((ac c0)).toArray 23 (0,0))) (c1:Int) {IE:Nat} (Ka:F IE) (IA:w0.heap[IE]?=some (.cells ([(.int .i64 c1)]).toArray 3 (0,0))) (a0:Int) :
    Calls B0 281 #[.int .u64 a0,zp I5,zp IE] w0 (aH B0 aj n (D.qx j c0 c1 a0) F w0):=by
 refine kN Tryz.func281 rfl 19 rfl rfl fun fr r hB=>?_;have Jq:=q8 I3
 have Jy:=q8 IA;refine I0 ?_;refine ah (.cells (kq aj) 119 (0,0)) r (fun R=>ag bP) rfl fun fr b1 w2 n3 r=>?_;obtain ⟨E1,Z2,H1,hB,zB⟩:=n3.all hB
 refine wn (I0 (kM (U a0) r rfl rfl fun r=>kF 0 r rfl fa rfl fun r=>kL (I c0.retire) r rfl (keep hB I3) IL rfl rfl fun r=>aa (U (V c0.retire)) r (fun R=>cV r rfl ti3 KO) rfl fun fr r=>aa (U (minI a0 (V c0.retire))) r (fun R=>EW r (m:=a0) (n:=(V c0.retire)) rfl rfl) rfl fun fr r=>aa (I (W (minI a0 (V c0.retire)))) r (fun R=>cV r rfl KO ti3) rfl fun fr r=>kA (I (W (minI a0 (V c0.retire)))) r rfl rfl fun r=>wn (I0 (kG (ac c0) 6 r rfl (keep hB I3) IJ rfl rfl fun r=>kL (I c1) r rfl (keep hB IA) IL rfl rfl fun r=>kM (I (W (minI a0 (V c0.retire)))) r rfl rfl fun r=>kB r rfl rfl rfl rfl rfl fun r=>kM (I (W (minI a0 (V c0.retire)))) r rfl rfl fun r=>kU (.agg (Kn (⟨(W ((W (minI a0 (V c0.retire))) - 1)),(W (minI a0 (V c0.retire))),0⟩:J4)).toArray) r kz rfl fun r=>?_))));have I4:=aP hF hB b1
 refine kD r ((Bi (j:=j) (k:=j) (n:=n) O O) (kW F w0 w2 b1) _ I4 c0 c1 (⟨(W ((W (minI a0 (V c0.retire))) - 1)),(W (minI a0 (V c0.retire))),0⟩:J4)) rfl mg rfl fun w4 v5 hb J0 r=>?_;have Z4:=hb.size
 have H1:=keep hb H1;obtain ⟨hB,zB⟩:=IQ hb hB;refine kP r J0.shape rfl rfl H1 bv rfl rfl fun w7 u8 r=>?_;have Z7:=u8.size
 have H1:=u8.at_;obtain ⟨hB,zB⟩:=u8.on hB O
 exact wn (q4 (kR r J0 rfl rfl H1 rfl bu hF hB u8 O O O))
def D.fW (j:Nat) (a0:Plan) (a1:Int):T Int:=(D.dL (D.dZ a0 a1) (fun x=>(D.qx j a0 a1 x)))
theorem ut (hF:kH F w0) (hj:n<j)
    (a0:Plan) (a1:Int) :
    Calls B0 184 #[z6 (ac a0),.int .i64 a1] w0 (aH B0 aj n (D.fW j a0 a1) F w0):=by
 refine kN Tryz.func184 rfl 10 rfl rfl fun fr r hB=>?_;refine I0 ?_
 refine kX 23 (z6 (ac a0)) r rfl rfl fun b1 w2 n3 r=>?_;obtain ⟨E1,Z2,H1,hB,zB⟩:=n3.all hB
 refine kX 3 (I a1) r rfl rfl fun b4 w5 n6 r=>?_;have H1:=keep n6.below H1
 obtain ⟨E4,Z5,H4,hB,zB⟩:=n6.all hB;refine ah (.cells (kq aj) 119 (0,0)) r (fun R=>ag bP) rfl fun fr b7 w8 n9 r=>?_;have H1:=keep n9.below H1
 have H4:=keep n9.below H4;obtain ⟨E7,Z8,H7,hB,zB⟩:=n9.all hB;refine wn (I0 (kG (ac a0) 6 r rfl H1 IJ rfl rfl fun r=>kL (I a1) r rfl H4 IL rfl rfl fun r=>?_));refine kE r (mS w8 a0 a1) rfl pz rfl fun J8 hb r=>?_
 have Z10:=hb.size;have H1:=keep hb H1;have H4:=keep hb H4;have H7:=keep hb H7;obtain ⟨hB,zB⟩:=IQ hb hB;refine aa (.func (.func 281) #[] #[zp b1,zp b4]) r (fun R=>aZ r rfl) rfl fun fr r=>?_;have I4:=aP hF hB b7
 have f11:((kW F w0 J8 b7)) b1:=(.inr ⟨O,O,O⟩)
 have f12:((kW F w0 J8 b7)) b4:=(.inr ⟨O,O,O⟩)
 refine kD r (fP (F:=(kW F w0 J8 b7)) (n:=n) I4 (D.dZ a0 a1) ⟨281,[],[zp b1,zp b4],Gz,rfl,fun m hm x w' hs hz=>Bp (j:=j) (fun b hb=>q9 (I4 b hb) hz) O a0 f11 (hs.at_ f11 H1) a1 f12 (hs.at_ f12 H4) x⟩) rfl gx rfl fun Kc K6 hb Kf r=>?_;have Z13:=hb.size
 have H1:=keep hb H1;have H4:=keep hb H4;have H7:=keep hb H7;obtain ⟨hB,zB⟩:=IQ hb hB;refine kP r Kf.shape rfl rfl H7 bv rfl rfl fun w16 K3 r=>?_;have Z16:=K3.size
 have H1:=K3.keep H1 O
 have H4:=K3.keep H4 O
 have H7:=K3.at_;obtain ⟨hB,zB⟩:=K3.on hB O
 exact wn (q4 (kR r Kf rfl rfl H7 rfl bu hF hB K3 O O O))
def D.qd (c0:Int):T Int:=(D.df (IntKind.i64.wrap ((IntKind.i64.wrap c0)+1)))
theorem Av (hF:kH F w0)
    (c0:Int) {I5:Nat} (J9:F I5) (I3:w0.heap[I5]?=some (.cells ([(.int .u64 c0)]).toArray 34 (0,0))) :
    Calls B0 300 #[zp I5] w0 (aH B0 aj n (D.qd c0) F w0):=by
 refine kN Tryz.func300 rfl 6 rfl rfl fun fr r hB=>?_;have Jq:=q8 I3
 refine I0 ?_;refine ah (.cells (kq aj) 119 (0,0)) r (fun R=>ag bP) rfl fun fr b1 w2 n3 r=>?_;obtain ⟨E1,Z2,H1,hB,zB⟩:=n3.all hB
 refine wn (I0 (kL (U c0) r rfl (keep hB I3) Ja rfl rfl fun r=>aa (I (W c0)) r (fun R=>cV r rfl KO ti3) rfl fun fr r=>kB r rfl rfl rfl rfl rfl fun r=>?_));have I4:=aP hF hB b1
 refine kD r (eT (F:=(kW F w0 w2 b1)) (n:=n) I4 (W ((W c0)+1))) rfl fe rfl fun w4 v5 hb J0 r=>?_;have Z4:=hb.size
 have H1:=keep hb H1;obtain ⟨hB,zB⟩:=IQ hb hB;refine kP r J0.shape rfl rfl H1 bv rfl rfl fun w7 u8 r=>?_;have Z7:=u8.size
 have H1:=u8.at_;obtain ⟨hB,zB⟩:=u8.on hB O
 exact wn (q4 (kR r J0 rfl rfl H1 rfl bu hF hB u8 O O O))
def D.nG (c0:Plan) (c1:Int) (c2:Int):T Int:=(D.ee (D.dZ c0 c1) (IntKind.u64.wrap (c2+1)) (fun _=>(D.qd c2)))
theorem Be (hF:kH F w0)
    (c0:Plan) {I5:Nat} (J9:F I5) (I3:w0.heap[I5]?=some (.cells ((ac c0)).toArray 23 (0,0))) (c1:Int) {IE:Nat} (Ka:F IE) (IA:w0.heap[IE]?=some (.cells ([(.int .i64 c1)]).toArray 3 (0,0))) (c2:Int) {IU:Nat} (c2F:F IU) (IR:w0.heap[IU]?=some (.cells ([(.int .u64 c2)]).toArray 34 (0,0))) :
    Calls B0 299 #[zp I5,zp IE,zp IU] w0 (aH B0 aj n (D.nG c0 c1 c2) F w0):=by
 refine kN Tryz.func299 rfl 11 rfl rfl fun fr r hB=>?_;have Jq:=q8 I3
 have Jy:=q8 IA;have Kg:=q8 IR;refine I0 ?_;refine ah (.cells (kq aj) 119 (0,0)) r (fun R=>ag bP) rfl fun fr b1 w2 n3 r=>?_;obtain ⟨E1,Z2,H1,hB,zB⟩:=n3.all hB
 refine wn (d9 ?_);refine bI 6 [.val (z6 (ac c0)),.val (I c1),.val (I (D.dZ c0 c1)),.val (U c2),.val (U (V (c2+1))),.val (.func (.func 300) #[] #[zp IU])] mixed r kz (kV (kV (kV (kV (kV (kV bH)))))) ?_ ?_
 ·
  refine ec r (fun _ u _ b d s=>aU s (cs:=(ac c0)) (n:=6) rfl (cr hB b I3) IJ rfl bz) (ec r (fun _ u _ b d s=>ax s rfl (cr hB b IA) IL rfl bz) (ec r (fun I2 u w' hb' hd r'=>aN r' (args:=[(z6 (ac c0)),(I c1)]) (lc hd.1 (lc hd.2.1 l0)) pz ((mS _ c0 c1).mono JL)) (ec r (fun _ u _ b d s=>ax s rfl (cr hB b IR) Ja rfl bz) (ec r (fun _ u _ b d s=>bd s d.1 rfl rfl rfl bz) (ec r (fun _ u _ b d s=>aZ s (v:=(.func (.func 300) #[] #[zp IU])) rfl bz) ?_)))));exact bJ
 intro fr u w4 hb Iz hne r;have r:=r.congr (sc (Iz 5 ke) (sc (Iz 4 ke) (sc (Iz 3 ke) (sc (Iz 2 ke) (sc (Iz 1 ke) (sc (Iz 0 ke) rfl))))));have Z4:=hb.size;have H1:=keep hb H1;obtain ⟨hB,zB⟩:=IQ hb hB;have I4:=aP hF hB b1;have f5:((kW F w0 w4 b1)) IU:=(.inl c2F);refine kD r (gH (F:=(kW F w0 w4 b1)) (n:=n) I4 (D.dZ c0 c1) (V (c2+1)) ⟨300,[],[zp IU],G5,rfl,fun m hm _ w' hs hz=>Av (fun b hb=>q9 (I4 b hb) hz) c2 f5 (hs.at_ f5 (keep hB IR))⟩) rfl iz rfl fun w6 v7 hb hr8 r=>?_;have Z6:=hb.size
 have H1:=keep hb H1;obtain ⟨hB,zB⟩:=IQ hb hB;refine kP r hr8.shape rfl rfl H1 bv rfl rfl fun w9 u10 r=>?_;have Z9:=u10.size
 have H1:=u10.at_;obtain ⟨hB,zB⟩:=u10.on hB O
 exact wn (q4 (kR r hr8 rfl rfl H1 rfl bu hF hB u10 O O O))
def D.jB (c0:Plan) (c1:Int) (c2:Int) (a0:Int):T Int:=(bif (decide (a0>=(IntKind.u64.wrap c0.retire))) then (D.df (-1)) else (D.ee (D.dI c0 c1 (IntKind.i64.wrap a0)) (IntKind.u64.wrap (IntKind.i64.wrap (c2+1))) (fun _=>(D.nG c0 c1 a0))))
theorem BJ (hF:kH F w0)
    (c0:Plan) {I5:Nat} (J9:F I5) (I3:w0.heap[I5]?=some (.cells ((ac c0)).toArray 23 (0,0))) (c1:Int) {IE:Nat} (Ka:F IE) (IA:w0.heap[IE]?=some (.cells ([(.int .i64 c1)]).toArray 3 (0,0))) (c2:Int) {IU:Nat} (c2F:F IU) (IR:w0.heap[IU]?=some (.cells ([(.int .i64 c2)]).toArray 3 (0,0))) (a0:Int) :
    Calls B0 298 #[.int .u64 a0,zp I5,zp IE,zp IU] w0 (aH B0 aj n (D.jB c0 c1 c2 a0) F w0):=by
 refine kN Tryz.func298 rfl 22 rfl rfl fun fr r hB=>?_;have Jq:=q8 I3
 have Jy:=q8 IA;have Kg:=q8 IR;refine I0 ?_;refine kX 34 (U a0) r rfl rfl fun b1 w2 n3 r=>?_;obtain ⟨E1,Z2,H1,hB,zB⟩:=n3.all hB
 refine ah (.cells (kq aj) 119 (0,0)) r (fun R=>ag bP) rfl fun fr b4 w5 n6 r=>?_;have H1:=keep n6.below H1
 obtain ⟨E4,Z5,H4,hB,zB⟩:=n6.all hB;refine wn (d9 (I0 (kL (U a0) r rfl H1 Ja rfl rfl fun r=>kF 0 r rfl fa rfl fun r=>kL (I c0.retire) r rfl (keep hB I3) IL rfl rfl fun r=>aa (U (V c0.retire)) r (fun R=>cV r rfl ti3 KO) rfl fun fr r=>kB r rfl rfl rfl rfl rfl fun r=>wn ?_)));refine q5 (t:=(decide (a0>=(V c0.retire)))) (r.ev rfl) (fun h7=>?_) (fun h7=>?_)
 ·
  refine I0 ?_;have I4:=aP hF hB b4;refine kD r (eT (F:=(kW F w0 w5 b4)) (n:=n) I4 (-1)) rfl fe rfl fun w8 v9 hb Jv r=>?_;have Z8:=hb.size
  have H1:=keep hb H1;have H4:=keep hb H4;obtain ⟨hB,zB⟩:=IQ hb hB;refine kP r Jv.shape rfl rfl H4 bv rfl rfl fun JV JH r=>?_;have Z11:=JH.size
  have H1:=JH.keep H1 O
  have H4:=JH.at_;obtain ⟨hB,zB⟩:=JH.on hB O
  refine wn (q4 ?_);have hd:D.jB c0 c1 c2 a0=(D.df (-1)):=(ar h7).trans (rfl);have hs:=Jv.shape.cells;refine ak r rfl rfl H4 (k:=7) hs.1 bu ?_;rw [<-hs.2.2,hd];exact JR hF hB Jv JH O O O
 refine q7 (d9 ?_);refine bI 9 [.val (z6 (ac c0)),.val (I c1),.val (U a0),.val (I (W a0)),.val (I (D.dI c0 c1 (W a0))),.val (I c2),.val (I (W (c2+1))),.val (U (V (W (c2+1)))),.val (.func (.func 299) #[] #[zp I5,zp IE,zp b1])] mixed r kz (kV (kV (kV (kV (kV (kV (kV (kV (kV bH))))))))) ?_ ?_
 ·
  refine ec r (fun _ u _ b d s=>aU s (cs:=(ac c0)) (n:=6) rfl (cr hB b I3) IJ rfl bz) (ec r (fun _ u _ b d s=>ax s rfl (cr hB b IA) IL rfl bz) (ec r (fun _ u _ b d s=>ax s rfl (keep b H1) Ja rfl bz) (ec r (fun _ u _ b d s=>cV s (n:=a0) d.1 KO ti3 bz) (ec r (fun I2 u w' hb' hd r'=>aN r' (args:=[(z6 (ac c0)),(I c1),(I (W a0))]) (lc hd.1 (lc hd.2.1 (lc hd.2.2.1 l0))) p7 ((mN _ c0 c1 (W a0)).mono JL)) (ec r (fun _ u _ b d s=>ax s rfl (cr hB b IR) IL rfl bz) (ec r (fun _ u _ b d s=>bd s d.1 rfl rfl rfl bz) (ec r (fun _ u _ b d s=>cV s (n:=(W (c2+1))) d.1 ti3 KO bz) (ec r (fun _ u _ b d s=>aZ s (v:=(.func (.func 299) #[] #[zp I5,zp IE,zp b1])) rfl bz) ?_))))))));exact bJ
 intro fr u Kc hb Iz hne r;have r:=r.congr (sc (Iz 8 ke) (sc (Iz 7 ke) (sc (Iz 6 ke) (sc (Iz 5 ke) (sc (Iz 4 ke) (sc (Iz 3 ke) (sc (Iz 2 ke) (sc (Iz 1 ke) (sc (Iz 0 ke) rfl)))))))));have Z13:=hb.size;have H1:=keep hb H1;have H4:=keep hb H4;obtain ⟨hB,zB⟩:=IQ hb hB;have I4:=aP hF hB b4;have f14:((kW F w0 Kc b4)) I5:=(.inl J9);have f15:((kW F w0 Kc b4)) IE:=(.inl Ka);have f16:((kW F w0 Kc b4)) b1:=(.inr ⟨O,O,O⟩)
 refine kD r (gH (F:=(kW F w0 Kc b4)) (n:=n) I4 (D.dI c0 c1 (W a0)) (V (W (c2+1))) ⟨299,[],[zp I5,zp IE,zp b1],Fm,rfl,fun m hm _ w' hs hz=>Be (fun b hb=>q9 (I4 b hb) hz) c0 f14 (hs.at_ f14 (keep hB I3)) c1 f15 (hs.at_ f15 (keep hB IA)) a0 f16 (hs.at_ f16 H1)⟩) rfl iz rfl fun w17 v18 hb KI r=>?_;have Z17:=hb.size
 have H1:=keep hb H1;have H4:=keep hb H4;obtain ⟨hB,zB⟩:=IQ hb hB;refine kP r KI.shape rfl rfl H4 bv rfl rfl fun w20 u21 r=>?_;have Z20:=u21.size
 have H1:=u21.keep H1 O
 have H4:=u21.at_;obtain ⟨hB,zB⟩:=u21.on hB O
 refine wn (q4 ?_);have hd:D.jB c0 c1 c2 a0=(D.ee (D.dI c0 c1 (W a0)) (V (W (c2+1))) (fun _=>(D.nG c0 c1 a0))):=(ai h7).trans (rfl)
 have hs:=KI.shape.cells;refine ak r rfl rfl H4 (k:=7) hs.1 bu ?_;rw [<-hs.2.2,hd];exact JR hF hB KI u21 O O O
def D.gW (a0:Plan) (a1:Int) (a2:Int):T Int:=(D.dL (D.dZ a0 a1) (fun x=>(D.jB a0 a1 a2 x)))
theorem uF (hF:kH F w0)
    (a0:Plan) (a1:Int) (a2:Int) :
    Calls B0 224 #[z6 (ac a0),.int .i64 a1,.int .i64 a2] w0 (aH B0 aj n (D.gW a0 a1 a2) F w0):=by
 refine kN Tryz.func224 rfl 12 rfl rfl fun fr r hB=>?_;refine I0 ?_
 refine kX 23 (z6 (ac a0)) r rfl rfl fun b1 w2 n3 r=>?_;obtain ⟨E1,Z2,H1,hB,zB⟩:=n3.all hB
 refine kX 3 (I a1) r rfl rfl fun b4 w5 n6 r=>?_;have H1:=keep n6.below H1
 obtain ⟨E4,Z5,H4,hB,zB⟩:=n6.all hB;refine kX 3 (I a2) r rfl rfl fun b7 w8 n9 r=>?_;have H1:=keep n9.below H1
 have H4:=keep n9.below H4;obtain ⟨E7,Z8,H7,hB,zB⟩:=n9.all hB;refine ah (.cells (kq aj) 119 (0,0)) r (fun R=>ag bP) rfl fun fr b10 JV JN r=>?_;have H1:=keep JN.below H1
 have H4:=keep JN.below H4;have H7:=keep JN.below H7;obtain ⟨E10,Z11,Jp,hB,zB⟩:=JN.all hB;refine wn (I0 (kG (ac a0) 6 r rfl H1 IJ rfl rfl fun r=>kL (I a1) r rfl H4 IL rfl rfl fun r=>?_));refine kE r (mS JV a0 a1) rfl pz rfl fun Kc hb r=>?_
 have Z13:=hb.size;have H1:=keep hb H1;have H4:=keep hb H4;have H7:=keep hb H7;have Jp:=keep hb Jp;obtain ⟨hB,zB⟩:=IQ hb hB;refine aa (.func (.func 298) #[] #[zp b1,zp b4,zp b7]) r (fun R=>aZ r rfl) rfl fun fr r=>?_;have I4:=aP hF hB b10
 have f14:((kW F w0 Kc b10)) b1:=(.inr ⟨O,O,O⟩)
 have f15:((kW F w0 Kc b10)) b4:=(.inr ⟨O,O,O⟩)
 have f16:((kW F w0 Kc b10)) b7:=(.inr ⟨O,O,O⟩)
 refine kD r (fP (F:=(kW F w0 Kc b10)) (n:=n) I4 (D.dZ a0 a1) ⟨298,[],[zp b1,zp b4,zp b7],ET,rfl,fun m hm x w' hs hz=>BJ (fun b hb=>q9 (I4 b hb) hz) a0 f14 (hs.at_ f14 H1) a1 f15 (hs.at_ f15 H4) a2 f16 (hs.at_ f16 H7) x⟩) rfl gx rfl fun w17 v18 hb KI r=>?_;have Z17:=hb.size
 have H1:=keep hb H1;have H4:=keep hb H4;have H7:=keep hb H7;have Jp:=keep hb Jp;obtain ⟨hB,zB⟩:=IQ hb hB;refine kP r KI.shape rfl rfl Jp bv rfl rfl fun w20 u21 r=>?_;have Z20:=u21.size
 have H1:=u21.keep H1 O
 have H4:=u21.keep H4 O
 have H7:=u21.keep H7 O
 have Jp:=u21.at_;obtain ⟨hB,zB⟩:=u21.on hB O
 exact wn (q4 (kR r KI rfl rfl Jp rfl bu hF hB u21 O O O))
end
end Go.Proofs.YtbbipmelhmgmfaaGreat

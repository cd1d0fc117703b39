/- Ours. -/
import Derived.Test.YtikjpdpgdmbdpaaGreatLrM12
set_option linter.all false
set_option maxRecDepth 20000
set_option maxHeartbeats 2000000
namespace Go.Proofs.YtikjpdpgdmbdpaaGreat
open Go.RowKit
section
variable {n : Nat} {F : Nat → Prop} {j : Nat} {w0 : World}
theorem nF:ag Tryz.prog 144:=kz
theorem mY:ag Tryz.prog 145:=kz
theorem qz:ag Tryz.prog 168:=kz
theorem xa:ag Tryz.prog 217:=kz
theorem Eg:ag Tryz.prog 261:=kz
theorem kY:ag Tryz.prog 262:=kz
theorem wP:ag Tryz.prog 308:=kz
theorem Er:ag Tryz.prog 309:=kz
theorem DE:ag Tryz.prog 310:=kz
theorem Fb:ag Tryz.prog 311:=kz
theorem DB:ag Tryz.prog 312:=kz
theorem EH:ag Tryz.prog 333:=kz
theorem ES:ag Tryz.prog 335:=kz
theorem Fj:ag Tryz.prog 336:=kz
theorem DP:ag Tryz.prog 337:=kz
theorem Dw:ag Tryz.prog 343:=kz
theorem EF:ag Tryz.prog 344:=kz
theorem Fe:ag Tryz.prog 345:=kz
theorem Fm:ag Tryz.prog 358:=kz
theorem wS:ag Tryz.prog 385:=kz
theorem Dr:ag Tryz.prog 386:=kz
theorem Ej:ag Tryz.prog 387:=kz
theorem Fu:ag Tryz.prog 388:=kz
theorem cl63:ag Tryz.prog 63:=kz
theorem cl64:ag Tryz.prog 64:=kz
theorem cl85:ag Tryz.prog 85:=kz
theorem iU:aZ Tryz.prog 286 0 0:=kz
theorem uY:aZ Tryz.prog 286 1 1:=kz
theorem pZ:aZ Tryz.prog 286 2 2:=kz
theorem nE:tyA Tryz.prog 286 3:=kz
theorem Ek:sized Tryz.prog 242 1:=kz
theorem DY:sized Tryz.prog 286 3:=kz
theorem DR:zeroOf Tryz.prog 242=some .nilFunc:=kz
theorem Dq:zeroOf Tryz.prog 286=some (.agg (scanC (⟨0,0,0⟩:Scan)).toArray):=kz
def D.oF (r_retire_zero:Plan→Int→Int→(Unit→T Int)→T Int) (c0:Plan) (c1:Int) (c2:Int) (c3:(Unit→T Int)):T Int:=(r_retire_zero c0 c1 (IntKind.i64.wrap (c2+1)) c3)
def D.eR (r_retire_zero:Plan→Int→Int→(Unit→T Int)→T Int) (a0:Plan) (a1:Int) (a2:Int) (a3:(Unit→T Int)):T Int:=(bif (a2==3) then (a3 ()) else (D.dQ (D.bf a0 a1 a2) 0 (fun _=>(D.oF r_retire_zero a0 a1 a2 a3))))
def D.dI:Nat→Plan→Int→Int→(Unit→T Int)→T Int
  | 0,_,_,_,_=>.cut
  | k+1,a0,a1,a2,a3=>D.eR (D.dI k) a0 a1 a2 a3
def o5 (r:Plan→Int→Int→(Unit→T Int)→T Int) (n:Nat):Prop:=∀ (F:Nat→Prop) (w0:World),(∀ b,F b→b<w0.heap.size)→∀ (a0:Plan) (a1:Int) (a2:Int) {a3f:FuncId} {a3_1 a3_2:List Value} {a3:(Unit→T Int)} (a3n:FnT Tryz.prog ak unitE (n+1) F w0 (.func (.func a3f) a3_1.toArray a3_2.toArray) a3),Calls Tryz.prog 308 #[.agg (ae a0).toArray,.int .i64 a1,.int .i64 a2,.func (.func a3f) a3_1.toArray a3_2.toArray] w0 (aC Tryz.prog ak n (r a0 a1 a2 a3) F w0)
theorem zT {r_retire_zero:Plan→Int→Int→(Unit→T Int)→T Int} (hF:kH F w0) (ih_retire_zero:∀ m,m≤n→o5 r_retire_zero m)
    (c0:Plan) {c0b:Nat} (c0F:F c0b) (c0h:w0.heap[c0b]?=some (.cells ((ae c0)).toArray 23 (0,0))) (c1:Int) {c1b:Nat} (c1F:F c1b) (c1h:w0.heap[c1b]?=some (.cells ([(.int .i64 c1)]).toArray 3 (0,0))) (c2:Int) {c2b:Nat} (c2F:F c2b) (c2h:w0.heap[c2b]?=some (.cells ([(.int .i64 c2)]).toArray 3 (0,0))) {c3f:FuncId} {c3_1 c3_2:List Value} {c3:(Unit→T Int)} {c3b:Nat} (c3F:F c3b) (c3h:w0.heap[c3b]?=some (.cells #[.func (.func c3f) c3_1.toArray c3_2.toArray] 242 (0,0))) (c3n:FnT Tryz.prog ak unitE (n+1) F w0 (.func (.func c3f) c3_1.toArray c3_2.toArray) c3) :
    Calls Tryz.prog 358 #[zp c0b,zp c1b,zp c2b,zp c3b] w0 (aC Tryz.prog ak n (D.oF r_retire_zero c0 c1 c2 c3) F w0):=by
 refine kN Tryz.func358 rfl 11 rfl rfl fun fr r hB=>?_;have lc0b:=lt_of_block c0h
 have lc1b:=lt_of_block c1h;have lc2b:=lt_of_block c2h;have lc3b:=lt_of_block c3h;refine wsr ?_;refine ai (.cells (af false ak.zero 0 0 0 0 .nilFunc) 44 (0,0)) r (fun R=>ah tz44) rfl fun fr b1 w2 n3 r=>?_;obtain ⟨E1,Z2,H1,hB,zB⟩:=n3.all hB
 refine wn (wsr (kG (ae c0) 6 r rfl (keep hB c0h) ta23 rfl rfl fun r=>kL (I c1) r rfl (keep hB c1h) to3 rfl rfl fun r=>kL (I c2) r rfl (keep hB c2h) to3 rfl rfl fun r=>kB r rfl rfl rfl rfl rfl fun r=>kL (.func (.func c3f) c3_1.toArray c3_2.toArray) r rfl (keep hB c3h) kQ rfl rfl fun r=>?_));have hF1:=aO hF hB b1
 refine kD r ((ih_retire_zero n kw) (kW F w0 w2 b1) _ hF1 c0 c1 (W (c2+1)) (c3n.mono kw (fun b h=>.inl h) (Same.below hB hF) hB.size)) rfl wP rfl fun w4 v5 hb hr6 r=>?_;have Z4:=hb.size
 have H1:=keep hb H1;obtain ⟨hB,zB⟩:=bon hb hB;refine kP r hr6.shape rfl rfl H1 ts44 rfl rfl fun w7 u8 r=>?_;have Z7:=u8.size
 have H1:=u8.at_;obtain ⟨hB,zB⟩:=u8.on hB kw
 exact wn (wp_ret (kR r hr6 rfl rfl H1 rfl ta44 hF hB u8 kw kw kw))
theorem Av {n:Nat} {F:Nat→Prop} {r_retire_zero:Plan→Int→Int→(Unit→T Int)→T Int} {w0:World} (hF:∀ b,F b→b<w0.heap.size) (ih_retire_zero:∀ m,m<n→o5 r_retire_zero m)
    (a0:Plan) (a1:Int) (a2:Int) {a3f:FuncId} {a3_1 a3_2:List Value} {a3:(Unit→T Int)} (a3n:FnT Tryz.prog ak unitE (n+1) F w0 (.func (.func a3f) a3_1.toArray a3_2.toArray) a3) :
    Calls Tryz.prog 308 #[.agg (ae a0).toArray,.int .i64 a1,.int .i64 a2,.func (.func a3f) a3_1.toArray a3_2.toArray] w0 (aC Tryz.prog ak n (D.eR r_retire_zero a0 a1 a2 a3) F w0):=by
 refine kN Tryz.func308 rfl 19 rfl rfl fun fr r hB=>?_;refine wsr ?_
 refine kX 23 (.agg (ae a0).toArray) r rfl rfl fun b1 w2 n3 r=>?_;obtain ⟨E1,Z2,H1,hB,zB⟩:=n3.all hB
 refine kX 3 (I a1) r rfl rfl fun b4 w5 n6 r=>?_;have H1:=keep n6.below H1
 obtain ⟨E4,Z5,H4,hB,zB⟩:=n6.all hB;refine kX 3 (I a2) r rfl rfl fun b7 w8 n9 r=>?_;have H1:=keep n9.below H1
 have H4:=keep n9.below H4;obtain ⟨E7,Z8,H7,hB,zB⟩:=n9.all hB;refine kX 242 (.func (.func a3f) a3_1.toArray a3_2.toArray) r rfl rfl fun b10 w11 n12 r=>?_;have H1:=keep n12.below H1
 have H4:=keep n12.below H4;have H7:=keep n12.below H7;obtain ⟨E10,Z11,H10,hB,zB⟩:=n12.all hB;refine ai (.cells (af false ak.zero 0 0 0 0 .nilFunc) 44 (0,0)) r (fun R=>ah tz44) rfl fun fr b13 w14 n15 r=>?_;have H1:=keep n15.below H1
 have H4:=keep n15.below H4;have H7:=keep n15.below H7;have H10:=keep n15.below H10;obtain ⟨E13,Z14,H13,hB,zB⟩:=n15.all hB;refine wn (wp_seq (wsr (kL (I a2) r rfl H7 to3 rfl rfl fun r=>kB r rfl rfl rfl rfl rfl fun r=>wn ?_)));refine wp_cond_split (t:=(a2==3)) (r.ev rfl) (fun h16=>?_) (fun h16=>?_)
 ·
  refine wsr (kL (.func (.func a3f) a3_1.toArray a3_2.toArray) r rfl H10 kQ rfl rfl fun r=>?_);refine cA r (a3n.at_.2 n (Nat.lt_succ_self n) () w14 (Same.below hB hF) hB.size) (fun R hc=>gY r rfl a3n.at_.1 hc) rfl ?_
  rintro _ w17 ⟨v18,rfl,hb,hr19⟩;refine ⟨_,rfl,fun fr r=>?_⟩
  have Z17:=hb.size;have H1:=keep hb H1;have H4:=keep hb H4;have H7:=keep hb H7;have H10:=keep hb H10;have H13:=keep hb H13;obtain ⟨hB,zB⟩:=bon hb hB;refine kP r hr19.shape rfl rfl H13 ts44 rfl rfl fun w20 u21 r=>?_;have Z20:=u21.size
  have H1:=u21.keep H1 kw
  have H4:=u21.keep H4 kw
  have H7:=u21.keep H7 kw
  have H10:=u21.keep H10 kw
  have H13:=u21.at_;obtain ⟨hB,zB⟩:=u21.on hB kw
  refine wn (wp_ret ?_);have hd:D.eR r_retire_zero a0 a1 a2 a3=(a3 ()):=(az h16).trans (rfl);have hs:=hr19.shape.cells;refine ar r rfl rfl H13 (k:=7) hs.1 ta44 ?_;rw [←hs.2.2,hd];exact aC.fin hB hr19 u21 (fun b hb=>.inl hb) (fun h=>by have:=hF _ h; omega) kw kw kw
 refine wp_skip (wsr (kG (ae a0) 6 r rfl H1 ta23 rfl rfl fun r=>kL (I a1) r rfl H4 to3 rfl rfl fun r=>kL (I a2) r rfl H7 to3 rfl rfl fun r=>?_));refine kE r (dZ w14 a0 a1 a2) rfl cl85 rfl fun w22 hb r=>?_
 have Z22:=hb.size;have H1:=keep hb H1;have H4:=keep hb H4;have H7:=keep hb H7;have H10:=keep hb H10;have H13:=keep hb H13;obtain ⟨hB,zB⟩:=bon hb hB;refine ac (.func (.func 358) #[] #[zp b1,zp b4,zp b7,zp b10]) r (fun R=>aU r rfl) rfl fun fr r=>?_;have hF1:=aO hF hB b13
 have f23:((kW F w0 w22 b13)) b1:=(.inr ⟨kw,kw,kw⟩)
 have f24:((kW F w0 w22 b13)) b4:=(.inr ⟨kw,kw,kw⟩)
 have f25:((kW F w0 w22 b13)) b7:=(.inr ⟨kw,kw,kw⟩)
 have f26:((kW F w0 w22 b13)) b10:=(.inr ⟨kw,kw,kw⟩)
 refine kD r (fN (F:=(kW F w0 w22 b13)) (n:=n) hF1 (D.bf a0 a1 a2) 0 ⟨358,[],[zp b1,zp b4,zp b7,zp b10],Fm,rfl,fun m hm _ w' hs hz=>zT (fun b hb=>Nat.lt_of_lt_of_le (hF1 b hb) hz) (fun m' hm'=>ih_retire_zero m' kw) a0 f23 (hs.at_ f23 H1) a1 f24 (hs.at_ f24 H4) a2 f25 (hs.at_ f25 H7) f26 (hs.at_ f26 H10) (a3n.mono kw (fun b h=>.inl h) ((Same.below hB hF).trans (hs.sub (fun b h=>.inl h))) (Nat.le_trans hB.size hz))⟩) rfl gy rfl fun w27 v28 hb hr29 r=>?_;have Z27:=hb.size
 have H1:=keep hb H1;have H4:=keep hb H4;have H7:=keep hb H7;have H10:=keep hb H10;have H13:=keep hb H13;obtain ⟨hB,zB⟩:=bon hb hB;refine kP r hr29.shape rfl rfl H13 ts44 rfl rfl fun w30 u31 r=>?_;have Z30:=u31.size
 have H1:=u31.keep H1 kw
 have H4:=u31.keep H4 kw
 have H7:=u31.keep H7 kw
 have H10:=u31.keep H10 kw
 have H13:=u31.at_;obtain ⟨hB,zB⟩:=u31.on hB kw
 refine wn (wp_ret ?_);have hd:D.eR r_retire_zero a0 a1 a2 a3=(D.dQ (D.bf a0 a1 a2) 0 (fun _=>(D.oF r_retire_zero a0 a1 a2 a3))):=(aB h16).trans (rfl)
 have hs:=hr29.shape.cells;refine ar r rfl rfl H13 (k:=7) hs.1 ta44 ?_;rw [←hs.2.2,hd];exact rfin hF hB hr29 u31 kw kw kw
theorem AQ {n:Nat} {k:Nat} (hk:n<k):o5 (D.dI k) n:=by
  induction n using Nat.strongRecOn generalizing k with
  | _ n ih=>
    obtain ⟨k,rfl⟩:∃ q,k=q+1:=⟨k - 1,kw⟩
    intro F w0 hF;have h:=@Av n F (D.dI k) w0 hF (fun m hm=>ih m hm kw)
    exact h
def D.fH (j:Nat) (c0:State) (c1:Plan) (c2:Int):T Int:=(bif (c0.mode==3) then (D.cJ (-1)) else (D.dU j c1 c2))
theorem xY (hF:kH F w0) (hj:n<j)
    (c0:State) {c0b:Nat} (c0F:F c0b) (c0h:w0.heap[c0b]?=some (.cells ((aH c0)).toArray 137 (0,0))) (c1:Plan) {c1b:Nat} (c1F:F c1b) (c1h:w0.heap[c1b]?=some (.cells ((ae c1)).toArray 23 (0,0))) (c2:Int) {c2b:Nat} (c2F:F c2b) (c2h:w0.heap[c2b]?=some (.cells ([(.int .i64 c2)]).toArray 3 (0,0))) :
    Calls Tryz.prog 312 #[zp c0b,zp c1b,zp c2b] w0 (aC Tryz.prog ak n (D.fH j c0 c1 c2) F w0):=by
 refine kN Tryz.func312 rfl 11 rfl rfl fun fr r hB=>?_;have lc0b:=lt_of_block c0h
 have lc1b:=lt_of_block c1h;have lc2b:=lt_of_block c2h;refine wsr ?_;refine ai (.cells (af false ak.zero 0 0 0 0 .nilFunc) 44 (0,0)) r (fun R=>ah tz44) rfl fun fr b1 w2 n3 r=>?_;obtain ⟨E1,Z2,H1,hB,zB⟩:=n3.all hB
 refine wn (wp_seq (wsr (kF 0 r rfl kg rfl fun r=>kL (I c0.mode) r rfl (keep hB c0h) to3 rfl rfl fun r=>kB r rfl rfl rfl rfl rfl fun r=>wn ?_)));refine wp_cond_split (t:=(c0.mode==3)) (r.ev rfl) (fun h4=>?_) (fun h4=>?_)
 ·
  refine wsr ?_;have hF1:=aO hF hB b1;refine kD r (eB (F:=(kW F w0 w2 b1)) (n:=n) hF1 (-1)) rfl eM rfl fun w5 v6 hb hr7 r=>?_;have Z5:=hb.size
  have H1:=keep hb H1;obtain ⟨hB,zB⟩:=bon hb hB;refine kP r hr7.shape rfl rfl H1 ts44 rfl rfl fun w8 u9 r=>?_;have Z8:=u9.size
  have H1:=u9.at_;obtain ⟨hB,zB⟩:=u9.on hB kw
  refine wn (wp_ret ?_);have hd:D.fH j c0 c1 c2=(D.cJ (-1)):=(az h4).trans (rfl);have hs:=hr7.shape.cells;refine ar r rfl rfl H1 (k:=7) hs.1 ta44 ?_;rw [←hs.2.2,hd];exact rfin hF hB hr7 u9 kw kw kw
 refine wp_skip (wsr (kG (ae c1) 6 r rfl (keep hB c1h) ta23 rfl rfl fun r=>kL (I c2) r rfl (keep hB c2h) to3 rfl rfl fun r=>?_));have hF1:=aO hF hB b1
 refine kD r ((Be (k:=j) (n:=n) kw) (kW F w0 w2 b1) _ hF1 c1 c2) rfl xe rfl fun w10 v11 hb hr12 r=>?_;have Z10:=hb.size
 have H1:=keep hb H1;obtain ⟨hB,zB⟩:=bon hb hB;refine kP r hr12.shape rfl rfl H1 ts44 rfl rfl fun w13 u14 r=>?_;have Z13:=u14.size
 have H1:=u14.at_;obtain ⟨hB,zB⟩:=u14.on hB kw
 refine wn (wp_ret ?_);have hd:D.fH j c0 c1 c2=(D.dU j c1 c2):=(aB h4).trans (rfl);have hs:=hr12.shape.cells;refine ar r rfl rfl H1 (k:=7) hs.1 ta44 ?_;rw [←hs.2.2,hd];exact rfin hF hB hr12 u14 kw kw kw
def D.nR (j:Nat) (c0:Plan) (c1:Int) (a0:Int):T Int:=(D.dQ (D.cH c0 c1) (D.cg (D.bv ((D.aQ a0).1) c0.gen)) (fun _=>(D.fH j (D.bv ((D.aQ a0).1) c0.gen) c0 c1)))
theorem yG (hF:kH F w0) (hj:n<j)
    (c0:Plan) {c0b:Nat} (c0F:F c0b) (c0h:w0.heap[c0b]?=some (.cells ((ae c0)).toArray 23 (0,0))) (c1:Int) {c1b:Nat} (c1F:F c1b) (c1h:w0.heap[c1b]?=some (.cells ([(.int .i64 c1)]).toArray 3 (0,0))) (a0:Int) :
    Calls Tryz.prog 310 #[.int .u64 a0,zp c0b,zp c1b] w0 (aC Tryz.prog ak n (D.nR j c0 c1 a0) F w0):=by
 refine kN Tryz.func310 rfl 24 rfl rfl fun fr r hB=>?_;have lc0b:=lt_of_block c0h
 have lc1b:=lt_of_block c1h;refine wsr ?_;refine ai (.cells (af false ak.zero 0 0 0 0 .nilFunc) 44 (0,0)) r (fun R=>ah tz44) rfl fun fr b1 w2 n3 r=>?_;obtain ⟨E1,Z2,H1,hB,zB⟩:=n3.all hB
 refine wn (wsr (kM (U a0) r rfl rfl fun r=>?_));refine kE r (jJ w2 a0) rfl cl63 rfl fun w4 hb r=>?_
 have Z4:=hb.size;have H1:=keep hb H1;obtain ⟨hB,zB⟩:=bon hb hB;refine kM (.tuple #[(.agg (aH (D.aQ a0).1).toArray),(.bool (D.aQ a0).2)]) r rfl rfl fun r=>ac (.agg (aH (D.aQ a0).1).toArray) r (fun R=>bM r (vs:=#[(.agg (aH (D.aQ a0).1).toArray),(.bool (D.aQ a0).2)]) rfl rfl) rfl fun fr r=>ac (.bool (D.aQ a0).2) r (fun R=>bM r (vs:=#[(.agg (aH (D.aQ a0).1).toArray),(.bool (D.aQ a0).2)]) rfl rfl) rfl fun fr r=>?_;refine ai (.cells ((aH (⟨0,0,0⟩:State))).toArray 137 (0,0)) r (fun R=>ah fG) rfl fun fr b5 w6 n7 r=>?_
 have H1:=keep n7.below H1;obtain ⟨E5,Z6,H5,hB,zB⟩:=n7.all hB;refine bh (.cells ((aH ((D.aQ a0).1))).toArray 137 (0,0)) r (fun R=>aT r (o:=0) (v:=(.agg (aH (D.aQ a0).1).toArray)) rfl rfl H5 ep (Nat.le_of_ble_eq_true rfl) rfl rfl) rfl fun fr w8 u9 r=>?_;have Z8:=u9.size
 have H1:=u9.keep H1 kw
 have H5:=u9.at_;obtain ⟨hB,zB⟩:=u9.on hB kw
 refine kA (.bool (D.aQ a0).2) r rfl rfl fun r=>wn (wsr (ac (.agg (aH (D.aQ a0).1).toArray) r (fun R=>aS r (cs:=(aH ((D.aQ a0).1))) (n:=3) rfl H5 dG rfl) rfl fun fr r=>kF 0 r rfl vS rfl fun r=>kL (I c0.gen) r rfl (keep hB c0h) to3 rfl rfl fun r=>?_));refine kE r (yR w8 ((D.aQ a0).1) c0.gen) rfl Fb rfl fun w10 hb r=>?_
 have Z10:=hb.size;have H1:=keep hb H1;have H5:=keep hb H5;obtain ⟨hB,zB⟩:=bon hb hB;refine ai (.cells ((aH (⟨0,0,0⟩:State))).toArray 137 (0,0)) r (fun R=>ah fG) rfl fun fr b11 w12 n13 r=>?_;have H1:=keep n13.below H1
 have H5:=keep n13.below H5;obtain ⟨E11,Z12,H11,hB,zB⟩:=n13.all hB;refine bh (.cells ((aH (D.bv ((D.aQ a0).1) c0.gen))).toArray 137 (0,0)) r (fun R=>aT r (o:=0) (v:=(.agg (aH (D.bv ((D.aQ a0).1) c0.gen)).toArray)) rfl rfl H11 ep (Nat.le_of_ble_eq_true rfl) rfl rfl) rfl fun fr w14 u15 r=>?_;have Z14:=u15.size
 have H1:=u15.keep H1 kw
 have H5:=u15.keep H5 kw
 have H11:=u15.at_;obtain ⟨hB,zB⟩:=u15.on hB kw
 refine wn (wp_seq ?_);refine bI 6 [.val (.agg (ae c0).toArray),.val (I c1),.val (I (D.cH c0 c1)),.val (.agg (aH (D.bv ((D.aQ a0).1) c0.gen)).toArray),.val (U (D.cg (D.bv ((D.aQ a0).1) c0.gen))),.val (.func (.func 312) #[] #[zp b11,zp c0b,zp c1b])] mixed r kz (kV (kV (kV (kV (kV (kV bH)))))) ?_ ?_
 ·
  refine ec r (fun _ u _ b d s=>aS s (cs:=(ae c0)) (n:=6) rfl (bY hB b c0h) ta23 rfl bz) (ec r (fun _ u _ b d s=>av s rfl (bY hB b c1h) to3 rfl bz) (ec r (fun fr1 u w' hb' hd r'=>aJ r' (args:=[(.agg (ae c0).toArray),(I c1)]) (lc hd.1 (lc hd.2.1 l0)) cl64 ((ib _ c0 c1).mono (by rintro _ w2 ⟨rfl,hb2⟩; exact ⟨_,rfl,hb2,rfl⟩))) (ec r (fun _ u _ b d s=>aS s (cs:=(aH (D.bv ((D.aQ a0).1) c0.gen))) (n:=3) rfl (keep b H11) dG rfl bz) (ec r (fun fr1 u w' hb' hd r'=>aJ r' (args:=[(.agg (aH (D.bv ((D.aQ a0).1) c0.gen)).toArray)]) (lc hd.1 l0) qz ((jb _ (D.bv ((D.aQ a0).1) c0.gen)).mono (by rintro _ w2 ⟨rfl,hb2⟩; exact ⟨_,rfl,hb2,rfl⟩))) (ec r (fun _ u _ b d s=>aU s (v:=(.func (.func 312) #[] #[zp b11,zp c0b,zp c1b])) rfl bz) ?_)))));exact bJ
 intro fr u w16 hb hΦ hne r;have r:=r.congr (sc (hΦ 5 ke) (sc (hΦ 4 ke) (sc (hΦ 3 ke) (sc (hΦ 2 ke) (sc (hΦ 1 ke) (sc (hΦ 0 ke) rfl))))));have Z16:=hb.size;have H1:=keep hb H1;have H5:=keep hb H5;have H11:=keep hb H11;obtain ⟨hB,zB⟩:=bon hb hB;have hF1:=aO hF hB b1;have f17:((kW F w0 w16 b1)) b11:=(.inr ⟨kw,kw,kw⟩)
 have f18:((kW F w0 w16 b1)) c0b:=(.inl c0F);have f19:((kW F w0 w16 b1)) c1b:=(.inl c1F);refine kD r (fN (F:=(kW F w0 w16 b1)) (n:=n) hF1 (D.cH c0 c1) (D.cg (D.bv ((D.aQ a0).1) c0.gen)) ⟨312,[],[zp b11,zp c0b,zp c1b],DB,rfl,fun m hm _ w' hs hz=>xY (j:=j) (fun b hb=>Nat.lt_of_lt_of_le (hF1 b hb) hz) kw (D.bv ((D.aQ a0).1) c0.gen) f17 (hs.at_ f17 H11) c0 f18 (hs.at_ f18 (keep hB c0h)) c1 f19 (hs.at_ f19 (keep hB c1h))⟩) rfl gy rfl fun w20 v21 hb hr22 r=>?_;have Z20:=hb.size
 have H1:=keep hb H1;have H5:=keep hb H5;have H11:=keep hb H11;obtain ⟨hB,zB⟩:=bon hb hB;refine kP r hr22.shape rfl rfl H1 ts44 rfl rfl fun w23 u24 r=>?_;have Z23:=u24.size
 have H5:=u24.keep H5 kw
 have H11:=u24.keep H11 kw
 have H1:=u24.at_;obtain ⟨hB,zB⟩:=u24.on hB kw
 exact wn (wp_ret (kR r hr22 rfl rfl H1 rfl ta44 hF hB u24 kw kw kw))
def D.oe (j:Nat) (c0:Plan) (c1:Int):T Int:=(D.dx (D.cH c0 c1) (fun x=>(D.nR j c0 c1 x)))
theorem yX (hF:kH F w0) (hj:n<j)
    (c0:Plan) {c0b:Nat} (c0F:F c0b) (c0h:w0.heap[c0b]?=some (.cells ((ae c0)).toArray 23 (0,0))) (c1:Int) {c1b:Nat} (c1F:F c1b) (c1h:w0.heap[c1b]?=some (.cells ([(.int .i64 c1)]).toArray 3 (0,0))) :
    Calls Tryz.prog 309 #[zp c0b,zp c1b] w0 (aC Tryz.prog ak n (D.oe j c0 c1) F w0):=by
 refine kN Tryz.func309 rfl 8 rfl rfl fun fr r hB=>?_;have lc0b:=lt_of_block c0h
 have lc1b:=lt_of_block c1h;refine wsr ?_;refine ai (.cells (af false ak.zero 0 0 0 0 .nilFunc) 44 (0,0)) r (fun R=>ah tz44) rfl fun fr b1 w2 n3 r=>?_;obtain ⟨E1,Z2,H1,hB,zB⟩:=n3.all hB
 refine wn (wsr (kG (ae c0) 6 r rfl (keep hB c0h) ta23 rfl rfl fun r=>kL (I c1) r rfl (keep hB c1h) to3 rfl rfl fun r=>?_));refine kE r (ib w2 c0 c1) rfl cl64 rfl fun w4 hb r=>?_
 have Z4:=hb.size;have H1:=keep hb H1;obtain ⟨hB,zB⟩:=bon hb hB;refine ac (.func (.func 310) #[] #[zp c0b,zp c1b]) r (fun R=>aU r rfl) rfl fun fr r=>?_;have hF1:=aO hF hB b1
 have f5:((kW F w0 w4 b1)) c0b:=(.inl c0F);have f6:((kW F w0 w4 b1)) c1b:=(.inl c1F);refine kD r (fj (F:=(kW F w0 w4 b1)) (n:=n) hF1 (D.cH c0 c1) ⟨310,[],[zp c0b,zp c1b],DE,rfl,fun m hm x w' hs hz=>yG (j:=j) (fun b hb=>Nat.lt_of_lt_of_le (hF1 b hb) hz) kw c0 f5 (hs.at_ f5 (keep hB c0h)) c1 f6 (hs.at_ f6 (keep hB c1h)) x⟩) rfl fF rfl fun w7 v8 hb hr9 r=>?_;have Z7:=hb.size
 have H1:=keep hb H1;obtain ⟨hB,zB⟩:=bon hb hB;refine kP r hr9.shape rfl rfl H1 ts44 rfl rfl fun w10 u11 r=>?_;have Z10:=u11.size
 have H1:=u11.at_;obtain ⟨hB,zB⟩:=u11.on hB kw
 exact wn (wp_ret (kR r hr9 rfl rfl H1 rfl ta44 hF hB u11 kw kw kw))
def D.fP (j:Nat) (a0:Plan) (a1:Int):T Int:=(D.dI j a0 a1 0 (fun _=>(D.oe j a0 a1)))
theorem sm (hF:kH F w0) (hj:n<j)
    (a0:Plan) (a1:Int) :
    Calls Tryz.prog 217 #[.agg (ae a0).toArray,.int .i64 a1] w0 (aC Tryz.prog ak n (D.fP j a0 a1) F w0):=by
 refine kN Tryz.func217 rfl 9 rfl rfl fun fr r hB=>?_;refine wsr ?_
 refine kX 23 (.agg (ae a0).toArray) r rfl rfl fun b1 w2 n3 r=>?_;obtain ⟨E1,Z2,H1,hB,zB⟩:=n3.all hB
 refine kX 3 (I a1) r rfl rfl fun b4 w5 n6 r=>?_;have H1:=keep n6.below H1
 obtain ⟨E4,Z5,H4,hB,zB⟩:=n6.all hB;refine ai (.cells (af false ak.zero 0 0 0 0 .nilFunc) 44 (0,0)) r (fun R=>ah tz44) rfl fun fr b7 w8 n9 r=>?_;have H1:=keep n9.below H1
 have H4:=keep n9.below H4;obtain ⟨E7,Z8,H7,hB,zB⟩:=n9.all hB;refine wn (wsr (kG (ae a0) 6 r rfl H1 ta23 rfl rfl fun r=>kL (I a1) r rfl H4 to3 rfl rfl fun r=>ac (.func (.func 309) #[] #[zp b1,zp b4]) r (fun R=>aU r rfl) rfl fun fr r=>?_));have hF1:=aO hF hB b7
 have f10:((kW F w0 w8 b7)) b1:=(.inr ⟨kw,kw,kw⟩)
 have f11:((kW F w0 w8 b7)) b4:=(.inr ⟨kw,kw,kw⟩)
 refine kD r ((AQ (k:=j) (n:=n) kw) (kW F w0 w8 b7) _ hF1 a0 a1 0 ⟨309,[],[zp b1,zp b4],Er,rfl,fun m hm _ w' hs hz=>yX (j:=j) (fun b hb=>Nat.lt_of_lt_of_le (hF1 b hb) hz) kw a0 f10 (hs.at_ f10 H1) a1 f11 (hs.at_ f11 H4)⟩) rfl wP rfl fun w12 v13 hb hr14 r=>?_;have Z12:=hb.size
 have H1:=keep hb H1;have H4:=keep hb H4;have H7:=keep hb H7;obtain ⟨hB,zB⟩:=bon hb hB;refine kP r hr14.shape rfl rfl H7 ts44 rfl rfl fun w15 u16 r=>?_;have Z15:=u16.size
 have H1:=u16.keep H1 kw
 have H4:=u16.keep H4 kw
 have H7:=u16.at_;obtain ⟨hB,zB⟩:=u16.on hB kw
 exact wn (wp_ret (kR r hr14 rfl rfl H7 rfl ta44 hF hB u16 kw kw kw))
def D.lv (c0:Plan) (c1:Int) (c2:Scan) (c3:(Unit→T Int)) (a0:Int):T Int:=(D.dQ (D.cT c0 c1 c2.at_) a0 c3)
theorem zj (hF:kH F w0)
    (c0:Plan) {c0b:Nat} (c0F:F c0b) (c0h:w0.heap[c0b]?=some (.cells ((ae c0)).toArray 23 (0,0))) (c1:Int) {c1b:Nat} (c1F:F c1b) (c1h:w0.heap[c1b]?=some (.cells ([(.int .i64 c1)]).toArray 3 (0,0))) (c2:Scan) {c2b:Nat} (c2F:F c2b) (c2h:w0.heap[c2b]?=some (.cells ((scanC c2)).toArray 286 (0,0))) {c3f:FuncId} {c3_1 c3_2:List Value} {c3:(Unit→T Int)} {c3b:Nat} (c3F:F c3b) (c3h:w0.heap[c3b]?=some (.cells #[.func (.func c3f) c3_1.toArray c3_2.toArray] 242 (0,0))) (c3n:FnT Tryz.prog ak unitE (n+1) F w0 (.func (.func c3f) c3_1.toArray c3_2.toArray) c3) (a0:Int) :
    Calls Tryz.prog 388 #[.int .u64 a0,zp c0b,zp c1b,zp c2b,zp c3b] w0 (aC Tryz.prog ak n (D.lv c0 c1 c2 c3 a0) F w0):=by
 refine kN Tryz.func388 rfl 15 rfl rfl fun fr r hB=>?_;have lc0b:=lt_of_block c0h
 have lc1b:=lt_of_block c1h;have lc2b:=lt_of_block c2h;have lc3b:=lt_of_block c3h;refine wsr ?_;refine ai (.cells (af false ak.zero 0 0 0 0 .nilFunc) 44 (0,0)) r (fun R=>ah tz44) rfl fun fr b1 w2 n3 r=>?_;obtain ⟨E1,Z2,H1,hB,zB⟩:=n3.all hB
 refine wn (wp_seq ?_);refine bI 7 [.val (.agg (ae c0).toArray),.val (I c1),.val (zp c2b),.val (I c2.at_),.val (I (D.cT c0 c1 c2.at_)),.val (U a0),.val (.func (.func c3f) c3_1.toArray c3_2.toArray)] mixed r kz (kV (kV (kV (kV (kV (kV (kV bH))))))) ?_ ?_
 ·
  refine ec r (fun _ u _ b d s=>aS s (cs:=(ae c0)) (n:=6) rfl (bY hB b c0h) ta23 rfl bz) (ec r (fun _ u _ b d s=>av s rfl (bY hB b c1h) to3 rfl bz) (ec r (fun _ u _ b d s=>ax s (b:=c2b) (o:=0) rfl iU bz) (ec r (fun _ u _ b d s=>av s d.1 (bY hB b c2h) to3 rfl bz) (ec r (fun fr1 u w' hb' hd r'=>aJ r' (args:=[(.agg (ae c0).toArray),(I c1),(I c2.at_)]) (lc hd.1 (lc hd.2.1 (lc hd.2.2.1 l0))) mY ((l8 _ c0 c1 c2.at_).mono (by rintro _ w2 ⟨rfl,hb2⟩; exact ⟨_,rfl,hb2,rfl⟩))) (ec r (fun _ u _ b d s=>ay s rfl bz) (ec r (fun _ u _ b d s=>av s rfl (bY hB b c3h) kQ rfl bz) ?_))))));exact bJ
 intro fr u w4 hb hΦ hne r;have r:=r.congr (sc (hΦ 6 ke) (sc (hΦ 5 ke) (sc (hΦ 4 ke) (sc (hΦ 3 ke) (sc (hΦ 2 ke) (sc (hΦ 1 ke) (sc (hΦ 0 ke) rfl)))))));have Z4:=hb.size;have H1:=keep hb H1;obtain ⟨hB,zB⟩:=bon hb hB;have hF1:=aO hF hB b1;refine kD r (fN (F:=(kW F w0 w4 b1)) (n:=n) hF1 (D.cT c0 c1 c2.at_) a0 (c3n.mono kw (fun b h=>.inl h) (Same.below hB hF) hB.size)) rfl gy rfl fun w5 v6 hb hr7 r=>?_;have Z5:=hb.size
 have H1:=keep hb H1;obtain ⟨hB,zB⟩:=bon hb hB;refine kP r hr7.shape rfl rfl H1 ts44 rfl rfl fun w8 u9 r=>?_;have Z8:=u9.size
 have H1:=u9.at_;obtain ⟨hB,zB⟩:=u9.on hB kw
 exact wn (wp_ret (kR r hr7 rfl rfl H1 rfl ta44 hF hB u9 kw kw kw))
def D.l6 (j:Nat) (r_retire_scanned:Plan→Int→Scan→T Int) (c0:Plan) (c1:Int) (c2:Scan) (c3:Int) (a0:Int):T Int:=(r_retire_scanned c0 c1 (⟨(IntKind.i64.wrap (c2.at_ - 1)),c3,(IntKind.i64.wrap (c2.done+1))⟩:Scan))
def D.nP (j:Nat) (r_retire_scanned:Plan→Int→Scan→T Int) (c0:Plan) (c1:Int) (c2:Int) (c3:Scan) (c4:Int):T Int:=(T.bind (D.fP j c0 c1) (fun x=>(D.l6 j r_retire_scanned c0 c2 c3 c4 x)))
def D.ez (j:Nat) (r_retire_scanned:Plan→Int→Scan→T Int) (c0:Plan) (c1:Int) (c2:Int) (c3:Int) (c4:Scan):T Int:=(D.dQ (D.dC c0 c1) (IntKind.u64.wrap c2) (fun _=>(D.nP j r_retire_scanned c0 c3 c1 c4 c2)))
def D.gJ (j:Nat) (r_retire_scanned:Plan→Int→Scan→T Int) (a0:Plan) (a1:Int) (a2:Scan) (a3:Int):T Int:=(bif (a2.at_==(IntKind.i64.wrap (a2.left - 1))) then ((fun _=>(D.ez j r_retire_scanned a0 a1 (IntKind.i64.wrap (a2.left - 1)) a3 a2)) ()) else (D.dx (D.cT a0 a1 (IntKind.i64.wrap (a2.left - 1))) (fun x=>(D.lv a0 a1 a2 (fun _=>(D.ez j r_retire_scanned a0 a1 (IntKind.i64.wrap (a2.left - 1)) a3 a2)) x))))
def D.fb (j:Nat) (r_retire_scanned:Plan→Int→Scan→T Int) (c0:Plan) (c1:Int) (c2:Scan) (c3:Scan) (c4:Int) (a0:Bool):T Int:=(bif a0 then (r_retire_scanned c0 c1 c2) else (D.gJ j r_retire_scanned c0 c1 c3 (IntKind.i64.wrap ((IntKind.i64.wrap c4) - 1))))
def D.gI (j:Nat) (r_retire_scanned:Plan→Int→Scan→T Int) (c0:Plan) (c1:Int) (c2:Scan) (c3:Scan) (a0:Int):T Int:=(bif (decide (a0<1)) then (r_retire_scanned c0 c1 c2) else (bif (decide (a0 > (IntKind.u64.wrap c0.nodes))) then (r_retire_scanned c0 c1 c2) else (T.bind (D.lY j c0 (IntKind.i64.wrap ((IntKind.i64.wrap a0) - 1))) (fun x=>(D.fb j r_retire_scanned c0 c1 c2 c3 a0 x)))))
def D.fJ (j:Nat) (r_retire_scanned:Plan→Int→Scan→T Int) (a0:Plan) (a1:Int) (a2:Scan):T Int:=(bif (decide (a2.at_<0)) then (D.cJ a2.done) else (D.dx (D.cT a0 a1 a2.at_) (fun x=>(D.gI j r_retire_scanned a0 a1 (⟨(IntKind.i64.wrap (a2.at_ - 1)),a2.left,a2.done⟩:Scan) a2 x))))
def D.cV (j:Nat):Nat→Plan→Int→Scan→T Int
  | 0,_,_,_=>.cut
  | k+1,a0,a1,a2=>D.fJ j (D.cV j k) a0 a1 a2
def fI (r:Plan→Int→Scan→T Int) (n:Nat):Prop:=∀ (F:Nat→Prop) (w0:World),(∀ b,F b→b<w0.heap.size)→∀ (a0:Plan) (a1:Int) (a2:Scan),Calls Tryz.prog 262 #[.agg (ae a0).toArray,.int .i64 a1,.agg (scanC a2).toArray] w0 (aC Tryz.prog ak n (r a0 a1 a2) F w0)
theorem xW {r_retire_scanned:Plan→Int→Scan→T Int} (hF:kH F w0) (hj:n<j) (ih_retire_scanned:∀ m,m≤n→fI r_retire_scanned m)
    (c0:Plan) {c0b:Nat} (c0F:F c0b) (c0h:w0.heap[c0b]?=some (.cells ((ae c0)).toArray 23 (0,0))) (c1:Int) {c1b:Nat} (c1F:F c1b) (c1h:w0.heap[c1b]?=some (.cells ([(.int .i64 c1)]).toArray 3 (0,0))) (c2:Scan) {c2b:Nat} (c2F:F c2b) (c2h:w0.heap[c2b]?=some (.cells ((scanC c2)).toArray 286 (0,0))) (c3:Int) {c3b:Nat} (c3F:F c3b) (c3h:w0.heap[c3b]?=some (.cells ([(.int .i64 c3)]).toArray 3 (0,0))) (a0:Int) :
    Calls Tryz.prog 387 #[.int .i64 a0,zp c0b,zp c1b,zp c2b,zp c3b] w0 (aC Tryz.prog ak n (D.l6 j r_retire_scanned c0 c1 c2 c3 a0) F w0):=by
 refine kN Tryz.func387 rfl 18 rfl rfl fun fr r hB=>?_;have lc0b:=lt_of_block c0h
 have lc1b:=lt_of_block c1h;have lc2b:=lt_of_block c2h;have lc3b:=lt_of_block c3h;refine wsr ?_;refine ai (.cells (af false ak.zero 0 0 0 0 .nilFunc) 44 (0,0)) r (fun R=>ah tz44) rfl fun fr b1 w2 n3 r=>?_;obtain ⟨E1,Z2,H1,hB,zB⟩:=n3.all hB
 refine wn (wsr (kG (ae c0) 6 r rfl (keep hB c0h) ta23 rfl rfl fun r=>kL (I c1) r rfl (keep hB c1h) to3 rfl rfl fun r=>kF 0 r rfl iU rfl fun r=>kL (I c2.at_) r rfl (keep hB c2h) to3 rfl rfl fun r=>kB r rfl rfl rfl rfl rfl fun r=>kL (I c3) r rfl (keep hB c3h) to3 rfl rfl fun r=>kF 0 r rfl pZ rfl fun r=>kL (I c2.done) r rfl (keep hB c2h) to3 rfl rfl fun r=>kB r rfl rfl rfl rfl rfl fun r=>kU (.agg (scanC (⟨(W (c2.at_ - 1)),c3,(W (c2.done+1))⟩:Scan)).toArray) r kz rfl fun r=>?_));have hF1:=aO hF hB b1
 refine kD r ((ih_retire_scanned n kw) (kW F w0 w2 b1) _ hF1 c0 c1 (⟨(W (c2.at_ - 1)),c3,(W (c2.done+1))⟩:Scan)) rfl kY rfl fun w4 v5 hb hr6 r=>?_;have Z4:=hb.size
 have H1:=keep hb H1;obtain ⟨hB,zB⟩:=bon hb hB;refine kP r hr6.shape rfl rfl H1 ts44 rfl rfl fun w7 u8 r=>?_;have Z7:=u8.size
 have H1:=u8.at_;obtain ⟨hB,zB⟩:=u8.on hB kw
 exact wn (wp_ret (kR r hr6 rfl rfl H1 rfl ta44 hF hB u8 kw kw kw))
theorem yz {r_retire_scanned:Plan→Int→Scan→T Int} (hF:kH F w0) (hj:n<j) (ih_retire_scanned:∀ m,m<n→fI r_retire_scanned m)
    (c0:Plan) {c0b:Nat} (c0F:F c0b) (c0h:w0.heap[c0b]?=some (.cells ((ae c0)).toArray 23 (0,0))) (c1:Int) {c1b:Nat} (c1F:F c1b) (c1h:w0.heap[c1b]?=some (.cells ([(.int .i64 c1)]).toArray 3 (0,0))) (c2:Int) {c2b:Nat} (c2F:F c2b) (c2h:w0.heap[c2b]?=some (.cells ([(.int .i64 c2)]).toArray 3 (0,0))) (c3:Scan) {c3b:Nat} (c3F:F c3b) (c3h:w0.heap[c3b]?=some (.cells ((scanC c3)).toArray 286 (0,0))) (c4:Int) {c4b:Nat} (c4F:F c4b) (c4h:w0.heap[c4b]?=some (.cells ([(.int .i64 c4)]).toArray 3 (0,0))) :
    Calls Tryz.prog 386 #[zp c0b,zp c1b,zp c2b,zp c3b,zp c4b] w0 (aC Tryz.prog ak n (D.nP j r_retire_scanned c0 c1 c2 c3 c4) F w0):=by
 refine kN Tryz.func386 rfl 11 rfl rfl fun fr r hB=>?_;have lc0b:=lt_of_block c0h
 have lc1b:=lt_of_block c1h;have lc2b:=lt_of_block c2h;have lc3b:=lt_of_block c3h;have lc4b:=lt_of_block c4h;refine wsr ?_;refine ai (.cells (af false ak.zero 0 0 0 0 .nilFunc) 44 (0,0)) r (fun R=>ah tz44) rfl fun fr b1 w2 n3 r=>?_;obtain ⟨E1,Z2,H1,hB,zB⟩:=n3.all hB
 refine wn (wsr (kG (ae c0) 6 r rfl (keep hB c0h) ta23 rfl rfl fun r=>kL (I c1) r rfl (keep hB c1h) to3 rfl rfl fun r=>?_));have hF1:=aO hF hB b1
 refine kD r (sm (j:=j) (F:=(kW F w0 w2 b1)) (n:=n) hF1 kw c0 c1) rfl xa rfl fun w4 v5 hb hr6 r=>?_;have Z4:=hb.size
 have H1:=keep hb H1;obtain ⟨hB,zB⟩:=bon hb hB;refine ac (.func (.func 387) #[] #[zp c0b,zp c2b,zp c3b,zp c4b]) r (fun R=>aU r rfl) rfl fun fr r=>?_;have hF1:=aO hF hB b1
 have f7:((kW F w0 w4 b1)) c0b:=(.inl c0F);have f8:((kW F w0 w4 b1)) c2b:=(.inl c2F);have f9:((kW F w0 w4 b1)) c3b:=(.inl c3F);have f10:((kW F w0 w4 b1)) c4b:=(.inl c4F);refine kD r (xV (F:=(kW F w0 w4 b1)) (n:=n) hF1 (Rep.mono (by rintro b (h | h); (rcases h with h | ⟨h1,h2,h3⟩; exact .inl h; exact .inr ⟨h1,kw,h3⟩); exact .inr ⟨kw,kw,kw⟩) (Same.refl _ _) kw n _ _ hr6) ⟨387,[],[zp c0b,zp c2b,zp c3b,zp c4b],Ej,rfl,fun m hm x w' hs hz=>xW (j:=j) (fun b hb=>Nat.lt_of_lt_of_le (hF1 b hb) hz) kw (fun m' hm'=>ih_retire_scanned m' kw) c0 f7 (hs.at_ f7 (keep hB c0h)) c2 f8 (hs.at_ f8 (keep hB c2h)) c3 f9 (hs.at_ f9 (keep hB c3h)) c4 f10 (hs.at_ f10 (keep hB c4h)) x⟩ (by first | rfl | (cases j with | zero=>omega | succ q=>rfl))) rfl kq rfl fun w11 v12 hb hr13 r=>?_
 have Z11:=hb.size;have H1:=keep hb H1;obtain ⟨hB,zB⟩:=bon hb hB;refine kP r hr13.shape rfl rfl H1 ts44 rfl rfl fun w14 u15 r=>?_;have Z14:=u15.size
 have H1:=u15.at_;obtain ⟨hB,zB⟩:=u15.on hB kw
 exact wn (wp_ret (kR r hr13 rfl rfl H1 rfl ta44 hF hB u15 kw kw kw))
theorem rT {r_retire_scanned:Plan→Int→Scan→T Int} (hF:kH F w0) (hj:n<j) (ih_retire_scanned:∀ m,m<n→fI r_retire_scanned m)
    (c0:Plan) {c0b:Nat} (c0F:F c0b) (c0h:w0.heap[c0b]?=some (.cells ((ae c0)).toArray 23 (0,0))) (c1:Int) {c1b:Nat} (c1F:F c1b) (c1h:w0.heap[c1b]?=some (.cells ([(.int .i64 c1)]).toArray 3 (0,0))) (c2:Int) {c2b:Nat} (c2F:F c2b) (c2h:w0.heap[c2b]?=some (.cells ([(.int .i64 c2)]).toArray 3 (0,0))) (c3:Int) {c3b:Nat} (c3F:F c3b) (c3h:w0.heap[c3b]?=some (.cells ([(.int .i64 c3)]).toArray 3 (0,0))) (c4:Scan) {c4b:Nat} (c4F:F c4b) (c4h:w0.heap[c4b]?=some (.cells ((scanC c4)).toArray 286 (0,0))) :
    Calls Tryz.prog 385 #[zp c0b,zp c1b,zp c2b,zp c3b,zp c4b] w0 (aC Tryz.prog ak n (D.ez j r_retire_scanned c0 c1 c2 c3 c4) F w0):=by
 refine kN Tryz.func385 rfl 13 rfl rfl fun fr r hB=>?_;have lc0b:=lt_of_block c0h
 have lc1b:=lt_of_block c1h;have lc2b:=lt_of_block c2h;have lc3b:=lt_of_block c3h;have lc4b:=lt_of_block c4h;refine wsr ?_;refine ai (.cells (af false ak.zero 0 0 0 0 .nilFunc) 44 (0,0)) r (fun R=>ah tz44) rfl fun fr b1 w2 n3 r=>?_;obtain ⟨E1,Z2,H1,hB,zB⟩:=n3.all hB
 refine wn (wp_seq ?_);refine bI 6 [.val (.agg (ae c0).toArray),.val (I c1),.val (I (D.dC c0 c1)),.val (I c2),.val (U (V c2)),.val (.func (.func 386) #[] #[zp c0b,zp c3b,zp c1b,zp c4b,zp c2b])] mixed r kz (kV (kV (kV (kV (kV (kV bH)))))) ?_ ?_
 ·
  refine ec r (fun _ u _ b d s=>aS s (cs:=(ae c0)) (n:=6) rfl (bY hB b c0h) ta23 rfl bz) (ec r (fun _ u _ b d s=>av s rfl (bY hB b c1h) to3 rfl bz) (ec r (fun fr1 u w' hb' hd r'=>aJ r' (args:=[(.agg (ae c0).toArray),(I c1)]) (lc hd.1 (lc hd.2.1 l0)) nF ((lf _ c0 c1).mono (by rintro _ w2 ⟨rfl,hb2⟩; exact ⟨_,rfl,hb2,rfl⟩))) (ec r (fun _ u _ b d s=>av s rfl (bY hB b c2h) to3 rfl bz) (ec r (fun _ u _ b d s=>cK s (n:=c2) d.1 ti3 ti36 bz) (ec r (fun _ u _ b d s=>aU s (v:=(.func (.func 386) #[] #[zp c0b,zp c3b,zp c1b,zp c4b,zp c2b])) rfl bz) ?_)))));exact bJ
 intro fr u w4 hb hΦ hne r;have r:=r.congr (sc (hΦ 5 ke) (sc (hΦ 4 ke) (sc (hΦ 3 ke) (sc (hΦ 2 ke) (sc (hΦ 1 ke) (sc (hΦ 0 ke) rfl))))));have Z4:=hb.size;have H1:=keep hb H1;obtain ⟨hB,zB⟩:=bon hb hB;have hF1:=aO hF hB b1;have f5:((kW F w0 w4 b1)) c0b:=(.inl c0F);have f6:((kW F w0 w4 b1)) c3b:=(.inl c3F);have f7:((kW F w0 w4 b1)) c1b:=(.inl c1F);have f8:((kW F w0 w4 b1)) c4b:=(.inl c4F);have f9:((kW F w0 w4 b1)) c2b:=(.inl c2F);refine kD r (fN (F:=(kW F w0 w4 b1)) (n:=n) hF1 (D.dC c0 c1) (V c2) ⟨386,[],[zp c0b,zp c3b,zp c1b,zp c4b,zp c2b],Dr,rfl,fun m hm _ w' hs hz=>yz (j:=j) (fun b hb=>Nat.lt_of_lt_of_le (hF1 b hb) hz) kw (fun m' hm'=>ih_retire_scanned m' kw) c0 f5 (hs.at_ f5 (keep hB c0h)) c3 f6 (hs.at_ f6 (keep hB c3h)) c1 f7 (hs.at_ f7 (keep hB c1h)) c4 f8 (hs.at_ f8 (keep hB c4h)) c2 f9 (hs.at_ f9 (keep hB c2h))⟩) rfl gy rfl fun w10 v11 hb hr12 r=>?_;have Z10:=hb.size
 have H1:=keep hb H1;obtain ⟨hB,zB⟩:=bon hb hB;refine kP r hr12.shape rfl rfl H1 ts44 rfl rfl fun w13 u14 r=>?_;have Z13:=u14.size
 have H1:=u14.at_;obtain ⟨hB,zB⟩:=u14.on hB kw
 exact wn (wp_ret (kR r hr12 rfl rfl H1 rfl ta44 hF hB u14 kw kw kw))
theorem zQ {r_retire_scanned:Plan→Int→Scan→T Int} (hF:kH F w0) (hj:n<j) (ih_retire_scanned:∀ m,m<n→fI r_retire_scanned m)
    (a0:Plan) (a1:Int) (a2:Scan) (a3:Int) :
    Calls Tryz.prog 337 #[.agg (ae a0).toArray,.int .i64 a1,.agg (scanC a2).toArray,.int .i64 a3] w0 (aC Tryz.prog ak n (D.gJ j r_retire_scanned a0 a1 a2 a3) F w0):=by
 refine kN Tryz.func337 rfl 27 rfl rfl fun fr r hB=>?_;refine wsr ?_
 refine kX 23 (.agg (ae a0).toArray) r rfl rfl fun b1 w2 n3 r=>?_;obtain ⟨E1,Z2,H1,hB,zB⟩:=n3.all hB
 refine kX 3 (I a1) r rfl rfl fun b4 w5 n6 r=>?_;have H1:=keep n6.below H1
 obtain ⟨E4,Z5,H4,hB,zB⟩:=n6.all hB;refine kX 286 (.agg (scanC a2).toArray) r rfl rfl fun b7 w8 n9 r=>?_;have H1:=keep n9.below H1
 have H4:=keep n9.below H4;obtain ⟨E7,Z8,H7,hB,zB⟩:=n9.all hB;refine kX 3 (I a3) r rfl rfl fun b10 w11 n12 r=>?_;have H1:=keep n12.below H1
 have H4:=keep n12.below H4;have H7:=keep n12.below H7;obtain ⟨E10,Z11,H10,hB,zB⟩:=n12.all hB;refine ai (.cells (af false ak.zero 0 0 0 0 .nilFunc) 44 (0,0)) r (fun R=>ah tz44) rfl fun fr b13 w14 n15 r=>?_;have H1:=keep n15.below H1
 have H4:=keep n15.below H4;have H7:=keep n15.below H7;have H10:=keep n15.below H10;obtain ⟨E13,Z14,H13,hB,zB⟩:=n15.all hB;refine wn (wsr (kF 0 r rfl uY rfl fun r=>kL (I a2.left) r rfl H7 to3 rfl rfl fun r=>kB r rfl rfl rfl rfl rfl fun r=>?_));refine ai (.cells #[(I 0)] 3 (0,0)) r (fun R=>ah tz3) rfl fun fr b16 w17 n18 r=>?_
 have H1:=keep n18.below H1;have H4:=keep n18.below H4;have H7:=keep n18.below H7;have H10:=keep n18.below H10;have H13:=keep n18.below H13;obtain ⟨E16,Z17,H16,hB,zB⟩:=n18.all hB;refine bh (.cells #[(I (W (a2.left - 1)))] 3 (0,0)) r (fun R=>aT r (o:=0) (v:=(I (W (a2.left - 1)))) rfl rfl H16 ts3 (Nat.le_of_ble_eq_true rfl) rfl rfl) rfl fun fr w19 u20 r=>?_;have Z19:=u20.size
 have H1:=u20.keep H1 kw
 have H4:=u20.keep H4 kw
 have H7:=u20.keep H7 kw
 have H10:=u20.keep H10 kw
 have H13:=u20.keep H13 kw
 have H16:=u20.at_;obtain ⟨hB,zB⟩:=u20.on hB kw
 refine wn (wsr (ac (.func (.func 385) #[] #[zp b1,zp b4,zp b16,zp b10,zp b7]) r (fun R=>aU r rfl) rfl fun fr r=>?_));refine ai (.cells #[.nilFunc] 242 (0,0)) r (fun R=>ah DR) rfl fun fr b21 w22 n23 r=>?_
 have H1:=keep n23.below H1;have H4:=keep n23.below H4;have H7:=keep n23.below H7;have H10:=keep n23.below H10;have H13:=keep n23.below H13;have H16:=keep n23.below H16;obtain ⟨E21,Z22,H21,hB,zB⟩:=n23.all hB;refine bh (.cells #[.func (.func 385) #[] #[zp b1,zp b4,zp b16,zp b10,zp b7]] 242 (0,0)) r (fun R=>aT r (o:=0) (v:=(.func (.func 385) #[] #[zp b1,zp b4,zp b16,zp b10,zp b7])) rfl rfl H21 Ek (Nat.le_of_ble_eq_true rfl) rfl rfl) rfl fun fr w24 u25 r=>?_;have Z24:=u25.size
 have H1:=u25.keep H1 kw
 have H4:=u25.keep H4 kw
 have H7:=u25.keep H7 kw
 have H10:=u25.keep H10 kw
 have H13:=u25.keep H13 kw
 have H16:=u25.keep H16 kw
 have H21:=u25.at_;obtain ⟨hB,zB⟩:=u25.on hB kw
 refine wn (wp_seq (wsr (kF 0 r rfl iU rfl fun r=>kL (I a2.at_) r rfl H7 to3 rfl rfl fun r=>kL (I (W (a2.left - 1))) r rfl H16 to3 rfl rfl fun r=>kB r rfl rfl rfl rfl rfl fun r=>wn ?_)));refine wp_cond_split (t:=(a2.at_==(W (a2.left - 1)))) (r.ev rfl) (fun h26=>?_) (fun h26=>?_)
 ·
  refine wsr (kL (.func (.func 385) #[] #[zp b1,zp b4,zp b16,zp b10,zp b7]) r rfl H21 kQ rfl rfl fun r=>?_);have hF1:=aO hF hB b13
  have f27:((kW F w0 w24 b13)) b1:=(.inr ⟨kw,kw,kw⟩)
  have f28:((kW F w0 w24 b13)) b4:=(.inr ⟨kw,kw,kw⟩)
  have f29:((kW F w0 w24 b13)) b16:=(.inr ⟨kw,kw,kw⟩)
  have f30:((kW F w0 w24 b13)) b10:=(.inr ⟨kw,kw,kw⟩)
  have f31:((kW F w0 w24 b13)) b7:=(.inr ⟨kw,kw,kw⟩)
  have q32:FnT Tryz.prog ak unitE (n+1) (kW F w0 w24 b13) w24 (.func (.func 385) #[] #[zp b1,zp b4,zp b16,zp b10,zp b7]) (fun _=>(D.ez j r_retire_scanned a0 a1 (W (a2.left - 1)) a3 a2)):=⟨385,[],[zp b1,zp b4,zp b16,zp b10,zp b7],wS,rfl,fun m hm _ w' hs hz=>rT (j:=j) (fun b hb=>Nat.lt_of_lt_of_le (hF1 b hb) hz) kw (fun m' hm'=>ih_retire_scanned m' kw) a0 f27 (hs.at_ f27 H1) a1 f28 (hs.at_ f28 H4) (W (a2.left - 1)) f29 (hs.at_ f29 H16) a3 f30 (hs.at_ f30 H10) a2 f31 (hs.at_ f31 H7)⟩
  refine cA r (q32.at_.2 n (Nat.lt_succ_self n) () w24 (Same.refl _ _) (Nat.le_refl _)) (fun R hc=>gY r rfl q32.at_.1 hc) rfl ?_;rintro _ w33 ⟨v34,rfl,hb,hr35⟩
  refine ⟨_,rfl,fun fr r=>?_⟩
  have Z33:=hb.size;have H1:=keep hb H1;have H4:=keep hb H4;have H7:=keep hb H7;have H10:=keep hb H10;have H13:=keep hb H13;have H16:=keep hb H16;have H21:=keep hb H21;obtain ⟨hB,zB⟩:=bon hb hB;refine kP r hr35.shape rfl rfl H13 ts44 rfl rfl fun w36 u37 r=>?_;have Z36:=u37.size
  have H1:=u37.keep H1 kw
  have H4:=u37.keep H4 kw
  have H7:=u37.keep H7 kw
  have H10:=u37.keep H10 kw
  have H16:=u37.keep H16 kw
  have H21:=u37.keep H21 kw
  have H13:=u37.at_;obtain ⟨hB,zB⟩:=u37.on hB kw
  refine wn (wp_ret ?_);have hd:D.gJ j r_retire_scanned a0 a1 a2 a3=((fun _=>(D.ez j r_retire_scanned a0 a1 (W (a2.left - 1)) a3 a2)) ()):=(az h26).trans (rfl)
  have hs:=hr35.shape.cells;refine ar r rfl rfl H13 (k:=7) hs.1 ta44 ?_;rw [←hs.2.2,hd];exact rfin hF hB hr35 u37 kw kw kw
 refine wp_skip (wsr (kG (ae a0) 6 r rfl H1 ta23 rfl rfl fun r=>kL (I a1) r rfl H4 to3 rfl rfl fun r=>kL (I (W (a2.left - 1))) r rfl H16 to3 rfl rfl fun r=>?_));refine kE r (l8 w24 a0 a1 (W (a2.left - 1))) rfl mY rfl fun w38 hb r=>?_
 have Z38:=hb.size;have H1:=keep hb H1;have H4:=keep hb H4;have H7:=keep hb H7;have H10:=keep hb H10;have H13:=keep hb H13;have H16:=keep hb H16;have H21:=keep hb H21;obtain ⟨hB,zB⟩:=bon hb hB;refine ac (.func (.func 388) #[] #[zp b1,zp b4,zp b7,zp b21]) r (fun R=>aU r rfl) rfl fun fr r=>?_;have hF1:=aO hF hB b13
 have f39:((kW F w0 w38 b13)) b1:=(.inr ⟨kw,kw,kw⟩)
 have f40:((kW F w0 w38 b13)) b4:=(.inr ⟨kw,kw,kw⟩)
 have f41:((kW F w0 w38 b13)) b7:=(.inr ⟨kw,kw,kw⟩)
 have f42:((kW F w0 w38 b13)) b21:=(.inr ⟨kw,kw,kw⟩)
 have f44:((kW F w0 w38 b13)) b1:=(.inr ⟨kw,kw,kw⟩)
 have f45:((kW F w0 w38 b13)) b4:=(.inr ⟨kw,kw,kw⟩)
 have f46:((kW F w0 w38 b13)) b16:=(.inr ⟨kw,kw,kw⟩)
 have f47:((kW F w0 w38 b13)) b10:=(.inr ⟨kw,kw,kw⟩)
 have f48:((kW F w0 w38 b13)) b7:=(.inr ⟨kw,kw,kw⟩)
 have q43:FnT Tryz.prog ak unitE (n) (kW F w0 w38 b13) w38 (.func (.func 385) #[] #[zp b1,zp b4,zp b16,zp b10,zp b7]) (fun _=>(D.ez j r_retire_scanned a0 a1 (W (a2.left - 1)) a3 a2)):=⟨385,[],[zp b1,zp b4,zp b16,zp b10,zp b7],wS,rfl,fun m hm _ w' hs hz=>rT (j:=j) (fun b hb=>Nat.lt_of_lt_of_le (hF1 b hb) hz) kw (fun m' hm'=>ih_retire_scanned m' kw) a0 f44 (hs.at_ f44 H1) a1 f45 (hs.at_ f45 H4) (W (a2.left - 1)) f46 (hs.at_ f46 H16) a3 f47 (hs.at_ f47 H10) a2 f48 (hs.at_ f48 H7)⟩
 refine kD r (fj (F:=(kW F w0 w38 b13)) (n:=n) hF1 (D.cT a0 a1 (W (a2.left - 1))) ⟨388,[],[zp b1,zp b4,zp b7,zp b21],Fu,rfl,fun m hm x w' hs hz=>zj (fun b hb=>Nat.lt_of_lt_of_le (hF1 b hb) hz) a0 f39 (hs.at_ f39 H1) a1 f40 (hs.at_ f40 H4) a2 f41 (hs.at_ f41 H7) f42 (hs.at_ f42 H21) (q43.mono kw (fun b h=>h) hs hz) x⟩) rfl fF rfl fun w49 v50 hb hr51 r=>?_;have Z49:=hb.size
 have H1:=keep hb H1;have H4:=keep hb H4;have H7:=keep hb H7;have H10:=keep hb H10;have H13:=keep hb H13;have H16:=keep hb H16;have H21:=keep hb H21;obtain ⟨hB,zB⟩:=bon hb hB;refine kP r hr51.shape rfl rfl H13 ts44 rfl rfl fun w52 u53 r=>?_;have Z52:=u53.size
 have H1:=u53.keep H1 kw
 have H4:=u53.keep H4 kw
 have H7:=u53.keep H7 kw
 have H10:=u53.keep H10 kw
 have H16:=u53.keep H16 kw
 have H21:=u53.keep H21 kw
 have H13:=u53.at_;obtain ⟨hB,zB⟩:=u53.on hB kw
 refine wn (wp_ret ?_);have hd:D.gJ j r_retire_scanned a0 a1 a2 a3=(D.dx (D.cT a0 a1 (W (a2.left - 1))) (fun x=>(D.lv a0 a1 a2 (fun _=>(D.ez j r_retire_scanned a0 a1 (W (a2.left - 1)) a3 a2)) x))):=(aB h26).trans (rfl)
 have hs:=hr51.shape.cells;refine ar r rfl rfl H13 (k:=7) hs.1 ta44 ?_;rw [←hs.2.2,hd];exact rfin hF hB hr51 u53 kw kw kw
theorem yD {r_retire_scanned:Plan→Int→Scan→T Int} (hF:kH F w0) (hj:n<j) (ih_retire_scanned:∀ m,m≤n→fI r_retire_scanned m)
    (c0:Plan) {c0b:Nat} (c0F:F c0b) (c0h:w0.heap[c0b]?=some (.cells ((ae c0)).toArray 23 (0,0))) (c1:Int) {c1b:Nat} (c1F:F c1b) (c1h:w0.heap[c1b]?=some (.cells ([(.int .i64 c1)]).toArray 3 (0,0))) (c2:Scan) {c2b:Nat} (c2F:F c2b) (c2h:w0.heap[c2b]?=some (.cells ((scanC c2)).toArray 286 (0,0))) (c3:Scan) {c3b:Nat} (c3F:F c3b) (c3h:w0.heap[c3b]?=some (.cells ((scanC c3)).toArray 286 (0,0))) (c4:Int) {c4b:Nat} (c4F:F c4b) (c4h:w0.heap[c4b]?=some (.cells ([(.int .u64 c4)]).toArray 36 (0,0))) (a0:Bool) :
    Calls Tryz.prog 336 #[.bool a0,zp c0b,zp c1b,zp c2b,zp c3b,zp c4b] w0 (aC Tryz.prog ak n (D.fb j r_retire_scanned c0 c1 c2 c3 c4 a0) F w0):=by
 refine kN Tryz.func336 rfl 20 rfl rfl fun fr r hB=>?_;have lc0b:=lt_of_block c0h
 have lc1b:=lt_of_block c1h;have lc2b:=lt_of_block c2h;have lc3b:=lt_of_block c3h;have lc4b:=lt_of_block c4h;refine wsr ?_;refine ai (.cells (af false ak.zero 0 0 0 0 .nilFunc) 44 (0,0)) r (fun R=>ah tz44) rfl fun fr b1 w2 n3 r=>?_;obtain ⟨E1,Z2,H1,hB,zB⟩:=n3.all hB
 refine wn (wp_seq (wsr (kM (.bool a0) r rfl rfl fun r=>wn ?_)));refine wp_cond_split (t:=a0) (r.ev rfl) (fun h4=>?_) (fun h4=>?_)
 ·
  refine wsr (kG (ae c0) 6 r rfl (keep hB c0h) ta23 rfl rfl fun r=>kL (I c1) r rfl (keep hB c1h) to3 rfl rfl fun r=>kG (scanC c2) 3 r rfl (keep hB c2h) nE rfl rfl fun r=>?_);have hF1:=aO hF hB b1
  refine kD r ((ih_retire_scanned n kw) (kW F w0 w2 b1) _ hF1 c0 c1 c2) rfl kY rfl fun w5 v6 hb hr7 r=>?_;have Z5:=hb.size
  have H1:=keep hb H1;obtain ⟨hB,zB⟩:=bon hb hB;refine kP r hr7.shape rfl rfl H1 ts44 rfl rfl fun w8 u9 r=>?_;have Z8:=u9.size
  have H1:=u9.at_;obtain ⟨hB,zB⟩:=u9.on hB kw
  refine wn (wp_ret ?_);have hd:D.fb j r_retire_scanned c0 c1 c2 c3 c4 a0=(r_retire_scanned c0 c1 c2):=(az h4).trans (rfl);have hs:=hr7.shape.cells;refine ar r rfl rfl H1 (k:=7) hs.1 ta44 ?_;rw [←hs.2.2,hd];exact rfin hF hB hr7 u9 kw kw kw
 refine wp_skip (wsr (kG (ae c0) 6 r rfl (keep hB c0h) ta23 rfl rfl fun r=>kL (I c1) r rfl (keep hB c1h) to3 rfl rfl fun r=>kG (scanC c3) 3 r rfl (keep hB c3h) nE rfl rfl fun r=>kL (U c4) r rfl (keep hB c4h) to36 rfl rfl fun r=>ac (I (W c4)) r (fun R=>cK r rfl ti36 ti3) rfl fun fr r=>kB r rfl rfl rfl rfl rfl fun r=>?_));have hF1:=aO hF hB b1
 refine kD r (zQ (j:=j) (F:=(kW F w0 w2 b1)) (n:=n) hF1 kw (fun m' hm'=>ih_retire_scanned m' kw) c0 c1 c3 (W ((W c4) - 1))) rfl DP rfl fun w10 v11 hb hr12 r=>?_;have Z10:=hb.size
 have H1:=keep hb H1;obtain ⟨hB,zB⟩:=bon hb hB;refine kP r hr12.shape rfl rfl H1 ts44 rfl rfl fun w13 u14 r=>?_;have Z13:=u14.size
 have H1:=u14.at_;obtain ⟨hB,zB⟩:=u14.on hB kw
 refine wn (wp_ret ?_);have hd:D.fb j r_retire_scanned c0 c1 c2 c3 c4 a0=(D.gJ j r_retire_scanned c0 c1 c3 (W ((W c4) - 1))):=(aB h4).trans (rfl);have hs:=hr12.shape.cells;refine ar r rfl rfl H1 (k:=7) hs.1 ta44 ?_;rw [←hs.2.2,hd];exact rfin hF hB hr12 u14 kw kw kw
theorem yZ {r_retire_scanned:Plan→Int→Scan→T Int} (hF:kH F w0) (hj:n<j) (ih_retire_scanned:∀ m,m≤n→fI r_retire_scanned m)
    (c0:Plan) {c0b:Nat} (c0F:F c0b) (c0h:w0.heap[c0b]?=some (.cells ((ae c0)).toArray 23 (0,0))) (c1:Int) {c1b:Nat} (c1F:F c1b) (c1h:w0.heap[c1b]?=some (.cells ([(.int .i64 c1)]).toArray 3 (0,0))) (c2:Scan) {c2b:Nat} (c2F:F c2b) (c2h:w0.heap[c2b]?=some (.cells ((scanC c2)).toArray 286 (0,0))) (c3:Scan) {c3b:Nat} (c3F:F c3b) (c3h:w0.heap[c3b]?=some (.cells ((scanC c3)).toArray 286 (0,0))) (a0:Int) :
    Calls Tryz.prog 333 #[.int .u64 a0,zp c0b,zp c1b,zp c2b,zp c3b] w0 (aC Tryz.prog ak n (D.gI j r_retire_scanned c0 c1 c2 c3 a0) F w0):=by
 refine kN Tryz.func333 rfl 27 rfl rfl fun fr r hB=>?_;have lc0b:=lt_of_block c0h
 have lc1b:=lt_of_block c1h;have lc2b:=lt_of_block c2h;have lc3b:=lt_of_block c3h;refine wsr ?_;refine kX 36 (U a0) r rfl rfl fun b1 w2 n3 r=>?_;obtain ⟨E1,Z2,H1,hB,zB⟩:=n3.all hB
 refine ai (.cells (af false ak.zero 0 0 0 0 .nilFunc) 44 (0,0)) r (fun R=>ah tz44) rfl fun fr b4 w5 n6 r=>?_;have H1:=keep n6.below H1
 obtain ⟨E4,Z5,H4,hB,zB⟩:=n6.all hB;refine wn (wp_seq (wsr (kL (U a0) r rfl H1 to36 rfl rfl fun r=>kB r rfl rfl rfl rfl rfl fun r=>kM (.bool (decide (a0<1))) r rfl rfl fun r=>?_)));refine bA (decide (a0<1)) (fun h7=>?_) (fun h7=>?_)
 ·
  refine s0 r h7 fun fr r=>s0 r h7 fun fr r=>s0 r h7 fun fr r=>s0 r h7 fun fr r=>s0 r h7 fun fr r=>ac (.bool true) r (fun R=>aw r (b:=true) (congrArg Value.bool h7) rfl) rfl fun fr r=>wn ?_;refine wp_cond_split (t:=true) (r.ev rfl) (fun _=>?_) (fun h=>absurd ((rfl:true=_).symm.trans h) ke)
  refine wsr (kG (ae c0) 6 r rfl (keep hB c0h) ta23 rfl rfl fun r=>kL (I c1) r rfl (keep hB c1h) to3 rfl rfl fun r=>kG (scanC c2) 3 r rfl (keep hB c2h) nE rfl rfl fun r=>?_);have hF1:=aO hF hB b4
  refine kD r ((ih_retire_scanned n kw) (kW F w0 w5 b4) _ hF1 c0 c1 c2) rfl kY rfl fun w8 v9 hb hr10 r=>?_;have Z8:=hb.size
  have H1:=keep hb H1;have H4:=keep hb H4;obtain ⟨hB,zB⟩:=bon hb hB;refine kP r hr10.shape rfl rfl H4 ts44 rfl rfl fun w11 u12 r=>?_;have Z11:=u12.size
  have H1:=u12.keep H1 kw
  have H4:=u12.at_;obtain ⟨hB,zB⟩:=u12.on hB kw
  refine wn (wp_ret ?_);have hd:D.gI j r_retire_scanned c0 c1 c2 c3 a0=(r_retire_scanned c0 c1 c2):=(az h7).trans (rfl);have hs:=hr10.shape.cells;refine ar r rfl rfl H4 (k:=7) hs.1 ta44 ?_;rw [←hs.2.2,hd];exact rfin hF hB hr10 u12 kw kw kw
 refine s1 r h7 (kL (U a0) r rfl H1 to36 rfl rfl fun r=>s1 r h7 (kF 0 r rfl gu rfl fun r=>s1 r h7 (kL (I c0.nodes) r rfl (keep hB c0h) to3 rfl rfl fun r=>s1 r h7 (ac (U (V c0.nodes)) r (fun R=>cK r rfl ti3 ti36) rfl fun fr r=>s1 r h7 (kB r rfl rfl rfl rfl rfl fun r=>ac (.bool (decide (a0 > (V c0.nodes)))) r (fun R=>aw r (b:=false) (congrArg Value.bool h7) rfl) rfl fun fr r=>wn ?_)))));refine wp_cond_split (t:=(decide (a0 > (V c0.nodes)))) (r.ev rfl) (fun h13=>?_) (fun h13=>?_)
 ·
  refine wsr (kG (ae c0) 6 r rfl (keep hB c0h) ta23 rfl rfl fun r=>kL (I c1) r rfl (keep hB c1h) to3 rfl rfl fun r=>kG (scanC c2) 3 r rfl (keep hB c2h) nE rfl rfl fun r=>?_);have hF1:=aO hF hB b4
  refine kD r ((ih_retire_scanned n kw) (kW F w0 w5 b4) _ hF1 c0 c1 c2) rfl kY rfl fun w14 v15 hb hr16 r=>?_;have Z14:=hb.size
  have H1:=keep hb H1;have H4:=keep hb H4;obtain ⟨hB,zB⟩:=bon hb hB;refine kP r hr16.shape rfl rfl H4 ts44 rfl rfl fun w17 u18 r=>?_;have Z17:=u18.size
  have H1:=u18.keep H1 kw
  have H4:=u18.at_;obtain ⟨hB,zB⟩:=u18.on hB kw
  refine wn (wp_ret ?_);have hd:D.gI j r_retire_scanned c0 c1 c2 c3 a0=(r_retire_scanned c0 c1 c2):=(aB h7).trans ((az h13).trans (rfl));have hs:=hr16.shape.cells;refine ar r rfl rfl H4 (k:=7) hs.1 ta44 ?_;rw [←hs.2.2,hd];exact rfin hF hB hr16 u18 kw kw kw
 refine wp_skip (wsr (kG (ae c0) 6 r rfl (keep hB c0h) ta23 rfl rfl fun r=>kL (U a0) r rfl H1 to36 rfl rfl fun r=>ac (I (W a0)) r (fun R=>cK r rfl ti36 ti3) rfl fun fr r=>kB r rfl rfl rfl rfl rfl fun r=>?_));have hF1:=aO hF hB b4
 refine kD r (AK (j:=j) (F:=(kW F w0 w5 b4)) (n:=n) hF1 kw c0 (W ((W a0) - 1))) rfl ES rfl fun w19 v20 hb hr21 r=>?_;have Z19:=hb.size
 have H1:=keep hb H1;have H4:=keep hb H4;obtain ⟨hB,zB⟩:=bon hb hB;refine ac (.func (.func 336) #[] #[zp c0b,zp c1b,zp c2b,zp c3b,zp b1]) r (fun R=>aU r rfl) rfl fun fr r=>?_;have hF1:=aO hF hB b4
 have f22:((kW F w0 w19 b4)) c0b:=(.inl c0F);have f23:((kW F w0 w19 b4)) c1b:=(.inl c1F);have f24:((kW F w0 w19 b4)) c2b:=(.inl c2F);have f25:((kW F w0 w19 b4)) c3b:=(.inl c3F);have f26:((kW F w0 w19 b4)) b1:=(.inr ⟨kw,kw,kw⟩)
 refine kD r (xQ (F:=(kW F w0 w19 b4)) (n:=n) hF1 (Rep.mono (by rintro b (h | h); (rcases h with h | ⟨h1,h2,h3⟩; exact .inl h; exact .inr ⟨h1,kw,h3⟩); exact .inr ⟨kw,kw,kw⟩) (Same.refl _ _) kw n _ _ hr21) ⟨336,[],[zp c0b,zp c1b,zp c2b,zp c3b,zp b1],Fj,rfl,fun m hm x w' hs hz=>yD (j:=j) (fun b hb=>Nat.lt_of_lt_of_le (hF1 b hb) hz) kw (fun m' hm'=>ih_retire_scanned m' kw) c0 f22 (hs.at_ f22 (keep hB c0h)) c1 f23 (hs.at_ f23 (keep hB c1h)) c2 f24 (hs.at_ f24 (keep hB c2h)) c3 f25 (hs.at_ f25 (keep hB c3h)) a0 f26 (hs.at_ f26 H1) x⟩) rfl wI rfl fun w27 v28 hb hr29 r=>?_
 have Z27:=hb.size;have H1:=keep hb H1;have H4:=keep hb H4;obtain ⟨hB,zB⟩:=bon hb hB;refine kP r hr29.shape rfl rfl H4 ts44 rfl rfl fun w30 u31 r=>?_;have Z30:=u31.size
 have H1:=u31.keep H1 kw
 have H4:=u31.at_;obtain ⟨hB,zB⟩:=u31.on hB kw
 refine wn (wp_ret ?_);have hd:D.gI j r_retire_scanned c0 c1 c2 c3 a0=(T.bind (D.lY j c0 (W ((W a0) - 1))) (fun x=>(D.fb j r_retire_scanned c0 c1 c2 c3 a0 x))):=(aB h7).trans ((aB h13).trans (rfl))
 have hs:=hr29.shape.cells;refine ar r rfl rfl H4 (k:=7) hs.1 ta44 ?_;rw [←hs.2.2,hd];exact rfin hF hB hr29 u31 kw kw kw
theorem zO {n:Nat} {F:Nat→Prop} {j:Nat} {r_retire_scanned:Plan→Int→Scan→T Int} {w0:World} (hF:∀ b,F b→b<w0.heap.size) (hj:n<j) (ih_retire_scanned:∀ m,m<n→fI r_retire_scanned m)
    (a0:Plan) (a1:Int) (a2:Scan) :
    Calls Tryz.prog 262 #[.agg (ae a0).toArray,.int .i64 a1,.agg (scanC a2).toArray] w0 (aC Tryz.prog ak n (D.fJ j r_retire_scanned a0 a1 a2) F w0):=by
 refine kN Tryz.func262 rfl 29 rfl rfl fun fr r hB=>?_;refine wsr ?_
 refine kX 23 (.agg (ae a0).toArray) r rfl rfl fun b1 w2 n3 r=>?_;obtain ⟨E1,Z2,H1,hB,zB⟩:=n3.all hB
 refine kX 3 (I a1) r rfl rfl fun b4 w5 n6 r=>?_;have H1:=keep n6.below H1
 obtain ⟨E4,Z5,H4,hB,zB⟩:=n6.all hB;refine kX 286 (.agg (scanC a2).toArray) r rfl rfl fun b7 w8 n9 r=>?_;have H1:=keep n9.below H1
 have H4:=keep n9.below H4;obtain ⟨E7,Z8,H7,hB,zB⟩:=n9.all hB;refine ai (.cells (af false ak.zero 0 0 0 0 .nilFunc) 44 (0,0)) r (fun R=>ah tz44) rfl fun fr b10 w11 n12 r=>?_;have H1:=keep n12.below H1
 have H4:=keep n12.below H4;have H7:=keep n12.below H7;obtain ⟨E10,Z11,H10,hB,zB⟩:=n12.all hB;refine wn (wp_seq (wsr (kF 0 r rfl iU rfl fun r=>kL (I a2.at_) r rfl H7 to3 rfl rfl fun r=>kB r rfl rfl rfl rfl rfl fun r=>wn ?_)));refine wp_cond_split (t:=(decide (a2.at_<0))) (r.ev rfl) (fun h13=>?_) (fun h13=>?_)
 ·
  refine wsr (kF 0 r rfl pZ rfl fun r=>kL (I a2.done) r rfl H7 to3 rfl rfl fun r=>?_);have hF1:=aO hF hB b10
  refine kD r (eB (F:=(kW F w0 w11 b10)) (n:=n) hF1 a2.done) rfl eM rfl fun w14 v15 hb hr16 r=>?_;have Z14:=hb.size
  have H1:=keep hb H1;have H4:=keep hb H4;have H7:=keep hb H7;have H10:=keep hb H10;obtain ⟨hB,zB⟩:=bon hb hB;refine kP r hr16.shape rfl rfl H10 ts44 rfl rfl fun w17 u18 r=>?_;have Z17:=u18.size
  have H1:=u18.keep H1 kw
  have H4:=u18.keep H4 kw
  have H7:=u18.keep H7 kw
  have H10:=u18.at_;obtain ⟨hB,zB⟩:=u18.on hB kw
  refine wn (wp_ret ?_);have hd:D.fJ j r_retire_scanned a0 a1 a2=(D.cJ a2.done):=(az h13).trans (rfl);have hs:=hr16.shape.cells;refine ar r rfl rfl H10 (k:=7) hs.1 ta44 ?_;rw [←hs.2.2,hd];exact rfin hF hB hr16 u18 kw kw kw
 refine wp_skip (wsr (kF 0 r rfl iU rfl fun r=>kL (I a2.at_) r rfl H7 to3 rfl rfl fun r=>kB r rfl rfl rfl rfl rfl fun r=>kF 0 r rfl uY rfl fun r=>kL (I a2.left) r rfl H7 to3 rfl rfl fun r=>kF 0 r rfl pZ rfl fun r=>kL (I a2.done) r rfl H7 to3 rfl rfl fun r=>kU (.agg (scanC (⟨(W (a2.at_ - 1)),a2.left,a2.done⟩:Scan)).toArray) r kz rfl fun r=>?_));refine ai (.cells ((scanC (⟨0,0,0⟩:Scan))).toArray 286 (0,0)) r (fun R=>ah Dq) rfl fun fr b19 w20 n21 r=>?_
 have H1:=keep n21.below H1;have H4:=keep n21.below H4;have H7:=keep n21.below H7;have H10:=keep n21.below H10;obtain ⟨E19,Z20,H19,hB,zB⟩:=n21.all hB;refine bh (.cells ((scanC (⟨(W (a2.at_ - 1)),a2.left,a2.done⟩:Scan))).toArray 286 (0,0)) r (fun R=>aT r (o:=0) (v:=(.agg (scanC (⟨(W (a2.at_ - 1)),a2.left,a2.done⟩:Scan)).toArray)) rfl rfl H19 DY (Nat.le_of_ble_eq_true rfl) rfl rfl) rfl fun fr w22 u23 r=>?_;have Z22:=u23.size
 have H1:=u23.keep H1 kw
 have H4:=u23.keep H4 kw
 have H7:=u23.keep H7 kw
 have H10:=u23.keep H10 kw
 have H19:=u23.at_;obtain ⟨hB,zB⟩:=u23.on hB kw
 refine wn (wsr (kG (ae a0) 6 r rfl H1 ta23 rfl rfl fun r=>kL (I a1) r rfl H4 to3 rfl rfl fun r=>kF 0 r rfl iU rfl fun r=>kL (I a2.at_) r rfl H7 to3 rfl rfl fun r=>?_));refine kE r (l8 w22 a0 a1 a2.at_) rfl mY rfl fun w24 hb r=>?_
 have Z24:=hb.size;have H1:=keep hb H1;have H4:=keep hb H4;have H7:=keep hb H7;have H10:=keep hb H10;have H19:=keep hb H19;obtain ⟨hB,zB⟩:=bon hb hB;refine ac (.func (.func 333) #[] #[zp b1,zp b4,zp b19,zp b7]) r (fun R=>aU r rfl) rfl fun fr r=>?_;have hF1:=aO hF hB b10
 have f25:((kW F w0 w24 b10)) b1:=(.inr ⟨kw,kw,kw⟩)
 have f26:((kW F w0 w24 b10)) b4:=(.inr ⟨kw,kw,kw⟩)
 have f27:((kW F w0 w24 b10)) b19:=(.inr ⟨kw,kw,kw⟩)
 have f28:((kW F w0 w24 b10)) b7:=(.inr ⟨kw,kw,kw⟩)
 refine kD r (fj (F:=(kW F w0 w24 b10)) (n:=n) hF1 (D.cT a0 a1 a2.at_) ⟨333,[],[zp b1,zp b4,zp b19,zp b7],EH,rfl,fun m hm x w' hs hz=>yZ (j:=j) (fun b hb=>Nat.lt_of_lt_of_le (hF1 b hb) hz) kw (fun m' hm'=>ih_retire_scanned m' kw) a0 f25 (hs.at_ f25 H1) a1 f26 (hs.at_ f26 H4) (⟨(W (a2.at_ - 1)),a2.left,a2.done⟩:Scan) f27 (hs.at_ f27 H19) a2 f28 (hs.at_ f28 H7) x⟩) rfl fF rfl fun w29 v30 hb hr31 r=>?_;have Z29:=hb.size
 have H1:=keep hb H1;have H4:=keep hb H4;have H7:=keep hb H7;have H10:=keep hb H10;have H19:=keep hb H19;obtain ⟨hB,zB⟩:=bon hb hB;refine kP r hr31.shape rfl rfl H10 ts44 rfl rfl fun w32 u33 r=>?_;have Z32:=u33.size
 have H1:=u33.keep H1 kw
 have H4:=u33.keep H4 kw
 have H7:=u33.keep H7 kw
 have H19:=u33.keep H19 kw
 have H10:=u33.at_;obtain ⟨hB,zB⟩:=u33.on hB kw
 refine wn (wp_ret ?_);have hd:D.fJ j r_retire_scanned a0 a1 a2=(D.dx (D.cT a0 a1 a2.at_) (fun x=>(D.gI j r_retire_scanned a0 a1 (⟨(W (a2.at_ - 1)),a2.left,a2.done⟩:Scan) a2 x))):=(aB h13).trans (rfl)
 have hs:=hr31.shape.cells;refine ar r rfl rfl H10 (k:=7) hs.1 ta44 ?_;rw [←hs.2.2,hd];exact rfin hF hB hr31 u33 kw kw kw
theorem zI {n:Nat} {j:Nat} (hj:n<j) {k:Nat} (hk:n<k):fI (D.cV j k) n:=by
  induction n using Nat.strongRecOn generalizing k with
  | _ n ih=>
    obtain ⟨k,rfl⟩:∃ q,k=q+1:=⟨k - 1,kw⟩
    intro F w0 hF;have h:=@zO n F j (D.cV j k) w0 hF hj (fun m hm=>ih m hm kw kw)
    exact h
def D.oI (j:Nat) (c0:Plan) (c1:Int) (a0:Int):T Int:=(D.cV j j c0 c1 (⟨(IntKind.i64.wrap ((IntKind.i64.wrap (minI a0 (IntKind.u64.wrap c0.retire))) - 1)),(IntKind.i64.wrap (minI a0 (IntKind.u64.wrap c0.retire))),0⟩:Scan))
theorem Ad (hF:kH F w0) (hj:n<j)
    (c0:Plan) {c0b:Nat} (c0F:F c0b) (c0h:w0.heap[c0b]?=some (.cells ((ae c0)).toArray 23 (0,0))) (c1:Int) {c1b:Nat} (c1F:F c1b) (c1h:w0.heap[c1b]?=some (.cells ([(.int .i64 c1)]).toArray 3 (0,0))) (a0:Int) :
    Calls Tryz.prog 261 #[.int .u64 a0,zp c0b,zp c1b] w0 (aC Tryz.prog ak n (D.oI j c0 c1 a0) F w0):=by
 refine kN Tryz.func261 rfl 19 rfl rfl fun fr r hB=>?_;have lc0b:=lt_of_block c0h
 have lc1b:=lt_of_block c1h;refine wsr ?_;refine ai (.cells (af false ak.zero 0 0 0 0 .nilFunc) 44 (0,0)) r (fun R=>ah tz44) rfl fun fr b1 w2 n3 r=>?_;obtain ⟨E1,Z2,H1,hB,zB⟩:=n3.all hB
 refine wn (wsr (kM (U a0) r rfl rfl fun r=>kF 0 r rfl hH rfl fun r=>kL (I c0.retire) r rfl (keep hB c0h) to3 rfl rfl fun r=>ac (U (V c0.retire)) r (fun R=>cK r rfl ti3 ti36) rfl fun fr r=>ac (U (minI a0 (V c0.retire))) r (fun R=>FB r (m:=a0) (n:=(V c0.retire)) rfl rfl) rfl fun fr r=>ac (I (W (minI a0 (V c0.retire)))) r (fun R=>cK r rfl ti36 ti3) rfl fun fr r=>kA (I (W (minI a0 (V c0.retire)))) r rfl rfl fun r=>wn (wsr (kG (ae c0) 6 r rfl (keep hB c0h) ta23 rfl rfl fun r=>kL (I c1) r rfl (keep hB c1h) to3 rfl rfl fun r=>kM (I (W (minI a0 (V c0.retire)))) r rfl rfl fun r=>kB r rfl rfl rfl rfl rfl fun r=>kM (I (W (minI a0 (V c0.retire)))) r rfl rfl fun r=>kU (.agg (scanC (⟨(W ((W (minI a0 (V c0.retire))) - 1)),(W (minI a0 (V c0.retire))),0⟩:Scan)).toArray) r kz rfl fun r=>?_))));have hF1:=aO hF hB b1
 refine kD r ((zI (j:=j) (k:=j) (n:=n) kw kw) (kW F w0 w2 b1) _ hF1 c0 c1 (⟨(W ((W (minI a0 (V c0.retire))) - 1)),(W (minI a0 (V c0.retire))),0⟩:Scan)) rfl kY rfl fun w4 v5 hb hr6 r=>?_;have Z4:=hb.size
 have H1:=keep hb H1;obtain ⟨hB,zB⟩:=bon hb hB;refine kP r hr6.shape rfl rfl H1 ts44 rfl rfl fun w7 u8 r=>?_;have Z7:=u8.size
 have H1:=u8.at_;obtain ⟨hB,zB⟩:=u8.on hB kw
 exact wn (wp_ret (kR r hr6 rfl rfl H1 rfl ta44 hF hB u8 kw kw kw))
def D.eG (j:Nat) (a0:Plan) (a1:Int):T Int:=(D.dx (D.dC a0 a1) (fun x=>(D.oI j a0 a1 x)))
theorem sV (hF:kH F w0) (hj:n<j)
    (a0:Plan) (a1:Int) :
    Calls Tryz.prog 160 #[.agg (ae a0).toArray,.int .i64 a1] w0 (aC Tryz.prog ak n (D.eG j a0 a1) F w0):=by
 refine kN Tryz.func160 rfl 10 rfl rfl fun fr r hB=>?_;refine wsr ?_
 refine kX 23 (.agg (ae a0).toArray) r rfl rfl fun b1 w2 n3 r=>?_;obtain ⟨E1,Z2,H1,hB,zB⟩:=n3.all hB
 refine kX 3 (I a1) r rfl rfl fun b4 w5 n6 r=>?_;have H1:=keep n6.below H1
 obtain ⟨E4,Z5,H4,hB,zB⟩:=n6.all hB;refine ai (.cells (af false ak.zero 0 0 0 0 .nilFunc) 44 (0,0)) r (fun R=>ah tz44) rfl fun fr b7 w8 n9 r=>?_;have H1:=keep n9.below H1
 have H4:=keep n9.below H4;obtain ⟨E7,Z8,H7,hB,zB⟩:=n9.all hB;refine wn (wsr (kG (ae a0) 6 r rfl H1 ta23 rfl rfl fun r=>kL (I a1) r rfl H4 to3 rfl rfl fun r=>?_));refine kE r (lf w8 a0 a1) rfl nF rfl fun w10 hb r=>?_
 have Z10:=hb.size;have H1:=keep hb H1;have H4:=keep hb H4;have H7:=keep hb H7;obtain ⟨hB,zB⟩:=bon hb hB;refine ac (.func (.func 261) #[] #[zp b1,zp b4]) r (fun R=>aU r rfl) rfl fun fr r=>?_;have hF1:=aO hF hB b7
 have f11:((kW F w0 w10 b7)) b1:=(.inr ⟨kw,kw,kw⟩)
 have f12:((kW F w0 w10 b7)) b4:=(.inr ⟨kw,kw,kw⟩)
 refine kD r (fj (F:=(kW F w0 w10 b7)) (n:=n) hF1 (D.dC a0 a1) ⟨261,[],[zp b1,zp b4],Eg,rfl,fun m hm x w' hs hz=>Ad (j:=j) (fun b hb=>Nat.lt_of_lt_of_le (hF1 b hb) hz) kw a0 f11 (hs.at_ f11 H1) a1 f12 (hs.at_ f12 H4) x⟩) rfl fF rfl fun w13 v14 hb hr15 r=>?_;have Z13:=hb.size
 have H1:=keep hb H1;have H4:=keep hb H4;have H7:=keep hb H7;obtain ⟨hB,zB⟩:=bon hb hB;refine kP r hr15.shape rfl rfl H7 ts44 rfl rfl fun w16 u17 r=>?_;have Z16:=u17.size
 have H1:=u17.keep H1 kw
 have H4:=u17.keep H4 kw
 have H7:=u17.at_;obtain ⟨hB,zB⟩:=u17.on hB kw
 exact wn (wp_ret (kR r hr15 rfl rfl H7 rfl ta44 hF hB u17 kw kw kw))
def D.rZ (c0:Int):T Int:=(D.cJ (IntKind.i64.wrap ((IntKind.i64.wrap c0)+1)))
theorem ze (hF:kH F w0)
    (c0:Int) {c0b:Nat} (c0F:F c0b) (c0h:w0.heap[c0b]?=some (.cells ([(.int .u64 c0)]).toArray 36 (0,0))) :
    Calls Tryz.prog 345 #[zp c0b] w0 (aC Tryz.prog ak n (D.rZ c0) F w0):=by
 refine kN Tryz.func345 rfl 6 rfl rfl fun fr r hB=>?_;have lc0b:=lt_of_block c0h
 refine wsr ?_;refine ai (.cells (af false ak.zero 0 0 0 0 .nilFunc) 44 (0,0)) r (fun R=>ah tz44) rfl fun fr b1 w2 n3 r=>?_;obtain ⟨E1,Z2,H1,hB,zB⟩:=n3.all hB
 refine wn (wsr (kL (U c0) r rfl (keep hB c0h) to36 rfl rfl fun r=>ac (I (W c0)) r (fun R=>cK r rfl ti36 ti3) rfl fun fr r=>kB r rfl rfl rfl rfl rfl fun r=>?_));have hF1:=aO hF hB b1
 refine kD r (eB (F:=(kW F w0 w2 b1)) (n:=n) hF1 (W ((W c0)+1))) rfl eM rfl fun w4 v5 hb hr6 r=>?_;have Z4:=hb.size
 have H1:=keep hb H1;obtain ⟨hB,zB⟩:=bon hb hB;refine kP r hr6.shape rfl rfl H1 ts44 rfl rfl fun w7 u8 r=>?_;have Z7:=u8.size
 have H1:=u8.at_;obtain ⟨hB,zB⟩:=u8.on hB kw
 exact wn (wp_ret (kR r hr6 rfl rfl H1 rfl ta44 hF hB u8 kw kw kw))
def D.oD (c0:Plan) (c1:Int) (c2:Int):T Int:=(D.dQ (D.dC c0 c1) (IntKind.u64.wrap (c2+1)) (fun _=>(D.rZ c2)))
theorem zF (hF:kH F w0)
    (c0:Plan) {c0b:Nat} (c0F:F c0b) (c0h:w0.heap[c0b]?=some (.cells ((ae c0)).toArray 23 (0,0))) (c1:Int) {c1b:Nat} (c1F:F c1b) (c1h:w0.heap[c1b]?=some (.cells ([(.int .i64 c1)]).toArray 3 (0,0))) (c2:Int) {c2b:Nat} (c2F:F c2b) (c2h:w0.heap[c2b]?=some (.cells ([(.int .u64 c2)]).toArray 36 (0,0))) :
    Calls Tryz.prog 344 #[zp c0b,zp c1b,zp c2b] w0 (aC Tryz.prog ak n (D.oD c0 c1 c2) F w0):=by
 refine kN Tryz.func344 rfl 11 rfl rfl fun fr r hB=>?_;have lc0b:=lt_of_block c0h
 have lc1b:=lt_of_block c1h;have lc2b:=lt_of_block c2h;refine wsr ?_;refine ai (.cells (af false ak.zero 0 0 0 0 .nilFunc) 44 (0,0)) r (fun R=>ah tz44) rfl fun fr b1 w2 n3 r=>?_;obtain ⟨E1,Z2,H1,hB,zB⟩:=n3.all hB
 refine wn (wp_seq ?_);refine bI 6 [.val (.agg (ae c0).toArray),.val (I c1),.val (I (D.dC c0 c1)),.val (U c2),.val (U (V (c2+1))),.val (.func (.func 345) #[] #[zp c2b])] mixed r kz (kV (kV (kV (kV (kV (kV bH)))))) ?_ ?_
 ·
  refine ec r (fun _ u _ b d s=>aS s (cs:=(ae c0)) (n:=6) rfl (bY hB b c0h) ta23 rfl bz) (ec r (fun _ u _ b d s=>av s rfl (bY hB b c1h) to3 rfl bz) (ec r (fun fr1 u w' hb' hd r'=>aJ r' (args:=[(.agg (ae c0).toArray),(I c1)]) (lc hd.1 (lc hd.2.1 l0)) nF ((lf _ c0 c1).mono (by rintro _ w2 ⟨rfl,hb2⟩; exact ⟨_,rfl,hb2,rfl⟩))) (ec r (fun _ u _ b d s=>av s rfl (bY hB b c2h) to36 rfl bz) (ec r (fun _ u _ b d s=>bc s d.1 rfl rfl rfl bz) (ec r (fun _ u _ b d s=>aU s (v:=(.func (.func 345) #[] #[zp c2b])) rfl bz) ?_)))));exact bJ
 intro fr u w4 hb hΦ hne r;have r:=r.congr (sc (hΦ 5 ke) (sc (hΦ 4 ke) (sc (hΦ 3 ke) (sc (hΦ 2 ke) (sc (hΦ 1 ke) (sc (hΦ 0 ke) rfl))))));have Z4:=hb.size;have H1:=keep hb H1;obtain ⟨hB,zB⟩:=bon hb hB;have hF1:=aO hF hB b1;have f5:((kW F w0 w4 b1)) c2b:=(.inl c2F);refine kD r (fN (F:=(kW F w0 w4 b1)) (n:=n) hF1 (D.dC c0 c1) (V (c2+1)) ⟨345,[],[zp c2b],Fe,rfl,fun m hm _ w' hs hz=>ze (fun b hb=>Nat.lt_of_lt_of_le (hF1 b hb) hz) c2 f5 (hs.at_ f5 (keep hB c2h))⟩) rfl gy rfl fun w6 v7 hb hr8 r=>?_;have Z6:=hb.size
 have H1:=keep hb H1;obtain ⟨hB,zB⟩:=bon hb hB;refine kP r hr8.shape rfl rfl H1 ts44 rfl rfl fun w9 u10 r=>?_;have Z9:=u10.size
 have H1:=u10.at_;obtain ⟨hB,zB⟩:=u10.on hB kw
 exact wn (wp_ret (kR r hr8 rfl rfl H1 rfl ta44 hF hB u10 kw kw kw))
def D.lT (c0:Plan) (c1:Int) (c2:Int) (a0:Int):T Int:=(bif (decide (a0≥(IntKind.u64.wrap c0.retire))) then (D.cJ (-1)) else (D.dQ (D.cT c0 c1 (IntKind.i64.wrap a0)) (IntKind.u64.wrap (IntKind.i64.wrap (c2+1))) (fun _=>(D.oD c0 c1 a0))))
theorem Ar (hF:kH F w0)
    (c0:Plan) {c0b:Nat} (c0F:F c0b) (c0h:w0.heap[c0b]?=some (.cells ((ae c0)).toArray 23 (0,0))) (c1:Int) {c1b:Nat} (c1F:F c1b) (c1h:w0.heap[c1b]?=some (.cells ([(.int .i64 c1)]).toArray 3 (0,0))) (c2:Int) {c2b:Nat} (c2F:F c2b) (c2h:w0.heap[c2b]?=some (.cells ([(.int .i64 c2)]).toArray 3 (0,0))) (a0:Int) :
    Calls Tryz.prog 343 #[.int .u64 a0,zp c0b,zp c1b,zp c2b] w0 (aC Tryz.prog ak n (D.lT c0 c1 c2 a0) F w0):=by
 refine kN Tryz.func343 rfl 22 rfl rfl fun fr r hB=>?_;have lc0b:=lt_of_block c0h
 have lc1b:=lt_of_block c1h;have lc2b:=lt_of_block c2h;refine wsr ?_;refine kX 36 (U a0) r rfl rfl fun b1 w2 n3 r=>?_;obtain ⟨E1,Z2,H1,hB,zB⟩:=n3.all hB
 refine ai (.cells (af false ak.zero 0 0 0 0 .nilFunc) 44 (0,0)) r (fun R=>ah tz44) rfl fun fr b4 w5 n6 r=>?_;have H1:=keep n6.below H1
 obtain ⟨E4,Z5,H4,hB,zB⟩:=n6.all hB;refine wn (wp_seq (wsr (kL (U a0) r rfl H1 to36 rfl rfl fun r=>kF 0 r rfl hH rfl fun r=>kL (I c0.retire) r rfl (keep hB c0h) to3 rfl rfl fun r=>ac (U (V c0.retire)) r (fun R=>cK r rfl ti3 ti36) rfl fun fr r=>kB r rfl rfl rfl rfl rfl fun r=>wn ?_)));refine wp_cond_split (t:=(decide (a0≥(V c0.retire)))) (r.ev rfl) (fun h7=>?_) (fun h7=>?_)
 ·
  refine wsr ?_;have hF1:=aO hF hB b4;refine kD r (eB (F:=(kW F w0 w5 b4)) (n:=n) hF1 (-1)) rfl eM rfl fun w8 v9 hb hr10 r=>?_;have Z8:=hb.size
  have H1:=keep hb H1;have H4:=keep hb H4;obtain ⟨hB,zB⟩:=bon hb hB;refine kP r hr10.shape rfl rfl H4 ts44 rfl rfl fun w11 u12 r=>?_;have Z11:=u12.size
  have H1:=u12.keep H1 kw
  have H4:=u12.at_;obtain ⟨hB,zB⟩:=u12.on hB kw
  refine wn (wp_ret ?_);have hd:D.lT c0 c1 c2 a0=(D.cJ (-1)):=(az h7).trans (rfl);have hs:=hr10.shape.cells;refine ar r rfl rfl H4 (k:=7) hs.1 ta44 ?_;rw [←hs.2.2,hd];exact rfin hF hB hr10 u12 kw kw kw
 refine wp_skip (wp_seq ?_);refine bI 9 [.val (.agg (ae c0).toArray),.val (I c1),.val (U a0),.val (I (W a0)),.val (I (D.cT c0 c1 (W a0))),.val (I c2),.val (I (W (c2+1))),.val (U (V (W (c2+1)))),.val (.func (.func 344) #[] #[zp c0b,zp c1b,zp b1])] mixed r kz (kV (kV (kV (kV (kV (kV (kV (kV (kV bH))))))))) ?_ ?_
 ·
  refine ec r (fun _ u _ b d s=>aS s (cs:=(ae c0)) (n:=6) rfl (bY hB b c0h) ta23 rfl bz) (ec r (fun _ u _ b d s=>av s rfl (bY hB b c1h) to3 rfl bz) (ec r (fun _ u _ b d s=>av s rfl (keep b H1) to36 rfl bz) (ec r (fun _ u _ b d s=>cK s (n:=a0) d.1 ti36 ti3 bz) (ec r (fun fr1 u w' hb' hd r'=>aJ r' (args:=[(.agg (ae c0).toArray),(I c1),(I (W a0))]) (lc hd.1 (lc hd.2.1 (lc hd.2.2.1 l0))) mY ((l8 _ c0 c1 (W a0)).mono (by rintro _ w2 ⟨rfl,hb2⟩; exact ⟨_,rfl,hb2,rfl⟩))) (ec r (fun _ u _ b d s=>av s rfl (bY hB b c2h) to3 rfl bz) (ec r (fun _ u _ b d s=>bc s d.1 rfl rfl rfl bz) (ec r (fun _ u _ b d s=>cK s (n:=(W (c2+1))) d.1 ti3 ti36 bz) (ec r (fun _ u _ b d s=>aU s (v:=(.func (.func 344) #[] #[zp c0b,zp c1b,zp b1])) rfl bz) ?_))))))));exact bJ
 intro fr u w13 hb hΦ hne r;have r:=r.congr (sc (hΦ 8 ke) (sc (hΦ 7 ke) (sc (hΦ 6 ke) (sc (hΦ 5 ke) (sc (hΦ 4 ke) (sc (hΦ 3 ke) (sc (hΦ 2 ke) (sc (hΦ 1 ke) (sc (hΦ 0 ke) rfl)))))))));have Z13:=hb.size;have H1:=keep hb H1;have H4:=keep hb H4;obtain ⟨hB,zB⟩:=bon hb hB;have hF1:=aO hF hB b4;have f14:((kW F w0 w13 b4)) c0b:=(.inl c0F);have f15:((kW F w0 w13 b4)) c1b:=(.inl c1F);have f16:((kW F w0 w13 b4)) b1:=(.inr ⟨kw,kw,kw⟩)
 refine kD r (fN (F:=(kW F w0 w13 b4)) (n:=n) hF1 (D.cT c0 c1 (W a0)) (V (W (c2+1))) ⟨344,[],[zp c0b,zp c1b,zp b1],EF,rfl,fun m hm _ w' hs hz=>zF (fun b hb=>Nat.lt_of_lt_of_le (hF1 b hb) hz) c0 f14 (hs.at_ f14 (keep hB c0h)) c1 f15 (hs.at_ f15 (keep hB c1h)) a0 f16 (hs.at_ f16 H1)⟩) rfl gy rfl fun w17 v18 hb hr19 r=>?_;have Z17:=hb.size
 have H1:=keep hb H1;have H4:=keep hb H4;obtain ⟨hB,zB⟩:=bon hb hB;refine kP r hr19.shape rfl rfl H4 ts44 rfl rfl fun w20 u21 r=>?_;have Z20:=u21.size
 have H1:=u21.keep H1 kw
 have H4:=u21.at_;obtain ⟨hB,zB⟩:=u21.on hB kw
 refine wn (wp_ret ?_);have hd:D.lT c0 c1 c2 a0=(D.dQ (D.cT c0 c1 (W a0)) (V (W (c2+1))) (fun _=>(D.oD c0 c1 a0))):=(aB h7).trans (rfl)
 have hs:=hr19.shape.cells;refine ar r rfl rfl H4 (k:=7) hs.1 ta44 ?_;rw [←hs.2.2,hd];exact rfin hF hB hr19 u21 kw kw kw
def D.iG (a0:Plan) (a1:Int) (a2:Int):T Int:=(D.dx (D.dC a0 a1) (fun x=>(D.lT a0 a1 a2 x)))
theorem tr (hF:kH F w0)
    (a0:Plan) (a1:Int) (a2:Int) :
    Calls Tryz.prog 272 #[.agg (ae a0).toArray,.int .i64 a1,.int .i64 a2] w0 (aC Tryz.prog ak n (D.iG a0 a1 a2) F w0):=by
 refine kN Tryz.func272 rfl 12 rfl rfl fun fr r hB=>?_;refine wsr ?_
 refine kX 23 (.agg (ae a0).toArray) r rfl rfl fun b1 w2 n3 r=>?_;obtain ⟨E1,Z2,H1,hB,zB⟩:=n3.all hB
 refine kX 3 (I a1) r rfl rfl fun b4 w5 n6 r=>?_;have H1:=keep n6.below H1
 obtain ⟨E4,Z5,H4,hB,zB⟩:=n6.all hB;refine kX 3 (I a2) r rfl rfl fun b7 w8 n9 r=>?_;have H1:=keep n9.below H1
 have H4:=keep n9.below H4;obtain ⟨E7,Z8,H7,hB,zB⟩:=n9.all hB;refine ai (.cells (af false ak.zero 0 0 0 0 .nilFunc) 44 (0,0)) r (fun R=>ah tz44) rfl fun fr b10 w11 n12 r=>?_;have H1:=keep n12.below H1
 have H4:=keep n12.below H4;have H7:=keep n12.below H7;obtain ⟨E10,Z11,H10,hB,zB⟩:=n12.all hB;refine wn (wsr (kG (ae a0) 6 r rfl H1 ta23 rfl rfl fun r=>kL (I a1) r rfl H4 to3 rfl rfl fun r=>?_));refine kE r (lf w11 a0 a1) rfl nF rfl fun w13 hb r=>?_
 have Z13:=hb.size;have H1:=keep hb H1;have H4:=keep hb H4;have H7:=keep hb H7;have H10:=keep hb H10;obtain ⟨hB,zB⟩:=bon hb hB;refine ac (.func (.func 343) #[] #[zp b1,zp b4,zp b7]) r (fun R=>aU r rfl) rfl fun fr r=>?_;have hF1:=aO hF hB b10
 have f14:((kW F w0 w13 b10)) b1:=(.inr ⟨kw,kw,kw⟩)
 have f15:((kW F w0 w13 b10)) b4:=(.inr ⟨kw,kw,kw⟩)
 have f16:((kW F w0 w13 b10)) b7:=(.inr ⟨kw,kw,kw⟩)
 refine kD r (fj (F:=(kW F w0 w13 b10)) (n:=n) hF1 (D.dC a0 a1) ⟨343,[],[zp b1,zp b4,zp b7],Dw,rfl,fun m hm x w' hs hz=>Ar (fun b hb=>Nat.lt_of_lt_of_le (hF1 b hb) hz) a0 f14 (hs.at_ f14 H1) a1 f15 (hs.at_ f15 H4) a2 f16 (hs.at_ f16 H7) x⟩) rfl fF rfl fun w17 v18 hb hr19 r=>?_;have Z17:=hb.size
 have H1:=keep hb H1;have H4:=keep hb H4;have H7:=keep hb H7;have H10:=keep hb H10;obtain ⟨hB,zB⟩:=bon hb hB;refine kP r hr19.shape rfl rfl H10 ts44 rfl rfl fun w20 u21 r=>?_;have Z20:=u21.size
 have H1:=u21.keep H1 kw
 have H4:=u21.keep H4 kw
 have H7:=u21.keep H7 kw
 have H10:=u21.at_;obtain ⟨hB,zB⟩:=u21.on hB kw
 exact wn (wp_ret (kR r hr19 rfl rfl H10 rfl ta44 hF hB u21 kw kw kw))
end
end Go.Proofs.YtikjpdpgdmbdpaaGreat

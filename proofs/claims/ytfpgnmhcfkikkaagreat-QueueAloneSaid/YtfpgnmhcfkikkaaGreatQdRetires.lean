/- Ours. -/
import Derived.Test.YtfpgnmhcfkikkaaGreatQdM8
import Derived.Test.YtfpgnmhcfkikkaaGreatQdM15
set_option linter.all false
set_option maxRecDepth 20000
set_option maxHeartbeats 2000000
namespace Go.Proofs.YtfpgnmhcfkikkaaGreat
open Go.RowKit
section
variable {n : Nat} {F : Nat → Prop} {j : Nat} {w0 : World}
theorem mE:ak Tryz.prog 137:=by kernel_rfl
theorem mH:ak Tryz.prog 138:=by kernel_rfl
theorem gO:ak Tryz.prog 140:=by kernel_rfl
theorem Cw:ak Tryz.prog 218:=by kernel_rfl
theorem jU:ak Tryz.prog 219:=by kernel_rfl
theorem D5:ak Tryz.prog 289:=by kernel_rfl
theorem cl31:ak Tryz.prog 31:=by kernel_rfl
theorem cl32:ak Tryz.prog 32:=by kernel_rfl
theorem Cg:ak Tryz.prog 320:=by kernel_rfl
theorem Ci:ak Tryz.prog 322:=by kernel_rfl
theorem CF:ak Tryz.prog 323:=by kernel_rfl
theorem Cf:ak Tryz.prog 324:=by kernel_rfl
theorem CA:ak Tryz.prog 326:=by kernel_rfl
theorem BC:ak Tryz.prog 327:=by kernel_rfl
theorem BK:ak Tryz.prog 328:=by kernel_rfl
theorem uJ:ak Tryz.prog 357:=by kernel_rfl
theorem Ch:ak Tryz.prog 358:=by kernel_rfl
theorem CO:ak Tryz.prog 359:=by kernel_rfl
theorem Di:ak Tryz.prog 360:=by kernel_rfl
theorem BG:ak Tryz.prog 361:=by kernel_rfl
theorem vv:ak Tryz.prog 388:=by kernel_rfl
theorem Cv:ak Tryz.prog 389:=by kernel_rfl
theorem D4:ak Tryz.prog 390:=by kernel_rfl
theorem Dk:ak Tryz.prog 391:=by kernel_rfl
theorem Ca:ak Tryz.prog 401:=by kernel_rfl
theorem cl87:ak Tryz.prog 87:=by kernel_rfl
theorem iL:ba Tryz.prog 297 0 0:=by kernel_rfl
theorem tK:ba Tryz.prog 297 1 1:=by kernel_rfl
theorem p5:ba Tryz.prog 297 2 2:=by kernel_rfl
theorem mG:tyA Tryz.prog 297 3:=by kernel_rfl
theorem CQ:sized Tryz.prog 228 1:=by kernel_rfl
theorem Cj:sized Tryz.prog 297 3:=by kernel_rfl
theorem CI:zeroOf Tryz.prog 228=some .nilFunc:=by kernel_rfl
theorem Co:zeroOf Tryz.prog 297=some (.agg (scanC (⟨0,0,0⟩:Scan)).toArray):=by kernel_rfl
def D.o4 (r_retire_zero:Plan→Int→Int→(Unit→T Int)→T Int) (c0:Plan) (c1:Int) (c2:Int) (c3:(Unit→T Int)):T Int:=(r_retire_zero c0 c1 (IntKind.i64.wrap (c2+1)) c3)
def D.dY (r_retire_zero:Plan→Int→Int→(Unit→T Int)→T Int) (a0:Plan) (a1:Int) (a2:Int) (a3:(Unit→T Int)):T Int:=(bif (a2==3) then (a3 ()) else (D.dl (D.bS a0 a1 a2) 0 (fun _=>(D.o4 r_retire_zero a0 a1 a2 a3))))
def D.dI:Nat→Plan→Int→Int→(Unit→T Int)→T Int
  | 0,_,_,_,_=>.cut
  | k+1,a0,a1,a2,a3=>D.dY (D.dI k) a0 a1 a2 a3
def nM (r:Plan→Int→Int→(Unit→T Int)→T Int) (n:Nat):Prop:=∀ (F:Nat→Prop) (w0:World),(∀ b,F b→b<w0.heap.size)→∀ (a0:Plan) (a1:Int) (a2:Int) {a3f:FuncId} {a3_1 a3_2:List Value} {a3:(Unit→T Int)} (a3n:FnT Tryz.prog ax unitE (n+1) F w0 (.func (.func a3f) a3_1.toArray a3_2.toArray) a3),Calls Tryz.prog 357 #[.agg (af a0).toArray,.int .i64 a1,.int .i64 a2,.func (.func a3f) a3_1.toArray a3_2.toArray] w0 (av Tryz.prog ax n (r a0 a1 a2 a3) F w0)
theorem yc {r_retire_zero:Plan→Int→Int→(Unit→T Int)→T Int} (hF:kH F w0) (ih_retire_zero:∀ m,m≤n→nM r_retire_zero m)
    (c0:Plan) {c0b:Nat} (c0F:F c0b) (c0h:w0.heap[c0b]?=some (.cells ((af c0)).toArray 23 (0,0))) (c1:Int) {c1b:Nat} (c1F:F c1b) (c1h:w0.heap[c1b]?=some (.cells ([(.int .i64 c1)]).toArray 3 (0,0))) (c2:Int) {c2b:Nat} (c2F:F c2b) (c2h:w0.heap[c2b]?=some (.cells ([(.int .i64 c2)]).toArray 3 (0,0))) {c3f:FuncId} {c3_1 c3_2:List Value} {c3:(Unit→T Int)} {c3b:Nat} (c3F:F c3b) (c3h:w0.heap[c3b]?=some (.cells #[.func (.func c3f) c3_1.toArray c3_2.toArray] 228 (0,0))) (c3n:FnT Tryz.prog ax unitE (n+1) F w0 (.func (.func c3f) c3_1.toArray c3_2.toArray) c3) :
    Calls Tryz.prog 401 #[zp c0b,zp c1b,zp c2b,zp c3b] w0 (av Tryz.prog ax n (D.o4 r_retire_zero c0 c1 c2 c3) F w0):=by
 refine enter Tryz.func401 rfl 11 rfl rfl fun fr r=>?_;have hB:=Below.refl w0.heap.size w0
 have lc0b:=lt_of_block c0h;have lc1b:=lt_of_block c1h;have lc2b:=lt_of_block c2h;have lc3b:=lt_of_block c3h;refine wsr ?_;refine ar (.cells (ai false ax.zero 0 0 0 0 .nilFunc) 61 (0,0)) r (fun R=>aq tz61) rfl fun fr b1 w2 n3 r=>?_;obtain ⟨E1,Z2,H1,hB,zB⟩:=n3.all hB
 refine wn (wsr (kG (af c0) 6 r rfl (keep hB c0h) ta23 rfl rfl fun r=>kL (I c1) r rfl (keep hB c1h) to3 rfl rfl fun r=>kL (I c2) r rfl (keep hB c2h) to3 rfl rfl fun r=>kB r rfl rfl rfl rfl rfl fun r=>kL (.func (.func c3f) c3_1.toArray c3_2.toArray) r rfl (keep hB c3h) kg rfl rfl fun r=>?_));have hF1:=aA hF hB b1
 refine kD r ((ih_retire_zero n (by omega)) (kW F w0 w2 b1) _ hF1 c0 c1 (W (c2+1)) (c3n.mono (by omega) (fun b h=>.inl h) (Same.below hB hF) hB.size)) rfl uJ rfl fun w4 v5 hb hr6 r=>?_;have Z4:=hb.size
 have H1:=keep hb H1;obtain ⟨hB,zB⟩:=bon hb hB;refine kP r hr6.shape rfl rfl H1 ts61 rfl rfl fun w7 u8 r=>?_;have Z7:=u8.size
 have H1:=u8.at_;obtain ⟨hB,zB⟩:=u8.on hB (by omega)
 exact wn (wp_ret (kR r hr6 rfl rfl H1 rfl ta61 hF hB u8 (by omega) (by omega) (by omega)))
theorem yJ {n:Nat} {F:Nat→Prop} {r_retire_zero:Plan→Int→Int→(Unit→T Int)→T Int} {w0:World} (hF:∀ b,F b→b<w0.heap.size) (ih_retire_zero:∀ m,m<n→nM r_retire_zero m)
    (a0:Plan) (a1:Int) (a2:Int) {a3f:FuncId} {a3_1 a3_2:List Value} {a3:(Unit→T Int)} (a3n:FnT Tryz.prog ax unitE (n+1) F w0 (.func (.func a3f) a3_1.toArray a3_2.toArray) a3) :
    Calls Tryz.prog 357 #[.agg (af a0).toArray,.int .i64 a1,.int .i64 a2,.func (.func a3f) a3_1.toArray a3_2.toArray] w0 (av Tryz.prog ax n (D.dY r_retire_zero a0 a1 a2 a3) F w0):=by
 refine enter Tryz.func357 rfl 19 rfl rfl fun fr r=>?_;have hB:=Below.refl w0.heap.size w0
 refine wsr ?_;refine kX 23 (.agg (af a0).toArray) r rfl rfl fun b1 w2 n3 r=>?_;obtain ⟨E1,Z2,H1,hB,zB⟩:=n3.all hB
 refine kX 3 (I a1) r rfl rfl fun b4 w5 n6 r=>?_;have H1:=keep n6.below H1
 obtain ⟨E4,Z5,H4,hB,zB⟩:=n6.all hB;refine kX 3 (I a2) r rfl rfl fun b7 w8 n9 r=>?_;have H1:=keep n9.below H1
 have H4:=keep n9.below H4;obtain ⟨E7,Z8,H7,hB,zB⟩:=n9.all hB;refine kX 228 (.func (.func a3f) a3_1.toArray a3_2.toArray) r rfl rfl fun b10 w11 n12 r=>?_;have H1:=keep n12.below H1
 have H4:=keep n12.below H4;have H7:=keep n12.below H7;obtain ⟨E10,Z11,H10,hB,zB⟩:=n12.all hB;refine ar (.cells (ai false ax.zero 0 0 0 0 .nilFunc) 61 (0,0)) r (fun R=>aq tz61) rfl fun fr b13 w14 n15 r=>?_;have H1:=keep n15.below H1
 have H4:=keep n15.below H4;have H7:=keep n15.below H7;have H10:=keep n15.below H10;obtain ⟨E13,Z14,H13,hB,zB⟩:=n15.all hB;refine wn (wp_seq (wsr (kL (I a2) r rfl H7 to3 rfl rfl fun r=>kB r rfl rfl rfl rfl rfl fun r=>wn ?_)));refine wp_cond_split (t:=(a2==3)) (r.ev rfl) (fun h16=>?_) (fun h16=>?_)
 ·
  refine wsr (kL (.func (.func a3f) a3_1.toArray a3_2.toArray) r rfl H10 kg rfl rfl fun r=>?_);refine cE r (a3n.at_.2 n (Nat.lt_succ_self n) () w14 (Same.below hB hF) hB.size) (fun R hc=>gF r rfl a3n.at_.1 hc) rfl ?_
  rintro _ w17 ⟨v18,rfl,hb,hr19⟩;refine ⟨_,rfl,fun fr r=>?_⟩
  have Z17:=hb.size;have H1:=keep hb H1;have H4:=keep hb H4;have H7:=keep hb H7;have H10:=keep hb H10;have H13:=keep hb H13;obtain ⟨hB,zB⟩:=bon hb hB;refine kP r hr19.shape rfl rfl H13 ts61 rfl rfl fun w20 u21 r=>?_;have Z20:=u21.size
  have H1:=u21.keep H1 (by omega)
  have H4:=u21.keep H4 (by omega)
  have H7:=u21.keep H7 (by omega)
  have H10:=u21.keep H10 (by omega)
  have H13:=u21.at_;obtain ⟨hB,zB⟩:=u21.on hB (by omega)
  refine wn (wp_ret ?_);have hd:D.dY r_retire_zero a0 a1 a2 a3=(a3 ()):=(ay h16).trans (rfl);have hs:=hr19.shape.cells;refine aH r rfl rfl H13 (k:=7) hs.1 ta61 ?_;rw [←hs.2.2,hd];exact av.fin hB hr19 u21 (fun b hb=>.inl hb) (fun h=>by have:=hF _ h; omega) (by omega) (by omega) (by omega)
 refine wp_skip (wsr (kG (af a0) 6 r rfl H1 ta23 rfl rfl fun r=>kL (I a1) r rfl H4 to3 rfl rfl fun r=>kL (I a2) r rfl H7 to3 rfl rfl fun r=>?_));refine kE r (fX w14 a0 a1 a2) rfl gO rfl fun w22 hb r=>?_
 have Z22:=hb.size;have H1:=keep hb H1;have H4:=keep hb H4;have H7:=keep hb H7;have H10:=keep hb H10;have H13:=keep hb H13;obtain ⟨hB,zB⟩:=bon hb hB;refine ae (.func (.func 401) #[] #[zp b1,zp b4,zp b7,zp b10]) r (fun R=>aW r rfl) rfl fun fr r=>?_;have hF1:=aA hF hB b13
 have f23:((kW F w0 w22 b13)) b1:=(.inr ⟨by omega,by omega,by omega⟩)
 have f24:((kW F w0 w22 b13)) b4:=(.inr ⟨by omega,by omega,by omega⟩)
 have f25:((kW F w0 w22 b13)) b7:=(.inr ⟨by omega,by omega,by omega⟩)
 have f26:((kW F w0 w22 b13)) b10:=(.inr ⟨by omega,by omega,by omega⟩)
 refine kD r (fA (F:=(kW F w0 w22 b13)) (n:=n) hF1 (D.bS a0 a1 a2) 0 ⟨401,[],[zp b1,zp b4,zp b7,zp b10],Ca,rfl,fun m hm _ w' hs hz=>yc (fun b hb=>Nat.lt_of_lt_of_le (hF1 b hb) hz) (fun m' hm'=>ih_retire_zero m' (by omega)) a0 f23 (hs.at_ f23 H1) a1 f24 (hs.at_ f24 H4) a2 f25 (hs.at_ f25 H7) f26 (hs.at_ f26 H10) (a3n.mono (by omega) (fun b h=>.inl h) ((Same.below hB hF).trans (hs.sub (fun b h=>.inl h))) (Nat.le_trans hB.size hz))⟩) rfl fR rfl fun w27 v28 hb hr29 r=>?_;have Z27:=hb.size
 have H1:=keep hb H1;have H4:=keep hb H4;have H7:=keep hb H7;have H10:=keep hb H10;have H13:=keep hb H13;obtain ⟨hB,zB⟩:=bon hb hB;refine kP r hr29.shape rfl rfl H13 ts61 rfl rfl fun w30 u31 r=>?_;have Z30:=u31.size
 have H1:=u31.keep H1 (by omega)
 have H4:=u31.keep H4 (by omega)
 have H7:=u31.keep H7 (by omega)
 have H10:=u31.keep H10 (by omega)
 have H13:=u31.at_;obtain ⟨hB,zB⟩:=u31.on hB (by omega)
 refine wn (wp_ret ?_);have hd:D.dY r_retire_zero a0 a1 a2 a3=(D.dl (D.bS a0 a1 a2) 0 (fun _=>(D.o4 r_retire_zero a0 a1 a2 a3))):=(aw h16).trans (rfl)
 have hs:=hr29.shape.cells;refine aH r rfl rfl H13 (k:=7) hs.1 ta61 ?_;rw [←hs.2.2,hd];exact rfin hF hB hr29 u31 (by omega) (by omega) (by omega)
theorem yQ {n:Nat} {k:Nat} (hk:n<k):nM (D.dI k) n:=by
  induction n using Nat.strongRecOn generalizing k with
  | _ n ih=>
    obtain ⟨k,rfl⟩:∃ q,k=q+1:=⟨k - 1,by omega⟩
    intro F w0 hF;have h:=@yJ n F (D.dI k) w0 hF (fun m hm=>ih m hm (by omega))
    exact h
def D.fj (j:Nat) (c0:State) (c1:Plan) (c2:Int):T Int:=(bif (c0.mode==3) then (D.cx (-1)) else (D.dS j c1 c2))
theorem wm (hF:kH F w0) (hj:n<j)
    (c0:State) {c0b:Nat} (c0F:F c0b) (c0h:w0.heap[c0b]?=some (.cells ((aI c0)).toArray 55 (0,0))) (c1:Plan) {c1b:Nat} (c1F:F c1b) (c1h:w0.heap[c1b]?=some (.cells ((af c1)).toArray 23 (0,0))) (c2:Int) {c2b:Nat} (c2F:F c2b) (c2h:w0.heap[c2b]?=some (.cells ([(.int .i64 c2)]).toArray 3 (0,0))) :
    Calls Tryz.prog 361 #[zp c0b,zp c1b,zp c2b] w0 (av Tryz.prog ax n (D.fj j c0 c1 c2) F w0):=by
 refine enter Tryz.func361 rfl 11 rfl rfl fun fr r=>?_;have hB:=Below.refl w0.heap.size w0
 have lc0b:=lt_of_block c0h;have lc1b:=lt_of_block c1h;have lc2b:=lt_of_block c2h;refine wsr ?_;refine ar (.cells (ai false ax.zero 0 0 0 0 .nilFunc) 61 (0,0)) r (fun R=>aq tz61) rfl fun fr b1 w2 n3 r=>?_;obtain ⟨E1,Z2,H1,hB,zB⟩:=n3.all hB
 refine wn (wp_seq (wsr (kF 0 r rfl jR rfl fun r=>kL (I c0.mode) r rfl (keep hB c0h) to3 rfl rfl fun r=>kB r rfl rfl rfl rfl rfl fun r=>wn ?_)));refine wp_cond_split (t:=(c0.mode==3)) (r.ev rfl) (fun h4=>?_) (fun h4=>?_)
 ·
  refine wsr ?_;have hF1:=aA hF hB b1;refine kD r (dP (F:=(kW F w0 w2 b1)) (n:=n) hF1 (-1)) rfl dW rfl fun w5 v6 hb hr7 r=>?_;have Z5:=hb.size
  have H1:=keep hb H1;obtain ⟨hB,zB⟩:=bon hb hB;refine kP r hr7.shape rfl rfl H1 ts61 rfl rfl fun w8 u9 r=>?_;have Z8:=u9.size
  have H1:=u9.at_;obtain ⟨hB,zB⟩:=u9.on hB (by omega)
  refine wn (wp_ret ?_);have hd:D.fj j c0 c1 c2=(D.cx (-1)):=(ay h4).trans (rfl);have hs:=hr7.shape.cells;refine aH r rfl rfl H1 (k:=7) hs.1 ta61 ?_;rw [←hs.2.2,hd];exact rfin hF hB hr7 u9 (by omega) (by omega) (by omega)
 refine wp_skip (wsr (kG (af c1) 6 r rfl (keep hB c1h) ta23 rfl rfl fun r=>kL (I c2) r rfl (keep hB c2h) to3 rfl rfl fun r=>?_));have hF1:=aA hF hB b1
 refine kD r ((zj (k:=j) (n:=n) (by omega)) (kW F w0 w2 b1) _ hF1 c1 c2) rfl ur rfl fun w10 v11 hb hr12 r=>?_;have Z10:=hb.size
 have H1:=keep hb H1;obtain ⟨hB,zB⟩:=bon hb hB;refine kP r hr12.shape rfl rfl H1 ts61 rfl rfl fun w13 u14 r=>?_;have Z13:=u14.size
 have H1:=u14.at_;obtain ⟨hB,zB⟩:=u14.on hB (by omega)
 refine wn (wp_ret ?_);have hd:D.fj j c0 c1 c2=(D.dS j c1 c2):=(aw h4).trans (rfl);have hs:=hr12.shape.cells;refine aH r rfl rfl H1 (k:=7) hs.1 ta61 ?_;rw [←hs.2.2,hd];exact rfin hF hB hr12 u14 (by omega) (by omega) (by omega)
def D.nz (j:Nat) (c0:Plan) (c1:Int) (a0:Int):T Int:=(D.dl (D.cw c0 c1) (D.bR (D.bB ((D.aR a0).1) c0.gen)) (fun _=>(D.fj j (D.bB ((D.aR a0).1) c0.gen) c0 c1)))
theorem wO (hF:kH F w0) (hj:n<j)
    (c0:Plan) {c0b:Nat} (c0F:F c0b) (c0h:w0.heap[c0b]?=some (.cells ((af c0)).toArray 23 (0,0))) (c1:Int) {c1b:Nat} (c1F:F c1b) (c1h:w0.heap[c1b]?=some (.cells ([(.int .i64 c1)]).toArray 3 (0,0))) (a0:Int) :
    Calls Tryz.prog 359 #[.int .u64 a0,zp c0b,zp c1b] w0 (av Tryz.prog ax n (D.nz j c0 c1 a0) F w0):=by
 refine enter Tryz.func359 rfl 24 rfl rfl fun fr r=>?_;have hB:=Below.refl w0.heap.size w0
 have lc0b:=lt_of_block c0h;have lc1b:=lt_of_block c1h;refine wsr ?_;refine ar (.cells (ai false ax.zero 0 0 0 0 .nilFunc) 61 (0,0)) r (fun R=>aq tz61) rfl fun fr b1 w2 n3 r=>?_;obtain ⟨E1,Z2,H1,hB,zB⟩:=n3.all hB
 refine wn (wsr (kM (U a0) r rfl rfl fun r=>?_));refine kE r (js w2 a0) rfl cl87 rfl fun w4 hb r=>?_
 have Z4:=hb.size;have H1:=keep hb H1;obtain ⟨hB,zB⟩:=bon hb hB;refine kM (.tuple #[(.agg (aI (D.aR a0).1).toArray),(.bool (D.aR a0).2)]) r rfl rfl fun r=>ae (.agg (aI (D.aR a0).1).toArray) r (fun R=>bC r (vs:=#[(.agg (aI (D.aR a0).1).toArray),(.bool (D.aR a0).2)]) rfl rfl) rfl fun fr r=>ae (.bool (D.aR a0).2) r (fun R=>bC r (vs:=#[(.agg (aI (D.aR a0).1).toArray),(.bool (D.aR a0).2)]) rfl rfl) rfl fun fr r=>?_;refine ar (.cells ((aI (⟨0,0,0⟩:State))).toArray 55 (0,0)) r (fun R=>aq tz55) rfl fun fr b5 w6 n7 r=>?_
 have H1:=keep n7.below H1;obtain ⟨E5,Z6,H5,hB,zB⟩:=n7.all hB;refine aM (.cells ((aI ((D.aR a0).1))).toArray 55 (0,0)) r (fun R=>aX r (o:=0) (v:=(.agg (aI (D.aR a0).1).toArray)) rfl rfl H5 ts55 (Nat.le_of_ble_eq_true rfl) rfl rfl) rfl fun fr w8 u9 r=>?_;have Z8:=u9.size
 have H1:=u9.keep H1 (by omega)
 have H5:=u9.at_;obtain ⟨hB,zB⟩:=u9.on hB (by omega)
 refine kA (.bool (D.aR a0).2) r rfl rfl fun r=>wn (wsr (ae (.agg (aI (D.aR a0).1).toArray) r (fun R=>aU r (cs:=(aI ((D.aR a0).1))) (n:=3) rfl H5 ta55 rfl) rfl fun fr r=>kF 0 r rfl jS rfl fun r=>kL (I c0.gen) r rfl (keep hB c0h) to3 rfl rfl fun r=>?_));refine kE r (xa w8 ((D.aR a0).1) c0.gen) rfl Di rfl fun w10 hb r=>?_
 have Z10:=hb.size;have H1:=keep hb H1;have H5:=keep hb H5;obtain ⟨hB,zB⟩:=bon hb hB;refine ar (.cells ((aI (⟨0,0,0⟩:State))).toArray 55 (0,0)) r (fun R=>aq tz55) rfl fun fr b11 w12 n13 r=>?_;have H1:=keep n13.below H1
 have H5:=keep n13.below H5;obtain ⟨E11,Z12,H11,hB,zB⟩:=n13.all hB;refine aM (.cells ((aI (D.bB ((D.aR a0).1) c0.gen))).toArray 55 (0,0)) r (fun R=>aX r (o:=0) (v:=(.agg (aI (D.bB ((D.aR a0).1) c0.gen)).toArray)) rfl rfl H11 ts55 (Nat.le_of_ble_eq_true rfl) rfl rfl) rfl fun fr w14 u15 r=>?_;have Z14:=u15.size
 have H1:=u15.keep H1 (by omega)
 have H5:=u15.keep H5 (by omega)
 have H11:=u15.at_;obtain ⟨hB,zB⟩:=u15.on hB (by omega)
 refine wn (wp_seq ?_);refine bw 6 [.val (.agg (af c0).toArray),.val (I c1),.val (I (D.cw c0 c1)),.val (.agg (aI (D.bB ((D.aR a0).1) c0.gen)).toArray),.val (U (D.bR (D.bB ((D.aR a0).1) c0.gen))),.val (.func (.func 361) #[] #[zp b11,zp c0b,zp c1b])] mixed r (by kernel_rfl) (ag (by exact trivial) (ag (by exact trivial) (ag (by exact trivial) (ag (by exact trivial) (ag (by exact trivial) (ag (by exact trivial) bv)))))) ?_ ?_
 ·
  refine ec r (fun _ u _ b d s=>aU s (cs:=(af c0)) (n:=6) rfl (bo hB b c0h) ta23 rfl bz) (ec r (fun _ u _ b d s=>aB s rfl (bo hB b c1h) to3 rfl bz) (ec r (fun fr1 u w' hb' hd r'=>aP r' (args:=[(.agg (af c0).toArray),(I c1)]) (lc hd.1 (lc hd.2.1 l0)) cl31 ((gU _ c0 c1).mono (by rintro _ w2 ⟨rfl,hb2⟩; exact ⟨_,rfl,hb2,rfl⟩))) (ec r (fun _ u _ b d s=>aU s (cs:=(aI (D.bB ((D.aR a0).1) c0.gen))) (n:=3) rfl (keep b H11) ta55 rfl bz) (ec r (fun fr1 u w' hb' hd r'=>aP r' (args:=[(.agg (aI (D.bB ((D.aR a0).1) c0.gen)).toArray)]) (lc hd.1 l0) cl32 ((j5 _ (D.bB ((D.aR a0).1) c0.gen)).mono (by rintro _ w2 ⟨rfl,hb2⟩; exact ⟨_,rfl,hb2,rfl⟩))) (ec r (fun _ u _ b d s=>aW s (v:=(.func (.func 361) #[] #[zp b11,zp c0b,zp c1b])) rfl bz) ?_)))));exact bA
 intro fr u w16 hb hΦ hne r;have r:=r.congr (sc (hΦ 5 (by decide)) (sc (hΦ 4 (by decide)) (sc (hΦ 3 (by decide)) (sc (hΦ 2 (by decide)) (sc (hΦ 1 (by decide)) (sc (hΦ 0 (by decide)) rfl))))));have Z16:=hb.size;have H1:=keep hb H1;have H5:=keep hb H5;have H11:=keep hb H11;obtain ⟨hB,zB⟩:=bon hb hB;have hF1:=aA hF hB b1;have f17:((kW F w0 w16 b1)) b11:=(.inr ⟨by omega,by omega,by omega⟩)
 have f18:((kW F w0 w16 b1)) c0b:=(.inl c0F);have f19:((kW F w0 w16 b1)) c1b:=(.inl c1F);refine kD r (fA (F:=(kW F w0 w16 b1)) (n:=n) hF1 (D.cw c0 c1) (D.bR (D.bB ((D.aR a0).1) c0.gen)) ⟨361,[],[zp b11,zp c0b,zp c1b],BG,rfl,fun m hm _ w' hs hz=>wm (j:=j) (fun b hb=>Nat.lt_of_lt_of_le (hF1 b hb) hz) (by omega) (D.bB ((D.aR a0).1) c0.gen) f17 (hs.at_ f17 H11) c0 f18 (hs.at_ f18 (keep hB c0h)) c1 f19 (hs.at_ f19 (keep hB c1h))⟩) rfl fR rfl fun w20 v21 hb hr22 r=>?_;have Z20:=hb.size
 have H1:=keep hb H1;have H5:=keep hb H5;have H11:=keep hb H11;obtain ⟨hB,zB⟩:=bon hb hB;refine kP r hr22.shape rfl rfl H1 ts61 rfl rfl fun w23 u24 r=>?_;have Z23:=u24.size
 have H5:=u24.keep H5 (by omega)
 have H11:=u24.keep H11 (by omega)
 have H1:=u24.at_;obtain ⟨hB,zB⟩:=u24.on hB (by omega)
 exact wn (wp_ret (kR r hr22 rfl rfl H1 rfl ta61 hF hB u24 (by omega) (by omega) (by omega)))
def D.nN (j:Nat) (c0:Plan) (c1:Int):T Int:=(D.cV (D.cw c0 c1) (fun x=>(D.nz j c0 c1 x)))
theorem xy (hF:kH F w0) (hj:n<j)
    (c0:Plan) {c0b:Nat} (c0F:F c0b) (c0h:w0.heap[c0b]?=some (.cells ((af c0)).toArray 23 (0,0))) (c1:Int) {c1b:Nat} (c1F:F c1b) (c1h:w0.heap[c1b]?=some (.cells ([(.int .i64 c1)]).toArray 3 (0,0))) :
    Calls Tryz.prog 358 #[zp c0b,zp c1b] w0 (av Tryz.prog ax n (D.nN j c0 c1) F w0):=by
 refine enter Tryz.func358 rfl 8 rfl rfl fun fr r=>?_;have hB:=Below.refl w0.heap.size w0
 have lc0b:=lt_of_block c0h;have lc1b:=lt_of_block c1h;refine wsr ?_;refine ar (.cells (ai false ax.zero 0 0 0 0 .nilFunc) 61 (0,0)) r (fun R=>aq tz61) rfl fun fr b1 w2 n3 r=>?_;obtain ⟨E1,Z2,H1,hB,zB⟩:=n3.all hB
 refine wn (wsr (kG (af c0) 6 r rfl (keep hB c0h) ta23 rfl rfl fun r=>kL (I c1) r rfl (keep hB c1h) to3 rfl rfl fun r=>?_));refine kE r (gU w2 c0 c1) rfl cl31 rfl fun w4 hb r=>?_
 have Z4:=hb.size;have H1:=keep hb H1;obtain ⟨hB,zB⟩:=bon hb hB;refine ae (.func (.func 359) #[] #[zp c0b,zp c1b]) r (fun R=>aW r rfl) rfl fun fr r=>?_;have hF1:=aA hF hB b1
 have f5:((kW F w0 w4 b1)) c0b:=(.inl c0F);have f6:((kW F w0 w4 b1)) c1b:=(.inl c1F);refine kD r (eO (F:=(kW F w0 w4 b1)) (n:=n) hF1 (D.cw c0 c1) ⟨359,[],[zp c0b,zp c1b],CO,rfl,fun m hm x w' hs hz=>wO (j:=j) (fun b hb=>Nat.lt_of_lt_of_le (hF1 b hb) hz) (by omega) c0 f5 (hs.at_ f5 (keep hB c0h)) c1 f6 (hs.at_ f6 (keep hB c1h)) x⟩) rfl fe rfl fun w7 v8 hb hr9 r=>?_;have Z7:=hb.size
 have H1:=keep hb H1;obtain ⟨hB,zB⟩:=bon hb hB;refine kP r hr9.shape rfl rfl H1 ts61 rfl rfl fun w10 u11 r=>?_;have Z10:=u11.size
 have H1:=u11.at_;obtain ⟨hB,zB⟩:=u11.on hB (by omega)
 exact wn (wp_ret (kR r hr9 rfl rfl H1 rfl ta61 hF hB u11 (by omega) (by omega) (by omega)))
def D.lp (j:Nat) (a0:Plan) (a1:Int):T Int:=(D.dI j a0 a1 0 (fun _=>(D.nN j a0 a1)))
theorem xT (hF:kH F w0) (hj:n<j)
    (a0:Plan) (a1:Int) :
    Calls Tryz.prog 289 #[.agg (af a0).toArray,.int .i64 a1] w0 (av Tryz.prog ax n (D.lp j a0 a1) F w0):=by
 refine enter Tryz.func289 rfl 9 rfl rfl fun fr r=>?_;have hB:=Below.refl w0.heap.size w0
 refine wsr ?_;refine kX 23 (.agg (af a0).toArray) r rfl rfl fun b1 w2 n3 r=>?_;obtain ⟨E1,Z2,H1,hB,zB⟩:=n3.all hB
 refine kX 3 (I a1) r rfl rfl fun b4 w5 n6 r=>?_;have H1:=keep n6.below H1
 obtain ⟨E4,Z5,H4,hB,zB⟩:=n6.all hB;refine ar (.cells (ai false ax.zero 0 0 0 0 .nilFunc) 61 (0,0)) r (fun R=>aq tz61) rfl fun fr b7 w8 n9 r=>?_;have H1:=keep n9.below H1
 have H4:=keep n9.below H4;obtain ⟨E7,Z8,H7,hB,zB⟩:=n9.all hB;refine wn (wsr (kG (af a0) 6 r rfl H1 ta23 rfl rfl fun r=>kL (I a1) r rfl H4 to3 rfl rfl fun r=>ae (.func (.func 358) #[] #[zp b1,zp b4]) r (fun R=>aW r rfl) rfl fun fr r=>?_));have hF1:=aA hF hB b7
 have f10:((kW F w0 w8 b7)) b1:=(.inr ⟨by omega,by omega,by omega⟩)
 have f11:((kW F w0 w8 b7)) b4:=(.inr ⟨by omega,by omega,by omega⟩)
 refine kD r ((yQ (k:=j) (n:=n) (by omega)) (kW F w0 w8 b7) _ hF1 a0 a1 0 ⟨358,[],[zp b1,zp b4],Ch,rfl,fun m hm _ w' hs hz=>xy (j:=j) (fun b hb=>Nat.lt_of_lt_of_le (hF1 b hb) hz) (by omega) a0 f10 (hs.at_ f10 H1) a1 f11 (hs.at_ f11 H4)⟩) rfl uJ rfl fun w12 v13 hb hr14 r=>?_;have Z12:=hb.size
 have H1:=keep hb H1;have H4:=keep hb H4;have H7:=keep hb H7;obtain ⟨hB,zB⟩:=bon hb hB;refine kP r hr14.shape rfl rfl H7 ts61 rfl rfl fun w15 u16 r=>?_;have Z15:=u16.size
 have H1:=u16.keep H1 (by omega)
 have H4:=u16.keep H4 (by omega)
 have H7:=u16.at_;obtain ⟨hB,zB⟩:=u16.on hB (by omega)
 exact wn (wp_ret (kR r hr14 rfl rfl H7 rfl ta61 hF hB u16 (by omega) (by omega) (by omega)))
def D.lf (c0:Plan) (c1:Int) (c2:Scan) (c3:(Unit→T Int)) (a0:Int):T Int:=(D.dl (D.cR c0 c1 c2.at_) a0 c3)
theorem xw (hF:kH F w0)
    (c0:Plan) {c0b:Nat} (c0F:F c0b) (c0h:w0.heap[c0b]?=some (.cells ((af c0)).toArray 23 (0,0))) (c1:Int) {c1b:Nat} (c1F:F c1b) (c1h:w0.heap[c1b]?=some (.cells ([(.int .i64 c1)]).toArray 3 (0,0))) (c2:Scan) {c2b:Nat} (c2F:F c2b) (c2h:w0.heap[c2b]?=some (.cells ((scanC c2)).toArray 297 (0,0))) {c3f:FuncId} {c3_1 c3_2:List Value} {c3:(Unit→T Int)} {c3b:Nat} (c3F:F c3b) (c3h:w0.heap[c3b]?=some (.cells #[.func (.func c3f) c3_1.toArray c3_2.toArray] 228 (0,0))) (c3n:FnT Tryz.prog ax unitE (n+1) F w0 (.func (.func c3f) c3_1.toArray c3_2.toArray) c3) (a0:Int) :
    Calls Tryz.prog 391 #[.int .u64 a0,zp c0b,zp c1b,zp c2b,zp c3b] w0 (av Tryz.prog ax n (D.lf c0 c1 c2 c3 a0) F w0):=by
 refine enter Tryz.func391 rfl 15 rfl rfl fun fr r=>?_;have hB:=Below.refl w0.heap.size w0
 have lc0b:=lt_of_block c0h;have lc1b:=lt_of_block c1h;have lc2b:=lt_of_block c2h;have lc3b:=lt_of_block c3h;refine wsr ?_;refine ar (.cells (ai false ax.zero 0 0 0 0 .nilFunc) 61 (0,0)) r (fun R=>aq tz61) rfl fun fr b1 w2 n3 r=>?_;obtain ⟨E1,Z2,H1,hB,zB⟩:=n3.all hB
 refine wn (wp_seq ?_);refine bw 7 [.val (.agg (af c0).toArray),.val (I c1),.val (zp c2b),.val (I c2.at_),.val (I (D.cR c0 c1 c2.at_)),.val (U a0),.val (.func (.func c3f) c3_1.toArray c3_2.toArray)] mixed r (by kernel_rfl) (ag (by exact trivial) (ag (by exact trivial) (ag (by exact trivial) (ag (by exact trivial) (ag (by exact trivial) (ag (by exact trivial) (ag (by exact trivial) bv))))))) ?_ ?_
 ·
  refine ec r (fun _ u _ b d s=>aU s (cs:=(af c0)) (n:=6) rfl (bo hB b c0h) ta23 rfl bz) (ec r (fun _ u _ b d s=>aB s rfl (bo hB b c1h) to3 rfl bz) (ec r (fun _ u _ b d s=>aG s (b:=c2b) (o:=0) rfl iL bz) (ec r (fun _ u _ b d s=>aB s d.1 (bo hB b c2h) to3 rfl bz) (ec r (fun fr1 u w' hb' hd r'=>aP r' (args:=[(.agg (af c0).toArray),(I c1),(I c2.at_)]) (lc hd.1 (lc hd.2.1 (lc hd.2.2.1 l0))) mH ((kN _ c0 c1 c2.at_).mono (by rintro _ w2 ⟨rfl,hb2⟩; exact ⟨_,rfl,hb2,rfl⟩))) (ec r (fun _ u _ b d s=>aD s rfl bz) (ec r (fun _ u _ b d s=>aB s rfl (bo hB b c3h) kg rfl bz) ?_))))));exact bA
 intro fr u w4 hb hΦ hne r;have r:=r.congr (sc (hΦ 6 (by decide)) (sc (hΦ 5 (by decide)) (sc (hΦ 4 (by decide)) (sc (hΦ 3 (by decide)) (sc (hΦ 2 (by decide)) (sc (hΦ 1 (by decide)) (sc (hΦ 0 (by decide)) rfl)))))));have Z4:=hb.size;have H1:=keep hb H1;obtain ⟨hB,zB⟩:=bon hb hB;have hF1:=aA hF hB b1;refine kD r (fA (F:=(kW F w0 w4 b1)) (n:=n) hF1 (D.cR c0 c1 c2.at_) a0 (c3n.mono (by omega) (fun b h=>.inl h) (Same.below hB hF) hB.size)) rfl fR rfl fun w5 v6 hb hr7 r=>?_;have Z5:=hb.size
 have H1:=keep hb H1;obtain ⟨hB,zB⟩:=bon hb hB;refine kP r hr7.shape rfl rfl H1 ts61 rfl rfl fun w8 u9 r=>?_;have Z8:=u9.size
 have H1:=u9.at_;obtain ⟨hB,zB⟩:=u9.on hB (by omega)
 exact wn (wp_ret (kR r hr7 rfl rfl H1 rfl ta61 hF hB u9 (by omega) (by omega) (by omega)))
def D.ky (j:Nat) (r_retire_scanned:Plan→Int→Scan→T Int) (c0:Plan) (c1:Int) (c2:Scan) (c3:Int) (a0:Int):T Int:=(r_retire_scanned c0 c1 (⟨(IntKind.i64.wrap (c2.at_ - 1)),c3,(IntKind.i64.wrap (c2.done+1))⟩:Scan))
def D.ny (j:Nat) (r_retire_scanned:Plan→Int→Scan→T Int) (c0:Plan) (c1:Int) (c2:Int) (c3:Scan) (c4:Int):T Int:=(T.bind (D.lp j c0 c1) (fun x=>(D.ky j r_retire_scanned c0 c2 c3 c4 x)))
def D.eI (j:Nat) (r_retire_scanned:Plan→Int→Scan→T Int) (c0:Plan) (c1:Int) (c2:Int) (c3:Int) (c4:Scan):T Int:=(D.dl (D.di c0 c1) (IntKind.u64.wrap c2) (fun _=>(D.ny j r_retire_scanned c0 c3 c1 c4 c2)))
def D.gh (j:Nat) (r_retire_scanned:Plan→Int→Scan→T Int) (a0:Plan) (a1:Int) (a2:Scan) (a3:Int):T Int:=(bif (a2.at_==(IntKind.i64.wrap (a2.left - 1))) then ((fun _=>(D.eI j r_retire_scanned a0 a1 (IntKind.i64.wrap (a2.left - 1)) a3 a2)) ()) else (D.cV (D.cR a0 a1 (IntKind.i64.wrap (a2.left - 1))) (fun x=>(D.lf a0 a1 a2 (fun _=>(D.eI j r_retire_scanned a0 a1 (IntKind.i64.wrap (a2.left - 1)) a3 a2)) x))))
def D.eG (j:Nat) (r_retire_scanned:Plan→Int→Scan→T Int) (c0:Plan) (c1:Int) (c2:Scan) (c3:Scan) (c4:Int) (a0:Bool):T Int:=(bif a0 then (r_retire_scanned c0 c1 c2) else (D.gh j r_retire_scanned c0 c1 c3 (IntKind.i64.wrap ((IntKind.i64.wrap c4) - 1))))
def D.gb (j:Nat) (r_retire_scanned:Plan→Int→Scan→T Int) (c0:Plan) (c1:Int) (c2:Scan) (c3:Scan) (a0:Int):T Int:=(bif (decide (a0<1)) then (r_retire_scanned c0 c1 c2) else (bif (decide (a0 > (IntKind.u64.wrap c0.nodes))) then (r_retire_scanned c0 c1 c2) else (T.bind (D.lH j c0 (IntKind.i64.wrap ((IntKind.i64.wrap a0) - 1))) (fun x=>(D.eG j r_retire_scanned c0 c1 c2 c3 a0 x)))))
def D.fo (j:Nat) (r_retire_scanned:Plan→Int→Scan→T Int) (a0:Plan) (a1:Int) (a2:Scan):T Int:=(bif (decide (a2.at_<0)) then (D.cx a2.done) else (D.cV (D.cR a0 a1 a2.at_) (fun x=>(D.gb j r_retire_scanned a0 a1 (⟨(IntKind.i64.wrap (a2.at_ - 1)),a2.left,a2.done⟩:Scan) a2 x))))
def D.dm (j:Nat):Nat→Plan→Int→Scan→T Int
  | 0,_,_,_=>.cut
  | k+1,a0,a1,a2=>D.fo j (D.dm j k) a0 a1 a2
def fk (r:Plan→Int→Scan→T Int) (n:Nat):Prop:=∀ (F:Nat→Prop) (w0:World),(∀ b,F b→b<w0.heap.size)→∀ (a0:Plan) (a1:Int) (a2:Scan),Calls Tryz.prog 219 #[.agg (af a0).toArray,.int .i64 a1,.agg (scanC a2).toArray] w0 (av Tryz.prog ax n (r a0 a1 a2) F w0)
theorem wt {r_retire_scanned:Plan→Int→Scan→T Int} (hF:kH F w0) (hj:n<j) (ih_retire_scanned:∀ m,m≤n→fk r_retire_scanned m)
    (c0:Plan) {c0b:Nat} (c0F:F c0b) (c0h:w0.heap[c0b]?=some (.cells ((af c0)).toArray 23 (0,0))) (c1:Int) {c1b:Nat} (c1F:F c1b) (c1h:w0.heap[c1b]?=some (.cells ([(.int .i64 c1)]).toArray 3 (0,0))) (c2:Scan) {c2b:Nat} (c2F:F c2b) (c2h:w0.heap[c2b]?=some (.cells ((scanC c2)).toArray 297 (0,0))) (c3:Int) {c3b:Nat} (c3F:F c3b) (c3h:w0.heap[c3b]?=some (.cells ([(.int .i64 c3)]).toArray 3 (0,0))) (a0:Int) :
    Calls Tryz.prog 390 #[.int .i64 a0,zp c0b,zp c1b,zp c2b,zp c3b] w0 (av Tryz.prog ax n (D.ky j r_retire_scanned c0 c1 c2 c3 a0) F w0):=by
 refine enter Tryz.func390 rfl 18 rfl rfl fun fr r=>?_;have hB:=Below.refl w0.heap.size w0
 have lc0b:=lt_of_block c0h;have lc1b:=lt_of_block c1h;have lc2b:=lt_of_block c2h;have lc3b:=lt_of_block c3h;refine wsr ?_;refine ar (.cells (ai false ax.zero 0 0 0 0 .nilFunc) 61 (0,0)) r (fun R=>aq tz61) rfl fun fr b1 w2 n3 r=>?_;obtain ⟨E1,Z2,H1,hB,zB⟩:=n3.all hB
 refine wn (wsr (kG (af c0) 6 r rfl (keep hB c0h) ta23 rfl rfl fun r=>kL (I c1) r rfl (keep hB c1h) to3 rfl rfl fun r=>kF 0 r rfl iL rfl fun r=>kL (I c2.at_) r rfl (keep hB c2h) to3 rfl rfl fun r=>kB r rfl rfl rfl rfl rfl fun r=>kL (I c3) r rfl (keep hB c3h) to3 rfl rfl fun r=>kF 0 r rfl p5 rfl fun r=>kL (I c2.done) r rfl (keep hB c2h) to3 rfl rfl fun r=>kB r rfl rfl rfl rfl rfl fun r=>kU (.agg (scanC (⟨(W (c2.at_ - 1)),c3,(W (c2.done+1))⟩:Scan)).toArray) r (by kernel_rfl) rfl fun r=>?_));have hF1:=aA hF hB b1
 refine kD r ((ih_retire_scanned n (by omega)) (kW F w0 w2 b1) _ hF1 c0 c1 (⟨(W (c2.at_ - 1)),c3,(W (c2.done+1))⟩:Scan)) rfl jU rfl fun w4 v5 hb hr6 r=>?_;have Z4:=hb.size
 have H1:=keep hb H1;obtain ⟨hB,zB⟩:=bon hb hB;refine kP r hr6.shape rfl rfl H1 ts61 rfl rfl fun w7 u8 r=>?_;have Z7:=u8.size
 have H1:=u8.at_;obtain ⟨hB,zB⟩:=u8.on hB (by omega)
 exact wn (wp_ret (kR r hr6 rfl rfl H1 rfl ta61 hF hB u8 (by omega) (by omega) (by omega)))
theorem wR {r_retire_scanned:Plan→Int→Scan→T Int} (hF:kH F w0) (hj:n<j) (ih_retire_scanned:∀ m,m<n→fk r_retire_scanned m)
    (c0:Plan) {c0b:Nat} (c0F:F c0b) (c0h:w0.heap[c0b]?=some (.cells ((af c0)).toArray 23 (0,0))) (c1:Int) {c1b:Nat} (c1F:F c1b) (c1h:w0.heap[c1b]?=some (.cells ([(.int .i64 c1)]).toArray 3 (0,0))) (c2:Int) {c2b:Nat} (c2F:F c2b) (c2h:w0.heap[c2b]?=some (.cells ([(.int .i64 c2)]).toArray 3 (0,0))) (c3:Scan) {c3b:Nat} (c3F:F c3b) (c3h:w0.heap[c3b]?=some (.cells ((scanC c3)).toArray 297 (0,0))) (c4:Int) {c4b:Nat} (c4F:F c4b) (c4h:w0.heap[c4b]?=some (.cells ([(.int .i64 c4)]).toArray 3 (0,0))) :
    Calls Tryz.prog 389 #[zp c0b,zp c1b,zp c2b,zp c3b,zp c4b] w0 (av Tryz.prog ax n (D.ny j r_retire_scanned c0 c1 c2 c3 c4) F w0):=by
 refine enter Tryz.func389 rfl 11 rfl rfl fun fr r=>?_;have hB:=Below.refl w0.heap.size w0
 have lc0b:=lt_of_block c0h;have lc1b:=lt_of_block c1h;have lc2b:=lt_of_block c2h;have lc3b:=lt_of_block c3h;have lc4b:=lt_of_block c4h;refine wsr ?_;refine ar (.cells (ai false ax.zero 0 0 0 0 .nilFunc) 61 (0,0)) r (fun R=>aq tz61) rfl fun fr b1 w2 n3 r=>?_;obtain ⟨E1,Z2,H1,hB,zB⟩:=n3.all hB
 refine wn (wsr (kG (af c0) 6 r rfl (keep hB c0h) ta23 rfl rfl fun r=>kL (I c1) r rfl (keep hB c1h) to3 rfl rfl fun r=>?_));have hF1:=aA hF hB b1
 refine kD r (xT (j:=j) (F:=(kW F w0 w2 b1)) (n:=n) hF1 (by omega) c0 c1) rfl D5 rfl fun w4 v5 hb hr6 r=>?_;have Z4:=hb.size
 have H1:=keep hb H1;obtain ⟨hB,zB⟩:=bon hb hB;refine ae (.func (.func 390) #[] #[zp c0b,zp c2b,zp c3b,zp c4b]) r (fun R=>aW r rfl) rfl fun fr r=>?_;have hF1:=aA hF hB b1
 have f7:((kW F w0 w4 b1)) c0b:=(.inl c0F);have f8:((kW F w0 w4 b1)) c2b:=(.inl c2F);have f9:((kW F w0 w4 b1)) c3b:=(.inl c3F);have f10:((kW F w0 w4 b1)) c4b:=(.inl c4F);refine kD r (wo (F:=(kW F w0 w4 b1)) (n:=n) hF1 (Rep.mono (by rintro b (h | h); (rcases h with h | ⟨h1,h2,h3⟩; exact .inl h; exact .inr ⟨h1,by omega,h3⟩); exact .inr ⟨by omega,by omega,by omega⟩) (Same.refl _ _) (by omega) n _ _ hr6) ⟨390,[],[zp c0b,zp c2b,zp c3b,zp c4b],D4,rfl,fun m hm x w' hs hz=>wt (j:=j) (fun b hb=>Nat.lt_of_lt_of_le (hF1 b hb) hz) (by omega) (fun m' hm'=>ih_retire_scanned m' (by omega)) c0 f7 (hs.at_ f7 (keep hB c0h)) c2 f8 (hs.at_ f8 (keep hB c2h)) c3 f9 (hs.at_ f9 (keep hB c3h)) c4 f10 (hs.at_ f10 (keep hB c4h)) x⟩ (by first | rfl | (cases j with | zero=>omega | succ q=>rfl))) rfl jV rfl fun w11 v12 hb hr13 r=>?_
 have Z11:=hb.size;have H1:=keep hb H1;obtain ⟨hB,zB⟩:=bon hb hB;refine kP r hr13.shape rfl rfl H1 ts61 rfl rfl fun w14 u15 r=>?_;have Z14:=u15.size
 have H1:=u15.at_;obtain ⟨hB,zB⟩:=u15.on hB (by omega)
 exact wn (wp_ret (kR r hr13 rfl rfl H1 rfl ta61 hF hB u15 (by omega) (by omega) (by omega)))
theorem qO {r_retire_scanned:Plan→Int→Scan→T Int} (hF:kH F w0) (hj:n<j) (ih_retire_scanned:∀ m,m<n→fk r_retire_scanned m)
    (c0:Plan) {c0b:Nat} (c0F:F c0b) (c0h:w0.heap[c0b]?=some (.cells ((af c0)).toArray 23 (0,0))) (c1:Int) {c1b:Nat} (c1F:F c1b) (c1h:w0.heap[c1b]?=some (.cells ([(.int .i64 c1)]).toArray 3 (0,0))) (c2:Int) {c2b:Nat} (c2F:F c2b) (c2h:w0.heap[c2b]?=some (.cells ([(.int .i64 c2)]).toArray 3 (0,0))) (c3:Int) {c3b:Nat} (c3F:F c3b) (c3h:w0.heap[c3b]?=some (.cells ([(.int .i64 c3)]).toArray 3 (0,0))) (c4:Scan) {c4b:Nat} (c4F:F c4b) (c4h:w0.heap[c4b]?=some (.cells ((scanC c4)).toArray 297 (0,0))) :
    Calls Tryz.prog 388 #[zp c0b,zp c1b,zp c2b,zp c3b,zp c4b] w0 (av Tryz.prog ax n (D.eI j r_retire_scanned c0 c1 c2 c3 c4) F w0):=by
 refine enter Tryz.func388 rfl 13 rfl rfl fun fr r=>?_;have hB:=Below.refl w0.heap.size w0
 have lc0b:=lt_of_block c0h;have lc1b:=lt_of_block c1h;have lc2b:=lt_of_block c2h;have lc3b:=lt_of_block c3h;have lc4b:=lt_of_block c4h;refine wsr ?_;refine ar (.cells (ai false ax.zero 0 0 0 0 .nilFunc) 61 (0,0)) r (fun R=>aq tz61) rfl fun fr b1 w2 n3 r=>?_;obtain ⟨E1,Z2,H1,hB,zB⟩:=n3.all hB
 refine wn (wp_seq ?_);refine bw 6 [.val (.agg (af c0).toArray),.val (I c1),.val (I (D.di c0 c1)),.val (I c2),.val (U (V c2)),.val (.func (.func 389) #[] #[zp c0b,zp c3b,zp c1b,zp c4b,zp c2b])] mixed r (by kernel_rfl) (ag (by exact trivial) (ag (by exact trivial) (ag (by exact trivial) (ag (by exact trivial) (ag (by exact trivial) (ag (by exact trivial) bv)))))) ?_ ?_
 ·
  refine ec r (fun _ u _ b d s=>aU s (cs:=(af c0)) (n:=6) rfl (bo hB b c0h) ta23 rfl bz) (ec r (fun _ u _ b d s=>aB s rfl (bo hB b c1h) to3 rfl bz) (ec r (fun fr1 u w' hb' hd r'=>aP r' (args:=[(.agg (af c0).toArray),(I c1)]) (lc hd.1 (lc hd.2.1 l0)) mE ((kV _ c0 c1).mono (by rintro _ w2 ⟨rfl,hb2⟩; exact ⟨_,rfl,hb2,rfl⟩))) (ec r (fun _ u _ b d s=>aB s rfl (bo hB b c2h) to3 rfl bz) (ec r (fun _ u _ b d s=>cr s (n:=c2) d.1 ti3 ti40 bz) (ec r (fun _ u _ b d s=>aW s (v:=(.func (.func 389) #[] #[zp c0b,zp c3b,zp c1b,zp c4b,zp c2b])) rfl bz) ?_)))));exact bA
 intro fr u w4 hb hΦ hne r;have r:=r.congr (sc (hΦ 5 (by decide)) (sc (hΦ 4 (by decide)) (sc (hΦ 3 (by decide)) (sc (hΦ 2 (by decide)) (sc (hΦ 1 (by decide)) (sc (hΦ 0 (by decide)) rfl))))));have Z4:=hb.size;have H1:=keep hb H1;obtain ⟨hB,zB⟩:=bon hb hB;have hF1:=aA hF hB b1;have f5:((kW F w0 w4 b1)) c0b:=(.inl c0F);have f6:((kW F w0 w4 b1)) c3b:=(.inl c3F);have f7:((kW F w0 w4 b1)) c1b:=(.inl c1F);have f8:((kW F w0 w4 b1)) c4b:=(.inl c4F);have f9:((kW F w0 w4 b1)) c2b:=(.inl c2F);refine kD r (fA (F:=(kW F w0 w4 b1)) (n:=n) hF1 (D.di c0 c1) (V c2) ⟨389,[],[zp c0b,zp c3b,zp c1b,zp c4b,zp c2b],Cv,rfl,fun m hm _ w' hs hz=>wR (j:=j) (fun b hb=>Nat.lt_of_lt_of_le (hF1 b hb) hz) (by omega) (fun m' hm'=>ih_retire_scanned m' (by omega)) c0 f5 (hs.at_ f5 (keep hB c0h)) c3 f6 (hs.at_ f6 (keep hB c3h)) c1 f7 (hs.at_ f7 (keep hB c1h)) c4 f8 (hs.at_ f8 (keep hB c4h)) c2 f9 (hs.at_ f9 (keep hB c2h))⟩) rfl fR rfl fun w10 v11 hb hr12 r=>?_;have Z10:=hb.size
 have H1:=keep hb H1;obtain ⟨hB,zB⟩:=bon hb hB;refine kP r hr12.shape rfl rfl H1 ts61 rfl rfl fun w13 u14 r=>?_;have Z13:=u14.size
 have H1:=u14.at_;obtain ⟨hB,zB⟩:=u14.on hB (by omega)
 exact wn (wp_ret (kR r hr12 rfl rfl H1 rfl ta61 hF hB u14 (by omega) (by omega) (by omega)))
theorem xQ {r_retire_scanned:Plan→Int→Scan→T Int} (hF:kH F w0) (hj:n<j) (ih_retire_scanned:∀ m,m<n→fk r_retire_scanned m)
    (a0:Plan) (a1:Int) (a2:Scan) (a3:Int) :
    Calls Tryz.prog 324 #[.agg (af a0).toArray,.int .i64 a1,.agg (scanC a2).toArray,.int .i64 a3] w0 (av Tryz.prog ax n (D.gh j r_retire_scanned a0 a1 a2 a3) F w0):=by
 refine enter Tryz.func324 rfl 27 rfl rfl fun fr r=>?_;have hB:=Below.refl w0.heap.size w0
 refine wsr ?_;refine kX 23 (.agg (af a0).toArray) r rfl rfl fun b1 w2 n3 r=>?_;obtain ⟨E1,Z2,H1,hB,zB⟩:=n3.all hB
 refine kX 3 (I a1) r rfl rfl fun b4 w5 n6 r=>?_;have H1:=keep n6.below H1
 obtain ⟨E4,Z5,H4,hB,zB⟩:=n6.all hB;refine kX 297 (.agg (scanC a2).toArray) r rfl rfl fun b7 w8 n9 r=>?_;have H1:=keep n9.below H1
 have H4:=keep n9.below H4;obtain ⟨E7,Z8,H7,hB,zB⟩:=n9.all hB;refine kX 3 (I a3) r rfl rfl fun b10 w11 n12 r=>?_;have H1:=keep n12.below H1
 have H4:=keep n12.below H4;have H7:=keep n12.below H7;obtain ⟨E10,Z11,H10,hB,zB⟩:=n12.all hB;refine ar (.cells (ai false ax.zero 0 0 0 0 .nilFunc) 61 (0,0)) r (fun R=>aq tz61) rfl fun fr b13 w14 n15 r=>?_;have H1:=keep n15.below H1
 have H4:=keep n15.below H4;have H7:=keep n15.below H7;have H10:=keep n15.below H10;obtain ⟨E13,Z14,H13,hB,zB⟩:=n15.all hB;refine wn (wsr (kF 0 r rfl tK rfl fun r=>kL (I a2.left) r rfl H7 to3 rfl rfl fun r=>kB r rfl rfl rfl rfl rfl fun r=>?_));refine ar (.cells #[(I 0)] 3 (0,0)) r (fun R=>aq tz3) rfl fun fr b16 w17 n18 r=>?_
 have H1:=keep n18.below H1;have H4:=keep n18.below H4;have H7:=keep n18.below H7;have H10:=keep n18.below H10;have H13:=keep n18.below H13;obtain ⟨E16,Z17,H16,hB,zB⟩:=n18.all hB;refine aM (.cells #[(I (W (a2.left - 1)))] 3 (0,0)) r (fun R=>aX r (o:=0) (v:=(I (W (a2.left - 1)))) rfl rfl H16 ts3 (Nat.le_of_ble_eq_true rfl) rfl rfl) rfl fun fr w19 u20 r=>?_;have Z19:=u20.size
 have H1:=u20.keep H1 (by omega)
 have H4:=u20.keep H4 (by omega)
 have H7:=u20.keep H7 (by omega)
 have H10:=u20.keep H10 (by omega)
 have H13:=u20.keep H13 (by omega)
 have H16:=u20.at_;obtain ⟨hB,zB⟩:=u20.on hB (by omega)
 refine wn (wsr (ae (.func (.func 388) #[] #[zp b1,zp b4,zp b16,zp b10,zp b7]) r (fun R=>aW r rfl) rfl fun fr r=>?_));refine ar (.cells #[.nilFunc] 228 (0,0)) r (fun R=>aq CI) rfl fun fr b21 w22 n23 r=>?_
 have H1:=keep n23.below H1;have H4:=keep n23.below H4;have H7:=keep n23.below H7;have H10:=keep n23.below H10;have H13:=keep n23.below H13;have H16:=keep n23.below H16;obtain ⟨E21,Z22,H21,hB,zB⟩:=n23.all hB;refine aM (.cells #[.func (.func 388) #[] #[zp b1,zp b4,zp b16,zp b10,zp b7]] 228 (0,0)) r (fun R=>aX r (o:=0) (v:=(.func (.func 388) #[] #[zp b1,zp b4,zp b16,zp b10,zp b7])) rfl rfl H21 CQ (Nat.le_of_ble_eq_true rfl) rfl rfl) rfl fun fr w24 u25 r=>?_;have Z24:=u25.size
 have H1:=u25.keep H1 (by omega)
 have H4:=u25.keep H4 (by omega)
 have H7:=u25.keep H7 (by omega)
 have H10:=u25.keep H10 (by omega)
 have H13:=u25.keep H13 (by omega)
 have H16:=u25.keep H16 (by omega)
 have H21:=u25.at_;obtain ⟨hB,zB⟩:=u25.on hB (by omega)
 refine wn (wp_seq (wsr (kF 0 r rfl iL rfl fun r=>kL (I a2.at_) r rfl H7 to3 rfl rfl fun r=>kL (I (W (a2.left - 1))) r rfl H16 to3 rfl rfl fun r=>kB r rfl rfl rfl rfl rfl fun r=>wn ?_)));refine wp_cond_split (t:=(a2.at_==(W (a2.left - 1)))) (r.ev rfl) (fun h26=>?_) (fun h26=>?_)
 ·
  refine wsr (kL (.func (.func 388) #[] #[zp b1,zp b4,zp b16,zp b10,zp b7]) r rfl H21 kg rfl rfl fun r=>?_);have hF1:=aA hF hB b13
  have f27:((kW F w0 w24 b13)) b1:=(.inr ⟨by omega,by omega,by omega⟩)
  have f28:((kW F w0 w24 b13)) b4:=(.inr ⟨by omega,by omega,by omega⟩)
  have f29:((kW F w0 w24 b13)) b16:=(.inr ⟨by omega,by omega,by omega⟩)
  have f30:((kW F w0 w24 b13)) b10:=(.inr ⟨by omega,by omega,by omega⟩)
  have f31:((kW F w0 w24 b13)) b7:=(.inr ⟨by omega,by omega,by omega⟩)
  have q32:FnT Tryz.prog ax unitE (n+1) (kW F w0 w24 b13) w24 (.func (.func 388) #[] #[zp b1,zp b4,zp b16,zp b10,zp b7]) (fun _=>(D.eI j r_retire_scanned a0 a1 (W (a2.left - 1)) a3 a2)):=⟨388,[],[zp b1,zp b4,zp b16,zp b10,zp b7],vv,rfl,fun m hm _ w' hs hz=>qO (j:=j) (fun b hb=>Nat.lt_of_lt_of_le (hF1 b hb) hz) (by omega) (fun m' hm'=>ih_retire_scanned m' (by omega)) a0 f27 (hs.at_ f27 H1) a1 f28 (hs.at_ f28 H4) (W (a2.left - 1)) f29 (hs.at_ f29 H16) a3 f30 (hs.at_ f30 H10) a2 f31 (hs.at_ f31 H7)⟩
  refine cE r (q32.at_.2 n (Nat.lt_succ_self n) () w24 (Same.refl _ _) (Nat.le_refl _)) (fun R hc=>gF r rfl q32.at_.1 hc) rfl ?_;rintro _ w33 ⟨v34,rfl,hb,hr35⟩
  refine ⟨_,rfl,fun fr r=>?_⟩
  have Z33:=hb.size;have H1:=keep hb H1;have H4:=keep hb H4;have H7:=keep hb H7;have H10:=keep hb H10;have H13:=keep hb H13;have H16:=keep hb H16;have H21:=keep hb H21;obtain ⟨hB,zB⟩:=bon hb hB;refine kP r hr35.shape rfl rfl H13 ts61 rfl rfl fun w36 u37 r=>?_;have Z36:=u37.size
  have H1:=u37.keep H1 (by omega)
  have H4:=u37.keep H4 (by omega)
  have H7:=u37.keep H7 (by omega)
  have H10:=u37.keep H10 (by omega)
  have H16:=u37.keep H16 (by omega)
  have H21:=u37.keep H21 (by omega)
  have H13:=u37.at_;obtain ⟨hB,zB⟩:=u37.on hB (by omega)
  refine wn (wp_ret ?_);have hd:D.gh j r_retire_scanned a0 a1 a2 a3=((fun _=>(D.eI j r_retire_scanned a0 a1 (W (a2.left - 1)) a3 a2)) ()):=(ay h26).trans (rfl)
  have hs:=hr35.shape.cells;refine aH r rfl rfl H13 (k:=7) hs.1 ta61 ?_;rw [←hs.2.2,hd];exact rfin hF hB hr35 u37 (by omega) (by omega) (by omega)
 refine wp_skip (wsr (kG (af a0) 6 r rfl H1 ta23 rfl rfl fun r=>kL (I a1) r rfl H4 to3 rfl rfl fun r=>kL (I (W (a2.left - 1))) r rfl H16 to3 rfl rfl fun r=>?_));refine kE r (kN w24 a0 a1 (W (a2.left - 1))) rfl mH rfl fun w38 hb r=>?_
 have Z38:=hb.size;have H1:=keep hb H1;have H4:=keep hb H4;have H7:=keep hb H7;have H10:=keep hb H10;have H13:=keep hb H13;have H16:=keep hb H16;have H21:=keep hb H21;obtain ⟨hB,zB⟩:=bon hb hB;refine ae (.func (.func 391) #[] #[zp b1,zp b4,zp b7,zp b21]) r (fun R=>aW r rfl) rfl fun fr r=>?_;have hF1:=aA hF hB b13
 have f39:((kW F w0 w38 b13)) b1:=(.inr ⟨by omega,by omega,by omega⟩)
 have f40:((kW F w0 w38 b13)) b4:=(.inr ⟨by omega,by omega,by omega⟩)
 have f41:((kW F w0 w38 b13)) b7:=(.inr ⟨by omega,by omega,by omega⟩)
 have f42:((kW F w0 w38 b13)) b21:=(.inr ⟨by omega,by omega,by omega⟩)
 have f44:((kW F w0 w38 b13)) b1:=(.inr ⟨by omega,by omega,by omega⟩)
 have f45:((kW F w0 w38 b13)) b4:=(.inr ⟨by omega,by omega,by omega⟩)
 have f46:((kW F w0 w38 b13)) b16:=(.inr ⟨by omega,by omega,by omega⟩)
 have f47:((kW F w0 w38 b13)) b10:=(.inr ⟨by omega,by omega,by omega⟩)
 have f48:((kW F w0 w38 b13)) b7:=(.inr ⟨by omega,by omega,by omega⟩)
 have q43:FnT Tryz.prog ax unitE (n) (kW F w0 w38 b13) w38 (.func (.func 388) #[] #[zp b1,zp b4,zp b16,zp b10,zp b7]) (fun _=>(D.eI j r_retire_scanned a0 a1 (W (a2.left - 1)) a3 a2)):=⟨388,[],[zp b1,zp b4,zp b16,zp b10,zp b7],vv,rfl,fun m hm _ w' hs hz=>qO (j:=j) (fun b hb=>Nat.lt_of_lt_of_le (hF1 b hb) hz) (by omega) (fun m' hm'=>ih_retire_scanned m' (by omega)) a0 f44 (hs.at_ f44 H1) a1 f45 (hs.at_ f45 H4) (W (a2.left - 1)) f46 (hs.at_ f46 H16) a3 f47 (hs.at_ f47 H10) a2 f48 (hs.at_ f48 H7)⟩
 refine kD r (eO (F:=(kW F w0 w38 b13)) (n:=n) hF1 (D.cR a0 a1 (W (a2.left - 1))) ⟨391,[],[zp b1,zp b4,zp b7,zp b21],Dk,rfl,fun m hm x w' hs hz=>xw (fun b hb=>Nat.lt_of_lt_of_le (hF1 b hb) hz) a0 f39 (hs.at_ f39 H1) a1 f40 (hs.at_ f40 H4) a2 f41 (hs.at_ f41 H7) f42 (hs.at_ f42 H21) (q43.mono (by omega) (fun b h=>h) hs hz) x⟩) rfl fe rfl fun w49 v50 hb hr51 r=>?_;have Z49:=hb.size
 have H1:=keep hb H1;have H4:=keep hb H4;have H7:=keep hb H7;have H10:=keep hb H10;have H13:=keep hb H13;have H16:=keep hb H16;have H21:=keep hb H21;obtain ⟨hB,zB⟩:=bon hb hB;refine kP r hr51.shape rfl rfl H13 ts61 rfl rfl fun w52 u53 r=>?_;have Z52:=u53.size
 have H1:=u53.keep H1 (by omega)
 have H4:=u53.keep H4 (by omega)
 have H7:=u53.keep H7 (by omega)
 have H10:=u53.keep H10 (by omega)
 have H16:=u53.keep H16 (by omega)
 have H21:=u53.keep H21 (by omega)
 have H13:=u53.at_;obtain ⟨hB,zB⟩:=u53.on hB (by omega)
 refine wn (wp_ret ?_);have hd:D.gh j r_retire_scanned a0 a1 a2 a3=(D.cV (D.cR a0 a1 (W (a2.left - 1))) (fun x=>(D.lf a0 a1 a2 (fun _=>(D.eI j r_retire_scanned a0 a1 (W (a2.left - 1)) a3 a2)) x))):=(aw h26).trans (rfl)
 have hs:=hr51.shape.cells;refine aH r rfl rfl H13 (k:=7) hs.1 ta61 ?_;rw [←hs.2.2,hd];exact rfin hF hB hr51 u53 (by omega) (by omega) (by omega)
theorem wT {r_retire_scanned:Plan→Int→Scan→T Int} (hF:kH F w0) (hj:n<j) (ih_retire_scanned:∀ m,m≤n→fk r_retire_scanned m)
    (c0:Plan) {c0b:Nat} (c0F:F c0b) (c0h:w0.heap[c0b]?=some (.cells ((af c0)).toArray 23 (0,0))) (c1:Int) {c1b:Nat} (c1F:F c1b) (c1h:w0.heap[c1b]?=some (.cells ([(.int .i64 c1)]).toArray 3 (0,0))) (c2:Scan) {c2b:Nat} (c2F:F c2b) (c2h:w0.heap[c2b]?=some (.cells ((scanC c2)).toArray 297 (0,0))) (c3:Scan) {c3b:Nat} (c3F:F c3b) (c3h:w0.heap[c3b]?=some (.cells ((scanC c3)).toArray 297 (0,0))) (c4:Int) {c4b:Nat} (c4F:F c4b) (c4h:w0.heap[c4b]?=some (.cells ([(.int .u64 c4)]).toArray 40 (0,0))) (a0:Bool) :
    Calls Tryz.prog 323 #[.bool a0,zp c0b,zp c1b,zp c2b,zp c3b,zp c4b] w0 (av Tryz.prog ax n (D.eG j r_retire_scanned c0 c1 c2 c3 c4 a0) F w0):=by
 refine enter Tryz.func323 rfl 20 rfl rfl fun fr r=>?_;have hB:=Below.refl w0.heap.size w0
 have lc0b:=lt_of_block c0h;have lc1b:=lt_of_block c1h;have lc2b:=lt_of_block c2h;have lc3b:=lt_of_block c3h;have lc4b:=lt_of_block c4h;refine wsr ?_;refine ar (.cells (ai false ax.zero 0 0 0 0 .nilFunc) 61 (0,0)) r (fun R=>aq tz61) rfl fun fr b1 w2 n3 r=>?_;obtain ⟨E1,Z2,H1,hB,zB⟩:=n3.all hB
 refine wn (wp_seq (wsr (kM (.bool a0) r rfl rfl fun r=>wn ?_)));refine wp_cond_split (t:=a0) (r.ev rfl) (fun h4=>?_) (fun h4=>?_)
 ·
  refine wsr (kG (af c0) 6 r rfl (keep hB c0h) ta23 rfl rfl fun r=>kL (I c1) r rfl (keep hB c1h) to3 rfl rfl fun r=>kG (scanC c2) 3 r rfl (keep hB c2h) mG rfl rfl fun r=>?_);have hF1:=aA hF hB b1
  refine kD r ((ih_retire_scanned n (by omega)) (kW F w0 w2 b1) _ hF1 c0 c1 c2) rfl jU rfl fun w5 v6 hb hr7 r=>?_;have Z5:=hb.size
  have H1:=keep hb H1;obtain ⟨hB,zB⟩:=bon hb hB;refine kP r hr7.shape rfl rfl H1 ts61 rfl rfl fun w8 u9 r=>?_;have Z8:=u9.size
  have H1:=u9.at_;obtain ⟨hB,zB⟩:=u9.on hB (by omega)
  refine wn (wp_ret ?_);have hd:D.eG j r_retire_scanned c0 c1 c2 c3 c4 a0=(r_retire_scanned c0 c1 c2):=(ay h4).trans (rfl);have hs:=hr7.shape.cells;refine aH r rfl rfl H1 (k:=7) hs.1 ta61 ?_;rw [←hs.2.2,hd];exact rfin hF hB hr7 u9 (by omega) (by omega) (by omega)
 refine wp_skip (wsr (kG (af c0) 6 r rfl (keep hB c0h) ta23 rfl rfl fun r=>kL (I c1) r rfl (keep hB c1h) to3 rfl rfl fun r=>kG (scanC c3) 3 r rfl (keep hB c3h) mG rfl rfl fun r=>kL (U c4) r rfl (keep hB c4h) to40 rfl rfl fun r=>ae (I (W c4)) r (fun R=>cr r rfl ti40 ti3) rfl fun fr r=>kB r rfl rfl rfl rfl rfl fun r=>?_));have hF1:=aA hF hB b1
 refine kD r (xQ (j:=j) (F:=(kW F w0 w2 b1)) (n:=n) hF1 (by omega) (fun m' hm'=>ih_retire_scanned m' (by omega)) c0 c1 c3 (W ((W c4) - 1))) rfl Cf rfl fun w10 v11 hb hr12 r=>?_;have Z10:=hb.size
 have H1:=keep hb H1;obtain ⟨hB,zB⟩:=bon hb hB;refine kP r hr12.shape rfl rfl H1 ts61 rfl rfl fun w13 u14 r=>?_;have Z13:=u14.size
 have H1:=u14.at_;obtain ⟨hB,zB⟩:=u14.on hB (by omega)
 refine wn (wp_ret ?_);have hd:D.eG j r_retire_scanned c0 c1 c2 c3 c4 a0=(D.gh j r_retire_scanned c0 c1 c3 (W ((W c4) - 1))):=(aw h4).trans (rfl);have hs:=hr12.shape.cells;refine aH r rfl rfl H1 (k:=7) hs.1 ta61 ?_;rw [←hs.2.2,hd];exact rfin hF hB hr12 u14 (by omega) (by omega) (by omega)
theorem xC {r_retire_scanned:Plan→Int→Scan→T Int} (hF:kH F w0) (hj:n<j) (ih_retire_scanned:∀ m,m≤n→fk r_retire_scanned m)
    (c0:Plan) {c0b:Nat} (c0F:F c0b) (c0h:w0.heap[c0b]?=some (.cells ((af c0)).toArray 23 (0,0))) (c1:Int) {c1b:Nat} (c1F:F c1b) (c1h:w0.heap[c1b]?=some (.cells ([(.int .i64 c1)]).toArray 3 (0,0))) (c2:Scan) {c2b:Nat} (c2F:F c2b) (c2h:w0.heap[c2b]?=some (.cells ((scanC c2)).toArray 297 (0,0))) (c3:Scan) {c3b:Nat} (c3F:F c3b) (c3h:w0.heap[c3b]?=some (.cells ((scanC c3)).toArray 297 (0,0))) (a0:Int) :
    Calls Tryz.prog 320 #[.int .u64 a0,zp c0b,zp c1b,zp c2b,zp c3b] w0 (av Tryz.prog ax n (D.gb j r_retire_scanned c0 c1 c2 c3 a0) F w0):=by
 refine enter Tryz.func320 rfl 27 rfl rfl fun fr r=>?_;have hB:=Below.refl w0.heap.size w0
 have lc0b:=lt_of_block c0h;have lc1b:=lt_of_block c1h;have lc2b:=lt_of_block c2h;have lc3b:=lt_of_block c3h;refine wsr ?_;refine kX 40 (U a0) r rfl rfl fun b1 w2 n3 r=>?_;obtain ⟨E1,Z2,H1,hB,zB⟩:=n3.all hB
 refine ar (.cells (ai false ax.zero 0 0 0 0 .nilFunc) 61 (0,0)) r (fun R=>aq tz61) rfl fun fr b4 w5 n6 r=>?_;have H1:=keep n6.below H1
 obtain ⟨E4,Z5,H4,hB,zB⟩:=n6.all hB;refine wn (wp_seq (wsr (kL (U a0) r rfl H1 to40 rfl rfl fun r=>kB r rfl rfl rfl rfl rfl fun r=>kM (.bool (decide (a0<1))) r rfl rfl fun r=>?_)));refine br (decide (a0<1)) (fun h7=>?_) (fun h7=>?_)
 ·
  refine s0 r h7 fun fr r=>s0 r h7 fun fr r=>s0 r h7 fun fr r=>s0 r h7 fun fr r=>s0 r h7 fun fr r=>ae (.bool true) r (fun R=>az r (b:=true) (congrArg Value.bool h7) rfl) rfl fun fr r=>wn ?_;refine wp_cond_split (t:=true) (r.ev rfl) (fun _=>?_) (fun h=>absurd ((rfl:true=_).symm.trans h) (by decide))
  refine wsr (kG (af c0) 6 r rfl (keep hB c0h) ta23 rfl rfl fun r=>kL (I c1) r rfl (keep hB c1h) to3 rfl rfl fun r=>kG (scanC c2) 3 r rfl (keep hB c2h) mG rfl rfl fun r=>?_);have hF1:=aA hF hB b4
  refine kD r ((ih_retire_scanned n (by omega)) (kW F w0 w5 b4) _ hF1 c0 c1 c2) rfl jU rfl fun w8 v9 hb hr10 r=>?_;have Z8:=hb.size
  have H1:=keep hb H1;have H4:=keep hb H4;obtain ⟨hB,zB⟩:=bon hb hB;refine kP r hr10.shape rfl rfl H4 ts61 rfl rfl fun w11 u12 r=>?_;have Z11:=u12.size
  have H1:=u12.keep H1 (by omega)
  have H4:=u12.at_;obtain ⟨hB,zB⟩:=u12.on hB (by omega)
  refine wn (wp_ret ?_);have hd:D.gb j r_retire_scanned c0 c1 c2 c3 a0=(r_retire_scanned c0 c1 c2):=(ay h7).trans (rfl);have hs:=hr10.shape.cells;refine aH r rfl rfl H4 (k:=7) hs.1 ta61 ?_;rw [←hs.2.2,hd];exact rfin hF hB hr10 u12 (by omega) (by omega) (by omega)
 refine s1 r h7 (kL (U a0) r rfl H1 to40 rfl rfl fun r=>s1 r h7 (kF 0 r rfl dL rfl fun r=>s1 r h7 (kL (I c0.nodes) r rfl (keep hB c0h) to3 rfl rfl fun r=>s1 r h7 (ae (U (V c0.nodes)) r (fun R=>cr r rfl ti3 ti40) rfl fun fr r=>s1 r h7 (kB r rfl rfl rfl rfl rfl fun r=>ae (.bool (decide (a0 > (V c0.nodes)))) r (fun R=>az r (b:=false) (congrArg Value.bool h7) rfl) rfl fun fr r=>wn ?_)))));refine wp_cond_split (t:=(decide (a0 > (V c0.nodes)))) (r.ev rfl) (fun h13=>?_) (fun h13=>?_)
 ·
  refine wsr (kG (af c0) 6 r rfl (keep hB c0h) ta23 rfl rfl fun r=>kL (I c1) r rfl (keep hB c1h) to3 rfl rfl fun r=>kG (scanC c2) 3 r rfl (keep hB c2h) mG rfl rfl fun r=>?_);have hF1:=aA hF hB b4
  refine kD r ((ih_retire_scanned n (by omega)) (kW F w0 w5 b4) _ hF1 c0 c1 c2) rfl jU rfl fun w14 v15 hb hr16 r=>?_;have Z14:=hb.size
  have H1:=keep hb H1;have H4:=keep hb H4;obtain ⟨hB,zB⟩:=bon hb hB;refine kP r hr16.shape rfl rfl H4 ts61 rfl rfl fun w17 u18 r=>?_;have Z17:=u18.size
  have H1:=u18.keep H1 (by omega)
  have H4:=u18.at_;obtain ⟨hB,zB⟩:=u18.on hB (by omega)
  refine wn (wp_ret ?_);have hd:D.gb j r_retire_scanned c0 c1 c2 c3 a0=(r_retire_scanned c0 c1 c2):=(aw h7).trans ((ay h13).trans (rfl));have hs:=hr16.shape.cells;refine aH r rfl rfl H4 (k:=7) hs.1 ta61 ?_;rw [←hs.2.2,hd];exact rfin hF hB hr16 u18 (by omega) (by omega) (by omega)
 refine wp_skip (wsr (kG (af c0) 6 r rfl (keep hB c0h) ta23 rfl rfl fun r=>kL (U a0) r rfl H1 to40 rfl rfl fun r=>ae (I (W a0)) r (fun R=>cr r rfl ti40 ti3) rfl fun fr r=>kB r rfl rfl rfl rfl rfl fun r=>?_));have hF1:=aA hF hB b4
 refine kD r (yN (j:=j) (F:=(kW F w0 w5 b4)) (n:=n) hF1 (by omega) c0 (W ((W a0) - 1))) rfl Ci rfl fun w19 v20 hb hr21 r=>?_;have Z19:=hb.size
 have H1:=keep hb H1;have H4:=keep hb H4;obtain ⟨hB,zB⟩:=bon hb hB;refine ae (.func (.func 323) #[] #[zp c0b,zp c1b,zp c2b,zp c3b,zp b1]) r (fun R=>aW r rfl) rfl fun fr r=>?_;have hF1:=aA hF hB b4
 have f22:((kW F w0 w19 b4)) c0b:=(.inl c0F);have f23:((kW F w0 w19 b4)) c1b:=(.inl c1F);have f24:((kW F w0 w19 b4)) c2b:=(.inl c2F);have f25:((kW F w0 w19 b4)) c3b:=(.inl c3F);have f26:((kW F w0 w19 b4)) b1:=(.inr ⟨by omega,by omega,by omega⟩)
 refine kD r (vW (F:=(kW F w0 w19 b4)) (n:=n) hF1 (Rep.mono (by rintro b (h | h); (rcases h with h | ⟨h1,h2,h3⟩; exact .inl h; exact .inr ⟨h1,by omega,h3⟩); exact .inr ⟨by omega,by omega,by omega⟩) (Same.refl _ _) (by omega) n _ _ hr21) ⟨323,[],[zp c0b,zp c1b,zp c2b,zp c3b,zp b1],CF,rfl,fun m hm x w' hs hz=>wT (j:=j) (fun b hb=>Nat.lt_of_lt_of_le (hF1 b hb) hz) (by omega) (fun m' hm'=>ih_retire_scanned m' (by omega)) c0 f22 (hs.at_ f22 (keep hB c0h)) c1 f23 (hs.at_ f23 (keep hB c1h)) c2 f24 (hs.at_ f24 (keep hB c2h)) c3 f25 (hs.at_ f25 (keep hB c3h)) a0 f26 (hs.at_ f26 H1) x⟩) rfl vg rfl fun w27 v28 hb hr29 r=>?_
 have Z27:=hb.size;have H1:=keep hb H1;have H4:=keep hb H4;obtain ⟨hB,zB⟩:=bon hb hB;refine kP r hr29.shape rfl rfl H4 ts61 rfl rfl fun w30 u31 r=>?_;have Z30:=u31.size
 have H1:=u31.keep H1 (by omega)
 have H4:=u31.at_;obtain ⟨hB,zB⟩:=u31.on hB (by omega)
 refine wn (wp_ret ?_);have hd:D.gb j r_retire_scanned c0 c1 c2 c3 a0=(T.bind (D.lH j c0 (W ((W a0) - 1))) (fun x=>(D.eG j r_retire_scanned c0 c1 c2 c3 a0 x))):=(aw h7).trans ((aw h13).trans (rfl))
 have hs:=hr29.shape.cells;refine aH r rfl rfl H4 (k:=7) hs.1 ta61 ?_;rw [←hs.2.2,hd];exact rfin hF hB hr29 u31 (by omega) (by omega) (by omega)
theorem xW {n:Nat} {F:Nat→Prop} {j:Nat} {r_retire_scanned:Plan→Int→Scan→T Int} {w0:World} (hF:∀ b,F b→b<w0.heap.size) (hj:n<j) (ih_retire_scanned:∀ m,m<n→fk r_retire_scanned m)
    (a0:Plan) (a1:Int) (a2:Scan) :
    Calls Tryz.prog 219 #[.agg (af a0).toArray,.int .i64 a1,.agg (scanC a2).toArray] w0 (av Tryz.prog ax n (D.fo j r_retire_scanned a0 a1 a2) F w0):=by
 refine enter Tryz.func219 rfl 29 rfl rfl fun fr r=>?_;have hB:=Below.refl w0.heap.size w0
 refine wsr ?_;refine kX 23 (.agg (af a0).toArray) r rfl rfl fun b1 w2 n3 r=>?_;obtain ⟨E1,Z2,H1,hB,zB⟩:=n3.all hB
 refine kX 3 (I a1) r rfl rfl fun b4 w5 n6 r=>?_;have H1:=keep n6.below H1
 obtain ⟨E4,Z5,H4,hB,zB⟩:=n6.all hB;refine kX 297 (.agg (scanC a2).toArray) r rfl rfl fun b7 w8 n9 r=>?_;have H1:=keep n9.below H1
 have H4:=keep n9.below H4;obtain ⟨E7,Z8,H7,hB,zB⟩:=n9.all hB;refine ar (.cells (ai false ax.zero 0 0 0 0 .nilFunc) 61 (0,0)) r (fun R=>aq tz61) rfl fun fr b10 w11 n12 r=>?_;have H1:=keep n12.below H1
 have H4:=keep n12.below H4;have H7:=keep n12.below H7;obtain ⟨E10,Z11,H10,hB,zB⟩:=n12.all hB;refine wn (wp_seq (wsr (kF 0 r rfl iL rfl fun r=>kL (I a2.at_) r rfl H7 to3 rfl rfl fun r=>kB r rfl rfl rfl rfl rfl fun r=>wn ?_)));refine wp_cond_split (t:=(decide (a2.at_<0))) (r.ev rfl) (fun h13=>?_) (fun h13=>?_)
 ·
  refine wsr (kF 0 r rfl p5 rfl fun r=>kL (I a2.done) r rfl H7 to3 rfl rfl fun r=>?_);have hF1:=aA hF hB b10
  refine kD r (dP (F:=(kW F w0 w11 b10)) (n:=n) hF1 a2.done) rfl dW rfl fun w14 v15 hb hr16 r=>?_;have Z14:=hb.size
  have H1:=keep hb H1;have H4:=keep hb H4;have H7:=keep hb H7;have H10:=keep hb H10;obtain ⟨hB,zB⟩:=bon hb hB;refine kP r hr16.shape rfl rfl H10 ts61 rfl rfl fun w17 u18 r=>?_;have Z17:=u18.size
  have H1:=u18.keep H1 (by omega)
  have H4:=u18.keep H4 (by omega)
  have H7:=u18.keep H7 (by omega)
  have H10:=u18.at_;obtain ⟨hB,zB⟩:=u18.on hB (by omega)
  refine wn (wp_ret ?_);have hd:D.fo j r_retire_scanned a0 a1 a2=(D.cx a2.done):=(ay h13).trans (rfl);have hs:=hr16.shape.cells;refine aH r rfl rfl H10 (k:=7) hs.1 ta61 ?_;rw [←hs.2.2,hd];exact rfin hF hB hr16 u18 (by omega) (by omega) (by omega)
 refine wp_skip (wsr (kF 0 r rfl iL rfl fun r=>kL (I a2.at_) r rfl H7 to3 rfl rfl fun r=>kB r rfl rfl rfl rfl rfl fun r=>kF 0 r rfl tK rfl fun r=>kL (I a2.left) r rfl H7 to3 rfl rfl fun r=>kF 0 r rfl p5 rfl fun r=>kL (I a2.done) r rfl H7 to3 rfl rfl fun r=>kU (.agg (scanC (⟨(W (a2.at_ - 1)),a2.left,a2.done⟩:Scan)).toArray) r (by kernel_rfl) rfl fun r=>?_));refine ar (.cells ((scanC (⟨0,0,0⟩:Scan))).toArray 297 (0,0)) r (fun R=>aq Co) rfl fun fr b19 w20 n21 r=>?_
 have H1:=keep n21.below H1;have H4:=keep n21.below H4;have H7:=keep n21.below H7;have H10:=keep n21.below H10;obtain ⟨E19,Z20,H19,hB,zB⟩:=n21.all hB;refine aM (.cells ((scanC (⟨(W (a2.at_ - 1)),a2.left,a2.done⟩:Scan))).toArray 297 (0,0)) r (fun R=>aX r (o:=0) (v:=(.agg (scanC (⟨(W (a2.at_ - 1)),a2.left,a2.done⟩:Scan)).toArray)) rfl rfl H19 Cj (Nat.le_of_ble_eq_true rfl) rfl rfl) rfl fun fr w22 u23 r=>?_;have Z22:=u23.size
 have H1:=u23.keep H1 (by omega)
 have H4:=u23.keep H4 (by omega)
 have H7:=u23.keep H7 (by omega)
 have H10:=u23.keep H10 (by omega)
 have H19:=u23.at_;obtain ⟨hB,zB⟩:=u23.on hB (by omega)
 refine wn (wsr (kG (af a0) 6 r rfl H1 ta23 rfl rfl fun r=>kL (I a1) r rfl H4 to3 rfl rfl fun r=>kF 0 r rfl iL rfl fun r=>kL (I a2.at_) r rfl H7 to3 rfl rfl fun r=>?_));refine kE r (kN w22 a0 a1 a2.at_) rfl mH rfl fun w24 hb r=>?_
 have Z24:=hb.size;have H1:=keep hb H1;have H4:=keep hb H4;have H7:=keep hb H7;have H10:=keep hb H10;have H19:=keep hb H19;obtain ⟨hB,zB⟩:=bon hb hB;refine ae (.func (.func 320) #[] #[zp b1,zp b4,zp b19,zp b7]) r (fun R=>aW r rfl) rfl fun fr r=>?_;have hF1:=aA hF hB b10
 have f25:((kW F w0 w24 b10)) b1:=(.inr ⟨by omega,by omega,by omega⟩)
 have f26:((kW F w0 w24 b10)) b4:=(.inr ⟨by omega,by omega,by omega⟩)
 have f27:((kW F w0 w24 b10)) b19:=(.inr ⟨by omega,by omega,by omega⟩)
 have f28:((kW F w0 w24 b10)) b7:=(.inr ⟨by omega,by omega,by omega⟩)
 refine kD r (eO (F:=(kW F w0 w24 b10)) (n:=n) hF1 (D.cR a0 a1 a2.at_) ⟨320,[],[zp b1,zp b4,zp b19,zp b7],Cg,rfl,fun m hm x w' hs hz=>xC (j:=j) (fun b hb=>Nat.lt_of_lt_of_le (hF1 b hb) hz) (by omega) (fun m' hm'=>ih_retire_scanned m' (by omega)) a0 f25 (hs.at_ f25 H1) a1 f26 (hs.at_ f26 H4) (⟨(W (a2.at_ - 1)),a2.left,a2.done⟩:Scan) f27 (hs.at_ f27 H19) a2 f28 (hs.at_ f28 H7) x⟩) rfl fe rfl fun w29 v30 hb hr31 r=>?_;have Z29:=hb.size
 have H1:=keep hb H1;have H4:=keep hb H4;have H7:=keep hb H7;have H10:=keep hb H10;have H19:=keep hb H19;obtain ⟨hB,zB⟩:=bon hb hB;refine kP r hr31.shape rfl rfl H10 ts61 rfl rfl fun w32 u33 r=>?_;have Z32:=u33.size
 have H1:=u33.keep H1 (by omega)
 have H4:=u33.keep H4 (by omega)
 have H7:=u33.keep H7 (by omega)
 have H19:=u33.keep H19 (by omega)
 have H10:=u33.at_;obtain ⟨hB,zB⟩:=u33.on hB (by omega)
 refine wn (wp_ret ?_);have hd:D.fo j r_retire_scanned a0 a1 a2=(D.cV (D.cR a0 a1 a2.at_) (fun x=>(D.gb j r_retire_scanned a0 a1 (⟨(W (a2.at_ - 1)),a2.left,a2.done⟩:Scan) a2 x))):=(aw h13).trans (rfl)
 have hs:=hr31.shape.cells;refine aH r rfl rfl H10 (k:=7) hs.1 ta61 ?_;rw [←hs.2.2,hd];exact rfin hF hB hr31 u33 (by omega) (by omega) (by omega)
theorem xR {n:Nat} {j:Nat} (hj:n<j) {k:Nat} (hk:n<k):fk (D.dm j k) n:=by
  induction n using Nat.strongRecOn generalizing k with
  | _ n ih=>
    obtain ⟨k,rfl⟩:∃ q,k=q+1:=⟨k - 1,by omega⟩
    intro F w0 hF;have h:=@xW n F j (D.dm j k) w0 hF hj (fun m hm=>ih m hm (by omega) (by omega))
    exact h
def D.nX (j:Nat) (c0:Plan) (c1:Int) (a0:Int):T Int:=(D.dm j j c0 c1 (⟨(IntKind.i64.wrap ((IntKind.i64.wrap (minI a0 (IntKind.u64.wrap c0.retire))) - 1)),(IntKind.i64.wrap (minI a0 (IntKind.u64.wrap c0.retire))),0⟩:Scan))
theorem yd (hF:kH F w0) (hj:n<j)
    (c0:Plan) {c0b:Nat} (c0F:F c0b) (c0h:w0.heap[c0b]?=some (.cells ((af c0)).toArray 23 (0,0))) (c1:Int) {c1b:Nat} (c1F:F c1b) (c1h:w0.heap[c1b]?=some (.cells ([(.int .i64 c1)]).toArray 3 (0,0))) (a0:Int) :
    Calls Tryz.prog 218 #[.int .u64 a0,zp c0b,zp c1b] w0 (av Tryz.prog ax n (D.nX j c0 c1 a0) F w0):=by
 refine enter Tryz.func218 rfl 19 rfl rfl fun fr r=>?_;have hB:=Below.refl w0.heap.size w0
 have lc0b:=lt_of_block c0h;have lc1b:=lt_of_block c1h;refine wsr ?_;refine ar (.cells (ai false ax.zero 0 0 0 0 .nilFunc) 61 (0,0)) r (fun R=>aq tz61) rfl fun fr b1 w2 n3 r=>?_;obtain ⟨E1,Z2,H1,hB,zB⟩:=n3.all hB
 refine wn (wsr (kM (U a0) r rfl rfl fun r=>kF 0 r rfl dU rfl fun r=>kL (I c0.retire) r rfl (keep hB c0h) to3 rfl rfl fun r=>ae (U (V c0.retire)) r (fun R=>cr r rfl ti3 ti40) rfl fun fr r=>ae (U (minI a0 (V c0.retire))) r (fun R=>CC r (m:=a0) (n:=(V c0.retire)) rfl rfl) rfl fun fr r=>ae (I (W (minI a0 (V c0.retire)))) r (fun R=>cr r rfl ti40 ti3) rfl fun fr r=>kA (I (W (minI a0 (V c0.retire)))) r rfl rfl fun r=>wn (wsr (kG (af c0) 6 r rfl (keep hB c0h) ta23 rfl rfl fun r=>kL (I c1) r rfl (keep hB c1h) to3 rfl rfl fun r=>kM (I (W (minI a0 (V c0.retire)))) r rfl rfl fun r=>kB r rfl rfl rfl rfl rfl fun r=>kM (I (W (minI a0 (V c0.retire)))) r rfl rfl fun r=>kU (.agg (scanC (⟨(W ((W (minI a0 (V c0.retire))) - 1)),(W (minI a0 (V c0.retire))),0⟩:Scan)).toArray) r (by kernel_rfl) rfl fun r=>?_))));have hF1:=aA hF hB b1
 refine kD r ((xR (j:=j) (k:=j) (n:=n) (by omega) (by omega)) (kW F w0 w2 b1) _ hF1 c0 c1 (⟨(W ((W (minI a0 (V c0.retire))) - 1)),(W (minI a0 (V c0.retire))),0⟩:Scan)) rfl jU rfl fun w4 v5 hb hr6 r=>?_;have Z4:=hb.size
 have H1:=keep hb H1;obtain ⟨hB,zB⟩:=bon hb hB;refine kP r hr6.shape rfl rfl H1 ts61 rfl rfl fun w7 u8 r=>?_;have Z7:=u8.size
 have H1:=u8.at_;obtain ⟨hB,zB⟩:=u8.on hB (by omega)
 exact wn (wp_ret (kR r hr6 rfl rfl H1 rfl ta61 hF hB u8 (by omega) (by omega) (by omega)))
def D.fE (j:Nat) (a0:Plan) (a1:Int):T Int:=(D.cV (D.di a0 a1) (fun x=>(D.nX j a0 a1 x)))
theorem rB (hF:kH F w0) (hj:n<j)
    (a0:Plan) (a1:Int) :
    Calls Tryz.prog 115 #[.agg (af a0).toArray,.int .i64 a1] w0 (av Tryz.prog ax n (D.fE j a0 a1) F w0):=by
 refine enter Tryz.func115 rfl 10 rfl rfl fun fr r=>?_;have hB:=Below.refl w0.heap.size w0
 refine wsr ?_;refine kX 23 (.agg (af a0).toArray) r rfl rfl fun b1 w2 n3 r=>?_;obtain ⟨E1,Z2,H1,hB,zB⟩:=n3.all hB
 refine kX 3 (I a1) r rfl rfl fun b4 w5 n6 r=>?_;have H1:=keep n6.below H1
 obtain ⟨E4,Z5,H4,hB,zB⟩:=n6.all hB;refine ar (.cells (ai false ax.zero 0 0 0 0 .nilFunc) 61 (0,0)) r (fun R=>aq tz61) rfl fun fr b7 w8 n9 r=>?_;have H1:=keep n9.below H1
 have H4:=keep n9.below H4;obtain ⟨E7,Z8,H7,hB,zB⟩:=n9.all hB;refine wn (wsr (kG (af a0) 6 r rfl H1 ta23 rfl rfl fun r=>kL (I a1) r rfl H4 to3 rfl rfl fun r=>?_));refine kE r (kV w8 a0 a1) rfl mE rfl fun w10 hb r=>?_
 have Z10:=hb.size;have H1:=keep hb H1;have H4:=keep hb H4;have H7:=keep hb H7;obtain ⟨hB,zB⟩:=bon hb hB;refine ae (.func (.func 218) #[] #[zp b1,zp b4]) r (fun R=>aW r rfl) rfl fun fr r=>?_;have hF1:=aA hF hB b7
 have f11:((kW F w0 w10 b7)) b1:=(.inr ⟨by omega,by omega,by omega⟩)
 have f12:((kW F w0 w10 b7)) b4:=(.inr ⟨by omega,by omega,by omega⟩)
 refine kD r (eO (F:=(kW F w0 w10 b7)) (n:=n) hF1 (D.di a0 a1) ⟨218,[],[zp b1,zp b4],Cw,rfl,fun m hm x w' hs hz=>yd (j:=j) (fun b hb=>Nat.lt_of_lt_of_le (hF1 b hb) hz) (by omega) a0 f11 (hs.at_ f11 H1) a1 f12 (hs.at_ f12 H4) x⟩) rfl fe rfl fun w13 v14 hb hr15 r=>?_;have Z13:=hb.size
 have H1:=keep hb H1;have H4:=keep hb H4;have H7:=keep hb H7;obtain ⟨hB,zB⟩:=bon hb hB;refine kP r hr15.shape rfl rfl H7 ts61 rfl rfl fun w16 u17 r=>?_;have Z16:=u17.size
 have H1:=u17.keep H1 (by omega)
 have H4:=u17.keep H4 (by omega)
 have H7:=u17.at_;obtain ⟨hB,zB⟩:=u17.on hB (by omega)
 exact wn (wp_ret (kR r hr15 rfl rfl H7 rfl ta61 hF hB u17 (by omega) (by omega) (by omega)))
def D.nK (c0:Int):T Int:=(D.cx (IntKind.i64.wrap ((IntKind.i64.wrap c0)+1)))
theorem xj (hF:kH F w0)
    (c0:Int) {c0b:Nat} (c0F:F c0b) (c0h:w0.heap[c0b]?=some (.cells ([(.int .u64 c0)]).toArray 40 (0,0))) :
    Calls Tryz.prog 328 #[zp c0b] w0 (av Tryz.prog ax n (D.nK c0) F w0):=by
 refine enter Tryz.func328 rfl 6 rfl rfl fun fr r=>?_;have hB:=Below.refl w0.heap.size w0
 have lc0b:=lt_of_block c0h;refine wsr ?_;refine ar (.cells (ai false ax.zero 0 0 0 0 .nilFunc) 61 (0,0)) r (fun R=>aq tz61) rfl fun fr b1 w2 n3 r=>?_;obtain ⟨E1,Z2,H1,hB,zB⟩:=n3.all hB
 refine wn (wsr (kL (U c0) r rfl (keep hB c0h) to40 rfl rfl fun r=>ae (I (W c0)) r (fun R=>cr r rfl ti40 ti3) rfl fun fr r=>kB r rfl rfl rfl rfl rfl fun r=>?_));have hF1:=aA hF hB b1
 refine kD r (dP (F:=(kW F w0 w2 b1)) (n:=n) hF1 (W ((W c0)+1))) rfl dW rfl fun w4 v5 hb hr6 r=>?_;have Z4:=hb.size
 have H1:=keep hb H1;obtain ⟨hB,zB⟩:=bon hb hB;refine kP r hr6.shape rfl rfl H1 ts61 rfl rfl fun w7 u8 r=>?_;have Z7:=u8.size
 have H1:=u8.at_;obtain ⟨hB,zB⟩:=u8.on hB (by omega)
 exact wn (wp_ret (kR r hr6 rfl rfl H1 rfl ta61 hF hB u8 (by omega) (by omega) (by omega)))
def D.lu (c0:Plan) (c1:Int) (c2:Int):T Int:=(D.dl (D.di c0 c1) (IntKind.u64.wrap (c2+1)) (fun _=>(D.nK c2)))
theorem xZ (hF:kH F w0)
    (c0:Plan) {c0b:Nat} (c0F:F c0b) (c0h:w0.heap[c0b]?=some (.cells ((af c0)).toArray 23 (0,0))) (c1:Int) {c1b:Nat} (c1F:F c1b) (c1h:w0.heap[c1b]?=some (.cells ([(.int .i64 c1)]).toArray 3 (0,0))) (c2:Int) {c2b:Nat} (c2F:F c2b) (c2h:w0.heap[c2b]?=some (.cells ([(.int .u64 c2)]).toArray 40 (0,0))) :
    Calls Tryz.prog 327 #[zp c0b,zp c1b,zp c2b] w0 (av Tryz.prog ax n (D.lu c0 c1 c2) F w0):=by
 refine enter Tryz.func327 rfl 11 rfl rfl fun fr r=>?_;have hB:=Below.refl w0.heap.size w0
 have lc0b:=lt_of_block c0h;have lc1b:=lt_of_block c1h;have lc2b:=lt_of_block c2h;refine wsr ?_;refine ar (.cells (ai false ax.zero 0 0 0 0 .nilFunc) 61 (0,0)) r (fun R=>aq tz61) rfl fun fr b1 w2 n3 r=>?_;obtain ⟨E1,Z2,H1,hB,zB⟩:=n3.all hB
 refine wn (wp_seq ?_);refine bw 6 [.val (.agg (af c0).toArray),.val (I c1),.val (I (D.di c0 c1)),.val (U c2),.val (U (V (c2+1))),.val (.func (.func 328) #[] #[zp c2b])] mixed r (by kernel_rfl) (ag (by exact trivial) (ag (by exact trivial) (ag (by exact trivial) (ag (by exact trivial) (ag (by exact trivial) (ag (by exact trivial) bv)))))) ?_ ?_
 ·
  refine ec r (fun _ u _ b d s=>aU s (cs:=(af c0)) (n:=6) rfl (bo hB b c0h) ta23 rfl bz) (ec r (fun _ u _ b d s=>aB s rfl (bo hB b c1h) to3 rfl bz) (ec r (fun fr1 u w' hb' hd r'=>aP r' (args:=[(.agg (af c0).toArray),(I c1)]) (lc hd.1 (lc hd.2.1 l0)) mE ((kV _ c0 c1).mono (by rintro _ w2 ⟨rfl,hb2⟩; exact ⟨_,rfl,hb2,rfl⟩))) (ec r (fun _ u _ b d s=>aB s rfl (bo hB b c2h) to40 rfl bz) (ec r (fun _ u _ b d s=>aY s d.1 rfl rfl rfl bz) (ec r (fun _ u _ b d s=>aW s (v:=(.func (.func 328) #[] #[zp c2b])) rfl bz) ?_)))));exact bA
 intro fr u w4 hb hΦ hne r;have r:=r.congr (sc (hΦ 5 (by decide)) (sc (hΦ 4 (by decide)) (sc (hΦ 3 (by decide)) (sc (hΦ 2 (by decide)) (sc (hΦ 1 (by decide)) (sc (hΦ 0 (by decide)) rfl))))));have Z4:=hb.size;have H1:=keep hb H1;obtain ⟨hB,zB⟩:=bon hb hB;have hF1:=aA hF hB b1;have f5:((kW F w0 w4 b1)) c2b:=(.inl c2F);refine kD r (fA (F:=(kW F w0 w4 b1)) (n:=n) hF1 (D.di c0 c1) (V (c2+1)) ⟨328,[],[zp c2b],BK,rfl,fun m hm _ w' hs hz=>xj (fun b hb=>Nat.lt_of_lt_of_le (hF1 b hb) hz) c2 f5 (hs.at_ f5 (keep hB c2h))⟩) rfl fR rfl fun w6 v7 hb hr8 r=>?_;have Z6:=hb.size
 have H1:=keep hb H1;obtain ⟨hB,zB⟩:=bon hb hB;refine kP r hr8.shape rfl rfl H1 ts61 rfl rfl fun w9 u10 r=>?_;have Z9:=u10.size
 have H1:=u10.at_;obtain ⟨hB,zB⟩:=u10.on hB (by omega)
 exact wn (wp_ret (kR r hr8 rfl rfl H1 rfl ta61 hF hB u10 (by omega) (by omega) (by omega)))
def D.ib (c0:Plan) (c1:Int) (c2:Int) (a0:Int):T Int:=(bif (decide (a0≥(IntKind.u64.wrap c0.retire))) then (D.cx (-1)) else (D.dl (D.cR c0 c1 (IntKind.i64.wrap a0)) (IntKind.u64.wrap (IntKind.i64.wrap (c2+1))) (fun _=>(D.lu c0 c1 a0))))
theorem yA (hF:kH F w0)
    (c0:Plan) {c0b:Nat} (c0F:F c0b) (c0h:w0.heap[c0b]?=some (.cells ((af c0)).toArray 23 (0,0))) (c1:Int) {c1b:Nat} (c1F:F c1b) (c1h:w0.heap[c1b]?=some (.cells ([(.int .i64 c1)]).toArray 3 (0,0))) (c2:Int) {c2b:Nat} (c2F:F c2b) (c2h:w0.heap[c2b]?=some (.cells ([(.int .i64 c2)]).toArray 3 (0,0))) (a0:Int) :
    Calls Tryz.prog 326 #[.int .u64 a0,zp c0b,zp c1b,zp c2b] w0 (av Tryz.prog ax n (D.ib c0 c1 c2 a0) F w0):=by
 refine enter Tryz.func326 rfl 22 rfl rfl fun fr r=>?_;have hB:=Below.refl w0.heap.size w0
 have lc0b:=lt_of_block c0h;have lc1b:=lt_of_block c1h;have lc2b:=lt_of_block c2h;refine wsr ?_;refine kX 40 (U a0) r rfl rfl fun b1 w2 n3 r=>?_;obtain ⟨E1,Z2,H1,hB,zB⟩:=n3.all hB
 refine ar (.cells (ai false ax.zero 0 0 0 0 .nilFunc) 61 (0,0)) r (fun R=>aq tz61) rfl fun fr b4 w5 n6 r=>?_;have H1:=keep n6.below H1
 obtain ⟨E4,Z5,H4,hB,zB⟩:=n6.all hB;refine wn (wp_seq (wsr (kL (U a0) r rfl H1 to40 rfl rfl fun r=>kF 0 r rfl dU rfl fun r=>kL (I c0.retire) r rfl (keep hB c0h) to3 rfl rfl fun r=>ae (U (V c0.retire)) r (fun R=>cr r rfl ti3 ti40) rfl fun fr r=>kB r rfl rfl rfl rfl rfl fun r=>wn ?_)));refine wp_cond_split (t:=(decide (a0≥(V c0.retire)))) (r.ev rfl) (fun h7=>?_) (fun h7=>?_)
 ·
  refine wsr ?_;have hF1:=aA hF hB b4;refine kD r (dP (F:=(kW F w0 w5 b4)) (n:=n) hF1 (-1)) rfl dW rfl fun w8 v9 hb hr10 r=>?_;have Z8:=hb.size
  have H1:=keep hb H1;have H4:=keep hb H4;obtain ⟨hB,zB⟩:=bon hb hB;refine kP r hr10.shape rfl rfl H4 ts61 rfl rfl fun w11 u12 r=>?_;have Z11:=u12.size
  have H1:=u12.keep H1 (by omega)
  have H4:=u12.at_;obtain ⟨hB,zB⟩:=u12.on hB (by omega)
  refine wn (wp_ret ?_);have hd:D.ib c0 c1 c2 a0=(D.cx (-1)):=(ay h7).trans (rfl);have hs:=hr10.shape.cells;refine aH r rfl rfl H4 (k:=7) hs.1 ta61 ?_;rw [←hs.2.2,hd];exact rfin hF hB hr10 u12 (by omega) (by omega) (by omega)
 refine wp_skip (wp_seq ?_);refine bw 9 [.val (.agg (af c0).toArray),.val (I c1),.val (U a0),.val (I (W a0)),.val (I (D.cR c0 c1 (W a0))),.val (I c2),.val (I (W (c2+1))),.val (U (V (W (c2+1)))),.val (.func (.func 327) #[] #[zp c0b,zp c1b,zp b1])] mixed r (by kernel_rfl) (ag (by exact trivial) (ag (by exact trivial) (ag (by exact trivial) (ag (by exact trivial) (ag (by exact trivial) (ag (by exact trivial) (ag (by exact trivial) (ag (by exact trivial) (ag (by exact trivial) bv))))))))) ?_ ?_
 ·
  refine ec r (fun _ u _ b d s=>aU s (cs:=(af c0)) (n:=6) rfl (bo hB b c0h) ta23 rfl bz) (ec r (fun _ u _ b d s=>aB s rfl (bo hB b c1h) to3 rfl bz) (ec r (fun _ u _ b d s=>aB s rfl (keep b H1) to40 rfl bz) (ec r (fun _ u _ b d s=>cr s (n:=a0) d.1 ti40 ti3 bz) (ec r (fun fr1 u w' hb' hd r'=>aP r' (args:=[(.agg (af c0).toArray),(I c1),(I (W a0))]) (lc hd.1 (lc hd.2.1 (lc hd.2.2.1 l0))) mH ((kN _ c0 c1 (W a0)).mono (by rintro _ w2 ⟨rfl,hb2⟩; exact ⟨_,rfl,hb2,rfl⟩))) (ec r (fun _ u _ b d s=>aB s rfl (bo hB b c2h) to3 rfl bz) (ec r (fun _ u _ b d s=>aY s d.1 rfl rfl rfl bz) (ec r (fun _ u _ b d s=>cr s (n:=(W (c2+1))) d.1 ti3 ti40 bz) (ec r (fun _ u _ b d s=>aW s (v:=(.func (.func 327) #[] #[zp c0b,zp c1b,zp b1])) rfl bz) ?_))))))));exact bA
 intro fr u w13 hb hΦ hne r;have r:=r.congr (sc (hΦ 8 (by decide)) (sc (hΦ 7 (by decide)) (sc (hΦ 6 (by decide)) (sc (hΦ 5 (by decide)) (sc (hΦ 4 (by decide)) (sc (hΦ 3 (by decide)) (sc (hΦ 2 (by decide)) (sc (hΦ 1 (by decide)) (sc (hΦ 0 (by decide)) rfl)))))))));have Z13:=hb.size;have H1:=keep hb H1;have H4:=keep hb H4;obtain ⟨hB,zB⟩:=bon hb hB;have hF1:=aA hF hB b4;have f14:((kW F w0 w13 b4)) c0b:=(.inl c0F);have f15:((kW F w0 w13 b4)) c1b:=(.inl c1F);have f16:((kW F w0 w13 b4)) b1:=(.inr ⟨by omega,by omega,by omega⟩)
 refine kD r (fA (F:=(kW F w0 w13 b4)) (n:=n) hF1 (D.cR c0 c1 (W a0)) (V (W (c2+1))) ⟨327,[],[zp c0b,zp c1b,zp b1],BC,rfl,fun m hm _ w' hs hz=>xZ (fun b hb=>Nat.lt_of_lt_of_le (hF1 b hb) hz) c0 f14 (hs.at_ f14 (keep hB c0h)) c1 f15 (hs.at_ f15 (keep hB c1h)) a0 f16 (hs.at_ f16 H1)⟩) rfl fR rfl fun w17 v18 hb hr19 r=>?_;have Z17:=hb.size
 have H1:=keep hb H1;have H4:=keep hb H4;obtain ⟨hB,zB⟩:=bon hb hB;refine kP r hr19.shape rfl rfl H4 ts61 rfl rfl fun w20 u21 r=>?_;have Z20:=u21.size
 have H1:=u21.keep H1 (by omega)
 have H4:=u21.at_;obtain ⟨hB,zB⟩:=u21.on hB (by omega)
 refine wn (wp_ret ?_);have hd:D.ib c0 c1 c2 a0=(D.dl (D.cR c0 c1 (W a0)) (V (W (c2+1))) (fun _=>(D.lu c0 c1 a0))):=(aw h7).trans (rfl)
 have hs:=hr19.shape.cells;refine aH r rfl rfl H4 (k:=7) hs.1 ta61 ?_;rw [←hs.2.2,hd];exact rfin hF hB hr19 u21 (by omega) (by omega) (by omega)
def D.fI (a0:Plan) (a1:Int) (a2:Int):T Int:=(D.cV (D.di a0 a1) (fun x=>(D.ib a0 a1 a2 x)))
theorem rK (hF:kH F w0)
    (a0:Plan) (a1:Int) (a2:Int) :
    Calls Tryz.prog 230 #[.agg (af a0).toArray,.int .i64 a1,.int .i64 a2] w0 (av Tryz.prog ax n (D.fI a0 a1 a2) F w0):=by
 refine enter Tryz.func230 rfl 12 rfl rfl fun fr r=>?_;have hB:=Below.refl w0.heap.size w0
 refine wsr ?_;refine kX 23 (.agg (af a0).toArray) r rfl rfl fun b1 w2 n3 r=>?_;obtain ⟨E1,Z2,H1,hB,zB⟩:=n3.all hB
 refine kX 3 (I a1) r rfl rfl fun b4 w5 n6 r=>?_;have H1:=keep n6.below H1
 obtain ⟨E4,Z5,H4,hB,zB⟩:=n6.all hB;refine kX 3 (I a2) r rfl rfl fun b7 w8 n9 r=>?_;have H1:=keep n9.below H1
 have H4:=keep n9.below H4;obtain ⟨E7,Z8,H7,hB,zB⟩:=n9.all hB;refine ar (.cells (ai false ax.zero 0 0 0 0 .nilFunc) 61 (0,0)) r (fun R=>aq tz61) rfl fun fr b10 w11 n12 r=>?_;have H1:=keep n12.below H1
 have H4:=keep n12.below H4;have H7:=keep n12.below H7;obtain ⟨E10,Z11,H10,hB,zB⟩:=n12.all hB;refine wn (wsr (kG (af a0) 6 r rfl H1 ta23 rfl rfl fun r=>kL (I a1) r rfl H4 to3 rfl rfl fun r=>?_));refine kE r (kV w11 a0 a1) rfl mE rfl fun w13 hb r=>?_
 have Z13:=hb.size;have H1:=keep hb H1;have H4:=keep hb H4;have H7:=keep hb H7;have H10:=keep hb H10;obtain ⟨hB,zB⟩:=bon hb hB;refine ae (.func (.func 326) #[] #[zp b1,zp b4,zp b7]) r (fun R=>aW r rfl) rfl fun fr r=>?_;have hF1:=aA hF hB b10
 have f14:((kW F w0 w13 b10)) b1:=(.inr ⟨by omega,by omega,by omega⟩)
 have f15:((kW F w0 w13 b10)) b4:=(.inr ⟨by omega,by omega,by omega⟩)
 have f16:((kW F w0 w13 b10)) b7:=(.inr ⟨by omega,by omega,by omega⟩)
 refine kD r (eO (F:=(kW F w0 w13 b10)) (n:=n) hF1 (D.di a0 a1) ⟨326,[],[zp b1,zp b4,zp b7],CA,rfl,fun m hm x w' hs hz=>yA (fun b hb=>Nat.lt_of_lt_of_le (hF1 b hb) hz) a0 f14 (hs.at_ f14 H1) a1 f15 (hs.at_ f15 H4) a2 f16 (hs.at_ f16 H7) x⟩) rfl fe rfl fun w17 v18 hb hr19 r=>?_;have Z17:=hb.size
 have H1:=keep hb H1;have H4:=keep hb H4;have H7:=keep hb H7;have H10:=keep hb H10;obtain ⟨hB,zB⟩:=bon hb hB;refine kP r hr19.shape rfl rfl H10 ts61 rfl rfl fun w20 u21 r=>?_;have Z20:=u21.size
 have H1:=u21.keep H1 (by omega)
 have H4:=u21.keep H4 (by omega)
 have H7:=u21.keep H7 (by omega)
 have H10:=u21.at_;obtain ⟨hB,zB⟩:=u21.on hB (by omega)
 exact wn (wp_ret (kR r hr19 rfl rfl H10 rfl ta61 hF hB u21 (by omega) (by omega) (by omega)))
end
end Go.Proofs.YtfpgnmhcfkikkaaGreat

/- Ours. -/
import Derived.Test.YtfpgnmhcfkikkaaGreatQdLoads
import Derived.Test.YtfpgnmhcfkikkaaGreatQdM7
set_option linter.all false
set_option maxRecDepth 20000
set_option maxHeartbeats 2000000
namespace Go.Proofs.YtfpgnmhcfkikkaaGreat
open Go.RowKit
section
variable {n : Nat} {F : Nat → Prop} {j : Nat} {w0 : World}
theorem pN:ak Tryz.prog 113:=by kernel_rfl
theorem fe:ak Tryz.prog 127:=by kernel_rfl
theorem fR:ak Tryz.prog 129:=by kernel_rfl
theorem qk:ak Tryz.prog 133:=by kernel_rfl
theorem km:ak Tryz.prog 134:=by kernel_rfl
theorem jT:ak Tryz.prog 135:=by kernel_rfl
theorem mB:ak Tryz.prog 136:=by kernel_rfl
theorem uL:ak Tryz.prog 204:=by kernel_rfl
theorem Dm:ak Tryz.prog 212:=by kernel_rfl
theorem dW:ak Tryz.prog 213:=by kernel_rfl
theorem BX:ak Tryz.prog 214:=by kernel_rfl
theorem vC:ak Tryz.prog 215:=by kernel_rfl
theorem vD:ak Tryz.prog 216:=by kernel_rfl
theorem CZ:ak Tryz.prog 217:=by kernel_rfl
theorem mP:ak Tryz.prog 225:=by kernel_rfl
theorem uW:ak Tryz.prog 313:=by kernel_rfl
theorem pW:ak Tryz.prog 314:=by kernel_rfl
theorem BN:ak Tryz.prog 316:=by kernel_rfl
theorem uA:ak Tryz.prog 319:=by kernel_rfl
theorem ur:ak Tryz.prog 362:=by kernel_rfl
theorem BI:ak Tryz.prog 402:=by kernel_rfl
theorem Cr:ak Tryz.prog 403:=by kernel_rfl
theorem CT:ak Tryz.prog 404:=by kernel_rfl
theorem ti3:intTy Tryz.prog 3 .i64:=by kernel_rfl
theorem ti40:intTy Tryz.prog 40 .u64:=by kernel_rfl
theorem iR:sized Tryz.prog 217 2:=by kernel_rfl
theorem iQ:zeroOf Tryz.prog 217=some (.agg (aC (⟨0,0⟩:Field)).toArray):=by kernel_rfl
theorem tz3:zeroOf Tryz.prog 3=some (.int .i64 0):=by kernel_rfl
def D.cO (a0:Int):Int:=(IntKind.u64.wrap (IntKind.i64.wrap (a0+1)))
theorem oo (w0:World) 
    (a0:Int) :
    Calls Tryz.prog 314 #[.int .i64 a0] w0 (bi (.int .u64 (D.cO a0)) w0):=by
 refine enter Tryz.func314 rfl 6 rfl rfl fun fr r=>?_;have hB:=Below.refl w0.heap.size w0
 refine wsr (kA (U 0) r rfl rfl fun r=>wn (wsr (kM (I a0) r rfl rfl fun r=>kB r rfl rfl rfl rfl rfl fun r=>ae (U (V (W (a0+1)))) r (fun R=>cr r rfl ti3 ti40) rfl fun fr r=>kA (U (V (W (a0+1)))) r rfl rfl fun r=>wn (wp_ret ?_))));refine aQ r rfl rfl ?_
 exact ⟨rfl,hB⟩
def D.o8 (r_free_fresh:Plan→Int→T Unit) (c0:Plan) (c1:Int):T Unit:=(r_free_fresh c0 (IntKind.i64.wrap (c1+1)))
def D.fB (r_free_fresh:Plan→Int→T Unit) (a0:Plan) (a1:Int):T Unit:=(bif (a1==a0.nodes) then (D.jA (D.cT a0) (D.cO 0)) else (let x19:Int:=(bif ((IntKind.i64.wrap (a1+1))==a0.nodes) then 0 else (D.cO (IntKind.i64.wrap (a1+1)))); (D.lj (D.da a0 a1) x19 (fun _=>(D.o8 r_free_fresh a0 a1)))))
def D.eT:Nat→Plan→Int→T Unit
  | 0,_,_=>.cut
  | k+1,a0,a1=>D.fB (D.eT k) a0 a1
def nP (r:Plan→Int→T Unit) (n:Nat):Prop:=∀ (F:Nat→Prop) (w0:World),(∀ b,F b→b<w0.heap.size)→∀ (a0:Plan) (a1:Int),Calls Tryz.prog 204 #[.agg (af a0).toArray,.int .i64 a1] w0 (av Tryz.prog aO n (r a0 a1) F w0)
theorem yq {r_free_fresh:Plan→Int→T Unit} (hF:kH F w0) (ih_free_fresh:∀ m,m≤n→nP r_free_fresh m)
    (c0:Plan) {c0b:Nat} (c0F:F c0b) (c0h:w0.heap[c0b]?=some (.cells ((af c0)).toArray 23 (0,0))) (c1:Int) {c1b:Nat} (c1F:F c1b) (c1h:w0.heap[c1b]?=some (.cells ([(.int .i64 c1)]).toArray 3 (0,0))) :
    Calls Tryz.prog 316 #[zp c0b,zp c1b] w0 (av Tryz.prog aO n (D.o8 r_free_fresh c0 c1) F w0):=by
 refine enter Tryz.func316 rfl 7 rfl rfl fun fr r=>?_;have hB:=Below.refl w0.heap.size w0
 have lc0b:=lt_of_block c0h;have lc1b:=lt_of_block c1h;refine wsr ?_;refine ar (.cells (ai false aO.zero 0 0 0 0 .nilFunc) 195 (0,0)) r (fun R=>aq dN) rfl fun fr b1 w2 n3 r=>?_;obtain ⟨E1,Z2,H1,hB,zB⟩:=n3.all hB
 refine wn (wsr (kG (af c0) 6 r rfl (keep hB c0h) ta23 rfl rfl fun r=>kL (I c1) r rfl (keep hB c1h) to3 rfl rfl fun r=>kB r rfl rfl rfl rfl rfl fun r=>?_));have hF1:=aA hF hB b1
 refine kD r ((ih_free_fresh n (by omega)) (kW F w0 w2 b1) _ hF1 c0 (W (c1+1))) rfl uL rfl fun w4 v5 hb hr6 r=>?_;have Z4:=hb.size
 have H1:=keep hb H1;obtain ⟨hB,zB⟩:=bon hb hB;refine kP r hr6.shape rfl rfl H1 db rfl rfl fun w7 u8 r=>?_;have Z7:=u8.size
 have H1:=u8.at_;obtain ⟨hB,zB⟩:=u8.on hB (by omega)
 exact wn (wp_ret (kR r hr6 rfl rfl H1 rfl cQ hF hB u8 (by omega) (by omega) (by omega)))
theorem yS {n:Nat} {F:Nat→Prop} {r_free_fresh:Plan→Int→T Unit} {w0:World} (hF:∀ b,F b→b<w0.heap.size) (ih_free_fresh:∀ m,m<n→nP r_free_fresh m)
    (a0:Plan) (a1:Int) :
    Calls Tryz.prog 204 #[.agg (af a0).toArray,.int .i64 a1] w0 (av Tryz.prog aO n (D.fB r_free_fresh a0 a1) F w0):=by
 refine enter Tryz.func204 rfl 28 rfl rfl fun fr r=>?_;have hB:=Below.refl w0.heap.size w0
 refine wsr ?_;refine kX 23 (.agg (af a0).toArray) r rfl rfl fun b1 w2 n3 r=>?_;obtain ⟨E1,Z2,H1,hB,zB⟩:=n3.all hB
 refine kX 3 (I a1) r rfl rfl fun b4 w5 n6 r=>?_;have H1:=keep n6.below H1
 obtain ⟨E4,Z5,H4,hB,zB⟩:=n6.all hB;refine ar (.cells (ai false aO.zero 0 0 0 0 .nilFunc) 195 (0,0)) r (fun R=>aq dN) rfl fun fr b7 w8 n9 r=>?_;have H1:=keep n9.below H1
 have H4:=keep n9.below H4;obtain ⟨E7,Z8,H7,hB,zB⟩:=n9.all hB;refine wn (wp_seq (wsr (kL (I a1) r rfl H4 to3 rfl rfl fun r=>kF 0 r rfl dL rfl fun r=>kL (I a0.nodes) r rfl H1 to3 rfl rfl fun r=>kB r rfl rfl rfl rfl rfl fun r=>wn ?_)));refine wp_cond_split (t:=(a1==a0.nodes)) (r.ev rfl) (fun h10=>?_) (fun h10=>?_)
 ·
  refine wsr (kG (af a0) 6 r rfl H1 ta23 rfl rfl fun r=>?_);refine kE r (jb w8 a0) rfl jT rfl fun w11 hb r=>?_
  have Z11:=hb.size;have H1:=keep hb H1;have H4:=keep hb H4;have H7:=keep hb H7;obtain ⟨hB,zB⟩:=bon hb hB;refine kE r (oo w11 0) rfl pW rfl fun w12 hb r=>?_;have Z12:=hb.size
  have H1:=keep hb H1;have H4:=keep hb H4;have H7:=keep hb H7;obtain ⟨hB,zB⟩:=bon hb hB;have hF1:=aA hF hB b7;refine kD r (sx (F:=(kW F w0 w12 b7)) (n:=n) hF1 (D.cT a0) (D.cO 0)) rfl uW rfl fun w13 v14 hb hr15 r=>?_;have Z13:=hb.size
  have H1:=keep hb H1;have H4:=keep hb H4;have H7:=keep hb H7;obtain ⟨hB,zB⟩:=bon hb hB;refine kP r hr15.shape rfl rfl H7 db rfl rfl fun w16 u17 r=>?_;have Z16:=u17.size
  have H1:=u17.keep H1 (by omega)
  have H4:=u17.keep H4 (by omega)
  have H7:=u17.at_;obtain ⟨hB,zB⟩:=u17.on hB (by omega)
  refine wn (wp_ret ?_);have hd:D.fB r_free_fresh a0 a1=(D.jA (D.cT a0) (D.cO 0)):=(ay h10).trans (rfl);have hs:=hr15.shape.cells;refine aH r rfl rfl H7 (k:=6) hs.1 cQ ?_;rw [←hs.2.2,hd];exact rfin hF hB hr15 u17 (by omega) (by omega) (by omega)
 refine wp_skip (wsr (kL (I a1) r rfl H4 to3 rfl rfl fun r=>kB r rfl rfl rfl rfl rfl fun r=>?_));refine kE r (oo w8 (W (a1+1))) rfl pW rfl fun w18 hb r=>?_
 have Z18:=hb.size;have H1:=keep hb H1;have H4:=keep hb H4;have H7:=keep hb H7;obtain ⟨hB,zB⟩:=bon hb hB;refine kA (U (D.cO (W (a1+1)))) r rfl rfl fun r=>wn (wp_seq (wsr (kL (I a1) r rfl H4 to3 rfl rfl fun r=>kB r rfl rfl rfl rfl rfl fun r=>kF 0 r rfl dL rfl fun r=>kL (I a0.nodes) r rfl H1 to3 rfl rfl fun r=>kB r rfl rfl rfl rfl rfl fun r=>wn ?_)));obtain ⟨x19,hx19⟩:∃ x:Int,x=(bif ((W (a1+1))==a0.nodes) then 0 else (D.cO (W (a1+1)))):=⟨_,rfl⟩
 refine AA (N:=28) [(0,(.agg (af a0).toArray)),(1,(I a1)),(2,(zp b1)),(3,(zp b4)),(4,(zp b7)),(5,(U x19))] (fun w=>Below w0.heap.size w0 w∧w18.heap.size≤w.heap.size∧w.heap[b1]?=some (.cells ((af a0)).toArray 23 (0,0))∧w.heap[b4]?=some (.cells #[(I a1)] 3 (0,0))∧w.heap[b7]?=some (.cells (ai false aO.zero 0 0 0 0 .nilFunc) 195 (0,0))) ?_ ?_
 ·
  refine wp_cond_split (t:=((W (a1+1))==a0.nodes)) (r.ev rfl) (fun h20=>?_) (fun h20=>?_)
  ·
   refine wp_region_lit (kA (U 0) r rfl rfl fun r=>wn ?_);exact ⟨rfl,_,r,(aa rfl (aa rfl (aa rfl (aa rfl (aa rfl (aa (by rw [hx19,ay h20]; rfl) aN)))))),hB,(by omega),H1,H4,H7⟩
  refine wp_skip ?_;exact ⟨rfl,_,r,(aa rfl (aa rfl (aa rfl (aa rfl (aa rfl (aa (by rw [hx19,aw h20]; rfl) aN)))))),hB,(by omega),H1,H4,H7⟩
 rintro fr w21 g r ⟨hB,Z21,H1,H4,H7⟩;have zB:=hB.size;refine wsr (kG (af a0) 6 r rfl H1 ta23 rfl rfl fun r=>kL (I a1) r rfl H4 to3 rfl rfl fun r=>?_);refine kE r (l9 w21 a0 a1) rfl mB rfl fun w22 hb r=>?_
 have Z22:=hb.size;have H1:=keep hb H1;have H4:=keep hb H4;have H7:=keep hb H7;obtain ⟨hB,zB⟩:=bon hb hB;refine kM (U x19) r rfl rfl fun r=>ae (.func (.func 316) #[] #[zp b1,zp b4]) r (fun R=>aW r rfl) rfl fun fr r=>?_;have hF1:=aA hF hB b7
 have f23:((kW F w0 w22 b7)) b1:=(.inr ⟨by omega,by omega,by omega⟩)
 have f24:((kW F w0 w22 b7)) b4:=(.inr ⟨by omega,by omega,by omega⟩)
 refine kD r (qV (F:=(kW F w0 w22 b7)) (n:=n) hF1 (D.da a0 a1) x19 ⟨316,[],[zp b1,zp b4],BN,rfl,fun m hm _ w' hs hz=>yq (fun b hb=>Nat.lt_of_lt_of_le (hF1 b hb) hz) (fun m' hm'=>ih_free_fresh m' (by omega)) a0 f23 (hs.at_ f23 H1) a1 f24 (hs.at_ f24 H4)⟩) rfl uI rfl fun w25 v26 hb hr27 r=>?_;have Z25:=hb.size
 have H1:=keep hb H1;have H4:=keep hb H4;have H7:=keep hb H7;obtain ⟨hB,zB⟩:=bon hb hB;refine kP r hr27.shape rfl rfl H7 db rfl rfl fun w28 u29 r=>?_;have Z28:=u29.size
 have H1:=u29.keep H1 (by omega)
 have H4:=u29.keep H4 (by omega)
 have H7:=u29.at_;obtain ⟨hB,zB⟩:=u29.on hB (by omega)
 refine wn (wp_ret ?_);have hd:D.fB r_free_fresh a0 a1=(D.lj (D.da a0 a1) x19 (fun _=>(D.o8 r_free_fresh a0 a1))):=by subst hx19; exact (aw h10).trans (rfl)
 have hs:=hr27.shape.cells;refine aH r rfl rfl H7 (k:=6) hs.1 cQ ?_;rw [←hs.2.2,hd];exact rfin hF hB hr27 u29 (by omega) (by omega) (by omega)
theorem yY {n:Nat} {k:Nat} (hk:n<k):nP (D.eT k) n:=by
  induction n using Nat.strongRecOn generalizing k with
  | _ n ih=>
    obtain ⟨k,rfl⟩:∃ q,k=q+1:=⟨k - 1,by omega⟩
    intro F w0 hF;have h:=@yS n F (D.eT k) w0 hF (fun m hm=>ih m hm (by omega))
    exact h
def D.gA (j:Nat) (a0:Plan):T Unit:=(D.eT j a0 0)
theorem yU (hF:kH F w0) (hj:n<j)
    (a0:Plan) :
    Calls Tryz.prog 107 #[.agg (af a0).toArray] w0 (av Tryz.prog aO n (D.gA j a0) F w0):=by
 refine enter Tryz.func107 rfl 5 rfl rfl fun fr r=>?_;have hB:=Below.refl w0.heap.size w0
 refine wsr ?_;refine kX 23 (.agg (af a0).toArray) r rfl rfl fun b1 w2 n3 r=>?_;obtain ⟨E1,Z2,H1,hB,zB⟩:=n3.all hB
 refine ar (.cells (ai false aO.zero 0 0 0 0 .nilFunc) 195 (0,0)) r (fun R=>aq dN) rfl fun fr b4 w5 n6 r=>?_;have H1:=keep n6.below H1
 obtain ⟨E4,Z5,H4,hB,zB⟩:=n6.all hB;refine wn (wsr (kG (af a0) 6 r rfl H1 ta23 rfl rfl fun r=>?_));have hF1:=aA hF hB b4
 refine kD r ((yY (k:=j) (n:=n) (by omega)) (kW F w0 w5 b4) _ hF1 a0 0) rfl uL rfl fun w7 v8 hb hr9 r=>?_;have Z7:=hb.size
 have H1:=keep hb H1;have H4:=keep hb H4;obtain ⟨hB,zB⟩:=bon hb hB;refine kP r hr9.shape rfl rfl H4 db rfl rfl fun w10 u11 r=>?_;have Z10:=u11.size
 have H1:=u11.keep H1 (by omega)
 have H4:=u11.at_;obtain ⟨hB,zB⟩:=u11.on hB (by omega)
 exact wn (wp_ret (kR r hr9 rfl rfl H4 rfl cQ hF hB u11 (by omega) (by omega) (by omega)))
def D.bO :Field:=(⟨0,21⟩:Field)
theorem ou (w0:World) 
     :
    Calls Tryz.prog 133 #[] w0 (bi (.agg (aC D.bO).toArray) w0):=by
 refine enter Tryz.func133 rfl 2 rfl rfl fun fr r=>?_;have hB:=Below.refl w0.heap.size w0
 refine wsr ?_;refine ar (.cells ((aC (⟨0,0⟩:Field))).toArray 217 (0,0)) r (fun R=>aq iQ) rfl fun fr b1 w2 n3 r=>?_;obtain ⟨E1,Z2,H1,hB,zB⟩:=n3.all hB
 refine wn (wsr (kU (.agg (aC (⟨0,21⟩:Field)).toArray) r (by kernel_rfl) rfl fun r=>?_));refine aM (.cells ((aC (⟨0,21⟩:Field))).toArray 217 (0,0)) r (fun R=>aX r (o:=0) (v:=(.agg (aC (⟨0,21⟩:Field)).toArray)) rfl rfl H1 iR (Nat.le_of_ble_eq_true rfl) rfl rfl) rfl fun fr w4 u5 r=>?_
 have Z4:=u5.size;have H1:=u5.at_;obtain ⟨hB,zB⟩:=u5.on hB (by omega)
 refine wn (wp_ret ?_);refine aH r rfl rfl H1 (k:=2) rfl cI ?_;exact ⟨rfl,hB⟩
def D.dz :Field:=(⟨21,43⟩:Field)
theorem rU (w0:World) 
     :
    Calls Tryz.prog 319 #[] w0 (bi (.agg (aC D.dz).toArray) w0):=by
 refine enter Tryz.func319 rfl 2 rfl rfl fun fr r=>?_;have hB:=Below.refl w0.heap.size w0
 refine wsr ?_;refine ar (.cells ((aC (⟨0,0⟩:Field))).toArray 217 (0,0)) r (fun R=>aq iQ) rfl fun fr b1 w2 n3 r=>?_;obtain ⟨E1,Z2,H1,hB,zB⟩:=n3.all hB
 refine wn (wsr (kU (.agg (aC (⟨21,43⟩:Field)).toArray) r (by kernel_rfl) rfl fun r=>?_));refine aM (.cells ((aC (⟨21,43⟩:Field))).toArray 217 (0,0)) r (fun R=>aX r (o:=0) (v:=(.agg (aC (⟨21,43⟩:Field)).toArray)) rfl rfl H1 iR (Nat.le_of_ble_eq_true rfl) rfl rfl) rfl fun fr w4 u5 r=>?_
 have Z4:=u5.size;have H1:=u5.at_;obtain ⟨hB,zB⟩:=u5.on hB (by omega)
 refine wn (wp_ret ?_);refine aH r rfl rfl H1 (k:=2) rfl cI ?_;exact ⟨rfl,hB⟩
def D.eS (a0:Int) (a1:Int):Int:=(D.co D.dz (D.co D.bO 0 a1) (IntKind.u64.wrap ((D.bu D.dz a0)+1)))
theorem rF (w0:World) 
    (a0:Int) (a1:Int) :
    Calls Tryz.prog 216 #[.int .u64 a0,.int .u64 a1] w0 (bi (.int .u64 (D.eS a0 a1)) w0):=by
 refine enter Tryz.func216 rfl 14 rfl rfl fun fr r=>?_;have hB:=Below.refl w0.heap.size w0
 refine wsr (kA (U 0) r rfl rfl fun r=>wn (wsr ?_));refine kE r (rU w0 ) rfl uA rfl fun w1 hb r=>?_
 have Z1:=hb.size;obtain ⟨hB,zB⟩:=bon hb hB;refine kE r (ou w1 ) rfl qk rfl fun w2 hb r=>?_;have Z2:=hb.size
 obtain ⟨hB,zB⟩:=bon hb hB;refine kM (U a1) r rfl rfl fun r=>?_;refine kE r (nD w2 D.bO 0 a1) rfl mP rfl fun w3 hb r=>?_
 have Z3:=hb.size;obtain ⟨hB,zB⟩:=bon hb hB;refine kE r (rU w3 ) rfl uA rfl fun w4 hb r=>?_;have Z4:=hb.size
 obtain ⟨hB,zB⟩:=bon hb hB;refine kM (U a0) r rfl rfl fun r=>?_;refine kE r (l4 w4 D.dz a0) rfl km rfl fun w5 hb r=>?_
 have Z5:=hb.size;obtain ⟨hB,zB⟩:=bon hb hB;refine kB r rfl rfl rfl rfl rfl fun r=>?_;refine kE r (nD w5 D.dz (D.co D.bO 0 a1) (V ((D.bu D.dz a0)+1))) rfl mP rfl fun w6 hb r=>?_
 have Z6:=hb.size;obtain ⟨hB,zB⟩:=bon hb hB;refine kA (U (D.co D.dz (D.co D.bO 0 a1) (V ((D.bu D.dz a0)+1)))) r rfl rfl fun r=>wn (wp_ret ?_);refine aQ r rfl rfl ?_
 exact ⟨rfl,hB⟩
def D.hU (r_free_Pop:Plan→T Int) (c0:Plan) (c1:Int) (a0:Bool):T Int:=(bif (!a0) then (r_free_Pop c0) else (D.cx c1))
def D.jn (r_free_Pop:Plan→T Int) (c0:Plan) (c1:Int) (c2:Int) (a0:Int):T Int:=(D.o5 (D.cT c0) c1 (D.eS c1 a0) (fun x=>(D.hU r_free_Pop c0 c2 x)))
def D.fH (r_free_Pop:Plan→T Int) (c0:Plan) (a0:Int):T Int:=(bif (decide ((IntKind.i64.wrap ((IntKind.i64.wrap (D.bu D.bO a0)) - 1))<0)) then (D.cx (-1)) else (D.cV (D.da c0 (IntKind.i64.wrap ((IntKind.i64.wrap (D.bu D.bO a0)) - 1))) (fun x=>(D.jn r_free_Pop c0 a0 (IntKind.i64.wrap ((IntKind.i64.wrap (D.bu D.bO a0)) - 1)) x))))
def D.i9 (r_free_Pop:Plan→T Int) (a0:Plan):T Int:=(D.cV (D.cT a0) (fun x=>(D.fH r_free_Pop a0 x)))
def D.cF:Nat→Plan→T Int
  | 0,_=>.cut
  | k+1,a0=>D.i9 (D.cF k) a0
def jl (r:Plan→T Int) (n:Nat):Prop:=∀ (F:Nat→Prop) (w0:World),(∀ b,F b→b<w0.heap.size)→∀ (a0:Plan),Calls Tryz.prog 113 #[.agg (af a0).toArray] w0 (av Tryz.prog ax n (r a0) F w0)
theorem xP {r_free_Pop:Plan→T Int} (hF:kH F w0) (ih_free_Pop:∀ m,m≤n→jl r_free_Pop m)
    (c0:Plan) {c0b:Nat} (c0F:F c0b) (c0h:w0.heap[c0b]?=some (.cells ((af c0)).toArray 23 (0,0))) (c1:Int) {c1b:Nat} (c1F:F c1b) (c1h:w0.heap[c1b]?=some (.cells ([(.int .i64 c1)]).toArray 3 (0,0))) (a0:Bool) :
    Calls Tryz.prog 217 #[.bool a0,zp c0b,zp c1b] w0 (av Tryz.prog ax n (D.hU r_free_Pop c0 c1 a0) F w0):=by
 refine enter Tryz.func217 rfl 11 rfl rfl fun fr r=>?_;have hB:=Below.refl w0.heap.size w0
 have lc0b:=lt_of_block c0h;have lc1b:=lt_of_block c1h;refine wsr ?_;refine ar (.cells (ai false ax.zero 0 0 0 0 .nilFunc) 61 (0,0)) r (fun R=>aq tz61) rfl fun fr b1 w2 n3 r=>?_;obtain ⟨E1,Z2,H1,hB,zB⟩:=n3.all hB
 refine wn (wp_seq (wsr (kM (.bool a0) r rfl rfl fun r=>ae (.bool (!a0)) r (fun R=>y_un r (u:=(.bool a0)) rfl rfl) rfl fun fr r=>wn ?_)));refine wp_cond_split (t:=(!a0)) (r.ev rfl) (fun h4=>?_) (fun h4=>?_)
 ·
  refine wsr (kG (af c0) 6 r rfl (keep hB c0h) ta23 rfl rfl fun r=>?_);have hF1:=aA hF hB b1
  refine kD r ((ih_free_Pop n (by omega)) (kW F w0 w2 b1) _ hF1 c0) rfl pN rfl fun w5 v6 hb hr7 r=>?_;have Z5:=hb.size
  have H1:=keep hb H1;obtain ⟨hB,zB⟩:=bon hb hB;refine kP r hr7.shape rfl rfl H1 ts61 rfl rfl fun w8 u9 r=>?_;have Z8:=u9.size
  have H1:=u9.at_;obtain ⟨hB,zB⟩:=u9.on hB (by omega)
  refine wn (wp_ret ?_);have hd:D.hU r_free_Pop c0 c1 a0=(r_free_Pop c0):=(ay h4).trans (rfl);have hs:=hr7.shape.cells;refine aH r rfl rfl H1 (k:=7) hs.1 ta61 ?_;rw [←hs.2.2,hd];exact rfin hF hB hr7 u9 (by omega) (by omega) (by omega)
 refine wp_skip (wsr (kL (I c1) r rfl (keep hB c1h) to3 rfl rfl fun r=>?_));have hF1:=aA hF hB b1
 refine kD r (dP (F:=(kW F w0 w2 b1)) (n:=n) hF1 c1) rfl dW rfl fun w10 v11 hb hr12 r=>?_;have Z10:=hb.size
 have H1:=keep hb H1;obtain ⟨hB,zB⟩:=bon hb hB;refine kP r hr12.shape rfl rfl H1 ts61 rfl rfl fun w13 u14 r=>?_;have Z13:=u14.size
 have H1:=u14.at_;obtain ⟨hB,zB⟩:=u14.on hB (by omega)
 refine wn (wp_ret ?_);have hd:D.hU r_free_Pop c0 c1 a0=(D.cx c1):=(aw h4).trans (rfl);have hs:=hr12.shape.cells;refine aH r rfl rfl H1 (k:=7) hs.1 ta61 ?_;rw [←hs.2.2,hd];exact rfin hF hB hr12 u14 (by omega) (by omega) (by omega)
theorem yt {r_free_Pop:Plan→T Int} (hF:kH F w0) (ih_free_Pop:∀ m,m<n→jl r_free_Pop m)
    (c0:Plan) {c0b:Nat} (c0F:F c0b) (c0h:w0.heap[c0b]?=some (.cells ((af c0)).toArray 23 (0,0))) (c1:Int) {c1b:Nat} (c1F:F c1b) (c1h:w0.heap[c1b]?=some (.cells ([(.int .u64 c1)]).toArray 40 (0,0))) (c2:Int) {c2b:Nat} (c2F:F c2b) (c2h:w0.heap[c2b]?=some (.cells ([(.int .i64 c2)]).toArray 3 (0,0))) (a0:Int) :
    Calls Tryz.prog 214 #[.int .u64 a0,zp c0b,zp c1b,zp c2b] w0 (av Tryz.prog ax n (D.jn r_free_Pop c0 c1 c2 a0) F w0):=by
 refine enter Tryz.func214 rfl 14 rfl rfl fun fr r=>?_;have hB:=Below.refl w0.heap.size w0
 have lc0b:=lt_of_block c0h;have lc1b:=lt_of_block c1h;have lc2b:=lt_of_block c2h;refine wsr ?_;refine ar (.cells (ai false ax.zero 0 0 0 0 .nilFunc) 61 (0,0)) r (fun R=>aq tz61) rfl fun fr b1 w2 n3 r=>?_;obtain ⟨E1,Z2,H1,hB,zB⟩:=n3.all hB
 refine wn (wp_seq ?_);refine bw 7 [.val (.agg (af c0).toArray),.val (I (D.cT c0)),.val (U c1),.val (U c1),.val (U a0),.val (U (D.eS c1 a0)),.val (.func (.func 217) #[] #[zp c0b,zp c2b])] mixed r (by kernel_rfl) (ag (by exact trivial) (ag (by exact trivial) (ag (by exact trivial) (ag (by exact trivial) (ag (by exact trivial) (ag (by exact trivial) (ag (by exact trivial) bv))))))) ?_ ?_
 ·
  refine ec r (fun _ u _ b d s=>aU s (cs:=(af c0)) (n:=6) rfl (bo hB b c0h) ta23 rfl bz) (ec r (fun fr1 u w' hb' hd r'=>aP r' (args:=[(.agg (af c0).toArray)]) (lc hd.1 l0) jT ((jb _ c0).mono (by rintro _ w2 ⟨rfl,hb2⟩; exact ⟨_,rfl,hb2,rfl⟩))) (ec r (fun _ u _ b d s=>aB s rfl (bo hB b c1h) to40 rfl bz) (ec r (fun _ u _ b d s=>aB s rfl (bo hB b c1h) to40 rfl bz) (ec r (fun _ u _ b d s=>aD s rfl bz) (ec r (fun fr1 u w' hb' hd r'=>aP r' (args:=[(U c1),(U a0)]) (lc hd.1 (lc hd.2.1 l0)) vD ((rF _ c1 a0).mono (by rintro _ w2 ⟨rfl,hb2⟩; exact ⟨_,rfl,hb2,rfl⟩))) (ec r (fun _ u _ b d s=>aW s (v:=(.func (.func 217) #[] #[zp c0b,zp c2b])) rfl bz) ?_))))));exact bA
 intro fr u w4 hb hΦ hne r;have r:=r.congr (sc (hΦ 6 (by decide)) (sc (hΦ 5 (by decide)) (sc (hΦ 4 (by decide)) (sc (hΦ 3 (by decide)) (sc (hΦ 2 (by decide)) (sc (hΦ 1 (by decide)) (sc (hΦ 0 (by decide)) rfl)))))));have Z4:=hb.size;have H1:=keep hb H1;obtain ⟨hB,zB⟩:=bon hb hB;have hF1:=aA hF hB b1;have f5:((kW F w0 w4 b1)) c0b:=(.inl c0F);have f6:((kW F w0 w4 b1)) c2b:=(.inl c2F);refine kD r (rl (F:=(kW F w0 w4 b1)) (n:=n) hF1 (D.cT c0) c1 (D.eS c1 a0) ⟨217,[],[zp c0b,zp c2b],CZ,rfl,fun m hm x w' hs hz=>xP (fun b hb=>Nat.lt_of_lt_of_le (hF1 b hb) hz) (fun m' hm'=>ih_free_Pop m' (by omega)) c0 f5 (hs.at_ f5 (keep hB c0h)) c2 f6 (hs.at_ f6 (keep hB c2h)) x⟩) rfl vC rfl fun w7 v8 hb hr9 r=>?_;have Z7:=hb.size
 have H1:=keep hb H1;obtain ⟨hB,zB⟩:=bon hb hB;refine kP r hr9.shape rfl rfl H1 ts61 rfl rfl fun w10 u11 r=>?_;have Z10:=u11.size
 have H1:=u11.at_;obtain ⟨hB,zB⟩:=u11.on hB (by omega)
 exact wn (wp_ret (kR r hr9 rfl rfl H1 rfl ta61 hF hB u11 (by omega) (by omega) (by omega)))
theorem yZ {r_free_Pop:Plan→T Int} (hF:kH F w0) (ih_free_Pop:∀ m,m<n→jl r_free_Pop m)
    (c0:Plan) {c0b:Nat} (c0F:F c0b) (c0h:w0.heap[c0b]?=some (.cells ((af c0)).toArray 23 (0,0))) (a0:Int) :
    Calls Tryz.prog 212 #[.int .u64 a0,zp c0b] w0 (av Tryz.prog ax n (D.fH r_free_Pop c0 a0) F w0):=by
 refine enter Tryz.func212 rfl 18 rfl rfl fun fr r=>?_;have hB:=Below.refl w0.heap.size w0
 have lc0b:=lt_of_block c0h;refine wsr ?_;refine kX 40 (U a0) r rfl rfl fun b1 w2 n3 r=>?_;obtain ⟨E1,Z2,H1,hB,zB⟩:=n3.all hB
 refine ar (.cells (ai false ax.zero 0 0 0 0 .nilFunc) 61 (0,0)) r (fun R=>aq tz61) rfl fun fr b4 w5 n6 r=>?_;have H1:=keep n6.below H1
 obtain ⟨E4,Z5,H4,hB,zB⟩:=n6.all hB;refine wn (wp_seq ?_);refine bw 6 [.val (.agg (aC D.bO).toArray),.val (U a0),.val (U (D.bu D.bO a0)),.val (I (W (D.bu D.bO a0))),.val (I (W ((W (D.bu D.bO a0)) - 1))),.new w5.heap.size (.cells #[(I 0)] 3 (0,0))] mixed r (by kernel_rfl) (ag (by exact trivial) (ag (by exact trivial) (ag (by exact trivial) (ag (by exact trivial) (ag (by exact trivial) (ag (Nat.le_refl _) bv)))))) ?_ ?_
 ·
  refine ec r (fun fr1 u w' hb' hd r'=>aP r' (args:=[]) (l0) qk ((ou _ ).mono (by rintro _ w2 ⟨rfl,hb2⟩; exact ⟨_,rfl,hb2,rfl⟩))) (ec r (fun _ u _ b d s=>aB s rfl (keep b H1) to40 rfl bz) (ec r (fun fr1 u w' hb' hd r'=>aP r' (args:=[(.agg (aC D.bO).toArray),(U a0)]) (lc hd.1 (lc hd.2.1 l0)) km ((l4 _ D.bO a0).mono (by rintro _ w2 ⟨rfl,hb2⟩; exact ⟨_,rfl,hb2,rfl⟩))) (ec r (fun _ u _ b d s=>cr s (n:=(D.bu D.bO a0)) d.1 ti40 ti3 bz) (ec r (fun _ u _ b d s=>aY s d.1 rfl rfl rfl bz) (ec r (fun fr1 u w' hb' hd r'=>aq tz3 (fun b w2 n2=>⟨n2.below,b,rfl,Nat.le_of_eq n2.eq.symm,n2.at_⟩)) ?_)))));exact bA
 intro fr u w7 hb hΦ hne r;obtain ⟨b8,g5,E8,H8⟩:=hΦ 5 (by decide);have l_b8:=lt_of_block H8;have r:=r.congr (sc g5 (sc (hΦ 4 (by decide)) (sc (hΦ 3 (by decide)) (sc (hΦ 2 (by decide)) (sc (hΦ 1 (by decide)) (sc (hΦ 0 (by decide)) rfl))))));have Z7:=hb.size;have H1:=keep hb H1;have H4:=keep hb H4;obtain ⟨hB,zB⟩:=bon hb hB;refine aM (.cells #[(I (W ((W (D.bu D.bO a0)) - 1)))] 3 (0,0)) r (fun R=>aX r (o:=0) (v:=(I (W ((W (D.bu D.bO a0)) - 1)))) rfl rfl H8 ts3 (Nat.le_of_ble_eq_true rfl) rfl rfl) rfl fun fr w9 u10 r=>?_;have Z9:=u10.size
 have H1:=u10.keep H1 (by omega)
 have H4:=u10.keep H4 (by omega)
 have H8:=u10.at_;obtain ⟨hB,zB⟩:=u10.on hB (by omega)
 refine wn (wp_seq (wsr (kL (I (W ((W (D.bu D.bO a0)) - 1))) r rfl H8 to3 rfl rfl fun r=>kB r rfl rfl rfl rfl rfl fun r=>wn ?_)));refine wp_cond_split (t:=(decide ((W ((W (D.bu D.bO a0)) - 1))<0))) (r.ev rfl) (fun h11=>?_) (fun h11=>?_)
 ·
  refine wsr ?_;have hF1:=aA hF hB b4;refine kD r (dP (F:=(kW F w0 w9 b4)) (n:=n) hF1 (-1)) rfl dW rfl fun w12 v13 hb hr14 r=>?_;have Z12:=hb.size
  have H1:=keep hb H1;have H4:=keep hb H4;have H8:=keep hb H8;obtain ⟨hB,zB⟩:=bon hb hB;refine kP r hr14.shape rfl rfl H4 ts61 rfl rfl fun w15 u16 r=>?_;have Z15:=u16.size
  have H1:=u16.keep H1 (by omega)
  have H8:=u16.keep H8 (by omega)
  have H4:=u16.at_;obtain ⟨hB,zB⟩:=u16.on hB (by omega)
  refine wn (wp_ret ?_);have hd:D.fH r_free_Pop c0 a0=(D.cx (-1)):=(ay h11).trans (rfl);have hs:=hr14.shape.cells;refine aH r rfl rfl H4 (k:=7) hs.1 ta61 ?_;rw [←hs.2.2,hd];exact rfin hF hB hr14 u16 (by omega) (by omega) (by omega)
 refine wp_skip (wsr (kG (af c0) 6 r rfl (keep hB c0h) ta23 rfl rfl fun r=>kL (I (W ((W (D.bu D.bO a0)) - 1))) r rfl H8 to3 rfl rfl fun r=>?_));refine kE r (l9 w9 c0 (W ((W (D.bu D.bO a0)) - 1))) rfl mB rfl fun w17 hb r=>?_
 have Z17:=hb.size;have H1:=keep hb H1;have H4:=keep hb H4;have H8:=keep hb H8;obtain ⟨hB,zB⟩:=bon hb hB;refine ae (.func (.func 214) #[] #[zp c0b,zp b1,zp b8]) r (fun R=>aW r rfl) rfl fun fr r=>?_;have hF1:=aA hF hB b4
 have f18:((kW F w0 w17 b4)) c0b:=(.inl c0F);have f19:((kW F w0 w17 b4)) b1:=(.inr ⟨by omega,by omega,by omega⟩)
 have f20:((kW F w0 w17 b4)) b8:=(.inr ⟨by omega,by omega,by omega⟩)
 refine kD r (eO (F:=(kW F w0 w17 b4)) (n:=n) hF1 (D.da c0 (W ((W (D.bu D.bO a0)) - 1))) ⟨214,[],[zp c0b,zp b1,zp b8],BX,rfl,fun m hm x w' hs hz=>yt (fun b hb=>Nat.lt_of_lt_of_le (hF1 b hb) hz) (fun m' hm'=>ih_free_Pop m' (by omega)) c0 f18 (hs.at_ f18 (keep hB c0h)) a0 f19 (hs.at_ f19 H1) (W ((W (D.bu D.bO a0)) - 1)) f20 (hs.at_ f20 H8) x⟩) rfl fe rfl fun w21 v22 hb hr23 r=>?_;have Z21:=hb.size
 have H1:=keep hb H1;have H4:=keep hb H4;have H8:=keep hb H8;obtain ⟨hB,zB⟩:=bon hb hB;refine kP r hr23.shape rfl rfl H4 ts61 rfl rfl fun w24 u25 r=>?_;have Z24:=u25.size
 have H1:=u25.keep H1 (by omega)
 have H8:=u25.keep H8 (by omega)
 have H4:=u25.at_;obtain ⟨hB,zB⟩:=u25.on hB (by omega)
 refine wn (wp_ret ?_);have hd:D.fH r_free_Pop c0 a0=(D.cV (D.da c0 (W ((W (D.bu D.bO a0)) - 1))) (fun x=>(D.jn r_free_Pop c0 a0 (W ((W (D.bu D.bO a0)) - 1)) x))):=(aw h11).trans (rfl)
 have hs:=hr23.shape.cells;refine aH r rfl rfl H4 (k:=7) hs.1 ta61 ?_;rw [←hs.2.2,hd];exact rfin hF hB hr23 u25 (by omega) (by omega) (by omega)
theorem zH {n:Nat} {F:Nat→Prop} {r_free_Pop:Plan→T Int} {w0:World} (hF:∀ b,F b→b<w0.heap.size) (ih_free_Pop:∀ m,m<n→jl r_free_Pop m)
    (a0:Plan) :
    Calls Tryz.prog 113 #[.agg (af a0).toArray] w0 (av Tryz.prog ax n (D.i9 r_free_Pop a0) F w0):=by
 refine enter Tryz.func113 rfl 7 rfl rfl fun fr r=>?_;have hB:=Below.refl w0.heap.size w0
 refine wsr ?_;refine kX 23 (.agg (af a0).toArray) r rfl rfl fun b1 w2 n3 r=>?_;obtain ⟨E1,Z2,H1,hB,zB⟩:=n3.all hB
 refine ar (.cells (ai false ax.zero 0 0 0 0 .nilFunc) 61 (0,0)) r (fun R=>aq tz61) rfl fun fr b4 w5 n6 r=>?_;have H1:=keep n6.below H1
 obtain ⟨E4,Z5,H4,hB,zB⟩:=n6.all hB;refine wn (wsr (kG (af a0) 6 r rfl H1 ta23 rfl rfl fun r=>?_));refine kE r (jb w5 a0) rfl jT rfl fun w7 hb r=>?_
 have Z7:=hb.size;have H1:=keep hb H1;have H4:=keep hb H4;obtain ⟨hB,zB⟩:=bon hb hB;refine ae (.func (.func 212) #[] #[zp b1]) r (fun R=>aW r rfl) rfl fun fr r=>?_;have hF1:=aA hF hB b4
 have f8:((kW F w0 w7 b4)) b1:=(.inr ⟨by omega,by omega,by omega⟩)
 refine kD r (eO (F:=(kW F w0 w7 b4)) (n:=n) hF1 (D.cT a0) ⟨212,[],[zp b1],Dm,rfl,fun m hm x w' hs hz=>yZ (fun b hb=>Nat.lt_of_lt_of_le (hF1 b hb) hz) (fun m' hm'=>ih_free_Pop m' (by omega)) a0 f8 (hs.at_ f8 H1) x⟩) rfl fe rfl fun w9 v10 hb hr11 r=>?_;have Z9:=hb.size
 have H1:=keep hb H1;have H4:=keep hb H4;obtain ⟨hB,zB⟩:=bon hb hB;refine kP r hr11.shape rfl rfl H4 ts61 rfl rfl fun w12 u13 r=>?_;have Z12:=u13.size
 have H1:=u13.keep H1 (by omega)
 have H4:=u13.at_;obtain ⟨hB,zB⟩:=u13.on hB (by omega)
 exact wn (wp_ret (kR r hr11 rfl rfl H4 rfl ta61 hF hB u13 (by omega) (by omega) (by omega)))
theorem rV {n:Nat} {k:Nat} (hk:n<k):jl (D.cF k) n:=by
  induction n using Nat.strongRecOn generalizing k with
  | _ n ih=>
    obtain ⟨k,rfl⟩:∃ q,k=q+1:=⟨k - 1,by omega⟩
    intro F w0 hF;have h:=@zH n F (D.cF k) w0 hF (fun m hm=>ih m hm (by omega))
    exact h
def D.gY (r_free_Push:Plan→Int→T Int) (c0:Plan) (c1:Int) (a0:Bool):T Int:=(bif (!a0) then (r_free_Push c0 c1) else (D.cx c1))
def D.lv (r_free_Push:Plan→Int→T Int) (c0:Plan) (c1:Int) (c2:Int):T Int:=(D.o5 (D.cT c0) c1 (D.eS c1 (D.cO c2)) (fun x=>(D.gY r_free_Push c0 c2 x)))
def D.jq (r_free_Push:Plan→Int→T Int) (c0:Plan) (c1:Int) (a0:Int):T Int:=(D.dl (D.da c0 c1) (D.bu D.bO a0) (fun _=>(D.lv r_free_Push c0 a0 c1)))
def D.hO (r_free_Push:Plan→Int→T Int) (a0:Plan) (a1:Int):T Int:=(bif ((D.da a0 a1)==(-1)) then (D.cx (-1)) else (D.cV (D.cT a0) (fun x=>(D.jq r_free_Push a0 a1 x))))
def D.dS:Nat→Plan→Int→T Int
  | 0,_,_=>.cut
  | k+1,a0,a1=>D.hO (D.dS k) a0 a1
def ji (r:Plan→Int→T Int) (n:Nat):Prop:=∀ (F:Nat→Prop) (w0:World),(∀ b,F b→b<w0.heap.size)→∀ (a0:Plan) (a1:Int),Calls Tryz.prog 362 #[.agg (af a0).toArray,.int .i64 a1] w0 (av Tryz.prog ax n (r a0 a1) F w0)
theorem xI {r_free_Push:Plan→Int→T Int} (hF:kH F w0) (ih_free_Push:∀ m,m≤n→ji r_free_Push m)
    (c0:Plan) {c0b:Nat} (c0F:F c0b) (c0h:w0.heap[c0b]?=some (.cells ((af c0)).toArray 23 (0,0))) (c1:Int) {c1b:Nat} (c1F:F c1b) (c1h:w0.heap[c1b]?=some (.cells ([(.int .i64 c1)]).toArray 3 (0,0))) (a0:Bool) :
    Calls Tryz.prog 404 #[.bool a0,zp c0b,zp c1b] w0 (av Tryz.prog ax n (D.gY r_free_Push c0 c1 a0) F w0):=by
 refine enter Tryz.func404 rfl 12 rfl rfl fun fr r=>?_;have hB:=Below.refl w0.heap.size w0
 have lc0b:=lt_of_block c0h;have lc1b:=lt_of_block c1h;refine wsr ?_;refine ar (.cells (ai false ax.zero 0 0 0 0 .nilFunc) 61 (0,0)) r (fun R=>aq tz61) rfl fun fr b1 w2 n3 r=>?_;obtain ⟨E1,Z2,H1,hB,zB⟩:=n3.all hB
 refine wn (wp_seq (wsr (kM (.bool a0) r rfl rfl fun r=>ae (.bool (!a0)) r (fun R=>y_un r (u:=(.bool a0)) rfl rfl) rfl fun fr r=>wn ?_)));refine wp_cond_split (t:=(!a0)) (r.ev rfl) (fun h4=>?_) (fun h4=>?_)
 ·
  refine wsr (kG (af c0) 6 r rfl (keep hB c0h) ta23 rfl rfl fun r=>kL (I c1) r rfl (keep hB c1h) to3 rfl rfl fun r=>?_);have hF1:=aA hF hB b1
  refine kD r ((ih_free_Push n (by omega)) (kW F w0 w2 b1) _ hF1 c0 c1) rfl ur rfl fun w5 v6 hb hr7 r=>?_;have Z5:=hb.size
  have H1:=keep hb H1;obtain ⟨hB,zB⟩:=bon hb hB;refine kP r hr7.shape rfl rfl H1 ts61 rfl rfl fun w8 u9 r=>?_;have Z8:=u9.size
  have H1:=u9.at_;obtain ⟨hB,zB⟩:=u9.on hB (by omega)
  refine wn (wp_ret ?_);have hd:D.gY r_free_Push c0 c1 a0=(r_free_Push c0 c1):=(ay h4).trans (rfl);have hs:=hr7.shape.cells;refine aH r rfl rfl H1 (k:=7) hs.1 ta61 ?_;rw [←hs.2.2,hd];exact rfin hF hB hr7 u9 (by omega) (by omega) (by omega)
 refine wp_skip (wsr (kL (I c1) r rfl (keep hB c1h) to3 rfl rfl fun r=>?_));have hF1:=aA hF hB b1
 refine kD r (dP (F:=(kW F w0 w2 b1)) (n:=n) hF1 c1) rfl dW rfl fun w10 v11 hb hr12 r=>?_;have Z10:=hb.size
 have H1:=keep hb H1;obtain ⟨hB,zB⟩:=bon hb hB;refine kP r hr12.shape rfl rfl H1 ts61 rfl rfl fun w13 u14 r=>?_;have Z13:=u14.size
 have H1:=u14.at_;obtain ⟨hB,zB⟩:=u14.on hB (by omega)
 refine wn (wp_ret ?_);have hd:D.gY r_free_Push c0 c1 a0=(D.cx c1):=(aw h4).trans (rfl);have hs:=hr12.shape.cells;refine aH r rfl rfl H1 (k:=7) hs.1 ta61 ?_;rw [←hs.2.2,hd];exact rfin hF hB hr12 u14 (by omega) (by omega) (by omega)
theorem yf {r_free_Push:Plan→Int→T Int} (hF:kH F w0) (ih_free_Push:∀ m,m<n→ji r_free_Push m)
    (c0:Plan) {c0b:Nat} (c0F:F c0b) (c0h:w0.heap[c0b]?=some (.cells ((af c0)).toArray 23 (0,0))) (c1:Int) {c1b:Nat} (c1F:F c1b) (c1h:w0.heap[c1b]?=some (.cells ([(.int .u64 c1)]).toArray 40 (0,0))) (c2:Int) {c2b:Nat} (c2F:F c2b) (c2h:w0.heap[c2b]?=some (.cells ([(.int .i64 c2)]).toArray 3 (0,0))) :
    Calls Tryz.prog 403 #[zp c0b,zp c1b,zp c2b] w0 (av Tryz.prog ax n (D.lv r_free_Push c0 c1 c2) F w0):=by
 refine enter Tryz.func403 rfl 13 rfl rfl fun fr r=>?_;have hB:=Below.refl w0.heap.size w0
 have lc0b:=lt_of_block c0h;have lc1b:=lt_of_block c1h;have lc2b:=lt_of_block c2h;refine wsr ?_;refine ar (.cells (ai false ax.zero 0 0 0 0 .nilFunc) 61 (0,0)) r (fun R=>aq tz61) rfl fun fr b1 w2 n3 r=>?_;obtain ⟨E1,Z2,H1,hB,zB⟩:=n3.all hB
 refine wn (wp_seq ?_);refine bw 8 [.val (.agg (af c0).toArray),.val (I (D.cT c0)),.val (U c1),.val (U c1),.val (I c2),.val (U (D.cO c2)),.val (U (D.eS c1 (D.cO c2))),.val (.func (.func 404) #[] #[zp c0b,zp c2b])] mixed r (by kernel_rfl) (ag (by exact trivial) (ag (by exact trivial) (ag (by exact trivial) (ag (by exact trivial) (ag (by exact trivial) (ag (by exact trivial) (ag (by exact trivial) (ag (by exact trivial) bv)))))))) ?_ ?_
 ·
  refine ec r (fun _ u _ b d s=>aU s (cs:=(af c0)) (n:=6) rfl (bo hB b c0h) ta23 rfl bz) (ec r (fun fr1 u w' hb' hd r'=>aP r' (args:=[(.agg (af c0).toArray)]) (lc hd.1 l0) jT ((jb _ c0).mono (by rintro _ w2 ⟨rfl,hb2⟩; exact ⟨_,rfl,hb2,rfl⟩))) (ec r (fun _ u _ b d s=>aB s rfl (bo hB b c1h) to40 rfl bz) (ec r (fun _ u _ b d s=>aB s rfl (bo hB b c1h) to40 rfl bz) (ec r (fun _ u _ b d s=>aB s rfl (bo hB b c2h) to3 rfl bz) (ec r (fun fr1 u w' hb' hd r'=>aP r' (args:=[(I c2)]) (lc hd.1 l0) pW ((oo _ c2).mono (by rintro _ w2 ⟨rfl,hb2⟩; exact ⟨_,rfl,hb2,rfl⟩))) (ec r (fun fr1 u w' hb' hd r'=>aP r' (args:=[(U c1),(U (D.cO c2))]) (lc hd.1 (lc hd.2.1 l0)) vD ((rF _ c1 (D.cO c2)).mono (by rintro _ w2 ⟨rfl,hb2⟩; exact ⟨_,rfl,hb2,rfl⟩))) (ec r (fun _ u _ b d s=>aW s (v:=(.func (.func 404) #[] #[zp c0b,zp c2b])) rfl bz) ?_)))))));exact bA
 intro fr u w4 hb hΦ hne r;have r:=r.congr (sc (hΦ 7 (by decide)) (sc (hΦ 6 (by decide)) (sc (hΦ 5 (by decide)) (sc (hΦ 4 (by decide)) (sc (hΦ 3 (by decide)) (sc (hΦ 2 (by decide)) (sc (hΦ 1 (by decide)) (sc (hΦ 0 (by decide)) rfl))))))));have Z4:=hb.size;have H1:=keep hb H1;obtain ⟨hB,zB⟩:=bon hb hB;have hF1:=aA hF hB b1;have f5:((kW F w0 w4 b1)) c0b:=(.inl c0F);have f6:((kW F w0 w4 b1)) c2b:=(.inl c2F);refine kD r (rl (F:=(kW F w0 w4 b1)) (n:=n) hF1 (D.cT c0) c1 (D.eS c1 (D.cO c2)) ⟨404,[],[zp c0b,zp c2b],CT,rfl,fun m hm x w' hs hz=>xI (fun b hb=>Nat.lt_of_lt_of_le (hF1 b hb) hz) (fun m' hm'=>ih_free_Push m' (by omega)) c0 f5 (hs.at_ f5 (keep hB c0h)) c2 f6 (hs.at_ f6 (keep hB c2h)) x⟩) rfl vC rfl fun w7 v8 hb hr9 r=>?_;have Z7:=hb.size
 have H1:=keep hb H1;obtain ⟨hB,zB⟩:=bon hb hB;refine kP r hr9.shape rfl rfl H1 ts61 rfl rfl fun w10 u11 r=>?_;have Z10:=u11.size
 have H1:=u11.at_;obtain ⟨hB,zB⟩:=u11.on hB (by omega)
 exact wn (wp_ret (kR r hr9 rfl rfl H1 rfl ta61 hF hB u11 (by omega) (by omega) (by omega)))
theorem yG {r_free_Push:Plan→Int→T Int} (hF:kH F w0) (ih_free_Push:∀ m,m<n→ji r_free_Push m)
    (c0:Plan) {c0b:Nat} (c0F:F c0b) (c0h:w0.heap[c0b]?=some (.cells ((af c0)).toArray 23 (0,0))) (c1:Int) {c1b:Nat} (c1F:F c1b) (c1h:w0.heap[c1b]?=some (.cells ([(.int .i64 c1)]).toArray 3 (0,0))) (a0:Int) :
    Calls Tryz.prog 402 #[.int .u64 a0,zp c0b,zp c1b] w0 (av Tryz.prog ax n (D.jq r_free_Push c0 c1 a0) F w0):=by
 refine enter Tryz.func402 rfl 13 rfl rfl fun fr r=>?_;have hB:=Below.refl w0.heap.size w0
 have lc0b:=lt_of_block c0h;have lc1b:=lt_of_block c1h;refine wsr ?_;refine kX 40 (U a0) r rfl rfl fun b1 w2 n3 r=>?_;obtain ⟨E1,Z2,H1,hB,zB⟩:=n3.all hB
 refine ar (.cells (ai false ax.zero 0 0 0 0 .nilFunc) 61 (0,0)) r (fun R=>aq tz61) rfl fun fr b4 w5 n6 r=>?_;have H1:=keep n6.below H1
 obtain ⟨E4,Z5,H4,hB,zB⟩:=n6.all hB;refine wn (wp_seq ?_);refine bw 7 [.val (.agg (af c0).toArray),.val (I c1),.val (I (D.da c0 c1)),.val (.agg (aC D.bO).toArray),.val (U a0),.val (U (D.bu D.bO a0)),.val (.func (.func 403) #[] #[zp c0b,zp b1,zp c1b])] mixed r (by kernel_rfl) (ag (by exact trivial) (ag (by exact trivial) (ag (by exact trivial) (ag (by exact trivial) (ag (by exact trivial) (ag (by exact trivial) (ag (by exact trivial) bv))))))) ?_ ?_
 ·
  refine ec r (fun _ u _ b d s=>aU s (cs:=(af c0)) (n:=6) rfl (bo hB b c0h) ta23 rfl bz) (ec r (fun _ u _ b d s=>aB s rfl (bo hB b c1h) to3 rfl bz) (ec r (fun fr1 u w' hb' hd r'=>aP r' (args:=[(.agg (af c0).toArray),(I c1)]) (lc hd.1 (lc hd.2.1 l0)) mB ((l9 _ c0 c1).mono (by rintro _ w2 ⟨rfl,hb2⟩; exact ⟨_,rfl,hb2,rfl⟩))) (ec r (fun fr1 u w' hb' hd r'=>aP r' (args:=[]) (l0) qk ((ou _ ).mono (by rintro _ w2 ⟨rfl,hb2⟩; exact ⟨_,rfl,hb2,rfl⟩))) (ec r (fun _ u _ b d s=>aB s rfl (keep b H1) to40 rfl bz) (ec r (fun fr1 u w' hb' hd r'=>aP r' (args:=[(.agg (aC D.bO).toArray),(U a0)]) (lc hd.1 (lc hd.2.1 l0)) km ((l4 _ D.bO a0).mono (by rintro _ w2 ⟨rfl,hb2⟩; exact ⟨_,rfl,hb2,rfl⟩))) (ec r (fun _ u _ b d s=>aW s (v:=(.func (.func 403) #[] #[zp c0b,zp b1,zp c1b])) rfl bz) ?_))))));exact bA
 intro fr u w7 hb hΦ hne r;have r:=r.congr (sc (hΦ 6 (by decide)) (sc (hΦ 5 (by decide)) (sc (hΦ 4 (by decide)) (sc (hΦ 3 (by decide)) (sc (hΦ 2 (by decide)) (sc (hΦ 1 (by decide)) (sc (hΦ 0 (by decide)) rfl)))))));have Z7:=hb.size;have H1:=keep hb H1;have H4:=keep hb H4;obtain ⟨hB,zB⟩:=bon hb hB;have hF1:=aA hF hB b4;have f8:((kW F w0 w7 b4)) c0b:=(.inl c0F);have f9:((kW F w0 w7 b4)) b1:=(.inr ⟨by omega,by omega,by omega⟩)
 have f10:((kW F w0 w7 b4)) c1b:=(.inl c1F);refine kD r (fA (F:=(kW F w0 w7 b4)) (n:=n) hF1 (D.da c0 c1) (D.bu D.bO a0) ⟨403,[],[zp c0b,zp b1,zp c1b],Cr,rfl,fun m hm _ w' hs hz=>yf (fun b hb=>Nat.lt_of_lt_of_le (hF1 b hb) hz) (fun m' hm'=>ih_free_Push m' (by omega)) c0 f8 (hs.at_ f8 (keep hB c0h)) a0 f9 (hs.at_ f9 H1) c1 f10 (hs.at_ f10 (keep hB c1h))⟩) rfl fR rfl fun w11 v12 hb hr13 r=>?_;have Z11:=hb.size
 have H1:=keep hb H1;have H4:=keep hb H4;obtain ⟨hB,zB⟩:=bon hb hB;refine kP r hr13.shape rfl rfl H4 ts61 rfl rfl fun w14 u15 r=>?_;have Z14:=u15.size
 have H1:=u15.keep H1 (by omega)
 have H4:=u15.at_;obtain ⟨hB,zB⟩:=u15.on hB (by omega)
 exact wn (wp_ret (kR r hr13 rfl rfl H4 rfl ta61 hF hB u15 (by omega) (by omega) (by omega)))
theorem zr {n:Nat} {F:Nat→Prop} {r_free_Push:Plan→Int→T Int} {w0:World} (hF:∀ b,F b→b<w0.heap.size) (ih_free_Push:∀ m,m<n→ji r_free_Push m)
    (a0:Plan) (a1:Int) :
    Calls Tryz.prog 362 #[.agg (af a0).toArray,.int .i64 a1] w0 (av Tryz.prog ax n (D.hO r_free_Push a0 a1) F w0):=by
 refine enter Tryz.func362 rfl 14 rfl rfl fun fr r=>?_;have hB:=Below.refl w0.heap.size w0
 refine wsr ?_;refine kX 23 (.agg (af a0).toArray) r rfl rfl fun b1 w2 n3 r=>?_;obtain ⟨E1,Z2,H1,hB,zB⟩:=n3.all hB
 refine kX 3 (I a1) r rfl rfl fun b4 w5 n6 r=>?_;have H1:=keep n6.below H1
 obtain ⟨E4,Z5,H4,hB,zB⟩:=n6.all hB;refine ar (.cells (ai false ax.zero 0 0 0 0 .nilFunc) 61 (0,0)) r (fun R=>aq tz61) rfl fun fr b7 w8 n9 r=>?_;have H1:=keep n9.below H1
 have H4:=keep n9.below H4;obtain ⟨E7,Z8,H7,hB,zB⟩:=n9.all hB;refine wn (wp_seq (wsr (kG (af a0) 6 r rfl H1 ta23 rfl rfl fun r=>kL (I a1) r rfl H4 to3 rfl rfl fun r=>?_)));refine kE r (l9 w8 a0 a1) rfl mB rfl fun w10 hb r=>?_
 have Z10:=hb.size;have H1:=keep hb H1;have H4:=keep hb H4;have H7:=keep hb H7;obtain ⟨hB,zB⟩:=bon hb hB;refine kB r rfl rfl rfl rfl rfl fun r=>wn ?_;refine wp_cond_split (t:=((D.da a0 a1)==(-1))) (r.ev rfl) (fun h11=>?_) (fun h11=>?_)
 ·
  refine wsr ?_;have hF1:=aA hF hB b7;refine kD r (dP (F:=(kW F w0 w10 b7)) (n:=n) hF1 (-1)) rfl dW rfl fun w12 v13 hb hr14 r=>?_;have Z12:=hb.size
  have H1:=keep hb H1;have H4:=keep hb H4;have H7:=keep hb H7;obtain ⟨hB,zB⟩:=bon hb hB;refine kP r hr14.shape rfl rfl H7 ts61 rfl rfl fun w15 u16 r=>?_;have Z15:=u16.size
  have H1:=u16.keep H1 (by omega)
  have H4:=u16.keep H4 (by omega)
  have H7:=u16.at_;obtain ⟨hB,zB⟩:=u16.on hB (by omega)
  refine wn (wp_ret ?_);have hd:D.hO r_free_Push a0 a1=(D.cx (-1)):=(ay h11).trans (rfl);have hs:=hr14.shape.cells;refine aH r rfl rfl H7 (k:=7) hs.1 ta61 ?_;rw [←hs.2.2,hd];exact rfin hF hB hr14 u16 (by omega) (by omega) (by omega)
 refine wp_skip (wsr (kG (af a0) 6 r rfl H1 ta23 rfl rfl fun r=>?_));refine kE r (jb w10 a0) rfl jT rfl fun w17 hb r=>?_
 have Z17:=hb.size;have H1:=keep hb H1;have H4:=keep hb H4;have H7:=keep hb H7;obtain ⟨hB,zB⟩:=bon hb hB;refine ae (.func (.func 402) #[] #[zp b1,zp b4]) r (fun R=>aW r rfl) rfl fun fr r=>?_;have hF1:=aA hF hB b7
 have f18:((kW F w0 w17 b7)) b1:=(.inr ⟨by omega,by omega,by omega⟩)
 have f19:((kW F w0 w17 b7)) b4:=(.inr ⟨by omega,by omega,by omega⟩)
 refine kD r (eO (F:=(kW F w0 w17 b7)) (n:=n) hF1 (D.cT a0) ⟨402,[],[zp b1,zp b4],BI,rfl,fun m hm x w' hs hz=>yG (fun b hb=>Nat.lt_of_lt_of_le (hF1 b hb) hz) (fun m' hm'=>ih_free_Push m' (by omega)) a0 f18 (hs.at_ f18 H1) a1 f19 (hs.at_ f19 H4) x⟩) rfl fe rfl fun w20 v21 hb hr22 r=>?_;have Z20:=hb.size
 have H1:=keep hb H1;have H4:=keep hb H4;have H7:=keep hb H7;obtain ⟨hB,zB⟩:=bon hb hB;refine kP r hr22.shape rfl rfl H7 ts61 rfl rfl fun w23 u24 r=>?_;have Z23:=u24.size
 have H1:=u24.keep H1 (by omega)
 have H4:=u24.keep H4 (by omega)
 have H7:=u24.at_;obtain ⟨hB,zB⟩:=u24.on hB (by omega)
 refine wn (wp_ret ?_);have hd:D.hO r_free_Push a0 a1=(D.cV (D.cT a0) (fun x=>(D.jq r_free_Push a0 a1 x))):=(aw h11).trans (rfl)
 have hs:=hr22.shape.cells;refine aH r rfl rfl H7 (k:=7) hs.1 ta61 ?_;rw [←hs.2.2,hd];exact rfin hF hB hr22 u24 (by omega) (by omega) (by omega)
theorem zj {n:Nat} {k:Nat} (hk:n<k):ji (D.dS k) n:=by
  induction n using Nat.strongRecOn generalizing k with
  | _ n ih=>
    obtain ⟨k,rfl⟩:∃ q,k=q+1:=⟨k - 1,by omega⟩
    intro F w0 hF;have h:=@zr n F (D.dS k) w0 hF (fun m hm=>ih m hm (by omega))
    exact h
end
end Go.Proofs.YtfpgnmhcfkikkaaGreat

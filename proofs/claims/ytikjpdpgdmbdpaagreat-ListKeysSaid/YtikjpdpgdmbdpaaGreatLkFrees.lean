/- Ours. -/
import Derived.Test.YtikjpdpgdmbdpaaGreatLkLoads
import Derived.Test.YtikjpdpgdmbdpaaGreatLkM6
set_option linter.all false
set_option maxRecDepth 20000
set_option maxHeartbeats 2000000
namespace Go.Proofs.YtikjpdpgdmbdpaaGreat
open Go.RowKit
section
variable {n : Nat} {F : Nat → Prop} {j : Nat} {w0 : World}
theorem qw:ag Tryz.prog 140:=by kernel_rfl
theorem kv:ag Tryz.prog 141:=by kernel_rfl
theorem ko:ag Tryz.prog 142:=by kernel_rfl
theorem nu:ag Tryz.prog 143:=by kernel_rfl
theorem qp:ag Tryz.prog 158:=by kernel_rfl
theorem wm:ag Tryz.prog 163:=by kernel_rfl
theorem fo:ag Tryz.prog 164:=by kernel_rfl
theorem gk:ag Tryz.prog 166:=by kernel_rfl
theorem CB:ag Tryz.prog 255:=by kernel_rfl
theorem dZ:ag Tryz.prog 256:=by kernel_rfl
theorem DN:ag Tryz.prog 257:=by kernel_rfl
theorem wu:ag Tryz.prog 258:=by kernel_rfl
theorem vV:ag Tryz.prog 259:=by kernel_rfl
theorem Ep:ag Tryz.prog 260:=by kernel_rfl
theorem vD:ag Tryz.prog 263:=by kernel_rfl
theorem qL:ag Tryz.prog 264:=by kernel_rfl
theorem CT:ag Tryz.prog 266:=by kernel_rfl
theorem vU:ag Tryz.prog 313:=by kernel_rfl
theorem wj:ag Tryz.prog 331:=by kernel_rfl
theorem nz:ag Tryz.prog 332:=by kernel_rfl
theorem Dj:ag Tryz.prog 359:=by kernel_rfl
theorem Eo:ag Tryz.prog 360:=by kernel_rfl
theorem CZ:ag Tryz.prog 361:=by kernel_rfl
theorem ti3:intTy Tryz.prog 3 .i64:=by kernel_rfl
theorem ti36:intTy Tryz.prog 36 .u64:=by kernel_rfl
theorem j7:sized Tryz.prog 219 2:=by kernel_rfl
theorem jb:zeroOf Tryz.prog 219=some (.agg (aG (⟨0,0⟩:Field)).toArray):=by kernel_rfl
theorem tz3:zeroOf Tryz.prog 3=some (.int .i64 0):=by kernel_rfl
def D.cT (a0:Int):Int:=(IntKind.u64.wrap (IntKind.i64.wrap (a0+1)))
theorem oP (w0:World) 
    (a0:Int) :
    Calls Tryz.prog 264 #[.int .i64 a0] w0 (bw (.int .u64 (D.cT a0)) w0):=by
 refine kN Tryz.func264 rfl 6 rfl rfl fun fr r hB=>?_;refine wsr (kA (U 0) r rfl rfl fun r=>wn (wsr (kM (I a0) r rfl rfl fun r=>kB r rfl rfl rfl rfl rfl fun r=>ac (U (V (W (a0+1)))) r (fun R=>cu r rfl ti3 ti36) rfl fun fr r=>kA (U (V (W (a0+1)))) r rfl rfl fun r=>wn (wp_ret ?_))))
 refine bd r rfl rfl ?_;exact ⟨rfl,hB⟩
def D.oJ (r_free_fresh:Plan→Int→T Unit) (c0:Plan) (c1:Int):T Unit:=(r_free_fresh c0 (IntKind.i64.wrap (c1+1)))
def D.fE (r_free_fresh:Plan→Int→T Unit) (a0:Plan) (a1:Int):T Unit:=(bif (a1==a0.nodes) then (D.jX (D.cZ a0) (D.cT 0)) else (let x19:Int:=(bif ((IntKind.i64.wrap (a1+1))==a0.nodes) then 0 else (D.cT (IntKind.i64.wrap (a1+1)))); (D.lA (D.dh a0 a1) x19 (fun _=>(D.oJ r_free_fresh a0 a1)))))
def D.eV:Nat→Plan→Int→T Unit
  | 0,_,_=>.cut
  | k+1,a0,a1=>D.fE (D.eV k) a0 a1
def o9 (r:Plan→Int→T Unit) (n:Nat):Prop:=∀ (F:Nat→Prop) (w0:World),(∀ b,F b→b<w0.heap.size)→∀ (a0:Plan) (a1:Int),Calls Tryz.prog 163 #[.agg (aa a0).toArray,.int .i64 a1] w0 (aB Tryz.prog az n (r a0 a1) F w0)
theorem zE {r_free_fresh:Plan→Int→T Unit} (hF:kH F w0) (ih_free_fresh:∀ m,m≤n→o9 r_free_fresh m)
    (c0:Plan) {c0b:Nat} (c0F:F c0b) (c0h:w0.heap[c0b]?=some (.cells ((aa c0)).toArray 23 (0,0))) (c1:Int) {c1b:Nat} (c1F:F c1b) (c1h:w0.heap[c1b]?=some (.cells ([(.int .i64 c1)]).toArray 3 (0,0))) :
    Calls Tryz.prog 266 #[zp c0b,zp c1b] w0 (aB Tryz.prog az n (D.oJ r_free_fresh c0 c1) F w0):=by
 refine kN Tryz.func266 rfl 7 rfl rfl fun fr r hB=>?_;have lc0b:=lt_of_block c0h
 have lc1b:=lt_of_block c1h;refine wsr ?_;refine ai (.cells (ae false az.zero 0 0 0 0 .nilFunc) 157 (0,0)) r (fun R=>ah cW) rfl fun fr b1 w2 n3 r=>?_;obtain ⟨E1,Z2,H1,hB,zB⟩:=n3.all hB
 refine wn (wsr (kG (aa c0) 6 r rfl (keep hB c0h) ta23 rfl rfl fun r=>kL (I c1) r rfl (keep hB c1h) to3 rfl rfl fun r=>kB r rfl rfl rfl rfl rfl fun r=>?_));have hF1:=aM hF hB b1
 refine kD r ((ih_free_fresh n (by omega)) (kW F w0 w2 b1) _ hF1 c0 (W (c1+1))) rfl wm rfl fun w4 v5 hb hr6 r=>?_;have Z4:=hb.size
 have H1:=keep hb H1;obtain ⟨hB,zB⟩:=bon hb hB;refine kP r hr6.shape rfl rfl H1 cF rfl rfl fun w7 u8 r=>?_;have Z7:=u8.size
 have H1:=u8.at_;obtain ⟨hB,zB⟩:=u8.on hB (by omega)
 exact wn (wp_ret (kR r hr6 rfl rfl H1 rfl cA hF hB u8 (by omega) (by omega) (by omega)))
theorem Ad {n:Nat} {F:Nat→Prop} {r_free_fresh:Plan→Int→T Unit} {w0:World} (hF:∀ b,F b→b<w0.heap.size) (ih_free_fresh:∀ m,m<n→o9 r_free_fresh m)
    (a0:Plan) (a1:Int) :
    Calls Tryz.prog 163 #[.agg (aa a0).toArray,.int .i64 a1] w0 (aB Tryz.prog az n (D.fE r_free_fresh a0 a1) F w0):=by
 refine kN Tryz.func163 rfl 28 rfl rfl fun fr r hB=>?_;refine wsr ?_
 refine kX 23 (.agg (aa a0).toArray) r rfl rfl fun b1 w2 n3 r=>?_;obtain ⟨E1,Z2,H1,hB,zB⟩:=n3.all hB
 refine kX 3 (I a1) r rfl rfl fun b4 w5 n6 r=>?_;have H1:=keep n6.below H1
 obtain ⟨E4,Z5,H4,hB,zB⟩:=n6.all hB;refine ai (.cells (ae false az.zero 0 0 0 0 .nilFunc) 157 (0,0)) r (fun R=>ah cW) rfl fun fr b7 w8 n9 r=>?_;have H1:=keep n9.below H1
 have H4:=keep n9.below H4;obtain ⟨E7,Z8,H7,hB,zB⟩:=n9.all hB;refine wn (wp_seq (wsr (kL (I a1) r rfl H4 to3 rfl rfl fun r=>kF 0 r rfl ga rfl fun r=>kL (I a0.nodes) r rfl H1 to3 rfl rfl fun r=>kB r rfl rfl rfl rfl rfl fun r=>wn ?_)));refine wp_cond_split (t:=(a1==a0.nodes)) (r.ev rfl) (fun h10=>?_) (fun h10=>?_)
 ·
  refine wsr (kG (aa a0) 6 r rfl H1 ta23 rfl rfl fun r=>?_);refine kE r (jm w8 a0) rfl ko rfl fun w11 hb r=>?_
  have Z11:=hb.size;have H1:=keep hb H1;have H4:=keep hb H4;have H7:=keep hb H7;obtain ⟨hB,zB⟩:=bon hb hB;refine kE r (oP w11 0) rfl qL rfl fun w12 hb r=>?_;have Z12:=hb.size
  have H1:=keep hb H1;have H4:=keep hb H4;have H7:=keep hb H7;obtain ⟨hB,zB⟩:=bon hb hB;have hF1:=aM hF hB b7;refine kD r (tj (F:=(kW F w0 w12 b7)) (n:=n) hF1 (D.cZ a0) (D.cT 0)) rfl vD rfl fun w13 v14 hb hr15 r=>?_;have Z13:=hb.size
  have H1:=keep hb H1;have H4:=keep hb H4;have H7:=keep hb H7;obtain ⟨hB,zB⟩:=bon hb hB;refine kP r hr15.shape rfl rfl H7 cF rfl rfl fun w16 u17 r=>?_;have Z16:=u17.size
  have H1:=u17.keep H1 (by omega)
  have H4:=u17.keep H4 (by omega)
  have H7:=u17.at_;obtain ⟨hB,zB⟩:=u17.on hB (by omega)
  refine wn (wp_ret ?_);have hd:D.fE r_free_fresh a0 a1=(D.jX (D.cZ a0) (D.cT 0)):=(aC h10).trans (rfl);have hs:=hr15.shape.cells;refine aq r rfl rfl H7 (k:=6) hs.1 cA ?_;rw [←hs.2.2,hd];exact rfin hF hB hr15 u17 (by omega) (by omega) (by omega)
 refine wp_skip (wsr (kL (I a1) r rfl H4 to3 rfl rfl fun r=>kB r rfl rfl rfl rfl rfl fun r=>?_));refine kE r (oP w8 (W (a1+1))) rfl qL rfl fun w18 hb r=>?_
 have Z18:=hb.size;have H1:=keep hb H1;have H4:=keep hb H4;have H7:=keep hb H7;obtain ⟨hB,zB⟩:=bon hb hB;refine kA (U (D.cT (W (a1+1)))) r rfl rfl fun r=>wn (wp_seq (wsr (kL (I a1) r rfl H4 to3 rfl rfl fun r=>kB r rfl rfl rfl rfl rfl fun r=>kF 0 r rfl ga rfl fun r=>kL (I a0.nodes) r rfl H1 to3 rfl rfl fun r=>kB r rfl rfl rfl rfl rfl fun r=>wn ?_)));obtain ⟨x19,hx19⟩:∃ x:Int,x=(bif ((W (a1+1))==a0.nodes) then 0 else (D.cT (W (a1+1)))):=⟨_,rfl⟩
 refine Cb (N:=28) [(0,(.agg (aa a0).toArray)),(1,(I a1)),(2,(zp b1)),(3,(zp b4)),(4,(zp b7)),(5,(U x19))] (fun w=>Below w0.heap.size w0 w∧w18.heap.size≤w.heap.size∧w.heap[b1]?=some (.cells ((aa a0)).toArray 23 (0,0))∧w.heap[b4]?=some (.cells #[(I a1)] 3 (0,0))∧w.heap[b7]?=some (.cells (ae false az.zero 0 0 0 0 .nilFunc) 157 (0,0))) ?_ ?_
 ·
  refine wp_cond_split (t:=((W (a1+1))==a0.nodes)) (r.ev rfl) (fun h20=>?_) (fun h20=>?_)
  ·
   refine wp_region_lit (kA (U 0) r rfl rfl fun r=>wn ?_);exact ⟨rfl,_,r,(aw rfl (aw rfl (aw rfl (aw rfl (aw rfl (aw (by rw [hx19,aC h20]; rfl) aO)))))),hB,(by omega),H1,H4,H7⟩
  refine wp_skip ?_;exact ⟨rfl,_,r,(aw rfl (aw rfl (aw rfl (aw rfl (aw rfl (aw (by rw [hx19,aF h20]; rfl) aO)))))),hB,(by omega),H1,H4,H7⟩
 rintro fr w21 g r ⟨hB,Z21,H1,H4,H7⟩;have zB:=hB.size;refine wsr (kG (aa a0) 6 r rfl H1 ta23 rfl rfl fun r=>kL (I a1) r rfl H4 to3 rfl rfl fun r=>?_);refine kE r (ll w21 a0 a1) rfl nu rfl fun w22 hb r=>?_
 have Z22:=hb.size;have H1:=keep hb H1;have H4:=keep hb H4;have H7:=keep hb H7;obtain ⟨hB,zB⟩:=bon hb hB;refine kM (U x19) r rfl rfl fun r=>ac (.func (.func 266) #[] #[zp b1,zp b4]) r (fun R=>aT r rfl) rfl fun fr r=>?_;have hF1:=aM hF hB b7
 have f23:((kW F w0 w22 b7)) b1:=(.inr ⟨by omega,by omega,by omega⟩)
 have f24:((kW F w0 w22 b7)) b4:=(.inr ⟨by omega,by omega,by omega⟩)
 refine kD r (rE (F:=(kW F w0 w22 b7)) (n:=n) hF1 (D.dh a0 a1) x19 ⟨266,[],[zp b1,zp b4],CT,rfl,fun m hm _ w' hs hz=>zE (fun b hb=>Nat.lt_of_lt_of_le (hF1 b hb) hz) (fun m' hm'=>ih_free_fresh m' (by omega)) a0 f23 (hs.at_ f23 H1) a1 f24 (hs.at_ f24 H4)⟩) rfl vB rfl fun w25 v26 hb hr27 r=>?_;have Z25:=hb.size
 have H1:=keep hb H1;have H4:=keep hb H4;have H7:=keep hb H7;obtain ⟨hB,zB⟩:=bon hb hB;refine kP r hr27.shape rfl rfl H7 cF rfl rfl fun w28 u29 r=>?_;have Z28:=u29.size
 have H1:=u29.keep H1 (by omega)
 have H4:=u29.keep H4 (by omega)
 have H7:=u29.at_;obtain ⟨hB,zB⟩:=u29.on hB (by omega)
 refine wn (wp_ret ?_);have hd:D.fE r_free_fresh a0 a1=(D.lA (D.dh a0 a1) x19 (fun _=>(D.oJ r_free_fresh a0 a1))):=by subst hx19; exact (aF h10).trans (rfl)
 have hs:=hr27.shape.cells;refine aq r rfl rfl H7 (k:=6) hs.1 cA ?_;rw [←hs.2.2,hd];exact rfin hF hB hr27 u29 (by omega) (by omega) (by omega)
theorem Aa {n:Nat} {k:Nat} (hk:n<k):o9 (D.eV k) n:=by
  induction n using Nat.strongRecOn generalizing k with
  | _ n ih=>
    obtain ⟨k,rfl⟩:∃ q,k=q+1:=⟨k - 1,by omega⟩
    intro F w0 hF;have h:=@Ad n F (D.eV k) w0 hF (fun m hm=>ih m hm (by omega))
    exact h
def D.gH (j:Nat) (a0:Plan):T Unit:=(D.eV j a0 0)
theorem Ae (hF:kH F w0) (hj:n<j)
    (a0:Plan) :
    Calls Tryz.prog 81 #[.agg (aa a0).toArray] w0 (aB Tryz.prog az n (D.gH j a0) F w0):=by
 refine kN Tryz.func81 rfl 5 rfl rfl fun fr r hB=>?_;refine wsr ?_
 refine kX 23 (.agg (aa a0).toArray) r rfl rfl fun b1 w2 n3 r=>?_;obtain ⟨E1,Z2,H1,hB,zB⟩:=n3.all hB
 refine ai (.cells (ae false az.zero 0 0 0 0 .nilFunc) 157 (0,0)) r (fun R=>ah cW) rfl fun fr b4 w5 n6 r=>?_;have H1:=keep n6.below H1
 obtain ⟨E4,Z5,H4,hB,zB⟩:=n6.all hB;refine wn (wsr (kG (aa a0) 6 r rfl H1 ta23 rfl rfl fun r=>?_));have hF1:=aM hF hB b4
 refine kD r ((Aa (k:=j) (n:=n) (by omega)) (kW F w0 w5 b4) _ hF1 a0 0) rfl wm rfl fun w7 v8 hb hr9 r=>?_;have Z7:=hb.size
 have H1:=keep hb H1;have H4:=keep hb H4;obtain ⟨hB,zB⟩:=bon hb hB;refine kP r hr9.shape rfl rfl H4 cF rfl rfl fun w10 u11 r=>?_;have Z10:=u11.size
 have H1:=u11.keep H1 (by omega)
 have H4:=u11.at_;obtain ⟨hB,zB⟩:=u11.on hB (by omega)
 exact wn (wp_ret (kR r hr9 rfl rfl H4 rfl cA hF hB u11 (by omega) (by omega) (by omega)))
def D.bU :Field:=(⟨0,21⟩:Field)
theorem oQ (w0:World) 
     :
    Calls Tryz.prog 140 #[] w0 (bw (.agg (aG D.bU).toArray) w0):=by
 refine kN Tryz.func140 rfl 2 rfl rfl fun fr r hB=>?_;refine wsr ?_
 refine ai (.cells ((aG (⟨0,0⟩:Field))).toArray 219 (0,0)) r (fun R=>ah jb) rfl fun fr b1 w2 n3 r=>?_;obtain ⟨E1,Z2,H1,hB,zB⟩:=n3.all hB
 refine wn (wsr (kU (.agg (aG (⟨0,21⟩:Field)).toArray) r (by kernel_rfl) rfl fun r=>?_));refine bi (.cells ((aG (⟨0,21⟩:Field))).toArray 219 (0,0)) r (fun R=>aZ r (o:=0) (v:=(.agg (aG (⟨0,21⟩:Field)).toArray)) rfl rfl H1 j7 (Nat.le_of_ble_eq_true rfl) rfl rfl) rfl fun fr w4 u5 r=>?_
 have Z4:=u5.size;have H1:=u5.at_;obtain ⟨hB,zB⟩:=u5.on hB (by omega)
 refine wn (wp_ret ?_);refine aq r rfl rfl H1 (k:=2) rfl cM ?_;exact ⟨rfl,hB⟩
def D.dF :Field:=(⟨21,43⟩:Field)
theorem sU (w0:World) 
     :
    Calls Tryz.prog 331 #[] w0 (bw (.agg (aG D.dF).toArray) w0):=by
 refine kN Tryz.func331 rfl 2 rfl rfl fun fr r hB=>?_;refine wsr ?_
 refine ai (.cells ((aG (⟨0,0⟩:Field))).toArray 219 (0,0)) r (fun R=>ah jb) rfl fun fr b1 w2 n3 r=>?_;obtain ⟨E1,Z2,H1,hB,zB⟩:=n3.all hB
 refine wn (wsr (kU (.agg (aG (⟨21,43⟩:Field)).toArray) r (by kernel_rfl) rfl fun r=>?_));refine bi (.cells ((aG (⟨21,43⟩:Field))).toArray 219 (0,0)) r (fun R=>aZ r (o:=0) (v:=(.agg (aG (⟨21,43⟩:Field)).toArray)) rfl rfl H1 j7 (Nat.le_of_ble_eq_true rfl) rfl rfl) rfl fun fr w4 u5 r=>?_
 have Z4:=u5.size;have H1:=u5.at_;obtain ⟨hB,zB⟩:=u5.on hB (by omega)
 refine wn (wp_ret ?_);refine aq r rfl rfl H1 (k:=2) rfl cM ?_;exact ⟨rfl,hB⟩
def D.eU (a0:Int) (a1:Int):Int:=(D.cB D.dF (D.cB D.bU 0 a1) (IntKind.u64.wrap ((D.bA D.dF a0)+1)))
theorem sq (w0:World) 
    (a0:Int) (a1:Int) :
    Calls Tryz.prog 259 #[.int .u64 a0,.int .u64 a1] w0 (bw (.int .u64 (D.eU a0 a1)) w0):=by
 refine kN Tryz.func259 rfl 14 rfl rfl fun fr r hB=>?_;refine wsr (kA (U 0) r rfl rfl fun r=>wn (wsr ?_))
 refine kE r (sU w0 ) rfl wj rfl fun w1 hb r=>?_;have Z1:=hb.size
 obtain ⟨hB,zB⟩:=bon hb hB;refine kE r (oQ w1 ) rfl qw rfl fun w2 hb r=>?_;have Z2:=hb.size
 obtain ⟨hB,zB⟩:=bon hb hB;refine kM (U a1) r rfl rfl fun r=>?_;refine kE r (nO w2 D.bU 0 a1) rfl nz rfl fun w3 hb r=>?_
 have Z3:=hb.size;obtain ⟨hB,zB⟩:=bon hb hB;refine kE r (sU w3 ) rfl wj rfl fun w4 hb r=>?_;have Z4:=hb.size
 obtain ⟨hB,zB⟩:=bon hb hB;refine kM (U a0) r rfl rfl fun r=>?_;refine kE r (lf w4 D.dF a0) rfl kv rfl fun w5 hb r=>?_
 have Z5:=hb.size;obtain ⟨hB,zB⟩:=bon hb hB;refine kB r rfl rfl rfl rfl rfl fun r=>?_;refine kE r (nO w5 D.dF (D.cB D.bU 0 a1) (V ((D.bA D.dF a0)+1))) rfl nz rfl fun w6 hb r=>?_
 have Z6:=hb.size;obtain ⟨hB,zB⟩:=bon hb hB;refine kA (U (D.cB D.dF (D.cB D.bU 0 a1) (V ((D.bA D.dF a0)+1)))) r rfl rfl fun r=>wn (wp_ret ?_);refine bd r rfl rfl ?_
 exact ⟨rfl,hB⟩
def D.ij (r_free_Pop:Plan→T Int) (c0:Plan) (c1:Int) (a0:Bool):T Int:=(bif (!a0) then (r_free_Pop c0) else (D.cH c1))
def D.jC (r_free_Pop:Plan→T Int) (c0:Plan) (c1:Int) (c2:Int) (a0:Int):T Int:=(D.oE (D.cZ c0) c1 (D.eU c1 a0) (fun x=>(D.ij r_free_Pop c0 c2 x)))
def D.fO (r_free_Pop:Plan→T Int) (c0:Plan) (a0:Int):T Int:=(bif (decide ((IntKind.i64.wrap ((IntKind.i64.wrap (D.bA D.bU a0)) - 1))<0)) then (D.cH (-1)) else (D.da (D.dh c0 (IntKind.i64.wrap ((IntKind.i64.wrap (D.bA D.bU a0)) - 1))) (fun x=>(D.jC r_free_Pop c0 a0 (IntKind.i64.wrap ((IntKind.i64.wrap (D.bA D.bU a0)) - 1)) x))))
def D.il (r_free_Pop:Plan→T Int) (a0:Plan):T Int:=(D.da (D.cZ a0) (fun x=>(D.fO r_free_Pop a0 x)))
def D.cJ:Nat→Plan→T Int
  | 0,_=>.cut
  | k+1,a0=>D.il (D.cJ k) a0
def jz (r:Plan→T Int) (n:Nat):Prop:=∀ (F:Nat→Prop) (w0:World),(∀ b,F b→b<w0.heap.size)→∀ (a0:Plan),Calls Tryz.prog 158 #[.agg (aa a0).toArray] w0 (aB Tryz.prog ak n (r a0) F w0)
theorem yV {r_free_Pop:Plan→T Int} (hF:kH F w0) (ih_free_Pop:∀ m,m≤n→jz r_free_Pop m)
    (c0:Plan) {c0b:Nat} (c0F:F c0b) (c0h:w0.heap[c0b]?=some (.cells ((aa c0)).toArray 23 (0,0))) (c1:Int) {c1b:Nat} (c1F:F c1b) (c1h:w0.heap[c1b]?=some (.cells ([(.int .i64 c1)]).toArray 3 (0,0))) (a0:Bool) :
    Calls Tryz.prog 260 #[.bool a0,zp c0b,zp c1b] w0 (aB Tryz.prog ak n (D.ij r_free_Pop c0 c1 a0) F w0):=by
 refine kN Tryz.func260 rfl 11 rfl rfl fun fr r hB=>?_;have lc0b:=lt_of_block c0h
 have lc1b:=lt_of_block c1h;refine wsr ?_;refine ai (.cells (ae false ak.zero 0 0 0 0 .nilFunc) 44 (0,0)) r (fun R=>ah tz44) rfl fun fr b1 w2 n3 r=>?_;obtain ⟨E1,Z2,H1,hB,zB⟩:=n3.all hB
 refine wn (wp_seq (wsr (kM (.bool a0) r rfl rfl fun r=>ac (.bool (!a0)) r (fun R=>y_un r (u:=(.bool a0)) rfl rfl) rfl fun fr r=>wn ?_)));refine wp_cond_split (t:=(!a0)) (r.ev rfl) (fun h4=>?_) (fun h4=>?_)
 ·
  refine wsr (kG (aa c0) 6 r rfl (keep hB c0h) ta23 rfl rfl fun r=>?_);have hF1:=aM hF hB b1
  refine kD r ((ih_free_Pop n (by omega)) (kW F w0 w2 b1) _ hF1 c0) rfl qp rfl fun w5 v6 hb hr7 r=>?_;have Z5:=hb.size
  have H1:=keep hb H1;obtain ⟨hB,zB⟩:=bon hb hB;refine kP r hr7.shape rfl rfl H1 ts44 rfl rfl fun w8 u9 r=>?_;have Z8:=u9.size
  have H1:=u9.at_;obtain ⟨hB,zB⟩:=u9.on hB (by omega)
  refine wn (wp_ret ?_);have hd:D.ij r_free_Pop c0 c1 a0=(r_free_Pop c0):=(aC h4).trans (rfl);have hs:=hr7.shape.cells;refine aq r rfl rfl H1 (k:=7) hs.1 ta44 ?_;rw [←hs.2.2,hd];exact rfin hF hB hr7 u9 (by omega) (by omega) (by omega)
 refine wp_skip (wsr (kL (I c1) r rfl (keep hB c1h) to3 rfl rfl fun r=>?_));have hF1:=aM hF hB b1
 refine kD r (dQ (F:=(kW F w0 w2 b1)) (n:=n) hF1 c1) rfl dZ rfl fun w10 v11 hb hr12 r=>?_;have Z10:=hb.size
 have H1:=keep hb H1;obtain ⟨hB,zB⟩:=bon hb hB;refine kP r hr12.shape rfl rfl H1 ts44 rfl rfl fun w13 u14 r=>?_;have Z13:=u14.size
 have H1:=u14.at_;obtain ⟨hB,zB⟩:=u14.on hB (by omega)
 refine wn (wp_ret ?_);have hd:D.ij r_free_Pop c0 c1 a0=(D.cH c1):=(aF h4).trans (rfl);have hs:=hr12.shape.cells;refine aq r rfl rfl H1 (k:=7) hs.1 ta44 ?_;rw [←hs.2.2,hd];exact rfin hF hB hr12 u14 (by omega) (by omega) (by omega)
theorem zu {r_free_Pop:Plan→T Int} (hF:kH F w0) (ih_free_Pop:∀ m,m<n→jz r_free_Pop m)
    (c0:Plan) {c0b:Nat} (c0F:F c0b) (c0h:w0.heap[c0b]?=some (.cells ((aa c0)).toArray 23 (0,0))) (c1:Int) {c1b:Nat} (c1F:F c1b) (c1h:w0.heap[c1b]?=some (.cells ([(.int .u64 c1)]).toArray 36 (0,0))) (c2:Int) {c2b:Nat} (c2F:F c2b) (c2h:w0.heap[c2b]?=some (.cells ([(.int .i64 c2)]).toArray 3 (0,0))) (a0:Int) :
    Calls Tryz.prog 257 #[.int .u64 a0,zp c0b,zp c1b,zp c2b] w0 (aB Tryz.prog ak n (D.jC r_free_Pop c0 c1 c2 a0) F w0):=by
 refine kN Tryz.func257 rfl 14 rfl rfl fun fr r hB=>?_;have lc0b:=lt_of_block c0h
 have lc1b:=lt_of_block c1h;have lc2b:=lt_of_block c2h;refine wsr ?_;refine ai (.cells (ae false ak.zero 0 0 0 0 .nilFunc) 44 (0,0)) r (fun R=>ah tz44) rfl fun fr b1 w2 n3 r=>?_;obtain ⟨E1,Z2,H1,hB,zB⟩:=n3.all hB
 refine wn (wp_seq ?_);refine bH 7 [.val (.agg (aa c0).toArray),.val (I (D.cZ c0)),.val (U c1),.val (U c1),.val (U a0),.val (U (D.eU c1 a0)),.val (.func (.func 260) #[] #[zp c0b,zp c2b])] mixed r (by kernel_rfl) (kV (kV (kV (kV (kV (kV (kV bG))))))) ?_ ?_
 ·
  refine ec r (fun _ u _ b d s=>aW s (cs:=(aa c0)) (n:=6) rfl (bY hB b c0h) ta23 rfl bz) (ec r (fun fr1 u w' hb' hd r'=>aN r' (args:=[(.agg (aa c0).toArray)]) (lc hd.1 l0) ko ((jm _ c0).mono (by rintro _ w2 ⟨rfl,hb2⟩; exact ⟨_,rfl,hb2,rfl⟩))) (ec r (fun _ u _ b d s=>av s rfl (bY hB b c1h) to36 rfl bz) (ec r (fun _ u _ b d s=>av s rfl (bY hB b c1h) to36 rfl bz) (ec r (fun _ u _ b d s=>aj s rfl bz) (ec r (fun fr1 u w' hb' hd r'=>aN r' (args:=[(U c1),(U a0)]) (lc hd.1 (lc hd.2.1 l0)) vV ((sq _ c1 a0).mono (by rintro _ w2 ⟨rfl,hb2⟩; exact ⟨_,rfl,hb2,rfl⟩))) (ec r (fun _ u _ b d s=>aT s (v:=(.func (.func 260) #[] #[zp c0b,zp c2b])) rfl bz) ?_))))));exact bI
 intro fr u w4 hb hΦ hne r;have r:=r.congr (sc (hΦ 6 (by decide)) (sc (hΦ 5 (by decide)) (sc (hΦ 4 (by decide)) (sc (hΦ 3 (by decide)) (sc (hΦ 2 (by decide)) (sc (hΦ 1 (by decide)) (sc (hΦ 0 (by decide)) rfl)))))));have Z4:=hb.size;have H1:=keep hb H1;obtain ⟨hB,zB⟩:=bon hb hB;have hF1:=aM hF hB b1;have f5:((kW F w0 w4 b1)) c0b:=(.inl c0F);have f6:((kW F w0 w4 b1)) c2b:=(.inl c2F);refine kD r (rO (F:=(kW F w0 w4 b1)) (n:=n) hF1 (D.cZ c0) c1 (D.eU c1 a0) ⟨260,[],[zp c0b,zp c2b],Ep,rfl,fun m hm x w' hs hz=>yV (fun b hb=>Nat.lt_of_lt_of_le (hF1 b hb) hz) (fun m' hm'=>ih_free_Pop m' (by omega)) c0 f5 (hs.at_ f5 (keep hB c0h)) c2 f6 (hs.at_ f6 (keep hB c2h)) x⟩) rfl wu rfl fun w7 v8 hb hr9 r=>?_;have Z7:=hb.size
 have H1:=keep hb H1;obtain ⟨hB,zB⟩:=bon hb hB;refine kP r hr9.shape rfl rfl H1 ts44 rfl rfl fun w10 u11 r=>?_;have Z10:=u11.size
 have H1:=u11.at_;obtain ⟨hB,zB⟩:=u11.on hB (by omega)
 exact wn (wp_ret (kR r hr9 rfl rfl H1 rfl ta44 hF hB u11 (by omega) (by omega) (by omega)))
theorem A9 {r_free_Pop:Plan→T Int} (hF:kH F w0) (ih_free_Pop:∀ m,m<n→jz r_free_Pop m)
    (c0:Plan) {c0b:Nat} (c0F:F c0b) (c0h:w0.heap[c0b]?=some (.cells ((aa c0)).toArray 23 (0,0))) (a0:Int) :
    Calls Tryz.prog 255 #[.int .u64 a0,zp c0b] w0 (aB Tryz.prog ak n (D.fO r_free_Pop c0 a0) F w0):=by
 refine kN Tryz.func255 rfl 18 rfl rfl fun fr r hB=>?_;have lc0b:=lt_of_block c0h
 refine wsr ?_;refine kX 36 (U a0) r rfl rfl fun b1 w2 n3 r=>?_;obtain ⟨E1,Z2,H1,hB,zB⟩:=n3.all hB
 refine ai (.cells (ae false ak.zero 0 0 0 0 .nilFunc) 44 (0,0)) r (fun R=>ah tz44) rfl fun fr b4 w5 n6 r=>?_;have H1:=keep n6.below H1
 obtain ⟨E4,Z5,H4,hB,zB⟩:=n6.all hB;refine wn (wp_seq ?_);refine bH 6 [.val (.agg (aG D.bU).toArray),.val (U a0),.val (U (D.bA D.bU a0)),.val (I (W (D.bA D.bU a0))),.val (I (W ((W (D.bA D.bU a0)) - 1))),.new w5.heap.size (.cells #[(I 0)] 3 (0,0))] mixed r (by kernel_rfl) (kV (kV (kV (kV (kV (bZ (Nat.le_refl _) bG)))))) ?_ ?_
 ·
  refine ec r (fun fr1 u w' hb' hd r'=>aN r' (args:=[]) (l0) qw ((oQ _ ).mono (by rintro _ w2 ⟨rfl,hb2⟩; exact ⟨_,rfl,hb2,rfl⟩))) (ec r (fun _ u _ b d s=>av s rfl (keep b H1) to36 rfl bz) (ec r (fun fr1 u w' hb' hd r'=>aN r' (args:=[(.agg (aG D.bU).toArray),(U a0)]) (lc hd.1 (lc hd.2.1 l0)) kv ((lf _ D.bU a0).mono (by rintro _ w2 ⟨rfl,hb2⟩; exact ⟨_,rfl,hb2,rfl⟩))) (ec r (fun _ u _ b d s=>cu s (n:=(D.bA D.bU a0)) d.1 ti36 ti3 bz) (ec r (fun _ u _ b d s=>aP s d.1 rfl rfl rfl bz) (ec r (fun fr1 u w' hb' hd r'=>ah tz3 (fun b w2 n2=>⟨n2.below,b,rfl,Nat.le_of_eq n2.eq.symm,n2.at_⟩)) ?_)))));exact bI
 intro fr u w7 hb hΦ hne r;obtain ⟨b8,g5,E8,H8⟩:=hΦ 5 (by decide);have l_b8:=lt_of_block H8;have r:=r.congr (sc g5 (sc (hΦ 4 (by decide)) (sc (hΦ 3 (by decide)) (sc (hΦ 2 (by decide)) (sc (hΦ 1 (by decide)) (sc (hΦ 0 (by decide)) rfl))))));have Z7:=hb.size;have H1:=keep hb H1;have H4:=keep hb H4;obtain ⟨hB,zB⟩:=bon hb hB;refine bi (.cells #[(I (W ((W (D.bA D.bU a0)) - 1)))] 3 (0,0)) r (fun R=>aZ r (o:=0) (v:=(I (W ((W (D.bA D.bU a0)) - 1)))) rfl rfl H8 ts3 (Nat.le_of_ble_eq_true rfl) rfl rfl) rfl fun fr w9 u10 r=>?_;have Z9:=u10.size
 have H1:=u10.keep H1 (by omega)
 have H4:=u10.keep H4 (by omega)
 have H8:=u10.at_;obtain ⟨hB,zB⟩:=u10.on hB (by omega)
 refine wn (wp_seq (wsr (kL (I (W ((W (D.bA D.bU a0)) - 1))) r rfl H8 to3 rfl rfl fun r=>kB r rfl rfl rfl rfl rfl fun r=>wn ?_)));refine wp_cond_split (t:=(decide ((W ((W (D.bA D.bU a0)) - 1))<0))) (r.ev rfl) (fun h11=>?_) (fun h11=>?_)
 ·
  refine wsr ?_;have hF1:=aM hF hB b4;refine kD r (dQ (F:=(kW F w0 w9 b4)) (n:=n) hF1 (-1)) rfl dZ rfl fun w12 v13 hb hr14 r=>?_;have Z12:=hb.size
  have H1:=keep hb H1;have H4:=keep hb H4;have H8:=keep hb H8;obtain ⟨hB,zB⟩:=bon hb hB;refine kP r hr14.shape rfl rfl H4 ts44 rfl rfl fun w15 u16 r=>?_;have Z15:=u16.size
  have H1:=u16.keep H1 (by omega)
  have H8:=u16.keep H8 (by omega)
  have H4:=u16.at_;obtain ⟨hB,zB⟩:=u16.on hB (by omega)
  refine wn (wp_ret ?_);have hd:D.fO r_free_Pop c0 a0=(D.cH (-1)):=(aC h11).trans (rfl);have hs:=hr14.shape.cells;refine aq r rfl rfl H4 (k:=7) hs.1 ta44 ?_;rw [←hs.2.2,hd];exact rfin hF hB hr14 u16 (by omega) (by omega) (by omega)
 refine wp_skip (wsr (kG (aa c0) 6 r rfl (keep hB c0h) ta23 rfl rfl fun r=>kL (I (W ((W (D.bA D.bU a0)) - 1))) r rfl H8 to3 rfl rfl fun r=>?_));refine kE r (ll w9 c0 (W ((W (D.bA D.bU a0)) - 1))) rfl nu rfl fun w17 hb r=>?_
 have Z17:=hb.size;have H1:=keep hb H1;have H4:=keep hb H4;have H8:=keep hb H8;obtain ⟨hB,zB⟩:=bon hb hB;refine ac (.func (.func 257) #[] #[zp c0b,zp b1,zp b8]) r (fun R=>aT r rfl) rfl fun fr r=>?_;have hF1:=aM hF hB b4
 have f18:((kW F w0 w17 b4)) c0b:=(.inl c0F);have f19:((kW F w0 w17 b4)) b1:=(.inr ⟨by omega,by omega,by omega⟩)
 have f20:((kW F w0 w17 b4)) b8:=(.inr ⟨by omega,by omega,by omega⟩)
 refine kD r (eL (F:=(kW F w0 w17 b4)) (n:=n) hF1 (D.dh c0 (W ((W (D.bA D.bU a0)) - 1))) ⟨257,[],[zp c0b,zp b1,zp b8],DN,rfl,fun m hm x w' hs hz=>zu (fun b hb=>Nat.lt_of_lt_of_le (hF1 b hb) hz) (fun m' hm'=>ih_free_Pop m' (by omega)) c0 f18 (hs.at_ f18 (keep hB c0h)) a0 f19 (hs.at_ f19 H1) (W ((W (D.bA D.bU a0)) - 1)) f20 (hs.at_ f20 H8) x⟩) rfl fo rfl fun w21 v22 hb hr23 r=>?_;have Z21:=hb.size
 have H1:=keep hb H1;have H4:=keep hb H4;have H8:=keep hb H8;obtain ⟨hB,zB⟩:=bon hb hB;refine kP r hr23.shape rfl rfl H4 ts44 rfl rfl fun w24 u25 r=>?_;have Z24:=u25.size
 have H1:=u25.keep H1 (by omega)
 have H8:=u25.keep H8 (by omega)
 have H4:=u25.at_;obtain ⟨hB,zB⟩:=u25.on hB (by omega)
 refine wn (wp_ret ?_);have hd:D.fO r_free_Pop c0 a0=(D.da (D.dh c0 (W ((W (D.bA D.bU a0)) - 1))) (fun x=>(D.jC r_free_Pop c0 a0 (W ((W (D.bA D.bU a0)) - 1)) x))):=(aF h11).trans (rfl)
 have hs:=hr23.shape.cells;refine aq r rfl rfl H4 (k:=7) hs.1 ta44 ?_;rw [←hs.2.2,hd];exact rfin hF hB hr23 u25 (by omega) (by omega) (by omega)
theorem AE {n:Nat} {F:Nat→Prop} {r_free_Pop:Plan→T Int} {w0:World} (hF:∀ b,F b→b<w0.heap.size) (ih_free_Pop:∀ m,m<n→jz r_free_Pop m)
    (a0:Plan) :
    Calls Tryz.prog 158 #[.agg (aa a0).toArray] w0 (aB Tryz.prog ak n (D.il r_free_Pop a0) F w0):=by
 refine kN Tryz.func158 rfl 7 rfl rfl fun fr r hB=>?_;refine wsr ?_
 refine kX 23 (.agg (aa a0).toArray) r rfl rfl fun b1 w2 n3 r=>?_;obtain ⟨E1,Z2,H1,hB,zB⟩:=n3.all hB
 refine ai (.cells (ae false ak.zero 0 0 0 0 .nilFunc) 44 (0,0)) r (fun R=>ah tz44) rfl fun fr b4 w5 n6 r=>?_;have H1:=keep n6.below H1
 obtain ⟨E4,Z5,H4,hB,zB⟩:=n6.all hB;refine wn (wsr (kG (aa a0) 6 r rfl H1 ta23 rfl rfl fun r=>?_));refine kE r (jm w5 a0) rfl ko rfl fun w7 hb r=>?_
 have Z7:=hb.size;have H1:=keep hb H1;have H4:=keep hb H4;obtain ⟨hB,zB⟩:=bon hb hB;refine ac (.func (.func 255) #[] #[zp b1]) r (fun R=>aT r rfl) rfl fun fr r=>?_;have hF1:=aM hF hB b4
 have f8:((kW F w0 w7 b4)) b1:=(.inr ⟨by omega,by omega,by omega⟩)
 refine kD r (eL (F:=(kW F w0 w7 b4)) (n:=n) hF1 (D.cZ a0) ⟨255,[],[zp b1],CB,rfl,fun m hm x w' hs hz=>A9 (fun b hb=>Nat.lt_of_lt_of_le (hF1 b hb) hz) (fun m' hm'=>ih_free_Pop m' (by omega)) a0 f8 (hs.at_ f8 H1) x⟩) rfl fo rfl fun w9 v10 hb hr11 r=>?_;have Z9:=hb.size
 have H1:=keep hb H1;have H4:=keep hb H4;obtain ⟨hB,zB⟩:=bon hb hB;refine kP r hr11.shape rfl rfl H4 ts44 rfl rfl fun w12 u13 r=>?_;have Z12:=u13.size
 have H1:=u13.keep H1 (by omega)
 have H4:=u13.at_;obtain ⟨hB,zB⟩:=u13.on hB (by omega)
 exact wn (wp_ret (kR r hr11 rfl rfl H4 rfl ta44 hF hB u13 (by omega) (by omega) (by omega)))
theorem tq {n:Nat} {k:Nat} (hk:n<k):jz (D.cJ k) n:=by
  induction n using Nat.strongRecOn generalizing k with
  | _ n ih=>
    obtain ⟨k,rfl⟩:∃ q,k=q+1:=⟨k - 1,by omega⟩
    intro F w0 hF;have h:=@AE n F (D.cJ k) w0 hF (fun m hm=>ih m hm (by omega))
    exact h
def D.hO (r_free_Push:Plan→Int→T Int) (c0:Plan) (c1:Int) (a0:Bool):T Int:=(bif (!a0) then (r_free_Push c0 c1) else (D.cH c1))
def D.lI (r_free_Push:Plan→Int→T Int) (c0:Plan) (c1:Int) (c2:Int):T Int:=(D.oE (D.cZ c0) c1 (D.eU c1 (D.cT c2)) (fun x=>(D.hO r_free_Push c0 c2 x)))
def D.jI (r_free_Push:Plan→Int→T Int) (c0:Plan) (c1:Int) (a0:Int):T Int:=(D.dz (D.dh c0 c1) (D.bA D.bU a0) (fun _=>(D.lI r_free_Push c0 a0 c1)))
def D.ik (r_free_Push:Plan→Int→T Int) (a0:Plan) (a1:Int):T Int:=(bif ((D.dh a0 a1)==(-1)) then (D.cH (-1)) else (D.da (D.cZ a0) (fun x=>(D.jI r_free_Push a0 a1 x))))
def D.dV:Nat→Plan→Int→T Int
  | 0,_,_=>.cut
  | k+1,a0,a1=>D.ik (D.dV k) a0 a1
def jv (r:Plan→Int→T Int) (n:Nat):Prop:=∀ (F:Nat→Prop) (w0:World),(∀ b,F b→b<w0.heap.size)→∀ (a0:Plan) (a1:Int),Calls Tryz.prog 313 #[.agg (aa a0).toArray,.int .i64 a1] w0 (aB Tryz.prog ak n (r a0 a1) F w0)
theorem yG {r_free_Push:Plan→Int→T Int} (hF:kH F w0) (ih_free_Push:∀ m,m≤n→jv r_free_Push m)
    (c0:Plan) {c0b:Nat} (c0F:F c0b) (c0h:w0.heap[c0b]?=some (.cells ((aa c0)).toArray 23 (0,0))) (c1:Int) {c1b:Nat} (c1F:F c1b) (c1h:w0.heap[c1b]?=some (.cells ([(.int .i64 c1)]).toArray 3 (0,0))) (a0:Bool) :
    Calls Tryz.prog 361 #[.bool a0,zp c0b,zp c1b] w0 (aB Tryz.prog ak n (D.hO r_free_Push c0 c1 a0) F w0):=by
 refine kN Tryz.func361 rfl 12 rfl rfl fun fr r hB=>?_;have lc0b:=lt_of_block c0h
 have lc1b:=lt_of_block c1h;refine wsr ?_;refine ai (.cells (ae false ak.zero 0 0 0 0 .nilFunc) 44 (0,0)) r (fun R=>ah tz44) rfl fun fr b1 w2 n3 r=>?_;obtain ⟨E1,Z2,H1,hB,zB⟩:=n3.all hB
 refine wn (wp_seq (wsr (kM (.bool a0) r rfl rfl fun r=>ac (.bool (!a0)) r (fun R=>y_un r (u:=(.bool a0)) rfl rfl) rfl fun fr r=>wn ?_)));refine wp_cond_split (t:=(!a0)) (r.ev rfl) (fun h4=>?_) (fun h4=>?_)
 ·
  refine wsr (kG (aa c0) 6 r rfl (keep hB c0h) ta23 rfl rfl fun r=>kL (I c1) r rfl (keep hB c1h) to3 rfl rfl fun r=>?_);have hF1:=aM hF hB b1
  refine kD r ((ih_free_Push n (by omega)) (kW F w0 w2 b1) _ hF1 c0 c1) rfl vU rfl fun w5 v6 hb hr7 r=>?_;have Z5:=hb.size
  have H1:=keep hb H1;obtain ⟨hB,zB⟩:=bon hb hB;refine kP r hr7.shape rfl rfl H1 ts44 rfl rfl fun w8 u9 r=>?_;have Z8:=u9.size
  have H1:=u9.at_;obtain ⟨hB,zB⟩:=u9.on hB (by omega)
  refine wn (wp_ret ?_);have hd:D.hO r_free_Push c0 c1 a0=(r_free_Push c0 c1):=(aC h4).trans (rfl);have hs:=hr7.shape.cells;refine aq r rfl rfl H1 (k:=7) hs.1 ta44 ?_;rw [←hs.2.2,hd];exact rfin hF hB hr7 u9 (by omega) (by omega) (by omega)
 refine wp_skip (wsr (kL (I c1) r rfl (keep hB c1h) to3 rfl rfl fun r=>?_));have hF1:=aM hF hB b1
 refine kD r (dQ (F:=(kW F w0 w2 b1)) (n:=n) hF1 c1) rfl dZ rfl fun w10 v11 hb hr12 r=>?_;have Z10:=hb.size
 have H1:=keep hb H1;obtain ⟨hB,zB⟩:=bon hb hB;refine kP r hr12.shape rfl rfl H1 ts44 rfl rfl fun w13 u14 r=>?_;have Z13:=u14.size
 have H1:=u14.at_;obtain ⟨hB,zB⟩:=u14.on hB (by omega)
 refine wn (wp_ret ?_);have hd:D.hO r_free_Push c0 c1 a0=(D.cH c1):=(aF h4).trans (rfl);have hs:=hr12.shape.cells;refine aq r rfl rfl H1 (k:=7) hs.1 ta44 ?_;rw [←hs.2.2,hd];exact rfin hF hB hr12 u14 (by omega) (by omega) (by omega)
theorem zr {r_free_Push:Plan→Int→T Int} (hF:kH F w0) (ih_free_Push:∀ m,m<n→jv r_free_Push m)
    (c0:Plan) {c0b:Nat} (c0F:F c0b) (c0h:w0.heap[c0b]?=some (.cells ((aa c0)).toArray 23 (0,0))) (c1:Int) {c1b:Nat} (c1F:F c1b) (c1h:w0.heap[c1b]?=some (.cells ([(.int .u64 c1)]).toArray 36 (0,0))) (c2:Int) {c2b:Nat} (c2F:F c2b) (c2h:w0.heap[c2b]?=some (.cells ([(.int .i64 c2)]).toArray 3 (0,0))) :
    Calls Tryz.prog 360 #[zp c0b,zp c1b,zp c2b] w0 (aB Tryz.prog ak n (D.lI r_free_Push c0 c1 c2) F w0):=by
 refine kN Tryz.func360 rfl 13 rfl rfl fun fr r hB=>?_;have lc0b:=lt_of_block c0h
 have lc1b:=lt_of_block c1h;have lc2b:=lt_of_block c2h;refine wsr ?_;refine ai (.cells (ae false ak.zero 0 0 0 0 .nilFunc) 44 (0,0)) r (fun R=>ah tz44) rfl fun fr b1 w2 n3 r=>?_;obtain ⟨E1,Z2,H1,hB,zB⟩:=n3.all hB
 refine wn (wp_seq ?_);refine bH 8 [.val (.agg (aa c0).toArray),.val (I (D.cZ c0)),.val (U c1),.val (U c1),.val (I c2),.val (U (D.cT c2)),.val (U (D.eU c1 (D.cT c2))),.val (.func (.func 361) #[] #[zp c0b,zp c2b])] mixed r (by kernel_rfl) (kV (kV (kV (kV (kV (kV (kV (kV bG)))))))) ?_ ?_
 ·
  refine ec r (fun _ u _ b d s=>aW s (cs:=(aa c0)) (n:=6) rfl (bY hB b c0h) ta23 rfl bz) (ec r (fun fr1 u w' hb' hd r'=>aN r' (args:=[(.agg (aa c0).toArray)]) (lc hd.1 l0) ko ((jm _ c0).mono (by rintro _ w2 ⟨rfl,hb2⟩; exact ⟨_,rfl,hb2,rfl⟩))) (ec r (fun _ u _ b d s=>av s rfl (bY hB b c1h) to36 rfl bz) (ec r (fun _ u _ b d s=>av s rfl (bY hB b c1h) to36 rfl bz) (ec r (fun _ u _ b d s=>av s rfl (bY hB b c2h) to3 rfl bz) (ec r (fun fr1 u w' hb' hd r'=>aN r' (args:=[(I c2)]) (lc hd.1 l0) qL ((oP _ c2).mono (by rintro _ w2 ⟨rfl,hb2⟩; exact ⟨_,rfl,hb2,rfl⟩))) (ec r (fun fr1 u w' hb' hd r'=>aN r' (args:=[(U c1),(U (D.cT c2))]) (lc hd.1 (lc hd.2.1 l0)) vV ((sq _ c1 (D.cT c2)).mono (by rintro _ w2 ⟨rfl,hb2⟩; exact ⟨_,rfl,hb2,rfl⟩))) (ec r (fun _ u _ b d s=>aT s (v:=(.func (.func 361) #[] #[zp c0b,zp c2b])) rfl bz) ?_)))))));exact bI
 intro fr u w4 hb hΦ hne r;have r:=r.congr (sc (hΦ 7 (by decide)) (sc (hΦ 6 (by decide)) (sc (hΦ 5 (by decide)) (sc (hΦ 4 (by decide)) (sc (hΦ 3 (by decide)) (sc (hΦ 2 (by decide)) (sc (hΦ 1 (by decide)) (sc (hΦ 0 (by decide)) rfl))))))));have Z4:=hb.size;have H1:=keep hb H1;obtain ⟨hB,zB⟩:=bon hb hB;have hF1:=aM hF hB b1;have f5:((kW F w0 w4 b1)) c0b:=(.inl c0F);have f6:((kW F w0 w4 b1)) c2b:=(.inl c2F);refine kD r (rO (F:=(kW F w0 w4 b1)) (n:=n) hF1 (D.cZ c0) c1 (D.eU c1 (D.cT c2)) ⟨361,[],[zp c0b,zp c2b],CZ,rfl,fun m hm x w' hs hz=>yG (fun b hb=>Nat.lt_of_lt_of_le (hF1 b hb) hz) (fun m' hm'=>ih_free_Push m' (by omega)) c0 f5 (hs.at_ f5 (keep hB c0h)) c2 f6 (hs.at_ f6 (keep hB c2h)) x⟩) rfl wu rfl fun w7 v8 hb hr9 r=>?_;have Z7:=hb.size
 have H1:=keep hb H1;obtain ⟨hB,zB⟩:=bon hb hB;refine kP r hr9.shape rfl rfl H1 ts44 rfl rfl fun w10 u11 r=>?_;have Z10:=u11.size
 have H1:=u11.at_;obtain ⟨hB,zB⟩:=u11.on hB (by omega)
 exact wn (wp_ret (kR r hr9 rfl rfl H1 rfl ta44 hF hB u11 (by omega) (by omega) (by omega)))
theorem zH {r_free_Push:Plan→Int→T Int} (hF:kH F w0) (ih_free_Push:∀ m,m<n→jv r_free_Push m)
    (c0:Plan) {c0b:Nat} (c0F:F c0b) (c0h:w0.heap[c0b]?=some (.cells ((aa c0)).toArray 23 (0,0))) (c1:Int) {c1b:Nat} (c1F:F c1b) (c1h:w0.heap[c1b]?=some (.cells ([(.int .i64 c1)]).toArray 3 (0,0))) (a0:Int) :
    Calls Tryz.prog 359 #[.int .u64 a0,zp c0b,zp c1b] w0 (aB Tryz.prog ak n (D.jI r_free_Push c0 c1 a0) F w0):=by
 refine kN Tryz.func359 rfl 13 rfl rfl fun fr r hB=>?_;have lc0b:=lt_of_block c0h
 have lc1b:=lt_of_block c1h;refine wsr ?_;refine kX 36 (U a0) r rfl rfl fun b1 w2 n3 r=>?_;obtain ⟨E1,Z2,H1,hB,zB⟩:=n3.all hB
 refine ai (.cells (ae false ak.zero 0 0 0 0 .nilFunc) 44 (0,0)) r (fun R=>ah tz44) rfl fun fr b4 w5 n6 r=>?_;have H1:=keep n6.below H1
 obtain ⟨E4,Z5,H4,hB,zB⟩:=n6.all hB;refine wn (wp_seq ?_);refine bH 7 [.val (.agg (aa c0).toArray),.val (I c1),.val (I (D.dh c0 c1)),.val (.agg (aG D.bU).toArray),.val (U a0),.val (U (D.bA D.bU a0)),.val (.func (.func 360) #[] #[zp c0b,zp b1,zp c1b])] mixed r (by kernel_rfl) (kV (kV (kV (kV (kV (kV (kV bG))))))) ?_ ?_
 ·
  refine ec r (fun _ u _ b d s=>aW s (cs:=(aa c0)) (n:=6) rfl (bY hB b c0h) ta23 rfl bz) (ec r (fun _ u _ b d s=>av s rfl (bY hB b c1h) to3 rfl bz) (ec r (fun fr1 u w' hb' hd r'=>aN r' (args:=[(.agg (aa c0).toArray),(I c1)]) (lc hd.1 (lc hd.2.1 l0)) nu ((ll _ c0 c1).mono (by rintro _ w2 ⟨rfl,hb2⟩; exact ⟨_,rfl,hb2,rfl⟩))) (ec r (fun fr1 u w' hb' hd r'=>aN r' (args:=[]) (l0) qw ((oQ _ ).mono (by rintro _ w2 ⟨rfl,hb2⟩; exact ⟨_,rfl,hb2,rfl⟩))) (ec r (fun _ u _ b d s=>av s rfl (keep b H1) to36 rfl bz) (ec r (fun fr1 u w' hb' hd r'=>aN r' (args:=[(.agg (aG D.bU).toArray),(U a0)]) (lc hd.1 (lc hd.2.1 l0)) kv ((lf _ D.bU a0).mono (by rintro _ w2 ⟨rfl,hb2⟩; exact ⟨_,rfl,hb2,rfl⟩))) (ec r (fun _ u _ b d s=>aT s (v:=(.func (.func 360) #[] #[zp c0b,zp b1,zp c1b])) rfl bz) ?_))))));exact bI
 intro fr u w7 hb hΦ hne r;have r:=r.congr (sc (hΦ 6 (by decide)) (sc (hΦ 5 (by decide)) (sc (hΦ 4 (by decide)) (sc (hΦ 3 (by decide)) (sc (hΦ 2 (by decide)) (sc (hΦ 1 (by decide)) (sc (hΦ 0 (by decide)) rfl)))))));have Z7:=hb.size;have H1:=keep hb H1;have H4:=keep hb H4;obtain ⟨hB,zB⟩:=bon hb hB;have hF1:=aM hF hB b4;have f8:((kW F w0 w7 b4)) c0b:=(.inl c0F);have f9:((kW F w0 w7 b4)) b1:=(.inr ⟨by omega,by omega,by omega⟩)
 have f10:((kW F w0 w7 b4)) c1b:=(.inl c1F);refine kD r (fD (F:=(kW F w0 w7 b4)) (n:=n) hF1 (D.dh c0 c1) (D.bA D.bU a0) ⟨360,[],[zp c0b,zp b1,zp c1b],Eo,rfl,fun m hm _ w' hs hz=>zr (fun b hb=>Nat.lt_of_lt_of_le (hF1 b hb) hz) (fun m' hm'=>ih_free_Push m' (by omega)) c0 f8 (hs.at_ f8 (keep hB c0h)) a0 f9 (hs.at_ f9 H1) c1 f10 (hs.at_ f10 (keep hB c1h))⟩) rfl gk rfl fun w11 v12 hb hr13 r=>?_;have Z11:=hb.size
 have H1:=keep hb H1;have H4:=keep hb H4;obtain ⟨hB,zB⟩:=bon hb hB;refine kP r hr13.shape rfl rfl H4 ts44 rfl rfl fun w14 u15 r=>?_;have Z14:=u15.size
 have H1:=u15.keep H1 (by omega)
 have H4:=u15.at_;obtain ⟨hB,zB⟩:=u15.on hB (by omega)
 exact wn (wp_ret (kR r hr13 rfl rfl H4 rfl ta44 hF hB u15 (by omega) (by omega) (by omega)))
theorem Al {n:Nat} {F:Nat→Prop} {r_free_Push:Plan→Int→T Int} {w0:World} (hF:∀ b,F b→b<w0.heap.size) (ih_free_Push:∀ m,m<n→jv r_free_Push m)
    (a0:Plan) (a1:Int) :
    Calls Tryz.prog 313 #[.agg (aa a0).toArray,.int .i64 a1] w0 (aB Tryz.prog ak n (D.ik r_free_Push a0 a1) F w0):=by
 refine kN Tryz.func313 rfl 14 rfl rfl fun fr r hB=>?_;refine wsr ?_
 refine kX 23 (.agg (aa a0).toArray) r rfl rfl fun b1 w2 n3 r=>?_;obtain ⟨E1,Z2,H1,hB,zB⟩:=n3.all hB
 refine kX 3 (I a1) r rfl rfl fun b4 w5 n6 r=>?_;have H1:=keep n6.below H1
 obtain ⟨E4,Z5,H4,hB,zB⟩:=n6.all hB;refine ai (.cells (ae false ak.zero 0 0 0 0 .nilFunc) 44 (0,0)) r (fun R=>ah tz44) rfl fun fr b7 w8 n9 r=>?_;have H1:=keep n9.below H1
 have H4:=keep n9.below H4;obtain ⟨E7,Z8,H7,hB,zB⟩:=n9.all hB;refine wn (wp_seq (wsr (kG (aa a0) 6 r rfl H1 ta23 rfl rfl fun r=>kL (I a1) r rfl H4 to3 rfl rfl fun r=>?_)));refine kE r (ll w8 a0 a1) rfl nu rfl fun w10 hb r=>?_
 have Z10:=hb.size;have H1:=keep hb H1;have H4:=keep hb H4;have H7:=keep hb H7;obtain ⟨hB,zB⟩:=bon hb hB;refine kB r rfl rfl rfl rfl rfl fun r=>wn ?_;refine wp_cond_split (t:=((D.dh a0 a1)==(-1))) (r.ev rfl) (fun h11=>?_) (fun h11=>?_)
 ·
  refine wsr ?_;have hF1:=aM hF hB b7;refine kD r (dQ (F:=(kW F w0 w10 b7)) (n:=n) hF1 (-1)) rfl dZ rfl fun w12 v13 hb hr14 r=>?_;have Z12:=hb.size
  have H1:=keep hb H1;have H4:=keep hb H4;have H7:=keep hb H7;obtain ⟨hB,zB⟩:=bon hb hB;refine kP r hr14.shape rfl rfl H7 ts44 rfl rfl fun w15 u16 r=>?_;have Z15:=u16.size
  have H1:=u16.keep H1 (by omega)
  have H4:=u16.keep H4 (by omega)
  have H7:=u16.at_;obtain ⟨hB,zB⟩:=u16.on hB (by omega)
  refine wn (wp_ret ?_);have hd:D.ik r_free_Push a0 a1=(D.cH (-1)):=(aC h11).trans (rfl);have hs:=hr14.shape.cells;refine aq r rfl rfl H7 (k:=7) hs.1 ta44 ?_;rw [←hs.2.2,hd];exact rfin hF hB hr14 u16 (by omega) (by omega) (by omega)
 refine wp_skip (wsr (kG (aa a0) 6 r rfl H1 ta23 rfl rfl fun r=>?_));refine kE r (jm w10 a0) rfl ko rfl fun w17 hb r=>?_
 have Z17:=hb.size;have H1:=keep hb H1;have H4:=keep hb H4;have H7:=keep hb H7;obtain ⟨hB,zB⟩:=bon hb hB;refine ac (.func (.func 359) #[] #[zp b1,zp b4]) r (fun R=>aT r rfl) rfl fun fr r=>?_;have hF1:=aM hF hB b7
 have f18:((kW F w0 w17 b7)) b1:=(.inr ⟨by omega,by omega,by omega⟩)
 have f19:((kW F w0 w17 b7)) b4:=(.inr ⟨by omega,by omega,by omega⟩)
 refine kD r (eL (F:=(kW F w0 w17 b7)) (n:=n) hF1 (D.cZ a0) ⟨359,[],[zp b1,zp b4],Dj,rfl,fun m hm x w' hs hz=>zH (fun b hb=>Nat.lt_of_lt_of_le (hF1 b hb) hz) (fun m' hm'=>ih_free_Push m' (by omega)) a0 f18 (hs.at_ f18 H1) a1 f19 (hs.at_ f19 H4) x⟩) rfl fo rfl fun w20 v21 hb hr22 r=>?_;have Z20:=hb.size
 have H1:=keep hb H1;have H4:=keep hb H4;have H7:=keep hb H7;obtain ⟨hB,zB⟩:=bon hb hB;refine kP r hr22.shape rfl rfl H7 ts44 rfl rfl fun w23 u24 r=>?_;have Z23:=u24.size
 have H1:=u24.keep H1 (by omega)
 have H4:=u24.keep H4 (by omega)
 have H7:=u24.at_;obtain ⟨hB,zB⟩:=u24.on hB (by omega)
 refine wn (wp_ret ?_);have hd:D.ik r_free_Push a0 a1=(D.da (D.cZ a0) (fun x=>(D.jI r_free_Push a0 a1 x))):=(aF h11).trans (rfl)
 have hs:=hr22.shape.cells;refine aq r rfl rfl H7 (k:=7) hs.1 ta44 ?_;rw [←hs.2.2,hd];exact rfin hF hB hr22 u24 (by omega) (by omega) (by omega)
theorem Ao {n:Nat} {k:Nat} (hk:n<k):jv (D.dV k) n:=by
  induction n using Nat.strongRecOn generalizing k with
  | _ n ih=>
    obtain ⟨k,rfl⟩:∃ q,k=q+1:=⟨k - 1,by omega⟩
    intro F w0 hF;have h:=@Al n F (D.dV k) w0 hF (fun m hm=>ih m hm (by omega))
    exact h
end
end Go.Proofs.YtikjpdpgdmbdpaaGreat

/- Some of our texts, one behind the other. -/
import Derived.Test.YtikjpdpgdmbdpaaGreatLrM9
import Derived.Test.YtikjpdpgdmbdpaaGreatLrMems
set_option linter.all false
/- Ours. -/
set_option maxRecDepth 20000
set_option maxHeartbeats 2000000
namespace Go.Proofs.YtikjpdpgdmbdpaaGreat
open Go.RowKit
section
variable {n : Nat} {F : Nat → Prop} {j : Nat} {w0 : World}
theorem rj:ag Tryz.prog 282:=kz
theorem wD:ag Tryz.prog 307:=kz
theorem wC:ag Tryz.prog 316:=kz
theorem FT:ag Tryz.prog 317:=kz
theorem wL:ag Tryz.prog 318:=kz
theorem xj:ag Tryz.prog 346:=kz
theorem DM:ag Tryz.prog 357:=kz
theorem xn:ag Tryz.prog 363:=kz
theorem DZ:ag Tryz.prog 365:=kz
theorem DA:ag Tryz.prog 366:=kz
theorem xq:ag Tryz.prog 384:=kz
theorem wX:ag Tryz.prog 404:=kz
theorem DU:ag Tryz.prog 405:=kz
theorem Dy:ag Tryz.prog 406:=kz
theorem cl67:ag Tryz.prog 67:=kz
def D.gO (a0:Int):Int:=(IntKind.u64.wrap (IntKind.i64.wrap (a0+1)))
theorem sT (w0:World) 
    (a0:Int) :
    Calls Tryz.prog 346 #[.int .i64 a0] w0 (bw (.int .u64 (D.gO a0)) w0):=by
 refine kN Tryz.func346 rfl 6 rfl rfl fun fr r hB=>?_;refine wsr (kA (U 0) r rfl rfl fun r=>wn (wsr (kM (I a0) r rfl rfl fun r=>kB r rfl rfl rfl rfl rfl fun r=>ac (U (V (W (a0+1)))) r (fun R=>cK r rfl ti3 ti36) rfl fun fr r=>kA (U (V (W (a0+1)))) r rfl rfl fun r=>wn (wp_ret ?_))))
 refine bg r rfl rfl ?_;exact ⟨rfl,hB⟩
def D.eS (r_hazard_held:Plan→Int→Int→T Bool) (c0:Int) (c1:Plan) (c2:Int) (a0:Int):T Bool:=(bif (a0==(D.gO c0)) then (D.jp true) else (r_hazard_held c1 c0 (IntKind.i64.wrap (c2+1))))
def D.eP (r_hazard_held:Plan→Int→Int→T Bool) (a0:Plan) (a1:Int) (a2:Int):T Bool:=(bif (a2==(IntKind.i64.wrap (a0.threads * 3))) then (D.jp false) else (D.oC (D.eQ a0 (IntKind.i64.wrap (a2.tdiv 3)) (a2.tmod 3)) (fun x=>(D.eS r_hazard_held a1 a0 a2 x))))
def D.dD:Nat→Plan→Int→Int→T Bool
  | 0,_,_,_=>.cut
  | k+1,a0,a1,a2=>D.eP (D.dD k) a0 a1 a2
def og (r:Plan→Int→Int→T Bool) (n:Nat):Prop:=∀ (F:Nat→Prop) (w0:World),(∀ b,F b→b<w0.heap.size)→∀ (a0:Plan) (a1:Int) (a2:Int),Calls Tryz.prog 384 #[.agg (ae a0).toArray,.int .i64 a1,.int .i64 a2] w0 (aC Tryz.prog cd n (r a0 a1 a2) F w0)
theorem A7 {r_hazard_held:Plan→Int→Int→T Bool} (hF:kH F w0) (ih_hazard_held:∀ m,m≤n→og r_hazard_held m)
    (c0:Int) {c0b:Nat} (c0F:F c0b) (c0h:w0.heap[c0b]?=some (.cells ([(.int .i64 c0)]).toArray 3 (0,0))) (c1:Plan) {c1b:Nat} (c1F:F c1b) (c1h:w0.heap[c1b]?=some (.cells ((ae c1)).toArray 23 (0,0))) (c2:Int) {c2b:Nat} (c2F:F c2b) (c2h:w0.heap[c2b]?=some (.cells ([(.int .i64 c2)]).toArray 3 (0,0))) (a0:Int) :
    Calls Tryz.prog 406 #[.int .u64 a0,zp c0b,zp c1b,zp c2b] w0 (aC Tryz.prog cd n (D.eS r_hazard_held c0 c1 c2 a0) F w0):=by
 refine kN Tryz.func406 rfl 16 rfl rfl fun fr r hB=>?_;have lc0b:=lt_of_block c0h
 have lc1b:=lt_of_block c1h;have lc2b:=lt_of_block c2h;refine wsr ?_;refine ai (.cells (af false cd.zero 0 0 0 0 .nilFunc) 316 (0,0)) r (fun R=>ah j8) rfl fun fr b1 w2 n3 r=>?_;obtain ⟨eb1,zw2,hb1,hB,zB⟩:=n3.all hB
 refine wn (wp_seq (wsr (kM (U a0) r rfl rfl fun r=>kL (I c0) r rfl (keep hB c0h) to3 rfl rfl fun r=>?_)));refine kE r (sT w2 c0) rfl xj rfl fun w4 hb r=>?_
 have zw4:=hb.size;have hb1:=keep hb hb1;obtain ⟨hB,zB⟩:=bon hb hB;refine kB r rfl rfl rfl rfl rfl fun r=>wn ?_;refine wp_cond_split (t:=(a0==(D.gO c0))) (r.ev rfl) (fun h5=>?_) (fun h5=>?_)
 ·
  refine wsr ?_;have hF1:=aO hF hB b1;refine kD r (s5 (F:=(kW F w0 w4 b1)) (n:=n) hF1 true) rfl wX rfl fun w6 v7 hb hr8 r=>?_;have zw6:=hb.size
  have hb1:=keep hb hb1;obtain ⟨hB,zB⟩:=bon hb hB;refine kP r hr8.shape rfl rfl hb1 gC rfl rfl fun w9 u10 r=>?_;have zw9:=u10.size
  have hb1:=u10.at_;obtain ⟨hB,zB⟩:=u10.on hB kw
  refine wn (wp_ret ?_);have hd:D.eS r_hazard_held c0 c1 c2 a0=(D.jp true):=(az h5).trans (rfl);have hs:=hr8.shape.cells;refine ar r rfl rfl hb1 (k:=7) hs.1 gz ?_;rw [←hs.2.2,hd];exact rfin hF hB hr8 u10 kw kw kw
 refine wp_skip (wsr (kG (ae c1) 6 r rfl (keep hB c1h) ta23 rfl rfl fun r=>kL (I c0) r rfl (keep hB c0h) to3 rfl rfl fun r=>kL (I c2) r rfl (keep hB c2h) to3 rfl rfl fun r=>kB r rfl rfl rfl rfl rfl fun r=>?_));have hF1:=aO hF hB b1
 refine kD r ((ih_hazard_held n kw) (kW F w0 w4 b1) _ hF1 c1 c0 (W (c2+1))) rfl xq rfl fun w11 v12 hb hr13 r=>?_;have zw11:=hb.size
 have hb1:=keep hb hb1;obtain ⟨hB,zB⟩:=bon hb hB;refine kP r hr13.shape rfl rfl hb1 gC rfl rfl fun w14 u15 r=>?_;have zw14:=u15.size
 have hb1:=u15.at_;obtain ⟨hB,zB⟩:=u15.on hB kw
 refine wn (wp_ret ?_);have hd:D.eS r_hazard_held c0 c1 c2 a0=(r_hazard_held c1 c0 (W (c2+1))):=(aB h5).trans (rfl);have hs:=hr13.shape.cells;refine ar r rfl rfl hb1 (k:=7) hs.1 gz ?_;rw [←hs.2.2,hd];exact rfin hF hB hr13 u15 kw kw kw
theorem Aw {n:Nat} {F:Nat→Prop} {r_hazard_held:Plan→Int→Int→T Bool} {w0:World} (hF:∀ b,F b→b<w0.heap.size) (ih_hazard_held:∀ m,m<n→og r_hazard_held m)
    (a0:Plan) (a1:Int) (a2:Int) :
    Calls Tryz.prog 384 #[.agg (ae a0).toArray,.int .i64 a1,.int .i64 a2] w0 (aC Tryz.prog cd n (D.eP r_hazard_held a0 a1 a2) F w0):=by
 refine kN Tryz.func384 rfl 21 rfl rfl fun fr r hB=>?_;refine wsr ?_
 refine kX 23 (.agg (ae a0).toArray) r rfl rfl fun b1 w2 n3 r=>?_;obtain ⟨eb1,zw2,hb1,hB,zB⟩:=n3.all hB
 refine kX 3 (I a1) r rfl rfl fun b4 w5 n6 r=>?_;have hb1:=keep n6.below hb1
 obtain ⟨eb4,zw5,hb4,hB,zB⟩:=n6.all hB;refine kX 3 (I a2) r rfl rfl fun b7 w8 n9 r=>?_;have hb1:=keep n9.below hb1
 have hb4:=keep n9.below hb4;obtain ⟨eb7,zw8,hb7,hB,zB⟩:=n9.all hB;refine ai (.cells (af false cd.zero 0 0 0 0 .nilFunc) 316 (0,0)) r (fun R=>ah j8) rfl fun fr b10 w11 n12 r=>?_;have hb1:=keep n12.below hb1
 have hb4:=keep n12.below hb4;have hb7:=keep n12.below hb7;obtain ⟨eb10,zw11,hb10,hB,zB⟩:=n12.all hB;refine wn (wp_seq (wsr (kL (I a2) r rfl hb7 to3 rfl rfl fun r=>kF 0 r rfl j5 rfl fun r=>kL (I a0.threads) r rfl hb1 to3 rfl rfl fun r=>kB r rfl rfl rfl rfl rfl fun r=>kB r rfl rfl rfl rfl rfl fun r=>wn ?_)));refine wp_cond_split (t:=(a2==(W (a0.threads * 3)))) (r.ev rfl) (fun h13=>?_) (fun h13=>?_)
 ·
  refine wsr ?_;have hF1:=aO hF hB b10;refine kD r (s5 (F:=(kW F w0 w11 b10)) (n:=n) hF1 false) rfl wX rfl fun w14 v15 hb hr16 r=>?_;have zw14:=hb.size
  have hb1:=keep hb hb1;have hb4:=keep hb hb4;have hb7:=keep hb hb7;have hb10:=keep hb hb10;obtain ⟨hB,zB⟩:=bon hb hB;refine kP r hr16.shape rfl rfl hb10 gC rfl rfl fun w17 u18 r=>?_;have zw17:=u18.size
  have hb1:=u18.keep hb1 kw
  have hb4:=u18.keep hb4 kw
  have hb7:=u18.keep hb7 kw
  have hb10:=u18.at_;obtain ⟨hB,zB⟩:=u18.on hB kw
  refine wn (wp_ret ?_);have hd:D.eP r_hazard_held a0 a1 a2=(D.jp false):=(az h13).trans (rfl);have hs:=hr16.shape.cells;refine ar r rfl rfl hb10 (k:=7) hs.1 gz ?_;rw [←hs.2.2,hd];exact rfin hF hB hr16 u18 kw kw kw
 refine wp_skip (wsr (kG (ae a0) 6 r rfl hb1 ta23 rfl rfl fun r=>kL (I a2) r rfl hb7 to3 rfl rfl fun r=>kB r rfl rfl rfl rfl rfl fun r=>kL (I a2) r rfl hb7 to3 rfl rfl fun r=>kB r rfl rfl rfl rfl rfl fun r=>?_));refine kE r (rQ w11 a0 (W (a2.tdiv 3)) (a2.tmod 3)) rfl cl67 rfl fun w19 hb r=>?_
 have zw19:=hb.size;have hb1:=keep hb hb1;have hb4:=keep hb hb4;have hb7:=keep hb hb7;have hb10:=keep hb hb10;obtain ⟨hB,zB⟩:=bon hb hB;refine ac (.func (.func 406) #[] #[zp b4,zp b1,zp b7]) r (fun R=>aU r rfl) rfl fun fr r=>?_;have hF1:=aO hF hB b10
 have f20:((kW F w0 w19 b10)) b4:=(.inr ⟨kw,kw,kw⟩)
 have f21:((kW F w0 w19 b10)) b1:=(.inr ⟨kw,kw,kw⟩)
 have f22:((kW F w0 w19 b10)) b7:=(.inr ⟨kw,kw,kw⟩)
 refine kD r (zG (F:=(kW F w0 w19 b10)) (n:=n) hF1 (D.eQ a0 (W (a2.tdiv 3)) (a2.tmod 3)) ⟨406,[],[zp b4,zp b1,zp b7],Dy,rfl,fun m hm x w' hs hz=>A7 (fun b hb=>Nat.lt_of_lt_of_le (hF1 b hb) hz) (fun m' hm'=>ih_hazard_held m' kw) a1 f20 (hs.at_ f20 hb4) a0 f21 (hs.at_ f21 hb1) a2 f22 (hs.at_ f22 hb7) x⟩) rfl DU rfl fun w23 v24 hb hr25 r=>?_;have zw23:=hb.size
 have hb1:=keep hb hb1;have hb4:=keep hb hb4;have hb7:=keep hb hb7;have hb10:=keep hb hb10;obtain ⟨hB,zB⟩:=bon hb hB;refine kP r hr25.shape rfl rfl hb10 gC rfl rfl fun w26 u27 r=>?_;have zw26:=u27.size
 have hb1:=u27.keep hb1 kw
 have hb4:=u27.keep hb4 kw
 have hb7:=u27.keep hb7 kw
 have hb10:=u27.at_;obtain ⟨hB,zB⟩:=u27.on hB kw
 refine wn (wp_ret ?_);have hd:D.eP r_hazard_held a0 a1 a2=(D.oC (D.eQ a0 (W (a2.tdiv 3)) (a2.tmod 3)) (fun x=>(D.eS r_hazard_held a1 a0 a2 x))):=(aB h13).trans (rfl)
 have hs:=hr25.shape.cells;refine ar r rfl rfl hb10 (k:=7) hs.1 gz ?_;rw [←hs.2.2,hd];exact rfin hF hB hr25 u27 kw kw kw
theorem AH {n:Nat} {k:Nat} (hk:n<k):og (D.dD k) n:=by
  induction n using Nat.strongRecOn generalizing k with
  | _ n ih=>
    obtain ⟨k,rfl⟩:∃ q,k=q+1:=⟨k - 1,kw⟩
    intro F w0 hF;have h:=@Aw n F (D.dD k) w0 hF (fun m hm=>ih m hm kw)
    exact h
def D.lY (j:Nat) (a0:Plan) (a1:Int):T Bool:=(D.dD j a0 a1 0)
theorem AK (hF:kH F w0) (hj:n<j)
    (a0:Plan) (a1:Int) :
    Calls Tryz.prog 335 #[.agg (ae a0).toArray,.int .i64 a1] w0 (aC Tryz.prog cd n (D.lY j a0 a1) F w0):=by
 refine kN Tryz.func335 rfl 8 rfl rfl fun fr r hB=>?_;refine wsr ?_
 refine kX 23 (.agg (ae a0).toArray) r rfl rfl fun b1 w2 n3 r=>?_;obtain ⟨eb1,zw2,hb1,hB,zB⟩:=n3.all hB
 refine ai (.cells (af false cd.zero 0 0 0 0 .nilFunc) 316 (0,0)) r (fun R=>ah j8) rfl fun fr b4 w5 n6 r=>?_;have hb1:=keep n6.below hb1
 obtain ⟨eb4,zw5,hb4,hB,zB⟩:=n6.all hB;refine wn (wsr (kG (ae a0) 6 r rfl hb1 ta23 rfl rfl fun r=>kM (I a1) r rfl rfl fun r=>?_));have hF1:=aO hF hB b4
 refine kD r ((AH (k:=j) (n:=n) kw) (kW F w0 w5 b4) _ hF1 a0 a1 0) rfl xq rfl fun w7 v8 hb hr9 r=>?_;have zw7:=hb.size
 have hb1:=keep hb hb1;have hb4:=keep hb hb4;obtain ⟨hB,zB⟩:=bon hb hB;refine kP r hr9.shape rfl rfl hb4 gC rfl rfl fun w10 u11 r=>?_;have zw10:=u11.size
 have hb1:=u11.keep hb1 kw
 have hb4:=u11.at_;obtain ⟨hB,zB⟩:=u11.on hB kw
 exact wn (wp_ret (kR r hr9 rfl rfl hb4 rfl gz hF hB u11 kw kw kw))
def D.dT (a0:Plan) (a1:Int) (a2:Int) (a3:Int):T Unit:=(D.jR (D.eQ a0 a1 a2) (D.gO a3))
theorem oN (hF:kH F w0)
    (a0:Plan) (a1:Int) (a2:Int) (a3:Int) :
    Calls Tryz.prog 282 #[.agg (ae a0).toArray,.int .i64 a1,.int .i64 a2,.int .i64 a3] w0 (aC Tryz.prog aA n (D.dT a0 a1 a2 a3) F w0):=by
 refine kN Tryz.func282 rfl 16 rfl rfl fun fr r hB=>?_;refine wsr ?_
 refine kX 23 (.agg (ae a0).toArray) r rfl rfl fun b1 w2 n3 r=>?_;obtain ⟨eb1,zw2,hb1,hB,zB⟩:=n3.all hB
 refine ai (.cells (af false aA.zero 0 0 0 0 .nilFunc) 157 (0,0)) r (fun R=>ah cZ) rfl fun fr b4 w5 n6 r=>?_;have hb1:=keep n6.below hb1
 obtain ⟨eb4,zw5,hb4,hB,zB⟩:=n6.all hB;refine wn (wsr (kG (ae a0) 6 r rfl hb1 ta23 rfl rfl fun r=>kM (I a1) r rfl rfl fun r=>kM (I a2) r rfl rfl fun r=>?_));refine kE r (rQ w5 a0 a1 a2) rfl cl67 rfl fun w7 hb r=>?_
 have zw7:=hb.size;have hb1:=keep hb hb1;have hb4:=keep hb hb4;obtain ⟨hB,zB⟩:=bon hb hB;refine kM (I a3) r rfl rfl fun r=>?_;refine kE r (sT w7 a3) rfl xj rfl fun w8 hb r=>?_
 have zw8:=hb.size;have hb1:=keep hb hb1;have hb4:=keep hb hb4;obtain ⟨hB,zB⟩:=bon hb hB;have hF1:=aO hF hB b4;refine kD r (tF (F:=(kW F w0 w8 b4)) (n:=n) hF1 (D.eQ a0 a1 a2) (D.gO a3)) rfl xl rfl fun w9 v10 hb hr11 r=>?_;have zw9:=hb.size
 have hb1:=keep hb hb1;have hb4:=keep hb hb4;obtain ⟨hB,zB⟩:=bon hb hB;refine kP r hr11.shape rfl rfl hb4 cI rfl rfl fun w12 u13 r=>?_;have zw12:=u13.size
 have hb1:=u13.keep hb1 kw
 have hb4:=u13.at_;obtain ⟨hB,zB⟩:=u13.on hB kw
 exact wn (wp_ret (kR r hr11 rfl rfl hb4 rfl cC hF hB u13 kw kw kw))
def D.jl (r_hazard_guard:Plan→Int→Int→Int→Int→Int→T Int) (c0:Int) (c1:Plan) (c2:Int) (c3:Int) (c4:Int) (c5:Int) (a0:Int):T Int:=(bif (a0==c0) then (D.jk c0) else (r_hazard_guard c1 c2 c3 c4 c5 a0))
def D.lL (r_hazard_guard:Plan→Int→Int→Int→Int→Int→T Int) (c0:Int) (c1:Int) (c2:Plan) (c3:Int) (c4:Int) (c5:Int):T Int:=(D.lC c0 (fun x=>(D.jl r_hazard_guard c1 c2 c3 c4 c0 c5 x)))
def D.gG (r_hazard_guard:Plan→Int→Int→Int→Int→Int→T Int) (a0:Plan) (a1:Int) (a2:Int) (a3:Int) (a4:Int) (a5:Int):T Int:=(bif (decide ((IntKind.i64.wrap ((IntKind.i64.wrap (shrI .u64 a5 a4)) - 1))<0)) then (D.jk a5) else (T.bind (D.dT a0 a1 a2 (IntKind.i64.wrap ((IntKind.i64.wrap (shrI .u64 a5 a4)) - 1))) (fun _=>(D.lL r_hazard_guard a3 a5 a0 a1 a2 a4))))
def D.eF:Nat→Plan→Int→Int→Int→Int→Int→T Int
  | 0,_,_,_,_,_,_=>.cut
  | k+1,a0,a1,a2,a3,a4,a5=>D.gG (D.eF k) a0 a1 a2 a3 a4 a5
def lp (r:Plan→Int→Int→Int→Int→Int→T Int) (n:Nat):Prop:=∀ (F:Nat→Prop) (w0:World),(∀ b,F b→b<w0.heap.size)→∀ (a0:Plan) (a1:Int) (a2:Int) (a3:Int) (a4:Int) (a5:Int) (_:0≤a4),Calls Tryz.prog 318 #[.agg (ae a0).toArray,.int .i64 a1,.int .i64 a2,.int .i64 a3,.int .i64 a4,.int .u64 a5] w0 (aC Tryz.prog bC n (r a0 a1 a2 a3 a4 a5) F w0)
theorem zf {r_hazard_guard:Plan→Int→Int→Int→Int→Int→T Int} (hF:kH F w0) (ih_hazard_guard:∀ m,m≤n→lp r_hazard_guard m)
    (c0:Int) {c0b:Nat} (c0F:F c0b) (c0h:w0.heap[c0b]?=some (.cells ([(.int .u64 c0)]).toArray 36 (0,0))) (c1:Plan) {c1b:Nat} (c1F:F c1b) (c1h:w0.heap[c1b]?=some (.cells ((ae c1)).toArray 23 (0,0))) (c2:Int) {c2b:Nat} (c2F:F c2b) (c2h:w0.heap[c2b]?=some (.cells ([(.int .i64 c2)]).toArray 3 (0,0))) (c3:Int) {c3b:Nat} (c3F:F c3b) (c3h:w0.heap[c3b]?=some (.cells ([(.int .i64 c3)]).toArray 3 (0,0))) (c4:Int) {c4b:Nat} (c4F:F c4b) (c4h:w0.heap[c4b]?=some (.cells ([(.int .i64 c4)]).toArray 3 (0,0))) (c5:Int) {c5b:Nat} (c5F:F c5b) (c5h:w0.heap[c5b]?=some (.cells ([(.int .i64 c5)]).toArray 3 (0,0))) (a0:Int) (pre0:0≤c5) :
    Calls Tryz.prog 366 #[.int .u64 a0,zp c0b,zp c1b,zp c2b,zp c3b,zp c4b,zp c5b] w0 (aC Tryz.prog bC n (D.jl r_hazard_guard c0 c1 c2 c3 c4 c5 a0) F w0):=by
 refine kN Tryz.func366 rfl 21 rfl rfl fun fr r hB=>?_;have lc0b:=lt_of_block c0h
 have lc1b:=lt_of_block c1h;have lc2b:=lt_of_block c2h;have lc3b:=lt_of_block c3h;have lc4b:=lt_of_block c4h;have lc5b:=lt_of_block c5h;refine wsr ?_;refine ai (.cells (af false bC.zero 0 0 0 0 .nilFunc) 268 (0,0)) r (fun R=>ah eO) rfl fun fr b1 w2 n3 r=>?_;obtain ⟨eb1,zw2,hb1,hB,zB⟩:=n3.all hB
 refine wn (wp_seq (wsr (kM (U a0) r rfl rfl fun r=>kL (U c0) r rfl (keep hB c0h) to36 rfl rfl fun r=>kB r rfl rfl rfl rfl rfl fun r=>wn ?_)));refine wp_cond_split (t:=(a0==c0)) (r.ev rfl) (fun h4=>?_) (fun h4=>?_)
 ·
  refine wsr (kL (U c0) r rfl (keep hB c0h) to36 rfl rfl fun r=>?_);have hF1:=aO hF hB b1
  refine kD r (rR (F:=(kW F w0 w2 b1)) (n:=n) hF1 c0) rfl xn rfl fun w5 v6 hb hr7 r=>?_;have zw5:=hb.size
  have hb1:=keep hb hb1;obtain ⟨hB,zB⟩:=bon hb hB;refine kP r hr7.shape rfl rfl hb1 dX rfl rfl fun w8 u9 r=>?_;have zw8:=u9.size
  have hb1:=u9.at_;obtain ⟨hB,zB⟩:=u9.on hB kw
  refine wn (wp_ret ?_);have hd:D.jl r_hazard_guard c0 c1 c2 c3 c4 c5 a0=(D.jk c0):=(az h4).trans (rfl);have hs:=hr7.shape.cells;refine ar r rfl rfl hb1 (k:=7) hs.1 dY ?_;rw [←hs.2.2,hd];exact rfin hF hB hr7 u9 kw kw kw
 refine wp_skip (wsr (kG (ae c1) 6 r rfl (keep hB c1h) ta23 rfl rfl fun r=>kL (I c2) r rfl (keep hB c2h) to3 rfl rfl fun r=>kL (I c3) r rfl (keep hB c3h) to3 rfl rfl fun r=>kL (I c4) r rfl (keep hB c4h) to3 rfl rfl fun r=>kL (I c5) r rfl (keep hB c5h) to3 rfl rfl fun r=>kM (U a0) r rfl rfl fun r=>?_));have hF1:=aO hF hB b1
 refine kD r ((ih_hazard_guard n kw) (kW F w0 w2 b1) _ hF1 c1 c2 c3 c4 c5 a0 (by first | assumption | decide)) rfl wL rfl fun w10 v11 hb hr12 r=>?_;have zw10:=hb.size
 have hb1:=keep hb hb1;obtain ⟨hB,zB⟩:=bon hb hB;refine kP r hr12.shape rfl rfl hb1 dX rfl rfl fun w13 u14 r=>?_;have zw13:=u14.size
 have hb1:=u14.at_;obtain ⟨hB,zB⟩:=u14.on hB kw
 refine wn (wp_ret ?_);have hd:D.jl r_hazard_guard c0 c1 c2 c3 c4 c5 a0=(r_hazard_guard c1 c2 c3 c4 c5 a0):=(aB h4).trans (rfl);have hs:=hr12.shape.cells;refine ar r rfl rfl hb1 (k:=7) hs.1 dY ?_;rw [←hs.2.2,hd];exact rfin hF hB hr12 u14 kw kw kw
theorem zP {r_hazard_guard:Plan→Int→Int→Int→Int→Int→T Int} (hF:kH F w0) (ih_hazard_guard:∀ m,m<n→lp r_hazard_guard m)
    (c0:Int) {c0b:Nat} (c0F:F c0b) (c0h:w0.heap[c0b]?=some (.cells ([(.int .i64 c0)]).toArray 3 (0,0))) (c1:Int) {c1b:Nat} (c1F:F c1b) (c1h:w0.heap[c1b]?=some (.cells ([(.int .u64 c1)]).toArray 36 (0,0))) (c2:Plan) {c2b:Nat} (c2F:F c2b) (c2h:w0.heap[c2b]?=some (.cells ((ae c2)).toArray 23 (0,0))) (c3:Int) {c3b:Nat} (c3F:F c3b) (c3h:w0.heap[c3b]?=some (.cells ([(.int .i64 c3)]).toArray 3 (0,0))) (c4:Int) {c4b:Nat} (c4F:F c4b) (c4h:w0.heap[c4b]?=some (.cells ([(.int .i64 c4)]).toArray 3 (0,0))) (c5:Int) {c5b:Nat} (c5F:F c5b) (c5h:w0.heap[c5b]?=some (.cells ([(.int .i64 c5)]).toArray 3 (0,0))) (pre0:0≤c5) :
    Calls Tryz.prog 365 #[.agg #[],zp c0b,zp c1b,zp c2b,zp c3b,zp c4b,zp c5b] w0 (aC Tryz.prog bC n (D.lL r_hazard_guard c0 c1 c2 c3 c4 c5) F w0):=by
 refine kN Tryz.func365 rfl 12 rfl rfl fun fr r hB=>?_;have lc0b:=lt_of_block c0h
 have lc1b:=lt_of_block c1h;have lc2b:=lt_of_block c2h;have lc3b:=lt_of_block c3h;have lc4b:=lt_of_block c4h;have lc5b:=lt_of_block c5h;refine wsr ?_;refine kX 152 (.agg #[]) r rfl rfl fun b1 w2 n3 r=>?_;obtain ⟨eb1,zw2,hb1,hB,zB⟩:=n3.all hB
 refine ai (.cells (af false bC.zero 0 0 0 0 .nilFunc) 268 (0,0)) r (fun R=>ah eO) rfl fun fr b4 w5 n6 r=>?_;have hb1:=keep n6.below hb1
 obtain ⟨eb4,zw5,hb4,hB,zB⟩:=n6.all hB;refine wn (wsr (kL (I c0) r rfl (keep hB c0h) to3 rfl rfl fun r=>ac (.func (.func 366) #[] #[zp c1b,zp c2b,zp c3b,zp c4b,zp c0b,zp c5b]) r (fun R=>aU r rfl) rfl fun fr r=>?_));have hF1:=aO hF hB b4
 have f7:((kW F w0 w5 b4)) c1b:=(.inl c1F);have f8:((kW F w0 w5 b4)) c2b:=(.inl c2F);have f9:((kW F w0 w5 b4)) c3b:=(.inl c3F);have f10:((kW F w0 w5 b4)) c4b:=(.inl c4F);have f11:((kW F w0 w5 b4)) c0b:=(.inl c0F);have f12:((kW F w0 w5 b4)) c5b:=(.inl c5F);refine kD r (rP (F:=(kW F w0 w5 b4)) (n:=n) hF1 c0 ⟨366,[],[zp c1b,zp c2b,zp c3b,zp c4b,zp c0b,zp c5b],DA,rfl,fun m hm x w' hs hz=>zf (fun b hb=>Nat.lt_of_lt_of_le (hF1 b hb) hz) (fun m' hm'=>ih_hazard_guard m' kw) c1 f7 (hs.at_ f7 (keep hB c1h)) c2 f8 (hs.at_ f8 (keep hB c2h)) c3 f9 (hs.at_ f9 (keep hB c3h)) c4 f10 (hs.at_ f10 (keep hB c4h)) c0 f11 (hs.at_ f11 (keep hB c0h)) c5 f12 (hs.at_ f12 (keep hB c5h)) x (by first | assumption | decide)⟩) rfl wC rfl fun w13 v14 hb hr15 r=>?_;have zw13:=hb.size
 have hb1:=keep hb hb1;have hb4:=keep hb hb4;obtain ⟨hB,zB⟩:=bon hb hB;refine kP r hr15.shape rfl rfl hb4 dX rfl rfl fun w16 u17 r=>?_;have zw16:=u17.size
 have hb1:=u17.keep hb1 kw
 have hb4:=u17.at_;obtain ⟨hB,zB⟩:=u17.on hB kw
 exact wn (wp_ret (kR r hr15 rfl rfl hb4 rfl dY hF hB u17 kw kw kw))
theorem Ag {n:Nat} {F:Nat→Prop} {r_hazard_guard:Plan→Int→Int→Int→Int→Int→T Int} {w0:World} (hF:∀ b,F b→b<w0.heap.size) (ih_hazard_guard:∀ m,m<n→lp r_hazard_guard m)
    (a0:Plan) (a1:Int) (a2:Int) (a3:Int) (a4:Int) (a5:Int) (pre0:0≤a4) :
    Calls Tryz.prog 318 #[.agg (ae a0).toArray,.int .i64 a1,.int .i64 a2,.int .i64 a3,.int .i64 a4,.int .u64 a5] w0 (aC Tryz.prog bC n (D.gG r_hazard_guard a0 a1 a2 a3 a4 a5) F w0):=by
 refine kN Tryz.func318 rfl 30 rfl rfl fun fr r hB=>?_;refine wsr ?_
 refine kX 23 (.agg (ae a0).toArray) r rfl rfl fun b1 w2 n3 r=>?_;obtain ⟨eb1,zw2,hb1,hB,zB⟩:=n3.all hB
 refine kX 3 (I a1) r rfl rfl fun b4 w5 n6 r=>?_;have hb1:=keep n6.below hb1
 obtain ⟨eb4,zw5,hb4,hB,zB⟩:=n6.all hB;refine kX 3 (I a2) r rfl rfl fun b7 w8 n9 r=>?_;have hb1:=keep n9.below hb1
 have hb4:=keep n9.below hb4;obtain ⟨eb7,zw8,hb7,hB,zB⟩:=n9.all hB;refine kX 3 (I a3) r rfl rfl fun b10 w11 n12 r=>?_;have hb1:=keep n12.below hb1
 have hb4:=keep n12.below hb4;have hb7:=keep n12.below hb7;obtain ⟨eb10,zw11,hb10,hB,zB⟩:=n12.all hB;refine kX 3 (I a4) r rfl rfl fun b13 w14 n15 r=>?_;have hb1:=keep n15.below hb1
 have hb4:=keep n15.below hb4;have hb7:=keep n15.below hb7;have hb10:=keep n15.below hb10;obtain ⟨eb13,zw14,hb13,hB,zB⟩:=n15.all hB;refine kX 36 (U a5) r rfl rfl fun b16 w17 n18 r=>?_;have hb1:=keep n18.below hb1
 have hb4:=keep n18.below hb4;have hb7:=keep n18.below hb7;have hb10:=keep n18.below hb10;have hb13:=keep n18.below hb13;obtain ⟨eb16,zw17,hb16,hB,zB⟩:=n18.all hB;refine ai (.cells (af false bC.zero 0 0 0 0 .nilFunc) 268 (0,0)) r (fun R=>ah eO) rfl fun fr b19 w20 n21 r=>?_;have hb1:=keep n21.below hb1
 have hb4:=keep n21.below hb4;have hb7:=keep n21.below hb7;have hb10:=keep n21.below hb10;have hb13:=keep n21.below hb13;have hb16:=keep n21.below hb16;obtain ⟨eb19,zw20,hb19,hB,zB⟩:=n21.all hB;refine wn (wsr (kL (U a5) r rfl hb16 to36 rfl rfl fun r=>kL (I a4) r rfl hb13 to3 rfl rfl fun r=>kB r rfl rfl rfl (qg (by first | assumption | decide)) rfl fun r=>ac (I (W (shrI .u64 a5 a4))) r (fun R=>cK r rfl ti36 ti3) rfl fun fr r=>kB r rfl rfl rfl rfl rfl fun r=>kA (I (W ((W (shrI .u64 a5 a4)) - 1))) r rfl rfl fun r=>wn (wp_seq (wsr (kM (I (W ((W (shrI .u64 a5 a4)) - 1))) r rfl rfl fun r=>kB r rfl rfl rfl rfl rfl fun r=>wn ?_)))));refine wp_cond_split (t:=(decide ((W ((W (shrI .u64 a5 a4)) - 1))<0))) (r.ev rfl) (fun h22=>?_) (fun h22=>?_)
 ·
  refine wsr (kL (U a5) r rfl hb16 to36 rfl rfl fun r=>?_);have hF1:=aO hF hB b19
  refine kD r (rR (F:=(kW F w0 w20 b19)) (n:=n) hF1 a5) rfl xn rfl fun w23 v24 hb hr25 r=>?_;have zw23:=hb.size
  have hb1:=keep hb hb1;have hb4:=keep hb hb4;have hb7:=keep hb hb7;have hb10:=keep hb hb10;have hb13:=keep hb hb13;have hb16:=keep hb hb16;have hb19:=keep hb hb19;obtain ⟨hB,zB⟩:=bon hb hB;refine kP r hr25.shape rfl rfl hb19 dX rfl rfl fun w26 u27 r=>?_;have zw26:=u27.size
  have hb1:=u27.keep hb1 kw
  have hb4:=u27.keep hb4 kw
  have hb7:=u27.keep hb7 kw
  have hb10:=u27.keep hb10 kw
  have hb13:=u27.keep hb13 kw
  have hb16:=u27.keep hb16 kw
  have hb19:=u27.at_;obtain ⟨hB,zB⟩:=u27.on hB kw
  refine wn (wp_ret ?_);have hd:D.gG r_hazard_guard a0 a1 a2 a3 a4 a5=(D.jk a5):=(az h22).trans (rfl);have hs:=hr25.shape.cells;refine ar r rfl rfl hb19 (k:=7) hs.1 dY ?_;rw [←hs.2.2,hd];exact rfin hF hB hr25 u27 kw kw kw
 refine wp_skip (wsr (kG (ae a0) 6 r rfl hb1 ta23 rfl rfl fun r=>kL (I a1) r rfl hb4 to3 rfl rfl fun r=>kL (I a2) r rfl hb7 to3 rfl rfl fun r=>kM (I (W ((W (shrI .u64 a5 a4)) - 1))) r rfl rfl fun r=>?_));have hF1:=aO hF hB b19
 refine kD r (oN (F:=(kW F w0 w20 b19)) (n:=n) hF1 a0 a1 a2 (W ((W (shrI .u64 a5 a4)) - 1))) rfl rj rfl fun w28 v29 hb hr30 r=>?_;have zw28:=hb.size
 have hb1:=keep hb hb1;have hb4:=keep hb hb4;have hb7:=keep hb hb7;have hb10:=keep hb hb10;have hb13:=keep hb hb13;have hb16:=keep hb hb16;have hb19:=keep hb hb19;obtain ⟨hB,zB⟩:=bon hb hB;refine ac (.func (.func 365) #[] #[zp b10,zp b16,zp b1,zp b4,zp b7,zp b13]) r (fun R=>aU r rfl) rfl fun fr r=>?_;have hF1:=aO hF hB b19
 have f31:((kW F w0 w28 b19)) b10:=(.inr ⟨kw,kw,kw⟩)
 have f32:((kW F w0 w28 b19)) b16:=(.inr ⟨kw,kw,kw⟩)
 have f33:((kW F w0 w28 b19)) b1:=(.inr ⟨kw,kw,kw⟩)
 have f34:((kW F w0 w28 b19)) b4:=(.inr ⟨kw,kw,kw⟩)
 have f35:((kW F w0 w28 b19)) b7:=(.inr ⟨kw,kw,kw⟩)
 have f36:((kW F w0 w28 b19)) b13:=(.inr ⟨kw,kw,kw⟩)
 refine kD r (xD (F:=(kW F w0 w28 b19)) (n:=n) hF1 (Rep.mono (by rintro b (h | h); (rcases h with h | ⟨h1,h2,h3⟩; exact .inl h; exact .inr ⟨h1,kw,h3⟩); exact .inr ⟨kw,kw,kw⟩) (Same.refl _ _) kw n _ _ hr30) ⟨365,[],[zp b10,zp b16,zp b1,zp b4,zp b7,zp b13],DZ,rfl,fun m hm _ w' hs hz=>zP (fun b hb=>Nat.lt_of_lt_of_le (hF1 b hb) hz) (fun m' hm'=>ih_hazard_guard m' kw) a3 f31 (hs.at_ f31 hb10) a5 f32 (hs.at_ f32 hb16) a0 f33 (hs.at_ f33 hb1) a1 f34 (hs.at_ f34 hb4) a2 f35 (hs.at_ f35 hb7) a4 f36 (hs.at_ f36 hb13) (by first | assumption | decide)⟩) rfl xd rfl fun w37 v38 hb hr39 r=>?_
 have zw37:=hb.size;have hb1:=keep hb hb1;have hb4:=keep hb hb4;have hb7:=keep hb hb7;have hb10:=keep hb hb10;have hb13:=keep hb hb13;have hb16:=keep hb hb16;have hb19:=keep hb hb19;obtain ⟨hB,zB⟩:=bon hb hB;refine kP r hr39.shape rfl rfl hb19 dX rfl rfl fun w40 u41 r=>?_;have zw40:=u41.size
 have hb1:=u41.keep hb1 kw
 have hb4:=u41.keep hb4 kw
 have hb7:=u41.keep hb7 kw
 have hb10:=u41.keep hb10 kw
 have hb13:=u41.keep hb13 kw
 have hb16:=u41.keep hb16 kw
 have hb19:=u41.at_;obtain ⟨hB,zB⟩:=u41.on hB kw
 refine wn (wp_ret ?_);have hd:D.gG r_hazard_guard a0 a1 a2 a3 a4 a5=(T.bind (D.dT a0 a1 a2 (W ((W (shrI .u64 a5 a4)) - 1))) (fun _=>(D.lL r_hazard_guard a3 a5 a0 a1 a2 a4))):=(aB h22).trans (rfl)
 have hs:=hr39.shape.cells;refine ar r rfl rfl hb19 (k:=7) hs.1 dY ?_;rw [←hs.2.2,hd];exact rfin hF hB hr39 u41 kw kw kw
theorem Al {n:Nat} {k:Nat} (hk:n<k):lp (D.eF k) n:=by
  induction n using Nat.strongRecOn generalizing k with
  | _ n ih=>
    obtain ⟨k,rfl⟩:∃ q,k=q+1:=⟨k - 1,kw⟩
    intro F w0 hF;have h:=@Ag n F (D.eF k) w0 hF (fun m hm=>ih m hm kw)
    exact h
def D.lK (j:Nat) (c0:Plan) (c1:Int) (c2:Int) (c3:Int) (c4:Int) (a0:Int):T Int:=(D.eF j c0 c1 c2 c3 c4 a0)
theorem zH (hF:kH F w0) (hj:n<j)
    (c0:Plan) {c0b:Nat} (c0F:F c0b) (c0h:w0.heap[c0b]?=some (.cells ((ae c0)).toArray 23 (0,0))) (c1:Int) {c1b:Nat} (c1F:F c1b) (c1h:w0.heap[c1b]?=some (.cells ([(.int .i64 c1)]).toArray 3 (0,0))) (c2:Int) {c2b:Nat} (c2F:F c2b) (c2h:w0.heap[c2b]?=some (.cells ([(.int .i64 c2)]).toArray 3 (0,0))) (c3:Int) {c3b:Nat} (c3F:F c3b) (c3h:w0.heap[c3b]?=some (.cells ([(.int .i64 c3)]).toArray 3 (0,0))) (c4:Int) {c4b:Nat} (c4F:F c4b) (c4h:w0.heap[c4b]?=some (.cells ([(.int .i64 c4)]).toArray 3 (0,0))) (a0:Int) (pre0:0≤c4) :
    Calls Tryz.prog 317 #[.int .u64 a0,zp c0b,zp c1b,zp c2b,zp c3b,zp c4b] w0 (aC Tryz.prog bC n (D.lK j c0 c1 c2 c3 c4 a0) F w0):=by
 refine kN Tryz.func317 rfl 15 rfl rfl fun fr r hB=>?_;have lc0b:=lt_of_block c0h
 have lc1b:=lt_of_block c1h;have lc2b:=lt_of_block c2h;have lc3b:=lt_of_block c3h;have lc4b:=lt_of_block c4h;refine wsr ?_;refine ai (.cells (af false bC.zero 0 0 0 0 .nilFunc) 268 (0,0)) r (fun R=>ah eO) rfl fun fr b1 w2 n3 r=>?_;obtain ⟨eb1,zw2,hb1,hB,zB⟩:=n3.all hB
 refine wn (wsr (kG (ae c0) 6 r rfl (keep hB c0h) ta23 rfl rfl fun r=>kL (I c1) r rfl (keep hB c1h) to3 rfl rfl fun r=>kL (I c2) r rfl (keep hB c2h) to3 rfl rfl fun r=>kL (I c3) r rfl (keep hB c3h) to3 rfl rfl fun r=>kL (I c4) r rfl (keep hB c4h) to3 rfl rfl fun r=>kM (U a0) r rfl rfl fun r=>?_));have hF1:=aO hF hB b1
 refine kD r ((Al (k:=j) (n:=n) kw) (kW F w0 w2 b1) _ hF1 c0 c1 c2 c3 c4 a0 (by first | assumption | decide)) rfl wL rfl fun w4 v5 hb hr6 r=>?_;have zw4:=hb.size
 have hb1:=keep hb hb1;obtain ⟨hB,zB⟩:=bon hb hB;refine kP r hr6.shape rfl rfl hb1 dX rfl rfl fun w7 u8 r=>?_;have zw7:=u8.size
 have hb1:=u8.at_;obtain ⟨hB,zB⟩:=u8.on hB kw
 exact wn (wp_ret (kR r hr6 rfl rfl hb1 rfl dY hF hB u8 kw kw kw))
def D.fV (j:Nat) (a0:Plan) (a1:Int) (a2:Int) (a3:Int) (a4:Int):T Int:=(D.lC a3 (fun x=>(D.lK j a0 a1 a2 a3 a4 x)))
theorem Ao (hF:kH F w0) (hj:n<j)
    (a0:Plan) (a1:Int) (a2:Int) (a3:Int) (a4:Int) (pre0:0≤a4) :
    Calls Tryz.prog 224 #[.agg (ae a0).toArray,.int .i64 a1,.int .i64 a2,.int .i64 a3,.int .i64 a4] w0 (aC Tryz.prog bC n (D.fV j a0 a1 a2 a3 a4) F w0):=by
 refine kN Tryz.func224 rfl 14 rfl rfl fun fr r hB=>?_;refine wsr ?_
 refine kX 23 (.agg (ae a0).toArray) r rfl rfl fun b1 w2 n3 r=>?_;obtain ⟨eb1,zw2,hb1,hB,zB⟩:=n3.all hB
 refine kX 3 (I a1) r rfl rfl fun b4 w5 n6 r=>?_;have hb1:=keep n6.below hb1
 obtain ⟨eb4,zw5,hb4,hB,zB⟩:=n6.all hB;refine kX 3 (I a2) r rfl rfl fun b7 w8 n9 r=>?_;have hb1:=keep n9.below hb1
 have hb4:=keep n9.below hb4;obtain ⟨eb7,zw8,hb7,hB,zB⟩:=n9.all hB;refine kX 3 (I a3) r rfl rfl fun b10 w11 n12 r=>?_;have hb1:=keep n12.below hb1
 have hb4:=keep n12.below hb4;have hb7:=keep n12.below hb7;obtain ⟨eb10,zw11,hb10,hB,zB⟩:=n12.all hB;refine kX 3 (I a4) r rfl rfl fun b13 w14 n15 r=>?_;have hb1:=keep n15.below hb1
 have hb4:=keep n15.below hb4;have hb7:=keep n15.below hb7;have hb10:=keep n15.below hb10;obtain ⟨eb13,zw14,hb13,hB,zB⟩:=n15.all hB;refine ai (.cells (af false bC.zero 0 0 0 0 .nilFunc) 268 (0,0)) r (fun R=>ah eO) rfl fun fr b16 w17 n18 r=>?_;have hb1:=keep n18.below hb1
 have hb4:=keep n18.below hb4;have hb7:=keep n18.below hb7;have hb10:=keep n18.below hb10;have hb13:=keep n18.below hb13;obtain ⟨eb16,zw17,hb16,hB,zB⟩:=n18.all hB;refine wn (wsr (kL (I a3) r rfl hb10 to3 rfl rfl fun r=>ac (.func (.func 317) #[] #[zp b1,zp b4,zp b7,zp b10,zp b13]) r (fun R=>aU r rfl) rfl fun fr r=>?_));have hF1:=aO hF hB b16
 have f19:((kW F w0 w17 b16)) b1:=(.inr ⟨kw,kw,kw⟩)
 have f20:((kW F w0 w17 b16)) b4:=(.inr ⟨kw,kw,kw⟩)
 have f21:((kW F w0 w17 b16)) b7:=(.inr ⟨kw,kw,kw⟩)
 have f22:((kW F w0 w17 b16)) b10:=(.inr ⟨kw,kw,kw⟩)
 have f23:((kW F w0 w17 b16)) b13:=(.inr ⟨kw,kw,kw⟩)
 refine kD r (rP (F:=(kW F w0 w17 b16)) (n:=n) hF1 a3 ⟨317,[],[zp b1,zp b4,zp b7,zp b10,zp b13],FT,rfl,fun m hm x w' hs hz=>zH (j:=j) (fun b hb=>Nat.lt_of_lt_of_le (hF1 b hb) hz) kw a0 f19 (hs.at_ f19 hb1) a1 f20 (hs.at_ f20 hb4) a2 f21 (hs.at_ f21 hb7) a3 f22 (hs.at_ f22 hb10) a4 f23 (hs.at_ f23 hb13) x (by first | assumption | decide)⟩) rfl wC rfl fun w24 v25 hb hr26 r=>?_;have zw24:=hb.size
 have hb1:=keep hb hb1;have hb4:=keep hb hb4;have hb7:=keep hb hb7;have hb10:=keep hb hb10;have hb13:=keep hb hb13;have hb16:=keep hb hb16;obtain ⟨hB,zB⟩:=bon hb hB;refine kP r hr26.shape rfl rfl hb16 dX rfl rfl fun w27 u28 r=>?_;have zw27:=u28.size
 have hb1:=u28.keep hb1 kw
 have hb4:=u28.keep hb4 kw
 have hb7:=u28.keep hb7 kw
 have hb10:=u28.keep hb10 kw
 have hb13:=u28.keep hb13 kw
 have hb16:=u28.at_;obtain ⟨hB,zB⟩:=u28.on hB kw
 exact wn (wp_ret (kR r hr26 rfl rfl hb16 rfl dY hF hB u28 kw kw kw))
def D.jn (r_hazard_clear:Plan→Int→Int→T Unit) (c0:Plan) (c1:Int) (c2:Int):T Unit:=(r_hazard_clear c0 c1 (IntKind.i64.wrap (c2+1)))
def D.fM (r_hazard_clear:Plan→Int→Int→T Unit) (a0:Plan) (a1:Int) (a2:Int):T Unit:=(bif (a2==3) then D.lI else (T.bind (D.dT a0 a1 a2 (-1)) (fun _=>(D.jn r_hazard_clear a0 a1 a2))))
def D.eT:Nat→Plan→Int→Int→T Unit
  | 0,_,_,_=>.cut
  | k+1,a0,a1,a2=>D.fM (D.eT k) a0 a1 a2
def nU (r:Plan→Int→Int→T Unit) (n:Nat):Prop:=∀ (F:Nat→Prop) (w0:World),(∀ b,F b→b<w0.heap.size)→∀ (a0:Plan) (a1:Int) (a2:Int),Calls Tryz.prog 307 #[.agg (ae a0).toArray,.int .i64 a1,.int .i64 a2] w0 (aC Tryz.prog aA n (r a0 a1 a2) F w0)
theorem zL {r_hazard_clear:Plan→Int→Int→T Unit} (hF:kH F w0) (ih_hazard_clear:∀ m,m≤n→nU r_hazard_clear m)
    (c0:Plan) {c0b:Nat} (c0F:F c0b) (c0h:w0.heap[c0b]?=some (.cells ((ae c0)).toArray 23 (0,0))) (c1:Int) {c1b:Nat} (c1F:F c1b) (c1h:w0.heap[c1b]?=some (.cells ([(.int .i64 c1)]).toArray 3 (0,0))) (c2:Int) {c2b:Nat} (c2F:F c2b) (c2h:w0.heap[c2b]?=some (.cells ([(.int .i64 c2)]).toArray 3 (0,0))) :
    Calls Tryz.prog 357 #[.agg #[],zp c0b,zp c1b,zp c2b] w0 (aC Tryz.prog aA n (D.jn r_hazard_clear c0 c1 c2) F w0):=by
 refine kN Tryz.func357 rfl 11 rfl rfl fun fr r hB=>?_;have lc0b:=lt_of_block c0h
 have lc1b:=lt_of_block c1h;have lc2b:=lt_of_block c2h;refine wsr ?_;refine kX 152 (.agg #[]) r rfl rfl fun b1 w2 n3 r=>?_;obtain ⟨eb1,zw2,hb1,hB,zB⟩:=n3.all hB
 refine ai (.cells (af false aA.zero 0 0 0 0 .nilFunc) 157 (0,0)) r (fun R=>ah cZ) rfl fun fr b4 w5 n6 r=>?_;have hb1:=keep n6.below hb1
 obtain ⟨eb4,zw5,hb4,hB,zB⟩:=n6.all hB;refine wn (wsr (kG (ae c0) 6 r rfl (keep hB c0h) ta23 rfl rfl fun r=>kL (I c1) r rfl (keep hB c1h) to3 rfl rfl fun r=>kL (I c2) r rfl (keep hB c2h) to3 rfl rfl fun r=>kB r rfl rfl rfl rfl rfl fun r=>?_));have hF1:=aO hF hB b4
 refine kD r ((ih_hazard_clear n kw) (kW F w0 w5 b4) _ hF1 c0 c1 (W (c2+1))) rfl wD rfl fun w7 v8 hb hr9 r=>?_;have zw7:=hb.size
 have hb1:=keep hb hb1;have hb4:=keep hb hb4;obtain ⟨hB,zB⟩:=bon hb hB;refine kP r hr9.shape rfl rfl hb4 cI rfl rfl fun w10 u11 r=>?_;have zw10:=u11.size
 have hb1:=u11.keep hb1 kw
 have hb4:=u11.at_;obtain ⟨hB,zB⟩:=u11.on hB kw
 exact wn (wp_ret (kR r hr9 rfl rfl hb4 rfl cC hF hB u11 kw kw kw))
theorem Ak {n:Nat} {F:Nat→Prop} {r_hazard_clear:Plan→Int→Int→T Unit} {w0:World} (hF:∀ b,F b→b<w0.heap.size) (ih_hazard_clear:∀ m,m<n→nU r_hazard_clear m)
    (a0:Plan) (a1:Int) (a2:Int) :
    Calls Tryz.prog 307 #[.agg (ae a0).toArray,.int .i64 a1,.int .i64 a2] w0 (aC Tryz.prog aA n (D.fM r_hazard_clear a0 a1 a2) F w0):=by
 refine kN Tryz.func307 rfl 17 rfl rfl fun fr r hB=>?_;refine wsr ?_
 refine kX 23 (.agg (ae a0).toArray) r rfl rfl fun b1 w2 n3 r=>?_;obtain ⟨eb1,zw2,hb1,hB,zB⟩:=n3.all hB
 refine kX 3 (I a1) r rfl rfl fun b4 w5 n6 r=>?_;have hb1:=keep n6.below hb1
 obtain ⟨eb4,zw5,hb4,hB,zB⟩:=n6.all hB;refine kX 3 (I a2) r rfl rfl fun b7 w8 n9 r=>?_;have hb1:=keep n9.below hb1
 have hb4:=keep n9.below hb4;obtain ⟨eb7,zw8,hb7,hB,zB⟩:=n9.all hB;refine ai (.cells (af false aA.zero 0 0 0 0 .nilFunc) 157 (0,0)) r (fun R=>ah cZ) rfl fun fr b10 w11 n12 r=>?_;have hb1:=keep n12.below hb1
 have hb4:=keep n12.below hb4;have hb7:=keep n12.below hb7;obtain ⟨eb10,zw11,hb10,hB,zB⟩:=n12.all hB;refine wn (wp_seq (wsr (kL (I a2) r rfl hb7 to3 rfl rfl fun r=>kB r rfl rfl rfl rfl rfl fun r=>wn ?_)));refine wp_cond_split (t:=(a2==3)) (r.ev rfl) (fun h13=>?_) (fun h13=>?_)
 ·
  refine wsr (kU (.agg #[]) r kz rfl fun r=>?_);have hF1:=aO hF hB b10
  refine kD r (s9 (F:=(kW F w0 w11 b10)) (n:=n) hF1 ) rfl xo rfl fun w14 v15 hb hr16 r=>?_;have zw14:=hb.size
  have hb1:=keep hb hb1;have hb4:=keep hb hb4;have hb7:=keep hb hb7;have hb10:=keep hb hb10;obtain ⟨hB,zB⟩:=bon hb hB;refine kP r hr16.shape rfl rfl hb10 cI rfl rfl fun w17 u18 r=>?_;have zw17:=u18.size
  have hb1:=u18.keep hb1 kw
  have hb4:=u18.keep hb4 kw
  have hb7:=u18.keep hb7 kw
  have hb10:=u18.at_;obtain ⟨hB,zB⟩:=u18.on hB kw
  refine wn (wp_ret ?_);have hd:D.fM r_hazard_clear a0 a1 a2=D.lI:=(az h13).trans (rfl);have hs:=hr16.shape.cells;refine ar r rfl rfl hb10 (k:=6) hs.1 cC ?_;rw [←hs.2.2,hd];exact rfin hF hB hr16 u18 kw kw kw
 refine wp_skip (wsr (kG (ae a0) 6 r rfl hb1 ta23 rfl rfl fun r=>kL (I a1) r rfl hb4 to3 rfl rfl fun r=>kL (I a2) r rfl hb7 to3 rfl rfl fun r=>?_));have hF1:=aO hF hB b10
 refine kD r (oN (F:=(kW F w0 w11 b10)) (n:=n) hF1 a0 a1 a2 (-1)) rfl rj rfl fun w19 v20 hb hr21 r=>?_;have zw19:=hb.size
 have hb1:=keep hb hb1;have hb4:=keep hb hb4;have hb7:=keep hb hb7;have hb10:=keep hb hb10;obtain ⟨hB,zB⟩:=bon hb hB;refine ac (.func (.func 357) #[] #[zp b1,zp b4,zp b7]) r (fun R=>aU r rfl) rfl fun fr r=>?_;have hF1:=aO hF hB b10
 have f22:((kW F w0 w19 b10)) b1:=(.inr ⟨kw,kw,kw⟩)
 have f23:((kW F w0 w19 b10)) b4:=(.inr ⟨kw,kw,kw⟩)
 have f24:((kW F w0 w19 b10)) b7:=(.inr ⟨kw,kw,kw⟩)
 refine kD r (xL (F:=(kW F w0 w19 b10)) (n:=n) hF1 (Rep.mono (by rintro b (h | h); (rcases h with h | ⟨h1,h2,h3⟩; exact .inl h; exact .inr ⟨h1,kw,h3⟩); exact .inr ⟨kw,kw,kw⟩) (Same.refl _ _) kw n _ _ hr21) ⟨357,[],[zp b1,zp b4,zp b7],DM,rfl,fun m hm _ w' hs hz=>zL (fun b hb=>Nat.lt_of_lt_of_le (hF1 b hb) hz) (fun m' hm'=>ih_hazard_clear m' kw) a0 f22 (hs.at_ f22 hb1) a1 f23 (hs.at_ f23 hb4) a2 f24 (hs.at_ f24 hb7)⟩ rfl) rfl vY rfl fun w25 v26 hb hr27 r=>?_
 have zw25:=hb.size;have hb1:=keep hb hb1;have hb4:=keep hb hb4;have hb7:=keep hb hb7;have hb10:=keep hb hb10;obtain ⟨hB,zB⟩:=bon hb hB;refine kP r hr27.shape rfl rfl hb10 cI rfl rfl fun w28 u29 r=>?_;have zw28:=u29.size
 have hb1:=u29.keep hb1 kw
 have hb4:=u29.keep hb4 kw
 have hb7:=u29.keep hb7 kw
 have hb10:=u29.at_;obtain ⟨hB,zB⟩:=u29.on hB kw
 refine wn (wp_ret ?_);have hd:D.fM r_hazard_clear a0 a1 a2=(T.bind (D.dT a0 a1 a2 (-1)) (fun _=>(D.jn r_hazard_clear a0 a1 a2))):=(aB h13).trans (rfl)
 have hs:=hr27.shape.cells;refine ar r rfl rfl hb10 (k:=6) hs.1 cC ?_;rw [←hs.2.2,hd];exact rfin hF hB hr27 u29 kw kw kw
theorem Aq {n:Nat} {k:Nat} (hk:n<k):nU (D.eT k) n:=by
  induction n using Nat.strongRecOn generalizing k with
  | _ n ih=>
    obtain ⟨k,rfl⟩:∃ q,k=q+1:=⟨k - 1,kw⟩
    intro F w0 hF;have h:=@Ak n F (D.eT k) w0 hF (fun m hm=>ih m hm kw)
    exact h
def D.lS (j:Nat) (a0:Plan) (a1:Int):T Unit:=(D.eT j a0 a1 0)
theorem sD (hF:kH F w0) (hj:n<j)
    (a0:Plan) (a1:Int) :
    Calls Tryz.prog 215 #[.agg (ae a0).toArray,.int .i64 a1] w0 (aC Tryz.prog aA n (D.lS j a0 a1) F w0):=by
 refine kN Tryz.func215 rfl 8 rfl rfl fun fr r hB=>?_;refine wsr ?_
 refine kX 23 (.agg (ae a0).toArray) r rfl rfl fun b1 w2 n3 r=>?_;obtain ⟨eb1,zw2,hb1,hB,zB⟩:=n3.all hB
 refine ai (.cells (af false aA.zero 0 0 0 0 .nilFunc) 157 (0,0)) r (fun R=>ah cZ) rfl fun fr b4 w5 n6 r=>?_;have hb1:=keep n6.below hb1
 obtain ⟨eb4,zw5,hb4,hB,zB⟩:=n6.all hB;refine wn (wsr (kG (ae a0) 6 r rfl hb1 ta23 rfl rfl fun r=>kM (I a1) r rfl rfl fun r=>?_));have hF1:=aO hF hB b4
 refine kD r ((Aq (k:=j) (n:=n) kw) (kW F w0 w5 b4) _ hF1 a0 a1 0) rfl wD rfl fun w7 v8 hb hr9 r=>?_;have zw7:=hb.size
 have hb1:=keep hb hb1;have hb4:=keep hb hb4;obtain ⟨hB,zB⟩:=bon hb hB;refine kP r hr9.shape rfl rfl hb4 cI rfl rfl fun w10 u11 r=>?_;have zw10:=u11.size
 have hb1:=u11.keep hb1 kw
 have hb4:=u11.at_;obtain ⟨hB,zB⟩:=u11.on hB kw
 exact wn (wp_ret (kR r hr9 rfl rfl hb4 rfl cC hF hB u11 kw kw kw))
end
end Go.Proofs.YtikjpdpgdmbdpaaGreat

/- Ours. -/
set_option maxRecDepth 20000
set_option maxHeartbeats 2000000
namespace Go.Proofs.YtikjpdpgdmbdpaaGreat
open Go.RowKit
theorem EN:ag Tryz.prog 162:=kz
theorem cl27:ag Tryz.prog 27:=kz
theorem cl86:ag Tryz.prog 86:=kz
theorem wh:sized Tryz.prog 152 0:=kz
theorem ts54:sized Tryz.prog 54 2:=kz
theorem wN:zeroOf Tryz.prog 152=some (.agg #[]):=kz
theorem tz54:zeroOf Tryz.prog 54=some (.agg (resC (⟨0,0⟩:Res)).toArray):=kz
def D.nM (fu:Nat) (a0:Nat × T Unit) (a1:Mem) (a2:Cap):Option ((Nat × T Unit) × Bool × Mem):=(bif a0.2.bd then (some (a0,false,a1)) else ((D.fS fu a1 a2 (T.acc a0.2)).bind (fun (x16:Int × Bool × Mem)=>(bif (!x16.2.1) then (some (a0,false,x16.2.2)) else ((depthI a0.1).bind (fun (x26:Nat)=>(some ((x26,T.next a0.2 x16.1),true,x16.2.2))))))))
set_option maxRecDepth 20000 in
set_option maxHeartbeats 20000000 in
theorem ye {fu:Nat} (w0:World) {a0v:Value} {a0F:List Nat} (a0:Nat × T Unit) {a1g:MG} (a1:Mem) (a2:Cap) (hS:Sep [bE Tryz.prog aA a0 a0v a0F,memK a1g a1] w0) {res:(Nat × T Unit) × Bool × Mem} (hD:D.nM fu a0 a1 a2=some res) :
    Calls Tryz.prog 162 #[a0v,zp a1g.mb,.agg (capC a2).toArray] w0 (fun e w'=>∃ (v0:Value) (F0:List Nat),e=.returned (.tuple #[v0,(.bool res.2.1)])∧Done (fun b=>b∈(memK a1g a1).own) (fun b=>b∈a0F) [memK a1g res.2.2,bE Tryz.prog aA res.1 v0 F0] w0 w'):=by
 refine enter Tryz.func162 rfl 28 rfl rfl fun fr r=>?_;have hP:Post (fun b=>b∈(memK a1g a1).own) [bE Tryz.prog aA a0 a0v a0F,memK a1g a1] w0 w0:=.start hS (by simp [memK,bE])
 unfold D.nM at hD
 refine wsr ?_;refine kX 157 a0v r rfl rfl fun b1 w2 n3 r=>?_;have hP:Post (fun b=>b∈(memK a1g a1).own) [bE Tryz.prog aA a0 a0v a0F,memK a1g a1,aa b1 a0v.cells 157] w0 w2:=hP.new n3
 refine kX 68 (.agg (capC a2).toArray) r rfl rfl fun b5 w6 n7 r=>?_;have hP:Post (fun b=>b∈(memK a1g a1).own) [bE Tryz.prog aA a0 a0v a0F,memK a1g a1,aa b1 a0v.cells 157,aa b5 ((capC a2)).toArray 68] w0 w6:=hP.new n7
 refine ai (.cells (af false aA.zero 0 0 0 0 .nilFunc) 157 (0,0)) r (fun R=>ah cZ) rfl fun fr b9 w10 n11 r=>?_;have hP:Post (fun b=>b∈(memK a1g a1).own) [bE Tryz.prog aA a0 a0v a0F,memK a1g a1,aa b1 a0v.cells 157,aa b5 ((capC a2)).toArray 68,aa b9 (af false aA.zero 0 0 0 0 .nilFunc) 157] w0 w10:=hP.new n11
 refine kA (.bool false) r rfl rfl fun r=>wn (wp_seq (wsr (ac _ r (fun R=>ax r (b:=b1) (o:=0) (k:=0) rfl eK) rfl fun fr r=>kL (.bool a0.2.bd) r rfl (hP.cell (i:=2) rfl) to4 (Rep.iT (hP.prog (i:=0) rfl)) rfl fun r=>wn ?_)));refine wp_cond_split (t:=a0.2.bd) (r.ev rfl) (fun h13=>?_) (fun h13=>?_)
 ·
  have hD:=(az h13).symm.trans hD;refine wsr (ac a0v r (fun R=>dP r (hP.prog (i:=0) rfl).shape rfl (hP.cell (i:=2) rfl) cC) rfl fun fr r=>?_);refine kP r (hP.prog (i:=0) rfl).shape rfl rfl (hP.cell (i:=4) rfl) cI rfl rfl fun w14 u15 r=>?_
  have hP:Post (fun b=>b∈(memK a1g a1).own) [bE Tryz.prog aA a0 a0v a0F,memK a1g a1,aa b1 a0v.cells 157,aa b5 ((capC a2)).toArray 68,aa b9 a0v.cells 157] w0 w14:=hP.upd (i:=4) rfl u15
  refine kA (.bool false) r rfl rfl fun r=>wn (wp_ret ?_);have hv:(a0,false,a1)=res:=Option.some.inj hD
  try dsimp only [Exit.then,Exit.inBlock]
  have hs:=(hP.prog (i:=0) rfl).shape.cells;refine fk (fn:=Tryz.f162) r rfl rfl (v':=(.bool false)) rfl (hP.cell (i:=4) rfl) (k:=6) hs.1 cC ?_;rw [←hs.2.2];subst hv;exact ⟨a0v,a0F,rfl,(hP.pick [1,0] rfl rfl).done (cP rfl (p7 (fun b h=>.inl h) dl))⟩
 have hD:=(aB h13).symm.trans hD;refine wp_skip (wsr (kM (zp a1g.mb) r rfl rfl fun r=>kG (capC a2) 2 r rfl (hP.cell (i:=3) rfl) ta68 rfl rfl fun r=>ac _ r (fun R=>ax r (b:=b1) (o:=0) (k:=1) rfl kf) rfl fun fr r=>kG (ba (T.acc a0.2)) 4 r rfl (hP.cell (i:=2) rfl) ta38 (Rep.vL (hP.prog (i:=0) rfl) h13) rfl fun r=>?_));obtain ⟨x16,hx16,hD⟩:=aY hD
 refine kC r (su w10 a1 a2 (T.acc a0.2) (hP.sep.pk [1] rfl rfl) hx16) rfl cl86 rfl ?_;rintro _ w17 ⟨rfl,hq⟩;refine ⟨_,rfl,fun fr r=>?_⟩
 have hP:Post (fun b=>b∈(memK a1g a1).own) [bE Tryz.prog aA a0 a0v a0F,memK a1g x16.2.2,aa b1 a0v.cells 157,aa b5 ((capC a2)).toArray 68,aa b9 (af false aA.zero 0 0 0 0 .nilFunc) 157] w0 w17:=hP.setN (i:=1) rfl hq
 refine kM (.tuple #[(U x16.1),(.bool x16.2.1)]) r rfl rfl fun r=>ac (U x16.1) r (fun R=>bM r (vs:=#[(U x16.1),(.bool x16.2.1)]) rfl rfl) rfl fun fr r=>ac (.bool x16.2.1) r (fun R=>bM r (vs:=#[(U x16.1),(.bool x16.2.1)]) rfl rfl) rfl fun fr r=>kA (U x16.1) r rfl rfl fun r=>kA (.bool x16.2.1) r rfl rfl fun r=>wn (wp_seq (wsr (kM (.bool x16.2.1) r rfl rfl fun r=>ac (.bool (!x16.2.1)) r (fun R=>y_un r (u:=(.bool x16.2.1)) rfl rfl) rfl fun fr r=>wn ?_)));refine wp_cond_split (t:=(!x16.2.1)) (r.ev rfl) (fun h18=>?_) (fun h18=>?_)
 ·
  have hD:=(az h18).symm.trans hD;refine wsr (ac a0v r (fun R=>dP r (hP.prog (i:=0) rfl).shape rfl (hP.cell (i:=2) rfl) cC) rfl fun fr r=>?_);refine kP r (hP.prog (i:=0) rfl).shape rfl rfl (hP.cell (i:=4) rfl) cI rfl rfl fun w19 u20 r=>?_
  have hP:Post (fun b=>b∈(memK a1g a1).own) [bE Tryz.prog aA a0 a0v a0F,memK a1g x16.2.2,aa b1 a0v.cells 157,aa b5 ((capC a2)).toArray 68,aa b9 a0v.cells 157] w0 w19:=hP.upd (i:=4) rfl u20
  refine kA (.bool false) r rfl rfl fun r=>wn (wp_ret ?_);have hv:(a0,false,x16.2.2)=res:=Option.some.inj hD
  try dsimp only [Exit.then,Exit.inBlock]
  have hs:=(hP.prog (i:=0) rfl).shape.cells;refine fk (fn:=Tryz.f162) r rfl rfl (v':=(.bool false)) rfl (hP.cell (i:=4) rfl) (k:=6) hs.1 cC ?_;rw [←hs.2.2];subst hv;exact ⟨a0v,a0F,rfl,(hP.pick [1,0] rfl rfl).done (cP rfl (p7 (fun b h=>.inl h) dl))⟩
 have hD:=(aB h18).symm.trans hD;refine wp_skip (wsr (ac _ r (fun R=>ax r (b:=b1) (o:=0) (k:=5) rfl jZ) rfl fun fr r=>?_));obtain ⟨nf21,n122,n223,hv24,hk25⟩:=Rep.pY (hP.prog (i:=0) rfl) h13
 refine kL (.func (.func nf21) n122.toArray n223.toArray) r rfl (hP.cell (i:=2) rfl) kZ hv24 rfl fun r=>kM (U x16.1) r rfl rfl fun r=>?_;obtain ⟨x26,hx26,hD⟩:=aY hD
 refine cA r (hk25.at_.2 x26 (by rw [ux hx26]; exact Nat.lt_succ_self _) x16.1 w17 (Same.refl _ _) (Nat.le_refl _)) (fun R hc=>dn r rfl rfl hk25.at_.1 hc) rfl ?_;rintro _ w27 ⟨v28,rfl,hb,hr29⟩
 refine ⟨_,rfl,fun fr r=>?_⟩
 have zw27:=hP.size;have hP:Post (fun b=>b∈(memK a1g a1).own) [bE Tryz.prog aA a0 a0v a0F,memK a1g x16.2.2,aa b1 a0v.cells 157,aa b5 ((capC a2)).toArray 68,aa b9 (af false aA.zero 0 0 0 0 .nilFunc) 157,bE Tryz.prog aA (x26,T.next a0.2 x16.1) v28 (a0F++rg w17.heap.size w27.heap.size)] w0 w27:=hP.addProgF (k:=0) rfl hb hr29
 refine kP r (hP.prog (i:=5) rfl).shape rfl rfl (hP.cell (i:=4) rfl) cI rfl rfl fun w31 u32 r=>?_;have hP:Post (fun b=>b∈(memK a1g a1).own) [bE Tryz.prog aA a0 a0v a0F,memK a1g x16.2.2,aa b1 a0v.cells 157,aa b5 ((capC a2)).toArray 68,aa b9 v28.cells 157,bE Tryz.prog aA (x26,T.next a0.2 x16.1) v28 (a0F++rg w17.heap.size w27.heap.size)] w0 w31:=hP.upd (i:=4) rfl u32
 refine kA (.bool true) r rfl rfl fun r=>wn (wp_ret ?_);have hv:((x26,T.next a0.2 x16.1),true,x16.2.2)=res:=Option.some.inj hD
 try dsimp only [Exit.then,Exit.inBlock]
 have hs:=(hP.prog (i:=5) rfl).shape.cells;refine fk (fn:=Tryz.f162) r rfl rfl (v':=(.bool true)) rfl (hP.cell (i:=4) rfl) (k:=6) hs.1 cC ?_;rw [←hs.2.2];subst hv;exact ⟨v28,(a0F++rg w17.heap.size w27.heap.size),rfl,(hP.pick [1,5] rfl rfl).done (cP rfl (p7 (fun b h=>(List.mem_append.1 h).elim .inl (fun h=>.inr (by have:=(dA.1 h).1; omega))) dl))⟩
def D.oJ (fu:Nat) (a0:Nat × T Unit) (a1:Mem) (a2:Cap) (a3:Int):Option (Unit × Int × Bool × Mem):=(loopThen (fun (x13:Int × Mem × (Nat × T Unit))=>(Option.bind (bif (decide (x13.1<a3)) then (some (!x13.2.2.2.bd)) else (some false)) (fun (x19:Bool)=>(bif x19 then ((D.nM fu x13.2.2 x13.2.1 a2).bind (fun (x23:(Nat × T Unit) × Bool × Mem)=>(bif (!x23.2.1) then (some (Lp.brk (x13.1,x23.2.2,x13.2.2))) else (some (Lp.next ((IntKind.i64.wrap (x13.1+1)),x23.2.2,x23.1)))))) else (some (Lp.brk (x13.1,x13.2.1,x13.2.2))))))) fu (0,a1,a0) (fun (x37:Int × Mem × (Nat × T Unit))=>(some ((),x37.1,x37.2.2.2.bd,x37.2.1))))
set_option maxRecDepth 20000 in
set_option maxHeartbeats 20000000 in
theorem Ab {fu:Nat} (w0:World) {a0v:Value} {a0F:List Nat} (a0:Nat × T Unit) {a1g:MG} (a1:Mem) (a2:Cap) (a3:Int) (hS:Sep [bE Tryz.prog aA a0 a0v a0F,memK a1g a1] w0) {res:Unit × Int × Bool × Mem} (hD:D.oJ fu a0 a1 a2 a3=some res) :
    Calls Tryz.prog 80 #[a0v,zp a1g.mb,.agg (capC a2).toArray,.int .i64 a3] w0 (fun e w'=>e=.returned (.tuple #[(.agg #[]),(.int .i64 res.2.1),(.bool res.2.2.1)])∧Done (fun b=>b∈(memK a1g a1).own) No [memK a1g res.2.2.2] w0 w'):=by
 refine enter Tryz.func80 rfl 39 rfl rfl fun fr r=>?_;have hP:Post (fun b=>b∈(memK a1g a1).own) [bE Tryz.prog aA a0 a0v a0F,memK a1g a1] w0 w0:=.start hS (by simp [memK,bE])
 unfold D.oJ at hD
 refine wsr ?_;refine kX 157 a0v r rfl rfl fun b1 w2 n3 r=>?_;have hP:Post (fun b=>b∈(memK a1g a1).own) [bE Tryz.prog aA a0 a0v a0F,memK a1g a1,aa b1 a0v.cells 157] w0 w2:=hP.new n3
 refine kX 68 (.agg (capC a2).toArray) r rfl rfl fun b5 w6 n7 r=>?_;have hP:Post (fun b=>b∈(memK a1g a1).own) [bE Tryz.prog aA a0 a0v a0F,memK a1g a1,aa b1 a0v.cells 157,aa b5 ((capC a2)).toArray 68] w0 w6:=hP.new n7
 refine ai (.cells #[] 152 (0,0)) r (fun R=>ah wN) rfl fun fr b9 w10 n11 r=>?_;have hP:Post (fun b=>b∈(memK a1g a1).own) [bE Tryz.prog aA a0 a0v a0F,memK a1g a1,aa b1 a0v.cells 157,aa b5 ((capC a2)).toArray 68,aa b9 #[] 152] w0 w10:=hP.new n11
 refine kA (I 0) r rfl rfl fun r=>kA (.bool false) r rfl rfl fun r=>wn (wsr (kA (I 0) r rfl rfl fun r=>wn (wp_seq ?_)));refine fA (X:=Int × Mem × (Nat × T Unit)) (G:=Value × List Nat) (x0:=(0,a1,a0)) (fun x γ=>[(0,a0v),(1,(zp a1g.mb)),(2,(.agg (capC a2).toArray)),(3,(I a3)),(4,(zp b1)),(6,(zp b5)),(8,(zp b9)),(9,(I 0)),(10,(.bool false)),(11,(I x.1))]) (fun x γ w=>Post (fun b=>b∈(memK a1g a1).own) [bE Tryz.prog aA x.2.2 γ.1 γ.2,memK a1g x.2.1,aa b1 γ.1.cells 157,aa b5 ((capC a2)).toArray 68,aa b9 #[] 152] w0 w) (a0v,a0F) r (kO (kO (aq rfl (aq rfl aN)))) hP hD ?_ ?_
 ·
  rintro x13 γ14 fr w16 g y15 RPy15 nxy15 bky15 rty15 r hP hD;have hP:Post (fun b=>b∈(memK a1g a1).own) [bE Tryz.prog aA x13.2.2 γ14.1 γ14.2,memK a1g x13.2.1,aa b1 γ14.1.cells 157,aa b5 ((capC a2)).toArray 68,aa b9 #[] 152] w0 w16:=hP
  refine wp_seq (wp_seq ?_);refine cL (N:=39) (Y:=Bool) (G:=Unit) (fun x γ=>[(0,a0v),(1,(zp a1g.mb)),(2,(.agg (capC a2).toArray)),(3,(I a3)),(4,(zp b1)),(6,(zp b5)),(8,(zp b9)),(9,(I 0)),(10,(.bool false)),(11,(I x13.1)),(21,(.bool x))]) (fun x γ w=>Post (fun b=>b∈(memK a1g a1).own) [bE Tryz.prog aA x13.2.2 γ14.1 γ14.2,memK a1g x13.2.1,aa b1 γ14.1.cells 157,aa b5 ((capC a2)).toArray 68,aa b9 #[] 152] w0 w) hD ?_ ?_
  ·
   rintro y17 RPy17 nxy17 hD;refine wp_region_lit (kM (I x13.1) r rfl rfl fun r=>kM (I a3) r rfl rfl fun r=>kB r rfl rfl rfl rfl rfl fun r=>kM (.bool (decide (x13.1<a3))) r rfl rfl fun r=>?_);refine bA (decide (x13.1<a3)) (fun h18=>?_) (fun h18=>?_)
   ·
    have hD:=(az h18).symm.trans hD;refine s1 r h18 (ac _ r (fun R=>ax r (b:=b1) (o:=0) (k:=0) rfl eK) rfl fun fr r=>s1 r h18 (kL (.bool x13.2.2.2.bd) r rfl (hP.cell (i:=2) rfl) to4 (Rep.iT (hP.prog (i:=0) rfl)) rfl fun r=>s1 r h18 (ac (.bool (!x13.2.2.2.bd)) r (fun R=>y_un r (u:=(.bool x13.2.2.2.bd)) rfl rfl) rfl fun fr r=>ac (.bool (!x13.2.2.2.bd)) r (fun R=>aw r (b:=true) (congrArg Value.bool h18) rfl) rfl fun fr r=>wn ?_)));exact nxy17 (!x13.2.2.2.bd) () _ _ _ hD r (kO (kO (aq rfl (aq rfl (aq rfl aN))))) (hP.pick [0,1,2,3,4] rfl rfl)
   have hD:=(aB h18).symm.trans hD;refine s0 r h18 fun fr r=>s0 r h18 fun fr r=>s0 r h18 fun fr r=>ac (.bool false) r (fun R=>aw r (b:=false) (congrArg Value.bool h18) rfl) rfl fun fr r=>wn ?_;exact nxy17 false () _ _ _ hD r (kO (kO (aq rfl (aq rfl (aq rfl aN))))) (hP.pick [0,1,2,3,4] rfl rfl)
  rintro x19 γ20 fr w21 g r hP hD;have hP:Post (fun b=>b∈(memK a1g a1).own) [bE Tryz.prog aA x13.2.2 γ14.1 γ14.2,memK a1g x13.2.1,aa b1 γ14.1.cells 157,aa b5 ((capC a2)).toArray 68,aa b9 #[] 152] w0 w21:=hP
  refine wp_cond_split (t:=x19) (r.ev rfl) (fun h22=>?_) (fun h22=>?_)
  ·
   have hD:=(az h22).symm.trans hD;refine wp_skip (wp_block (wsr (ac γ14.1 r (fun R=>dP r (hP.prog (i:=0) rfl).shape rfl (hP.cell (i:=2) rfl) cC) rfl fun fr r=>kM (zp a1g.mb) r rfl rfl fun r=>kG (capC a2) 2 r rfl (hP.cell (i:=3) rfl) ta68 rfl rfl fun r=>?_)));obtain ⟨x23,hx23,hD⟩:=aY hD
   refine kC r (ye w21 x13.2.2 x13.2.1 a2 (hP.sep.pk [0,1] rfl rfl) hx23) rfl EN rfl ?_;rintro _ w24 ⟨v25,F26,rfl,hq⟩;refine ⟨_,rfl,fun fr r=>?_⟩
   have hP:Post (fun b=>b∈(memK a1g a1).own) [bE Tryz.prog aA x13.2.2 γ14.1 γ14.2,memK a1g x23.2.2,aa b1 γ14.1.cells 157,aa b5 ((capC a2)).toArray 68,aa b9 #[] 152,bE Tryz.prog aA x23.1 v25 F26] w0 w24:=hP.setR (i:=1) (k:=0) rfl rfl rfl hq
   refine kM (.tuple #[v25,(.bool x23.2.1)]) r rfl rfl fun r=>ac v25 r (fun R=>bM r (vs:=#[v25,(.bool x23.2.1)]) rfl rfl) rfl fun fr r=>ac (.bool x23.2.1) r (fun R=>bM r (vs:=#[v25,(.bool x23.2.1)]) rfl rfl) rfl fun fr r=>?_;refine ai (.cells (af false aA.zero 0 0 0 0 .nilFunc) 157 (0,0)) r (fun R=>ah cZ) rfl fun fr b28 w29 n30 r=>?_
   have hP:Post (fun b=>b∈(memK a1g a1).own) [bE Tryz.prog aA x13.2.2 γ14.1 γ14.2,memK a1g x23.2.2,aa b1 γ14.1.cells 157,aa b5 ((capC a2)).toArray 68,aa b9 #[] 152,bE Tryz.prog aA x23.1 v25 F26,aa b28 (af false aA.zero 0 0 0 0 .nilFunc) 157] w0 w29:=hP.new n30
   refine kP r (hP.prog (i:=5) rfl).shape rfl rfl (hP.cell (i:=6) rfl) cI rfl rfl fun w32 u33 r=>?_;have hP:Post (fun b=>b∈(memK a1g a1).own) [bE Tryz.prog aA x13.2.2 γ14.1 γ14.2,memK a1g x23.2.2,aa b1 γ14.1.cells 157,aa b5 ((capC a2)).toArray 68,aa b9 #[] 152,bE Tryz.prog aA x23.1 v25 F26,aa b28 v25.cells 157] w0 w32:=hP.upd (i:=6) rfl u33
   refine kA (.bool x23.2.1) r rfl rfl fun r=>wn (wp_seq (wsr (kM (.bool x23.2.1) r rfl rfl fun r=>ac (.bool (!x23.2.1)) r (fun R=>y_un r (u:=(.bool x23.2.1)) rfl rfl) rfl fun fr r=>wn ?_)));refine wp_cond_split (t:=(!x23.2.1)) (r.ev rfl) (fun h34=>?_) (fun h34=>?_)
   ·
    have hD:=(az h34).symm.trans hD;refine wp_exit ?_;exact bky15 (x13.1,x23.2.2,x13.2.2) (γ14.1,γ14.2) _ _ _ hD r (kO (kO (aq rfl (aq rfl aN)))) (hP.pick [0,1,2,3,4] rfl rfl)
   have hD:=(aB h34).symm.trans hD;refine wp_skip (wsr (ac v25 r (fun R=>dP r (hP.prog (i:=5) rfl).shape rfl (hP.cell (i:=6) rfl) cC) rfl fun fr r=>?_));refine kP r (hP.prog (i:=5) rfl).shape rfl rfl (hP.cell (i:=2) rfl) cI (by have h:=(hP.prog (i:=0) rfl).shape.cells.1; simpa using h) rfl fun w35 u36 r=>?_
   have hP:Post (fun b=>b∈(memK a1g a1).own) [bE Tryz.prog aA x13.2.2 γ14.1 γ14.2,memK a1g x23.2.2,aa b1 v25.cells 157,aa b5 ((capC a2)).toArray 68,aa b9 #[] 152,bE Tryz.prog aA x23.1 v25 F26,aa b28 v25.cells 157] w0 w35:=hP.upd (i:=2) rfl u36
   refine wn ?_;refine wp_region_lit (kM (I x13.1) r rfl rfl fun r=>kB r rfl rfl rfl rfl rfl fun r=>kA (I (W (x13.1+1))) r rfl rfl fun r=>wn ?_);exact nxy15 ((W (x13.1+1)),x23.2.2,x23.1) (v25,F26) _ _ _ hD r (kO (kO (aq rfl (aq rfl aN)))) (hP.pick [5,1,2,3,4] rfl rfl)
  have hD:=(aB h22).symm.trans hD;refine wp_exit ?_;exact bky15 (x13.1,x13.2.1,x13.2.2) (γ14.1,γ14.2) _ _ _ hD r (kO (kO (aq rfl (aq rfl aN)))) (hP.pick [0,1,2,3,4] rfl rfl)
 rintro x37 γ38 fr w39 g r hP hD;have hP:Post (fun b=>b∈(memK a1g a1).own) [bE Tryz.prog aA x37.2.2 γ38.1 γ38.2,memK a1g x37.2.1,aa b1 γ38.1.cells 157,aa b5 ((capC a2)).toArray 68,aa b9 #[] 152] w0 w39:=hP
 refine wp_seq ?_;refine fY [b9] [.pred (fun v _ _ _=>∃ sp,v=.pointer (some ⟨b1,1,sp⟩)) (fun _ _ _ _ _ h _=>h),.val (.agg #[]),.val (I x37.1),.val (zp b1),.val (.bool x37.2.2.2.bd),.eff (EffP w39.heap.size (aa b9 #[] 152) (fun _:Unit=>undef) (fun _:Unit=>[])) (EffP.st _ _ _ _),.val (I x37.1),.val (.bool x37.2.2.2.bd)] mixed r (fun b hb=>hP.sep.lt (i:=4) rfl (.inl hb)) kz ?_ ?_
 ·
  refine bO r rfl kz (fun fr1 g w' hb' hd r'=>?_) ?_
  · exact jA r' rfl kp ((hP.below (dr hb')).cell (i:=2) rfl) (fun sp=>⟨Below.refl _ _,sp,rfl⟩)
  refine bO r rfl kz (fun fr1 g w' hb' hd r'=>?_) ?_
  · obtain ⟨sp,hsp⟩:=(hd 0 rfl).1; exact jG r' hsp ia ⟨Below.refl _ _,rfl⟩
  refine aF r rfl (fun fr1 g w' hk' hd r'=>?_) ?_
  · exact ay r' (v:=(I x37.1)) rfl ⟨Below.refl _ _,rfl⟩
  refine aF r rfl (fun fr1 g w' hk' hd r'=>?_) ?_
  · exact ax r' (b:=b1) (o:=0) (k:=0) rfl eK ⟨Below.refl _ _,rfl⟩
  refine aF r rfl (fun fr1 g w' hk' hd r'=>?_) ?_
  · exact av r' (v:=(.bool x37.2.2.2.bd)) (hd 3 rfl).1 (hP.cellK (j:=4) rfl (drK hk') (i:=2) rfl rfl) to4 (Rep.iT (show Rep _ _ _ _ _ _ _ from hP.okK (j:=4) rfl (drK hk') (i:=0) rfl rfl)) ⟨Below.refl _ _,rfl⟩
  refine bO r rfl kz (fun fr1 g w' hb' hd r'=>?_) ?_
  · exact aT r' (o:=0) (v:=(.agg #[])) rfl (hd 1 rfl).1 ((hP.below (dr hb')).cell (i:=4) rfl) wh (Nat.le_of_ble_eq_true rfl) rfl rfl (fun w2 u2=>⟨u2.kept,(),rfl,u2.at_,(fun b hb=>hP.sep.lt (i:=4) rfl hb),pw⟩)
  refine aF r rfl (fun fr1 g w' hk' hd r'=>?_) ?_
  · exact cf r' (v:=(I x37.1)) (hd 2 rfl).1 ⟨Below.refl _ _,rfl⟩
  refine aF r rfl (fun fr1 g w' hk' hd r'=>?_) ?_
  · exact cf r' (v:=(.bool x37.2.2.2.bd)) (hd 4 rfl).1 ⟨Below.refl _ _,rfl⟩
  exact cc
 intro fr gg w40 hb hΦ hap r;obtain ⟨⟨⟩,g5,hcE,_,hs5⟩:=(hΦ 5 rfl).1;have r:=r.congr (sc ((hΦ 7 rfl).1) (sc ((hΦ 6 rfl).1) (sc ((hΦ 4 rfl).1) (sc ((hΦ 3 rfl).1) (sc ((hΦ 2 rfl).1) (sc ((hΦ 1 rfl).1) (sc rfl rfl)))))));have hP:Post (fun b=>b∈(memK a1g a1).own) [bE Tryz.prog aA x37.2.2 γ38.1 γ38.2,memK a1g x37.2.1,aa b1 γ38.1.cells 157,aa b5 ((capC a2)).toArray 68,aa b9 #[] 152] w0 w40:=hP.effL (i:=4) (l:=[]) rfl hb hcE rfl rfl trivial
 refine wp_ret ?_;have hv:((),x37.1,x37.2.2.2.bd,x37.2.1)=res:=Option.some.inj hD
 try dsimp only [Exit.then,Exit.inBlock]
 refine sS (fn:=Tryz.f80) r rfl rfl (v':=(I x37.1)) (v2:=(.bool x37.2.2.2.bd)) rfl rfl (hP.cell (i:=4) rfl) (k:=0) rfl ia ?_;subst hv;exact ⟨rfl,(hP.pick [1] rfl rfl).done (cP rfl dl)⟩
def D.jd (fu:Nat) (a0:Nat × T Res) (a1:Mem) (a2:Cap):Option ((Nat × T Res) × Bool × Mem):=(bif a0.2.bd then (some (a0,false,a1)) else ((D.fS fu a1 a2 (T.acc a0.2)).bind (fun (x16:Int × Bool × Mem)=>(bif (!x16.2.1) then (some (a0,false,x16.2.2)) else ((depthI a0.1).bind (fun (x26:Nat)=>(some ((x26,T.next a0.2 x16.1),true,x16.2.2))))))))
def D.jC (fu:Nat) (a0:Nat × T Res) (a1:Mem) (a2:Cap) (a3:Int):Option (Res × Int × Bool × Mem):=(loopThen (fun (x13:Int × Mem × (Nat × T Res))=>(Option.bind (bif (decide (x13.1<a3)) then (some (!x13.2.2.2.bd)) else (some false)) (fun (x19:Bool)=>(bif x19 then ((D.jd fu x13.2.2 x13.2.1 a2).bind (fun (x23:(Nat × T Res) × Bool × Mem)=>(bif (!x23.2.1) then (some (Lp.brk (x13.1,x23.2.2,x13.2.2))) else (some (Lp.next ((IntKind.i64.wrap (x13.1+1)),x23.2.2,x23.1)))))) else (some (Lp.brk (x13.1,x13.2.1,x13.2.2))))))) fu (0,a1,a0) (fun (x37:Int × Mem × (Nat × T Res))=>(some ((T.res (⟨0,0⟩:Res) x37.2.2.2),x37.1,x37.2.2.2.bd,x37.2.1))))
end Go.Proofs.YtikjpdpgdmbdpaaGreat

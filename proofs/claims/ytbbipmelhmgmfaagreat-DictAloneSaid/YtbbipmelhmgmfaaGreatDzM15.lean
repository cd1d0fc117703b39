/- Some of our texts, one behind the other. -/
import Derived.Test.YtbbipmelhmgmfaaGreatDzPlans
import Derived.Test.YtbbipmelhmgmfaaGreatDzM7
import Derived.Test.YtbbipmelhmgmfaaGreatDzM13
import Derived.Test.YtbbipmelhmgmfaaGreatDzM8
import Derived.Test.YtbbipmelhmgmfaaGreatDzRetires
set_option linter.all false
set_option maxRecDepth 100000
set_option maxHeartbeats 20000000
/- Ours. -/
namespace Go.Proofs.YtbbipmelhmgmfaaGreat
open Go.RowKit
theorem bq {x:Int} (h0:-9223372036854775808<=x) (h1:x<=9223372036854775807):IntKind.i64.wrap x=x:=by
 simp only [IntKind.wrap]
 simp [IntKind.signed,IntKind.bits]
 omega
structure PF (p:Plan):Prop where
 n1:1<=p.nodes
 n2:p.nodes<=1048576
 t1:1<=p.threads
 t2:p.threads<=16
 d1:0<=p.domains
 d2:p.domains<=64
 b1:1<=p.buckets
 b2:p.buckets<=256
 g1:1<=p.IP
 g2:p.IP<=1073741823
 r1:3 * p.threads+1<=p.retire
 r2:p.retire<=1024
theorem all_nil {α:Type} {P:α->Prop}:(∀ b,b∈([]:List α)->P b)↔True:=⟨fun _=>trivial,fun _ _ hb=>nomatch hb⟩
theorem all_cons {α:Type} {P:α->Prop} {x:α} {l:List α}:(∀ b,b∈x::l->P b)↔P x/\∀ b,b∈l->P b:=List.forall_mem_cons
theorem within_iff {l:List IG}:D.cC l=true↔∀ b,b∈l->b.least<=b.n/\b.n<=b.most:=by
 unfold D.cC;rw [List.all_eq_true]
 constructor
 ·intro h b hb
  have:=h b hb;simp only [Bool.and_eq_true,Bool.not_eq_true',decide_eq_false_iff_not] at this
  omega
 ·intro h b hb
  have:=h b hb;simp only [Bool.and_eq_true,Bool.not_eq_true',decide_eq_false_iff_not];omega
theorem lI {p:Plan}:D.cY p=true↔PF p:=by
 unfold D.cY
 constructor
 ·intro h
  cases h1:D.cC [(⟨p.nodes,1,1048576⟩:IG),⟨p.threads,1,16⟩,⟨p.domains,0,64⟩,⟨p.buckets,1,256⟩,⟨p.IP,1,1073741823⟩]
  ·rw [h1] at h; cases h
  ·rw [h1] at h
   simp only [cond_true] at h
   have h1:=within_iff.1 h1;have h:=within_iff.1 h;simp only [all_cons,all_nil,and_true] at h1 h
   have hw:IntKind.i64.wrap (IntKind.i64.wrap (3 * p.threads)+1)=3 * p.threads+1:=by
    rw [bq (x:=3 * p.threads) O O,bq O O]
   rw [hw] at h
   constructor <;> omega
 ·intro h
  obtain ⟨n1,n2,t1,t2,d1,d2,b1,b2,g1,g2,r1,r2⟩:=h;have h1:D.cC [(⟨p.nodes,1,1048576⟩:IG),⟨p.threads,1,16⟩,⟨p.domains,0,64⟩,⟨p.buckets,1,256⟩,⟨p.IP,1,1073741823⟩]=true:=by
   rw [within_iff]
   simp only [all_cons,all_nil,and_true]
   omega
  rw [h1]
  simp only [cond_true]
  have hw:IntKind.i64.wrap (IntKind.i64.wrap (3 * p.threads)+1)=3 * p.threads+1:=by
   rw [bq (x:=3 * p.threads) O O,bq O O]
  rw [hw,within_iff]
  simp only [all_cons,all_nil,and_true]
  omega
theorem vg {p:Plan} (h:D.cM p=true):PF p:=by
 unfold D.cM at h
 simp only [cond_eq_ite,decide_eq_true_eq,Bool.if_false_left,Bool.if_false_right,Bool.and_eq_true,Bool.not_eq_true',decide_eq_false_iff_not] at h
 obtain ⟨h1,h2,h3,h4,h5,h6,h7,h8,h9,JS,h11,h12⟩:=h;rw [bq O O] at h11
 constructor <;> omega
theorem BL {p:Plan}:D.cM p=true↔PF p:=by
 refine ⟨vg,fun h=>?_⟩
 obtain ⟨n1,n2,t1,t2,d1,d2,b1,b2,g1,g2,r1,r2⟩:=h;unfold D.cM;simp only [cond_eq_ite,decide_eq_true_eq,Bool.if_false_left,Bool.if_false_right,Bool.and_eq_true,Bool.not_eq_true',decide_eq_false_iff_not];rw [bq O O];omega
theorem DZ {p:Plan} (hp:PF p) (h:D.eM p=true):p.nodes<=40/\p.retire<=40/\p.domains<=6/\p.buckets<=10:=by
 unfold D.eM at h
 rw [BL.2 hp,Bool.not_true,cond_false] at h
 simpa only [cond_eq_ite,decide_eq_true_eq,Bool.if_false_left,Bool.if_false_right,Bool.and_eq_true] using h
section
variable {p : Plan} (hp : PF p)
include hp
theorem jO:2<=D.bE p/\D.bE p<=256:=by
 obtain ⟨n1,n2,t1,t2,d1,d2,b1,b2,g1,g2,r1,r2⟩:=hp;unfold D.bE maxI
 split <;> omega
theorem fJ:0<=p.domains * (1+D.bE p)/\p.domains * (1+D.bE p)<=64 * 257:=by
 have h:=jO hp;obtain ⟨n1,n2,t1,t2,d1,d2,b1,b2,g1,g2,r1,r2⟩:=hp;exact ⟨Int.mul_nonneg d1 O,Int.mul_le_mul d2 O O O⟩
theorem sA:0<=p.threads * (1+p.retire)/\p.threads * (1+p.retire)<=16 * 1025:=by
 obtain ⟨n1,n2,t1,t2,d1,d2,b1,b2,g1,g2,r1,r2⟩:=hp;exact ⟨Int.mul_nonneg O O,Int.mul_le_mul t2 O O O⟩
theorem lL:D.aL p=1+p.domains * (1+D.bE p):=by
 have h:=fJ hp;have hc:=jO hp;unfold D.aL;rw [bq (x:=1+D.bE p) O O,bq (x:=p.domains * _) O O,bq O O]
theorem lR:D.cF p=1+p.domains * (1+D.bE p)+p.threads * 3:=by
 have h:=fJ hp;have t1:=hp.t1;have t2:=hp.t2;unfold D.cF;rw [lL hp,bq (x:=p.threads * 3) O O,bq O O]
theorem ow:D.aO p=1+p.domains * (1+D.bE p)+p.threads * 3+p.threads * (1+p.retire):=by
 have h:=fJ hp;have h2:=sA hp;have t1:=hp.t1;have t2:=hp.t2;have r1:=hp.r1;have r2:=hp.r2;unfold D.aO;rw [lR hp,bq (x:=1+p.retire) O O,bq (x:=p.threads * (1+p.retire)) O O,bq O O]
theorem cQ:1<=D.aO p/\D.aO p<=40000:=by
 have h:=fJ hp;have h2:=sA hp;have t1:=hp.t1;have t2:=hp.t2;rw [ow hp];omega
theorem vK {x:Int} {l:List IG} (h:∀ b,b∈l->b.least<=b.n/\b.n<=b.most):D.cg p x l=x:=by
 unfold D.cg;rw [lI.2 hp,within_iff.2 h]
 rfl
theorem Dh {x:Int} {l:List IG} (h:¬ ∀ b,b∈l->b.least<=b.n/\b.n<=b.most):D.cg p x l=-1:=by
 unfold D.cg;have hw:D.cC l=false:=by
  cases hw:D.cC l
  ·rfl
  ·exact absurd (within_iff.1 hw) h
 rw [lI.2 hp,hw]
 rfl
theorem dW:D.bF p=D.aO p+p.nodes * 5:=by
 have h:=cQ hp;have n1:=hp.n1;have n2:=hp.n2;unfold D.bF;rw [lI.2 hp];simp only [Bool.not_true,cond_false];rw [bq (x:=p.nodes * 5) O O,bq O O]
theorem jX:D.dK p=0:=by
 unfold D.dK;exact vK hp yas
theorem iY {x y:Int} {l:List IG} {c:Prop} [Decidable c] (h:(∀ b,b∈l->b.least<=b.n/\b.n<=b.most)↔c) (hx:c->x=y):D.cg p x l=if c then y else -1:=by
 by_cases hc:c
 ·rw [if_pos hc,vK hp (h.2 hc),hx hc]
 ·rw [if_neg hc,Dh hp (fun q=>hc (h.1 q))]
theorem DI (n:Int):D.dc p n=if 0<=n/\n<p.nodes then D.aO p+n * 5 else -1:=by
 have h:=cQ hp;have n1:=hp.n1;have n2:=hp.n2;unfold D.dc D.cO;refine iY hp ?_ ?_
 ·simp only [all_cons,all_nil,and_true]
  rw [bq O O]
  omega
 ·intro hc
  rw [bq (x:=n * 5) O O,bq O O]
theorem wN (n:Int):D.dQ p n=if 0<=n/\n<p.nodes then D.aO p+n * 5+1 else -1:=by
 have h:=cQ hp;have n1:=hp.n1;have n2:=hp.n2;unfold D.dQ D.cO;refine iY hp ?_ ?_
 ·simp only [all_cons,all_nil,and_true]
  rw [bq O O]
  omega
 ·intro hc
  rw [bq (x:=n * 5) O O,bq (x:=D.aO p+n * 5) O O,bq O O]
theorem wk (n f:Int):D.bo p n f=if (0<=n/\n<p.nodes)/\0<=f/\f<3 then D.aO p+n * 5+2+f else -1:=by
 have h:=cQ hp;have n1:=hp.n1;have n2:=hp.n2;unfold D.bo D.cO;refine iY hp ?_ ?_
 ·simp only [all_cons,all_nil,and_true]
  rw [bq O O]
  omega
 ·intro hc
  rw [bq (x:=n * 5) O O,bq (x:=D.aO p+n * 5) O O,bq (x:=D.aO p+n * 5+2) O O,bq O O]
theorem vG (t i:Int):D.fO p t i=if (0<=t/\t<p.threads)/\0<=i/\i<3 then D.aL p+t * 3+i else -1:=by
 have h:=fJ hp;have h1:=lL hp;have t1:=hp.t1;have t2:=hp.t2;unfold D.fO D.cN;refine iY hp ?_ ?_
 ·simp only [all_cons,all_nil,and_true]
  rw [bq O O]
  omega
 ·intro hc
  rw [bq (x:=t * 3) O O,bq (x:=D.aL p+t * 3) O O,bq O O]
theorem yJ {t:Int} (h0:0<=t) (h1:t<p.threads):0<=t * (1+p.retire)/\t * (1+p.retire)<=16 * 1025:=by
 obtain ⟨n1,n2,t1,t2,d1,d2,b1,b2,g1,g2,r1,r2⟩:=hp;exact ⟨Int.mul_nonneg O O,Int.mul_le_mul O O O O⟩
theorem Dv (t:Int):D.dZ p t=if 0<=t/\t<p.threads then D.cF p+t * (1+p.retire) else -1:=by
 have h:=fJ hp;have h1:=lR hp;have t1:=hp.t1;have t2:=hp.t2;have r1:=hp.r1;have r2:=hp.r2;unfold D.dZ D.cN;refine iY hp ?_ ?_
 ·simp only [all_cons,all_nil,and_true]
  rw [bq O O]
  omega
 ·intro hc
  have h2:=yJ hp hc.1 hc.2;rw [bq (x:=1+p.retire) O O,bq (x:=t * (1+p.retire)) O O,bq O O]
theorem CL (t i:Int):D.dI p t i=if (0<=t/\t<p.threads)/\0<=i/\i<p.retire then D.cF p+t * (1+p.retire)+1+i else -1:=by
 have h:=fJ hp;have h1:=lR hp;have t1:=hp.t1;have t2:=hp.t2;have r1:=hp.r1;have r2:=hp.r2;unfold D.dI D.cN;refine iY hp ?_ ?_
 ·simp only [all_cons,all_nil,and_true]
  rw [bq (x:=p.threads - 1) O O,bq (x:=p.retire - 1) O O]
  omega
 ·intro hc
  have h2:=yJ hp hc.1.1 hc.1.2;rw [bq (x:=1+p.retire) O O,bq (x:=t * (1+p.retire)) O O,bq (x:=D.cF p+t * (1+p.retire)) O O,
   bq (x:=D.cF p+t * (1+p.retire)+1) O O,bq O O]
theorem yh {d:Int} (h0:0<=d) (h1:d<p.domains):0<=d * (1+D.bE p)/\d * (1+D.bE p)<=64 * 257:=by
 have hc:=jO hp;have d2:=hp.d2;exact ⟨Int.mul_nonneg O O,Int.mul_le_mul O O O O⟩
end
theorem iV {X Z:Type} {body:X->Option (Lp X Z)} {f:X->Option Z} {x0:X} (Q:Option Z->Prop) (I:Nat->X->Prop) (n k:Nat) (h0:I 0 x0) (hk:n<k)
  (hs:∀ i x,i<n->I i x->∃ x',body x=some (.next x')/\I (i+1) x') (he:∀ x,I n x->∃ x',body x=some (.brk x')/\Q (f x')):Q (loopThen body k x0 f):=by
 have h:∀ d i x,i+d=n->I i x->∀ k,d<k->Q ((runLoop body k x).bind (afterLoop f)):=by
  intro d
  induction d with
  | zero=>
   intro i x hi hI k hk;obtain ⟨k,rfl⟩:∃ q,k=q+1:=⟨k - 1,O⟩
   obtain rfl:i=n:=O
   obtain ⟨x',hb,hf⟩:=he x hI;simp only [runLoop,hb,Option.bind_some,goOn,afterLoop];exact hf
  | succ d ih=>
   intro i x hi hI k hk;obtain ⟨k,rfl⟩:∃ q,k=q+1:=⟨k - 1,O⟩
   obtain ⟨x',hb,hI'⟩:=hs i x O hI;simp only [runLoop,hb,Option.bind_some,goOn];exact ih (i+1) x' O hI' k O
 exact h n 0 x0 O h0 k hk
theorem hO {α:Type} {l:List α} {i:Nat} (h:i<l.length):Jj l i=some l[i]:=by
 unfold Jj;rw [if_pos O,Int.toNat_natCast,List.getElem?_eq_getElem h]
theorem bW {x:Int} (h0:-1000000<=x) (h1:x<=1000000):IntKind.i64.wrap x=x:=bq O O
def acted (op at_ a b x:Int) (ws:List Int):List Int:=
 if op=1 then ws.set at_.toNat a else if op=2 then (if x=a then ws.set at_.toNat b else ws) else if op=3 then ws.set at_.toNat (IntKind.u64.wrap (x+a)) else ws
inductive I6 {R:Type}:T R->List Int->Nat->R->List Int->Prop
 | done (r:R) (ws:List Int):I6 (.done r) ws 0 r ws
 | act {op at_ a b x:Int} {k:Int->T R} {ws I7:List Int} {n:Nat} {r:R} (h1:0<=op/\op<=3) (h2:Jj ws at_=some x) (h:I6 (k x) (acted op at_ a b x ws) n r I7):I6 (.act op at_ a b k) ws (n+1) r I7
theorem I6.bind {A B:Type} {t:T A} {g:A->T B} {ws I7 ws'':List Int} {n m:Nat} {a:A} {b:B} (h:I6 t ws n a I7) (h2:I6 (g a) I7 m b ws''):I6 (t.bind g) ws (n+m) b ws'':=by
 induction h with
 | done r ws=>simpa [T.bind] using h2
 | @act op at_ a b x k ws I7 n r h1 h3 _ ih=>
  have:=I6.act (k:=fun x=>(k x).bind g) h1 h3 (ih h2)
  rw [show n+1+m=n+m+1 from by omega]
  exact this
theorem I6.cast {R:Type} {t:T R} {ws I7:List Int} {n m:Nat} {r:R} (h:I6 t ws n r I7) (e:n=m):I6 t ws m r I7:=e ▸ h
def cap0:Cap:=⟨0,1⟩
theorem wZ (fu:Nat) (M:Mem):D.jp fu M 0=some cap0:=rfl
theorem GK {fu:Nat} {M:Mem} {op at_ a b x:Int} (h1:0<=op/\op<=3) (h2:Jj M.ws at_=some x):∃ c,D.gL fu M cap0 ⟨op,at_,a,b⟩=some (x,true,⟨acted op at_ a b x M.ws,c⟩):=by
 obtain ⟨h3,h4,_,_⟩:=fF h2;refine ⟨IntKind.i64.wrap (M.cnt+1),?_⟩;unfold D.gL;have hG:D.nC fu M cap0=some true:=rfl;have hS:D.jl fu M cap0.region=some (M.ws.length:Int):=rfl;simp only [hG,hS,Option.bind_some,Bool.not_true,cond_false];rw [show decide (at_<0)=false from by simp; omega,show decide (at_>=(M.ws.length:Int))=false from by simp; omega,show decide (op<0)=false from by simp; omega,show decide (op > 3)=false from by simp; omega]
 simp only [cond_false,Option.bind_some]
 rw [show zeroI cap0.region=some () from rfl,h2]
 simp only [Option.bind_some]
 by_cases e1:op=1
 ·subst e1
  simp [acted,Mem.put]
 rw [show (op==1)=false from by simpa using e1]
 by_cases e2:op=2
 ·subst e2
  by_cases e3:x=a
  ·subst e3; simp [acted,Mem.put]
  ·rw [show (x==a)=false from by simpa using e3]
   simp [acted,e3]
 rw [show (op==2)=false from by simpa using e2]
 by_cases e3:op=3
 ·subst e3; simp [acted,Mem.put]
 rw [show (op==3)=false from by simpa using e3]
 simp [acted,e1,e2,e3]
section
variable {R : Type}
def stepG (fu:Nat) (a0:Nat × T R) (a1:Mem) (a2:Cap):Option ((Nat × T R) × Bool × Mem):=(bif a0.2.bC then (some (a0,false,a1)) else ((D.gL fu a1 a2 (T.acc a0.2)).bind (fun (Kd:Int × Bool × Mem)=>(bif (!Kd.2.1) then (some (a0,false,Kd.2.2)) else ((depthI a0.1).bind (fun (Ky:Nat)=>(some ((Ky,T.next a0.2 Kd.1),true,Kd.2.2))))))))
def runG (z:R) (fu:Nat) (a0:Nat × T R) (a1:Mem) (a2:Cap) (a3:Int):Option (R × Int × Bool × Mem):=(loopThen (fun (IC:Int × Mem × (Nat × T R))=>(Option.bind (bif (decide (IC.1<a3)) then (some (!IC.2.2.2.bC)) else (some false)) (fun (x19:Bool)=>(bif x19 then ((stepG fu IC.2.2 IC.2.1 a2).bind (fun (JE:(Nat × T R) × Bool × Mem)=>(bif (!JE.2.1) then (some (Lp.brk (IC.1,JE.2.2,IC.2.2))) else (some (Lp.next ((IntKind.i64.wrap (IC.1+1)),JE.2.2,JE.1)))))) else (some (Lp.brk (IC.1,IC.2.1,IC.2.2))))))) fu (0,a1,a0) (fun (JO:Int × Mem × (Nat × T R))=>(some (T.res z JO.2.2.2,JO.1,JO.2.2.2.bC,JO.2.1))))
theorem DJ {fu d:Nat} {M:Mem} {op at_ a b x:Int} {k:Int->T R} (h1:0<=op/\op<=3) (h2:Jj M.ws at_=some x):∃ c,stepG fu (d+1,.act op at_ a b k) M cap0=some ((d,k x),true,⟨acted op at_ a b x M.ws,c⟩):=by
 obtain ⟨c,hc⟩:=GK (fu:=fu) (a:=a) (b:=b) h1 h2;refine ⟨c,?_⟩;unfold stepG;show ((D.gL fu M cap0 ⟨op,at_,a,b⟩).bind _)=_
 rw [hc]
 rfl
theorem D9 {z r:R} {fu:Nat} {most:Int} {I7:List Int} {t:T R} {ws:List Int} {n:Nat} (h:I6 t ws n r I7):∀ (i:Int) (c:Int) (d q:Nat),0<=i->i+n<=most->most<=1000000->n<=d->n<q->
  ∃ c',loopThen (fun (IC:Int × Mem × (Nat × T R))=>(Option.bind (bif (decide (IC.1<most)) then (some (!IC.2.2.2.bC)) else (some false)) (fun (x19:Bool)=>(bif x19 then ((stepG fu IC.2.2 IC.2.1 cap0).bind (fun (JE:(Nat × T R) × Bool × Mem)=>(bif (!JE.2.1) then (some (Lp.brk (IC.1,JE.2.2,IC.2.2))) else (some (Lp.next ((IntKind.i64.wrap (IC.1+1)),JE.2.2,JE.1)))))) else (some (Lp.brk (IC.1,IC.2.1,IC.2.2))))))) q (i,⟨ws,c⟩,(d,t))
   (fun (JO:Int × Mem × (Nat × T R))=>(some (T.res z JO.2.2.2,JO.1,JO.2.2.2.bC,JO.2.1)))=some (r,i+n,true,⟨I7,c'⟩):=by
 induction h with
 | done r ws=>
  intro i c d q _ _ _ _ hq;obtain ⟨q,rfl⟩:∃ p,q=p+1:=⟨q - 1,O⟩
  refine ⟨c,?_⟩;have hb:∀ b:Bool,((bif b then some (!(T.done r).bC) else some false):Option Bool)=some false:=fun b=>by cases b <;> rfl
  simp only [loopThen,runLoop,hb,Option.bind_some,cond_false,goOn,afterLoop]
  simp [T.res,T.bC]
 | @act op at_ a b x k ws I7 n r h1 h2 h ih=>
  intro i c d q hi hm hm2 hd hq;obtain ⟨q,rfl⟩:∃ p,q=p+1:=⟨q - 1,O⟩
  obtain ⟨d,rfl⟩:∃ p,d=p+1:=⟨d - 1,O⟩
  obtain ⟨c1,hc1⟩:=DJ (fu:=fu) (d:=d) (M:=⟨ws,c⟩) (a:=a) (b:=b) (k:=k) h1 h2;obtain ⟨c2,hc2⟩:=ih (i+1) c1 d q O O hm2 O O;refine ⟨c2,?_⟩;rw [show (i+((n+1:Nat):Int))=i+1+n from O,<-hc2]
  simp only [loopThen,runLoop]
  rw [show decide (i<most)=true from by simp; omega]
  rw [show (!(T.act op at_ a b k).bC)=true from rfl]
  simp only [cond_true,Option.bind_some,hc1,Bool.not_true,cond_false,goOn,bW (show -1000000<=i+1 by omega) O]
theorem wQ {z r:R} {fu d:Nat} {most:Int} {t:T R} {M:Mem} {I7:List Int} {n:Nat} (h:I6 t M.ws n r I7) (hm:(n:Int)<=most) (hm2:most<=1000000) (hd:n<=d) (hf:n<fu):∃ c',runG z fu (d,t) M cap0 most=some (r,(n:Int),true,⟨I7,c'⟩):=by
 obtain ⟨c',hc⟩:=D9 (z:=z) (fu:=fu) (most:=most) h 0 M.cnt d fu O O hm2 hd hf;refine ⟨c',?_⟩;rw [Int.zero_add] at hc
 exact hc
end
theorem Dj {fu:Nat} {a0:Nat × T Unit} {M:Mem} {c:Cap} {m:Int}:D.nH fu a0 M c m=runG () fu a0 M c m:=rfl
/-! ### Words by their places -/
def rd (ws:List Int) (i:Int):Int:=ws.getD i.toNat 0
theorem ia {ws:List Int} {i:Int} (h0:0<=i) (h1:i<ws.length):Jj ws i=some (rd ws i):=by
 unfold Jj rd;rw [if_pos h0,List.getD_eq_getElem?_getD,List.getElem?_eq_getElem O]
 rfl
theorem bX {ws:List Int} {i j v:Int} (h0:0<=i) (h1:i<ws.length) (hj:0<=j):rd (ws.set i.toNat v) j=if j=i then v else rd ws j:=by
 unfold rd;simp only [List.getD_eq_getElem?_getD,List.getElem?_set]
 by_cases h:j=i
 ·subst h
  simp [show j.toNat<ws.length from by omega]
 ·rw [if_neg O,if_neg h]
theorem I6.load {R:Type} {at_:Int} {k:Int->T R} {ws I7:List Int} {n:Nat} {r:R} (h0:0<=at_) (h1:at_<ws.length) (h:I6 (k (rd ws at_)) ws n r I7):I6 (.act 0 at_ 0 0 k) ws (n+1) r I7:=
 .act O (ia h0 h1) (by simpa [acted] using h)
theorem I6.store {R:Type} {at_ w:Int} {k:Int->T R} {ws I7:List Int} {n:Nat} {r:R} (h0:0<=at_) (h1:at_<ws.length) (h:I6 (k (rd ws at_)) (ws.set at_.toNat w) n r I7):I6 (.act 1 at_ w 0 k) ws (n+1) r I7:=
 .act O (ia h0 h1) (by simpa [acted] using h)
theorem cX {x:Int} (h0:0<=x) (h1:x<18446744073709551616):IntKind.u64.wrap x=x:=by
 simp only [IntKind.wrap]
 simp [IntKind.signed,IntKind.bits]
 omega
theorem vY {at_ w:Int} {ws:List Int} (h0:0<=at_) (h1:at_<ws.length):I6 (D.lS at_ w) ws 1 () (ws.set at_.toNat w):=.store h0 h1 (.done _ _)
/-! ### A memory that is laid out -/
theorem Eh {p:Plan} (hp:PF p) (hfw:p.nodes<=40/\p.retire<=40/\p.domains<=6/\p.buckets<=10):D.bF p<=5000/\1<=D.aO p:=by
 have hc:=jO hp;have hcells:D.bE p<=10:=by
  unfold D.bE maxI
  split <;> omega
 have hdm:p.domains * (1+D.bE p)<=6 * 11:=Int.mul_le_mul hfw.2.2.1 O O O
 have htr:p.threads * (1+p.retire)<=16 * 41:=Int.mul_le_mul hp.t2 O (by have:=hp.r1; have:=hp.t1; omega) O
 have:=hp.t2;have hN:=cQ hp;rw [dW hp];have:=ow hp;exact ⟨O,hN.1⟩
theorem CO {p:Plan} (hp:PF p) (hfw:p.nodes<=40):∀ (d:Nat) (n:Int) (k:Nat) (ws:List Int),n+d=p.nodes->0<=n->d<k->(ws.length:Int)=D.bF p->
  ∃ I7,I6 (D.fY k p n) ws (d+1) () I7/\I7.length=ws.length/\rd I7 0=1/\
   (∀ m,n<=m->m<p.nodes->rd I7 (D.aO p+m * 5+1)=if m+1=p.nodes then 0 else m+2)/\
   ∀ j,0<j->(∀ m,n<=m->m<p.nodes->j≠D.aO p+m * 5+1)->rd I7 j=rd ws j:=by
 have hN:=cQ hp;have hS:=dW hp;have hn1:=hp.n1;intro d
 induction d with
 | zero=>
  intro n k ws hnd hn hk hl;obtain ⟨k,rfl⟩:∃ q,k=q+1:=⟨k - 1,O⟩
  have hnn:n=p.nodes:=O
  subst hnn;refine ⟨ws.set (0:Int).toNat 1,?_,by simp,?_,fun m h1 h2=>O,fun j hj _=>?_⟩
  ·show I6 (D.gI (D.fY k) p p.nodes) ws 1 () _
   unfold D.gI;rw [show (p.nodes==p.nodes)=true from by simp]
   simp only [cond_true]
   rw [jX hp]
   exact vY O O
  ·rw [bX O O O,if_pos rfl]
  ·rw [bX O O O,if_neg O]
 | succ d ih=>
  intro n k ws hnd hn hk hl;obtain ⟨k,rfl⟩:∃ q,k=q+1:=⟨k - 1,O⟩
  have hnx:D.dQ p n=D.aO p+n * 5+1:=by rw [wN hp,if_pos O]
  obtain ⟨v,hv⟩:∃ v,v=(if n+1=p.nodes then (0:Int) else n+2):=⟨_,rfl⟩
  obtain ⟨I7,h1,h2,h3,h4,h5⟩:=ih (n+1) k (ws.set (D.aO p+n * 5+1).toNat v) O O O (by simpa using hl);refine ⟨I7,?_,by simpa using h2,h3,fun m hm1 hm2=>?_,fun j hj hno=>?_⟩
  ·show I6 (D.gI (D.fY k) p n) ws (d+1+1) () _
   unfold D.gI;rw [show (n==p.nodes)=false from by simp; omega,bW (show -1000000<=n+1 by omega) O,hnx]
   simp only [cond_false]
   have hx:(bif n+1==p.nodes then 0 else D.dC (n+1))=v:=by
    rw [hv]
    by_cases e:n+1=p.nodes
    ·rw [if_pos e,show (n+1==p.nodes)=true from by simpa using e]; rfl
    ·rw [if_neg e,show (n+1==p.nodes)=false from by simpa using e]
     show D.dC (n+1)=n+2
     unfold D.dC;rw [bW O O,cX O O];omega
   rw [hx]
   show I6 (.act 1 (D.aO p+n * 5+1) v 0 _) ws (d+1+1) () _
   refine I6.store O O ?_;show I6 (D.fY k p (IntKind.i64.wrap (n+1))) _ _ _ _
   rw [bW O O]
   exact h1
  ·by_cases hmn:m=n
   ·subst hmn
    rw [h5 _ O (fun q hq1 hq2=>O),bX O O O,if_pos rfl,hv]
   ·exact h4 m O hm2
  ·rw [h5 j hj (fun m hm1 hm2=>hno m O hm2),bX O O O,if_neg]
   exact hno n O O
structure LaidAt (p:Plan) (ws:List Int):Prop where
 len:(ws.length:Int)=D.bF p
 head:rd ws 0=1
 next:∀ m,0<=m->m<p.nodes->rd ws (D.aO p+m * 5+1)=if m+1=p.nodes then 0 else m+2
 zero:∀ j,0<j->(∀ m,0<=m->m<p.nodes->j≠D.aO p+m * 5+1)->rd ws j=0
theorem EL {fu:Nat} {n:Int} (hf:3<=fu) (h0:0<=n) (h1:n<=16777216):D.m4 fu [n]=some (⟨zerosI n,0⟩,0):=by
 obtain ⟨k,rfl⟩:∃ k,fu=k+3:=⟨fu - 3,O⟩
 unfold D.m4;have e0:oneI [n]=some n:=by
  show (if 0<=n/\n<=16777216 then some n else none)=some n
  rw [if_pos ⟨h0,h1⟩]
 simp only [loopThen,runLoop,e0]
 simp only [List.length_singleton,Int.natCast_one,Int.reduceLT,decide_true,decide_false,cond_true,cond_false,Jj,List.getElem?_cons_zero,Option.bind_some,Int.toNat_zero,Int.le_refl,if_true,Int.reduceGT]
 rw [show decide (n<0)=false from by simp; omega,show decide (n > 16777216)=false from by simp; omega]
 rfl
theorem Ee {p:Plan} (hp:PF p) (hfw:p.nodes<=40/\p.retire<=40/\p.domains<=6/\p.buckets<=10) {fu:Nat} (hfu:100<fu):∃ M,D.jk fu p=some M/\LaidAt p M.ws:=by
 obtain ⟨hs1,hs2⟩:=Eh hp hfw;have hn1:=hp.n1;have hS:=dW hp;have hl:((zerosI (D.bF p)).length:Int)=D.bF p:=by simp [zerosI]; omega
 obtain ⟨I7,h1,h2,h3,h4,h5⟩:=CO hp hfw.1 p.nodes.toNat 0 (fu+1) (zerosI (D.bF p)) O O O hl;obtain ⟨c,hc⟩:=wQ (z:=()) (fu:=fu) (d:=fu) (most:=p.nodes+1) (M:=⟨zerosI (D.bF p),0⟩) h1 O O O O;refine ⟨⟨I7,c⟩,?_,by rw [<-hl,<-h2],h3,h4,fun j hj hno=>?_⟩
 ·unfold D.jk
  rw [EL O O O]
  simp only [Option.bind_some]
  rw [show ((0:Int) !=0)=false from rfl]
  simp only [cond_false,Option.bind_some,wZ,bW (show -1000000<=p.nodes+1 by omega) O]
  rw [Dj]
  show (runG () fu (fu,D.fY (fu+1) p 0) _ _ _).bind _=_
  rw [hc]
  rfl
 ·rw [h5 j hj hno]
  unfold rd zerosI;rw [List.getD_eq_getElem?_getD,List.getElem?_replicate]
  split <;> rfl
/-! ### The head's word -/
theorem jI {x:Int} (h0:0<=x) (h1:x<18446744073709551616):(BitVec.ofInt 64 x).toNat=x.toNat:=by
 rw [BitVec.toNat_ofInt]
 congr 1
 exact Int.emod_eq_of_lt h0 (by simpa using h1)
theorem and_eq {x y:Int} (h0:0<=x) (h1:x<18446744073709551616) (h2:0<=y) (h3:y<18446744073709551616):cL .u64 x y=((x.toNat &&& y.toNat:Nat):Int):=by
 have h:((BitVec.ofInt 64 x &&& BitVec.ofInt 64 y).toNat:Int)=((x.toNat &&& y.toNat:Nat):Int):=by
  rw [BitVec.toNat_and,jI h0 h1,jI h2 h3]
 show IntKind.u64.wrap ((BitVec.ofInt 64 x &&& BitVec.ofInt 64 y).toNat:Int)=_
 rw [h]
 have:x.toNat &&& y.toNat<2 ^ 64:=Nat.and_lt_two_pow _ O
 exact cX O O
theorem or_eq {x y:Int} (h0:0<=x) (h1:x<18446744073709551616) (h2:0<=y) (h3:y<18446744073709551616):dS .u64 x y=((x.toNat ||| y.toNat:Nat):Int):=by
 have h:((BitVec.ofInt 64 x ||| BitVec.ofInt 64 y).toNat:Int)=((x.toNat ||| y.toNat:Nat):Int):=by
  rw [BitVec.toNat_or,jI h0 h1,jI h2 h3]
 show IntKind.u64.wrap ((BitVec.ofInt 64 x ||| BitVec.ofInt 64 y).toNat:Int)=_
 rw [h]
 have:x.toNat ||| y.toNat<2 ^ 64:=Nat.or_lt_two_pow O O
 exact cX O O
theorem jG {x y:Int} (h0:0<=x) (h1:x<18446744073709551616) (h2:0<=y) (h3:y<18446744073709551616):cH .u64 x y=((x.toNat &&& (18446744073709551615 - y.toNat):Nat):Int):=by
 have h:((BitVec.ofInt 64 x &&& ~~~(BitVec.ofInt 64 y)).toNat:Int)=((x.toNat &&& (18446744073709551615 - y.toNat):Nat):Int):=by
  rw [BitVec.toNat_and,BitVec.toNat_not,jI h0 h1,jI h2 h3]
 show IntKind.u64.wrap ((BitVec.ofInt 64 x &&& ~~~(BitVec.ofInt 64 y)).toNat:Int)=_
 rw [h]
 have:x.toNat &&& (18446744073709551615 - y.toNat)<2 ^ 64:=Nat.and_lt_two_pow _ O
 exact cX O O
theorem xc:D.cf D.cj=true:=ke
theorem yG:D.cf D.eG=true:=ke
theorem xk:D.bV D.cj=2097151:=by decide +kernel
theorem xX:D.bV D.eG=8796093022207:=by decide +kernel
theorem EF:D.cz D.cj=2097151:=by decide +kernel
theorem Ho:D.cz D.eG=18446744073707454464:=by decide +kernel
theorem shr0 (w:Int):KK .u64 w 0=w:=by
 show w.fdiv (2 ^ (min 0 64))=w
 simp
theorem GD {w:Int} (_:0<=w):KK .u64 w 21=w / 2097152:=by
 show w.fdiv 2097152=_
 exact Int.fdiv_eq_ediv_of_nonneg _ O
theorem rk {w:Int} (h0:0<=w) (h1:w<18446744073709551616):D.bN D.cj w=w % 2097152:=by
 unfold D.bN;rw [xc,xk];show cL .u64 (KK .u64 w 0) 2097151=_
 rw [shr0,and_eq h0 h1 O O]
 have:w.toNat &&& 2097151=w.toNat % 2097152:=Nat.and_two_pow_sub_one_eq_mod w.toNat 21;rw [show (2097151:Int).toNat=2097151 from rfl,this]
 omega
theorem DR {w:Int} (h0:0<=w) (h1:w<18446744073709551616):D.bN D.eG w=w / 2097152:=by
 unfold D.bN;rw [yG,xX];show cL .u64 (KK .u64 w 21) 8796093022207=_
 rw [GD h0,and_eq O O O O]
 have:(w / 2097152).toNat &&& 8796093022207=(w / 2097152).toNat % 8796093022208:=Nat.and_two_pow_sub_one_eq_mod _ 43;rw [show (8796093022207:Int).toNat=8796093022207 from rfl,this]
 omega
theorem DB {n:Int} (h0:0<=n) (h1:n<18446744073709551616):D.cU D.cj 0 n=n % 2097152:=by
 unfold D.cU;rw [xc,xk,EF];show dS .u64 (cH .u64 0 2097151) (KQ .u64 (cL .u64 n 2097151) 0)=_
 have e:n.toNat &&& 2097151=n.toNat % 2097152:=Nat.and_two_pow_sub_one_eq_mod n.toNat 21;rw [jG O O O O,and_eq h0 h1 O O,show (2097151:Int).toNat=2097151 from rfl,e]
 have h2:KQ .u64 ((n.toNat % 2097152:Nat):Int) 0=((n.toNat % 2097152:Nat):Int):=by
  show IntKind.u64.wrap (((n.toNat % 2097152:Nat):Int) * 2 ^ (min 0 64))=_
  rw [show ((n.toNat % 2097152:Nat):Int) * 2 ^ (min 0 64)=((n.toNat % 2097152:Nat):Int) from by simp]
  exact cX O O
 rw [h2,or_eq yas yas O O]
 simp
 omega
theorem Es {u t:Int} (h0:0<=u) (h1:u<2097152) (h2:0<=t) (h3:t<18446744073709551616):D.cU D.eG u t=(t % 8796093022208) * 2097152+u:=by
 unfold D.cU;rw [yG,xX,Ho];show dS .u64 (cH .u64 u 18446744073707454464) (KQ .u64 (cL .u64 t 8796093022207) 21)=_
 have e:t.toNat &&& 8796093022207=t.toNat % 8796093022208:=Nat.and_two_pow_sub_one_eq_mod t.toNat 43;have e2:u.toNat &&& 2097151=u.toNat % 2097152:=Nat.and_two_pow_sub_one_eq_mod u.toNat 21;rw [jG h0 O O O,and_eq h2 h3 O O,show (8796093022207:Int).toNat=8796093022207 from rfl,e,
  show 18446744073709551615 - (18446744073707454464:Int).toNat=2097151 from rfl,e2]
 have h4:KQ .u64 ((t.toNat % 8796093022208:Nat):Int) 21=((t.toNat % 8796093022208 * 2097152:Nat):Int):=by
  show IntKind.u64.wrap (((t.toNat % 8796093022208:Nat):Int) * 2 ^ (min 21 64))=_
  rw [show ((t.toNat % 8796093022208:Nat):Int) * 2 ^ (min 21 64)=((t.toNat % 8796093022208 * 2097152:Nat):Int) from by simp]
  exact cX O O
 rw [h4,or_eq O O O O]
 have h5:u.toNat % 2097152 ||| t.toNat % 8796093022208 * 2097152=2097152 * (t.toNat % 8796093022208)+u.toNat % 2097152:=by
  rw [Nat.or_comm,Nat.mul_comm]
  exact (Nat.two_pow_add_eq_or_of_lt (i:=21) (Nat.mod_lt _ O) _).symm
 rw [show ((u.toNat % 2097152:Nat):Int).toNat=u.toNat % 2097152 from rfl,show ((t.toNat % 8796093022208 * 2097152:Nat):Int).toNat=t.toNat % 8796093022208 * 2097152 from rfl,h5]
 omega
theorem vv {g n m:Int} (hg:0<=g) (hg1:g<1000000) (hn:0<=n) (hn1:n<2097152) (hm:0<=m) (hm1:m<2097152):D.fV (g * 2097152+n) m=(g+1) * 2097152+m:=by
 unfold D.fV;rw [DR O O,DB hm O,cX (x:=(g * 2097152+n) / 2097152+1) O O,Es O O O O];omega
theorem DU {n:Int} (h0:0<=n) (h1:n<=1000000):D.dC n=n+1:=by
 unfold D.dC;rw [bq (x:=n+1) O O,cX O O]
/-! ### The list -/
def nx (p:Plan) (n:Int):Int:=D.aO p+n * 5+1
def first:List Int->Int
 | []=>0
 | n::_=>n+1
def Linked (p:Plan) (ws:List Int):List Int->Prop
 | []=>True
 | n::l=>rd ws (nx p n)=first l/\Linked p ws l
structure FreeAt (p:Plan) (ws:List Int) (l:List Int) (g:Int):Prop where
 len:(ws.length:Int)=D.bF p
 head:rd ws 0=g * 2097152+first l
 g0:0<=g
 range:∀ n,n∈l->0<=n/\n<p.nodes
 nodup:l.Nodup
 linked:Linked p ws l
theorem Linked.keep {p:Plan} {ws I7:List Int}:∀ {l:List Int},Linked p ws l->(∀ n,n∈l->rd I7 (nx p n)=rd ws (nx p n))->Linked p I7 l
 | [],_,_=>trivial
 | n::_,h,hk=>⟨(hk n (List.mem_cons_self ..)).trans h.1,Linked.keep h.2 fun m hm=>hk m (List.mem_cons_of_mem _ hm)⟩
theorem pE {p:Plan} (hp:PF p) {n:Int} (h0:0<=n) (h1:n<p.nodes):0<nx p n/\nx p n<D.bF p/\D.dQ p n=nx p n:=by
 have hN:=cQ hp;have hS:=dW hp;unfold nx;exact ⟨O,O,by rw [wN hp,if_pos ⟨h0,h1⟩]⟩
theorem G1 {p:Plan} {n m:Int} (h:n≠m):nx p n≠nx p m:=by unfold nx; omega
theorem vS {l:List Int} {k:Int} (h:∀ n,n∈l->0<=n/\n<k) (hk:0<=k):0<=first l/\first l<=k:=by
 cases l with
 | nil=>exact ⟨Int.le_refl _,hk⟩
 | cons n l=>have:=h n (List.mem_cons_self ..); simp only [first]; omega
theorem vI {p:Plan} (hp:PF p) {ws:List Int} {g:Int} (h:FreeAt p ws [] g) (hg:g<1000000) (k:Nat):I6 (D.di (k+1) p) ws 1 (-1) ws:=by
 have hs:=h.len;have hN:=cQ hp;have hS:=dW hp;have hn1:=hp.n1;have hh:=h.head;have g0:=h.g0;simp only [first] at hh
 have hb:D.di (k+1) p=.act 0 0 0 0 (fun x=>D.gV (D.di k) p x):=by
  show D.jw (D.di k) p=_
  unfold D.jw;rw [jX hp]; rfl
 rw [hb]
 refine .load O O ?_;unfold D.gV;rw [hh,rk O O,show (g * 2097152+0) % 2097152=0 from by omega]
 exact .done _ _
theorem Dz {p:Plan} (hp:PF p) {ws:List Int} {n:Int} {l:List Int} {g:Int} (h:FreeAt p ws (n::l) g) (hnn:p.nodes<=1000000) (hg:g<1000000) (k:Nat) :
  I6 (D.di (k+1) p) ws 3 n (ws.set (0:Int).toNat ((g+1) * 2097152+first l))/\FreeAt p (ws.set (0:Int).toNat ((g+1) * 2097152+first l)) l (g+1):=by
 have hs:=h.len;have hN:=cQ hp;have hS:=dW hp;have hn1:=hp.n1;have hh:=h.head;have g0:=h.g0;have hr:=h.range n (List.mem_cons_self ..);have hrl:∀ m,m∈l->0<=m/\m<p.nodes:=fun m hm=>h.range m (List.mem_cons_of_mem _ hm)
 obtain ⟨q1,q2,q3⟩:=pE hp hr.1 hr.2;obtain ⟨f1,f2⟩:=vS hrl O;simp only [first] at hh
 refine ⟨?_,?_⟩
 ·have hb:D.di (k+1) p=.act 0 0 0 0 (fun x=>D.gV (D.di k) p x):=by
   show D.jw (D.di k) p=_
   unfold D.jw;rw [jX hp]; rfl
  rw [hb]
  refine .load O O ?_;unfold D.gV;rw [hh,rk O O,show (g * 2097152+(n+1)) % 2097152=n+1 from O,bq (x:=n+1) O O,show n+1 - 1=n from O,bq (x:=n) O O,
   show decide (n<0)=false from by simp; omega,q3]
  refine I6.load (k:=fun x=>D.lG (D.di k) p (g * 2097152+(n+1)) n x) yaC yaC ?_
  unfold D.lG;rw [h.linked.1,jX hp,vv g0 hg O O f1 O];refine I6.act (k:=fun x=>D.jo (fun x=>D.jv (D.di k) p n x) (g * 2097152+(n+1)) x) yaC (ia (ws:=ws) yaC yaC) ?_
  rw [hh]
  have ha:acted 2 0 (g * 2097152+(n+1)) ((g+1) * 2097152+first l) (g * 2097152+(n+1)) ws=ws.set (0:Int).toNat ((g+1) * 2097152+first l):=by simp [acted]
  rw [ha]
  unfold D.jo D.jv;rw [show (g * 2097152+(n+1)==g * 2097152+(n+1))=true from by simp]
  exact .done _ _
 ·refine ⟨by simpa using hs,?_,O,hrl,(List.nodup_cons.1 h.nodup).2,h.linked.2.keep fun m hm=>?_⟩
  ·rw [bX O O O,if_pos rfl]
  ·obtain ⟨p1,_,_⟩:=pE hp (hrl m hm).1 (hrl m hm).2
   rw [bX O O O,if_neg O]
theorem Dg {p:Plan} (hp:PF p) {ws:List Int} {n:Int} {l:List Int} {g:Int} (h:FreeAt p ws l g) (hnn:p.nodes<=1000000) (hg:g<1000000) (hr:0<=n/\n<p.nodes) (hno:n ∉ l) (k:Nat) :
  ∃ I7,I6 (D.eU (k+1) p n) ws 3 n I7/\FreeAt p I7 (n::l) (g+1)/\∀ j,0<j->j≠nx p n->rd I7 j=rd ws j:=by
 have hs:=h.len;have hN:=cQ hp;have hS:=dW hp;have hn1:=hp.n1;have hh:=h.head;have g0:=h.g0;obtain ⟨q1,q2,q3⟩:=pE hp hr.1 hr.2;obtain ⟨f1,f2⟩:=vS h.range O
 obtain ⟨w1,hw1⟩:∃ w1,w1=ws.set (nx p n).toNat (first l):=⟨_,rfl⟩;have hl1:(w1.length:Int)=D.bF p:=by rw [hw1]; simpa using hs
 have hr1:∀ j,0<=j->rd w1 j=if j=nx p n then first l else rd ws j:=fun j hj=>by rw [hw1]; exact bX O O hj
 refine ⟨w1.set (0:Int).toNat ((g+1) * 2097152+(n+1)),?_,⟨by simpa using hl1,?_,O,?_,List.nodup_cons.2 ⟨hno,h.nodup⟩,?_,?_⟩,fun j h0 h1=>?_⟩
 ·have hb:D.eU (k+1) p n=.act 0 0 0 0 (fun x=>D.lK (D.eU k) p n x):=by
   show D.ju (D.eU k) p n=_
   unfold D.ju;rw [q3,show (nx p n==-1)=false from by simp; omega,jX hp]; rfl
  rw [hb]
  refine .load O O ?_;unfold D.lK;rw [hh,rk O O,show (g * 2097152+first l) % 2097152=first l from O,q3]
  refine I6.store (k:=fun x=>D.nr (fun _=>D.nJ (D.eU k) p (g * 2097152+first l) n) x) yaC yaC ?_
  unfold D.nr D.nJ;rw [DU hr.1 O,jX hp,vv g0 hg f1 O O O,<-hw1];have hx:rd w1 0=g * 2097152+first l:=by rw [hr1 0 O,if_neg O,hh]
  refine I6.act (k:=fun x=>D.jo (fun x=>D.jm (D.eU k) p n x) (g * 2097152+first l) x) yaC (ia (ws:=w1) yaC yaC) ?_
  rw [hx]
  have ha:acted 2 0 (g * 2097152+first l) ((g+1) * 2097152+(n+1)) (g * 2097152+first l) w1=w1.set (0:Int).toNat ((g+1) * 2097152+(n+1)):=by simp [acted]
  rw [ha]
  unfold D.jo D.jm;rw [show (g * 2097152+first l==g * 2097152+first l)=true from by simp]
  exact .done _ _
 ·rw [bX O O O,if_pos rfl]; rfl
 ·intro m hm
  rcases List.mem_cons.1 hm with rfl | hm
  ·exact hr
  ·exact h.range m hm
 ·rw [bX O O O,if_neg O,hr1 _ O,if_pos rfl]
 ·refine h.linked.keep fun m hm=>?_
  have hmr:=h.range m hm;obtain ⟨p1,_,_⟩:=pE hp hmr.1 hmr.2;have hne:m≠n:=fun e=>hno (e ▸ hm)
  rw [bX O O O,if_neg O,hr1 _ O,if_neg (G1 hne)]
 ·rw [bX O O O,if_neg O,hr1 _ O,if_neg h1]
theorem uB {p:Plan} {ws:List Int} (hn:∀ m,0<=m->m<p.nodes->rd ws (D.aO p+m * 5+1)=if m+1=p.nodes then 0 else m+2):∀ (d:Nat) (i:Nat),(i:Int)+d=p.nodes->Linked p ws ((List.range' i d).map fun (q:Nat)=>(q:Int))
 | 0,_,_=>trivial
 | d+1,i,h=>by
  rw [List.range'_succ,List.map_cons]
  refine ⟨?_,uB hn d (i+1) O⟩;unfold nx;rw [hn i O O];cases d with
  | zero=>rw [if_pos O]; rfl
  | succ d=>rw [if_neg O,List.range'_succ,List.map_cons]; simp only [first]; omega
def allN (p:Plan):List Int:=(List.range' 0 p.nodes.toNat).map fun (q:Nat)=>(q:Int)
theorem Di {p:Plan} (hp:PF p) {ws:List Int} (h:LaidAt p ws):FreeAt p ws (allN p) 0:=by
 have hn1:=hp.n1;refine ⟨h.len,?_,Int.le_refl _,fun n hn=>?_,?_,uB h.next p.nodes.toNat 0 O⟩
 ·rw [h.head]
  unfold allN;obtain ⟨d,hd⟩:∃ d,p.nodes.toNat=d+1:=⟨p.nodes.toNat - 1,O⟩
  rw [hd,List.range'_succ,List.map_cons]
  simp [first]
 ·obtain ⟨q,hq,rfl⟩:=List.mem_map.1 hn
  have:=(List.mem_range'_1.1 hq).2;omega
 ·unfold allN
  exact List.Pairwise.map _ (fun a b h=>O) (List.nodup_range' (s:=0) (n:=p.nodes.toNat))
structure SF (s:State):Prop where
 g0:0<=s.IP
 g1:s.IP<=1073741823
 m0:0<=s.mode
 m1:s.mode<=3
 k0:0<=s.kind
 k1:s.kind<=2
theorem uD {s:State}:D.dh s=true↔SF s:=by
 unfold D.dh
 constructor
 ·intro h
  cases h1:decide (s.IP>=0) <;> rw [h1] at h
  ·cases h
  cases h2:decide (s.IP<=1073741823) <;> rw [h2] at h
  ·cases h
  cases h3:decide (s.mode>=0) <;> rw [h3] at h
  ·cases h
  cases h4:decide (s.mode<=3) <;> rw [h4] at h
  ·cases h
  cases h5:decide (s.kind>=0) <;> rw [h5] at h
  ·cases h
  simp only [decide_eq_true_eq] at h1 h2 h3 h4 h5
  have h6:s.kind<=2:=by simpa using h
  exact ⟨h1,h2,h3,h4,h5,h6⟩
 ·rintro ⟨h1,h2,h3,h4,h5,h6⟩
  simp only [ge_iff_le,h1,h2,h3,h4,h5,h6,decide_true,cond_true]
def swd (s:State):Int:=s.IP+s.mode * 1073741824+s.kind * 4294967296
theorem xO:D.cf KR=true:=ke
theorem xa:D.cf Kw=true:=ke
theorem xg:D.cf Kx=true:=ke
theorem rZ:D.bV KR=1073741823:=by decide +kernel
theorem rN:D.bV Kw=3:=by decide +kernel
theorem rS:D.bV Kx=3:=by decide +kernel
theorem yD:D.cz KR=1073741823:=by decide +kernel
theorem xe:D.cz Kw=3221225472:=by decide +kernel
theorem xd:D.cz Kx=12884901888:=by decide +kernel
theorem shrN {w:Int} (k:Nat) (hk:k<=64):KK .u64 w k=w / 2 ^ k:=by
 unfold KK;rw [Int.toNat_natCast,show min k IntKind.u64.bits=k from Nat.min_eq_left hk]
 exact Int.fdiv_eq_ediv_of_nonneg _ (Int.le_of_lt (Int.pow_pos O))
theorem oO {x:Int} (h0:0<=x) (h1:x<18446744073709551616) (k:Nat) (hk:k<64):cL .u64 x ((2 ^ k - 1:Nat):Int)=x % ((2 ^ k:Nat):Int):=by
 have hp:(2:Nat) ^ k<2 ^ 64:=Nat.pow_lt_pow_right O hk
 have hp1:0<(2:Nat) ^ k:=Nat.pow_pos O
 rw [and_eq h0 h1 O O,Int.toNat_natCast,Nat.and_two_pow_sub_one_eq_mod]
 obtain ⟨y,rfl⟩:∃ y:Nat,x=(y:Int):=⟨x.toNat,O⟩
 rw [Int.toNat_natCast]
 exact Int.natCast_emod _ _
theorem rT {u v:Int} (a b:Nat) (hu0:0<=u) (hu:u<((2 ^ a:Nat):Int)) (hv0:0<=v) (hv:v<((2 ^ b:Nat):Int)) (hab:a+b<64) (hF:D.cf ⟨a,b⟩=true) (hM:D.bV ⟨a,b⟩=((2 ^ b - 1:Nat):Int)) (hK:D.cz ⟨a,b⟩=(((2 ^ b - 1) * 2 ^ a:Nat):Int)) :
  D.cU ⟨a,b⟩ u v=v * ((2 ^ a:Nat):Int)+u:=by
 have pa:0<(2:Nat) ^ a:=Nat.pow_pos O
 have pb:0<(2:Nat) ^ b:=Nat.pow_pos O
 have hpab:(2:Nat) ^ a * 2 ^ b=2 ^ (a+b):=(Nat.pow_add 2 a b).symm;have hlt:(2:Nat) ^ (a+b)<2 ^ 64:=Nat.pow_lt_pow_right O hab
 have hlt2:(2:Nat) ^ b<=2 ^ (a+b):=Nat.pow_le_pow_right O O
 have hlt3:(2:Nat) ^ a<=2 ^ (a+b):=Nat.pow_le_pow_right O O
 unfold D.cU;rw [hF,hM,hK];show dS .u64 (cH .u64 u _) (KQ .u64 (cL .u64 v _) (a:Int))=_
 have hmk:(2 ^ b - 1) * 2 ^ a<=2 ^ (a+b):=by
  rw [<-hpab,Nat.mul_comm]
  exact Nat.mul_le_mul_left _ O
 rw [oO hv0 O b O,Int.emod_eq_of_lt hv0 hv,jG hu0 O O O]
 obtain ⟨x,rfl⟩:∃ x:Nat,u=(x:Int):=⟨u.toNat,O⟩
 obtain ⟨y,rfl⟩:∃ y:Nat,v=(y:Int):=⟨v.toNat,O⟩
 have hx:x<2 ^ a:=O
 have hy:y<2 ^ b:=O
 have hyx:y * 2 ^ a+x<2 ^ (a+b):=by
  rw [<-hpab]
  have:=Nat.mul_le_mul_left (2 ^ a) (show y+1<=2 ^ b from hy)
  rw [Nat.mul_add,Nat.mul_comm] at this
  omega
 have h1:x &&& (18446744073709551615 - (2 ^ b - 1) * 2 ^ a)=x:=by
  apply Nat.eq_of_testBit_eq
  intro i;rw [Nat.testBit_and]
  by_cases hi:i<a
  ·have:(18446744073709551615 - (2 ^ b - 1) * 2 ^ a).testBit i=true:=by
    rw [show (18446744073709551615:Nat) - (2 ^ b - 1) * 2 ^ a=2 ^ 64 - ((2 ^ b - 1) * 2 ^ a+1) from O,Nat.testBit_two_pow_sub_succ O]
    rw [Nat.testBit_mul_two_pow]
    simp [show i<64 from O,show ¬ a<=i from by omega]
   rw [this,Bool.and_true]
  ·rw [Nat.testBit_lt_two_pow (q9 hx (Nat.pow_le_pow_right O O)),Bool.false_and]
 have h2:KQ .u64 (y:Int) (a:Int)=((y * 2 ^ a:Nat):Int):=by
  unfold KQ;rw [Int.toNat_natCast,show min a IntKind.u64.bits=a from Nat.min_eq_left (show a<=64 by omega)]
  rw [show (y:Int) * 2 ^ a=((y * 2 ^ a:Nat):Int) from by push_cast; rfl]
  exact cX O O
 rw [Int.toNat_natCast,Int.toNat_natCast,h1,h2,or_eq O O O O,Int.toNat_natCast,Int.toNat_natCast]
 have h5:x ||| y * 2 ^ a=2 ^ a * y+x:=by
  rw [Nat.or_comm,Nat.mul_comm]
  exact (Nat.two_pow_add_eq_or_of_lt hx _).symm
 rw [h5,Nat.mul_comm]
 push_cast
 rfl
theorem vU {s:State} (h:SF s):D.cq s=swd s:=by
 obtain ⟨g0,g1,m0,m1,k0,k1⟩:=h;have hw:St.D.cq 10 s=some (swd s):=by
  unfold St.D.cq;rw [uD.2 ⟨g0,g1,m0,m1,k0,k1⟩];show (((St.D.iR 10 [KR,Kw,Kx] [IntKind.u64.wrap s.IP,IntKind.u64.wrap s.mode,IntKind.u64.wrap s.kind]).bind (fun (K2:Int × Int)=>(some K2.1))))=_
  rw [vO,cX g0 O,cX m0 O,cX k0 O,rZ,rN,rS,show decide (s.IP > 1073741823)=false from by simp; omega,show decide (s.mode > 3)=false from by simp; omega,show decide (s.kind > 3)=false from by simp; omega]
  simp only [cond_false,Option.bind_some]
  rw [show D.cU KR 0 s.IP=s.IP * ((2 ^ 0:Nat):Int)+0 from rT 0 30 O ke g0 O O xO rZ yD]
  rw [show D.cU Kw (s.IP * ((2 ^ 0:Nat):Int)+0) s.mode=s.mode * ((2 ^ 30:Nat):Int)+(s.IP * ((2 ^ 0:Nat):Int)+0) from rT 30 2 O O m0 O O xa rN xe]
  rw [show D.cU Kx (s.mode * ((2 ^ 30:Nat):Int)+(s.IP * ((2 ^ 0:Nat):Int)+0)) s.kind=s.kind * ((2 ^ 32:Nat):Int)+(s.mode * ((2 ^ 30:Nat):Int)+(s.IP * ((2 ^ 0:Nat):Int)+0)) from rT 32 2 O O k0 O O xg rS xd]
  congr 1
  unfold swd;omega
 unfold D.cq;rw [hw]; rfl
theorem D4 {w:Int} (h0:0<=w) (h1:w<17179869184):cH .u64 (cH .u64 (cH .u64 w (D.cz KR)) (D.cz Kw)) (D.cz Kx)=0:=by
 rw [yD,xe,xd]
 have l1:w.toNat &&& (18446744073709551615 - (1073741823:Int).toNat)<=w.toNat:=Nat.and_le_left;have l2:(w.toNat &&& (18446744073709551615 - (1073741823:Int).toNat)) &&& (18446744073709551615 - (3221225472:Int).toNat)<=w.toNat &&& (18446744073709551615 - (1073741823:Int).toNat):=Nat.and_le_left;have e1:cH .u64 w 1073741823=_:=jG h0 O O O
 have e2:=jG (x:=((w.toNat &&& (18446744073709551615 - (1073741823:Int).toNat):Nat):Int)) (y:=3221225472) O O O O
 rw [Int.toNat_natCast] at e2
 rw [e1,e2,jG O O O O,Int.toNat_natCast]
 rw [Nat.and_assoc,Nat.and_assoc]
 have hK:(18446744073709551615 - (1073741823:Int).toNat) &&& ((18446744073709551615 - (3221225472:Int).toNat) &&& (18446744073709551615 - (12884901888:Int).toNat))=1073741823 * 2 ^ 34:=by decide +kernel
 rw [hK]
 have:w.toNat &&& 1073741823 * 2 ^ 34=0:=by
  apply Nat.eq_of_testBit_eq
  intro i;rw [Nat.testBit_and,Nat.zero_testBit]
  by_cases hi:i<34
  ·rw [Nat.testBit_mul_two_pow]
   simp [show ¬ 34<=i from by omega]
  ·rw [Nat.testBit_lt_two_pow (q9 (show w.toNat<2 ^ 34 by omega) (Nat.pow_le_pow_right O O)),Bool.false_and]
 rw [this]; rfl
theorem DT {s:State} (h:SF s):D.aV (D.cq s)=(s,true):=by
 rw [vU h]
 have hs:=h;obtain ⟨g0,g1,m0,m1,k0,k1⟩:=h;have w0:0<=swd s:=by unfold swd; omega
 have w1:swd s<17179869184:=by unfold swd; omega
 have e1:D.bN KR (swd s)=s.IP:=by
  unfold D.bN;rw [xO,rZ,show KR.at_=((0:Nat):Int) from rfl,show (1073741823:Int)=((2 ^ 30 - 1:Nat):Int) from by decide]
  simp only [Bool.not_true,cond_false]
  rw [shrN 0 O,oO O O 30 O]
  unfold swd;omega
 have e2:D.bN Kw (swd s)=s.mode:=by
  unfold D.bN;rw [xa,rN,show Kw.at_=((30:Nat):Int) from rfl,show (3:Int)=((2 ^ 2 - 1:Nat):Int) from by decide]
  simp only [Bool.not_true,cond_false]
  rw [shrN 30 O,oO O O 2 O]
  unfold swd;omega
 have e3:D.bN Kx (swd s)=s.kind:=by
  unfold D.bN;rw [xg,rS,show Kx.at_=((32:Nat):Int) from rfl,show (3:Int)=((2 ^ 2 - 1:Nat):Int) from by decide]
  simp only [Bool.not_true,cond_false]
  rw [shrN 32 O,oO O O 2 O]
  unfold swd;omega
 have hw:St.D.aV 10 (swd s)=some (s,true):=by
  unfold St.D.aV;show (St.D.iO 10 [KR,Kw,Kx] (swd s)).bind _=_
  rw [vH,D4 w0 w1,e1,e2,e3]
  show (bif (!(D.dh (⟨(IntKind.i64.wrap s.IP),(IntKind.i64.wrap s.mode),(IntKind.i64.wrap s.kind)⟩:State))) then _ else _)=_
  rw [bq (x:=s.IP) O O,bq (x:=s.mode) O O,bq (x:=s.kind) O O,uD.2 hs]
  rfl
 unfold D.aV;rw [hw]; rfl
theorem jK {at_:Int} {f:Int->T Int} {ws I7:List Int} {n:Nat} {r:Int} (h0:0<=at_) (h1:at_<ws.length) (h:I6 (f (rd ws at_)) ws n r I7):I6 (D.dL at_ f) ws (n+1) r I7:=I6.load h0 h1 h
theorem gU {at_ w:Int} {f:Unit->T Int} {ws I7:List Int} {n:Nat} {r:Int} (h0:0<=at_) (h1:at_<ws.length) (h:I6 (f ()) (ws.set at_.toNat w) n r I7):I6 (D.ee at_ w f) ws (n+1) r I7:=I6.store h0 h1 h
section
variable {p : Plan} (hp : PF p) {n : Int} (hn : 0 <= n /\ n < p.nodes)
include hp hn
theorem sK:D.dc p n=D.aO p+n * 5:=by rw [DI hp,if_pos hn]
theorem pw {f:Int} (hf:0<=f/\f<3):D.bo p n f=D.aO p+n * 5+2+f:=by rw [wk hp,if_pos ⟨hn,hf⟩]
end
def bL (p:Plan) (n j:Int):Prop:=D.aO p+n * 5<=j/\j<D.aO p+n * 5+5
theorem Da {p:Plan} (hp:PF p) {ws I7:List Int} {n:Int} (hn:0<=n/\n<p.nodes) (hl:(ws.length:Int)=D.bF p) {next:Unit->T Int} {m:Nat} {r:Int} (k:Nat)
  (h:I6 (next ()) (((ws.set (D.aO p+n * 5+2+0).toNat 0).set (D.aO p+n * 5+2+1).toNat 0).set (D.aO p+n * 5+2+2).toNat 0) m r I7) :
  I6 (D.eP (k+4) p n 0 next) ws (m+3) r I7:=by
 have hS:=dW hp;have hN:=cQ hp;have w1:IntKind.i64.wrap ((0:Int)+1)=1:=rfl;have w2:IntKind.i64.wrap ((1:Int)+1)=2:=rfl;have w3:IntKind.i64.wrap ((2:Int)+1)=3:=rfl;show I6 (D.fo (D.eP (k+3)) p n 0 next) _ _ _ _
 unfold D.fo;rw [pw hp hn (f:=0) O];refine gU O O ?_;show I6 (D.eP (k+3) p n (IntKind.i64.wrap (0+1)) next) _ _ _ _
 rw [w1]
 show I6 (D.fo (D.eP (k+2)) p n 1 next) _ _ _ _
 unfold D.fo;rw [pw hp hn (f:=1) O];refine gU O yaD ?_;show I6 (D.eP (k+2) p n (IntKind.i64.wrap (1+1)) next) _ _ _ _
 rw [w2]
 show I6 (D.fo (D.eP (k+1)) p n 2 next) _ _ _ _
 unfold D.fo;rw [pw hp hn (f:=2) O];refine gU O (by rw [List.length_set,List.length_set]; omega) ?_;show I6 (D.eP (k+1) p n (IntKind.i64.wrap (2+1)) next) _ _ _ _
 rw [w3]
 exact h
theorem FreeAt.keep {p:Plan} {ws I7:List Int} {l:List Int} {g:Int} (h:FreeAt p ws l g) (hl:I7.length=ws.length) (h0:rd I7 0=rd ws 0) (hk:∀ n,n∈l->rd I7 (nx p n)=rd ws (nx p n)):FreeAt p I7 l g:=
 ⟨by rw [hl]; exact h.len,h0.trans h.head,h.g0,h.range,h.nodup,h.linked.keep hk⟩
structure Reclaimed (p:Plan) (n:Int) (t:State) (ws I7:List Int) (l:List Int) (g:Int):Prop where
 len:I7.length=ws.length
 state:rd I7 (D.aO p+n * 5)=D.cq t
 fields:∀ f,0<=f->f<3->rd I7 (D.aO p+n * 5+2+f)=0
 gone:t.mode=3->FreeAt p I7 l g
 free:t.mode≠3->FreeAt p I7 (n::l) (g+1)
 others:∀ j,0<j->¬ bL p n j->rd I7 j=rd ws j
theorem uy {p:Plan} (hp:PF p) {ws:List Int} {n:Int} {l:List Int} {g:Int} (hn:0<=n/\n<p.nodes) (hnn:p.nodes<=1000000) (hg:g<1000000) (h:FreeAt p ws l g) (hno:n ∉ l) {t:State}
  (ht:t=D.bR (D.aV (rd ws (D.aO p+n * 5))).1 p.IP) (k:Nat) :
  ∃ I7,I6 (D.jr (k+4) p n) ws (if t.mode=3 then 5 else 8) (if t.mode=3 then -1 else n) I7/\Reclaimed p n t ws I7 l g:=by
 have hs:=h.len;have hS:=dW hp;have hN:=cQ hp;obtain ⟨v,hv⟩:∃ v,v=((ws.set (D.aO p+n * 5+2+0).toNat 0).set (D.aO p+n * 5+2+1).toNat 0).set (D.aO p+n * 5+2+2).toNat 0:=⟨_,rfl⟩;have hvl:v.length=ws.length:=by rw [hv]; simp
 have hvr:∀ j,0<=j->rd v j=if j=D.aO p+n * 5+2+2\/j=D.aO p+n * 5+2+1\/j=D.aO p+n * 5+2+0 then 0 else rd ws j:=by
  intro j hj;rw [hv,bX O yao hj]
  split
  ·rw [if_pos (.inl ‹_›)]
  rw [bX O yao hj]
  split
  ·rw [if_pos (.inr (.inl ‹_›))]
  rw [bX O O hj]
  split
  ·rw [if_pos (.inr (.inr ‹_›))]
  rw [if_neg O]
 obtain ⟨u,hu⟩:∃ u,u=v.set (D.aO p+n * 5).toNat (D.cq t):=⟨_,rfl⟩;have hul:u.length=ws.length:=by rw [hu,List.length_set,hvl]
 have hur:∀ j,0<=j->rd u j=if j=D.aO p+n * 5 then D.cq t else rd v j:=fun j hj=>by rw [hu]; exact bX O O hj
 have huo:∀ j,0<=j->(¬ bL p n j\/j=nx p n)->rd u j=rd ws j:=by
  intro j hj hno;unfold bL nx at hno
  rw [hur j hj,if_neg O,hvr j hj,if_neg O]
 have hF:FreeAt p u l g:=h.keep hul (huo 0 O yaI) fun m hm=>by
  have hmr:=h.range m hm;have hne:m≠n:=fun e=>hno (e ▸ hm)
  exact huo _ yaF (.inl (by unfold bL nx; omega))
 have hfl:∀ f,0<=f->f<3->rd u (D.aO p+n * 5+2+f)=0:=by
  intro f h0 h1;rw [hur _ O,if_neg O,hvr _ O,if_pos O]
 have hst:rd u (D.aO p+n * 5)=D.cq t:=by rw [hur _ O,if_pos rfl]
 have main:∀ {m:Nat} {r:Int} {ws'':List Int},I6 (D.gz (k+4) t p n) u m r ws''->I6 (D.jr (k+4) p n) ws (m+5) r ws'':=by
  intro m r ws'' hr;show I6 (D.eP (k+4) p n 0 (fun _=>D.pZ (k+4) p n)) ws (m+2+3) r ws''
  refine Da hp hn hs k ?_;rw [<-hv];show I6 (D.dL (D.dc p n) (fun x=>D.pM (k+4) p n x)) v (m+1+1) r ws''
  rw [sK hp hn]
  refine jK O O ?_;show I6 (D.ee (D.dc p n) (D.cq (D.bR (D.aV (rd v (D.aO p+n * 5))).1 p.IP)) (fun _=>D.gz (k+4) (D.bR (D.aV (rd v (D.aO p+n * 5))).1 p.IP) p n)) v (m+1) r ws''
  rw [sK hp hn,hvr _ O,if_neg O,<-ht]
  refine gU O O ?_;rw [<-hu];exact hr
 by_cases hm:t.mode=3
 ·refine ⟨u,?_,⟨hul,hst,hfl,fun _=>hF,fun h=>absurd hm h,fun j hj hno=>huo j O (.inl hno)⟩⟩
  rw [if_pos hm,if_pos hm]
  refine main (m:=0) ?_;unfold D.gz;rw [hm];exact .done _ _
 ·obtain ⟨I7,h1,h2,h3⟩:=Dg hp hF hnn hg hn hno (k+3)
  have hl':I7.length=ws.length:=by have:=h2.len; omega
  refine ⟨I7,?_,⟨hl',?_,fun f h0 h1=>?_,fun h=>absurd h hm,fun _=>h2,fun j hj hno=>?_⟩⟩
  ·rw [if_neg hm,if_neg hm]
   refine main (m:=3) ?_;unfold D.gz;rw [show (t.mode==3)=false from by simpa using hm]
   exact h1
  ·rw [h3 _ O yaF,hst]
  ·rw [h3 _ O yaF,hfl f h0 h1]
  ·rw [h3 j hj (by intro e; apply hno; unfold bL; unfold nx at e; omega),huo j O (.inl hno)]
theorem oS {n:Int} (h0:-1<=n) (h1:n<=1000000000000000000):D.iN n=n+1:=by
 unfold D.iN;have h2:IntKind.i64.wrap (n+1)=n+1:=bq O O;rw [h2];exact cX O O
theorem cE {p:Plan} (hp:PF p):1<=D.aL p/\D.aL p+p.threads * 3<=D.cF p/\D.cF p<D.aO p/\D.aO p+p.nodes * 5=D.bF p:=by
 have h1:=lL hp;have h2:=lR hp;have h3:=ow hp;have h4:=dW hp;have h5:=fJ hp;have h6:=sA hp;have h7:=hp.t1;have h8:=hp.r1;have h9:1 * (1+p.retire)<=p.threads * (1+p.retire):=Int.mul_le_mul_of_nonneg_right h7 O
 exact ⟨O,O,O,O⟩
abbrev Len (p:Plan) (ws:List Int):Prop:=(ws.length:Int)=D.bF p
theorem qU {p:Plan} (hp:PF p) {ws:List Int} (hl:Len p ws) {t s n:Int} (ht:0<=t/\t<p.threads) (hs:0<=s/\s<3) (hn:-1<=n/\n<=1000000000000000000) :
  I6 (D.fC p t s n) ws 1 () (ws.set (D.aL p+t * 3+s).toNat (n+1)):=by
 obtain ⟨h1,h2,h3,h4⟩:=cE hp;have hn1:=hp.n1;unfold D.fC;rw [oS hn.1 hn.2,vG hp,if_pos ⟨ht,hs⟩];unfold Len at hl
 exact vY O O
theorem yp {i:Int} (h:0<=i):i.tdiv 3=i / 3/\i.tmod 3=i % 3:=⟨Int.tdiv_eq_ediv_of_nonneg h,Int.tmod_eq_emod_of_nonneg h⟩
theorem xu {p:Plan} (hp:PF p) {i:Int} (h0:0<=i) (h1:i<p.threads * 3):D.fO p (IntKind.i64.wrap (i.tdiv 3)) (i.tmod 3)=D.aL p+i:=by
 have ht2:=hp.t2;rw [(yp h0).1,(yp h0).2,bW O O,vG hp,if_pos O]
 omega
theorem DE {p:Plan} (hp:PF p) {ws:List Int} (hl:Len p ws) {n:Int} (hn:-1<=n/\n<=1000000000000000000):∀ (d:Nat) (i:Int) (k:Nat),i+d=p.threads * 3->0<=i->d<k->
  (∃ j,i<=j/\j<p.threads * 3/\rd ws (D.aL p+j)=n+1)->∃ m:Nat,m<=d/\I6 (D.eE k p n i) ws m true ws:=by
 obtain ⟨g1,g2,g3,g4⟩:=cE hp;have hn1:=hp.n1;have ht2:=hp.t2;intro d
 induction d with
 | zero=>
  rintro i k hi _ _ ⟨j,h1,h2,_⟩;omega
 | succ d ih=>
  rintro i k hi h0 hk ⟨j,h1,h2,h3⟩;obtain ⟨k,rfl⟩:∃ q,k=q+1:=⟨k - 1,O⟩
  have hb:D.eE (k+1) p n i=.act 0 (D.aL p+i) 0 0 (fun x=>D.fw (D.eE k) n p i x):=by
   show D.fk (D.eE k) p n i=_
   unfold D.fk;rw [bW (show -1000000<=p.threads * 3 by omega) O,show (i==p.threads * 3)=false from by simp; omega,xu hp h0 O]
   rfl
  unfold Len at hl
  by_cases e:rd ws (D.aL p+i)=n+1
  ·refine ⟨1,O,?_⟩
   rw [hb]
   refine .load O O ?_;unfold D.fw;rw [oS hn.1 hn.2,e,show (n+1==n+1)=true from by simp]
   exact .done _ _
  ·have hne:j≠i:=fun h=>e (h ▸ h3)
   obtain ⟨m,hm,hr⟩:=ih (i+1) k O O O ⟨j,O,h2,h3⟩
   refine ⟨m+1,O,?_⟩
   rw [hb]
   refine .load O O ?_;unfold D.fw;rw [oS hn.1 hn.2,show (rd ws (D.aL p+i)==n+1)=false from by simpa using e,bW O O]
   exact hr
theorem Ef {p:Plan} (hp:PF p) {ws:List Int} (hl:Len p ws) {n:Int} (hn:-1<=n/\n<=1000000000000000000):∀ (d:Nat) (i:Int) (k:Nat),i+d=p.threads * 3->0<=i->d<k->
  (∀ j,i<=j->j<p.threads * 3->rd ws (D.aL p+j)≠n+1)->I6 (D.eE k p n i) ws d false ws:=by
 obtain ⟨g1,g2,g3,g4⟩:=cE hp;have hn1:=hp.n1;have ht2:=hp.t2;intro d
 induction d with
 | zero=>
  intro i k hi _ hk _;obtain ⟨k,rfl⟩:∃ q,k=q+1:=⟨k - 1,O⟩
  show I6 (D.fk (D.eE k) p n i) _ _ _ _
  unfold D.fk;rw [bW (show -1000000<=p.threads * 3 by omega) O,show (i==p.threads * 3)=true from by simp; omega]
  exact .done _ _
 | succ d ih=>
  intro i k hi h0 hk hno;obtain ⟨k,rfl⟩:∃ q,k=q+1:=⟨k - 1,O⟩
  have hb:D.eE (k+1) p n i=.act 0 (D.aL p+i) 0 0 (fun x=>D.fw (D.eE k) n p i x):=by
   show D.fk (D.eE k) p n i=_
   unfold D.fk;rw [bW (show -1000000<=p.threads * 3 by omega) O,show (i==p.threads * 3)=false from by simp; omega,xu hp h0 O]
   rfl
  unfold Len at hl
  rw [hb]
  refine .load O O ?_;unfold D.fw;rw [oS hn.1 hn.2,show (rd ws (D.aL p+i)==n+1)=false from by simpa using hno i O O,bW O O]
  exact ih (i+1) k O O O fun j h1 h2=>hno j O h2
theorem uZ {p:Plan} (hp:PF p) {t:Int} (ht:0<=t/\t<p.threads):∀ (d:Nat) (s:Int) (k:Nat) (ws:List Int),s+d=3->0<=s->d<k->Len p ws->
  ∃ I7,I6 (D.gP k p t s) ws d () I7/\Len p I7/\∀ j,0<=j->rd I7 j=if D.aL p+t * 3+s<=j/\j<D.aL p+t * 3+3 then 0 else rd ws j:=by
 obtain ⟨g1,g2,g3,g4⟩:=cE hp;have hn1:=hp.n1;intro d
 induction d with
 | zero=>
  intro s k ws hs h0 hk hl;obtain ⟨k,rfl⟩:∃ q,k=q+1:=⟨k - 1,O⟩
  refine ⟨ws,?_,hl,fun j hj=>by rw [if_neg O]⟩
  show I6 (D.gG (D.gP k) p t s) _ _ _ _
  unfold D.gG;rw [show (s==3)=true from by simp; omega]
  exact .done _ _
 | succ d ih=>
  intro s k ws hs h0 hk hl;obtain ⟨k,rfl⟩:∃ q,k=q+1:=⟨k - 1,O⟩
  have h1:=qU hp hl ht (s:=s) (n:=-1) ⟨h0,O⟩ O
  have hl':Len p (ws.set (D.aL p+t * 3+s).toNat (-1+1)):=by unfold Len at hl ⊢; simpa using hl
  obtain ⟨I7,h2,h3,h4⟩:=ih (s+1) k _ O O O hl';refine ⟨I7,?_,h3,fun j hj=>?_⟩
  ·show I6 (D.gG (D.gP k) p t s) _ _ _ _
   unfold D.gG;rw [show (s==3)=false from by simp; omega]
   refine (I6.bind h1 (g:=fun _=>D.lj (D.gP k) p t s) ?_).cast (show 1+d=d+1 by omega)
   unfold D.lj;rw [bW O O];exact h2
  ·unfold Len at hl
   rw [h4 j hj,bX O O hj]
   by_cases e:j=D.aL p+t * 3+s
   ·rw [if_pos e]
    by_cases e2:D.aL p+t * 3+(s+1)<=j/\j<D.aL p+t * 3+3
    ·rw [if_pos e2,if_pos O]
    ·rw [if_neg e2,if_pos O]; rfl
   ·rw [if_neg e]
    by_cases e2:D.aL p+t * 3+(s+1)<=j/\j<D.aL p+t * 3+3
    ·rw [if_pos e2,if_pos O]
    ·rw [if_neg e2,if_neg O]
theorem oX {fu:Nat} {M:Mem} {i:Int} (h0:0<=i) (h1:i<M.ws.length):D.gJ fu M 0 i=some (rd M.ws i):=by
 unfold D.gJ;have hS:D.jl fu M 0=some (M.ws.length:Int):=rfl;rw [show decide (i<0)=false from by simp; omega]
 simp only [cond_false,hS,Option.bind_some]
 rw [show decide (i>=(M.ws.length:Int))=false from by simp; omega,show zeroI 0=some () from rfl,ia h0 h1]
 rfl
theorem Ey {p:Plan} (hp:PF p) {ws:List Int} (h:LaidAt p ws) {j:Int} (h0:0<=j) (h1:j<p.threads * 3):rd ws (D.aL p+j)=0:=by
 obtain ⟨g1,g2,g3,g4⟩:=cE hp;exact h.zero _ O fun m _ _=>O
theorem xl {w sh:Int} (h0:0<=w) (h:0<=sh/\sh<3):KK .u64 w sh=w / 2 ^ sh.toNat/\0<=w / 2 ^ sh.toNat/\w / 2 ^ sh.toNat<=w:=by
 have hp:(0:Int)<2 ^ sh.toNat:=Int.pow_pos O
 refine ⟨?_,Int.ediv_nonneg h0 O,Int.ediv_le_self _ h0⟩;unfold KK;rw [show min sh.toNat IntKind.u64.bits=sh.toNat from by simp [IntKind.bits]; omega]
 exact Int.fdiv_eq_ediv_of_nonneg _ O
end Go.Proofs.YtbbipmelhmgmfaaGreat

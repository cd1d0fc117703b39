/- Some of our texts, one behind the other. -/
import Derived.Test.YtbbipmelhmgmfaaGreatDpM4
import Derived.Test.YtbbipmelhmgmfaaGreatDpM5
import Derived.Test.YtbbipmelhmgmfaaGreatDpM12
import Derived.Test.YtbbipmelhmgmfaaGreatDpM6
import Derived.Test.YtbbipmelhmgmfaaGreatDpRetires
set_option linter.all false
set_option maxRecDepth 100000
set_option maxHeartbeats 20000000
/- Ours. -/
namespace Go.Proofs.YtbbipmelhmgmfaaGreat
open Go.RowKit
theorem zaN {x:Int} (h0:-9223372036854775808≤x) (h1:x≤9223372036854775807):IntKind.i64.wrap x=x:=by
 simp only [IntKind.wrap]
 simp [IntKind.signed,IntKind.bits]
 omega
structure PF (p:Plan):Prop where
 n1:1≤p.nodes
 n2:p.nodes≤1048576
 t1:1≤p.threads
 t2:p.threads≤16
 d1:0≤p.domains
 d2:p.domains≤64
 b1:1≤p.buckets
 b2:p.buckets≤256
 g1:1≤p.gen
 g2:p.gen≤1073741823
 r1:3 * p.threads+1≤p.retire
 r2:p.retire≤1024
theorem all_nil {α:Type} {P:α→Prop}:(∀ b,b∈([]:List α)→P b)↔True:=⟨fun _=>trivial,fun _ _ hb=>nomatch hb⟩
theorem all_cons {α:Type} {P:α→Prop} {x:α} {l:List α}:(∀ b,b∈x::l→P b)↔P x∧∀ b,b∈l→P b:=List.forall_mem_cons
theorem within_iff {l:List Bound}:D.zaL l=true↔∀ b,b∈l→b.least≤b.n∧b.n≤b.most:=by
 unfold D.zaL;rw [List.all_eq_true]
 constructor
 ·intro h b hb
  have:=h b hb;simp only [Bool.and_eq_true,Bool.not_eq_true',decide_eq_false_iff_not] at this
  omega
 ·intro h b hb
  have:=h b hb;simp only [Bool.and_eq_true,Bool.not_eq_true',decide_eq_false_iff_not];omega
theorem zf7 {p:Plan}:D.zaz p=true↔PF p:=by
 unfold D.zaz
 constructor
 ·intro h
  cases h1:D.zaL [(⟨p.nodes,1,1048576⟩:Bound),⟨p.threads,1,16⟩,⟨p.domains,0,64⟩,⟨p.buckets,1,256⟩,⟨p.gen,1,1073741823⟩]
  ·rw [h1] at h; cases h
  ·rw [h1] at h
   simp only [cond_true] at h
   have h1:=within_iff.1 h1;have h:=within_iff.1 h;simp only [all_cons,all_nil,and_true] at h1 h
   have hw:IntKind.i64.wrap (IntKind.i64.wrap (3 * p.threads)+1)=3 * p.threads+1:=by
    rw [zaN (x:=3 * p.threads) kw kw,zaN kw kw]
   rw [hw] at h
   constructor <;> omega
 ·intro h
  obtain ⟨n1,n2,t1,t2,d1,d2,b1,b2,g1,g2,r1,r2⟩:=h;have h1:D.zaL [(⟨p.nodes,1,1048576⟩:Bound),⟨p.threads,1,16⟩,⟨p.domains,0,64⟩,⟨p.buckets,1,256⟩,⟨p.gen,1,1073741823⟩]=true:=by
   rw [within_iff]
   simp only [all_cons,all_nil,and_true]
   omega
  rw [h1]
  simp only [cond_true]
  have hw:IntKind.i64.wrap (IntKind.i64.wrap (3 * p.threads)+1)=3 * p.threads+1:=by
   rw [zaN (x:=3 * p.threads) kw kw,zaN kw kw]
  rw [hw,within_iff]
  simp only [all_cons,all_nil,and_true]
  omega
theorem zmR {p:Plan} (h:D.zf6 p=true):PF p:=by
 unfold D.zf6 at h
 simp only [cond_eq_ite,decide_eq_true_eq,Bool.if_false_left,Bool.if_false_right,Bool.and_eq_true,Bool.not_eq_true',decide_eq_false_iff_not] at h
 obtain ⟨h1,h2,h3,h4,h5,h6,h7,h8,h9,h10,h11,h12⟩:=h;rw [zaN kw kw] at h11
 constructor <;> omega
section
variable {p : Plan} (hp : PF p)
include hp
theorem zg2:2≤D.za9 p∧D.za9 p≤256:=by
 obtain ⟨n1,n2,t1,t2,d1,d2,b1,b2,g1,g2,r1,r2⟩:=hp;unfold D.za9 maxI
 split <;> omega
theorem zqg:0≤p.domains * (1+D.za9 p)∧p.domains * (1+D.za9 p)≤64 * 257:=by
 have h:=zg2 hp;obtain ⟨n1,n2,t1,t2,d1,d2,b1,b2,g1,g2,r1,r2⟩:=hp;exact ⟨Int.mul_nonneg d1 kw,Int.mul_le_mul d2 kw kw kw⟩
theorem zrh:0≤p.threads * (1+p.retire)∧p.threads * (1+p.retire)≤16 * 1025:=by
 obtain ⟨n1,n2,t1,t2,d1,d2,b1,b2,g1,g2,r1,r2⟩:=hp;exact ⟨Int.mul_nonneg kw kw,Int.mul_le_mul t2 kw kw kw⟩
theorem zfN:D.za1 p=1+p.domains * (1+D.za9 p):=by
 have h:=zqg hp;have hc:=zg2 hp;unfold D.za1;rw [zaN (x:=1+D.za9 p) kw kw,zaN (x:=p.domains * _) kw kw,zaN kw kw]
theorem zgR:D.zas p=1+p.domains * (1+D.za9 p)+p.threads * 3:=by
 have h:=zqg hp;have t1:=hp.t1;have t2:=hp.t2;unfold D.zas;rw [zfN hp,zaN (x:=p.threads * 3) kw kw,zaN kw kw]
theorem zji:D.za2 p=1+p.domains * (1+D.za9 p)+p.threads * 3+p.threads * (1+p.retire):=by
 have h:=zqg hp;have h2:=zrh hp;have t1:=hp.t1;have t2:=hp.t2;have r1:=hp.r1;have r2:=hp.r2;unfold D.za2;rw [zgR hp,zaN (x:=1+p.retire) kw kw,zaN (x:=p.threads * (1+p.retire)) kw kw,zaN kw kw]
theorem zbp:1≤D.za2 p∧D.za2 p≤40000:=by
 have h:=zqg hp;have h2:=zrh hp;have t1:=hp.t1;have t2:=hp.t2;rw [zji hp];omega
theorem zmw {x:Int} {l:List Bound} (h:∀ b,b∈l→b.least≤b.n∧b.n≤b.most):D.zal p x l=x:=by
 unfold D.zal;rw [zf7.2 hp,within_iff.2 h]
 rfl
theorem znt {x:Int} {l:List Bound} (h:¬ ∀ b,b∈l→b.least≤b.n∧b.n≤b.most):D.zal p x l=-1:=by
 unfold D.zal;have hw:D.zaL l=false:=by
  cases hw:D.zaL l
  ·rfl
  ·exact absurd (within_iff.1 hw) h
 rw [zf7.2 hp,hw]
 rfl
theorem zdx:D.zab p=D.za2 p+p.nodes * 5:=by
 have h:=zbp hp;have n1:=hp.n1;have n2:=hp.n2;unfold D.zab;rw [zf7.2 hp];simp only [Bool.not_true,cond_false];rw [zaN (x:=p.nodes * 5) kw kw,zaN kw kw]
theorem zit:D.zaX p=0:=by
 unfold D.zaX;exact zmw hp yat
theorem zg1 {x y:Int} {l:List Bound} {c:Prop} [Decidable c] (h:(∀ b,b∈l→b.least≤b.n∧b.n≤b.most)↔c) (hx:c→x=y):D.zal p x l=if c then y else -1:=by
 by_cases hc:c
 ·rw [if_pos hc,zmw hp (h.2 hc),hx hc]
 ·rw [if_neg hc,znt hp (fun q=>hc (h.1 q))]
theorem znZ (n:Int):D.zaJ p n=if 0≤n∧n<p.nodes then D.za2 p+n * 5 else -1:=by
 have h:=zbp hp;have n1:=hp.n1;have n2:=hp.n2;unfold D.zaJ D.zaG;refine zg1 hp ?_ ?_
 ·simp only [all_cons,all_nil,and_true]
  rw [zaN kw kw]
  omega
 ·intro hc
  rw [zaN (x:=n * 5) kw kw,zaN kw kw]
theorem znC (n:Int):D.zaZ p n=if 0≤n∧n<p.nodes then D.za2 p+n * 5+1 else -1:=by
 have h:=zbp hp;have n1:=hp.n1;have n2:=hp.n2;unfold D.zaZ D.zaG;refine zg1 hp ?_ ?_
 ·simp only [all_cons,all_nil,and_true]
  rw [zaN kw kw]
  omega
 ·intro hc
  rw [zaN (x:=n * 5) kw kw,zaN (x:=D.za2 p+n * 5) kw kw,zaN kw kw]
theorem zmp (n f:Int):D.za8 p n f=if (0≤n∧n<p.nodes)∧0≤f∧f<3 then D.za2 p+n * 5+2+f else -1:=by
 have h:=zbp hp;have n1:=hp.n1;have n2:=hp.n2;unfold D.za8 D.zaG;refine zg1 hp ?_ ?_
 ·simp only [all_cons,all_nil,and_true]
  rw [zaN kw kw]
  omega
 ·intro hc
  rw [zaN (x:=n * 5) kw kw,zaN (x:=D.za2 p+n * 5) kw kw,zaN (x:=D.za2 p+n * 5+2) kw kw,zaN kw kw]
theorem zlt (t i:Int):D.zbr p t i=if (0≤t∧t<p.threads)∧0≤i∧i<3 then D.za1 p+t * 3+i else -1:=by
 have h:=zqg hp;have h1:=zfN hp;have t1:=hp.t1;have t2:=hp.t2;unfold D.zbr D.zau;refine zg1 hp ?_ ?_
 ·simp only [all_cons,all_nil,and_true]
  rw [zaN kw kw]
  omega
 ·intro hc
  rw [zaN (x:=t * 3) kw kw,zaN (x:=D.za1 p+t * 3) kw kw,zaN kw kw]
theorem zsn {t:Int} (h0:0≤t) (h1:t<p.threads):0≤t * (1+p.retire)∧t * (1+p.retire)≤16 * 1025:=by
 obtain ⟨n1,n2,t1,t2,d1,d2,b1,b2,g1,g2,r1,r2⟩:=hp;exact ⟨Int.mul_nonneg kw kw,Int.mul_le_mul kw kw kw kw⟩
theorem zo1 (t:Int):D.zb3 p t=if 0≤t∧t<p.threads then D.zas p+t * (1+p.retire) else -1:=by
 have h:=zqg hp;have h1:=zgR hp;have t1:=hp.t1;have t2:=hp.t2;have r1:=hp.r1;have r2:=hp.r2;unfold D.zb3 D.zau;refine zg1 hp ?_ ?_
 ·simp only [all_cons,all_nil,and_true]
  rw [zaN kw kw]
  omega
 ·intro hc
  have h2:=zsn hp hc.1 hc.2;rw [zaN (x:=1+p.retire) kw kw,zaN (x:=t * (1+p.retire)) kw kw,zaN kw kw]
theorem zmT (t i:Int):D.zaM p t i=if (0≤t∧t<p.threads)∧0≤i∧i<p.retire then D.zas p+t * (1+p.retire)+1+i else -1:=by
 have h:=zqg hp;have h1:=zgR hp;have t1:=hp.t1;have t2:=hp.t2;have r1:=hp.r1;have r2:=hp.r2;unfold D.zaM D.zau;refine zg1 hp ?_ ?_
 ·simp only [all_cons,all_nil,and_true]
  rw [zaN (x:=p.threads - 1) kw kw,zaN (x:=p.retire - 1) kw kw]
  omega
 ·intro hc
  have h2:=zsn hp hc.1.1 hc.1.2;rw [zaN (x:=1+p.retire) kw kw,zaN (x:=t * (1+p.retire)) kw kw,zaN (x:=D.zas p+t * (1+p.retire)) kw kw,
   zaN (x:=D.zas p+t * (1+p.retire)+1) kw kw,zaN kw kw]
theorem zs2 {d:Int} (h0:0≤d) (h1:d<p.domains):0≤d * (1+D.za9 p)∧d * (1+D.za9 p)≤64 * 257:=by
 have hc:=zg2 hp;have d2:=hp.d2;exact ⟨Int.mul_nonneg kw kw,Int.mul_le_mul kw kw kw kw⟩
end
theorem zjo {X Z:Type} {body:X→Option (Lp X Z)} {f:X→Option Z} {x0:X} (Q:Option Z→Prop) (I:Nat→X→Prop) (n k:Nat) (h0:I 0 x0) (hk:n<k)
  (hs:∀ i x,i<n→I i x→∃ x',body x=some (.next x')∧I (i+1) x') (he:∀ x,I n x→∃ x',body x=some (.brk x')∧Q (f x')):Q (loopThen body k x0 f):=by
 have h:∀ d i x,i+d=n→I i x→∀ k,d<k→Q ((runLoop body k x).bind (afterLoop f)):=by
  intro d
  induction d with
  | zero=>
   intro i x hi hI k hk;obtain ⟨k,rfl⟩:∃ q,k=q+1:=⟨k - 1,kw⟩
   obtain rfl:i=n:=kw
   obtain ⟨x',hb,hf⟩:=he x hI;simp only [runLoop,hb,Option.bind_some,goOn,afterLoop];exact hf
  | succ d ih=>
   intro i x hi hI k hk;obtain ⟨k,rfl⟩:∃ q,k=q+1:=⟨k - 1,kw⟩
   obtain ⟨x',hb,hI'⟩:=hs i x kw hI;simp only [runLoop,hb,Option.bind_some,goOn];exact ih (i+1) x' kw hI' k kw
 exact h n 0 x0 kw h0 k hk
theorem zkG {α:Type} {l:List α} {i:Nat} (h:i<l.length):getI l i=some l[i]:=by
 unfold getI;rw [if_pos kw,Int.toNat_natCast,List.getElem?_eq_getElem h]
theorem zaQ {x:Int} (h0:-1000000≤x) (h1:x≤1000000):IntKind.i64.wrap x=x:=zaN kw kw
def acted (op at_ a b x:Int) (ws:List Int):List Int:=
 if op=1 then ws.set at_.toNat a else if op=2 then (if x=a then ws.set at_.toNat b else ws) else if op=3 then ws.set at_.toNat (IntKind.u64.wrap (x+a)) else ws
inductive Runs {R:Type}:T R→List Int→Nat→R→List Int→Prop
 | done (r:R) (ws:List Int):Runs (.done r) ws 0 r ws
 | act {op at_ a b x:Int} {k:Int→T R} {ws ws':List Int} {n:Nat} {r:R} (h1:0≤op∧op≤3) (h2:getI ws at_=some x) (h:Runs (k x) (acted op at_ a b x ws) n r ws'):Runs (.act op at_ a b k) ws (n+1) r ws'
theorem Runs.bind {A B:Type} {t:T A} {g:A→T B} {ws ws' ws'':List Int} {n m:Nat} {a:A} {b:B} (h:Runs t ws n a ws') (h2:Runs (g a) ws' m b ws''):Runs (t.bind g) ws (n+m) b ws'':=by
 induction h with
 | done r ws=>simpa [T.bind] using h2
 | @act op at_ a b x k ws ws' n r h1 h3 _ ih=>
  have:=Runs.act (k:=fun x=>(k x).bind g) h1 h3 (ih h2)
  rw [show n+1+m=n+m+1 from by omega]
  exact this
theorem Runs.cast {R:Type} {t:T R} {ws ws':List Int} {n m:Nat} {r:R} (h:Runs t ws n r ws') (e:n=m):Runs t ws m r ws':=e ▸ h
def cap0:Cap:=⟨0,1⟩
theorem zok (fu:Nat) (M:Mem):D.zcA fu M 0=some cap0:=rfl
theorem zu2 {fu:Nat} {M:Mem} {op at_ a b x:Int} (h1:0≤op∧op≤3) (h2:getI M.ws at_=some x):∃ c,D.zc2 fu M cap0 ⟨op,at_,a,b⟩=some (x,true,⟨acted op at_ a b x M.ws,c⟩):=by
 obtain ⟨h3,h4,_,_⟩:=zfT h2;refine ⟨IntKind.i64.wrap (M.cnt+1),?_⟩;unfold D.zc2;have hG:D.zdV fu M cap0=some true:=rfl;have hS:D.zci fu M cap0.region=some (M.ws.length:Int):=rfl;simp only [hG,hS,Option.bind_some,Bool.not_true,cond_false];rw [show decide (at_<0)=false from by simp; omega,show decide (at_≥(M.ws.length:Int))=false from by simp; omega,show decide (op<0)=false from by simp; omega,show decide (op > 3)=false from by simp; omega]
 simp only [cond_false,Option.bind_some]
 rw [show zeroI cap0.region=some () from rfl,h2]
 simp only [Option.bind_some]
 by_cases e1:op=1
 ·subst e1
  simp [acted,Mem.put]
 rw [show (op==1)=false from by simpa using e1]
 by_cases e2:op=2
 ·subst e2
  by_cases e3:x=a
  ·subst e3; simp [acted,Mem.put]
  ·rw [show (x==a)=false from by simpa using e3]
   simp [acted,e3]
 rw [show (op==2)=false from by simpa using e2]
 by_cases e3:op=3
 ·subst e3; simp [acted,Mem.put]
 rw [show (op==3)=false from by simpa using e3]
 simp [acted,e1,e2,e3]
section
variable {R : Type}
def stepG (fu:Nat) (a0:Nat × T R) (a1:Mem) (a2:Cap):Option ((Nat × T R) × Bool × Mem):=(bif a0.2.zpB then (some (a0,false,a1)) else ((D.zc2 fu a1 a2 (T.acc a0.2)).bind (fun (x16:Int × Bool × Mem)=>(bif (!x16.2.1) then (some (a0,false,x16.2.2)) else ((depthI a0.1).bind (fun (x26:Nat)=>(some ((x26,T.next a0.2 x16.1),true,x16.2.2))))))))
def runG (z:R) (fu:Nat) (a0:Nat × T R) (a1:Mem) (a2:Cap) (a3:Int):Option (R × Int × Bool × Mem):=(loopThen (fun (x13:Int × Mem × (Nat × T R))=>(Option.bind (bif (decide (x13.1<a3)) then (some (!x13.2.2.2.zpB)) else (some false)) (fun (x19:Bool)=>(bif x19 then ((stepG fu x13.2.2 x13.2.1 a2).bind (fun (x23:(Nat × T R) × Bool × Mem)=>(bif (!x23.2.1) then (some (Lp.brk (x13.1,x23.2.2,x13.2.2))) else (some (Lp.next ((IntKind.i64.wrap (x13.1+1)),x23.2.2,x23.1)))))) else (some (Lp.brk (x13.1,x13.2.1,x13.2.2))))))) fu (0,a1,a0) (fun (x37:Int × Mem × (Nat × T R))=>(some (T.res z x37.2.2.2,x37.1,x37.2.2.2.zpB,x37.2.1))))
theorem zo6 {fu d:Nat} {M:Mem} {op at_ a b x:Int} {k:Int→T R} (h1:0≤op∧op≤3) (h2:getI M.ws at_=some x):∃ c,stepG fu (d+1,.act op at_ a b k) M cap0=some ((d,k x),true,⟨acted op at_ a b x M.ws,c⟩):=by
 obtain ⟨c,hc⟩:=zu2 (fu:=fu) (a:=a) (b:=b) h1 h2;refine ⟨c,?_⟩;unfold stepG;show ((D.zc2 fu M cap0 ⟨op,at_,a,b⟩).bind _)=_
 rw [hc]
 rfl
theorem zng {z r:R} {fu:Nat} {most:Int} {ws':List Int} {t:T R} {ws:List Int} {n:Nat} (h:Runs t ws n r ws'):∀ (i:Int) (c:Int) (d q:Nat),0≤i→i+n≤most→most≤1000000→n≤d→n<q→
  ∃ c',loopThen (fun (x13:Int × Mem × (Nat × T R))=>(Option.bind (bif (decide (x13.1<most)) then (some (!x13.2.2.2.zpB)) else (some false)) (fun (x19:Bool)=>(bif x19 then ((stepG fu x13.2.2 x13.2.1 cap0).bind (fun (x23:(Nat × T R) × Bool × Mem)=>(bif (!x23.2.1) then (some (Lp.brk (x13.1,x23.2.2,x13.2.2))) else (some (Lp.next ((IntKind.i64.wrap (x13.1+1)),x23.2.2,x23.1)))))) else (some (Lp.brk (x13.1,x13.2.1,x13.2.2))))))) q (i,⟨ws,c⟩,(d,t))
   (fun (x37:Int × Mem × (Nat × T R))=>(some (T.res z x37.2.2.2,x37.1,x37.2.2.2.zpB,x37.2.1)))=some (r,i+n,true,⟨ws',c'⟩):=by
 induction h with
 | done r ws=>
  intro i c d q _ _ _ _ hq;obtain ⟨q,rfl⟩:∃ p,q=p+1:=⟨q - 1,kw⟩
  refine ⟨c,?_⟩;have hb:∀ b:Bool,((bif b then some (!(T.done r).zpB) else some false):Option Bool)=some false:=fun b=>by cases b <;> rfl
  simp only [loopThen,runLoop,hb,Option.bind_some,cond_false,goOn,afterLoop]
  simp [T.res,T.zpB]
 | @act op at_ a b x k ws ws' n r h1 h2 h ih=>
  intro i c d q hi hm hm2 hd hq;obtain ⟨q,rfl⟩:∃ p,q=p+1:=⟨q - 1,kw⟩
  obtain ⟨d,rfl⟩:∃ p,d=p+1:=⟨d - 1,kw⟩
  obtain ⟨c1,hc1⟩:=zo6 (fu:=fu) (d:=d) (M:=⟨ws,c⟩) (a:=a) (b:=b) (k:=k) h1 h2;obtain ⟨c2,hc2⟩:=ih (i+1) c1 d q kw kw hm2 kw kw;refine ⟨c2,?_⟩;rw [show (i+((n+1:Nat):Int))=i+1+n from kw,←hc2]
  simp only [loopThen,runLoop]
  rw [show decide (i<most)=true from by simp; omega]
  rw [show (!(T.act op at_ a b k).zpB)=true from rfl]
  simp only [cond_true,Option.bind_some,hc1,Bool.not_true,cond_false,goOn,zaQ (show -1000000≤i+1 by omega) kw]
theorem znJ {z r:R} {fu d:Nat} {most:Int} {t:T R} {M:Mem} {ws':List Int} {n:Nat} (h:Runs t M.ws n r ws') (hm:(n:Int)≤most) (hm2:most≤1000000) (hd:n≤d) (hf:n<fu):∃ c',runG z fu (d,t) M cap0 most=some (r,(n:Int),true,⟨ws',c'⟩):=by
 obtain ⟨c',hc⟩:=zng (z:=z) (fu:=fu) (most:=most) h 0 M.cnt d fu kw kw hm2 hd hf;refine ⟨c',?_⟩;rw [Int.zero_add] at hc
 exact hc
end
theorem znV {fu:Nat} {a0:Nat × T Unit} {M:Mem} {c:Cap} {m:Int}:D.zeO fu a0 M c m=runG () fu a0 M c m:=rfl
/-! ### Words by their places -/
def rd (ws:List Int) (i:Int):Int:=ws.getD i.toNat 0
theorem ziM {ws:List Int} {i:Int} (h0:0≤i) (h1:i<ws.length):getI ws i=some (rd ws i):=by
 unfold getI rd;rw [if_pos h0,List.getD_eq_getElem?_getD,List.getElem?_eq_getElem kw]
 rfl
theorem zbC {ws:List Int} {i j v:Int} (h0:0≤i) (h1:i<ws.length) (hj:0≤j):rd (ws.set i.toNat v) j=if j=i then v else rd ws j:=by
 unfold rd;simp only [List.getD_eq_getElem?_getD,List.getElem?_set]
 by_cases h:j=i
 ·subst h
  simp [show j.toNat<ws.length from by omega]
 ·rw [if_neg kw,if_neg h]
theorem Runs.load {R:Type} {at_:Int} {k:Int→T R} {ws ws':List Int} {n:Nat} {r:R} (h0:0≤at_) (h1:at_<ws.length) (h:Runs (k (rd ws at_)) ws n r ws'):Runs (.act 0 at_ 0 0 k) ws (n+1) r ws':=
 .act kw (ziM h0 h1) (by simpa [acted] using h)
theorem Runs.store {R:Type} {at_ w:Int} {k:Int→T R} {ws ws':List Int} {n:Nat} {r:R} (h0:0≤at_) (h1:at_<ws.length) (h:Runs (k (rd ws at_)) (ws.set at_.toNat w) n r ws'):Runs (.act 1 at_ w 0 k) ws (n+1) r ws':=
 .act kw (ziM h0 h1) (by simpa [acted] using h)
theorem zbk {x:Int} (h0:0≤x) (h1:x<18446744073709551616):IntKind.u64.wrap x=x:=by
 simp only [IntKind.wrap]
 simp [IntKind.signed,IntKind.bits]
 omega
theorem zmm {at_ w:Int} {ws:List Int} (h0:0≤at_) (h1:at_<ws.length):Runs (D.zij at_ w) ws 1 () (ws.set at_.toNat w):=.store h0 h1 (.done _ _)
/-! ### A memory that is laid out -/
theorem zoN {p:Plan} (hp:PF p) (hfw:p.nodes≤40∧p.retire≤40∧p.domains≤6∧p.buckets≤10):D.zab p≤5000∧1≤D.za2 p:=by
 have hc:=zg2 hp;have hcells:D.za9 p≤10:=by
  unfold D.za9 maxI
  split <;> omega
 have hdm:p.domains * (1+D.za9 p)≤6 * 11:=Int.mul_le_mul hfw.2.2.1 kw kw kw
 have htr:p.threads * (1+p.retire)≤16 * 41:=Int.mul_le_mul hp.t2 kw (by have:=hp.r1; have:=hp.t1; omega) kw
 have:=hp.t2;have hN:=zbp hp;rw [zdx hp];have:=zji hp;exact ⟨kw,hN.1⟩
theorem zmz {p:Plan} (hp:PF p) (hfw:p.nodes≤40):∀ (d:Nat) (n:Int) (k:Nat) (ws:List Int),n+d=p.nodes→0≤n→d<k→(ws.length:Int)=D.zab p→
  ∃ ws',Runs (D.zdd k p n) ws (d+1) () ws'∧ws'.length=ws.length∧rd ws' 0=1∧
   (∀ m,n≤m→m<p.nodes→rd ws' (D.za2 p+m * 5+1)=if m+1=p.nodes then 0 else m+2)∧
   ∀ j,0<j→(∀ m,n≤m→m<p.nodes→j≠D.za2 p+m * 5+1)→rd ws' j=rd ws j:=by
 have hN:=zbp hp;have hS:=zdx hp;have hn1:=hp.n1;intro d
 induction d with
 | zero=>
  intro n k ws hnd hn hk hl;obtain ⟨k,rfl⟩:∃ q,k=q+1:=⟨k - 1,kw⟩
  have hnn:n=p.nodes:=kw
  subst hnn;refine ⟨ws.set (0:Int).toNat 1,?_,by simp,?_,fun m h1 h2=>kw,fun j hj _=>?_⟩
  ·show Runs (D.zbM (D.zdd k) p p.nodes) ws 1 () _
   unfold D.zbM;rw [show (p.nodes==p.nodes)=true from by simp]
   simp only [cond_true]
   rw [zit hp]
   exact zmm kw kw
  ·rw [zbC kw kw kw,if_pos rfl]
  ·rw [zbC kw kw kw,if_neg kw]
 | succ d ih=>
  intro n k ws hnd hn hk hl;obtain ⟨k,rfl⟩:∃ q,k=q+1:=⟨k - 1,kw⟩
  have hnx:D.zaZ p n=D.za2 p+n * 5+1:=by rw [znC hp,if_pos kw]
  obtain ⟨v,hv⟩:∃ v,v=(if n+1=p.nodes then (0:Int) else n+2):=⟨_,rfl⟩
  obtain ⟨ws',h1,h2,h3,h4,h5⟩:=ih (n+1) k (ws.set (D.za2 p+n * 5+1).toNat v) kw kw kw (by simpa using hl);refine ⟨ws',?_,by simpa using h2,h3,fun m hm1 hm2=>?_,fun j hj hno=>?_⟩
  ·show Runs (D.zbM (D.zdd k) p n) ws (d+1+1) () _
   unfold D.zbM;rw [show (n==p.nodes)=false from by simp; omega,zaQ (show -1000000≤n+1 by omega) kw,hnx]
   simp only [cond_false]
   have hx:(bif n+1==p.nodes then 0 else D.zbE (n+1))=v:=by
    rw [hv]
    by_cases e:n+1=p.nodes
    ·rw [if_pos e,show (n+1==p.nodes)=true from by simpa using e]; rfl
    ·rw [if_neg e,show (n+1==p.nodes)=false from by simpa using e]
     show D.zbE (n+1)=n+2
     unfold D.zbE;rw [zaQ kw kw,zbk kw kw];omega
   rw [hx]
   show Runs (.act 1 (D.za2 p+n * 5+1) v 0 _) ws (d+1+1) () _
   refine Runs.store kw kw ?_;show Runs (D.zdd k p (IntKind.i64.wrap (n+1))) _ _ _ _
   rw [zaQ kw kw]
   exact h1
  ·by_cases hmn:m=n
   ·subst hmn
    rw [h5 _ kw (fun q hq1 hq2=>kw),zbC kw kw kw,if_pos rfl,hv]
   ·exact h4 m kw hm2
  ·rw [h5 j hj (fun m hm1 hm2=>hno m kw hm2),zbC kw kw kw,if_neg]
   exact hno n kw kw
structure LaidAt (p:Plan) (ws:List Int):Prop where
 len:(ws.length:Int)=D.zab p
 head:rd ws 0=1
 next:∀ m,0≤m→m<p.nodes→rd ws (D.za2 p+m * 5+1)=if m+1=p.nodes then 0 else m+2
 zero:∀ j,0<j→(∀ m,0≤m→m<p.nodes→j≠D.za2 p+m * 5+1)→rd ws j=0
theorem zp4 {fu:Nat} {n:Int} (hf:3≤fu) (h0:0≤n) (h1:n≤16777216):D.zjV fu [n]=some (⟨zerosI n,0⟩,0):=by
 obtain ⟨k,rfl⟩:∃ k,fu=k+3:=⟨fu - 3,kw⟩
 unfold D.zjV;have e0:oneI [n]=some n:=by
  show (if 0≤n∧n≤16777216 then some n else none)=some n
  rw [if_pos ⟨h0,h1⟩]
 simp only [loopThen,runLoop,e0]
 simp only [List.length_singleton,Int.natCast_one,Int.reduceLT,decide_true,decide_false,cond_true,cond_false,getI,List.getElem?_cons_zero,Option.bind_some,Int.toNat_zero,Int.le_refl,if_true,Int.reduceGT]
 rw [show decide (n<0)=false from by simp; omega,show decide (n > 16777216)=false from by simp; omega]
 rfl
theorem zor {p:Plan} (hp:PF p) (hfw:p.nodes≤40∧p.retire≤40∧p.domains≤6∧p.buckets≤10) {fu:Nat} (hfu:100<fu):∃ M,D.zbw fu p=some M∧LaidAt p M.ws:=by
 obtain ⟨hs1,hs2⟩:=zoN hp hfw;have hn1:=hp.n1;have hS:=zdx hp;have hl:((zerosI (D.zab p)).length:Int)=D.zab p:=by simp [zerosI]; omega
 obtain ⟨ws',h1,h2,h3,h4,h5⟩:=zmz hp hfw.1 p.nodes.toNat 0 (fu+1) (zerosI (D.zab p)) kw kw kw hl;obtain ⟨c,hc⟩:=znJ (z:=()) (fu:=fu) (d:=fu) (most:=p.nodes+1) (M:=⟨zerosI (D.zab p),0⟩) h1 kw kw kw kw;refine ⟨⟨ws',c⟩,?_,by rw [←hl,←h2],h3,h4,fun j hj hno=>?_⟩
 ·unfold D.zbw
  rw [zp4 kw kw kw]
  simp only [Option.bind_some]
  rw [show ((0:Int) !=0)=false from rfl]
  simp only [cond_false,Option.bind_some,zok,zaQ (show -1000000≤p.nodes+1 by omega) kw]
  rw [znV]
  show (runG () fu (fu,D.zdd (fu+1) p 0) _ _ _).bind _=_
  rw [hc]
  rfl
 ·rw [h5 j hj hno]
  unfold rd zerosI;rw [List.getD_eq_getElem?_getD,List.getElem?_replicate]
  split <;> rfl
/-! ### The head's word -/
theorem zfP {x:Int} (h0:0≤x) (h1:x<18446744073709551616):(BitVec.ofInt 64 x).toNat=x.toNat:=by
 rw [BitVec.toNat_ofInt]
 congr 1
 exact Int.emod_eq_of_lt h0 (by simpa using h1)
theorem and_eq {x y:Int} (h0:0≤x) (h1:x<18446744073709551616) (h2:0≤y) (h3:y<18446744073709551616):zbb .u64 x y=((x.toNat &&& y.toNat:Nat):Int):=by
 have h:((BitVec.ofInt 64 x &&& BitVec.ofInt 64 y).toNat:Int)=((x.toNat &&& y.toNat:Nat):Int):=by
  rw [BitVec.toNat_and,zfP h0 h1,zfP h2 h3]
 show IntKind.u64.wrap ((BitVec.ofInt 64 x &&& BitVec.ofInt 64 y).toNat:Int)=_
 rw [h]
 have:x.toNat &&& y.toNat<2 ^ 64:=Nat.and_lt_two_pow _ kw
 exact zbk kw kw
theorem or_eq {x y:Int} (h0:0≤x) (h1:x<18446744073709551616) (h2:0≤y) (h3:y<18446744073709551616):zdf .u64 x y=((x.toNat ||| y.toNat:Nat):Int):=by
 have h:((BitVec.ofInt 64 x ||| BitVec.ofInt 64 y).toNat:Int)=((x.toNat ||| y.toNat:Nat):Int):=by
  rw [BitVec.toNat_or,zfP h0 h1,zfP h2 h3]
 show IntKind.u64.wrap ((BitVec.ofInt 64 x ||| BitVec.ofInt 64 y).toNat:Int)=_
 rw [h]
 have:x.toNat ||| y.toNat<2 ^ 64:=Nat.or_lt_two_pow kw kw
 exact zbk kw kw
theorem zfB {x y:Int} (h0:0≤x) (h1:x<18446744073709551616) (h2:0≤y) (h3:y<18446744073709551616):zaP .u64 x y=((x.toNat &&& (18446744073709551615 - y.toNat):Nat):Int):=by
 have h:((BitVec.ofInt 64 x &&& ~~~(BitVec.ofInt 64 y)).toNat:Int)=((x.toNat &&& (18446744073709551615 - y.toNat):Nat):Int):=by
  rw [BitVec.toNat_and,BitVec.toNat_not,zfP h0 h1,zfP h2 h3]
 show IntKind.u64.wrap ((BitVec.ofInt 64 x &&& ~~~(BitVec.ofInt 64 y)).toNat:Int)=_
 rw [h]
 have:x.toNat &&& (18446744073709551615 - y.toNat)<2 ^ 64:=Nat.and_lt_two_pow _ kw
 exact zbk kw kw
theorem zoa:D.zae D.zaS=true:=ke
theorem zsE:D.zae D.zd8=true:=ke
theorem zom:D.zah D.zaS=2097151:=by decide +kernel
theorem zsl:D.zah D.zd8=8796093022207:=by decide +kernel
theorem zp6:D.zam D.zaS=2097151:=by decide +kernel
theorem zu7:D.zam D.zd8=18446744073707454464:=by decide +kernel
theorem shr0 (w:Int):shrI .u64 w 0=w:=by
 show w.fdiv (2 ^ (min 0 64))=w
 simp
theorem zsV {w:Int} (_:0≤w):shrI .u64 w 21=w / 2097152:=by
 show w.fdiv 2097152=_
 exact Int.fdiv_eq_ediv_of_nonneg _ kw
theorem zl8 {w:Int} (h0:0≤w) (h1:w<18446744073709551616):D.zad D.zaS w=w % 2097152:=by
 unfold D.zad;rw [zoa,zom];show zbb .u64 (shrI .u64 w 0) 2097151=_
 rw [shr0,and_eq h0 h1 kw kw]
 have:w.toNat &&& 2097151=w.toNat % 2097152:=Nat.and_two_pow_sub_one_eq_mod w.toNat 21;rw [show (2097151:Int).toNat=2097151 from rfl,this]
 omega
theorem zoA {w:Int} (h0:0≤w) (h1:w<18446744073709551616):D.zad D.zd8 w=w / 2097152:=by
 unfold D.zad;rw [zsE,zsl];show zbb .u64 (shrI .u64 w 21) 8796093022207=_
 rw [zsV h0,and_eq kw kw kw kw]
 have:(w / 2097152).toNat &&& 8796093022207=(w / 2097152).toNat % 8796093022208:=Nat.and_two_pow_sub_one_eq_mod _ 43;rw [show (8796093022207:Int).toNat=8796093022207 from rfl,this]
 omega
theorem znP {n:Int} (h0:0≤n) (h1:n<18446744073709551616):D.zaA D.zaS 0 n=n % 2097152:=by
 unfold D.zaA;rw [zoa,zom,zp6];show zdf .u64 (zaP .u64 0 2097151) (shlI .u64 (zbb .u64 n 2097151) 0)=_
 have e:n.toNat &&& 2097151=n.toNat % 2097152:=Nat.and_two_pow_sub_one_eq_mod n.toNat 21;rw [zfB kw kw kw kw,and_eq h0 h1 kw kw,show (2097151:Int).toNat=2097151 from rfl,e]
 have h2:shlI .u64 ((n.toNat % 2097152:Nat):Int) 0=((n.toNat % 2097152:Nat):Int):=by
  show IntKind.u64.wrap (((n.toNat % 2097152:Nat):Int) * 2 ^ (min 0 64))=_
  rw [show ((n.toNat % 2097152:Nat):Int) * 2 ^ (min 0 64)=((n.toNat % 2097152:Nat):Int) from by simp]
  exact zbk kw kw
 rw [h2,or_eq yat yat kw kw]
 simp
 omega
theorem zow {u t:Int} (h0:0≤u) (h1:u<2097152) (h2:0≤t) (h3:t<18446744073709551616):D.zaA D.zd8 u t=(t % 8796093022208) * 2097152+u:=by
 unfold D.zaA;rw [zsE,zsl,zu7];show zdf .u64 (zaP .u64 u 18446744073707454464) (shlI .u64 (zbb .u64 t 8796093022207) 21)=_
 have e:t.toNat &&& 8796093022207=t.toNat % 8796093022208:=Nat.and_two_pow_sub_one_eq_mod t.toNat 43;have e2:u.toNat &&& 2097151=u.toNat % 2097152:=Nat.and_two_pow_sub_one_eq_mod u.toNat 21;rw [zfB h0 kw kw kw,and_eq h2 h3 kw kw,show (8796093022207:Int).toNat=8796093022207 from rfl,e,
  show 18446744073709551615 - (18446744073707454464:Int).toNat=2097151 from rfl,e2]
 have h4:shlI .u64 ((t.toNat % 8796093022208:Nat):Int) 21=((t.toNat % 8796093022208 * 2097152:Nat):Int):=by
  show IntKind.u64.wrap (((t.toNat % 8796093022208:Nat):Int) * 2 ^ (min 21 64))=_
  rw [show ((t.toNat % 8796093022208:Nat):Int) * 2 ^ (min 21 64)=((t.toNat % 8796093022208 * 2097152:Nat):Int) from by simp]
  exact zbk kw kw
 rw [h4,or_eq kw kw kw kw]
 have h5:u.toNat % 2097152 ||| t.toNat % 8796093022208 * 2097152=2097152 * (t.toNat % 8796093022208)+u.toNat % 2097152:=by
  rw [Nat.or_comm,Nat.mul_comm]
  exact (Nat.two_pow_add_eq_or_of_lt (i:=21) (Nat.mod_lt _ kw) _).symm
 rw [show ((u.toNat % 2097152:Nat):Int).toNat=u.toNat % 2097152 from rfl,show ((t.toNat % 8796093022208 * 2097152:Nat):Int).toNat=t.toNat % 8796093022208 * 2097152 from rfl,h5]
 omega
theorem zlC {g n m:Int} (hg:0≤g) (hg1:g<1000000) (hn:0≤n) (hn1:n<2097152) (hm:0≤m) (hm1:m<2097152):D.zcs (g * 2097152+n) m=(g+1) * 2097152+m:=by
 unfold D.zcs;rw [zoA kw kw,znP hm kw,zbk (x:=(g * 2097152+n) / 2097152+1) kw kw,zow kw kw kw kw];omega
theorem zoC {n:Int} (h0:0≤n) (h1:n≤1000000):D.zbE n=n+1:=by
 unfold D.zbE;rw [zaN (x:=n+1) kw kw,zbk kw kw]
/-! ### The list -/
def nx (p:Plan) (n:Int):Int:=D.za2 p+n * 5+1
def first:List Int→Int
 | []=>0
 | n::_=>n+1
def Linked (p:Plan) (ws:List Int):List Int→Prop
 | []=>True
 | n::l=>rd ws (nx p n)=first l∧Linked p ws l
structure FreeAt (p:Plan) (ws:List Int) (l:List Int) (g:Int):Prop where
 len:(ws.length:Int)=D.zab p
 head:rd ws 0=g * 2097152+first l
 g0:0≤g
 range:∀ n,n∈l→0≤n∧n<p.nodes
 nodup:l.Nodup
 linked:Linked p ws l
theorem Linked.keep {p:Plan} {ws ws':List Int}:∀ {l:List Int},Linked p ws l→(∀ n,n∈l→rd ws' (nx p n)=rd ws (nx p n))→Linked p ws' l
 | [],_,_=>trivial
 | n::_,h,hk=>⟨(hk n (List.mem_cons_self ..)).trans h.1,Linked.keep h.2 fun m hm=>hk m (List.mem_cons_of_mem _ hm)⟩
theorem zqN {p:Plan} (hp:PF p) {n:Int} (h0:0≤n) (h1:n<p.nodes):0<nx p n∧nx p n<D.zab p∧D.zaZ p n=nx p n:=by
 have hN:=zbp hp;have hS:=zdx hp;unfold nx;exact ⟨kw,kw,by rw [znC hp,if_pos ⟨h0,h1⟩]⟩
theorem zuv {p:Plan} {n m:Int} (h:n≠m):nx p n≠nx p m:=by unfold nx; omega
theorem zmi {l:List Int} {k:Int} (h:∀ n,n∈l→0≤n∧n<k) (hk:0≤k):0≤first l∧first l≤k:=by
 cases l with
 | nil=>exact ⟨Int.le_refl _,hk⟩
 | cons n l=>have:=h n (List.mem_cons_self ..); simp only [first]; omega
theorem zma {p:Plan} (hp:PF p) {ws:List Int} {g:Int} (h:FreeAt p ws [] g) (hg:g<1000000) (k:Nat):Runs (D.zbP (k+1) p) ws 1 (-1) ws:=by
 have hs:=h.len;have hN:=zbp hp;have hS:=zdx hp;have hn1:=hp.n1;have hh:=h.head;have g0:=h.g0;simp only [first] at hh
 have hb:D.zbP (k+1) p=.act 0 0 0 0 (fun x=>D.zdG (D.zbP k) p x):=by
  show D.zdc (D.zbP k) p=_
  unfold D.zdc;rw [zit hp]; rfl
 rw [hb]
 refine .load kw kw ?_;unfold D.zdG;rw [hh,zl8 kw kw,show (g * 2097152+0) % 2097152=0 from by omega]
 exact .done _ _
theorem zo4 {p:Plan} (hp:PF p) {ws:List Int} {n:Int} {l:List Int} {g:Int} (h:FreeAt p ws (n::l) g) (hnn:p.nodes≤1000000) (hg:g<1000000) (k:Nat) :
  Runs (D.zbP (k+1) p) ws 3 n (ws.set (0:Int).toNat ((g+1) * 2097152+first l))∧FreeAt p (ws.set (0:Int).toNat ((g+1) * 2097152+first l)) l (g+1):=by
 have hs:=h.len;have hN:=zbp hp;have hS:=zdx hp;have hn1:=hp.n1;have hh:=h.head;have g0:=h.g0;have hr:=h.range n (List.mem_cons_self ..);have hrl:∀ m,m∈l→0≤m∧m<p.nodes:=fun m hm=>h.range m (List.mem_cons_of_mem _ hm)
 obtain ⟨q1,q2,q3⟩:=zqN hp hr.1 hr.2;obtain ⟨f1,f2⟩:=zmi hrl kw;simp only [first] at hh
 refine ⟨?_,?_⟩
 ·have hb:D.zbP (k+1) p=.act 0 0 0 0 (fun x=>D.zdG (D.zbP k) p x):=by
   show D.zdc (D.zbP k) p=_
   unfold D.zdc;rw [zit hp]; rfl
  rw [hb]
  refine .load kw kw ?_;unfold D.zdG;rw [hh,zl8 kw kw,show (g * 2097152+(n+1)) % 2097152=n+1 from kw,zaN (x:=n+1) kw kw,show n+1 - 1=n from kw,zaN (x:=n) kw kw,
   show decide (n<0)=false from by simp; omega,q3]
  refine Runs.load (k:=fun x=>D.zet (D.zbP k) p (g * 2097152+(n+1)) n x) yaz yaz ?_
  unfold D.zet;rw [h.linked.1,zit hp,zlC g0 hg kw kw f1 kw];refine Runs.act (k:=fun x=>D.zcj (fun x=>D.zcC (D.zbP k) p n x) (g * 2097152+(n+1)) x) yaz (ziM (ws:=ws) yaz yaz) ?_
  rw [hh]
  have ha:acted 2 0 (g * 2097152+(n+1)) ((g+1) * 2097152+first l) (g * 2097152+(n+1)) ws=ws.set (0:Int).toNat ((g+1) * 2097152+first l):=by simp [acted]
  rw [ha]
  unfold D.zcj D.zcC;rw [show (g * 2097152+(n+1)==g * 2097152+(n+1))=true from by simp]
  exact .done _ _
 ·refine ⟨by simpa using hs,?_,kw,hrl,(List.nodup_cons.1 h.nodup).2,h.linked.2.keep fun m hm=>?_⟩
  ·rw [zbC kw kw kw,if_pos rfl]
  ·obtain ⟨p1,_,_⟩:=zqN hp (hrl m hm).1 (hrl m hm).2
   rw [zbC kw kw kw,if_neg kw]
theorem zn1 {p:Plan} (hp:PF p) {ws:List Int} {n:Int} {l:List Int} {g:Int} (h:FreeAt p ws l g) (hnn:p.nodes≤1000000) (hg:g<1000000) (hr:0≤n∧n<p.nodes) (hno:n ∉ l) (k:Nat) :
  ∃ ws',Runs (D.zcX (k+1) p n) ws 3 n ws'∧FreeAt p ws' (n::l) (g+1)∧∀ j,0<j→j≠nx p n→rd ws' j=rd ws j:=by
 have hs:=h.len;have hN:=zbp hp;have hS:=zdx hp;have hn1:=hp.n1;have hh:=h.head;have g0:=h.g0;obtain ⟨q1,q2,q3⟩:=zqN hp hr.1 hr.2;obtain ⟨f1,f2⟩:=zmi h.range kw
 obtain ⟨w1,hw1⟩:∃ w1,w1=ws.set (nx p n).toNat (first l):=⟨_,rfl⟩;have hl1:(w1.length:Int)=D.zab p:=by rw [hw1]; simpa using hs
 have hr1:∀ j,0≤j→rd w1 j=if j=nx p n then first l else rd ws j:=fun j hj=>by rw [hw1]; exact zbC kw kw hj
 refine ⟨w1.set (0:Int).toNat ((g+1) * 2097152+(n+1)),?_,⟨by simpa using hl1,?_,kw,?_,List.nodup_cons.2 ⟨hno,h.nodup⟩,?_,?_⟩,fun j h0 h1=>?_⟩
 ·have hb:D.zcX (k+1) p n=.act 0 0 0 0 (fun x=>D.zeT (D.zcX k) p n x):=by
   show D.zcz (D.zcX k) p n=_
   unfold D.zcz;rw [q3,show (nx p n==-1)=false from by simp; omega,zit hp]; rfl
  rw [hb]
  refine .load kw kw ?_;unfold D.zeT;rw [hh,zl8 kw kw,show (g * 2097152+first l) % 2097152=first l from kw,q3]
  refine Runs.store (k:=fun x=>D.zdr (fun _=>D.zeS (D.zcX k) p (g * 2097152+first l) n) x) yaz yaz ?_
  unfold D.zdr D.zeS;rw [zoC hr.1 kw,zit hp,zlC g0 hg f1 kw kw kw,←hw1];have hx:rd w1 0=g * 2097152+first l:=by rw [hr1 0 kw,if_neg kw,hh]
  refine Runs.act (k:=fun x=>D.zcj (fun x=>D.zco (D.zcX k) p n x) (g * 2097152+first l) x) yaz (ziM (ws:=w1) yaz yaz) ?_
  rw [hx]
  have ha:acted 2 0 (g * 2097152+first l) ((g+1) * 2097152+(n+1)) (g * 2097152+first l) w1=w1.set (0:Int).toNat ((g+1) * 2097152+(n+1)):=by simp [acted]
  rw [ha]
  unfold D.zcj D.zco;rw [show (g * 2097152+first l==g * 2097152+first l)=true from by simp]
  exact .done _ _
 ·rw [zbC kw kw kw,if_pos rfl]; rfl
 ·intro m hm
  rcases List.mem_cons.1 hm with rfl | hm
  ·exact hr
  ·exact h.range m hm
 ·rw [zbC kw kw kw,if_neg kw,hr1 _ kw,if_pos rfl]
 ·refine h.linked.keep fun m hm=>?_
  have hmr:=h.range m hm;obtain ⟨p1,_,_⟩:=zqN hp hmr.1 hmr.2;have hne:m≠n:=fun e=>hno (e ▸ hm)
  rw [zbC kw kw kw,if_neg kw,hr1 _ kw,if_neg (zuv hne)]
 ·rw [zbC kw kw kw,if_neg kw,hr1 _ kw,if_neg h1]
theorem ziW {p:Plan} {ws:List Int} (hn:∀ m,0≤m→m<p.nodes→rd ws (D.za2 p+m * 5+1)=if m+1=p.nodes then 0 else m+2):∀ (d:Nat) (i:Nat),(i:Int)+d=p.nodes→Linked p ws ((List.range' i d).map fun (q:Nat)=>(q:Int))
 | 0,_,_=>trivial
 | d+1,i,h=>by
  rw [List.range'_succ,List.map_cons]
  refine ⟨?_,ziW hn d (i+1) kw⟩;unfold nx;rw [hn i kw kw];cases d with
  | zero=>rw [if_pos kw]; rfl
  | succ d=>rw [if_neg kw,List.range'_succ,List.map_cons]; simp only [first]; omega
def allN (p:Plan):List Int:=(List.range' 0 p.nodes.toNat).map fun (q:Nat)=>(q:Int)
theorem zmW {p:Plan} (hp:PF p) {ws:List Int} (h:LaidAt p ws):FreeAt p ws (allN p) 0:=by
 have hn1:=hp.n1;refine ⟨h.len,?_,Int.le_refl _,fun n hn=>?_,?_,ziW h.next p.nodes.toNat 0 kw⟩
 ·rw [h.head]
  unfold allN;obtain ⟨d,hd⟩:∃ d,p.nodes.toNat=d+1:=⟨p.nodes.toNat - 1,kw⟩
  rw [hd,List.range'_succ,List.map_cons]
  simp [first]
 ·obtain ⟨q,hq,rfl⟩:=List.mem_map.1 hn
  have:=(List.mem_range'_1.1 hq).2;omega
 ·unfold allN
  exact List.Pairwise.map _ (fun a b h=>kw) (List.nodup_range' (s:=0) (n:=p.nodes.toNat))
structure SF (s:State):Prop where
 g0:0≤s.gen
 g1:s.gen≤1073741823
 m0:0≤s.mode
 m1:s.mode≤3
 k0:0≤s.kind
 k1:s.kind≤2
theorem zj3 {s:State}:D.zaw s=true↔SF s:=by
 unfold D.zaw
 constructor
 ·intro h
  cases h1:decide (s.gen≥0) <;> rw [h1] at h
  ·cases h
  cases h2:decide (s.gen≤1073741823) <;> rw [h2] at h
  ·cases h
  cases h3:decide (s.mode≥0) <;> rw [h3] at h
  ·cases h
  cases h4:decide (s.mode≤3) <;> rw [h4] at h
  ·cases h
  cases h5:decide (s.kind≥0) <;> rw [h5] at h
  ·cases h
  simp only [decide_eq_true_eq] at h1 h2 h3 h4 h5
  have h6:s.kind≤2:=by simpa using h
  exact ⟨h1,h2,h3,h4,h5,h6⟩
 ·rintro ⟨h1,h2,h3,h4,h5,h6⟩
  simp only [ge_iff_le,h1,h2,h3,h4,h5,h6,decide_true,cond_true]
def swd (s:State):Int:=s.gen+s.mode * 1073741824+s.kind * 4294967296
theorem zrT:D.zae fGen=true:=ke
theorem zoo:D.zae fMode=true:=ke
theorem zol:D.zae fKind=true:=ke
theorem zrt:D.zah fGen=1073741823:=by decide +kernel
theorem znm:D.zah fMode=3:=by decide +kernel
theorem zni:D.zah fKind=3:=by decide +kernel
theorem zrQ:D.zam fGen=1073741823:=by decide +kernel
theorem zoe:D.zam fMode=3221225472:=by decide +kernel
theorem zon:D.zam fKind=12884901888:=by decide +kernel
theorem shrN {w:Int} (k:Nat) (hk:k≤64):shrI .u64 w k=w / 2 ^ k:=by
 unfold shrI;rw [Int.toNat_natCast,show min k IntKind.u64.bits=k from Nat.min_eq_left hk]
 exact Int.fdiv_eq_ediv_of_nonneg _ (Int.le_of_lt (Int.pow_pos kw))
theorem zl3 {x:Int} (h0:0≤x) (h1:x<18446744073709551616) (k:Nat) (hk:k<64):zbb .u64 x ((2 ^ k - 1:Nat):Int)=x % ((2 ^ k:Nat):Int):=by
 have hp:(2:Nat) ^ k<2 ^ 64:=Nat.pow_lt_pow_right kw hk
 have hp1:0<(2:Nat) ^ k:=Nat.pow_pos kw
 rw [and_eq h0 h1 kw kw,Int.toNat_natCast,Nat.and_two_pow_sub_one_eq_mod]
 obtain ⟨y,rfl⟩:∃ y:Nat,x=(y:Int):=⟨x.toNat,kw⟩
 rw [Int.toNat_natCast]
 exact Int.natCast_emod _ _
theorem znp {u v:Int} (a b:Nat) (hu0:0≤u) (hu:u<((2 ^ a:Nat):Int)) (hv0:0≤v) (hv:v<((2 ^ b:Nat):Int)) (hab:a+b<64) (hF:D.zae ⟨a,b⟩=true) (hM:D.zah ⟨a,b⟩=((2 ^ b - 1:Nat):Int)) (hK:D.zam ⟨a,b⟩=(((2 ^ b - 1) * 2 ^ a:Nat):Int)) :
  D.zaA ⟨a,b⟩ u v=v * ((2 ^ a:Nat):Int)+u:=by
 have pa:0<(2:Nat) ^ a:=Nat.pow_pos kw
 have pb:0<(2:Nat) ^ b:=Nat.pow_pos kw
 have hpab:(2:Nat) ^ a * 2 ^ b=2 ^ (a+b):=(Nat.pow_add 2 a b).symm;have hlt:(2:Nat) ^ (a+b)<2 ^ 64:=Nat.pow_lt_pow_right kw hab
 have hlt2:(2:Nat) ^ b≤2 ^ (a+b):=Nat.pow_le_pow_right kw kw
 have hlt3:(2:Nat) ^ a≤2 ^ (a+b):=Nat.pow_le_pow_right kw kw
 unfold D.zaA;rw [hF,hM,hK];show zdf .u64 (zaP .u64 u _) (shlI .u64 (zbb .u64 v _) (a:Int))=_
 have hmk:(2 ^ b - 1) * 2 ^ a≤2 ^ (a+b):=by
  rw [←hpab,Nat.mul_comm]
  exact Nat.mul_le_mul_left _ kw
 rw [zl3 hv0 kw b kw,Int.emod_eq_of_lt hv0 hv,zfB hu0 kw kw kw]
 obtain ⟨x,rfl⟩:∃ x:Nat,u=(x:Int):=⟨u.toNat,kw⟩
 obtain ⟨y,rfl⟩:∃ y:Nat,v=(y:Int):=⟨v.toNat,kw⟩
 have hx:x<2 ^ a:=kw
 have hy:y<2 ^ b:=kw
 have hyx:y * 2 ^ a+x<2 ^ (a+b):=by
  rw [←hpab]
  have:=Nat.mul_le_mul_left (2 ^ a) (show y+1≤2 ^ b from hy)
  rw [Nat.mul_add,Nat.mul_comm] at this
  omega
 have h1:x &&& (18446744073709551615 - (2 ^ b - 1) * 2 ^ a)=x:=by
  apply Nat.eq_of_testBit_eq
  intro i;rw [Nat.testBit_and]
  by_cases hi:i<a
  ·have:(18446744073709551615 - (2 ^ b - 1) * 2 ^ a).testBit i=true:=by
    rw [show (18446744073709551615:Nat) - (2 ^ b - 1) * 2 ^ a=2 ^ 64 - ((2 ^ b - 1) * 2 ^ a+1) from kw,Nat.testBit_two_pow_sub_succ kw]
    rw [Nat.testBit_mul_two_pow]
    simp [show i<64 from kw,show ¬ a≤i from by omega]
   rw [this,Bool.and_true]
  ·rw [Nat.testBit_lt_two_pow (ai hx (Nat.pow_le_pow_right kw kw)),Bool.false_and]
 have h2:shlI .u64 (y:Int) (a:Int)=((y * 2 ^ a:Nat):Int):=by
  unfold shlI;rw [Int.toNat_natCast,show min a IntKind.u64.bits=a from Nat.min_eq_left (show a≤64 by omega)]
  rw [show (y:Int) * 2 ^ a=((y * 2 ^ a:Nat):Int) from by push_cast; rfl]
  exact zbk kw kw
 rw [Int.toNat_natCast,Int.toNat_natCast,h1,h2,or_eq kw kw kw kw,Int.toNat_natCast,Int.toNat_natCast]
 have h5:x ||| y * 2 ^ a=2 ^ a * y+x:=by
  rw [Nat.or_comm,Nat.mul_comm]
  exact (Nat.two_pow_add_eq_or_of_lt hx _).symm
 rw [h5,Nat.mul_comm]
 push_cast
 rfl
theorem zmo {s:State} (h:SF s):D.zak s=swd s:=by
 obtain ⟨g0,g1,m0,m1,k0,k1⟩:=h;have hw:St.D.zak 10 s=some (swd s):=by
  unfold St.D.zak;rw [zj3.2 ⟨g0,g1,m0,m1,k0,k1⟩];show (((St.D.zed 10 [fGen,fMode,fKind] [IntKind.u64.wrap s.gen,IntKind.u64.wrap s.mode,IntKind.u64.wrap s.kind]).bind (fun (x17:Int × Int)=>(some x17.1))))=_
  rw [zmh,zbk g0 kw,zbk m0 kw,zbk k0 kw,zrt,znm,zni,show decide (s.gen > 1073741823)=false from by simp; omega,show decide (s.mode > 3)=false from by simp; omega,show decide (s.kind > 3)=false from by simp; omega]
  simp only [cond_false,Option.bind_some]
  rw [show D.zaA fGen 0 s.gen=s.gen * ((2 ^ 0:Nat):Int)+0 from znp 0 30 kw ke g0 kw kw zrT zrt zrQ]
  rw [show D.zaA fMode (s.gen * ((2 ^ 0:Nat):Int)+0) s.mode=s.mode * ((2 ^ 30:Nat):Int)+(s.gen * ((2 ^ 0:Nat):Int)+0) from znp 30 2 kw kw m0 kw kw zoo znm zoe]
  rw [show D.zaA fKind (s.mode * ((2 ^ 30:Nat):Int)+(s.gen * ((2 ^ 0:Nat):Int)+0)) s.kind=s.kind * ((2 ^ 32:Nat):Int)+(s.mode * ((2 ^ 30:Nat):Int)+(s.gen * ((2 ^ 0:Nat):Int)+0)) from znp 32 2 kw kw k0 kw kw zol zni zon]
  congr 1
  unfold swd;omega
 unfold D.zak;rw [hw]; rfl
theorem zmZ {w:Int} (h0:0≤w) (h1:w<17179869184):zaP .u64 (zaP .u64 (zaP .u64 w (D.zam fGen)) (D.zam fMode)) (D.zam fKind)=0:=by
 rw [zrQ,zoe,zon]
 have l1:w.toNat &&& (18446744073709551615 - (1073741823:Int).toNat)≤w.toNat:=Nat.and_le_left;have l2:(w.toNat &&& (18446744073709551615 - (1073741823:Int).toNat)) &&& (18446744073709551615 - (3221225472:Int).toNat)≤w.toNat &&& (18446744073709551615 - (1073741823:Int).toNat):=Nat.and_le_left;have e1:zaP .u64 w 1073741823=_:=zfB h0 kw kw kw
 have e2:=zfB (x:=((w.toNat &&& (18446744073709551615 - (1073741823:Int).toNat):Nat):Int)) (y:=3221225472) kw kw kw kw
 rw [Int.toNat_natCast] at e2
 rw [e1,e2,zfB kw kw kw kw,Int.toNat_natCast]
 rw [Nat.and_assoc,Nat.and_assoc]
 have hK:(18446744073709551615 - (1073741823:Int).toNat) &&& ((18446744073709551615 - (3221225472:Int).toNat) &&& (18446744073709551615 - (12884901888:Int).toNat))=1073741823 * 2 ^ 34:=by decide +kernel
 rw [hK]
 have:w.toNat &&& 1073741823 * 2 ^ 34=0:=by
  apply Nat.eq_of_testBit_eq
  intro i;rw [Nat.testBit_and,Nat.zero_testBit]
  by_cases hi:i<34
  ·rw [Nat.testBit_mul_two_pow]
   simp [show ¬ 34≤i from by omega]
  ·rw [Nat.testBit_lt_two_pow (ai (show w.toNat<2 ^ 34 by omega) (Nat.pow_le_pow_right kw kw)),Bool.false_and]
 rw [this]; rfl
theorem zou {s:State} (h:SF s):D.zan (D.zak s)=(s,true):=by
 rw [zmo h]
 have hs:=h;obtain ⟨g0,g1,m0,m1,k0,k1⟩:=h;have w0:0≤swd s:=by unfold swd; omega
 have w1:swd s<17179869184:=by unfold swd; omega
 have e1:D.zad fGen (swd s)=s.gen:=by
  unfold D.zad;rw [zrT,zrt,show fGen.at_=((0:Nat):Int) from rfl,show (1073741823:Int)=((2 ^ 30 - 1:Nat):Int) from by decide]
  simp only [Bool.not_true,cond_false]
  rw [shrN 0 kw,zl3 kw kw 30 kw]
  unfold swd;omega
 have e2:D.zad fMode (swd s)=s.mode:=by
  unfold D.zad;rw [zoo,znm,show fMode.at_=((30:Nat):Int) from rfl,show (3:Int)=((2 ^ 2 - 1:Nat):Int) from by decide]
  simp only [Bool.not_true,cond_false]
  rw [shrN 30 kw,zl3 kw kw 2 kw]
  unfold swd;omega
 have e3:D.zad fKind (swd s)=s.kind:=by
  unfold D.zad;rw [zol,zni,show fKind.at_=((32:Nat):Int) from rfl,show (3:Int)=((2 ^ 2 - 1:Nat):Int) from by decide]
  simp only [Bool.not_true,cond_false]
  rw [shrN 32 kw,zl3 kw kw 2 kw]
  unfold swd;omega
 have hw:St.D.zan 10 (swd s)=some (s,true):=by
  unfold St.D.zan;show (St.D.zdz 10 [fGen,fMode,fKind] (swd s)).bind _=_
  rw [zlB,zmZ w0 w1,e1,e2,e3]
  show (bif (!(D.zaw (⟨(IntKind.i64.wrap s.gen),(IntKind.i64.wrap s.mode),(IntKind.i64.wrap s.kind)⟩:State))) then _ else _)=_
  rw [zaN (x:=s.gen) kw kw,zaN (x:=s.mode) kw kw,zaN (x:=s.kind) kw kw,zj3.2 hs]
  rfl
 unfold D.zan;rw [hw]; rfl
theorem zfK {at_:Int} {f:Int→T Int} {ws ws':List Int} {n:Nat} {r:Int} (h0:0≤at_) (h1:at_<ws.length) (h:Runs (f (rd ws at_)) ws n r ws'):Runs (D.zb2 at_ f) ws (n+1) r ws':=Runs.load h0 h1 h
theorem zdN {at_ w:Int} {f:Unit→T Int} {ws ws':List Int} {n:Nat} {r:Int} (h0:0≤at_) (h1:at_<ws.length) (h:Runs (f ()) (ws.set at_.toNat w) n r ws'):Runs (D.zb5 at_ w f) ws (n+1) r ws':=Runs.store h0 h1 h
section
variable {p : Plan} (hp : PF p) {n : Int} (hn : 0 ≤ n ∧ n < p.nodes)
include hp hn
theorem zrD:D.zaJ p n=D.za2 p+n * 5:=by rw [znZ hp,if_pos hn]
theorem zr4 {f:Int} (hf:0≤f∧f<3):D.za8 p n f=D.za2 p+n * 5+2+f:=by rw [zmp hp,if_pos ⟨hn,hf⟩]
end
def zpD (p:Plan) (n j:Int):Prop:=D.za2 p+n * 5≤j∧j<D.za2 p+n * 5+5
theorem znz {p:Plan} (hp:PF p) {ws ws':List Int} {n:Int} (hn:0≤n∧n<p.nodes) (hl:(ws.length:Int)=D.zab p) {next:Unit→T Int} {m:Nat} {r:Int} (k:Nat)
  (h:Runs (next ()) (((ws.set (D.za2 p+n * 5+2+0).toNat 0).set (D.za2 p+n * 5+2+1).toNat 0).set (D.za2 p+n * 5+2+2).toNat 0) m r ws') :
  Runs (D.zbQ (k+4) p n 0 next) ws (m+3) r ws':=by
 have hS:=zdx hp;have hN:=zbp hp;have w1:IntKind.i64.wrap ((0:Int)+1)=1:=rfl;have w2:IntKind.i64.wrap ((1:Int)+1)=2:=rfl;have w3:IntKind.i64.wrap ((2:Int)+1)=3:=rfl;show Runs (D.zbh (D.zbQ (k+3)) p n 0 next) _ _ _ _
 unfold D.zbh;rw [zr4 hp hn (f:=0) kw];refine zdN kw kw ?_;show Runs (D.zbQ (k+3) p n (IntKind.i64.wrap (0+1)) next) _ _ _ _
 rw [w1]
 show Runs (D.zbh (D.zbQ (k+2)) p n 1 next) _ _ _ _
 unfold D.zbh;rw [zr4 hp hn (f:=1) kw];refine zdN kw yaE ?_;show Runs (D.zbQ (k+2) p n (IntKind.i64.wrap (1+1)) next) _ _ _ _
 rw [w2]
 show Runs (D.zbh (D.zbQ (k+1)) p n 2 next) _ _ _ _
 unfold D.zbh;rw [zr4 hp hn (f:=2) kw];refine zdN kw (by rw [List.length_set,List.length_set]; omega) ?_;show Runs (D.zbQ (k+1) p n (IntKind.i64.wrap (2+1)) next) _ _ _ _
 rw [w3]
 exact h
theorem FreeAt.keep {p:Plan} {ws ws':List Int} {l:List Int} {g:Int} (h:FreeAt p ws l g) (hl:ws'.length=ws.length) (h0:rd ws' 0=rd ws 0) (hk:∀ n,n∈l→rd ws' (nx p n)=rd ws (nx p n)):FreeAt p ws' l g:=
 ⟨by rw [hl]; exact h.len,h0.trans h.head,h.g0,h.range,h.nodup,h.linked.keep hk⟩
structure Reclaimed (p:Plan) (n:Int) (t:State) (ws ws':List Int) (l:List Int) (g:Int):Prop where
 len:ws'.length=ws.length
 state:rd ws' (D.za2 p+n * 5)=D.zak t
 fields:∀ f,0≤f→f<3→rd ws' (D.za2 p+n * 5+2+f)=0
 gone:t.mode=3→FreeAt p ws' l g
 free:t.mode≠3→FreeAt p ws' (n::l) (g+1)
 others:∀ j,0<j→¬ zpD p n j→rd ws' j=rd ws j
theorem ziS {p:Plan} (hp:PF p) {ws:List Int} {n:Int} {l:List Int} {g:Int} (hn:0≤n∧n<p.nodes) (hnn:p.nodes≤1000000) (hg:g<1000000) (h:FreeAt p ws l g) (hno:n ∉ l) {t:State}
  (ht:t=D.zag (D.zan (rd ws (D.za2 p+n * 5))).1 p.gen) (k:Nat) :
  ∃ ws',Runs (D.zcy (k+4) p n) ws (if t.mode=3 then 5 else 8) (if t.mode=3 then -1 else n) ws'∧Reclaimed p n t ws ws' l g:=by
 have hs:=h.len;have hS:=zdx hp;have hN:=zbp hp;obtain ⟨v,hv⟩:∃ v,v=((ws.set (D.za2 p+n * 5+2+0).toNat 0).set (D.za2 p+n * 5+2+1).toNat 0).set (D.za2 p+n * 5+2+2).toNat 0:=⟨_,rfl⟩;have hvl:v.length=ws.length:=by rw [hv]; simp
 have hvr:∀ j,0≤j→rd v j=if j=D.za2 p+n * 5+2+2∨j=D.za2 p+n * 5+2+1∨j=D.za2 p+n * 5+2+0 then 0 else rd ws j:=by
  intro j hj;rw [hv,zbC kw yaD hj]
  split
  ·rw [if_pos (.inl ‹_›)]
  rw [zbC kw yaD hj]
  split
  ·rw [if_pos (.inr (.inl ‹_›))]
  rw [zbC kw kw hj]
  split
  ·rw [if_pos (.inr (.inr ‹_›))]
  rw [if_neg kw]
 obtain ⟨u,hu⟩:∃ u,u=v.set (D.za2 p+n * 5).toNat (D.zak t):=⟨_,rfl⟩;have hul:u.length=ws.length:=by rw [hu,List.length_set,hvl]
 have hur:∀ j,0≤j→rd u j=if j=D.za2 p+n * 5 then D.zak t else rd v j:=fun j hj=>by rw [hu]; exact zbC kw kw hj
 have huo:∀ j,0≤j→(¬ zpD p n j∨j=nx p n)→rd u j=rd ws j:=by
  intro j hj hno;unfold zpD nx at hno
  rw [hur j hj,if_neg kw,hvr j hj,if_neg kw]
 have hF:FreeAt p u l g:=h.keep hul (huo 0 kw yaF) fun m hm=>by
  have hmr:=h.range m hm;have hne:m≠n:=fun e=>hno (e ▸ hm)
  exact huo _ yaC (.inl (by unfold zpD nx; omega))
 have hfl:∀ f,0≤f→f<3→rd u (D.za2 p+n * 5+2+f)=0:=by
  intro f h0 h1;rw [hur _ kw,if_neg kw,hvr _ kw,if_pos kw]
 have hst:rd u (D.za2 p+n * 5)=D.zak t:=by rw [hur _ kw,if_pos rfl]
 have main:∀ {m:Nat} {r:Int} {ws'':List Int},Runs (D.zb8 (k+4) t p n) u m r ws''→Runs (D.zcy (k+4) p n) ws (m+5) r ws'':=by
  intro m r ws'' hr;show Runs (D.zbQ (k+4) p n 0 (fun _=>D.zeA (k+4) p n)) ws (m+2+3) r ws''
  refine znz hp hn hs k ?_;rw [←hv];show Runs (D.zb2 (D.zaJ p n) (fun x=>D.ze9 (k+4) p n x)) v (m+1+1) r ws''
  rw [zrD hp hn]
  refine zfK kw kw ?_;show Runs (D.zb5 (D.zaJ p n) (D.zak (D.zag (D.zan (rd v (D.za2 p+n * 5))).1 p.gen)) (fun _=>D.zb8 (k+4) (D.zag (D.zan (rd v (D.za2 p+n * 5))).1 p.gen) p n)) v (m+1) r ws''
  rw [zrD hp hn,hvr _ kw,if_neg kw,←ht]
  refine zdN kw kw ?_;rw [←hu];exact hr
 by_cases hm:t.mode=3
 ·refine ⟨u,?_,⟨hul,hst,hfl,fun _=>hF,fun h=>absurd hm h,fun j hj hno=>huo j kw (.inl hno)⟩⟩
  rw [if_pos hm,if_pos hm]
  refine main (m:=0) ?_;unfold D.zb8;rw [hm];exact .done _ _
 ·obtain ⟨ws',h1,h2,h3⟩:=zn1 hp hF hnn hg hn hno (k+3)
  have hl':ws'.length=ws.length:=by have:=h2.len; omega
  refine ⟨ws',?_,⟨hl',?_,fun f h0 h1=>?_,fun h=>absurd h hm,fun _=>h2,fun j hj hno=>?_⟩⟩
  ·rw [if_neg hm,if_neg hm]
   refine main (m:=3) ?_;unfold D.zb8;rw [show (t.mode==3)=false from by simpa using hm]
   exact h1
  ·rw [h3 _ kw yaC,hst]
  ·rw [h3 _ kw yaC,hfl f h0 h1]
  ·rw [h3 j hj (by intro e; apply hno; unfold zpD; unfold nx at e; omega),huo j kw (.inl hno)]
theorem zkB {n:Int} (h0:-1≤n) (h1:n≤1000000000000000000):D.zdv n=n+1:=by
 unfold D.zdv;have h2:IntKind.i64.wrap (n+1)=n+1:=zaN kw kw;rw [h2];exact zbk kw kw
theorem zpZ {p:Plan} (hp:PF p):1≤D.za1 p∧D.za1 p+p.threads * 3≤D.zas p∧D.zas p<D.za2 p∧D.za2 p+p.nodes * 5=D.zab p:=by
 have h1:=zfN hp;have h2:=zgR hp;have h3:=zji hp;have h4:=zdx hp;have h5:=zqg hp;have h6:=zrh hp;have h7:=hp.t1;have h8:=hp.r1;have h9:1 * (1+p.retire)≤p.threads * (1+p.retire):=Int.mul_le_mul_of_nonneg_right h7 kw
 exact ⟨kw,kw,kw,kw⟩
abbrev Len (p:Plan) (ws:List Int):Prop:=(ws.length:Int)=D.zab p
theorem zk2 {p:Plan} (hp:PF p) {ws:List Int} (hl:Len p ws) {t s n:Int} (ht:0≤t∧t<p.threads) (hs:0≤s∧s<3) (hn:-1≤n∧n≤1000000000000000000) :
  Runs (D.zcx p t s n) ws 1 () (ws.set (D.za1 p+t * 3+s).toNat (n+1)):=by
 obtain ⟨h1,h2,h3,h4⟩:=zpZ hp;have hn1:=hp.n1;unfold D.zcx;rw [zkB hn.1 hn.2,zlt hp,if_pos ⟨ht,hs⟩];unfold Len at hl
 exact zmm kw kw
theorem zso {i:Int} (h:0≤i):i.tdiv 3=i / 3∧i.tmod 3=i % 3:=⟨Int.tdiv_eq_ediv_of_nonneg h,Int.tmod_eq_emod_of_nonneg h⟩
theorem zsB {p:Plan} (hp:PF p) {i:Int} (h0:0≤i) (h1:i<p.threads * 3):D.zbr p (IntKind.i64.wrap (i.tdiv 3)) (i.tmod 3)=D.za1 p+i:=by
 have ht2:=hp.t2;rw [(zso h0).1,(zso h0).2,zaQ kw kw,zlt hp,if_pos kw]
 omega
theorem znM {p:Plan} (hp:PF p) {ws:List Int} (hl:Len p ws) {n:Int} (hn:-1≤n∧n≤1000000000000000000):∀ (d:Nat) (i:Int) (k:Nat),i+d=p.threads * 3→0≤i→d<k→
  (∃ j,i≤j∧j<p.threads * 3∧rd ws (D.za1 p+j)=n+1)→∃ m:Nat,m≤d∧Runs (D.zbF k p n i) ws m true ws:=by
 obtain ⟨g1,g2,g3,g4⟩:=zpZ hp;have hn1:=hp.n1;have ht2:=hp.t2;intro d
 induction d with
 | zero=>
  rintro i k hi _ _ ⟨j,h1,h2,_⟩;omega
 | succ d ih=>
  rintro i k hi h0 hk ⟨j,h1,h2,h3⟩;obtain ⟨k,rfl⟩:∃ q,k=q+1:=⟨k - 1,kw⟩
  have hb:D.zbF (k+1) p n i=.act 0 (D.za1 p+i) 0 0 (fun x=>D.zbJ (D.zbF k) n p i x):=by
   show D.zbi (D.zbF k) p n i=_
   unfold D.zbi;rw [zaQ (show -1000000≤p.threads * 3 by omega) kw,show (i==p.threads * 3)=false from by simp; omega,zsB hp h0 kw]
   rfl
  unfold Len at hl
  by_cases e:rd ws (D.za1 p+i)=n+1
  ·refine ⟨1,kw,?_⟩
   rw [hb]
   refine .load kw kw ?_;unfold D.zbJ;rw [zkB hn.1 hn.2,e,show (n+1==n+1)=true from by simp]
   exact .done _ _
  ·have hne:j≠i:=fun h=>e (h ▸ h3)
   obtain ⟨m,hm,hr⟩:=ih (i+1) k kw kw kw ⟨j,kw,h2,h3⟩
   refine ⟨m+1,kw,?_⟩
   rw [hb]
   refine .load kw kw ?_;unfold D.zbJ;rw [zkB hn.1 hn.2,show (rd ws (D.za1 p+i)==n+1)=false from by simpa using e,zaQ kw kw]
   exact hr
theorem zop {p:Plan} (hp:PF p) {ws:List Int} (hl:Len p ws) {n:Int} (hn:-1≤n∧n≤1000000000000000000):∀ (d:Nat) (i:Int) (k:Nat),i+d=p.threads * 3→0≤i→d<k→
  (∀ j,i≤j→j<p.threads * 3→rd ws (D.za1 p+j)≠n+1)→Runs (D.zbF k p n i) ws d false ws:=by
 obtain ⟨g1,g2,g3,g4⟩:=zpZ hp;have hn1:=hp.n1;have ht2:=hp.t2;intro d
 induction d with
 | zero=>
  intro i k hi _ hk _;obtain ⟨k,rfl⟩:∃ q,k=q+1:=⟨k - 1,kw⟩
  show Runs (D.zbi (D.zbF k) p n i) _ _ _ _
  unfold D.zbi;rw [zaQ (show -1000000≤p.threads * 3 by omega) kw,show (i==p.threads * 3)=true from by simp; omega]
  exact .done _ _
 | succ d ih=>
  intro i k hi h0 hk hno;obtain ⟨k,rfl⟩:∃ q,k=q+1:=⟨k - 1,kw⟩
  have hb:D.zbF (k+1) p n i=.act 0 (D.za1 p+i) 0 0 (fun x=>D.zbJ (D.zbF k) n p i x):=by
   show D.zbi (D.zbF k) p n i=_
   unfold D.zbi;rw [zaQ (show -1000000≤p.threads * 3 by omega) kw,show (i==p.threads * 3)=false from by simp; omega,zsB hp h0 kw]
   rfl
  unfold Len at hl
  rw [hb]
  refine .load kw kw ?_;unfold D.zbJ;rw [zkB hn.1 hn.2,show (rd ws (D.za1 p+i)==n+1)=false from by simpa using hno i kw kw,zaQ kw kw]
  exact ih (i+1) k kw kw kw fun j h1 h2=>hno j kw h2
theorem zki {p:Plan} (hp:PF p) {t:Int} (ht:0≤t∧t<p.threads):∀ (d:Nat) (s:Int) (k:Nat) (ws:List Int),s+d=3→0≤s→d<k→Len p ws→
  ∃ ws',Runs (D.zcq k p t s) ws d () ws'∧Len p ws'∧∀ j,0≤j→rd ws' j=if D.za1 p+t * 3+s≤j∧j<D.za1 p+t * 3+3 then 0 else rd ws j:=by
 obtain ⟨g1,g2,g3,g4⟩:=zpZ hp;have hn1:=hp.n1;intro d
 induction d with
 | zero=>
  intro s k ws hs h0 hk hl;obtain ⟨k,rfl⟩:∃ q,k=q+1:=⟨k - 1,kw⟩
  refine ⟨ws,?_,hl,fun j hj=>by rw [if_neg kw]⟩
  show Runs (D.zbx (D.zcq k) p t s) _ _ _ _
  unfold D.zbx;rw [show (s==3)=true from by simp; omega]
  exact .done _ _
 | succ d ih=>
  intro s k ws hs h0 hk hl;obtain ⟨k,rfl⟩:∃ q,k=q+1:=⟨k - 1,kw⟩
  have h1:=zk2 hp hl ht (s:=s) (n:=-1) ⟨h0,kw⟩ kw
  have hl':Len p (ws.set (D.za1 p+t * 3+s).toNat (-1+1)):=by unfold Len at hl ⊢; simpa using hl
  obtain ⟨ws',h2,h3,h4⟩:=ih (s+1) k _ kw kw kw hl';refine ⟨ws',?_,h3,fun j hj=>?_⟩
  ·show Runs (D.zbx (D.zcq k) p t s) _ _ _ _
   unfold D.zbx;rw [show (s==3)=false from by simp; omega]
   refine (Runs.bind h1 (g:=fun _=>D.zdh (D.zcq k) p t s) ?_).cast (show 1+d=d+1 by omega)
   unfold D.zdh;rw [zaQ kw kw];exact h2
  ·unfold Len at hl
   rw [h4 j hj,zbC kw kw hj]
   by_cases e:j=D.za1 p+t * 3+s
   ·rw [if_pos e]
    by_cases e2:D.za1 p+t * 3+(s+1)≤j∧j<D.za1 p+t * 3+3
    ·rw [if_pos e2,if_pos kw]
    ·rw [if_neg e2,if_pos kw]; rfl
   ·rw [if_neg e]
    by_cases e2:D.za1 p+t * 3+(s+1)≤j∧j<D.za1 p+t * 3+3
    ·rw [if_pos e2,if_pos kw]
    ·rw [if_neg e2,if_neg kw]
theorem zl5 {fu:Nat} {M:Mem} {i:Int} (h0:0≤i) (h1:i<M.ws.length):D.zbL fu M 0 i=some (rd M.ws i):=by
 unfold D.zbL;have hS:D.zci fu M 0=some (M.ws.length:Int):=rfl;rw [show decide (i<0)=false from by simp; omega]
 simp only [cond_false,hS,Option.bind_some]
 rw [show decide (i≥(M.ws.length:Int))=false from by simp; omega,show zeroI 0=some () from rfl,ziM h0 h1]
 rfl
theorem zot {p:Plan} (hp:PF p) {ws:List Int} (h:LaidAt p ws) {j:Int} (h0:0≤j) (h1:j<p.threads * 3):rd ws (D.za1 p+j)=0:=by
 obtain ⟨g1,g2,g3,g4⟩:=zpZ hp;exact h.zero _ kw fun m _ _=>kw
theorem zod {w sh:Int} (h0:0≤w) (h:0≤sh∧sh<3):shrI .u64 w sh=w / 2 ^ sh.toNat∧0≤w / 2 ^ sh.toNat∧w / 2 ^ sh.toNat≤w:=by
 have hp:(0:Int)<2 ^ sh.toNat:=Int.pow_pos kw
 refine ⟨?_,Int.ediv_nonneg h0 kw,Int.ediv_le_self _ h0⟩;unfold shrI;rw [show min sh.toNat IntKind.u64.bits=sh.toNat from by simp [IntKind.bits]; omega]
 exact Int.fdiv_eq_ediv_of_nonneg _ kw
end Go.Proofs.YtbbipmelhmgmfaaGreat

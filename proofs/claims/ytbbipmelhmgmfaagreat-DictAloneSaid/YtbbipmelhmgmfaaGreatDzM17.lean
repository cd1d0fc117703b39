/- Some of our texts, one behind the other. -/
import Derived.Test.YtbbipmelhmgmfaaGreatDzM16
import Derived.Test.YtbbipmelhmgmfaaGreatDzOps
import Derived.Test.YtbbipmelhmgmfaaGreatDzM8
import Derived.Test.YtbbipmelhmgmfaaGreatDzM6
import Derived.Test.YtbbipmelhmgmfaaGreatDzM7
import Derived.Test.YtbbipmelhmgmfaaGreatDzBase
import Derived.Test.YtbbipmelhmgmfaaGreatDzMem
import Derived.Test.YtbbipmelhmgmfaaGreatDzM15
set_option linter.all false
set_option maxRecDepth 100000
set_option maxHeartbeats 20000000
/- Ours. -/
namespace Go.Proofs.YtbbipmelhmgmfaaGreat
open Go.RowKit
theorem CD {at_:Int} {f:Int->T IY} {ws I7:List Int} {n:Nat} {r:IY} (h0:0<=at_) (h1:at_<ws.length) (h:I6 (f (rd ws at_)) ws n r I7):I6 (D.qh at_ f) ws (n+1) r I7:=I6.load h0 h1 h
theorem Cu {at_ w:Int} {f:Unit->T IY} {ws I7:List Int} {n:Nat} {r:IY} (h0:0<=at_) (h1:at_<ws.length) (h:I6 (f ()) (ws.set at_.toNat w) n r I7):I6 (D.qg at_ w f) ws (n+1) r I7:=I6.store h0 h1 h
def sp (p:Plan) (n:Int):Int:=D.aO p+n * 5
section
variable {p : Plan} (hp : PF p) {n : Int} (hn : 0 <= n /\ n < p.nodes)
include hp hn
theorem kr:0<sp p n/\sp p n+5<=D.bF p/\D.dc p n=sp p n:=by
 have hN:=cQ hp;have hS:=dW hp;refine ⟨by unfold sp; omega,by unfold sp; omega,by rw [sK hp hn]; rfl⟩
end
theorem SF.live {s:State} (h:SF s) {k:Int} (hk:0<=k/\k<=2):SF (D.dJ s k):=⟨h.g0,h.g1,by show (0:Int)<=1; omega,by show (1:Int)<=3; omega,hk.1,hk.2⟩
theorem SF.freed {s:State} (h:SF s) {m:Int} (hm:m<=1073741823):SF (D.bR s m):=by
 unfold D.bR;have:=h.g0;have:=h.g1
 by_cases e:s.IP>=m
 ·rw [show decide (s.IP>=m)=true from by simpa using e]
  exact ⟨h.g0,h.g1,by show (0:Int)<=3; omega,by show (3:Int)<=3; omega,by show (0:Int)<=0; omega,by show (0:Int)<=2; omega⟩
 ·rw [show decide (s.IP>=m)=false from by simpa using e]
  simp only [cond_false]
  rw [bq (x:=s.IP+1) O O]
  exact ⟨by show 0<=s.IP+1; omega,by show s.IP+1<=_; omega,by show (0:Int)<=0; omega,by show (0:Int)<=3; omega,by show (0:Int)<=0; omega,by show (0:Int)<=2; omega⟩
def KV (p:Plan) (ws:List Int) (n:Int) (s:State):Prop:=rd ws (sp p n)=D.cq s/\SF s
theorem KV.of {p:Plan} {ws:List Int} {n:Int} {s:State} (h:KV p ws n s):D.aV (rd ws (sp p n))=(s,true):=by rw [h.1]; exact DT h.2
theorem CR {p:Plan} (hp:PF p) {ws:List Int} {n k:Int} {s:State} (hn:0<=n/\n<p.nodes) (hl:Len p ws) (hs:KV p ws n s) :
  I6 (D.gQ p n k) ws 2 ⟨n,s.IP,0⟩ (ws.set (sp p n).toNat (D.cq (D.dJ s k))):=by
 obtain ⟨q1,q2,q3⟩:=kr hp hn;unfold Len at hl
 unfold D.gQ;rw [q3];refine CD O O ?_;unfold D.qy;rw [hs.of,q3];exact Cu O O (.done _ _)
theorem vz {p:Plan} (hp:PF p) {ws:List Int} {n k:Int} {l:List Int} {g:Int} {s:State} (hF:FreeAt p ws (n::l) g) (hnn:p.nodes<=1000000) (hg:g<1000000) (hs:KV p ws n s) (hk:0<=k/\k<=2) (J:Nat) {G:Int->T IY} (hG:G n=D.gQ p n k) :
  ∃ I7,I6 (T.bind (D.di (J+1) p) G) ws 5 ⟨n,s.IP,0⟩ I7/\I7.length=ws.length/\FreeAt p I7 l (g+1)/\KV p I7 n (D.dJ s k)/\∀ j,0<j->j≠sp p n->rd I7 j=rd ws j:=by
 have hn:=hF.range n (List.mem_cons_self ..);obtain ⟨q1,q2,q3⟩:=kr hp hn;obtain ⟨hr,JZ⟩:=Dz hp hF hnn hg J;have hN:=cQ hp;have hl:=hF.len;have hl2:=JZ.len;have hs0:=hs.1
 generalize hu:ws.set (0:Int).toNat ((g+1) * 2097152+first l)=u at hr JZ hl2
 have hul:u.length=ws.length:=by rw [<-hu,List.length_set]
 have hur:∀ j,0<j->rd u j=rd ws j:=fun j hj=>by rw [<-hu,bX O O O,if_neg O]
 have hsu:KV p u n s:=⟨by rw [hur _ q1]; exact hs0,hs.2⟩
 have hg2:=CR hp (k:=k) hn hl2 hsu;refine ⟨u.set (sp p n).toNat (D.cq (D.dJ s k)),?_,by rw [List.length_set,hul],?_,⟨?_,hs.2.live hk⟩,fun j hj hne=>?_⟩
 ·exact (I6.bind (g:=G) hr (by rw [hG]; exact hg2)).cast (show 3+2=5 from rfl)
 ·refine JZ.keep (by rw [List.length_set]) ?_ fun m hm=>?_
  ·rw [bX O O O,if_neg O]
  ·have hmr:=JZ.range m hm
   have:nx p m≠sp p n:=by unfold nx sp; omega
   rw [bX O O yaF,if_neg this]
 ·rw [bX O O O,if_pos rfl]
 ·rw [bX O O O,if_neg hne,hur j hj]
theorem DM {p:Plan} (hp:PF p) {ws:List Int} {n k t:Int} {l:List Int} {g:Int} {s:State} (hF:FreeAt p ws (n::l) g) (hnn:p.nodes<=1000000) (hg:g<1000000) (hs:KV p ws n s) (hk:0<=k/\k<=2) (J:Nat) :
  ∃ I7,I6 (D.jM (J+1) p t k) ws 5 ⟨n,s.IP,0⟩ I7/\I7.length=ws.length/\FreeAt p I7 l (g+1)/\KV p I7 n (D.dJ s k)/\∀ j,0<j->j≠sp p n->rd I7 j=rd ws j:=by
 have hn:=hF.range n (List.mem_cons_self ..);refine vz hp hF hnn hg hs hk J (G:=fun x=>D.gR (J+1) p k t (fun x=>D.ep p k x) x) ?_
 unfold D.gR;rw [show (n !=-1)=true from by simp; omega]
 rfl
theorem CV {p:Plan} (hp:PF p) {ws:List Int} {k g:Int} (hF:FreeAt p ws [] g) (hg:g<1000000) (J:Nat):I6 (T.bind (D.di (J+1) p) (fun x=>D.ep p k x)) ws 1 ⟨-1,0,4⟩ ws:=
 (I6.bind (g:=fun x=>D.ep p k x) (vI hp hF hg J) (.done _ _)).cast (show 1+0=1 from rfl)
theorem CJ {p:Plan} (hp:PF p) {ws:List Int} {n k:Int} {l:List Int} {g:Int} {s:State} (hF:FreeAt p ws (n::l) g) (hnn:p.nodes<=1000000) (hg:g<1000000) (hs:KV p ws n s) (hk:0<=k/\k<=2) (J:Nat) :
  ∃ I7,I6 (T.bind (D.di (J+1) p) (fun x=>D.ep p k x)) ws 5 ⟨n,s.IP,0⟩ I7/\I7.length=ws.length/\FreeAt p I7 l (g+1)/\KV p I7 n (D.dJ s k)/\∀ j,0<j->j≠sp p n->rd I7 j=rd ws j:=by
 have hn:=hF.range n (List.mem_cons_self ..);refine vz hp hF hnn hg hs hk J (G:=fun x=>D.ep p k x) ?_
 unfold D.ep;rw [show (n==-1)=false from by simp; omega]
 rfl
theorem CG {p:Plan} (hp:PF p) {ws:List Int} {t n:Int} {r:List Int} (ht:0<=t/\t<p.threads) (hn:0<=n/\n<p.nodes) (hnn:p.nodes<=1000000) (hl:Len p ws) (h:RetAt p ws t r) (hf:(r.length:Int)<p.retire) (J:Nat) :
  ∃ I7,I6 (D.nR J p t n) ws 3 n I7/\I7.length=ws.length/\RetAt p I7 t (r++[n])/\∀ j,0<=j->j≠rb p t->j≠rb p t+1+r.length->rd I7 j=rd ws j:=by
 obtain ⟨I7,hr,hl',hR,ho⟩:=vP hp ht hn hnn hl h hf;refine ⟨I7,?_,hl',hR,ho⟩;refine (I6.bind (g:=fun x=>D.gN J n p t (fun x=>D.fA n x) x) hr ?_).cast (show 3+0=3 from rfl)
 unfold D.gN;rw [show ((r.length:Int)+1 !=-1)=true from by simp; omega]
 exact .done _ _
theorem EC:D.cq ⟨0,0,0⟩=0:=by rw [vU ⟨ke,ke,ke,ke,ke,ke⟩]; rfl
theorem CQ {p:Plan} (hp:PF p) {ws:List Int} (h:LaidAt p ws) {n:Int} (hn:0<=n/\n<p.nodes):KV p ws n ⟨0,0,0⟩:=by
 obtain ⟨q1,q2,q3⟩:=kr hp hn;refine ⟨?_,ke,ke,ke,ke,ke,ke⟩
 rw [EC]
 exact h.zero _ q1 fun m _ _=>by unfold sp; omega
theorem DK {p:Plan} (hp:PF p) {ws:List Int} (h:LaidAt p ws) {t:Int} (ht:0<=t/\t<p.threads):RetAt p ws t []:=by
 obtain ⟨q1,q2,q3⟩:=dq hp ht;have hr1:=hp.r1;have ht1:=hp.t1;exact ⟨h.zero _ q3 fun m _ _=>O,by simp; omega,fun i hi=>(by cases hi),fun _ h=>(by cases h)⟩
theorem o7:∀ (k:Nat) (r:List Int),k=r.length->co (fun _=>false) k r=([],r.reverse)
 | 0,r,h=>by rw [List.length_eq_zero_iff.1 h.symm]; rfl
 | k+1,r,h=>by
  rcases List.eq_nil_or_concat r with rfl | ⟨s,z,rfl⟩
  ·cases h
  rw [List.concat_eq_append] at *
  have hk:k=s.length:=by simpa using h
  have e1:(s++[z])[k]?=some z:=by rw [hk]; simp
  have e2:((s++[z]).set k (((s++[z]).getLast?).getD 0)).dropLast=s:=by
   rw [hk]; simp
  simp only [co,e1,Bool.false_eq_true,if_false,e2,o7 k s hk]
  simp
structure Pool where
 fr:List Int
 rt:List Int
 st:Int->State
def Pool.back (m:Int) (P:Pool) (n:Int):Pool:=
 ⟨if (D.bR (P.st n) m).mode=3 then P.fr else n::P.fr,P.rt,fun q=>if q=n then D.bR (P.st n) m else P.st q⟩
def Pool.scan (P:Pool) (m:Int):Pool:=P.rt.reverse.foldl (Pool.back m) ⟨P.fr,[],P.st⟩
theorem fG (m:Int):∀ (l:List Int) (P:Pool),(l.foldl (Pool.back m) P).rt=P.rt
 | [],_=>rfl
 | n::l,P=>by rw [List.foldl_cons,fG m l]; rfl
theorem rG (m:Int):∀ (l:List Int) (P:Pool),l.Nodup->∀ n,(l.foldl (Pool.back m) P).st n=if n∈l then D.bR (P.st n) m else P.st n
 | [],_,_,_=>rfl
 | a::l,P,hn,n=>by
  obtain ⟨h1,h2⟩:=List.nodup_cons.1 hn;rw [List.foldl_cons,rG m l _ h2]
  by_cases e:n=a
  ·subst e
   rw [if_neg h1,if_pos (List.mem_cons_self ..)]
   exact if_pos rfl
  ·have hs:(Pool.back m P a).st n=P.st n:=if_neg e
   rw [hs]
   by_cases h:n∈l
   ·rw [if_pos h,if_pos (List.mem_cons_of_mem _ h)]
   ·rw [if_neg h,if_neg (fun h'=>by rcases List.mem_cons.1 h' with h' | h'; exact e h'; exact h h')]
theorem oU (m:Int):∀ (l:List Int) (P:Pool),l.Nodup->(l.foldl (Pool.back m) P).fr=l.foldl (fun l n=>if (D.bR (P.st n) m).mode=3 then l else n::l) P.fr
 | [],_,_=>rfl
 | a::l,P,hn=>by
  obtain ⟨h1,h2⟩:=List.nodup_cons.1 hn;rw [List.foldl_cons,List.foldl_cons,oU m l _ h2];have:∀ (k:List Int) (L L':List Int),(∀ q,q∈k->q≠a)->L=L'->k.foldl (fun l n=>if (D.bR ((Pool.back m P a).st n) m).mode=3 then l else n::l) L=k.foldl (fun l n=>if (D.bR (P.st n) m).mode=3 then l else n::l) L':=by
   intro k
   induction k with
   | nil=>rintro L _ _ rfl; rfl
   | cons q k ih=>
    rintro L _ hq rfl;rw [List.foldl_cons,List.foldl_cons];have hs:(Pool.back m P a).st q=P.st q:=if_neg (hq q (List.mem_cons_self ..));exact ih _ _ (fun q' h=>hq q' (List.mem_cons_of_mem _ h)) (by rw [hs])
  exact this l _ _ (fun q hq e=>h1 (e ▸ hq)) rfl
structure PoolAt (p:Plan) (t:Int) (ws:List Int) (P:Pool) (g:Int):Prop where
 free:FreeAt p ws P.fr g
 ret:RetAt p ws t P.rt
 nod:P.rt.Nodup
 dis:∀ n,n∈P.rt->n ∉ P.fr
 st:∀ n,0<=n->n<p.nodes->KV p ws n (P.st n)
 hz:∀ j,0<=j->j<p.threads * 3->rd ws (D.aL p+j)=0
 zero:∀ n f,n∈P.fr->0<=f->f<3->rd ws (sp p n+2+f)=0
def KeptP (p:Plan) (t:Int) (P:Pool) (ws I7:List Int):Prop:=
 I7.length=ws.length/\∀ j,0<j->(∀ n,n∈P.fr\/n∈P.rt->¬ bL p n j)->¬ (rb p t<=j/\j<rb p t+1+p.retire)->rd I7 j=rd ws j
theorem PoolAt.scan {p:Plan} (hp:PF p) (hnn:p.nodes<=1000) {t:Int} (ht:0<=t/\t<p.threads) {ws:List Int} {P:Pool} {g:Int} (h:PoolAt p t ws P g) (hg:g<900000) (J:Nat) (hJ:1100<J) :
  ∃ (m:Nat) (I7:List Int) (g':Int),m<=70 * P.rt.length+1/\g'<=g+P.rt.length/\I6 (D.fW J p t) ws m (P.rt.length:Int) I7/\PoolAt p t I7 (P.scan p.IP) g'/\KeptP p t P ws I7:=by
 have hN:=cQ hp;have hz:=cE hp;obtain ⟨p1,p2,p3⟩:=dq hp ht;have hh:∀ n,n∈P.rt->((fun _=>false) n=true↔heldW p ws n):=by
  intro n hn;have:=(h.ret.range n hn).1
  constructor
  ·intro h; cases h
  ·rintro ⟨j,j0,j1,hj⟩
   rw [h.hz j j0 j1] at hj
   omega
 obtain ⟨m,I7,hm,hr,hs⟩:=vA hp hnn ht J hJ h.free.len h.ret h.free (fun n hn=>h.dis n hn) h.nod hh hg
 rw [o7 P.rt.length P.rt rfl] at hr hs
 simp only [List.length_reverse] at hr
 obtain ⟨g',hg',hF⟩:=hs.free;have hnr:P.rt.reverse.Nodup:=List.pairwise_reverse.2 (h.nod.imp fun h e=>h e.symm)
 have htof:∀ n,n∈P.rt->tof p ws n=D.bR (P.st n) p.IP:=fun n hn=>by
  have hn':=h.ret.range n hn;unfold tof;have:=(h.st n hn'.1 hn'.2).of;unfold sp at this
  rw [this]
 have Jb:pushAll p ws P.rt.reverse P.fr=(P.scan p.IP).fr:=by
  unfold Pool.scan;rw [oU _ _ _ hnr];unfold pushAll;have:∀ (k L:List Int),(∀ n,n∈k->n∈P.rt)->k.foldl (fun l n=>if (tof p ws n).mode=3 then l else n::l) L=k.foldl (fun l n=>if (D.bR (P.st n) p.IP).mode=3 then l else n::l) L:=by
   intro k
   induction k with
   | nil=>intro _ _; rfl
   | cons q k ih=>
    intro L hq;rw [List.foldl_cons,List.foldl_cons,htof q (hq q (List.mem_cons_self ..))];exact ih _ fun n hn=>hq n (List.mem_cons_of_mem _ hn)
  exact this _ _ fun n hn=>List.mem_reverse.1 hn
 have hsub:∀ n,n∈(P.scan p.IP).fr->n∈P.rt\/n∈P.fr:=fun n hn=>by
  rw [<-Jb] at hn
  rcases qI hn with h | h
  ·exact .inl (List.mem_reverse.1 h)
  ·exact .inr h
 have hrt:(P.scan p.IP).rt=[]:=fG _ _ _;rw [Jb] at hF
 have hst:∀ n,(P.scan p.IP).st n=if n∈P.rt then D.bR (P.st n) p.IP else P.st n:=fun n=>by
  unfold Pool.scan;rw [rG _ _ _ hnr];simp only [List.mem_reverse]
 have hrr:=h.ret.range;have hkeep:∀ j,0<j->(∀ n,n∈P.rt->¬ bL p n j)->¬ (rb p t<=j/\j<rb p t+1+p.retire)->rd I7 j=rd ws j:=fun j j0 h1 h2=>hs.others j j0 (fun n hn=>h1 n (List.mem_reverse.1 hn)) h2
 have hge:=hp.g2;refine ⟨m,I7,g',hm,by simpa using hg',hr,⟨hF,by rw [hrt]; exact hs.ret,by rw [hrt]; exact List.nodup_nil,fun n hn=>(by rw [hrt] at hn; cases hn),fun n n0 n1=>?_,fun j j0 j1=>?_,fun n f hn f0 f1=>?_⟩,hs.len,fun j j0 h1 h2=>hkeep j j0 (fun n hn=>h1 n (.inr hn)) h2⟩
 ·rw [hst]
  by_cases hn:n∈P.rt
  ·rw [if_pos hn]
   refine ⟨?_,(h.st n n0 n1).2.freed O⟩;have:=hs.states n (List.mem_reverse.2 hn);rw [htof n hn] at this
   exact this
  ·rw [if_neg hn]
   refine ⟨?_,(h.st n n0 n1).2⟩;rw [hkeep (sp p n) yaj (fun q hq hq'=>?_) yaj]
   ·exact (h.st n n0 n1).1
   ·unfold bL sp at hq'
    exact hn (by rw [show n=q by omega]; exact hq)
 ·rw [hkeep _ O (fun q hq=>by have:=(hrr q hq).1; unfold bL; omega) O]
  exact h.hz j j0 j1
 ·by_cases hq:n∈P.rt
  ·exact hs.fields n f (List.mem_reverse.2 hq) f0 f1
  ·have hnf:n∈P.fr:=(hsub n hn).resolve_left hq
   have:=h.free.range n hnf;rw [hkeep _ yaj (fun q hq' hq''=>?_) yaj]
   ·exact h.zero n f hnf f0 f1
   ·unfold bL sp at hq''
    exact hq (by rw [show n=q by omega]; exact hq')
def Pool.out (P:Pool) (k:Int):Pool × IY:=
 match P.fr with
 | []=>(P,⟨-1,0,4⟩)
 | n::l=>(⟨l,P.rt,fun q=>if q=n then D.dJ (P.st n) k else P.st q⟩,⟨n,(P.st n).IP,0⟩)
def Pool.grant (P:Pool) (m k:Int):Pool × IY:=match P.fr with
 | []=>(P.scan m).out k
 | _::_=>P.out k
theorem PoolAt.took {p:Plan} (hp:PF p) {t:Int} (ht:0<=t/\t<p.threads) {ws I7:List Int} {n k:Int} {l r:List Int} {st:Int->State} {g:Int} (h:PoolAt p t ws ⟨n::l,r,st⟩ g) (hk:0<=k/\k<=2)
  (hl:I7.length=ws.length) (hF:FreeAt p I7 l (g+1)) (hst:KV p I7 n (D.dJ (st n) k)) (ho:∀ j,0<j->j≠sp p n->rd I7 j=rd ws j) :
  PoolAt p t I7 ⟨l,r,fun q=>if q=n then D.dJ (st n) k else st q⟩ (g+1):=by
 have hN:=cQ hp;have hz:=cE hp;obtain ⟨p1,p2,p3⟩:=dq hp ht;have hn:=h.free.range n (List.mem_cons_self ..);refine ⟨hF,h.ret.keep fun j j0 j1=>ho j O yaj,h.nod,fun q hq hq'=>h.dis q hq (List.mem_cons_of_mem _ hq'),fun q q0 q1=>?_,fun j j0 j1=>?_,fun q f hq f0 f1=>?_⟩
 ·by_cases e:q=n
  ·subst e
   show KV p I7 q (if q=q then _ else _)
   rw [if_pos rfl]; exact hst
  ·show KV p I7 q (if q=n then _ else _)
   rw [if_neg e]
   have:=h.st q q0 q1;exact ⟨by rw [ho _ yaj yaj]; exact this.1,this.2⟩
 ·rw [ho _ O yaj]; exact h.hz j j0 j1
 ·have hqr:=h.free.range q (List.mem_cons_of_mem _ hq)
  rw [ho _ yaj yaj]
  exact h.zero q f (List.mem_cons_of_mem _ hq) f0 f1
theorem gk {P:Pool} {m n:Int} (hd:P.rt.Nodup) (h:n∈(P.scan m).fr):n∈P.rt\/n∈P.fr:=by
 unfold Pool.scan at h
 rw [oU m _ _ (List.pairwise_reverse.2 (hd.imp fun h e=>h e.symm))] at h
 have:∀ (k L:List Int),n∈k.foldl (fun l n=>if (D.bR (P.st n) m).mode=3 then l else n::l) L->n∈k\/n∈L:=by
  intro k
  induction k with
  | nil=>exact fun L h=>.inr h
  | cons a k ih=>
   intro L h
   rcases ih _ h with h | h
   ·exact .inl (List.mem_cons_of_mem _ h)
   ·replace h:n∈(if (D.bR (P.st a) m).mode=3 then L else a::L):=h
    split at h
    ·exact .inr h
    ·rcases List.mem_cons.1 h with rfl | h
     ·exact .inl (List.mem_cons_self ..)
     ·exact .inr h
 rcases this _ _ h with h | h
 ·exact .inl (List.mem_reverse.1 h)
 ·exact .inr h
def Pool.stash (P:Pool) (room m n:Int):Pool:=
 let Q:=if (P.rt.length:Int)<room then P else P.scan m
 ⟨Q.fr,Q.rt++[n],Q.st⟩
theorem bs4 {x1 y1 x2 y2 x3 y3 x4 y4:Nat × Value} {P:Program} {α:Type} {f:Array (Nat × Value)->Sem α} {w:World} {r:Result α} (h1:x1=y1) (h2:x2=y2) (h3:x3=y3) (h4:x4=y4) (h:(f [y1,y2,y3,y4].toArray).run P w=r):(f [x1,x2,x3,x4].toArray).run P w=r:=by rw [h1,h2,h3,h4]; exact h
theorem sF:af B0 118:=kz
theorem sG:af B0 124:=kz
theorem cl15:af B0 15:=kz
theorem cl99:af B0 99:=kz
theorem dm:ba B0 47 0 0:=kz
theorem j9:ba B0 47 2 7:=kz
theorem La:tyA B0 47 8:=kz
theorem cl29:af B0 29:=kz
theorem EO:ba B0 36 0 0:=kz
def hof (w:Int):Handle × Bool:=if w / 72057594037927936 % 4=0/\w / 288230376151711744=42 then (⟨w % 1048576,w / 1048576 % 1073741824,w / 1125899906842624 % 64⟩,true) else (⟨0,0,0⟩,false)
theorem runR {t:T IM} {M:Mem} {I7:List Int} {n:Nat} {most:Int} {r:IM} {fu:Nat} (h:I6 t M.ws n r I7) (hm:(n:Int)<=most) (hm2:most<=1000000) (hn:n<fu):∃ c,D.jz fu (fu,t) M cap0 most=some (r,(n:Int),true,⟨I7,c⟩):=by
 have h2:=wQ (z:=(⟨0,0⟩:IM)) (fu:=fu) (d:=fu) (most:=most) h hm hm2 (Nat.le_of_lt hn) hn;exact h2
theorem uP {at_:Int} {f:Int->T IM} {ws I7:List Int} {n:Nat} {r:IM} (h0:0<=at_) (h1:at_<ws.length) (h:I6 (f (rd ws at_)) ws n r I7):I6 (D.gK at_ f) ws (n+1) r I7:=I6.load h0 h1 h
theorem qN {at_ was w:Int} {f:Bool->T IM} {ws I7:List Int} {n:Nat} {r:IM} (h0:0<=at_) (h1:at_<ws.length) (h:I6 (f (rd ws at_==was)) (if rd ws at_=was then ws.set at_.toNat w else ws) n r I7):I6 (D.jx at_ was w f) ws (n+1) r I7:=by
 refine I6.act (op:=2) O (ia h0 h1) ?_;have:acted 2 at_ was w (rd ws at_) ws=(if rd ws at_=was then ws.set at_.toNat w else ws):=by simp [acted]
 rw [this]
 exact h
def fp (p:Plan) (n f:Int):Int:=sp p n+2+f
theorem PoolAt.start {p:Plan} (hp:PF p) {ws:List Int} (h:LaidAt p ws) {t:Int} (ht:0<=t/\t<p.threads):PoolAt p t ws ⟨allN p,[],fun _=>⟨0,0,0⟩⟩ 0:=by
 have hN:=cQ hp;have hF:=Di hp h;refine ⟨hF,DK hp h ht,List.nodup_nil,fun _ h=>(by cases h),fun n n0 n1=>CQ hp h ⟨n0,n1⟩,fun j j0 j1=>Ey hp h j0 j1,fun n f hn f0 f1=>?_⟩
 have hr:=hF.range n hn;exact h.zero _ yaj fun m _ _=>by unfold sp; omega
/-! ### Guards -/
theorem CF {p:Plan} (hp:PF p) {ws:List Int} (hl:Len p ws) {t s at_ sh w:Int} (ht:0<=t/\t<p.threads) (hs:0<=s/\s<3) (h0:0<=at_) (h1:at_<D.bF p) (hne:at_≠D.aL p+t * 3+s)
  (hw0:0<=w) (hw1:w<1099511627776) (hsh:0<=sh/\sh<3) (hw:rd ws at_=w) (k:Nat) :
  (w / 2 ^ sh.toNat - 1<0->I6 (D.fS (k+1) p t s at_ sh w) ws 0 w ws)/\
  (¬ w / 2 ^ sh.toNat - 1<0->I6 (D.fS (k+1) p t s at_ sh w) ws 2 w (ws.set (D.aL p+t * 3+s).toNat (w / 2 ^ sh.toNat))):=by
 obtain ⟨h2,h3,h4⟩:=xl hw0 hsh;obtain ⟨g1,g2,g3,g4⟩:=cE hp;have hn1:=hp.n1;have hb:D.fS (k+1) p t s at_ sh w=D.iE (D.fS k) p t s at_ sh w:=rfl;have hq:IntKind.i64.wrap (IntKind.i64.wrap (KK .u64 w sh) - 1)=w / 2 ^ sh.toNat - 1:=by
  rw [h2,bq (x:=w / 2 ^ sh.toNat) O O,bq O O]
 constructor
 ·intro hlt
  rw [hb]
  unfold D.iE;rw [hq,show decide (w / 2 ^ sh.toNat - 1<0)=true from by simpa using hlt]
  exact .done _ _
 ·intro hge
  rw [hb]
  unfold D.iE;rw [hq,show decide (w / 2 ^ sh.toNat - 1<0)=false from by simpa using hge]
  have hr:=qU hp hl ht hs (n:=w / 2 ^ sh.toNat - 1) O
  rw [show w / 2 ^ sh.toNat - 1+1=w / 2 ^ sh.toNat from by omega] at hr
  show I6 ((D.fC p t s (w / 2 ^ sh.toNat - 1)).bind fun _=>D.nD (D.fS k) at_ w p t s sh) ws (1+1) w _
  refine I6.bind hr ?_;unfold Len at hl
  show I6 (.act 0 at_ 0 0 _) _ 1 _ _
  refine .load h0 (by simpa [hl] using h1) ?_;have hx:rd (ws.set (D.aL p+t * 3+s).toNat (w / 2 ^ sh.toNat)) at_=w:=by
   rw [bX O O h0,if_neg hne,hw]
  rw [hx]
  unfold D.lg;rw [show (w==w)=true from by simp]
  exact .done _ _
theorem xy:af B0 104:=kz
theorem Fe:af B0 247:=kz
theorem cl36:af B0 36:=kz
theorem CU {at_:Int} {f:Int->T Int} {ws I7:List Int} {n:Nat} {r:Int} (h0:0<=at_) (h1:at_<ws.length) (h:I6 (f (rd ws at_)) ws n r I7):I6 (D.dL at_ f) ws (n+1) r I7:=I6.load h0 h1 h
theorem uR {at_:Int} {f:Int->T Int} {ws I7:List Int} {n:Nat} {r:Int} (h0:0<=at_) (h1:at_<ws.length) (h:I6 (f (rd ws at_)) ws n r I7):I6 (D.ny at_ f) ws (n+1) r I7:=I6.load h0 h1 h
theorem CB {at_ w:Int} {f:Unit->T Int} {ws I7:List Int} {n:Nat} {r:Int} (h0:0<=at_) (h1:at_<ws.length) (h:I6 (f ()) (ws.set at_.toNat w) n r I7):I6 (D.ee at_ w f) ws (n+1) r I7:=I6.store h0 h1 h
def IK {R:Type} (P:Program) (E:Enc R):Nat->T R->(Nat->Prop)->World->Value->Prop
 | _,.cut,_,_,_=>False
 | _,.done r,_,_,v=>v=.agg (aC true (E.cells r) 0 0 0 0 .nilFunc)
 | 0,.act op at_ a b _,_,_,v=>∃ (f:FuncId) (first cap:List Value),af P f=true/\v=.agg (aC false E.zero op at_ a b (.func (.func f) first.toArray cap.toArray))
 | m+1,.act op at_ a b k,F,w,v=>∃ (f:FuncId) (first cap:List Value),af P f=true/\v=.agg (aC false E.zero op at_ a b (.func (.func f) first.toArray cap.toArray))/\
   ∀ x w',I8 F w w'->w.heap.size<=w'.heap.size->
    Calls P f (first++[Value.int .u64 x]++cap).toArray w' fun e w''=>∃ v',e=.returned v'/\Jd F w' w''/\IK P E m (k x) (grow F w' w'') w'' v'
def av {R:Type} (P:Program) (E:Enc R) (n:Nat) (t:T R) (F:Nat->Prop) (w:World):Ending->World->Prop:=
 fun e w'=>∃ v,e=.returned v/\Jd F w w'/\IK P E n t (grow F w w') w' v
def FnLAt {R α:Type} (P:Program) (E:Enc R) (enc:α->List Value) (m:Nat) (F:Nat->Prop) (w:World) (f:FuncId) (first cap:List Value) (g:α->T R):Prop:=
 ∀ x w',I8 F w w'->w.heap.size<=w'.heap.size->Calls P f (first++enc x++cap).toArray w' (av P E m (g x) F w')
def K1 {R α:Type} (P:Program) (E:Enc R) (enc:α->List Value) (n:Nat) (F:Nat->Prop) (w:World) (fv:Value) (g:α->T R):Prop:=
 ∃ (f:FuncId) (first cap:List Value),af P f=true/\fv=.func (.func f) first.toArray cap.toArray/\∀ m,m<n->FnLAt P E enc m F w f first cap g
section
variable {R : Type} {P : Program} {E : Enc R}
theorem Jd.weakZ {Z Z':Nat->Prop} {w w':World} (h:Jd Z w w') (hz:∀ b,Z b->Z' b):Jd Z' w w':=⟨h.os,h.tape,h.output,h.size,fun b hb hn=>h.block b hb fun h=>hn (hz b h)⟩
theorem Jd.aS {Z:Nat->Prop} {w w':World} (h:Below w.heap.size w w'):Jd Z w w':=(Jd.of_below h).weakZ fun _ h=>h.elim
theorem cw {F:Nat->Prop} {w0 w:World} (hF:∀ b,F b->b<w0.heap.size) (hB:w0.heap.size<=w.heap.size) (r:Nat):∀ b,(fun b=>F b\/(w0.heap.size<=b/\b<w.heap.size/\b≠r)) b->b<w.heap.size:=by
 rintro b (h | h)
 ·exact q9 (hF b h) hB
 ·exact h.2.1
theorem Jd.thenB {Z:Nat->Prop} {w0 w w':World} (h:Jd Z w0 w) (h':Below w.heap.size w w'):Jd Z w0 w':=h.trans (Jd.of_below h') fun _ _ h=>h.elim
theorem Jd.bm {Z:Nat->Prop} {w0 w w':World} {b:Nat} {o:Obj} (h:Jd Z w0 w) (h':Upd w w' b o) (hb:w0.heap.size<=b\/Z b):Jd Z w0 w':=
 ⟨h'.os.trans h.os,h'.tape.trans h.tape,h'.output.trans h.output,by rw [h'.size]; exact h.size,fun k hk hn=>(h'.other k fun e=>by subst e; rcases hb with hb | hb; omega; exact hn hb).trans (h.block k hk hn)⟩
theorem Jd.bn {Z Z':Nat->Prop} {w0 w w':World} (h:Jd Z w0 w) (h':Jd Z' w w') (hz:∀ b,b<w0.heap.size->Z' b->Z b):Jd Z w0 w':=h.trans h' hz
theorem bc {Z:Nat->Prop} {w w':World} {b:Nat} {o:Obj} (h:Jd Z w w') (hb:w.heap[b]?=some o) (hn:¬ Z b):w'.heap[b]?=some o:=(h.block b (q8 hb) hn).trans hb
theorem j3 {w:World} {b b':Nat} {c c':Array Value} {T T':TypeId} {z z':Nat × Nat} (h:w.heap[b]?=some (.cells c T z)) (h':w.heap[b']?=some (.cells c' T' z')) (hT:(T==T')=false):b≠b':=by
 intro e;subst e;rw [h] at h'
 simp only [Option.some.injEq,Obj.cells.injEq] at h'
 rw [h'.2.1] at hT
 simp at hT
theorem vn {F F':Nat->Prop} {w w':World} (hs:∀ b,F b->F' b):∀ b,grow F w w' b->grow F' w w' b:=fun b hb=>hb.imp (hs b) id
theorem IK.mono {F F':Nat->Prop} {w w':World} (hs:∀ b,F b->F' b) (h1:I8 F w w') (h2:w.heap.size<=w'.heap.size) :
  ∀ (n:Nat) (t:T R) (v:Value),IK P E n t F w v->IK P E n t F' w' v
 | _,.cut,_,h=>by unfold IK at h; exact h.elim
 | _,.done _,_,h=>by unfold IK at h ⊢; exact h
 | 0,.act ..,_,h=>by unfold IK at h ⊢; exact h
 | m+1,.act op at_ a b k,v,h=>by
  unfold IK at h ⊢
  obtain ⟨f,first,cap,hc,hv,h⟩:=h;refine ⟨f,first,cap,hc,hv,fun x w'' hs' hz=>?_⟩
  refine (h x w'' (h1.trans (hs'.sub hs)) O).mono ?_;rintro e w3 ⟨v',he,hb,hr⟩;exact ⟨v',he,hb.weakZ hs,IK.mono (vn hs) (I8.refl _ _) (Nat.le_refl _) m _ _ hr⟩
theorem IK.down {F:Nat->Prop} {w:World}:∀ {n m:Nat} {t:T R} {v:Value},m<=n->IK P E n t F w v->IK P E m t F w v
 | _,_,.cut,_,_,h=>by unfold IK at h; exact h.elim
 | _,_,.done _,_,_,h=>by unfold IK at h ⊢; exact h
 | 0,m,.act ..,_,hm,h=>by
  obtain rfl:m=0:=O
  exact h
 | n+1,0,.act ..,_,_,h=>by
  unfold IK at h ⊢
  obtain ⟨f,first,cap,hc,hv,_⟩:=h;exact ⟨f,first,cap,hc,hv⟩
 | n+1,m+1,.act op at_ a b k,v,hm,h=>by
  unfold IK at h ⊢
  obtain ⟨f,first,cap,hc,hv,h⟩:=h;refine ⟨f,first,cap,hc,hv,fun x w'' hs' hz=>?_⟩
  refine (h x w'' hs' hz).mono ?_;rintro e w3 ⟨v',he,hb,hr⟩;exact ⟨v',he,hb,IK.down O hr⟩
theorem IK.shape {F:Nat->Prop} {w:World}:∀ {n:Nat} {t:T R} {v:Value},IK P E n t F w v->Shape E v
 | _,.cut,_,h=>by unfold IK at h; exact h.elim
 | _,.done r,_,h=>by
  unfold IK at h; subst h
  exact ⟨_,rfl,by simp [aC,E.len],by simp [aC,plainCell,E.plain r]⟩
 | 0,.act ..,_,h=>by
  unfold IK at h; obtain ⟨_,_,_,_,rfl⟩:=h
  exact ⟨_,rfl,by simp [aC,E.zlen],by simp [aC,plainCell,E.zplain]⟩
 | m+1,.act ..,_,h=>by
  unfold IK at h; obtain ⟨_,_,_,_,rfl,_⟩:=h
  exact ⟨_,rfl,by simp [aC,E.zlen],by simp [aC,plainCell,E.zplain]⟩
theorem Jm.loud:∀ {n:Nat} {t:T R} {F:Nat->Prop} {w:World} {v:Value},Jm P E n t F w v->IK P E n t F w v
 | _,.cut,_,_,_,h=>by unfold Jm at h; exact h.elim
 | _,.done _,_,_,_,h=>by unfold Jm at h; unfold IK; exact h
 | 0,.act ..,_,_,_,h=>by unfold Jm at h; unfold IK; exact h
 | m+1,.act op at_ a b k,F,w,v,h=>by
  unfold Jm at h; unfold IK
  obtain ⟨f,first,cap,hc,hv,h⟩:=h;refine ⟨f,first,cap,hc,hv,fun x w'' hs' hz=>?_⟩
  refine (h x w'' hs' hz).mono ?_;rintro e w3 ⟨v',he,hb,hr⟩;exact ⟨v',he,Jd.aS hb,hr.loud⟩
theorem IK.iq {n:Nat} {F:Nat->Prop} {w:World} {op at_ a b:Int} {k:Int->T R} {fv:Value} (h:K1 P E u64 n F w fv k) :
  IK P E n (.act op at_ a b k) F w (.agg (aC false E.zero op at_ a b fv)):=by
 obtain ⟨f,first,cap,hc,rfl,h⟩:=h;cases n with
 | zero=>unfold IK; exact ⟨f,first,cap,hc,rfl⟩
 | succ m=>unfold IK; exact ⟨f,first,cap,hc,rfl,fun x w' h1 h2=>h m (Nat.lt_succ_self _) x w' h1 h2⟩
theorem IK.ib {n:Nat} {F:Nat->Prop} {w:World} {r:R}:IK P E n (.done r) F w (.agg (aC true (E.cells r) 0 0 0 0 .nilFunc)):=by unfold IK; rfl
theorem FnLAt.mono {α:Type} {enc:α->List Value} {m:Nat} {F F':Nat->Prop} {w w':World} {f:FuncId} {first cap:List Value} {g:α->T R} (h:FnLAt P E enc m F w f first cap g)
  (hs:∀ b,F b->F' b) (h1:I8 F w w') (h2:w.heap.size<=w'.heap.size):FnLAt P E enc m F' w' f first cap g:=fun x w'' hs' hz=>by
 refine (h x w'' (h1.trans (hs'.sub hs)) O).mono ?_;rintro e w3 ⟨v',he,hb,hr⟩;exact ⟨v',he,hb.weakZ hs,IK.mono (vn hs) (I8.refl _ _) (Nat.le_refl _) m _ _ hr⟩
theorem K1.mono {α:Type} {enc:α->List Value} {n n':Nat} {F F':Nat->Prop} {w w':World} {fv:Value} {g:α->T R} (h:K1 P E enc n F w fv g) (hn:n'<=n)
  (hs:∀ b,F b->F' b) (h1:I8 F w w') (h2:w.heap.size<=w'.heap.size):K1 P E enc n' F' w' fv g:=by
 obtain ⟨f,first,cap,hc,hv,h⟩:=h;exact ⟨f,first,cap,hc,hv,fun m hm=>(h m O).mono hs h1 h2⟩
theorem IK.dD {n:Nat} {F:Nat->Prop} {w:World} {op at_ a b:Int} {k:Int->T R} {v:Value} (h:IK P E n (.act op at_ a b k) F w v) :
  ∃ (f:FuncId) (first cap:List Value),af P f=true/\v=.agg (aC false E.zero op at_ a b (.func (.func f) first.toArray cap.toArray))/\K1 P E u64 n F w (.func (.func f) first.toArray cap.toArray) k:=by
 cases n with
 | zero=>
  unfold IK at h
  obtain ⟨f,first,cap,hc,hv⟩:=h;exact ⟨f,first,cap,hc,hv,f,first,cap,hc,rfl,fun m hm=>absurd hm (Nat.not_lt_zero m)⟩
 | succ q=>
  unfold IK at h
  obtain ⟨f,first,cap,hc,hv,hk⟩:=h;refine ⟨f,first,cap,hc,hv,f,first,cap,hc,rfl,fun m hm x w' h1 h2=>?_⟩
  refine (hk x w' h1 h2).mono ?_;rintro e w'' ⟨v',he,hb,hr⟩;exact ⟨v',he,hb,IK.down O hr⟩
theorem K1.at_ {α:Type} {enc:α->List Value} {n:Nat} {F:Nat->Prop} {w:World} {f:FuncId} {first cap:List Value} {g:α->T R} (h:K1 P E enc n F w (.func (.func f) first.toArray cap.toArray) g) :
  af P f=true/\∀ m,m<n->FnLAt P E enc m F w f first cap g:=by
 obtain ⟨f',first',cap',hc,he,hf⟩:=h;simp only [Value.func.injEq,Fn.func.injEq] at he
 obtain ⟨e1,e2,e3⟩:=he;have e2':first=first':=by simpa using congrArg Array.toList e2
 have e3':cap=cap':=by simpa using congrArg Array.toList e3
 subst e1; subst e2'; subst e3';exact ⟨hc,hf⟩
theorem av.fin {n:Nat} {t:T R} {F F1:Nat->Prop} {w0 w1 w2 w3:World} {r:Nat} {o:Obj} {v:Value} (hB:Jd F w0 w3) (hr:IK P E n t (grow F1 w1 w2) w2 v)
  (hu:Upd w2 w3 r o) (hF:∀ b,F1 b->F b\/(w0.heap.size<=b/\b<w1.heap.size)) (hFr:¬ F1 r) (hr1:r<w1.heap.size) (h01:w0.heap.size<=w1.heap.size) (h12:w1.heap.size<=w2.heap.size) :
  av P E n t F w0 (.returned v) w3:=by
 refine ⟨v,rfl,hB,IK.mono ?_ ?_ (by rw [hu.size]; exact Nat.le_refl _) n t v hr⟩
 ·rintro b (hb | ⟨hb1,hb2⟩)
  ·rcases hF b hb with h | ⟨h1,h2⟩
   ·exact .inl h
   ·exact .inr ⟨h1,by rw [hu.size]; omega⟩
  ·exact .inr ⟨O,by rw [hu.size]; omega⟩
 ·rintro b (hb | ⟨hb1,hb2⟩)
  ·exact hu.other b (fun e=>hFr (e ▸ hb))
  ·exact hu.other b O
end
section
variable {P : Program} {Q : Exit -> Act -> World -> Prop} {L : List Oper} {a : Act} {w : World} {N : Nat} {s : SL} {S : Nat -> Prop}
theorem iL {fs:Nat->IX w.heap.size S} {o:Oper} {l:List Oper} {i:Nat} (r:Fr a N s) (hd:(o.guard.isNone&&dstsIn N L)=true) (he:early L (fun i=>(fs i).sh) i=true)
  (h:∀ a' g w',Below w.heap.size w w'->(∀ j,bQ o j=true->(fs j).ok g j w'/\w.heap.size<=(g j).lo/\(g j).hi<=w'.heap.size/\∀ q,bQ o q=true->q≠j->(g j).hi<=(g q).lo\/(g q).hi<=(g j).lo)->Fr a' N (Kt L (fun j=>(g j).v) 0 s)->
   Yields P o a' w' fun v w''=>(fs i).mk g v w' w'') (h2:cn P L fs a w l (i+1)):cn P L fs a w (o::l) i:=by
 simp only [Bool.and_eq_true] at hd
 exact ⟨fun g w' _ h1 h3 h4 h5 h6 h7=>.plain hd.1 (h _ g w' ⟨h1,h3,h4,h5,fun b hb=>h6 b hb (.inr he)⟩ h7 (r.JK L _ 0 hd.2)),h2⟩
theorem cK {fs:Nat->IX w.heap.size S} {o:Oper} {l:List Oper} {i:Nat} (r:Fr a N s) (hd:(o.guard.isNone&&dstsIn N L)=true)
  (h:∀ a' g w',Jd S w w'->(∀ j,bQ o j=true->(fs j).ok g j w'/\w.heap.size<=(g j).lo/\(g j).hi<=w'.heap.size/\∀ q,bQ o q=true->q≠j->(g j).hi<=(g q).lo\/(g q).hi<=(g j).lo)->Fr a' N (Kt L (fun j=>(g j).v) 0 s)->
   Yields P o a' w' fun v w''=>(fs i).mk g v w' w'') (h2:cn P L fs a w l (i+1)):cn P L fs a w (o::l) i:=by
 simp only [Bool.and_eq_true] at hd
 exact ⟨fun g w' _ h1 h3 h4 h5 h6 h7=>.plain hd.1 (h _ g w' ⟨h1,h3,h4,h5,fun b hb hn=>h6 b hb (.inl hn)⟩ h7 (r.JK L _ 0 hd.2)),h2⟩
theorem iT {id:Nat} (k:Nat) (S:Nat->Prop) (fl:List (IX w.heap.size S)) (hm:P.follows .mixedOrders=true) (r:Fr a N s) (hSB:∀ b,S b->b<w.heap.size) (hs:(drawnOk L k&&shapely (L.take k)&&noGuards (L.take k)&&(freely (L.take k) (fun i=>(fact fl i).sh)&&dstsIn N (L.take k)&&okW (L.take k) fl))=true)
  (he:cn P (L.take k) (fact fl) a { w with drawn:=w.drawn+1 } (L.take k) 0)
  (hl:∀ a' g w',Jd S w w'->(∀ i,Nat.ble (i+1) (L.take k).length=true->(fact fl i).ok g i w'/\w.heap.size<=(g i).lo/\(g i).lo<=(g i).hi/\(g i).hi<=w'.heap.size)->
   (∀ i j,(!(i==j)&&Nat.ble (i+1) (L.take k).length&&Nat.ble (j+1) (L.take k).length)=true->(g i).hi<=(g j).lo\/(g j).hi<=(g i).lo)->Fr a' N (Kt (L.take k) (fun j=>(g j).v) 0 s)->wpList P L.toArray Q (L.drop k) a' w') :
  (Code.region id L.toArray true).wp P Q a w:=by
 simp only [Bool.and_eq_true] at hs
 obtain ⟨⟨⟨hs1,hs2⟩,hs3⟩,hs⟩:=hs;refine rj hm hs1 hs2 hs3 (ru (fact fl) (p5 hs.2) rfl hSB hs.1.1 (oY hs.2) he fun g w' h1 h2 h3 h4 h5 h6 h7=>⟨rfl,hl _ g w' ⟨h1,h2,h3,h4,fun b hb hn=>h5 b hb hn⟩ (fun i hi=>h6 i (Nat.le_of_ble_eq_true hi)) (fun i j hij=>?_) (r.JK (L.take k) _ 0 hs.1.2)⟩)
 simp only [Bool.and_eq_true,Bool.not_eq_true',beq_eq_false_iff_ne] at hij
 exact h7 i j hij.1.1 (Nat.le_of_ble_eq_true hij.1.2) (Nat.le_of_ble_eq_true hij.2)
end
def StepE {R:Type} (P:Program) (E:Enc R) (n:Nat) (t:T R) (F:Nat->Prop):Value->Nat->Nat->World->Prop:=fun v lo hi w=>IK P E n t (fun b=>F b\/(lo<=b/\b<hi)) w v
theorem StepE.st {R:Type} {P:Program} {E:Enc R} {n:Nat} {t:T R} {F:Nat->Prop} {B:Nat} (hF:∀ b,F b->b<B):∀ v lo hi w1 w2,StepE P E n t F v lo hi w1->Kept B (fun _=>False) lo hi w1 w2->StepE P E n t F v lo hi w2:=by
 rintro v lo hi w1 w2 h ⟨_,_,_,hz,hk⟩;refine IK.mono (fun b hb=>hb) (fun b hb=>hk b ?_) hz n _ _ h
 rcases hb with hb | hb
 ·exact .inl ⟨hF b hb,fun h=>h⟩
 ·exact .inr hb
section
variable {P : Program} {a : Act} {w : World} {d : Option Tmp} {ty : TypeId} {pos : String} {Ki : Array Edge}
variable {ops : Array Oper} {Q : Exit -> Act -> World -> Prop} {rest : List Oper} {N : Nat} {s : SL}
theorem kJ {R:Type} {E:Enc R} {m:Nat} {t:T R} {F:Nat->Prop} {f:FuncId} {xs:List Operand} {ts:Array TypeId} {args:List Value} (Jb:Fr a N s) (hc:Calls P f args.toArray w (av P E m t F w)) (hx:xs.map (lookO s)=args)
  (hf:af P f=true) (hg:Ku N d=true) (hk:∀ {a} w' v,Jd F w w'->IK P E m t (grow F w w') w' v->Fr a N (KJ s d v)->wpList P ops Q rest a w'):wpList P ops Q (⟨d,.call ⟨.value (.func f),xs.toArray,ts⟩,ty,pos,Ki,none⟩::rest) a w:=
 kC Jb hc hx hf hg (by rintro _ w' ⟨v,rfl,hb,hr⟩; exact ⟨_,rfl,fun a r=>hk w' v hb hr r⟩)
end
end Go.Proofs.YtbbipmelhmgmfaaGreat

/- Some of our texts, one behind the other. -/
import Derived.Test.YtbbipmelhmgmfaaGreatLzM16
import Derived.Test.YtbbipmelhmgmfaaGreatLzOps
import Derived.Test.YtbbipmelhmgmfaaGreatLzM7
import Derived.Test.YtbbipmelhmgmfaaGreatLzM5
import Derived.Test.YtbbipmelhmgmfaaGreatLzM6
import Derived.Test.YtbbipmelhmgmfaaGreatLzM2
import Derived.Test.YtbbipmelhmgmfaaGreatLzMem
import Derived.Test.YtbbipmelhmgmfaaGreatLzM15
set_option linter.all false
set_option maxRecDepth 100000
set_option maxHeartbeats 20000000
/- Ours. -/
namespace Go.Proofs.YtbbipmelhmgmfaaGreat
open Go.RowKit
theorem C8 {at_:Int} {f:Int→T Grant} {ws ws':List Int} {n:Nat} {r:Grant} (h0:0≤at_) (h1:at_<ws.length) (h:Runs (f (rd ws at_)) ws n r ws'):Runs (D.pQ at_ f) ws (n+1) r ws':=Runs.load h0 h1 h
theorem BJ {at_ w:Int} {f:Unit→T Grant} {ws ws':List Int} {n:Nat} {r:Grant} (h0:0≤at_) (h1:at_<ws.length) (h:Runs (f ()) (ws.set at_.toNat w) n r ws'):Runs (D.pN at_ w f) ws (n+1) r ws':=Runs.store h0 h1 h
def sp (p:Plan) (n:Int):Int:=D.aN p+n * 5
section
variable {p : Plan} (hp : PF p) {n : Int} (hn : 0 ≤ n ∧ n < p.nodes)
include hp hn
theorem jR:0<sp p n∧sp p n+5≤D.bD p∧D.cY p n=sp p n:=by
 have hN:=cR hp;have hS:=dS hp;refine ⟨by unfold sp; omega,by unfold sp; omega,by rw [rL hp hn]; rfl⟩
end
theorem SF.live {s:State} (h:SF s) {k:Int} (hk:0≤k∧k≤2):SF (D.dE s k):=⟨h.g0,h.g1,by show (0:Int)≤1; omega,by show (1:Int)≤3; omega,hk.1,hk.2⟩
theorem SF.freed {s:State} (h:SF s) {m:Int} (hm:m≤1073741823):SF (D.bP s m):=by
 unfold D.bP;have:=h.g0;have:=h.g1
 by_cases e:s.gen≥m
 ·rw [show decide (s.gen≥m)=true from by simpa using e]
  exact ⟨h.g0,h.g1,by show (0:Int)≤3; omega,by show (3:Int)≤3; omega,by show (0:Int)≤0; omega,by show (0:Int)≤2; omega⟩
 ·rw [show decide (s.gen≥m)=false from by simpa using e]
  simp only [cond_false]
  rw [bp (x:=s.gen+1) kw kw]
  exact ⟨by show 0≤s.gen+1; omega,by show s.gen+1≤_; omega,by show (0:Int)≤0; omega,by show (0:Int)≤3; omega,by show (0:Int)≤0; omega,by show (0:Int)≤2; omega⟩
def StAt (p:Plan) (ws:List Int) (n:Int) (s:State):Prop:=rd ws (sp p n)=D.cn s∧SF s
theorem StAt.of {p:Plan} {ws:List Int} {n:Int} {s:State} (h:StAt p ws n s):D.aV (rd ws (sp p n))=(s,true):=by rw [h.1]; exact Dh h.2
theorem C5 {p:Plan} (hp:PF p) {ws:List Int} {n k:Int} {s:State} (hn:0≤n∧n<p.nodes) (hl:Len p ws) (hs:StAt p ws n s) :
  Runs (D.gH p n k) ws 2 ⟨n,s.gen,0⟩ (ws.set (sp p n).toNat (D.cn (D.dE s k))):=by
 obtain ⟨q1,q2,q3⟩:=jR hp hn;unfold Len at hl
 unfold D.gH;rw [q3];refine C8 kw kw ?_;unfold D.qb;rw [hs.of,q3];exact BJ kw kw (.done _ _)
theorem uJ {p:Plan} (hp:PF p) {ws:List Int} {n k:Int} {l:List Int} {g:Int} {s:State} (hF:FreeAt p ws (n::l) g) (hnn:p.nodes≤1000000) (hg:g<1000000) (hs:StAt p ws n s) (hk:0≤k∧k≤2) (J:Nat) {G:Int→T Grant} (hG:G n=D.gH p n k) :
  ∃ ws',Runs (T.bind (D.dg (J+1) p) G) ws 5 ⟨n,s.gen,0⟩ ws'∧ws'.length=ws.length∧FreeAt p ws' l (g+1)∧StAt p ws' n (D.dE s k)∧∀ j,0<j→j≠sp p n→rd ws' j=rd ws j:=by
 have hn:=hF.range n (List.mem_cons_self ..);obtain ⟨q1,q2,q3⟩:=jR hp hn;obtain ⟨hr,hF2⟩:=CQ hp hF hnn hg J;have hN:=cR hp;have hl:=hF.len;have hl2:=hF2.len;have hs0:=hs.1
 generalize hu:ws.set (0:Int).toNat ((g+1) * 2097152+first l)=u at hr hF2 hl2
 have hul:u.length=ws.length:=by rw [←hu,List.length_set]
 have hur:∀ j,0<j→rd u j=rd ws j:=fun j hj=>by rw [←hu,bU kw kw kw,if_neg kw]
 have hsu:StAt p u n s:=⟨by rw [hur _ q1]; exact hs0,hs.2⟩
 have hg2:=C5 hp (k:=k) hn hl2 hsu;refine ⟨u.set (sp p n).toNat (D.cn (D.dE s k)),?_,by rw [List.length_set,hul],?_,⟨?_,hs.2.live hk⟩,fun j hj hne=>?_⟩
 ·exact (Runs.bind (g:=G) hr (by rw [hG]; exact hg2)).cast (show 3+2=5 from rfl)
 ·refine hF2.keep (by rw [List.length_set]) ?_ fun m hm=>?_
  ·rw [bU kw kw kw,if_neg kw]
  ·have hmr:=hF2.range m hm
   have:nx p m≠sp p n:=by unfold nx sp; omega
   rw [bU kw kw yaH,if_neg this]
 ·rw [bU kw kw kw,if_pos rfl]
 ·rw [bU kw kw kw,if_neg hne,hur j hj]
theorem Dj {p:Plan} (hp:PF p) {ws:List Int} {n k t:Int} {l:List Int} {g:Int} {s:State} (hF:FreeAt p ws (n::l) g) (hnn:p.nodes≤1000000) (hg:g<1000000) (hs:StAt p ws n s) (hk:0≤k∧k≤2) (J:Nat) :
  ∃ ws',Runs (D.jy (J+1) p t k) ws 5 ⟨n,s.gen,0⟩ ws'∧ws'.length=ws.length∧FreeAt p ws' l (g+1)∧StAt p ws' n (D.dE s k)∧∀ j,0<j→j≠sp p n→rd ws' j=rd ws j:=by
 have hn:=hF.range n (List.mem_cons_self ..);refine uJ hp hF hnn hg hs hk J (G:=fun x=>D.gI (J+1) p k t (fun x=>D.dZ p k x) x) ?_
 unfold D.gI;rw [show (n !=-1)=true from by simp; omega]
 rfl
theorem C0 {p:Plan} (hp:PF p) {ws:List Int} {k g:Int} (hF:FreeAt p ws [] g) (hg:g<1000000) (J:Nat):Runs (T.bind (D.dg (J+1) p) (fun x=>D.dZ p k x)) ws 1 ⟨-1,0,4⟩ ws:=
 (Runs.bind (g:=fun x=>D.dZ p k x) (vg hp hF hg J) (.done _ _)).cast (show 1+0=1 from rfl)
theorem Ca {p:Plan} (hp:PF p) {ws:List Int} {n k:Int} {l:List Int} {g:Int} {s:State} (hF:FreeAt p ws (n::l) g) (hnn:p.nodes≤1000000) (hg:g<1000000) (hs:StAt p ws n s) (hk:0≤k∧k≤2) (J:Nat) :
  ∃ ws',Runs (T.bind (D.dg (J+1) p) (fun x=>D.dZ p k x)) ws 5 ⟨n,s.gen,0⟩ ws'∧ws'.length=ws.length∧FreeAt p ws' l (g+1)∧StAt p ws' n (D.dE s k)∧∀ j,0<j→j≠sp p n→rd ws' j=rd ws j:=by
 have hn:=hF.range n (List.mem_cons_self ..);refine uJ hp hF hnn hg hs hk J (G:=fun x=>D.dZ p k x) ?_
 unfold D.dZ;rw [show (n==-1)=false from by simp; omega]
 rfl
theorem Cd {p:Plan} (hp:PF p) {ws:List Int} {t n:Int} {r:List Int} (ht:0≤t∧t<p.threads) (hn:0≤n∧n<p.nodes) (hnn:p.nodes≤1000000) (hl:Len p ws) (h:RetAt p ws t r) (hf:(r.length:Int)<p.retire) (J:Nat) :
  ∃ ws',Runs (D.nH J p t n) ws 3 n ws'∧ws'.length=ws.length∧RetAt p ws' t (r++[n])∧∀ j,0≤j→j≠rb p t→j≠rb p t+1+r.length→rd ws' j=rd ws j:=by
 obtain ⟨ws',hr,hl',hR,ho⟩:=vu hp ht hn hnn hl h hf;refine ⟨ws',?_,hl',hR,ho⟩;refine (Runs.bind (g:=fun x=>D.gA J n p t (fun x=>D.fe n x) x) hr ?_).cast (show 3+0=3 from rfl)
 unfold D.gA;rw [show ((r.length:Int)+1 !=-1)=true from by simp; omega]
 exact .done _ _
theorem DF:D.cn ⟨0,0,0⟩=0:=by rw [vv ⟨ke,ke,ke,ke,ke,ke⟩]; rfl
theorem Cb {p:Plan} (hp:PF p) {ws:List Int} (h:LaidAt p ws) {n:Int} (hn:0≤n∧n<p.nodes):StAt p ws n ⟨0,0,0⟩:=by
 obtain ⟨q1,q2,q3⟩:=jR hp hn;refine ⟨?_,ke,ke,ke,ke,ke,ke⟩
 rw [DF]
 exact h.zero _ q1 fun m _ _=>by unfold sp; omega
theorem CF {p:Plan} (hp:PF p) {ws:List Int} (h:LaidAt p ws) {t:Int} (ht:0≤t∧t<p.threads):RetAt p ws t []:=by
 obtain ⟨q1,q2,q3⟩:=dm hp ht;have hr1:=hp.r1;have ht1:=hp.t1;exact ⟨h.zero _ q3 fun m _ _=>kw,by simp; omega,fun i hi=>(by cases hi),fun _ h=>(by cases h)⟩
theorem nQ:∀ (k:Nat) (r:List Int),k=r.length→cm (fun _=>false) k r=([],r.reverse)
 | 0,r,h=>by rw [List.length_eq_zero_iff.1 h.symm]; rfl
 | k+1,r,h=>by
  rcases List.eq_nil_or_concat r with rfl | ⟨s,z,rfl⟩
  ·cases h
  rw [List.concat_eq_append] at *
  have hk:k=s.length:=by simpa using h
  have e1:(s++[z])[k]?=some z:=by rw [hk]; simp
  have e2:((s++[z]).set k (((s++[z]).getLast?).getD 0)).dropLast=s:=by
   rw [hk]; simp
  simp only [cm,e1,Bool.false_eq_true,if_false,e2,nQ k s hk]
  simp
structure Pool where
 fr:List Int
 rt:List Int
 st:Int→State
def Pool.back (m:Int) (P:Pool) (n:Int):Pool:=
 ⟨if (D.bP (P.st n) m).mode=3 then P.fr else n::P.fr,P.rt,fun q=>if q=n then D.bP (P.st n) m else P.st q⟩
def Pool.scan (P:Pool) (m:Int):Pool:=P.rt.reverse.foldl (Pool.back m) ⟨P.fr,[],P.st⟩
theorem gX (m:Int):∀ (l:List Int) (P:Pool),(l.foldl (Pool.back m) P).rt=P.rt
 | [],_=>rfl
 | n::l,P=>by rw [List.foldl_cons,gX m l]; rfl
theorem qP (m:Int):∀ (l:List Int) (P:Pool),l.Nodup→∀ n,(l.foldl (Pool.back m) P).st n=if n∈l then D.bP (P.st n) m else P.st n
 | [],_,_,_=>rfl
 | a::l,P,hn,n=>by
  obtain ⟨h1,h2⟩:=List.nodup_cons.1 hn;rw [List.foldl_cons,qP m l _ h2]
  by_cases e:n=a
  ·subst e
   rw [if_neg h1,if_pos (List.mem_cons_self ..)]
   exact if_pos rfl
  ·have hs:(Pool.back m P a).st n=P.st n:=if_neg e
   rw [hs]
   by_cases h:n∈l
   ·rw [if_pos h,if_pos (List.mem_cons_of_mem _ h)]
   ·rw [if_neg h,if_neg (fun h'=>by rcases List.mem_cons.1 h' with h' | h'; exact e h'; exact h h')]
theorem oe (m:Int):∀ (l:List Int) (P:Pool),l.Nodup→(l.foldl (Pool.back m) P).fr=l.foldl (fun l n=>if (D.bP (P.st n) m).mode=3 then l else n::l) P.fr
 | [],_,_=>rfl
 | a::l,P,hn=>by
  obtain ⟨h1,h2⟩:=List.nodup_cons.1 hn;rw [List.foldl_cons,List.foldl_cons,oe m l _ h2];have:∀ (k:List Int) (L L':List Int),(∀ q,q∈k→q≠a)→L=L'→k.foldl (fun l n=>if (D.bP ((Pool.back m P a).st n) m).mode=3 then l else n::l) L=k.foldl (fun l n=>if (D.bP (P.st n) m).mode=3 then l else n::l) L':=by
   intro k
   induction k with
   | nil=>rintro L _ _ rfl; rfl
   | cons q k ih=>
    rintro L _ hq rfl;rw [List.foldl_cons,List.foldl_cons];have hs:(Pool.back m P a).st q=P.st q:=if_neg (hq q (List.mem_cons_self ..));exact ih _ _ (fun q' h=>hq q' (List.mem_cons_of_mem _ h)) (by rw [hs])
  exact this l _ _ (fun q hq e=>h1 (e ▸ hq)) rfl
structure PoolAt (p:Plan) (t:Int) (ws:List Int) (P:Pool) (g:Int):Prop where
 free:FreeAt p ws P.fr g
 ret:RetAt p ws t P.rt
 nod:P.rt.Nodup
 dis:∀ n,n∈P.rt→n ∉ P.fr
 st:∀ n,0≤n→n<p.nodes→StAt p ws n (P.st n)
 hz:∀ j,0≤j→j<p.threads * 3→rd ws (D.aL p+j)=0
 zero:∀ n f,n∈P.fr→0≤f→f<3→rd ws (sp p n+2+f)=0
def KeptP (p:Plan) (t:Int) (P:Pool) (ws ws':List Int):Prop:=
 ws'.length=ws.length∧∀ j,0<j→(∀ n,n∈P.fr∨n∈P.rt→¬ bL p n j)→¬ (rb p t≤j∧j<rb p t+1+p.retire)→rd ws' j=rd ws j
theorem PoolAt.scan {p:Plan} (hp:PF p) (hnn:p.nodes≤1000) {t:Int} (ht:0≤t∧t<p.threads) {ws:List Int} {P:Pool} {g:Int} (h:PoolAt p t ws P g) (hg:g<900000) (J:Nat) (hJ:1100<J) :
  ∃ (m:Nat) (ws':List Int) (g':Int),m≤70 * P.rt.length+1∧g'≤g+P.rt.length∧Runs (D.fO J p t) ws m (P.rt.length:Int) ws'∧PoolAt p t ws' (P.scan p.gen) g'∧KeptP p t P ws ws':=by
 have hN:=cR hp;have hz:=cM hp;obtain ⟨p1,p2,p3⟩:=dm hp ht;have hh:∀ n,n∈P.rt→((fun _=>false) n=true↔heldW p ws n):=by
  intro n hn;have:=(h.ret.range n hn).1
  constructor
  ·intro h; cases h
  ·rintro ⟨j,j0,j1,hj⟩
   rw [h.hz j j0 j1] at hj
   omega
 obtain ⟨m,ws',hm,hr,hs⟩:=uO hp hnn ht J hJ h.free.len h.ret h.free (fun n hn=>h.dis n hn) h.nod hh hg
 rw [nQ P.rt.length P.rt rfl] at hr hs
 simp only [List.length_reverse] at hr
 obtain ⟨g',hg',hF⟩:=hs.free;have hnr:P.rt.reverse.Nodup:=List.pairwise_reverse.2 (h.nod.imp fun h e=>h e.symm)
 have htof:∀ n,n∈P.rt→tof p ws n=D.bP (P.st n) p.gen:=fun n hn=>by
  have hn':=h.ret.range n hn;unfold tof;have:=(h.st n hn'.1 hn'.2).of;unfold sp at this
  rw [this]
 have hfr:pushAll p ws P.rt.reverse P.fr=(P.scan p.gen).fr:=by
  unfold Pool.scan;rw [oe _ _ _ hnr];unfold pushAll;have:∀ (k L:List Int),(∀ n,n∈k→n∈P.rt)→k.foldl (fun l n=>if (tof p ws n).mode=3 then l else n::l) L=k.foldl (fun l n=>if (D.bP (P.st n) p.gen).mode=3 then l else n::l) L:=by
   intro k
   induction k with
   | nil=>intro _ _; rfl
   | cons q k ih=>
    intro L hq;rw [List.foldl_cons,List.foldl_cons,htof q (hq q (List.mem_cons_self ..))];exact ih _ fun n hn=>hq n (List.mem_cons_of_mem _ hn)
  exact this _ _ fun n hn=>List.mem_reverse.1 hn
 have hsub:∀ n,n∈(P.scan p.gen).fr→n∈P.rt∨n∈P.fr:=fun n hn=>by
  rw [←hfr] at hn
  rcases qi hn with h | h
  ·exact .inl (List.mem_reverse.1 h)
  ·exact .inr h
 have hrt:(P.scan p.gen).rt=[]:=gX _ _ _;rw [hfr] at hF
 have hst:∀ n,(P.scan p.gen).st n=if n∈P.rt then D.bP (P.st n) p.gen else P.st n:=fun n=>by
  unfold Pool.scan;rw [qP _ _ _ hnr];simp only [List.mem_reverse]
 have hrr:=h.ret.range;have hkeep:∀ j,0<j→(∀ n,n∈P.rt→¬ bL p n j)→¬ (rb p t≤j∧j<rb p t+1+p.retire)→rd ws' j=rd ws j:=fun j j0 h1 h2=>hs.others j j0 (fun n hn=>h1 n (List.mem_reverse.1 hn)) h2
 have hge:=hp.g2;refine ⟨m,ws',g',hm,by simpa using hg',hr,⟨hF,by rw [hrt]; exact hs.ret,by rw [hrt]; exact List.nodup_nil,fun n hn=>(by rw [hrt] at hn; cases hn),fun n n0 n1=>?_,fun j j0 j1=>?_,fun n f hn f0 f1=>?_⟩,hs.len,fun j j0 h1 h2=>hkeep j j0 (fun n hn=>h1 n (.inr hn)) h2⟩
 ·rw [hst]
  by_cases hn:n∈P.rt
  ·rw [if_pos hn]
   refine ⟨?_,(h.st n n0 n1).2.freed kw⟩;have:=hs.states n (List.mem_reverse.2 hn);rw [htof n hn] at this
   exact this
  ·rw [if_neg hn]
   refine ⟨?_,(h.st n n0 n1).2⟩;rw [hkeep (sp p n) yaj (fun q hq hq'=>?_) yaj]
   ·exact (h.st n n0 n1).1
   ·unfold bL sp at hq'
    exact hn (by rw [show n=q by omega]; exact hq)
 ·rw [hkeep _ kw (fun q hq=>by have:=(hrr q hq).1; unfold bL; omega) kw]
  exact h.hz j j0 j1
 ·by_cases hq:n∈P.rt
  ·exact hs.fields n f (List.mem_reverse.2 hq) f0 f1
  ·have hnf:n∈P.fr:=(hsub n hn).resolve_left hq
   have:=h.free.range n hnf;rw [hkeep _ yaj (fun q hq' hq''=>?_) yaj]
   ·exact h.zero n f hnf f0 f1
   ·unfold bL sp at hq''
    exact hq (by rw [show n=q by omega]; exact hq')
def Pool.out (P:Pool) (k:Int):Pool × Grant:=
 match P.fr with
 | []=>(P,⟨-1,0,4⟩)
 | n::l=>(⟨l,P.rt,fun q=>if q=n then D.dE (P.st n) k else P.st q⟩,⟨n,(P.st n).gen,0⟩)
def Pool.grant (P:Pool) (m k:Int):Pool × Grant:=match P.fr with
 | []=>(P.scan m).out k
 | _::_=>P.out k
theorem PoolAt.took {p:Plan} (hp:PF p) {t:Int} (ht:0≤t∧t<p.threads) {ws ws':List Int} {n k:Int} {l r:List Int} {st:Int→State} {g:Int} (h:PoolAt p t ws ⟨n::l,r,st⟩ g) (hk:0≤k∧k≤2)
  (hl:ws'.length=ws.length) (hF:FreeAt p ws' l (g+1)) (hst:StAt p ws' n (D.dE (st n) k)) (ho:∀ j,0<j→j≠sp p n→rd ws' j=rd ws j) :
  PoolAt p t ws' ⟨l,r,fun q=>if q=n then D.dE (st n) k else st q⟩ (g+1):=by
 have hN:=cR hp;have hz:=cM hp;obtain ⟨p1,p2,p3⟩:=dm hp ht;have hn:=h.free.range n (List.mem_cons_self ..);refine ⟨hF,h.ret.keep fun j j0 j1=>ho j kw yaj,h.nod,fun q hq hq'=>h.dis q hq (List.mem_cons_of_mem _ hq'),fun q q0 q1=>?_,fun j j0 j1=>?_,fun q f hq f0 f1=>?_⟩
 ·by_cases e:q=n
  ·subst e
   show StAt p ws' q (if q=q then _ else _)
   rw [if_pos rfl]; exact hst
  ·show StAt p ws' q (if q=n then _ else _)
   rw [if_neg e]
   have:=h.st q q0 q1;exact ⟨by rw [ho _ yaj yaj]; exact this.1,this.2⟩
 ·rw [ho _ kw yaj]; exact h.hz j j0 j1
 ·have hqr:=h.free.range q (List.mem_cons_of_mem _ hq)
  rw [ho _ yaj yaj]
  exact h.zero q f (List.mem_cons_of_mem _ hq) f0 f1
theorem jF {P:Pool} {m n:Int} (hd:P.rt.Nodup) (h:n∈(P.scan m).fr):n∈P.rt∨n∈P.fr:=by
 unfold Pool.scan at h
 rw [oe m _ _ (List.pairwise_reverse.2 (hd.imp fun h e=>h e.symm))] at h
 have:∀ (k L:List Int),n∈k.foldl (fun l n=>if (D.bP (P.st n) m).mode=3 then l else n::l) L→n∈k∨n∈L:=by
  intro k
  induction k with
  | nil=>exact fun L h=>.inr h
  | cons a k ih=>
   intro L h
   rcases ih _ h with h | h
   ·exact .inl (List.mem_cons_of_mem _ h)
   ·replace h:n∈(if (D.bP (P.st a) m).mode=3 then L else a::L):=h
    split at h
    ·exact .inr h
    ·rcases List.mem_cons.1 h with rfl | h
     ·exact .inl (List.mem_cons_self ..)
     ·exact .inr h
 rcases this _ _ h with h | h
 ·exact .inl (List.mem_reverse.1 h)
 ·exact .inr h
def Pool.stash (P:Pool) (room m n:Int):Pool:=
 let Q:=if (P.rt.length:Int)<room then P else P.scan m
 ⟨Q.fr,Q.rt++[n],Q.st⟩
theorem bs4 {x1 y1 x2 y2 x3 y3 x4 y4:Nat × Value} {P:Program} {α:Type} {f:Array (Nat × Value)→Sem α} {w:World} {r:Result α} (h1:x1=y1) (h2:x2=y2) (h3:x3=y3) (h4:x4=y4) (h:(f [y1,y2,y3,y4].toArray).run P w=r):(f [x1,x2,x3,x4].toArray).run P w=r:=by rw [h1,h2,h3,h4]; exact h
theorem rK:af y6 118:=kz
theorem ru:af y6 124:=kz
theorem cl15:af y6 15:=kz
theorem cl99:af y6 99:=kz
theorem dJ:ba y6 47 0 0:=kz
theorem iV:ba y6 47 2 7:=kz
theorem ta47:tyA y6 47 8:=kz
theorem cl29:af y6 29:=kz
theorem wE:ba y6 36 0 0:=kz
def hof (w:Int):Handle × Bool:=if w / 72057594037927936 % 4=0∧w / 288230376151711744=42 then (⟨w % 1048576,w / 1048576 % 1073741824,w / 1125899906842624 % 64⟩,true) else (⟨0,0,0⟩,false)
theorem runR {t:T Res} {M:Mem} {ws':List Int} {n:Nat} {most:Int} {r:Res} {fu:Nat} (h:Runs t M.ws n r ws') (hm:(n:Int)≤most) (hm2:most≤1000000) (hn:n<fu):∃ c,D.jn fu (fu,t) M cap0 most=some (r,(n:Int),true,⟨ws',c⟩):=by
 have h2:=vZ (z:=(⟨0,0⟩:Res)) (fu:=fu) (d:=fu) (most:=most) h hm hm2 (Nat.le_of_lt hn) hn;exact h2
theorem um {at_:Int} {f:Int→T Res} {ws ws':List Int} {n:Nat} {r:Res} (h0:0≤at_) (h1:at_<ws.length) (h:Runs (f (rd ws at_)) ws n r ws'):Runs (D.gC at_ f) ws (n+1) r ws':=Runs.load h0 h1 h
theorem qx {at_ was w:Int} {f:Bool→T Res} {ws ws':List Int} {n:Nat} {r:Res} (h0:0≤at_) (h1:at_<ws.length) (h:Runs (f (rd ws at_==was)) (if rd ws at_=was then ws.set at_.toNat w else ws) n r ws'):Runs (D.jk at_ was w f) ws (n+1) r ws':=by
 refine Runs.act (op:=2) kw (gU h0 h1) ?_;have:acted 2 at_ was w (rd ws at_) ws=(if rd ws at_=was then ws.set at_.toNat w else ws):=by simp [acted]
 rw [this]
 exact h
def fp (p:Plan) (n f:Int):Int:=sp p n+2+f
theorem PoolAt.start {p:Plan} (hp:PF p) {ws:List Int} (h:LaidAt p ws) {t:Int} (ht:0≤t∧t<p.threads):PoolAt p t ws ⟨allN p,[],fun _=>⟨0,0,0⟩⟩ 0:=by
 have hN:=cR hp;have hF:=Cq hp h;refine ⟨hF,CF hp h ht,List.nodup_nil,fun _ h=>(by cases h),fun n n0 n1=>Cb hp h ⟨n0,n1⟩,fun j j0 j1=>Dd hp h j0 j1,fun n f hn f0 f1=>?_⟩
 have hr:=hF.range n hn;exact h.zero _ yaj fun m _ _=>by unfold sp; omega
/-! ### Guards -/
theorem Ce {p:Plan} (hp:PF p) {ws:List Int} (hl:Len p ws) {t s at_ sh w:Int} (ht:0≤t∧t<p.threads) (hs:0≤s∧s<3) (h0:0≤at_) (h1:at_<D.bD p) (hne:at_≠D.aL p+t * 3+s)
  (hw0:0≤w) (hw1:w<1099511627776) (hsh:0≤sh∧sh<3) (hw:rd ws at_=w) (k:Nat) :
  (w / 2 ^ sh.toNat - 1<0→Runs (D.fN (k+1) p t s at_ sh w) ws 0 w ws)∧
  (¬ w / 2 ^ sh.toNat - 1<0→Runs (D.fN (k+1) p t s at_ sh w) ws 2 w (ws.set (D.aL p+t * 3+s).toNat (w / 2 ^ sh.toNat))):=by
 obtain ⟨h2,h3,h4⟩:=wu hw0 hsh;obtain ⟨g1,g2,g3,g4⟩:=cM hp;have hn1:=hp.n1;have hb:D.fN (k+1) p t s at_ sh w=D.iw (D.fN k) p t s at_ sh w:=rfl;have hq:IntKind.i64.wrap (IntKind.i64.wrap (shrI .u64 w sh) - 1)=w / 2 ^ sh.toNat - 1:=by
  rw [h2,bp (x:=w / 2 ^ sh.toNat) kw kw,bp kw kw]
 constructor
 ·intro hlt
  rw [hb]
  unfold D.iw;rw [hq,show decide (w / 2 ^ sh.toNat - 1<0)=true from by simpa using hlt]
  exact .done _ _
 ·intro hge
  rw [hb]
  unfold D.iw;rw [hq,show decide (w / 2 ^ sh.toNat - 1<0)=false from by simpa using hge]
  have hr:=qz hp hl ht hs (n:=w / 2 ^ sh.toNat - 1) kw
  rw [show w / 2 ^ sh.toNat - 1+1=w / 2 ^ sh.toNat from by omega] at hr
  show Runs ((D.fk p t s (w / 2 ^ sh.toNat - 1)).bind fun _=>D.nr (D.fN k) at_ w p t s sh) ws (1+1) w _
  refine Runs.bind hr ?_;unfold Len at hl
  show Runs (.act 0 at_ 0 0 _) _ 1 _ _
  refine .load h0 (by simpa [hl] using h1) ?_;have hx:rd (ws.set (D.aL p+t * 3+s).toNat (w / 2 ^ sh.toNat)) at_=w:=by
   rw [bU kw kw h0,if_neg hne,hw]
  rw [hx]
  unfold D.kK;rw [show (w==w)=true from by simp]
  exact .done _ _
theorem xF:af y6 104:=kz
theorem Gx:af y6 247:=kz
theorem cl36:af y6 36:=kz
theorem C6 {at_:Int} {f:Int→T Int} {ws ws':List Int} {n:Nat} {r:Int} (h0:0≤at_) (h1:at_<ws.length) (h:Runs (f (rd ws at_)) ws n r ws'):Runs (D.dG at_ f) ws (n+1) r ws':=Runs.load h0 h1 h
theorem uu {at_:Int} {f:Int→T Int} {ws ws':List Int} {n:Nat} {r:Int} (h0:0≤at_) (h1:at_<ws.length) (h:Runs (f (rd ws at_)) ws n r ws'):Runs (D.mS at_ f) ws (n+1) r ws':=Runs.load h0 h1 h
theorem BO {at_ w:Int} {f:Unit→T Int} {ws ws':List Int} {n:Nat} {r:Int} (h0:0≤at_) (h1:at_<ws.length) (h:Runs (f ()) (ws.set at_.toNat w) n r ws'):Runs (D.dX at_ w f) ws (n+1) r ws':=Runs.store h0 h1 h
def RepL {R:Type} (P:Program) (E:Enc R):Nat→T R→(Nat→Prop)→World→Value→Prop
 | _,.cut,_,_,_=>False
 | _,.done r,_,_,v=>v=.agg (aC true (E.cells r) 0 0 0 0 .nilFunc)
 | 0,.act op at_ a b _,_,_,v=>∃ (f:FuncId) (first cap:List Value),af P f=true∧v=.agg (aC false E.zero op at_ a b (.func (.func f) first.toArray cap.toArray))
 | m+1,.act op at_ a b k,F,w,v=>∃ (f:FuncId) (first cap:List Value),af P f=true∧v=.agg (aC false E.zero op at_ a b (.func (.func f) first.toArray cap.toArray))∧
   ∀ x w',Same F w w'→w.heap.size≤w'.heap.size→
    Calls P f (first++[Value.int .u64 x]++cap).toArray w' fun e w''=>∃ v',e=.returned v'∧Chg F w' w''∧RepL P E m (k x) (grow F w' w'') w'' v'
def aw {R:Type} (P:Program) (E:Enc R) (n:Nat) (t:T R) (F:Nat→Prop) (w:World):Ending→World→Prop:=
 fun e w'=>∃ v,e=.returned v∧Chg F w w'∧RepL P E n t (grow F w w') w' v
def FnLAt {R α:Type} (P:Program) (E:Enc R) (enc:α→List Value) (m:Nat) (F:Nat→Prop) (w:World) (f:FuncId) (first cap:List Value) (g:α→T R):Prop:=
 ∀ x w',Same F w w'→w.heap.size≤w'.heap.size→Calls P f (first++enc x++cap).toArray w' (aw P E m (g x) F w')
def FnL {R α:Type} (P:Program) (E:Enc R) (enc:α→List Value) (n:Nat) (F:Nat→Prop) (w:World) (fv:Value) (g:α→T R):Prop:=
 ∃ (f:FuncId) (first cap:List Value),af P f=true∧fv=.func (.func f) first.toArray cap.toArray∧∀ m,m<n→FnLAt P E enc m F w f first cap g
section
variable {R : Type} {P : Program} {E : Enc R}
theorem Chg.weakZ {Z Z':Nat→Prop} {w w':World} (h:Chg Z w w') (hz:∀ b,Z b→Z' b):Chg Z' w w':=⟨h.os,h.tape,h.output,h.size,fun b hb hn=>h.block b hb fun h=>hn (hz b h)⟩
theorem Chg.aT {Z:Nat→Prop} {w w':World} (h:Below w.heap.size w w'):Chg Z w w':=(Chg.of_below h).weakZ fun _ h=>h.elim
theorem cu {F:Nat→Prop} {w0 w:World} (hF:∀ b,F b→b<w0.heap.size) (hB:w0.heap.size≤w.heap.size) (r:Nat):∀ b,(fun b=>F b∨(w0.heap.size≤b∧b<w.heap.size∧b≠r)) b→b<w.heap.size:=by
 rintro b (h | h)
 ·exact q8 (hF b h) hB
 ·exact h.2.1
theorem Chg.thenB {Z:Nat→Prop} {w0 w w':World} (h:Chg Z w0 w) (h':Below w.heap.size w w'):Chg Z w0 w':=h.trans (Chg.of_below h') fun _ _ h=>h.elim
theorem Chg.bm {Z:Nat→Prop} {w0 w w':World} {b:Nat} {o:Obj} (h:Chg Z w0 w) (h':Upd w w' b o) (hb:w0.heap.size≤b∨Z b):Chg Z w0 w':=
 ⟨h'.os.trans h.os,h'.tape.trans h.tape,h'.output.trans h.output,by rw [h'.size]; exact h.size,fun k hk hn=>(h'.other k fun e=>by subst e; rcases hb with hb | hb; omega; exact hn hb).trans (h.block k hk hn)⟩
theorem Chg.bn {Z Z':Nat→Prop} {w0 w w':World} (h:Chg Z w0 w) (h':Chg Z' w w') (hz:∀ b,b<w0.heap.size→Z' b→Z b):Chg Z w0 w':=h.trans h' hz
theorem bc {Z:Nat→Prop} {w w':World} {b:Nat} {o:Obj} (h:Chg Z w w') (hb:w.heap[b]?=some o) (hn:¬ Z b):w'.heap[b]?=some o:=(h.block b (q7 hb) hn).trans hb
theorem iS {w:World} {b b':Nat} {c c':Array Value} {T T':TypeId} {z z':Nat × Nat} (h:w.heap[b]?=some (.cells c T z)) (h':w.heap[b']?=some (.cells c' T' z')) (hT:(T==T')=false):b≠b':=by
 intro e;subst e;rw [h] at h'
 simp only [Option.some.injEq,Obj.cells.injEq] at h'
 rw [h'.2.1] at hT
 simp at hT
theorem uN {F F':Nat→Prop} {w w':World} (hs:∀ b,F b→F' b):∀ b,grow F w w' b→grow F' w w' b:=fun b hb=>hb.imp (hs b) id
theorem RepL.mono {F F':Nat→Prop} {w w':World} (hs:∀ b,F b→F' b) (h1:Same F w w') (h2:w.heap.size≤w'.heap.size) :
  ∀ (n:Nat) (t:T R) (v:Value),RepL P E n t F w v→RepL P E n t F' w' v
 | _,.cut,_,h=>by unfold RepL at h; exact h.elim
 | _,.done _,_,h=>by unfold RepL at h ⊢; exact h
 | 0,.act ..,_,h=>by unfold RepL at h ⊢; exact h
 | m+1,.act op at_ a b k,v,h=>by
  unfold RepL at h ⊢
  obtain ⟨f,first,cap,hc,hv,h⟩:=h;refine ⟨f,first,cap,hc,hv,fun x w'' hs' hz=>?_⟩
  refine (h x w'' (h1.trans (hs'.sub hs)) kw).mono ?_;rintro e w3 ⟨v',he,hb,hr⟩;exact ⟨v',he,hb.weakZ hs,RepL.mono (uN hs) (Same.refl _ _) (Nat.le_refl _) m _ _ hr⟩
theorem RepL.down {F:Nat→Prop} {w:World}:∀ {n m:Nat} {t:T R} {v:Value},m≤n→RepL P E n t F w v→RepL P E m t F w v
 | _,_,.cut,_,_,h=>by unfold RepL at h; exact h.elim
 | _,_,.done _,_,_,h=>by unfold RepL at h ⊢; exact h
 | 0,m,.act ..,_,hm,h=>by
  obtain rfl:m=0:=kw
  exact h
 | n+1,0,.act ..,_,_,h=>by
  unfold RepL at h ⊢
  obtain ⟨f,first,cap,hc,hv,_⟩:=h;exact ⟨f,first,cap,hc,hv⟩
 | n+1,m+1,.act op at_ a b k,v,hm,h=>by
  unfold RepL at h ⊢
  obtain ⟨f,first,cap,hc,hv,h⟩:=h;refine ⟨f,first,cap,hc,hv,fun x w'' hs' hz=>?_⟩
  refine (h x w'' hs' hz).mono ?_;rintro e w3 ⟨v',he,hb,hr⟩;exact ⟨v',he,hb,RepL.down kw hr⟩
theorem RepL.shape {F:Nat→Prop} {w:World}:∀ {n:Nat} {t:T R} {v:Value},RepL P E n t F w v→Shape E v
 | _,.cut,_,h=>by unfold RepL at h; exact h.elim
 | _,.done r,_,h=>by
  unfold RepL at h; subst h
  exact ⟨_,rfl,by simp [aC,E.len],by simp [aC,plainCell,E.plain r]⟩
 | 0,.act ..,_,h=>by
  unfold RepL at h; obtain ⟨_,_,_,_,rfl⟩:=h
  exact ⟨_,rfl,by simp [aC,E.zlen],by simp [aC,plainCell,E.zplain]⟩
 | m+1,.act ..,_,h=>by
  unfold RepL at h; obtain ⟨_,_,_,_,rfl,_⟩:=h
  exact ⟨_,rfl,by simp [aC,E.zlen],by simp [aC,plainCell,E.zplain]⟩
theorem Rep.loud:∀ {n:Nat} {t:T R} {F:Nat→Prop} {w:World} {v:Value},Rep P E n t F w v→RepL P E n t F w v
 | _,.cut,_,_,_,h=>by unfold Rep at h; exact h.elim
 | _,.done _,_,_,_,h=>by unfold Rep at h; unfold RepL; exact h
 | 0,.act ..,_,_,_,h=>by unfold Rep at h; unfold RepL; exact h
 | m+1,.act op at_ a b k,F,w,v,h=>by
  unfold Rep at h; unfold RepL
  obtain ⟨f,first,cap,hc,hv,h⟩:=h;refine ⟨f,first,cap,hc,hv,fun x w'' hs' hz=>?_⟩
  refine (h x w'' hs' hz).mono ?_;rintro e w3 ⟨v',he,hb,hr⟩;exact ⟨v',he,Chg.aT hb,hr.loud⟩
theorem RepL.hU {n:Nat} {F:Nat→Prop} {w:World} {op at_ a b:Int} {k:Int→T R} {fv:Value} (h:FnL P E u64 n F w fv k) :
  RepL P E n (.act op at_ a b k) F w (.agg (aC false E.zero op at_ a b fv)):=by
 obtain ⟨f,first,cap,hc,rfl,h⟩:=h;cases n with
 | zero=>unfold RepL; exact ⟨f,first,cap,hc,rfl⟩
 | succ m=>unfold RepL; exact ⟨f,first,cap,hc,rfl,fun x w' h1 h2=>h m (Nat.lt_succ_self _) x w' h1 h2⟩
theorem RepL.gV {n:Nat} {F:Nat→Prop} {w:World} {r:R}:RepL P E n (.done r) F w (.agg (aC true (E.cells r) 0 0 0 0 .nilFunc)):=by unfold RepL; rfl
theorem FnLAt.mono {α:Type} {enc:α→List Value} {m:Nat} {F F':Nat→Prop} {w w':World} {f:FuncId} {first cap:List Value} {g:α→T R} (h:FnLAt P E enc m F w f first cap g)
  (hs:∀ b,F b→F' b) (h1:Same F w w') (h2:w.heap.size≤w'.heap.size):FnLAt P E enc m F' w' f first cap g:=fun x w'' hs' hz=>by
 refine (h x w'' (h1.trans (hs'.sub hs)) kw).mono ?_;rintro e w3 ⟨v',he,hb,hr⟩;exact ⟨v',he,hb.weakZ hs,RepL.mono (uN hs) (Same.refl _ _) (Nat.le_refl _) m _ _ hr⟩
theorem FnL.mono {α:Type} {enc:α→List Value} {n n':Nat} {F F':Nat→Prop} {w w':World} {fv:Value} {g:α→T R} (h:FnL P E enc n F w fv g) (hn:n'≤n)
  (hs:∀ b,F b→F' b) (h1:Same F w w') (h2:w.heap.size≤w'.heap.size):FnL P E enc n' F' w' fv g:=by
 obtain ⟨f,first,cap,hc,hv,h⟩:=h;exact ⟨f,first,cap,hc,hv,fun m hm=>(h m kw).mono hs h1 h2⟩
theorem RepL.dx {n:Nat} {F:Nat→Prop} {w:World} {op at_ a b:Int} {k:Int→T R} {v:Value} (h:RepL P E n (.act op at_ a b k) F w v) :
  ∃ (f:FuncId) (first cap:List Value),af P f=true∧v=.agg (aC false E.zero op at_ a b (.func (.func f) first.toArray cap.toArray))∧FnL P E u64 n F w (.func (.func f) first.toArray cap.toArray) k:=by
 cases n with
 | zero=>
  unfold RepL at h
  obtain ⟨f,first,cap,hc,hv⟩:=h;exact ⟨f,first,cap,hc,hv,f,first,cap,hc,rfl,fun m hm=>absurd hm (Nat.not_lt_zero m)⟩
 | succ q=>
  unfold RepL at h
  obtain ⟨f,first,cap,hc,hv,hk⟩:=h;refine ⟨f,first,cap,hc,hv,f,first,cap,hc,rfl,fun m hm x w' h1 h2=>?_⟩
  refine (hk x w' h1 h2).mono ?_;rintro e w'' ⟨v',he,hb,hr⟩;exact ⟨v',he,hb,RepL.down kw hr⟩
theorem FnL.at_ {α:Type} {enc:α→List Value} {n:Nat} {F:Nat→Prop} {w:World} {f:FuncId} {first cap:List Value} {g:α→T R} (h:FnL P E enc n F w (.func (.func f) first.toArray cap.toArray) g) :
  af P f=true∧∀ m,m<n→FnLAt P E enc m F w f first cap g:=by
 obtain ⟨f',first',cap',hc,he,hf⟩:=h;simp only [Value.func.injEq,Fn.func.injEq] at he
 obtain ⟨e1,e2,e3⟩:=he;have e2':first=first':=by simpa using congrArg Array.toList e2
 have e3':cap=cap':=by simpa using congrArg Array.toList e3
 subst e1; subst e2'; subst e3';exact ⟨hc,hf⟩
theorem aw.fin {n:Nat} {t:T R} {F F1:Nat→Prop} {w0 w1 w2 w3:World} {r:Nat} {o:Obj} {v:Value} (hB:Chg F w0 w3) (hr:RepL P E n t (grow F1 w1 w2) w2 v)
  (hu:Upd w2 w3 r o) (hF:∀ b,F1 b→F b∨(w0.heap.size≤b∧b<w1.heap.size)) (hFr:¬ F1 r) (hr1:r<w1.heap.size) (h01:w0.heap.size≤w1.heap.size) (h12:w1.heap.size≤w2.heap.size) :
  aw P E n t F w0 (.returned v) w3:=by
 refine ⟨v,rfl,hB,RepL.mono ?_ ?_ (by rw [hu.size]; exact Nat.le_refl _) n t v hr⟩
 ·rintro b (hb | ⟨hb1,hb2⟩)
  ·rcases hF b hb with h | ⟨h1,h2⟩
   ·exact .inl h
   ·exact .inr ⟨h1,by rw [hu.size]; omega⟩
  ·exact .inr ⟨kw,by rw [hu.size]; omega⟩
 ·rintro b (hb | ⟨hb1,hb2⟩)
  ·exact hu.other b (fun e=>hFr (e ▸ hb))
  ·exact hu.other b kw
end
section
variable {P : Program} {Q : Exit → Act → World → Prop} {L : List Oper} {a : Act} {w : World} {N : Nat} {s : SL} {S : Nat → Prop}
theorem iF {fs:Nat→Fact w.heap.size S} {o:Oper} {l:List Oper} {i:Nat} (r:Fr a N s) (hd:(o.guard.isNone&&dstsIn N L)=true) (he:early L (fun i=>(fs i).sh) i=true)
  (h:∀ a' g w',Below w.heap.size w w'→(∀ j,bF o j=true→(fs j).ok g j w'∧w.heap.size≤(g j).lo∧(g j).hi≤w'.heap.size∧∀ q,bF o q=true→q≠j→(g j).hi≤(g q).lo∨(g q).hi≤(g j).lo)→Fr a' N (putsS L (fun j=>(g j).v) 0 s)→
   Yields P o a' w' fun v w''=>(fs i).mk g v w' w'') (h2:bV P L fs a w l (i+1)):bV P L fs a w (o::l) i:=by
 simp only [Bool.and_eq_true] at hd
 exact ⟨fun g w' h1 h3 h4 h5 h6 h7=>.plain hd.1 (h _ g w' ⟨h1,h3,h4,h5,fun b hb=>h6 b hb (.inr he)⟩ h7 (r.puts L _ 0 hd.2)),h2⟩
theorem cJ {fs:Nat→Fact w.heap.size S} {o:Oper} {l:List Oper} {i:Nat} (r:Fr a N s) (hd:(o.guard.isNone&&dstsIn N L)=true)
  (h:∀ a' g w',Chg S w w'→(∀ j,bF o j=true→(fs j).ok g j w'∧w.heap.size≤(g j).lo∧(g j).hi≤w'.heap.size∧∀ q,bF o q=true→q≠j→(g j).hi≤(g q).lo∨(g q).hi≤(g j).lo)→Fr a' N (putsS L (fun j=>(g j).v) 0 s)→
   Yields P o a' w' fun v w''=>(fs i).mk g v w' w'') (h2:bV P L fs a w l (i+1)):bV P L fs a w (o::l) i:=by
 simp only [Bool.and_eq_true] at hd
 exact ⟨fun g w' h1 h3 h4 h5 h6 h7=>.plain hd.1 (h _ g w' ⟨h1,h3,h4,h5,fun b hb hn=>h6 b hb (.inl hn)⟩ h7 (r.puts L _ 0 hd.2)),h2⟩
theorem iM {id:Nat} (k:Nat) (S:Nat→Prop) (fl:List (Fact w.heap.size S)) (hm:P.follows .mixedOrders=true) (r:Fr a N s) (hSB:∀ b,S b→b<w.heap.size) (hs:(drawnOk L k&&shapely (L.take k)&&noGuards (L.take k)&&(freely (L.take k) (fun i=>(fact fl i).sh)&&dstsIn N (L.take k)&&okW (L.take k) fl))=true)
  (he:bV P (L.take k) (fact fl) a { w with drawn:=w.drawn+1 } (L.take k) 0)
  (hl:∀ a' g w',Chg S w w'→(∀ i,Nat.ble (i+1) (L.take k).length=true→(fact fl i).ok g i w'∧w.heap.size≤(g i).lo∧(g i).lo≤(g i).hi∧(g i).hi≤w'.heap.size)→
   (∀ i j,(!(i==j)&&Nat.ble (i+1) (L.take k).length&&Nat.ble (j+1) (L.take k).length)=true→(g i).hi≤(g j).lo∨(g j).hi≤(g i).lo)→Fr a' N (putsS (L.take k) (fun j=>(g j).v) 0 s)→wpList P L.toArray Q (L.drop k) a' w') :
  (Code.region id L.toArray true).wp P Q a w:=by
 simp only [Bool.and_eq_true] at hs
 obtain ⟨⟨⟨hs1,hs2⟩,hs3⟩,hs⟩:=hs;refine qF hm hs1 hs2 hs3 (jI (fact fl) (iU hs.2) rfl hSB hs.1.1 (iT hs.2) he fun g w' h1 h2 h3 h4 h5 h6 h7=>⟨rfl,hl _ g w' ⟨h1,h2,h3,h4,fun b hb hn=>h5 b hb hn⟩ (fun i hi=>h6 i (Nat.le_of_ble_eq_true hi)) (fun i j hij=>?_) (r.puts (L.take k) _ 0 hs.1.2)⟩)
 simp only [Bool.and_eq_true,Bool.not_eq_true',beq_eq_false_iff_ne] at hij
 exact h7 i j hij.1.1 (Nat.le_of_ble_eq_true hij.1.2) (Nat.le_of_ble_eq_true hij.2)
end
def StepE {R:Type} (P:Program) (E:Enc R) (n:Nat) (t:T R) (F:Nat→Prop):Value→Nat→Nat→World→Prop:=fun v lo hi w=>RepL P E n t (fun b=>F b∨(lo≤b∧b<hi)) w v
theorem StepE.st {R:Type} {P:Program} {E:Enc R} {n:Nat} {t:T R} {F:Nat→Prop} {B:Nat} (hF:∀ b,F b→b<B):∀ v lo hi w1 w2,StepE P E n t F v lo hi w1→Kept B (fun _=>False) lo hi w1 w2→StepE P E n t F v lo hi w2:=by
 rintro v lo hi w1 w2 h ⟨_,_,_,hz,hk⟩;refine RepL.mono (fun b hb=>hb) (fun b hb=>hk b ?_) hz n _ _ h
 rcases hb with hb | hb
 ·exact .inl ⟨hF b hb,fun h=>h⟩
 ·exact .inr hb
section
variable {P : Program} {a : Act} {w : World} {d : Option Tmp} {ty : TypeId} {pos : String} {aft : Array Edge}
variable {ops : Array Oper} {Q : Exit → Act → World → Prop} {rest : List Oper} {N : Nat} {s : SL}
theorem kJ {R:Type} {E:Enc R} {m:Nat} {t:T R} {F:Nat→Prop} {f:FuncId} {xs:List Operand} {ts:Array TypeId} {args:List Value} (hfr:Fr a N s) (hc:Calls P f args.toArray w (aw P E m t F w)) (hx:xs.map (lookO s)=args)
  (hf:af P f=true) (hg:dstIn N d=true) (hk:∀ {a} w' v,Chg F w w'→RepL P E m t (grow F w w') w' v→Fr a N (putS s d v)→wpList P ops Q rest a w'):wpList P ops Q (⟨d,.call ⟨.value (.func f),xs.toArray,ts⟩,ty,pos,aft,none⟩::rest) a w:=
 kC hfr hc hx hf hg (by rintro _ w' ⟨v,rfl,hb,hr⟩; exact ⟨_,rfl,fun a r=>hk w' v hb hr r⟩)
end
end Go.Proofs.YtbbipmelhmgmfaaGreat

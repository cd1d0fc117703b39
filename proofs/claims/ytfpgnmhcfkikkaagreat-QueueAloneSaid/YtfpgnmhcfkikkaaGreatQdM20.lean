/- Some of our texts, one behind the other. -/
import Derived.Test.YtfpgnmhcfkikkaaGreatQdM19
import Derived.Test.YtfpgnmhcfkikkaaGreatQdOps
import Derived.Test.YtfpgnmhcfkikkaaGreatQdM8
import Derived.Test.YtfpgnmhcfkikkaaGreatQdM6
import Derived.Test.YtfpgnmhcfkikkaaGreatQdM7
import Derived.Test.YtfpgnmhcfkikkaaGreatQdBase
import Derived.Test.YtfpgnmhcfkikkaaGreatQdMem
import Derived.Test.YtfpgnmhcfkikkaaGreatQdM17
set_option linter.all false
/- Ours. -/
namespace Go.Proofs.YtfpgnmhcfkikkaaGreat
open Go.RowKit
theorem oz:∀ (k:Nat) (r:List Int),k=r.length→bQ (fun _=>false) k r=([],r.reverse)
  | 0,r,h=>by rw [List.length_eq_zero_iff.1 h.symm]; rfl
  | k+1,r,h=>by
    rcases List.eq_nil_or_concat r with rfl | ⟨s,z,rfl⟩
    · cases h
    rw [List.concat_eq_append] at *
    have hk:k=s.length:=by simpa using h
    have e1:(s++[z])[k]?=some z:=by rw [hk]; simp
    have e2:((s++[z]).set k (((s++[z]).getLast?).getD 0)).dropLast=s:=by
      rw [hk]; simp
    simp only [bQ,e1,Bool.false_eq_true,if_false,e2,oz k s hk]
    simp
structure Pool where
  fr:List Int
  rt:List Int
  st:Int→State
def Pool.back (m:Int) (P:Pool) (n:Int):Pool:=
  ⟨if (D.bB (P.st n) m).mode=3 then P.fr else n::P.fr,P.rt,fun q=>if q=n then D.bB (P.st n) m else P.st q⟩
def Pool.scan (P:Pool) (m:Int):Pool:=P.rt.reverse.foldl (Pool.back m) ⟨P.fr,[],P.st⟩
theorem iJ (m:Int):∀ (l:List Int) (P:Pool),(l.foldl (Pool.back m) P).rt=P.rt
  | [],_=>rfl
  | n::l,P=>by rw [List.foldl_cons,iJ m l]; rfl
theorem jG (m:Int):∀ (l:List Int) (P:Pool),l.Nodup→∀ n,(l.foldl (Pool.back m) P).st n=if n∈l then D.bB (P.st n) m else P.st n
  | [],_,_,_=>rfl
  | a::l,P,hn,n=>by
    obtain ⟨h1,h2⟩:=List.nodup_cons.1 hn;rw [List.foldl_cons,jG m l _ h2]
    by_cases e:n=a
    · subst e
      rw [if_neg h1,if_pos (List.mem_cons_self ..)]
      exact if_pos rfl
    · have hs:(Pool.back m P a).st n=P.st n:=if_neg e
      rw [hs]
      by_cases h:n∈l
      · rw [if_pos h,if_pos (List.mem_cons_of_mem _ h)]
      · rw [if_neg h,if_neg (fun h'=>by rcases List.mem_cons.1 h' with h' | h'; exact e h'; exact h h')]
theorem jF (m:Int):∀ (l:List Int) (P:Pool),l.Nodup→(l.foldl (Pool.back m) P).fr=l.foldl (fun l n=>if (D.bB (P.st n) m).mode=3 then l else n::l) P.fr
  | [],_,_=>rfl
  | a::l,P,hn=>by
    obtain ⟨h1,h2⟩:=List.nodup_cons.1 hn;rw [List.foldl_cons,List.foldl_cons,jF m l _ h2];have:∀ (k:List Int) (L L':List Int),(∀ q,q∈k→q≠a)→L=L'→k.foldl (fun l n=>if (D.bB ((Pool.back m P a).st n) m).mode=3 then l else n::l) L=k.foldl (fun l n=>if (D.bB (P.st n) m).mode=3 then l else n::l) L':=by
      intro k
      induction k with
      | nil=>rintro L _ _ rfl; rfl
      | cons q k ih=>
        rintro L _ hq rfl;rw [List.foldl_cons,List.foldl_cons];have hs:(Pool.back m P a).st q=P.st q:=if_neg (hq q (List.mem_cons_self ..));exact ih _ _ (fun q' h=>hq q' (List.mem_cons_of_mem _ h)) (by rw [hs])
    exact this l _ _ (fun q hq e=>h1 (e ▸ hq)) rfl
structure PoolAt (p:Plan) (t:Int) (ws:List Int) (P:Pool) (g:Int):Prop where
  free:FreeAt p ws P.fr g
  ret:RetAt p ws t P.rt
  nod:P.rt.Nodup
  dis:∀ n,n∈P.rt→n ∉ P.fr
  st:∀ n,0≤n→n<p.nodes→StAt p ws n (P.st n)
  hz:∀ j,0≤j→j<p.threads * 3→rd ws (D.aT p+j)=0
  zero:∀ n f,n∈P.fr→0≤f→f<3→rd ws (sp p n+2+f)=0
def KeptP (p:Plan) (t:Int) (P:Pool) (ws ws':List Int):Prop:=
  ws'.length=ws.length∧∀ j,0<j→(∀ n,n∈P.fr∨n∈P.rt→¬ ofNode p n j)→¬ (rb p t≤j∧j<rb p t+1+p.retire)→rd ws' j=rd ws j
theorem PoolAt.scan {p:Plan} (hp:PF p) (hnn:p.nodes≤1000) {t:Int} (ht:0≤t∧t<p.threads) {ws:List Int} {P:Pool} {g:Int} (h:PoolAt p t ws P g) (hg:g<900000) (J:Nat) (hJ:1100<J) :
    ∃ (m:Nat) (ws':List Int) (g':Int),m≤70 * P.rt.length+1∧g'≤g+P.rt.length∧Runs (D.fE J p t) ws m (P.rt.length:Int) ws'∧PoolAt p t ws' (P.scan p.gen) g'∧KeptP p t P ws ws':=by
  have hN:=ct hp;have hz:=bZ hp;obtain ⟨p1,p2,p3⟩:=cB hp ht;have hh:∀ n,n∈P.rt→((fun _=>false) n=true↔heldW p ws n):=by
    intro n hn;have:=(h.ret.range n hn).1
    constructor
    · intro h; cases h
    · rintro ⟨j,j0,j1,hj⟩
      rw [h.hz j j0 j1] at hj
      omega
  obtain ⟨m,ws',hm,hr,hs⟩:=zR hp hnn ht J hJ h.free.len h.ret h.free (fun n hn=>h.dis n hn) h.nod hh hg
  rw [oz P.rt.length P.rt rfl] at hr hs
  simp only [List.length_reverse] at hr
  obtain ⟨g',hg',hF⟩:=hs.free;have hnr:P.rt.reverse.Nodup:=List.pairwise_reverse.2 (h.nod.imp fun h e=>h e.symm)
  have htof:∀ n,n∈P.rt→tof p ws n=D.bB (P.st n) p.gen:=fun n hn=>by
    have hn':=h.ret.range n hn;unfold tof;have:=(h.st n hn'.1 hn'.2).of;unfold sp at this
    rw [this]
  have hfr:pushAll p ws P.rt.reverse P.fr=(P.scan p.gen).fr:=by
    unfold Pool.scan;rw [jF _ _ _ hnr];unfold pushAll;have:∀ (k L:List Int),(∀ n,n∈k→n∈P.rt)→k.foldl (fun l n=>if (tof p ws n).mode=3 then l else n::l) L=k.foldl (fun l n=>if (D.bB (P.st n) p.gen).mode=3 then l else n::l) L:=by
      intro k
      induction k with
      | nil=>intro _ _; rfl
      | cons q k ih=>
        intro L hq;rw [List.foldl_cons,List.foldl_cons,htof q (hq q (List.mem_cons_self ..))];exact ih _ fun n hn=>hq n (List.mem_cons_of_mem _ hn)
    exact this _ _ fun n hn=>List.mem_reverse.1 hn
  have hsub:∀ n,n∈(P.scan p.gen).fr→n∈P.rt∨n∈P.fr:=fun n hn=>by
    rw [←hfr] at hn
    rcases rT hn with h | h
    · exact .inl (List.mem_reverse.1 h)
    · exact .inr h
  have hrt:(P.scan p.gen).rt=[]:=iJ _ _ _;rw [hfr] at hF
  have hst:∀ n,(P.scan p.gen).st n=if n∈P.rt then D.bB (P.st n) p.gen else P.st n:=fun n=>by
    unfold Pool.scan;rw [jG _ _ _ hnr];simp only [List.mem_reverse]
  have hrr:=h.ret.range;have hkeep:∀ j,0<j→(∀ n,n∈P.rt→¬ ofNode p n j)→¬ (rb p t≤j∧j<rb p t+1+p.retire)→rd ws' j=rd ws j:=fun j j0 h1 h2=>hs.others j j0 (fun n hn=>h1 n (List.mem_reverse.1 hn)) h2
  have hge:=hp.g2;refine ⟨m,ws',g',hm,by simpa using hg',hr,⟨hF,by rw [hrt]; exact hs.ret,by rw [hrt]; exact List.nodup_nil,fun n hn=>(by rw [hrt] at hn; cases hn),fun n n0 n1=>?_,fun j j0 j1=>?_,fun n f hn f0 f1=>?_⟩,hs.len,fun j j0 h1 h2=>hkeep j j0 (fun n hn=>h1 n (.inr hn)) h2⟩
  · rw [hst]
    by_cases hn:n∈P.rt
    · rw [if_pos hn]
      refine ⟨?_,(h.st n n0 n1).2.freed (by omega)⟩;have:=hs.states n (List.mem_reverse.2 hn);rw [htof n hn] at this
      exact this
    · rw [if_neg hn]
      refine ⟨?_,(h.st n n0 n1).2⟩;rw [hkeep (sp p n) (by unfold sp; omega) (fun q hq hq'=>?_) (by unfold sp; omega)]
      · exact (h.st n n0 n1).1
      · unfold ofNode sp at hq'
        exact hn (by rw [show n=q by omega]; exact hq)
  · rw [hkeep _ (by omega) (fun q hq=>by have:=(hrr q hq).1; unfold ofNode; omega) (by omega)]
    exact h.hz j j0 j1
  · by_cases hq:n∈P.rt
    · exact hs.fields n f (List.mem_reverse.2 hq) f0 f1
    · have hnf:n∈P.fr:=(hsub n hn).resolve_left hq
      have:=h.free.range n hnf;rw [hkeep _ (by unfold sp; omega) (fun q hq' hq''=>?_) (by unfold sp; omega)]
      · exact h.zero n f hnf f0 f1
      · unfold ofNode sp at hq''
        exact hq (by rw [show n=q by omega]; exact hq')
theorem PoolAt.keep {p:Plan} (hp:PF p) {t:Int} (ht:0≤t∧t<p.threads) {ws ws':List Int} {P:Pool} {g:Int} (h:PoolAt p t ws P g) {st:Int→State} (hl:ws'.length=ws.length) (h0:rd ws' 0=rd ws 0)
    (hr:∀ j,rb p t≤j→j<rb p t+1+p.retire→rd ws' j=rd ws j) (hf:∀ n f,n∈P.fr→1≤f→f<5→rd ws' (sp p n+f)=rd ws (sp p n+f)) (hz:∀ j,0≤j→j<p.threads * 3→rd ws' (D.aT p+j)=rd ws (D.aT p+j))
    (hs:∀ n,0≤n→n<p.nodes→StAt p ws' n (st n)):PoolAt p t ws' ⟨P.fr,P.rt,st⟩ g:=
  ⟨h.free.keep hl h0 fun n hn=>by have:=hf n 1 hn (by omega) (by omega); unfold sp at this; exact this,h.ret.keep hr,h.nod,h.dis,hs,fun j j0 j1=>(hz j j0 j1).trans (h.hz j j0 j1),fun n f hn f0 f1=>by
    have:=hf n (2+f) hn (by omega) (by omega)
    rw [←Int.add_assoc] at this
    exact this.trans (h.zero n f hn f0 f1)⟩
def Pool.out (P:Pool) (k:Int):Pool × Grant:=
  match P.fr with
  | []=>(P,⟨-1,0,4⟩)
  | n::l=>(⟨l,P.rt,fun q=>if q=n then D.cS (P.st n) k else P.st q⟩,⟨n,(P.st n).gen,0⟩)
def Pool.grant (P:Pool) (m k:Int):Pool × Grant:=match P.fr with
  | []=>(P.scan m).out k
  | _::_=>P.out k
theorem PoolAt.took {p:Plan} (hp:PF p) {t:Int} (ht:0≤t∧t<p.threads) {ws ws':List Int} {n k:Int} {l r:List Int} {st:Int→State} {g:Int} (h:PoolAt p t ws ⟨n::l,r,st⟩ g) (hk:0≤k∧k≤2)
    (hl:ws'.length=ws.length) (hF:FreeAt p ws' l (g+1)) (hst:StAt p ws' n (D.cS (st n) k)) (ho:∀ j,0<j→j≠sp p n→rd ws' j=rd ws j) :
    PoolAt p t ws' ⟨l,r,fun q=>if q=n then D.cS (st n) k else st q⟩ (g+1):=by
  have hN:=ct hp;have hz:=bZ hp;obtain ⟨p1,p2,p3⟩:=cB hp ht;have hn:=h.free.range n (List.mem_cons_self ..);refine ⟨hF,h.ret.keep fun j j0 j1=>ho j (by omega) (by unfold sp; omega),h.nod,fun q hq hq'=>h.dis q hq (List.mem_cons_of_mem _ hq'),fun q q0 q1=>?_,fun j j0 j1=>?_,fun q f hq f0 f1=>?_⟩
  · by_cases e:q=n
    · subst e
      show StAt p ws' q (if q=q then _ else _)
      rw [if_pos rfl]; exact hst
    · show StAt p ws' q (if q=n then _ else _)
      rw [if_neg e]
      have:=h.st q q0 q1;exact ⟨by rw [ho _ (by unfold sp; omega) (by unfold sp; omega)]; exact this.1,this.2⟩
  · rw [ho _ (by omega) (by unfold sp; omega)]; exact h.hz j j0 j1
  · have hqr:=h.free.range q (List.mem_cons_of_mem _ hq)
    rw [ho _ (by unfold sp; omega) (by unfold sp; omega)]
    exact h.zero q f (List.mem_cons_of_mem _ hq) f0 f1
theorem AR {P:Pool} {m n:Int} (h:n ∉ P.rt) (hd:P.rt.Nodup):(P.scan m).st n=P.st n:=by
  unfold Pool.scan;rw [jG m _ _ (List.pairwise_reverse.2 (hd.imp fun h e=>h e.symm)),if_neg]
  simpa using h
theorem lX {P:Pool} {m n:Int} (hd:P.rt.Nodup) (h:n∈(P.scan m).fr):n∈P.rt∨n∈P.fr:=by
  unfold Pool.scan at h
  rw [jF m _ _ (List.pairwise_reverse.2 (hd.imp fun h e=>h e.symm))] at h
  have:∀ (k L:List Int),n∈k.foldl (fun l n=>if (D.bB (P.st n) m).mode=3 then l else n::l) L→n∈k∨n∈L:=by
    intro k
    induction k with
    | nil=>exact fun L h=>.inr h
    | cons a k ih=>
      intro L h
      rcases ih _ h with h | h
      · exact .inl (List.mem_cons_of_mem _ h)
      · replace h:n∈(if (D.bB (P.st a) m).mode=3 then L else a::L):=h
        split at h
        · exact .inr h
        · rcases List.mem_cons.1 h with rfl | h
          · exact .inl (List.mem_cons_self ..)
          · exact .inr h
  rcases this _ _ h with h | h
  · exact .inl (List.mem_reverse.1 h)
  · exact .inr h
theorem PoolAt.grant {p:Plan} (hp:PF p) (hnn:p.nodes≤1000) {t:Int} (ht:0≤t∧t<p.threads) {ws:List Int} {P:Pool} {g k:Int} (hk:0≤k∧k≤2) (h:PoolAt p t ws P g) (hg:g<900000) (J:Nat) (hJ:1100<J) :
    ∃ (m:Nat) (ws':List Int) (g':Int),m≤70 * P.rt.length+10∧g'≤g+P.rt.length+1∧Runs (D.eU J p t k) ws m (P.grant p.gen k).2 ws'∧PoolAt p t ws' (P.grant p.gen k).1 g'∧KeptP p t P ws ws':=by
  have hN:=ct hp;have hz:=bZ hp;obtain ⟨p1,p2,p3⟩:=cB hp ht;have hrm:=h.ret.room;have hr2:=hp.r2;obtain ⟨fr,rt,st⟩:=P;cases fr with
  | cons n l=>
    have hn:=h.free.range n (List.mem_cons_self ..);obtain ⟨K,rfl⟩:∃ K,J=K+1:=⟨J - 1,by omega⟩
    obtain ⟨ws',hr,hl,hF,hst,ho⟩:=ma hp (t:=t) h.free (by omega) (by omega) (h.st n hn.1 hn.2) hk K;refine ⟨5,ws',g+1,by omega,by omega,hr,h.took hp ht hk hl hF hst ho,hl,fun j j0 h1 h2=>ho j j0 fun e=>h1 n (.inl (List.mem_cons_self ..)) (by unfold ofNode; unfold sp at e; omega)⟩
  | nil=>
    have hh:∀ n,n∈rt→((fun _=>false) n=true↔heldW p ws n):=by
      intro n hn;have:=(h.ret.range n hn).1
      constructor
      · intro h; cases h
      · rintro ⟨j,j0,j1,hj⟩
        rw [h.hz j j0 j1] at hj
        omega
    obtain ⟨K,rfl⟩:∃ K,J=K+1:=⟨J - 1,by omega⟩
    obtain ⟨m1,ws1,g1,hm1,hg1,hr1,h1,hk1⟩:=h.scan hp hnn ht hg (K+1) hJ;have hnew:∀ {m:Nat} {gr:Grant} {ws':List Int},Runs (T.bind (D.cF (K+1) p) (fun x=>D.cW p k x)) ws1 m gr ws'→Runs (D.eU (K+1) p t k) ws (m1+1+m) gr ws':=fun {m gr ws'} hr=>by
      refine (Runs.bind (g:=fun x=>D.ef (K+1) p k t (fun x=>D.cW p k x) x) (oP hp h.free (by omega) K) (m:=m1+m) ?_).cast (by omega)
      unfold D.ef;rw [show ((-1:Int) !=-1)=false from rfl]
      exact Runs.bind (g:=fun x=>D.jk (K+1) p (fun x=>D.cW p k x) x) hr1 hr
    show ∃ (m:Nat) (ws':List Int) (g':Int),_∧_∧Runs _ ws m (((⟨[],rt,st⟩:Pool).scan p.gen).out k).2 ws'∧PoolAt p t ws' (((⟨[],rt,st⟩:Pool).scan p.gen).out k).1 g'∧_
    have hfr:∀ n,n∈((⟨[],rt,st⟩:Pool).scan p.gen).fr→n∈rt:=fun n hn=>(lX h.nod hn).resolve_right fun h=>(by cases h)
    have hgl:g1<1000000:=by omega
    generalize hQ:(⟨[],rt,st⟩:Pool).scan p.gen=Q at h1 hfr
    obtain ⟨fr',rt',st'⟩:=Q;cases fr' with
    | nil=>
      exact ⟨m1+1+1,ws1,g1,by omega,by omega,hnew (si hp h1.free hgl K),h1,hk1⟩
    | cons n l=>
      have hn:=h1.free.range n (List.mem_cons_self ..);obtain ⟨ws',hr,hl,hF,hst,ho⟩:=su hp h1.free (by omega) hgl (h1.st n hn.1 hn.2) hk K
      refine ⟨m1+1+5,ws',g1+1,by omega,by omega,hnew hr,h1.took hp ht hk hl hF hst ho,hl.trans hk1.1,fun j j0 h2 h3=>(ho j j0 fun e=>?_).trans (hk1.2 j j0 h2 h3)⟩
      exact h2 n (.inr (hfr n (List.mem_cons_self ..))) (by unfold ofNode; unfold sp at e; omega)
def Pool.stash (P:Pool) (room m n:Int):Pool:=
  let Q:=if (P.rt.length:Int)<room then P else P.scan m
  ⟨Q.fr,Q.rt++[n],Q.st⟩
theorem PoolAt.put {p:Plan} (hp:PF p) {t:Int} (ht:0≤t∧t<p.threads) {ws ws':List Int} {P:Pool} {g n:Int} (h:PoolAt p t ws P g) (hnr:n ∉ P.rt) (hnf:n ∉ P.fr)
    (hf:(P.rt.length:Int)<p.retire) (hl:ws'.length=ws.length) (hR:RetAt p ws' t (P.rt++[n])) (ho:∀ j,0≤j→j≠rb p t→j≠rb p t+1+P.rt.length→rd ws' j=rd ws j) :
    PoolAt p t ws' ⟨P.fr,P.rt++[n],P.st⟩ g:=by
  have hN:=ct hp;have hz:=bZ hp;obtain ⟨p1,p2,p3⟩:=cB hp ht;refine ⟨h.free.keep hl (ho 0 (by omega) (by omega) (by omega)) fun q hq=>?_,hR,?_,fun q hq=>?_,fun q q0 q1=>?_,fun j j0 j1=>?_,fun q f hq f0 f1=>?_⟩
  · have:=h.free.range q hq
    exact ho _ (by unfold nx; omega) (by unfold nx; omega) (by unfold nx; omega)
  · refine List.nodup_append.2 ⟨h.nod,List.nodup_cons.2 ⟨List.not_mem_nil,List.nodup_nil⟩,fun a ha b hb e=>?_⟩
    rw [List.mem_singleton.1 hb] at e
    exact hnr (e ▸ ha)
  · rcases List.mem_append.1 hq with hq | hq
    · exact h.dis q hq
    · rw [List.mem_singleton.1 hq]; exact hnf
  · have:=h.st q q0 q1
    exact ⟨by rw [ho _ (by unfold sp; omega) (by unfold sp; omega) (by unfold sp; omega)]; exact this.1,this.2⟩
  · rw [ho _ (by omega) (by omega) (by omega)]; exact h.hz j j0 j1
  · have:=h.free.range q hq
    rw [ho _ (by unfold sp; omega) (by unfold sp; omega) (by unfold sp; omega)]
    exact h.zero q f hq f0 f1
theorem PoolAt.stash {p:Plan} (hp:PF p) (hnn:p.nodes≤1000) {t:Int} (ht:0≤t∧t<p.threads) {ws:List Int} {P:Pool} {g n:Int} (h:PoolAt p t ws P g) (hn:0≤n∧n<p.nodes) (hnr:n ∉ P.rt) (hnf:n ∉ P.fr) (hg:g<900000) (J:Nat) (hJ:1100<J) :
    ∃ (m:Nat) (ws':List Int) (g':Int),m≤70 * P.rt.length+10∧g'≤g+P.rt.length∧Runs (D.lJ J p t n) ws m n ws'∧PoolAt p t ws' (P.stash p.retire p.gen n) g'∧KeptP p t P ws ws':=by
  have hN:=ct hp;have hz:=bZ hp;obtain ⟨p1,p2,p3⟩:=cB hp ht;have hrm:=h.ret.room;have hr1:=hp.r1;have ht1:=hp.t1;have hz0:=eE hp
  by_cases hf:(P.rt.length:Int)<p.retire
  · obtain ⟨ws',hr,hl,hR,ho⟩:=zx hp ht hn (by omega) h.free.len h.ret hf J
    refine ⟨3,ws',g,by omega,by omega,hr,?_,hl,fun j j0 h1 h2=>ho j (by omega) (by omega) (by omega)⟩
    unfold Pool.stash;rw [if_pos hf];exact h.put hp ht hnr hnf hf hl hR ho
  · obtain ⟨m1,ws1,g1,hm1,hg1,hr1',h1,hk1⟩:=h.scan hp hnn ht hg J hJ
    have hrt:(P.scan p.gen).rt=[]:=iJ _ _ _;have hret:=h1.ret;rw [hrt] at hret
    have hpos:(([]:List Int).length:Int)<p.retire:=by simp; omega
    obtain ⟨ws',hr,hl,hR,ho⟩:=sW hp ht hn (by omega) h1.free.len hret hpos;have hfull:=Ab (n:=n) hp ht h.free.len h.ret (by omega);refine ⟨1+(m1+(3+0)),ws',g1,by omega,by omega,?_,?_,hl.trans hk1.1,fun j j0 h2 h3=>(ho j (by omega) (by omega) (by simp; omega)).trans (hk1.2 j j0 h2 h3)⟩
    · refine Runs.bind (g:=fun x=>D.fD J n p t (fun x=>D.ed n x) x) hfull ?_
      unfold D.fD;rw [show ((-1:Int) !=-1)=false from rfl]
      refine Runs.bind (g:=fun x=>D.lm p t n (fun x=>D.ed n x) x) hr1' ?_
      refine Runs.bind (g:=fun x=>D.ed n x) hr ?_
      unfold D.ed;exact .done _ _
    · unfold Pool.stash
      rw [if_neg hf]
      have hx:=h1.put (n:=n) hp ht (by rw [hrt]; exact List.not_mem_nil) (fun hx=>(lX h.nod hx).elim hnr hnf) (by rw [hrt]; exact hpos) hl (by rw [hrt]; exact hR) (by rw [hrt]; exact ho)
      exact hx
theorem bs4 {x1 y1 x2 y2 x3 y3 x4 y4:Nat × Value} {P:Program} {α:Type} {f:Array (Nat × Value)→Sem α} {w:World} {r:Result α} (h1:x1=y1) (h2:x2=y2) (h3:x3=y3) (h4:x4=y4) (h:(f [y1,y2,y3,y4].toArray).run P w=r):(f [x1,x2,x3,x4].toArray).run P w=r:=by rw [h1,h2,h3,h4]; exact h
end Go.Proofs.YtfpgnmhcfkikkaaGreat

/- Ours. -/
set_option maxRecDepth 20000
set_option maxHeartbeats 2000000
namespace Go.Proofs.YtfpgnmhcfkikkaaGreat.St
open Go.RowKit
def D.yE (fu:Nat) :Option (List Field):=(some ([(⟨0,20⟩:Field),(⟨20,30⟩:Field),(⟨50,6⟩:Field),(⟨58,6⟩:Field)]))
def D.iz (fu:Nat) (a0:Int):Option (Handle × Bool):=((D.yE fu ).bind (fun (x5:List Field)=>((D.fG fu x5 a0).bind (fun (x9:List Int × Int)=>(Option.bind (bif (x9.2 !=0) then (some true) else ((getI x9.1 3).bind (fun (x15:Int)=>(some (x15 !=42))))) (fun (x16:Bool)=>(bif x16 then (some ((⟨0,0,0⟩:Handle),false)) else ((getI x9.1 0).bind (fun (x22:Int)=>((getI x9.1 1).bind (fun (x23:Int)=>((getI x9.1 2).bind (fun (x24:Int)=>(some ((⟨(IntKind.i64.wrap x22),(IntKind.i64.wrap x23),(IntKind.i64.wrap x24)⟩:Handle),true)))))))))))))))
end Go.Proofs.YtfpgnmhcfkikkaaGreat.St

/- Ours. -/
namespace Go.Proofs.YtfpgnmhcfkikkaaGreat
open Go.RowKit
def D.iz (w:Int):Handle × Bool:=(St.D.iz 10 w).getD (⟨0,0,0⟩,false)
end Go.Proofs.YtfpgnmhcfkikkaaGreat

/- Ours. -/
set_option maxRecDepth 20000
set_option maxHeartbeats 2000000
namespace Go.Proofs.YtfpgnmhcfkikkaaGreat
open Go.RowKit
def D.zu (a0:Int) (a1:Int) (a2:Int):Handle × Bool:=(bif (!((D.iz a0).2)) then ((⟨0,0,0⟩:Handle),false) else (bif ((((D.iz a0).1).tenant) !=a1) then ((⟨0,0,0⟩:Handle),false) else (bif (decide ((((D.iz a0).1).index)≥a2)) then ((⟨0,0,0⟩:Handle),false) else ((D.iz a0).1,true))))
def FnHAt {R:Type} (P:Program) (E:Enc R) (F:Nat→Prop) (w:World) (f:FuncId) (first cap:List Value) (d:Int→(Int→T R)→T R):Prop:=
  ∀ (m:Nat) (x:Int) {nf:FuncId} {n1 n2:List Value} {g:Int→T R} (F':Nat→Prop) (w':World),(∀ b,F b→F' b)→Same F w w'→w.heap.size≤w'.heap.size→(∀ b,F' b→b<w'.heap.size)→
    FnT P E u64 m F' w' (.func (.func nf) n1.toArray n2.toArray) g→Calls P f (first++[Value.int .i64 x,Value.func (.func nf) n1.toArray n2.toArray]++cap).toArray w' (av P E m (d x g) F' w')
def FnH {R:Type} (P:Program) (E:Enc R) (F:Nat→Prop) (w:World) (fv:Value) (d:Int→(Int→T R)→T R):Prop:=
  ∃ (f:FuncId) (first cap:List Value),ak P f=true∧fv=.func (.func f) first.toArray cap.toArray∧FnHAt P E F w f first cap d
section
variable {R : Type} {P : Program} {E : Enc R}
theorem FnH.mono {F F':Nat→Prop} {w w':World} {fv:Value} {d:Int→(Int→T R)→T R} (h:FnH P E F w fv d)
    (hs:∀ b,F b→F' b) (h1:Same F w w') (h2:w.heap.size≤w'.heap.size):FnH P E F' w' fv d:=by
  obtain ⟨f,first,cap,hc,hv,h⟩:=h;exact ⟨f,first,cap,hc,hv,fun m x nf n1 n2 g F1 w1 k1 k2 k3 k4 k5=>h m x F1 w1 (fun b hb=>k1 b (hs b hb)) (h1.trans (k2.sub hs)) (by omega) k4 k5⟩
theorem FnH.at_ {F:Nat→Prop} {w:World} {f:FuncId} {first cap:List Value} {d:Int→(Int→T R)→T R} (h:FnH P E F w (.func (.func f) first.toArray cap.toArray) d) :
    ak P f=true∧FnHAt P E F w f first cap d:=by
  obtain ⟨f',first',cap',hc,he,hf⟩:=h;simp only [Value.func.injEq,Fn.func.injEq] at he
  obtain ⟨e1,e2,e3⟩:=he;have e2':first=first':=by simpa using congrArg Array.toList e2
  have e3':cap=cap':=by simpa using congrArg Array.toList e3
  subst e1; subst e2'; subst e3';exact ⟨hc,hf⟩
end
end Go.Proofs.YtfpgnmhcfkikkaaGreat

/- Ours. -/
set_option maxRecDepth 20000
set_option maxHeartbeats 2000000
namespace Go.Proofs.YtfpgnmhcfkikkaaGreat
open Go.RowKit
theorem pO:ak Tryz.prog 162:=by kernel_rfl
theorem iU:ak Tryz.prog 178:=by kernel_rfl
theorem jX:ak Tryz.prog 180:=by kernel_rfl
theorem cl45:ak Tryz.prog 45:=by kernel_rfl
theorem dV:ba Tryz.prog 90 0 0:=by kernel_rfl
theorem jQ:ba Tryz.prog 90 2 7:=by kernel_rfl
theorem ta90:tyA Tryz.prog 90 8:=by kernel_rfl
def D.nC (a0:Seat):Bool:=(bif (D.cJ a0.p) then (bif (decide (a0.tenant≥0)) then (bif (decide (a0.tenant<64)) then (bif (decide (a0.thread≥0)) then (decide (a0.thread<a0.p.threads)) else false) else false) else false) else false)
inductive FP where
  | val (c:Value)
  | put (k:Nat) (c:Array Value) (T:TypeId)
def FP.v:FP→Value
  | .val c=>c
  | .put _ _ _=>undef
def FP.slot:FP→Option Nat
  | .put k _ _=>some k
  | .val _=>none
def FP.mk (bs:List Nat) (w' w'':World):FP→Prop
  | .val _=>Below w'.heap.size w' w''
  | .put k c T=>∃ b,bs[k]?=some b∧Upd w' w'' b (.cells c T (0,0))
def fct:List FP→Nat→FP
  | [],_=>.val undef
  | f::_,0=>f
  | _::l,n+1=>fct l n
section
variable {P : Program} {Q : Exit → Act → World → Prop} {L : List Oper} {a : Act} {w : World} {fl : List FP} {bs : List Nat}
structure PInv (L:List Oper) (fl:List FP) (bs:List Nat) (a:Act) (w0:World) (listed:Array Bool) (g:Nat→Value) (a':Act) (w':World):Prop where
  act:a'=puts L g 0 a
  closed:∀ i o,L[i]?=some o→listed.getD i false=true→∀ e,e∈o.after→Region.binds .any e=true→listed.getD e.on false=true
  os:w'.os=w0.os
  tape:w'.tape=w0.tape
  output:w'.output=w0.output
  size:w0.heap.size≤w'.heap.size
  old:∀ b,b<w0.heap.size→b ∉ bs→w'.heap[b]?=w0.heap[b]?
  vals:∀ i,i<L.length→listed.getD i false=true→g i=(fct fl i).v
  un:∀ k b,bs[k]?=some b→(∀ i,i<L.length→listed.getD i false=true→(fct fl i).slot≠some k)→w'.heap[b]?=w0.heap[b]?
  done:∀ i k c T b,i<L.length→listed.getD i false=true→fct fl i=.put k c T→bs[k]?=some b→w'.heap[b]?=some (.cells c T (0,0))
variable {N : Nat} {s : SL}
end
/-! ### Chunks -/
section
variable {L : List Ck} {d : Ck} {w w' w0 : World} {i i1 i2 b1 b2 : Nat} {a1 a2 c1 c2 : Array Value} {T1 T2 S1 S2 : TypeId} {Z : Nat → Prop}
end
end Go.Proofs.YtfpgnmhcfkikkaaGreat

/- Ours. -/
set_option maxRecDepth 20000
set_option maxHeartbeats 2000000
namespace Go.Proofs.YtfpgnmhcfkikkaaGreat
open Go.RowKit
theorem cl56:ak Tryz.prog 56:=by kernel_rfl
theorem uj:ba Tryz.prog 81 0 0:=by kernel_rfl
structure HF (h:Handle):Prop where
  i0:0≤h.index
  i1:h.index<1048576
  g0:0≤h.gen
  g1:h.gen≤1073741823
  t0:0≤h.tenant
  t1:h.tenant<64
theorem runR {t:T Res} {M:Mem} {ws':List Int} {n:Nat} {most:Int} {r:Res} {fu:Nat} (h:Runs t M.ws n r ws') (hm:(n:Int)≤most) (hm2:most≤1000000) (hn:n<fu):∃ c,D.ia fu (fu,t) M cap0 most=some (r,(n:Int),true,⟨ws',c⟩):=by
  have h2:=tX (z:=(⟨0,0⟩:Res)) (fu:=fu) (d:=fu) (most:=most) h hm hm2 (Nat.le_of_lt hn) hn;exact h2
theorem ig {at_:Int} {f:Int→T Res} {ws ws':List Int} {n:Nat} {r:Res} (h0:0≤at_) (h1:at_<ws.length) (h:Runs (f (rd ws at_)) ws n r ws'):Runs (D.eP at_ f) ws (n+1) r ws':=Runs.load h0 h1 h
theorem o9 {at_ w:Int} {f:Unit→T Res} {ws ws':List Int} {n:Nat} {r:Res} (h0:0≤at_) (h1:at_<ws.length) (h:Runs (f ()) (ws.set at_.toNat w) n r ws'):Runs (D.jh at_ w f) ws (n+1) r ws':=Runs.store h0 h1 h
theorem oI {at_ was w:Int} {f:Bool→T Res} {ws ws':List Int} {n:Nat} {r:Res} (h0:0≤at_) (h1:at_<ws.length) (h:Runs (f (rd ws at_==was)) (if rd ws at_=was then ws.set at_.toNat w else ws) n r ws'):Runs (D.dQ at_ was w f) ws (n+1) r ws':=by
  refine Runs.act (op:=2) (by omega) (fM h0 h1) ?_;have:acted 2 at_ was w (rd ws at_) ws=(if rd ws at_=was then ws.set at_.toNat w else ws):=by simp [acted]
  rw [this]
  exact h
def Eq1 (ws ws':List Int):Prop:=ws'.length=ws.length∧∀ j,0≤j→rd ws' j=rd ws j
def fp (p:Plan) (n f:Int):Int:=sp p n+2+f
section
variable {s : Seat} (hs : D.nC s = true) {ws : List Int} (hl : Len s.p ws) {w f : Int} {h : Handle} (hm : D.zu w s.tenant s.p.nodes = (h, true)) (hn : 0 ≤ h.index ∧ h.index < s.p.nodes)
include hs hl hm hn
end
theorem PoolAt.start {p:Plan} (hp:PF p) {ws:List Int} (h:LaidAt p ws) {t:Int} (ht:0≤t∧t<p.threads):PoolAt p t ws ⟨allN p,[],fun _=>⟨0,0,0⟩⟩ 0:=by
  have hN:=ct hp;have hF:=sO hp h;refine ⟨hF,tw hp h ht,List.nodup_nil,fun _ h=>(by cases h),fun n n0 n1=>rW hp h ⟨n0,n1⟩,fun j j0 j1=>Bi hp h j0 j1,fun n f hn f0 f1=>?_⟩
  have hr:=hF.range n hn;exact h.zero _ (by unfold sp; omega) fun m _ _=>by unfold sp; omega
section
variable {s : Seat} (hs : D.nC s = true) (hnn : s.p.nodes ≤ 1000) {ws : List Int} {P : Pool} {g : Int} (h : PoolAt s.p s.thread ws P g) (hg : g < 900000)
include hs hnn h hg
end
theorem oJ {P:Pool} {m n:Int} (hd:P.rt.Nodup) (h:n∈(P.scan m).fr):(n∈P.rt∧(D.bB (P.st n) m).mode≠3)∨n∈P.fr:=by
  unfold Pool.scan at h
  rw [jF m _ _ (List.pairwise_reverse.2 (hd.imp fun h e=>h e.symm))] at h
  have:∀ (k L:List Int),n∈k.foldl (fun l n=>if (D.bB (P.st n) m).mode=3 then l else n::l) L→(n∈k∧(D.bB (P.st n) m).mode≠3)∨n∈L:=by
    intro k
    induction k with
    | nil=>exact fun L h=>.inr h
    | cons a k ih=>
      intro L h
      rcases ih _ h with h | h
      · exact .inl ⟨List.mem_cons_of_mem _ h.1,h.2⟩
      · replace h:n∈(if (D.bB (P.st a) m).mode=3 then L else a::L):=h
        split at h
        · exact .inr h
        · rename_i hne
          rcases List.mem_cons.1 h with rfl | h
          · exact .inl ⟨List.mem_cons_self ..,hne⟩
          · exact .inr h
  rcases this _ _ h with h | h
  · exact .inl ⟨List.mem_reverse.1 h.1,h.2⟩
  · exact .inr h
theorem zJ (s:State) (m:Int):(D.bB s m).mode=3∨(D.bB s m).mode=0:=by
  unfold D.bB;cases decide (s.gen≥m)
  · exact .inr rfl
  · exact .inl rfl
theorem p9 (P:Pool) (m:Int):(P.scan m).rt=[]:=iJ _ _ _
structure ModesP (P:Pool):Prop where
  mf:∀ n,n∈P.fr→(P.st n).mode=0
  mr:∀ n,n∈P.rt→(P.st n).mode=2
theorem ModesP.scan {P:Pool} (h:ModesP P) (hd:P.rt.Nodup) (m:Int):ModesP (P.scan m):=by
  refine ⟨fun n hn=>?_,fun n hn=>by rw [p9] at hn; cases hn⟩
  have hst:(P.scan m).st n=if n∈P.rt then D.bB (P.st n) m else P.st n:=by
    unfold Pool.scan;rw [jG _ _ _ (List.pairwise_reverse.2 (hd.imp fun h e=>h e.symm))]
    simp only [List.mem_reverse]
  rw [hst]
  rcases oJ hd hn with ⟨h1,h2⟩ | h1
  · rw [if_pos h1]
    exact (zJ _ _).resolve_left h2
  · by_cases h2:n∈P.rt
    · have:=h.mr n h2
      have:=h.mf n h1;omega
    · rw [if_neg h2]; exact h.mf n h1
theorem ModesP.out {P:Pool} (h:ModesP P) (hn:P.fr.Nodup) (hd:∀ n,n∈P.rt→n ∉ P.fr) (k:Int):ModesP (P.out k).1:=by
  obtain ⟨fr,rt,st⟩:=P;cases fr with
  | nil=>exact h
  | cons n l=>
    have hnl:=(List.nodup_cons.1 hn).1;refine ⟨fun q hq=>?_,fun q hq=>?_⟩
    · have hne:q≠n:=fun e=>hnl (e ▸ hq)
      show (if q=n then _ else st q).mode=0
      rw [if_neg hne]
      exact h.mf q (List.mem_cons_of_mem _ hq)
    · have hne:q≠n:=fun e=>hd q hq (e ▸ List.mem_cons_self ..)
      show (if q=n then _ else st q).mode=2
      rw [if_neg hne]
      exact h.mr q hq
theorem ModesP.stash {P:Pool} (h:ModesP P) (hd:P.rt.Nodup) {room m n:Int} (hn:(P.st n).mode=2) (hr:n ∉ P.rt):ModesP (P.stash room m n):=by
  unfold Pool.stash
  split
  · refine ⟨h.mf,fun q hq=>?_⟩
    rcases List.mem_append.1 hq with hq | hq
    · exact h.mr q hq
    · rw [List.mem_singleton.1 hq]; exact hn
  · have hs:=h.scan hd m
    refine ⟨hs.mf,fun q hq=>?_⟩
    rcases List.mem_append.1 hq with hq | hq
    · exact hs.mr q hq
    · rw [List.mem_singleton.1 hq]
      show ((P.scan m).st n).mode=2
      rw [AR hr hd]; exact hn
structure BoxAt (p:Plan) (t:Int) (ws:List Int) (P:Pool) (g:Int):Prop where
  pool:PoolAt p t ws P g
  modes:ModesP P
theorem PoolAt.putf {p:Plan} (hp:PF p) {t:Int} (ht:0≤t∧t<p.threads) {ws ws':List Int} {P:Pool} {g n f:Int} (h:PoolAt p t ws P g) (hn:0≤n∧n<p.nodes) (hnf:n ∉ P.fr) (hf:0≤f∧f<3) (hl:ws'.length=ws.length)
    (ho:∀ j,0≤j→j≠fp p n f→rd ws' j=rd ws j):PoolAt p t ws' P g:=by
  obtain ⟨z1,z2,z3,z4⟩:=bZ hp;obtain ⟨p1,p2,p3⟩:=cB hp ht;have hfp:fp p n f=D.aJ p+n * 5+2+f:=rfl;refine h.keep hp ht (st:=P.st) hl (ho 0 (by omega) (by omega)) (fun j j0 j1=>ho j (by omega) (by omega)) (fun q e hq e0 e1=>?_) (fun j j0 j1=>ho _ (by omega) (by omega)) (fun q q0 q1=>?_)
  · have hr:=h.free.range q hq
    have hne:q≠n:=fun e=>hnf (e ▸ hq)
    exact ho _ (by unfold sp; omega) (by unfold sp; omega)
  · have:=h.st q q0 q1
    exact ⟨by rw [ho _ (by unfold sp; omega) (by unfold sp; omega)]; exact this.1,this.2⟩
theorem PoolAt.same {p:Plan} (hp:PF p) {t:Int} (ht:0≤t∧t<p.threads) {ws ws':List Int} {P:Pool} {g:Int} (h:PoolAt p t ws P g) (he:Eq1 ws ws'):PoolAt p t ws' P g:=by
  obtain ⟨z1,z2,z3,z4⟩:=bZ hp;obtain ⟨p1,p2,p3⟩:=cB hp ht;refine h.keep hp ht (st:=P.st) he.1 (he.2 0 (by omega)) (fun j j0 j1=>he.2 j (by omega)) (fun q e hq e0 e1=>?_) (fun j j0 j1=>he.2 _ (by omega)) (fun q q0 q1=>?_)
  · have hr:=h.free.range q hq
    exact he.2 _ (by unfold sp; omega)
  · have:=h.st q q0 q1
    exact ⟨by rw [he.2 _ (by unfold sp; omega)]; exact this.1,this.2⟩
theorem BoxAt.put {p:Plan} (hp:PF p) {t:Int} (ht:0≤t∧t<p.threads) {ws ws':List Int} {P:Pool} {g n f:Int} (h:BoxAt p t ws P g) (hn:0≤n∧n<p.nodes) (hnf:n ∉ P.fr) (hf:0≤f∧f<3) (hl:ws'.length=ws.length)
    (ho:∀ j,0≤j→j≠fp p n f→rd ws' j=rd ws j):BoxAt p t ws' P g:=⟨h.pool.putf hp ht hn hnf hf hl ho,h.modes⟩
theorem BoxAt.same {p:Plan} (hp:PF p) {t:Int} (ht:0≤t∧t<p.threads) {ws ws':List Int} {P:Pool} {g:Int} (h:BoxAt p t ws P g) (he:Eq1 ws ws'):BoxAt p t ws' P g:=⟨h.pool.same hp ht he,h.modes⟩
section
variable {s : Seat} (hs : D.nC s = true) (hnn : s.p.nodes ≤ 40) (hrr : s.p.retire ≤ 40) {ws : List Int} {P : Pool} {g : Int} (h : BoxAt s.p s.thread ws P g) (hg : g < 800000)
include hs hnn hrr h hg
end
/-! ### Guards -/
theorem sr {p:Plan} (hp:PF p) {ws:List Int} (hl:Len p ws) {t s at_ sh w:Int} (ht:0≤t∧t<p.threads) (hs:0≤s∧s<3) (h0:0≤at_) (h1:at_<D.cd p) (hne:at_≠D.aT p+t * 3+s)
    (hw0:0≤w) (hw1:w<1099511627776) (hsh:0≤sh∧sh<3) (hw:rd ws at_=w) (k:Nat) :
    (w / 2 ^ sh.toNat - 1<0→Runs (D.eQ (k+1) p t s at_ sh w) ws 0 w ws)∧
    (¬ w / 2 ^ sh.toNat - 1<0→Runs (D.eQ (k+1) p t s at_ sh w) ws 2 w (ws.set (D.aT p+t * 3+s).toNat (w / 2 ^ sh.toNat))):=by
  obtain ⟨h2,h3,h4⟩:=BA hw0 hsh;obtain ⟨g1,g2,g3,g4⟩:=bZ hp;have hn1:=hp.n1;have hb:D.eQ (k+1) p t s at_ sh w=D.fW (D.eQ k) p t s at_ sh w:=rfl;have hq:IntKind.i64.wrap (IntKind.i64.wrap (shrI .u64 w sh) - 1)=w / 2 ^ sh.toNat - 1:=by
    rw [h2,bh (x:=w / 2 ^ sh.toNat) (by omega) (by omega),bh (by omega) (by omega)]
  constructor
  · intro hlt
    rw [hb]
    unfold D.fW;rw [hq,show decide (w / 2 ^ sh.toNat - 1<0)=true from by simpa using hlt]
    exact .done _ _
  · intro hge
    rw [hb]
    unfold D.fW;rw [hq,show decide (w / 2 ^ sh.toNat - 1<0)=false from by simpa using hge]
    have hr:=jy hp hl ht hs (n:=w / 2 ^ sh.toNat - 1) (by omega)
    rw [show w / 2 ^ sh.toNat - 1+1=w / 2 ^ sh.toNat from by omega] at hr
    show Runs ((D.gy p t s (w / 2 ^ sh.toNat - 1)).bind fun _=>D.lr (D.eQ k) at_ w p t s sh) ws (1+1) w _
    refine Runs.bind hr ?_;unfold Len at hl
    show Runs (.act 0 at_ 0 0 _) _ 1 _ _
    refine .load h0 (by simpa [hl] using h1) ?_;have hx:rd (ws.set (D.aT p+t * 3+s).toNat (w / 2 ^ sh.toNat)) at_=w:=by
      rw [bE (by omega) (by omega) h0,if_neg hne,hw]
    rw [hx]
    unfold D.jd;rw [show (w==w)=true from by simp]
    exact .done _ _
end Go.Proofs.YtfpgnmhcfkikkaaGreat

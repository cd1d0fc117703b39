/- Some of our texts, one behind the other. -/
import Derived.Test.YtikjpdpgdmbdpaaGreatLnM18
import Derived.Test.YtikjpdpgdmbdpaaGreatLnM8
import Derived.Test.YtikjpdpgdmbdpaaGreatLnM6
import Derived.Test.YtikjpdpgdmbdpaaGreatLnM7
import Derived.Test.YtikjpdpgdmbdpaaGreatLnOps
import Derived.Test.YtikjpdpgdmbdpaaGreatLnBase
import Derived.Test.YtikjpdpgdmbdpaaGreatLnMem
import Derived.Test.YtikjpdpgdmbdpaaGreatLnM16
set_option linter.all false
/- Ours. -/
namespace Go.Proofs.YtikjpdpgdmbdpaaGreat
open Go.RowKit
theorem ziO:∀ (k:Nat) (r:List Int),k=r.length→zpT (fun _=>false) k r=([],r.reverse)
  | 0,r,h=>by rw [List.length_eq_zero_iff.1 h.symm]; rfl
  | k+1,r,h=>by
    rcases List.eq_nil_or_concat r with rfl | ⟨s,z,rfl⟩
    · cases h
    rw [List.concat_eq_append] at *
    have hk:k=s.length:=by simpa using h
    have e1:(s++[z])[k]?=some z:=by rw [hk]; simp
    have e2:((s++[z]).set k (((s++[z]).getLast?).getD 0)).dropLast=s:=by
      rw [hk]; simp
    simp only [zpT,e1,Bool.false_eq_true,if_false,e2,ziO k s hk]
    simp
structure Pool where
  fr:List Int
  rt:List Int
  st:Int→State
def Pool.back (m:Int) (P:Pool) (n:Int):Pool:=
  ⟨if (D.za9 (P.st n) m).mode=3 then P.fr else n::P.fr,P.rt,fun q=>if q=n then D.za9 (P.st n) m else P.st q⟩
def Pool.scan (P:Pool) (m:Int):Pool:=P.rt.reverse.foldl (Pool.back m) ⟨P.fr,[],P.st⟩
theorem zh2 (m:Int):∀ (l:List Int) (P:Pool),(l.foldl (Pool.back m) P).rt=P.rt
  | [],_=>rfl
  | n::l,P=>by rw [List.foldl_cons,zh2 m l]; rfl
theorem ziM (m:Int):∀ (l:List Int) (P:Pool),l.Nodup→∀ n,(l.foldl (Pool.back m) P).st n=if n∈l then D.za9 (P.st n) m else P.st n
  | [],_,_,_=>rfl
  | a::l,P,hn,n=>by
    obtain ⟨h1,h2⟩:=List.nodup_cons.1 hn;rw [List.foldl_cons,ziM m l _ h2]
    by_cases e:n=a
    · subst e
      rw [if_neg h1,if_pos (List.mem_cons_self ..)]
      exact if_pos rfl
    · have hs:(Pool.back m P a).st n=P.st n:=if_neg e
      rw [hs]
      by_cases h:n∈l
      · rw [if_pos h,if_pos (List.mem_cons_of_mem _ h)]
      · rw [if_neg h,if_neg (fun h'=>by rcases List.mem_cons.1 h' with h' | h'; exact e h'; exact h h')]
theorem zj4 (m:Int):∀ (l:List Int) (P:Pool),l.Nodup→(l.foldl (Pool.back m) P).fr=l.foldl (fun l n=>if (D.za9 (P.st n) m).mode=3 then l else n::l) P.fr
  | [],_,_=>rfl
  | a::l,P,hn=>by
    obtain ⟨h1,h2⟩:=List.nodup_cons.1 hn;rw [List.foldl_cons,List.foldl_cons,zj4 m l _ h2];have:∀ (k:List Int) (L L':List Int),(∀ q,q∈k→q≠a)→L=L'→k.foldl (fun l n=>if (D.za9 ((Pool.back m P a).st n) m).mode=3 then l else n::l) L=k.foldl (fun l n=>if (D.za9 (P.st n) m).mode=3 then l else n::l) L':=by
      intro k
      induction k with
      | nil=>rintro L _ _ rfl; rfl
      | cons q k ih=>
        rintro L _ hq rfl;rw [List.foldl_cons,List.foldl_cons];have hs:(Pool.back m P a).st q=P.st q:=if_neg (hq q (List.mem_cons_self ..));exact ih _ _ (fun q' h=>hq q' (List.mem_cons_of_mem _ h)) (by rw [hs])
    exact this l _ _ (fun q hq e=>h1 (e ▸ hq)) rfl
structure PoolAt (p:Plan) (t:Int) (ws:List Int) (P:Pool) (g:Int):Prop where
  free:FreeAt p ws P.fr g
  ret:RetAt p ws t P.rt
  nod:P.rt.Nodup
  dis:∀ n,n∈P.rt→n ∉ P.fr
  st:∀ n,0≤n→n<p.nodes→StAt p ws n (P.st n)
  hz:∀ j,0≤j→j<p.threads * 3→rd ws (D.za1 p+j)=0
  zero:∀ n f,n∈P.fr→0≤f→f<3→rd ws (sp p n+2+f)=0
def KeptP (p:Plan) (t:Int) (P:Pool) (ws ws':List Int):Prop:=
  ws'.length=ws.length∧∀ j,0<j→(∀ n,n∈P.fr∨n∈P.rt→¬ zpy p n j)→¬ (rb p t≤j∧j<rb p t+1+p.retire)→rd ws' j=rd ws j
theorem PoolAt.scan {p:Plan} (hp:PF p) (hnn:p.nodes≤1000) {t:Int} (ht:0≤t∧t<p.threads) {ws:List Int} {P:Pool} {g:Int} (h:PoolAt p t ws P g) (hg:g<900000) (J:Nat) (hJ:1100<J) :
    ∃ (m:Nat) (ws':List Int) (g':Int),m≤70 * P.rt.length+1∧g'≤g+P.rt.length∧Runs (D.zcE J p t) ws m (P.rt.length:Int) ws'∧PoolAt p t ws' (P.scan p.gen) g'∧KeptP p t P ws ws':=by
  have hN:=zbe hp;have hz:=zpN hp;obtain ⟨p1,p2,p3⟩:=zpU hp ht;have hh:∀ n,n∈P.rt→((fun _=>false) n=true↔heldW p ws n):=by
    intro n hn;have:=(h.ret.range n hn).1
    constructor
    · intro h; cases h
    · rintro ⟨j,j0,j1,hj⟩
      rw [h.hz j j0 j1] at hj
      omega
  obtain ⟨m,ws',hm,hr,hs⟩:=zlN hp hnn ht J hJ h.free.len h.ret h.free (fun n hn=>h.dis n hn) h.nod hh hg
  rw [ziO P.rt.length P.rt rfl] at hr hs
  simp only [List.length_reverse] at hr
  obtain ⟨g',hg',hF⟩:=hs.free;have hnr:P.rt.reverse.Nodup:=List.pairwise_reverse.2 (h.nod.imp fun h e=>h e.symm)
  have htof:∀ n,n∈P.rt→tof p ws n=D.za9 (P.st n) p.gen:=fun n hn=>by
    have hn':=h.ret.range n hn;unfold tof;have:=(h.st n hn'.1 hn'.2).of;unfold sp at this
    rw [this]
  have hfr:pushAll p ws P.rt.reverse P.fr=(P.scan p.gen).fr:=by
    unfold Pool.scan;rw [zj4 _ _ _ hnr];unfold pushAll;have:∀ (k L:List Int),(∀ n,n∈k→n∈P.rt)→k.foldl (fun l n=>if (tof p ws n).mode=3 then l else n::l) L=k.foldl (fun l n=>if (D.za9 (P.st n) p.gen).mode=3 then l else n::l) L:=by
      intro k
      induction k with
      | nil=>intro _ _; rfl
      | cons q k ih=>
        intro L hq;rw [List.foldl_cons,List.foldl_cons,htof q (hq q (List.mem_cons_self ..))];exact ih _ fun n hn=>hq n (List.mem_cons_of_mem _ hn)
    exact this _ _ fun n hn=>List.mem_reverse.1 hn
  have hsub:∀ n,n∈(P.scan p.gen).fr→n∈P.rt∨n∈P.fr:=fun n hn=>by
    rw [←hfr] at hn
    rcases zi1 hn with h | h
    · exact .inl (List.mem_reverse.1 h)
    · exact .inr h
  have hrt:(P.scan p.gen).rt=[]:=zh2 _ _ _;rw [hfr] at hF
  have hst:∀ n,(P.scan p.gen).st n=if n∈P.rt then D.za9 (P.st n) p.gen else P.st n:=fun n=>by
    unfold Pool.scan;rw [ziM _ _ _ hnr];simp only [List.mem_reverse]
  have hrr:=h.ret.range;have hkeep:∀ j,0<j→(∀ n,n∈P.rt→¬ zpy p n j)→¬ (rb p t≤j∧j<rb p t+1+p.retire)→rd ws' j=rd ws j:=fun j j0 h1 h2=>hs.others j j0 (fun n hn=>h1 n (List.mem_reverse.1 hn)) h2
  have hge:=hp.g2;refine ⟨m,ws',g',hm,by simpa using hg',hr,⟨hF,by rw [hrt]; exact hs.ret,by rw [hrt]; exact List.nodup_nil,fun n hn=>(by rw [hrt] at hn; cases hn),fun n n0 n1=>?_,fun j j0 j1=>?_,fun n f hn f0 f1=>?_⟩,hs.len,fun j j0 h1 h2=>hkeep j j0 (fun n hn=>h1 n (.inr hn)) h2⟩
  · rw [hst]
    by_cases hn:n∈P.rt
    · rw [if_pos hn]
      refine ⟨?_,(h.st n n0 n1).2.freed kw⟩;have:=hs.states n (List.mem_reverse.2 hn);rw [htof n hn] at this
      exact this
    · rw [if_neg hn]
      refine ⟨?_,(h.st n n0 n1).2⟩;rw [hkeep (sp p n) (by unfold sp; omega) (fun q hq hq'=>?_) (by unfold sp; omega)]
      · exact (h.st n n0 n1).1
      · unfold zpy sp at hq'
        exact hn (by rw [show n=q by omega]; exact hq)
  · rw [hkeep _ kw (fun q hq=>by have:=(hrr q hq).1; unfold zpy; omega) kw]
    exact h.hz j j0 j1
  · by_cases hq:n∈P.rt
    · exact hs.fields n f (List.mem_reverse.2 hq) f0 f1
    · have hnf:n∈P.fr:=(hsub n hn).resolve_left hq
      have:=h.free.range n hnf;rw [hkeep _ (by unfold sp; omega) (fun q hq' hq''=>?_) (by unfold sp; omega)]
      · exact h.zero n f hnf f0 f1
      · unfold zpy sp at hq''
        exact hq (by rw [show n=q by omega]; exact hq')
theorem PoolAt.keep {p:Plan} (hp:PF p) {t:Int} (ht:0≤t∧t<p.threads) {ws ws':List Int} {P:Pool} {g:Int} (h:PoolAt p t ws P g) {st:Int→State} (hl:ws'.length=ws.length) (h0:rd ws' 0=rd ws 0)
    (hr:∀ j,rb p t≤j→j<rb p t+1+p.retire→rd ws' j=rd ws j) (hf:∀ n f,n∈P.fr→1≤f→f<5→rd ws' (sp p n+f)=rd ws (sp p n+f)) (hz:∀ j,0≤j→j<p.threads * 3→rd ws' (D.za1 p+j)=rd ws (D.za1 p+j))
    (hs:∀ n,0≤n→n<p.nodes→StAt p ws' n (st n)):PoolAt p t ws' ⟨P.fr,P.rt,st⟩ g:=
  ⟨h.free.keep hl h0 fun n hn=>by have:=hf n 1 hn kw kw; unfold sp at this; exact this,h.ret.keep hr,h.nod,h.dis,hs,fun j j0 j1=>(hz j j0 j1).trans (h.hz j j0 j1),fun n f hn f0 f1=>by
    have:=hf n (2+f) hn kw kw
    rw [←Int.add_assoc] at this
    exact this.trans (h.zero n f hn f0 f1)⟩
def Pool.out (P:Pool) (k:Int):Pool × Grant:=
  match P.fr with
  | []=>(P,⟨-1,0,4⟩)
  | n::l=>(⟨l,P.rt,fun q=>if q=n then D.zaV (P.st n) k else P.st q⟩,⟨n,(P.st n).gen,0⟩)
def Pool.grant (P:Pool) (m k:Int):Pool × Grant:=match P.fr with
  | []=>(P.scan m).out k
  | _::_=>P.out k
theorem PoolAt.took {p:Plan} (hp:PF p) {t:Int} (ht:0≤t∧t<p.threads) {ws ws':List Int} {n k:Int} {l r:List Int} {st:Int→State} {g:Int} (h:PoolAt p t ws ⟨n::l,r,st⟩ g) (hk:0≤k∧k≤2)
    (hl:ws'.length=ws.length) (hF:FreeAt p ws' l (g+1)) (hst:StAt p ws' n (D.zaV (st n) k)) (ho:∀ j,0<j→j≠sp p n→rd ws' j=rd ws j) :
    PoolAt p t ws' ⟨l,r,fun q=>if q=n then D.zaV (st n) k else st q⟩ (g+1):=by
  have hN:=zbe hp;have hz:=zpN hp;obtain ⟨p1,p2,p3⟩:=zpU hp ht;have hn:=h.free.range n (List.mem_cons_self ..);refine ⟨hF,h.ret.keep fun j j0 j1=>ho j kw (by unfold sp; omega),h.nod,fun q hq hq'=>h.dis q hq (List.mem_cons_of_mem _ hq'),fun q q0 q1=>?_,fun j j0 j1=>?_,fun q f hq f0 f1=>?_⟩
  · by_cases e:q=n
    · subst e
      show StAt p ws' q (if q=q then _ else _)
      rw [if_pos rfl]; exact hst
    · show StAt p ws' q (if q=n then _ else _)
      rw [if_neg e]
      have:=h.st q q0 q1;exact ⟨by rw [ho _ (by unfold sp; omega) (by unfold sp; omega)]; exact this.1,this.2⟩
  · rw [ho _ kw (by unfold sp; omega)]; exact h.hz j j0 j1
  · have hqr:=h.free.range q (List.mem_cons_of_mem _ hq)
    rw [ho _ (by unfold sp; omega) (by unfold sp; omega)]
    exact h.zero q f (List.mem_cons_of_mem _ hq) f0 f1
theorem zoU {P:Pool} {m n:Int} (h:n ∉ P.rt) (hd:P.rt.Nodup):(P.scan m).st n=P.st n:=by
  unfold Pool.scan;rw [ziM m _ _ (List.pairwise_reverse.2 (hd.imp fun h e=>h e.symm)),if_neg]
  simpa using h
theorem zhq {P:Pool} {m n:Int} (hd:P.rt.Nodup) (h:n∈(P.scan m).fr):n∈P.rt∨n∈P.fr:=by
  unfold Pool.scan at h
  rw [zj4 m _ _ (List.pairwise_reverse.2 (hd.imp fun h e=>h e.symm))] at h
  have:∀ (k L:List Int),n∈k.foldl (fun l n=>if (D.za9 (P.st n) m).mode=3 then l else n::l) L→n∈k∨n∈L:=by
    intro k
    induction k with
    | nil=>exact fun L h=>.inr h
    | cons a k ih=>
      intro L h
      rcases ih _ h with h | h
      · exact .inl (List.mem_cons_of_mem _ h)
      · replace h:n∈(if (D.za9 (P.st a) m).mode=3 then L else a::L):=h
        split at h
        · exact .inr h
        · rcases List.mem_cons.1 h with rfl | h
          · exact .inl (List.mem_cons_self ..)
          · exact .inr h
  rcases this _ _ h with h | h
  · exact .inl (List.mem_reverse.1 h)
  · exact .inr h
theorem PoolAt.grant {p:Plan} (hp:PF p) (hnn:p.nodes≤1000) {t:Int} (ht:0≤t∧t<p.threads) {ws:List Int} {P:Pool} {g k:Int} (hk:0≤k∧k≤2) (h:PoolAt p t ws P g) (hg:g<900000) (J:Nat) (hJ:1100<J) :
    ∃ (m:Nat) (ws':List Int) (g':Int),m≤70 * P.rt.length+10∧g'≤g+P.rt.length+1∧Runs (D.zdm J p t k) ws m (P.grant p.gen k).2 ws'∧PoolAt p t ws' (P.grant p.gen k).1 g'∧KeptP p t P ws ws':=by
  have hN:=zbe hp;have hz:=zpN hp;obtain ⟨p1,p2,p3⟩:=zpU hp ht;have hrm:=h.ret.room;have hr2:=hp.r2;obtain ⟨fr,rt,st⟩:=P;cases fr with
  | cons n l=>
    have hn:=h.free.range n (List.mem_cons_self ..);obtain ⟨K,rfl⟩:∃ K,J=K+1:=⟨J - 1,kw⟩
    obtain ⟨ws',hr,hl,hF,hst,ho⟩:=zmm hp (t:=t) h.free kw kw (h.st n hn.1 hn.2) hk K;refine ⟨5,ws',g+1,kw,kw,hr,h.took hp ht hk hl hF hst ho,hl,fun j j0 h1 h2=>ho j j0 fun e=>h1 n (.inl (List.mem_cons_self ..)) (by unfold zpy; unfold sp at e; omega)⟩
  | nil=>
    have hh:∀ n,n∈rt→((fun _=>false) n=true↔heldW p ws n):=by
      intro n hn;have:=(h.ret.range n hn).1
      constructor
      · intro h; cases h
      · rintro ⟨j,j0,j1,hj⟩
        rw [h.hz j j0 j1] at hj
        omega
    obtain ⟨K,rfl⟩:∃ K,J=K+1:=⟨J - 1,kw⟩
    obtain ⟨m1,ws1,g1,hm1,hg1,hr1,h1,hk1⟩:=h.scan hp hnn ht hg (K+1) hJ;have hnew:∀ {m:Nat} {gr:Grant} {ws':List Int},Runs (T.bind (D.zbM (K+1) p) (fun x=>D.zbn p k x)) ws1 m gr ws'→Runs (D.zdm (K+1) p t k) ws (m1+1+m) gr ws':=fun {m gr ws'} hr=>by
      refine (Runs.bind (g:=fun x=>D.zcj (K+1) p k t (fun x=>D.zbn p k x) x) (zld hp h.free kw K) (m:=m1+m) ?_).cast kw
      unfold D.zcj;rw [show ((-1:Int) !=-1)=false from rfl]
      exact Runs.bind (g:=fun x=>D.zdZ (K+1) p (fun x=>D.zbn p k x) x) hr1 hr
    show ∃ (m:Nat) (ws':List Int) (g':Int),_∧_∧Runs _ ws m (((⟨[],rt,st⟩:Pool).scan p.gen).out k).2 ws'∧PoolAt p t ws' (((⟨[],rt,st⟩:Pool).scan p.gen).out k).1 g'∧_
    have hfr:∀ n,n∈((⟨[],rt,st⟩:Pool).scan p.gen).fr→n∈rt:=fun n hn=>(zhq h.nod hn).resolve_right fun h=>(by cases h)
    have hgl:g1<1000000:=kw
    generalize hQ:(⟨[],rt,st⟩:Pool).scan p.gen=Q at h1 hfr
    obtain ⟨fr',rt',st'⟩:=Q;cases fr' with
    | nil=>
      exact ⟨m1+1+1,ws1,g1,kw,kw,hnew (zkT hp h1.free hgl K),h1,hk1⟩
    | cons n l=>
      have hn:=h1.free.range n (List.mem_cons_self ..);obtain ⟨ws',hr,hl,hF,hst,ho⟩:=zkJ hp h1.free kw hgl (h1.st n hn.1 hn.2) hk K
      refine ⟨m1+1+5,ws',g1+1,kw,kw,hnew hr,h1.took hp ht hk hl hF hst ho,hl.trans hk1.1,fun j j0 h2 h3=>(ho j j0 fun e=>?_).trans (hk1.2 j j0 h2 h3)⟩
      exact h2 n (.inr (hfr n (List.mem_cons_self ..))) (by unfold zpy; unfold sp at e; omega)
def Pool.stash (P:Pool) (room m n:Int):Pool:=
  let Q:=if (P.rt.length:Int)<room then P else P.scan m
  ⟨Q.fr,Q.rt++[n],Q.st⟩
theorem PoolAt.put {p:Plan} (hp:PF p) {t:Int} (ht:0≤t∧t<p.threads) {ws ws':List Int} {P:Pool} {g n:Int} (h:PoolAt p t ws P g) (hnr:n ∉ P.rt) (hnf:n ∉ P.fr)
    (hf:(P.rt.length:Int)<p.retire) (hl:ws'.length=ws.length) (hR:RetAt p ws' t (P.rt++[n])) (ho:∀ j,0≤j→j≠rb p t→j≠rb p t+1+P.rt.length→rd ws' j=rd ws j) :
    PoolAt p t ws' ⟨P.fr,P.rt++[n],P.st⟩ g:=by
  have hN:=zbe hp;have hz:=zpN hp;obtain ⟨p1,p2,p3⟩:=zpU hp ht;refine ⟨h.free.keep hl (ho 0 kw kw kw) fun q hq=>?_,hR,?_,fun q hq=>?_,fun q q0 q1=>?_,fun j j0 j1=>?_,fun q f hq f0 f1=>?_⟩
  · have:=h.free.range q hq
    exact ho _ (by unfold nx; omega) (by unfold nx; omega) (by unfold nx; omega)
  · refine List.nodup_append.2 ⟨h.nod,List.nodup_cons.2 ⟨List.not_mem_nil,List.nodup_nil⟩,fun a ha b hb e=>?_⟩
    rw [List.mem_singleton.1 hb] at e
    exact hnr (e ▸ ha)
  · rcases List.mem_append.1 hq with hq | hq
    · exact h.dis q hq
    · rw [List.mem_singleton.1 hq]; exact hnf
  · have:=h.st q q0 q1
    exact ⟨by rw [ho _ (by unfold sp; omega) (by unfold sp; omega) (by unfold sp; omega)]; exact this.1,this.2⟩
  · rw [ho _ kw kw kw]; exact h.hz j j0 j1
  · have:=h.free.range q hq
    rw [ho _ (by unfold sp; omega) (by unfold sp; omega) (by unfold sp; omega)]
    exact h.zero q f hq f0 f1
theorem PoolAt.stash {p:Plan} (hp:PF p) (hnn:p.nodes≤1000) {t:Int} (ht:0≤t∧t<p.threads) {ws:List Int} {P:Pool} {g n:Int} (h:PoolAt p t ws P g) (hn:0≤n∧n<p.nodes) (hnr:n ∉ P.rt) (hnf:n ∉ P.fr) (hg:g<900000) (J:Nat) (hJ:1100<J) :
    ∃ (m:Nat) (ws':List Int) (g':Int),m≤70 * P.rt.length+10∧g'≤g+P.rt.length∧Runs (D.zfa J p t n) ws m n ws'∧PoolAt p t ws' (P.stash p.retire p.gen n) g'∧KeptP p t P ws ws':=by
  have hN:=zbe hp;have hz:=zpN hp;obtain ⟨p1,p2,p3⟩:=zpU hp ht;have hrm:=h.ret.room;have hr1:=hp.r1;have ht1:=hp.t1;have hz0:=zq6 hp
  by_cases hf:(P.rt.length:Int)<p.retire
  · obtain ⟨ws',hr,hl,hR,ho⟩:=zkF hp ht hn kw h.free.len h.ret hf J
    refine ⟨3,ws',g,kw,kw,hr,?_,hl,fun j j0 h1 h2=>ho j kw kw kw⟩
    unfold Pool.stash;rw [if_pos hf];exact h.put hp ht hnr hnf hf hl hR ho
  · obtain ⟨m1,ws1,g1,hm1,hg1,hr1',h1,hk1⟩:=h.scan hp hnn ht hg J hJ
    have hrt:(P.scan p.gen).rt=[]:=zh2 _ _ _;have hret:=h1.ret;rw [hrt] at hret
    have hpos:(([]:List Int).length:Int)<p.retire:=by simp; omega
    obtain ⟨ws',hr,hl,hR,ho⟩:=zl2 hp ht hn kw h1.free.len hret hpos;have hfull:=zmO (n:=n) hp ht h.free.len h.ret kw;refine ⟨1+(m1+(3+0)),ws',g1,kw,kw,?_,?_,hl.trans hk1.1,fun j j0 h2 h3=>(ho j kw kw (by simp; omega)).trans (hk1.2 j j0 h2 h3)⟩
    · refine Runs.bind (g:=fun x=>D.zbQ J n p t (fun x=>D.zbj n x) x) hfull ?_
      unfold D.zbQ;rw [show ((-1:Int) !=-1)=false from rfl]
      refine Runs.bind (g:=fun x=>D.zd0 p t n (fun x=>D.zbj n x) x) hr1' ?_
      refine Runs.bind (g:=fun x=>D.zbj n x) hr ?_
      unfold D.zbj;exact .done _ _
    · unfold Pool.stash
      rw [if_neg hf]
      have hx:=h1.put (n:=n) hp ht (by rw [hrt]; exact List.not_mem_nil) (fun hx=>(zhq h.nod hx).elim hnr hnf) (by rw [hrt]; exact hpos) hl (by rw [hrt]; exact hR) (by rw [hrt]; exact ho)
      exact hx
end Go.Proofs.YtikjpdpgdmbdpaaGreat

/- Ours. -/
set_option maxRecDepth 20000
set_option maxHeartbeats 2000000
namespace Go.Proofs.YtikjpdpgdmbdpaaGreat.St
open Go.RowKit
def D.zlv (fu:Nat) :Option (List Field):=(some ([(⟨0,20⟩:Field),(⟨20,30⟩:Field),(⟨50,6⟩:Field),(⟨58,6⟩:Field)]))
def D.zfX (fu:Nat) (a0:Int):Option (Handle × Bool):=((D.zlv fu ).bind (fun (x5:List Field)=>((D.zcX fu x5 a0).bind (fun (x9:List Int × Int)=>(Option.bind (bif (x9.2 !=0) then (some true) else ((getI x9.1 3).bind (fun (x15:Int)=>(some (x15 !=42))))) (fun (x16:Bool)=>(bif x16 then (some ((⟨0,0,0⟩:Handle),false)) else ((getI x9.1 0).bind (fun (x22:Int)=>((getI x9.1 1).bind (fun (x23:Int)=>((getI x9.1 2).bind (fun (x24:Int)=>(some ((⟨(IntKind.i64.wrap x22),(IntKind.i64.wrap x23),(IntKind.i64.wrap x24)⟩:Handle),true)))))))))))))))
end Go.Proofs.YtikjpdpgdmbdpaaGreat.St

/- Ours. -/
namespace Go.Proofs.YtikjpdpgdmbdpaaGreat
open Go.RowKit
def D.zfX (w:Int):Handle × Bool:=(St.D.zfX 10 w).getD (⟨0,0,0⟩,false)
end Go.Proofs.YtikjpdpgdmbdpaaGreat

/- Ours. -/
set_option maxRecDepth 20000
set_option maxHeartbeats 2000000
namespace Go.Proofs.YtikjpdpgdmbdpaaGreat
open Go.RowKit
def D.zm5 (a0:Int) (a1:Int) (a2:Int):Handle × Bool:=(bif (!((D.zfX a0).2)) then ((⟨0,0,0⟩:Handle),false) else (bif ((((D.zfX a0).1).tenant) !=a1) then ((⟨0,0,0⟩:Handle),false) else (bif (decide ((((D.zfX a0).1).index)≥a2)) then ((⟨0,0,0⟩:Handle),false) else ((D.zfX a0).1,true))))
def FnHAt {R:Type} (P:Program) (E:Enc R) (F:Nat→Prop) (w:World) (f:FuncId) (first cap:List Value) (d:Int→(Int→T R)→T R):Prop:=
  ∀ (m:Nat) (x:Int) {nf:FuncId} {n1 n2:List Value} {g:Int→T R} (F':Nat→Prop) (w':World),(∀ b,F b→F' b)→Same F w w'→w.heap.size≤w'.heap.size→(∀ b,F' b→b<w'.heap.size)→
    FnT P E u64 m F' w' (.func (.func nf) n1.toArray n2.toArray) g→Calls P f (first++[Value.int .i64 x,Value.func (.func nf) n1.toArray n2.toArray]++cap).toArray w' (zpl P E m (d x g) F' w')
def FnH {R:Type} (P:Program) (E:Enc R) (F:Nat→Prop) (w:World) (fv:Value) (d:Int→(Int→T R)→T R):Prop:=
  ∃ (f:FuncId) (first cap:List Value),zpd P f=true∧fv=.func (.func f) first.toArray cap.toArray∧FnHAt P E F w f first cap d
section
variable {R : Type} {P : Program} {E : Enc R}
theorem FnH.mono {F F':Nat→Prop} {w w':World} {fv:Value} {d:Int→(Int→T R)→T R} (h:FnH P E F w fv d)
    (hs:∀ b,F b→F' b) (h1:Same F w w') (h2:w.heap.size≤w'.heap.size):FnH P E F' w' fv d:=by
  obtain ⟨f,first,cap,hc,hv,h⟩:=h;exact ⟨f,first,cap,hc,hv,fun m x nf n1 n2 g F1 w1 k1 k2 k3 k4 k5=>h m x F1 w1 (fun b hb=>k1 b (hs b hb)) (h1.trans (k2.sub hs)) kw k4 k5⟩
theorem FnH.at_ {F:Nat→Prop} {w:World} {f:FuncId} {first cap:List Value} {d:Int→(Int→T R)→T R} (h:FnH P E F w (.func (.func f) first.toArray cap.toArray) d) :
    zpd P f=true∧FnHAt P E F w f first cap d:=by
  obtain ⟨f',first',cap',hc,he,hf⟩:=h;simp only [Value.func.injEq,Fn.func.injEq] at he
  obtain ⟨e1,e2,e3⟩:=he;have e2':first=first':=by simpa using congrArg Array.toList e2
  have e3':cap=cap':=by simpa using congrArg Array.toList e3
  subst e1; subst e2'; subst e3';exact ⟨hc,hf⟩
end
end Go.Proofs.YtikjpdpgdmbdpaaGreat

/- Ours. -/
set_option maxRecDepth 20000
set_option maxHeartbeats 2000000
namespace Go.Proofs.YtikjpdpgdmbdpaaGreat
open Go.RowKit
theorem zr2:zpd Tryz.prog 116:=kz
theorem zrR:zpd Tryz.prog 125:=kz
theorem zr4:zpd Tryz.prog 127:=kz
theorem cl23:zpd Tryz.prog 23:=kz
theorem zew:zpm Tryz.prog 63 0 0:=kz
theorem zjO:zpm Tryz.prog 63 2 7:=kz
theorem ta63:tyA Tryz.prog 63 8:=kz
def D.zem (a0:Seat):Bool:=(bif (D.zaP a0.p) then (bif (decide (a0.tenant≥0)) then (bif (decide (a0.tenant<64)) then (bif (decide (a0.thread≥0)) then (decide (a0.thread<a0.p.threads)) else false) else false) else false) else false)
inductive FP where
  | val (c:Value)
  | put (k:Nat) (c:Array Value) (T:TypeId)
def FP.v:FP→Value
  | .val c=>c
  | .put _ _ _=>undef
def FP.slot:FP→Option Nat
  | .put k _ _=>some k
  | .val _=>none
def FP.mk (bs:List Nat) (w' w'':World):FP→Prop
  | .val _=>Below w'.heap.size w' w''
  | .put k c T=>∃ b,bs[k]?=some b∧Upd w' w'' b (.cells c T (0,0))
def fct:List FP→Nat→FP
  | [],_=>.val undef
  | f::_,0=>f
  | _::l,n+1=>fct l n
section
variable {P : Program} {Q : Exit → Act → World → Prop} {L : List Oper} {a : Act} {w : World} {fl : List FP} {bs : List Nat}
structure PInv (L:List Oper) (fl:List FP) (bs:List Nat) (a:Act) (w0:World) (listed:Array Bool) (g:Nat→Value) (a':Act) (w':World):Prop where
  act:a'=puts L g 0 a
  closed:∀ i o,L[i]?=some o→listed.getD i false=true→∀ e,e∈o.after→Region.binds .any e=true→listed.getD e.on false=true
  os:w'.os=w0.os
  tape:w'.tape=w0.tape
  output:w'.output=w0.output
  size:w0.heap.size≤w'.heap.size
  old:∀ b,b<w0.heap.size→b ∉ bs→w'.heap[b]?=w0.heap[b]?
  vals:∀ i,i<L.length→listed.getD i false=true→g i=(fct fl i).v
  un:∀ k b,bs[k]?=some b→(∀ i,i<L.length→listed.getD i false=true→(fct fl i).slot≠some k)→w'.heap[b]?=w0.heap[b]?
  done:∀ i k c T b,i<L.length→listed.getD i false=true→fct fl i=.put k c T→bs[k]?=some b→w'.heap[b]?=some (.cells c T (0,0))
variable {N : Nat} {s : SL}
end
/-! ### Chunks -/
section
variable {L : List Ck} {d : Ck} {w w' w0 : World} {i i1 i2 b1 b2 : Nat} {a1 a2 c1 c2 : Array Value} {T1 T2 S1 S2 : TypeId} {Z : Nat → Prop}
end
end Go.Proofs.YtikjpdpgdmbdpaaGreat

/- Ours. -/
set_option maxRecDepth 20000
set_option maxHeartbeats 2000000
namespace Go.Proofs.YtikjpdpgdmbdpaaGreat
open Go.RowKit
theorem cl37:zpd Tryz.prog 37:=kz
theorem zoe:zpm Tryz.prog 54 0 0:=kz
def hof (w:Int):Handle × Bool:=if w / 72057594037927936 % 4=0∧w / 288230376151711744=42 then (⟨w % 1048576,w / 1048576 % 1073741824,w / 1125899906842624 % 64⟩,true) else (⟨0,0,0⟩,false)
structure HF (h:Handle):Prop where
  i0:0≤h.index
  i1:h.index<1048576
  g0:0≤h.gen
  g1:h.gen≤1073741823
  t0:0≤h.tenant
  t1:h.tenant<64
theorem runR {t:T Res} {M:Mem} {ws':List Int} {n:Nat} {most:Int} {r:Res} {fu:Nat} (h:Runs t M.ws n r ws') (hm:(n:Int)≤most) (hm2:most≤1000000) (hn:n<fu):∃ c,D.zez fu (fu,t) M cap0 most=some (r,(n:Int),true,⟨ws',c⟩):=by
  have h2:=zna (z:=(⟨0,0⟩:Res)) (fu:=fu) (d:=fu) (most:=most) h hm hm2 (Nat.le_of_lt hn) hn;exact h2
theorem zkV {at_:Int} {f:Int→T Res} {ws ws':List Int} {n:Nat} {r:Res} (h0:0≤at_) (h1:at_<ws.length) (h:Runs (f (rd ws at_)) ws n r ws'):Runs (D.zbR at_ f) ws (n+1) r ws':=Runs.load h0 h1 h
theorem ziH {at_ was w:Int} {f:Bool→T Res} {ws ws':List Int} {n:Nat} {r:Res} (h0:0≤at_) (h1:at_<ws.length) (h:Runs (f (rd ws at_==was)) (if rd ws at_=was then ws.set at_.toNat w else ws) n r ws'):Runs (D.zbZ at_ was w f) ws (n+1) r ws':=by
  refine Runs.act (op:=2) kw (zhW h0 h1) ?_;have:acted 2 at_ was w (rd ws at_) ws=(if rd ws at_=was then ws.set at_.toNat w else ws):=by simp [acted]
  rw [this]
  exact h
def Eq1 (ws ws':List Int):Prop:=ws'.length=ws.length∧∀ j,0≤j→rd ws' j=rd ws j
def fp (p:Plan) (n f:Int):Int:=sp p n+2+f
section
variable {s : Seat} (hs : D.zem s = true) {ws : List Int} (hl : Len s.p ws) {w f : Int} {h : Handle} (hm : D.zm5 w s.tenant s.p.nodes = (h, true)) (hn : 0 ≤ h.index ∧ h.index < s.p.nodes)
include hs hl hm hn
end
theorem PoolAt.start {p:Plan} (hp:PF p) {ws:List Int} (h:LaidAt p ws) {t:Int} (ht:0≤t∧t<p.threads):PoolAt p t ws ⟨allN p,[],fun _=>⟨0,0,0⟩⟩ 0:=by
  have hN:=zbe hp;have hF:=zlF hp h;refine ⟨hF,zmz hp h ht,List.nodup_nil,fun _ h=>(by cases h),fun n n0 n1=>zkE hp h ⟨n0,n1⟩,fun j j0 j1=>zoM hp h j0 j1,fun n f hn f0 f1=>?_⟩
  have hr:=hF.range n hn;exact h.zero _ (by unfold sp; omega) fun m _ _=>by unfold sp; omega
section
variable {s : Seat} (hs : D.zem s = true) (hnn : s.p.nodes ≤ 1000) {ws : List Int} {P : Pool} {g : Int} (h : PoolAt s.p s.thread ws P g) (hg : g < 900000)
include hs hnn h hg
end
theorem zki {P:Pool} {m n:Int} (hd:P.rt.Nodup) (h:n∈(P.scan m).fr):(n∈P.rt∧(D.za9 (P.st n) m).mode≠3)∨n∈P.fr:=by
  unfold Pool.scan at h
  rw [zj4 m _ _ (List.pairwise_reverse.2 (hd.imp fun h e=>h e.symm))] at h
  have:∀ (k L:List Int),n∈k.foldl (fun l n=>if (D.za9 (P.st n) m).mode=3 then l else n::l) L→(n∈k∧(D.za9 (P.st n) m).mode≠3)∨n∈L:=by
    intro k
    induction k with
    | nil=>exact fun L h=>.inr h
    | cons a k ih=>
      intro L h
      rcases ih _ h with h | h
      · exact .inl ⟨List.mem_cons_of_mem _ h.1,h.2⟩
      · replace h:n∈(if (D.za9 (P.st a) m).mode=3 then L else a::L):=h
        split at h
        · exact .inr h
        · rename_i hne
          rcases List.mem_cons.1 h with rfl | h
          · exact .inl ⟨List.mem_cons_self ..,hne⟩
          · exact .inr h
  rcases this _ _ h with h | h
  · exact .inl ⟨List.mem_reverse.1 h.1,h.2⟩
  · exact .inr h
theorem zmZ (s:State) (m:Int):(D.za9 s m).mode=3∨(D.za9 s m).mode=0:=by
  unfold D.za9;cases decide (s.gen≥m)
  · exact .inr rfl
  · exact .inl rfl
theorem zmh (P:Pool) (m:Int):(P.scan m).rt=[]:=zh2 _ _ _
structure ModesP (P:Pool):Prop where
  mf:∀ n,n∈P.fr→(P.st n).mode=0
  mr:∀ n,n∈P.rt→(P.st n).mode=2
theorem ModesP.scan {P:Pool} (h:ModesP P) (hd:P.rt.Nodup) (m:Int):ModesP (P.scan m):=by
  refine ⟨fun n hn=>?_,fun n hn=>by rw [zmh] at hn; cases hn⟩
  have hst:(P.scan m).st n=if n∈P.rt then D.za9 (P.st n) m else P.st n:=by
    unfold Pool.scan;rw [ziM _ _ _ (List.pairwise_reverse.2 (hd.imp fun h e=>h e.symm))]
    simp only [List.mem_reverse]
  rw [hst]
  rcases zki hd hn with ⟨h1,h2⟩ | h1
  · rw [if_pos h1]
    exact (zmZ _ _).resolve_left h2
  · by_cases h2:n∈P.rt
    · have:=h.mr n h2
      have:=h.mf n h1;omega
    · rw [if_neg h2]; exact h.mf n h1
theorem ModesP.out {P:Pool} (h:ModesP P) (hn:P.fr.Nodup) (hd:∀ n,n∈P.rt→n ∉ P.fr) (k:Int):ModesP (P.out k).1:=by
  obtain ⟨fr,rt,st⟩:=P;cases fr with
  | nil=>exact h
  | cons n l=>
    have hnl:=(List.nodup_cons.1 hn).1;refine ⟨fun q hq=>?_,fun q hq=>?_⟩
    · have hne:q≠n:=fun e=>hnl (e ▸ hq)
      show (if q=n then _ else st q).mode=0
      rw [if_neg hne]
      exact h.mf q (List.mem_cons_of_mem _ hq)
    · have hne:q≠n:=fun e=>hd q hq (e ▸ List.mem_cons_self ..)
      show (if q=n then _ else st q).mode=2
      rw [if_neg hne]
      exact h.mr q hq
theorem ModesP.stash {P:Pool} (h:ModesP P) (hd:P.rt.Nodup) {room m n:Int} (hn:(P.st n).mode=2) (hr:n ∉ P.rt):ModesP (P.stash room m n):=by
  unfold Pool.stash
  split
  · refine ⟨h.mf,fun q hq=>?_⟩
    rcases List.mem_append.1 hq with hq | hq
    · exact h.mr q hq
    · rw [List.mem_singleton.1 hq]; exact hn
  · have hs:=h.scan hd m
    refine ⟨hs.mf,fun q hq=>?_⟩
    rcases List.mem_append.1 hq with hq | hq
    · exact hs.mr q hq
    · rw [List.mem_singleton.1 hq]
      show ((P.scan m).st n).mode=2
      rw [zoU hr hd]; exact hn
structure BoxAt (p:Plan) (t:Int) (ws:List Int) (P:Pool) (g:Int):Prop where
  pool:PoolAt p t ws P g
  modes:ModesP P
theorem PoolAt.putf {p:Plan} (hp:PF p) {t:Int} (ht:0≤t∧t<p.threads) {ws ws':List Int} {P:Pool} {g n f:Int} (h:PoolAt p t ws P g) (hn:0≤n∧n<p.nodes) (hnf:n ∉ P.fr) (hf:0≤f∧f<3) (hl:ws'.length=ws.length)
    (ho:∀ j,0≤j→j≠fp p n f→rd ws' j=rd ws j):PoolAt p t ws' P g:=by
  obtain ⟨z1,z2,z3,z4⟩:=zpN hp;obtain ⟨p1,p2,p3⟩:=zpU hp ht;have hfp:fp p n f=D.za2 p+n * 5+2+f:=rfl;refine h.keep hp ht (st:=P.st) hl (ho 0 kw kw) (fun j j0 j1=>ho j kw kw) (fun q e hq e0 e1=>?_) (fun j j0 j1=>ho _ kw kw) (fun q q0 q1=>?_)
  · have hr:=h.free.range q hq
    have hne:q≠n:=fun e=>hnf (e ▸ hq)
    exact ho _ (by unfold sp; omega) (by unfold sp; omega)
  · have:=h.st q q0 q1
    exact ⟨by rw [ho _ (by unfold sp; omega) (by unfold sp; omega)]; exact this.1,this.2⟩
theorem PoolAt.same {p:Plan} (hp:PF p) {t:Int} (ht:0≤t∧t<p.threads) {ws ws':List Int} {P:Pool} {g:Int} (h:PoolAt p t ws P g) (he:Eq1 ws ws'):PoolAt p t ws' P g:=by
  obtain ⟨z1,z2,z3,z4⟩:=zpN hp;obtain ⟨p1,p2,p3⟩:=zpU hp ht;refine h.keep hp ht (st:=P.st) he.1 (he.2 0 kw) (fun j j0 j1=>he.2 j kw) (fun q e hq e0 e1=>?_) (fun j j0 j1=>he.2 _ kw) (fun q q0 q1=>?_)
  · have hr:=h.free.range q hq
    exact he.2 _ (by unfold sp; omega)
  · have:=h.st q q0 q1
    exact ⟨by rw [he.2 _ (by unfold sp; omega)]; exact this.1,this.2⟩
theorem BoxAt.put {p:Plan} (hp:PF p) {t:Int} (ht:0≤t∧t<p.threads) {ws ws':List Int} {P:Pool} {g n f:Int} (h:BoxAt p t ws P g) (hn:0≤n∧n<p.nodes) (hnf:n ∉ P.fr) (hf:0≤f∧f<3) (hl:ws'.length=ws.length)
    (ho:∀ j,0≤j→j≠fp p n f→rd ws' j=rd ws j):BoxAt p t ws' P g:=⟨h.pool.putf hp ht hn hnf hf hl ho,h.modes⟩
theorem BoxAt.same {p:Plan} (hp:PF p) {t:Int} (ht:0≤t∧t<p.threads) {ws ws':List Int} {P:Pool} {g:Int} (h:BoxAt p t ws P g) (he:Eq1 ws ws'):BoxAt p t ws' P g:=⟨h.pool.same hp ht he,h.modes⟩
section
variable {s : Seat} (hs : D.zem s = true) (hnn : s.p.nodes ≤ 40) (hrr : s.p.retire ≤ 40) {ws : List Int} {P : Pool} {g : Int} (h : BoxAt s.p s.thread ws P g) (hg : g < 800000)
include hs hnn hrr h hg
end
/-! ### Guards -/
theorem zmU {p:Plan} (hp:PF p) {ws:List Int} (hl:Len p ws) {t s at_ sh w:Int} (ht:0≤t∧t<p.threads) (hs:0≤s∧s<3) (h0:0≤at_) (h1:at_<D.zab p) (hne:at_≠D.za1 p+t * 3+s)
    (hw0:0≤w) (hw1:w<1099511627776) (hsh:0≤sh∧sh<3) (hw:rd ws at_=w) (k:Nat) :
    (w / 2 ^ sh.toNat - 1<0→Runs (D.zce (k+1) p t s at_ sh w) ws 0 w ws)∧
    (¬ w / 2 ^ sh.toNat - 1<0→Runs (D.zce (k+1) p t s at_ sh w) ws 2 w (ws.set (D.za1 p+t * 3+s).toNat (w / 2 ^ sh.toNat))):=by
  obtain ⟨h2,h3,h4⟩:=zoh hw0 hsh;obtain ⟨g1,g2,g3,g4⟩:=zpN hp;have hn1:=hp.n1;have hb:D.zce (k+1) p t s at_ sh w=D.zbJ (D.zce k) p t s at_ sh w:=rfl;have hq:IntKind.i64.wrap (IntKind.i64.wrap (shrI .u64 w sh) - 1)=w / 2 ^ sh.toNat - 1:=by
    rw [h2,zaR (x:=w / 2 ^ sh.toNat) kw kw,zaR kw kw]
  constructor
  · intro hlt
    rw [hb]
    unfold D.zbJ;rw [hq,show decide (w / 2 ^ sh.toNat - 1<0)=true from by simpa using hlt]
    exact .done _ _
  · intro hge
    rw [hb]
    unfold D.zbJ;rw [hq,show decide (w / 2 ^ sh.toNat - 1<0)=false from by simpa using hge]
    have hr:=zk2 hp hl ht hs (n:=w / 2 ^ sh.toNat - 1) kw
    rw [show w / 2 ^ sh.toNat - 1+1=w / 2 ^ sh.toNat from by omega] at hr
    show Runs ((D.zcz p t s (w / 2 ^ sh.toNat - 1)).bind fun _=>D.zer (D.zce k) at_ w p t s sh) ws (1+1) w _
    refine Runs.bind hr ?_;unfold Len at hl
    show Runs (.act 0 at_ 0 0 _) _ 1 _ _
    refine .load h0 (by simpa [hl] using h1) ?_;have hx:rd (ws.set (D.za1 p+t * 3+s).toNat (w / 2 ^ sh.toNat)) at_=w:=by
      rw [zbE kw kw h0,if_neg hne,hw]
    rw [hx]
    unfold D.zcI;rw [show (w==w)=true from by simp]
    exact .done _ _
end Go.Proofs.YtikjpdpgdmbdpaaGreat

/- Ours. -/
set_option maxRecDepth 20000
set_option maxHeartbeats 2000000
namespace Go.Proofs.YtikjpdpgdmbdpaaGreat
open Go.RowKit
theorem zuf:zpd Tryz.prog 224:=kz
theorem cl49:zpd Tryz.prog 49:=kz
theorem cl82:zpd Tryz.prog 82:=kz
def D.zjA (a0:Seat) (a1:Int):Where:=(⟨a0,(D.zax a0.p a1 0),(D.zax a0.p a1 1)⟩:Where)
def D.zkS (a0:Int):T Res:=(D.zeS (⟨a0,0⟩:Res))
def D.zcY (c0:(Int→T Res)) (a0:Grant):T Res:=(bif (a0.e !=0) then (D.zkS a0.e) else (c0 a0.node))
def D.zf3 (j:Nat) (a0:Where) (a1:(Int→T Res)):T Res:=(T.bind (D.zdm j a0.seat.p a0.seat.thread 1) (fun x=>(D.zcY a1 x)))
def D.zkY (a0:Int):Int:=(IntKind.u64.wrap (IntKind.i64.wrap (a0+1)))
def D.zkB (a0:Int):Int:=(IntKind.i64.wrap ((IntKind.i64.wrap a0) - 1))
def D.ziT (c0:(Unit→T Res)):T Res:=(c0 ())
def D.zjQ (a0:Where) (a1:Int) (a2:Int) (a3:(Unit→T Res)):T Res:=(T.bind (D.zcz a0.seat.p a0.seat.thread a1 a2) (fun _=>(D.ziT a3)))
def D.zfg :T Res:=(D.zkS 0)
def D.zfy (c0:Where) (a0:Bool):T Res:=(D.zjQ c0 0 (-1) (fun _=>D.zfg))
def D.zg2 (j:Nat) (r_queue_where_put:Where→Int→T Res) (c0:Where) (c1:Int) (c2:Int) (a0:Bool):T Res:=(bif (!a0) then (r_queue_where_put c0 c1) else (D.zbZ c0.tail c2 (D.zkY c1) (fun x=>(D.zfy c0 x))))
def D.zgc (j:Nat) (r_queue_where_put:Where→Int→T Res) (c0:Where) (c1:Int) (a0:Bool):T Res:=(r_queue_where_put c0 c1)
def D.zgF (j:Nat) (r_queue_where_put:Where→Int→T Res) (c0:Int) (c1:Where) (c2:Int) (c3:Int) (c4:Int) (a0:Int):T Res:=(bif (a0 !=c0) then (r_queue_where_put c1 c2) else (bif (c3 !=0) then (D.zbZ c1.tail c0 c3 (fun x=>(D.zgc j r_queue_where_put c1 c2 x))) else (D.zbZ c4 0 (D.zkY c2) (fun x=>(D.zg2 j r_queue_where_put c1 c2 c0 x)))))
def D.zi3 (j:Nat) (r_queue_where_put:Where→Int→T Res) (c0:Where) (c1:Int) (c2:Int) (c3:Int) (a0:Int):T Res:=(D.zbR c0.tail (fun x=>(D.zgF j r_queue_where_put c1 c0 c2 a0 c3 x)))
def D.zj6 (j:Nat) (r_queue_where_put:Where→Int→T Res) (c0:Where) (c1:Int) (a0:Int):T Res:=(D.zbR (D.za8 c0.seat.p (D.zkB a0) 2) (fun x=>(D.zi3 j r_queue_where_put c0 a0 c1 (D.za8 c0.seat.p (D.zkB a0) 2) x)))
def D.zhC (j:Nat) (r_queue_where_put:Where→Int→T Res) (a0:Where) (a1:Int):T Res:=(T.bind (D.zdL j a0.seat.p a0.seat.thread 0 a0.tail 0) (fun x=>(D.zj6 j r_queue_where_put a0 a1 x)))
def D.zgX (j:Nat):Nat→Where→Int→T Res
  | 0,_,_=>.cut
  | k+1,a0,a1=>D.zhC j (D.zgX j k) a0 a1
def D.zl0 (j:Nat) (c0:Where) (c1:Int):T Res:=(D.zgX j j c0 c1)
def D.zkg (j:Nat) (c0:Where) (c1:Int) (a0:Int):T Res:=(D.zbw (D.za8 c0.seat.p a0 1) c1 (fun _=>(D.zl0 j c0 a0)))
def D.zlG (j:Nat) (a0:Seat) (a1:Int) (a2:Int):T Res:=(D.zf3 j (D.zjA a0 a1) (fun x=>(D.zkg j (D.zjA a0 a1) a2 x)))
theorem zm6 {p:Plan} (hp:PF p) (hd:0<p.domains) {c:Int} (hc:0≤c∧c<2):D.zax p 0 c=2+c:=by
  have hcl:=zig hp;have hd2:=hp.d2;have e1:IntKind.i64.wrap (0 * IntKind.i64.wrap (1+D.zah p))=0:=by rw [Int.zero_mul]; rfl
  unfold D.zax D.zbz;rw [e1,show IntKind.i64.wrap (2+0)=2 from rfl,zaR (x:=2+c) kw kw,zaR (x:=D.zah p - 1) kw kw]
  refine zlu hp fun b hb=>?_;simp only [List.mem_cons,List.mem_nil_iff,or_false] at hb
  rcases hb with rfl | rfl
  · refine ⟨?_,?_⟩
    · exact Int.le_refl _
    · show (0:Int)≤IntKind.i64.wrap (p.domains - 1)
      rw [zaR kw kw]; omega
  · exact ⟨hc.1,by show c≤D.zah p - 1; omega⟩
theorem haz4 {p:Plan} (hp:PF p) (hd:0<p.domains):4≤D.za1 p:=by
  have hcl:=zig hp;rw [zfV hp];have:1 * (1+D.zah p)≤p.domains * (1+D.zah p):=Int.mul_le_mul_of_nonneg_right kw kw
  omega
theorem zmV {at_:Int} {f:Int→T Int} {ws ws':List Int} {n:Nat} {r:Int} (h0:0≤at_) (h1:at_<ws.length) (h:Runs (f (rd ws at_)) ws n r ws'):Runs (D.zb7 at_ f) ws (n+1) r ws':=Runs.load h0 h1 h
theorem zkK {at_:Int} {f:Int→T Int} {ws ws':List Int} {n:Nat} {r:Int} (h0:0≤at_) (h1:at_<ws.length) (h:Runs (f (rd ws at_)) ws n r ws'):Runs (D.zdv at_ f) ws (n+1) r ws':=Runs.load h0 h1 h
theorem zmf {at_ w:Int} {f:Unit→T Int} {ws ws':List Int} {n:Nat} {r:Int} (h0:0≤at_) (h1:at_<ws.length) (h:Runs (f ()) (ws.set at_.toNat w) n r ws'):Runs (D.zbc at_ w f) ws (n+1) r ws':=Runs.store h0 h1 h
structure QAt (p:Plan) (t:Int) (ws:List Int) (P:Pool) (g:Int) (i n:Nat) (l:List Int):Prop where
  pool:PoolAt p t ws P g
  le:i≤n
  nn:(n:Int)<p.nodes
  out:∀ q:Int,(i:Int)≤q→q≤n→q ∉ P.fr∧q ∉ P.rt
  hd:rd ws 2=(i:Int)+1
  tl:rd ws 3=(n:Int)+1
  nxt:∀ q:Int,(i:Int)≤q→q<n→rd ws (fp p q 2)=q+2
  last:rd ws (fp p n 2)=0
  val:∀ q:Nat,i≤q→q<n→rd ws (fp p ((q:Int)+1) 1)=l.getD q 0
section
variable {p : Plan} (hp : PF p) (hdm : 0 < p.domains) (hnn : p.nodes ≤ 40) (hrr : p.retire ≤ 40) {t : Int} (ht : 0 ≤ t ∧ t < p.threads) {ws : List Int} {P : Pool} {g : Int} {i n : Nat} {l : List Int} (h : QAt p t ws P g i n l)
include hp hdm hnn hrr ht h
end
def RepL {R:Type} (P:Program) (E:Enc R):Nat→T R→(Nat→Prop)→World→Value→Prop
  | _,.cut,_,_,_=>False
  | _,.done r,_,_,v=>v=.agg (zpc true (E.cells r) 0 0 0 0 .nilFunc)
  | 0,.act op at_ a b _,_,_,v=>∃ (f:FuncId) (first cap:List Value),zpd P f=true∧v=.agg (zpc false E.zero op at_ a b (.func (.func f) first.toArray cap.toArray))
  | m+1,.act op at_ a b k,F,w,v=>∃ (f:FuncId) (first cap:List Value),zpd P f=true∧v=.agg (zpc false E.zero op at_ a b (.func (.func f) first.toArray cap.toArray))∧
      ∀ x w',Same F w w'→w.heap.size≤w'.heap.size→
        Calls P f (first++[Value.int .u64 x]++cap).toArray w' fun e w''=>∃ v',e=.returned v'∧Chg F w' w''∧RepL P E m (k x) (grow F w' w'') w'' v'
def zpf {R:Type} (P:Program) (E:Enc R) (n:Nat) (t:T R) (F:Nat→Prop) (w:World):Ending→World→Prop:=
  fun e w'=>∃ v,e=.returned v∧Chg F w w'∧RepL P E n t (grow F w w') w' v
def FnLAt {R α:Type} (P:Program) (E:Enc R) (enc:α→List Value) (m:Nat) (F:Nat→Prop) (w:World) (f:FuncId) (first cap:List Value) (g:α→T R):Prop:=
  ∀ x w',Same F w w'→w.heap.size≤w'.heap.size→Calls P f (first++enc x++cap).toArray w' (zpf P E m (g x) F w')
def FnL {R α:Type} (P:Program) (E:Enc R) (enc:α→List Value) (n:Nat) (F:Nat→Prop) (w:World) (fv:Value) (g:α→T R):Prop:=
  ∃ (f:FuncId) (first cap:List Value),zpd P f=true∧fv=.func (.func f) first.toArray cap.toArray∧∀ m,m<n→FnLAt P E enc m F w f first cap g
section
variable {R : Type} {P : Program} {E : Enc R}
theorem Chg.weakZ {Z Z':Nat→Prop} {w w':World} (h:Chg Z w w') (hz:∀ b,Z b→Z' b):Chg Z' w w':=⟨h.os,h.tape,h.output,h.size,fun b hb hn=>h.block b hb fun h=>hn (hz b h)⟩
theorem Chg.zpr {Z:Nat→Prop} {w w':World} (h:Below w.heap.size w w'):Chg Z w w':=(Chg.of_below h).weakZ fun _ h=>h.elim
theorem zpI {F:Nat→Prop} {w0 w:World} (hF:∀ b,F b→b<w0.heap.size) (hB:w0.heap.size≤w.heap.size) (r:Nat):∀ b,(fun b=>F b∨(w0.heap.size≤b∧b<w.heap.size∧b≠r)) b→b<w.heap.size:=by
  rintro b (h | h)
  · exact Nat.lt_of_lt_of_le (hF b h) hB
  · exact h.2.1
theorem Chg.thenB {Z:Nat→Prop} {w0 w w':World} (h:Chg Z w0 w) (h':Below w.heap.size w w'):Chg Z w0 w':=h.trans (Chg.of_below h') fun _ _ h=>h.elim
theorem Chg.zpE {Z:Nat→Prop} {w0 w w':World} {b:Nat} {o:Obj} (h:Chg Z w0 w) (h':Upd w w' b o) (hb:w0.heap.size≤b∨Z b):Chg Z w0 w':=
  ⟨h'.os.trans h.os,h'.tape.trans h.tape,h'.output.trans h.output,by rw [h'.size]; exact h.size,fun k hk hn=>(h'.other k fun e=>by subst e; rcases hb with hb | hb; omega; exact hn hb).trans (h.block k hk hn)⟩
theorem Chg.zpF {Z Z':Nat→Prop} {w0 w w':World} (h:Chg Z w0 w) (h':Chg Z' w w') (hz:∀ b,b<w0.heap.size→Z' b→Z b):Chg Z w0 w':=h.trans h' hz
theorem zpA {Z:Nat→Prop} {w w':World} {b:Nat} {o:Obj} (h:Chg Z w w') (hb:w.heap[b]?=some o) (hn:¬ Z b):w'.heap[b]?=some o:=(h.block b (lt_of_block hb) hn).trans hb
theorem zi2 {w:World} {b b':Nat} {c c':Array Value} {T T':TypeId} {z z':Nat × Nat} (h:w.heap[b]?=some (.cells c T z)) (h':w.heap[b']?=some (.cells c' T' z')) (hT:(T==T')=false):b≠b':=by
  intro e;subst e;rw [h] at h'
  simp only [Option.some.injEq,Obj.cells.injEq] at h'
  rw [h'.2.1] at hT
  simp at hT
theorem zlP {F F':Nat→Prop} {w w':World} (hs:∀ b,F b→F' b):∀ b,grow F w w' b→grow F' w w' b:=fun b hb=>hb.imp (hs b) id
theorem RepL.mono {F F':Nat→Prop} {w w':World} (hs:∀ b,F b→F' b) (h1:Same F w w') (h2:w.heap.size≤w'.heap.size) :
    ∀ (n:Nat) (t:T R) (v:Value),RepL P E n t F w v→RepL P E n t F' w' v
  | _,.cut,_,h=>by unfold RepL at h; exact h.elim
  | _,.done _,_,h=>by unfold RepL at h ⊢; exact h
  | 0,.act ..,_,h=>by unfold RepL at h ⊢; exact h
  | m+1,.act op at_ a b k,v,h=>by
    unfold RepL at h ⊢
    obtain ⟨f,first,cap,hc,hv,h⟩:=h;refine ⟨f,first,cap,hc,hv,fun x w'' hs' hz=>?_⟩
    refine (h x w'' (h1.trans (hs'.sub hs)) kw).mono ?_;rintro e w3 ⟨v',he,hb,hr⟩;exact ⟨v',he,hb.weakZ hs,RepL.mono (zlP hs) (Same.refl _ _) (Nat.le_refl _) m _ _ hr⟩
theorem RepL.down {F:Nat→Prop} {w:World}:∀ {n m:Nat} {t:T R} {v:Value},m≤n→RepL P E n t F w v→RepL P E m t F w v
  | _,_,.cut,_,_,h=>by unfold RepL at h; exact h.elim
  | _,_,.done _,_,_,h=>by unfold RepL at h ⊢; exact h
  | 0,m,.act ..,_,hm,h=>by
    obtain rfl:m=0:=kw
    exact h
  | n+1,0,.act ..,_,_,h=>by
    unfold RepL at h ⊢
    obtain ⟨f,first,cap,hc,hv,_⟩:=h;exact ⟨f,first,cap,hc,hv⟩
  | n+1,m+1,.act op at_ a b k,v,hm,h=>by
    unfold RepL at h ⊢
    obtain ⟨f,first,cap,hc,hv,h⟩:=h;refine ⟨f,first,cap,hc,hv,fun x w'' hs' hz=>?_⟩
    refine (h x w'' hs' hz).mono ?_;rintro e w3 ⟨v',he,hb,hr⟩;exact ⟨v',he,hb,RepL.down kw hr⟩
theorem RepL.shape {F:Nat→Prop} {w:World}:∀ {n:Nat} {t:T R} {v:Value},RepL P E n t F w v→Shape E v
  | _,.cut,_,h=>by unfold RepL at h; exact h.elim
  | _,.done r,_,h=>by
    unfold RepL at h; subst h
    exact ⟨_,rfl,by simp [zpc,E.len],by simp [zpc,plainCell,E.plain r]⟩
  | 0,.act ..,_,h=>by
    unfold RepL at h; obtain ⟨_,_,_,_,rfl⟩:=h
    exact ⟨_,rfl,by simp [zpc,E.zlen],by simp [zpc,plainCell,E.zplain]⟩
  | m+1,.act ..,_,h=>by
    unfold RepL at h; obtain ⟨_,_,_,_,rfl,_⟩:=h
    exact ⟨_,rfl,by simp [zpc,E.zlen],by simp [zpc,plainCell,E.zplain]⟩
theorem Rep.loud:∀ {n:Nat} {t:T R} {F:Nat→Prop} {w:World} {v:Value},Rep P E n t F w v→RepL P E n t F w v
  | _,.cut,_,_,_,h=>by unfold Rep at h; exact h.elim
  | _,.done _,_,_,_,h=>by unfold Rep at h; unfold RepL; exact h
  | 0,.act ..,_,_,_,h=>by unfold Rep at h; unfold RepL; exact h
  | m+1,.act op at_ a b k,F,w,v,h=>by
    unfold Rep at h; unfold RepL
    obtain ⟨f,first,cap,hc,hv,h⟩:=h;refine ⟨f,first,cap,hc,hv,fun x w'' hs' hz=>?_⟩
    refine (h x w'' hs' hz).mono ?_;rintro e w3 ⟨v',he,hb,hr⟩;exact ⟨v',he,Chg.zpr hb,hr.loud⟩
theorem RepL.zjk {n:Nat} {F:Nat→Prop} {w:World} {op at_ a b:Int} {k:Int→T R} {fv:Value} (h:FnL P E u64 n F w fv k) :
    RepL P E n (.act op at_ a b k) F w (.agg (zpc false E.zero op at_ a b fv)):=by
  obtain ⟨f,first,cap,hc,rfl,h⟩:=h;cases n with
  | zero=>unfold RepL; exact ⟨f,first,cap,hc,rfl⟩
  | succ m=>unfold RepL; exact ⟨f,first,cap,hc,rfl,fun x w' h1 h2=>h m (Nat.lt_succ_self _) x w' h1 h2⟩
theorem RepL.zgI {n:Nat} {F:Nat→Prop} {w:World} {r:R}:RepL P E n (.done r) F w (.agg (zpc true (E.cells r) 0 0 0 0 .nilFunc)):=by unfold RepL; rfl
theorem FnLAt.mono {α:Type} {enc:α→List Value} {m:Nat} {F F':Nat→Prop} {w w':World} {f:FuncId} {first cap:List Value} {g:α→T R} (h:FnLAt P E enc m F w f first cap g)
    (hs:∀ b,F b→F' b) (h1:Same F w w') (h2:w.heap.size≤w'.heap.size):FnLAt P E enc m F' w' f first cap g:=fun x w'' hs' hz=>by
  refine (h x w'' (h1.trans (hs'.sub hs)) kw).mono ?_;rintro e w3 ⟨v',he,hb,hr⟩;exact ⟨v',he,hb.weakZ hs,RepL.mono (zlP hs) (Same.refl _ _) (Nat.le_refl _) m _ _ hr⟩
theorem FnL.mono {α:Type} {enc:α→List Value} {n n':Nat} {F F':Nat→Prop} {w w':World} {fv:Value} {g:α→T R} (h:FnL P E enc n F w fv g) (hn:n'≤n)
    (hs:∀ b,F b→F' b) (h1:Same F w w') (h2:w.heap.size≤w'.heap.size):FnL P E enc n' F' w' fv g:=by
  obtain ⟨f,first,cap,hc,hv,h⟩:=h;exact ⟨f,first,cap,hc,hv,fun m hm=>(h m kw).mono hs h1 h2⟩
theorem RepL.zcR {n:Nat} {F:Nat→Prop} {w:World} {op at_ a b:Int} {k:Int→T R} {v:Value} (h:RepL P E n (.act op at_ a b k) F w v) :
    ∃ (f:FuncId) (first cap:List Value),zpd P f=true∧v=.agg (zpc false E.zero op at_ a b (.func (.func f) first.toArray cap.toArray))∧FnL P E u64 n F w (.func (.func f) first.toArray cap.toArray) k:=by
  cases n with
  | zero=>
    unfold RepL at h
    obtain ⟨f,first,cap,hc,hv⟩:=h;exact ⟨f,first,cap,hc,hv,f,first,cap,hc,rfl,fun m hm=>absurd hm (Nat.not_lt_zero m)⟩
  | succ q=>
    unfold RepL at h
    obtain ⟨f,first,cap,hc,hv,hk⟩:=h;refine ⟨f,first,cap,hc,hv,f,first,cap,hc,rfl,fun m hm x w' h1 h2=>?_⟩
    refine (hk x w' h1 h2).mono ?_;rintro e w'' ⟨v',he,hb,hr⟩;exact ⟨v',he,hb,RepL.down kw hr⟩
theorem FnL.at_ {α:Type} {enc:α→List Value} {n:Nat} {F:Nat→Prop} {w:World} {f:FuncId} {first cap:List Value} {g:α→T R} (h:FnL P E enc n F w (.func (.func f) first.toArray cap.toArray) g) :
    zpd P f=true∧∀ m,m<n→FnLAt P E enc m F w f first cap g:=by
  obtain ⟨f',first',cap',hc,he,hf⟩:=h;simp only [Value.func.injEq,Fn.func.injEq] at he
  obtain ⟨e1,e2,e3⟩:=he;have e2':first=first':=by simpa using congrArg Array.toList e2
  have e3':cap=cap':=by simpa using congrArg Array.toList e3
  subst e1; subst e2'; subst e3';exact ⟨hc,hf⟩
theorem zpf.fin {n:Nat} {t:T R} {F F1:Nat→Prop} {w0 w1 w2 w3:World} {r:Nat} {o:Obj} {v:Value} (hB:Chg F w0 w3) (hr:RepL P E n t (grow F1 w1 w2) w2 v)
    (hu:Upd w2 w3 r o) (hF:∀ b,F1 b→F b∨(w0.heap.size≤b∧b<w1.heap.size)) (hFr:¬ F1 r) (hr1:r<w1.heap.size) (h01:w0.heap.size≤w1.heap.size) (h12:w1.heap.size≤w2.heap.size) :
    zpf P E n t F w0 (.returned v) w3:=by
  refine ⟨v,rfl,hB,RepL.mono ?_ ?_ (by rw [hu.size]; exact Nat.le_refl _) n t v hr⟩
  · rintro b (hb | ⟨hb1,hb2⟩)
    · rcases hF b hb with h | ⟨h1,h2⟩
      · exact .inl h
      · exact .inr ⟨h1,by rw [hu.size]; omega⟩
    · exact .inr ⟨kw,by rw [hu.size]; omega⟩
  · rintro b (hb | ⟨hb1,hb2⟩)
    · exact hu.other b (fun e=>hFr (e ▸ hb))
    · exact hu.other b kw
theorem zpl.loud {n:Nat} {t:T R} {F:Nat→Prop} {w w':World} {e:Ending} (h:zpl P E n t F w e w'):zpf P E n t F w e w':=by
  obtain ⟨v,rfl,hb,hr⟩:=h;exact ⟨v,rfl,Chg.zpr hb,hr.loud⟩
theorem FnT.loud {α:Type} {enc:α→List Value} {n:Nat} {F:Nat→Prop} {w:World} {fv:Value} {g:α→T R} (h:FnT P E enc n F w fv g):FnL P E enc n F w fv g:=by
  obtain ⟨f,first,cap,hc,hv,h⟩:=h;exact ⟨f,first,cap,hc,hv,fun m hm x w' h1 h2=>(h m hm x w' h1 h2).mono fun e w'' hr=>hr.loud⟩
def OwnP (P:Program) (E:Enc R) (n:Nat) (t:T R) (B r:Nat) (v:Value) (w:World):Prop:=r<w.heap.size∧B≤w.heap.size∧RepL P E n t (fun b=>B≤b∧b<w.heap.size∧b≠r) w v
theorem OwnP.stable {n:Nat} {t:T R} {B r:Nat}:∀ v w1 w2,OwnP P E n t B r v w1→Below w1.heap.size w1 w2→OwnP P E n t B r v w2:=by
  rintro v w1 w2 ⟨h2,h3,h4⟩ hb;have hz:=hb.size;refine ⟨kw,kw,RepL.mono ?_ (Same.below hb fun b h=>h.2.1) hz n _ _ h4⟩
  rintro b ⟨h,h',h''⟩;exact ⟨h,kw,h''⟩
theorem OwnP.zkX {n:Nat} {t:T R} {B r:Nat} {w1 w2:World} {v:Value} (hr:r<w1.heap.size) (hB:B≤w1.heap.size) (hb:Below w1.heap.size w1 w2)
    (h:RepL P E n t (grow No w1 w2) w2 v):OwnP P E n t B r v w2:=by
  have hz:=hb.size;refine ⟨kw,kw,RepL.mono ?_ (Same.refl _ _) (Nat.le_refl _) n _ _ h⟩
  rintro b (h | ⟨h,h'⟩)
  · exact h.elim
  · exact ⟨kw,h',kw⟩
end
section
variable {P : Program} {Q : Exit → Act → World → Prop} {L : List Oper} {a : Act} {w : World} {N : Nat} {s : SL} {S : Nat → Prop}
theorem zdC {fs:Nat→Fact w.heap.size S} {o:Oper} {l:List Oper} {i:Nat} (r:Fr a N s) (hd:(o.guard.isNone&&dstsIn N L)=true) (he:early L (fun i=>(fs i).sh) i=true)
    (h:∀ a' g w',Below w.heap.size w w'→(∀ j,zpz o j=true→(fs j).ok g j w'∧w.heap.size≤(g j).lo∧(g j).hi≤w'.heap.size∧∀ q,zpz o q=true→q≠j→(g j).hi≤(g q).lo∨(g q).hi≤(g j).lo)→Fr a' N (putsS L (fun j=>(g j).v) 0 s)→
      Yields P o a' w' fun v w''=>(fs i).mk g v w' w'') (h2:zpO P L fs a w l (i+1)):zpO P L fs a w (o::l) i:=by
  simp only [Bool.and_eq_true] at hd
  exact ⟨fun g w' h1 h3 h4 h5 h6 h7=>.plain hd.1 (h _ g w' ⟨h1,h3,h4,h5,fun b hb=>h6 b hb (.inr he)⟩ h7 (r.puts L _ 0 hd.2)),h2⟩
theorem zb2 {fs:Nat→Fact w.heap.size S} {o:Oper} {l:List Oper} {i:Nat} (r:Fr a N s) (hd:(o.guard.isNone&&dstsIn N L)=true)
    (h:∀ a' g w',Chg S w w'→(∀ j,zpz o j=true→(fs j).ok g j w'∧w.heap.size≤(g j).lo∧(g j).hi≤w'.heap.size∧∀ q,zpz o q=true→q≠j→(g j).hi≤(g q).lo∨(g q).hi≤(g j).lo)→Fr a' N (putsS L (fun j=>(g j).v) 0 s)→
      Yields P o a' w' fun v w''=>(fs i).mk g v w' w'') (h2:zpO P L fs a w l (i+1)):zpO P L fs a w (o::l) i:=by
  simp only [Bool.and_eq_true] at hd
  exact ⟨fun g w' h1 h3 h4 h5 h6 h7=>.plain hd.1 (h _ g w' ⟨h1,h3,h4,h5,fun b hb hn=>h6 b hb (.inl hn)⟩ h7 (r.puts L _ 0 hd.2)),h2⟩
theorem zfb {id:Nat} (k:Nat) (S:Nat→Prop) (fl:List (Fact w.heap.size S)) (hm:P.follows .mixedOrders=true) (r:Fr a N s) (hSB:∀ b,S b→b<w.heap.size) (hs:(drawnOk L k&&shapely (L.take k)&&noGuards (L.take k)&&(freely (L.take k) (fun i=>(fact fl i).sh)&&dstsIn N (L.take k)&&okW (L.take k) fl))=true)
    (he:zpO P (L.take k) (fact fl) a { w with drawn:=w.drawn+1 } (L.take k) 0)
    (hl:∀ a' g w',Chg S w w'→(∀ i,Nat.ble (i+1) (L.take k).length=true→(fact fl i).ok g i w'∧w.heap.size≤(g i).lo∧(g i).lo≤(g i).hi∧(g i).hi≤w'.heap.size)→
      (∀ i j,(!(i==j)&&Nat.ble (i+1) (L.take k).length&&Nat.ble (j+1) (L.take k).length)=true→(g i).hi≤(g j).lo∨(g j).hi≤(g i).lo)→Fr a' N (putsS (L.take k) (fun j=>(g j).v) 0 s)→wpList P L.toArray Q (L.drop k) a' w') :
    (Code.region id L.toArray true).wp P Q a w:=by
  simp only [Bool.and_eq_true] at hs
  obtain ⟨⟨⟨hs1,hs2⟩,hs3⟩,hs⟩:=hs;refine zmH hm hs1 hs2 hs3 (ziw (fact fl) (zkM hs.2) rfl hSB hs.1.1 (zkP hs.2) he fun g w' h1 h2 h3 h4 h5 h6 h7=>⟨rfl,hl _ g w' ⟨h1,h2,h3,h4,fun b hb hn=>h5 b hb hn⟩ (fun i hi=>h6 i (Nat.le_of_ble_eq_true hi)) (fun i j hij=>?_) (r.puts (L.take k) _ 0 hs.1.2)⟩)
  simp only [Bool.and_eq_true,Bool.not_eq_true',beq_eq_false_iff_ne] at hij
  exact h7 i j hij.1.1 (Nat.le_of_ble_eq_true hij.1.2) (Nat.le_of_ble_eq_true hij.2)
end
def StepE {R:Type} (P:Program) (E:Enc R) (n:Nat) (t:T R) (F:Nat→Prop):Value→Nat→Nat→World→Prop:=fun v lo hi w=>RepL P E n t (fun b=>F b∨(lo≤b∧b<hi)) w v
theorem StepE.st {R:Type} {P:Program} {E:Enc R} {n:Nat} {t:T R} {F:Nat→Prop} {B:Nat} (hF:∀ b,F b→b<B):∀ v lo hi w1 w2,StepE P E n t F v lo hi w1→Kept B (fun _=>False) lo hi w1 w2→StepE P E n t F v lo hi w2:=by
  rintro v lo hi w1 w2 h ⟨_,_,_,hz,hk⟩;refine RepL.mono (fun b hb=>hb) (fun b hb=>hk b ?_) hz n _ _ h
  rcases hb with hb | hb
  · exact .inl ⟨hF b hb,fun h=>h⟩
  · exact .inr hb
section
variable {P : Program} {a : Act} {w : World} {d : Option Tmp} {ty : TypeId} {pos : String} {aft : Array Edge}
variable {ops : Array Oper} {Q : Exit → Act → World → Prop} {rest : List Oper} {N : Nat} {s : SL}
theorem kJ {R:Type} {E:Enc R} {m:Nat} {t:T R} {F:Nat→Prop} {f:FuncId} {xs:List Operand} {ts:Array TypeId} {args:List Value} (hfr:Fr a N s) (hc:Calls P f args.toArray w (zpf P E m t F w)) (hx:xs.map (lookO s)=args)
    (hf:zpd P f=true) (hg:dstIn N d=true) (hk:∀ {a} w' v,Chg F w w'→RepL P E m t (grow F w w') w' v→Fr a N (putS s d v)→wpList P ops Q rest a w'):wpList P ops Q (⟨d,.call ⟨.value (.func f),xs.toArray,ts⟩,ty,pos,aft,none⟩::rest) a w:=
  kC hfr hc hx hf hg (by rintro _ w' ⟨v,rfl,hb,hr⟩; exact ⟨_,rfl,fun a r=>hk w' v hb hr r⟩)
end
end Go.Proofs.YtikjpdpgdmbdpaaGreat

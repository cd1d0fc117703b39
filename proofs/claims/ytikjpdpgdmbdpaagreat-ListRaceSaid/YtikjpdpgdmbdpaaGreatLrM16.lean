/- Some of our texts, one behind the other. -/
import Derived.Test.YtikjpdpgdmbdpaaGreatLrM15
import Derived.Test.YtikjpdpgdmbdpaaGreatLrM12
import Derived.Test.YtikjpdpgdmbdpaaGreatLrM7
import Derived.Test.YtikjpdpgdmbdpaaGreatLrM4
import Derived.Test.YtikjpdpgdmbdpaaGreatLrOps
import Derived.Test.YtikjpdpgdmbdpaaGreatLrM14
set_option linter.all false
/- Ours. -/
namespace Go.Proofs.YtikjpdpgdmbdpaaGreat
open Go.RowKit
theorem p8:∀ (k:Nat) (r:List Int),k=r.length→co (fun _=>false) k r=([],r.reverse)
  | 0,r,h=>by rw [List.length_eq_zero_iff.1 h.symm]; rfl
  | k+1,r,h=>by
    rcases List.eq_nil_or_concat r with rfl | ⟨s,z,rfl⟩
    · cases h
    rw [List.concat_eq_append] at *
    have hk:k=s.length:=by simpa using h
    have e1:(s++[z])[k]?=some z:=by rw [hk]; simp
    have e2:((s++[z]).set k (((s++[z]).getLast?).getD 0)).dropLast=s:=by
      rw [hk]; simp
    simp only [co,e1,Bool.false_eq_true,if_false,e2,p8 k s hk]
    simp
structure Pool where
  fr:List Int
  rt:List Int
  st:Int→State
def Pool.back (m:Int) (P:Pool) (n:Int):Pool:=
  ⟨if (D.bv (P.st n) m).mode=3 then P.fr else n::P.fr,P.rt,fun q=>if q=n then D.bv (P.st n) m else P.st q⟩
def Pool.scan (P:Pool) (m:Int):Pool:=P.rt.reverse.foldl (Pool.back m) ⟨P.fr,[],P.st⟩
theorem jW (m:Int):∀ (l:List Int) (P:Pool),(l.foldl (Pool.back m) P).rt=P.rt
  | [],_=>rfl
  | n::l,P=>by rw [List.foldl_cons,jW m l]; rfl
theorem jY (m:Int):∀ (l:List Int) (P:Pool),l.Nodup→∀ n,(l.foldl (Pool.back m) P).st n=if n∈l then D.bv (P.st n) m else P.st n
  | [],_,_,_=>rfl
  | a::l,P,hn,n=>by
    obtain ⟨h1,h2⟩:=List.nodup_cons.1 hn;rw [List.foldl_cons,jY m l _ h2]
    by_cases e:n=a
    · subst e
      rw [if_neg h1,if_pos (List.mem_cons_self ..)]
      exact if_pos rfl
    · have hs:(Pool.back m P a).st n=P.st n:=if_neg e
      rw [hs]
      by_cases h:n∈l
      · rw [if_pos h,if_pos (List.mem_cons_of_mem _ h)]
      · rw [if_neg h,if_neg (fun h'=>by rcases List.mem_cons.1 h' with h' | h'; exact e h'; exact h h')]
theorem iS (m:Int):∀ (l:List Int) (P:Pool),l.Nodup→(l.foldl (Pool.back m) P).fr=l.foldl (fun l n=>if (D.bv (P.st n) m).mode=3 then l else n::l) P.fr
  | [],_,_=>rfl
  | a::l,P,hn=>by
    obtain ⟨h1,h2⟩:=List.nodup_cons.1 hn;rw [List.foldl_cons,List.foldl_cons,iS m l _ h2];have:∀ (k:List Int) (L L':List Int),(∀ q,q∈k→q≠a)→L=L'→k.foldl (fun l n=>if (D.bv ((Pool.back m P a).st n) m).mode=3 then l else n::l) L=k.foldl (fun l n=>if (D.bv (P.st n) m).mode=3 then l else n::l) L':=by
      intro k
      induction k with
      | nil=>rintro L _ _ rfl; rfl
      | cons q k ih=>
        rintro L _ hq rfl;rw [List.foldl_cons,List.foldl_cons];have hs:(Pool.back m P a).st q=P.st q:=if_neg (hq q (List.mem_cons_self ..));exact ih _ _ (fun q' h=>hq q' (List.mem_cons_of_mem _ h)) (by rw [hs])
    exact this l _ _ (fun q hq e=>h1 (e ▸ hq)) rfl
structure PoolAt (p:Plan) (t:Int) (ws:List Int) (P:Pool) (g:Int):Prop where
  free:FreeAt p ws P.fr g
  ret:RetAt p ws t P.rt
  nod:P.rt.Nodup
  dis:∀ n,n∈P.rt→n ∉ P.fr
  st:∀ n,0≤n→n<p.nodes→StAt p ws n (P.st n)
  hz:∀ j,0≤j→j<p.threads * 3→rd ws (D.aL p+j)=0
  zero:∀ n f,n∈P.fr→0≤f→f<3→rd ws (sp p n+2+f)=0
def KeptP (p:Plan) (t:Int) (P:Pool) (ws ws':List Int):Prop:=
  ws'.length=ws.length∧∀ j,0<j→(∀ n,n∈P.fr∨n∈P.rt→¬ bK p n j)→¬ (rb p t≤j∧j<rb p t+1+p.retire)→rd ws' j=rd ws j
theorem PoolAt.scan {p:Plan} (hp:PF p) (hnn:p.nodes≤1000) {t:Int} (ht:0≤t∧t<p.threads) {ws:List Int} {P:Pool} {g:Int} (h:PoolAt p t ws P g) (hg:g<900000) (J:Nat) (hJ:1100<J) :
    ∃ (m:Nat) (ws':List Int) (g':Int),m≤70 * P.rt.length+1∧g'≤g+P.rt.length∧Runs (D.eG J p t) ws m (P.rt.length:Int) ws'∧PoolAt p t ws' (P.scan p.gen) g'∧KeptP p t P ws ws':=by
  have hN:=cE hp;have hz:=bX hp;obtain ⟨p1,p2,p3⟩:=cG hp ht;have hh:∀ n,n∈P.rt→((fun _=>false) n=true↔heldW p ws n):=by
    intro n hn;have:=(h.ret.range n hn).1
    constructor
    · intro h; cases h
    · rintro ⟨j,j0,j1,hj⟩
      rw [h.hz j j0 j1] at hj
      omega
  obtain ⟨m,ws',hm,hr,hs⟩:=uf hp hnn ht J hJ h.free.len h.ret h.free (fun n hn=>h.dis n hn) h.nod hh hg
  rw [p8 P.rt.length P.rt rfl] at hr hs
  simp only [List.length_reverse] at hr
  obtain ⟨g',hg',hF⟩:=hs.free;have hnr:P.rt.reverse.Nodup:=List.pairwise_reverse.2 (h.nod.imp fun h e=>h e.symm)
  have htof:∀ n,n∈P.rt→tof p ws n=D.bv (P.st n) p.gen:=fun n hn=>by
    have hn':=h.ret.range n hn;unfold tof;have:=(h.st n hn'.1 hn'.2).of;unfold sp at this
    rw [this]
  have hfr:pushAll p ws P.rt.reverse P.fr=(P.scan p.gen).fr:=by
    unfold Pool.scan;rw [iS _ _ _ hnr];unfold pushAll;have:∀ (k L:List Int),(∀ n,n∈k→n∈P.rt)→k.foldl (fun l n=>if (tof p ws n).mode=3 then l else n::l) L=k.foldl (fun l n=>if (D.bv (P.st n) p.gen).mode=3 then l else n::l) L:=by
      intro k
      induction k with
      | nil=>intro _ _; rfl
      | cons q k ih=>
        intro L hq;rw [List.foldl_cons,List.foldl_cons,htof q (hq q (List.mem_cons_self ..))];exact ih _ fun n hn=>hq n (List.mem_cons_of_mem _ hn)
    exact this _ _ fun n hn=>List.mem_reverse.1 hn
  have hsub:∀ n,n∈(P.scan p.gen).fr→n∈P.rt∨n∈P.fr:=fun n hn=>by
    rw [←hfr] at hn
    rcases oV hn with h | h
    · exact .inl (List.mem_reverse.1 h)
    · exact .inr h
  have hrt:(P.scan p.gen).rt=[]:=jW _ _ _;rw [hfr] at hF
  have hst:∀ n,(P.scan p.gen).st n=if n∈P.rt then D.bv (P.st n) p.gen else P.st n:=fun n=>by
    unfold Pool.scan;rw [jY _ _ _ hnr];simp only [List.mem_reverse]
  have hrr:=h.ret.range;have hkeep:∀ j,0<j→(∀ n,n∈P.rt→¬ bK p n j)→¬ (rb p t≤j∧j<rb p t+1+p.retire)→rd ws' j=rd ws j:=fun j j0 h1 h2=>hs.others j j0 (fun n hn=>h1 n (List.mem_reverse.1 hn)) h2
  have hge:=hp.g2;refine ⟨m,ws',g',hm,by simpa using hg',hr,⟨hF,by rw [hrt]; exact hs.ret,by rw [hrt]; exact List.nodup_nil,fun n hn=>(by rw [hrt] at hn; cases hn),fun n n0 n1=>?_,fun j j0 j1=>?_,fun n f hn f0 f1=>?_⟩,hs.len,fun j j0 h1 h2=>hkeep j j0 (fun n hn=>h1 n (.inr hn)) h2⟩
  · rw [hst]
    by_cases hn:n∈P.rt
    · rw [if_pos hn]
      refine ⟨?_,(h.st n n0 n1).2.freed kw⟩;have:=hs.states n (List.mem_reverse.2 hn);rw [htof n hn] at this
      exact this
    · rw [if_neg hn]
      refine ⟨?_,(h.st n n0 n1).2⟩;rw [hkeep (sp p n) (by unfold sp; omega) (fun q hq hq'=>?_) (by unfold sp; omega)]
      · exact (h.st n n0 n1).1
      · unfold bK sp at hq'
        exact hn (by rw [show n=q by omega]; exact hq)
  · rw [hkeep _ kw (fun q hq=>by have:=(hrr q hq).1; unfold bK; omega) kw]
    exact h.hz j j0 j1
  · by_cases hq:n∈P.rt
    · exact hs.fields n f (List.mem_reverse.2 hq) f0 f1
    · have hnf:n∈P.fr:=(hsub n hn).resolve_left hq
      have:=h.free.range n hnf;rw [hkeep _ (by unfold sp; omega) (fun q hq' hq''=>?_) (by unfold sp; omega)]
      · exact h.zero n f hnf f0 f1
      · unfold bK sp at hq''
        exact hq (by rw [show n=q by omega]; exact hq')
theorem PoolAt.keep {p:Plan} (hp:PF p) {t:Int} (ht:0≤t∧t<p.threads) {ws ws':List Int} {P:Pool} {g:Int} (h:PoolAt p t ws P g) {st:Int→State} (hl:ws'.length=ws.length) (h0:rd ws' 0=rd ws 0)
    (hr:∀ j,rb p t≤j→j<rb p t+1+p.retire→rd ws' j=rd ws j) (hf:∀ n f,n∈P.fr→1≤f→f<5→rd ws' (sp p n+f)=rd ws (sp p n+f)) (hz:∀ j,0≤j→j<p.threads * 3→rd ws' (D.aL p+j)=rd ws (D.aL p+j))
    (hs:∀ n,0≤n→n<p.nodes→StAt p ws' n (st n)):PoolAt p t ws' ⟨P.fr,P.rt,st⟩ g:=
  ⟨h.free.keep hl h0 fun n hn=>by have:=hf n 1 hn kw kw; unfold sp at this; exact this,h.ret.keep hr,h.nod,h.dis,hs,fun j j0 j1=>(hz j j0 j1).trans (h.hz j j0 j1),fun n f hn f0 f1=>by
    have:=hf n (2+f) hn kw kw
    rw [←Int.add_assoc] at this
    exact this.trans (h.zero n f hn f0 f1)⟩
def Pool.out (P:Pool) (k:Int):Pool × Grant:=
  match P.fr with
  | []=>(P,⟨-1,0,4⟩)
  | n::l=>(⟨l,P.rt,fun q=>if q=n then D.du (P.st n) k else P.st q⟩,⟨n,(P.st n).gen,0⟩)
def Pool.grant (P:Pool) (m k:Int):Pool × Grant:=match P.fr with
  | []=>(P.scan m).out k
  | _::_=>P.out k
theorem PoolAt.took {p:Plan} (hp:PF p) {t:Int} (ht:0≤t∧t<p.threads) {ws ws':List Int} {n k:Int} {l r:List Int} {st:Int→State} {g:Int} (h:PoolAt p t ws ⟨n::l,r,st⟩ g) (hk:0≤k∧k≤2)
    (hl:ws'.length=ws.length) (hF:FreeAt p ws' l (g+1)) (hst:StAt p ws' n (D.du (st n) k)) (ho:∀ j,0<j→j≠sp p n→rd ws' j=rd ws j) :
    PoolAt p t ws' ⟨l,r,fun q=>if q=n then D.du (st n) k else st q⟩ (g+1):=by
  have hN:=cE hp;have hz:=bX hp;obtain ⟨p1,p2,p3⟩:=cG hp ht;have hn:=h.free.range n (List.mem_cons_self ..);refine ⟨hF,h.ret.keep fun j j0 j1=>ho j kw (by unfold sp; omega),h.nod,fun q hq hq'=>h.dis q hq (List.mem_cons_of_mem _ hq'),fun q q0 q1=>?_,fun j j0 j1=>?_,fun q f hq f0 f1=>?_⟩
  · by_cases e:q=n
    · subst e
      show StAt p ws' q (if q=q then _ else _)
      rw [if_pos rfl]; exact hst
    · show StAt p ws' q (if q=n then _ else _)
      rw [if_neg e]
      have:=h.st q q0 q1;exact ⟨by rw [ho _ (by unfold sp; omega) (by unfold sp; omega)]; exact this.1,this.2⟩
  · rw [ho _ kw (by unfold sp; omega)]; exact h.hz j j0 j1
  · have hqr:=h.free.range q (List.mem_cons_of_mem _ hq)
    rw [ho _ (by unfold sp; omega) (by unfold sp; omega)]
    exact h.zero q f (List.mem_cons_of_mem _ hq) f0 f1
theorem pO {P:Pool} {m n:Int} (hd:P.rt.Nodup) (h:n∈(P.scan m).fr):n∈P.rt∨n∈P.fr:=by
  unfold Pool.scan at h
  rw [iS m _ _ (List.pairwise_reverse.2 (hd.imp fun h e=>h e.symm))] at h
  have:∀ (k L:List Int),n∈k.foldl (fun l n=>if (D.bv (P.st n) m).mode=3 then l else n::l) L→n∈k∨n∈L:=by
    intro k
    induction k with
    | nil=>exact fun L h=>.inr h
    | cons a k ih=>
      intro L h
      rcases ih _ h with h | h
      · exact .inl (List.mem_cons_of_mem _ h)
      · replace h:n∈(if (D.bv (P.st a) m).mode=3 then L else a::L):=h
        split at h
        · exact .inr h
        · rcases List.mem_cons.1 h with rfl | h
          · exact .inl (List.mem_cons_self ..)
          · exact .inr h
  rcases this _ _ h with h | h
  · exact .inl (List.mem_reverse.1 h)
  · exact .inr h
theorem PoolAt.grant {p:Plan} (hp:PF p) (hnn:p.nodes≤1000) {t:Int} (ht:0≤t∧t<p.threads) {ws:List Int} {P:Pool} {g k:Int} (hk:0≤k∧k≤2) (h:PoolAt p t ws P g) (hg:g<900000) (J:Nat) (hJ:1100<J) :
    ∃ (m:Nat) (ws':List Int) (g':Int),m≤70 * P.rt.length+10∧g'≤g+P.rt.length+1∧Runs (D.ee J p t k) ws m (P.grant p.gen k).2 ws'∧PoolAt p t ws' (P.grant p.gen k).1 g'∧KeptP p t P ws ws':=by
  have hN:=cE hp;have hz:=bX hp;obtain ⟨p1,p2,p3⟩:=cG hp ht;have hrm:=h.ret.room;have hr2:=hp.r2;obtain ⟨fr,rt,st⟩:=P;cases fr with
  | cons n l=>
    have hn:=h.free.range n (List.mem_cons_self ..);obtain ⟨K,rfl⟩:∃ K,J=K+1:=⟨J - 1,kw⟩
    obtain ⟨ws',hr,hl,hF,hst,ho⟩:=qd hp (t:=t) h.free kw kw (h.st n hn.1 hn.2) hk K;refine ⟨5,ws',g+1,kw,kw,hr,h.took hp ht hk hl hF hst ho,hl,fun j j0 h1 h2=>ho j j0 fun e=>h1 n (.inl (List.mem_cons_self ..)) (by unfold bK; unfold sp at e; omega)⟩
  | nil=>
    have hh:∀ n,n∈rt→((fun _=>false) n=true↔heldW p ws n):=by
      intro n hn;have:=(h.ret.range n hn).1
      constructor
      · intro h; cases h
      · rintro ⟨j,j0,j1,hj⟩
        rw [h.hz j j0 j1] at hj
        omega
    obtain ⟨K,rfl⟩:∃ K,J=K+1:=⟨J - 1,kw⟩
    obtain ⟨m1,ws1,g1,hm1,hg1,hr1,h1,hk1⟩:=h.scan hp hnn ht hg (K+1) hJ;have hnew:∀ {m:Nat} {gr:Grant} {ws':List Int},Runs (T.bind (D.cB (K+1) p) (fun x=>D.dh p k x)) ws1 m gr ws'→Runs (D.ee (K+1) p t k) ws (m1+1+m) gr ws':=fun {m gr ws'} hr=>by
      refine (Runs.bind (g:=fun x=>D.eU (K+1) p k t (fun x=>D.dh p k x) x) (pS hp h.free kw K) (m:=m1+m) ?_).cast kw
      unfold D.eU;rw [show ((-1:Int) !=-1)=false from rfl]
      exact Runs.bind (g:=fun x=>D.jt (K+1) p (fun x=>D.dh p k x) x) hr1 hr
    show ∃ (m:Nat) (ws':List Int) (g':Int),_∧_∧Runs _ ws m (((⟨[],rt,st⟩:Pool).scan p.gen).out k).2 ws'∧PoolAt p t ws' (((⟨[],rt,st⟩:Pool).scan p.gen).out k).1 g'∧_
    have hfr:∀ n,n∈((⟨[],rt,st⟩:Pool).scan p.gen).fr→n∈rt:=fun n hn=>(pO h.nod hn).resolve_right fun h=>(by cases h)
    have hgl:g1<1000000:=kw
    generalize hQ:(⟨[],rt,st⟩:Pool).scan p.gen=Q at h1 hfr
    obtain ⟨fr',rt',st'⟩:=Q;cases fr' with
    | nil=>
      exact ⟨m1+1+1,ws1,g1,kw,kw,hnew (tQ hp h1.free hgl K),h1,hk1⟩
    | cons n l=>
      have hn:=h1.free.range n (List.mem_cons_self ..);obtain ⟨ws',hr,hl,hF,hst,ho⟩:=tN hp h1.free kw hgl (h1.st n hn.1 hn.2) hk K
      refine ⟨m1+1+5,ws',g1+1,kw,kw,hnew hr,h1.took hp ht hk hl hF hst ho,hl.trans hk1.1,fun j j0 h2 h3=>(ho j j0 fun e=>?_).trans (hk1.2 j j0 h2 h3)⟩
      exact h2 n (.inr (hfr n (List.mem_cons_self ..))) (by unfold bK; unfold sp at e; omega)
theorem PoolAt.put {p:Plan} (hp:PF p) {t:Int} (ht:0≤t∧t<p.threads) {ws ws':List Int} {P:Pool} {g n:Int} (h:PoolAt p t ws P g) (hnr:n ∉ P.rt) (hnf:n ∉ P.fr)
    (hf:(P.rt.length:Int)<p.retire) (hl:ws'.length=ws.length) (hR:RetAt p ws' t (P.rt++[n])) (ho:∀ j,0≤j→j≠rb p t→j≠rb p t+1+P.rt.length→rd ws' j=rd ws j) :
    PoolAt p t ws' ⟨P.fr,P.rt++[n],P.st⟩ g:=by
  have hN:=cE hp;have hz:=bX hp;obtain ⟨p1,p2,p3⟩:=cG hp ht;refine ⟨h.free.keep hl (ho 0 kw kw kw) fun q hq=>?_,hR,?_,fun q hq=>?_,fun q q0 q1=>?_,fun j j0 j1=>?_,fun q f hq f0 f1=>?_⟩
  · have:=h.free.range q hq
    exact ho _ (by unfold nx; omega) (by unfold nx; omega) (by unfold nx; omega)
  · refine List.nodup_append.2 ⟨h.nod,List.nodup_cons.2 ⟨List.not_mem_nil,List.nodup_nil⟩,fun a ha b hb e=>?_⟩
    rw [List.mem_singleton.1 hb] at e
    exact hnr (e ▸ ha)
  · rcases List.mem_append.1 hq with hq | hq
    · exact h.dis q hq
    · rw [List.mem_singleton.1 hq]; exact hnf
  · have:=h.st q q0 q1
    exact ⟨by rw [ho _ (by unfold sp; omega) (by unfold sp; omega) (by unfold sp; omega)]; exact this.1,this.2⟩
  · rw [ho _ kw kw kw]; exact h.hz j j0 j1
  · have:=h.free.range q hq
    rw [ho _ (by unfold sp; omega) (by unfold sp; omega) (by unfold sp; omega)]
    exact h.zero q f hq f0 f1
end Go.Proofs.YtikjpdpgdmbdpaaGreat

/- Ours. -/
set_option maxRecDepth 20000
set_option maxHeartbeats 2000000
namespace Go.Proofs.YtikjpdpgdmbdpaaGreat.St
open Go.RowKit
def D.AB (fu:Nat) :Option (List Field):=(some ([(⟨0,20⟩:Field),(⟨20,30⟩:Field),(⟨50,6⟩:Field),(⟨58,6⟩:Field)]))
def D.iM (fu:Nat) (a0:Int):Option (Handle × Bool):=((D.AB fu ).bind (fun (x5:List Field)=>((D.fW fu x5 a0).bind (fun (x9:List Int × Int)=>(Option.bind (bif (x9.2 !=0) then (some true) else ((getI x9.1 3).bind (fun (x15:Int)=>(some (x15 !=42))))) (fun (x16:Bool)=>(bif x16 then (some ((⟨0,0,0⟩:Handle),false)) else ((getI x9.1 0).bind (fun (x22:Int)=>((getI x9.1 1).bind (fun (x23:Int)=>((getI x9.1 2).bind (fun (x24:Int)=>(some ((⟨(IntKind.i64.wrap x22),(IntKind.i64.wrap x23),(IntKind.i64.wrap x24)⟩:Handle),true)))))))))))))))
end Go.Proofs.YtikjpdpgdmbdpaaGreat.St

/- Ours. -/
namespace Go.Proofs.YtikjpdpgdmbdpaaGreat
open Go.RowKit
def D.iM (w:Int):Handle × Bool:=(St.D.iM 10 w).getD (⟨0,0,0⟩,false)
end Go.Proofs.YtikjpdpgdmbdpaaGreat

/- Ours. -/
set_option maxRecDepth 20000
set_option maxHeartbeats 2000000
namespace Go.Proofs.YtikjpdpgdmbdpaaGreat
open Go.RowKit
def D.Bj (a0:Int) (a1:Int) (a2:Int):Handle × Bool:=(bif (!((D.iM a0).2)) then ((⟨0,0,0⟩:Handle),false) else (bif ((((D.iM a0).1).tenant) !=a1) then ((⟨0,0,0⟩:Handle),false) else (bif (decide ((((D.iM a0).1).index)≥a2)) then ((⟨0,0,0⟩:Handle),false) else ((D.iM a0).1,true))))
def FnHAt {R:Type} (P:Program) (E:Enc R) (F:Nat→Prop) (w:World) (f:FuncId) (first cap:List Value) (d:Int→(Int→T R)→T R):Prop:=
  ∀ (m:Nat) (x:Int) {nf:FuncId} {n1 n2:List Value} {g:Int→T R} (F':Nat→Prop) (w':World),(∀ b,F b→F' b)→Same F w w'→w.heap.size≤w'.heap.size→(∀ b,F' b→b<w'.heap.size)→
    FnT P E u64 m F' w' (.func (.func nf) n1.toArray n2.toArray) g→Calls P f (first++[Value.int .i64 x,Value.func (.func nf) n1.toArray n2.toArray]++cap).toArray w' (aC P E m (d x g) F' w')
def FnH {R:Type} (P:Program) (E:Enc R) (F:Nat→Prop) (w:World) (fv:Value) (d:Int→(Int→T R)→T R):Prop:=
  ∃ (f:FuncId) (first cap:List Value),ag P f=true∧fv=.func (.func f) first.toArray cap.toArray∧FnHAt P E F w f first cap d
section
variable {R : Type} {P : Program} {E : Enc R}
theorem FnH.mono {F F':Nat→Prop} {w w':World} {fv:Value} {d:Int→(Int→T R)→T R} (h:FnH P E F w fv d)
    (hs:∀ b,F b→F' b) (h1:Same F w w') (h2:w.heap.size≤w'.heap.size):FnH P E F' w' fv d:=by
  obtain ⟨f,first,cap,hc,hv,h⟩:=h;exact ⟨f,first,cap,hc,hv,fun m x nf n1 n2 g F1 w1 k1 k2 k3 k4 k5=>h m x F1 w1 (fun b hb=>k1 b (hs b hb)) (h1.trans (k2.sub hs)) kw k4 k5⟩
theorem FnH.at_ {F:Nat→Prop} {w:World} {f:FuncId} {first cap:List Value} {d:Int→(Int→T R)→T R} (h:FnH P E F w (.func (.func f) first.toArray cap.toArray) d) :
    ag P f=true∧FnHAt P E F w f first cap d:=by
  obtain ⟨f',first',cap',hc,he,hf⟩:=h;simp only [Value.func.injEq,Fn.func.injEq] at he
  obtain ⟨e1,e2,e3⟩:=he;have e2':first=first':=by simpa using congrArg Array.toList e2
  have e3':cap=cap':=by simpa using congrArg Array.toList e3
  subst e1; subst e2'; subst e3';exact ⟨hc,hf⟩
end
end Go.Proofs.YtikjpdpgdmbdpaaGreat

/- Ours. -/
set_option maxRecDepth 20000
set_option maxHeartbeats 2000000
namespace Go.Proofs.YtikjpdpgdmbdpaaGreat
open Go.RowKit
theorem qO:ag Tryz.prog 116:=kz
theorem EK:ag Tryz.prog 125:=kz
theorem qQ:ag Tryz.prog 127:=kz
theorem cl23:ag Tryz.prog 23:=kz
theorem dB:aZ Tryz.prog 63 0 0:=kz
theorem hO:aZ Tryz.prog 63 2 7:=kz
theorem ta63:tyA Tryz.prog 63 8:=kz
def D.nY (a0:Seat):Bool:=(bif (D.cR a0.p) then (bif (decide (a0.tenant≥0)) then (bif (decide (a0.tenant<64)) then (bif (decide (a0.thread≥0)) then (decide (a0.thread<a0.p.threads)) else false) else false) else false) else false)
inductive FP where
  | val (c:Value)
  | put (k:Nat) (c:Array Value) (T:TypeId)
def FP.v:FP→Value
  | .val c=>c
  | .put _ _ _=>undef
def FP.slot:FP→Option Nat
  | .put k _ _=>some k
  | .val _=>none
def FP.mk (bs:List Nat) (w' w'':World):FP→Prop
  | .val _=>Below w'.heap.size w' w''
  | .put k c T=>∃ b,bs[k]?=some b∧Upd w' w'' b (.cells c T (0,0))
def fct:List FP→Nat→FP
  | [],_=>.val undef
  | f::_,0=>f
  | _::l,n+1=>fct l n
def putsOk (L:List Oper) (sl:Nat→Option Nat):Bool:=
  distinct L&&L.zipIdx.all fun (o,i)=>(o.after.toList.all fun e=>!Region.binds .any e||decide (e.on<i))&&
    (match sl i with
     | none=>true
     | some k=>(List.range L.length).all fun j=>decide (j=i)||!(sl j==some k))
section
variable {P : Program} {Q : Exit → Act → World → Prop} {L : List Oper} {a : Act} {w : World} {fl : List FP} {bs : List Nat}
theorem uw {sl:Nat→Option Nat} (h:putsOk L sl=true) {i:Nat} {o:Oper} (hi:L[i]?=some o) :
    (∀ e,e∈o.after→Region.binds .any e=true→e.on<i)∧∀ k,sl i=some k→∀ j,j<L.length→j≠i→sl j≠some k:=by
  simp only [putsOk,Bool.and_eq_true] at h
  have hm:(o,i)∈L.zipIdx:=by
    rw [List.mem_iff_getElem?]
    exact ⟨i,by simp [hi]⟩
  have h2:=List.all_eq_true.1 h.2 _ hm;simp only [Bool.and_eq_true] at h2
  refine ⟨fun e he hb=>?_,fun k hk j hj hne hs=>?_⟩
  · have:=List.all_eq_true.1 h2.1 e (by simpa using he)
    simpa [hb] using this
  · have h3:=h2.2
    rw [hk] at h3
    have:=List.all_eq_true.1 h3 j (List.mem_range.2 hj);rw [hs] at this
    simp [hne] at this
structure PInv (L:List Oper) (fl:List FP) (bs:List Nat) (a:Act) (w0:World) (listed:Array Bool) (g:Nat→Value) (a':Act) (w':World):Prop where
  act:a'=puts L g 0 a
  closed:∀ i o,L[i]?=some o→listed.getD i false=true→∀ e,e∈o.after→Region.binds .any e=true→listed.getD e.on false=true
  os:w'.os=w0.os
  tape:w'.tape=w0.tape
  output:w'.output=w0.output
  size:w0.heap.size≤w'.heap.size
  old:∀ b,b<w0.heap.size→b ∉ bs→w'.heap[b]?=w0.heap[b]?
  vals:∀ i,i<L.length→listed.getD i false=true→g i=(fct fl i).v
  un:∀ k b,bs[k]?=some b→(∀ i,i<L.length→listed.getD i false=true→(fct fl i).slot≠some k)→w'.heap[b]?=w0.heap[b]?
  done:∀ i k c T b,i<L.length→listed.getD i false=true→fct fl i=.put k c T→bs[k]?=some b→w'.heap[b]?=some (.cells c T (0,0))
def EachP (P:Program) (L:List Oper) (fl:List FP) (bs:List Nat) (a:Act) (w0:World):List Oper→Nat→Prop
  | [],_=>True
  | o::l,i=>(∀ g w',Chg (fun b=>b∈bs) w0 w'→(∀ j,bp o j=true→g j=(fct fl j).v)→(∀ k b,(fct fl i).slot=some k→bs[k]?=some b→w'.heap[b]?=w0.heap[b]?)→
      YieldsG P L.toArray o (puts L g 0 a) w' fun v w''=>v=(fct fl i).v∧(fct fl i).mk bs w' w'')∧EachP P L fl bs a w0 l (i+1)
theorem uN {w0:World}:∀ (l:List Oper) (k i:Nat) (o:Oper),EachP P L fl bs a w0 l k→l[i]?=some o→
    (∀ g w',Chg (fun b=>b∈bs) w0 w'→(∀ j,bp o j=true→g j=(fct fl j).v)→(∀ k' b,(fct fl (k+i)).slot=some k'→bs[k']?=some b→w'.heap[b]?=w0.heap[b]?)→
      YieldsG P L.toArray o (puts L g 0 a) w' fun v w''=>v=(fct fl (k+i)).v∧(fct fl (k+i)).mk bs w' w'')
  | [],_,_,_,_,h=>by simp at h
  | p::l,k,0,o,hE,h=>by
    simp only [List.getElem?_cons_zero,Option.some.injEq] at h
    subst h;exact hE.1
  | p::l,k,i+1,o,hE,h=>by
    simp only [List.getElem?_cons_succ] at h
    have:=uN l (k+1) i o hE.2 h;rw [show k+1+i=k+(i+1) from by omega] at this
    exact this
theorem Ci (hSB:∀ b,b∈bs→b<w.heap.size) (hnd:∀ (k k' b:Nat),bs[k]?=some b→bs[k']?=some b→k=k') (hs:putsOk L (fun i=>(fct fl i).slot)=true) (he:EachP P L fl bs a { w with drawn:=w.drawn+1 } L 0)
    (hl:∀ g w',Chg (fun b=>b∈bs) w w'→(∀ i,i<L.length→g i=(fct fl i).v)→(∀ i k c T b,i<L.length→fct fl i=.put k c T→bs[k]?=some b→w'.heap[b]?=some (.cells c T (0,0)))→Q .normal (puts L g 0 a) w') :
    wpAny P .any L.toArray Q L.toArray.size (Array.replicate L.toArray.size false) a { w with drawn:=w.drawn+1 }:=by
  have hdist:distinct L=true:=by simp only [putsOk,Bool.and_eq_true] at hs; exact hs.1
  refine jN (fun listed a' w'=>listed.size=L.length∧∃ g,PInv L fl bs a { w with drawn:=w.drawn+1 } listed g a' w') ?_ ?_ _ _ _ _ ?_ ?_
  · rintro listed a' w' i o ⟨hsz,g,hI⟩ ho h0 hall
    have ho:L[i]?=some o:=by simpa using ho
    have hil:i<L.length:=(List.getElem?_eq_some_iff.1 ho).1;obtain ⟨hback,hput⟩:=uw hs ho;have hf:listed.getD i false=false:=by rw [eZ kw false true]; exact h0
    have hdep:∀ j,bp o j=true→listed.getD j false=true∧j<L.length:=by
      intro j hj;obtain ⟨e,hem,heb,rfl⟩:=ed hj;exact ⟨hall e hem heb,by have:=hback e hem heb; omega⟩
    have hsize:w.heap.size≤w'.heap.size:=hI.size;have hy:=uN L 0 i o he ho g w' ⟨hI.os,hI.tape,hI.output,hI.size,fun b hb hn=>hI.old b hb hn⟩ (fun j hj=>hI.vals j (hdep j hj).2 (hdep j hj).1)
      (fun k b hk hb=>hI.un k b hb fun j hj hlj hjk=>by
        rw [Nat.zero_add] at hk
        by_cases e:j=i
        · subst e; rw [hf] at hlj; cases hlj
        · exact hput k hk j hj e hjk)
    rw [Nat.zero_add] at hy
    rw [hI.act]
    refine hy.wp fun v w'' hmk=>⟨by simpa using hsz,(fun j=>if j=i then v else g j),?_⟩
    obtain ⟨hv,hmk⟩:=hmk;have hos:w''.os=w'.os∧w''.tape=w'.tape∧w''.output=w'.output∧w'.heap.size≤w''.heap.size:=by
      cases hc:fct fl i with
      | val c=>rw [hc] at hmk; exact ⟨hmk.os,hmk.tape,hmk.output,hmk.size⟩
      | put k c T=>rw [hc] at hmk; obtain ⟨b,_,hu⟩:=hmk; exact ⟨hu.os,hu.tape,hu.output,Nat.le_of_eq hu.size.symm⟩
    have hoth:∀ b,b<w'.heap.size→(∀ k,(fct fl i).slot=some k→bs[k]?≠some b)→w''.heap[b]?=w'.heap[b]?:=by
      intro b hb hne;cases hc:fct fl i with
      | val c=>rw [hc] at hmk; exact hmk.block b hb
      | put k c T=>
        rw [hc] at hmk hne
        obtain ⟨b',hb',hu⟩:=hmk;exact hu.other b fun e=>hne k rfl (e ▸ hb')
    have hlt:∀ k b,bs[k]?=some b→b<w'.heap.size:=fun k b hb=>Nat.lt_of_lt_of_le (hSB b (List.mem_of_getElem? hb)) hsize
    constructor
    · rw [jU _ _ _ _ i _ _ hdist ho]
      refine iF _ _ _ _ _ fun j _=>?_;rw [Nat.zero_add]
    · intro q oq hq hlq e hee heb
      by_cases hqi:q=i
      · subst hqi
        rw [hq] at ho
        cases ho
        exact getD_set_true (hall e hee heb)
      · exact getD_set_true (hI.closed q oq hq (dF hlq hqi) e hee heb)
    · exact hos.1.trans hI.os
    · exact hos.2.1.trans hI.tape
    · exact hos.2.2.1.trans hI.output
    · exact Nat.le_trans hI.size hos.2.2.2
    · intro b hb hn
      rw [hoth b (Nat.lt_of_lt_of_le hb hI.size) (fun k _ hk=>hn (List.mem_of_getElem? hk)),hI.old b hb hn]
    · intro j hjl hlj
      by_cases hji:j=i
      · subst hji
        rw [if_pos rfl]; exact hv
      · rw [if_neg hji]; exact hI.vals j hjl (dF hlj hji)
    · intro k b hkb hno
      rw [hoth b (hlt k b hkb) (fun k' hk' hb'=>?_),hI.un k b hkb (fun j hj hlj=>hno j hj (getD_set_true hlj))]
      obtain rfl:=hnd k' k b hb' hkb;exact hno i hil (by simp [hsz,hil]) hk'
    · intro j k c T b hjl hlj hfj hb
      by_cases hji:j=i
      · subst hji
        rw [hfj] at hmk
        obtain ⟨b',hb',hu⟩:=hmk;rw [hb] at hb'
        obtain rfl:=Option.some.inj hb';exact hu.at_
      · rw [hoth b (hlt k b hb) (fun k' hk' hb'=>?_)]
        · exact hI.done j k c T b hjl (dF hlj hji) hfj hb
        · obtain rfl:=hnd k' k b hb' hb
          exact hput k' hk' j hjl hji (by rw [hfj]; rfl)
  · rintro listed a' w' ⟨hsz,g,hI⟩ hr
    have hall:∀ i,i<L.length→listed.getD i false=true:=by
      intro i
      induction i using Nat.strongRecOn with
      | _ i ih=>
        intro hi;cases hc:listed.getD i false with
        | true=>rfl
        | false=>
          exfalso
          have hm:i∈Region.ready .any L.toArray listed:=by
            refine mem_ready.2 ⟨?_,L[i],by simp [hi],?_⟩
            · rw [eZ kw true false]; exact hc
            · intro e he heb
              have:=(uw hs (i:=i) (o:=L[i]) (by simp [hi])).1 e he heb
              exact ih e.on this kw
          rw [hr] at hm
          cases hm
    rw [hI.act]
    exact hl g w' ⟨hI.os,hI.tape,hI.output,hI.size,fun b hb hn=>hI.old b hb hn⟩ (fun i hi=>hI.vals i hi (hall i hi)) fun i k c T b hi hf hb=>hI.done i k c T b hi (hall i hi) hf hb
  · have:∀ n (b:Array Bool),left n b≤n:=fun n b=>by
      unfold left;exact Nat.le_trans (List.length_filter_le _ _) (by simp)
    exact this _ _
  · refine ⟨by simp,start L a,?_⟩
    constructor
    · refine (jK a _ _ _ fun i oi hoi=>?_).symm
      simp only [start,Nat.zero_add,hoi]
    · intro i o _ h; rw [dH] at h; cases h
    · rfl
    · rfl
    · rfl
    · exact Nat.le_refl _
    · intro b _ _; rfl
    · intro i _ h; rw [dH] at h; cases h
    · intro k b _ _; rfl
    · intro i k c T b _ h; rw [dH] at h; cases h
variable {N : Nat} {s : SL}
theorem uH {id:Nat} (bs:List Nat) (fl:List FP) (hm:P.follows .mixedOrders=true) (r:Fr a N s) (hSB:∀ b,b∈bs→b<w.heap.size) (hnd:∀ (k k' b:Nat),bs[k]?=some b→bs[k']?=some b→k=k')
    (hs:(putsOk L (fun i=>(fct fl i).slot)&&dstsIn N L)=true) (he:EachP P L fl bs a { w with drawn:=w.drawn+1 } L 0)
    (hl:∀ a' g w',Chg (fun b=>b∈bs) w w'→(∀ i,Nat.ble (i+1) L.length=true→g i=(fct fl i).v)→(∀ i k c T b,Nat.ble (i+1) L.length=true→fct fl i=.put k c T→bs[k]?=some b→w'.heap[b]?=some (.cells c T (0,0)))→
      Fr a' N (putsS L g 0 s)→Q .normal a' w'):(Code.region id L.toArray true).wp P Q a w:=by
  simp only [Bool.and_eq_true] at hs
  exact wp_region_any hm (Ci hSB hnd hs.1 he fun g w' h1 h2 h3=>hl _ g w' h1 (fun i hi=>h2 i (Nat.le_of_ble_eq_true hi)) (fun i k c T b hi=>h3 i k c T b (Nat.le_of_ble_eq_true hi)) (r.puts L _ 0 hs.2))
theorem uq {i:Nat}:EachP P L fl bs a w [] i:=trivial
theorem ek {o:Oper} {l:List Oper} {i:Nat} {c:Value} (r:Fr a N s) (hc:fct fl i=.val c) (hd:(o.guard.isNone&&dstsIn N L)=true)
    (h:∀ a' g w',Chg (fun b=>b∈bs) w w'→(∀ j,bp o j=true→g j=(fct fl j).v)→Fr a' N (putsS L g 0 s)→Yields P o a' w' fun v w''=>Below w'.heap.size w' w''∧v=c)
    (h2:EachP P L fl bs a w l (i+1)):EachP P L fl bs a w (o::l) i:=by
  simp only [Bool.and_eq_true] at hd
  refine ⟨fun g w' h1 h3 _=>.plain hd.1 ?_,h2⟩
  refine (h _ g w' h1 h3 (r.puts L _ 0 hd.2)).mono fun v w'' hq=>?_;rw [hc]
  exact ⟨hq.2,hq.1⟩
theorem mh {o:Oper} {l:List Oper} {i k b:Nat} {c:Array Value} {T:TypeId} (r:Fr a N s) (hc:fct fl i=.put k c T) (hb:bs[k]?=some b) (hd:(o.guard.isNone&&dstsIn N L)=true)
    (h:∀ a' g w',Chg (fun b=>b∈bs) w w'→(∀ j,bp o j=true→g j=(fct fl j).v)→Fr a' N (putsS L g 0 s)→w'.heap[b]?=w.heap[b]?→Yields P o a' w' fun v w''=>Upd w' w'' b (.cells c T (0,0))∧v=undef)
    (h2:EachP P L fl bs a w l (i+1)):EachP P L fl bs a w (o::l) i:=by
  simp only [Bool.and_eq_true] at hd
  refine ⟨fun g w' h1 h3 h4=>.plain hd.1 ?_,h2⟩
  refine (h _ g w' h1 h3 (r.puts L _ 0 hd.2) (h4 k b (by rw [hc]; rfl) hb)).mono fun v w'' hq=>?_;rw [hc]
  exact ⟨hq.2,b,hb,hq.1⟩
theorem Bq {o:Oper} {l:List Oper} {i j d:Nat} {c:Value} (want:Bool) (r:Fr a N s) (hc:fct fl i=.val c) (hg:o.guard=some (j,want)) (hj:(L.toArray[j]?).bind (·.dst)=some d)
    (hd:(Nat.ble (d+1) N&&dstsIn N L)=true)
    (hv:∀ g,(∀ j,bp o j=true→g j=(fct fl j).v)→look (putsS L g 0 s) d=.bool want)
    (h:∀ a' g w',Chg (fun b=>b∈bs) w w'→(∀ j,bp o j=true→g j=(fct fl j).v)→Fr a' N (putsS L g 0 s)→Yields P { o with guard:=none } a' w' fun v w''=>Below w'.heap.size w' w''∧v=c)
    (h2:EachP P L fl bs a w l (i+1)):EachP P L fl bs a w (o::l) i:=by
  simp only [Bool.and_eq_true] at hd
  refine ⟨fun g w' h1 h3 _=>?_,h2⟩
  have hr:=r.puts L g 0 hd.2;have hy:=iD (ops:=L.toArray) hr hj (hv g h3) (Nat.le_of_ble_eq_true hd.1);unfold YieldsG;rw [if_pos (by simp only [Region.wanted,hg,hy,aI,beq_self_eq_true])]
  show Yields P { o with guard:=none } _ _ _
  refine (h _ g w' h1 h3 hr).mono fun v w'' hq=>?_;rw [hc]
  exact ⟨hq.2,hq.1⟩
theorem Bz {o:Oper} {l:List Oper} {i j d:Nat} (want:Bool) (v:Value) (r:Fr a N s) (hc:fct fl i=.val undef) (hg:o.guard=some (j,want)) (hj:(L.toArray[j]?).bind (·.dst)=some d)
    (hd:(Nat.ble (d+1) N&&dstsIn N L)=true)
    (hv:∀ g,(∀ j,bp o j=true→g j=(fct fl j).v)→look (putsS L g 0 s) d=v)
    (hn:aI v≠some want) (h2:EachP P L fl bs a w l (i+1)):EachP P L fl bs a w (o::l) i:=by
  simp only [Bool.and_eq_true] at hd
  refine ⟨fun g w' h1 h3 _=>?_,h2⟩
  have hr:=r.puts L g 0 hd.2;have hy:=iD (ops:=L.toArray) hr hj (hv g h3) (Nat.le_of_ble_eq_true hd.1);unfold YieldsG;rw [if_neg (by
    simp only [Region.wanted,hg,hy]
    exact fun h=>hn (eq_of_beq h)),hc]
  exact ⟨rfl,Below.refl _ _⟩
end
/-! ### Chunks -/
section
variable {L : List Ck} {d : Ck} {w w' w0 : World} {i i1 i2 b1 b2 : Nat} {a1 a2 c1 c2 : Array Value} {T1 T2 S1 S2 : TypeId} {Z : Nat → Prop}
theorem Post.cne (h:Post Z L w0 w) (h1:L[i1]?=some (aa b1 a1 T1)) (h2:L[i2]?=some (aa b2 a2 T2)) (hn:(i1==i2)=false):b1≠b2:=fun e=>
  (h.sep.clear h1 h2 (by simpa using hn)).1 b1 (List.mem_singleton.2 rfl) (.inl (List.mem_singleton.2 e))
theorem nd2 (h:b1≠b2):∀ (k k' b:Nat),[b1,b2][k]?=some b→[b1,b2][k']?=some b→k=k':=by
  intro k k' b hk hk'
  match k,k' with
  | 0,0=>rfl
  | 1,1=>rfl
  | 0,1=>simp at hk hk'; omega
  | 1,0=>simp at hk hk'; omega
  | k+2,_=>simp at hk
  | 0,k+2=>simp at hk'
  | 1,k+2=>simp at hk'
theorem Post.lt2 (h:Post Z L w0 w) (h1:L[i1]?=some (aa b1 a1 T1)) (h2:L[i2]?=some (aa b2 a2 T2)):∀ b,b∈[b1,b2]→b<w.heap.size:=by
  intro b hb;simp only [List.mem_cons,List.not_mem_nil,or_false] at hb
  rcases hb with rfl | rfl
  · exact h.sep.lt h1 (.inl (List.mem_singleton.2 rfl))
  · exact h.sep.lt h2 (.inl (List.mem_singleton.2 rfl))
theorem Post.okP (h:Post Z L w0 w) (h1:L[i1]?=some (aa b1 a1 T1)) (h2:L[i2]?=some (aa b2 a2 T2)) (hk:Chg (fun b=>b∈[b1,b2]) w w') (hi:L[i]?=some d) (n1:(i1==i)=false) (n2:(i2==i)=false):d.ok w':=by
  have c1:=(h.sep.clear h1 hi (by simpa using n1)).1
  have c2:=(h.sep.clear h2 hi (by simpa using n2)).1
  refine d.st w w' (fun b hb=>hk.block b (h.sep.lt hi hb) fun hc=>?_) hk.size (h.sep.get hi)
  simp only [List.mem_cons,List.not_mem_nil,or_false] at hc
  rcases hc with rfl | rfl
  · exact c1 b (List.mem_singleton.2 rfl) hb
  · exact c2 b (List.mem_singleton.2 rfl) hb
theorem Post.cellP {b:Nat} {a:Array Value} {T:TypeId} (h:Post Z L w0 w) (h1:L[i1]?=some (aa b1 a1 T1)) (h2:L[i2]?=some (aa b2 a2 T2)) (hk:Chg (fun b=>b∈[b1,b2]) w w') (hi:L[i]?=some (aa b a T)) (n1:(i1==i)=false) (n2:(i2==i)=false):w'.heap[b]?=some (.cells a T (0,0)):=
  h.okP h1 h2 hk hi n1 n2
theorem Sep.reL {w w':World} (hz:w.heap.size≤w'.heap.size):∀ (L L':List Ck),Sep L w→L'.length=L.length→(∀ (j:Nat) (c c':Ck),L[j]?=some c→L'[j]?=some c'→c'.own=c.own∧c'.ro=c.ro∧c'.ok w')→Sep L' w'
  | [],[],_,_,_=>trivial
  | [],_::_,_,h,_=>by simp at h
  | _::_,[],_,h,_=>by simp at h
  | c::L,c'::L',hs,hl,hj=>by
    obtain ⟨e1,e2,e3⟩:=hj 0 c c' rfl rfl;refine ⟨e3,fun b hb=>Nat.lt_of_lt_of_le (hs.2.1 b (by unfold Ck.has at *; rw [←e1,←e2]; exact hb)) hz,fun d' hd'=>?_,Sep.reL hz L L' hs.2.2.2 (by simpa using hl) fun j d d' h1 h2=>hj (j+1) d d' (by simpa using h1) (by simpa using h2)⟩
    obtain ⟨j,hj'⟩:=List.mem_iff_getElem?.1 hd';have hlt:j<L.length:=by
      have:=(List.getElem?_eq_some_iff.1 hj').1;simp at hl; omega
    obtain ⟨q1,q2,_⟩:=hj (j+1) L[j] d' (by simp [hlt]) (by simpa using hj');have hc:=hs.2.2.1 L[j] (List.getElem_mem hlt);unfold Ck.clear Ck.has at *
    rw [q1,q2,e1,e2]
    exact hc
theorem Post.put2 (h:Post Z L w0 w) (h1:L[i1]?=some (aa b1 a1 T1)) (h2:L[i2]?=some (aa b2 a2 T2)) (hn:(i1==i2)=false) (hk:Chg (fun b=>b∈[b1,b2]) w w') (e1:w'.heap[b1]?=some (.cells c1 S1 (0,0))) (e2:w'.heap[b2]?=some (.cells c2 S2 (0,0))) :
    Post Z ((L.set i1 (aa b1 c1 S1)).set i2 (aa b2 c2 S2)) w0 w':=by
  have hne:i1≠i2:=by simpa using hn
  have l1:=(List.getElem?_eq_some_iff.1 h1).1;have l2:=(List.getElem?_eq_some_iff.1 h2).1;have key:∀ (j:Nat) (c c':Ck),L[j]?=some c→((L.set i1 (aa b1 c1 S1)).set i2 (aa b2 c2 S2))[j]?=some c'→c'.own=c.own∧c'.ro=c.ro∧c'.ok w':=by
    intro j c c' hc hc';rw [List.getElem?_set] at hc'
    by_cases e:i2=j
    · subst e
      rw [if_pos rfl,if_pos (by simpa using l2)] at hc'
      rw [h2] at hc
      obtain rfl:=Option.some.inj hc;obtain rfl:=Option.some.inj hc';exact ⟨rfl,rfl,e2⟩
    · rw [if_neg e,List.getElem?_set] at hc'
      by_cases e':i1=j
      · subst e'
        rw [if_pos rfl,if_pos l1] at hc'
        rw [h1] at hc
        obtain rfl:=Option.some.inj hc;obtain rfl:=Option.some.inj hc';exact ⟨rfl,rfl,e1⟩
      · rw [if_neg e',hc] at hc'
        obtain rfl:=Option.some.inj hc';exact ⟨rfl,rfl,h.okP h1 h2 hk hc (by simpa using e') (by simpa using e)⟩
  refine ⟨Sep.reL hk.size L _ h.sep (by simp) key,h.chg.trans hk (fun b hb hz=>?_),fun c hc b hb=>?_⟩
  · simp only [List.mem_cons,List.not_mem_nil,or_false] at hz
    rcases hz with rfl | rfl
    · exact (h.mine _ (List.mem_of_getElem? h1) b (List.mem_singleton.2 rfl)).resolve_right kw
    · exact (h.mine _ (List.mem_of_getElem? h2) b (List.mem_singleton.2 rfl)).resolve_right kw
  · obtain ⟨j,hj⟩:=List.mem_iff_getElem?.1 hc
    have hlt:j<L.length:=by
      have:=(List.getElem?_eq_some_iff.1 hj).1;simpa using this
    obtain ⟨q1,_,_⟩:=key j L[j] c (by simp [hlt]) hj;rw [q1] at hb
    exact h.mine _ (List.getElem_mem hlt) b hb
end
theorem AJ {P:Program} {fn:Func} {a:Act} {n:Nat} {s:SL} (h:Fr a n s) {R:Ending→World→Prop} {w:World} {t t1 t2:Tmp} {ty ty1:TypeId} {b b1:Nat} {c c1:Array Value} {E E1:TypeId} {fz fz1:Nat × Nat} {k k1:Nat} {v2:Value} (hf:fn.results=#[.cell t ty,.cell t1 ty1,.tmp t2])
    (hv:look s t=.pointer (some ⟨b,0,none⟩)) (hv1:look s t1=.pointer (some ⟨b1,0,none⟩)) (hv2:look s t2=v2) (hb:w.heap[b]?=some (.cells c E fz)) (hk:c.size=k) (ht:tyA P ty k=true) (hb1:w.heap[b1]?=some (.cells c1 E1 fz1)) (hk1:c1.size=k1) (ht1:tyA P ty1 k1=true)
    (hR:R (.returned (.tuple #[.agg c,.agg c1,v2])) w):bodyPost P fn R .ret a w:=by
  refine ⟨h.defers,_,?_,hR⟩;subst hk; subst hk1; subst hv2;have hl:(loadVar ty ⟨b,0,none⟩).run P w=.ok (.agg c) w:=by
    have:=gN (P:=P) (t:=ty) (iC hb (o:=0) (n:=c.size) (cs:=c.toList) (by rw [List.drop_zero]; exact List.take_of_length_le (by simp))) (by simpa using ht)
    simpa using this
  have hl1:(loadVar ty1 ⟨b1,0,none⟩).run P w=.ok (.agg c1) w:=by
    have:=gN (P:=P) (t:=ty1) (iC hb1 (o:=0) (n:=c1.size) (cs:=c1.toList) (by rw [List.drop_zero]; exact List.take_of_length_le (by simp))) (by simpa using ht1)
    simpa using this
  simp [results,hf,h.slot,hv,hv1,asAddr,hl,hl1]
theorem Sep.vn {N1 N2 L:List Ck} {lo1 hi1 lo2 hi2 B:Nat} {w:World} (h1:bP N1 lo1 hi1 w) (h2:bP N2 lo2 hi2 w) (hd:hi1≤lo2∨hi2≤lo1) (hL:Sep L w) (h3:∀ c,c∈L→∀ b,c.has b→b<B) (hB1:B≤lo1) (hB2:B≤lo2):Sep (N1++(N2++L)) w:=by
  refine h1.1.append (Sep.beside h2 hL h3 hB2) fun c hc d hd'=>?_;have hc2:∀ b,c.has b→¬ d.has b:=fun b hb hb'=>by
    have q1:=h1.2 c hc b hb
    rcases List.mem_append.1 hd' with hm | hm
    · have q2:=h2.2 d hm b hb'; omega
    · have q2:=h3 d hm b hb'; omega
  exact ⟨fun b hb hb'=>hc2 b (.inl hb) hb',fun b hb hb'=>hc2 b hb' (.inl hb)⟩
end Go.Proofs.YtikjpdpgdmbdpaaGreat

/- Ours. -/
set_option maxRecDepth 20000
set_option maxHeartbeats 2000000
namespace Go.Proofs.YtikjpdpgdmbdpaaGreat
open Go.RowKit
theorem cl37:ag Tryz.prog 37:=kz
theorem vJ:aZ Tryz.prog 54 0 0:=kz
def hof (w:Int):Handle × Bool:=if w / 72057594037927936 % 4=0∧w / 288230376151711744=42 then (⟨w % 1048576,w / 1048576 % 1073741824,w / 1125899906842624 % 64⟩,true) else (⟨0,0,0⟩,false)
structure HF (h:Handle):Prop where
  i0:0≤h.index
  i1:h.index<1048576
  g0:0≤h.gen
  g1:h.gen≤1073741823
  t0:0≤h.tenant
  t1:h.tenant<64
theorem Br {at_:Int} {f:Int→T Res} {ws ws':List Int} {n:Nat} {r:Res} (h0:0≤at_) (h1:at_<ws.length) (h:Runs (f (rd ws at_)) ws n r ws'):Runs (D.fR at_ f) ws (n+1) r ws':=Runs.load h0 h1 h
theorem BD {at_ was w:Int} {f:Bool→T Res} {ws ws':List Int} {n:Nat} {r:Res} (h0:0≤at_) (h1:at_<ws.length) (h:Runs (f (rd ws at_==was)) (if rd ws at_=was then ws.set at_.toNat w else ws) n r ws'):Runs (D.fQ at_ was w f) ws (n+1) r ws':=by
  refine Runs.act (op:=2) kw (gk h0 h1) ?_;have:ck 2 at_ was w (rd ws at_) ws=(if rd ws at_=was then ws.set at_.toNat w else ws):=by simp [ck]
  rw [this]
  exact h
def Eq1 (ws ws':List Int):Prop:=ws'.length=ws.length∧∀ j,0≤j→rd ws' j=rd ws j
def fp (p:Plan) (n f:Int):Int:=sp p n+2+f
section
variable {s : Seat} (hs : D.nY s = true) {ws : List Int} (hl : Len s.p ws) {w f : Int} {h : Handle} (hm : D.Bj w s.tenant s.p.nodes = (h, true)) (hn : 0 ≤ h.index ∧ h.index < s.p.nodes)
include hs hl hm hn
end
theorem PoolAt.start {p:Plan} (hp:PF p) {ws:List Int} (h:LaidAt p ws) {t:Int} (ht:0≤t∧t<p.threads):PoolAt p t ws ⟨allN p,[],fun _=>⟨0,0,0⟩⟩ 0:=by
  have hN:=cE hp;have hF:=uj hp h;refine ⟨hF,uK hp h ht,List.nodup_nil,fun _ h=>(by cases h),fun n n0 n1=>tW hp h ⟨n0,n1⟩,fun j j0 j1=>CQ hp h j0 j1,fun n f hn f0 f1=>?_⟩
  have hr:=hF.range n hn;exact h.zero _ (by unfold sp; omega) fun m _ _=>by unfold sp; omega
section
variable {s : Seat} (hs : D.nY s = true) (hnn : s.p.nodes ≤ 1000) {ws : List Int} {P : Pool} {g : Int} (h : PoolAt s.p s.thread ws P g) (hg : g < 900000)
include hs hnn h hg
end
theorem pC {P:Pool} {m n:Int} (hd:P.rt.Nodup) (h:n∈(P.scan m).fr):(n∈P.rt∧(D.bv (P.st n) m).mode≠3)∨n∈P.fr:=by
  unfold Pool.scan at h
  rw [iS m _ _ (List.pairwise_reverse.2 (hd.imp fun h e=>h e.symm))] at h
  have:∀ (k L:List Int),n∈k.foldl (fun l n=>if (D.bv (P.st n) m).mode=3 then l else n::l) L→(n∈k∧(D.bv (P.st n) m).mode≠3)∨n∈L:=by
    intro k
    induction k with
    | nil=>exact fun L h=>.inr h
    | cons a k ih=>
      intro L h
      rcases ih _ h with h | h
      · exact .inl ⟨List.mem_cons_of_mem _ h.1,h.2⟩
      · replace h:n∈(if (D.bv (P.st a) m).mode=3 then L else a::L):=h
        split at h
        · exact .inr h
        · rename_i hne
          rcases List.mem_cons.1 h with rfl | h
          · exact .inl ⟨List.mem_cons_self ..,hne⟩
          · exact .inr h
  rcases this _ _ h with h | h
  · exact .inl ⟨List.mem_reverse.1 h.1,h.2⟩
  · exact .inr h
theorem Bo (s:State) (m:Int):(D.bv s m).mode=3∨(D.bv s m).mode=0:=by
  unfold D.bv;cases decide (s.gen≥m)
  · exact .inr rfl
  · exact .inl rfl
theorem qb (P:Pool) (m:Int):(P.scan m).rt=[]:=jW _ _ _
structure ModesP (P:Pool):Prop where
  mf:∀ n,n∈P.fr→(P.st n).mode=0
  mr:∀ n,n∈P.rt→(P.st n).mode=2
theorem ModesP.scan {P:Pool} (h:ModesP P) (hd:P.rt.Nodup) (m:Int):ModesP (P.scan m):=by
  refine ⟨fun n hn=>?_,fun n hn=>by rw [qb] at hn; cases hn⟩
  have hst:(P.scan m).st n=if n∈P.rt then D.bv (P.st n) m else P.st n:=by
    unfold Pool.scan;rw [jY _ _ _ (List.pairwise_reverse.2 (hd.imp fun h e=>h e.symm))]
    simp only [List.mem_reverse]
  rw [hst]
  rcases pC hd hn with ⟨h1,h2⟩ | h1
  · rw [if_pos h1]
    exact (Bo _ _).resolve_left h2
  · by_cases h2:n∈P.rt
    · have:=h.mr n h2
      have:=h.mf n h1;omega
    · rw [if_neg h2]; exact h.mf n h1
theorem ModesP.out {P:Pool} (h:ModesP P) (hn:P.fr.Nodup) (hd:∀ n,n∈P.rt→n ∉ P.fr) (k:Int):ModesP (P.out k).1:=by
  obtain ⟨fr,rt,st⟩:=P;cases fr with
  | nil=>exact h
  | cons n l=>
    have hnl:=(List.nodup_cons.1 hn).1;refine ⟨fun q hq=>?_,fun q hq=>?_⟩
    · have hne:q≠n:=fun e=>hnl (e ▸ hq)
      show (if q=n then _ else st q).mode=0
      rw [if_neg hne]
      exact h.mf q (List.mem_cons_of_mem _ hq)
    · have hne:q≠n:=fun e=>hd q hq (e ▸ List.mem_cons_self ..)
      show (if q=n then _ else st q).mode=2
      rw [if_neg hne]
      exact h.mr q hq
structure BoxAt (p:Plan) (t:Int) (ws:List Int) (P:Pool) (g:Int):Prop where
  pool:PoolAt p t ws P g
  modes:ModesP P
theorem PoolAt.putf {p:Plan} (hp:PF p) {t:Int} (ht:0≤t∧t<p.threads) {ws ws':List Int} {P:Pool} {g n f:Int} (h:PoolAt p t ws P g) (hn:0≤n∧n<p.nodes) (hnf:n ∉ P.fr) (hf:0≤f∧f<3) (hl:ws'.length=ws.length)
    (ho:∀ j,0≤j→j≠fp p n f→rd ws' j=rd ws j):PoolAt p t ws' P g:=by
  obtain ⟨z1,z2,z3,z4⟩:=bX hp;obtain ⟨p1,p2,p3⟩:=cG hp ht;have hfp:fp p n f=D.aM p+n * 5+2+f:=rfl;refine h.keep hp ht (st:=P.st) hl (ho 0 kw kw) (fun j j0 j1=>ho j kw kw) (fun q e hq e0 e1=>?_) (fun j j0 j1=>ho _ kw kw) (fun q q0 q1=>?_)
  · have hr:=h.free.range q hq
    have hne:q≠n:=fun e=>hnf (e ▸ hq)
    exact ho _ (by unfold sp; omega) (by unfold sp; omega)
  · have:=h.st q q0 q1
    exact ⟨by rw [ho _ (by unfold sp; omega) (by unfold sp; omega)]; exact this.1,this.2⟩
theorem PoolAt.same {p:Plan} (hp:PF p) {t:Int} (ht:0≤t∧t<p.threads) {ws ws':List Int} {P:Pool} {g:Int} (h:PoolAt p t ws P g) (he:Eq1 ws ws'):PoolAt p t ws' P g:=by
  obtain ⟨z1,z2,z3,z4⟩:=bX hp;obtain ⟨p1,p2,p3⟩:=cG hp ht;refine h.keep hp ht (st:=P.st) he.1 (he.2 0 kw) (fun j j0 j1=>he.2 j kw) (fun q e hq e0 e1=>?_) (fun j j0 j1=>he.2 _ kw) (fun q q0 q1=>?_)
  · have hr:=h.free.range q hq
    exact he.2 _ (by unfold sp; omega)
  · have:=h.st q q0 q1
    exact ⟨by rw [he.2 _ (by unfold sp; omega)]; exact this.1,this.2⟩
theorem BoxAt.put {p:Plan} (hp:PF p) {t:Int} (ht:0≤t∧t<p.threads) {ws ws':List Int} {P:Pool} {g n f:Int} (h:BoxAt p t ws P g) (hn:0≤n∧n<p.nodes) (hnf:n ∉ P.fr) (hf:0≤f∧f<3) (hl:ws'.length=ws.length)
    (ho:∀ j,0≤j→j≠fp p n f→rd ws' j=rd ws j):BoxAt p t ws' P g:=⟨h.pool.putf hp ht hn hnf hf hl ho,h.modes⟩
theorem BoxAt.same {p:Plan} (hp:PF p) {t:Int} (ht:0≤t∧t<p.threads) {ws ws':List Int} {P:Pool} {g:Int} (h:BoxAt p t ws P g) (he:Eq1 ws ws'):BoxAt p t ws' P g:=⟨h.pool.same hp ht he,h.modes⟩
section
variable {s : Seat} (hs : D.nY s = true) (hnn : s.p.nodes ≤ 40) (hrr : s.p.retire ≤ 40) {ws : List Int} {P : Pool} {g : Int} (h : BoxAt s.p s.thread ws P g) (hg : g < 800000)
include hs hnn hrr h hg
end
/-! ### Guards -/
theorem BB {p:Plan} (hp:PF p) {ws:List Int} (hl:Len p ws) {t s at_ sh w:Int} (ht:0≤t∧t<p.threads) (hs:0≤s∧s<3) (h0:0≤at_) (h1:at_<D.bG p) (hne:at_≠D.aL p+t * 3+s)
    (hw0:0≤w) (hw1:w<1099511627776) (hsh:0≤sh∧sh<3) (hw:rd ws at_=w) (k:Nat) :
    (w / 2 ^ sh.toNat - 1<0→Runs (D.eF (k+1) p t s at_ sh w) ws 0 w ws)∧
    (¬ w / 2 ^ sh.toNat - 1<0→Runs (D.eF (k+1) p t s at_ sh w) ws 2 w (ws.set (D.aL p+t * 3+s).toNat (w / 2 ^ sh.toNat))):=by
  obtain ⟨h2,h3,h4⟩:=vV hw0 hsh;obtain ⟨g1,g2,g3,g4⟩:=bX hp;have hn1:=hp.n1;have hb:D.eF (k+1) p t s at_ sh w=D.gG (D.eF k) p t s at_ sh w:=rfl;have hq:IntKind.i64.wrap (IntKind.i64.wrap (shrI .u64 w sh) - 1)=w / 2 ^ sh.toNat - 1:=by
    rw [h2,bq (x:=w / 2 ^ sh.toNat) kw kw,bq kw kw]
  constructor
  · intro hlt
    rw [hb]
    unfold D.gG;rw [hq,show decide (w / 2 ^ sh.toNat - 1<0)=true from by simpa using hlt]
    exact .done _ _
  · intro hge
    rw [hb]
    unfold D.gG;rw [hq,show decide (w / 2 ^ sh.toNat - 1<0)=false from by simpa using hge]
    have hr:=px hp hl ht hs (n:=w / 2 ^ sh.toNat - 1) kw
    rw [show w / 2 ^ sh.toNat - 1+1=w / 2 ^ sh.toNat from by omega] at hr
    show Runs ((D.dT p t s (w / 2 ^ sh.toNat - 1)).bind fun _=>D.lL (D.eF k) at_ w p t s sh) ws (1+1) w _
    refine Runs.bind hr ?_;unfold Len at hl
    show Runs (.act 0 at_ 0 0 _) _ 1 _ _
    refine .load h0 (by simpa [hl] using h1) ?_;have hx:rd (ws.set (D.aL p+t * 3+s).toNat (w / 2 ^ sh.toNat)) at_=w:=by
      rw [cn kw kw h0,if_neg hne,hw]
    rw [hx]
    unfold D.jl;rw [show (w==w)=true from by simp]
    exact .done _ _
end Go.Proofs.YtikjpdpgdmbdpaaGreat

/- Ours. -/
set_option maxRecDepth 20000
set_option maxHeartbeats 2000000
namespace Go.Proofs.YtikjpdpgdmbdpaaGreat
open Go.RowKit
theorem EO:ag Tryz.prog 224:=kz
theorem cl49:ag Tryz.prog 49:=kz
theorem cl82:ag Tryz.prog 82:=kz
def D.mH (a0:Seat) (a1:Int):Where:=(⟨a0,(D.bn a0.p a1 0),(D.bn a0.p a1 1)⟩:Where)
def D.tJ (a0:Int):T Res:=(D.lR (⟨a0,0⟩:Res))
def D.nK (c0:(Int→T Res)) (a0:Grant):T Res:=(bif (a0.e !=0) then (D.tJ a0.e) else (c0 a0.node))
def D.rL (j:Nat) (a0:Where) (a1:(Int→T Res)):T Res:=(T.bind (D.ee j a0.seat.p a0.seat.thread 1) (fun x=>(D.nK a1 x)))
def D.tM (a0:Int):Int:=(IntKind.u64.wrap (IntKind.i64.wrap (a0+1)))
def D.tO (a0:Int):Int:=(IntKind.i64.wrap ((IntKind.i64.wrap a0) - 1))
def D.zn (c0:(Unit→T Res)):T Res:=(c0 ())
def D.zV (a0:Where) (a1:Int) (a2:Int) (a3:(Unit→T Res)):T Res:=(T.bind (D.dT a0.seat.p a0.seat.thread a1 a2) (fun _=>(D.zn a3)))
def D.xC :T Res:=(D.tJ 0)
def D.xG (c0:Where) (a0:Bool):T Res:=(D.zV c0 0 (-1) (fun _=>D.xC))
def D.xP (j:Nat) (r_queue_where_put:Where→Int→T Res) (c0:Where) (c1:Int) (c2:Int) (a0:Bool):T Res:=(bif (!a0) then (r_queue_where_put c0 c1) else (D.fQ c0.tail c2 (D.tM c1) (fun x=>(D.xG c0 x))))
def D.xS (j:Nat) (r_queue_where_put:Where→Int→T Res) (c0:Where) (c1:Int) (a0:Bool):T Res:=(r_queue_where_put c0 c1)
def D.yn (j:Nat) (r_queue_where_put:Where→Int→T Res) (c0:Int) (c1:Where) (c2:Int) (c3:Int) (c4:Int) (a0:Int):T Res:=(bif (a0 !=c0) then (r_queue_where_put c1 c2) else (bif (c3 !=0) then (D.fQ c1.tail c0 c3 (fun x=>(D.xS j r_queue_where_put c1 c2 x))) else (D.fQ c4 0 (D.tM c2) (fun x=>(D.xP j r_queue_where_put c1 c2 c0 x)))))
def D.yP (j:Nat) (r_queue_where_put:Where→Int→T Res) (c0:Where) (c1:Int) (c2:Int) (c3:Int) (a0:Int):T Res:=(D.fR c0.tail (fun x=>(D.yn j r_queue_where_put c1 c0 c2 a0 c3 x)))
def D.zx (j:Nat) (r_queue_where_put:Where→Int→T Res) (c0:Where) (c1:Int) (a0:Int):T Res:=(D.fR (D.bf c0.seat.p (D.tO a0) 2) (fun x=>(D.yP j r_queue_where_put c0 a0 c1 (D.bf c0.seat.p (D.tO a0) 2) x)))
def D.yH (j:Nat) (r_queue_where_put:Where→Int→T Res) (a0:Where) (a1:Int):T Res:=(T.bind (D.fV j a0.seat.p a0.seat.thread 0 a0.tail 0) (fun x=>(D.zx j r_queue_where_put a0 a1 x)))
def D.sx (j:Nat):Nat→Where→Int→T Res
  | 0,_,_=>.cut
  | k+1,a0,a1=>D.yH j (D.sx j k) a0 a1
def D.AA (j:Nat) (c0:Where) (c1:Int):T Res:=(D.sx j j c0 c1)
def D.tz (j:Nat) (c0:Where) (c1:Int) (a0:Int):T Res:=(D.eC (D.bf c0.seat.p a0 1) c1 (fun _=>(D.AA j c0 a0)))
def D.ut (j:Nat) (a0:Seat) (a1:Int) (a2:Int):T Res:=(D.rL j (D.mH a0 a1) (fun x=>(D.tz j (D.mH a0 a1) a2 x)))
theorem qh {p:Plan} (hp:PF p) (hd:0<p.domains) {c:Int} (hc:0≤c∧c<2):D.bn p 0 c=2+c:=by
  have hcl:=mB hp;have hd2:=hp.d2;have e1:IntKind.i64.wrap (0 * IntKind.i64.wrap (1+D.bN p))=0:=by rw [Int.zero_mul]; rfl
  unfold D.bn D.fe;rw [e1,show IntKind.i64.wrap (2+0)=2 from rfl,bq (x:=2+c) kw kw,bq (x:=D.bN p - 1) kw kw]
  refine pK hp fun b hb=>?_;simp only [List.mem_cons,List.mem_nil_iff,or_false] at hb
  rcases hb with rfl | rfl
  · refine ⟨?_,?_⟩
    · exact Int.le_refl _
    · show (0:Int)≤IntKind.i64.wrap (p.domains - 1)
      rw [bq kw kw]; omega
  · exact ⟨hc.1,by show c≤D.bN p - 1; omega⟩
theorem haz4 {p:Plan} (hp:PF p) (hd:0<p.domains):4≤D.aL p:=by
  have hcl:=mB hp;rw [jH hp];have:1 * (1+D.bN p)≤p.domains * (1+D.bN p):=Int.mul_le_mul_of_nonneg_right kw kw
  omega
theorem tG {at_:Int} {f:Int→T Int} {ws ws':List Int} {n:Nat} {r:Int} (h0:0≤at_) (h1:at_<ws.length) (h:Runs (f (rd ws at_)) ws n r ws'):Runs (D.lC at_ f) ws (n+1) r ws':=Runs.load h0 h1 h
structure QAt (p:Plan) (t:Int) (ws:List Int) (P:Pool) (g:Int) (i n:Nat) (l:List Int):Prop where
  pool:PoolAt p t ws P g
  le:i≤n
  nn:(n:Int)<p.nodes
  out:∀ q:Int,(i:Int)≤q→q≤n→q ∉ P.fr∧q ∉ P.rt
  hd:rd ws 2=(i:Int)+1
  tl:rd ws 3=(n:Int)+1
  nxt:∀ q:Int,(i:Int)≤q→q<n→rd ws (fp p q 2)=q+2
  last:rd ws (fp p n 2)=0
  val:∀ q:Nat,i≤q→q<n→rd ws (fp p ((q:Int)+1) 1)=l.getD q 0
section
variable {p : Plan} (hp : PF p) (hdm : 0 < p.domains) (hnn : p.nodes ≤ 40) (hrr : p.retire ≤ 40) {t : Int} (ht : 0 ≤ t ∧ t < p.threads) {ws : List Int} {P : Pool} {g : Int} {i n : Nat} {l : List Int} (h : QAt p t ws P g i n l)
include hp hdm hnn hrr ht h
end
end Go.Proofs.YtikjpdpgdmbdpaaGreat

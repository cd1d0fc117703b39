/- Some of our texts, one behind the other. -/
import Derived.Test.YtbbipmelhmgmfaaGreatDpM14
import Derived.Test.YtbbipmelhmgmfaaGreatDpM2
set_option linter.all false
set_option maxRecDepth 100000
set_option maxHeartbeats 20000000
/- Ours. -/
namespace Go.Proofs.YtbbipmelhmgmfaaGreat
open Go.RowKit
def rb (p:Plan) (t:Int):Int:=D.zas p+t * (1+p.retire)
structure RetAt (p:Plan) (ws:List Int) (t:Int) (r:List Int):Prop where
 count:rd ws (rb p t)=r.length
 room:(r.length:Int)≤p.retire
 slot:∀ (i:Nat) (h:i<r.length),rd ws (rb p t+1+i)=r[i]+1
 range:∀ n,n∈r→0≤n∧n<p.nodes
section
variable {p : Plan} (hp : PF p) {t : Int} (ht : 0 ≤ t ∧ t < p.threads)
include hp ht
theorem zq2:D.za1 p+p.threads * 3≤rb p t∧rb p t+1+p.retire≤D.za2 p∧0<rb p t:=by
 have h1:=zfN hp;have h2:=zgR hp;have h3:=zji hp;have h5:=zqg hp;have ht1:=hp.t1;have hr1:=hp.r1;unfold rb;have h6:t * (1+p.retire)+(1+p.retire)≤p.threads * (1+p.retire):=by
  have:(t+1) * (1+p.retire)≤p.threads * (1+p.retire):=Int.mul_le_mul_of_nonneg_right kw kw
  rw [Int.add_mul] at this
  omega
 have h7:0≤t * (1+p.retire):=Int.mul_nonneg kw kw
 exact ⟨kw,kw,kw⟩
theorem zia:D.zb3 p t=rb p t:=by rw [zo1 hp,if_pos ht]; rfl
theorem zhk {i:Int} (hi:0≤i∧i<p.retire):D.zaM p t i=rb p t+1+i:=by rw [zmT hp,if_pos ⟨ht,hi⟩]; rfl
end
theorem RetAt.keep {p:Plan} {ws ws':List Int} {t:Int} {r:List Int} (h:RetAt p ws t r) (hk:∀ j,rb p t≤j→j<rb p t+1+p.retire→rd ws' j=rd ws j):RetAt p ws' t r:=by
 have h0:=h.room;exact ⟨by rw [hk _ kw kw]; exact h.count,h.room,fun i hi=>by rw [hk _ kw kw]; exact h.slot i hi,h.range⟩
theorem zo2 {p:Plan} (hp:PF p) {ws:List Int} {t n:Int} {r:List Int} (ht:0≤t∧t<p.threads) (hl:(ws.length:Int)=D.zab p) (h:RetAt p ws t r) (hf:(r.length:Int)=p.retire) :
  Runs (D.zdI p t n) ws 1 (-1) ws:=by
 obtain ⟨q1,q2,q3⟩:=zq2 hp ht;have hS:=zdx hp;have hn1:=hp.n1;have hr2:=hp.r2;have hr1:=hp.r1;have ht1:=hp.t1;unfold D.zdI;rw [zia hp ht];refine zfK kw kw ?_;unfold D.zdF;rw [h.count,zbk (x:=p.retire) kw kw,show decide ((r.length:Int)≥p.retire)=true from by simp; omega]
 exact .done _ _
theorem zmj {p:Plan} (hp:PF p) {ws:List Int} {t n:Int} {r:List Int} (ht:0≤t∧t<p.threads) (hn:0≤n∧n<p.nodes) (hnn:p.nodes≤1000000) (hl:(ws.length:Int)=D.zab p) (h:RetAt p ws t r) (hf:(r.length:Int)<p.retire) :
  ∃ ws',Runs (D.zdI p t n) ws 3 ((r.length:Int)+1) ws'∧ws'.length=ws.length∧RetAt p ws' t (r++[n])∧∀ j,0≤j→j≠rb p t→j≠rb p t+1+r.length→rd ws' j=rd ws j:=by
 obtain ⟨q1,q2,q3⟩:=zq2 hp ht;have hS:=zdx hp;have hN:=zbp hp;have hn1:=hp.n1;have hr2:=hp.r2;obtain ⟨u,hu⟩:∃ u,u=ws.set (rb p t+1+r.length).toNat (n+1):=⟨_,rfl⟩;have hul:u.length=ws.length:=by rw [hu,List.length_set]
 have hur:∀ j,0≤j→rd u j=if j=rb p t+1+r.length then n+1 else rd ws j:=fun j hj=>by rw [hu]; exact zbC kw kw hj
 obtain ⟨v,hv⟩:∃ v,v=u.set (rb p t).toNat ((r.length:Int)+1):=⟨_,rfl⟩;have hvl:v.length=ws.length:=by rw [hv,List.length_set,hul]
 have hvr:∀ j,0≤j→rd v j=if j=rb p t then (r.length:Int)+1 else rd u j:=fun j hj=>by rw [hv]; exact zbC kw kw hj
 refine ⟨v,?_,hvl,⟨?_,by simp; omega,fun i hi=>?_,fun m hm=>?_⟩,fun j hj h1 h2=>?_⟩
 ·unfold D.zdI
  rw [zia hp ht]
  refine zfK kw kw ?_;unfold D.zdF;rw [h.count,zbk (x:=p.retire) kw kw,show decide ((r.length:Int)≥p.retire)=false from by simp; omega,zaQ (show -1000000≤(r.length:Int) by omega) kw,zhk hp ht kw,zaQ (show -1000000≤n+1 by omega) kw,zbk (x:=n+1) kw kw]
  refine zdN kw kw ?_;rw [←hu];unfold D.zem;rw [zia hp ht,zbk kw kw];refine zdN kw kw ?_;rw [←hv];unfold D.zeH;rw [zaQ (show -1000000≤(r.length:Int) by omega) kw,zaQ kw kw]
  exact .done _ _
 ·rw [hvr _ kw,if_pos rfl]; simp
 ·rw [hvr _ kw,if_neg kw,hur _ kw]
  by_cases e:i=r.length
  ·subst e
   rw [if_pos rfl]
   simp
  ·have hi':i<r.length:=by simp at hi; omega
   rw [if_neg kw,h.slot i hi',List.getElem_append_left hi']
 ·rcases List.mem_append.1 hm with hm | hm
  ·exact h.range m hm
  ·rcases List.mem_singleton.1 hm with rfl; exact hn
 ·rw [hvr j hj,if_neg h1,hur j hj,if_neg h2]
/-! ### A scan -/
def zpY (held:Int→Bool):Nat→List Int→List Int × List Int
 | 0,r=>(r,[])
 | k+1,r=>match r[k]? with
  | none=>zpY held k r
  | some n=>if held n then zpY held k r else
   let q:=zpY held k ((r.set k ((r.getLast?).getD 0)).dropLast)
   (q.1,n::q.2)
theorem zmY {r:List Int} {k:Nat} (hk:k<r.length):List.Perm (r[k]::(r.set k ((r.getLast?).getD 0)).dropLast) r∧(r.set k ((r.getLast?).getD 0)).dropLast.length+1=r.length:=by
 rcases List.eq_nil_or_concat r with rfl | ⟨s,z,rfl⟩
 ·cases hk
 ·simp only [List.concat_eq_append] at hk ⊢
  rw [List.getLast?_append,List.getLast?_singleton]
  simp only [Option.some_or,Option.getD_some]
  rw [List.length_append,List.length_singleton] at hk
  by_cases e:k=s.length
  ·subst e
   rw [List.set_append_right _ _ (Nat.le_refl _)]
   simp only [Nat.sub_self,List.set_cons_zero,List.dropLast_concat]
   simp only [List.getElem_append_right (Nat.le_refl _),Nat.sub_self,List.getElem_cons_zero,List.length_append,List.length_singleton]
   exact ⟨(List.perm_append_singleton z s).symm,by simp⟩
  ·have hk':k<s.length:=by omega
   rw [List.set_append_left _ _ hk']
   simp only [List.dropLast_concat,List.getElem_append_left hk',List.length_set,List.length_append,List.length_singleton]
   refine ⟨?_,by simp⟩
   rw [List.set_eq_take_append_cons_drop,if_pos hk']
   have h1:List.Perm (s[k]::(s.take k++z::s.drop (k+1))) (z::(s.take k++s[k]::s.drop (k+1))):=by
    refine (List.Perm.cons _ List.perm_middle).trans ?_;refine (List.Perm.swap _ _ _).trans ?_;exact List.Perm.cons _ List.perm_middle.symm
   have h2:s.take k++s[k]::s.drop (k+1)=s:=by rw [←List.drop_eq_getElem_cons hk',List.take_append_drop]
   rw [h2] at h1
   exact h1.trans (List.perm_append_singleton z s).symm
theorem zt5 {r:List Int} {k i:Nat} (hk:k<r.length) (hi:i<(r.set k ((r.getLast?).getD 0)).dropLast.length):(r.set k ((r.getLast?).getD 0)).dropLast[i]=if i=k then r[r.length - 1]'kw else r[i]'(by simp at hi; omega):=by
 have hlast:(r.getLast?).getD 0=r[r.length - 1]'kw:=by
  rw [List.getLast?_eq_getElem?,List.getElem?_eq_getElem kw]
  rfl
 rw [List.getElem_dropLast,List.getElem_set]
 by_cases e:k=i
 ·rw [if_pos e,if_pos e.symm]; exact hlast
 ·rw [if_neg e,if_neg (Ne.symm e)]
def tof (p:Plan) (ws:List Int) (n:Int):State:=D.zag (D.zan (rd ws (D.za2 p+n * 5))).1 p.gen
def pushAll (p:Plan) (ws:List Int) (out l:List Int):List Int:=out.foldl (fun l n=>if (tof p ws n).mode=3 then l else n::l) l
theorem zjO {p:Plan} {ws l:List Int}:pushAll p ws [] l=l:=rfl
theorem ziZ {p:Plan} {ws out l:List Int} {n:Int}:pushAll p ws (n::out) l=pushAll p ws out (if (tof p ws n).mode=3 then l else n::l):=rfl
theorem zhG {p:Plan} {ws:List Int}:∀ {out l:List Int} {n:Int},n∈pushAll p ws out l→n∈out∨n∈l
 | [],_,_,h=>.inr h
 | m::out,l,n,h=>by
  have h:n∈pushAll p ws out (if (tof p ws m).mode=3 then l else m::l):=h
  rcases zhG h with h | h
  ·exact .inl (List.mem_cons_of_mem _ h)
  ·split at h
   ·exact .inr h
   ·rcases List.mem_cons.1 h with rfl | h
    ·exact .inl (List.mem_cons_self ..)
    ·exact .inr h
theorem zhX {p:Plan} {ws ws':List Int}:∀ {out l:List Int},(∀ n,n∈out→rd ws' (D.za2 p+n * 5)=rd ws (D.za2 p+n * 5))→pushAll p ws' out l=pushAll p ws out l
 | [],_,_=>by rw [zjO,zjO]
 | m::out,l,h=>by
  rw [ziZ,ziZ]
  have e:tof p ws' m=tof p ws m:=by unfold tof; rw [h m (List.mem_cons_self ..)]
  rw [e]
  exact zhX fun n hn=>h n (List.mem_cons_of_mem _ hn)
theorem ziv {held:Int→Bool}:∀ (k:Nat) (r:List Int),k≤r.length→List.Perm ((zpY held k r).2++(zpY held k r).1) r
 | 0,r,_=>List.Perm.refl _
 | k+1,r,hk=>by
  have hk':k<r.length:=hk;simp only [zpY,List.getElem?_eq_getElem hk'];cases held r[k]
  ·simp only [Bool.false_eq_true,if_false,List.cons_append]
   obtain ⟨h1,h2⟩:=zmY hk';exact (List.Perm.cons _ (ziv k _ kw)).trans h1
  ·simp only [if_true]
   exact ziv k r kw
structure Scanned (p:Plan) (t:Int) (ws ws':List Int) (r' out l:List Int) (g:Int):Prop where
 len:ws'.length=ws.length
 ret:RetAt p ws' t r'
 free:∃ g',g'≤g+out.length∧FreeAt p ws' (pushAll p ws out l) g'
 states:∀ n,n∈out→rd ws' (D.za2 p+n * 5)=D.zak (tof p ws n)
 fields:∀ n f,n∈out→0≤f→f<3→rd ws' (D.za2 p+n * 5+2+f)=0
 others:∀ j,0<j→(∀ n,n∈out→¬ zpD p n j)→¬ (rb p t≤j∧j<rb p t+1+p.retire)→rd ws' j=rd ws j
def heldW (p:Plan) (ws:List Int) (n:Int):Prop:=∃ j,0≤j∧j<p.threads * 3∧rd ws (D.za1 p+j)=n+1
theorem zlp {p:Plan} (hp:PF p) (hnn:p.nodes≤1000) {t:Int} (ht:0≤t∧t<p.threads) {held:Int→Bool} (J:Nat) (hJ:100<J):∀ (k:Nat) (r ws l:List Int) (g done:Int) (K:Nat),k≤r.length→(ws.length:Int)=D.zab p→RetAt p ws t r→FreeAt p ws l g→
  (∀ n,n∈r→n ∉ l)→r.Nodup→(∀ n,n∈r→(held n=true↔heldW p ws n))→g+k<1000000→0≤done→done+k≤100000→k<K→
  ∃ (m:Nat) (ws':List Int),m≤70 * k∧Runs (D.zb6 J K p t ⟨(k:Int) - 1,(r.length:Int),done⟩) ws m (done+((zpY held k r).2.length:Int)) ws'∧Scanned p t ws ws' (zpY held k r).1 (zpY held k r).2 l g:=by
 obtain ⟨q1,q2,q3⟩:=zq2 hp ht;have hS:=zdx hp;have hN:=zbp hp;have hn1:=hp.n1;have hr2:=hp.r2;have ht2:=hp.t2;have hz:=zpZ hp;intro k
 induction k with
 | zero=>
  intro r ws l g done K hk hl hR hF hrl hnd hh hg hd hd2 hK;obtain ⟨K,rfl⟩:∃ q,K=q+1:=⟨K - 1,kw⟩
  refine ⟨0,ws,kw,?_,⟨rfl,hR,⟨g,by simp [zpY],hF⟩,fun n hn=>by simp [zpY] at hn,fun n f hn=>by simp [zpY] at hn,fun _ _ _ _=>rfl⟩⟩
  show Runs (D.zbf J (D.zb6 J K) p t _) _ _ _ _
  unfold D.zbf;rw [show decide ((⟨((0:Nat):Int) - 1,(r.length:Int),done⟩:Scan).at_<0)=true from by simp]
  have:done+((zpY held 0 r).2.length:Int)=done:=by simp [zpY]
  rw [this]
  exact .done _ _
 | succ k ih=>
  intro r ws l g done K hk hl hR hF hrl hnd hh hg hd hd2 hK;obtain ⟨K,rfl⟩:∃ q,K=q+1:=⟨K - 1,kw⟩
  have hk':k<r.length:=hk;have hroom:=hR.room;have hm:r[k]∈r:=List.getElem_mem hk';have hrk:=hR.range _ hm;obtain ⟨n,hnk⟩:∃ n,n=r[k]:=⟨_,rfl⟩;rw [←hnk] at hm hrk
  have hbody:∀ {m:Nat} {res:Int} {ws':List Int},Runs (T.bind (D.zg6 J p n) (fun x=>D.zba J (D.zb6 J K) p t ⟨(k:Int) - 1,(r.length:Int),done⟩ ⟨(k:Int),(r.length:Int),done⟩ (n+1) x)) ws m res ws'→
    Runs (D.zb6 J (K+1) p t ⟨((k+1:Nat):Int) - 1,(r.length:Int),done⟩) ws (m+1) res ws':=by
   intro m res ws' hr;rw [show ((k+1:Nat):Int) - 1=(k:Int) from by omega]
   show Runs (D.zbf J (D.zb6 J K) p t _) _ _ _ _
   unfold D.zbf;simp only;rw [show decide ((k:Int)<0)=false from by rw [decide_eq_false_iff_not]; omega,zhk hp ht kw,zaQ (show -1000000≤(k:Int) - 1 by omega) kw]
   refine zfK kw kw ?_;rw [hR.slot k hk',←hnk];unfold D.zbR;rw [show decide (n+1<1)=false from by simp; omega,zbk (x:=p.nodes) kw kw,show decide (n+1 > p.nodes)=false from by simp; omega,zaQ (show -1000000≤n+1 by omega) kw,show n+1 - 1=n from kw,zaQ (show -1000000≤n by omega) kw]
   exact hr
  have hsc:zpY held (k+1) r=if held n then zpY held k r else ((zpY held k ((r.set k ((r.getLast?).getD 0)).dropLast)).1,n::(zpY held k ((r.set k ((r.getLast?).getD 0)).dropLast)).2):=by
   simp only [zpY,List.getElem?_eq_getElem hk',hnk]
  by_cases hc:held n=true
  ·rw [hsc,if_pos hc]
   obtain ⟨j,j0,j1,hj⟩:=(hh n hm).1 hc;obtain ⟨m1,hm1,hr1⟩:=znM hp hl (n:=n) kw (p.threads * 3).toNat 0 J kw kw kw ⟨j,kw,j1,hj⟩
   obtain ⟨m,ws',hm2,hr2',hsd⟩:=ih r ws l g done K kw hl hR hF hrl hnd hh kw hd kw kw;refine ⟨m1+m+1,ws',kw,hbody ?_,hsd⟩
   exact Runs.bind (g:=fun x=>D.zba J (D.zb6 J K) p t ⟨(k:Int) - 1,(r.length:Int),done⟩ ⟨(k:Int),(r.length:Int),done⟩ (n+1) x) hr1 hr2'
  ·rw [hsc,if_neg hc]
   have hno:∀ j,0≤j→j<p.threads * 3→rd ws (D.za1 p+j)≠n+1:=fun j j0 j1 hj=>hc ((hh n hm).2 ⟨j,j0,j1,hj⟩)
   have hr1:=zop hp hl (n:=n) kw (p.threads * 3).toNat 0 J kw kw kw hno
   obtain ⟨hpm,hpl⟩:=zmY hk';rw [←hnk] at hpm
   obtain ⟨r2,hr2e⟩:∃ r2,r2=(r.set k ((r.getLast?).getD 0)).dropLast:=⟨_,rfl⟩;have hat:∀ (i:Nat) (hi:i<r2.length),r2[i]=if i=k then r[r.length - 1]'kw else r[i]'(by rw [hr2e] at hi; simp at hi; omega):=by
    intro i hi;subst hr2e;exact zt5 hk' hi
   rw [←hr2e] at hpm hpl ⊢
   have hnd2:(n::r2).Nodup:=hpm.nodup_iff.2 hnd;have hsub:∀ q,q∈r2→q∈r∧q≠n:=fun q hq=>⟨hpm.subset (List.mem_cons_of_mem _ hq),fun e=>(List.nodup_cons.1 hnd2).1 (e ▸ hq)⟩
   obtain ⟨v,hv⟩:∃ v,v=if k=r.length - 1 then ws else ws.set (rb p t+1+k).toNat (r[r.length - 1]'kw+1):=⟨_,rfl⟩
   have hvl:v.length=ws.length:=by rw [hv]; split <;> simp
   have hvr:∀ j,0≤j→rd v j=if j=rb p t+1+k then r[r.length - 1]'kw+1 else rd ws j:=by
    intro j hj;rw [hv]
    by_cases e:k=r.length - 1
    ·rw [if_pos e]
     split
     ·rename_i h
      rw [h,hR.slot k hk']
      congr 2
     ·rfl
    ·rw [if_neg e]
     exact zbC kw kw hj
   obtain ⟨u,hu⟩:∃ u,u=v.set (rb p t).toNat ((r.length:Int) - 1):=⟨_,rfl⟩;have hul:u.length=ws.length:=by rw [hu,List.length_set,hvl]
   have hur:∀ j,0≤j→rd u j=if j=rb p t then (r.length:Int) - 1 else rd v j:=fun j hj=>by rw [hu]; exact zbC kw kw hj
   have huo:∀ j,0≤j→¬ (rb p t≤j∧j<rb p t+1+p.retire)→rd u j=rd ws j:=by
    intro j hj hno;rw [hur j hj,if_neg kw,hvr j hj,if_neg kw]
   have hR2:RetAt p u t r2:=by
    refine ⟨?_,kw,fun i hi=>?_,fun q hq=>hR.range q (hsub q hq).1⟩
    ·rw [hur _ kw,if_pos rfl]; omega
    ·rw [hur _ kw,if_neg kw,hvr _ kw,hat i hi]
     by_cases e:i=k
     ·rw [if_pos kw,if_pos e]
     ·rw [if_neg kw,if_neg e]
      exact hR.slot i kw
   have hF2:FreeAt p u l g:=hF.keep hul (huo 0 kw kw) fun q hq=>by
    have:=hF.range q hq;exact huo _ yaC yaC
   have hst:rd u (D.za2 p+n * 5)=rd ws (D.za2 p+n * 5):=huo _ kw kw
   obtain ⟨w,hw1,hw⟩:=ziS hp hrk kw kw hF2 (hrl n hm) (t:=tof p ws n) (by unfold tof; rw [hst]) (J - 4);rw [show J - 4+4=J from by omega] at hw1
   obtain ⟨g2,hg2,hFw⟩:∃ g2,g2≤g+1∧FreeAt p w (if (tof p ws n).mode=3 then l else n::l) g2:=by
    by_cases hm3:(tof p ws n).mode=3
    ·exact ⟨g,kw,by rw [if_pos hm3]; exact hw.gone hm3⟩
    ·exact ⟨g+1,kw,by rw [if_neg hm3]; exact hw.free hm3⟩
   have hwl:=hw.len;have hwo:=hw.others;have hwu:∀ j,0<j→j<D.za2 p→¬ (rb p t≤j∧j<rb p t+1+p.retire)→rd w j=rd ws j:=fun j h0 h1 h2=>by
    rw [hwo j h0 yaF,huo j kw h2]
   have hRw:RetAt p w t r2:=hR2.keep fun j h0 h1=>hwo j kw yaF
   have hother:∀ q,q∈r2→∀ f:Int,0≤f→f<5→rd w (D.za2 p+q * 5+f)=rd ws (D.za2 p+q * 5+f):=by
    intro q hq f f0 f1;have hqr:=hR.range q (hsub q hq).1;have hqn:=(hsub q hq).2;rw [hwo _ kw yaF,huo _ kw kw]
   have hA:∀ q,q∈r2→q ∉ (if (tof p ws n).mode=3 then l else n::l):=by
    intro q hq hql
    split at hql
    ·exact hrl q (hsub q hq).1 hql
    ·rcases List.mem_cons.1 hql with rfl | hql
     ·exact (hsub _ hq).2 rfl
     ·exact hrl q (hsub q hq).1 hql
   have hB:∀ q,q∈r2→(held q=true↔heldW p w q):=by
    intro q hq;rw [hh q (hsub q hq).1];unfold heldW
    constructor
    ·rintro ⟨j,j0,j1,hj⟩
     exact ⟨j,j0,j1,by rw [hwu _ kw kw kw]; exact hj⟩
    ·rintro ⟨j,j0,j1,hj⟩
     exact ⟨j,j0,j1,by rw [hwu _ kw kw kw] at hj; exact hj⟩
   obtain ⟨m,ws',hm2,hr2',hsd⟩:=ih r2 w (if (tof p ws n).mode=3 then l else n::l) g2 (done+1) K kw kw hRw hFw hA (List.nodup_cons.1 hnd2).2 hB kw kw kw kw
   have hout:∀ q,q∈(zpY held k r2).2→q∈r2:=fun q hq=>(ziv (held:=held) k r2 kw).subset (List.mem_append_left _ hq)
   have hlen2:(r2.length:Int)=(r.length:Int) - 1:=kw
   have hfin:Runs (D.zbt J (D.zb6 J K) p t ((r.length:Int) - 1) n ⟨(k:Int),(r.length:Int),done⟩) v ((if (tof p ws n).mode=3 then 5 else 8)+m+1) (done+1+((zpY held k r2).2.length:Int)) ws':=by
    unfold D.zbt;rw [zia hp ht,zbk (x:=(r.length:Int) - 1) kw kw];refine zdN kw kw ?_;rw [←hu];unfold D.ze0;refine Runs.bind (g:=fun x=>D.zcg J (D.zb6 J K) p t ⟨(k:Int),(r.length:Int),done⟩ ((r.length:Int) - 1) x) hw1 ?_
    unfold D.zcg;simp only;rw [zaQ (show -1000000≤(k:Int) - 1 by omega) kw,zaQ (show -1000000≤done+1 by omega) kw,←hlen2]
    exact hr2'
   have hrem:∃ m3:Nat,m3≤m+11∧Runs (D.zce J (D.zb6 J K) p t ⟨(k:Int),(r.length:Int),done⟩ n) ws m3 (done+1+((zpY held k r2).2.length:Int)) ws':=by
    unfold D.zce;simp only;rw [zaQ (show -1000000≤(r.length:Int) - 1 by omega) kw]
    by_cases e:k=r.length - 1
    ·rw [show ((k:Int)==(r.length:Int) - 1)=true from by simp; omega]
     rw [if_pos e] at hv
     rw [hv] at hfin
     exact ⟨_,by split <;> omega,hfin⟩
    ·rw [show ((k:Int)==(r.length:Int) - 1)=false from by simp; omega]
     rw [if_neg e] at hv
     refine ⟨(if (tof p ws n).mode=3 then 5 else 8)+m+1+1+1,by split <;> omega,?_⟩
     simp only [cond_false]
     rw [zhk hp ht kw]
     refine zfK kw kw ?_;unfold D.zdo;have hlast:=hR.slot (r.length - 1) kw;rw [show rb p t+1+((r.length:Int) - 1)=rb p t+1+((r.length - 1:Nat):Int) from kw,hlast]
     simp only
     rw [zhk hp ht kw]
     refine zdN kw kw ?_;rw [←hv];exact hfin
   obtain ⟨m3,hm3,hrem⟩:=hrem;refine ⟨(p.threads * 3).toNat+m3+1,ws',kw,hbody ?_,?_⟩
   ·refine Runs.bind (g:=fun x=>D.zba J (D.zb6 J K) p t ⟨(k:Int) - 1,(r.length:Int),done⟩ ⟨(k:Int),(r.length:Int),done⟩ (n+1) x) hr1 ?_
    unfold D.zba;simp only [cond_false];rw [zaQ (show -1000000≤n+1 by omega) kw,show n+1 - 1=n from kw,zaQ (show -1000000≤n by omega) kw,List.length_cons]
    rw [show done+(((zpY held k r2).2.length+1:Nat):Int)=done+1+((zpY held k r2).2.length:Int) from by omega]
    exact hrem
   ·have hst2:∀ q,q∈r2→rd w (D.za2 p+q * 5)=rd ws (D.za2 p+q * 5):=fun q hq=>by
     have:=hother q hq 0 kw kw
     rwa [Int.add_zero] at this
    have hnout:n ∉ (zpY held k r2).2:=fun h=>(hsub n (hout n h)).2 rfl
    refine ⟨by rw [hsd.len,hwl,hul],hsd.ret,?_,fun q hq=>?_,fun q f hq f0 f1=>?_,fun j h0 h1 h2=>?_⟩
    ·obtain ⟨g3,hg3,hF3⟩:=hsd.free
     refine ⟨g3,by rw [List.length_cons]; omega,?_⟩
     show FreeAt p ws' (pushAll p ws (zpY held k r2).2 (if (tof p ws n).mode=3 then l else n::l)) g3
     rw [←zhX fun q hq=>hst2 q (hout q hq)]
     exact hF3
    ·rcases List.mem_cons.1 hq with rfl | hq
     ·rw [hsd.others _ kw (fun q' hq'=>by
       have:=(hsub q' (hout q' hq')).2;unfold zpD; omega) kw]
      exact hw.state
     ·rw [hsd.states q hq]
      unfold tof;rw [hst2 q (hout q hq)]
    ·rcases List.mem_cons.1 hq with rfl | hq
     ·rw [hsd.others _ kw (fun q' hq'=>by
       have:=(hsub q' (hout q' hq')).2;unfold zpD; omega) kw]
      exact hw.fields f f0 f1
     ·exact hsd.fields q f hq f0 f1
    ·rw [hsd.others j h0 (fun q hq=>h1 q (List.mem_cons_of_mem _ hq)) h2,hwo j h0 (h1 n (List.mem_cons_self ..)),huo j kw h2]
theorem zlq {p:Plan} (hp:PF p) (hnn:p.nodes≤1000) {t:Int} (ht:0≤t∧t<p.threads) {held:Int→Bool} (J:Nat) (hJ:1100<J) {r ws l:List Int} {g:Int} (hl:(ws.length:Int)=D.zab p) (hR:RetAt p ws t r) (hF:FreeAt p ws l g)
  (hrl:∀ n,n∈r→n ∉ l) (hnd:r.Nodup) (hh:∀ n,n∈r→(held n=true↔heldW p ws n)) (hg:g<900000) :
  ∃ (m:Nat) (ws':List Int),m≤70 * r.length+1∧Runs (D.zct J p t) ws m ((zpY held r.length r).2.length:Int) ws'∧Scanned p t ws ws' (zpY held r.length r).1 (zpY held r.length r).2 l g:=by
 obtain ⟨q1,q2,q3⟩:=zq2 hp ht;have hS:=zdx hp;have hn1:=hp.n1;have hr2:=hp.r2;have hr1:=hp.r1;have ht1:=hp.t1;have hroom:=hR.room;obtain ⟨m,ws',hm,hr,hsd⟩:=zlp hp hnn ht J kw r.length r ws l g 0 J (Nat.le_refl _) hl hR hF hrl hnd hh kw kw kw kw;refine ⟨m+1,ws',kw,?_,hsd⟩
 unfold D.zct;rw [zia hp ht];refine zfK kw kw ?_;rw [hR.count];unfold D.zfQ;have hmin:IntKind.i64.wrap (minI (r.length:Int) (IntKind.u64.wrap p.retire))=(r.length:Int):=by
  rw [zbk kw kw]
  have:minI (r.length:Int) p.retire=(r.length:Int):=by unfold minI; split <;> omega
  rw [this,zaQ kw kw]
 rw [hmin,zaQ (show -1000000≤(r.length:Int) - 1 by omega) kw]
 rw [Int.zero_add] at hr
 exact hr
theorem zmd:∀ (l m:List Int),l.Nodup→(∀ x,x∈l→x∈m)→l.length≤m.length
 | [],_,_,_=>Nat.zero_le _
 | x::l,m,hn,hs=>by
  have hx:x∈m:=hs x (List.mem_cons_self ..);have h1:=zmd l (m.erase x) (List.nodup_cons.1 hn).2 fun y hy=>(List.mem_erase_of_ne (fun e:y=x=>(List.nodup_cons.1 hn).1 (e ▸ hy))).2 (hs y (List.mem_cons_of_mem _ hy))
  rw [List.length_erase_of_mem hx] at h1
  have:=List.length_pos_of_mem hx;simp only [List.length_cons];omega
theorem znk {n:Int} {k:Nat} (h0:0≤n) (h1:n<k):n∈(List.range' 0 k).map fun (q:Nat)=>(q:Int):=by
 refine List.mem_map.2 ⟨n.toNat,List.mem_range'_1.2 ⟨kw,kw⟩,kw⟩
theorem znR {l:List Int} {k:Nat} (hn:l.Nodup) (hr:∀ n,n∈l→0≤n∧n<k):l.length≤k:=by
 have:=zmd l ((List.range' 0 k).map fun (q:Nat)=>(q:Int)) hn fun x hx=>znk (hr x hx).1 (hr x hx).2
 simpa using this
theorem FreeAt.count {p:Plan} {ws l:List Int} {g:Int} (h:FreeAt p ws l g) (hn:0≤p.nodes):(l.length:Int)≤p.nodes:=by
 have:=znR (k:=p.nodes.toNat) h.nodup fun n hn=>by have:=h.range n hn; omega
 omega
def PrepP {R:Type} (P:Program) (E:Enc R) (n:Nat) (t:T R) (F:Nat→Prop) (w:World):Value→World→Prop:=fun v x=>Below w.heap.size w x∧Rep P E n t (grow F w x) x v
theorem PrepP.st {R:Type} {P:Program} {E:Enc R} {n:Nat} {t:T R} {F:Nat→Prop} {w:World} (hF:∀ b,F b→b<w.heap.size):∀ v w1 w2,PrepP P E n t F w v w1→Below w1.heap.size w1 w2→PrepP P E n t F w v w2:=by
 rintro v w1 w2 ⟨h1,h2⟩ hb;refine ⟨h1.trans (hb.mono h1.size),Rep.mono ?_ ?_ hb.size n _ _ h2⟩
 ·rintro b (h | ⟨h3,h4⟩)
  ·exact .inl h
  ·exact .inr ⟨h3,ai h4 hb.size⟩
 ·rintro b (h | ⟨h3,h4⟩)
  ·exact hb.block b (ai (hF b h) h1.size)
  ·exact hb.block b h4
theorem PrepP.of {R:Type} {P:Program} {E:Enc R} {n:Nat} {t:T R} {F:Nat→Prop} {w w1 w2:World} {v:Value} (h1:Below w.heap.size w w1) (hb:Below w1.heap.size w1 w2) (h:Rep P E n t (grow F w1 w2) w2 v):PrepP P E n t F w v w2:=by
 refine ⟨h1.trans (hb.mono h1.size),Rep.mono ?_ (fun b _=>rfl) (Nat.le_refl _) n _ _ h⟩
 rintro b (h | ⟨h3,h4⟩)
 ·exact .inl h
 ·exact .inr ⟨Nat.le_trans h1.size h3,h4⟩
theorem drB {w w':World} {d:Nat} (h:Below w.heap.size { w with drawn:=d } w'):Below w.heap.size w w':=⟨h.os,h.tape,h.output,h.size,h.block⟩
end Go.Proofs.YtbbipmelhmgmfaaGreat

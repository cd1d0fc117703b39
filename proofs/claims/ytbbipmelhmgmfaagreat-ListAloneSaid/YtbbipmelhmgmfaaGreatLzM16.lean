/- Some of our texts, one behind the other. -/
import Derived.Test.YtbbipmelhmgmfaaGreatLzM15
import Derived.Test.YtbbipmelhmgmfaaGreatLzM2
import Derived.Test.YtbbipmelhmgmfaaGreatLzRetires
set_option linter.all false
set_option maxRecDepth 100000
set_option maxHeartbeats 20000000
/- Ours. -/
namespace Go.Proofs.YtbbipmelhmgmfaaGreat
open Go.RowKit
def rb (p:Plan) (t:Int):Int:=D.cE p+t * (1+p.retire)
structure RetAt (p:Plan) (ws:List Int) (t:Int) (r:List Int):Prop where
 count:rd ws (rb p t)=r.length
 room:(r.length:Int)≤p.retire
 slot:∀ (i:Nat) (h:i<r.length),rd ws (rb p t+1+i)=r[i]+1
 range:∀ n,n∈r→0≤n∧n<p.nodes
section
variable {p : Plan} (hp : PF p) {t : Int} (ht : 0 ≤ t ∧ t < p.threads)
include hp ht
theorem dm:D.aL p+p.threads * 3≤rb p t∧rb p t+1+p.retire≤D.aN p∧0<rb p t:=by
 have h1:=lp hp;have h2:=lv hp;have h3:=o4 hp;have h5:=fC hp;have ht1:=hp.t1;have hr1:=hp.r1;unfold rb;have h6:t * (1+p.retire)+(1+p.retire)≤p.threads * (1+p.retire):=by
  have:(t+1) * (1+p.retire)≤p.threads * (1+p.retire):=Int.mul_le_mul_of_nonneg_right kw kw
  rw [Int.add_mul] at this
  omega
 have h7:0≤t * (1+p.retire):=Int.mul_nonneg kw kw
 exact ⟨kw,kw,kw⟩
theorem lF:D.dW p t=rb p t:=by rw [CX hp,if_pos ht]; rfl
theorem nR {i:Int} (hi:0≤i∧i<p.retire):D.dD p t i=rb p t+1+i:=by rw [C9 hp,if_pos ⟨ht,hi⟩]; rfl
end
theorem RetAt.keep {p:Plan} {ws ws':List Int} {t:Int} {r:List Int} (h:RetAt p ws t r) (hk:∀ j,rb p t≤j→j<rb p t+1+p.retire→rd ws' j=rd ws j):RetAt p ws' t r:=by
 have h0:=h.room;exact ⟨by rw [hk _ kw kw]; exact h.count,h.room,fun i hi=>by rw [hk _ kw kw]; exact h.slot i hi,h.range⟩
theorem CH {p:Plan} (hp:PF p) {ws:List Int} {t n:Int} {r:List Int} (ht:0≤t∧t<p.threads) (hl:(ws.length:Int)=D.bD p) (h:RetAt p ws t r) (hf:(r.length:Int)=p.retire) :
  Runs (D.gN p t n) ws 1 (-1) ws:=by
 obtain ⟨q1,q2,q3⟩:=dm hp ht;have hS:=dS hp;have hn1:=hp.n1;have hr2:=hp.r2;have hr1:=hp.r1;have ht1:=hp.t1;unfold D.gN;rw [lF hp ht];refine ju kw kw ?_;unfold D.jp;rw [h.count,da (x:=p.retire) kw kw,show decide ((r.length:Int)≥p.retire)=true from by simp; omega]
 exact .done _ _
theorem vu {p:Plan} (hp:PF p) {ws:List Int} {t n:Int} {r:List Int} (ht:0≤t∧t<p.threads) (hn:0≤n∧n<p.nodes) (hnn:p.nodes≤1000000) (hl:(ws.length:Int)=D.bD p) (h:RetAt p ws t r) (hf:(r.length:Int)<p.retire) :
  ∃ ws',Runs (D.gN p t n) ws 3 ((r.length:Int)+1) ws'∧ws'.length=ws.length∧RetAt p ws' t (r++[n])∧∀ j,0≤j→j≠rb p t→j≠rb p t+1+r.length→rd ws' j=rd ws j:=by
 obtain ⟨q1,q2,q3⟩:=dm hp ht;have hS:=dS hp;have hN:=cR hp;have hn1:=hp.n1;have hr2:=hp.r2;obtain ⟨u,hu⟩:∃ u,u=ws.set (rb p t+1+r.length).toNat (n+1):=⟨_,rfl⟩;have hul:u.length=ws.length:=by rw [hu,List.length_set]
 have hur:∀ j,0≤j→rd u j=if j=rb p t+1+r.length then n+1 else rd ws j:=fun j hj=>by rw [hu]; exact bU kw kw hj
 obtain ⟨v,hv⟩:∃ v,v=u.set (rb p t).toNat ((r.length:Int)+1):=⟨_,rfl⟩;have hvl:v.length=ws.length:=by rw [hv,List.length_set,hul]
 have hvr:∀ j,0≤j→rd v j=if j=rb p t then (r.length:Int)+1 else rd u j:=fun j hj=>by rw [hv]; exact bU kw kw hj
 refine ⟨v,?_,hvl,⟨?_,by simp; omega,fun i hi=>?_,fun m hm=>?_⟩,fun j hj h1 h2=>?_⟩
 ·unfold D.gN
  rw [lF hp ht]
  refine ju kw kw ?_;unfold D.jp;rw [h.count,da (x:=p.retire) kw kw,show decide ((r.length:Int)≥p.retire)=false from by simp; omega,bW (show -1000000≤(r.length:Int) by omega) kw,nR hp ht kw,bW (show -1000000≤n+1 by omega) kw,da (x:=n+1) kw kw]
  refine gK kw kw ?_;rw [←hu];unfold D.nk;rw [lF hp ht,da kw kw];refine gK kw kw ?_;rw [←hv];unfold D.pC;rw [bW (show -1000000≤(r.length:Int) by omega) kw,bW kw kw]
  exact .done _ _
 ·rw [hvr _ kw,if_pos rfl]; simp
 ·rw [hvr _ kw,if_neg kw,hur _ kw]
  by_cases e:i=r.length
  ·subst e
   rw [if_pos rfl]
   simp
  ·have hi':i<r.length:=by simp at hi; omega
   rw [if_neg kw,h.slot i hi',List.getElem_append_left hi']
 ·rcases List.mem_append.1 hm with hm | hm
  ·exact h.range m hm
  ·rcases List.mem_singleton.1 hm with rfl; exact hn
 ·rw [hvr j hj,if_neg h1,hur j hj,if_neg h2]
/-! ### A scan -/
def cm (held:Int→Bool):Nat→List Int→List Int × List Int
 | 0,r=>(r,[])
 | k+1,r=>match r[k]? with
  | none=>cm held k r
  | some n=>if held n then cm held k r else
   let q:=cm held k ((r.set k ((r.getLast?).getD 0)).dropLast)
   (q.1,n::q.2)
theorem vH {r:List Int} {k:Nat} (hk:k<r.length):List.Perm (r[k]::(r.set k ((r.getLast?).getD 0)).dropLast) r∧(r.set k ((r.getLast?).getD 0)).dropLast.length+1=r.length:=by
 rcases List.eq_nil_or_concat r with rfl | ⟨s,z,rfl⟩
 ·cases hk
 ·simp only [List.concat_eq_append] at hk ⊢
  rw [List.getLast?_append,List.getLast?_singleton]
  simp only [Option.some_or,Option.getD_some]
  rw [List.length_append,List.length_singleton] at hk
  by_cases e:k=s.length
  ·subst e
   rw [List.set_append_right _ _ (Nat.le_refl _)]
   simp only [Nat.sub_self,List.set_cons_zero,List.dropLast_concat]
   simp only [List.getElem_append_right (Nat.le_refl _),Nat.sub_self,List.getElem_cons_zero,List.length_append,List.length_singleton]
   exact ⟨(List.perm_append_singleton z s).symm,by simp⟩
  ·have hk':k<s.length:=by omega
   rw [List.set_append_left _ _ hk']
   simp only [List.dropLast_concat,List.getElem_append_left hk',List.length_set,List.length_append,List.length_singleton]
   refine ⟨?_,by simp⟩
   rw [List.set_eq_take_append_cons_drop,if_pos hk']
   have h1:List.Perm (s[k]::(s.take k++z::s.drop (k+1))) (z::(s.take k++s[k]::s.drop (k+1))):=by
    refine (List.Perm.cons _ List.perm_middle).trans ?_;refine (List.Perm.swap _ _ _).trans ?_;exact List.Perm.cons _ List.perm_middle.symm
   have h2:s.take k++s[k]::s.drop (k+1)=s:=by rw [←List.drop_eq_getElem_cons hk',List.take_append_drop]
   rw [h2] at h1
   exact h1.trans (List.perm_append_singleton z s).symm
theorem GD {r:List Int} {k i:Nat} (hk:k<r.length) (hi:i<(r.set k ((r.getLast?).getD 0)).dropLast.length):(r.set k ((r.getLast?).getD 0)).dropLast[i]=if i=k then r[r.length - 1]'kw else r[i]'(by simp at hi; omega):=by
 have hlast:(r.getLast?).getD 0=r[r.length - 1]'kw:=by
  rw [List.getLast?_eq_getElem?,List.getElem?_eq_getElem kw]
  rfl
 rw [List.getElem_dropLast,List.getElem_set]
 by_cases e:k=i
 ·rw [if_pos e,if_pos e.symm]; exact hlast
 ·rw [if_neg e,if_neg (Ne.symm e)]
def tof (p:Plan) (ws:List Int) (n:Int):State:=D.bP (D.aV (rd ws (D.aN p+n * 5))).1 p.gen
def pushAll (p:Plan) (ws:List Int) (out l:List Int):List Int:=out.foldl (fun l n=>if (tof p ws n).mode=3 then l else n::l) l
theorem uh {p:Plan} {ws l:List Int}:pushAll p ws [] l=l:=rfl
theorem tU {p:Plan} {ws out l:List Int} {n:Int}:pushAll p ws (n::out) l=pushAll p ws out (if (tof p ws n).mode=3 then l else n::l):=rfl
theorem qi {p:Plan} {ws:List Int}:∀ {out l:List Int} {n:Int},n∈pushAll p ws out l→n∈out∨n∈l
 | [],_,_,h=>.inr h
 | m::out,l,n,h=>by
  have h:n∈pushAll p ws out (if (tof p ws m).mode=3 then l else m::l):=h
  rcases qi h with h | h
  ·exact .inl (List.mem_cons_of_mem _ h)
  ·split at h
   ·exact .inr h
   ·rcases List.mem_cons.1 h with rfl | h
    ·exact .inl (List.mem_cons_self ..)
    ·exact .inr h
theorem tP {p:Plan} {ws ws':List Int}:∀ {out l:List Int},(∀ n,n∈out→rd ws' (D.aN p+n * 5)=rd ws (D.aN p+n * 5))→pushAll p ws' out l=pushAll p ws out l
 | [],_,_=>by rw [uh,uh]
 | m::out,l,h=>by
  rw [tU,tU]
  have e:tof p ws' m=tof p ws m:=by unfold tof; rw [h m (List.mem_cons_self ..)]
  rw [e]
  exact tP fun n hn=>h n (List.mem_cons_of_mem _ hn)
theorem qy {held:Int→Bool}:∀ (k:Nat) (r:List Int),k≤r.length→List.Perm ((cm held k r).2++(cm held k r).1) r
 | 0,r,_=>List.Perm.refl _
 | k+1,r,hk=>by
  have hk':k<r.length:=hk;simp only [cm,List.getElem?_eq_getElem hk'];cases held r[k]
  ·simp only [Bool.false_eq_true,if_false,List.cons_append]
   obtain ⟨h1,h2⟩:=vH hk';exact (List.Perm.cons _ (qy k _ kw)).trans h1
  ·simp only [if_true]
   exact qy k r kw
structure Scanned (p:Plan) (t:Int) (ws ws':List Int) (r' out l:List Int) (g:Int):Prop where
 len:ws'.length=ws.length
 ret:RetAt p ws' t r'
 free:∃ g',g'≤g+out.length∧FreeAt p ws' (pushAll p ws out l) g'
 states:∀ n,n∈out→rd ws' (D.aN p+n * 5)=D.cn (tof p ws n)
 fields:∀ n f,n∈out→0≤f→f<3→rd ws' (D.aN p+n * 5+2+f)=0
 others:∀ j,0<j→(∀ n,n∈out→¬ bL p n j)→¬ (rb p t≤j∧j<rb p t+1+p.retire)→rd ws' j=rd ws j
def heldW (p:Plan) (ws:List Int) (n:Int):Prop:=∃ j,0≤j∧j<p.threads * 3∧rd ws (D.aL p+j)=n+1
theorem BA {p:Plan} (hp:PF p) (hnn:p.nodes≤1000) {t:Int} (ht:0≤t∧t<p.threads) {held:Int→Bool} (J:Nat) (hJ:100<J):∀ (k:Nat) (r ws l:List Int) (g done:Int) (K:Nat),k≤r.length→(ws.length:Int)=D.bD p→RetAt p ws t r→FreeAt p ws l g→
  (∀ n,n∈r→n ∉ l)→r.Nodup→(∀ n,n∈r→(held n=true↔heldW p ws n))→g+k<1000000→0≤done→done+k≤100000→k<K→
  ∃ (m:Nat) (ws':List Int),m≤70 * k∧Runs (D.dY J K p t ⟨(k:Int) - 1,(r.length:Int),done⟩) ws m (done+((cm held k r).2.length:Int)) ws'∧Scanned p t ws ws' (cm held k r).1 (cm held k r).2 l g:=by
 obtain ⟨q1,q2,q3⟩:=dm hp ht;have hS:=dS hp;have hN:=cR hp;have hn1:=hp.n1;have hr2:=hp.r2;have ht2:=hp.t2;have hz:=cM hp;intro k
 induction k with
 | zero=>
  intro r ws l g done K hk hl hR hF hrl hnd hh hg hd hd2 hK;obtain ⟨K,rfl⟩:∃ q,K=q+1:=⟨K - 1,kw⟩
  refine ⟨0,ws,kw,?_,⟨rfl,hR,⟨g,by simp [cm],hF⟩,fun n hn=>by simp [cm] at hn,fun n f hn=>by simp [cm] at hn,fun _ _ _ _=>rfl⟩⟩
  show Runs (D.gm J (D.dY J K) p t _) _ _ _ _
  unfold D.gm;rw [show decide ((⟨((0:Nat):Int) - 1,(r.length:Int),done⟩:Scan).at_<0)=true from by simp]
  have:done+((cm held 0 r).2.length:Int)=done:=by simp [cm]
  rw [this]
  exact .done _ _
 | succ k ih=>
  intro r ws l g done K hk hl hR hF hrl hnd hh hg hd hd2 hK;obtain ⟨K,rfl⟩:∃ q,K=q+1:=⟨K - 1,kw⟩
  have hk':k<r.length:=hk;have hroom:=hR.room;have hm:r[k]∈r:=List.getElem_mem hk';have hrk:=hR.range _ hm;obtain ⟨n,hnk⟩:∃ n,n=r[k]:=⟨_,rfl⟩;rw [←hnk] at hm hrk
  have hbody:∀ {m:Nat} {res:Int} {ws':List Int},Runs (T.bind (D.nK J p n) (fun x=>D.fE J (D.dY J K) p t ⟨(k:Int) - 1,(r.length:Int),done⟩ ⟨(k:Int),(r.length:Int),done⟩ (n+1) x)) ws m res ws'→
    Runs (D.dY J (K+1) p t ⟨((k+1:Nat):Int) - 1,(r.length:Int),done⟩) ws (m+1) res ws':=by
   intro m res ws' hr;rw [show ((k+1:Nat):Int) - 1=(k:Int) from by omega]
   show Runs (D.gm J (D.dY J K) p t _) _ _ _ _
   unfold D.gm;simp only;rw [show decide ((k:Int)<0)=false from by rw [decide_eq_false_iff_not]; omega,nR hp ht kw,bW (show -1000000≤(k:Int) - 1 by omega) kw]
   refine ju kw kw ?_;rw [hR.slot k hk',←hnk];unfold D.iy;rw [show decide (n+1<1)=false from by simp; omega,da (x:=p.nodes) kw kw,show decide (n+1 > p.nodes)=false from by simp; omega,bW (show -1000000≤n+1 by omega) kw,show n+1 - 1=n from kw,bW (show -1000000≤n by omega) kw]
   exact hr
  have hsc:cm held (k+1) r=if held n then cm held k r else ((cm held k ((r.set k ((r.getLast?).getD 0)).dropLast)).1,n::(cm held k ((r.set k ((r.getLast?).getD 0)).dropLast)).2):=by
   simp only [cm,List.getElem?_eq_getElem hk',hnk]
  by_cases hc:held n=true
  ·rw [hsc,if_pos hc]
   obtain ⟨j,j0,j1,hj⟩:=(hh n hm).1 hc;obtain ⟨m1,hm1,hr1⟩:=CZ hp hl (n:=n) kw (p.threads * 3).toNat 0 J kw kw kw ⟨j,kw,j1,hj⟩
   obtain ⟨m,ws',hm2,hr2',hsd⟩:=ih r ws l g done K kw hl hR hF hrl hnd hh kw hd kw kw;refine ⟨m1+m+1,ws',kw,hbody ?_,hsd⟩
   exact Runs.bind (g:=fun x=>D.fE J (D.dY J K) p t ⟨(k:Int) - 1,(r.length:Int),done⟩ ⟨(k:Int),(r.length:Int),done⟩ (n+1) x) hr1 hr2'
  ·rw [hsc,if_neg hc]
   have hno:∀ j,0≤j→j<p.threads * 3→rd ws (D.aL p+j)≠n+1:=fun j j0 j1 hj=>hc ((hh n hm).2 ⟨j,j0,j1,hj⟩)
   have hr1:=DG hp hl (n:=n) kw (p.threads * 3).toNat 0 J kw kw kw hno
   obtain ⟨hpm,hpl⟩:=vH hk';rw [←hnk] at hpm
   obtain ⟨r2,hr2e⟩:∃ r2,r2=(r.set k ((r.getLast?).getD 0)).dropLast:=⟨_,rfl⟩;have hat:∀ (i:Nat) (hi:i<r2.length),r2[i]=if i=k then r[r.length - 1]'kw else r[i]'(by rw [hr2e] at hi; simp at hi; omega):=by
    intro i hi;subst hr2e;exact GD hk' hi
   rw [←hr2e] at hpm hpl ⊢
   have hnd2:(n::r2).Nodup:=hpm.nodup_iff.2 hnd;have hsub:∀ q,q∈r2→q∈r∧q≠n:=fun q hq=>⟨hpm.subset (List.mem_cons_of_mem _ hq),fun e=>(List.nodup_cons.1 hnd2).1 (e ▸ hq)⟩
   obtain ⟨v,hv⟩:∃ v,v=if k=r.length - 1 then ws else ws.set (rb p t+1+k).toNat (r[r.length - 1]'kw+1):=⟨_,rfl⟩
   have hvl:v.length=ws.length:=by rw [hv]; split <;> simp
   have hvr:∀ j,0≤j→rd v j=if j=rb p t+1+k then r[r.length - 1]'kw+1 else rd ws j:=by
    intro j hj;rw [hv]
    by_cases e:k=r.length - 1
    ·rw [if_pos e]
     split
     ·rename_i h
      rw [h,hR.slot k hk']
      congr 2
     ·rfl
    ·rw [if_neg e]
     exact bU kw kw hj
   obtain ⟨u,hu⟩:∃ u,u=v.set (rb p t).toNat ((r.length:Int) - 1):=⟨_,rfl⟩;have hul:u.length=ws.length:=by rw [hu,List.length_set,hvl]
   have hur:∀ j,0≤j→rd u j=if j=rb p t then (r.length:Int) - 1 else rd v j:=fun j hj=>by rw [hu]; exact bU kw kw hj
   have huo:∀ j,0≤j→¬ (rb p t≤j∧j<rb p t+1+p.retire)→rd u j=rd ws j:=by
    intro j hj hno;rw [hur j hj,if_neg kw,hvr j hj,if_neg kw]
   have hR2:RetAt p u t r2:=by
    refine ⟨?_,kw,fun i hi=>?_,fun q hq=>hR.range q (hsub q hq).1⟩
    ·rw [hur _ kw,if_pos rfl]; omega
    ·rw [hur _ kw,if_neg kw,hvr _ kw,hat i hi]
     by_cases e:i=k
     ·rw [if_pos kw,if_pos e]
     ·rw [if_neg kw,if_neg e]
      exact hR.slot i kw
   have hF2:FreeAt p u l g:=hF.keep hul (huo 0 kw kw) fun q hq=>by
    have:=hF.range q hq;exact huo _ yaH yaH
   have hst:rd u (D.aN p+n * 5)=rd ws (D.aN p+n * 5):=huo _ kw kw
   obtain ⟨w,hw1,hw⟩:=tX hp hrk kw kw hF2 (hrl n hm) (t:=tof p ws n) (by unfold tof; rw [hst]) (J - 4);rw [show J - 4+4=J from by omega] at hw1
   obtain ⟨g2,hg2,hFw⟩:∃ g2,g2≤g+1∧FreeAt p w (if (tof p ws n).mode=3 then l else n::l) g2:=by
    by_cases hm3:(tof p ws n).mode=3
    ·exact ⟨g,kw,by rw [if_pos hm3]; exact hw.gone hm3⟩
    ·exact ⟨g+1,kw,by rw [if_neg hm3]; exact hw.free hm3⟩
   have hwl:=hw.len;have hwo:=hw.others;have hwu:∀ j,0<j→j<D.aN p→¬ (rb p t≤j∧j<rb p t+1+p.retire)→rd w j=rd ws j:=fun j h0 h1 h2=>by
    rw [hwo j h0 yaK,huo j kw h2]
   have hRw:RetAt p w t r2:=hR2.keep fun j h0 h1=>hwo j kw yaK
   have hother:∀ q,q∈r2→∀ f:Int,0≤f→f<5→rd w (D.aN p+q * 5+f)=rd ws (D.aN p+q * 5+f):=by
    intro q hq f f0 f1;have hqr:=hR.range q (hsub q hq).1;have hqn:=(hsub q hq).2;rw [hwo _ kw yaK,huo _ kw kw]
   have hA:∀ q,q∈r2→q ∉ (if (tof p ws n).mode=3 then l else n::l):=by
    intro q hq hql
    split at hql
    ·exact hrl q (hsub q hq).1 hql
    ·rcases List.mem_cons.1 hql with rfl | hql
     ·exact (hsub _ hq).2 rfl
     ·exact hrl q (hsub q hq).1 hql
   have hB:∀ q,q∈r2→(held q=true↔heldW p w q):=by
    intro q hq;rw [hh q (hsub q hq).1];unfold heldW
    constructor
    ·rintro ⟨j,j0,j1,hj⟩
     exact ⟨j,j0,j1,by rw [hwu _ kw kw kw]; exact hj⟩
    ·rintro ⟨j,j0,j1,hj⟩
     exact ⟨j,j0,j1,by rw [hwu _ kw kw kw] at hj; exact hj⟩
   obtain ⟨m,ws',hm2,hr2',hsd⟩:=ih r2 w (if (tof p ws n).mode=3 then l else n::l) g2 (done+1) K kw kw hRw hFw hA (List.nodup_cons.1 hnd2).2 hB kw kw kw kw
   have hout:∀ q,q∈(cm held k r2).2→q∈r2:=fun q hq=>(qy (held:=held) k r2 kw).subset (List.mem_append_left _ hq)
   have hlen2:(r2.length:Int)=(r.length:Int) - 1:=kw
   have hfin:Runs (D.fF J (D.dY J K) p t ((r.length:Int) - 1) n ⟨(k:Int),(r.length:Int),done⟩) v ((if (tof p ws n).mode=3 then 5 else 8)+m+1) (done+1+((cm held k r2).2.length:Int)) ws':=by
    unfold D.fF;rw [lF hp ht,da (x:=(r.length:Int) - 1) kw kw];refine gK kw kw ?_;rw [←hu];unfold D.pg;refine Runs.bind (g:=fun x=>D.mC J (D.dY J K) p t ⟨(k:Int),(r.length:Int),done⟩ ((r.length:Int) - 1) x) hw1 ?_
    unfold D.mC;simp only;rw [bW (show -1000000≤(k:Int) - 1 by omega) kw,bW (show -1000000≤done+1 by omega) kw,←hlen2]
    exact hr2'
   have hrem:∃ m3:Nat,m3≤m+11∧Runs (D.iz J (D.dY J K) p t ⟨(k:Int),(r.length:Int),done⟩ n) ws m3 (done+1+((cm held k r2).2.length:Int)) ws':=by
    unfold D.iz;simp only;rw [bW (show -1000000≤(r.length:Int) - 1 by omega) kw]
    by_cases e:k=r.length - 1
    ·rw [show ((k:Int)==(r.length:Int) - 1)=true from by simp; omega]
     rw [if_pos e] at hv
     rw [hv] at hfin
     exact ⟨_,by split <;> omega,hfin⟩
    ·rw [show ((k:Int)==(r.length:Int) - 1)=false from by simp; omega]
     rw [if_neg e] at hv
     refine ⟨(if (tof p ws n).mode=3 then 5 else 8)+m+1+1+1,by split <;> omega,?_⟩
     simp only [cond_false]
     rw [nR hp ht kw]
     refine ju kw kw ?_;unfold D.mV;have hlast:=hR.slot (r.length - 1) kw;rw [show rb p t+1+((r.length:Int) - 1)=rb p t+1+((r.length - 1:Nat):Int) from kw,hlast]
     simp only
     rw [nR hp ht kw]
     refine gK kw kw ?_;rw [←hv];exact hfin
   obtain ⟨m3,hm3,hrem⟩:=hrem;refine ⟨(p.threads * 3).toNat+m3+1,ws',kw,hbody ?_,?_⟩
   ·refine Runs.bind (g:=fun x=>D.fE J (D.dY J K) p t ⟨(k:Int) - 1,(r.length:Int),done⟩ ⟨(k:Int),(r.length:Int),done⟩ (n+1) x) hr1 ?_
    unfold D.fE;simp only [cond_false];rw [bW (show -1000000≤n+1 by omega) kw,show n+1 - 1=n from kw,bW (show -1000000≤n by omega) kw,List.length_cons]
    rw [show done+(((cm held k r2).2.length+1:Nat):Int)=done+1+((cm held k r2).2.length:Int) from by omega]
    exact hrem
   ·have hst2:∀ q,q∈r2→rd w (D.aN p+q * 5)=rd ws (D.aN p+q * 5):=fun q hq=>by
     have:=hother q hq 0 kw kw
     rwa [Int.add_zero] at this
    have hnout:n ∉ (cm held k r2).2:=fun h=>(hsub n (hout n h)).2 rfl
    refine ⟨by rw [hsd.len,hwl,hul],hsd.ret,?_,fun q hq=>?_,fun q f hq f0 f1=>?_,fun j h0 h1 h2=>?_⟩
    ·obtain ⟨g3,hg3,hF3⟩:=hsd.free
     refine ⟨g3,by rw [List.length_cons]; omega,?_⟩
     show FreeAt p ws' (pushAll p ws (cm held k r2).2 (if (tof p ws n).mode=3 then l else n::l)) g3
     rw [←tP fun q hq=>hst2 q (hout q hq)]
     exact hF3
    ·rcases List.mem_cons.1 hq with rfl | hq
     ·rw [hsd.others _ kw (fun q' hq'=>by
       have:=(hsub q' (hout q' hq')).2;unfold bL; omega) kw]
      exact hw.state
     ·rw [hsd.states q hq]
      unfold tof;rw [hst2 q (hout q hq)]
    ·rcases List.mem_cons.1 hq with rfl | hq
     ·rw [hsd.others _ kw (fun q' hq'=>by
       have:=(hsub q' (hout q' hq')).2;unfold bL; omega) kw]
      exact hw.fields f f0 f1
     ·exact hsd.fields q f hq f0 f1
    ·rw [hsd.others j h0 (fun q hq=>h1 q (List.mem_cons_of_mem _ hq)) h2,hwo j h0 (h1 n (List.mem_cons_self ..)),huo j kw h2]
theorem uO {p:Plan} (hp:PF p) (hnn:p.nodes≤1000) {t:Int} (ht:0≤t∧t<p.threads) {held:Int→Bool} (J:Nat) (hJ:1100<J) {r ws l:List Int} {g:Int} (hl:(ws.length:Int)=D.bD p) (hR:RetAt p ws t r) (hF:FreeAt p ws l g)
  (hrl:∀ n,n∈r→n ∉ l) (hnd:r.Nodup) (hh:∀ n,n∈r→(held n=true↔heldW p ws n)) (hg:g<900000) :
  ∃ (m:Nat) (ws':List Int),m≤70 * r.length+1∧Runs (D.fO J p t) ws m ((cm held r.length r).2.length:Int) ws'∧Scanned p t ws ws' (cm held r.length r).1 (cm held r.length r).2 l g:=by
 obtain ⟨q1,q2,q3⟩:=dm hp ht;have hS:=dS hp;have hn1:=hp.n1;have hr2:=hp.r2;have hr1:=hp.r1;have ht1:=hp.t1;have hroom:=hR.room;obtain ⟨m,ws',hm,hr,hsd⟩:=BA hp hnn ht J kw r.length r ws l g 0 J (Nat.le_refl _) hl hR hF hrl hnd hh kw kw kw kw;refine ⟨m+1,ws',kw,?_,hsd⟩
 unfold D.fO;rw [lF hp ht];refine ju kw kw ?_;rw [hR.count];unfold D.pV;have hmin:IntKind.i64.wrap (minI (r.length:Int) (IntKind.u64.wrap p.retire))=(r.length:Int):=by
  rw [da kw kw]
  have:minI (r.length:Int) p.retire=(r.length:Int):=by unfold minI; split <;> omega
  rw [this,bW kw kw]
 rw [hmin,bW (show -1000000≤(r.length:Int) - 1 by omega) kw]
 rw [Int.zero_add] at hr
 exact hr
theorem vB:∀ (l m:List Int),l.Nodup→(∀ x,x∈l→x∈m)→l.length≤m.length
 | [],_,_,_=>Nat.zero_le _
 | x::l,m,hn,hs=>by
  have hx:x∈m:=hs x (List.mem_cons_self ..);have h1:=vB l (m.erase x) (List.nodup_cons.1 hn).2 fun y hy=>(List.mem_erase_of_ne (fun e:y=x=>(List.nodup_cons.1 hn).1 (e ▸ hy))).2 (hs y (List.mem_cons_of_mem _ hy))
  rw [List.length_erase_of_mem hx] at h1
  have:=List.length_pos_of_mem hx;simp only [List.length_cons];omega
theorem Cv {n:Int} {k:Nat} (h0:0≤n) (h1:n<k):n∈(List.range' 0 k).map fun (q:Nat)=>(q:Int):=by
 refine List.mem_map.2 ⟨n.toNat,List.mem_range'_1.2 ⟨kw,kw⟩,kw⟩
theorem CN {l:List Int} {k:Nat} (hn:l.Nodup) (hr:∀ n,n∈l→0≤n∧n<k):l.length≤k:=by
 have:=vB l ((List.range' 0 k).map fun (q:Nat)=>(q:Int)) hn fun x hx=>Cv (hr x hx).1 (hr x hx).2
 simpa using this
theorem FreeAt.count {p:Plan} {ws l:List Int} {g:Int} (h:FreeAt p ws l g) (hn:0≤p.nodes):(l.length:Int)≤p.nodes:=by
 have:=CN (k:=p.nodes.toNat) h.nodup fun n hn=>by have:=h.range n hn; omega
 omega
def PrepP {R:Type} (P:Program) (E:Enc R) (n:Nat) (t:T R) (F:Nat→Prop) (w:World):Value→World→Prop:=fun v x=>Below w.heap.size w x∧Rep P E n t (grow F w x) x v
theorem PrepP.st {R:Type} {P:Program} {E:Enc R} {n:Nat} {t:T R} {F:Nat→Prop} {w:World} (hF:∀ b,F b→b<w.heap.size):∀ v w1 w2,PrepP P E n t F w v w1→Below w1.heap.size w1 w2→PrepP P E n t F w v w2:=by
 rintro v w1 w2 ⟨h1,h2⟩ hb;refine ⟨h1.trans (hb.mono h1.size),Rep.mono ?_ ?_ hb.size n _ _ h2⟩
 ·rintro b (h | ⟨h3,h4⟩)
  ·exact .inl h
  ·exact .inr ⟨h3,q8 h4 hb.size⟩
 ·rintro b (h | ⟨h3,h4⟩)
  ·exact hb.block b (q8 (hF b h) h1.size)
  ·exact hb.block b h4
theorem PrepP.of {R:Type} {P:Program} {E:Enc R} {n:Nat} {t:T R} {F:Nat→Prop} {w w1 w2:World} {v:Value} (h1:Below w.heap.size w w1) (hb:Below w1.heap.size w1 w2) (h:Rep P E n t (grow F w1 w2) w2 v):PrepP P E n t F w v w2:=by
 refine ⟨h1.trans (hb.mono h1.size),Rep.mono ?_ (fun b _=>rfl) (Nat.le_refl _) n _ _ h⟩
 rintro b (h | ⟨h3,h4⟩)
 ·exact .inl h
 ·exact .inr ⟨Nat.le_trans h1.size h3,h4⟩
theorem drB {w w':World} {d:Nat} (h:Below w.heap.size { w with drawn:=d } w'):Below w.heap.size w w':=⟨h.os,h.tape,h.output,h.size,h.block⟩
section
variable {n : Nat} {F : Nat → Prop} {j : Nat} {w0 : World}
theorem EA:af y6 138:=kz
theorem GJ:af y6 141:=kz
theorem G5:af y6 178:=kz
theorem wG:af y6 179:=kz
theorem wY:af y6 180:=kz
theorem FM:af y6 183:=kz
theorem xX:af y6 184:=kz
theorem Gm:af y6 185:=kz
theorem Fh:af y6 187:=kz
theorem FD:af y6 189:=kz
theorem Eb:af y6 221:=kz
theorem wW:af y6 224:=kz
theorem Gk:af y6 225:=kz
theorem Gq:af y6 226:=kz
theorem En:af y6 269:=kz
theorem Ee:af y6 270:=kz
theorem EW:af y6 271:=kz
theorem Ep:af y6 272:=kz
theorem G7:af y6 273:=kz
theorem FN:sized y6 233 1:=kz
theorem Fv:sized y6 261 1:=kz
theorem EE:zeroOf y6 233=some .nilFunc:=kz
theorem G9:zeroOf y6 261=some .nilFunc:=kz
def D.tu (c0:Int) (c1:State):T Grant:=(D.mY (⟨c0,c1.gen,0⟩:Grant))
theorem zX (hF:kH F w0)
    (c0:Int) {c0b:Nat} (c0F:F c0b) (c0h:w0.heap[c0b]?=some (.cells ([(.int .i64 c0)]).toArray 3 (0,0))) (c1:State) {c1b:Nat} (c1F:F c1b) (c1h:w0.heap[c1b]?=some (.cells ((aR c1)).toArray 190 (0,0))) :
    Calls y6 273 #[zp c0b,zp c1b] w0 (aG y6 bw n (D.tu c0 c1) F w0):=by
 refine kN Tryz.func273 rfl 8 rfl rfl fun fr r hB=>?_;have lc0b:=q7 c0h
 have lc1b:=q7 c1h;refine wsr ?_;refine ah (.cells (kq bw) 116 (0,0)) r (fun R=>ag dU) rfl fun fr b1 w2 n3 r=>?_;obtain ⟨E1,Z2,H1,hB,zB⟩:=n3.all hB
 refine wn (wsr (kL (I c0) r rfl (keep hB c0h) to3 rfl rfl fun r=>kF 0 r rfl gY rfl fun r=>kL (I c1.gen) r rfl (keep hB c1h) to3 rfl rfl fun r=>kU (u7 (grantC (⟨c0,c1.gen,0⟩:Grant))) r kz rfl fun r=>?_));have hF1:=aQ hF hB b1
 refine kD r (sS (F:=(kW F w0 w2 b1)) (n:=n) hF1 (⟨c0,c1.gen,0⟩:Grant)) rfl wG rfl fun w4 v5 hb hr6 r=>?_;have Z4:=hb.size
 have H1:=keep hb H1;obtain ⟨hB,zB⟩:=bon hb hB;refine kP r hr6.shape rfl rfl H1 dM rfl rfl fun w7 u8 r=>?_;have Z7:=u8.size
 have H1:=u8.at_;obtain ⟨hB,zB⟩:=u8.on hB kw
 exact wn (d9 (kR r hr6 rfl rfl H1 rfl dL hF hB u8 kw kw kw))
def D.qb (c0:Plan) (c1:Int) (c2:Int) (a0:Int):T Grant:=(D.pN (D.cY c0 c1) (D.cn (D.dE ((D.aV a0).1) c2)) (fun _=>(D.tu c1 ((D.aV a0).1))))
theorem AA (hF:kH F w0)
    (c0:Plan) {c0b:Nat} (c0F:F c0b) (c0h:w0.heap[c0b]?=some (.cells ((ae c0)).toArray 23 (0,0))) (c1:Int) {c1b:Nat} (c1F:F c1b) (c1h:w0.heap[c1b]?=some (.cells ([(.int .i64 c1)]).toArray 3 (0,0))) (c2:Int) {c2b:Nat} (c2F:F c2b) (c2h:w0.heap[c2b]?=some (.cells ([(.int .i64 c2)]).toArray 3 (0,0))) (a0:Int) :
    Calls y6 270 #[.int .u64 a0,zp c0b,zp c1b,zp c2b] w0 (aG y6 bw n (D.qb c0 c1 c2 a0) F w0):=by
 refine kN Tryz.func270 rfl 22 rfl rfl fun fr r hB=>?_;have lc0b:=q7 c0h
 have lc1b:=q7 c1h;have lc2b:=q7 c2h;refine wsr ?_;refine ah (.cells (kq bw) 116 (0,0)) r (fun R=>ag dU) rfl fun fr b1 w2 n3 r=>?_;obtain ⟨E1,Z2,H1,hB,zB⟩:=n3.all hB
 refine wn (wsr (kM (U a0) r rfl rfl fun r=>?_));refine kE r (lu w2 a0) rfl rC rfl fun w4 hb r=>?_
 have Z4:=hb.size;have H1:=keep hb H1;obtain ⟨hB,zB⟩:=bon hb hB;refine kM (.tuple #[(u7 (aR (D.aV a0).1)),(.bool (D.aV a0).2)]) r rfl rfl fun r=>aa (u7 (aR (D.aV a0).1)) r (fun R=>bX r (vs:=#[(u7 (aR (D.aV a0).1)),(.bool (D.aV a0).2)]) rfl rfl) rfl fun fr r=>aa (.bool (D.aV a0).2) r (fun R=>bX r (vs:=#[(u7 (aR (D.aV a0).1)),(.bool (D.aV a0).2)]) rfl rfl) rfl fun fr r=>?_;refine ah (.cells ((aR (⟨0,0,0⟩:State))).toArray 190 (0,0)) r (fun R=>ag gb) rfl fun fr b5 w6 n7 r=>?_
 have H1:=keep n7.below H1;obtain ⟨E5,Z6,H5,hB,zB⟩:=n7.all hB;refine aJ (.cells ((aR ((D.aV a0).1))).toArray 190 (0,0)) r (fun R=>bb r (o:=0) (v:=(u7 (aR (D.aV a0).1))) rfl rfl H5 eP r9 rfl rfl) rfl fun fr w8 u9 r=>?_;have Z8:=u9.size
 have H1:=u9.keep H1 kw
 have H5:=u9.at_;obtain ⟨hB,zB⟩:=u9.on hB kw
 refine kA (.bool (D.aV a0).2) r rfl rfl fun r=>wn (a9 ?_);refine bN 8 [.val (u7 (ae c0)),.val (I c1),.val (I (D.cY c0 c1)),.val (u7 (aR (D.aV a0).1)),.val (I c2),.val (.agg (aR (D.dE ((D.aV a0).1) c2)).toArray),.val (U (D.cn (D.dE ((D.aV a0).1) c2))),.val (.func (.func 273) #[] #[zp c1b,zp b5])] mixed r kz (kV (kV (kV (kV (kV (kV (kV (kV bM)))))))) ?_ ?_
 ·
  refine ec r (fun _ u _ b d s=>aX s (cs:=(ae c0)) (n:=6) rfl (cq hB b c0h) ta23 rfl bz) (ec r (fun _ u _ b d s=>av s rfl (cq hB b c1h) to3 rfl bz) (ec r (fun fr1 u w' hb' hd r'=>aP r' (args:=[(u7 (ae c0)),(I c1)]) (lc hd.1 (lc hd.2.1 l0)) jV ((j8 _ c0 c1).mono yab)) (ec r (fun _ u _ b d s=>aX s (cs:=(aR ((D.aV a0).1))) (n:=3) rfl (keep b H5) dV rfl bz) (ec r (fun _ u _ b d s=>av s rfl (cq hB b c2h) to3 rfl bz) (ec r (fun fr1 u w' hb' hd r'=>aP r' (args:=[(u7 (aR (D.aV a0).1)),(I c2)]) (lc hd.1 (lc hd.2.1 l0)) Ep ((zL _ ((D.aV a0).1) c2).mono yab)) (ec r (fun fr1 u w' hb' hd r'=>aP r' (args:=[(.agg (aR (D.dE ((D.aV a0).1) c2)).toArray)]) (lc hd.1 l0) rW ((ko _ (D.dE ((D.aV a0).1) c2)).mono yab)) (ec r (fun _ u _ b d s=>aZ s (v:=(.func (.func 273) #[] #[zp c1b,zp b5])) rfl bz) ?_)))))));exact bO
 intro fr u w10 hb hΦ hne r;have r:=r.congr (sc (hΦ 7 ke) (sc (hΦ 6 ke) (sc (hΦ 5 ke) (sc (hΦ 4 ke) (sc (hΦ 3 ke) (sc (hΦ 2 ke) (sc (hΦ 1 ke) (sc (hΦ 0 ke) rfl))))))));have Z10:=hb.size;have H1:=keep hb H1;have H5:=keep hb H5;obtain ⟨hB,zB⟩:=bon hb hB;have hF1:=aQ hF hB b1;have f11:((kW F w0 w10 b1)) c1b:=(.inl c1F);have f12:((kW F w0 w10 b1)) b5:=(.inr ⟨kw,kw,kw⟩)
 refine kD r (zV (F:=(kW F w0 w10 b1)) (n:=n) hF1 (D.cY c0 c1) (D.cn (D.dE ((D.aV a0).1) c2)) ⟨273,[],[zp c1b,zp b5],G7,rfl,fun m hm _ w' hs hz=>zX (fun b hb=>q8 (hF1 b hb) hz) c1 f11 (hs.at_ f11 (keep hB c1h)) ((D.aV a0).1) f12 (hs.at_ f12 H5)⟩) rfl EW rfl fun w13 v14 hb hr15 r=>?_;have Z13:=hb.size
 have H1:=keep hb H1;have H5:=keep hb H5;obtain ⟨hB,zB⟩:=bon hb hB;refine kP r hr15.shape rfl rfl H1 dM rfl rfl fun w16 u17 r=>?_;have Z16:=u17.size
 have H5:=u17.keep H5 kw
 have H1:=u17.at_;obtain ⟨hB,zB⟩:=u17.on hB kw
 exact wn (d9 (kR r hr15 rfl rfl H1 rfl dL hF hB u17 kw kw kw))
def D.gH (a0:Plan) (a1:Int) (a2:Int):T Grant:=(D.pQ (D.cY a0 a1) (fun x=>(D.qb a0 a1 a2 x)))
theorem tQ (hF:kH F w0)
    (a0:Plan) (a1:Int) (a2:Int) :
    Calls y6 180 #[u7 (ae a0),.int .i64 a1,.int .i64 a2] w0 (aG y6 bw n (D.gH a0 a1 a2) F w0):=by
 refine kN Tryz.func180 rfl 12 rfl rfl fun fr r hB=>?_;refine wsr ?_
 refine kX 23 (u7 (ae a0)) r rfl rfl fun b1 w2 n3 r=>?_;obtain ⟨E1,Z2,H1,hB,zB⟩:=n3.all hB
 refine kX 3 (I a1) r rfl rfl fun b4 w5 n6 r=>?_;have H1:=keep n6.below H1
 obtain ⟨E4,Z5,H4,hB,zB⟩:=n6.all hB;refine kX 3 (I a2) r rfl rfl fun b7 w8 n9 r=>?_;have H1:=keep n9.below H1
 have H4:=keep n9.below H4;obtain ⟨E7,Z8,H7,hB,zB⟩:=n9.all hB;refine ah (.cells (kq bw) 116 (0,0)) r (fun R=>ag dU) rfl fun fr b10 w11 n12 r=>?_;have H1:=keep n12.below H1
 have H4:=keep n12.below H4;have H7:=keep n12.below H7;obtain ⟨E10,Z11,H10,hB,zB⟩:=n12.all hB;refine wn (wsr (kG (ae a0) 6 r rfl H1 ta23 rfl rfl fun r=>kL (I a1) r rfl H4 to3 rfl rfl fun r=>?_));refine kE r (j8 w11 a0 a1) rfl jV rfl fun w13 hb r=>?_
 have Z13:=hb.size;have H1:=keep hb H1;have H4:=keep hb H4;have H7:=keep hb H7;have H10:=keep hb H10;obtain ⟨hB,zB⟩:=bon hb hB;refine aa (.func (.func 270) #[] #[zp b1,zp b4,zp b7]) r (fun R=>aZ r rfl) rfl fun fr r=>?_;have hF1:=aQ hF hB b10
 have f14:((kW F w0 w13 b10)) b1:=(.inr ⟨kw,kw,kw⟩)
 have f15:((kW F w0 w13 b10)) b4:=(.inr ⟨kw,kw,kw⟩)
 have f16:((kW F w0 w13 b10)) b7:=(.inr ⟨kw,kw,kw⟩)
 refine kD r (Aa (F:=(kW F w0 w13 b10)) (n:=n) hF1 (D.cY a0 a1) ⟨270,[],[zp b1,zp b4,zp b7],Ee,rfl,fun m hm x w' hs hz=>AA (fun b hb=>q8 (hF1 b hb) hz) a0 f14 (hs.at_ f14 H1) a1 f15 (hs.at_ f15 H4) a2 f16 (hs.at_ f16 H7) x⟩) rfl En rfl fun w17 v18 hb hr19 r=>?_;have Z17:=hb.size
 have H1:=keep hb H1;have H4:=keep hb H4;have H7:=keep hb H7;have H10:=keep hb H10;obtain ⟨hB,zB⟩:=bon hb hB;refine kP r hr19.shape rfl rfl H10 dM rfl rfl fun w20 u21 r=>?_;have Z20:=u21.size
 have H1:=u21.keep H1 kw
 have H4:=u21.keep H4 kw
 have H7:=u21.keep H7 kw
 have H10:=u21.at_;obtain ⟨hB,zB⟩:=u21.on hB kw
 exact wn (d9 (kR r hr19 rfl rfl H10 rfl dL hF hB u21 kw kw kw))
def D.dZ (c0:Plan) (c1:Int) (a0:Int):T Grant:=(bif (a0==(-1)) then (D.mY (⟨(-1),0,4⟩:Grant)) else (D.gH c0 a0 c1))
theorem Bo (hF:kH F w0)
    (c0:Plan) {c0b:Nat} (c0F:F c0b) (c0h:w0.heap[c0b]?=some (.cells ((ae c0)).toArray 23 (0,0))) (c1:Int) {c1b:Nat} (c1F:F c1b) (c1h:w0.heap[c1b]?=some (.cells ([(.int .i64 c1)]).toArray 3 (0,0))) (a0:Int) :
    Calls y6 178 #[.int .i64 a0,zp c0b,zp c1b] w0 (aG y6 bw n (D.dZ c0 c1 a0) F w0):=by
 refine kN Tryz.func178 rfl 13 rfl rfl fun fr r hB=>?_;have lc0b:=q7 c0h
 have lc1b:=q7 c1h;refine wsr ?_;refine ah (.cells (kq bw) 116 (0,0)) r (fun R=>ag dU) rfl fun fr b1 w2 n3 r=>?_;obtain ⟨E1,Z2,H1,hB,zB⟩:=n3.all hB
 refine wn (a9 (wsr (kM (I a0) r rfl rfl fun r=>kB r rfl rfl rfl rfl rfl fun r=>wn ?_)));refine q4 (t:=(a0==(-1))) (r.ev rfl) (fun h4=>?_) (fun h4=>?_)
 ·
  refine wsr (kU (u7 (grantC (⟨(-1),0,4⟩:Grant))) r kz rfl fun r=>?_);have hF1:=aQ hF hB b1
  refine kD r (sS (F:=(kW F w0 w2 b1)) (n:=n) hF1 (⟨(-1),0,4⟩:Grant)) rfl wG rfl fun w5 v6 hb hr7 r=>?_;have Z5:=hb.size
  have H1:=keep hb H1;obtain ⟨hB,zB⟩:=bon hb hB;refine kP r hr7.shape rfl rfl H1 dM rfl rfl fun w8 u9 r=>?_;have Z8:=u9.size
  have H1:=u9.at_;obtain ⟨hB,zB⟩:=u9.on hB kw
  refine wn (d9 ?_);have hd:D.dZ c0 c1 a0=(D.mY (⟨(-1),0,4⟩:Grant)):=(ar h4).trans (rfl);have hs:=hr7.shape.cells;refine ak r rfl rfl H1 (k:=9) hs.1 dL ?_;rw [←hs.2.2,hd];exact rfin hF hB hr7 u9 kw kw kw
 refine q6 (wsr (kG (ae c0) 6 r rfl (keep hB c0h) ta23 rfl rfl fun r=>kM (I a0) r rfl rfl fun r=>kL (I c1) r rfl (keep hB c1h) to3 rfl rfl fun r=>?_));have hF1:=aQ hF hB b1
 refine kD r (tQ (F:=(kW F w0 w2 b1)) (n:=n) hF1 c0 a0 c1) rfl wY rfl fun w10 v11 hb hr12 r=>?_;have Z10:=hb.size
 have H1:=keep hb H1;obtain ⟨hB,zB⟩:=bon hb hB;refine kP r hr12.shape rfl rfl H1 dM rfl rfl fun w13 u14 r=>?_;have Z13:=u14.size
 have H1:=u14.at_;obtain ⟨hB,zB⟩:=u14.on hB kw
 refine wn (d9 ?_);have hd:D.dZ c0 c1 a0=(D.gH c0 a0 c1):=(ai h4).trans (rfl);have hs:=hr12.shape.cells;refine ak r rfl rfl H1 (k:=9) hs.1 dL ?_;rw [←hs.2.2,hd];exact rfin hF hB hr12 u14 kw kw kw
def D.nz (j:Nat) (c0:Plan) (c1:(Int→T Grant)) (a0:Int):T Grant:=(T.bind (D.dg j c0) c1)
theorem AL (hF:kH F w0) (hj:n<j)
    (c0:Plan) {c0b:Nat} (c0F:F c0b) (c0h:w0.heap[c0b]?=some (.cells ((ae c0)).toArray 23 (0,0))) {c1f:FuncId} {c1_1 c1_2:List Value} {c1:(Int→T Grant)} {c1b:Nat} (c1F:F c1b) (c1h:w0.heap[c1b]?=some (.cells #[kf c1f c1_1 c1_2] 233 (0,0))) (c1n:FnT y6 bw i64 (n+1) F w0 (kf c1f c1_1 c1_2) c1) (a0:Int) :
    Calls y6 185 #[.int .i64 a0,zp c0b,zp c1b] w0 (aG y6 bw n (D.nz j c0 c1 a0) F w0):=by
 refine kN Tryz.func185 rfl 9 rfl rfl fun fr r hB=>?_;have lc0b:=q7 c0h
 have lc1b:=q7 c1h;refine wsr ?_;refine ah (.cells (kq bw) 116 (0,0)) r (fun R=>ag dU) rfl fun fr b1 w2 n3 r=>?_;obtain ⟨E1,Z2,H1,hB,zB⟩:=n3.all hB
 refine wn (a9 ?_);have hF1:=aQ hF hB b1;refine bN 3 [.val (u7 (ae c0)),.pred (PrepP y6 aj n (D.dg j c0) ((kW F w0 w2 b1)) w2) (PrepP.st hF1),.val (kf c1f c1_1 c1_2)] mixed r kz (kV (kV (kV bM))) ?_ ?_
 ·
  refine ec r (fun _ u _ b d s=>aX s (cs:=(ae c0)) (n:=6) rfl (cq hB b c0h) ta23 rfl bz) (ec r (fun fr1 u w' hb' hd r'=>aP r' (args:=[(u7 (ae c0))]) (lc hd.1 l0) rN (((uy (k:=j) (n:=n) kw) ((kW F w0 w2 b1)) _ (fun b h=>q8 (hF1 b h) hb'.size) c0).mono yaC)) (ec r (fun _ u _ b d s=>av s rfl (cq hB b c1h) rA rfl bz) ?_));exact bO
 intro fr u w4 hb hΦ hne r;obtain ⟨v5,hv1⟩:∃ v,v=u 1:=⟨_,rfl⟩;have g1:u 1=v5:=hv1.symm;have hr6:=(hΦ 1 ke).2;rw [g1] at hr6
 have r:=r.congr (sc (hΦ 2 ke) (sc g1 (sc (hΦ 0 ke) rfl)))
 have Z4:=hb.size;have H1:=keep hb H1;obtain ⟨hB,zB⟩:=bon hb hB;have hF1:=aQ hF hB b1;refine kD r (oZ (F:=(kW F w0 w4 b1)) (n:=n) hF1 (Rep.mono yaf (Same.refl _ _) kw n _ _ hr6) (c1n.mono kw (fun b h=>.inl h) (Same.below hB hF) hB.size)) rfl oR rfl fun w7 v8 hb hr9 r=>?_
 have Z7:=hb.size;have H1:=keep hb H1;obtain ⟨hB,zB⟩:=bon hb hB;refine kP r hr9.shape rfl rfl H1 dM rfl rfl fun w10 u11 r=>?_;have Z10:=u11.size
 have H1:=u11.at_;obtain ⟨hB,zB⟩:=u11.on hB kw
 exact wn (d9 (kR r hr9 rfl rfl H1 rfl dL hF hB u11 kw kw kw))
def D.gI (j:Nat) (c0:Plan) (c1:Int) (c2:Int) (c3:(Int→T Grant)) (a0:Int):T Grant:=(bif (a0 !=(-1)) then (D.gH c0 a0 c1) else (T.bind (D.fO j c0 c2) (fun x=>(D.nz j c0 c3 x))))
theorem Bm (hF:kH F w0) (hj:n<j)
    (c0:Plan) {c0b:Nat} (c0F:F c0b) (c0h:w0.heap[c0b]?=some (.cells ((ae c0)).toArray 23 (0,0))) (c1:Int) {c1b:Nat} (c1F:F c1b) (c1h:w0.heap[c1b]?=some (.cells ([(.int .i64 c1)]).toArray 3 (0,0))) (c2:Int) {c2b:Nat} (c2F:F c2b) (c2h:w0.heap[c2b]?=some (.cells ([(.int .i64 c2)]).toArray 3 (0,0))) {c3f:FuncId} {c3_1 c3_2:List Value} {c3:(Int→T Grant)} {c3b:Nat} (c3F:F c3b) (c3h:w0.heap[c3b]?=some (.cells #[kf c3f c3_1 c3_2] 233 (0,0))) (c3n:FnT y6 bw i64 (n+1) F w0 (kf c3f c3_1 c3_2) c3) (a0:Int) :
    Calls y6 183 #[.int .i64 a0,zp c0b,zp c1b,zp c2b,zp c3b] w0 (aG y6 bw n (D.gI j c0 c1 c2 c3 a0) F w0):=by
 refine kN Tryz.func183 rfl 18 rfl rfl fun fr r hB=>?_;have lc0b:=q7 c0h
 have lc1b:=q7 c1h;have lc2b:=q7 c2h;have lc3b:=q7 c3h;refine wsr ?_;refine ah (.cells (kq bw) 116 (0,0)) r (fun R=>ag dU) rfl fun fr b1 w2 n3 r=>?_;obtain ⟨E1,Z2,H1,hB,zB⟩:=n3.all hB
 refine wn (a9 (wsr (kM (I a0) r rfl rfl fun r=>kB r rfl rfl rfl rfl rfl fun r=>wn ?_)));refine q4 (t:=(a0 !=(-1))) (r.ev rfl) (fun h4=>?_) (fun h4=>?_)
 ·
  refine wsr (kG (ae c0) 6 r rfl (keep hB c0h) ta23 rfl rfl fun r=>kM (I a0) r rfl rfl fun r=>kL (I c1) r rfl (keep hB c1h) to3 rfl rfl fun r=>?_);have hF1:=aQ hF hB b1
  refine kD r (tQ (F:=(kW F w0 w2 b1)) (n:=n) hF1 c0 a0 c1) rfl wY rfl fun w5 v6 hb hr7 r=>?_;have Z5:=hb.size
  have H1:=keep hb H1;obtain ⟨hB,zB⟩:=bon hb hB;refine kP r hr7.shape rfl rfl H1 dM rfl rfl fun w8 u9 r=>?_;have Z8:=u9.size
  have H1:=u9.at_;obtain ⟨hB,zB⟩:=u9.on hB kw
  refine wn (d9 ?_);have hd:D.gI j c0 c1 c2 c3 a0=(D.gH c0 a0 c1):=(ar h4).trans (rfl);have hs:=hr7.shape.cells;refine ak r rfl rfl H1 (k:=9) hs.1 dL ?_;rw [←hs.2.2,hd];exact rfin hF hB hr7 u9 kw kw kw
 refine q6 (wsr (kG (ae c0) 6 r rfl (keep hB c0h) ta23 rfl rfl fun r=>kL (I c2) r rfl (keep hB c2h) to3 rfl rfl fun r=>?_));have hF1:=aQ hF hB b1
 refine kD r (tS (j:=j) (F:=(kW F w0 w2 b1)) (n:=n) hF1 kw c0 c2) rfl xX rfl fun w10 v11 hb hr12 r=>?_;have Z10:=hb.size
 have H1:=keep hb H1;obtain ⟨hB,zB⟩:=bon hb hB;refine aa (.func (.func 185) #[] #[zp c0b,zp c3b]) r (fun R=>aZ r rfl) rfl fun fr r=>?_;have hF1:=aQ hF hB b1
 have f13:((kW F w0 w10 b1)) c0b:=(.inl c0F);have f14:((kW F w0 w10 b1)) c3b:=(.inl c3F);refine kD r (oZ (F:=(kW F w0 w10 b1)) (n:=n) hF1 (Rep.mono yaf (Same.refl _ _) kw n _ _ hr12) ⟨185,[],[zp c0b,zp c3b],Gm,rfl,fun m hm x w' hs hz=>AL (j:=j) (fun b hb=>q8 (hF1 b hb) hz) kw c0 f13 (hs.at_ f13 (keep hB c0h)) f14 (hs.at_ f14 (keep hB c3h)) (c3n.mono kw (fun b h=>.inl h) ((Same.below hB hF).trans (hs.sub (fun b h=>.inl h))) (Nat.le_trans hB.size hz)) x⟩) rfl oR rfl fun w15 v16 hb hr17 r=>?_
 have Z15:=hb.size;have H1:=keep hb H1;obtain ⟨hB,zB⟩:=bon hb hB;refine kP r hr17.shape rfl rfl H1 dM rfl rfl fun w18 u19 r=>?_;have Z18:=u19.size
 have H1:=u19.at_;obtain ⟨hB,zB⟩:=u19.on hB kw
 refine wn (d9 ?_);have hd:D.gI j c0 c1 c2 c3 a0=(T.bind (D.fO j c0 c2) (fun x=>(D.nz j c0 c3 x))):=(ai h4).trans (rfl)
 have hs:=hr17.shape.cells;refine ak r rfl rfl H1 (k:=9) hs.1 dL ?_;rw [←hs.2.2,hd];exact rfin hF hB hr17 u19 kw kw kw
def D.jy (j:Nat) (a0:Plan) (a1:Int) (a2:Int):T Grant:=(T.bind (D.dg j a0) (fun x=>(D.gI j a0 a2 a1 (fun x=>(D.dZ a0 a2 x)) x)))
theorem BL (hF:kH F w0) (hj:n<j)
    (a0:Plan) (a1:Int) (a2:Int) :
    Calls y6 102 #[u7 (ae a0),.int .i64 a1,.int .i64 a2] w0 (aG y6 bw n (D.jy j a0 a1 a2) F w0):=by
 refine kN Tryz.func102 rfl 13 rfl rfl fun fr r hB=>?_;refine wsr ?_
 refine kX 23 (u7 (ae a0)) r rfl rfl fun b1 w2 n3 r=>?_;obtain ⟨E1,Z2,H1,hB,zB⟩:=n3.all hB
 refine kX 3 (I a1) r rfl rfl fun b4 w5 n6 r=>?_;have H1:=keep n6.below H1
 obtain ⟨E4,Z5,H4,hB,zB⟩:=n6.all hB;refine kX 3 (I a2) r rfl rfl fun b7 w8 n9 r=>?_;have H1:=keep n9.below H1
 have H4:=keep n9.below H4;obtain ⟨E7,Z8,H7,hB,zB⟩:=n9.all hB;refine ah (.cells (kq bw) 116 (0,0)) r (fun R=>ag dU) rfl fun fr b10 w11 n12 r=>?_;have H1:=keep n12.below H1
 have H4:=keep n12.below H4;have H7:=keep n12.below H7;obtain ⟨E10,Z11,H10,hB,zB⟩:=n12.all hB;refine wn (wsr (aa (.func (.func 178) #[] #[zp b1,zp b7]) r (fun R=>aZ r rfl) rfl fun fr r=>?_));refine ah (.cells #[.nilFunc] 233 (0,0)) r (fun R=>ag EE) rfl fun fr b13 w14 n15 r=>?_
 have H1:=keep n15.below H1;have H4:=keep n15.below H4;have H7:=keep n15.below H7;have H10:=keep n15.below H10;obtain ⟨E13,Z14,H13,hB,zB⟩:=n15.all hB;refine aJ (.cells #[.func (.func 178) #[] #[zp b1,zp b7]] 233 (0,0)) r (fun R=>bb r (o:=0) (v:=(.func (.func 178) #[] #[zp b1,zp b7])) rfl rfl H13 FN r9 rfl rfl) rfl fun fr w16 u17 r=>?_;have Z16:=u17.size
 have H1:=u17.keep H1 kw
 have H4:=u17.keep H4 kw
 have H7:=u17.keep H7 kw
 have H10:=u17.keep H10 kw
 have H13:=u17.at_;obtain ⟨hB,zB⟩:=u17.on hB kw
 refine wn (wsr (kG (ae a0) 6 r rfl H1 ta23 rfl rfl fun r=>?_));have hF1:=aQ hF hB b10
 refine kD r ((uy (k:=j) (n:=n) kw) (kW F w0 w16 b10) _ hF1 a0) rfl rN rfl fun w18 v19 hb hr20 r=>?_;have Z18:=hb.size
 have H1:=keep hb H1;have H4:=keep hb H4;have H7:=keep hb H7;have H10:=keep hb H10;have H13:=keep hb H13;obtain ⟨hB,zB⟩:=bon hb hB;refine aa (.func (.func 183) #[] #[zp b1,zp b7,zp b4,zp b13]) r (fun R=>aZ r rfl) rfl fun fr r=>?_;have hF1:=aQ hF hB b10
 have f21:((kW F w0 w18 b10)) b1:=(.inr ⟨kw,kw,kw⟩)
 have f22:((kW F w0 w18 b10)) b7:=(.inr ⟨kw,kw,kw⟩)
 have f23:((kW F w0 w18 b10)) b4:=(.inr ⟨kw,kw,kw⟩)
 have f24:((kW F w0 w18 b10)) b13:=(.inr ⟨kw,kw,kw⟩)
 have f26:((kW F w0 w18 b10)) b1:=(.inr ⟨kw,kw,kw⟩)
 have f27:((kW F w0 w18 b10)) b7:=(.inr ⟨kw,kw,kw⟩)
 have q25:FnT y6 bw i64 (n+1) (kW F w0 w18 b10) w18 (.func (.func 178) #[] #[zp b1,zp b7]) (fun x=>(D.dZ a0 a2 x)):=⟨178,[],[zp b1,zp b7],G5,rfl,fun m hm x w' hs hz=>Bo (fun b hb=>q8 (hF1 b hb) hz) a0 f26 (hs.at_ f26 H1) a2 f27 (hs.at_ f27 H7) x⟩
 refine kD r (oZ (F:=(kW F w0 w18 b10)) (n:=n) hF1 (Rep.mono yaf (Same.refl _ _) kw n _ _ hr20) ⟨183,[],[zp b1,zp b7,zp b4,zp b13],FM,rfl,fun m hm x w' hs hz=>Bm (j:=j) (fun b hb=>q8 (hF1 b hb) hz) kw a0 f21 (hs.at_ f21 H1) a2 f22 (hs.at_ f22 H7) a1 f23 (hs.at_ f23 H4) f24 (hs.at_ f24 H13) (q25.mono kw (fun b h=>h) hs hz) x⟩) rfl oR rfl fun w28 v29 hb hr30 r=>?_
 have Z28:=hb.size;have H1:=keep hb H1;have H4:=keep hb H4;have H7:=keep hb H7;have H10:=keep hb H10;have H13:=keep hb H13;obtain ⟨hB,zB⟩:=bon hb hB;refine kP r hr30.shape rfl rfl H10 dM rfl rfl fun w31 u32 r=>?_;have Z31:=u32.size
 have H1:=u32.keep H1 kw
 have H4:=u32.keep H4 kw
 have H7:=u32.keep H7 kw
 have H13:=u32.keep H13 kw
 have H10:=u32.at_;obtain ⟨hB,zB⟩:=u32.on hB kw
 exact wn (d9 (kR r hr30 rfl rfl H10 rfl dL hF hB u32 kw kw kw))
def D.fe (c0:Int) (a0:Int):T Int:=(bif (a0==(-1)) then (D.cZ (-1)) else (D.cZ c0))
theorem AQ (hF:kH F w0)
    (c0:Int) {c0b:Nat} (c0F:F c0b) (c0h:w0.heap[c0b]?=some (.cells ([(.int .i64 c0)]).toArray 3 (0,0))) (a0:Int) :
    Calls y6 221 #[.int .i64 a0,zp c0b] w0 (aG y6 aj n (D.fe c0 a0) F w0):=by
 refine kN Tryz.func221 rfl 9 rfl rfl fun fr r hB=>?_;have lc0b:=q7 c0h
 refine wsr ?_;refine ah (.cells (kq aj) 119 (0,0)) r (fun R=>ag bK) rfl fun fr b1 w2 n3 r=>?_;obtain ⟨E1,Z2,H1,hB,zB⟩:=n3.all hB
 refine wn (a9 (wsr (kM (I a0) r rfl rfl fun r=>kB r rfl rfl rfl rfl rfl fun r=>wn ?_)));refine q4 (t:=(a0==(-1))) (r.ev rfl) (fun h4=>?_) (fun h4=>?_)
 ·
  refine wsr ?_;have hF1:=aQ hF hB b1;refine kD r (eQ (F:=(kW F w0 w2 b1)) (n:=n) hF1 (-1)) rfl eX rfl fun w5 v6 hb hr7 r=>?_;have Z5:=hb.size
  have H1:=keep hb H1;obtain ⟨hB,zB⟩:=bon hb hB;refine kP r hr7.shape rfl rfl H1 bu rfl rfl fun w8 u9 r=>?_;have Z8:=u9.size
  have H1:=u9.at_;obtain ⟨hB,zB⟩:=u9.on hB kw
  refine wn (d9 ?_);have hd:D.fe c0 a0=(D.cZ (-1)):=(ar h4).trans (rfl);have hs:=hr7.shape.cells;refine ak r rfl rfl H1 (k:=7) hs.1 br ?_;rw [←hs.2.2,hd];exact rfin hF hB hr7 u9 kw kw kw
 refine q6 (wsr (kL (I c0) r rfl (keep hB c0h) to3 rfl rfl fun r=>?_));have hF1:=aQ hF hB b1
 refine kD r (eQ (F:=(kW F w0 w2 b1)) (n:=n) hF1 c0) rfl eX rfl fun w10 v11 hb hr12 r=>?_;have Z10:=hb.size
 have H1:=keep hb H1;obtain ⟨hB,zB⟩:=bon hb hB;refine kP r hr12.shape rfl rfl H1 bu rfl rfl fun w13 u14 r=>?_;have Z13:=u14.size
 have H1:=u14.at_;obtain ⟨hB,zB⟩:=u14.on hB kw
 refine wn (d9 ?_);have hd:D.fe c0 a0=(D.cZ c0):=(ai h4).trans (rfl);have hs:=hr12.shape.cells;refine ak r rfl rfl H1 (k:=7) hs.1 br ?_;rw [←hs.2.2,hd];exact rfin hF hB hr12 u14 kw kw kw
def D.ni (c0:Plan) (c1:Int) (c2:Int) (c3:(Int→T Int)) (a0:Int):T Int:=(T.bind (D.gN c0 c1 c2) c3)
theorem zY (hF:kH F w0)
    (c0:Plan) {c0b:Nat} (c0F:F c0b) (c0h:w0.heap[c0b]?=some (.cells ((ae c0)).toArray 23 (0,0))) (c1:Int) {c1b:Nat} (c1F:F c1b) (c1h:w0.heap[c1b]?=some (.cells ([(.int .i64 c1)]).toArray 3 (0,0))) (c2:Int) {c2b:Nat} (c2F:F c2b) (c2h:w0.heap[c2b]?=some (.cells ([(.int .i64 c2)]).toArray 3 (0,0))) {c3f:FuncId} {c3_1 c3_2:List Value} {c3:(Int→T Int)} {c3b:Nat} (c3F:F c3b) (c3h:w0.heap[c3b]?=some (.cells #[kf c3f c3_1 c3_2] 261 (0,0))) (c3n:FnT y6 aj i64 (n+1) F w0 (kf c3f c3_1 c3_2) c3) (a0:Int) :
    Calls y6 226 #[.int .i64 a0,zp c0b,zp c1b,zp c2b,zp c3b] w0 (aG y6 aj n (D.ni c0 c1 c2 c3 a0) F w0):=by
 refine kN Tryz.func226 rfl 13 rfl rfl fun fr r hB=>?_;have lc0b:=q7 c0h
 have lc1b:=q7 c1h;have lc2b:=q7 c2h;have lc3b:=q7 c3h;refine wsr ?_;refine ah (.cells (kq aj) 119 (0,0)) r (fun R=>ag bK) rfl fun fr b1 w2 n3 r=>?_;obtain ⟨E1,Z2,H1,hB,zB⟩:=n3.all hB
 refine wn (a9 ?_);have hF1:=aQ hF hB b1;refine bN 5 [.val (u7 (ae c0)),.val (I c1),.val (I c2),.pred (PrepP y6 aj n (D.gN c0 c1 c2) ((kW F w0 w2 b1)) w2) (PrepP.st hF1),.val (kf c3f c3_1 c3_2)] mixed r kz (kV (kV (kV (kV (kV bM))))) ?_ ?_
 ·
  refine ec r (fun _ u _ b d s=>aX s (cs:=(ae c0)) (n:=6) rfl (cq hB b c0h) ta23 rfl bz) (ec r (fun _ u _ b d s=>av s rfl (cq hB b c1h) to3 rfl bz) (ec r (fun _ u _ b d s=>av s rfl (cq hB b c2h) to3 rfl bz) (ec r (fun fr1 u w' hb' hd r'=>aP r' (args:=[(u7 (ae c0)),(I c1),(I c2)]) (lc hd.1 (lc hd.2.1 (lc hd.2.2.1 l0))) wW ((tT (F:=(kW F w0 w2 b1)) (n:=n) (fun b h=>q8 (hF1 b h) hb'.size) c0 c1 c2).mono yaC)) (ec r (fun _ u _ b d s=>av s rfl (cq hB b c3h) rP rfl bz) ?_))));exact bO
 intro fr u w4 hb hΦ hne r;obtain ⟨v5,hv3⟩:∃ v,v=u 3:=⟨_,rfl⟩;have g3:u 3=v5:=hv3.symm;have hr6:=(hΦ 3 ke).2;rw [g3] at hr6
 have r:=r.congr (sc (hΦ 4 ke) (sc g3 (sc (hΦ 2 ke) (sc (hΦ 1 ke) (sc (hΦ 0 ke) rfl)))))
 have Z4:=hb.size;have H1:=keep hb H1;obtain ⟨hB,zB⟩:=bon hb hB;have hF1:=aQ hF hB b1;refine kD r (p6 (F:=(kW F w0 w4 b1)) (n:=n) hF1 (Rep.mono yaf (Same.refl _ _) kw n _ _ hr6) (c3n.mono kw (fun b h=>.inl h) (Same.below hB hF) hB.size)) rfl mf rfl fun w7 v8 hb hr9 r=>?_
 have Z7:=hb.size;have H1:=keep hb H1;obtain ⟨hB,zB⟩:=bon hb hB;refine kP r hr9.shape rfl rfl H1 bu rfl rfl fun w10 u11 r=>?_;have Z10:=u11.size
 have H1:=u11.at_;obtain ⟨hB,zB⟩:=u11.on hB kw
 exact wn (d9 (kR r hr9 rfl rfl H1 rfl br hF hB u11 kw kw kw))
def D.gA (j:Nat) (c0:Int) (c1:Plan) (c2:Int) (c3:(Int→T Int)) (a0:Int):T Int:=(bif (a0 !=(-1)) then (D.cZ c0) else (T.bind (D.fO j c1 c2) (fun x=>(D.ni c1 c2 c0 c3 x))))
theorem AH (hF:kH F w0) (hj:n<j)
    (c0:Int) {c0b:Nat} (c0F:F c0b) (c0h:w0.heap[c0b]?=some (.cells ([(.int .i64 c0)]).toArray 3 (0,0))) (c1:Plan) {c1b:Nat} (c1F:F c1b) (c1h:w0.heap[c1b]?=some (.cells ((ae c1)).toArray 23 (0,0))) (c2:Int) {c2b:Nat} (c2F:F c2b) (c2h:w0.heap[c2b]?=some (.cells ([(.int .i64 c2)]).toArray 3 (0,0))) {c3f:FuncId} {c3_1 c3_2:List Value} {c3:(Int→T Int)} {c3b:Nat} (c3F:F c3b) (c3h:w0.heap[c3b]?=some (.cells #[kf c3f c3_1 c3_2] 261 (0,0))) (c3n:FnT y6 aj i64 (n+1) F w0 (kf c3f c3_1 c3_2) c3) (a0:Int) :
    Calls y6 225 #[.int .i64 a0,zp c0b,zp c1b,zp c2b,zp c3b] w0 (aG y6 aj n (D.gA j c0 c1 c2 c3 a0) F w0):=by
 refine kN Tryz.func225 rfl 16 rfl rfl fun fr r hB=>?_;have lc0b:=q7 c0h
 have lc1b:=q7 c1h;have lc2b:=q7 c2h;have lc3b:=q7 c3h;refine wsr ?_;refine ah (.cells (kq aj) 119 (0,0)) r (fun R=>ag bK) rfl fun fr b1 w2 n3 r=>?_;obtain ⟨E1,Z2,H1,hB,zB⟩:=n3.all hB
 refine wn (a9 (wsr (kM (I a0) r rfl rfl fun r=>kB r rfl rfl rfl rfl rfl fun r=>wn ?_)));refine q4 (t:=(a0 !=(-1))) (r.ev rfl) (fun h4=>?_) (fun h4=>?_)
 ·
  refine wsr (kL (I c0) r rfl (keep hB c0h) to3 rfl rfl fun r=>?_);have hF1:=aQ hF hB b1
  refine kD r (eQ (F:=(kW F w0 w2 b1)) (n:=n) hF1 c0) rfl eX rfl fun w5 v6 hb hr7 r=>?_;have Z5:=hb.size
  have H1:=keep hb H1;obtain ⟨hB,zB⟩:=bon hb hB;refine kP r hr7.shape rfl rfl H1 bu rfl rfl fun w8 u9 r=>?_;have Z8:=u9.size
  have H1:=u9.at_;obtain ⟨hB,zB⟩:=u9.on hB kw
  refine wn (d9 ?_);have hd:D.gA j c0 c1 c2 c3 a0=(D.cZ c0):=(ar h4).trans (rfl);have hs:=hr7.shape.cells;refine ak r rfl rfl H1 (k:=7) hs.1 br ?_;rw [←hs.2.2,hd];exact rfin hF hB hr7 u9 kw kw kw
 refine q6 (wsr (kG (ae c1) 6 r rfl (keep hB c1h) ta23 rfl rfl fun r=>kL (I c2) r rfl (keep hB c2h) to3 rfl rfl fun r=>?_));have hF1:=aQ hF hB b1
 refine kD r (tS (j:=j) (F:=(kW F w0 w2 b1)) (n:=n) hF1 kw c1 c2) rfl xX rfl fun w10 v11 hb hr12 r=>?_;have Z10:=hb.size
 have H1:=keep hb H1;obtain ⟨hB,zB⟩:=bon hb hB;refine aa (.func (.func 226) #[] #[zp c1b,zp c2b,zp c0b,zp c3b]) r (fun R=>aZ r rfl) rfl fun fr r=>?_;have hF1:=aQ hF hB b1
 have f13:((kW F w0 w10 b1)) c1b:=(.inl c1F);have f14:((kW F w0 w10 b1)) c2b:=(.inl c2F);have f15:((kW F w0 w10 b1)) c0b:=(.inl c0F);have f16:((kW F w0 w10 b1)) c3b:=(.inl c3F);refine kD r (p6 (F:=(kW F w0 w10 b1)) (n:=n) hF1 (Rep.mono yaf (Same.refl _ _) kw n _ _ hr12) ⟨226,[],[zp c1b,zp c2b,zp c0b,zp c3b],Gq,rfl,fun m hm x w' hs hz=>zY (fun b hb=>q8 (hF1 b hb) hz) c1 f13 (hs.at_ f13 (keep hB c1h)) c2 f14 (hs.at_ f14 (keep hB c2h)) c0 f15 (hs.at_ f15 (keep hB c0h)) f16 (hs.at_ f16 (keep hB c3h)) (c3n.mono kw (fun b h=>.inl h) ((Same.below hB hF).trans (hs.sub (fun b h=>.inl h))) (Nat.le_trans hB.size hz)) x⟩) rfl mf rfl fun w17 v18 hb hr19 r=>?_
 have Z17:=hb.size;have H1:=keep hb H1;obtain ⟨hB,zB⟩:=bon hb hB;refine kP r hr19.shape rfl rfl H1 bu rfl rfl fun w20 u21 r=>?_;have Z20:=u21.size
 have H1:=u21.at_;obtain ⟨hB,zB⟩:=u21.on hB kw
 refine wn (d9 ?_);have hd:D.gA j c0 c1 c2 c3 a0=(T.bind (D.fO j c1 c2) (fun x=>(D.ni c1 c2 c0 c3 x))):=(ai h4).trans (rfl)
 have hs:=hr19.shape.cells;refine ak r rfl rfl H1 (k:=7) hs.1 br ?_;rw [←hs.2.2,hd];exact rfin hF hB hr19 u21 kw kw kw
def D.nH (j:Nat) (a0:Plan) (a1:Int) (a2:Int):T Int:=(T.bind (D.gN a0 a1 a2) (fun x=>(D.gA j a2 a0 a1 (fun x=>(D.fe a2 x)) x)))
theorem Bq (hF:kH F w0) (hj:n<j)
    (a0:Plan) (a1:Int) (a2:Int) :
    Calls y6 141 #[u7 (ae a0),.int .i64 a1,.int .i64 a2] w0 (aG y6 aj n (D.nH j a0 a1 a2) F w0):=by
 refine kN Tryz.func141 rfl 15 rfl rfl fun fr r hB=>?_;refine wsr ?_
 refine kX 23 (u7 (ae a0)) r rfl rfl fun b1 w2 n3 r=>?_;obtain ⟨E1,Z2,H1,hB,zB⟩:=n3.all hB
 refine kX 3 (I a1) r rfl rfl fun b4 w5 n6 r=>?_;have H1:=keep n6.below H1
 obtain ⟨E4,Z5,H4,hB,zB⟩:=n6.all hB;refine kX 3 (I a2) r rfl rfl fun b7 w8 n9 r=>?_;have H1:=keep n9.below H1
 have H4:=keep n9.below H4;obtain ⟨E7,Z8,H7,hB,zB⟩:=n9.all hB;refine ah (.cells (kq aj) 119 (0,0)) r (fun R=>ag bK) rfl fun fr b10 w11 n12 r=>?_;have H1:=keep n12.below H1
 have H4:=keep n12.below H4;have H7:=keep n12.below H7;obtain ⟨E10,Z11,H10,hB,zB⟩:=n12.all hB;refine wn (wsr (aa (.func (.func 221) #[] #[zp b7]) r (fun R=>aZ r rfl) rfl fun fr r=>?_));refine ah (.cells #[.nilFunc] 261 (0,0)) r (fun R=>ag G9) rfl fun fr b13 w14 n15 r=>?_
 have H1:=keep n15.below H1;have H4:=keep n15.below H4;have H7:=keep n15.below H7;have H10:=keep n15.below H10;obtain ⟨E13,Z14,H13,hB,zB⟩:=n15.all hB;refine aJ (.cells #[.func (.func 221) #[] #[zp b7]] 261 (0,0)) r (fun R=>bb r (o:=0) (v:=(.func (.func 221) #[] #[zp b7])) rfl rfl H13 Fv r9 rfl rfl) rfl fun fr w16 u17 r=>?_;have Z16:=u17.size
 have H1:=u17.keep H1 kw
 have H4:=u17.keep H4 kw
 have H7:=u17.keep H7 kw
 have H10:=u17.keep H10 kw
 have H13:=u17.at_;obtain ⟨hB,zB⟩:=u17.on hB kw
 refine wn (wsr (kG (ae a0) 6 r rfl H1 ta23 rfl rfl fun r=>kL (I a1) r rfl H4 to3 rfl rfl fun r=>kL (I a2) r rfl H7 to3 rfl rfl fun r=>?_));have hF1:=aQ hF hB b10
 refine kD r (tT (F:=(kW F w0 w16 b10)) (n:=n) hF1 a0 a1 a2) rfl wW rfl fun w18 v19 hb hr20 r=>?_;have Z18:=hb.size
 have H1:=keep hb H1;have H4:=keep hb H4;have H7:=keep hb H7;have H10:=keep hb H10;have H13:=keep hb H13;obtain ⟨hB,zB⟩:=bon hb hB;refine aa (.func (.func 225) #[] #[zp b7,zp b1,zp b4,zp b13]) r (fun R=>aZ r rfl) rfl fun fr r=>?_;have hF1:=aQ hF hB b10
 have f21:((kW F w0 w18 b10)) b7:=(.inr ⟨kw,kw,kw⟩)
 have f22:((kW F w0 w18 b10)) b1:=(.inr ⟨kw,kw,kw⟩)
 have f23:((kW F w0 w18 b10)) b4:=(.inr ⟨kw,kw,kw⟩)
 have f24:((kW F w0 w18 b10)) b13:=(.inr ⟨kw,kw,kw⟩)
 have f26:((kW F w0 w18 b10)) b7:=(.inr ⟨kw,kw,kw⟩)
 have q25:FnT y6 aj i64 (n+1) (kW F w0 w18 b10) w18 (.func (.func 221) #[] #[zp b7]) (fun x=>(D.fe a2 x)):=⟨221,[],[zp b7],Eb,rfl,fun m hm x w' hs hz=>AQ (fun b hb=>q8 (hF1 b hb) hz) a2 f26 (hs.at_ f26 H7) x⟩
 refine kD r (p6 (F:=(kW F w0 w18 b10)) (n:=n) hF1 (Rep.mono yaf (Same.refl _ _) kw n _ _ hr20) ⟨225,[],[zp b7,zp b1,zp b4,zp b13],Gk,rfl,fun m hm x w' hs hz=>AH (j:=j) (fun b hb=>q8 (hF1 b hb) hz) kw a2 f21 (hs.at_ f21 H7) a0 f22 (hs.at_ f22 H1) a1 f23 (hs.at_ f23 H4) f24 (hs.at_ f24 H13) (q25.mono kw (fun b h=>h) hs hz) x⟩) rfl mf rfl fun w27 v28 hb hr29 r=>?_
 have Z27:=hb.size;have H1:=keep hb H1;have H4:=keep hb H4;have H7:=keep hb H7;have H10:=keep hb H10;have H13:=keep hb H13;obtain ⟨hB,zB⟩:=bon hb hB;refine kP r hr29.shape rfl rfl H10 bu rfl rfl fun w30 u31 r=>?_;have Z30:=u31.size
 have H1:=u31.keep H1 kw
 have H4:=u31.keep H4 kw
 have H7:=u31.keep H7 kw
 have H13:=u31.keep H13 kw
 have H10:=u31.at_;obtain ⟨hB,zB⟩:=u31.on hB kw
 exact wn (d9 (kR r hr29 rfl rfl H10 rfl br hF hB u31 kw kw kw))
def D.pI (j:Nat) (c0:Plan) (c1:Int) (c2:Int):T Int:=(D.nH j c0 c1 c2)
theorem zS (hF:kH F w0) (hj:n<j)
    (c0:Plan) {c0b:Nat} (c0F:F c0b) (c0h:w0.heap[c0b]?=some (.cells ((ae c0)).toArray 23 (0,0))) (c1:Int) {c1b:Nat} (c1F:F c1b) (c1h:w0.heap[c1b]?=some (.cells ([(.int .i64 c1)]).toArray 3 (0,0))) (c2:Int) {c2b:Nat} (c2F:F c2b) (c2h:w0.heap[c2b]?=some (.cells ([(.int .i64 c2)]).toArray 3 (0,0))) :
    Calls y6 189 #[zp c0b,zp c1b,zp c2b] w0 (aG y6 aj n (D.pI j c0 c1 c2) F w0):=by
 refine kN Tryz.func189 rfl 8 rfl rfl fun fr r hB=>?_;have lc0b:=q7 c0h
 have lc1b:=q7 c1h;have lc2b:=q7 c2h;refine wsr ?_;refine ah (.cells (kq aj) 119 (0,0)) r (fun R=>ag bK) rfl fun fr b1 w2 n3 r=>?_;obtain ⟨E1,Z2,H1,hB,zB⟩:=n3.all hB
 refine wn (wsr (kG (ae c0) 6 r rfl (keep hB c0h) ta23 rfl rfl fun r=>kL (I c1) r rfl (keep hB c1h) to3 rfl rfl fun r=>kL (I c2) r rfl (keep hB c2h) to3 rfl rfl fun r=>?_));have hF1:=aQ hF hB b1
 refine kD r (Bq (j:=j) (F:=(kW F w0 w2 b1)) (n:=n) hF1 kw c0 c1 c2) rfl GJ rfl fun w4 v5 hb hr6 r=>?_;have Z4:=hb.size
 have H1:=keep hb H1;obtain ⟨hB,zB⟩:=bon hb hB;refine kP r hr6.shape rfl rfl H1 bu rfl rfl fun w7 u8 r=>?_;have Z7:=u8.size
 have H1:=u8.at_;obtain ⟨hB,zB⟩:=u8.on hB kw
 exact wn (d9 (kR r hr6 rfl rfl H1 rfl br hF hB u8 kw kw kw))
def D.pU (j:Nat) (c0:Plan) (c1:Int) (c2:Int) (a0:Int):T Int:=(D.dX (D.cY c0 c1) (D.cn (D.gp ((D.aV a0).1))) (fun _=>(D.pI j c0 c2 c1)))
theorem Al (hF:kH F w0) (hj:n<j)
    (c0:Plan) {c0b:Nat} (c0F:F c0b) (c0h:w0.heap[c0b]?=some (.cells ((ae c0)).toArray 23 (0,0))) (c1:Int) {c1b:Nat} (c1F:F c1b) (c1h:w0.heap[c1b]?=some (.cells ([(.int .i64 c1)]).toArray 3 (0,0))) (c2:Int) {c2b:Nat} (c2F:F c2b) (c2h:w0.heap[c2b]?=some (.cells ([(.int .i64 c2)]).toArray 3 (0,0))) (a0:Int) :
    Calls y6 187 #[.int .u64 a0,zp c0b,zp c1b,zp c2b] w0 (aG y6 aj n (D.pU j c0 c1 c2 a0) F w0):=by
 refine kN Tryz.func187 rfl 21 rfl rfl fun fr r hB=>?_;have lc0b:=q7 c0h
 have lc1b:=q7 c1h;have lc2b:=q7 c2h;refine wsr ?_;refine ah (.cells (kq aj) 119 (0,0)) r (fun R=>ag bK) rfl fun fr b1 w2 n3 r=>?_;obtain ⟨E1,Z2,H1,hB,zB⟩:=n3.all hB
 refine wn (wsr (kM (U a0) r rfl rfl fun r=>?_));refine kE r (lu w2 a0) rfl rC rfl fun w4 hb r=>?_
 have Z4:=hb.size;have H1:=keep hb H1;obtain ⟨hB,zB⟩:=bon hb hB;refine kM (.tuple #[(u7 (aR (D.aV a0).1)),(.bool (D.aV a0).2)]) r rfl rfl fun r=>aa (u7 (aR (D.aV a0).1)) r (fun R=>bX r (vs:=#[(u7 (aR (D.aV a0).1)),(.bool (D.aV a0).2)]) rfl rfl) rfl fun fr r=>aa (.bool (D.aV a0).2) r (fun R=>bX r (vs:=#[(u7 (aR (D.aV a0).1)),(.bool (D.aV a0).2)]) rfl rfl) rfl fun fr r=>?_;refine ah (.cells ((aR (⟨0,0,0⟩:State))).toArray 190 (0,0)) r (fun R=>ag gb) rfl fun fr b5 w6 n7 r=>?_
 have H1:=keep n7.below H1;obtain ⟨E5,Z6,H5,hB,zB⟩:=n7.all hB;refine aJ (.cells ((aR ((D.aV a0).1))).toArray 190 (0,0)) r (fun R=>bb r (o:=0) (v:=(u7 (aR (D.aV a0).1))) rfl rfl H5 eP r9 rfl rfl) rfl fun fr w8 u9 r=>?_;have Z8:=u9.size
 have H1:=u9.keep H1 kw
 have H5:=u9.at_;obtain ⟨hB,zB⟩:=u9.on hB kw
 refine kA (.bool (D.aV a0).2) r rfl rfl fun r=>wn (a9 ?_);refine bN 7 [.val (u7 (ae c0)),.val (I c1),.val (I (D.cY c0 c1)),.val (u7 (aR (D.aV a0).1)),.val (.agg (aR (D.gp ((D.aV a0).1))).toArray),.val (U (D.cn (D.gp ((D.aV a0).1)))),.val (.func (.func 189) #[] #[zp c0b,zp c2b,zp c1b])] mixed r kz (kV (kV (kV (kV (kV (kV (kV bM))))))) ?_ ?_
 ·
  refine ec r (fun _ u _ b d s=>aX s (cs:=(ae c0)) (n:=6) rfl (cq hB b c0h) ta23 rfl bz) (ec r (fun _ u _ b d s=>av s rfl (cq hB b c1h) to3 rfl bz) (ec r (fun fr1 u w' hb' hd r'=>aP r' (args:=[(u7 (ae c0)),(I c1)]) (lc hd.1 (lc hd.2.1 l0)) jV ((j8 _ c0 c1).mono yab)) (ec r (fun _ u _ b d s=>aX s (cs:=(aR ((D.aV a0).1))) (n:=3) rfl (keep b H5) dV rfl bz) (ec r (fun fr1 u w' hb' hd r'=>aP r' (args:=[(u7 (aR (D.aV a0).1))]) (lc hd.1 l0) EA ((zk _ ((D.aV a0).1)).mono yab)) (ec r (fun fr1 u w' hb' hd r'=>aP r' (args:=[(.agg (aR (D.gp ((D.aV a0).1))).toArray)]) (lc hd.1 l0) rW ((ko _ (D.gp ((D.aV a0).1))).mono yab)) (ec r (fun _ u _ b d s=>aZ s (v:=(.func (.func 189) #[] #[zp c0b,zp c2b,zp c1b])) rfl bz) ?_))))));exact bO
 intro fr u w10 hb hΦ hne r;have r:=r.congr (sc (hΦ 6 ke) (sc (hΦ 5 ke) (sc (hΦ 4 ke) (sc (hΦ 3 ke) (sc (hΦ 2 ke) (sc (hΦ 1 ke) (sc (hΦ 0 ke) rfl)))))));have Z10:=hb.size;have H1:=keep hb H1;have H5:=keep hb H5;obtain ⟨hB,zB⟩:=bon hb hB;have hF1:=aQ hF hB b1;have f11:((kW F w0 w10 b1)) c0b:=(.inl c0F);have f12:((kW F w0 w10 b1)) c2b:=(.inl c2F);have f13:((kW F w0 w10 b1)) c1b:=(.inl c1F);refine kD r (gx (F:=(kW F w0 w10 b1)) (n:=n) hF1 (D.cY c0 c1) (D.cn (D.gp ((D.aV a0).1))) ⟨189,[],[zp c0b,zp c2b,zp c1b],FD,rfl,fun m hm _ w' hs hz=>zS (j:=j) (fun b hb=>q8 (hF1 b hb) hz) kw c0 f11 (hs.at_ f11 (keep hB c0h)) c2 f12 (hs.at_ f12 (keep hB c2h)) c1 f13 (hs.at_ f13 (keep hB c1h))⟩) rfl ia rfl fun w14 v15 hb hr16 r=>?_;have Z14:=hb.size
 have H1:=keep hb H1;have H5:=keep hb H5;obtain ⟨hB,zB⟩:=bon hb hB;refine kP r hr16.shape rfl rfl H1 bu rfl rfl fun w17 u18 r=>?_;have Z17:=u18.size
 have H5:=u18.keep H5 kw
 have H1:=u18.at_;obtain ⟨hB,zB⟩:=u18.on hB kw
 exact wn (d9 (kR r hr16 rfl rfl H1 rfl br hF hB u18 kw kw kw))
def D.gG (j:Nat) (a0:Plan) (a1:Int) (a2:Int):T Int:=(D.dG (D.cY a0 a2) (fun x=>(D.pU j a0 a2 a1 x)))
theorem tE (hF:kH F w0) (hj:n<j)
    (a0:Plan) (a1:Int) (a2:Int) :
    Calls y6 104 #[u7 (ae a0),.int .i64 a1,.int .i64 a2] w0 (aG y6 aj n (D.gG j a0 a1 a2) F w0):=by
 refine kN Tryz.func104 rfl 12 rfl rfl fun fr r hB=>?_;refine wsr ?_
 refine kX 23 (u7 (ae a0)) r rfl rfl fun b1 w2 n3 r=>?_;obtain ⟨E1,Z2,H1,hB,zB⟩:=n3.all hB
 refine kX 3 (I a1) r rfl rfl fun b4 w5 n6 r=>?_;have H1:=keep n6.below H1
 obtain ⟨E4,Z5,H4,hB,zB⟩:=n6.all hB;refine kX 3 (I a2) r rfl rfl fun b7 w8 n9 r=>?_;have H1:=keep n9.below H1
 have H4:=keep n9.below H4;obtain ⟨E7,Z8,H7,hB,zB⟩:=n9.all hB;refine ah (.cells (kq aj) 119 (0,0)) r (fun R=>ag bK) rfl fun fr b10 w11 n12 r=>?_;have H1:=keep n12.below H1
 have H4:=keep n12.below H4;have H7:=keep n12.below H7;obtain ⟨E10,Z11,H10,hB,zB⟩:=n12.all hB;refine wn (wsr (kG (ae a0) 6 r rfl H1 ta23 rfl rfl fun r=>kL (I a2) r rfl H7 to3 rfl rfl fun r=>?_));refine kE r (j8 w11 a0 a2) rfl jV rfl fun w13 hb r=>?_
 have Z13:=hb.size;have H1:=keep hb H1;have H4:=keep hb H4;have H7:=keep hb H7;have H10:=keep hb H10;obtain ⟨hB,zB⟩:=bon hb hB;refine aa (.func (.func 187) #[] #[zp b1,zp b7,zp b4]) r (fun R=>aZ r rfl) rfl fun fr r=>?_;have hF1:=aQ hF hB b10
 have f14:((kW F w0 w13 b10)) b1:=(.inr ⟨kw,kw,kw⟩)
 have f15:((kW F w0 w13 b10)) b7:=(.inr ⟨kw,kw,kw⟩)
 have f16:((kW F w0 w13 b10)) b4:=(.inr ⟨kw,kw,kw⟩)
 refine kD r (fI (F:=(kW F w0 w13 b10)) (n:=n) hF1 (D.cY a0 a2) ⟨187,[],[zp b1,zp b7,zp b4],Fh,rfl,fun m hm x w' hs hz=>Al (j:=j) (fun b hb=>q8 (hF1 b hb) hz) kw a0 f14 (hs.at_ f14 H1) a2 f15 (hs.at_ f15 H7) a1 f16 (hs.at_ f16 H4) x⟩) rfl fZ rfl fun w17 v18 hb hr19 r=>?_;have Z17:=hb.size
 have H1:=keep hb H1;have H4:=keep hb H4;have H7:=keep hb H7;have H10:=keep hb H10;obtain ⟨hB,zB⟩:=bon hb hB;refine kP r hr19.shape rfl rfl H10 bu rfl rfl fun w20 u21 r=>?_;have Z20:=u21.size
 have H1:=u21.keep H1 kw
 have H4:=u21.keep H4 kw
 have H7:=u21.keep H7 kw
 have H10:=u21.at_;obtain ⟨hB,zB⟩:=u21.on hB kw
 exact wn (d9 (kR r hr19 rfl rfl H10 rfl br hF hB u21 kw kw kw))
end
theorem Gg:af y6 102:=kz
theorem cl14:af y6 14:=kz
theorem cl57:af y6 57:=kz
theorem qN:ba y6 113 0 0:=kz
theorem vW:ba y6 113 2 2:=kz
theorem to33:tyO y6 33:=kz
theorem ts23:sized y6 23 6:=kz
theorem tz23:zeroOf y6 23=some (u7 (ae (⟨0,0,0,0,0,0⟩:Plan))):=kz
end Go.Proofs.YtbbipmelhmgmfaaGreat

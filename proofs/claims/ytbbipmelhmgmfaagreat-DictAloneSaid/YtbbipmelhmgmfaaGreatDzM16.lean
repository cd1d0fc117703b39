/- Some of our texts, one behind the other. -/
import Derived.Test.YtbbipmelhmgmfaaGreatDzM15
import Derived.Test.YtbbipmelhmgmfaaGreatDzBase
import Derived.Test.YtbbipmelhmgmfaaGreatDzRetires
set_option linter.all false
set_option maxRecDepth 100000
set_option maxHeartbeats 20000000
/- Ours. -/
namespace Go.Proofs.YtbbipmelhmgmfaaGreat
open Go.RowKit
def rb (p:Plan) (t:Int):Int:=D.cF p+t * (1+p.retire)
structure RetAt (p:Plan) (ws:List Int) (t:Int) (r:List Int):Prop where
 count:rd ws (rb p t)=r.length
 room:(r.length:Int)<=p.retire
 slot:∀ (i:Nat) (h:i<r.length),rd ws (rb p t+1+i)=r[i]+1
 range:∀ n,n∈r->0<=n/\n<p.nodes
section
variable {p : Plan} (hp : PF p) {t : Int} (ht : 0 <= t /\ t < p.threads)
include hp ht
theorem dq:D.aL p+p.threads * 3<=rb p t/\rb p t+1+p.retire<=D.aO p/\0<rb p t:=by
 have h1:=lL hp;have h2:=lR hp;have h3:=ow hp;have h5:=fJ hp;have ht1:=hp.t1;have hr1:=hp.r1;unfold rb;have h6:t * (1+p.retire)+(1+p.retire)<=p.threads * (1+p.retire):=by
  have:(t+1) * (1+p.retire)<=p.threads * (1+p.retire):=Int.mul_le_mul_of_nonneg_right O O
  rw [Int.add_mul] at this
  omega
 have h7:0<=t * (1+p.retire):=Int.mul_nonneg O O
 exact ⟨O,O,O⟩
theorem lW:D.dZ p t=rb p t:=by rw [Dv hp,if_pos ht]; rfl
theorem o4 {i:Int} (hi:0<=i/\i<p.retire):D.dI p t i=rb p t+1+i:=by rw [CL hp,if_pos ⟨ht,hi⟩]; rfl
end
theorem RetAt.keep {p:Plan} {ws I7:List Int} {t:Int} {r:List Int} (h:RetAt p ws t r) (hk:∀ j,rb p t<=j->j<rb p t+1+p.retire->rd I7 j=rd ws j):RetAt p I7 t r:=by
 have h0:=h.room;exact ⟨by rw [hk _ O O]; exact h.count,h.room,fun i hi=>by rw [hk _ O O]; exact h.slot i hi,h.range⟩
theorem Dl {p:Plan} (hp:PF p) {ws:List Int} {t n:Int} {r:List Int} (ht:0<=t/\t<p.threads) (hl:(ws.length:Int)=D.bF p) (h:RetAt p ws t r) (hf:(r.length:Int)=p.retire) :
  I6 (D.gW p t n) ws 1 (-1) ws:=by
 obtain ⟨q1,q2,q3⟩:=dq hp ht;have hS:=dW hp;have hn1:=hp.n1;have Jz:=hp.r2;have hr1:=hp.r1;have ht1:=hp.t1;unfold D.gW;rw [lW hp ht];refine jK O O ?_;unfold D.jB;rw [h.count,cX (x:=p.retire) O O,show decide ((r.length:Int)>=p.retire)=true from by simp; omega]
 exact .done _ _
theorem vP {p:Plan} (hp:PF p) {ws:List Int} {t n:Int} {r:List Int} (ht:0<=t/\t<p.threads) (hn:0<=n/\n<p.nodes) (hnn:p.nodes<=1000000) (hl:(ws.length:Int)=D.bF p) (h:RetAt p ws t r) (hf:(r.length:Int)<p.retire) :
  ∃ I7,I6 (D.gW p t n) ws 3 ((r.length:Int)+1) I7/\I7.length=ws.length/\RetAt p I7 t (r++[n])/\∀ j,0<=j->j≠rb p t->j≠rb p t+1+r.length->rd I7 j=rd ws j:=by
 obtain ⟨q1,q2,q3⟩:=dq hp ht;have hS:=dW hp;have hN:=cQ hp;have hn1:=hp.n1;have Jz:=hp.r2;obtain ⟨u,hu⟩:∃ u,u=ws.set (rb p t+1+r.length).toNat (n+1):=⟨_,rfl⟩;have hul:u.length=ws.length:=by rw [hu,List.length_set]
 have hur:∀ j,0<=j->rd u j=if j=rb p t+1+r.length then n+1 else rd ws j:=fun j hj=>by rw [hu]; exact bX O O hj
 obtain ⟨v,hv⟩:∃ v,v=u.set (rb p t).toNat ((r.length:Int)+1):=⟨_,rfl⟩;have hvl:v.length=ws.length:=by rw [hv,List.length_set,hul]
 have hvr:∀ j,0<=j->rd v j=if j=rb p t then (r.length:Int)+1 else rd u j:=fun j hj=>by rw [hv]; exact bX O O hj
 refine ⟨v,?_,hvl,⟨?_,by simp; omega,fun i hi=>?_,fun m hm=>?_⟩,fun j hj h1 h2=>?_⟩
 ·unfold D.gW
  rw [lW hp ht]
  refine jK O O ?_;unfold D.jB;rw [h.count,cX (x:=p.retire) O O,show decide ((r.length:Int)>=p.retire)=false from by simp; omega,bW (show -1000000<=(r.length:Int) by omega) O,o4 hp ht O,bW (show -1000000<=n+1 by omega) O,cX (x:=n+1) O O]
  refine gU O O ?_;rw [<-hu];unfold D.nG;rw [lW hp ht,cX O O];refine gU O O ?_;rw [<-hv];unfold D.qd;rw [bW (show -1000000<=(r.length:Int) by omega) O,bW O O]
  exact .done _ _
 ·rw [hvr _ O,if_pos rfl]; simp
 ·rw [hvr _ O,if_neg O,hur _ O]
  by_cases e:i=r.length
  ·subst e
   rw [if_pos rfl]
   simp
  ·have hi':i<r.length:=by simp at hi; omega
   rw [if_neg O,h.slot i hi',List.getElem_append_left hi']
 ·rcases List.mem_append.1 hm with hm | hm
  ·exact h.range m hm
  ·rcases List.mem_singleton.1 hm with rfl; exact hn
 ·rw [hvr j hj,if_neg h1,hur j hj,if_neg h2]
/-! ### A scan -/
def co (held:Int->Bool):Nat->List Int->List Int × List Int
 | 0,r=>(r,[])
 | k+1,r=>match r[k]? with
  | none=>co held k r
  | some n=>if held n then co held k r else
   let q:=co held k ((r.set k ((r.getLast?).getD 0)).dropLast)
   (q.1,n::q.2)
theorem wX {r:List Int} {k:Nat} (hk:k<r.length):List.Perm (r[k]::(r.set k ((r.getLast?).getD 0)).dropLast) r/\(r.set k ((r.getLast?).getD 0)).dropLast.length+1=r.length:=by
 rcases List.eq_nil_or_concat r with rfl | ⟨s,z,rfl⟩
 ·cases hk
 ·simp only [List.concat_eq_append] at hk ⊢
  rw [List.getLast?_append,List.getLast?_singleton]
  simp only [Option.some_or,Option.getD_some]
  rw [List.length_append,List.length_singleton] at hk
  by_cases e:k=s.length
  ·subst e
   rw [List.set_append_right _ _ (Nat.le_refl _)]
   simp only [Nat.sub_self,List.set_cons_zero,List.dropLast_concat]
   simp only [List.getElem_append_right (Nat.le_refl _),Nat.sub_self,List.getElem_cons_zero,List.length_append,List.length_singleton]
   exact ⟨(List.perm_append_singleton z s).symm,by simp⟩
  ·have hk':k<s.length:=by omega
   rw [List.set_append_left _ _ hk']
   simp only [List.dropLast_concat,List.getElem_append_left hk',List.length_set,List.length_append,List.length_singleton]
   refine ⟨?_,by simp⟩
   rw [List.set_eq_take_append_cons_drop,if_pos hk']
   have h1:List.Perm (s[k]::(s.take k++z::s.drop (k+1))) (z::(s.take k++s[k]::s.drop (k+1))):=by
    refine (List.Perm.cons _ List.perm_middle).trans ?_;refine (List.Perm.swap _ _ _).trans ?_;exact List.Perm.cons _ List.perm_middle.symm
   have h2:s.take k++s[k]::s.drop (k+1)=s:=by rw [<-List.drop_eq_getElem_cons hk',List.take_append_drop]
   rw [h2] at h1
   exact h1.trans (List.perm_append_singleton z s).symm
theorem FQ {r:List Int} {k i:Nat} (hk:k<r.length) (hi:i<(r.set k ((r.getLast?).getD 0)).dropLast.length):(r.set k ((r.getLast?).getD 0)).dropLast[i]=if i=k then r[r.length - 1]'O else r[i]'(by simp at hi; omega):=by
 have hlast:(r.getLast?).getD 0=r[r.length - 1]'O:=by
  rw [List.getLast?_eq_getElem?,List.getElem?_eq_getElem O]
  rfl
 rw [List.getElem_dropLast,List.getElem_set]
 by_cases e:k=i
 ·rw [if_pos e,if_pos e.symm]; exact hlast
 ·rw [if_neg e,if_neg (Ne.symm e)]
def tof (p:Plan) (ws:List Int) (n:Int):State:=D.bR (D.aV (rd ws (D.aO p+n * 5))).1 p.IP
def pushAll (p:Plan) (ws:List Int) (out l:List Int):List Int:=out.foldl (fun l n=>if (tof p ws n).mode=3 then l else n::l) l
theorem uI {p:Plan} {ws l:List Int}:pushAll p ws [] l=l:=rfl
theorem uA {p:Plan} {ws out l:List Int} {n:Int}:pushAll p ws (n::out) l=pushAll p ws out (if (tof p ws n).mode=3 then l else n::l):=rfl
theorem qI {p:Plan} {ws:List Int}:∀ {out l:List Int} {n:Int},n∈pushAll p ws out l->n∈out\/n∈l
 | [],_,_,h=>.inr h
 | m::out,l,n,h=>by
  have h:n∈pushAll p ws out (if (tof p ws m).mode=3 then l else m::l):=h
  rcases qI h with h | h
  ·exact .inl (List.mem_cons_of_mem _ h)
  ·split at h
   ·exact .inr h
   ·rcases List.mem_cons.1 h with rfl | h
    ·exact .inl (List.mem_cons_self ..)
    ·exact .inr h
theorem uw {p:Plan} {ws I7:List Int}:∀ {out l:List Int},(∀ n,n∈out->rd I7 (D.aO p+n * 5)=rd ws (D.aO p+n * 5))->pushAll p I7 out l=pushAll p ws out l
 | [],_,_=>by rw [uI,uI]
 | m::out,l,h=>by
  rw [uA,uA]
  have e:tof p I7 m=tof p ws m:=by unfold tof; rw [h m (List.mem_cons_self ..)]
  rw [e]
  exact uw fun n hn=>h n (List.mem_cons_of_mem _ hn)
theorem qP {held:Int->Bool}:∀ (k:Nat) (r:List Int),k<=r.length->List.Perm ((co held k r).2++(co held k r).1) r
 | 0,r,_=>List.Perm.refl _
 | k+1,r,hk=>by
  have hk':k<r.length:=hk;simp only [co,List.getElem?_eq_getElem hk'];cases held r[k]
  ·simp only [Bool.false_eq_true,if_false,List.cons_append]
   obtain ⟨h1,h2⟩:=wX hk';exact (List.Perm.cons _ (qP k _ O)).trans h1
  ·simp only [if_true]
   exact qP k r O
structure Scanned (p:Plan) (t:Int) (ws I7:List Int) (r' out l:List Int) (g:Int):Prop where
 len:I7.length=ws.length
 ret:RetAt p I7 t r'
 free:∃ g',g'<=g+out.length/\FreeAt p I7 (pushAll p ws out l) g'
 states:∀ n,n∈out->rd I7 (D.aO p+n * 5)=D.cq (tof p ws n)
 fields:∀ n f,n∈out->0<=f->f<3->rd I7 (D.aO p+n * 5+2+f)=0
 others:∀ j,0<j->(∀ n,n∈out->¬ bL p n j)->¬ (rb p t<=j/\j<rb p t+1+p.retire)->rd I7 j=rd ws j
def heldW (p:Plan) (ws:List Int) (n:Int):Prop:=∃ j,0<=j/\j<p.threads * 3/\rd ws (D.aL p+j)=n+1
theorem Ce {p:Plan} (hp:PF p) (hnn:p.nodes<=1000) {t:Int} (ht:0<=t/\t<p.threads) {held:Int->Bool} (J:Nat) (hJ:100<J):∀ (k:Nat) (r ws l:List Int) (g done:Int) (K:Nat),k<=r.length->(ws.length:Int)=D.bF p->RetAt p ws t r->FreeAt p ws l g->
  (∀ n,n∈r->n ∉ l)->r.Nodup->(∀ n,n∈r->(held n=true↔heldW p ws n))->g+k<1000000->0<=done->done+k<=100000->k<K->
  ∃ (m:Nat) (I7:List Int),m<=70 * k/\I6 (D.ek J K p t ⟨(k:Int) - 1,(r.length:Int),done⟩) ws m (done+((co held k r).2.length:Int)) I7/\Scanned p t ws I7 (co held k r).1 (co held k r).2 l g:=by
 obtain ⟨q1,q2,q3⟩:=dq hp ht;have hS:=dW hp;have hN:=cQ hp;have hn1:=hp.n1;have Jz:=hp.r2;have ht2:=hp.t2;have hz:=cE hp;intro k
 induction k with
 | zero=>
  intro r ws l g done K hk hl hR hF hrl hnd hh hg hd hd2 hK;obtain ⟨K,rfl⟩:∃ q,K=q+1:=⟨K - 1,O⟩
  refine ⟨0,ws,O,?_,⟨rfl,hR,⟨g,by simp [co],hF⟩,fun n hn=>by simp [co] at hn,fun n f hn=>by simp [co] at hn,fun _ _ _ _=>rfl⟩⟩
  show I6 (D.gA J (D.ek J K) p t _) _ _ _ _
  unfold D.gA;rw [show decide ((⟨((0:Nat):Int) - 1,(r.length:Int),done⟩:J4).at_<0)=true from by simp]
  have:done+((co held 0 r).2.length:Int)=done:=by simp [co]
  rw [this]
  exact .done _ _
 | succ k ih=>
  intro r ws l g done K hk hl hR hF hrl hnd hh hg hd hd2 hK;obtain ⟨K,rfl⟩:∃ q,K=q+1:=⟨K - 1,O⟩
  have hk':k<r.length:=hk;have hroom:=hR.room;have hm:r[k]∈r:=List.getElem_mem hk';have hrk:=hR.range _ hm;obtain ⟨n,hnk⟩:∃ n,n=r[k]:=⟨_,rfl⟩;rw [<-hnk] at hm hrk
  have hbody:∀ {m:Nat} {res:Int} {I7:List Int},I6 (T.bind (D.nV J p n) (fun x=>D.fK J (D.ek J K) p t ⟨(k:Int) - 1,(r.length:Int),done⟩ ⟨(k:Int),(r.length:Int),done⟩ (n+1) x)) ws m res I7->
    I6 (D.ek J (K+1) p t ⟨((k+1:Nat):Int) - 1,(r.length:Int),done⟩) ws (m+1) res I7:=by
   intro m res I7 hr;rw [show ((k+1:Nat):Int) - 1=(k:Int) from by omega]
   show I6 (D.gA J (D.ek J K) p t _) _ _ _ _
   unfold D.gA;simp only;rw [show decide ((k:Int)<0)=false from by rw [decide_eq_false_iff_not]; omega,o4 hp ht O,bW (show -1000000<=(k:Int) - 1 by omega) O]
   refine jK O O ?_;rw [hR.slot k hk',<-hnk];unfold D.iG;rw [show decide (n+1<1)=false from by simp; omega,cX (x:=p.nodes) O O,show decide (n+1 > p.nodes)=false from by simp; omega,bW (show -1000000<=n+1 by omega) O,show n+1 - 1=n from O,bW (show -1000000<=n by omega) O]
   exact hr
  have hsc:co held (k+1) r=if held n then co held k r else ((co held k ((r.set k ((r.getLast?).getD 0)).dropLast)).1,n::(co held k ((r.set k ((r.getLast?).getD 0)).dropLast)).2):=by
   simp only [co,List.getElem?_eq_getElem hk',hnk]
  by_cases hc:held n=true
  ·rw [hsc,if_pos hc]
   obtain ⟨j,j0,j1,hj⟩:=(hh n hm).1 hc;obtain ⟨m1,hm1,hr1⟩:=DE hp hl (n:=n) O (p.threads * 3).toNat 0 J O O O ⟨j,O,j1,hj⟩
   obtain ⟨m,I7,hm2,hr2',hsd⟩:=ih r ws l g done K O hl hR hF hrl hnd hh O hd O O;refine ⟨m1+m+1,I7,O,hbody ?_,hsd⟩
   exact I6.bind (g:=fun x=>D.fK J (D.ek J K) p t ⟨(k:Int) - 1,(r.length:Int),done⟩ ⟨(k:Int),(r.length:Int),done⟩ (n+1) x) hr1 hr2'
  ·rw [hsc,if_neg hc]
   have hno:∀ j,0<=j->j<p.threads * 3->rd ws (D.aL p+j)≠n+1:=fun j j0 j1 hj=>hc ((hh n hm).2 ⟨j,j0,j1,hj⟩)
   have hr1:=Ef hp hl (n:=n) O (p.threads * 3).toNat 0 J O O O hno
   obtain ⟨hpm,hpl⟩:=wX hk';rw [<-hnk] at hpm
   obtain ⟨r2,hr2e⟩:∃ r2,r2=(r.set k ((r.getLast?).getD 0)).dropLast:=⟨_,rfl⟩;have hat:∀ (i:Nat) (hi:i<r2.length),r2[i]=if i=k then r[r.length - 1]'O else r[i]'(by rw [hr2e] at hi; simp at hi; omega):=by
    intro i hi;subst hr2e;exact FQ hk' hi
   rw [<-hr2e] at hpm hpl ⊢
   have hnd2:(n::r2).Nodup:=hpm.nodup_iff.2 hnd;have hsub:∀ q,q∈r2->q∈r/\q≠n:=fun q hq=>⟨hpm.subset (List.mem_cons_of_mem _ hq),fun e=>(List.nodup_cons.1 hnd2).1 (e ▸ hq)⟩
   obtain ⟨v,hv⟩:∃ v,v=if k=r.length - 1 then ws else ws.set (rb p t+1+k).toNat (r[r.length - 1]'O+1):=⟨_,rfl⟩
   have hvl:v.length=ws.length:=by rw [hv]; split <;> simp
   have hvr:∀ j,0<=j->rd v j=if j=rb p t+1+k then r[r.length - 1]'O+1 else rd ws j:=by
    intro j hj;rw [hv]
    by_cases e:k=r.length - 1
    ·rw [if_pos e]
     split
     ·rename_i h
      rw [h,hR.slot k hk']
      congr 2
     ·rfl
    ·rw [if_neg e]
     exact bX O O hj
   obtain ⟨u,hu⟩:∃ u,u=v.set (rb p t).toNat ((r.length:Int) - 1):=⟨_,rfl⟩;have hul:u.length=ws.length:=by rw [hu,List.length_set,hvl]
   have hur:∀ j,0<=j->rd u j=if j=rb p t then (r.length:Int) - 1 else rd v j:=fun j hj=>by rw [hu]; exact bX O O hj
   have huo:∀ j,0<=j->¬ (rb p t<=j/\j<rb p t+1+p.retire)->rd u j=rd ws j:=by
    intro j hj hno;rw [hur j hj,if_neg O,hvr j hj,if_neg O]
   have hR2:RetAt p u t r2:=by
    refine ⟨?_,O,fun i hi=>?_,fun q hq=>hR.range q (hsub q hq).1⟩
    ·rw [hur _ O,if_pos rfl]; omega
    ·rw [hur _ O,if_neg O,hvr _ O,hat i hi]
     by_cases e:i=k
     ·rw [if_pos O,if_pos e]
     ·rw [if_neg O,if_neg e]
      exact hR.slot i O
   have JZ:FreeAt p u l g:=hF.keep hul (huo 0 O O) fun q hq=>by
    have:=hF.range q hq;exact huo _ yaF yaF
   have hst:rd u (D.aO p+n * 5)=rd ws (D.aO p+n * 5):=huo _ O O
   obtain ⟨w,hw1,hw⟩:=uy hp hrk O O JZ (hrl n hm) (t:=tof p ws n) (by unfold tof; rw [hst]) (J - 4);rw [show J - 4+4=J from by omega] at hw1
   obtain ⟨g2,hg2,hFw⟩:∃ g2,g2<=g+1/\FreeAt p w (if (tof p ws n).mode=3 then l else n::l) g2:=by
    by_cases hm3:(tof p ws n).mode=3
    ·exact ⟨g,O,by rw [if_pos hm3]; exact hw.gone hm3⟩
    ·exact ⟨g+1,O,by rw [if_neg hm3]; exact hw.free hm3⟩
   have hwl:=hw.len;have hwo:=hw.others;have hwu:∀ j,0<j->j<D.aO p->¬ (rb p t<=j/\j<rb p t+1+p.retire)->rd w j=rd ws j:=fun j h0 h1 h2=>by
    rw [hwo j h0 yaI,huo j O h2]
   have hRw:RetAt p w t r2:=hR2.keep fun j h0 h1=>hwo j O yaI
   have hother:∀ q,q∈r2->∀ f:Int,0<=f->f<5->rd w (D.aO p+q * 5+f)=rd ws (D.aO p+q * 5+f):=by
    intro q hq f f0 f1;have hqr:=hR.range q (hsub q hq).1;have hqn:=(hsub q hq).2;rw [hwo _ O yaI,huo _ O O]
   have hA:∀ q,q∈r2->q ∉ (if (tof p ws n).mode=3 then l else n::l):=by
    intro q hq hql
    split at hql
    ·exact hrl q (hsub q hq).1 hql
    ·rcases List.mem_cons.1 hql with rfl | hql
     ·exact (hsub _ hq).2 rfl
     ·exact hrl q (hsub q hq).1 hql
   have hB:∀ q,q∈r2->(held q=true↔heldW p w q):=by
    intro q hq;rw [hh q (hsub q hq).1];unfold heldW
    constructor
    ·rintro ⟨j,j0,j1,hj⟩
     exact ⟨j,j0,j1,by rw [hwu _ O O O]; exact hj⟩
    ·rintro ⟨j,j0,j1,hj⟩
     exact ⟨j,j0,j1,by rw [hwu _ O O O] at hj; exact hj⟩
   obtain ⟨m,I7,hm2,hr2',hsd⟩:=ih r2 w (if (tof p ws n).mode=3 then l else n::l) g2 (done+1) K O O hRw hFw hA (List.nodup_cons.1 hnd2).2 hB O O O O
   have hout:∀ q,q∈(co held k r2).2->q∈r2:=fun q hq=>(qP (held:=held) k r2 O).subset (List.mem_append_left _ hq)
   have hlen2:(r2.length:Int)=(r.length:Int) - 1:=O
   have hfin:I6 (D.fN J (D.ek J K) p t ((r.length:Int) - 1) n ⟨(k:Int),(r.length:Int),done⟩) v ((if (tof p ws n).mode=3 then 5 else 8)+m+1) (done+1+((co held k r2).2.length:Int)) I7:=by
    unfold D.fN;rw [lW hp ht,cX (x:=(r.length:Int) - 1) O O];refine gU O O ?_;rw [<-hu];unfold D.pO;refine I6.bind (g:=fun x=>D.mL J (D.ek J K) p t ⟨(k:Int),(r.length:Int),done⟩ ((r.length:Int) - 1) x) hw1 ?_
    unfold D.mL;simp only;rw [bW (show -1000000<=(k:Int) - 1 by omega) O,bW (show -1000000<=done+1 by omega) O,<-hlen2]
    exact hr2'
   have hrem:∃ m3:Nat,m3<=m+11/\I6 (D.iI J (D.ek J K) p t ⟨(k:Int),(r.length:Int),done⟩ n) ws m3 (done+1+((co held k r2).2.length:Int)) I7:=by
    unfold D.iI;simp only;rw [bW (show -1000000<=(r.length:Int) - 1 by omega) O]
    by_cases e:k=r.length - 1
    ·rw [show ((k:Int)==(r.length:Int) - 1)=true from by simp; omega]
     rw [if_pos e] at hv
     rw [hv] at hfin
     exact ⟨_,by split <;> omega,hfin⟩
    ·rw [show ((k:Int)==(r.length:Int) - 1)=false from by simp; omega]
     rw [if_neg e] at hv
     refine ⟨(if (tof p ws n).mode=3 then 5 else 8)+m+1+1+1,by split <;> omega,?_⟩
     simp only [cond_false]
     rw [o4 hp ht O]
     refine jK O O ?_;unfold D.nn;have hlast:=hR.slot (r.length - 1) O;rw [show rb p t+1+((r.length:Int) - 1)=rb p t+1+((r.length - 1:Nat):Int) from O,hlast]
     simp only
     rw [o4 hp ht O]
     refine gU O O ?_;rw [<-hv];exact hfin
   obtain ⟨m3,hm3,hrem⟩:=hrem;refine ⟨(p.threads * 3).toNat+m3+1,I7,O,hbody ?_,?_⟩
   ·refine I6.bind (g:=fun x=>D.fK J (D.ek J K) p t ⟨(k:Int) - 1,(r.length:Int),done⟩ ⟨(k:Int),(r.length:Int),done⟩ (n+1) x) hr1 ?_
    unfold D.fK;simp only [cond_false];rw [bW (show -1000000<=n+1 by omega) O,show n+1 - 1=n from O,bW (show -1000000<=n by omega) O,List.length_cons]
    rw [show done+(((co held k r2).2.length+1:Nat):Int)=done+1+((co held k r2).2.length:Int) from by omega]
    exact hrem
   ·have hst2:∀ q,q∈r2->rd w (D.aO p+q * 5)=rd ws (D.aO p+q * 5):=fun q hq=>by
     have:=hother q hq 0 O O
     rwa [Int.add_zero] at this
    have hnout:n ∉ (co held k r2).2:=fun h=>(hsub n (hout n h)).2 rfl
    refine ⟨by rw [hsd.len,hwl,hul],hsd.ret,?_,fun q hq=>?_,fun q f hq f0 f1=>?_,fun j h0 h1 h2=>?_⟩
    ·obtain ⟨g3,hg3,hF3⟩:=hsd.free
     refine ⟨g3,by rw [List.length_cons]; omega,?_⟩
     show FreeAt p I7 (pushAll p ws (co held k r2).2 (if (tof p ws n).mode=3 then l else n::l)) g3
     rw [<-uw fun q hq=>hst2 q (hout q hq)]
     exact hF3
    ·rcases List.mem_cons.1 hq with rfl | hq
     ·rw [hsd.others _ O (fun q' hq'=>by
       have:=(hsub q' (hout q' hq')).2;unfold bL; omega) O]
      exact hw.state
     ·rw [hsd.states q hq]
      unfold tof;rw [hst2 q (hout q hq)]
    ·rcases List.mem_cons.1 hq with rfl | hq
     ·rw [hsd.others _ O (fun q' hq'=>by
       have:=(hsub q' (hout q' hq')).2;unfold bL; omega) O]
      exact hw.fields f f0 f1
     ·exact hsd.fields q f hq f0 f1
    ·rw [hsd.others j h0 (fun q hq=>h1 q (List.mem_cons_of_mem _ hq)) h2,hwo j h0 (h1 n (List.mem_cons_self ..)),huo j O h2]
theorem vA {p:Plan} (hp:PF p) (hnn:p.nodes<=1000) {t:Int} (ht:0<=t/\t<p.threads) {held:Int->Bool} (J:Nat) (hJ:1100<J) {r ws l:List Int} {g:Int} (hl:(ws.length:Int)=D.bF p) (hR:RetAt p ws t r) (hF:FreeAt p ws l g)
  (hrl:∀ n,n∈r->n ∉ l) (hnd:r.Nodup) (hh:∀ n,n∈r->(held n=true↔heldW p ws n)) (hg:g<900000) :
  ∃ (m:Nat) (I7:List Int),m<=70 * r.length+1/\I6 (D.fW J p t) ws m ((co held r.length r).2.length:Int) I7/\Scanned p t ws I7 (co held r.length r).1 (co held r.length r).2 l g:=by
 obtain ⟨q1,q2,q3⟩:=dq hp ht;have hS:=dW hp;have hn1:=hp.n1;have Jz:=hp.r2;have hr1:=hp.r1;have ht1:=hp.t1;have hroom:=hR.room;obtain ⟨m,I7,hm,hr,hsd⟩:=Ce hp hnn ht J O r.length r ws l g 0 J (Nat.le_refl _) hl hR hF hrl hnd hh O O O O;refine ⟨m+1,I7,O,?_,hsd⟩
 unfold D.fW;rw [lW hp ht];refine jK O O ?_;rw [hR.count];unfold D.qx;have hmin:IntKind.i64.wrap (minI (r.length:Int) (IntKind.u64.wrap p.retire))=(r.length:Int):=by
  rw [cX O O]
  have:minI (r.length:Int) p.retire=(r.length:Int):=by unfold minI; split <;> omega
  rw [this,bW O O]
 rw [hmin,bW (show -1000000<=(r.length:Int) - 1 by omega) O]
 rw [Int.zero_add] at hr
 exact hr
theorem wg:∀ (l m:List Int),l.Nodup->(∀ x,x∈l->x∈m)->l.length<=m.length
 | [],_,_,_=>Nat.zero_le _
 | x::l,m,hn,hs=>by
  have hx:x∈m:=hs x (List.mem_cons_self ..);have h1:=wg l (m.erase x) (List.nodup_cons.1 hn).2 fun y hy=>(List.mem_erase_of_ne (fun e:y=x=>(List.nodup_cons.1 hn).1 (e ▸ hy))).2 (hs y (List.mem_cons_of_mem _ hy))
  rw [List.length_erase_of_mem hx] at h1
  have:=List.length_pos_of_mem hx;simp only [List.length_cons];omega
theorem Dc {n:Int} {k:Nat} (h0:0<=n) (h1:n<k):n∈(List.range' 0 k).map fun (q:Nat)=>(q:Int):=by
 refine List.mem_map.2 ⟨n.toNat,List.mem_range'_1.2 ⟨O,O⟩,O⟩
theorem DA {l:List Int} {k:Nat} (hn:l.Nodup) (hr:∀ n,n∈l->0<=n/\n<k):l.length<=k:=by
 have:=wg l ((List.range' 0 k).map fun (q:Nat)=>(q:Int)) hn fun x hx=>Dc (hr x hx).1 (hr x hx).2
 simpa using this
theorem FreeAt.count {p:Plan} {ws l:List Int} {g:Int} (h:FreeAt p ws l g) (hn:0<=p.nodes):(l.length:Int)<=p.nodes:=by
 have:=DA (k:=p.nodes.toNat) h.nodup fun n hn=>by have:=h.range n hn; omega
 omega
def PrepP {R:Type} (P:Program) (E:Enc R) (n:Nat) (t:T R) (F:Nat->Prop) (w:World):Value->World->Prop:=fun v x=>Below w.heap.size w x/\Jm P E n t (grow F w x) x v
theorem PrepP.st {R:Type} {P:Program} {E:Enc R} {n:Nat} {t:T R} {F:Nat->Prop} {w:World} (hF:∀ b,F b->b<w.heap.size):∀ v w1 w2,PrepP P E n t F w v w1->Below w1.heap.size w1 w2->PrepP P E n t F w v w2:=by
 rintro v w1 w2 ⟨h1,h2⟩ hb;refine ⟨h1.trans (hb.mono h1.size),Jm.mono ?_ ?_ hb.size n _ _ h2⟩
 ·rintro b (h | ⟨h3,h4⟩)
  ·exact .inl h
  ·exact .inr ⟨h3,q9 h4 hb.size⟩
 ·rintro b (h | ⟨h3,h4⟩)
  ·exact hb.block b (q9 (hF b h) h1.size)
  ·exact hb.block b h4
theorem PrepP.of {R:Type} {P:Program} {E:Enc R} {n:Nat} {t:T R} {F:Nat->Prop} {w w1 w2:World} {v:Value} (h1:Below w.heap.size w w1) (hb:Below w1.heap.size w1 w2) (h:Jm P E n t (grow F w1 w2) w2 v):PrepP P E n t F w v w2:=by
 refine ⟨h1.trans (hb.mono h1.size),Jm.mono ?_ (fun b _=>rfl) (Nat.le_refl _) n _ _ h⟩
 rintro b (h | ⟨h3,h4⟩)
 ·exact .inl h
 ·exact .inr ⟨Nat.le_trans h1.size h3,h4⟩
theorem drB {w w':World} {d:Nat} (h:Below w.heap.size { w with drawn:=d } w'):Below w.heap.size w w':=⟨h.os,h.tape,h.output,h.size,h.block⟩
section
variable {n : Nat} {F : Nat -> Prop} {j : Nat} {w0 : World}
theorem GX:af B0 138:=kz
theorem Fx:af B0 141:=kz
theorem GV:af B0 178:=kz
theorem yN:af B0 179:=kz
theorem yE:af B0 180:=kz
theorem Hh:af B0 183:=kz
theorem xQ:af B0 184:=kz
theorem G3:af B0 185:=kz
theorem Hk:af B0 187:=kz
theorem GP:af B0 189:=kz
theorem FH:af B0 221:=kz
theorem xK:af B0 224:=kz
theorem Ft:af B0 225:=kz
theorem HA:af B0 226:=kz
theorem HF:af B0 269:=kz
theorem GW:af B0 270:=kz
theorem Hm:af B0 271:=kz
theorem Fh:af B0 272:=kz
theorem Fp:af B0 273:=kz
theorem Fa:sized B0 233 1:=kz
theorem Gv:sized B0 261 1:=kz
theorem Hi:zeroOf B0 233=some .nilFunc:=kz
theorem Gw:zeroOf B0 261=some .nilFunc:=kz
def D.tU (c0:Int) (c1:State):T IY:=(D.nz (⟨c0,c1.IP,0⟩:IY))
theorem AV (hF:kH F w0)
    (c0:Int) {I5:Nat} (J9:F I5) (I3:w0.heap[I5]?=some (.cells ([(.int .i64 c0)]).toArray 3 (0,0))) (c1:State) {IE:Nat} (Ka:F IE) (IA:w0.heap[IE]?=some (.cells ((aQ c1)).toArray 190 (0,0))) :
    Calls B0 273 #[zp I5,zp IE] w0 (aH B0 bA n (D.tU c0 c1) F w0):=by
 refine kN Tryz.func273 rfl 8 rfl rfl fun fr r hB=>?_;have Jq:=q8 I3
 have Jy:=q8 IA;refine I0 ?_;refine ah (.cells (kq bA) 116 (0,0)) r (fun R=>ag dX) rfl fun fr b1 w2 n3 r=>?_;obtain ⟨E1,Z2,H1,hB,zB⟩:=n3.all hB
 refine wn (I0 (kL (I c0) r rfl (keep hB I3) IL rfl rfl fun r=>kF 0 r rfl ig rfl fun r=>kL (I c1.IP) r rfl (keep hB IA) IL rfl rfl fun r=>kU (z6 (grantC (⟨c0,c1.IP,0⟩:IY))) r kz rfl fun r=>?_));have I4:=aP hF hB b1
 refine kD r (tH (F:=(kW F w0 w2 b1)) (n:=n) I4 (⟨c0,c1.IP,0⟩:IY)) rfl yN rfl fun w4 v5 hb J0 r=>?_;have Z4:=hb.size
 have H1:=keep hb H1;obtain ⟨hB,zB⟩:=IQ hb hB;refine kP r J0.shape rfl rfl H1 dP rfl rfl fun w7 u8 r=>?_;have Z7:=u8.size
 have H1:=u8.at_;obtain ⟨hB,zB⟩:=u8.on hB O
 exact wn (q4 (kR r J0 rfl rfl H1 rfl dO hF hB u8 O O O))
def D.qy (c0:Plan) (c1:Int) (c2:Int) (a0:Int):T IY:=(D.qg (D.dc c0 c1) (D.cq (D.dJ ((D.aV a0).1) c2)) (fun _=>(D.tU c1 ((D.aV a0).1))))
theorem Bo (hF:kH F w0)
    (c0:Plan) {I5:Nat} (J9:F I5) (I3:w0.heap[I5]?=some (.cells ((ac c0)).toArray 23 (0,0))) (c1:Int) {IE:Nat} (Ka:F IE) (IA:w0.heap[IE]?=some (.cells ([(.int .i64 c1)]).toArray 3 (0,0))) (c2:Int) {IU:Nat} (c2F:F IU) (IR:w0.heap[IU]?=some (.cells ([(.int .i64 c2)]).toArray 3 (0,0))) (a0:Int) :
    Calls B0 270 #[.int .u64 a0,zp I5,zp IE,zp IU] w0 (aH B0 bA n (D.qy c0 c1 c2 a0) F w0):=by
 refine kN Tryz.func270 rfl 22 rfl rfl fun fr r hB=>?_;have Jq:=q8 I3
 have Jy:=q8 IA;have Kg:=q8 IR;refine I0 ?_;refine ah (.cells (kq bA) 116 (0,0)) r (fun R=>ag dX) rfl fun fr b1 w2 n3 r=>?_;obtain ⟨E1,Z2,H1,hB,zB⟩:=n3.all hB
 refine wn (I0 (kM (U a0) r rfl rfl fun r=>?_));refine kE r (lM w2 a0) rfl sJ rfl fun w4 hb r=>?_
 have Z4:=hb.size;have H1:=keep hb H1;obtain ⟨hB,zB⟩:=IQ hb hB;refine kM (.tuple #[(z6 (aQ (D.aV a0).1)),(.bool (D.aV a0).2)]) r rfl rfl fun r=>aa (z6 (aQ (D.aV a0).1)) r (fun R=>bZ r (vs:=#[(z6 (aQ (D.aV a0).1)),(.bool (D.aV a0).2)]) rfl rfl) rfl fun fr r=>aa (.bool (D.aV a0).2) r (fun R=>bZ r (vs:=#[(z6 (aQ (D.aV a0).1)),(.bool (D.aV a0).2)]) rfl rfl) rfl fun fr r=>?_;refine ah (.cells ((aQ (⟨0,0,0⟩:State))).toArray 190 (0,0)) r (fun R=>ag gu) rfl fun fr b5 w6 n7 r=>?_
 have H1:=keep n7.below H1;obtain ⟨E5,Z6,H5,hB,zB⟩:=n7.all hB;refine aM (.cells ((aQ ((D.aV a0).1))).toArray 190 (0,0)) r (fun R=>bb r (o:=0) (v:=(z6 (aQ (D.aV a0).1))) rfl rfl H5 eS u7 rfl rfl) rfl fun fr w8 u9 r=>?_;have Z8:=u9.size
 have H1:=u9.keep H1 O
 have H5:=u9.at_;obtain ⟨hB,zB⟩:=u9.on hB O
 refine kA (.bool (D.aV a0).2) r rfl rfl fun r=>wn (d9 ?_);refine bI 8 [.val (z6 (ac c0)),.val (I c1),.val (I (D.dc c0 c1)),.val (z6 (aQ (D.aV a0).1)),.val (I c2),.val (.agg (aQ (D.dJ ((D.aV a0).1) c2)).toArray),.val (U (D.cq (D.dJ ((D.aV a0).1) c2))),.val (.func (.func 273) #[] #[zp IE,zp b5])] mixed r kz (kV (kV (kV (kV (kV (kV (kV (kV bH)))))))) ?_ ?_
 ·
  refine ec r (fun _ u _ b d s=>aU s (cs:=(ac c0)) (n:=6) rfl (cr hB b I3) IJ rfl bz) (ec r (fun _ u _ b d s=>ax s rfl (cr hB b IA) IL rfl bz) (ec r (fun I2 u w' hb' hd r'=>aN r' (args:=[(z6 (ac c0)),(I c1)]) (lc hd.1 (lc hd.2.1 l0)) kp ((ji _ c0 c1).mono JL)) (ec r (fun _ u _ b d s=>aU s (cs:=(aQ ((D.aV a0).1))) (n:=3) rfl (keep b H5) dY rfl bz) (ec r (fun _ u _ b d s=>ax s rfl (cr hB b IR) IL rfl bz) (ec r (fun I2 u w' hb' hd r'=>aN r' (args:=[(z6 (aQ (D.aV a0).1)),(I c2)]) (lc hd.1 (lc hd.2.1 l0)) Fh ((Ao _ ((D.aV a0).1) c2).mono JL)) (ec r (fun I2 u w' hb' hd r'=>aN r' (args:=[(.agg (aQ (D.dJ ((D.aV a0).1) c2)).toArray)]) (lc hd.1 l0) sD ((l4 _ (D.dJ ((D.aV a0).1) c2)).mono JL)) (ec r (fun _ u _ b d s=>aZ s (v:=(.func (.func 273) #[] #[zp IE,zp b5])) rfl bz) ?_)))))));exact bJ
 intro fr u J8 hb Iz hne r;have r:=r.congr (sc (Iz 7 ke) (sc (Iz 6 ke) (sc (Iz 5 ke) (sc (Iz 4 ke) (sc (Iz 3 ke) (sc (Iz 2 ke) (sc (Iz 1 ke) (sc (Iz 0 ke) rfl))))))));have Z10:=hb.size;have H1:=keep hb H1;have H5:=keep hb H5;obtain ⟨hB,zB⟩:=IQ hb hB;have I4:=aP hF hB b1;have f11:((kW F w0 J8 b1)) IE:=(.inl Ka);have f12:((kW F w0 J8 b1)) b5:=(.inr ⟨O,O,O⟩)
 refine kD r (AB (F:=(kW F w0 J8 b1)) (n:=n) I4 (D.dc c0 c1) (D.cq (D.dJ ((D.aV a0).1) c2)) ⟨273,[],[zp IE,zp b5],Fp,rfl,fun m hm _ w' hs hz=>AV (fun b hb=>q9 (I4 b hb) hz) c1 f11 (hs.at_ f11 (keep hB IA)) ((D.aV a0).1) f12 (hs.at_ f12 H5)⟩) rfl Hm rfl fun Kc K6 hb Kf r=>?_;have Z13:=hb.size
 have H1:=keep hb H1;have H5:=keep hb H5;obtain ⟨hB,zB⟩:=IQ hb hB;refine kP r Kf.shape rfl rfl H1 dP rfl rfl fun w16 K3 r=>?_;have Z16:=K3.size
 have H5:=K3.keep H5 O
 have H1:=K3.at_;obtain ⟨hB,zB⟩:=K3.on hB O
 exact wn (q4 (kR r Kf rfl rfl H1 rfl dO hF hB K3 O O O))
def D.gQ (a0:Plan) (a1:Int) (a2:Int):T IY:=(D.qh (D.dc a0 a1) (fun x=>(D.qy a0 a1 a2 x)))
theorem uo (hF:kH F w0)
    (a0:Plan) (a1:Int) (a2:Int) :
    Calls B0 180 #[z6 (ac a0),.int .i64 a1,.int .i64 a2] w0 (aH B0 bA n (D.gQ a0 a1 a2) F w0):=by
 refine kN Tryz.func180 rfl 12 rfl rfl fun fr r hB=>?_;refine I0 ?_
 refine kX 23 (z6 (ac a0)) r rfl rfl fun b1 w2 n3 r=>?_;obtain ⟨E1,Z2,H1,hB,zB⟩:=n3.all hB
 refine kX 3 (I a1) r rfl rfl fun b4 w5 n6 r=>?_;have H1:=keep n6.below H1
 obtain ⟨E4,Z5,H4,hB,zB⟩:=n6.all hB;refine kX 3 (I a2) r rfl rfl fun b7 w8 n9 r=>?_;have H1:=keep n9.below H1
 have H4:=keep n9.below H4;obtain ⟨E7,Z8,H7,hB,zB⟩:=n9.all hB;refine ah (.cells (kq bA) 116 (0,0)) r (fun R=>ag dX) rfl fun fr b10 JV JN r=>?_;have H1:=keep JN.below H1
 have H4:=keep JN.below H4;have H7:=keep JN.below H7;obtain ⟨E10,Z11,Jp,hB,zB⟩:=JN.all hB;refine wn (I0 (kG (ac a0) 6 r rfl H1 IJ rfl rfl fun r=>kL (I a1) r rfl H4 IL rfl rfl fun r=>?_));refine kE r (ji JV a0 a1) rfl kp rfl fun Kc hb r=>?_
 have Z13:=hb.size;have H1:=keep hb H1;have H4:=keep hb H4;have H7:=keep hb H7;have Jp:=keep hb Jp;obtain ⟨hB,zB⟩:=IQ hb hB;refine aa (.func (.func 270) #[] #[zp b1,zp b4,zp b7]) r (fun R=>aZ r rfl) rfl fun fr r=>?_;have I4:=aP hF hB b10
 have f14:((kW F w0 Kc b10)) b1:=(.inr ⟨O,O,O⟩)
 have f15:((kW F w0 Kc b10)) b4:=(.inr ⟨O,O,O⟩)
 have f16:((kW F w0 Kc b10)) b7:=(.inr ⟨O,O,O⟩)
 refine kD r (AL (F:=(kW F w0 Kc b10)) (n:=n) I4 (D.dc a0 a1) ⟨270,[],[zp b1,zp b4,zp b7],GW,rfl,fun m hm x w' hs hz=>Bo (fun b hb=>q9 (I4 b hb) hz) a0 f14 (hs.at_ f14 H1) a1 f15 (hs.at_ f15 H4) a2 f16 (hs.at_ f16 H7) x⟩) rfl HF rfl fun w17 v18 hb KI r=>?_;have Z17:=hb.size
 have H1:=keep hb H1;have H4:=keep hb H4;have H7:=keep hb H7;have Jp:=keep hb Jp;obtain ⟨hB,zB⟩:=IQ hb hB;refine kP r KI.shape rfl rfl Jp dP rfl rfl fun w20 u21 r=>?_;have Z20:=u21.size
 have H1:=u21.keep H1 O
 have H4:=u21.keep H4 O
 have H7:=u21.keep H7 O
 have Jp:=u21.at_;obtain ⟨hB,zB⟩:=u21.on hB O
 exact wn (q4 (kR r KI rfl rfl Jp rfl dO hF hB u21 O O O))
def D.ep (c0:Plan) (c1:Int) (a0:Int):T IY:=(bif (a0==(-1)) then (D.nz (⟨(-1),0,4⟩:IY)) else (D.gQ c0 a0 c1))
theorem BU (hF:kH F w0)
    (c0:Plan) {I5:Nat} (J9:F I5) (I3:w0.heap[I5]?=some (.cells ((ac c0)).toArray 23 (0,0))) (c1:Int) {IE:Nat} (Ka:F IE) (IA:w0.heap[IE]?=some (.cells ([(.int .i64 c1)]).toArray 3 (0,0))) (a0:Int) :
    Calls B0 178 #[.int .i64 a0,zp I5,zp IE] w0 (aH B0 bA n (D.ep c0 c1 a0) F w0):=by
 refine kN Tryz.func178 rfl 13 rfl rfl fun fr r hB=>?_;have Jq:=q8 I3
 have Jy:=q8 IA;refine I0 ?_;refine ah (.cells (kq bA) 116 (0,0)) r (fun R=>ag dX) rfl fun fr b1 w2 n3 r=>?_;obtain ⟨E1,Z2,H1,hB,zB⟩:=n3.all hB
 refine wn (d9 (I0 (kM (I a0) r rfl rfl fun r=>kB r rfl rfl rfl rfl rfl fun r=>wn ?_)));refine q5 (t:=(a0==(-1))) (r.ev rfl) (fun h4=>?_) (fun h4=>?_)
 ·
  refine I0 (kU (z6 (grantC (⟨(-1),0,4⟩:IY))) r kz rfl fun r=>?_);have I4:=aP hF hB b1
  refine kD r (tH (F:=(kW F w0 w2 b1)) (n:=n) I4 (⟨(-1),0,4⟩:IY)) rfl yN rfl fun w5 v6 hb Kj r=>?_;have Z5:=hb.size
  have H1:=keep hb H1;obtain ⟨hB,zB⟩:=IQ hb hB;refine kP r Kj.shape rfl rfl H1 dP rfl rfl fun w8 u9 r=>?_;have Z8:=u9.size
  have H1:=u9.at_;obtain ⟨hB,zB⟩:=u9.on hB O
  refine wn (q4 ?_);have hd:D.ep c0 c1 a0=(D.nz (⟨(-1),0,4⟩:IY)):=(ar h4).trans (rfl);have hs:=Kj.shape.cells;refine ak r rfl rfl H1 (k:=9) hs.1 dO ?_;rw [<-hs.2.2,hd];exact JR hF hB Kj u9 O O O
 refine q7 (I0 (kG (ac c0) 6 r rfl (keep hB I3) IJ rfl rfl fun r=>kM (I a0) r rfl rfl fun r=>kL (I c1) r rfl (keep hB IA) IL rfl rfl fun r=>?_));have I4:=aP hF hB b1
 refine kD r (uo (F:=(kW F w0 w2 b1)) (n:=n) I4 c0 a0 c1) rfl yE rfl fun J8 v11 hb Jl r=>?_;have Z10:=hb.size
 have H1:=keep hb H1;obtain ⟨hB,zB⟩:=IQ hb hB;refine kP r Jl.shape rfl rfl H1 dP rfl rfl fun Kc Kr r=>?_;have Z13:=Kr.size
 have H1:=Kr.at_;obtain ⟨hB,zB⟩:=Kr.on hB O
 refine wn (q4 ?_);have hd:D.ep c0 c1 a0=(D.gQ c0 a0 c1):=(ai h4).trans (rfl);have hs:=Jl.shape.cells;refine ak r rfl rfl H1 (k:=9) hs.1 dO ?_;rw [<-hs.2.2,hd];exact JR hF hB Jl Kr O O O
def D.nI (j:Nat) (c0:Plan) (c1:(Int->T IY)) (a0:Int):T IY:=(T.bind (D.di j c0) c1)
theorem Bl (hF:kH F w0) (hj:n<j)
    (c0:Plan) {I5:Nat} (J9:F I5) (I3:w0.heap[I5]?=some (.cells ((ac c0)).toArray 23 (0,0))) {c1f:FuncId} {c1_1 c1_2:List Value} {c1:(Int->T IY)} {IE:Nat} (Ka:F IE) (IA:w0.heap[IE]?=some (.cells #[kf c1f c1_1 c1_2] 233 (0,0))) (c1n:Kq B0 bA i64 (n+1) F w0 (kf c1f c1_1 c1_2) c1) (a0:Int) :
    Calls B0 185 #[.int .i64 a0,zp I5,zp IE] w0 (aH B0 bA n (D.nI j c0 c1 a0) F w0):=by
 refine kN Tryz.func185 rfl 9 rfl rfl fun fr r hB=>?_;have Jq:=q8 I3
 have Jy:=q8 IA;refine I0 ?_;refine ah (.cells (kq bA) 116 (0,0)) r (fun R=>ag dX) rfl fun fr b1 w2 n3 r=>?_;obtain ⟨E1,Z2,H1,hB,zB⟩:=n3.all hB
 refine wn (d9 ?_);have I4:=aP hF hB b1;refine bI 3 [.val (z6 (ac c0)),.pred (PrepP B0 aj n (D.di j c0) ((kW F w0 w2 b1)) w2) (PrepP.st I4),.val (kf c1f c1_1 c1_2)] mixed r kz (kV (kV (kV bH))) ?_ ?_
 ·
  refine ec r (fun _ u _ b d s=>aU s (cs:=(ac c0)) (n:=6) rfl (cr hB b I3) IJ rfl bz) (ec r (fun I2 u w' hb' hd r'=>aN r' (args:=[(z6 (ac c0))]) (lc hd.1 l0) sI (((uN (k:=j) (n:=n) O) ((kW F w0 w2 b1)) _ (fun b h=>q9 (I4 b h) hb'.size) c0).mono yaB)) (ec r (fun _ u _ b d s=>ax s rfl (cr hB b IA) sH rfl bz) ?_));exact bJ
 intro fr u w4 hb Iz hne r;obtain ⟨v5,hv1⟩:∃ v,v=u 1:=⟨_,rfl⟩;have g1:u 1=v5:=hv1.symm;have J0:=(Iz 1 ke).2;rw [g1] at J0
 have r:=r.congr (sc (Iz 2 ke) (sc g1 (sc (Iz 0 ke) rfl)))
 have Z4:=hb.size;have H1:=keep hb H1;obtain ⟨hB,zB⟩:=IQ hb hB;have I4:=aP hF hB b1;refine kD r (pH (F:=(kW F w0 w4 b1)) (n:=n) I4 (Jm.mono yae (I8.refl _ _) O n _ _ J0) (c1n.mono O (fun b h=>.inl h) (I8.below hB hF) hB.size)) rfl pg rfl fun w7 v8 hb hr9 r=>?_
 have Z7:=hb.size;have H1:=keep hb H1;obtain ⟨hB,zB⟩:=IQ hb hB;refine kP r hr9.shape rfl rfl H1 dP rfl rfl fun J8 JG r=>?_;have Z10:=JG.size
 have H1:=JG.at_;obtain ⟨hB,zB⟩:=JG.on hB O
 exact wn (q4 (kR r hr9 rfl rfl H1 rfl dO hF hB JG O O O))
def D.gR (j:Nat) (c0:Plan) (c1:Int) (c2:Int) (c3:(Int->T IY)) (a0:Int):T IY:=(bif (a0 !=(-1)) then (D.gQ c0 a0 c1) else (T.bind (D.fW j c0 c2) (fun x=>(D.nI j c0 c3 x))))
theorem BX (hF:kH F w0) (hj:n<j)
    (c0:Plan) {I5:Nat} (J9:F I5) (I3:w0.heap[I5]?=some (.cells ((ac c0)).toArray 23 (0,0))) (c1:Int) {IE:Nat} (Ka:F IE) (IA:w0.heap[IE]?=some (.cells ([(.int .i64 c1)]).toArray 3 (0,0))) (c2:Int) {IU:Nat} (c2F:F IU) (IR:w0.heap[IU]?=some (.cells ([(.int .i64 c2)]).toArray 3 (0,0))) {c3f:FuncId} {c3_1 c3_2:List Value} {c3:(Int->T IY)} {Jr:Nat} (c3F:F Jr) (JB:w0.heap[Jr]?=some (.cells #[kf c3f c3_1 c3_2] 233 (0,0))) (c3n:Kq B0 bA i64 (n+1) F w0 (kf c3f c3_1 c3_2) c3) (a0:Int) :
    Calls B0 183 #[.int .i64 a0,zp I5,zp IE,zp IU,zp Jr] w0 (aH B0 bA n (D.gR j c0 c1 c2 c3 a0) F w0):=by
 refine kN Tryz.func183 rfl 18 rfl rfl fun fr r hB=>?_;have Jq:=q8 I3
 have Jy:=q8 IA;have Kg:=q8 IR;have KY:=q8 JB;refine I0 ?_;refine ah (.cells (kq bA) 116 (0,0)) r (fun R=>ag dX) rfl fun fr b1 w2 n3 r=>?_;obtain ⟨E1,Z2,H1,hB,zB⟩:=n3.all hB
 refine wn (d9 (I0 (kM (I a0) r rfl rfl fun r=>kB r rfl rfl rfl rfl rfl fun r=>wn ?_)));refine q5 (t:=(a0 !=(-1))) (r.ev rfl) (fun h4=>?_) (fun h4=>?_)
 ·
  refine I0 (kG (ac c0) 6 r rfl (keep hB I3) IJ rfl rfl fun r=>kM (I a0) r rfl rfl fun r=>kL (I c1) r rfl (keep hB IA) IL rfl rfl fun r=>?_);have I4:=aP hF hB b1
  refine kD r (uo (F:=(kW F w0 w2 b1)) (n:=n) I4 c0 a0 c1) rfl yE rfl fun w5 v6 hb Kj r=>?_;have Z5:=hb.size
  have H1:=keep hb H1;obtain ⟨hB,zB⟩:=IQ hb hB;refine kP r Kj.shape rfl rfl H1 dP rfl rfl fun w8 u9 r=>?_;have Z8:=u9.size
  have H1:=u9.at_;obtain ⟨hB,zB⟩:=u9.on hB O
  refine wn (q4 ?_);have hd:D.gR j c0 c1 c2 c3 a0=(D.gQ c0 a0 c1):=(ar h4).trans (rfl);have hs:=Kj.shape.cells;refine ak r rfl rfl H1 (k:=9) hs.1 dO ?_;rw [<-hs.2.2,hd];exact JR hF hB Kj u9 O O O
 refine q7 (I0 (kG (ac c0) 6 r rfl (keep hB I3) IJ rfl rfl fun r=>kL (I c2) r rfl (keep hB IR) IL rfl rfl fun r=>?_));have I4:=aP hF hB b1
 refine kD r (ut (j:=j) (F:=(kW F w0 w2 b1)) (n:=n) I4 O c0 c2) rfl xQ rfl fun J8 v11 hb Jl r=>?_;have Z10:=hb.size
 have H1:=keep hb H1;obtain ⟨hB,zB⟩:=IQ hb hB;refine aa (.func (.func 185) #[] #[zp I5,zp Jr]) r (fun R=>aZ r rfl) rfl fun fr r=>?_;have I4:=aP hF hB b1
 have f13:((kW F w0 J8 b1)) I5:=(.inl J9);have f14:((kW F w0 J8 b1)) Jr:=(.inl c3F);refine kD r (pH (F:=(kW F w0 J8 b1)) (n:=n) I4 (Jm.mono yae (I8.refl _ _) O n _ _ Jl) ⟨185,[],[zp I5,zp Jr],G3,rfl,fun m hm x w' hs hz=>Bl (j:=j) (fun b hb=>q9 (I4 b hb) hz) O c0 f13 (hs.at_ f13 (keep hB I3)) f14 (hs.at_ f14 (keep hB JB)) (c3n.mono O (fun b h=>.inl h) ((I8.below hB hF).trans (hs.sub (fun b h=>.inl h))) (Nat.le_trans hB.size hz)) x⟩) rfl pg rfl fun w15 v16 hb hr17 r=>?_
 have Z15:=hb.size;have H1:=keep hb H1;obtain ⟨hB,zB⟩:=IQ hb hB;refine kP r hr17.shape rfl rfl H1 dP rfl rfl fun w18 u19 r=>?_;have Z18:=u19.size
 have H1:=u19.at_;obtain ⟨hB,zB⟩:=u19.on hB O
 refine wn (q4 ?_);have hd:D.gR j c0 c1 c2 c3 a0=(T.bind (D.fW j c0 c2) (fun x=>(D.nI j c0 c3 x))):=(ai h4).trans (rfl)
 have hs:=hr17.shape.cells;refine ak r rfl rfl H1 (k:=9) hs.1 dO ?_;rw [<-hs.2.2,hd];exact JR hF hB hr17 u19 O O O
def D.jM (j:Nat) (a0:Plan) (a1:Int) (a2:Int):T IY:=(T.bind (D.di j a0) (fun x=>(D.gR j a0 a2 a1 (fun x=>(D.ep a0 a2 x)) x)))
theorem Cx (hF:kH F w0) (hj:n<j)
    (a0:Plan) (a1:Int) (a2:Int) :
    Calls B0 102 #[z6 (ac a0),.int .i64 a1,.int .i64 a2] w0 (aH B0 bA n (D.jM j a0 a1 a2) F w0):=by
 refine kN Tryz.func102 rfl 13 rfl rfl fun fr r hB=>?_;refine I0 ?_
 refine kX 23 (z6 (ac a0)) r rfl rfl fun b1 w2 n3 r=>?_;obtain ⟨E1,Z2,H1,hB,zB⟩:=n3.all hB
 refine kX 3 (I a1) r rfl rfl fun b4 w5 n6 r=>?_;have H1:=keep n6.below H1
 obtain ⟨E4,Z5,H4,hB,zB⟩:=n6.all hB;refine kX 3 (I a2) r rfl rfl fun b7 w8 n9 r=>?_;have H1:=keep n9.below H1
 have H4:=keep n9.below H4;obtain ⟨E7,Z8,H7,hB,zB⟩:=n9.all hB;refine ah (.cells (kq bA) 116 (0,0)) r (fun R=>ag dX) rfl fun fr b10 JV JN r=>?_;have H1:=keep JN.below H1
 have H4:=keep JN.below H4;have H7:=keep JN.below H7;obtain ⟨E10,Z11,Jp,hB,zB⟩:=JN.all hB;refine wn (I0 (aa (.func (.func 178) #[] #[zp b1,zp b7]) r (fun R=>aZ r rfl) rfl fun fr r=>?_));refine ah (.cells #[.nilFunc] 233 (0,0)) r (fun R=>ag Hi) rfl fun fr b13 w14 n15 r=>?_
 have H1:=keep n15.below H1;have H4:=keep n15.below H4;have H7:=keep n15.below H7;have Jp:=keep n15.below Jp;obtain ⟨E13,Z14,K0,hB,zB⟩:=n15.all hB;refine aM (.cells #[.func (.func 178) #[] #[zp b1,zp b7]] 233 (0,0)) r (fun R=>bb r (o:=0) (v:=(.func (.func 178) #[] #[zp b1,zp b7])) rfl rfl K0 Fa u7 rfl rfl) rfl fun fr w16 K3 r=>?_;have Z16:=K3.size
 have H1:=K3.keep H1 O
 have H4:=K3.keep H4 O
 have H7:=K3.keep H7 O
 have Jp:=K3.keep Jp O
 have K0:=K3.at_;obtain ⟨hB,zB⟩:=K3.on hB O
 refine wn (I0 (kG (ac a0) 6 r rfl H1 IJ rfl rfl fun r=>?_));have I4:=aP hF hB b10
 refine kD r ((uN (k:=j) (n:=n) O) (kW F w0 w16 b10) _ I4 a0) rfl sI rfl fun w18 Km hb hr20 r=>?_;have Z18:=hb.size
 have H1:=keep hb H1;have H4:=keep hb H4;have H7:=keep hb H7;have Jp:=keep hb Jp;have K0:=keep hb K0;obtain ⟨hB,zB⟩:=IQ hb hB;refine aa (.func (.func 183) #[] #[zp b1,zp b7,zp b4,zp b13]) r (fun R=>aZ r rfl) rfl fun fr r=>?_;have I4:=aP hF hB b10
 have f21:((kW F w0 w18 b10)) b1:=(.inr ⟨O,O,O⟩)
 have f22:((kW F w0 w18 b10)) b7:=(.inr ⟨O,O,O⟩)
 have f23:((kW F w0 w18 b10)) b4:=(.inr ⟨O,O,O⟩)
 have f24:((kW F w0 w18 b10)) b13:=(.inr ⟨O,O,O⟩)
 have f26:((kW F w0 w18 b10)) b1:=(.inr ⟨O,O,O⟩)
 have f27:((kW F w0 w18 b10)) b7:=(.inr ⟨O,O,O⟩)
 have q25:Kq B0 bA i64 (n+1) (kW F w0 w18 b10) w18 (.func (.func 178) #[] #[zp b1,zp b7]) (fun x=>(D.ep a0 a2 x)):=⟨178,[],[zp b1,zp b7],GV,rfl,fun m hm x w' hs hz=>BU (fun b hb=>q9 (I4 b hb) hz) a0 f26 (hs.at_ f26 H1) a2 f27 (hs.at_ f27 H7) x⟩
 refine kD r (pH (F:=(kW F w0 w18 b10)) (n:=n) I4 (Jm.mono yae (I8.refl _ _) O n _ _ hr20) ⟨183,[],[zp b1,zp b7,zp b4,zp b13],Hh,rfl,fun m hm x w' hs hz=>BX (j:=j) (fun b hb=>q9 (I4 b hb) hz) O a0 f21 (hs.at_ f21 H1) a2 f22 (hs.at_ f22 H7) a1 f23 (hs.at_ f23 H4) f24 (hs.at_ f24 K0) (q25.mono O (fun b h=>h) hs hz) x⟩) rfl pg rfl fun w28 v29 hb hr30 r=>?_
 have Z28:=hb.size;have H1:=keep hb H1;have H4:=keep hb H4;have H7:=keep hb H7;have Jp:=keep hb Jp;have K0:=keep hb K0;obtain ⟨hB,zB⟩:=IQ hb hB;refine kP r hr30.shape rfl rfl Jp dP rfl rfl fun w31 u32 r=>?_;have Z31:=u32.size
 have H1:=u32.keep H1 O
 have H4:=u32.keep H4 O
 have H7:=u32.keep H7 O
 have K0:=u32.keep K0 O
 have Jp:=u32.at_;obtain ⟨hB,zB⟩:=u32.on hB O
 exact wn (q4 (kR r hr30 rfl rfl Jp rfl dO hF hB u32 O O O))
def D.fA (c0:Int) (a0:Int):T Int:=(bif (a0==(-1)) then (D.df (-1)) else (D.df c0))
theorem Bw (hF:kH F w0)
    (c0:Int) {I5:Nat} (J9:F I5) (I3:w0.heap[I5]?=some (.cells ([(.int .i64 c0)]).toArray 3 (0,0))) (a0:Int) :
    Calls B0 221 #[.int .i64 a0,zp I5] w0 (aH B0 aj n (D.fA c0 a0) F w0):=by
 refine kN Tryz.func221 rfl 9 rfl rfl fun fr r hB=>?_;have Jq:=q8 I3
 refine I0 ?_;refine ah (.cells (kq aj) 119 (0,0)) r (fun R=>ag bP) rfl fun fr b1 w2 n3 r=>?_;obtain ⟨E1,Z2,H1,hB,zB⟩:=n3.all hB
 refine wn (d9 (I0 (kM (I a0) r rfl rfl fun r=>kB r rfl rfl rfl rfl rfl fun r=>wn ?_)));refine q5 (t:=(a0==(-1))) (r.ev rfl) (fun h4=>?_) (fun h4=>?_)
 ·
  refine I0 ?_;have I4:=aP hF hB b1;refine kD r (eT (F:=(kW F w0 w2 b1)) (n:=n) I4 (-1)) rfl fe rfl fun w5 v6 hb Kj r=>?_;have Z5:=hb.size
  have H1:=keep hb H1;obtain ⟨hB,zB⟩:=IQ hb hB;refine kP r Kj.shape rfl rfl H1 bv rfl rfl fun w8 u9 r=>?_;have Z8:=u9.size
  have H1:=u9.at_;obtain ⟨hB,zB⟩:=u9.on hB O
  refine wn (q4 ?_);have hd:D.fA c0 a0=(D.df (-1)):=(ar h4).trans (rfl);have hs:=Kj.shape.cells;refine ak r rfl rfl H1 (k:=7) hs.1 bu ?_;rw [<-hs.2.2,hd];exact JR hF hB Kj u9 O O O
 refine q7 (I0 (kL (I c0) r rfl (keep hB I3) IL rfl rfl fun r=>?_));have I4:=aP hF hB b1
 refine kD r (eT (F:=(kW F w0 w2 b1)) (n:=n) I4 c0) rfl fe rfl fun J8 v11 hb Jl r=>?_;have Z10:=hb.size
 have H1:=keep hb H1;obtain ⟨hB,zB⟩:=IQ hb hB;refine kP r Jl.shape rfl rfl H1 bv rfl rfl fun Kc Kr r=>?_;have Z13:=Kr.size
 have H1:=Kr.at_;obtain ⟨hB,zB⟩:=Kr.on hB O
 refine wn (q4 ?_);have hd:D.fA c0 a0=(D.df c0):=(ai h4).trans (rfl);have hs:=Jl.shape.cells;refine ak r rfl rfl H1 (k:=7) hs.1 bu ?_;rw [<-hs.2.2,hd];exact JR hF hB Jl Kr O O O
def D.nB (c0:Plan) (c1:Int) (c2:Int) (c3:(Int->T Int)) (a0:Int):T Int:=(T.bind (D.gW c0 c1 c2) c3)
theorem AJ (hF:kH F w0)
    (c0:Plan) {I5:Nat} (J9:F I5) (I3:w0.heap[I5]?=some (.cells ((ac c0)).toArray 23 (0,0))) (c1:Int) {IE:Nat} (Ka:F IE) (IA:w0.heap[IE]?=some (.cells ([(.int .i64 c1)]).toArray 3 (0,0))) (c2:Int) {IU:Nat} (c2F:F IU) (IR:w0.heap[IU]?=some (.cells ([(.int .i64 c2)]).toArray 3 (0,0))) {c3f:FuncId} {c3_1 c3_2:List Value} {c3:(Int->T Int)} {Jr:Nat} (c3F:F Jr) (JB:w0.heap[Jr]?=some (.cells #[kf c3f c3_1 c3_2] 261 (0,0))) (c3n:Kq B0 aj i64 (n+1) F w0 (kf c3f c3_1 c3_2) c3) (a0:Int) :
    Calls B0 226 #[.int .i64 a0,zp I5,zp IE,zp IU,zp Jr] w0 (aH B0 aj n (D.nB c0 c1 c2 c3 a0) F w0):=by
 refine kN Tryz.func226 rfl 13 rfl rfl fun fr r hB=>?_;have Jq:=q8 I3
 have Jy:=q8 IA;have Kg:=q8 IR;have KY:=q8 JB;refine I0 ?_;refine ah (.cells (kq aj) 119 (0,0)) r (fun R=>ag bP) rfl fun fr b1 w2 n3 r=>?_;obtain ⟨E1,Z2,H1,hB,zB⟩:=n3.all hB
 refine wn (d9 ?_);have I4:=aP hF hB b1;refine bI 5 [.val (z6 (ac c0)),.val (I c1),.val (I c2),.pred (PrepP B0 aj n (D.gW c0 c1 c2) ((kW F w0 w2 b1)) w2) (PrepP.st I4),.val (kf c3f c3_1 c3_2)] mixed r kz (kV (kV (kV (kV (kV bH))))) ?_ ?_
 ·
  refine ec r (fun _ u _ b d s=>aU s (cs:=(ac c0)) (n:=6) rfl (cr hB b I3) IJ rfl bz) (ec r (fun _ u _ b d s=>ax s rfl (cr hB b IA) IL rfl bz) (ec r (fun _ u _ b d s=>ax s rfl (cr hB b IR) IL rfl bz) (ec r (fun I2 u w' hb' hd r'=>aN r' (args:=[(z6 (ac c0)),(I c1),(I c2)]) (lc hd.1 (lc hd.2.1 (lc hd.2.2.1 l0))) xK ((uF (F:=(kW F w0 w2 b1)) (n:=n) (fun b h=>q9 (I4 b h) hb'.size) c0 c1 c2).mono yaB)) (ec r (fun _ u _ b d s=>ax s rfl (cr hB b JB) rW rfl bz) ?_))));exact bJ
 intro fr u w4 hb Iz hne r;obtain ⟨v5,hv3⟩:∃ v,v=u 3:=⟨_,rfl⟩;have g3:u 3=v5:=hv3.symm;have J0:=(Iz 3 ke).2;rw [g3] at J0
 have r:=r.congr (sc (Iz 4 ke) (sc g3 (sc (Iz 2 ke) (sc (Iz 1 ke) (sc (Iz 0 ke) rfl)))))
 have Z4:=hb.size;have H1:=keep hb H1;obtain ⟨hB,zB⟩:=IQ hb hB;have I4:=aP hF hB b1;refine kD r (pJ (F:=(kW F w0 w4 b1)) (n:=n) I4 (Jm.mono yae (I8.refl _ _) O n _ _ J0) (c3n.mono O (fun b h=>.inl h) (I8.below hB hF) hB.size)) rfl mr rfl fun w7 v8 hb hr9 r=>?_
 have Z7:=hb.size;have H1:=keep hb H1;obtain ⟨hB,zB⟩:=IQ hb hB;refine kP r hr9.shape rfl rfl H1 bv rfl rfl fun J8 JG r=>?_;have Z10:=JG.size
 have H1:=JG.at_;obtain ⟨hB,zB⟩:=JG.on hB O
 exact wn (q4 (kR r hr9 rfl rfl H1 rfl bu hF hB JG O O O))
def D.gN (j:Nat) (c0:Int) (c1:Plan) (c2:Int) (c3:(Int->T Int)) (a0:Int):T Int:=(bif (a0 !=(-1)) then (D.df c0) else (T.bind (D.fW j c1 c2) (fun x=>(D.nB c1 c2 c0 c3 x))))
theorem Bt (hF:kH F w0) (hj:n<j)
    (c0:Int) {I5:Nat} (J9:F I5) (I3:w0.heap[I5]?=some (.cells ([(.int .i64 c0)]).toArray 3 (0,0))) (c1:Plan) {IE:Nat} (Ka:F IE) (IA:w0.heap[IE]?=some (.cells ((ac c1)).toArray 23 (0,0))) (c2:Int) {IU:Nat} (c2F:F IU) (IR:w0.heap[IU]?=some (.cells ([(.int .i64 c2)]).toArray 3 (0,0))) {c3f:FuncId} {c3_1 c3_2:List Value} {c3:(Int->T Int)} {Jr:Nat} (c3F:F Jr) (JB:w0.heap[Jr]?=some (.cells #[kf c3f c3_1 c3_2] 261 (0,0))) (c3n:Kq B0 aj i64 (n+1) F w0 (kf c3f c3_1 c3_2) c3) (a0:Int) :
    Calls B0 225 #[.int .i64 a0,zp I5,zp IE,zp IU,zp Jr] w0 (aH B0 aj n (D.gN j c0 c1 c2 c3 a0) F w0):=by
 refine kN Tryz.func225 rfl 16 rfl rfl fun fr r hB=>?_;have Jq:=q8 I3
 have Jy:=q8 IA;have Kg:=q8 IR;have KY:=q8 JB;refine I0 ?_;refine ah (.cells (kq aj) 119 (0,0)) r (fun R=>ag bP) rfl fun fr b1 w2 n3 r=>?_;obtain ⟨E1,Z2,H1,hB,zB⟩:=n3.all hB
 refine wn (d9 (I0 (kM (I a0) r rfl rfl fun r=>kB r rfl rfl rfl rfl rfl fun r=>wn ?_)));refine q5 (t:=(a0 !=(-1))) (r.ev rfl) (fun h4=>?_) (fun h4=>?_)
 ·
  refine I0 (kL (I c0) r rfl (keep hB I3) IL rfl rfl fun r=>?_);have I4:=aP hF hB b1
  refine kD r (eT (F:=(kW F w0 w2 b1)) (n:=n) I4 c0) rfl fe rfl fun w5 v6 hb Kj r=>?_;have Z5:=hb.size
  have H1:=keep hb H1;obtain ⟨hB,zB⟩:=IQ hb hB;refine kP r Kj.shape rfl rfl H1 bv rfl rfl fun w8 u9 r=>?_;have Z8:=u9.size
  have H1:=u9.at_;obtain ⟨hB,zB⟩:=u9.on hB O
  refine wn (q4 ?_);have hd:D.gN j c0 c1 c2 c3 a0=(D.df c0):=(ar h4).trans (rfl);have hs:=Kj.shape.cells;refine ak r rfl rfl H1 (k:=7) hs.1 bu ?_;rw [<-hs.2.2,hd];exact JR hF hB Kj u9 O O O
 refine q7 (I0 (kG (ac c1) 6 r rfl (keep hB IA) IJ rfl rfl fun r=>kL (I c2) r rfl (keep hB IR) IL rfl rfl fun r=>?_));have I4:=aP hF hB b1
 refine kD r (ut (j:=j) (F:=(kW F w0 w2 b1)) (n:=n) I4 O c1 c2) rfl xQ rfl fun J8 v11 hb Jl r=>?_;have Z10:=hb.size
 have H1:=keep hb H1;obtain ⟨hB,zB⟩:=IQ hb hB;refine aa (.func (.func 226) #[] #[zp IE,zp IU,zp I5,zp Jr]) r (fun R=>aZ r rfl) rfl fun fr r=>?_;have I4:=aP hF hB b1
 have f13:((kW F w0 J8 b1)) IE:=(.inl Ka);have f14:((kW F w0 J8 b1)) IU:=(.inl c2F);have f15:((kW F w0 J8 b1)) I5:=(.inl J9);have f16:((kW F w0 J8 b1)) Jr:=(.inl c3F);refine kD r (pJ (F:=(kW F w0 J8 b1)) (n:=n) I4 (Jm.mono yae (I8.refl _ _) O n _ _ Jl) ⟨226,[],[zp IE,zp IU,zp I5,zp Jr],HA,rfl,fun m hm x w' hs hz=>AJ (fun b hb=>q9 (I4 b hb) hz) c1 f13 (hs.at_ f13 (keep hB IA)) c2 f14 (hs.at_ f14 (keep hB IR)) c0 f15 (hs.at_ f15 (keep hB I3)) f16 (hs.at_ f16 (keep hB JB)) (c3n.mono O (fun b h=>.inl h) ((I8.below hB hF).trans (hs.sub (fun b h=>.inl h))) (Nat.le_trans hB.size hz)) x⟩) rfl mr rfl fun w17 v18 hb KI r=>?_
 have Z17:=hb.size;have H1:=keep hb H1;obtain ⟨hB,zB⟩:=IQ hb hB;refine kP r KI.shape rfl rfl H1 bv rfl rfl fun w20 u21 r=>?_;have Z20:=u21.size
 have H1:=u21.at_;obtain ⟨hB,zB⟩:=u21.on hB O
 refine wn (q4 ?_);have hd:D.gN j c0 c1 c2 c3 a0=(T.bind (D.fW j c1 c2) (fun x=>(D.nB c1 c2 c0 c3 x))):=(ai h4).trans (rfl)
 have hs:=KI.shape.cells;refine ak r rfl rfl H1 (k:=7) hs.1 bu ?_;rw [<-hs.2.2,hd];exact JR hF hB KI u21 O O O
def D.nR (j:Nat) (a0:Plan) (a1:Int) (a2:Int):T Int:=(T.bind (D.gW a0 a1 a2) (fun x=>(D.gN j a2 a0 a1 (fun x=>(D.fA a2 x)) x)))
theorem BZ (hF:kH F w0) (hj:n<j)
    (a0:Plan) (a1:Int) (a2:Int) :
    Calls B0 141 #[z6 (ac a0),.int .i64 a1,.int .i64 a2] w0 (aH B0 aj n (D.nR j a0 a1 a2) F w0):=by
 refine kN Tryz.func141 rfl 15 rfl rfl fun fr r hB=>?_;refine I0 ?_
 refine kX 23 (z6 (ac a0)) r rfl rfl fun b1 w2 n3 r=>?_;obtain ⟨E1,Z2,H1,hB,zB⟩:=n3.all hB
 refine kX 3 (I a1) r rfl rfl fun b4 w5 n6 r=>?_;have H1:=keep n6.below H1
 obtain ⟨E4,Z5,H4,hB,zB⟩:=n6.all hB;refine kX 3 (I a2) r rfl rfl fun b7 w8 n9 r=>?_;have H1:=keep n9.below H1
 have H4:=keep n9.below H4;obtain ⟨E7,Z8,H7,hB,zB⟩:=n9.all hB;refine ah (.cells (kq aj) 119 (0,0)) r (fun R=>ag bP) rfl fun fr b10 JV JN r=>?_;have H1:=keep JN.below H1
 have H4:=keep JN.below H4;have H7:=keep JN.below H7;obtain ⟨E10,Z11,Jp,hB,zB⟩:=JN.all hB;refine wn (I0 (aa (.func (.func 221) #[] #[zp b7]) r (fun R=>aZ r rfl) rfl fun fr r=>?_));refine ah (.cells #[.nilFunc] 261 (0,0)) r (fun R=>ag Gw) rfl fun fr b13 w14 n15 r=>?_
 have H1:=keep n15.below H1;have H4:=keep n15.below H4;have H7:=keep n15.below H7;have Jp:=keep n15.below Jp;obtain ⟨E13,Z14,K0,hB,zB⟩:=n15.all hB;refine aM (.cells #[.func (.func 221) #[] #[zp b7]] 261 (0,0)) r (fun R=>bb r (o:=0) (v:=(.func (.func 221) #[] #[zp b7])) rfl rfl K0 Gv u7 rfl rfl) rfl fun fr w16 K3 r=>?_;have Z16:=K3.size
 have H1:=K3.keep H1 O
 have H4:=K3.keep H4 O
 have H7:=K3.keep H7 O
 have Jp:=K3.keep Jp O
 have K0:=K3.at_;obtain ⟨hB,zB⟩:=K3.on hB O
 refine wn (I0 (kG (ac a0) 6 r rfl H1 IJ rfl rfl fun r=>kL (I a1) r rfl H4 IL rfl rfl fun r=>kL (I a2) r rfl H7 IL rfl rfl fun r=>?_));have I4:=aP hF hB b10
 refine kD r (uF (F:=(kW F w0 w16 b10)) (n:=n) I4 a0 a1 a2) rfl xK rfl fun w18 Km hb hr20 r=>?_;have Z18:=hb.size
 have H1:=keep hb H1;have H4:=keep hb H4;have H7:=keep hb H7;have Jp:=keep hb Jp;have K0:=keep hb K0;obtain ⟨hB,zB⟩:=IQ hb hB;refine aa (.func (.func 225) #[] #[zp b7,zp b1,zp b4,zp b13]) r (fun R=>aZ r rfl) rfl fun fr r=>?_;have I4:=aP hF hB b10
 have f21:((kW F w0 w18 b10)) b7:=(.inr ⟨O,O,O⟩)
 have f22:((kW F w0 w18 b10)) b1:=(.inr ⟨O,O,O⟩)
 have f23:((kW F w0 w18 b10)) b4:=(.inr ⟨O,O,O⟩)
 have f24:((kW F w0 w18 b10)) b13:=(.inr ⟨O,O,O⟩)
 have f26:((kW F w0 w18 b10)) b7:=(.inr ⟨O,O,O⟩)
 have q25:Kq B0 aj i64 (n+1) (kW F w0 w18 b10) w18 (.func (.func 221) #[] #[zp b7]) (fun x=>(D.fA a2 x)):=⟨221,[],[zp b7],FH,rfl,fun m hm x w' hs hz=>Bw (fun b hb=>q9 (I4 b hb) hz) a2 f26 (hs.at_ f26 H7) x⟩
 refine kD r (pJ (F:=(kW F w0 w18 b10)) (n:=n) I4 (Jm.mono yae (I8.refl _ _) O n _ _ hr20) ⟨225,[],[zp b7,zp b1,zp b4,zp b13],Ft,rfl,fun m hm x w' hs hz=>Bt (j:=j) (fun b hb=>q9 (I4 b hb) hz) O a2 f21 (hs.at_ f21 H7) a0 f22 (hs.at_ f22 H1) a1 f23 (hs.at_ f23 H4) f24 (hs.at_ f24 K0) (q25.mono O (fun b h=>h) hs hz) x⟩) rfl mr rfl fun w27 v28 hb hr29 r=>?_
 have Z27:=hb.size;have H1:=keep hb H1;have H4:=keep hb H4;have H7:=keep hb H7;have Jp:=keep hb Jp;have K0:=keep hb K0;obtain ⟨hB,zB⟩:=IQ hb hB;refine kP r hr29.shape rfl rfl Jp bv rfl rfl fun w30 u31 r=>?_;have Z30:=u31.size
 have H1:=u31.keep H1 O
 have H4:=u31.keep H4 O
 have H7:=u31.keep H7 O
 have K0:=u31.keep K0 O
 have Jp:=u31.at_;obtain ⟨hB,zB⟩:=u31.on hB O
 exact wn (q4 (kR r hr29 rfl rfl Jp rfl bu hF hB u31 O O O))
def D.qe (j:Nat) (c0:Plan) (c1:Int) (c2:Int):T Int:=(D.nR j c0 c1 c2)
theorem AA (hF:kH F w0) (hj:n<j)
    (c0:Plan) {I5:Nat} (J9:F I5) (I3:w0.heap[I5]?=some (.cells ((ac c0)).toArray 23 (0,0))) (c1:Int) {IE:Nat} (Ka:F IE) (IA:w0.heap[IE]?=some (.cells ([(.int .i64 c1)]).toArray 3 (0,0))) (c2:Int) {IU:Nat} (c2F:F IU) (IR:w0.heap[IU]?=some (.cells ([(.int .i64 c2)]).toArray 3 (0,0))) :
    Calls B0 189 #[zp I5,zp IE,zp IU] w0 (aH B0 aj n (D.qe j c0 c1 c2) F w0):=by
 refine kN Tryz.func189 rfl 8 rfl rfl fun fr r hB=>?_;have Jq:=q8 I3
 have Jy:=q8 IA;have Kg:=q8 IR;refine I0 ?_;refine ah (.cells (kq aj) 119 (0,0)) r (fun R=>ag bP) rfl fun fr b1 w2 n3 r=>?_;obtain ⟨E1,Z2,H1,hB,zB⟩:=n3.all hB
 refine wn (I0 (kG (ac c0) 6 r rfl (keep hB I3) IJ rfl rfl fun r=>kL (I c1) r rfl (keep hB IA) IL rfl rfl fun r=>kL (I c2) r rfl (keep hB IR) IL rfl rfl fun r=>?_));have I4:=aP hF hB b1
 refine kD r (BZ (j:=j) (F:=(kW F w0 w2 b1)) (n:=n) I4 O c0 c1 c2) rfl Fx rfl fun w4 v5 hb J0 r=>?_;have Z4:=hb.size
 have H1:=keep hb H1;obtain ⟨hB,zB⟩:=IQ hb hB;refine kP r J0.shape rfl rfl H1 bv rfl rfl fun w7 u8 r=>?_;have Z7:=u8.size
 have H1:=u8.at_;obtain ⟨hB,zB⟩:=u8.on hB O
 exact wn (q4 (kR r J0 rfl rfl H1 rfl bu hF hB u8 O O O))
def D.qk (j:Nat) (c0:Plan) (c1:Int) (c2:Int) (a0:Int):T Int:=(D.ee (D.dc c0 c1) (D.cq (D.gF ((D.aV a0).1))) (fun _=>(D.qe j c0 c2 c1)))
theorem Bc (hF:kH F w0) (hj:n<j)
    (c0:Plan) {I5:Nat} (J9:F I5) (I3:w0.heap[I5]?=some (.cells ((ac c0)).toArray 23 (0,0))) (c1:Int) {IE:Nat} (Ka:F IE) (IA:w0.heap[IE]?=some (.cells ([(.int .i64 c1)]).toArray 3 (0,0))) (c2:Int) {IU:Nat} (c2F:F IU) (IR:w0.heap[IU]?=some (.cells ([(.int .i64 c2)]).toArray 3 (0,0))) (a0:Int) :
    Calls B0 187 #[.int .u64 a0,zp I5,zp IE,zp IU] w0 (aH B0 aj n (D.qk j c0 c1 c2 a0) F w0):=by
 refine kN Tryz.func187 rfl 21 rfl rfl fun fr r hB=>?_;have Jq:=q8 I3
 have Jy:=q8 IA;have Kg:=q8 IR;refine I0 ?_;refine ah (.cells (kq aj) 119 (0,0)) r (fun R=>ag bP) rfl fun fr b1 w2 n3 r=>?_;obtain ⟨E1,Z2,H1,hB,zB⟩:=n3.all hB
 refine wn (I0 (kM (U a0) r rfl rfl fun r=>?_));refine kE r (lM w2 a0) rfl sJ rfl fun w4 hb r=>?_
 have Z4:=hb.size;have H1:=keep hb H1;obtain ⟨hB,zB⟩:=IQ hb hB;refine kM (.tuple #[(z6 (aQ (D.aV a0).1)),(.bool (D.aV a0).2)]) r rfl rfl fun r=>aa (z6 (aQ (D.aV a0).1)) r (fun R=>bZ r (vs:=#[(z6 (aQ (D.aV a0).1)),(.bool (D.aV a0).2)]) rfl rfl) rfl fun fr r=>aa (.bool (D.aV a0).2) r (fun R=>bZ r (vs:=#[(z6 (aQ (D.aV a0).1)),(.bool (D.aV a0).2)]) rfl rfl) rfl fun fr r=>?_;refine ah (.cells ((aQ (⟨0,0,0⟩:State))).toArray 190 (0,0)) r (fun R=>ag gu) rfl fun fr b5 w6 n7 r=>?_
 have H1:=keep n7.below H1;obtain ⟨E5,Z6,H5,hB,zB⟩:=n7.all hB;refine aM (.cells ((aQ ((D.aV a0).1))).toArray 190 (0,0)) r (fun R=>bb r (o:=0) (v:=(z6 (aQ (D.aV a0).1))) rfl rfl H5 eS u7 rfl rfl) rfl fun fr w8 u9 r=>?_;have Z8:=u9.size
 have H1:=u9.keep H1 O
 have H5:=u9.at_;obtain ⟨hB,zB⟩:=u9.on hB O
 refine kA (.bool (D.aV a0).2) r rfl rfl fun r=>wn (d9 ?_);refine bI 7 [.val (z6 (ac c0)),.val (I c1),.val (I (D.dc c0 c1)),.val (z6 (aQ (D.aV a0).1)),.val (.agg (aQ (D.gF ((D.aV a0).1))).toArray),.val (U (D.cq (D.gF ((D.aV a0).1)))),.val (.func (.func 189) #[] #[zp I5,zp IU,zp IE])] mixed r kz (kV (kV (kV (kV (kV (kV (kV bH))))))) ?_ ?_
 ·
  refine ec r (fun _ u _ b d s=>aU s (cs:=(ac c0)) (n:=6) rfl (cr hB b I3) IJ rfl bz) (ec r (fun _ u _ b d s=>ax s rfl (cr hB b IA) IL rfl bz) (ec r (fun I2 u w' hb' hd r'=>aN r' (args:=[(z6 (ac c0)),(I c1)]) (lc hd.1 (lc hd.2.1 l0)) kp ((ji _ c0 c1).mono JL)) (ec r (fun _ u _ b d s=>aU s (cs:=(aQ ((D.aV a0).1))) (n:=3) rfl (keep b H5) dY rfl bz) (ec r (fun I2 u w' hb' hd r'=>aN r' (args:=[(z6 (aQ (D.aV a0).1))]) (lc hd.1 l0) GX ((A8 _ ((D.aV a0).1)).mono JL)) (ec r (fun I2 u w' hb' hd r'=>aN r' (args:=[(.agg (aQ (D.gF ((D.aV a0).1))).toArray)]) (lc hd.1 l0) sD ((l4 _ (D.gF ((D.aV a0).1))).mono JL)) (ec r (fun _ u _ b d s=>aZ s (v:=(.func (.func 189) #[] #[zp I5,zp IU,zp IE])) rfl bz) ?_))))));exact bJ
 intro fr u J8 hb Iz hne r;have r:=r.congr (sc (Iz 6 ke) (sc (Iz 5 ke) (sc (Iz 4 ke) (sc (Iz 3 ke) (sc (Iz 2 ke) (sc (Iz 1 ke) (sc (Iz 0 ke) rfl)))))));have Z10:=hb.size;have H1:=keep hb H1;have H5:=keep hb H5;obtain ⟨hB,zB⟩:=IQ hb hB;have I4:=aP hF hB b1;have f11:((kW F w0 J8 b1)) I5:=(.inl J9);have f12:((kW F w0 J8 b1)) IU:=(.inl c2F);have f13:((kW F w0 J8 b1)) IE:=(.inl Ka);refine kD r (gH (F:=(kW F w0 J8 b1)) (n:=n) I4 (D.dc c0 c1) (D.cq (D.gF ((D.aV a0).1))) ⟨189,[],[zp I5,zp IU,zp IE],GP,rfl,fun m hm _ w' hs hz=>AA (j:=j) (fun b hb=>q9 (I4 b hb) hz) O c0 f11 (hs.at_ f11 (keep hB I3)) c2 f12 (hs.at_ f12 (keep hB IR)) c1 f13 (hs.at_ f13 (keep hB IA))⟩) rfl iz rfl fun w14 JF hb KM r=>?_;have Z14:=hb.size
 have H1:=keep hb H1;have H5:=keep hb H5;obtain ⟨hB,zB⟩:=IQ hb hB;refine kP r KM.shape rfl rfl H1 bv rfl rfl fun w17 K7 r=>?_;have Z17:=K7.size
 have H5:=K7.keep H5 O
 have H1:=K7.at_;obtain ⟨hB,zB⟩:=K7.on hB O
 exact wn (q4 (kR r KM rfl rfl H1 rfl bu hF hB K7 O O O))
def D.gO (j:Nat) (a0:Plan) (a1:Int) (a2:Int):T Int:=(D.dL (D.dc a0 a2) (fun x=>(D.qk j a0 a2 a1 x)))
theorem ue (hF:kH F w0) (hj:n<j)
    (a0:Plan) (a1:Int) (a2:Int) :
    Calls B0 104 #[z6 (ac a0),.int .i64 a1,.int .i64 a2] w0 (aH B0 aj n (D.gO j a0 a1 a2) F w0):=by
 refine kN Tryz.func104 rfl 12 rfl rfl fun fr r hB=>?_;refine I0 ?_
 refine kX 23 (z6 (ac a0)) r rfl rfl fun b1 w2 n3 r=>?_;obtain ⟨E1,Z2,H1,hB,zB⟩:=n3.all hB
 refine kX 3 (I a1) r rfl rfl fun b4 w5 n6 r=>?_;have H1:=keep n6.below H1
 obtain ⟨E4,Z5,H4,hB,zB⟩:=n6.all hB;refine kX 3 (I a2) r rfl rfl fun b7 w8 n9 r=>?_;have H1:=keep n9.below H1
 have H4:=keep n9.below H4;obtain ⟨E7,Z8,H7,hB,zB⟩:=n9.all hB;refine ah (.cells (kq aj) 119 (0,0)) r (fun R=>ag bP) rfl fun fr b10 JV JN r=>?_;have H1:=keep JN.below H1
 have H4:=keep JN.below H4;have H7:=keep JN.below H7;obtain ⟨E10,Z11,Jp,hB,zB⟩:=JN.all hB;refine wn (I0 (kG (ac a0) 6 r rfl H1 IJ rfl rfl fun r=>kL (I a2) r rfl H7 IL rfl rfl fun r=>?_));refine kE r (ji JV a0 a2) rfl kp rfl fun Kc hb r=>?_
 have Z13:=hb.size;have H1:=keep hb H1;have H4:=keep hb H4;have H7:=keep hb H7;have Jp:=keep hb Jp;obtain ⟨hB,zB⟩:=IQ hb hB;refine aa (.func (.func 187) #[] #[zp b1,zp b7,zp b4]) r (fun R=>aZ r rfl) rfl fun fr r=>?_;have I4:=aP hF hB b10
 have f14:((kW F w0 Kc b10)) b1:=(.inr ⟨O,O,O⟩)
 have f15:((kW F w0 Kc b10)) b7:=(.inr ⟨O,O,O⟩)
 have f16:((kW F w0 Kc b10)) b4:=(.inr ⟨O,O,O⟩)
 refine kD r (fP (F:=(kW F w0 Kc b10)) (n:=n) I4 (D.dc a0 a2) ⟨187,[],[zp b1,zp b7,zp b4],Hk,rfl,fun m hm x w' hs hz=>Bc (j:=j) (fun b hb=>q9 (I4 b hb) hz) O a0 f14 (hs.at_ f14 H1) a2 f15 (hs.at_ f15 H7) a1 f16 (hs.at_ f16 H4) x⟩) rfl gx rfl fun w17 v18 hb KI r=>?_;have Z17:=hb.size
 have H1:=keep hb H1;have H4:=keep hb H4;have H7:=keep hb H7;have Jp:=keep hb Jp;obtain ⟨hB,zB⟩:=IQ hb hB;refine kP r KI.shape rfl rfl Jp bv rfl rfl fun w20 u21 r=>?_;have Z20:=u21.size
 have H1:=u21.keep H1 O
 have H4:=u21.keep H4 O
 have H7:=u21.keep H7 O
 have Jp:=u21.at_;obtain ⟨hB,zB⟩:=u21.on hB O
 exact wn (q4 (kR r KI rfl rfl Jp rfl bu hF hB u21 O O O))
end
theorem G0:af B0 102:=kz
theorem cl14:af B0 14:=kz
theorem cl57:af B0 57:=kz
theorem rH:ba B0 113 0 0:=kz
theorem wF:ba B0 113 2 2:=kz
theorem to33:tyO B0 33:=kz
theorem ts23:sized B0 23 6:=kz
theorem tz23:zeroOf B0 23=some (z6 (ac (⟨0,0,0,0,0,0⟩:Plan))):=kz
end Go.Proofs.YtbbipmelhmgmfaaGreat

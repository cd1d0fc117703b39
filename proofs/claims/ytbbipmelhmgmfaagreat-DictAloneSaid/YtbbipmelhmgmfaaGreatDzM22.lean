/- Some of our texts, one behind the other. -/
import Derived.Test.YtbbipmelhmgmfaaGreatDzM21
import Derived.Test.YtbbipmelhmgmfaaGreatDzRetires
import Derived.Test.YtbbipmelhmgmfaaGreatDzMem
set_option linter.all false
set_option maxRecDepth 100000
set_option maxHeartbeats 20000000
/- Ours. -/
namespace Go.Proofs.YtbbipmelhmgmfaaGreat
open Go.RowKit
/-! ### Entries -/
def loE (k:Int) (E:List Entry):List Entry:=E.takeWhile fun (e:Entry)=>decide (e.key<k)
def hiE (k:Int) (E:List Entry):List Entry:=E.dropWhile fun (e:Entry)=>decide (e.key<k)
def J7 (k:Int) (E:List Entry):Bool:=match hiE k E with
 | []=>false
 | e::_=>e.key==k
def insE (k v:Int) (E:List Entry):List Entry:=loE k E++⟨k,v⟩::hiE k E
def delE (k:Int) (E:List Entry):List Entry:=if J7 k E=true then loE k E++(hiE k E).tail else E
def KC (k:Int) (E:List Entry):IM:=match hiE k E with
 | []=>⟨6,0⟩
 | e::_=>if e.key=k then ⟨0,e.value⟩ else ⟨6,0⟩
def IB (p:Plan) (ws:List Int) (l:List Int):List Entry:=l.map fun q=>⟨rd ws (fp p q 0),rd ws (fp p q 1)⟩
theorem cutE {k:Int} {A B:List Entry} (hA:∀ e,e∈A->e.key<k) (hB:∀ e,B.head?=some e->k<=e.key):loE k (A++B)=A/\hiE k (A++B)=B:=by
 unfold loE hiE;rw [List.takeWhile_append_of_pos (fun e he=>decide_eq_true (hA e he)),List.dropWhile_append_of_pos (fun e he=>decide_eq_true (hA e he))]
 cases B with
 | nil=>simp
 | cons e B=>
  have:¬ e.key<k:=by have:=hB e rfl; omega
  simp [List.takeWhile_cons,List.dropWhile_cons,this]
theorem oz {p:Plan} {ws:List Int} {k:Int} {pre Jk:List Int} (h1:∀ q,q∈pre->rd ws (fp p q 0)<k) (h2:∀ q,Jk.head?=some q->k<=rd ws (fp p q 0)) :
  loE k (IB p ws (pre++Jk))=IB p ws pre/\hiE k (IB p ws (pre++Jk))=IB p ws Jk:=by
 unfold IB;rw [List.map_append];refine cutE (fun e he=>?_) (fun e he=>?_)
 ·obtain ⟨q,hq,rfl⟩:=List.mem_map.1 he
  exact h1 q hq
 ·cases Jk with
  | nil=>cases he
  | cons q s=>
   simp only [List.map_cons,List.head?_cons,Option.some.injEq] at he
   subst he;exact h2 q rfl
theorem wo {p:Plan} {ws:List Int} {k:Int} {Jk:List Int}:(∃ q,Jk.head?=some q/\rd ws (fp p q 0)=k)↔(match IB p ws Jk with | []=>false | e::_=>e.key==k)=true:=by
 cases Jk with
 | nil=>exact ⟨fun ⟨q,h,_⟩=>(by cases h),fun h=>(by cases h)⟩
 | cons q s=>
  constructor
  ·rintro ⟨x,hx,h⟩
   obtain rfl:q=x:=by simpa using hx
   simpa [IB] using h
  ·intro h
   exact ⟨q,rfl,by simpa [IB] using h⟩
theorem jN {p:Plan} {ws I7:List Int} {l:List Int} (h:∀ q f,q∈l->0<=f->f<2->rd I7 (fp p q f)=rd ws (fp p q f)):IB p I7 l=IB p ws l:=by
 unfold IB;exact List.map_congr_left fun q hq=>by rw [h q 0 hq O O,h q 1 hq O O]
def Kh (E:List Entry):Prop:=E.Pairwise fun (a b:Entry)=>a.key<b.key
theorem Kh.split {k:Int} {E:List Entry}:E=loE k E++hiE k E:=(List.takeWhile_append_dropWhile ..).symm
theorem pA {k:Int} {E:List Entry} {e:Entry} (h:e∈loE k E):e.key<k:=by
 unfold loE at h
 induction E with
 | nil=>cases h
 | cons a E ih=>
  rw [List.takeWhile_cons] at h
  by_cases ha:a.key<k
  ·rw [decide_eq_true ha] at h
   rcases List.mem_cons.1 h with rfl | h
   ·exact ha
   ·exact ih h
  ·rw [decide_eq_false ha] at h
   cases h
theorem rD {k:Int} {E:List Entry} {e:Entry} {r:List Entry} (h:hiE k E=e::r):k<=e.key:=by
 unfold hiE at h
 induction E with
 | nil=>cases h
 | cons a E ih=>
  rw [List.dropWhile_cons] at h
  by_cases ha:a.key<k
  ·rw [decide_eq_true ha] at h
   exact ih h
  ·rw [decide_eq_false ha] at h
   simp only [Bool.false_eq_true,if_false,List.cons.injEq] at h
   rw [<-h.1]; omega
theorem Kh.xo {k:Int} {E:List Entry} (h:Kh E) {e:Entry} (he:e∈hiE k E):k<=e.key:=by
 have h2:Kh (hiE k E):=by
  have:=h;rw [Kh.split (k:=k) (E:=E)] at this
  exact (List.pairwise_append.1 this).2.1
 cases hh:hiE k E with
 | nil=>rw [hh] at he; cases he
 | cons a r=>
  have h1:=rD hh;rw [hh] at he h2
  rcases List.mem_cons.1 he with rfl | he
  ·exact h1
  ·have:=(List.pairwise_cons.1 h2).1 e he
   omega
theorem Kh.jT {k:Int} {E:List Entry} (h:Kh E):J7 k E=true↔∃ v,(⟨k,v⟩:Entry)∈E:=by
 constructor
 ·intro hk
  unfold J7 at hk
  cases hh:hiE k E with
  | nil=>rw [hh] at hk; cases hk
  | cons a r=>
   rw [hh] at hk
   have:a.key=k:=by simpa using hk
   refine ⟨a.value,?_⟩;rw [Kh.split (k:=k) (E:=E),hh];exact List.mem_append_right _ (by rw [<-this]; exact List.mem_cons_self ..)
 ·rintro ⟨v,hv⟩
  rw [Kh.split (k:=k) (E:=E)] at hv
  rcases List.mem_append.1 hv with hv | hv
  ·have:k<k:=pA hv
   omega
  ·unfold J7
   have h2:Kh (hiE k E):=by
    have:=h;rw [Kh.split (k:=k) (E:=E)] at this
    exact (List.pairwise_append.1 this).2.1
   cases hh:hiE k E with
   | nil=>rw [hh] at hv; cases hv
   | cons a r=>
    have h1:=rD hh;rw [hh] at hv h2
    rcases List.mem_cons.1 hv with e | hv
    ·rw [<-e]; simp
    ·have:a.key<k:=(List.pairwise_cons.1 h2).1 _ hv
     omega
theorem Kh.ins {k v:Int} {E:List Entry} (h:Kh E) (hk:J7 k E=false):Kh (insE k v E):=by
 have h0:=h;rw [Kh.split (k:=k) (E:=E)] at h0
 obtain ⟨h1,h2,h3⟩:=List.pairwise_append.1 h0;refine List.pairwise_append.2 ⟨h1,List.pairwise_cons.2 ⟨fun e he=>?_,h2⟩,fun a ha b hb=>?_⟩
 ·have h4:=h.xo he
  have:e.key≠k:=fun e1=>by
   have:J7 k E=true:=h.jT.2 ⟨e.value,by rw [Kh.split (k:=k) (E:=E)]; exact List.mem_append_right _ (by have e2:e=⟨k,e.value⟩:=(by cases e; simp at e1; rw [e1]); rw [<-e2]; exact he)⟩
   rw [hk] at this; cases this
  show k<e.key
  omega
 ·rcases List.mem_cons.1 hb with rfl | hb
  ·exact pA ha
  ·exact h3 a ha b hb
theorem Kh.sub {E E':List Entry} (h:Kh E) (hs:E'.Sublist E):Kh E':=List.Pairwise.sublist hs h
theorem Kh.del {k:Int} {E:List Entry} (h:Kh E):Kh (delE k E):=by
 unfold delE
 split
 ·refine h.sub ?_
  conv=>rhs; rw [Kh.split (k:=k) (E:=E)]
  exact List.Sublist.append_left (List.tail_sublist _) _
 ·exact h
theorem wh {P:Pool} {m n q:Int} (h:q∈(P.back m n).fr):q=n\/q∈P.fr:=by
 by_cases e:(D.bR (P.st n) m).mode=3
 ·have ef:(P.back m n).fr=P.fr:=if_pos e
  rw [ef] at h; exact .inr h
 ·have ef:(P.back m n).fr=n::P.fr:=if_neg e
  rw [ef] at h; exact List.mem_cons.1 h
/-! ### A list in memory -/
def Alone (p:Plan) (ws:List Int):Prop:=∀ j,0<=j->j<p.threads * 3->rd ws (D.aL p+j)=0
theorem Alone.held {p:Plan} {ws:List Int} (h:Alone p ws) {n:Int} (hn:0<=n):¬ heldW p ws n:=by
 rintro ⟨j,j0,j1,hj⟩;rw [h j j0 j1] at hj
 omega
structure LAt (p:Plan) (t:Int) (ws:List Int) (P:Pool) (g c:Int) (l:List Int):Prop where
 pool:J5 p t ws P g
 own:∀ j,0<=j->j<3->rd ws (D.aL p+t * 3+j)=0
 link:br p ws c l
 nd:l.Nodup
 out:∀ q,q∈l->q ∉ P.fr/\q ∉ P.rt
 inc:Kh (IB p ws l)
def KeptL (p:Plan) (t:Int) (P:Pool) (c:Int) (l ws I7:List Int):Prop:=
 I7.length=ws.length/\∀ j,0<j->(∀ n,n∈P.fr\/n∈P.rt\/n∈l->¬ bL p n j)->¬ (rb p t<=j/\j<rb p t+1+p.retire)->j≠c->rd I7 j=rd ws j
theorem KeptL.refl (p:Plan) (t:Int) (P:Pool) (c:Int) (l ws:List Int):KeptL p t P c l ws ws:=⟨rfl,fun _ _ _ _ _=>rfl⟩
section
variable {p : Plan} (hp : PF p) (hnn : p.nodes <= 1000) {t : Int} (ht : 0 <= t /\ t < p.threads) {ws : List Int} {P : Pool} {g c : Int} {l : List Int} (h : LAt p t ws P g c l) (hc : 0 < c /\ c < D.aL p)
include hp hnn ht h hc
theorem LAt.range {n:Int} (hn:n∈P.fr\/n∈P.rt\/n∈l):0<=n/\n<p.nodes:=by
 rcases hn with hn | hn | hn
 ·exact h.pool.free.range n hn
 ·exact h.pool.ret.range n hn
 ·exact h.link.range n hn
theorem LAt.alone {I7:List Int} (hk:KeptL p t P c l ws I7) (ha:Alone p ws):Alone p I7:=fun j j0 j1=>by
 obtain ⟨z1,z2,z3,z4⟩:=cE hp;obtain ⟨b1,b2,b3⟩:=dq hp ht;rw [hk.2 _ O (fun n hn=>by have:=h.range hp hnn ht hc hn; unfold bL; omega) O O]
 exact ha j j0 j1
theorem LAt.j6:l.length<=p.nodes.toNat:=by
 have:=ri (k:=allN p) h.nd fun q hq=>by
  have:=h.link.range q hq;exact List.mem_map.2 ⟨q.toNat,List.mem_range'_1.2 O,O⟩
 have h2:(allN p).length=p.nodes.toNat:=by unfold allN; simp
 omega
theorem LAt.get (J:Nat) (hJ:1100<J) (k:Int):∃ m,m<=9 * l.length+7/\I6 (D.iZ (J+1) ⟨p,0,t⟩ c k) ws m (KC k (IB p ws l)) ws:=by
 obtain ⟨z1,z2,z3,z4⟩:=cE hp;have hn1:=hp.n1;have ht1:=hp.t1;have hll:=h.j6 hp hnn ht hc;obtain ⟨m,pre,Jk,hm,e,k1,k2,hr⟩:=DH hp hnn ht J (c:=c) (k:=k) h.pool.free.len O O O O O h.link h.own;refine ⟨m,hm,?_⟩;have:KC k (IB p ws l)=gotR ws p k Jk:=by
  unfold KC;rw [e,(oz k1 k2).2];unfold gotR;cases Jk <;> rfl
 rw [this]
 exact hr
theorem LAt.del (J d:Nat) (hJ:1100<J) (hg:g<900000) (k:Int) (hh:¬ (P.rt.length:Int)<p.retire->∀ n,n∈P.rt->¬ heldW p ws n) :
  ∃ (m:Nat) (I7:List Int) (P':Pool) (g':Int) (l':List Int),m<=9 * l.length+70 * P.rt.length+21/\g'<=g+P.rt.length/\I6 (D.eV (J+1) (d+1) ⟨p,0,t⟩ c k) ws m (KC k (IB p ws l)) I7/\LAt p t I7 P' g' c l'/\KeptL p t P c l ws I7/\IB p I7 l'=delE k (IB p ws l)/\
   ((J7 k (IB p ws l)=false/\I7=ws/\P'=P/\g'=g/\l'=l)\/(J7 k (IB p ws l)=true/\∃ pre n Jk,l=pre++n::Jk/\l'=pre++Jk/\P'=dropP p P n/\(loE k (IB p ws l)).length=pre.length)):=by
 obtain ⟨z1,z2,z3,z4⟩:=cE hp;obtain ⟨b1,b2,b3⟩:=dq hp ht;have hn1:=hp.n1;have ht1:=hp.t1;have hll:=h.j6 hp hnn ht hc;have hfp:∀ q f,fp p q f=D.aO p+q * 5+2+f:=fun q f=>rfl
 obtain ⟨pre,Jk,e,k1,k2,hx⟩:=D1 hp hnn ht J d (k:=k) h.pool hg O hJ hc.1 hc.2 h.link h.nd h.out h.own hh;have hcut:=oz k1 k2;rw [<-e] at hcut
 rcases hx with ⟨hno,m,hm,hr⟩ | ⟨n,Lb,rfl,hkn,m,w3,g',hm,hg',hr,hP,hl3,hL,hown,Jb⟩
 ·have hhas:J7 k (IB p ws l)=false:=by
   cases hb:J7 k (IB p ws l) with
   | false=>rfl
   | true=>
    unfold J7 at hb
    rw [hcut.2] at hb
    exact absurd (wo.2 hb) hno
  have hget:KC k (IB p ws l)=⟨6,0⟩:=by
   unfold KC;unfold J7 at hhas
   cases hh':hiE k (IB p ws l) with
   | nil=>rfl
   | cons a r=>rw [hh'] at hhas; simp only; rw [if_neg (by simpa using hhas)]
  refine ⟨m,ws,P,g,l,O,O,by rw [hget]; exact hr,h,KeptL.refl ..,?_,.inl ⟨hhas,rfl,rfl,rfl,rfl⟩⟩
  unfold delE;rw [if_neg (by rw [hhas]; simp)]
 ·have hhi:hiE k (IB p ws l)=⟨k,rd ws (fp p n 1)⟩::IB p ws Lb:=by rw [hcut.2,<-hkn]; rfl
  have hhas:J7 k (IB p ws l)=true:=by unfold J7; rw [hhi]; simp
  have hget:KC k (IB p ws l)=⟨0,rd ws (fp p n 1)⟩:=by unfold KC; rw [hhi]; simp
  have hdd:=List.nodup_append.1 (e ▸ h.nd);have hin:∀ q,q∈pre++Lb->q∈l/\q≠n:=fun q hq=>by
   rcases List.mem_append.1 hq with hq | hq
   ·exact ⟨by rw [e]; exact List.mem_append_left _ hq,fun e=>hdd.2.2 q hq n (List.mem_cons_self ..) e⟩
   ·exact ⟨by rw [e]; exact List.mem_append_right _ (List.mem_cons_of_mem _ hq),fun e=>(List.nodup_cons.1 hdd.2.1).1 (e ▸ hq)⟩
  have hkeep:∀ q f,q∈pre++Lb->0<=f->f<2->rd w3 (fp p q f)=rd ws (fp p q f):=fun q f hq f0 f1=>by
   obtain ⟨hql,hqn⟩:=hin q hq;have hqr:=h.link.range q hql;obtain ⟨o1,o2⟩:=h.out q hql;refine Jb _ yal (fun x hx=>?_) yal ?_
   ·have hxr:0<=x/\x<p.nodes:=h.range hp hnn ht hc (by
     rcases hx with hx | hx | rfl
     ·exact .inl hx
     ·exact .inr (.inl hx)
     ·exact .inr (.inr (by rw [e]; exact List.mem_append_right _ (List.mem_cons_self ..))))
    have hne:x≠q:=fun e=>by
     subst e
     rcases hx with hx | hx | hx
     ·exact o1 hx
     ·exact o2 hx
     ·exact hqn hx
    unfold bL; rw [hfp]; omega
   ·rcases List.eq_nil_or_concat pre with hpre | ⟨s,z,hpre⟩
    ·rw [hpre]
     show fp p q f≠c
     rw [hfp]; omega
    ·obtain ⟨x,hx,e2⟩:=gb (p:=p) (pre:=pre) (a:=c) (by rw [hpre]; simp)
     rw [e2,hfp,hfp]; omega
  have hent:IB p w3 (pre++Lb)=delE k (IB p ws l):=by
   rw [jN hkeep]
   unfold delE;rw [if_pos hhas,hcut.1,hhi];unfold IB;rw [List.map_append]
   rfl
  have hsub:∀ q,q∈(dropP p P n).fr->q∈P.fr\/q∈P.rt:=fun q hq=>by
   unfold dropP Pool.stash at hq
   split at hq
   ·exact .inl hq
   ·have hq':q∈((⟨P.fr,P.rt,fun q=>if q=n then ⟨(P.st n).IP,2,(P.st n).kind⟩ else P.st q⟩:Pool).scan p.IP).fr:=hq
    rcases gk (P:=⟨P.fr,P.rt,fun q=>if q=n then ⟨(P.st n).IP,2,(P.st n).kind⟩ else P.st q⟩) h.pool.nod hq' with h1 | h1
    ·exact .inr h1
    ·exact .inl h1
  have hsub2:∀ q,q∈(dropP p P n).rt->q∈P.rt\/q=n:=fun q hq=>by
   unfold dropP Pool.stash at hq
   rcases List.mem_append.1 hq with hq | hq
   ·split at hq
    ·exact .inl hq
    ·have:((⟨P.fr,P.rt,fun q=>if q=n then ⟨(P.st n).IP,2,(P.st n).kind⟩ else P.st q⟩:Pool).scan p.IP).rt=[]:=fG _ _ _
     rw [this] at hq; cases hq
   ·exact .inr (List.mem_singleton.1 hq)
  refine ⟨m,w3,dropP p P n,g',pre++Lb,hm,hg',by rw [hget]; exact hr,⟨hP,hown,hL,?_,fun q hq=>⟨fun hf=>?_,fun hf=>?_⟩,by rw [hent]; exact h.inc.del⟩,⟨hl3,fun j j0 h1 h2 h3=>?_⟩,hent,.inr ⟨hhas,pre,n,Lb,e,rfl,rfl,by rw [hcut.1]; unfold IB; simp⟩⟩
  ·refine List.nodup_append.2 ⟨hdd.1,(List.nodup_cons.1 hdd.2.1).2,fun a ha b hb=>hdd.2.2 a ha b (List.mem_cons_of_mem _ hb)⟩
  ·obtain ⟨o1,o2⟩:=h.out q (hin q hq).1
   rcases hsub q hf with h1 | h1
   ·exact o1 h1
   ·exact o2 h1
  ·obtain ⟨o1,o2⟩:=h.out q (hin q hq).1
   rcases hsub2 q hf with h1 | h1
   ·exact o2 h1
   ·exact (hin q hq).2 h1
  ·refine Jb j j0 (fun q hq=>h1 q ?_) h2 ?_
   ·rcases hq with hq | hq | rfl
    ·exact .inl hq
    ·exact .inr (.inl hq)
    ·exact .inr (.inr (by rw [e]; exact List.mem_append_right _ (List.mem_cons_self ..)))
   ·rcases List.eq_nil_or_concat pre with hpre | ⟨s,z,hpre⟩
    ·rw [hpre]; exact h3
    ·obtain ⟨x,hx,e2⟩:=gb (p:=p) (pre:=pre) (a:=c) (by rw [hpre]; simp)
     intro e3;refine h1 x (.inr (.inr yaL)) ?_;unfold bL; rw [e3,e2,hfp]; omega
omit h hc in
theorem Db (J:Nat) {n gn k v:Int} {Q:Pool} (hQ:J5 p t ws Q g) (hg:g<1000000) (hd:l.length<J) (hJ:1100<J) (hc:0<c/\c<D.aL p) (hL:br p ws c l)
    (hz:∀ j,0<=j->j<3->rd ws (D.aL p+t * 3+j)=0) (hn:0<=n/\n<p.nodes) (hnf:n ∉ Q.fr) (hnr:n ∉ Q.rt) (hnl:n ∉ l) (hout:∀ q,q∈l->q ∉ Q.fr) :
    ∃ pre Jk,l=pre++Jk/\(∀ q,q∈pre->rd ws (fp p q 0)<k)/\(∀ q,Jk.head?=some q->k<=rd ws (fp p q 0))/\
      (((∃ q,Jk.head?=some q/\rd ws (fp p q 0)=k)/\∃ (m:Nat) (w3:List Int) (g':Int),m<=9 * l.length+17/\g'<=g+1/\I6 (D.fB (J+1) ⟨p,0,t⟩ k v c ⟨n,gn,0⟩) ws m ⟨7,0⟩ w3/\J5 p t w3 (Q.back p.IP n) g'/\w3.length=ws.length/\
          ∀ j,0<j->¬ bL p n j->rd w3 j=rd ws j)\/
       ((¬ ∃ q,Jk.head?=some q/\rd ws (fp p q 0)=k)/\∃ (m:Nat) (w3:List Int),m<=9 * l.length+11/\I6 (D.fB (J+1) ⟨p,0,t⟩ k v c ⟨n,gn,0⟩) ws m ⟨0,0⟩ w3/\J5 p t w3 Q g/\w3.length=ws.length/\
          ∀ j,0<=j->rd w3 j=if j=bM p c pre then (n+1) * 2 else if j=fp p n 2 then lw Jk else if j=fp p n 1 then v else if j=fp p n 0 then k else rd ws j)):=by
  obtain ⟨z1,z2,z3,z4⟩:=cE hp;have hn1:=hp.n1;have hl:(ws.length:Int)=D.bF p:=hQ.free.len;have hfp:∀ q f,fp p q f=D.aO p+q * 5+2+f:=fun q f=>rfl
  have hsp:∀ q,sp p q=D.aO p+q * 5:=fun q=>rfl
  obtain ⟨f1,f2,f3,f4⟩:=eJ hp ht (f:=0) hn O;obtain ⟨v1,v2,v3,v4⟩:=eJ hp ht (f:=1) hn O;obtain ⟨u,hu⟩:∃ u,u=(ws.set (fp p n 0).toNat k).set (fp p n 1).toNat v:=⟨_,rfl⟩;have hul:u.length=ws.length:=by rw [hu]; simp
  have hur:∀ j,0<=j->rd u j=if j=fp p n 1 then v else if j=fp p n 0 then k else rd ws j:=fun j hj=>by
    rw [hu,bX O yaD hj,bX O O hj]
  have huq:∀ q f,q≠n->0<=q->0<=f->f<3->rd u (fp p q f)=rd ws (fp p q f):=fun q f hq q0 f0 f1=>by
    rw [hur _ yal,if_neg yay,if_neg yay]
  have hQu:J5 p t u Q g:=hQ.beside hp ht (fun j=>j=fp p n 1\/j=fp p n 0) (fun j hj=>by
    rcases hj with rfl | rfl
    · exact .inr ⟨n,1,hn,hnf,O,rfl⟩
    · exact .inr ⟨n,0,hn,hnf,O,rfl⟩) hul fun j hj hne=>by rw [hur j hj,if_neg fun e=>hne (.inl e),if_neg fun e=>hne (.inr e)]
  have hql:∀ q,q∈l->q≠n/\0<=q:=fun q hq=>⟨fun e=>hnl (e ▸ hq),(hL.range q hq).1⟩
  have hLu:br p u c l:=hL.keepW (by rw [hur c O,if_neg (by rw [hfp]; omega),if_neg (by rw [hfp]; omega)]) fun q hq=>huq q 2 (hql q hq).1 (hql q hq).2 O O
  have hzu:∀ j,0<=j->j<3->rd u (D.aL p+t * 3+j)=0:=fun j j0 j1=>by
    rw [hur _ O,if_neg yal,if_neg yal]; exact hz j j0 j1
  obtain ⟨pre,Jk,e,k1,k2,hx⟩:=Dd hp hnn ht J J (k:=k) (n:=n) hQu.free.len hd O O hc.2 hLu hzu hn hnl;have hkq:∀ q,q∈l->rd u (fp p q 0)=rd ws (fp p q 0):=fun q hq=>huq q 0 (hql q hq).1 (hql q hq).2 O O
  have hps:∀ q,Jk.head?=some q->q∈l:=fun q hq=>by rw [e]; exact List.mem_append_right _ (List.mem_of_mem_head? hq)
  have hrun:∀ {m:Nat} {x:IM} {w':List Int},I6 (D.gm (J+1) (J+1) ⟨p,0,t⟩ c k n) u m x w'->I6 (D.fB (J+1) ⟨p,0,t⟩ k v c ⟨n,gn,0⟩) ws (m+2) x w':=fun {m x w'} hr=>by
    unfold D.fB;show I6 (D.fq (D.bo p n 0) k _) _ _ _ _
    rw [f1]
    refine qH (n:=m+1) O O ?_;unfold D.nN;show I6 (D.fq (D.bo p n 1) v _) _ _ _ _
    rw [v1]
    refine qH (n:=m) O yaD ?_;rw [<-hu];exact hr
  refine ⟨pre,Jk,e,fun q hq=>by rw [<-hkq q (by rw [e]; exact List.mem_append_left _ hq)]; exact k1 q hq,fun q hq=>by rw [<-hkq q (hps q hq)]; exact k2 q hq,?_⟩
  have hex:(∃ q,Jk.head?=some q/\rd u (fp p q 0)=k)↔∃ q,Jk.head?=some q/\rd ws (fp p q 0)=k:=
    ⟨fun ⟨q,hq,h⟩=>⟨q,hq,by rw [<-hkq q (hps q hq)]; exact h⟩,fun ⟨q,hq,h⟩=>⟨q,hq,by rw [hkq q (hps q hq)]; exact h⟩⟩
  rw [hex] at hx
  rcases hx with ⟨hhas,hR⟩ | ⟨hno,m,w3,hm,hr,hl3,hw3⟩
  · obtain ⟨K,hK⟩:∃ K,J+1=K+4:=⟨J - 3,O⟩
    have hof:=(hQu.st n hn.1 hn.2).of;rw [hsp] at hof
    obtain ⟨w3,hrr,hRec⟩:=uy hp (ws:=u) (n:=n) (l:=Q.fr) (g:=g) hn O O hQu.free hnf (t:=D.bR (Q.st n) p.IP) (by rw [hof]) K;rw [<-hK] at hrr
    obtain ⟨g',hg',hP'⟩:=BI hp ht hQu hn hnr hnf hRec;obtain ⟨m,hm,hr⟩:=hR _ _ _ hrr;refine .inl ⟨hhas,m+2,w3,g',?_,hg',hrun hr,hP',by rw [hRec.len,hul],fun j j0 hj=>?_⟩
    · have:(if (D.bR (Q.st n) p.IP).mode=3 then 5 else 8:Nat)<=8:=by split <;> omega
      omega
    · rw [hRec.others j j0 hj,hur j O,if_neg fun e=>hj (by unfold bL; rw [hfp] at e; omega),if_neg fun e=>hj (by unfold bL; rw [hfp] at e; omega)]
  · refine .inr ⟨hno,m+2,w3,O,hrun hr,?_,by have:(w3.length:Int)=D.bF p:=hl3; omega,fun j hj=>by rw [hw3 j hj,hur j hj]⟩
    have hl3':(w3.length:Int)=D.bF p:=hl3;refine hQu.beside hp ht (fun j=>j=bM p c pre\/j=fp p n 2) (fun j hj=>?_) O fun j hj hne=>by rw [hw3 j hj,if_neg fun e=>hne (.inl e),if_neg fun e=>hne (.inr e)]
    rcases hj with rfl | rfl
    · rcases gi p c pre with ⟨e',_⟩ | ⟨q,hq,e'⟩
      · exact .inl (by rw [e']; exact hc)
      · have hq':q∈l:=by rw [e]; exact List.mem_append_left _ hq
        exact .inr ⟨q,2,hL.range q hq',hout q hq',O,e'⟩
    · exact .inr ⟨n,2,hn,hnf,O,rfl⟩
theorem LAt.add (hdm:0<p.domains) (hn40:p.nodes<=40) (ha:Alone p ws) (J:Nat) (hJ:1100<J) (hg:g<900000) (k v:Int) :
    ∃ (m:Nat) (I7:List Int) (P':Pool) (g':Int) (l':List Int) (res:IM),m<=9 * l.length+70 * P.rt.length+30/\g'<=g+P.rt.length+2/\I6 (D.jR (J+1) ⟨p,0,t⟩ c k v) ws m res I7/\LAt p t I7 P' g' c l'/\KeptL p t P c l ws I7/\Alone p I7/\
      (((P.grant p.IP 2).2=⟨-1,0,4⟩/\res=⟨4,0⟩/\P'=(P.grant p.IP 2).1/\l'=l/\IB p I7 l'=IB p ws l)\/
       (∃ (Q:Pool) (n:Int) (fr:List Int),(Q=P\/Q=P.scan p.IP)/\Q.fr=n::fr/\P.grant p.IP 2=Q.out 2/\(P.grant p.IP 2).2.node=n/\
         ((J7 k (IB p ws l)=true/\res=⟨7,0⟩/\P'=(P.grant p.IP 2).1.back p.IP n/\l'=l/\IB p I7 l'=IB p ws l)\/
          (J7 k (IB p ws l)=false/\res=⟨0,0⟩/\P'=(P.grant p.IP 2).1/\IB p I7 l'=insE k v (IB p ws l)/\∃ pre Jk,l=pre++Jk/\l'=pre++n::Jk/\(loE k (IB p ws l)).length=pre.length)))):=by
  obtain ⟨z1,z2,z3,z4⟩:=cE hp;obtain ⟨b1,b2,b3⟩:=dq hp ht;have hn1:=hp.n1;have ht1:=hp.t1;have hll:=h.j6 hp hnn ht hc;have hrm:=h.pool.ret.room;have Jz:=hp.r2;have hfp:∀ q f,fp p q f=D.aO p+q * 5+2+f:=fun q f=>rfl
  have hPA:=h.pool.toAt ha;obtain ⟨m,w1,g1,hm,hg1,hr,hP1,hZ,hK⟩:=PoolAt.grantF hp hdm hn40 ht (k:=2) O hPA hg (J+1) O
  have hkf:∀ q f,q∈l->0<=f->f<3->rd w1 (fp p q f)=rd ws (fp p q f):=fun q f hq f0 f1=>by
    have hqr:=h.link.range q hq;obtain ⟨c1,c2⟩:=h.out q hq;refine hK.2 _ yal (fun q' hq' ho=>?_) yal
    have hr':=h.range hp hnn ht hc (n:=q') (hq'.imp id .inl);rw [hfp] at ho
    unfold bL at ho
    have:q'=q:=O
    subst this;exact hq'.elim c1 c2
  have hkc:rd w1 c=rd ws c:=hK.2 c O (fun q hq ho=>by
    have:=h.range hp hnn ht hc (n:=q) (hq.imp id .inl);unfold bL at ho; omega) O
  have hL1:br p w1 c l:=h.link.keepW hkc fun q hq=>hkf q 2 hq O O
  have he1:IB p w1 l=IB p ws l:=jN fun q f hq f0 f1=>hkf q f hq f0 O
  have ha1:Alone p w1:=hP1.hz;have ho1:∀ j,0<=j->j<3->rd w1 (D.aL p+t * 3+j)=0:=fun j j0 j1=>by
    have:=ha1 (t * 3+j) O O
    rw [<-Int.add_assoc] at this
    exact this
  have hK1:KeptL p t P c l ws w1:=⟨hK.1,fun j j0 h1 h2 h3=>hK.2 j j0 (fun n hn=>h1 n (hn.imp id .inl)) h2⟩
  obtain ⟨Q,hQe,hQu,hQd,hQr,hQs,hgr⟩:∃ Q:Pool,(Q=P\/Q=P.scan p.IP)/\Q.fr.Nodup/\(∀ n,n∈Q.rt->n ∉ Q.fr)/\(∀ n,n∈Q.fr->0<=n/\n<p.nodes)/\(∀ n,n∈Q.fr\/n∈Q.rt->n∈P.fr\/n∈P.rt)/\P.grant p.IP 2=Q.out 2:=by
    unfold Pool.grant
    split
    · obtain ⟨_,_,_,_,_,_,hS,_⟩:=hPA.scan hp hnn ht hg (J+1) O
      refine ⟨_,.inr rfl,hS.free.nodup,hS.dis,fun n hn=>hS.free.range n hn,fun n hn=>?_,rfl⟩
      rcases hn with hn | hn
      · exact (gk h.pool.nod hn).symm
      · have:(P.scan p.IP).rt=[]:=fG _ _ _
        rw [this] at hn; cases hn
    · exact ⟨P,.inl rfl,h.pool.free.nodup,h.pool.dis,fun n hn=>h.pool.free.range n hn,fun n hn=>hn,rfl⟩
  have hout1:∀ q,q∈l->q ∉ Q.fr/\q ∉ Q.rt:=fun q hq=>by
    obtain ⟨c1,c2⟩:=h.out q hq;exact ⟨fun hf=>(hQs q (.inl hf)).elim c1 c2,fun hf=>(hQs q (.inr hf)).elim c1 c2⟩
  have hrun:∀ {m':Nat} {res:IM} {I7:List Int} {gr:IY},I6 (D.jM (J+1) p t 2) ws m gr w1->I6 (D.fB (J+1) ⟨p,0,t⟩ k v c gr) w1 m' res I7->I6 (D.jR (J+1) ⟨p,0,t⟩ c k v) ws (m+m') res I7:=fun h1 h2=>I6.bind h1 h2
  rw [hgr] at hr hP1 hZ ⊢
  obtain ⟨fr,rt,st⟩:=Q;cases fr with
  | nil=>
    simp only [Pool.out] at hr hP1
    refine ⟨m+0,w1,_,g1,l,⟨4,0⟩,O,O,hrun hr ?_,⟨hP1.toH,ho1,hL1,h.nd,hout1,by rw [he1]; exact h.inc⟩,hK1,ha1,.inl ⟨rfl,rfl,rfl,rfl,he1⟩⟩
    unfold D.fB D.lO;exact .done _ _
  | cons n l1=>
    simp only [Pool.out] at hr hP1 hZ
    have hnR:=hQr n (List.mem_cons_self ..);obtain ⟨hnl1,_⟩:=List.nodup_cons.1 hQu;have hnrt:n ∉ rt:=fun hq=>hQd n hq (List.mem_cons_self ..)
    have hnl:n ∉ l:=fun hq=>(hout1 n hq).1 (List.mem_cons_self ..)
    have hnP:=hQs n (.inl (List.mem_cons_self ..));have hol:∀ q,q∈l->q ∉ l1/\q ∉ rt:=fun q hq=>⟨fun hf=>(hout1 q hq).1 (List.mem_cons_of_mem _ hf),(hout1 q hq).2⟩
    have hofn:∀ j,(∀ n,n∈P.fr\/n∈P.rt\/n∈l->¬ bL p n j)->¬ bL p n j:=fun j hj=>hj n (hnP.imp id .inl)
    obtain ⟨pre,Jk,e,k1,k2,hx⟩:=Db hp hnn ht J (n:=n) (gn:=(st n).IP) (k:=k) (v:=v) hP1.toH O O hJ hc hL1 ho1 hnR hnl1 hnrt hnl fun q hq=>(hol q hq).1
    have hcut:=oz k1 k2;rw [<-e,he1] at hcut
    have hlen:(loE k (IB p ws l)).length=pre.length:=by rw [hcut.1]; unfold IB; simp
    have hhas:J7 k (IB p ws l)=true↔∃ q,Jk.head?=some q/\rd w1 (fp p q 0)=k:=by
      rw [wo]
      unfold J7;rw [hcut.2]
    rcases hx with ⟨hex,m',w3,g',hm',hg',hr',hP3,hl3,Jb⟩ | ⟨hno,m',w3,hm',hr',hP3,hl3,hw3⟩
    · have hkl:∀ q f,q∈l->0<=f->f<3->rd w3 (fp p q f)=rd w1 (fp p q f):=fun q f hq f0 f1=>by
        have hqr:=h.link.range q hq;have hne:q≠n:=fun e=>hnl (e ▸ hq)
        exact Jb _ yal (by unfold bL; rw [hfp]; omega)
      have he3:IB p w3 l=IB p ws l:=(jN fun q f hq f0 f1=>hkl q f hq f0 O).trans he1
      have ha3:Alone p w3:=fun j j0 j1=>by rw [Jb _ O yaI]; exact ha1 j j0 j1
      refine ⟨m+m',w3,_,g',l,⟨7,0⟩,O,O,hrun hr hr',⟨hP3,fun j j0 j1=>?_,hL1.keepW (Jb c O yaI) (fun q hq=>hkl q 2 hq O O),h.nd,fun q hq=>⟨fun hf=>?_,(hol q hq).2⟩,by rw [he3]; exact h.inc⟩,⟨hl3.trans hK1.1,fun j j0 h1 h2 h3=>(Jb j j0 (hofn j h1)).trans (hK1.2 j j0 h1 h2 h3)⟩,ha3,.inr ⟨_,n,l1,hQe,rfl,rfl,rfl,.inl ⟨hhas.2 hex,rfl,rfl,rfl,he3⟩⟩⟩
      · have:=ha3 (t * 3+j) O O
        rw [<-Int.add_assoc] at this
        exact this
      · rcases wh hf with rfl | hf
        · exact hnl hq
        · exact (hol q hq).1 hf
    · have hlp:∀ q f,q∈n::l->0<=f->f<2->fp p q f≠bM p c pre:=fun q f hq f0 f1=>by
        have hqr:0<=q:=by
          rcases List.mem_cons.1 hq with rfl | hq
          · exact hnR.1
          · exact (h.link.range q hq).1
        rcases gi p c pre with ⟨e',_⟩ | ⟨x,hx,e'⟩
        · rw [e',hfp]; omega
        · have:=(h.link.range x yaL).1
          rw [e',hfp,hfp]; omega
      have hkl:∀ q f,q∈l->0<=f->f<2->rd w3 (fp p q f)=rd w1 (fp p q f):=fun q f hq f0 f1=>by
        have hqr:=h.link.range q hq;have hne:q≠n:=fun e=>hnl (e ▸ hq)
        rw [hw3 _ yal,if_neg (hlp q f (List.mem_cons_of_mem _ hq) f0 f1),if_neg yay,if_neg yay,if_neg yay]
      have hL3:br p w3 c (pre++n::Jk):=by
        refine br.ins (e ▸ hL1) (e ▸ h.nd) (fun q hq e'=>?_) hnR (by rw [<-e]; exact hnl) ?_ ?_ (fun q hq hne=>?_) (fun hne=>?_)
        · have:0<=q:=by
            rcases List.mem_cons.1 hq with rfl | hq
            · exact hnR.1
            · exact (h.link.range q (by rw [e]; exact hq)).1
          rw [hfp] at e'; omega
        · rw [hw3 _ (by
            rcases gi p c pre with ⟨e',_⟩ | ⟨x,hx,e'⟩
            · rw [e']; omega
            · have:=(h.link.range x yaL).1
              rw [e',hfp]; omega),if_pos rfl]
        · rw [hw3 _ yal,if_neg,if_pos rfl]
          rcases gi p c pre with ⟨e',_⟩ | ⟨x,hx,e'⟩
          · rw [e',hfp]; omega
          · intro e2
            rw [e'] at e2
            have:=kn e2;exact hnl (by rw [this,e]; exact List.mem_append_left _ hx)
        · have hqr:=h.link.range q (by rw [e]; exact hq)
          have hqn:q≠n:=fun e2=>hnl (by rw [<-e2,e]; exact hq)
          rw [hw3 _ yal,if_neg hne,if_neg yay,if_neg yay,if_neg yay]
        · rw [hw3 _ O,if_neg hne,if_neg yal,if_neg yal,if_neg yal]
      have hhasf:J7 k (IB p ws l)=false:=by
        cases hb:J7 k (IB p ws l) with
        | false=>rfl
        | true=>exact absurd (hhas.1 hb) hno
      have hin:∀ q,q∈pre\/q∈Jk->q∈l:=fun q hq=>by rw [e]; exact List.mem_append.2 hq
      have he3:IB p w3 (pre++n::Jk)=insE k v (IB p ws l):=by
        unfold insE;rw [hcut.1,hcut.2];have hA:IB p w3 pre=IB p w1 pre:=jN fun q f hq f0 f1=>hkl q f (hin q (.inl hq)) f0 f1
        have hB:IB p w3 Jk=IB p w1 Jk:=jN fun q f hq f0 f1=>hkl q f (hin q (.inr hq)) f0 f1
        have h0:rd w3 (fp p n 0)=k:=by
          rw [hw3 _ yal,if_neg (hlp n 0 (List.mem_cons_self ..) O O),if_neg yay,if_neg yay,if_pos rfl]
        have h1:rd w3 (fp p n 1)=v:=by
          rw [hw3 _ yal,if_neg (hlp n 1 (List.mem_cons_self ..) O O),if_neg yay,if_pos rfl]
        rw [<-hA,<-hB]
        unfold IB;rw [List.map_append,List.map_cons,h0,h1]
      have ha3:Alone p w3:=fun j j0 j1=>by
        rw [hw3 _ O,if_neg,if_neg yal,if_neg yal,if_neg yal]
        · exact ha1 j j0 j1
        · rcases gi p c pre with ⟨e',_⟩ | ⟨x,hx,e'⟩
          · rw [e']; omega
          · have:=(h.link.range x (hin x (.inl hx))).1
            rw [e',hfp]; omega
      refine ⟨m+m',w3,_,g1,pre++n::Jk,⟨0,0⟩,O,O,hrun hr hr',⟨hP3,fun j j0 j1=>?_,hL3,?_,fun q hq=>?_,by rw [he3]; exact h.inc.ins hhasf⟩,⟨hl3.trans hK1.1,fun j j0 h1 h2 h3=>?_⟩,ha3,.inr ⟨_,n,l1,hQe,rfl,rfl,rfl,.inr ⟨hhasf,rfl,rfl,he3,pre,Jk,e,rfl,hlen⟩⟩⟩
      · have:=ha3 (t * 3+j) O O
        rw [<-Int.add_assoc] at this
        exact this
      · obtain ⟨d1,d2,d3⟩:=List.nodup_append.1 (e ▸ h.nd)
        refine List.nodup_append.2 ⟨d1,List.nodup_cons.2 ⟨fun hq=>hnl (hin n (.inr hq)),d2⟩,fun a ha b hb=>?_⟩
        rcases List.mem_cons.1 hb with rfl | hb
        · exact fun e2=>hnl (e2 ▸ hin a (.inl ha))
        · exact d3 a ha b hb
      · rcases List.mem_append.1 hq with hq | hq
        · exact hol q (hin q (.inl hq))
        · rcases List.mem_cons.1 hq with rfl | hq
          · exact ⟨hnl1,hnrt⟩
          · exact hol q (hin q (.inr hq))
      · have hjn:=hofn j h1
        rw [hw3 j O,if_neg,if_neg,if_neg,if_neg]
        · exact hK1.2 j j0 h1 h2 h3
        · exact fun e2=>hjn (by unfold bL; rw [e2,hfp]; omega)
        · exact fun e2=>hjn (by unfold bL; rw [e2,hfp]; omega)
        · exact fun e2=>hjn (by unfold bL; rw [e2,hfp]; omega)
        · rcases gi p c pre with ⟨e',_⟩ | ⟨x,hx,e'⟩
          · rw [e']; exact h3
          · intro e2
            refine h1 x (.inr (.inr (hin x (.inl hx)))) ?_;unfold bL; rw [e2,e',hfp]; omega
end
theorem is32:isSlice B0 32:=kz
theorem sl32:sliceTy B0 32 1:=kz
theorem xz:sized B0 3 1:=kz
def D.l7 (fu:Nat) (a0:List Int) (a1:List Bool):Option (List Int × List Int):=((JW ([]:List Int) a0).bind (fun (x5:List Int)=>(loopThen (fun (Jn:List Int × List Int × Int)=>(bif (decide (Jn.2.2>=0)) then ((Jj Jn.1 Jn.2.2).bind (fun (JP:Int)=>(Option.bind (bif (decide (JP>=0)) then (bif (decide (JP<(a1.length:Int))) then ((Jj a1 JP).bind (fun (x19:Bool)=>(some x19))) else (some false)) else (some false)) (fun (x20:Bool)=>(bif x20 then (some (Lp.next (Jn.1,Jn.2.1,(IntKind.i64.wrap (Jn.2.2 - 1))))) else ((JW Jn.2.1 ([JP])).bind (fun (x28:List Int)=>((Jj Jn.1 (IntKind.i64.wrap ((Jn.1.length:Int) - 1))).bind (fun (x32:Int)=>((Jj Jn.1 Jn.2.2).bind (fun (x33:Int)=>((cA (Jn.1.set Jn.2.2.toNat x32) 0 (IntKind.i64.wrap (((Jn.1.set Jn.2.2.toNat x32).length:Int) - 1))).bind (fun (x36:List Int)=>(some (Lp.next (x36,x28,(IntKind.i64.wrap (Jn.2.2 - 1)))))))))))))))))) else (some (Lp.brk (Jn.1,Jn.2.1,Jn.2.2))))) fu (x5,[],(IntKind.i64.wrap ((a0.length:Int) - 1))) (fun (JO:List Int × List Int × Int)=>(some (JO.1,JO.2.1))))))
theorem Af {fu:Nat} (w0:World) {Ji:Value} (a0:List Int) (a0h:I1 3 1 i64 Ji a0 w0) {JM:Value} (a1:List Bool) (a1h:I1 4 1 aF JM a1 w0) {res:List Int × List Int} (hD:D.l7 fu a0 a1=some res) :
    Calls B0 235 #[Ji,JM] w0 (fun e w'=>∃ (v0:Value) (v1:Value),e=.returned (.tuple #[v0,v1])/\Kv No No [II 3 1 i64 v0 res.1,II 3 1 i64 v1 res.2] w0 w'):=by
 refine enter Tryz.func235 rfl 58 rfl rfl fun fr r=>?_;have hP:Post No [] w0 w0:=Post.nil w0
 have hP:Post No [IZ 3 1 i64 Ji a0] w0 w0:=hP.addRo bg a0h rfl a0h.lt;have hP:Post No [_,IZ 4 1 aF JM a1] w0 w0:=hP.addRo (aB rfl bg) a1h rfl a1h.lt;unfold D.l7 at hD
 refine I0 (kA kS r rfl rfl fun r=>kA kS r rfl rfl fun r=>wn (I0 ?_));refine eH (.cells ((([]:List Int)).flatMap i64).toArray 3 (0,0)) 0 r (fun R=>cJ r kz) rfl fun fr b1 w2 n3 r=>?_
 have hP:Post No [_,_,II 3 1 i64 (.slice (some ⟨b1,0,none⟩) 0 0) ([]:List Int)] w0 w2:=hP.newRow n3 (fun _=>rfl) rfl
 refine kM Ji r rfl rfl fun r=>?_;obtain ⟨x5,hx5,hD⟩:=aG hD
 refine dR 3 1 i64 (.slice (some ⟨b1,0,none⟩) 0 0) r (fun R=>dN r rt31 (fun _=>rfl) (fun _=>rfl) (hP.row (i:=2) rfl) (hP.ro (i:=0) rfl) hx5 rfl rfl) rfl fun fr v6 w7 ha8 r=>?_;have hP:Post No [_,_,II 3 1 i64 v6 x5] w0 w7:=hP.append (i:=2) rfl ha8
 refine kA v6 r rfl rfl fun r=>wn (I0 (kA kS r rfl rfl fun r=>wn (d9 (I0 (kM Ji r rfl rfl fun r=>aa (I (a0.length:Int)) r (fun R=>cW r (hP.ro (i:=0) rfl) is31 rfl) rfl fun fr r=>kB r rfl rfl rfl rfl rfl fun r=>kA (I (W ((a0.length:Int) - 1))) r rfl rfl fun r=>wn ?_)))));have hP:Post No [_,_,_,II 3 1 i64 kS ([])] w0 w7:=hP.nilRow 3 1 i64
 refine dV (X:=List Int × List Int × Int) (G:=Value × Value) (x0:=(x5,[],(W ((a0.length:Int) - 1)))) (fun x γ=>[(0,Ji),(1,JM),(4,kS),(5,kS),(6,γ.1),(7,γ.2),(8,(I x.2.2))]) (fun x γ w=>Post No [IZ 3 1 i64 Ji a0,IZ 4 1 aF JM a1,II 3 1 i64 γ.1 x.1,II 3 1 i64 γ.2 x.2.1] w0 w) (v6,kS) r (kO (aq rfl (aq rfl (aq rfl aJ)))) hP hD ?_ ?_
 ·
  rintro Jn γ11 fr Kc g y12 RPy12 nxy12 bky12 rty12 r hP hD;have hP:Post No [_,_,_,_] w0 Kc:=hP;refine d9 (I0 (kM (I Jn.2.2) r rfl rfl fun r=>kB r rfl rfl rfl rfl rfl fun r=>wn ?_));refine q5 (t:=(decide (Jn.2.2>=0))) (r.ev rfl) (fun h14=>?_) (fun h14=>?_)
  ·
   have hD:=z7 (ar h14) hD;refine q7 (d9 (wp_block (I0 (kM γ11.1 r rfl rfl fun r=>kM (I Jn.2.2) r rfl rfl fun r=>?_))));obtain ⟨JP,hx15,hD⟩:=aG hD
   refine aa (.pointer (some ⟨J1 γ11.1,J2 γ11.1+Jn.2.2.toNat * 1,none⟩)) r (fun R=>cu r (hP.row (i:=2) rfl).ro hx15 sl31 rfl rfl) rfl fun fr r=>aa (I JP) r (fun R=>cP r (u:=(I JP)) (I1.at_ (f:=i64) (x:=JP) (hP.row (i:=2) rfl).ro (fun _=>rfl) hx15) rfl IL) rfl fun fr r=>kA (I JP) r rfl rfl fun r=>wn (d9 (d9 ?_));refine cR (N:=58) (Y:=Bool) (G:=Unit) (fun x γ=>[(0,Ji),(1,JM),(4,kS),(5,kS),(6,γ11.1),(7,γ11.2),(8,(I Jn.2.2)),(17,(.bool (decide (Jn.2.2>=0)))),(9,(I JP)),(37,(.bool x))]) (fun x γ w=>Post No [IZ 3 1 i64 Ji a0,IZ 4 1 aF JM a1,II 3 1 i64 γ11.1 Jn.1,II 3 1 i64 γ11.2 Jn.2.1] w0 w) hD ?_ ?_
   ·
    rintro y16 RPy16 nxy16 hD;refine q6 (kM (I JP) r rfl rfl fun r=>kB r rfl rfl rfl rfl rfl fun r=>kM (.bool (decide (JP>=0))) r rfl rfl fun r=>?_);refine bG (decide (JP>=0)) (fun h17=>?_) (fun h17=>?_)
    ·
     have hD:=z7 (ar h17) hD;refine s1 r h17 (kM (I JP) r rfl rfl fun r=>s1 r h17 (kM JM r rfl rfl fun r=>s1 r h17 (aa (I (a1.length:Int)) r (fun R=>cW r (hP.ro (i:=1) rfl) is32 rfl) rfl fun fr r=>s1 r h17 (kB r rfl rfl rfl rfl rfl fun r=>aa (.bool (decide (JP<(a1.length:Int)))) r (fun R=>ay r (b:=true) (kb h17) rfl) rfl fun fr r=>kM (.bool (decide (JP<(a1.length:Int)))) r rfl rfl fun r=>?_))));refine bG (decide (JP<(a1.length:Int))) (fun K4=>?_) (fun K4=>?_)
     ·
      have hD:=z7 (ar K4) hD;refine s1 r K4 (kM JM r rfl rfl fun r=>s1 r K4 (kM (I JP) r rfl rfl fun r=>s1 r K4 ?_));obtain ⟨x19,hx19,hD⟩:=aG hD
      refine aa (.pointer (some ⟨J1 JM,J2 JM+JP.toNat * 1,none⟩)) r (fun R=>cu r (hP.ro (i:=1) rfl) hx19 sl32 rfl rfl) rfl fun fr r=>s1 r K4 (aa (.bool x19) r (fun R=>cP r (u:=(.bool x19)) (I1.at_ (f:=aF) (x:=x19) (hP.ro (i:=1) rfl) (fun _=>rfl) hx19) rfl to4) rfl fun fr r=>aa (.bool x19) r (fun R=>ay r (b:=true) (kb K4) rfl) rfl fun fr r=>wn ?_);exact nxy16 x19 () _ _ _ hD r (kO (kO (aq rfl (aq rfl aJ)))) (hP.pick [0,1,2,3] rfl rfl)
     have hD:=z7 (ai K4) hD;refine s0 r K4 fun fr r=>s0 r K4 fun fr r=>s0 r K4 fun fr r=>s0 r K4 fun fr r=>aa (.bool false) r (fun R=>ay r (b:=false) (kb K4) rfl) rfl fun fr r=>wn ?_;exact nxy16 false () _ _ _ hD r (kO (kO (aq rfl (aq rfl aJ)))) (hP.pick [0,1,2,3] rfl rfl)
    have hD:=z7 (ai h17) hD;refine s0 r h17 fun fr r=>s0 r h17 fun fr r=>s0 r h17 fun fr r=>s0 r h17 fun fr r=>aa (.bool false) r (fun R=>ay r (b:=false) (kb h17) rfl) rfl fun fr r=>kM (.bool false) r rfl rfl fun r=>s0 r (rfl:false=_) fun fr r=>s0 r (rfl:false=_) fun fr r=>s0 r (rfl:false=_) fun fr r=>s0 r (rfl:false=_) fun fr r=>aa (.bool false) r (fun R=>ay r (b:=false) (kb (rfl:false=_)) rfl) rfl fun fr r=>wn ?_;exact nxy16 false () _ _ _ hD r (kO (kO (aq rfl (aq rfl aJ)))) (hP.pick [0,1,2,3] rfl rfl)
   rintro x20 γ21 fr w22 g r hP hD;have hP:Post No [_,_,_,_] w0 w22:=hP;refine q5 (t:=x20) (r.ev rfl) (fun h23=>?_) (fun h23=>?_)
   ·
    have hD:=z7 (ar h23) hD;refine wp_exit ?_;refine q6 (kM (I Jn.2.2) r rfl rfl fun r=>kB r rfl rfl rfl rfl rfl fun r=>kA (I (W (Jn.2.2 - 1))) r rfl rfl fun r=>wn ?_);exact nxy12 (Jn.1,Jn.2.1,(W (Jn.2.2 - 1))) (γ11.1,γ11.2) _ _ _ hD r (kO (aq rfl (aq rfl (aq rfl aJ)))) (hP.pick [0,1,2,3] rfl rfl)
   have hD:=z7 (ai h23) hD;refine q7 (I0 (kM γ11.2 r rfl rfl fun r=>kM (I JP) r rfl rfl fun r=>?_));refine eH (.cells (([JP]).flatMap i64).toArray 3 (0,0)) 1 r (fun R=>cJ r kz) rfl fun fr b24 w25 n26 r=>?_
   have hP:Post No [_,_,_,_,II 3 1 i64 (.slice (some ⟨b24,0,none⟩) 1 1) ([JP])] w0 w25:=hP.newRow n26 (fun _=>rfl) rfl
   obtain ⟨x28,hx28,hD⟩:=aG hD;refine dR 3 1 i64 γ11.2 r (fun R=>dN r rt31 (fun _=>rfl) (fun _=>rfl) (hP.row (i:=3) rfl) (hP.row (i:=4) rfl).ro hx28 rfl rfl) rfl fun fr v29 w30 ha31 r=>?_;have hP:Post No [_,_,_,II 3 1 i64 v29 x28,_] w0 w30:=hP.append (i:=3) rfl ha31
   refine kA v29 r rfl rfl fun r=>wn (I0 (kM γ11.1 r rfl rfl fun r=>kM (I Jn.2.2) r rfl rfl fun r=>kM γ11.1 r rfl rfl fun r=>kM γ11.1 r rfl rfl fun r=>aa (I (Jn.1.length:Int)) r (fun R=>cW r (hP.row (i:=2) rfl).ro is31 rfl) rfl fun fr r=>kB r rfl rfl rfl rfl rfl fun r=>?_));obtain ⟨x32,hx32,hD⟩:=aG hD
   refine aa (.pointer (some ⟨J1 γ11.1,J2 γ11.1+(W ((Jn.1.length:Int) - 1)).toNat * 1,none⟩)) r (fun R=>cu r (hP.row (i:=2) rfl).ro hx32 sl31 rfl rfl) rfl fun fr r=>aa (I x32) r (fun R=>cP r (u:=(I x32)) (I1.at_ (f:=i64) (x:=x32) (hP.row (i:=2) rfl).ro (fun _=>rfl) hx32) rfl IL) rfl fun fr r=>?_;obtain ⟨x33,hx33,hD⟩:=aG hD
   refine aa (.pointer (some ⟨J1 γ11.1,J2 γ11.1+Jn.2.2.toNat * 1,none⟩)) r (fun R=>cu r (hP.row (i:=2) rfl).ro hx33 sl31 rfl rfl) rfl fun fr r=>?_;refine rK 3 i64 γ11.1 (Jn.1.set Jn.2.2.toNat x32) r (fun R=>rr r (hP.row (i:=2) rfl) hx33 (fun _=>rfl) rfl rfl rfl rfl rfl xz) rfl fun fr w34 ha35 r=>?_
   have hP:Post No [_,_,II 3 1 i64 γ11.1 (Jn.1.set Jn.2.2.toNat x32),_,_] w0 w34:=hP.append (i:=2) rfl ha35;refine wn ?_;refine q6 (kM γ11.1 r rfl rfl fun r=>kM γ11.1 r rfl rfl fun r=>aa (I ((Jn.1.set Jn.2.2.toNat x32).length:Int)) r (fun R=>cW r (hP.row (i:=2) rfl).ro is31 rfl) rfl fun fr r=>kB r rfl rfl rfl rfl rfl fun r=>?_);obtain ⟨x36,hx36,hD⟩:=aG hD
   refine aa (cD 1 γ11.1 (0:Int).toNat (W (((Jn.1.set Jn.2.2.toNat x32).length:Int) - 1)).toNat) r (fun R=>fI r (hP.row (i:=2) rfl).ro sl31 rfl rfl rfl rfl rfl rfl rfl hx36) rfl fun fr r=>kA (cD 1 γ11.1 (0:Int).toNat (W (((Jn.1.set Jn.2.2.toNat x32).length:Int) - 1)).toNat) r rfl rfl fun r=>wn ?_;refine q6 (kM (I Jn.2.2) r rfl rfl fun r=>kB r rfl rfl rfl rfl rfl fun r=>kA (I (W (Jn.2.2 - 1))) r rfl rfl fun r=>wn ?_)
   have hP:Post No [_,_,II 3 1 i64 (cD 1 γ11.1 (0:Int).toNat (W (((Jn.1.set Jn.2.2.toNat x32).length:Int) - 1)).toNat) x36,_,_] w0 w34:=hP.narrow (i:=2) rfl (fun _=>rfl) hx36
   exact nxy12 (x36,x28,(W (Jn.2.2 - 1))) ((cD 1 γ11.1 (0:Int).toNat (W (((Jn.1.set Jn.2.2.toNat x32).length:Int) - 1)).toNat),v29) _ _ _ hD r (kO (aq rfl (aq rfl (aq rfl aJ)))) (hP.pick [0,1,2,3] rfl rfl)
  have hD:=z7 (ai h14) hD;refine wp_exit ?_;exact bky12 (Jn.1,Jn.2.1,Jn.2.2) (γ11.1,γ11.2) _ _ _ hD r (kO (aq rfl (aq rfl (aq rfl aJ)))) (hP.pick [0,1,2,3] rfl rfl)
 rintro JO γ38 fr w39 g r hP hD;have hP:Post No [_,_,_,_] w0 w39:=hP;refine I0 (kM γ38.1 r rfl rfl fun r=>kM γ38.2 r rfl rfl fun r=>kA γ38.1 r rfl rfl fun r=>kA γ38.2 r rfl rfl fun r=>wn (q4 ?_));have hv:(JO.1,JO.2.1)=res:=Option.some.inj hD
 try dsimp only [Exit.then,Exit.inBlock]
 refine fE (fn:=Tryz.f235) r (t:=4) (t':=5) rfl (v:=γ38.1) (v':=γ38.2) rfl rfl ?_;subst hv;exact ⟨γ38.1,γ38.2,rfl,(hP.pick [2,3] rfl rfl).done (dg rfl (dg rfl cG))⟩
section
variable {L N : List Ck} {Z Y : Nat -> Prop} {w w' w0 : World} {i k : Nat} {c e : Ck}
theorem JY.clearM (h:JY L w) (hc:c∈L) (he:e∈L):c=e\/c.clear e:=by
 obtain ⟨i,hi⟩:=List.mem_iff_getElem?.1 hc;obtain ⟨j,hj⟩:=List.mem_iff_getElem?.1 he
 by_cases hij:i=j
 ·subst hij
  rw [hi] at hj
  exact .inl (Option.some.inj hj)
 ·exact .inr (h.clear hi hj hij).1
theorem Post.addRoFrom (h:Post Z L w0 w) (hk:L[k]?=some e) (he:e.own=[]) (hc:c.ok w) (ho:c.own=[]) (hr:∀ b,b∈c.ro->b∈e.ro):Post Z (L++[c]) w0 w:=by
 have hem:e∈L:=List.mem_of_getElem? hk;refine ⟨h.sep.append (N:=[c]) ⟨hc,fun b hb=>?_,fun d hd=>(by cases hd),trivial⟩ fun d hd c' hc'=>?_,h.KE,fun d hd b hb=>?_⟩
 ·rcases hb with hb | hb
  ·rw [ho] at hb; cases hb
  ·exact h.sep.lt hk (.inr (hr b hb))
 ·rcases List.mem_singleton.1 hc' with rfl
  refine ⟨fun b hb hb'=>?_,fun b hb=>by rw [ho] at hb; cases hb⟩
  rcases hb' with hb' | hb'
  ·rw [ho] at hb'; cases hb'
  ·rcases h.sep.clearM hd hem with rfl | hcl
   ·rw [he] at hb; cases hb
   ·exact hcl b hb (.inr (hr b hb'))
 ·rcases List.mem_append.1 hd with hd | hd
  ·exact h.mine d hd b hb
  ·rcases List.mem_singleton.1 hd with rfl; rw [ho] at hb; cases hb
theorem Post.addY (h:Post Z L w0 w) (h2:Kv No Y N w w') (hN:∀ c,c∈N->c.own=[]) (hY:∀ b,Y b->∃ e,e∈L/\e.own=[]/\b∈e.ro):Post Z (L++N) w0 w':=by
 have hb:=h2.KE.below;have hs:=h.sep.below hb;refine ⟨hs.append h2.sep fun d hd c hc=>⟨fun b hb1 hb'=>?_,fun b hb1=>by rw [hN c hc] at hb1; cases hb1⟩,h.KE.trans h2.KE (fun _ _ h=>h.elim),fun d hd b hbd=>?_⟩
 ·rcases hb' with hb' | hb'
  ·rw [hN c hc] at hb'; cases hb'
  ·rcases h2.rest c hc b hb' with h3 | h3
   ·obtain ⟨e,heL,heo,her⟩:=hY b h3
    rcases h.sep.clearM hd heL with rfl | hcl
    ·rw [heo] at hb1; cases hb1
    ·exact hcl b hb1 (.inr her)
   ·have:=(h.sep.ok d hd).2 b (.inl hb1)
    omega
 ·rcases List.mem_append.1 hd with hd | hd
  ·exact h.mine d hd b hbd
  ·rw [hN d hd] at hbd; cases hbd
end
section
variable {α : Type} {T : TypeId} {sz : Nat} {f : α -> List Value} {v : Value} {xs : List α} {w w' w0 : World} {L N : List Ck} {Z Y : Nat -> Prop} {i : Nat} {B : Nat}
def JC (B:Nat) (Y:Nat->Prop) (T:TypeId) (sz:Nat) (f:α->List Value) (v:Value) (xs:List α):Ck:=
 ⟨[],Jw v,fun w=>I1 T sz f v xs w/\∀ b,b∈Jw v->Y b\/B<=b,fun _ _ h _ hr=>⟨hr.1.st fun b hb=>h b (.inr hb),hr.2⟩⟩
theorem Post.Jf (h:Post Z L w0 w) (hi:L[i]?=some (JC B Y T sz f v xs)):I1 T sz f v xs w:=(h.sep.get hi).1
theorem Post.from_ (h:Post Z L w0 w) (hi:L[i]?=some (JC B Y T sz f v xs)):∀ b,b∈Jw v->Y b\/B<=b:=(h.sep.get hi).2
theorem Post.toB (h:Post No L w0 w) (hi:L[i]?=some (II T sz f v xs)):Post No (L.set i (JC w0.heap.size Y T sz f v xs)) w0 w:=by
 have hr:cx T sz f v xs w:=h.sep.get hi;refine ⟨JY.weakAt (c:=II T sz f v xs) (c':=JC w0.heap.size Y T sz f v xs) ⟨hr.ro,fun b hb=>?_⟩ (fun b hb=>?_) (fun b hb=>(by cases hb)) L i h.sep hi,h.KE,fun c hc b hb=>?_⟩
 ·exact .inr ((h.mine _ (List.mem_of_getElem? hi) b (qQ hr hb)).resolve_left fun h=>h)
 ·rcases hb with hb | hb
  ·cases hb
  ·exact .inl (qQ hr hb)
 ·rcases List.mem_or_eq_of_mem_set hc with hc | rfl
  ·exact h.mine c hc b hb
  ·cases hb
theorem Post.setRo {c c':Ck} (h:Post Z L w0 w) (hi:L[i]?=some c) (hc:c'.ok w) (ho:c'.own=[]) (hr:∀ b,b∈c'.ro->b∈c.ro):Post Z (L.set i c') w0 w:=by
 refine ⟨JY.weakAt (c:=c) (c':=c') hc (fun b hb=>?_) (fun b hb=>by rw [ho] at hb; cases hb) L i h.sep hi,h.KE,fun d hd b hb=>?_⟩
 ·rcases hb with hb | hb
  ·rw [ho] at hb; cases hb
  ·exact .inr (hr b hb)
 ·rcases List.mem_or_eq_of_mem_set hd with hd | rfl
  ·exact h.mine d hd b hb
  ·rw [ho] at hb; cases hb
theorem Post.unB (h:Post Z L w0 w) (hi:L[i]?=some (JC B Y T sz f v xs)):Post Z (L.set i (IZ T sz f v xs)) w0 w:=h.setRo hi (h.Jf hi) rfl fun _ h=>h
theorem Post.dupB (h:Post Z L w0 w) (hi:L[i]?=some (JC B Y T sz f v xs)):Post Z (L++[JC B Y T sz f v xs]) w0 w:=h.addRoFrom hi rfl (h.sep.get hi) rfl fun _ h=>h
theorem Post.nilB (T:TypeId) (sz:Nat) (f:α->List Value) (h:Post Z L w0 w):Post Z (L++[JC B Y T sz f (.slice none 0 0) []]) w0 w:=by
 have hn:∀ b,¬ (JC B Y T sz f (.slice none 0 0) ([]:List α)).has b:=fun b hb=>by
  rcases hb with hb | hb
  ·cases hb
  ·cases hb
 refine ⟨h.sep.append (N:=[JC B Y T sz f (.slice none 0 0) []]) ⟨⟨I1.nil,fun b hb=>(by cases hb)⟩,fun b hb=>(hn b hb).elim,fun d hd=>(by cases hd),trivial⟩ fun d hd c' hc'=>?_,h.KE,fun d hd b hb=>?_⟩
 ·rcases List.mem_singleton.1 hc' with rfl
  exact ⟨fun b _ hb=>hn b hb,fun b hb=>(by cases hb)⟩
 ·rcases List.mem_append.1 hd with hd | hd
  ·exact h.mine d hd b hb
  ·rcases List.mem_singleton.1 hd with rfl; cases hb
theorem Post.JJ (h:Post Z L w0 w0) (hr:I1 T sz f v xs w0) (hn:∀ d,d∈L->d.own=[]) (hY:∀ b,b∈Jw v->Y b):Post Z (L++[JC w0.heap.size Y T sz f v xs]) w0 w0:=
 h.addRo hn ⟨hr,fun b hb=>.inl (hY b hb)⟩ rfl hr.lt
end
abbrev kI (w:World) (Y:Nat->Prop) (v:Value) (xs:List Int):Ck:=JC w.heap.size Y 3 1 i64 v xs
section
variable {α : Type} {T : TypeId} {sz : Nat} {f : α -> List Value} {v : Value} {xs ys : List α} {w w' w0 : World} {L N : List Ck} {Z Y Y' : Nat -> Prop} {i : Nat} {B : Nat}
theorem I1.fH (hr:I1 T sz f v xs w):v.cells=#[v]:=by obtain ⟨ad,c,rfl⟩:=hr.len; rfl
theorem I1.plain (hr:I1 T sz f v xs w):plainCell v=true:=by obtain ⟨ad,c,rfl⟩:=hr.len; rfl
theorem Post.nilR (T:TypeId) (sz:Nat) (f:α->List Value) (h:Post Z L w0 w):Post Z (L++[IZ T sz f (.slice none 0 0) []]) w0 w:=by
 have h2:=h.nilRow T sz f;have h3:=h2.toRo (i:=L.length) (T:=T) (sz:=sz) (f:=f) (v:=.slice none 0 0) (xs:=[]) yas
 simpa using h3
def KT (vs:List Value) (b:Nat):Prop:=∃ v,v∈vs/\b∈Jw v
theorem aY {vs:List Value} (h:vs[i]?=some v):∀ b,b∈Jw v->KT vs b:=fun _ hb=>⟨v,List.mem_of_getElem? h,hb⟩
theorem eW {Q:Nat->Prop}:∀ b,KT [] b->Q b:=fun _ h=>by obtain ⟨_,h,_⟩:=h; cases h
theorem bO {vs:List Value} {Q:Nat->Prop} (h:∀ b,b∈Jw v->Q b) (ht:∀ b,KT vs b->Q b):∀ b,KT (v::vs) b->Q b:=fun b hb=>by
 obtain ⟨u,hu,hb⟩:=hb
 rcases List.mem_cons.1 hu with rfl | hu
 ·exact h b hb
 ·exact ht b ⟨u,hu,hb⟩
theorem Post.inR (h:Post Z L w0 w) (hi:L[i]?=some (IZ T sz f v xs)):∀ b,b∈Jw v->∃ e,e∈L/\e.own=[]/\b∈e.ro:=fun _ hb=>⟨_,List.mem_of_getElem? hi,rfl,hb⟩
theorem Post.inB (h:Post Z L w0 w) (hi:L[i]?=some (JC B Y T sz f v xs)):∀ b,b∈Jw v->∃ e,e∈L/\e.own=[]/\b∈e.ro/\(Y b\/B<=b):=fun b hb=>⟨_,List.mem_of_getElem? hi,rfl,hb,h.from_ hi b hb⟩
def Ck.from (B:Nat) (Y:Nat->Prop) (c:Ck):Ck:=⟨c.own,c.ro,fun w=>c.ok w/\∀ b,b∈c.ro->Y b\/B<=b,fun w w' h hs hr=>⟨c.st w w' h hs hr.1,hr.2⟩⟩
theorem vN:∀ {N:List Ck},JY N w->(∀ c,c∈N->∀ b,b∈c.ro->Y b\/B<=b)->JY (N.map (Ck.from B Y)) w
 | [],_,_=>trivial
 | c::N,h,hp=>by
  refine ⟨⟨h.1,hp c (List.mem_cons_self ..)⟩,h.2.1,fun d hd=>?_,vN h.2.2.2 fun c hc=>hp c (List.mem_cons_of_mem _ hc)⟩
  obtain ⟨d',hd',rfl⟩:=List.mem_map.1 hd;exact h.2.2.1 d' hd'
theorem Post.addYB (h:Post No L w0 w) (h2:Kv No Y' N w w') (hN:∀ c,c∈N->c.own=[]) (hY:∀ b,Y' b->∃ e,e∈L/\e.own=[]/\b∈e.ro/\(Y b\/w0.heap.size<=b)):Post No (L++N.map (Ck.from w0.heap.size Y)) w0 w':=by
 have hp:∀ c,c∈N->∀ b,b∈c.ro->Y b\/w0.heap.size<=b:=fun c hc b hb=>by
  rcases h2.rest c hc b hb with h3 | h3
  ·obtain ⟨_,_,_,_,h4⟩:=hY b h3; exact h4
  ·exact .inr (Nat.le_trans h.size h3)
 have h3:=h.addY h2 hN fun b hb=>by obtain ⟨e,h4,h5,h6,_⟩:=hY b hb; exact ⟨e,h4,h5,h6⟩
 have hs:JY (N.map (Ck.from w0.heap.size Y)) w':=vN h2.sep hp
 have hN':∀ c,c∈N.map (Ck.from w0.heap.size Y)->c.own=[]:=fun c hc=>by obtain ⟨d,hd,rfl⟩:=List.mem_map.1 hc; exact hN d hd
 exact h.addY (Y:=Y') ⟨⟨hs,h2.KE,fun c hc b hb=>by rw [hN' c hc] at hb; cases hb⟩,fun c hc b hb=>by obtain ⟨d,hd,rfl⟩:=List.mem_map.1 hc; exact h2.rest d hd b hb⟩ hN' fun b hb=>by obtain ⟨e,h4,h5,h6,_⟩:=hY b hb; exact ⟨e,h4,h5,h6⟩
end
section
variable {P : Program} {a : Act} {w : World} {d : Option Tmp} {ty : TypeId} {pos : String} {Ki : Array Edge} {N : Nat} {s : SL}
theorem ck (Jb:Fr a N s) {x y:Operand} {b o n:Nat} {t E:TypeId} {c c':Array Value} {v:Value} {cs:List Value} {R:Value->World->Prop} (hx:lookO s x=.pointer (some ⟨b,o,none⟩)) (hy:lookO s y=v) (hv:v.cells=cs.toArray) (hp:cs.all plainCell=true) (hl:cs.length=n)
  (h:w.heap[b]?=some (.cells c E (0,0))) (ht:sized P t n=true) (hn:o+n<=c.size) (hc:over c o cs=c')
  (hr:∀ w',Upd w w' b (.cells c' E (0,0))->R undef w'):Yields P ⟨d,.store t x y,ty,pos,Ki,none⟩ a w R:=by
 refine bb Jb hx hy h (by simpa [hv,hl] using ht) (by simpa [hv,hl] using hn) (by simpa [hv] using hp) (by simpa [hv] using hc) hr
theorem cm:([]:List Value).all plainCell=true:=rfl
theorem au {v:Value} {vs:List Value} (h:plainCell v=true) (ht:vs.all plainCell=true):(v::vs).all plainCell=true:=by simp [h,ht]
theorem lN {fn:Func} {n:Nat} (h:Fr a n s) {R:Ending->World->Prop} {t t1:Tmp} {ty ty1:TypeId} {b b1:Nat} {c c1:Array Value} {E E1:TypeId} {fz fz1:Nat × Nat} {k k1:Nat} (hf:fn.results=#[.cell t ty,.cell t1 ty1])
  (hv:look s t=.pointer (some ⟨b,0,none⟩)) (hv1:look s t1=.pointer (some ⟨b1,0,none⟩)) (hb:w.heap[b]?=some (.cells c E fz)) (hk:c.size=k) (ht:tyA P ty k=true) (hb1:w.heap[b1]?=some (.cells c1 E1 fz1)) (hk1:c1.size=k1) (ht1:tyA P ty1 k1=true)
  (hR:R (.returned (.tuple #[.agg c,.agg c1])) w):bodyPost P fn R .ret a w:=by
 refine ⟨h.defers,_,?_,hR⟩;subst hk; subst hk1;have hl:(loadVar ty ⟨b,0,none⟩).run P w=.ok (.agg c) w:=by
  have:=iM (P:=P) (t:=ty) (jF hb (o:=0) (n:=c.size) (cs:=c.toList) yav) (by simpa using ht)
  simpa using this
 have hl1:(loadVar ty1 ⟨b1,0,none⟩).run P w=.ok (.agg c1) w:=by
  have:=iM (P:=P) (t:=ty1) (jF hb1 (o:=0) (n:=c1.size) (cs:=c1.toList) yav) (by simpa using ht1)
  simpa using this
 simp [results,hf,h.slot,hv,hv1,asAddr,hl,hl1]
end
end Go.Proofs.YtbbipmelhmgmfaaGreat

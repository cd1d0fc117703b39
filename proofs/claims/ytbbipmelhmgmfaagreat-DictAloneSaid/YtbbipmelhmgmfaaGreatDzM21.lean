/- Some of our texts, one behind the other. -/
import Derived.Test.YtbbipmelhmgmfaaGreatDzM17
import Derived.Test.YtbbipmelhmgmfaaGreatDzLListp
set_option linter.all false
set_option maxRecDepth 100000
set_option maxHeartbeats 20000000
/- Ours. -/
namespace Go.Proofs.YtbbipmelhmgmfaaGreat
open Go.RowKit
theorem o8 {at_:Int} {f:Int->T Walk} {ws I7:List Int} {n:Nat} {r:Walk} (h0:0<=at_) (h1:at_<ws.length) (h:I6 (f (rd ws at_)) ws n r I7):I6 (D.iH at_ f) ws (n+1) r I7:=I6.load h0 h1 h
def lw:List Int->Int
 | []=>0
 | n::_=>(n+1) * 2
def br (p:Plan) (u:List Int):Int->List Int->Prop
 | a,[]=>rd u a=0
 | a,n::l=>rd u a=(n+1) * 2/\(0<=n/\n<p.nodes)/\br p u (fp p n 2) l
structure Off (p:Plan) (t:Int) (N:List Int) (u u':List Int):Prop where
 len:u'.length=u.length
 out:∀ j,0<=j->¬ (D.aL p+t * 3<=j/\j<D.aL p+t * 3+3)->rd u' j=rd u j
 nam:∀ j,0<=j->rd u' j=rd u j\/rd u' j=0\/∃ x,x∈N/\rd u' j=x+1
theorem Off.refl (p:Plan) (t:Int) (N u:List Int):Off p t N u u:=⟨rfl,fun _ _ _=>rfl,fun _ _=>.inl rfl⟩
theorem Off.trans {p:Plan} {t:Int} {N u v w:List Int} (h:Off p t N u v) (h':Off p t N v w):Off p t N u w:=⟨h'.1.trans h.1,fun j h0 h1=>(h'.2 j h0 h1).trans (h.2 j h0 h1),fun j h0=>by
 rcases h'.nam j h0 with e | e
 ·rw [e]; exact h.nam j h0
 ·exact .inr e⟩
theorem br.word {p:Plan} {u:List Int} {a:Int}:∀ {l:List Int},br p u a l->rd u a=lw l
 | [],h=>h
 | _::_,h=>h.1
theorem lnode {n:Int} (h0:-1<=n) (h1:n<=1000000):D.aX ((n+1) * 2)=n:=by
 unfold D.aX;rw [(xl (sh:=1) O O).1];have:(n+1) * 2 / 2 ^ (1:Int).toNat=n+1:=by
  show (n+1) * 2 / 2=n+1
  omega
 rw [this,bq (x:=n+1) O O,bq O O]
 omega
theorem rO:D.aX 0=-1:=by
 have h:=lnode (n:=-1) O O
 rwa [show ((-1:Int)+1) * 2=0 from rfl] at h
theorem Dq {p:Plan} {u:List Int} {a:Int} {l:List Int} (h:br p u a l) (hnn:p.nodes<=1000):D.aX (lw l)=l.headD (-1):=by
 cases l with
 | nil=>exact rO
 | cons n l=>exact lnode (by have:=h.2.1; omega) (by have:=h.2.1; omega)
theorem Ew {p:Plan} {u:List Int} {a:Int} {l:List Int} (h:br p u a l) (hnn:p.nodes<=1000):-1<=l.headD (-1)/\l.headD (-1)<=1000:=by
 cases l with
 | nil=>exact ⟨Int.le_refl _,by show (-1:Int)<=1000; omega⟩
 | cons n l=>exact ⟨by have:=h.2.1; show -1<=n; omega,by have:=h.2.1; show n<=1000; omega⟩
theorem vX {x:Int} (h0:0<=x) (h1:x<1000000):cL .u64 (x * 2) 1=0:=by
 rw [and_eq O O O O]
 have:(1:Int).toNat=1:=rfl;rw [this,Nat.and_one_is_mod];omega
theorem wV {p:Plan} {u:List Int} {a:Int} {l:List Int} (h:br p u a l) (hnn:p.nodes<=1000):cL .u64 (lw l) 1=0:=by
 cases l with
 | nil=>
  have h:=vX (x:=0) O O
  rwa [show (0:Int) * 2=0 from rfl] at h
 | cons n l=>exact vX (by have:=h.2.1; omega) (by have:=h.2.1; omega)
section
variable {p : Plan} (hp : PF p) (hnn : p.nodes <= 1000) {t : Int} (ht : 0 <= t /\ t < p.threads)
include hp ht
theorem eJ {n f:Int} (hn:0<=n/\n<p.nodes) (hf:0<=f/\f<3):D.bo p n f=fp p n f/\0<fp p n f/\fp p n f<D.bF p/\D.aL p+t * 3+3<=fp p n f:=by
 obtain ⟨z1,z2,z3,z4⟩:=cE hp;obtain ⟨q1,q2,q3⟩:=kr hp hn;have hsp:D.aO p<=sp p n:=by unfold sp; omega
 refine ⟨?_,?_,?_,?_⟩
 ·rw [wk hp,if_pos ⟨hn,hf⟩]; rfl
 all_goals (unfold fp; omega)
theorem br.off {N u u':List Int} (ho:Off p t N u u'):∀ {l:List Int} {a:Int},0<=a->¬ (D.aL p+t * 3<=a/\a<D.aL p+t * 3+3)->br p u a l->br p u' a l
 | [],a,h0,h1,h=>(ho.2 a h0 h1).trans h
 | n::l,a,h0,h1,h=>by
  obtain ⟨f1,f2,f3,f4⟩:=eJ hp ht (f:=2) h.2.1 O;exact ⟨(ho.2 a h0 h1).trans h.1,h.2.1,br.off ho O O h.2.2⟩
theorem DC {N u:List Int} (hl:Len p u) {s n:Int} (hs:0<=s/\s<3) (hn:-1<=n/\n<=1000) (hN:n=-1\/n∈N):∃ u',I6 (D.fC p t s n) u 1 () u'/\Off p t N u u':=by
 obtain ⟨z1,z2,z3,z4⟩:=cE hp;have hn1:=hp.n1;refine ⟨_,qU hp hl ht hs O,List.length_set ..,fun j h0 h1=>?_,fun j h0=>?_⟩
 ·unfold Len at hl
  rw [bX O O h0,if_neg O]
 ·unfold Len at hl
  rw [bX O O h0]
  by_cases e:j=D.aL p+t * 3+s
  ·rw [if_pos e]
   rcases hN with hN | hN
   ·exact .inr (.inl O)
   ·exact .inr (.inr ⟨n,hN,rfl⟩)
  ·rw [if_neg e]; exact .inl rfl
theorem rp {N u:List Int} (hl:Len p u) {s n:Int} (hs:0<=s/\s<3) (hn:-1<=n/\n<=1000) (hN:n=-1\/n∈N) {f:Walk} (hf1:f.seat.p=p) (hf2:f.seat.thread=t) {k:Unit->T Walk} {M:Nat} {Φ:Walk->List Int->Prop}
  (h:∀ u',Off p t N u u'->∃ m r u2,m<=M/\I6 (k ()) u' m r u2/\Φ r u2):∃ m r u2,m<=M+1/\I6 (D.fR f s n k) u m r u2/\Φ r u2:=by
 obtain ⟨u',hr,ho⟩:=DC hp ht hl hs hn hN;obtain ⟨m,r,u2,hm,h2,Iz⟩:=h u' ho;refine ⟨1+m,r,u2,O,?_,Iz⟩
 unfold D.fR;rw [hf1,hf2];exact I6.bind hr h2
include hnn
structure Found (p:Plan) (u:List Int) (k a:Int) (l:List Int) (r:Walk):Prop where
 ex:∃ pre Jk,l=pre++Jk/\(∀ n,n∈pre->rd u (fp p n 0)<k)/\(∀ n,Jk.head?=some n->k<=rd u (fp p n 0))/\r.cur=lw Jk/\r.place=(match pre.getLast? with | none=>a | some n=>fp p n 2)/\
  (∀ n,Jk.head?=some n->r.next=lw Jk.tail)/\(r.there=true↔∃ n,Jk.head?=some n/\rd u (fp p n 0)=k)
theorem D0 (J:Nat) (c k:Int) (N:List Int):∀ (l:List Int) (a nx:Int) (th:Bool) (u:List Int) (d:Nat),(∀ q,q∈l->q∈N)->Len p u->l.length<d->0<=a->a<D.bF p->¬ (D.aL p+t * 3<=a/\a<D.aL p+t * 3+3)->br p u a l->
  ∃ m r u',m<=9 * l.length/\I6 (D.du J d ⟨⟨p,0,t⟩,c,k,a,lw l,nx,th⟩) u m r u'/\Off p t N u u'/\r.seat=⟨p,0,t⟩/\r.cell=c/\r.k=k/\Found p u k a l r:=by
 intro l
 induction l with
 | nil=>
  intro a nx th u d hN hl hd h0 h1 h2 hL;obtain ⟨d,rfl⟩:∃ q,d=q+1:=⟨d - 1,by simp at hd; omega⟩
  refine ⟨0,⟨⟨p,0,t⟩,c,k,a,0,nx,false⟩,u,O,?_,Off.refl p t N u,rfl,rfl,rfl,⟨[],[],rfl,nofun,nofun,rfl,rfl,nofun,⟨nofun,fun ⟨_,h,_⟩=>by cases h⟩⟩⟩
  show I6 (D.gC J (D.du J d) ⟨⟨p,0,t⟩,c,k,a,0,nx,th⟩) u 0 _ u
  unfold D.gC;have e:=rO;simp only [e];exact .done _ _
 | cons n l ih=>
  intro a nx th u d hN hl hd h0 h1 h2 hL;obtain ⟨d,rfl⟩:∃ q,d=q+1:=⟨d - 1,by simp at hd; omega⟩
  have hn:=hL.2.1;obtain ⟨f1,f2,f3,f4⟩:=eJ hp ht (f:=2) hn O
  obtain ⟨g1,g2,g3,g4⟩:=eJ hp ht (f:=0) hn O;have e:D.aX (lw (n::l))=n:=lnode O O;have hlu:(u.length:Int)=D.bF p:=hl;have hnx:=hL.2.2.word;have en:=Dq hL.2.2 hnn;have hhd:=Ew hL.2.2 hnn;have hhN:l.headD (-1)=-1\/l.headD (-1)∈N:=by
   cases l with
   | nil=>exact .inl rfl
   | cons x l=>exact .inr (hN x yas)
  have key:∃ m r u',m<=9 * l.length+8/\I6 (D.fR ⟨⟨p,0,t⟩,c,k,a,lw (n::l),nx,th⟩ 0 (l.headD (-1)) fun _=>D.l6 J (D.du J d) (fp p n 2) (lw l) ⟨⟨p,0,t⟩,c,k,a,lw (n::l),nx,th⟩ n) u m r u'/\
    (Off p t N u u'/\r.seat=⟨p,0,t⟩/\r.cell=c/\r.k=k/\Found p u k a (n::l) r):=by
   refine rp (M:=9 * l.length+7) hp ht hl O O hhN rfl rfl fun u1 o1=>?_;have hl1:(u1.length:Int)=D.bF p:=by rw [o1.1]; exact hl
   have hrun:∀ (m:Nat) (r:Walk) (u':List Int),I6 (D.jn J (D.du J d) ⟨⟨p,0,t⟩,c,k,a,lw (n::l),lw l,th⟩ n) u1 m r u'->I6 (D.l6 J (D.du J d) (fp p n 2) (lw l) ⟨⟨p,0,t⟩,c,k,a,lw (n::l),nx,th⟩ n) u1 (m+1) r u':=by
    intro m r u' h;unfold D.l6;refine o8 O O ?_;rw [o1.2 _ O O,hnx];unfold D.kY;rw [show (lw l !=lw l)=false from by simp]
    exact h
   have hk2:∀ (m:Nat) (r:Walk) (u':List Int),I6 (bif decide (rd u (fp p n 0)>=k) then D.jq ⟨⟨p,0,t⟩,c,k,a,lw (n::l),lw l,rd u (fp p n 0)==k⟩ else D.jA J (D.du J d) ⟨⟨p,0,t⟩,c,k,a,lw (n::l),lw l,th⟩ n) u1 m r u'->
     I6 (D.jn J (D.du J d) ⟨⟨p,0,t⟩,c,k,a,lw (n::l),lw l,th⟩ n) u1 (m+2) r u':=by
    intro m r u' h;unfold D.jn;refine o8 (n:=m+1) (by show 0<=D.bo p n 0; rw [g1]; omega) (by show D.bo p n 0<_; rw [g1]; omega) ?_;show I6 (D.ng J (D.du J d) _ n (rd u1 (D.bo p n 0))) _ _ _ _
    rw [g1,o1.2 _ O O]
    unfold D.ng;refine o8 (by simp only; omega) (by simp only; omega) ?_;simp only;rw [o1.2 _ h0 h2,hL.1];unfold D.iD;rw [show ((n+1) * 2 !=lw (n::l))=false from by simp [lw],wV hL.2.2 hnn]
    exact h
   by_cases hge:rd u (fp p n 0)>=k
   ·refine ⟨3,⟨⟨p,0,t⟩,c,k,a,lw (n::l),lw l,rd u (fp p n 0)==k⟩,u1,O,hrun 2 _ _ (hk2 0 _ _ ?_),o1,rfl,rfl,rfl,⟨[],n::l,rfl,nofun,fun q hq=>?_,rfl,rfl,fun q hq=>rfl,?_⟩⟩
    ·rw [show decide (rd u (fp p n 0)>=k)=true from by simpa using hge]
     exact .done _ _
    ·obtain rfl:n=q:=by simpa using hq
     exact hge
    ·simp
   ·have hon:∃ m r u',m<=9 * l.length+2/\I6 (D.jA J (D.du J d) ⟨⟨p,0,t⟩,c,k,a,lw (n::l),lw l,th⟩ n) u1 m r u'/\(Off p t N u u'/\r.seat=⟨p,0,t⟩/\r.cell=c/\r.k=k/\Found p u k a (n::l) r):=by
     unfold D.jA;refine rp (M:=9 * l.length+1) hp ht hl1 O O (.inr (hN n (List.mem_cons_self ..))) rfl rfl fun u2 o2=>?_;unfold D.qm
     simp only [en]
     refine rp (M:=9 * l.length) hp ht (by show (u2.length:Int)=_; rw [o2.1]; exact hl1) O hhd hhN rfl rfl fun u3 o3=>?_
     have o:=(o1.trans o2).trans o3;obtain ⟨m,r,u',hm,hr,ho,r1,r2,r3,hF⟩:=ih (fp p n 2) (lw l) th u3 d (fun q hq=>hN q (List.mem_cons_of_mem _ hq)) (by show (u3.length:Int)=_; rw [o.1]; exact hl) (by simp at hd; omega) O O O (br.off hp ht o O O hL.2.2)
     refine ⟨m,r,u',hm,?_,o.trans ho,r1,r2,r3,?_⟩
     ·unfold D.nj
      simp only [f1]
      exact hr
     ·obtain ⟨pre,Jk,e1,k1,k2,k3,k4,k5,k6⟩:=hF
      have hall:∀ q,q∈l->rd u3 (fp p q 0)=rd u (fp p q 0):=by
       have:∀ (l:List Int) (a:Int),br p u a l->∀ q,q∈l->0<=q/\q<p.nodes:=by
        intro l
        induction l with
        | nil=>intro a _ q hq; cases hq
        | cons x l ih=>
         intro a h q hq
         rcases List.mem_cons.1 hq with rfl | hq
         ·exact h.2.1
         ·exact ih _ h.2.2 q hq
       intro q hq;obtain ⟨w1,w2,w3,w4⟩:=eJ hp ht (f:=0) (this l _ hL.2.2 q hq) O;exact o.2 _ O O
      have hsf:∀ q,Jk.head?=some q->q∈l:=fun q hq=>by rw [e1]; exact List.mem_append_right _ (List.mem_of_mem_head? hq)
      refine ⟨n::pre,Jk,by rw [e1]; rfl,fun q hq=>?_,fun q hq=>?_,k3,?_,k5,?_⟩
      ·rcases List.mem_cons.1 hq with rfl | hq
       ·omega
       ·rw [<-hall q (by rw [e1]; exact List.mem_append_left _ hq)]; exact k1 q hq
      ·rw [<-hall q (hsf q hq)]; exact k2 q hq
      ·rw [k4]
       cases pre with
       | nil=>rfl
       | cons x pre=>
        rw [List.getLast?_cons_cons]
        cases hq:(x::pre).getLast? with
        | none=>simp at hq
        | some z=>rfl
      ·rw [k6]
       constructor
       ·rintro ⟨q,hq,h⟩; exact ⟨q,hq,by rw [<-hall q (hsf q hq)]; exact h⟩
       ·rintro ⟨q,hq,h⟩; exact ⟨q,hq,by rw [hall q (hsf q hq)]; exact h⟩
    obtain ⟨m,r,u',hm,hr,hx⟩:=hon;refine ⟨m+3,r,u',O,hrun (m+2) _ _ (hk2 m _ _ ?_),hx⟩
    rw [show decide (rd u (fp p n 0)>=k)=false from by simpa using hge]
    exact hr
  obtain ⟨m,r,u',hm,hr,ho,r1,r2,r3,hF⟩:=key;refine ⟨m+1,r,u',by simp only [List.length_cons]; omega,?_,ho,r1,r2,r3,hF⟩
  show I6 (D.gC J (D.du J d) ⟨⟨p,0,t⟩,c,k,a,lw (n::l),nx,th⟩) u (m+1) _ _
  unfold D.gC;simp only [e,f1];rw [show decide (n<0)=false from by simp; omega]
  refine o8 O O ?_;rw [hnx];unfold D.ni;rw [en];exact hr
theorem qW (J:Nat) {c k:Int} {l:List Int} {u:List Int} {d:Nat} (hl:Len p u) (hd:l.length<d) (h0:0<=c) (h1:c<D.bF p) (h2:¬ (D.aL p+t * 3<=c/\c<D.aL p+t * 3+3)) (hL:br p u c l) :
  ∃ m r u',m<=9 * l.length+3/\I6 (D.jL (J+1) (D.du (J+1) d) ⟨p,0,t⟩ c k) u m r u'/\Off p t l u u'/\r.seat=⟨p,0,t⟩/\r.cell=c/\r.k=k/\Found p u k c l r:=by
 obtain ⟨z1,z2,z3,z4⟩:=cE hp;have hn1:=hp.n1;have hw:=hL.word;have hlu:(u.length:Int)=D.bF p:=hl;have hlw:0<=lw l/\lw l<=2002/\lw l / 2 ^ (1:Int).toNat=lw l / 2:=by
  cases l with
  | nil=>exact ⟨Int.le_refl _,by show (0:Int)<=2002; omega,rfl⟩
  | cons n l=>
   have:=hL.2.1;exact ⟨by show 0<=(n+1) * 2; omega,by show (n+1) * 2<=2002; omega,rfl⟩
 have hG:∃ m u1,m<=3/\I6 (D.lA (J+1) p t 1 c 1) u m (lw l) u1/\Off p t l u u1:=by
  have hg:=CF hp hl (t:=t) (s:=1) (at_:=c) (sh:=1) (w:=lw l) ht O h0 h1 O hlw.1 O O hw J
  by_cases hc:lw l / 2 ^ (1:Int).toNat - 1<0
  ·refine ⟨1,u,O,?_,Off.refl p t l u⟩
   unfold D.lA;refine uR O O ?_;unfold D.nF;rw [hw];exact hg.1 hc
  ·refine ⟨3,u.set (D.aL p+t * 3+1).toNat (lw l / 2 ^ (1:Int).toNat),O,?_,?_⟩
   ·unfold D.lA
    refine uR O O ?_;unfold D.nF;rw [hw];exact hg.2 hc
   ·refine ⟨List.length_set ..,fun j j0 j1=>by rw [bX O O j0,if_neg O],fun j j0=>?_⟩
    rw [bX O O j0]
    by_cases e:j=D.aL p+t * 3+1
    ·rw [if_pos e,hlw.2.2]
     cases l with
     | nil=>exact .inr (.inl rfl)
     | cons x l=>exact .inr (.inr ⟨x,List.mem_cons_self ..,by show (x+1) * 2 / 2=x+1; omega⟩)
    ·rw [if_neg e]; exact .inl rfl
 obtain ⟨m1,u1,hm1,hr1,o1⟩:=hG;obtain ⟨m,r,u',hm,hr,ho,r1,r2,r3,hF⟩:=D0 hp hnn ht (J+1) c k l l c 0 false u1 d (fun q hq=>hq) (by show (u1.length:Int)=_; rw [o1.1]; exact hl) hd h0 h1 h2 (br.off hp ht o1 h0 h2 hL)
 refine ⟨m1+m,r,u',O,I6.bind hr1 hr,o1.trans ho,r1,r2,r3,?_⟩
 obtain ⟨pre,Jk,e1,k1,k2,k3,k4,k5,k6⟩:=hF;have hall:∀ q,q∈l->rd u1 (fp p q 0)=rd u (fp p q 0):=by
  have:∀ (l:List Int) (a:Int),br p u a l->∀ q,q∈l->0<=q/\q<p.nodes:=by
   intro l
   induction l with
   | nil=>intro a _ q hq; cases hq
   | cons x l ih=>
    intro a h q hq
    rcases List.mem_cons.1 hq with rfl | hq
    ·exact h.2.1
    ·exact ih _ h.2.2 q hq
  intro q hq;obtain ⟨w1,w2,w3,w4⟩:=eJ hp ht (f:=0) (this l _ hL q hq) O;exact o1.2 _ O O
 have hsf:∀ q,Jk.head?=some q->q∈l:=fun q hq=>by rw [e1]; exact List.mem_append_right _ (List.mem_of_mem_head? hq)
 refine ⟨pre,Jk,e1,fun q hq=>?_,fun q hq=>?_,k3,k4,k5,?_⟩
 ·rw [<-hall q (by rw [e1]; exact List.mem_append_left _ hq)]; exact k1 q hq
 ·rw [<-hall q (hsf q hq)]; exact k2 q hq
 ·rw [k6]
  constructor
  ·rintro ⟨q,hq,h⟩; exact ⟨q,hq,by rw [<-hall q (hsf q hq)]; exact h⟩
  ·rintro ⟨q,hq,h⟩; exact ⟨q,hq,by rw [hall q (hsf q hq)]; exact h⟩
omit hnn in
theorem rA (J:Nat) (hJ:3<J) {u:List Int} (hl:Len p u) (r:IM) :
  ∃ u',I6 (D.eF J ⟨p,0,t⟩ r) u 3 r u'/\Len p u'/\∀ j,0<=j->rd u' j=if D.aL p+t * 3<=j/\j<D.aL p+t * 3+3 then 0 else rd u j:=by
 obtain ⟨u',hr,h1,h2⟩:=uZ hp ht 3 0 J u O O hJ hl;refine ⟨u',?_,h1,fun j hj=>by rw [h2 j hj]; simp⟩
 unfold D.eF;refine (I6.bind (g:=fun _=>D.qD r) (n:=3) (m:=0) (a:=()) (I7:=u') ?_ (.done _ _))
 exact hr
omit hp ht hnn in
theorem xb {u v:List Int} (hl:u.length=v.length) (h:∀ j,0<=j->rd u j=rd v j):u=v:=by
 apply List.ext_getElem hl
 intro i h1 h2;have:=h i O;simp only [rd,Int.toNat_natCast,List.getD_eq_getElem?_getD,List.getElem?_eq_getElem h1,List.getElem?_eq_getElem h2,Option.getD_some] at this
 exact this
omit hnn in
theorem ou (J:Nat) (hJ:3<J) {N ws u:List Int} (hl:Len p ws) (ho:Off p t N ws u) (hz:∀ j,0<=j->j<3->rd ws (D.aL p+t * 3+j)=0) (r:IM):I6 (D.eF J ⟨p,0,t⟩ r) u 3 r ws:=by
 obtain ⟨u',hr,h1,h2⟩:=rA hp ht J hJ (u:=u) (by show (u.length:Int)=_; rw [ho.1]; exact hl) r
 have e:u'=ws:=xb (by have:(u'.length:Int)=D.bF p:=h1; have:(ws.length:Int)=D.bF p:=hl; omega) fun j hj=>by
  rw [h2 j hj]
  by_cases hc:D.aL p+t * 3<=j/\j<D.aL p+t * 3+3
  ·rw [if_pos hc]
   have:=hz (j - (D.aL p+t * 3)) O O
   rw [show D.aL p+t * 3+(j - (D.aL p+t * 3))=j from by omega] at this
   exact this.symm
  ·rw [if_neg hc]
   exact ho.2 j hj hc
 rw [<-e]
 exact hr
omit hp ht hnn in
theorem br.range {u:List Int}:∀ {l:List Int} {a:Int},br p u a l->∀ q,q∈l->0<=q/\q<p.nodes
 | [],_,_,q,hq=>by cases hq
 | x::l,a,h,q,hq=>by
  rcases List.mem_cons.1 hq with rfl | hq
  ·exact h.2.1
  ·exact br.range h.2.2 q hq
def gotR (ws:List Int) (p:Plan) (k:Int) (Jk:List Int):IM:=match Jk.head? with
 | some n=>if rd ws (fp p n 0)=k then ⟨0,rd ws (fp p n 1)⟩ else ⟨6,0⟩
 | none=>⟨6,0⟩
theorem DH (J:Nat) {c k:Int} {l ws:List Int} (hl:Len p ws) (hd:l.length<J) (hJ:3<J) (h0:0<=c) (h1:c<D.bF p) (h2:¬ (D.aL p+t * 3<=c/\c<D.aL p+t * 3+3)) (hL:br p ws c l)
  (hz:∀ j,0<=j->j<3->rd ws (D.aL p+t * 3+j)=0) :
  ∃ m pre Jk,m<=9 * l.length+7/\l=pre++Jk/\(∀ n,n∈pre->rd ws (fp p n 0)<k)/\(∀ n,Jk.head?=some n->k<=rd ws (fp p n 0))/\I6 (D.iZ (J+1) ⟨p,0,t⟩ c k) ws m (gotR ws p k Jk) ws:=by
 obtain ⟨m,r,u',hm,hr,ho,r1,r2,r3,hF⟩:=qW hp hnn ht J (k:=k) (d:=J+1) hl O h0 h1 h2 hL;obtain ⟨pre,Jk,e1,k1,k2,k3,k4,k5,k6⟩:=hF;have hlu:(u'.length:Int)=D.bF p:=by rw [ho.1]; exact hl
 have fin:∀ (n:Nat) (x:IM),n<=4->I6 (D.gX (J+1) ⟨p,0,t⟩ r) u' n x ws->x=gotR ws p k Jk->∃ m pre Jk,m<=9 * l.length+7/\l=pre++Jk/\(∀ n,n∈pre->rd ws (fp p n 0)<k)/\(∀ n,Jk.head?=some n->k<=rd ws (fp p n 0))/\I6 (D.iZ (J+1) ⟨p,0,t⟩ c k) ws m (gotR ws p k Jk) ws:=by
  intro n x hn hx e;subst e;exact ⟨m+n,pre,Jk,O,e1,k1,k2,I6.bind hr hx⟩
 cases hs:Jk with
 | nil=>
  subst hs;have ht':r.there=false:=by
   cases h:r.there with
   | false=>rfl
   | true=>obtain ⟨q,hq,_⟩:=k6.1 h; cases hq
  refine fin 3 ⟨6,0⟩ O ?_ rfl;unfold D.gX;rw [ht'];exact ou hp ht (J+1) O hl ho hz _
 | cons n s=>
  subst hs;have hn:=hL.range n (by rw [e1]; exact List.mem_append_right _ (List.mem_cons_self ..))
  by_cases hk:rd ws (fp p n 0)=k
  ·have ht':r.there=true:=k6.2 ⟨n,rfl,hk⟩
   obtain ⟨f1,f2,f3,f4⟩:=eJ hp ht (f:=1) hn O;have e:D.aX r.cur=n:=by rw [k3]; exact lnode O O
   refine fin 4 ⟨0,rd ws (fp p n 1)⟩ O ?_ (by simp [gotR,hk]);unfold D.gX;rw [ht',e];show I6 (D.gK (D.bo p n 1) _) _ _ _ _
   rw [f1]
   refine uP (n:=3) O O ?_;rw [ho.2 _ O O];exact ou hp ht (J+1) O hl ho hz _
  ·have ht':r.there=false:=by
    cases h:r.there with
    | false=>rfl
    | true=>
     obtain ⟨q,hq,h2⟩:=k6.1 h;obtain rfl:n=q:=by simpa using hq
     exact absurd h2 hk
   refine fin 3 ⟨6,0⟩ O ?_ (by simp [gotR,hk]);unfold D.gX;rw [ht'];exact ou hp ht (J+1) O hl ho hz _
end
structure J5 (p:Plan) (t:Int) (ws:List Int) (P:Pool) (g:Int):Prop where
 free:FreeAt p ws P.fr g
 ret:RetAt p ws t P.rt
 nod:P.rt.Nodup
 dis:∀ n,n∈P.rt->n ∉ P.fr
 st:∀ n,0<=n->n<p.nodes->KV p ws n (P.st n)
 zero:∀ n f,n∈P.fr->0<=f->f<3->rd ws (sp p n+2+f)=0
theorem PoolAt.toH {p:Plan} {t:Int} {ws:List Int} {P:Pool} {g:Int} (h:PoolAt p t ws P g):J5 p t ws P g:=⟨h.free,h.ret,h.nod,h.dis,h.st,h.zero⟩
theorem J5.toAt {p:Plan} {t:Int} {ws:List Int} {P:Pool} {g:Int} (h:J5 p t ws P g) (hz:∀ j,0<=j->j<p.threads * 3->rd ws (D.aL p+j)=0):PoolAt p t ws P g:=⟨h.free,h.ret,h.nod,h.dis,h.st,hz,h.zero⟩
theorem J5.scan {p:Plan} (hp:PF p) (hnn:p.nodes<=1000) {t:Int} (ht:0<=t/\t<p.threads) {ws:List Int} {P:Pool} {g:Int} (h:J5 p t ws P g) (hh:∀ n,n∈P.rt->¬ heldW p ws n) (hg:g<900000) (J:Nat) (hJ:1100<J) :
  ∃ (m:Nat) (I7:List Int) (g':Int),m<=70 * P.rt.length+1/\g'<=g+P.rt.length/\I6 (D.fW J p t) ws m (P.rt.length:Int) I7/\J5 p t I7 (P.scan p.IP) g'/\KeptP p t P ws I7:=by
 have hN:=cQ hp;have hz:=cE hp;obtain ⟨p1,p2,p3⟩:=dq hp ht;have hh2:∀ n,n∈P.rt->((fun _=>false) n=true↔heldW p ws n):=fun n hn=>⟨fun h=>(by cases h),fun hw=>absurd hw (hh n hn)⟩
 obtain ⟨m,I7,hm,hr,hs⟩:=vA hp hnn ht J hJ h.free.len h.ret h.free (fun n hn=>h.dis n hn) h.nod hh2 hg
 rw [o7 P.rt.length P.rt rfl] at hr hs
 simp only [List.length_reverse] at hr
 obtain ⟨g',hg',hF⟩:=hs.free;have hnr:P.rt.reverse.Nodup:=List.pairwise_reverse.2 (h.nod.imp fun h e=>h e.symm)
 have htof:∀ n,n∈P.rt->tof p ws n=D.bR (P.st n) p.IP:=fun n hn=>by
  have hn':=h.ret.range n hn;unfold tof;have:=(h.st n hn'.1 hn'.2).of;unfold sp at this
  rw [this]
 have Jb:pushAll p ws P.rt.reverse P.fr=(P.scan p.IP).fr:=by
  unfold Pool.scan;rw [oU _ _ _ hnr];unfold pushAll;have:∀ (k L:List Int),(∀ n,n∈k->n∈P.rt)->k.foldl (fun l n=>if (tof p ws n).mode=3 then l else n::l) L=k.foldl (fun l n=>if (D.bR (P.st n) p.IP).mode=3 then l else n::l) L:=by
   intro k
   induction k with
   | nil=>intro _ _; rfl
   | cons q k ih=>
    intro L hq;rw [List.foldl_cons,List.foldl_cons,htof q (hq q (List.mem_cons_self ..))];exact ih _ fun n hn=>hq n (List.mem_cons_of_mem _ hn)
  exact this _ _ fun n hn=>List.mem_reverse.1 hn
 have hsub:∀ n,n∈(P.scan p.IP).fr->n∈P.rt\/n∈P.fr:=fun n hn=>by
  rw [<-Jb] at hn
  rcases qI hn with h | h
  ·exact .inl (List.mem_reverse.1 h)
  ·exact .inr h
 have hrt:(P.scan p.IP).rt=[]:=fG _ _ _;rw [Jb] at hF
 have hst:∀ n,(P.scan p.IP).st n=if n∈P.rt then D.bR (P.st n) p.IP else P.st n:=fun n=>by
  unfold Pool.scan;rw [rG _ _ _ hnr];simp only [List.mem_reverse]
 have hrr:=h.ret.range;have hkeep:∀ j,0<j->(∀ n,n∈P.rt->¬ bL p n j)->¬ (rb p t<=j/\j<rb p t+1+p.retire)->rd I7 j=rd ws j:=fun j j0 h1 h2=>hs.others j j0 (fun n hn=>h1 n (List.mem_reverse.1 hn)) h2
 have hge:=hp.g2;refine ⟨m,I7,g',hm,by simpa using hg',hr,⟨hF,by rw [hrt]; exact hs.ret,by rw [hrt]; exact List.nodup_nil,fun n hn=>(by rw [hrt] at hn; cases hn),fun n n0 n1=>?_,fun n f hn f0 f1=>?_⟩,hs.len,fun j j0 h1 h2=>hkeep j j0 (fun n hn=>h1 n (.inr hn)) h2⟩
 ·rw [hst]
  by_cases hn:n∈P.rt
  ·rw [if_pos hn]
   refine ⟨?_,(h.st n n0 n1).2.freed O⟩;have:=hs.states n (List.mem_reverse.2 hn);rw [htof n hn] at this
   exact this
  ·rw [if_neg hn]
   refine ⟨?_,(h.st n n0 n1).2⟩;rw [hkeep (sp p n) yaj (fun q hq hq'=>?_) yaj]
   ·exact (h.st n n0 n1).1
   ·unfold bL sp at hq'
    exact hn (by rw [show n=q by omega]; exact hq)
 ·by_cases hq:n∈P.rt
  ·exact hs.fields n f (List.mem_reverse.2 hq) f0 f1
  ·have hnf:n∈P.fr:=(hsub n hn).resolve_left hq
   have:=h.free.range n hnf;rw [hkeep _ yaj (fun q hq' hq''=>?_) yaj]
   ·exact h.zero n f hnf f0 f1
   ·unfold bL sp at hq''
    exact hq (by rw [show n=q by omega]; exact hq')
theorem J5.keep {p:Plan} (hp:PF p) {t:Int} (ht:0<=t/\t<p.threads) {ws I7:List Int} {P:Pool} {g:Int} (h:J5 p t ws P g) {st:Int->State} (hl:I7.length=ws.length) (h0:rd I7 0=rd ws 0)
  (hr:∀ j,rb p t<=j->j<rb p t+1+p.retire->rd I7 j=rd ws j) (hf:∀ n f,n∈P.fr->1<=f->f<5->rd I7 (sp p n+f)=rd ws (sp p n+f)) 
  (hs:∀ n,0<=n->n<p.nodes->KV p I7 n (st n)):J5 p t I7 ⟨P.fr,P.rt,st⟩ g:=
 ⟨h.free.keep hl h0 fun n hn=>by have:=hf n 1 hn O O; unfold sp at this; exact this,h.ret.keep hr,h.nod,h.dis,hs,fun n f hn f0 f1=>by
  have:=hf n (2+f) hn O O
  rw [<-Int.add_assoc] at this
  exact this.trans (h.zero n f hn f0 f1)⟩
theorem J5.put {p:Plan} (hp:PF p) {t:Int} (ht:0<=t/\t<p.threads) {ws I7:List Int} {P:Pool} {g n:Int} (h:J5 p t ws P g) (hnr:n ∉ P.rt) (hnf:n ∉ P.fr)
  (hf:(P.rt.length:Int)<p.retire) (hl:I7.length=ws.length) (hR:RetAt p I7 t (P.rt++[n])) (ho:∀ j,0<=j->j≠rb p t->j≠rb p t+1+P.rt.length->rd I7 j=rd ws j) :
  J5 p t I7 ⟨P.fr,P.rt++[n],P.st⟩ g:=by
 have hN:=cQ hp;have hz:=cE hp;obtain ⟨p1,p2,p3⟩:=dq hp ht;refine ⟨h.free.keep hl (ho 0 O O O) fun q hq=>?_,hR,?_,fun q hq=>?_,fun q q0 q1=>?_,fun q f hq f0 f1=>?_⟩
 ·have:=h.free.range q hq
  exact ho _ yaF yaF yaF
 ·refine List.nodup_append.2 ⟨h.nod,List.nodup_cons.2 ⟨List.not_mem_nil,List.nodup_nil⟩,fun a ha b hb e=>?_⟩
  rw [List.mem_singleton.1 hb] at e
  exact hnr (e ▸ ha)
 ·rcases List.mem_append.1 hq with hq | hq
  ·exact h.dis q hq
  ·rw [List.mem_singleton.1 hq]; exact hnf
 ·have:=h.st q q0 q1
  exact ⟨by rw [ho _ yaj yaj yaj]; exact this.1,this.2⟩
 ·have:=h.free.range q hq
  rw [ho _ yaj yaj yaj]
  exact h.zero q f hq f0 f1
theorem J5.stash {p:Plan} (hp:PF p) (hnn:p.nodes<=1000) {t:Int} (ht:0<=t/\t<p.threads) {ws:List Int} {P:Pool} {g n:Int} (h:J5 p t ws P g) (hh:¬ (P.rt.length:Int)<p.retire->∀ n,n∈P.rt->¬ heldW p ws n) (hn:0<=n/\n<p.nodes) (hnr:n ∉ P.rt) (hnf:n ∉ P.fr) (hg:g<900000) (J:Nat) (hJ:1100<J) :
  ∃ (m:Nat) (I7:List Int) (g':Int),m<=70 * P.rt.length+10/\g'<=g+P.rt.length/\I6 (D.nR J p t n) ws m n I7/\J5 p t I7 (P.stash p.retire p.IP n) g'/\KeptP p t P ws I7:=by
 have hN:=cQ hp;have hz:=cE hp;obtain ⟨p1,p2,p3⟩:=dq hp ht;have hrm:=h.ret.room;have hr1:=hp.r1;have ht1:=hp.t1;have hz0:=fJ hp
 by_cases hf:(P.rt.length:Int)<p.retire
 ·obtain ⟨I7,hr,hl,hR,ho⟩:=CG hp ht hn O h.free.len h.ret hf J
  refine ⟨3,I7,g,O,O,hr,?_,hl,fun j j0 h1 h2=>ho j O O O⟩
  unfold Pool.stash;rw [if_pos hf];exact h.put hp ht hnr hnf hf hl hR ho
 ·obtain ⟨m1,ws1,g1,hm1,hg1,hr1',h1,hk1⟩:=h.scan hp hnn ht (hh hf) hg J hJ
  have hrt:(P.scan p.IP).rt=[]:=fG _ _ _;have hret:=h1.ret;rw [hrt] at hret
  have hpos:(([]:List Int).length:Int)<p.retire:=by simp; omega
  obtain ⟨I7,hr,hl,hR,ho⟩:=vP hp ht hn O h1.free.len hret hpos;have hfull:=Dl (n:=n) hp ht h.free.len h.ret O;refine ⟨1+(m1+(3+0)),I7,g1,O,O,?_,?_,hl.trans hk1.1,fun j j0 h2 h3=>(ho j O O yao).trans (hk1.2 j j0 h2 h3)⟩
  ·refine I6.bind (g:=fun x=>D.gN J n p t (fun x=>D.fA n x) x) hfull ?_
   unfold D.gN;rw [show ((-1:Int) !=-1)=false from rfl]
   refine I6.bind (g:=fun x=>D.nB p t n (fun x=>D.fA n x) x) hr1' ?_
   refine I6.bind (g:=fun x=>D.fA n x) hr ?_
   unfold D.fA;exact .done _ _
  ·unfold Pool.stash
   rw [if_neg hf]
   have hx:=h1.put (n:=n) hp ht (by rw [hrt]; exact List.not_mem_nil) (fun hx=>(gk h.nod hx).elim hnr hnf) (by rw [hrt]; exact hpos) hl (by rw [hrt]; exact hR) (by rw [hrt]; exact ho)
   exact hx
theorem Cj {p:Plan} (hp:PF p) (hnn:p.nodes<=1000) {t:Int} (ht:0<=t/\t<p.threads) {ws:List Int} {P:Pool} {g n:Int} (h:J5 p t ws P g) (hh:¬ (P.rt.length:Int)<p.retire->∀ n,n∈P.rt->¬ heldW p ws n) (hg:g<900000) (J:Nat) (hJ:1100<J) (hn:0<=n/\n<p.nodes) (hnr:n ∉ P.rt) (hnf:n ∉ P.fr) :
  ∃ (m:Nat) (I7:List Int) (g':Int),m<=70 * P.rt.length+12/\g'<=g+P.rt.length/\I6 (D.gO J p t n) ws m n I7/\
   J5 p t I7 ((⟨P.fr,P.rt,fun q=>if q=n then ⟨(P.st n).IP,2,(P.st n).kind⟩ else P.st q⟩:Pool).stash p.retire p.IP n) g'/\I7.length=ws.length/\
   ∀ j,0<j->(∀ q,q∈P.fr\/q∈P.rt->¬ bL p q j)->¬ (rb p t<=j/\j<rb p t+1+p.retire)->j≠sp p n->rd I7 j=rd ws j:=by
 obtain ⟨q1,q2,q3⟩:=kr hp hn;obtain ⟨p1,p2,p3⟩:=dq hp ht;obtain ⟨z1,z2,z3,z4⟩:=cE hp;have hl:=h.free.len;have hst:=(h.st n hn.1 hn.2);have hsp:D.aO p<=sp p n:=by unfold sp; omega
 have hS:SF ⟨(P.st n).IP,2,(P.st n).kind⟩:=⟨hst.2.g0,hst.2.g1,by show (0:Int)<=2; omega,by show (2:Int)<=3; omega,hst.2.k0,hst.2.k1⟩
 generalize hu:ws.set (sp p n).toNat (D.cq ⟨(P.st n).IP,2,(P.st n).kind⟩)=u
 have hul:u.length=ws.length:=by rw [<-hu,List.length_set]
 have hur:∀ j,0<=j->rd u j=if j=sp p n then D.cq ⟨(P.st n).IP,2,(P.st n).kind⟩ else rd ws j:=fun j hj=>by rw [<-hu]; exact bX O O hj
 have hPu:J5 p t u ⟨P.fr,P.rt,fun q=>if q=n then ⟨(P.st n).IP,2,(P.st n).kind⟩ else P.st q⟩ g:=by
  refine h.keep hp ht hul (by rw [hur 0 O,if_neg O]) (fun j j0 j1=>by rw [hur j O,if_neg O]) (fun q f hq f0 f1=>?_) (fun q n0 n1=>?_)
  ·have hr:=h.free.range q hq
   have hne:q≠n:=fun e=>hnf (e ▸ hq)
   rw [hur _ yaj,if_neg yaj]
  ·by_cases e:q=n
   ·subst e
    show KV p u q (if q=q then _ else _)
    rw [if_pos rfl]
    exact ⟨by rw [hur _ O,if_pos rfl],hS⟩
   ·show KV p u q (if q=n then _ else _)
    rw [if_neg e]
    have:=h.st q n0 n1;exact ⟨by rw [hur _ yaj,if_neg yaj]; exact this.1,this.2⟩
 have hhu:¬ (P.rt.length:Int)<p.retire->∀ q,q∈P.rt->¬ heldW p u q:=by
  rintro hf q hq ⟨j,j0,j1,hj⟩;rw [hur _ O,if_neg O] at hj
  exact hh hf q hq ⟨j,j0,j1,hj⟩
 obtain ⟨m,I7,g',hm',hg',hr,hP,hk⟩:=hPu.stash hp hnn ht hhu hn hnr hnf hg J hJ;refine ⟨m+2,I7,g',by simp only at hm'; omega,hg',?_,hP,by rw [hk.1,hul],fun j j0 h1 h2 h3=>?_⟩
 ·unfold D.gO
  rw [q3]
  refine CU (n:=m+1) O O ?_;unfold D.qk;rw [q3,hst.of];refine CB O O ?_;unfold D.qe;have hu':ws.set (sp p n).toNat (D.cq (D.gF (P.st n)))=u:=hu;rw [hu'];exact hr
 ·rw [hk.2 j j0 h1 h2,hur j O,if_neg h3]
def bM (p:Plan) (a:Int) (pre:List Int):Int:=match pre.getLast? with
 | none=>a
 | some n=>fp p n 2
theorem qL {p:Plan} {a x:Int} {pre:List Int}:bM p a (x::pre)=bM p (fp p x 2) pre:=by
 unfold bM;cases pre with
 | nil=>rfl
 | cons y pre=>
  rw [List.getLast?_cons_cons]
  cases hq:(y::pre).getLast? with
  | none=>simp at hq
  | some z=>rfl
theorem gb {p:Plan}:∀ {pre:List Int} {a:Int},pre≠[]->∃ q,q∈pre/\bM p a pre=fp p q 2
 | [],_,h=>absurd rfl h
 | [x],a,_=>⟨x,List.mem_cons_self ..,rfl⟩
 | x::y::pre,a,_=>by
  obtain ⟨q,hq,h⟩:=gb (p:=p) (pre:=y::pre) (a:=fp p x 2) (List.cons_ne_nil _ _);exact ⟨q,List.mem_cons_of_mem _ hq,qL.trans h⟩
theorem kn {p:Plan} {m n f:Int} (h:fp p m f=fp p n f):m=n:=by unfold fp sp at h; omega
section
variable {p : Plan} {u w' : List Int}
theorem br.app:∀ {pre Jk:List Int} {a:Int},br p u a (pre++Jk)->br p u (bM p a pre) Jk
 | [],_,_,h=>h
 | x::pre,Jk,a,h=>by rw [qL]; exact br.app (pre:=pre) h.2.2
theorem br.keepW:∀ {l:List Int} {a:Int},br p u a l->rd w' a=rd u a->(∀ q,q∈l->rd w' (fp p q 2)=rd u (fp p q 2))->br p w' a l
 | [],_,h,ha,_=>ha.trans h
 | x::l,a,h,ha,hq=>⟨ha.trans h.1,h.2.1,br.keepW h.2.2 (hq x (List.mem_cons_self ..)) fun q hm=>hq q (List.mem_cons_of_mem _ hm)⟩
theorem br.re {l:List Int} {a a':Int} (h:br p u a l) (ha:rd w' a'=lw l) (hq:∀ q,q∈l->rd w' (fp p q 2)=rd u (fp p q 2)):br p w' a' l:=by
 cases l with
 | nil=>exact ha
 | cons x l=>exact ⟨ha,h.2.1,br.keepW h.2.2 (hq x (List.mem_cons_self ..)) fun q hm=>hq q (List.mem_cons_of_mem _ hm)⟩
theorem br.tail {b:Int} {old new:List Int} (hn:br p w' b new):∀ {pre:List Int} {a:Int},br p u a (pre++old)->b=bM p a pre->(∀ q,q∈pre->fp p q 2≠b->rd w' (fp p q 2)=rd u (fp p q 2))->(a≠b->rd w' a=rd u a)->
  (∀ q,q∈pre->a≠fp p q 2)->pre.Nodup->br p w' a (pre++new)
 | [],a,h,hb,_,_,_,_=>by
  have:b=a:=hb;rw [<-this];exact hn
 | x::pre,a,h,hb,ho,ha,hna,hd=>by
  obtain ⟨h1,h2⟩:=List.nodup_cons.1 hd;have hab:a≠b:=by
   obtain ⟨q,hq,e⟩:=gb (p:=p) (pre:=x::pre) (a:=a) (List.cons_ne_nil _ _);rw [hb,e];exact hna q hq
  exact ⟨(ha hab).trans h.1,h.2.1,br.tail hn h.2.2 (hb.trans qL) (fun q hq=>ho q (List.mem_cons_of_mem _ hq)) (ho x (List.mem_cons_self ..)) (fun q hq e=>h1 (kn e ▸ hq)) h2⟩
theorem br.ins {pre Jk:List Int} {a n:Int} (h:br p u a (pre++Jk)) (hd:(pre++Jk).Nodup) (hna:∀ q,q∈n::(pre++Jk)->a≠fp p q 2) (hn:0<=n/\n<p.nodes) (hnm:n ∉ pre++Jk)
  (h1:rd w' (bM p a pre)=(n+1) * 2) (h2:rd w' (fp p n 2)=lw Jk) (ho:∀ q,q∈pre++Jk->fp p q 2≠bM p a pre->rd w' (fp p q 2)=rd u (fp p q 2)) (ha:a≠bM p a pre->rd w' a=rd u a):br p w' a (pre++n::Jk):=by
 obtain ⟨d1,d2,d3⟩:=List.nodup_append.1 hd;have hs:∀ q,q∈Jk->fp p q 2≠bM p a pre:=fun q hq e=>by
  rcases List.eq_nil_or_concat pre with rfl | ⟨s,z,rfl⟩
  ·exact hna q (List.mem_cons_of_mem _ (by simpa using hq)) e.symm
  ·obtain ⟨x,hx,e2⟩:=gb (p:=p) (pre:=s.concat z) (a:=a) yas
   rw [e2] at e
   exact d3 x hx q hq (kn e).symm
 exact br.tail (old:=Jk) (show br p w' (bM p a pre) (n::Jk) from ⟨h1,hn,br.re h.app h2 fun q hq=>ho q (List.mem_append_right _ hq) (hs q hq)⟩) h rfl (fun q hq=>ho q (List.mem_append_left _ hq)) ha (fun q hq=>hna q (List.mem_cons_of_mem _ (List.mem_append_left _ hq))) d1
theorem br.del {pre Jk:List Int} {a n:Int} (h:br p u a (pre++n::Jk)) (hd:(pre++n::Jk).Nodup) (hna:∀ q,q∈pre++n::Jk->a≠fp p q 2)
  (h1:rd w' (bM p a pre)=lw Jk) (ho:∀ q,q∈pre++Jk->fp p q 2≠bM p a pre->rd w' (fp p q 2)=rd u (fp p q 2)) (ha:a≠bM p a pre->rd w' a=rd u a):br p w' a (pre++Jk):=by
 obtain ⟨d1,d2,d3⟩:=List.nodup_append.1 hd;have hs:∀ q,q∈Jk->fp p q 2≠bM p a pre:=fun q hq e=>by
  rcases List.eq_nil_or_concat pre with rfl | ⟨s,z,rfl⟩
  ·exact hna q (by simp [hq]) e.symm
  ·obtain ⟨x,hx,e2⟩:=gb (p:=p) (pre:=s.concat z) (a:=a) yas
   rw [e2] at e
   exact d3 x hx q (List.mem_cons_of_mem _ hq) (kn e).symm
 exact br.tail (old:=n::Jk) (br.re (h.app).2.2 h1 fun q hq=>ho q (List.mem_append_right _ hq) (hs q hq)) h rfl (fun q hq=>ho q (List.mem_append_left _ hq)) ha (fun q hq=>hna q (List.mem_append_left _ hq)) d1
end
/-! ### A node is put in -/
theorem lword {n:Int} (h0:-1<=n) (h1:n<=1000000):D.jH n=(n+1) * 2:=by
 unfold D.jH KQ;rw [bq (x:=n+1) O O,cX (x:=n+1) O O];show IntKind.u64.wrap ((n+1) * 2)=_
 exact cX O O
theorem qH {at_ w:Int} {f:Unit->T IM} {ws I7:List Int} {n:Nat} {r:IM} (h0:0<=at_) (h1:at_<ws.length) (h:I6 (f ()) (ws.set at_.toNat w) n r I7):I6 (D.fq at_ w f) ws (n+1) r I7:=I6.store h0 h1 h
section
variable {p : Plan} (hp : PF p) (hnn : p.nodes <= 1000) {t : Int} (ht : 0 <= t /\ t < p.threads)
include hp ht hnn
theorem Dd (J d:Nat) {c k n:Int} {l ws:List Int} (hl:Len p ws) (hd:l.length<J) (hJ:3<J) (h0:0<=c) (h1:c<D.aL p) (hL:br p ws c l)
    (hz:∀ j,0<=j->j<3->rd ws (D.aL p+t * 3+j)=0) (hn:0<=n/\n<p.nodes) (hnl:n ∉ l) :
    ∃ pre Jk,l=pre++Jk/\(∀ q,q∈pre->rd ws (fp p q 0)<k)/\(∀ q,Jk.head?=some q->k<=rd ws (fp p q 0))/\
      (((∃ q,Jk.head?=some q/\rd ws (fp p q 0)=k)/\∀ (m':Nat) (r:Int) (I7:List Int),I6 (D.jr (J+1) p n) ws m' r I7->∃ m,m<=9 * l.length+7+m'/\I6 (D.gm (J+1) (d+1) ⟨p,0,t⟩ c k n) ws m ⟨7,0⟩ I7)\/
       ((¬ ∃ q,Jk.head?=some q/\rd ws (fp p q 0)=k)/\∃ (m:Nat) (w3:List Int),m<=9 * l.length+9/\I6 (D.gm (J+1) (d+1) ⟨p,0,t⟩ c k n) ws m ⟨0,0⟩ w3/\Len p w3/\
         ∀ j,0<=j->rd w3 j=if j=bM p c pre then (n+1) * 2 else if j=fp p n 2 then lw Jk else rd ws j)):=by
  obtain ⟨z1,z2,z3,z4⟩:=cE hp;have hn1:=hp.n1;have hS:c<D.bF p:=O
  obtain ⟨m,r,u',hm,hr,ho,r1,r2,r3,hF⟩:=qW hp hnn ht J (k:=k) (d:=J+1) hl O h0 hS O hL;obtain ⟨pre,Jk,e1,k1,k2,k3,k4,k5,k6⟩:=hF;have hlu:(u'.length:Int)=D.bF p:=by rw [ho.1]; exact hl
  have k4':r.place=bM p c pre:=k4;refine ⟨pre,Jk,e1,k1,k2,?_⟩;have hput:∀ {m2:Nat} {x:IM} {w2:List Int},I6 (D.iP (J+1) (D.gm (J+1) d) ⟨p,0,t⟩ n c k r) u' m2 x w2->I6 (D.gm (J+1) (d+1) ⟨p,0,t⟩ c k n) ws (m+m2) x w2:=fun h=>I6.bind hr h
  cases hth:r.there with
  | true=>
    refine .inl ⟨k6.1 hth,fun m' x I7 hR=>⟨m+(3+(m'+0)),O,hput ?_⟩⟩
    unfold D.iP;rw [hth];obtain ⟨v,hv,v1,v2⟩:=uZ hp ht 3 0 (J+1) u' O O O hlu;have e:v=ws:=xb (by have:(v.length:Int)=D.bF p:=v1; have:(ws.length:Int)=D.bF p:=hl; omega) fun j hj=>by
      rw [v2 j hj]
      by_cases hc:D.aL p+t * 3<=j/\j<D.aL p+t * 3+3
      · rw [if_pos O]
        have:=hz (j - (D.aL p+t * 3)) O O
        rw [show D.aL p+t * 3+(j - (D.aL p+t * 3))=j from by omega] at this
        exact this.symm
      · rw [if_neg O]
        exact ho.2 j hj hc
    subst e;refine I6.bind (g:=fun _=>D.lB (J+1) ⟨p,0,t⟩ n) (a:=()) (I7:=v) hv ?_
    unfold D.lB;exact I6.bind (g:=fun x=>D.qo x) hR (.done _ _)
  | false=>
    refine .inr ⟨fun h=>(by rw [k6.2 h] at hth; cases hth),?_⟩
    obtain ⟨f1,f2,f3,f4⟩:=eJ hp ht (f:=2) hn O;have hrg:=hL.range;have hpl:0<=bM p c pre/\bM p c pre<D.bF p/\¬ (D.aL p+t * 3<=bM p c pre/\bM p c pre<D.aL p+t * 3+3)/\bM p c pre≠fp p n 2:=by
      cases hpre:pre with
      | nil=>
        have:bM p c []=c:=rfl;rw [this];exact ⟨h0,hS,O,O⟩
      | cons x s=>
        obtain ⟨q,hq,e⟩:=gb (p:=p) (pre:=x::s) (a:=c) (List.cons_ne_nil _ _);have hql:q∈l:=by rw [e1,hpre]; exact List.mem_append_left _ hq
        obtain ⟨g1,g2,g3,g4⟩:=eJ hp ht (f:=2) (hrg q hql) O;rw [e];exact ⟨O,g3,O,fun h=>hnl (kn h ▸ hql)⟩
    obtain ⟨p1,p2,p3,p4⟩:=hpl;have hcur:rd ws (bM p c pre)=lw Jk:=(br.app (e1 ▸ hL)).word
    generalize hu1:u'.set (fp p n 2).toNat (lw Jk)=u1
    have hl1:(u1.length:Int)=D.bF p:=by rw [<-hu1,List.length_set]; exact hlu
    have hr1:∀ j,0<=j->rd u1 j=if j=fp p n 2 then lw Jk else rd u' j:=fun j hj=>by rw [<-hu1]; exact bX O O hj
    generalize hu2:u1.set (bM p c pre).toNat ((n+1) * 2)=u2
    have hl2:(u2.length:Int)=D.bF p:=by rw [<-hu2,List.length_set]; exact hl1
    have Jz:∀ j,0<=j->rd u2 j=if j=bM p c pre then (n+1) * 2 else rd u1 j:=fun j hj=>by rw [<-hu2]; exact bX O O hj
    obtain ⟨w3,hw,w1,w2⟩:=rA hp ht (J+1) O (u:=u2) hl2 ⟨0,0⟩;refine ⟨m+5,w3,O,hput (m2:=5) ?_,w1,fun j hj=>?_⟩
    · unfold D.iP
      rw [hth]
      show I6 (D.fq (D.bo p n 2) r.cur _) _ _ _ _
      rw [f1,k3]
      refine qH (n:=4) O O ?_;rw [hu1];unfold D.nL;rw [k4',k3,lword O O];refine qN (n:=3) p1 O ?_;have hpw:rd u1 (bM p c pre)=lw Jk:=by rw [hr1 _ p1,if_neg p4,ho.2 _ p1 p3,hcur]
      rw [hpw,if_pos rfl,hu2]
      unfold D.lp;rw [show (lw Jk==lw Jk)=true from by simp]
      exact hw
    · rw [w2 j hj]
      by_cases hc:D.aL p+t * 3<=j/\j<D.aL p+t * 3+3
      · rw [if_pos hc,if_neg (show ¬ j=bM p c pre from fun e=>p3 (e ▸ hc)),if_neg O]
        have:=hz (j - (D.aL p+t * 3)) O O
        rw [show D.aL p+t * 3+(j - (D.aL p+t * 3))=j from by omega] at this
        exact this.symm
      · rw [if_neg hc,Jz j hj]
        by_cases e:j=bM p c pre
        · rw [if_pos e,if_pos e]
        · rw [if_neg e,if_neg e,hr1 j hj]
          by_cases e2:j=fp p n 2
          · rw [if_pos e2,if_pos e2]
          · rw [if_neg e2,if_neg e2]
            exact ho.2 j hj hc
end
theorem BI {p:Plan} (hp:PF p) {t:Int} (ht:0<=t/\t<p.threads) {ws I7:List Int} {P:Pool} {g n:Int} (h:J5 p t ws P g) (hn:0<=n/\n<p.nodes) (hnr:n ∉ P.rt) (hnf:n ∉ P.fr)
  (hR:Reclaimed p n (D.bR (P.st n) p.IP) ws I7 P.fr g):∃ g',g'<=g+1/\J5 p t I7 (P.back p.IP n) g':=by
 have hN:=cQ hp;have hz:=cE hp;have hge:=hp.g2;obtain ⟨p1,p2,p3⟩:=dq hp ht;have hret:RetAt p I7 t P.rt:=h.ret.keep fun j j0 j1=>hR.others j O yaI
 have hst:∀ q,0<=q->q<p.nodes->KV p I7 q ((P.back p.IP n).st q):=fun q q0 q1=>by
  by_cases e:q=n
  ·subst e
   show KV p I7 q (if q=q then _ else _)
   rw [if_pos rfl]
   exact ⟨hR.state,(h.st q q0 q1).2.freed O⟩
  ·show KV p I7 q (if q=n then _ else _)
   rw [if_neg e]
   have:=h.st q q0 q1;exact ⟨by rw [hR.others _ yaj (by unfold sp bL; omega)]; exact this.1,this.2⟩
 have hz:∀ q f,q∈P.fr->0<=f->f<3->rd I7 (sp p q+2+f)=0:=fun q f hq f0 f1=>by
  have hqr:=h.free.range q hq;have hne:q≠n:=fun e=>hnf (e ▸ hq)
  rw [hR.others _ yaj (by unfold sp bL; omega)]
  exact h.zero q f hq f0 f1
 by_cases e:(D.bR (P.st n) p.IP).mode=3
 ·have ef:(P.back p.IP n).fr=P.fr:=if_pos e
  exact ⟨g,O,by rw [ef]; exact hR.gone e,hret,h.nod,by rw [ef]; exact h.dis,hst,by rw [ef]; exact hz⟩
 ·have ef:(P.back p.IP n).fr=n::P.fr:=if_neg e
  refine ⟨g+1,O,by rw [ef]; exact hR.free e,hret,h.nod,fun q hq hq'=>?_,hst,fun q f hq f0 f1=>?_⟩
  ·rw [ef] at hq'
   rcases List.mem_cons.1 hq' with rfl | hq'
   ·exact hnr hq
   ·exact h.dis q hq hq'
  ·rw [ef] at hq
   rcases List.mem_cons.1 hq with rfl | hq
   ·exact hR.fields f f0 f1
   ·exact hz q f hq f0 f1
theorem gi (p:Plan) (c:Int) (pre:List Int):(bM p c pre=c/\pre=[])\/∃ q,q∈pre/\bM p c pre=fp p q 2:=by
 rcases List.eq_nil_or_concat pre with hpre | ⟨s,z,hpre⟩
 ·rw [hpre]; exact .inl ⟨rfl,rfl⟩
 ·exact .inr (gb (p:=p) (pre:=pre) (a:=c) (by rw [hpre]; simp))
section
variable {p : Plan} (hp : PF p) (hnn : p.nodes <= 1000) {t : Int} (ht : 0 <= t /\ t < p.threads)
include hp ht
theorem J5.hzs {ws u:List Int} {P:Pool} {g:Int} (h:J5 p t ws P g) (hl:u.length=ws.length) (ho:∀ j,0<=j->¬ (D.aL p+t * 3<=j/\j<D.aL p+t * 3+3)->rd u j=rd ws j):J5 p t u P g:=by
 obtain ⟨z1,z2,z3,z4⟩:=cE hp;obtain ⟨p1,p2,p3⟩:=dq hp ht;refine h.keep hp ht (st:=P.st) hl (ho 0 O O) (fun j j0 j1=>ho j O O) (fun q e hq e0 e1=>?_) (fun q q0 q1=>?_)
 ·have hr:=h.free.range q hq
  exact ho _ yaj yaj
 ·have:=h.st q q0 q1
  exact ⟨by rw [ho _ yaj yaj]; exact this.1,this.2⟩
theorem J5.beside {ws I7:List Int} {P:Pool} {g:Int} (h:J5 p t ws P g) (A:Int->Prop)
  (hA:∀ j,A j->(0<j/\j<D.aL p)\/∃ n f:Int,(0<=n/\n<p.nodes)/\n ∉ P.fr/\(0<=f/\f<3)/\j=fp p n f) (hl:I7.length=ws.length) (ho:∀ j,0<=j->¬ A j->rd I7 j=rd ws j):J5 p t I7 P g:=by
 obtain ⟨z1,z2,z3,z4⟩:=cE hp;obtain ⟨p1,p2,p3⟩:=dq hp ht;have hfp:∀ q f,fp p q f=D.aO p+q * 5+2+f:=fun q f=>rfl
 refine h.keep hp ht (st:=P.st) hl (ho 0 O fun ha=>?_) (fun j j0 j1=>ho j O fun ha=>?_) (fun q e hq e0 e1=>?_) (fun q q0 q1=>?_)
 ·rcases hA _ ha with ha | ⟨n,f,hn,_,hf,he⟩
  ·omega
  ·rw [hfp] at he; omega
 ·rcases hA _ ha with ha | ⟨n,f,hn,_,hf,he⟩
  ·omega
  ·rw [hfp] at he; omega
 ·have hr:=h.free.range q hq
  refine ho _ yaj fun ha=>?_
  rcases hA _ ha with ha | ⟨n,f,hn,hnf,hf,he⟩
  ·unfold sp at ha; omega
  ·rw [hfp] at he
   unfold sp at he
   have:n=q:=O
   exact hnf (this ▸ hq)
 ·have:=h.st q q0 q1
  have hne:¬ A (sp p q):=fun ha=>by
   rcases hA _ ha with ha | ⟨n,f,hn,_,hf,he⟩
   ·unfold sp at ha; omega
   ·rw [hfp] at he
    unfold sp at he; omega
  exact ⟨by rw [ho _ yaj hne]; exact this.1,this.2⟩
include hnn
def dropP (p:Plan) (P:Pool) (n:Int):Pool:=(⟨P.fr,P.rt,fun q=>if q=n then ⟨(P.st n).IP,2,(P.st n).kind⟩ else P.st q⟩:Pool).stash p.retire p.IP n
theorem D1 (J d:Nat) {c k g:Int} {l ws:List Int} {P:Pool} (hP:J5 p t ws P g) (hg:g<900000) (hd:l.length<J) (hJ:1100<J) (h0:0<c) (h1:c<D.aL p) (hL:br p ws c l) (hnd:l.Nodup)
    (hout:∀ q,q∈l->q ∉ P.fr/\q ∉ P.rt) (hz:∀ j,0<=j->j<3->rd ws (D.aL p+t * 3+j)=0) (hh:¬ (P.rt.length:Int)<p.retire->∀ n,n∈P.rt->¬ heldW p ws n) :
    ∃ pre Jk,l=pre++Jk/\(∀ q,q∈pre->rd ws (fp p q 0)<k)/\(∀ q,Jk.head?=some q->k<=rd ws (fp p q 0))/\
      (((¬ ∃ q,Jk.head?=some q/\rd ws (fp p q 0)=k)/\∃ m,m<=9 * l.length+6/\I6 (D.eV (J+1) (d+1) ⟨p,0,t⟩ c k) ws m ⟨6,0⟩ ws)\/
       (∃ n Lb,Jk=n::Lb/\rd ws (fp p n 0)=k/\∃ (m:Nat) (w3:List Int) (g':Int),m<=9 * l.length+70 * P.rt.length+21/\g'<=g+P.rt.length/\I6 (D.eV (J+1) (d+1) ⟨p,0,t⟩ c k) ws m ⟨0,rd ws (fp p n 1)⟩ w3/\
         J5 p t w3 (dropP p P n) g'/\w3.length=ws.length/\br p w3 c (pre++Lb)/\(∀ j,0<=j->j<3->rd w3 (D.aL p+t * 3+j)=0)/\
         ∀ j,0<j->(∀ q,q∈P.fr\/q∈P.rt\/q=n->¬ bL p q j)->¬ (rb p t<=j/\j<rb p t+1+p.retire)->j≠bM p c pre->rd w3 j=rd ws j)):=by
  obtain ⟨z1,z2,z3,z4⟩:=cE hp;obtain ⟨b1,b2,b3⟩:=dq hp ht;have hn1:=hp.n1;have hl:Len p ws:=hP.free.len;have hS:c<D.bF p:=O
  have hfp:∀ q f,fp p q f=D.aO p+q * 5+2+f:=fun q f=>rfl
  have hsp:∀ q,sp p q=D.aO p+q * 5:=fun q=>rfl
  obtain ⟨m,r,u',hm,hr,ho,r1,r2,r3,hF⟩:=qW hp hnn ht J (k:=k) (d:=J+1) hl O O hS O hL;obtain ⟨pre,Jk,e1,k1,k2,k3,k4,k5,k6⟩:=hF;have hlu:(u'.length:Int)=D.bF p:=by rw [ho.1]; exact hl
  have k4':r.place=bM p c pre:=k4
  clear k4
  refine ⟨pre,Jk,e1,k1,k2,?_⟩;have hdel:∀ {m2:Nat} {x:IM} {w2:List Int},I6 (D.iQ (J+1) (D.eV (J+1) d) ⟨p,0,t⟩ c k r) u' m2 x w2->I6 (D.eV (J+1) (d+1) ⟨p,0,t⟩ c k) ws (m+m2) x w2:=fun h=>I6.bind hr h
  cases hth:r.there with
  | false=>
    refine .inl ⟨fun h=>(by rw [k6.2 h] at hth; cases hth),m+3,O,hdel ?_⟩
    unfold D.iQ;rw [hth];exact ou hp ht (J+1) O hl ho hz _
  | true=>
    obtain ⟨n,hn,hkn⟩:=k6.1 hth;obtain ⟨Lb,rfl⟩:∃ s,Jk=n::s:=by
      cases Jk with
      | nil=>cases hn
      | cons x s=>exact ⟨s,by rw [show x=n from by simpa using hn]⟩
    refine .inr ⟨n,Lb,rfl,hkn,?_⟩;have hnl:n∈l:=by rw [e1]; exact List.mem_append_right _ (List.mem_cons_self ..)
    have hnr:=hL.range n hnl;obtain ⟨o1,o2⟩:=hout n hnl;obtain ⟨f1,f2,f3,f4⟩:=eJ hp ht (f:=2) hnr O
    obtain ⟨v1,v2,v3,v4⟩:=eJ hp ht (f:=1) hnr O;have ec:D.aX r.cur=n:=by rw [k3]; exact lnode O O
    have enx:r.next=lw Lb:=k5 n rfl;have happ:=br.app (e1 ▸ hL);have hcur:rd ws (bM p c pre)=(n+1) * 2:=happ.1;have hnx:rd ws (fp p n 2)=lw Lb:=happ.2.2.word;have hdd:=List.nodup_append.1 (e1 ▸ hnd);have hpl:0<bM p c pre/\bM p c pre<D.bF p/\¬ (D.aL p<=bM p c pre/\bM p c pre<D.aO p)/\bM p c pre≠fp p n 2:=by
      cases hpre:pre with
      | nil=>
        have:bM p c []=c:=rfl;rw [this];exact ⟨h0,hS,O,O⟩
      | cons x s=>
        obtain ⟨q,hq,e⟩:=gb (p:=p) (pre:=x::s) (a:=c) (List.cons_ne_nil _ _);have hql:q∈l:=by rw [e1,hpre]; exact List.mem_append_left _ hq
        obtain ⟨g1,g2,g3,g4⟩:=eJ hp ht (f:=2) (hL.range q hql) O;have:=(hL.range q hql).1;rw [e];refine ⟨O,g3,by rw [hfp]; omega,fun h=>?_⟩
        have:=kn h;exact hdd.2.2 q (by rw [hpre]; exact hq) n (List.mem_cons_self ..) this
    obtain ⟨p1,p2,p3,p4⟩:=hpl;have hPu:=hP.hzs hp ht ho.1 ho.2;have hstep:∀ (y:Int),∃ u2:List Int,u2=(u'.set (fp p n 2).toNat y).set (bM p c pre).toNat (lw Lb)/\u2.length=u'.length/\∀ j,0<=j->rd u2 j=if j=bM p c pre then lw Lb else if j=fp p n 2 then y else rd u' j:=fun y=>by
      refine ⟨_,rfl,by simp,fun j hj=>?_⟩
      rw [bX O yaD hj,bX O O hj]
    obtain ⟨u2,hu2,hl2,Jz⟩:=hstep (dS .u64 (lw Lb) 1);have hP2:J5 p t u2 P g:=hPu.beside hp ht (fun j=>j=bM p c pre\/j=fp p n 2) (fun j hj=>by
      rcases hj with rfl | rfl
      · rcases gi p c pre with ⟨e,_⟩ | ⟨q,hq,e⟩
        · exact .inl ⟨p1,O⟩
        · have hql:q∈l:=by rw [e1]; exact List.mem_append_left _ hq
          exact .inr ⟨q,2,hL.range q hql,(hout q hql).1,O,e⟩
      · exact .inr ⟨n,2,hnr,o1,O,rfl⟩) hl2 fun j hj hne=>by rw [Jz j hj,if_neg fun e=>hne (.inl e),if_neg fun e=>hne (.inr e)]
    have hh2:¬ (P.rt.length:Int)<p.retire->∀ q,q∈P.rt->¬ heldW p u2 q:=by
      rintro hf q hq ⟨j,j0,j1,hj⟩;have hqr:=(hP.ret.range q hq).1;rw [Jz _ O,if_neg O,if_neg yal] at hj
      rcases ho.nam (D.aL p+j) O with e | e | ⟨x,hx,e⟩
      · exact hh hf q hq ⟨j,j0,j1,by rw [<-e]; exact hj⟩
      · omega
      · have:x=q:=by omega
        exact (hout x hx).2 (this ▸ hq)
    obtain ⟨m3,w',g',hm3,hg',hr3,hP3,hl3,hk3⟩:=Cj hp hnn ht hP2 hh2 hg (J+1) O hnr o2 o1;have hlw:Len p w':=by unfold Len; rw [hl3,hl2]; exact hlu
    obtain ⟨w3,hw,w1,w2⟩:=rA hp ht (J+1) O (u:=w') hlw ⟨0,rd ws (fp p n 1)⟩;have hl3':w3.length=w'.length:=by have:(w3.length:Int)=D.bF p:=w1; have:(w'.length:Int)=D.bF p:=hlw; omega
    have Jb:∀ j,0<j->(∀ q,q∈P.fr\/q∈P.rt\/q=n->¬ bL p q j)->¬ (rb p t<=j/\j<rb p t+1+p.retire)->j≠bM p c pre->rd w3 j=rd ws j:=fun j j0 h1 h2 h3=>by
      have hnn':=h1 n (.inr (.inr rfl));have e1:j≠sp p n:=fun e=>hnn' (by unfold bL; rw [hsp] at e; omega)
      have e2:j≠fp p n 2:=fun e=>hnn' (by unfold bL; rw [hfp] at e; omega)
      rw [w2 j O]
      by_cases hc:D.aL p+t * 3<=j/\j<D.aL p+t * 3+3
      · rw [if_pos hc]
        have:=hz (j - (D.aL p+t * 3)) O O
        rw [show D.aL p+t * 3+(j - (D.aL p+t * 3))=j from by omega] at this
        exact this.symm
      · rw [if_neg hc,hk3 j j0 (fun q hq=>h1 q (hq.imp id .inl)) h2 e1,Jz j O,if_neg h3,if_neg e2]
        exact ho.2 j O hc
    have hin:∀ q,q∈pre++Lb->q∈l/\q≠n:=fun q hq=>by
      rcases List.mem_append.1 hq with hq | hq
      · exact ⟨by rw [e1]; exact List.mem_append_left _ hq,fun e=>hdd.2.2 q hq n (List.mem_cons_self ..) e⟩
      · exact ⟨by rw [e1]; exact List.mem_append_right _ (List.mem_cons_of_mem _ hq),fun e=>(List.nodup_cons.1 hdd.2.1).1 (e ▸ hq)⟩
    have hof:∀ x,x∈l->∀ q,q∈P.fr\/q∈P.rt->¬ bL p q (fp p x 2):=fun x hx q hq ho=>by
      have hqr:0<=q/\q<p.nodes:=by
        rcases hq with hq | hq
        · exact hP.free.range q hq
        · exact hP.ret.range q hq
      unfold bL at ho
      rw [hfp] at ho
      have:q=x:=O
      subst this
      rcases hq with hq | hq
      · exact (hout q hx).1 hq
      · exact (hout q hx).2 hq
    have hlast:rd w3 (bM p c pre)=lw Lb:=by
      rw [w2 _ O,if_neg O,hk3 _ p1 (fun q hq=>?_) O (fun e=>?_),Jz _ O,if_pos rfl]
      · rcases gi p c pre with ⟨e,_⟩ | ⟨x,hx,e⟩
        · have hqr:0<=q/\q<p.nodes:=by
            rcases hq with hq | hq
            · exact hP.free.range q hq
            · exact hP.ret.range q hq
          rw [e]; unfold bL; omega
        · rw [e]; exact hof x (by rw [e1]; exact List.mem_append_left _ hx) q hq
      · rcases gi p c pre with ⟨e',_⟩ | ⟨x,hx,e'⟩
        · rw [e',hsp] at e; omega
        · rw [e',hsp,hfp] at e; omega
    refine ⟨m+(2+(m3+3))+1,w3,g',O,hg',(hdel (m2:=(m3+3)+3) ?_).cast O,hP3.hzs hp ht hl3' (fun j hj hne=>by rw [w2 j hj,if_neg hne]),O,?_,fun j j0 j1=>by rw [w2 _ O,if_pos O],Jb⟩
    · unfold D.iQ
      rw [hth,ec]
      show I6 (D.gK (D.bo p n 1) _) _ _ _ _
      rw [v1]
      refine uP (n:=m3+3+2) O O ?_;rw [ho.2 _ O O];unfold D.nO;show I6 (D.jx (D.bo p n 2) _ _ _) _ _ _ _
      rw [f1,enx]
      refine qN (n:=m3+3+1) O O ?_;rw [ho.2 _ O O,hnx,if_pos rfl,show (lw Lb==lw Lb)=true from by simp]
      unfold D.lq;show I6 (D.lH (J+1) ⟨p,0,t⟩ r (rd ws (fp p n 1))) _ _ _ _
      unfold D.lH;rw [k4',enx,k3];refine qN (n:=m3+3) O yaD ?_;have:rd (u'.set (fp p n 2).toNat (dS .u64 (lw Lb) 1)) (bM p c pre)=(n+1) * 2:=by
        rw [bX O O O,if_neg p4,ho.2 _ O O,hcur]
      rw [this]
      show I6 (D.jt _ _ _ _ ((n+1) * 2==(n+1) * 2)) (if (n+1) * 2=(n+1) * 2 then _ else _) _ _ _
      rw [if_pos rfl,<-hu2,show ((n+1) * 2==(n+1) * 2)=true from by simp]
      unfold D.jt;rw [ec];exact I6.bind hr3 hw
    · refine br.del (e1 ▸ hL) (e1 ▸ hnd) (fun q hq e=>?_) hlast (fun q hq hne=>?_) (fun hne=>?_)
      · have:=hL.range q (by rw [e1]; exact hq)
        rw [hfp] at e; omega
      · obtain ⟨hql,hqn⟩:=hin q hq
        have hqr:=hL.range q hql;refine Jb _ yal (fun x hx=>?_) yal hne
        rcases hx with hx | hx | rfl
        · exact hof q hql x (.inl hx)
        · exact hof q hql x (.inr hx)
        · unfold bL; rw [hfp]; omega
      · refine Jb c h0 (fun x hx=>?_) O hne
        have hxr:0<=x/\x<p.nodes:=by
          rcases hx with hx | hx | rfl
          · exact hP.free.range x hx
          · exact hP.ret.range x hx
          · exact hnr
        unfold bL; omega
end
section
variable {p : Plan} (hp : PF p) (hdm : 0 < p.domains) (hnn : p.nodes <= 40) {t : Int} (ht : 0 <= t /\ t < p.threads)
include hp hdm hnn ht
theorem PoolAt.grantF {ws:List Int} {P:Pool} {g k:Int} (hk:0<=k/\k<=2) (h:PoolAt p t ws P g) (hg:g<900000) (J:Nat) (hJ:1100<J) :
  ∃ (m:Nat) (I7:List Int) (g':Int),m<=70 * P.rt.length+10/\g'<=g+P.rt.length+1/\I6 (D.jM J p t k) ws m (P.grant p.IP k).2 I7/\PoolAt p t I7 (P.grant p.IP k).1 g'/\((P.grant p.IP k).2.e=0->∀ f,0<=f->f<3->rd I7 (fp p (P.grant p.IP k).2.node f)=0)/\KeptP p t P ws I7:=by
 have hN:=cQ hp;have hz:=cE hp;obtain ⟨p1,p2,p3⟩:=dq hp ht;have hrm:=h.ret.room;have Jz:=hp.r2;obtain ⟨fr,rt,st⟩:=P;cases fr with
 | cons n l=>
  have hn:=h.free.range n (List.mem_cons_self ..);obtain ⟨K,rfl⟩:∃ K,J=K+1:=⟨J - 1,O⟩
  obtain ⟨I7,hr,hl,hF,hst,ho⟩:=DM hp (t:=t) h.free O O (h.st n hn.1 hn.2) hk K;refine ⟨5,I7,g+1,O,O,hr,h.took hp ht hk hl hF hst ho,fun _ f f0 f1=>?_,hl,fun j j0 h1 h2=>ho j j0 fun e=>h1 n (.inl (List.mem_cons_self ..)) (by unfold bL; unfold sp at e; omega)⟩
  exact (ho _ (by show 0<sp p n+2+f; unfold sp; omega) (by show sp p n+2+f≠sp p n; omega)).trans (h.zero n f (List.mem_cons_self ..) f0 f1)
 | nil=>
  obtain ⟨K,rfl⟩:∃ K,J=K+1:=⟨J - 1,O⟩
  obtain ⟨m1,ws1,g1,hm1,hg1,hr1,h1,hk1⟩:=h.scan hp O ht hg (K+1) hJ;have hnew:∀ {m:Nat} {gr:IY} {I7:List Int},I6 (T.bind (D.di (K+1) p) (fun x=>D.ep p k x)) ws1 m gr I7->I6 (D.jM (K+1) p t k) ws (m1+1+m) gr I7:=fun {m gr I7} hr=>by
   refine (I6.bind (g:=fun x=>D.gR (K+1) p k t (fun x=>D.ep p k x) x) (vI hp h.free O K) (m:=m1+m) ?_).cast O
   unfold D.gR;rw [show ((-1:Int) !=-1)=false from rfl]
   exact I6.bind (g:=fun x=>D.nI (K+1) p (fun x=>D.ep p k x) x) hr1 hr
  show ∃ (m:Nat) (I7:List Int) (g':Int),_/\_/\I6 _ ws m (((⟨[],rt,st⟩:Pool).scan p.IP).out k).2 I7/\PoolAt p t I7 (((⟨[],rt,st⟩:Pool).scan p.IP).out k).1 g'/\((((⟨[],rt,st⟩:Pool).scan p.IP).out k).2.e=0->∀ f,0<=f->f<3->rd I7 (fp p (((⟨[],rt,st⟩:Pool).scan p.IP).out k).2.node f)=0)/\_
  have Jb:∀ n,n∈((⟨[],rt,st⟩:Pool).scan p.IP).fr->n∈rt:=fun n hn=>(gk h.nod hn).resolve_right fun h=>(by cases h)
  have hgl:g1<1000000:=O
  generalize hQ:(⟨[],rt,st⟩:Pool).scan p.IP=Q at h1 Jb
  obtain ⟨fr',rt',st'⟩:=Q;cases fr' with
  | nil=>
   exact ⟨m1+1+1,ws1,g1,O,O,hnew (CV hp h1.free hgl K),h1,(fun h=>by cases h),hk1⟩
  | cons n l=>
   have hn:=h1.free.range n (List.mem_cons_self ..);obtain ⟨I7,hr,hl,hF,hst,ho⟩:=CJ hp h1.free O hgl (h1.st n hn.1 hn.2) hk K
   refine ⟨m1+1+5,I7,g1+1,O,O,hnew hr,h1.took hp ht hk hl hF hst ho,fun _ f f0 f1=>?_,hl.trans hk1.1,fun j j0 h2 h3=>(ho j j0 fun e=>?_).trans (hk1.2 j j0 h2 h3)⟩
   ·exact (ho _ (by show 0<sp p n+2+f; unfold sp; omega) (by show sp p n+2+f≠sp p n; omega)).trans (h1.zero n f (List.mem_cons_self ..) f0 f1)
   ·exact h2 n (.inr (Jb n (List.mem_cons_self ..))) (by unfold bL; unfold sp at e; omega)
end
theorem ri:∀ {l k:List Int},l.Nodup->(∀ x,x∈l->x∈k)->l.length<=k.length
 | [],k,_,_=>Nat.zero_le _
 | a::l,k,hn,hs=>by
  obtain ⟨h1,h2⟩:=List.nodup_cons.1 hn;have ha:=hs a (List.mem_cons_self ..);have:=ri (k:=k.erase a) h2 fun x hx=>(List.mem_erase_of_ne (fun e=>h1 (by rw [<-e]; exact hx))).2 (hs x (List.mem_cons_of_mem _ hx))
  rw [List.length_erase_of_mem ha] at this
  have:=List.length_pos_of_mem ha;simp only [List.length_cons];omega
end Go.Proofs.YtbbipmelhmgmfaaGreat

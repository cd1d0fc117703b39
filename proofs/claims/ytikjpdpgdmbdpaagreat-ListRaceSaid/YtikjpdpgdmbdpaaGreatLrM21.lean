/- Some of our texts, one behind the other. -/
import Derived.Test.YtikjpdpgdmbdpaaGreatLrM16
import Derived.Test.YtikjpdpgdmbdpaaGreatLrLListp
set_option linter.all false
/- Ours. -/
namespace Go.Proofs.YtikjpdpgdmbdpaaGreat
open Go.RowKit
theorem m8 {at_:Int} {f:Int→T Walk} {ws ws':List Int} {n:Nat} {r:Walk} (h0:0≤at_) (h1:at_<ws.length) (h:Runs (f (rd ws at_)) ws n r ws'):Runs (D.gL at_ f) ws (n+1) r ws':=Runs.load h0 h1 h
def lw:List Int→Int
  | []=>0
  | n::_=>(n+1) * 2
def bu (p:Plan) (u:List Int):Int→List Int→Prop
  | a,[]=>rd u a=0
  | a,n::l=>rd u a=(n+1) * 2∧(0≤n∧n<p.nodes)∧bu p u (fp p n 2) l
structure Off (p:Plan) (t:Int) (N:List Int) (u u':List Int):Prop where
  len:u'.length=u.length
  out:∀ j,0≤j→¬ (D.aL p+t * 3≤j∧j<D.aL p+t * 3+3)→rd u' j=rd u j
  nam:∀ j,0≤j→rd u' j=rd u j∨rd u' j=0∨∃ x,x∈N∧rd u' j=x+1
theorem Off.refl (p:Plan) (t:Int) (N u:List Int):Off p t N u u:=⟨rfl,fun _ _ _=>rfl,fun _ _=>.inl rfl⟩
theorem Off.trans {p:Plan} {t:Int} {N u v w:List Int} (h:Off p t N u v) (h':Off p t N v w):Off p t N u w:=⟨h'.1.trans h.1,fun j h0 h1=>(h'.2 j h0 h1).trans (h.2 j h0 h1),fun j h0=>by
  rcases h'.nam j h0 with e | e
  · rw [e]; exact h.nam j h0
  · exact .inr e⟩
theorem bu.word {p:Plan} {u:List Int} {a:Int}:∀ {l:List Int},bu p u a l→rd u a=lw l
  | [],h=>h
  | _::_,h=>h.1
theorem lnode {n:Int} (h0:-1≤n) (h1:n≤1000000):D.aV ((n+1) * 2)=n:=by
  unfold D.aV;rw [(vV (sh:=1) kw kw).1];have:(n+1) * 2 / 2 ^ (1:Int).toNat=n+1:=by
    show (n+1) * 2 / 2=n+1
    omega
  rw [this,bq (x:=n+1) kw kw,bq kw kw]
  omega
theorem qm:D.aV 0=-1:=by
  have h:=lnode (n:=-1) kw kw
  rwa [show ((-1:Int)+1) * 2=0 from rfl] at h
theorem C5 {p:Plan} {u:List Int} {a:Int} {l:List Int} (h:bu p u a l) (hnn:p.nodes≤1000):D.aV (lw l)=l.headD (-1):=by
  cases l with
  | nil=>exact qm
  | cons n l=>exact lnode (by have:=h.2.1; omega) (by have:=h.2.1; omega)
theorem CL {p:Plan} {u:List Int} {a:Int} {l:List Int} (h:bu p u a l) (hnn:p.nodes≤1000):-1≤l.headD (-1)∧l.headD (-1)≤1000:=by
  cases l with
  | nil=>exact ⟨Int.le_refl _,by show (-1:Int)≤1000; omega⟩
  | cons n l=>exact ⟨by have:=h.2.1; show -1≤n; omega,by have:=h.2.1; show n≤1000; omega⟩
theorem uD {x:Int} (h0:0≤x) (h1:x<1000000):cw .u64 (x * 2) 1=0:=by
  rw [and_eq kw kw kw kw]
  have:(1:Int).toNat=1:=rfl;rw [this,Nat.and_one_is_mod];omega
theorem uW {p:Plan} {u:List Int} {a:Int} {l:List Int} (h:bu p u a l) (hnn:p.nodes≤1000):cw .u64 (lw l) 1=0:=by
  cases l with
  | nil=>
    have h:=uD (x:=0) kw kw
    rwa [show (0:Int) * 2=0 from rfl] at h
  | cons n l=>exact uD (by have:=h.2.1; omega) (by have:=h.2.1; omega)
section
variable {p : Plan} (hp : PF p) (hnn : p.nodes ≤ 1000) {t : Int} (ht : 0 ≤ t ∧ t < p.threads)
include hp ht
theorem fa {n f:Int} (hn:0≤n∧n<p.nodes) (hf:0≤f∧f<3):D.bf p n f=fp p n f∧0<fp p n f∧fp p n f<D.bG p∧D.aL p+t * 3+3≤fp p n f:=by
  obtain ⟨z1,z2,z3,z4⟩:=bX hp;obtain ⟨q1,q2,q3⟩:=ku hp hn;have hsp:D.aM p≤sp p n:=by unfold sp; omega
  refine ⟨?_,?_,?_,?_⟩
  · rw [mC hp,if_pos ⟨hn,hf⟩]; rfl
  all_goals (unfold fp; omega)
theorem bu.off {N u u':List Int} (ho:Off p t N u u'):∀ {l:List Int} {a:Int},0≤a→¬ (D.aL p+t * 3≤a∧a<D.aL p+t * 3+3)→bu p u a l→bu p u' a l
  | [],a,h0,h1,h=>(ho.2 a h0 h1).trans h
  | n::l,a,h0,h1,h=>by
    obtain ⟨f1,f2,f3,f4⟩:=fa hp ht (f:=2) h.2.1 kw;exact ⟨(ho.2 a h0 h1).trans h.1,h.2.1,bu.off ho kw kw h.2.2⟩
theorem C8 {N u:List Int} (hl:Len p u) {s n:Int} (hs:0≤s∧s<3) (hn:-1≤n∧n≤1000) (hN:n=-1∨n∈N):∃ u',Runs (D.dT p t s n) u 1 () u'∧Off p t N u u':=by
  obtain ⟨z1,z2,z3,z4⟩:=bX hp;have hn1:=hp.n1;refine ⟨_,px hp hl ht hs kw,List.length_set ..,fun j h0 h1=>?_,fun j h0=>?_⟩
  · unfold Len at hl
    rw [cn kw kw h0,if_neg kw]
  · unfold Len at hl
    rw [cn kw kw h0]
    by_cases e:j=D.aL p+t * 3+s
    · rw [if_pos e]
      rcases hN with hN | hN
      · exact .inr (.inl kw)
      · exact .inr (.inr ⟨n,hN,rfl⟩)
    · rw [if_neg e]; exact .inl rfl
theorem pV {N u:List Int} (hl:Len p u) {s n:Int} (hs:0≤s∧s<3) (hn:-1≤n∧n≤1000) (hN:n=-1∨n∈N) {f:Walk} (hf1:f.seat.p=p) (hf2:f.seat.thread=t) {k:Unit→T Walk} {M:Nat} {Φ:Walk→List Int→Prop}
    (h:∀ u',Off p t N u u'→∃ m r u2,m≤M∧Runs (k ()) u' m r u2∧Φ r u2):∃ m r u2,m≤M+1∧Runs (D.eE f s n k) u m r u2∧Φ r u2:=by
  obtain ⟨u',hr,ho⟩:=C8 hp ht hl hs hn hN;obtain ⟨m,r,u2,hm,h2,hΦ⟩:=h u' ho;refine ⟨1+m,r,u2,kw,?_,hΦ⟩
  unfold D.eE;rw [hf1,hf2];exact Runs.bind hr h2
include hnn
structure Found (p:Plan) (u:List Int) (k a:Int) (l:List Int) (r:Walk):Prop where
  ex:∃ pre suf,l=pre++suf∧(∀ n,n∈pre→rd u (fp p n 0)<k)∧(∀ n,suf.head?=some n→k≤rd u (fp p n 0))∧r.cur=lw suf∧r.place=(match pre.getLast? with | none=>a | some n=>fp p n 2)∧
    (∀ n,suf.head?=some n→r.next=lw suf.tail)∧(r.there=true↔∃ n,suf.head?=some n∧rd u (fp p n 0)=k)
theorem BN (J:Nat) (c k:Int) (N:List Int):∀ (l:List Int) (a nx:Int) (th:Bool) (u:List Int) (d:Nat),(∀ q,q∈l→q∈N)→Len p u→l.length<d→0≤a→a<D.bG p→¬ (D.aL p+t * 3≤a∧a<D.aL p+t * 3+3)→bu p u a l→
    ∃ m r u',m≤9 * l.length∧Runs (D.cz J d ⟨⟨p,0,t⟩,c,k,a,lw l,nx,th⟩) u m r u'∧Off p t N u u'∧r.seat=⟨p,0,t⟩∧r.cell=c∧r.k=k∧Found p u k a l r:=by
  intro l
  induction l with
  | nil=>
    intro a nx th u d hN hl hd h0 h1 h2 hL;obtain ⟨d,rfl⟩:∃ q,d=q+1:=⟨d - 1,by simp at hd; omega⟩
    refine ⟨0,⟨⟨p,0,t⟩,c,k,a,0,nx,false⟩,u,kw,?_,Off.refl p t N u,rfl,rfl,rfl,⟨[],[],rfl,nofun,nofun,rfl,rfl,nofun,⟨nofun,fun ⟨_,h,_⟩=>by cases h⟩⟩⟩
    show Runs (D.fK J (D.cz J d) ⟨⟨p,0,t⟩,c,k,a,0,nx,th⟩) u 0 _ u
    unfold D.fK;have e:=qm;simp only [e];exact .done _ _
  | cons n l ih=>
    intro a nx th u d hN hl hd h0 h1 h2 hL;obtain ⟨d,rfl⟩:∃ q,d=q+1:=⟨d - 1,by simp at hd; omega⟩
    have hn:=hL.2.1;obtain ⟨f1,f2,f3,f4⟩:=fa hp ht (f:=2) hn kw
    obtain ⟨g1,g2,g3,g4⟩:=fa hp ht (f:=0) hn kw;have e:D.aV (lw (n::l))=n:=lnode kw kw;have hlu:(u.length:Int)=D.bG p:=hl;have hnx:=hL.2.2.word;have en:=C5 hL.2.2 hnn;have hhd:=CL hL.2.2 hnn;have hhN:l.headD (-1)=-1∨l.headD (-1)∈N:=by
      cases l with
      | nil=>exact .inl rfl
      | cons x l=>exact .inr (hN x (by simp))
    have key:∃ m r u',m≤9 * l.length+8∧Runs (D.eE ⟨⟨p,0,t⟩,c,k,a,lw (n::l),nx,th⟩ 0 (l.headD (-1)) fun _=>D.je J (D.cz J d) (fp p n 2) (lw l) ⟨⟨p,0,t⟩,c,k,a,lw (n::l),nx,th⟩ n) u m r u'∧
        (Off p t N u u'∧r.seat=⟨p,0,t⟩∧r.cell=c∧r.k=k∧Found p u k a (n::l) r):=by
      refine pV (M:=9 * l.length+7) hp ht hl kw kw hhN rfl rfl fun u1 o1=>?_;have hl1:(u1.length:Int)=D.bG p:=by rw [o1.1]; exact hl
      have hrun:∀ (m:Nat) (r:Walk) (u':List Int),Runs (D.ij J (D.cz J d) ⟨⟨p,0,t⟩,c,k,a,lw (n::l),lw l,th⟩ n) u1 m r u'→Runs (D.je J (D.cz J d) (fp p n 2) (lw l) ⟨⟨p,0,t⟩,c,k,a,lw (n::l),nx,th⟩ n) u1 (m+1) r u':=by
        intro m r u' h;unfold D.je;refine m8 kw kw ?_;rw [o1.2 _ kw kw,hnx];unfold D.ja;rw [show (lw l !=lw l)=false from by simp]
        exact h
      have hk2:∀ (m:Nat) (r:Walk) (u':List Int),Runs (bif decide (rd u (fp p n 0)≥k) then D.iw ⟨⟨p,0,t⟩,c,k,a,lw (n::l),lw l,rd u (fp p n 0)==k⟩ else D.iA J (D.cz J d) ⟨⟨p,0,t⟩,c,k,a,lw (n::l),lw l,th⟩ n) u1 m r u'→
          Runs (D.ij J (D.cz J d) ⟨⟨p,0,t⟩,c,k,a,lw (n::l),lw l,th⟩ n) u1 (m+2) r u':=by
        intro m r u' h;unfold D.ij;refine m8 (n:=m+1) (by show 0≤D.bf p n 0; rw [g1]; omega) (by show D.bf p n 0<_; rw [g1]; omega) ?_;show Runs (D.lg J (D.cz J d) _ n (rd u1 (D.bf p n 0))) _ _ _ _
        rw [g1,o1.2 _ kw kw]
        unfold D.lg;refine m8 (by simp only; omega) (by simp only; omega) ?_;simp only;rw [o1.2 _ h0 h2,hL.1];unfold D.gD;rw [show ((n+1) * 2 !=lw (n::l))=false from by simp [lw],uW hL.2.2 hnn]
        exact h
      by_cases hge:rd u (fp p n 0)≥k
      · refine ⟨3,⟨⟨p,0,t⟩,c,k,a,lw (n::l),lw l,rd u (fp p n 0)==k⟩,u1,kw,hrun 2 _ _ (hk2 0 _ _ ?_),o1,rfl,rfl,rfl,⟨[],n::l,rfl,nofun,fun q hq=>?_,rfl,rfl,fun q hq=>rfl,?_⟩⟩
        · rw [show decide (rd u (fp p n 0)≥k)=true from by simpa using hge]
          exact .done _ _
        · obtain rfl:n=q:=by simpa using hq
          exact hge
        · simp
      · have hon:∃ m r u',m≤9 * l.length+2∧Runs (D.iA J (D.cz J d) ⟨⟨p,0,t⟩,c,k,a,lw (n::l),lw l,th⟩ n) u1 m r u'∧(Off p t N u u'∧r.seat=⟨p,0,t⟩∧r.cell=c∧r.k=k∧Found p u k a (n::l) r):=by
          unfold D.iA;refine pV (M:=9 * l.length+1) hp ht hl1 kw kw (.inr (hN n (List.mem_cons_self ..))) rfl rfl fun u2 o2=>?_;unfold D.oz
          simp only [en]
          refine pV (M:=9 * l.length) hp ht (by show (u2.length:Int)=_; rw [o2.1]; exact hl1) kw hhd hhN rfl rfl fun u3 o3=>?_
          have o:=(o1.trans o2).trans o3;obtain ⟨m,r,u',hm,hr,ho,r1,r2,r3,hF⟩:=ih (fp p n 2) (lw l) th u3 d (fun q hq=>hN q (List.mem_cons_of_mem _ hq)) (by show (u3.length:Int)=_; rw [o.1]; exact hl) (by simp at hd; omega) kw kw kw (bu.off hp ht o kw kw hL.2.2)
          refine ⟨m,r,u',hm,?_,o.trans ho,r1,r2,r3,?_⟩
          · unfold D.lu
            simp only [f1]
            exact hr
          · obtain ⟨pre,suf,e1,k1,k2,k3,k4,k5,k6⟩:=hF
            have hall:∀ q,q∈l→rd u3 (fp p q 0)=rd u (fp p q 0):=by
              have:∀ (l:List Int) (a:Int),bu p u a l→∀ q,q∈l→0≤q∧q<p.nodes:=by
                intro l
                induction l with
                | nil=>intro a _ q hq; cases hq
                | cons x l ih=>
                  intro a h q hq
                  rcases List.mem_cons.1 hq with rfl | hq
                  · exact h.2.1
                  · exact ih _ h.2.2 q hq
              intro q hq;obtain ⟨w1,w2,w3,w4⟩:=fa hp ht (f:=0) (this l _ hL.2.2 q hq) kw;exact o.2 _ kw kw
            have hsf:∀ q,suf.head?=some q→q∈l:=fun q hq=>by rw [e1]; exact List.mem_append_right _ (List.mem_of_mem_head? hq)
            refine ⟨n::pre,suf,by rw [e1]; rfl,fun q hq=>?_,fun q hq=>?_,k3,?_,k5,?_⟩
            · rcases List.mem_cons.1 hq with rfl | hq
              · omega
              · rw [←hall q (by rw [e1]; exact List.mem_append_left _ hq)]; exact k1 q hq
            · rw [←hall q (hsf q hq)]; exact k2 q hq
            · rw [k4]
              cases pre with
              | nil=>rfl
              | cons x pre=>
                rw [List.getLast?_cons_cons]
                cases hq:(x::pre).getLast? with
                | none=>simp at hq
                | some z=>rfl
            · rw [k6]
              constructor
              · rintro ⟨q,hq,h⟩; exact ⟨q,hq,by rw [←hall q (hsf q hq)]; exact h⟩
              · rintro ⟨q,hq,h⟩; exact ⟨q,hq,by rw [hall q (hsf q hq)]; exact h⟩
        obtain ⟨m,r,u',hm,hr,hx⟩:=hon;refine ⟨m+3,r,u',kw,hrun (m+2) _ _ (hk2 m _ _ ?_),hx⟩
        rw [show decide (rd u (fp p n 0)≥k)=false from by simpa using hge]
        exact hr
    obtain ⟨m,r,u',hm,hr,ho,r1,r2,r3,hF⟩:=key;refine ⟨m+1,r,u',by simp only [List.length_cons]; omega,?_,ho,r1,r2,r3,hF⟩
    show Runs (D.fK J (D.cz J d) ⟨⟨p,0,t⟩,c,k,a,lw (n::l),nx,th⟩) u (m+1) _ _
    unfold D.fK;simp only [e,f1];rw [show decide (n<0)=false from by simp; omega]
    refine m8 kw kw ?_;rw [hnx];unfold D.lr;rw [en];exact hr
theorem ui (J:Nat) {c k:Int} {l:List Int} {u:List Int} {d:Nat} (hl:Len p u) (hd:l.length<d) (h0:0≤c) (h1:c<D.bG p) (h2:¬ (D.aL p+t * 3≤c∧c<D.aL p+t * 3+3)) (hL:bu p u c l) :
    ∃ m r u',m≤9 * l.length+3∧Runs (D.fX (J+1) (D.cz (J+1) d) ⟨p,0,t⟩ c k) u m r u'∧Off p t l u u'∧r.seat=⟨p,0,t⟩∧r.cell=c∧r.k=k∧Found p u k c l r:=by
  obtain ⟨z1,z2,z3,z4⟩:=bX hp;have hn1:=hp.n1;have hw:=hL.word;have hlu:(u.length:Int)=D.bG p:=hl;have hlw:0≤lw l∧lw l≤2002∧lw l / 2 ^ (1:Int).toNat=lw l / 2:=by
    cases l with
    | nil=>exact ⟨Int.le_refl _,by show (0:Int)≤2002; omega,rfl⟩
    | cons n l=>
      have:=hL.2.1;exact ⟨by show 0≤(n+1) * 2; omega,by show (n+1) * 2≤2002; omega,rfl⟩
  have hG:∃ m u1,m≤3∧Runs (D.fV (J+1) p t 1 c 1) u m (lw l) u1∧Off p t l u u1:=by
    have hg:=BB hp hl (t:=t) (s:=1) (at_:=c) (sh:=1) (w:=lw l) ht kw h0 h1 kw hlw.1 kw kw hw J
    by_cases hc:lw l / 2 ^ (1:Int).toNat - 1<0
    · refine ⟨1,u,kw,?_,Off.refl p t l u⟩
      unfold D.fV;refine tG kw kw ?_;unfold D.lK;rw [hw];exact hg.1 hc
    · refine ⟨3,u.set (D.aL p+t * 3+1).toNat (lw l / 2 ^ (1:Int).toNat),kw,?_,?_⟩
      · unfold D.fV
        refine tG kw kw ?_;unfold D.lK;rw [hw];exact hg.2 hc
      · refine ⟨List.length_set ..,fun j j0 j1=>by rw [cn kw kw j0,if_neg kw],fun j j0=>?_⟩
        rw [cn kw kw j0]
        by_cases e:j=D.aL p+t * 3+1
        · rw [if_pos e,hlw.2.2]
          cases l with
          | nil=>exact .inr (.inl rfl)
          | cons x l=>exact .inr (.inr ⟨x,List.mem_cons_self ..,by show (x+1) * 2 / 2=x+1; omega⟩)
        · rw [if_neg e]; exact .inl rfl
  obtain ⟨m1,u1,hm1,hr1,o1⟩:=hG;obtain ⟨m,r,u',hm,hr,ho,r1,r2,r3,hF⟩:=BN hp hnn ht (J+1) c k l l c 0 false u1 d (fun q hq=>hq) (by show (u1.length:Int)=_; rw [o1.1]; exact hl) hd h0 h1 h2 (bu.off hp ht o1 h0 h2 hL)
  refine ⟨m1+m,r,u',kw,Runs.bind hr1 hr,o1.trans ho,r1,r2,r3,?_⟩
  obtain ⟨pre,suf,e1,k1,k2,k3,k4,k5,k6⟩:=hF;have hall:∀ q,q∈l→rd u1 (fp p q 0)=rd u (fp p q 0):=by
    have:∀ (l:List Int) (a:Int),bu p u a l→∀ q,q∈l→0≤q∧q<p.nodes:=by
      intro l
      induction l with
      | nil=>intro a _ q hq; cases hq
      | cons x l ih=>
        intro a h q hq
        rcases List.mem_cons.1 hq with rfl | hq
        · exact h.2.1
        · exact ih _ h.2.2 q hq
    intro q hq;obtain ⟨w1,w2,w3,w4⟩:=fa hp ht (f:=0) (this l _ hL q hq) kw;exact o1.2 _ kw kw
  have hsf:∀ q,suf.head?=some q→q∈l:=fun q hq=>by rw [e1]; exact List.mem_append_right _ (List.mem_of_mem_head? hq)
  refine ⟨pre,suf,e1,fun q hq=>?_,fun q hq=>?_,k3,k4,k5,?_⟩
  · rw [←hall q (by rw [e1]; exact List.mem_append_left _ hq)]; exact k1 q hq
  · rw [←hall q (hsf q hq)]; exact k2 q hq
  · rw [k6]
    constructor
    · rintro ⟨q,hq,h⟩; exact ⟨q,hq,by rw [←hall q (hsf q hq)]; exact h⟩
    · rintro ⟨q,hq,h⟩; exact ⟨q,hq,by rw [hall q (hsf q hq)]; exact h⟩
omit hnn in
theorem vE (J:Nat) (hJ:3<J) {u:List Int} (hl:Len p u) (r:Res) :
    ∃ u',Runs (D.dJ J ⟨p,0,t⟩ r) u 3 r u'∧Len p u'∧∀ j,0≤j→rd u' j=if D.aL p+t * 3≤j∧j<D.aL p+t * 3+3 then 0 else rd u j:=by
  obtain ⟨u',hr,h1,h2⟩:=tE hp ht 3 0 J u kw kw hJ hl;refine ⟨u',?_,h1,fun j hj=>by rw [h2 j hj]; simp⟩
  unfold D.dJ;refine (Runs.bind (g:=fun _=>D.oQ r) (n:=3) (m:=0) (a:=()) (ws':=u') ?_ (.done _ _))
  exact hr
omit hp ht hnn in
theorem vN {u v:List Int} (hl:u.length=v.length) (h:∀ j,0≤j→rd u j=rd v j):u=v:=by
  apply List.ext_getElem hl
  intro i h1 h2;have:=h i kw;simp only [rd,Int.toNat_natCast,List.getD_eq_getElem?_getD,List.getElem?_eq_getElem h1,List.getElem?_eq_getElem h2,Option.getD_some] at this
  exact this
omit hnn in
theorem pz (J:Nat) (hJ:3<J) {N ws u:List Int} (hl:Len p ws) (ho:Off p t N ws u) (hz:∀ j,0≤j→j<3→rd ws (D.aL p+t * 3+j)=0) (r:Res):Runs (D.dJ J ⟨p,0,t⟩ r) u 3 r ws:=by
  obtain ⟨u',hr,h1,h2⟩:=vE hp ht J hJ (u:=u) (by show (u.length:Int)=_; rw [ho.1]; exact hl) r
  have e:u'=ws:=vN (by have:(u'.length:Int)=D.bG p:=h1; have:(ws.length:Int)=D.bG p:=hl; omega) fun j hj=>by
    rw [h2 j hj]
    by_cases hc:D.aL p+t * 3≤j∧j<D.aL p+t * 3+3
    · rw [if_pos hc]
      have:=hz (j - (D.aL p+t * 3)) kw kw
      rw [show D.aL p+t * 3+(j - (D.aL p+t * 3))=j from by omega] at this
      exact this.symm
    · rw [if_neg hc]
      exact ho.2 j hj hc
  rw [←e]
  exact hr
omit hp ht hnn in
theorem bu.range {u:List Int}:∀ {l:List Int} {a:Int},bu p u a l→∀ q,q∈l→0≤q∧q<p.nodes
  | [],_,_,q,hq=>by cases hq
  | x::l,a,h,q,hq=>by
    rcases List.mem_cons.1 hq with rfl | hq
    · exact h.2.1
    · exact bu.range h.2.2 q hq
def gotR (ws:List Int) (p:Plan) (k:Int) (suf:List Int):Res:=match suf.head? with
  | some n=>if rd ws (fp p n 0)=k then ⟨0,rd ws (fp p n 1)⟩ else ⟨6,0⟩
  | none=>⟨6,0⟩
theorem Cl (J:Nat) {c k:Int} {l ws:List Int} (hl:Len p ws) (hd:l.length<J) (hJ:3<J) (h0:0≤c) (h1:c<D.bG p) (h2:¬ (D.aL p+t * 3≤c∧c<D.aL p+t * 3+3)) (hL:bu p ws c l)
    (hz:∀ j,0≤j→j<3→rd ws (D.aL p+t * 3+j)=0) :
    ∃ m pre suf,m≤9 * l.length+7∧l=pre++suf∧(∀ n,n∈pre→rd ws (fp p n 0)<k)∧(∀ n,suf.head?=some n→k≤rd ws (fp p n 0))∧Runs (D.pN (J+1) ⟨p,0,t⟩ c k) ws m (gotR ws p k suf) ws:=by
  obtain ⟨m,r,u',hm,hr,ho,r1,r2,r3,hF⟩:=ui hp hnn ht J (k:=k) (d:=J+1) hl kw h0 h1 h2 hL;obtain ⟨pre,suf,e1,k1,k2,k3,k4,k5,k6⟩:=hF;have hlu:(u'.length:Int)=D.bG p:=by rw [ho.1]; exact hl
  have fin:∀ (n:Nat) (x:Res),n≤4→Runs (D.jI (J+1) ⟨p,0,t⟩ r) u' n x ws→x=gotR ws p k suf→∃ m pre suf,m≤9 * l.length+7∧l=pre++suf∧(∀ n,n∈pre→rd ws (fp p n 0)<k)∧(∀ n,suf.head?=some n→k≤rd ws (fp p n 0))∧Runs (D.pN (J+1) ⟨p,0,t⟩ c k) ws m (gotR ws p k suf) ws:=by
    intro n x hn hx e;subst e;exact ⟨m+n,pre,suf,kw,e1,k1,k2,Runs.bind hr hx⟩
  cases hs:suf with
  | nil=>
    subst hs;have ht':r.there=false:=by
      cases h:r.there with
      | false=>rfl
      | true=>obtain ⟨q,hq,_⟩:=k6.1 h; cases hq
    refine fin 3 ⟨6,0⟩ kw ?_ rfl;unfold D.jI;rw [ht'];exact pz hp ht (J+1) kw hl ho hz _
  | cons n s=>
    subst hs;have hn:=hL.range n (by rw [e1]; exact List.mem_append_right _ (List.mem_cons_self ..))
    by_cases hk:rd ws (fp p n 0)=k
    · have ht':r.there=true:=k6.2 ⟨n,rfl,hk⟩
      obtain ⟨f1,f2,f3,f4⟩:=fa hp ht (f:=1) hn kw;have e:D.aV r.cur=n:=by rw [k3]; exact lnode kw kw
      refine fin 4 ⟨0,rd ws (fp p n 1)⟩ kw ?_ (by simp [gotR,hk]);unfold D.jI;rw [ht',e];show Runs (D.fR (D.bf p n 1) _) _ _ _ _
      rw [f1]
      refine Br (n:=3) kw kw ?_;rw [ho.2 _ kw kw];exact pz hp ht (J+1) kw hl ho hz _
    · have ht':r.there=false:=by
        cases h:r.there with
        | false=>rfl
        | true=>
          obtain ⟨q,hq,h2⟩:=k6.1 h;obtain rfl:n=q:=by simpa using hq
          exact absurd h2 hk
      refine fin 3 ⟨6,0⟩ kw ?_ (by simp [gotR,hk]);unfold D.jI;rw [ht'];exact pz hp ht (J+1) kw hl ho hz _
end
structure PoolH (p:Plan) (t:Int) (ws:List Int) (P:Pool) (g:Int):Prop where
  free:FreeAt p ws P.fr g
  ret:RetAt p ws t P.rt
  nod:P.rt.Nodup
  dis:∀ n,n∈P.rt→n ∉ P.fr
  st:∀ n,0≤n→n<p.nodes→StAt p ws n (P.st n)
  zero:∀ n f,n∈P.fr→0≤f→f<3→rd ws (sp p n+2+f)=0
theorem PoolAt.toH {p:Plan} {t:Int} {ws:List Int} {P:Pool} {g:Int} (h:PoolAt p t ws P g):PoolH p t ws P g:=⟨h.free,h.ret,h.nod,h.dis,h.st,h.zero⟩
theorem PoolH.toAt {p:Plan} {t:Int} {ws:List Int} {P:Pool} {g:Int} (h:PoolH p t ws P g) (hz:∀ j,0≤j→j<p.threads * 3→rd ws (D.aL p+j)=0):PoolAt p t ws P g:=⟨h.free,h.ret,h.nod,h.dis,h.st,hz,h.zero⟩
theorem PoolH.scan {p:Plan} (hp:PF p) (hnn:p.nodes≤1000) {t:Int} (ht:0≤t∧t<p.threads) {ws:List Int} {P:Pool} {g:Int} (h:PoolH p t ws P g) (hh:∀ n,n∈P.rt→¬ heldW p ws n) (hg:g<900000) (J:Nat) (hJ:1100<J) :
    ∃ (m:Nat) (ws':List Int) (g':Int),m≤70 * P.rt.length+1∧g'≤g+P.rt.length∧Runs (D.eG J p t) ws m (P.rt.length:Int) ws'∧PoolH p t ws' (P.scan p.gen) g'∧KeptP p t P ws ws':=by
  have hN:=cE hp;have hz:=bX hp;obtain ⟨p1,p2,p3⟩:=cG hp ht;have hh2:∀ n,n∈P.rt→((fun _=>false) n=true↔heldW p ws n):=fun n hn=>⟨fun h=>(by cases h),fun hw=>absurd hw (hh n hn)⟩
  obtain ⟨m,ws',hm,hr,hs⟩:=uf hp hnn ht J hJ h.free.len h.ret h.free (fun n hn=>h.dis n hn) h.nod hh2 hg
  rw [p8 P.rt.length P.rt rfl] at hr hs
  simp only [List.length_reverse] at hr
  obtain ⟨g',hg',hF⟩:=hs.free;have hnr:P.rt.reverse.Nodup:=List.pairwise_reverse.2 (h.nod.imp fun h e=>h e.symm)
  have htof:∀ n,n∈P.rt→tof p ws n=D.bv (P.st n) p.gen:=fun n hn=>by
    have hn':=h.ret.range n hn;unfold tof;have:=(h.st n hn'.1 hn'.2).of;unfold sp at this
    rw [this]
  have hfr:pushAll p ws P.rt.reverse P.fr=(P.scan p.gen).fr:=by
    unfold Pool.scan;rw [iS _ _ _ hnr];unfold pushAll;have:∀ (k L:List Int),(∀ n,n∈k→n∈P.rt)→k.foldl (fun l n=>if (tof p ws n).mode=3 then l else n::l) L=k.foldl (fun l n=>if (D.bv (P.st n) p.gen).mode=3 then l else n::l) L:=by
      intro k
      induction k with
      | nil=>intro _ _; rfl
      | cons q k ih=>
        intro L hq;rw [List.foldl_cons,List.foldl_cons,htof q (hq q (List.mem_cons_self ..))];exact ih _ fun n hn=>hq n (List.mem_cons_of_mem _ hn)
    exact this _ _ fun n hn=>List.mem_reverse.1 hn
  have hsub:∀ n,n∈(P.scan p.gen).fr→n∈P.rt∨n∈P.fr:=fun n hn=>by
    rw [←hfr] at hn
    rcases oV hn with h | h
    · exact .inl (List.mem_reverse.1 h)
    · exact .inr h
  have hrt:(P.scan p.gen).rt=[]:=jW _ _ _;rw [hfr] at hF
  have hst:∀ n,(P.scan p.gen).st n=if n∈P.rt then D.bv (P.st n) p.gen else P.st n:=fun n=>by
    unfold Pool.scan;rw [jY _ _ _ hnr];simp only [List.mem_reverse]
  have hrr:=h.ret.range;have hkeep:∀ j,0<j→(∀ n,n∈P.rt→¬ bK p n j)→¬ (rb p t≤j∧j<rb p t+1+p.retire)→rd ws' j=rd ws j:=fun j j0 h1 h2=>hs.others j j0 (fun n hn=>h1 n (List.mem_reverse.1 hn)) h2
  have hge:=hp.g2;refine ⟨m,ws',g',hm,by simpa using hg',hr,⟨hF,by rw [hrt]; exact hs.ret,by rw [hrt]; exact List.nodup_nil,fun n hn=>(by rw [hrt] at hn; cases hn),fun n n0 n1=>?_,fun n f hn f0 f1=>?_⟩,hs.len,fun j j0 h1 h2=>hkeep j j0 (fun n hn=>h1 n (.inr hn)) h2⟩
  · rw [hst]
    by_cases hn:n∈P.rt
    · rw [if_pos hn]
      refine ⟨?_,(h.st n n0 n1).2.freed kw⟩;have:=hs.states n (List.mem_reverse.2 hn);rw [htof n hn] at this
      exact this
    · rw [if_neg hn]
      refine ⟨?_,(h.st n n0 n1).2⟩;rw [hkeep (sp p n) (by unfold sp; omega) (fun q hq hq'=>?_) (by unfold sp; omega)]
      · exact (h.st n n0 n1).1
      · unfold bK sp at hq'
        exact hn (by rw [show n=q by omega]; exact hq)
  · by_cases hq:n∈P.rt
    · exact hs.fields n f (List.mem_reverse.2 hq) f0 f1
    · have hnf:n∈P.fr:=(hsub n hn).resolve_left hq
      have:=h.free.range n hnf;rw [hkeep _ (by unfold sp; omega) (fun q hq' hq''=>?_) (by unfold sp; omega)]
      · exact h.zero n f hnf f0 f1
      · unfold bK sp at hq''
        exact hq (by rw [show n=q by omega]; exact hq')
theorem PoolH.keep {p:Plan} (hp:PF p) {t:Int} (ht:0≤t∧t<p.threads) {ws ws':List Int} {P:Pool} {g:Int} (h:PoolH p t ws P g) {st:Int→State} (hl:ws'.length=ws.length) (h0:rd ws' 0=rd ws 0)
    (hr:∀ j,rb p t≤j→j<rb p t+1+p.retire→rd ws' j=rd ws j) (hf:∀ n f,n∈P.fr→1≤f→f<5→rd ws' (sp p n+f)=rd ws (sp p n+f)) 
    (hs:∀ n,0≤n→n<p.nodes→StAt p ws' n (st n)):PoolH p t ws' ⟨P.fr,P.rt,st⟩ g:=
  ⟨h.free.keep hl h0 fun n hn=>by have:=hf n 1 hn kw kw; unfold sp at this; exact this,h.ret.keep hr,h.nod,h.dis,hs,fun n f hn f0 f1=>by
    have:=hf n (2+f) hn kw kw
    rw [←Int.add_assoc] at this
    exact this.trans (h.zero n f hn f0 f1)⟩
theorem PoolH.put {p:Plan} (hp:PF p) {t:Int} (ht:0≤t∧t<p.threads) {ws ws':List Int} {P:Pool} {g n:Int} (h:PoolH p t ws P g) (hnr:n ∉ P.rt) (hnf:n ∉ P.fr)
    (hf:(P.rt.length:Int)<p.retire) (hl:ws'.length=ws.length) (hR:RetAt p ws' t (P.rt++[n])) (ho:∀ j,0≤j→j≠rb p t→j≠rb p t+1+P.rt.length→rd ws' j=rd ws j) :
    PoolH p t ws' ⟨P.fr,P.rt++[n],P.st⟩ g:=by
  have hN:=cE hp;have hz:=bX hp;obtain ⟨p1,p2,p3⟩:=cG hp ht;refine ⟨h.free.keep hl (ho 0 kw kw kw) fun q hq=>?_,hR,?_,fun q hq=>?_,fun q q0 q1=>?_,fun q f hq f0 f1=>?_⟩
  · have:=h.free.range q hq
    exact ho _ (by unfold nx; omega) (by unfold nx; omega) (by unfold nx; omega)
  · refine List.nodup_append.2 ⟨h.nod,List.nodup_cons.2 ⟨List.not_mem_nil,List.nodup_nil⟩,fun a ha b hb e=>?_⟩
    rw [List.mem_singleton.1 hb] at e
    exact hnr (e ▸ ha)
  · rcases List.mem_append.1 hq with hq | hq
    · exact h.dis q hq
    · rw [List.mem_singleton.1 hq]; exact hnf
  · have:=h.st q q0 q1
    exact ⟨by rw [ho _ (by unfold sp; omega) (by unfold sp; omega) (by unfold sp; omega)]; exact this.1,this.2⟩
  · have:=h.free.range q hq
    rw [ho _ (by unfold sp; omega) (by unfold sp; omega) (by unfold sp; omega)]
    exact h.zero q f hq f0 f1
def cr (p:Plan) (a:Int) (pre:List Int):Int:=match pre.getLast? with
  | none=>a
  | some n=>fp p n 2
theorem pu {p:Plan} {a x:Int} {pre:List Int}:cr p a (x::pre)=cr p (fp p x 2) pre:=by
  unfold cr;cases pre with
  | nil=>rfl
  | cons y pre=>
    rw [List.getLast?_cons_cons]
    cases hq:(y::pre).getLast? with
    | none=>simp at hq
    | some z=>rfl
theorem jQ {p:Plan}:∀ {pre:List Int} {a:Int},pre≠[]→∃ q,q∈pre∧cr p a pre=fp p q 2
  | [],_,h=>absurd rfl h
  | [x],a,_=>⟨x,List.mem_cons_self ..,rfl⟩
  | x::y::pre,a,_=>by
    obtain ⟨q,hq,h⟩:=jQ (p:=p) (pre:=y::pre) (a:=fp p x 2) (List.cons_ne_nil _ _);exact ⟨q,List.mem_cons_of_mem _ hq,pu.trans h⟩
theorem mU {p:Plan} {m n f:Int} (h:fp p m f=fp p n f):m=n:=by unfold fp sp at h; omega
section
variable {p : Plan} {u w' : List Int}
theorem bu.app:∀ {pre suf:List Int} {a:Int},bu p u a (pre++suf)→bu p u (cr p a pre) suf
  | [],_,_,h=>h
  | x::pre,suf,a,h=>by rw [pu]; exact bu.app (pre:=pre) h.2.2
theorem bu.keepW:∀ {l:List Int} {a:Int},bu p u a l→rd w' a=rd u a→(∀ q,q∈l→rd w' (fp p q 2)=rd u (fp p q 2))→bu p w' a l
  | [],_,h,ha,_=>ha.trans h
  | x::l,a,h,ha,hq=>⟨ha.trans h.1,h.2.1,bu.keepW h.2.2 (hq x (List.mem_cons_self ..)) fun q hm=>hq q (List.mem_cons_of_mem _ hm)⟩
theorem bu.re {l:List Int} {a a':Int} (h:bu p u a l) (ha:rd w' a'=lw l) (hq:∀ q,q∈l→rd w' (fp p q 2)=rd u (fp p q 2)):bu p w' a' l:=by
  cases l with
  | nil=>exact ha
  | cons x l=>exact ⟨ha,h.2.1,bu.keepW h.2.2 (hq x (List.mem_cons_self ..)) fun q hm=>hq q (List.mem_cons_of_mem _ hm)⟩
theorem bu.tail {b:Int} {old new:List Int} (hn:bu p w' b new):∀ {pre:List Int} {a:Int},bu p u a (pre++old)→b=cr p a pre→(∀ q,q∈pre→fp p q 2≠b→rd w' (fp p q 2)=rd u (fp p q 2))→(a≠b→rd w' a=rd u a)→
    (∀ q,q∈pre→a≠fp p q 2)→pre.Nodup→bu p w' a (pre++new)
  | [],a,h,hb,_,_,_,_=>by
    have:b=a:=hb;rw [←this];exact hn
  | x::pre,a,h,hb,ho,ha,hna,hd=>by
    obtain ⟨h1,h2⟩:=List.nodup_cons.1 hd;have hab:a≠b:=by
      obtain ⟨q,hq,e⟩:=jQ (p:=p) (pre:=x::pre) (a:=a) (List.cons_ne_nil _ _);rw [hb,e];exact hna q hq
    exact ⟨(ha hab).trans h.1,h.2.1,bu.tail hn h.2.2 (hb.trans pu) (fun q hq=>ho q (List.mem_cons_of_mem _ hq)) (ho x (List.mem_cons_self ..)) (fun q hq e=>h1 (mU e ▸ hq)) h2⟩
theorem bu.ins {pre suf:List Int} {a n:Int} (h:bu p u a (pre++suf)) (hd:(pre++suf).Nodup) (hna:∀ q,q∈n::(pre++suf)→a≠fp p q 2) (hn:0≤n∧n<p.nodes) (hnm:n ∉ pre++suf)
    (h1:rd w' (cr p a pre)=(n+1) * 2) (h2:rd w' (fp p n 2)=lw suf) (ho:∀ q,q∈pre++suf→fp p q 2≠cr p a pre→rd w' (fp p q 2)=rd u (fp p q 2)) (ha:a≠cr p a pre→rd w' a=rd u a):bu p w' a (pre++n::suf):=by
  obtain ⟨d1,d2,d3⟩:=List.nodup_append.1 hd;have hs:∀ q,q∈suf→fp p q 2≠cr p a pre:=fun q hq e=>by
    rcases List.eq_nil_or_concat pre with rfl | ⟨s,z,rfl⟩
    · exact hna q (List.mem_cons_of_mem _ (by simpa using hq)) e.symm
    · obtain ⟨x,hx,e2⟩:=jQ (p:=p) (pre:=s.concat z) (a:=a) (by simp)
      rw [e2] at e
      exact d3 x hx q hq (mU e).symm
  exact bu.tail (old:=suf) (show bu p w' (cr p a pre) (n::suf) from ⟨h1,hn,bu.re h.app h2 fun q hq=>ho q (List.mem_append_right _ hq) (hs q hq)⟩) h rfl (fun q hq=>ho q (List.mem_append_left _ hq)) ha (fun q hq=>hna q (List.mem_cons_of_mem _ (List.mem_append_left _ hq))) d1
end
/-! ### A node is put in -/
theorem lword {n:Int} (h0:-1≤n) (h1:n≤1000000):D.iH n=(n+1) * 2:=by
  unfold D.iH shlI;rw [bq (x:=n+1) kw kw,dq (x:=n+1) kw kw];show IntKind.u64.wrap ((n+1) * 2)=_
  exact dq kw kw
theorem p6 {at_ w:Int} {f:Unit→T Res} {ws ws':List Int} {n:Nat} {r:Res} (h0:0≤at_) (h1:at_<ws.length) (h:Runs (f ()) (ws.set at_.toNat w) n r ws'):Runs (D.eC at_ w f) ws (n+1) r ws':=Runs.store h0 h1 h
section
variable {p : Plan} (hp : PF p) (hnn : p.nodes ≤ 1000) {t : Int} (ht : 0 ≤ t ∧ t < p.threads)
include hp ht hnn
theorem BU (J d:Nat) {c k n:Int} {l ws:List Int} (hl:Len p ws) (hd:l.length<J) (hJ:3<J) (h0:0≤c) (h1:c<D.aL p) (hL:bu p ws c l)
    (hz:∀ j,0≤j→j<3→rd ws (D.aL p+t * 3+j)=0) (hn:0≤n∧n<p.nodes) (hnl:n ∉ l) :
    ∃ pre suf,l=pre++suf∧(∀ q,q∈pre→rd ws (fp p q 0)<k)∧(∀ q,suf.head?=some q→k≤rd ws (fp p q 0))∧
      (((∃ q,suf.head?=some q∧rd ws (fp p q 0)=k)∧∀ (m':Nat) (r:Int) (ws':List Int),Runs (D.fP (J+1) p n) ws m' r ws'→∃ m,m≤9 * l.length+7+m'∧Runs (D.eJ (J+1) (d+1) ⟨p,0,t⟩ c k n) ws m ⟨7,0⟩ ws')∨
       ((¬ ∃ q,suf.head?=some q∧rd ws (fp p q 0)=k)∧∃ (m:Nat) (w3:List Int),m≤9 * l.length+9∧Runs (D.eJ (J+1) (d+1) ⟨p,0,t⟩ c k n) ws m ⟨0,0⟩ w3∧Len p w3∧
         ∀ j,0≤j→rd w3 j=if j=cr p c pre then (n+1) * 2 else if j=fp p n 2 then lw suf else rd ws j)):=by
  obtain ⟨z1,z2,z3,z4⟩:=bX hp;have hn1:=hp.n1;have hS:c<D.bG p:=kw
  obtain ⟨m,r,u',hm,hr,ho,r1,r2,r3,hF⟩:=ui hp hnn ht J (k:=k) (d:=J+1) hl kw h0 hS kw hL;obtain ⟨pre,suf,e1,k1,k2,k3,k4,k5,k6⟩:=hF;have hlu:(u'.length:Int)=D.bG p:=by rw [ho.1]; exact hl
  have k4':r.place=cr p c pre:=k4;refine ⟨pre,suf,e1,k1,k2,?_⟩;have hput:∀ {m2:Nat} {x:Res} {w2:List Int},Runs (D.gT (J+1) (D.eJ (J+1) d) ⟨p,0,t⟩ n c k r) u' m2 x w2→Runs (D.eJ (J+1) (d+1) ⟨p,0,t⟩ c k n) ws (m+m2) x w2:=fun h=>Runs.bind hr h
  cases hth:r.there with
  | true=>
    refine .inl ⟨k6.1 hth,fun m' x ws' hR=>⟨m+(3+(m'+0)),kw,hput ?_⟩⟩
    unfold D.gT;rw [hth];obtain ⟨v,hv,v1,v2⟩:=tE hp ht 3 0 (J+1) u' kw kw kw hlu;have e:v=ws:=vN (by have:(v.length:Int)=D.bG p:=v1; have:(ws.length:Int)=D.bG p:=hl; omega) fun j hj=>by
      rw [v2 j hj]
      by_cases hc:D.aL p+t * 3≤j∧j<D.aL p+t * 3+3
      · rw [if_pos kw]
        have:=hz (j - (D.aL p+t * 3)) kw kw
        rw [show D.aL p+t * 3+(j - (D.aL p+t * 3))=j from by omega] at this
        exact this.symm
      · rw [if_neg kw]
        exact ho.2 j hj hc
    subst e;refine Runs.bind (g:=fun _=>D.jD (J+1) ⟨p,0,t⟩ n) (a:=()) (ws':=v) hv ?_
    unfold D.jD;exact Runs.bind (g:=fun x=>D.oE x) hR (.done _ _)
  | false=>
    refine .inr ⟨fun h=>(by rw [k6.2 h] at hth; cases hth),?_⟩
    obtain ⟨f1,f2,f3,f4⟩:=fa hp ht (f:=2) hn kw;have hrg:=hL.range;have hpl:0≤cr p c pre∧cr p c pre<D.bG p∧¬ (D.aL p+t * 3≤cr p c pre∧cr p c pre<D.aL p+t * 3+3)∧cr p c pre≠fp p n 2:=by
      cases hpre:pre with
      | nil=>
        have:cr p c []=c:=rfl;rw [this];exact ⟨h0,hS,kw,kw⟩
      | cons x s=>
        obtain ⟨q,hq,e⟩:=jQ (p:=p) (pre:=x::s) (a:=c) (List.cons_ne_nil _ _);have hql:q∈l:=by rw [e1,hpre]; exact List.mem_append_left _ hq
        obtain ⟨g1,g2,g3,g4⟩:=fa hp ht (f:=2) (hrg q hql) kw;rw [e];exact ⟨kw,g3,kw,fun h=>hnl (mU h ▸ hql)⟩
    obtain ⟨p1,p2,p3,p4⟩:=hpl;have hcur:rd ws (cr p c pre)=lw suf:=(bu.app (e1 ▸ hL)).word
    generalize hu1:u'.set (fp p n 2).toNat (lw suf)=u1
    have hl1:(u1.length:Int)=D.bG p:=by rw [←hu1,List.length_set]; exact hlu
    have hr1:∀ j,0≤j→rd u1 j=if j=fp p n 2 then lw suf else rd u' j:=fun j hj=>by rw [←hu1]; exact cn kw kw hj
    generalize hu2:u1.set (cr p c pre).toNat ((n+1) * 2)=u2
    have hl2:(u2.length:Int)=D.bG p:=by rw [←hu2,List.length_set]; exact hl1
    have hr2:∀ j,0≤j→rd u2 j=if j=cr p c pre then (n+1) * 2 else rd u1 j:=fun j hj=>by rw [←hu2]; exact cn kw kw hj
    obtain ⟨w3,hw,w1,w2⟩:=vE hp ht (J+1) kw (u:=u2) hl2 ⟨0,0⟩;refine ⟨m+5,w3,kw,hput (m2:=5) ?_,w1,fun j hj=>?_⟩
    · unfold D.gT
      rw [hth]
      show Runs (D.eC (D.bf p n 2) r.cur _) _ _ _ _
      rw [f1,k3]
      refine p6 (n:=4) kw kw ?_;rw [hu1];unfold D.lW;rw [k4',k3,lword kw kw];refine BD (n:=3) p1 kw ?_;have hpw:rd u1 (cr p c pre)=lw suf:=by rw [hr1 _ p1,if_neg p4,ho.2 _ p1 p3,hcur]
      rw [hpw,if_pos rfl,hu2]
      unfold D.jr;rw [show (lw suf==lw suf)=true from by simp]
      exact hw
    · rw [w2 j hj]
      by_cases hc:D.aL p+t * 3≤j∧j<D.aL p+t * 3+3
      · rw [if_pos hc,if_neg (show ¬ j=cr p c pre from fun e=>p3 (e ▸ hc)),if_neg kw]
        have:=hz (j - (D.aL p+t * 3)) kw kw
        rw [show D.aL p+t * 3+(j - (D.aL p+t * 3))=j from by omega] at this
        exact this.symm
      · rw [if_neg hc,hr2 j hj]
        by_cases e:j=cr p c pre
        · rw [if_pos e,if_pos e]
        · rw [if_neg e,if_neg e,hr1 j hj]
          by_cases e2:j=fp p n 2
          · rw [if_pos e2,if_pos e2]
          · rw [if_neg e2,if_neg e2]
            exact ho.2 j hj hc
end
theorem Ai {p:Plan} (hp:PF p) {t:Int} (ht:0≤t∧t<p.threads) {ws ws':List Int} {P:Pool} {g n:Int} (h:PoolH p t ws P g) (hn:0≤n∧n<p.nodes) (hnr:n ∉ P.rt) (hnf:n ∉ P.fr)
    (hR:Reclaimed p n (D.bv (P.st n) p.gen) ws ws' P.fr g):∃ g',g'≤g+1∧PoolH p t ws' (P.back p.gen n) g':=by
  have hN:=cE hp;have hz:=bX hp;have hge:=hp.g2;obtain ⟨p1,p2,p3⟩:=cG hp ht;have hret:RetAt p ws' t P.rt:=h.ret.keep fun j j0 j1=>hR.others j kw (by unfold bK; omega)
  have hst:∀ q,0≤q→q<p.nodes→StAt p ws' q ((P.back p.gen n).st q):=fun q q0 q1=>by
    by_cases e:q=n
    · subst e
      show StAt p ws' q (if q=q then _ else _)
      rw [if_pos rfl]
      exact ⟨hR.state,(h.st q q0 q1).2.freed kw⟩
    · show StAt p ws' q (if q=n then _ else _)
      rw [if_neg e]
      have:=h.st q q0 q1;exact ⟨by rw [hR.others _ (by unfold sp; omega) (by unfold sp bK; omega)]; exact this.1,this.2⟩
  have hz:∀ q f,q∈P.fr→0≤f→f<3→rd ws' (sp p q+2+f)=0:=fun q f hq f0 f1=>by
    have hqr:=h.free.range q hq;have hne:q≠n:=fun e=>hnf (e ▸ hq)
    rw [hR.others _ (by unfold sp; omega) (by unfold sp bK; omega)]
    exact h.zero q f hq f0 f1
  by_cases e:(D.bv (P.st n) p.gen).mode=3
  · have ef:(P.back p.gen n).fr=P.fr:=if_pos e
    exact ⟨g,kw,by rw [ef]; exact hR.gone e,hret,h.nod,by rw [ef]; exact h.dis,hst,by rw [ef]; exact hz⟩
  · have ef:(P.back p.gen n).fr=n::P.fr:=if_neg e
    refine ⟨g+1,kw,by rw [ef]; exact hR.free e,hret,h.nod,fun q hq hq'=>?_,hst,fun q f hq f0 f1=>?_⟩
    · rw [ef] at hq'
      rcases List.mem_cons.1 hq' with rfl | hq'
      · exact hnr hq
      · exact h.dis q hq hq'
    · rw [ef] at hq
      rcases List.mem_cons.1 hq with rfl | hq
      · exact hR.fields f f0 f1
      · exact hz q f hq f0 f1
theorem iQ (p:Plan) (c:Int) (pre:List Int):(cr p c pre=c∧pre=[])∨∃ q,q∈pre∧cr p c pre=fp p q 2:=by
  rcases List.eq_nil_or_concat pre with hpre | ⟨s,z,hpre⟩
  · rw [hpre]; exact .inl ⟨rfl,rfl⟩
  · exact .inr (jQ (p:=p) (pre:=pre) (a:=c) (by rw [hpre]; simp))
section
variable {p : Plan} (hp : PF p) (hnn : p.nodes ≤ 1000) {t : Int} (ht : 0 ≤ t ∧ t < p.threads)
include hp ht
theorem PoolH.hzs {ws u:List Int} {P:Pool} {g:Int} (h:PoolH p t ws P g) (hl:u.length=ws.length) (ho:∀ j,0≤j→¬ (D.aL p+t * 3≤j∧j<D.aL p+t * 3+3)→rd u j=rd ws j):PoolH p t u P g:=by
  obtain ⟨z1,z2,z3,z4⟩:=bX hp;obtain ⟨p1,p2,p3⟩:=cG hp ht;refine h.keep hp ht (st:=P.st) hl (ho 0 kw kw) (fun j j0 j1=>ho j kw kw) (fun q e hq e0 e1=>?_) (fun q q0 q1=>?_)
  · have hr:=h.free.range q hq
    exact ho _ (by unfold sp; omega) (by unfold sp; omega)
  · have:=h.st q q0 q1
    exact ⟨by rw [ho _ (by unfold sp; omega) (by unfold sp; omega)]; exact this.1,this.2⟩
theorem PoolH.beside {ws ws':List Int} {P:Pool} {g:Int} (h:PoolH p t ws P g) (A:Int→Prop)
    (hA:∀ j,A j→(0<j∧j<D.aL p)∨∃ n f:Int,(0≤n∧n<p.nodes)∧n ∉ P.fr∧(0≤f∧f<3)∧j=fp p n f) (hl:ws'.length=ws.length) (ho:∀ j,0≤j→¬ A j→rd ws' j=rd ws j):PoolH p t ws' P g:=by
  obtain ⟨z1,z2,z3,z4⟩:=bX hp;obtain ⟨p1,p2,p3⟩:=cG hp ht;have hfp:∀ q f,fp p q f=D.aM p+q * 5+2+f:=fun q f=>rfl
  refine h.keep hp ht (st:=P.st) hl (ho 0 kw fun ha=>?_) (fun j j0 j1=>ho j kw fun ha=>?_) (fun q e hq e0 e1=>?_) (fun q q0 q1=>?_)
  · rcases hA _ ha with ha | ⟨n,f,hn,_,hf,he⟩
    · omega
    · rw [hfp] at he; omega
  · rcases hA _ ha with ha | ⟨n,f,hn,_,hf,he⟩
    · omega
    · rw [hfp] at he; omega
  · have hr:=h.free.range q hq
    refine ho _ (by unfold sp; omega) fun ha=>?_
    rcases hA _ ha with ha | ⟨n,f,hn,hnf,hf,he⟩
    · unfold sp at ha; omega
    · rw [hfp] at he
      unfold sp at he
      have:n=q:=kw
      exact hnf (this ▸ hq)
  · have:=h.st q q0 q1
    have hne:¬ A (sp p q):=fun ha=>by
      rcases hA _ ha with ha | ⟨n,f,hn,_,hf,he⟩
      · unfold sp at ha; omega
      · rw [hfp] at he
        unfold sp at he; omega
    exact ⟨by rw [ho _ (by unfold sp; omega) hne]; exact this.1,this.2⟩
include hnn
end
theorem PoolAt.beside {p:Plan} (hp:PF p) {t:Int} (ht:0≤t∧t<p.threads) {ws ws':List Int} {P:Pool} {g:Int} (h:PoolAt p t ws P g) (A:Int→Prop)
    (hA:∀ j,A j→(0<j∧j<D.aL p)∨∃ n f:Int,(0≤n∧n<p.nodes)∧n ∉ P.fr∧(0≤f∧f<3)∧j=fp p n f) (hl:ws'.length=ws.length) (ho:∀ j,0≤j→¬ A j→rd ws' j=rd ws j):PoolAt p t ws' P g:=by
  obtain ⟨z1,z2,z3,z4⟩:=bX hp;obtain ⟨p1,p2,p3⟩:=cG hp ht;have hfp:∀ q f,fp p q f=D.aM p+q * 5+2+f:=fun q f=>rfl
  refine h.keep hp ht (st:=P.st) hl (ho 0 kw fun ha=>?_) (fun j j0 j1=>ho j kw fun ha=>?_) (fun q e hq e0 e1=>?_) (fun j j0 j1=>ho _ kw fun ha=>?_) (fun q q0 q1=>?_)
  · rcases hA _ ha with ha | ⟨n,f,hn,_,hf,he⟩
    · omega
    · rw [hfp] at he; omega
  · rcases hA _ ha with ha | ⟨n,f,hn,_,hf,he⟩
    · omega
    · rw [hfp] at he; omega
  · have hr:=h.free.range q hq
    refine ho _ (by unfold sp; omega) fun ha=>?_
    rcases hA _ ha with ha | ⟨n,f,hn,hnf,hf,he⟩
    · unfold sp at ha; omega
    · rw [hfp] at he
      unfold sp at he
      have:n=q:=kw
      exact hnf (this ▸ hq)
  · rcases hA _ ha with ha | ⟨n,f,hn,_,hf,he⟩
    · omega
    · rw [hfp] at he; omega
  · have:=h.st q q0 q1
    have hne:¬ A (sp p q):=fun ha=>by
      rcases hA _ ha with ha | ⟨n,f,hn,_,hf,he⟩
      · unfold sp at ha; omega
      · rw [hfp] at he
        unfold sp at he; omega
    exact ⟨by rw [ho _ (by unfold sp; omega) hne]; exact this.1,this.2⟩
theorem at_q {p:Plan} (hp:PF p) (hdm:0<p.domains) (t:Int):D.mH ⟨p,0,t⟩ 0=⟨⟨p,0,t⟩,2,3⟩:=by
  unfold D.mH;rw [qh hp hdm kw,qh hp hdm kw]
  rfl
section
variable {p : Plan} (hp : PF p) (hdm : 0 < p.domains) (hnn : p.nodes ≤ 40) (hrr : p.retire ≤ 40) {t : Int} (ht : 0 ≤ t ∧ t < p.threads)
include hp hdm hnn hrr ht
theorem QAt.full {ws:List Int} {st:Int→State} {g:Int} {n:Nat} {l:List Int} (h:QAt p t ws ⟨[],[],st⟩ g 0 n l) (J:Nat) (hJ:1100<J) (hg:g<900000) (v:Int) :
    ∃ (m:Nat) (ws':List Int) (g':Int),m≤50∧g'≤g+1∧Runs (D.ut (J+1) ⟨p,0,t⟩ 0 v) ws m ⟨4,0⟩ ws'∧QAt p t ws' ⟨[],[],st⟩ g' 0 n l:=by
  obtain ⟨z1,z2,z3,z4⟩:=bX hp;obtain ⟨p1,p2,p3⟩:=cG hp ht;have h4:=haz4 hp hdm;have hnn':=h.nn;obtain ⟨m,ws',g',hm,hg',hr,hP,hk⟩:=h.pool.grant hp kw ht (k:=1) kw hg (J+1) kw;have hgr:((⟨[],[],st⟩:Pool).grant p.gen 1)=(⟨[],[],st⟩,⟨-1,0,4⟩):=rfl;rw [hgr] at hr hP
  have hkk:∀ j,0<j→(j<D.aL p∨D.aM p≤j)→rd ws' j=rd ws j:=fun j j0 hj=>hk.2 j j0 (fun q hq=>by rcases hq with hq | hq <;> cases hq) kw
  have hfp:∀ q f,fp p q f=D.aM p+q * 5+2+f:=fun q f=>rfl
  simp only [List.length_nil] at hm hg'
  refine ⟨m+0,ws',g',kw,kw,?_,hP,h.le,h.nn,fun q _ _=>⟨List.not_mem_nil,List.not_mem_nil⟩,(hkk 2 kw kw).trans h.hd,(hkk 3 kw kw).trans h.tl,fun q q0 q1=>(hkk _ (by rw [hfp]; omega) (by rw [hfp]; omega)).trans (h.nxt q q0 q1),(hkk _ (by rw [hfp]; omega) (by rw [hfp]; omega)).trans h.last,fun q q0 q1=>(hkk _ (by rw [hfp]; omega) (by rw [hfp]; omega)).trans (h.val q q0 q1)⟩
  unfold D.ut;rw [at_q hp hdm];unfold D.rL;refine Runs.bind (g:=fun x=>D.nK (fun x=>D.tz (J+1) ⟨⟨p,0,t⟩,2,3⟩ v x) x) hr ?_
  unfold D.nK;exact .done _ _
end
section
variable {p : Plan} (hp : PF p) (hdm : 0 < p.domains) (hnn : p.nodes ≤ 40) (hrr : p.retire ≤ 40) {t : Int} (ht : 0 ≤ t ∧ t < p.threads) {ws : List Int} {P : Pool} {g : Int} (h : PoolAt p t ws P g) {a z : Int} (ha : 0 ≤ a ∧ a < p.nodes) (hz : 0 ≤ z ∧ z < p.nodes) (hhd : rd ws 2 = a + 1) (htl : rd ws 3 = z + 1)
include hp hdm hnn hrr ht h ha hz hhd htl
end
section
variable {p : Plan} (hp : PF p) (hdm : 0 < p.domains) (hnn : p.nodes ≤ 40) {t : Int} (ht : 0 ≤ t ∧ t < p.threads)
include hp hdm hnn ht
theorem PoolAt.grantF {ws:List Int} {P:Pool} {g k:Int} (hk:0≤k∧k≤2) (h:PoolAt p t ws P g) (hg:g<900000) (J:Nat) (hJ:1100<J) :
    ∃ (m:Nat) (ws':List Int) (g':Int),m≤70 * P.rt.length+10∧g'≤g+P.rt.length+1∧Runs (D.ee J p t k) ws m (P.grant p.gen k).2 ws'∧PoolAt p t ws' (P.grant p.gen k).1 g'∧((P.grant p.gen k).2.e=0→∀ f,0≤f→f<3→rd ws' (fp p (P.grant p.gen k).2.node f)=0)∧KeptP p t P ws ws':=by
  have hN:=cE hp;have hz:=bX hp;obtain ⟨p1,p2,p3⟩:=cG hp ht;have hrm:=h.ret.room;have hr2:=hp.r2;obtain ⟨fr,rt,st⟩:=P;cases fr with
  | cons n l=>
    have hn:=h.free.range n (List.mem_cons_self ..);obtain ⟨K,rfl⟩:∃ K,J=K+1:=⟨J - 1,kw⟩
    obtain ⟨ws',hr,hl,hF,hst,ho⟩:=qd hp (t:=t) h.free kw kw (h.st n hn.1 hn.2) hk K;refine ⟨5,ws',g+1,kw,kw,hr,h.took hp ht hk hl hF hst ho,fun _ f f0 f1=>?_,hl,fun j j0 h1 h2=>ho j j0 fun e=>h1 n (.inl (List.mem_cons_self ..)) (by unfold bK; unfold sp at e; omega)⟩
    exact (ho _ (by show 0<sp p n+2+f; unfold sp; omega) (by show sp p n+2+f≠sp p n; omega)).trans (h.zero n f (List.mem_cons_self ..) f0 f1)
  | nil=>
    obtain ⟨K,rfl⟩:∃ K,J=K+1:=⟨J - 1,kw⟩
    obtain ⟨m1,ws1,g1,hm1,hg1,hr1,h1,hk1⟩:=h.scan hp kw ht hg (K+1) hJ;have hnew:∀ {m:Nat} {gr:Grant} {ws':List Int},Runs (T.bind (D.cB (K+1) p) (fun x=>D.dh p k x)) ws1 m gr ws'→Runs (D.ee (K+1) p t k) ws (m1+1+m) gr ws':=fun {m gr ws'} hr=>by
      refine (Runs.bind (g:=fun x=>D.eU (K+1) p k t (fun x=>D.dh p k x) x) (pS hp h.free kw K) (m:=m1+m) ?_).cast kw
      unfold D.eU;rw [show ((-1:Int) !=-1)=false from rfl]
      exact Runs.bind (g:=fun x=>D.jt (K+1) p (fun x=>D.dh p k x) x) hr1 hr
    show ∃ (m:Nat) (ws':List Int) (g':Int),_∧_∧Runs _ ws m (((⟨[],rt,st⟩:Pool).scan p.gen).out k).2 ws'∧PoolAt p t ws' (((⟨[],rt,st⟩:Pool).scan p.gen).out k).1 g'∧((((⟨[],rt,st⟩:Pool).scan p.gen).out k).2.e=0→∀ f,0≤f→f<3→rd ws' (fp p (((⟨[],rt,st⟩:Pool).scan p.gen).out k).2.node f)=0)∧_
    have hfr:∀ n,n∈((⟨[],rt,st⟩:Pool).scan p.gen).fr→n∈rt:=fun n hn=>(pO h.nod hn).resolve_right fun h=>(by cases h)
    have hgl:g1<1000000:=kw
    generalize hQ:(⟨[],rt,st⟩:Pool).scan p.gen=Q at h1 hfr
    obtain ⟨fr',rt',st'⟩:=Q;cases fr' with
    | nil=>
      exact ⟨m1+1+1,ws1,g1,kw,kw,hnew (tQ hp h1.free hgl K),h1,(fun h=>by cases h),hk1⟩
    | cons n l=>
      have hn:=h1.free.range n (List.mem_cons_self ..);obtain ⟨ws',hr,hl,hF,hst,ho⟩:=tN hp h1.free kw hgl (h1.st n hn.1 hn.2) hk K
      refine ⟨m1+1+5,ws',g1+1,kw,kw,hnew hr,h1.took hp ht hk hl hF hst ho,fun _ f f0 f1=>?_,hl.trans hk1.1,fun j j0 h2 h3=>(ho j j0 fun e=>?_).trans (hk1.2 j j0 h2 h3)⟩
      · exact (ho _ (by show 0<sp p n+2+f; unfold sp; omega) (by show sp p n+2+f≠sp p n; omega)).trans (h1.zero n f (List.mem_cons_self ..) f0 f1)
      · exact h2 n (.inr (hfr n (List.mem_cons_self ..))) (by unfold bK; unfold sp at e; omega)
end
theorem ud {P:Pool} {m n:Int} (hd:P.rt.Nodup) (h:n∈P.fr∨(n∈P.rt∧(D.bv (P.st n) m).mode≠3)):n∈(P.scan m).fr:=by
  unfold Pool.scan;rw [iS m _ _ (List.pairwise_reverse.2 (hd.imp fun h e=>h e.symm))]
  have:∀ (k L:List Int),(n∈L∨(n∈k∧(D.bv (P.st n) m).mode≠3))→n∈k.foldl (fun l n=>if (D.bv (P.st n) m).mode=3 then l else n::l) L:=by
    intro k
    induction k with
    | nil=>exact fun L h=>h.elim id fun h=>by cases h.1
    | cons a k ih=>
      intro L h;refine ih _ ?_;show n∈(if (D.bv (P.st a) m).mode=3 then L else a::L)∨_
      rcases h with h | ⟨h,hm⟩
      · left
        split
        · exact h
        · exact List.mem_cons_of_mem _ h
      · rcases List.mem_cons.1 h with rfl | h
        · left
          rw [if_neg hm]
          exact List.mem_cons_self ..
        · exact .inr ⟨h,hm⟩
  refine this _ _ (h.imp id fun h=>⟨List.mem_reverse.2 h.1,h.2⟩)
theorem uM {P:Pool} {m:Int} (hd:P.rt.Nodup) (q:Int):(P.scan m).st q=if q∈P.rt then D.bv (P.st q) m else P.st q:=by
  unfold Pool.scan;rw [jY _ _ _ (List.pairwise_reverse.2 (hd.imp fun h e=>h e.symm))]
  simp only [List.mem_reverse]
theorem mF:∀ {l k:List Int},l.Nodup→(∀ x,x∈l→x∈k)→l.length≤k.length
  | [],k,_,_=>Nat.zero_le _
  | a::l,k,hn,hs=>by
    obtain ⟨h1,h2⟩:=List.nodup_cons.1 hn;have ha:=hs a (List.mem_cons_self ..);have:=mF (k:=k.erase a) h2 fun x hx=>(List.mem_erase_of_ne (fun e=>h1 (by rw [←e]; exact hx))).2 (hs x (List.mem_cons_of_mem _ hx))
    rw [List.length_erase_of_mem ha] at this
    have:=List.length_pos_of_mem ha;simp only [List.length_cons];omega
structure PartP (N:Int) (P:Pool) (c:List Int):Prop where
  all:∀ q,0≤q→q<N→q∈P.fr∨q∈P.rt∨q∈c∨(P.st q).mode=3
  here:∀ q,q∈P.fr∨q∈P.rt∨q∈c→(P.st q).mode≠3
  fc:∀ q,q∈c→q ∉ P.fr∧q ∉ P.rt
theorem PartP.scan {N:Int} {P:Pool} {c:List Int} (h:PartP N P c) (hn:P.rt.Nodup) (hds:∀ n,n∈P.rt→n ∉ P.fr) (m:Int):PartP N (P.scan m) c:=by
  refine ⟨fun q q0 q1=>?_,fun q hq=>?_,fun q hq=>⟨fun hf=>?_,fun hf=>by rw [qb] at hf; cases hf⟩⟩
  · rw [uM hn]
    rcases h.all q q0 q1 with h1 | h1 | h1 | h1
    · exact .inl (ud hn (.inl h1))
    · by_cases h2:(D.bv (P.st q) m).mode=3
      · right; right; right
        rw [if_pos h1]; exact h2
      · exact .inl (ud hn (.inr ⟨h1,h2⟩))
    · exact .inr (.inr (.inl h1))
    · right; right; right
      by_cases h2:q∈P.rt
      · exact absurd h1 (h.here q (.inr (.inl h2)))
      · rw [if_neg h2]; exact h1
  · rw [uM hn]
    rcases hq with hq | hq | hq
    · rcases pC hn hq with ⟨h1,h2⟩ | h1
      · rw [if_pos h1]; exact h2
      · rw [if_neg fun h2=>hds q h2 h1]; exact h.here q (.inl h1)
    · rw [qb] at hq; cases hq
    · rw [if_neg (h.fc q hq).2]; exact h.here q (.inr (.inr hq))
  · rcases pC hn hf with ⟨h1,_⟩ | h1
    · exact (h.fc q hq).2 h1
    · exact (h.fc q hq).1 h1
theorem PartP.count {p:Plan} (hp:PF p) {t:Int} {ws:List Int} {P:Pool} {g:Int} {c:List Int} (h:PartP p.nodes P c) (hP:PoolAt p t ws P g) (hc:c.Nodup) (hcr:∀ q,q∈c→0≤q∧q<p.nodes) :
    P.fr.length+P.rt.length+c.length+((allN p).filter fun q=>(P.st q).mode==3).length=p.nodes.toNat:=by
  have hall:∀ q,q∈allN p↔0≤q∧q<p.nodes:=fun q=>by
    unfold allN;rw [List.mem_map]
    constructor
    · rintro ⟨n,hn,rfl⟩
      have:=List.mem_range'_1.1 hn;omega
    · intro hq
      exact ⟨q.toNat,List.mem_range'_1.2 kw,kw⟩
  have hnod:(allN p).Nodup:=by
    unfold allN;exact List.Pairwise.map _ (fun a b hne e=>hne kw) List.nodup_range'
  have hlen:(allN p).length=p.nodes.toNat:=by unfold allN; simp
  have hL:(P.fr++P.rt++c).Nodup:=by
    refine List.nodup_append.2 ⟨List.nodup_append.2 ⟨hP.free.nodup,hP.nod,fun a ha b hb e=>hP.dis b hb (e ▸ ha)⟩,hc,fun a ha b hb e=>?_⟩
    subst e;obtain ⟨h1,h2⟩:=h.fc a hb;exact (List.mem_append.1 ha).elim h1 h2
  have hmem:∀ q,q∈P.fr++P.rt++c↔q∈(allN p).filter fun q=>!((P.st q).mode==3):=fun q=>by
    rw [List.mem_filter,hall]
    simp only [List.mem_append]
    constructor
    · intro hq
      refine ⟨?_,?_⟩
      · rcases hq with (hq | hq) | hq
        · exact hP.free.range q hq
        · exact hP.ret.range q hq
        · exact hcr q hq
      · have:=h.here q (by rcases hq with (hq | hq) | hq <;> simp [hq])
        simpa using this
    · rintro ⟨hq,hm⟩
      rcases h.all q hq.1 hq.2 with h1 | h1 | h1 | h1
      · exact .inl (.inl h1)
      · exact .inl (.inr h1)
      · exact .inr h1
      · simp [h1] at hm
  have e1:=mF hL fun x hx=>(hmem x).1 hx
  have e2:=mF (hnod.filter _) fun x hx=>(hmem x).2 hx
  have e3:∀ l:List Int,(l.filter fun q=>(P.st q).mode==3).length+(l.filter fun q=>!((P.st q).mode==3)).length=l.length:=by
    intro l
    induction l with
    | nil=>rfl
    | cons a l ih=>
      cases hm:((P.st a).mode==3) <;> simp [List.filter_cons,hm] <;> omega
  have:=e3 (allN p);simp only [List.length_append] at e1 e2
  omega
end Go.Proofs.YtikjpdpgdmbdpaaGreat

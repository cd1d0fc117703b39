/- Some of our texts, one behind the other. -/
import Derived.Test.YtikjpdpgdmbdpaaGreatLrM21
import Derived.Test.YtikjpdpgdmbdpaaGreatLrLListp
set_option linter.all false
/- Ours. -/
namespace Go.Proofs.YtikjpdpgdmbdpaaGreat
open Go.RowKit
/-! ### Entries -/
def loE (k:Int) (E:List Entry):List Entry:=E.takeWhile fun (e:Entry)=>decide (e.key<k)
def hiE (k:Int) (E:List Entry):List Entry:=E.dropWhile fun (e:Entry)=>decide (e.key<k)
def hasE (k:Int) (E:List Entry):Bool:=match hiE k E with
  | []=>false
  | e::_=>e.key==k
def insE (k v:Int) (E:List Entry):List Entry:=loE k E++⟨k,v⟩::hiE k E
def getE (k:Int) (E:List Entry):Res:=match hiE k E with
  | []=>⟨6,0⟩
  | e::_=>if e.key=k then ⟨0,e.value⟩ else ⟨6,0⟩
def ents (p:Plan) (ws:List Int) (l:List Int):List Entry:=l.map fun q=>⟨rd ws (fp p q 0),rd ws (fp p q 1)⟩
theorem cutE {k:Int} {A B:List Entry} (hA:∀ e,e∈A→e.key<k) (hB:∀ e,B.head?=some e→k≤e.key):loE k (A++B)=A∧hiE k (A++B)=B:=by
  unfold loE hiE;rw [List.takeWhile_append_of_pos (fun e he=>decide_eq_true (hA e he)),List.dropWhile_append_of_pos (fun e he=>decide_eq_true (hA e he))]
  cases B with
  | nil=>simp
  | cons e B=>
    have:¬ e.key<k:=by have:=hB e rfl; omega
    simp [List.takeWhile_cons,List.dropWhile_cons,this]
theorem uy {p:Plan} {ws:List Int} {k:Int} {pre suf:List Int} (h1:∀ q,q∈pre→rd ws (fp p q 0)<k) (h2:∀ q,suf.head?=some q→k≤rd ws (fp p q 0)) :
    loE k (ents p ws (pre++suf))=ents p ws pre∧hiE k (ents p ws (pre++suf))=ents p ws suf:=by
  unfold ents;rw [List.map_append];refine cutE (fun e he=>?_) (fun e he=>?_)
  · obtain ⟨q,hq,rfl⟩:=List.mem_map.1 he
    exact h1 q hq
  · cases suf with
    | nil=>cases he
    | cons q s=>
      simp only [List.map_cons,List.head?_cons,Option.some.injEq] at he
      subst he;exact h2 q rfl
theorem Cg {p:Plan} {ws:List Int} {k:Int} {suf:List Int}:(∃ q,suf.head?=some q∧rd ws (fp p q 0)=k)↔(match ents p ws suf with | []=>false | e::_=>e.key==k)=true:=by
  cases suf with
  | nil=>exact ⟨fun ⟨q,h,_⟩=>(by cases h),fun h=>(by cases h)⟩
  | cons q s=>
    constructor
    · rintro ⟨x,hx,h⟩
      obtain rfl:q=x:=by simpa using hx
      simpa [ents] using h
    · intro h
      exact ⟨q,rfl,by simpa [ents] using h⟩
theorem mi {p:Plan} {ws ws':List Int} {l:List Int} (h:∀ q f,q∈l→0≤f→f<2→rd ws' (fp p q f)=rd ws (fp p q f)):ents p ws' l=ents p ws l:=by
  unfold ents;exact List.map_congr_left fun q hq=>by rw [h q 0 hq kw kw,h q 1 hq kw kw]
def Rise (E:List Entry):Prop:=E.Pairwise fun (a b:Entry)=>a.key<b.key
theorem Rise.split {k:Int} {E:List Entry}:E=loE k E++hiE k E:=(List.takeWhile_append_dropWhile ..).symm
theorem vZ {k:Int} {E:List Entry} {e:Entry} (h:e∈loE k E):e.key<k:=by
  unfold loE at h
  induction E with
  | nil=>cases h
  | cons a E ih=>
    rw [List.takeWhile_cons] at h
    by_cases ha:a.key<k
    · rw [decide_eq_true ha] at h
      rcases List.mem_cons.1 h with rfl | h
      · exact ha
      · exact ih h
    · rw [decide_eq_false ha] at h
      cases h
theorem vu {k:Int} {E:List Entry} {e:Entry} {r:List Entry} (h:hiE k E=e::r):k≤e.key:=by
  unfold hiE at h
  induction E with
  | nil=>cases h
  | cons a E ih=>
    rw [List.dropWhile_cons] at h
    by_cases ha:a.key<k
    · rw [decide_eq_true ha] at h
      exact ih h
    · rw [decide_eq_false ha] at h
      simp only [Bool.false_eq_true,if_false,List.cons.injEq] at h
      rw [←h.1]; omega
theorem Rise.FY {k:Int} {E:List Entry} (h:Rise E) {e:Entry} (he:e∈hiE k E):k≤e.key:=by
  have h2:Rise (hiE k E):=by
    have:=h;rw [Rise.split (k:=k) (E:=E)] at this
    exact (List.pairwise_append.1 this).2.1
  cases hh:hiE k E with
  | nil=>rw [hh] at he; cases he
  | cons a r=>
    have h1:=vu hh;rw [hh] at he h2
    rcases List.mem_cons.1 he with rfl | he
    · exact h1
    · have:=(List.pairwise_cons.1 h2).1 e he
      omega
theorem Rise.CU {k:Int} {E:List Entry} (h:Rise E):hasE k E=true↔∃ v,(⟨k,v⟩:Entry)∈E:=by
  constructor
  · intro hk
    unfold hasE at hk
    cases hh:hiE k E with
    | nil=>rw [hh] at hk; cases hk
    | cons a r=>
      rw [hh] at hk
      have:a.key=k:=by simpa using hk
      refine ⟨a.value,?_⟩;rw [Rise.split (k:=k) (E:=E),hh];exact List.mem_append_right _ (by rw [←this]; exact List.mem_cons_self ..)
  · rintro ⟨v,hv⟩
    rw [Rise.split (k:=k) (E:=E)] at hv
    rcases List.mem_append.1 hv with hv | hv
    · have:k<k:=vZ hv
      omega
    · unfold hasE
      have h2:Rise (hiE k E):=by
        have:=h;rw [Rise.split (k:=k) (E:=E)] at this
        exact (List.pairwise_append.1 this).2.1
      cases hh:hiE k E with
      | nil=>rw [hh] at hv; cases hv
      | cons a r=>
        have h1:=vu hh;rw [hh] at hv h2
        rcases List.mem_cons.1 hv with e | hv
        · rw [←e]; simp
        · have:a.key<k:=(List.pairwise_cons.1 h2).1 _ hv
          omega
theorem Rise.ins {k v:Int} {E:List Entry} (h:Rise E) (hk:hasE k E=false):Rise (insE k v E):=by
  have h0:=h;rw [Rise.split (k:=k) (E:=E)] at h0
  obtain ⟨h1,h2,h3⟩:=List.pairwise_append.1 h0;refine List.pairwise_append.2 ⟨h1,List.pairwise_cons.2 ⟨fun e he=>?_,h2⟩,fun a ha b hb=>?_⟩
  · have h4:=h.FY he
    have:e.key≠k:=fun e1=>by
      have:hasE k E=true:=h.CU.2 ⟨e.value,by rw [Rise.split (k:=k) (E:=E)]; exact List.mem_append_right _ (by have e2:e=⟨k,e.value⟩:=(by cases e; simp at e1; rw [e1]); rw [←e2]; exact he)⟩
      rw [hk] at this; cases this
    show k<e.key
    omega
  · rcases List.mem_cons.1 hb with rfl | hb
    · exact vZ ha
    · exact h3 a ha b hb
theorem Rise.sub {E E':List Entry} (h:Rise E) (hs:E'.Sublist E):Rise E':=List.Pairwise.sublist hs h
theorem Cb {P:Pool} {m n q:Int} (h:q∈(P.back m n).fr):q=n∨q∈P.fr:=by
  by_cases e:(D.bv (P.st n) m).mode=3
  · have ef:(P.back m n).fr=P.fr:=if_pos e
    rw [ef] at h; exact .inr h
  · have ef:(P.back m n).fr=n::P.fr:=if_neg e
    rw [ef] at h; exact List.mem_cons.1 h
/-! ### A list in memory -/
def Alone (p:Plan) (ws:List Int):Prop:=∀ j,0≤j→j<p.threads * 3→rd ws (D.aL p+j)=0
theorem Alone.held {p:Plan} {ws:List Int} (h:Alone p ws) {n:Int} (hn:0≤n):¬ heldW p ws n:=by
  rintro ⟨j,j0,j1,hj⟩;rw [h j j0 j1] at hj
  omega
structure LAt (p:Plan) (t:Int) (ws:List Int) (P:Pool) (g c:Int) (l:List Int):Prop where
  pool:PoolH p t ws P g
  own:∀ j,0≤j→j<3→rd ws (D.aL p+t * 3+j)=0
  link:bu p ws c l
  nd:l.Nodup
  out:∀ q,q∈l→q ∉ P.fr∧q ∉ P.rt
  inc:Rise (ents p ws l)
def KeptL (p:Plan) (t:Int) (P:Pool) (c:Int) (l ws ws':List Int):Prop:=
  ws'.length=ws.length∧∀ j,0<j→(∀ n,n∈P.fr∨n∈P.rt∨n∈l→¬ bK p n j)→¬ (rb p t≤j∧j<rb p t+1+p.retire)→j≠c→rd ws' j=rd ws j
theorem KeptL.refl (p:Plan) (t:Int) (P:Pool) (c:Int) (l ws:List Int):KeptL p t P c l ws ws:=⟨rfl,fun _ _ _ _ _=>rfl⟩
section
variable {p : Plan} (hp : PF p) (hnn : p.nodes ≤ 1000) {t : Int} (ht : 0 ≤ t ∧ t < p.threads) {ws : List Int} {P : Pool} {g c : Int} {l : List Int} (h : LAt p t ws P g c l) (hc : 0 < c ∧ c < D.aL p)
include hp hnn ht h hc
theorem LAt.range {n:Int} (hn:n∈P.fr∨n∈P.rt∨n∈l):0≤n∧n<p.nodes:=by
  rcases hn with hn | hn | hn
  · exact h.pool.free.range n hn
  · exact h.pool.ret.range n hn
  · exact h.link.range n hn
theorem LAt.alone {ws':List Int} (hk:KeptL p t P c l ws ws') (ha:Alone p ws):Alone p ws':=fun j j0 j1=>by
  obtain ⟨z1,z2,z3,z4⟩:=bX hp;obtain ⟨b1,b2,b3⟩:=cG hp ht;rw [hk.2 _ kw (fun n hn=>by have:=h.range hp hnn ht hc hn; unfold bK; omega) kw kw]
  exact ha j j0 j1
theorem LAt.vH:l.length≤p.nodes.toNat:=by
  have:=mF (k:=allN p) h.nd fun q hq=>by
    have:=h.link.range q hq;exact List.mem_map.2 ⟨q.toNat,List.mem_range'_1.2 kw,kw⟩
  have h2:(allN p).length=p.nodes.toNat:=by unfold allN; simp
  omega
theorem LAt.get (J:Nat) (hJ:1100<J) (k:Int):∃ m,m≤9 * l.length+7∧Runs (D.pN (J+1) ⟨p,0,t⟩ c k) ws m (getE k (ents p ws l)) ws:=by
  obtain ⟨z1,z2,z3,z4⟩:=bX hp;have hn1:=hp.n1;have ht1:=hp.t1;have hll:=h.vH hp hnn ht hc;obtain ⟨m,pre,suf,hm,e,k1,k2,hr⟩:=Cl hp hnn ht J (c:=c) (k:=k) h.pool.free.len kw kw kw kw kw h.link h.own;refine ⟨m,hm,?_⟩;have:getE k (ents p ws l)=gotR ws p k suf:=by
    unfold getE;rw [e,(uy k1 k2).2];unfold gotR;cases suf <;> rfl
  rw [this]
  exact hr
omit h hc in
theorem BK (J:Nat) {n gn k v:Int} {Q:Pool} (hQ:PoolH p t ws Q g) (hg:g<1000000) (hd:l.length<J) (hJ:1100<J) (hc:0<c∧c<D.aL p) (hL:bu p ws c l)
    (hz:∀ j,0≤j→j<3→rd ws (D.aL p+t * 3+j)=0) (hn:0≤n∧n<p.nodes) (hnf:n ∉ Q.fr) (hnr:n ∉ Q.rt) (hnl:n ∉ l) (hout:∀ q,q∈l→q ∉ Q.fr) :
    ∃ pre suf,l=pre++suf∧(∀ q,q∈pre→rd ws (fp p q 0)<k)∧(∀ q,suf.head?=some q→k≤rd ws (fp p q 0))∧
      (((∃ q,suf.head?=some q∧rd ws (fp p q 0)=k)∧∃ (m:Nat) (w3:List Int) (g':Int),m≤9 * l.length+17∧g'≤g+1∧Runs (D.eW (J+1) ⟨p,0,t⟩ k v c ⟨n,gn,0⟩) ws m ⟨7,0⟩ w3∧PoolH p t w3 (Q.back p.gen n) g'∧w3.length=ws.length∧
          ∀ j,0<j→¬ bK p n j→rd w3 j=rd ws j)∨
       ((¬ ∃ q,suf.head?=some q∧rd ws (fp p q 0)=k)∧∃ (m:Nat) (w3:List Int),m≤9 * l.length+11∧Runs (D.eW (J+1) ⟨p,0,t⟩ k v c ⟨n,gn,0⟩) ws m ⟨0,0⟩ w3∧PoolH p t w3 Q g∧w3.length=ws.length∧
          ∀ j,0≤j→rd w3 j=if j=cr p c pre then (n+1) * 2 else if j=fp p n 2 then lw suf else if j=fp p n 1 then v else if j=fp p n 0 then k else rd ws j)):=by
  obtain ⟨z1,z2,z3,z4⟩:=bX hp;have hn1:=hp.n1;have hl:(ws.length:Int)=D.bG p:=hQ.free.len;have hfp:∀ q f,fp p q f=D.aM p+q * 5+2+f:=fun q f=>rfl
  have hsp:∀ q,sp p q=D.aM p+q * 5:=fun q=>rfl
  obtain ⟨f1,f2,f3,f4⟩:=fa hp ht (f:=0) hn kw;obtain ⟨v1,v2,v3,v4⟩:=fa hp ht (f:=1) hn kw;obtain ⟨u,hu⟩:∃ u,u=(ws.set (fp p n 0).toNat k).set (fp p n 1).toNat v:=⟨_,rfl⟩;have hul:u.length=ws.length:=by rw [hu]; simp
  have hur:∀ j,0≤j→rd u j=if j=fp p n 1 then v else if j=fp p n 0 then k else rd ws j:=fun j hj=>by
    rw [hu,cn kw (by rw [List.length_set]; omega) hj,cn kw kw hj]
  have huq:∀ q f,q≠n→0≤q→0≤f→f<3→rd u (fp p q f)=rd ws (fp p q f):=fun q f hq q0 f0 f1=>by
    rw [hur _ (by rw [hfp]; omega),if_neg (by rw [hfp,hfp]; omega),if_neg (by rw [hfp,hfp]; omega)]
  have hQu:PoolH p t u Q g:=hQ.beside hp ht (fun j=>j=fp p n 1∨j=fp p n 0) (fun j hj=>by
    rcases hj with rfl | rfl
    · exact .inr ⟨n,1,hn,hnf,kw,rfl⟩
    · exact .inr ⟨n,0,hn,hnf,kw,rfl⟩) hul fun j hj hne=>by rw [hur j hj,if_neg fun e=>hne (.inl e),if_neg fun e=>hne (.inr e)]
  have hql:∀ q,q∈l→q≠n∧0≤q:=fun q hq=>⟨fun e=>hnl (e ▸ hq),(hL.range q hq).1⟩
  have hLu:bu p u c l:=hL.keepW (by rw [hur c kw,if_neg (by rw [hfp]; omega),if_neg (by rw [hfp]; omega)]) fun q hq=>huq q 2 (hql q hq).1 (hql q hq).2 kw kw
  have hzu:∀ j,0≤j→j<3→rd u (D.aL p+t * 3+j)=0:=fun j j0 j1=>by
    rw [hur _ kw,if_neg (by rw [hfp]; omega),if_neg (by rw [hfp]; omega)]; exact hz j j0 j1
  obtain ⟨pre,suf,e,k1,k2,hx⟩:=BU hp hnn ht J J (k:=k) (n:=n) hQu.free.len hd kw kw hc.2 hLu hzu hn hnl;have hkq:∀ q,q∈l→rd u (fp p q 0)=rd ws (fp p q 0):=fun q hq=>huq q 0 (hql q hq).1 (hql q hq).2 kw kw
  have hps:∀ q,suf.head?=some q→q∈l:=fun q hq=>by rw [e]; exact List.mem_append_right _ (List.mem_of_mem_head? hq)
  have hrun:∀ {m:Nat} {x:Res} {w':List Int},Runs (D.eJ (J+1) (J+1) ⟨p,0,t⟩ c k n) u m x w'→Runs (D.eW (J+1) ⟨p,0,t⟩ k v c ⟨n,gn,0⟩) ws (m+2) x w':=fun {m x w'} hr=>by
    unfold D.eW;show Runs (D.eC (D.bf p n 0) k _) _ _ _ _
    rw [f1]
    refine p6 (n:=m+1) kw kw ?_;unfold D.lV;show Runs (D.eC (D.bf p n 1) v _) _ _ _ _
    rw [v1]
    refine p6 (n:=m) kw (by rw [List.length_set]; omega) ?_;rw [←hu];exact hr
  refine ⟨pre,suf,e,fun q hq=>by rw [←hkq q (by rw [e]; exact List.mem_append_left _ hq)]; exact k1 q hq,fun q hq=>by rw [←hkq q (hps q hq)]; exact k2 q hq,?_⟩
  have hex:(∃ q,suf.head?=some q∧rd u (fp p q 0)=k)↔∃ q,suf.head?=some q∧rd ws (fp p q 0)=k:=
    ⟨fun ⟨q,hq,h⟩=>⟨q,hq,by rw [←hkq q (hps q hq)]; exact h⟩,fun ⟨q,hq,h⟩=>⟨q,hq,by rw [hkq q (hps q hq)]; exact h⟩⟩
  rw [hex] at hx
  rcases hx with ⟨hhas,hR⟩ | ⟨hno,m,w3,hm,hr,hl3,hw3⟩
  · obtain ⟨K,hK⟩:∃ K,J+1=K+4:=⟨J - 3,kw⟩
    have hof:=(hQu.st n hn.1 hn.2).of;rw [hsp] at hof
    obtain ⟨w3,hrr,hRec⟩:=sX hp (ws:=u) (n:=n) (l:=Q.fr) (g:=g) hn kw kw hQu.free hnf (t:=D.bv (Q.st n) p.gen) (by rw [hof]) K;rw [←hK] at hrr
    obtain ⟨g',hg',hP'⟩:=Ai hp ht hQu hn hnr hnf hRec;obtain ⟨m,hm,hr⟩:=hR _ _ _ hrr;refine .inl ⟨hhas,m+2,w3,g',?_,hg',hrun hr,hP',by rw [hRec.len,hul],fun j j0 hj=>?_⟩
    · have:(if (D.bv (Q.st n) p.gen).mode=3 then 5 else 8:Nat)≤8:=by split <;> omega
      omega
    · rw [hRec.others j j0 hj,hur j kw,if_neg fun e=>hj (by unfold bK; rw [hfp] at e; omega),if_neg fun e=>hj (by unfold bK; rw [hfp] at e; omega)]
  · refine .inr ⟨hno,m+2,w3,kw,hrun hr,?_,by have:(w3.length:Int)=D.bG p:=hl3; omega,fun j hj=>by rw [hw3 j hj,hur j hj]⟩
    have hl3':(w3.length:Int)=D.bG p:=hl3;refine hQu.beside hp ht (fun j=>j=cr p c pre∨j=fp p n 2) (fun j hj=>?_) kw fun j hj hne=>by rw [hw3 j hj,if_neg fun e=>hne (.inl e),if_neg fun e=>hne (.inr e)]
    rcases hj with rfl | rfl
    · rcases iQ p c pre with ⟨e',_⟩ | ⟨q,hq,e'⟩
      · exact .inl (by rw [e']; exact hc)
      · have hq':q∈l:=by rw [e]; exact List.mem_append_left _ hq
        exact .inr ⟨q,2,hL.range q hq',hout q hq',kw,e'⟩
    · exact .inr ⟨n,2,hn,hnf,kw,rfl⟩
theorem LAt.add (hdm:0<p.domains) (hn40:p.nodes≤40) (ha:Alone p ws) (J:Nat) (hJ:1100<J) (hg:g<900000) (k v:Int) :
    ∃ (m:Nat) (ws':List Int) (P':Pool) (g':Int) (l':List Int) (res:Res),m≤9 * l.length+70 * P.rt.length+30∧g'≤g+P.rt.length+2∧Runs (D.dm (J+1) ⟨p,0,t⟩ c k v) ws m res ws'∧LAt p t ws' P' g' c l'∧KeptL p t P c l ws ws'∧Alone p ws'∧
      (((P.grant p.gen 2).2=⟨-1,0,4⟩∧res=⟨4,0⟩∧P'=(P.grant p.gen 2).1∧l'=l∧ents p ws' l'=ents p ws l)∨
       (∃ (Q:Pool) (n:Int) (fr:List Int),(Q=P∨Q=P.scan p.gen)∧Q.fr=n::fr∧P.grant p.gen 2=Q.out 2∧(P.grant p.gen 2).2.node=n∧
         ((hasE k (ents p ws l)=true∧res=⟨7,0⟩∧P'=(P.grant p.gen 2).1.back p.gen n∧l'=l∧ents p ws' l'=ents p ws l)∨
          (hasE k (ents p ws l)=false∧res=⟨0,0⟩∧P'=(P.grant p.gen 2).1∧ents p ws' l'=insE k v (ents p ws l)∧∃ pre suf,l=pre++suf∧l'=pre++n::suf∧(loE k (ents p ws l)).length=pre.length)))):=by
  obtain ⟨z1,z2,z3,z4⟩:=bX hp;obtain ⟨b1,b2,b3⟩:=cG hp ht;have hn1:=hp.n1;have ht1:=hp.t1;have hll:=h.vH hp hnn ht hc;have hrm:=h.pool.ret.room;have hr2:=hp.r2;have hfp:∀ q f,fp p q f=D.aM p+q * 5+2+f:=fun q f=>rfl
  have hPA:=h.pool.toAt ha;obtain ⟨m,w1,g1,hm,hg1,hr,hP1,hZ,hK⟩:=PoolAt.grantF hp hdm hn40 ht (k:=2) kw hPA hg (J+1) kw
  have hkf:∀ q f,q∈l→0≤f→f<3→rd w1 (fp p q f)=rd ws (fp p q f):=fun q f hq f0 f1=>by
    have hqr:=h.link.range q hq;obtain ⟨c1,c2⟩:=h.out q hq;refine hK.2 _ (by rw [hfp]; omega) (fun q' hq' ho=>?_) (by rw [hfp]; omega)
    have hr':=h.range hp hnn ht hc (n:=q') (hq'.imp id .inl);rw [hfp] at ho
    unfold bK at ho
    have:q'=q:=kw
    subst this;exact hq'.elim c1 c2
  have hkc:rd w1 c=rd ws c:=hK.2 c kw (fun q hq ho=>by
    have:=h.range hp hnn ht hc (n:=q) (hq.imp id .inl);unfold bK at ho; omega) kw
  have hL1:bu p w1 c l:=h.link.keepW hkc fun q hq=>hkf q 2 hq kw kw
  have he1:ents p w1 l=ents p ws l:=mi fun q f hq f0 f1=>hkf q f hq f0 kw
  have ha1:Alone p w1:=hP1.hz;have ho1:∀ j,0≤j→j<3→rd w1 (D.aL p+t * 3+j)=0:=fun j j0 j1=>by
    have:=ha1 (t * 3+j) kw kw
    rw [←Int.add_assoc] at this
    exact this
  have hK1:KeptL p t P c l ws w1:=⟨hK.1,fun j j0 h1 h2 h3=>hK.2 j j0 (fun n hn=>h1 n (hn.imp id .inl)) h2⟩
  obtain ⟨Q,hQe,hQu,hQd,hQr,hQs,hgr⟩:∃ Q:Pool,(Q=P∨Q=P.scan p.gen)∧Q.fr.Nodup∧(∀ n,n∈Q.rt→n ∉ Q.fr)∧(∀ n,n∈Q.fr→0≤n∧n<p.nodes)∧(∀ n,n∈Q.fr∨n∈Q.rt→n∈P.fr∨n∈P.rt)∧P.grant p.gen 2=Q.out 2:=by
    unfold Pool.grant
    split
    · obtain ⟨_,_,_,_,_,_,hS,_⟩:=hPA.scan hp hnn ht hg (J+1) kw
      refine ⟨_,.inr rfl,hS.free.nodup,hS.dis,fun n hn=>hS.free.range n hn,fun n hn=>?_,rfl⟩
      rcases hn with hn | hn
      · exact (pO h.pool.nod hn).symm
      · have:(P.scan p.gen).rt=[]:=jW _ _ _
        rw [this] at hn; cases hn
    · exact ⟨P,.inl rfl,h.pool.free.nodup,h.pool.dis,fun n hn=>h.pool.free.range n hn,fun n hn=>hn,rfl⟩
  have hout1:∀ q,q∈l→q ∉ Q.fr∧q ∉ Q.rt:=fun q hq=>by
    obtain ⟨c1,c2⟩:=h.out q hq;exact ⟨fun hf=>(hQs q (.inl hf)).elim c1 c2,fun hf=>(hQs q (.inr hf)).elim c1 c2⟩
  have hrun:∀ {m':Nat} {res:Res} {ws':List Int} {gr:Grant},Runs (D.ee (J+1) p t 2) ws m gr w1→Runs (D.eW (J+1) ⟨p,0,t⟩ k v c gr) w1 m' res ws'→Runs (D.dm (J+1) ⟨p,0,t⟩ c k v) ws (m+m') res ws':=fun h1 h2=>Runs.bind h1 h2
  rw [hgr] at hr hP1 hZ ⊢
  obtain ⟨fr,rt,st⟩:=Q;cases fr with
  | nil=>
    simp only [Pool.out] at hr hP1
    refine ⟨m+0,w1,_,g1,l,⟨4,0⟩,kw,kw,hrun hr ?_,⟨hP1.toH,ho1,hL1,h.nd,hout1,by rw [he1]; exact h.inc⟩,hK1,ha1,.inl ⟨rfl,rfl,rfl,rfl,he1⟩⟩
    unfold D.eW D.jO;exact .done _ _
  | cons n l1=>
    simp only [Pool.out] at hr hP1 hZ
    have hnR:=hQr n (List.mem_cons_self ..);obtain ⟨hnl1,_⟩:=List.nodup_cons.1 hQu;have hnrt:n ∉ rt:=fun hq=>hQd n hq (List.mem_cons_self ..)
    have hnl:n ∉ l:=fun hq=>(hout1 n hq).1 (List.mem_cons_self ..)
    have hnP:=hQs n (.inl (List.mem_cons_self ..));have hol:∀ q,q∈l→q ∉ l1∧q ∉ rt:=fun q hq=>⟨fun hf=>(hout1 q hq).1 (List.mem_cons_of_mem _ hf),(hout1 q hq).2⟩
    have hofn:∀ j,(∀ n,n∈P.fr∨n∈P.rt∨n∈l→¬ bK p n j)→¬ bK p n j:=fun j hj=>hj n (hnP.imp id .inl)
    obtain ⟨pre,suf,e,k1,k2,hx⟩:=BK hp hnn ht J (n:=n) (gn:=(st n).gen) (k:=k) (v:=v) hP1.toH kw kw hJ hc hL1 ho1 hnR hnl1 hnrt hnl fun q hq=>(hol q hq).1
    have hcut:=uy k1 k2;rw [←e,he1] at hcut
    have hlen:(loE k (ents p ws l)).length=pre.length:=by rw [hcut.1]; unfold ents; simp
    have hhas:hasE k (ents p ws l)=true↔∃ q,suf.head?=some q∧rd w1 (fp p q 0)=k:=by
      rw [Cg]
      unfold hasE;rw [hcut.2]
    rcases hx with ⟨hex,m',w3,g',hm',hg',hr',hP3,hl3,hfr⟩ | ⟨hno,m',w3,hm',hr',hP3,hl3,hw3⟩
    · have hkl:∀ q f,q∈l→0≤f→f<3→rd w3 (fp p q f)=rd w1 (fp p q f):=fun q f hq f0 f1=>by
        have hqr:=h.link.range q hq;have hne:q≠n:=fun e=>hnl (e ▸ hq)
        exact hfr _ (by rw [hfp]; omega) (by unfold bK; rw [hfp]; omega)
      have he3:ents p w3 l=ents p ws l:=(mi fun q f hq f0 f1=>hkl q f hq f0 kw).trans he1
      have ha3:Alone p w3:=fun j j0 j1=>by rw [hfr _ kw (by unfold bK; omega)]; exact ha1 j j0 j1
      refine ⟨m+m',w3,_,g',l,⟨7,0⟩,kw,kw,hrun hr hr',⟨hP3,fun j j0 j1=>?_,hL1.keepW (hfr c kw (by unfold bK; omega)) (fun q hq=>hkl q 2 hq kw kw),h.nd,fun q hq=>⟨fun hf=>?_,(hol q hq).2⟩,by rw [he3]; exact h.inc⟩,⟨hl3.trans hK1.1,fun j j0 h1 h2 h3=>(hfr j j0 (hofn j h1)).trans (hK1.2 j j0 h1 h2 h3)⟩,ha3,.inr ⟨_,n,l1,hQe,rfl,rfl,rfl,.inl ⟨hhas.2 hex,rfl,rfl,rfl,he3⟩⟩⟩
      · have:=ha3 (t * 3+j) kw kw
        rw [←Int.add_assoc] at this
        exact this
      · rcases Cb hf with rfl | hf
        · exact hnl hq
        · exact (hol q hq).1 hf
    · have hlp:∀ q f,q∈n::l→0≤f→f<2→fp p q f≠cr p c pre:=fun q f hq f0 f1=>by
        have hqr:0≤q:=by
          rcases List.mem_cons.1 hq with rfl | hq
          · exact hnR.1
          · exact (h.link.range q hq).1
        rcases iQ p c pre with ⟨e',_⟩ | ⟨x,hx,e'⟩
        · rw [e',hfp]; omega
        · have:=(h.link.range x (by rw [e]; exact List.mem_append_left _ hx)).1
          rw [e',hfp,hfp]; omega
      have hkl:∀ q f,q∈l→0≤f→f<2→rd w3 (fp p q f)=rd w1 (fp p q f):=fun q f hq f0 f1=>by
        have hqr:=h.link.range q hq;have hne:q≠n:=fun e=>hnl (e ▸ hq)
        rw [hw3 _ (by rw [hfp]; omega),if_neg (hlp q f (List.mem_cons_of_mem _ hq) f0 f1),if_neg (by rw [hfp,hfp]; omega),if_neg (by rw [hfp,hfp]; omega),if_neg (by rw [hfp,hfp]; omega)]
      have hL3:bu p w3 c (pre++n::suf):=by
        refine bu.ins (e ▸ hL1) (e ▸ h.nd) (fun q hq e'=>?_) hnR (by rw [←e]; exact hnl) ?_ ?_ (fun q hq hne=>?_) (fun hne=>?_)
        · have:0≤q:=by
            rcases List.mem_cons.1 hq with rfl | hq
            · exact hnR.1
            · exact (h.link.range q (by rw [e]; exact hq)).1
          rw [hfp] at e'; omega
        · rw [hw3 _ (by
            rcases iQ p c pre with ⟨e',_⟩ | ⟨x,hx,e'⟩
            · rw [e']; omega
            · have:=(h.link.range x (by rw [e]; exact List.mem_append_left _ hx)).1
              rw [e',hfp]; omega),if_pos rfl]
        · rw [hw3 _ (by rw [hfp]; omega),if_neg,if_pos rfl]
          rcases iQ p c pre with ⟨e',_⟩ | ⟨x,hx,e'⟩
          · rw [e',hfp]; omega
          · intro e2
            rw [e'] at e2
            have:=mU e2;exact hnl (by rw [this,e]; exact List.mem_append_left _ hx)
        · have hqr:=h.link.range q (by rw [e]; exact hq)
          have hqn:q≠n:=fun e2=>hnl (by rw [←e2,e]; exact hq)
          rw [hw3 _ (by rw [hfp]; omega),if_neg hne,if_neg (by rw [hfp,hfp]; omega),if_neg (by rw [hfp,hfp]; omega),if_neg (by rw [hfp,hfp]; omega)]
        · rw [hw3 _ kw,if_neg hne,if_neg (by rw [hfp]; omega),if_neg (by rw [hfp]; omega),if_neg (by rw [hfp]; omega)]
      have hhasf:hasE k (ents p ws l)=false:=by
        cases hb:hasE k (ents p ws l) with
        | false=>rfl
        | true=>exact absurd (hhas.1 hb) hno
      have hin:∀ q,q∈pre∨q∈suf→q∈l:=fun q hq=>by rw [e]; exact List.mem_append.2 hq
      have he3:ents p w3 (pre++n::suf)=insE k v (ents p ws l):=by
        unfold insE;rw [hcut.1,hcut.2];have hA:ents p w3 pre=ents p w1 pre:=mi fun q f hq f0 f1=>hkl q f (hin q (.inl hq)) f0 f1
        have hB:ents p w3 suf=ents p w1 suf:=mi fun q f hq f0 f1=>hkl q f (hin q (.inr hq)) f0 f1
        have h0:rd w3 (fp p n 0)=k:=by
          rw [hw3 _ (by rw [hfp]; omega),if_neg (hlp n 0 (List.mem_cons_self ..) kw kw),if_neg (by rw [hfp,hfp]; omega),if_neg (by rw [hfp,hfp]; omega),if_pos rfl]
        have h1:rd w3 (fp p n 1)=v:=by
          rw [hw3 _ (by rw [hfp]; omega),if_neg (hlp n 1 (List.mem_cons_self ..) kw kw),if_neg (by rw [hfp,hfp]; omega),if_pos rfl]
        rw [←hA,←hB]
        unfold ents;rw [List.map_append,List.map_cons,h0,h1]
      have ha3:Alone p w3:=fun j j0 j1=>by
        rw [hw3 _ kw,if_neg,if_neg (by rw [hfp]; omega),if_neg (by rw [hfp]; omega),if_neg (by rw [hfp]; omega)]
        · exact ha1 j j0 j1
        · rcases iQ p c pre with ⟨e',_⟩ | ⟨x,hx,e'⟩
          · rw [e']; omega
          · have:=(h.link.range x (hin x (.inl hx))).1
            rw [e',hfp]; omega
      refine ⟨m+m',w3,_,g1,pre++n::suf,⟨0,0⟩,kw,kw,hrun hr hr',⟨hP3,fun j j0 j1=>?_,hL3,?_,fun q hq=>?_,by rw [he3]; exact h.inc.ins hhasf⟩,⟨hl3.trans hK1.1,fun j j0 h1 h2 h3=>?_⟩,ha3,.inr ⟨_,n,l1,hQe,rfl,rfl,rfl,.inr ⟨hhasf,rfl,rfl,he3,pre,suf,e,rfl,hlen⟩⟩⟩
      · have:=ha3 (t * 3+j) kw kw
        rw [←Int.add_assoc] at this
        exact this
      · obtain ⟨d1,d2,d3⟩:=List.nodup_append.1 (e ▸ h.nd)
        refine List.nodup_append.2 ⟨d1,List.nodup_cons.2 ⟨fun hq=>hnl (hin n (.inr hq)),d2⟩,fun a ha b hb=>?_⟩
        rcases List.mem_cons.1 hb with rfl | hb
        · exact fun e2=>hnl (e2 ▸ hin a (.inl ha))
        · exact d3 a ha b hb
      · rcases List.mem_append.1 hq with hq | hq
        · exact hol q (hin q (.inl hq))
        · rcases List.mem_cons.1 hq with rfl | hq
          · exact ⟨hnl1,hnrt⟩
          · exact hol q (hin q (.inr hq))
      · have hjn:=hofn j h1
        rw [hw3 j kw,if_neg,if_neg,if_neg,if_neg]
        · exact hK1.2 j j0 h1 h2 h3
        · exact fun e2=>hjn (by unfold bK; rw [e2,hfp]; omega)
        · exact fun e2=>hjn (by unfold bK; rw [e2,hfp]; omega)
        · exact fun e2=>hjn (by unfold bK; rw [e2,hfp]; omega)
        · rcases iQ p c pre with ⟨e',_⟩ | ⟨x,hx,e'⟩
          · rw [e']; exact h3
          · intro e2
            refine h1 x (.inr (.inr (hin x (.inl hx)))) ?_;unfold bK; rw [e2,e',hfp]; omega
end
end Go.Proofs.YtikjpdpgdmbdpaaGreat

/- Ours. -/
set_option maxRecDepth 20000
set_option maxHeartbeats 2000000
namespace Go.Proofs.YtikjpdpgdmbdpaaGreat
open Go.RowKit
theorem cl50:ag Tryz.prog 50:=kz
end Go.Proofs.YtikjpdpgdmbdpaaGreat

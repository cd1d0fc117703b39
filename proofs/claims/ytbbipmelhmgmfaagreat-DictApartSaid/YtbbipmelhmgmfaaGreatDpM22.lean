/- Some of our texts, one behind the other. -/
import Derived.Test.YtbbipmelhmgmfaaGreatDpM21
import Derived.Test.YtbbipmelhmgmfaaGreatDpM14
import Derived.Test.YtbbipmelhmgmfaaGreatDpLListp
import Derived.Test.YtbbipmelhmgmfaaGreatDpLoud
import Derived.Test.YtbbipmelhmgmfaaGreatDpMem
set_option linter.all false
set_option maxRecDepth 100000
set_option maxHeartbeats 20000000
/- Ours. -/
namespace Go.Proofs.YtbbipmelhmgmfaaGreat
open Go.RowKit
/-! ### Entries -/
def loE (k:Int) (E:List Entry):List Entry:=E.takeWhile fun (e:Entry)=>decide (e.key<k)
def hiE (k:Int) (E:List Entry):List Entry:=E.dropWhile fun (e:Entry)=>decide (e.key<k)
def hasE (k:Int) (E:List Entry):Bool:=match hiE k E with
 | []=>false
 | e::_=>e.key==k
def insE (k v:Int) (E:List Entry):List Entry:=loE k E++⟨k,v⟩::hiE k E
def delE (k:Int) (E:List Entry):List Entry:=if hasE k E=true then loE k E++(hiE k E).tail else E
def getE (k:Int) (E:List Entry):Res:=match hiE k E with
 | []=>⟨6,0⟩
 | e::_=>if e.key=k then ⟨0,e.value⟩ else ⟨6,0⟩
def ents (p:Plan) (ws:List Int) (l:List Int):List Entry:=l.map fun q=>⟨rd ws (fp p q 0),rd ws (fp p q 1)⟩
theorem cutE {k:Int} {A B:List Entry} (hA:∀ e,e∈A→e.key<k) (hB:∀ e,B.head?=some e→k≤e.key):loE k (A++B)=A∧hiE k (A++B)=B:=by
 unfold loE hiE;rw [List.takeWhile_append_of_pos (fun e he=>decide_eq_true (hA e he)),List.dropWhile_append_of_pos (fun e he=>decide_eq_true (hA e he))]
 cases B with
 | nil=>simp
 | cons e B=>
  have:¬ e.key<k:=by have:=hB e rfl; omega
  simp [List.takeWhile_cons,List.dropWhile_cons,this]
theorem zjh {p:Plan} {ws:List Int} {k:Int} {pre suf:List Int} (h1:∀ q,q∈pre→rd ws (fp p q 0)<k) (h2:∀ q,suf.head?=some q→k≤rd ws (fp p q 0)) :
  loE k (ents p ws (pre++suf))=ents p ws pre∧hiE k (ents p ws (pre++suf))=ents p ws suf:=by
 unfold ents;rw [List.map_append];refine cutE (fun e he=>?_) (fun e he=>?_)
 ·obtain ⟨q,hq,rfl⟩:=List.mem_map.1 he
  exact h1 q hq
 ·cases suf with
  | nil=>cases he
  | cons q s=>
   simp only [List.map_cons,List.head?_cons,Option.some.injEq] at he
   subst he;exact h2 q rfl
theorem zms {p:Plan} {ws:List Int} {k:Int} {suf:List Int}:(∃ q,suf.head?=some q∧rd ws (fp p q 0)=k)↔(match ents p ws suf with | []=>false | e::_=>e.key==k)=true:=by
 cases suf with
 | nil=>exact ⟨fun ⟨q,h,_⟩=>(by cases h),fun h=>(by cases h)⟩
 | cons q s=>
  constructor
  ·rintro ⟨x,hx,h⟩
   obtain rfl:q=x:=by simpa using hx
   simpa [ents] using h
  ·intro h
   exact ⟨q,rfl,by simpa [ents] using h⟩
theorem zf3 {p:Plan} {ws ws':List Int} {l:List Int} (h:∀ q f,q∈l→0≤f→f<2→rd ws' (fp p q f)=rd ws (fp p q f)):ents p ws' l=ents p ws l:=by
 unfold ents;exact List.map_congr_left fun q hq=>by rw [h q 0 hq kw kw,h q 1 hq kw kw]
def Rise (E:List Entry):Prop:=E.Pairwise fun (a b:Entry)=>a.key<b.key
theorem Rise.split {k:Int} {E:List Entry}:E=loE k E++hiE k E:=(List.takeWhile_append_dropWhile ..).symm
theorem zqZ {k:Int} {E:List Entry} {e:Entry} (h:e∈loE k E):e.key<k:=by
 unfold loE at h
 induction E with
 | nil=>cases h
 | cons a E ih=>
  rw [List.takeWhile_cons] at h
  by_cases ha:a.key<k
  ·rw [decide_eq_true ha] at h
   rcases List.mem_cons.1 h with rfl | h
   ·exact ha
   ·exact ih h
  ·rw [decide_eq_false ha] at h
   cases h
theorem znd {k:Int} {E:List Entry} {e:Entry} {r:List Entry} (h:hiE k E=e::r):k≤e.key:=by
 unfold hiE at h
 induction E with
 | nil=>cases h
 | cons a E ih=>
  rw [List.dropWhile_cons] at h
  by_cases ha:a.key<k
  ·rw [decide_eq_true ha] at h
   exact ih h
  ·rw [decide_eq_false ha] at h
   simp only [Bool.false_eq_true,if_false,List.cons.injEq] at h
   rw [←h.1]; omega
theorem Rise.zrm {k:Int} {E:List Entry} (h:Rise E) {e:Entry} (he:e∈hiE k E):k≤e.key:=by
 have h2:Rise (hiE k E):=by
  have:=h;rw [Rise.split (k:=k) (E:=E)] at this
  exact (List.pairwise_append.1 this).2.1
 cases hh:hiE k E with
 | nil=>rw [hh] at he; cases he
 | cons a r=>
  have h1:=znd hh;rw [hh] at he h2
  rcases List.mem_cons.1 he with rfl | he
  ·exact h1
  ·have:=(List.pairwise_cons.1 h2).1 e he
   omega
theorem Rise.ziz {k:Int} {E:List Entry} (h:Rise E):hasE k E=true↔∃ v,(⟨k,v⟩:Entry)∈E:=by
 constructor
 ·intro hk
  unfold hasE at hk
  cases hh:hiE k E with
  | nil=>rw [hh] at hk; cases hk
  | cons a r=>
   rw [hh] at hk
   have:a.key=k:=by simpa using hk
   refine ⟨a.value,?_⟩;rw [Rise.split (k:=k) (E:=E),hh];exact List.mem_append_right _ (by rw [←this]; exact List.mem_cons_self ..)
 ·rintro ⟨v,hv⟩
  rw [Rise.split (k:=k) (E:=E)] at hv
  rcases List.mem_append.1 hv with hv | hv
  ·have:k<k:=zqZ hv
   omega
  ·unfold hasE
   have h2:Rise (hiE k E):=by
    have:=h;rw [Rise.split (k:=k) (E:=E)] at this
    exact (List.pairwise_append.1 this).2.1
   cases hh:hiE k E with
   | nil=>rw [hh] at hv; cases hv
   | cons a r=>
    have h1:=znd hh;rw [hh] at hv h2
    rcases List.mem_cons.1 hv with e | hv
    ·rw [←e]; simp
    ·have:a.key<k:=(List.pairwise_cons.1 h2).1 _ hv
     omega
theorem Rise.ins {k v:Int} {E:List Entry} (h:Rise E) (hk:hasE k E=false):Rise (insE k v E):=by
 have h0:=h;rw [Rise.split (k:=k) (E:=E)] at h0
 obtain ⟨h1,h2,h3⟩:=List.pairwise_append.1 h0;refine List.pairwise_append.2 ⟨h1,List.pairwise_cons.2 ⟨fun e he=>?_,h2⟩,fun a ha b hb=>?_⟩
 ·have h4:=h.zrm he
  have:e.key≠k:=fun e1=>by
   have:hasE k E=true:=h.ziz.2 ⟨e.value,by rw [Rise.split (k:=k) (E:=E)]; exact List.mem_append_right _ (by have e2:e=⟨k,e.value⟩:=(by cases e; simp at e1; rw [e1]); rw [←e2]; exact he)⟩
   rw [hk] at this; cases this
  show k<e.key
  omega
 ·rcases List.mem_cons.1 hb with rfl | hb
  ·exact zqZ ha
  ·exact h3 a ha b hb
theorem Rise.sub {E E':List Entry} (h:Rise E) (hs:E'.Sublist E):Rise E':=List.Pairwise.sublist hs h
theorem Rise.del {k:Int} {E:List Entry} (h:Rise E):Rise (delE k E):=by
 unfold delE
 split
 ·refine h.sub ?_
  conv=>rhs; rw [Rise.split (k:=k) (E:=E)]
  exact List.Sublist.append_left (List.tail_sublist _) _
 ·exact h
theorem zmv {P:Pool} {m n q:Int} (h:q∈(P.back m n).fr):q=n∨q∈P.fr:=by
 by_cases e:(D.zag (P.st n) m).mode=3
 ·have ef:(P.back m n).fr=P.fr:=if_pos e
  rw [ef] at h; exact .inr h
 ·have ef:(P.back m n).fr=n::P.fr:=if_neg e
  rw [ef] at h; exact List.mem_cons.1 h
theorem znu {P:Pool} {m n:Int}:P.fr.length≤(P.back m n).fr.length:=by
 by_cases e:(D.zag (P.st n) m).mode=3
 ·have ef:(P.back m n).fr=P.fr:=if_pos e
  rw [ef]; exact Nat.le_refl _
 ·have ef:(P.back m n).fr=n::P.fr:=if_neg e
  rw [ef]; simp
/-! ### A list in memory -/
def Alone (p:Plan) (ws:List Int):Prop:=∀ j,0≤j→j<p.threads * 3→rd ws (D.za1 p+j)=0
theorem Alone.held {p:Plan} {ws:List Int} (h:Alone p ws) {n:Int} (hn:0≤n):¬ heldW p ws n:=by
 rintro ⟨j,j0,j1,hj⟩;rw [h j j0 j1] at hj
 omega
structure LAt (p:Plan) (t:Int) (ws:List Int) (P:Pool) (g c:Int) (l:List Int):Prop where
 pool:PoolH p t ws P g
 own:∀ j,0≤j→j<3→rd ws (D.za1 p+t * 3+j)=0
 link:zpA p ws c l
 nd:l.Nodup
 out:∀ q,q∈l→q ∉ P.fr∧q ∉ P.rt
 inc:Rise (ents p ws l)
def KeptL (p:Plan) (t:Int) (P:Pool) (c:Int) (l ws ws':List Int):Prop:=
 ws'.length=ws.length∧∀ j,0<j→(∀ n,n∈P.fr∨n∈P.rt∨n∈l→¬ zpD p n j)→¬ (rb p t≤j∧j<rb p t+1+p.retire)→j≠c→rd ws' j=rd ws j
theorem KeptL.refl (p:Plan) (t:Int) (P:Pool) (c:Int) (l ws:List Int):KeptL p t P c l ws ws:=⟨rfl,fun _ _ _ _ _=>rfl⟩
section
variable {p : Plan} (hp : PF p) (hnn : p.nodes ≤ 1000) {t : Int} (ht : 0 ≤ t ∧ t < p.threads) {ws : List Int} {P : Pool} {g c : Int} {l : List Int} (h : LAt p t ws P g c l) (hc : 0 < c ∧ c < D.za1 p)
include hp hnn ht h hc
theorem LAt.range {n:Int} (hn:n∈P.fr∨n∈P.rt∨n∈l):0≤n∧n<p.nodes:=by
 rcases hn with hn | hn | hn
 ·exact h.pool.free.range n hn
 ·exact h.pool.ret.range n hn
 ·exact h.link.range n hn
theorem LAt.alone {ws':List Int} (hk:KeptL p t P c l ws ws') (ha:Alone p ws):Alone p ws':=fun j j0 j1=>by
 obtain ⟨z1,z2,z3,z4⟩:=zpZ hp;obtain ⟨b1,b2,b3⟩:=zq2 hp ht;rw [hk.2 _ kw (fun n hn=>by have:=h.range hp hnn ht hc hn; unfold zpD; omega) kw kw]
 exact ha j j0 j1
theorem LAt.ziU:l.length≤p.nodes.toNat:=by
 have:=zkZ (k:=allN p) h.nd fun q hq=>by
  have:=h.link.range q hq;exact List.mem_map.2 ⟨q.toNat,List.mem_range'_1.2 kw,kw⟩
 have h2:(allN p).length=p.nodes.toNat:=by unfold allN; simp
 omega
theorem LAt.get (J:Nat) (hJ:1100<J) (k:Int):∃ m,m≤9 * l.length+7∧Runs (D.zfZ (J+1) ⟨p,0,t⟩ c k) ws m (getE k (ents p ws l)) ws:=by
 obtain ⟨z1,z2,z3,z4⟩:=zpZ hp;have hn1:=hp.n1;have ht1:=hp.t1;have hll:=h.ziU hp hnn ht hc;obtain ⟨m,pre,suf,hm,e,k1,k2,hr⟩:=zo8 hp hnn ht J (c:=c) (k:=k) h.pool.free.len kw kw kw kw kw h.link h.own;refine ⟨m,hm,?_⟩;have:getE k (ents p ws l)=gotR ws p k suf:=by
  unfold getE;rw [e,(zjh k1 k2).2];unfold gotR;cases suf <;> rfl
 rw [this]
 exact hr
theorem LAt.del (J d:Nat) (hJ:1100<J) (hg:g<900000) (k:Int) (hh:¬ (P.rt.length:Int)<p.retire→∀ n,n∈P.rt→¬ heldW p ws n) :
  ∃ (m:Nat) (ws':List Int) (P':Pool) (g':Int) (l':List Int),m≤9 * l.length+70 * P.rt.length+21∧g'≤g+P.rt.length∧Runs (D.ze7 (J+1) (d+1) ⟨p,0,t⟩ c k) ws m (getE k (ents p ws l)) ws'∧LAt p t ws' P' g' c l'∧KeptL p t P c l ws ws'∧ents p ws' l'=delE k (ents p ws l)∧
   ((hasE k (ents p ws l)=false∧ws'=ws∧P'=P∧g'=g∧l'=l)∨(hasE k (ents p ws l)=true∧∃ pre n suf,l=pre++n::suf∧l'=pre++suf∧P'=dropP p P n∧(loE k (ents p ws l)).length=pre.length)):=by
 obtain ⟨z1,z2,z3,z4⟩:=zpZ hp;obtain ⟨b1,b2,b3⟩:=zq2 hp ht;have hn1:=hp.n1;have ht1:=hp.t1;have hll:=h.ziU hp hnn ht hc;have hfp:∀ q f,fp p q f=D.za2 p+q * 5+2+f:=fun q f=>rfl
 obtain ⟨pre,suf,e,k1,k2,hx⟩:=zn0 hp hnn ht J d (k:=k) h.pool hg kw hJ hc.1 hc.2 h.link h.nd h.out h.own hh;have hcut:=zjh k1 k2;rw [←e] at hcut
 rcases hx with ⟨hno,m,hm,hr⟩ | ⟨n,suf',rfl,hkn,m,w3,g',hm,hg',hr,hP,hl3,hL,hown,hfr⟩
 ·have hhas:hasE k (ents p ws l)=false:=by
   cases hb:hasE k (ents p ws l) with
   | false=>rfl
   | true=>
    unfold hasE at hb
    rw [hcut.2] at hb
    exact absurd (zms.2 hb) hno
  have hget:getE k (ents p ws l)=⟨6,0⟩:=by
   unfold getE;unfold hasE at hhas
   cases hh':hiE k (ents p ws l) with
   | nil=>rfl
   | cons a r=>rw [hh'] at hhas; simp only; rw [if_neg (by simpa using hhas)]
  refine ⟨m,ws,P,g,l,kw,kw,by rw [hget]; exact hr,h,KeptL.refl ..,?_,.inl ⟨hhas,rfl,rfl,rfl,rfl⟩⟩
  unfold delE;rw [if_neg (by rw [hhas]; simp)]
 ·have hhi:hiE k (ents p ws l)=⟨k,rd ws (fp p n 1)⟩::ents p ws suf':=by rw [hcut.2,←hkn]; rfl
  have hhas:hasE k (ents p ws l)=true:=by unfold hasE; rw [hhi]; simp
  have hget:getE k (ents p ws l)=⟨0,rd ws (fp p n 1)⟩:=by unfold getE; rw [hhi]; simp
  have hdd:=List.nodup_append.1 (e ▸ h.nd);have hin:∀ q,q∈pre++suf'→q∈l∧q≠n:=fun q hq=>by
   rcases List.mem_append.1 hq with hq | hq
   ·exact ⟨by rw [e]; exact List.mem_append_left _ hq,fun e=>hdd.2.2 q hq n (List.mem_cons_self ..) e⟩
   ·exact ⟨by rw [e]; exact List.mem_append_right _ (List.mem_cons_of_mem _ hq),fun e=>(List.nodup_cons.1 hdd.2.1).1 (e ▸ hq)⟩
  have hkeep:∀ q f,q∈pre++suf'→0≤f→f<2→rd w3 (fp p q f)=rd ws (fp p q f):=fun q f hq f0 f1=>by
   obtain ⟨hql,hqn⟩:=hin q hq;have hqr:=h.link.range q hql;obtain ⟨o1,o2⟩:=h.out q hql;refine hfr _ yak (fun x hx=>?_) yak ?_
   ·have hxr:0≤x∧x<p.nodes:=h.range hp hnn ht hc (by
     rcases hx with hx | hx | rfl
     ·exact .inl hx
     ·exact .inr (.inl hx)
     ·exact .inr (.inr (by rw [e]; exact List.mem_append_right _ (List.mem_cons_self ..))))
    have hne:x≠q:=fun e=>by
     subst e
     rcases hx with hx | hx | hx
     ·exact o1 hx
     ·exact o2 hx
     ·exact hqn hx
    unfold zpD; rw [hfp]; omega
   ·rcases List.eq_nil_or_concat pre with hpre | ⟨s,z,hpre⟩
    ·rw [hpre]
     show fp p q f≠c
     rw [hfp]; omega
    ·obtain ⟨x,hx,e2⟩:=zdT (p:=p) (pre:=pre) (a:=c) (by rw [hpre]; simp)
     rw [e2,hfp,hfp]; omega
  have hent:ents p w3 (pre++suf')=delE k (ents p ws l):=by
   rw [zf3 hkeep]
   unfold delE;rw [if_pos hhas,hcut.1,hhi];unfold ents;rw [List.map_append]
   rfl
  have hsub:∀ q,q∈(dropP p P n).fr→q∈P.fr∨q∈P.rt:=fun q hq=>by
   unfold dropP Pool.stash at hq
   split at hq
   ·exact .inl hq
   ·have hq':q∈((⟨P.fr,P.rt,fun q=>if q=n then ⟨(P.st n).gen,2,(P.st n).kind⟩ else P.st q⟩:Pool).scan p.gen).fr:=hq
    rcases zfX (P:=⟨P.fr,P.rt,fun q=>if q=n then ⟨(P.st n).gen,2,(P.st n).kind⟩ else P.st q⟩) h.pool.nod hq' with h1 | h1
    ·exact .inr h1
    ·exact .inl h1
  have hsub2:∀ q,q∈(dropP p P n).rt→q∈P.rt∨q=n:=fun q hq=>by
   unfold dropP Pool.stash at hq
   rcases List.mem_append.1 hq with hq | hq
   ·split at hq
    ·exact .inl hq
    ·have:((⟨P.fr,P.rt,fun q=>if q=n then ⟨(P.st n).gen,2,(P.st n).kind⟩ else P.st q⟩:Pool).scan p.gen).rt=[]:=zh0 _ _ _
     rw [this] at hq; cases hq
   ·exact .inr (List.mem_singleton.1 hq)
  refine ⟨m,w3,dropP p P n,g',pre++suf',hm,hg',by rw [hget]; exact hr,⟨hP,hown,hL,?_,fun q hq=>⟨fun hf=>?_,fun hf=>?_⟩,by rw [hent]; exact h.inc.del⟩,⟨hl3,fun j j0 h1 h2 h3=>?_⟩,hent,.inr ⟨hhas,pre,n,suf',e,rfl,rfl,by rw [hcut.1]; unfold ents; simp⟩⟩
  ·refine List.nodup_append.2 ⟨hdd.1,(List.nodup_cons.1 hdd.2.1).2,fun a ha b hb=>hdd.2.2 a ha b (List.mem_cons_of_mem _ hb)⟩
  ·obtain ⟨o1,o2⟩:=h.out q (hin q hq).1
   rcases hsub q hf with h1 | h1
   ·exact o1 h1
   ·exact o2 h1
  ·obtain ⟨o1,o2⟩:=h.out q (hin q hq).1
   rcases hsub2 q hf with h1 | h1
   ·exact o2 h1
   ·exact (hin q hq).2 h1
  ·refine hfr j j0 (fun q hq=>h1 q ?_) h2 ?_
   ·rcases hq with hq | hq | rfl
    ·exact .inl hq
    ·exact .inr (.inl hq)
    ·exact .inr (.inr (by rw [e]; exact List.mem_append_right _ (List.mem_cons_self ..)))
   ·rcases List.eq_nil_or_concat pre with hpre | ⟨s,z,hpre⟩
    ·rw [hpre]; exact h3
    ·obtain ⟨x,hx,e2⟩:=zdT (p:=p) (pre:=pre) (a:=c) (by rw [hpre]; simp)
     intro e3;refine h1 x (.inr (.inr yaJ)) ?_;unfold zpD; rw [e3,e2,hfp]; omega
omit h hc in
theorem zmV (J:Nat) {n gn k v:Int} {Q:Pool} (hQ:PoolH p t ws Q g) (hg:g<1000000) (hd:l.length<J) (hJ:1100<J) (hc:0<c∧c<D.za1 p) (hL:zpA p ws c l)
    (hz:∀ j,0≤j→j<3→rd ws (D.za1 p+t * 3+j)=0) (hn:0≤n∧n<p.nodes) (hnf:n ∉ Q.fr) (hnr:n ∉ Q.rt) (hnl:n ∉ l) (hout:∀ q,q∈l→q ∉ Q.fr) :
    ∃ pre suf,l=pre++suf∧(∀ q,q∈pre→rd ws (fp p q 0)<k)∧(∀ q,suf.head?=some q→k≤rd ws (fp p q 0))∧
      (((∃ q,suf.head?=some q∧rd ws (fp p q 0)=k)∧∃ (m:Nat) (w3:List Int) (g':Int),m≤9 * l.length+17∧g'≤g+1∧Runs (D.zcB (J+1) ⟨p,0,t⟩ k v c ⟨n,gn,0⟩) ws m ⟨7,0⟩ w3∧PoolH p t w3 (Q.back p.gen n) g'∧w3.length=ws.length∧
          ∀ j,0<j→¬ zpD p n j→rd w3 j=rd ws j)∨
       ((¬ ∃ q,suf.head?=some q∧rd ws (fp p q 0)=k)∧∃ (m:Nat) (w3:List Int),m≤9 * l.length+11∧Runs (D.zcB (J+1) ⟨p,0,t⟩ k v c ⟨n,gn,0⟩) ws m ⟨0,0⟩ w3∧PoolH p t w3 Q g∧w3.length=ws.length∧
          ∀ j,0≤j→rd w3 j=if j=zpP p c pre then (n+1) * 2 else if j=fp p n 2 then lw suf else if j=fp p n 1 then v else if j=fp p n 0 then k else rd ws j)):=by
  obtain ⟨z1,z2,z3,z4⟩:=zpZ hp;have hn1:=hp.n1;have hl:(ws.length:Int)=D.zab p:=hQ.free.len;have hfp:∀ q f,fp p q f=D.za2 p+q * 5+2+f:=fun q f=>rfl
  have hsp:∀ q,sp p q=D.za2 p+q * 5:=fun q=>rfl
  obtain ⟨f1,f2,f3,f4⟩:=zqb hp ht (f:=0) hn kw;obtain ⟨v1,v2,v3,v4⟩:=zqb hp ht (f:=1) hn kw;obtain ⟨u,hu⟩:∃ u,u=(ws.set (fp p n 0).toNat k).set (fp p n 1).toNat v:=⟨_,rfl⟩;have hul:u.length=ws.length:=by rw [hu]; simp
  have hur:∀ j,0≤j→rd u j=if j=fp p n 1 then v else if j=fp p n 0 then k else rd ws j:=fun j hj=>by
    rw [hu,zbC kw yaE hj,zbC kw kw hj]
  have huq:∀ q f,q≠n→0≤q→0≤f→f<3→rd u (fp p q f)=rd ws (fp p q f):=fun q f hq q0 f0 f1=>by
    rw [hur _ yak,if_neg yav,if_neg yav]
  have hQu:PoolH p t u Q g:=hQ.beside hp ht (fun j=>j=fp p n 1∨j=fp p n 0) (fun j hj=>by
    rcases hj with rfl | rfl
    · exact .inr ⟨n,1,hn,hnf,kw,rfl⟩
    · exact .inr ⟨n,0,hn,hnf,kw,rfl⟩) hul fun j hj hne=>by rw [hur j hj,if_neg fun e=>hne (.inl e),if_neg fun e=>hne (.inr e)]
  have hql:∀ q,q∈l→q≠n∧0≤q:=fun q hq=>⟨fun e=>hnl (e ▸ hq),(hL.range q hq).1⟩
  have hLu:zpA p u c l:=hL.keepW (by rw [hur c kw,if_neg (by rw [hfp]; omega),if_neg (by rw [hfp]; omega)]) fun q hq=>huq q 2 (hql q hq).1 (hql q hq).2 kw kw
  have hzu:∀ j,0≤j→j<3→rd u (D.za1 p+t * 3+j)=0:=fun j j0 j1=>by
    rw [hur _ kw,if_neg yak,if_neg yak]; exact hz j j0 j1
  obtain ⟨pre,suf,e,k1,k2,hx⟩:=znI hp hnn ht J J (k:=k) (n:=n) hQu.free.len hd kw kw hc.2 hLu hzu hn hnl;have hkq:∀ q,q∈l→rd u (fp p q 0)=rd ws (fp p q 0):=fun q hq=>huq q 0 (hql q hq).1 (hql q hq).2 kw kw
  have hps:∀ q,suf.head?=some q→q∈l:=fun q hq=>by rw [e]; exact List.mem_append_right _ (List.mem_of_mem_head? hq)
  have hrun:∀ {m:Nat} {x:Res} {w':List Int},Runs (D.zeL (J+1) (J+1) ⟨p,0,t⟩ c k n) u m x w'→Runs (D.zcB (J+1) ⟨p,0,t⟩ k v c ⟨n,gn,0⟩) ws (m+2) x w':=fun {m x w'} hr=>by
    unfold D.zcB;show Runs (D.zby (D.za8 p n 0) k _) _ _ _ _
    rw [f1]
    refine zhH (n:=m+1) kw kw ?_;unfold D.zfc;show Runs (D.zby (D.za8 p n 1) v _) _ _ _ _
    rw [v1]
    refine zhH (n:=m) kw yaE ?_;rw [←hu];exact hr
  refine ⟨pre,suf,e,fun q hq=>by rw [←hkq q yaK]; exact k1 q hq,fun q hq=>by rw [←hkq q (hps q hq)]; exact k2 q hq,?_⟩
  have hex:(∃ q,suf.head?=some q∧rd u (fp p q 0)=k)↔∃ q,suf.head?=some q∧rd ws (fp p q 0)=k:=
    ⟨fun ⟨q,hq,h⟩=>⟨q,hq,by rw [←hkq q (hps q hq)]; exact h⟩,fun ⟨q,hq,h⟩=>⟨q,hq,by rw [hkq q (hps q hq)]; exact h⟩⟩
  rw [hex] at hx
  rcases hx with ⟨hhas,hR⟩ | ⟨hno,m,w3,hm,hr,hl3,hw3⟩
  · obtain ⟨K,hK⟩:∃ K,J+1=K+4:=⟨J - 3,kw⟩
    have hof:=(hQu.st n hn.1 hn.2).of;rw [hsp] at hof
    obtain ⟨w3,hrr,hRec⟩:=ziS hp (ws:=u) (n:=n) (l:=Q.fr) (g:=g) hn kw kw hQu.free hnf (t:=D.zag (Q.st n) p.gen) (by rw [hof]) K;rw [←hK] at hrr
    obtain ⟨g',hg',hP'⟩:=zk5 hp ht hQu hn hnr hnf hRec;obtain ⟨m,hm,hr⟩:=hR _ _ _ hrr;refine .inl ⟨hhas,m+2,w3,g',?_,hg',hrun hr,hP',by rw [hRec.len,hul],fun j j0 hj=>?_⟩
    · have:(if (D.zag (Q.st n) p.gen).mode=3 then 5 else 8:Nat)≤8:=by split <;> omega
      omega
    · rw [hRec.others j j0 hj,hur j kw,if_neg fun e=>hj (by unfold zpD; rw [hfp] at e; omega),if_neg fun e=>hj (by unfold zpD; rw [hfp] at e; omega)]
  · refine .inr ⟨hno,m+2,w3,kw,hrun hr,?_,by have:(w3.length:Int)=D.zab p:=hl3; omega,fun j hj=>by rw [hw3 j hj,hur j hj]⟩
    have hl3':(w3.length:Int)=D.zab p:=hl3;refine hQu.beside hp ht (fun j=>j=zpP p c pre∨j=fp p n 2) (fun j hj=>?_) kw fun j hj hne=>by rw [hw3 j hj,if_neg fun e=>hne (.inl e),if_neg fun e=>hne (.inr e)]
    rcases hj with rfl | rfl
    · rcases zeN p c pre with ⟨e',_⟩ | ⟨q,hq,e'⟩
      · exact .inl (by rw [e']; exact hc)
      · have hq':q∈l:=by rw [e]; exact List.mem_append_left _ hq
        exact .inr ⟨q,2,hL.range q hq',hout q hq',kw,e'⟩
    · exact .inr ⟨n,2,hn,hnf,kw,rfl⟩
theorem LAt.add (hdm:0<p.domains) (hn40:p.nodes≤40) (ha:Alone p ws) (J:Nat) (hJ:1100<J) (hg:g<900000) (k v:Int) :
    ∃ (m:Nat) (ws':List Int) (P':Pool) (g':Int) (l':List Int) (res:Res),m≤9 * l.length+70 * P.rt.length+30∧g'≤g+P.rt.length+2∧Runs (D.zhj (J+1) ⟨p,0,t⟩ c k v) ws m res ws'∧LAt p t ws' P' g' c l'∧KeptL p t P c l ws ws'∧Alone p ws'∧
      (((P.grant p.gen 2).2=⟨-1,0,4⟩∧res=⟨4,0⟩∧P'=(P.grant p.gen 2).1∧l'=l∧ents p ws' l'=ents p ws l)∨
       (∃ (Q:Pool) (n:Int) (fr:List Int),(Q=P∨Q=P.scan p.gen)∧Q.fr=n::fr∧P.grant p.gen 2=Q.out 2∧(P.grant p.gen 2).2.node=n∧
         ((hasE k (ents p ws l)=true∧res=⟨7,0⟩∧P'=(P.grant p.gen 2).1.back p.gen n∧l'=l∧ents p ws' l'=ents p ws l)∨
          (hasE k (ents p ws l)=false∧res=⟨0,0⟩∧P'=(P.grant p.gen 2).1∧ents p ws' l'=insE k v (ents p ws l)∧∃ pre suf,l=pre++suf∧l'=pre++n::suf∧(loE k (ents p ws l)).length=pre.length)))):=by
  obtain ⟨z1,z2,z3,z4⟩:=zpZ hp;obtain ⟨b1,b2,b3⟩:=zq2 hp ht;have hn1:=hp.n1;have ht1:=hp.t1;have hll:=h.ziU hp hnn ht hc;have hrm:=h.pool.ret.room;have hr2:=hp.r2;have hfp:∀ q f,fp p q f=D.za2 p+q * 5+2+f:=fun q f=>rfl
  have hPA:=h.pool.toAt ha;obtain ⟨m,w1,g1,hm,hg1,hr,hP1,hZ,hK⟩:=PoolAt.grantF hp hdm hn40 ht (k:=2) kw hPA hg (J+1) kw
  have hkf:∀ q f,q∈l→0≤f→f<3→rd w1 (fp p q f)=rd ws (fp p q f):=fun q f hq f0 f1=>by
    have hqr:=h.link.range q hq;obtain ⟨c1,c2⟩:=h.out q hq;refine hK.2 _ yak (fun q' hq' ho=>?_) yak
    have hr':=h.range hp hnn ht hc (n:=q') (hq'.imp id .inl);rw [hfp] at ho
    unfold zpD at ho
    have:q'=q:=kw
    subst this;exact hq'.elim c1 c2
  have hkc:rd w1 c=rd ws c:=hK.2 c kw (fun q hq ho=>by
    have:=h.range hp hnn ht hc (n:=q) (hq.imp id .inl);unfold zpD at ho; omega) kw
  have hL1:zpA p w1 c l:=h.link.keepW hkc fun q hq=>hkf q 2 hq kw kw
  have he1:ents p w1 l=ents p ws l:=zf3 fun q f hq f0 f1=>hkf q f hq f0 kw
  have ha1:Alone p w1:=hP1.hz;have ho1:∀ j,0≤j→j<3→rd w1 (D.za1 p+t * 3+j)=0:=fun j j0 j1=>by
    have:=ha1 (t * 3+j) kw kw
    rw [←Int.add_assoc] at this
    exact this
  have hK1:KeptL p t P c l ws w1:=⟨hK.1,fun j j0 h1 h2 h3=>hK.2 j j0 (fun n hn=>h1 n (hn.imp id .inl)) h2⟩
  obtain ⟨Q,hQe,hQu,hQd,hQr,hQs,hgr⟩:∃ Q:Pool,(Q=P∨Q=P.scan p.gen)∧Q.fr.Nodup∧(∀ n,n∈Q.rt→n ∉ Q.fr)∧(∀ n,n∈Q.fr→0≤n∧n<p.nodes)∧(∀ n,n∈Q.fr∨n∈Q.rt→n∈P.fr∨n∈P.rt)∧P.grant p.gen 2=Q.out 2:=by
    unfold Pool.grant
    split
    · obtain ⟨_,_,_,_,_,_,hS,_⟩:=hPA.scan hp hnn ht hg (J+1) kw
      refine ⟨_,.inr rfl,hS.free.nodup,hS.dis,fun n hn=>hS.free.range n hn,fun n hn=>?_,rfl⟩
      rcases hn with hn | hn
      · exact (zfX h.pool.nod hn).symm
      · have:(P.scan p.gen).rt=[]:=zh0 _ _ _
        rw [this] at hn; cases hn
    · exact ⟨P,.inl rfl,h.pool.free.nodup,h.pool.dis,fun n hn=>h.pool.free.range n hn,fun n hn=>hn,rfl⟩
  have hout1:∀ q,q∈l→q ∉ Q.fr∧q ∉ Q.rt:=fun q hq=>by
    obtain ⟨c1,c2⟩:=h.out q hq;exact ⟨fun hf=>(hQs q (.inl hf)).elim c1 c2,fun hf=>(hQs q (.inr hf)).elim c1 c2⟩
  have hrun:∀ {m':Nat} {res:Res} {ws':List Int} {gr:Grant},Runs (D.zfO (J+1) p t 2) ws m gr w1→Runs (D.zcB (J+1) ⟨p,0,t⟩ k v c gr) w1 m' res ws'→Runs (D.zhj (J+1) ⟨p,0,t⟩ c k v) ws (m+m') res ws':=fun h1 h2=>Runs.bind h1 h2
  rw [hgr] at hr hP1 hZ ⊢
  obtain ⟨fr,rt,st⟩:=Q;cases fr with
  | nil=>
    simp only [Pool.out] at hr hP1
    refine ⟨m+0,w1,_,g1,l,⟨4,0⟩,kw,kw,hrun hr ?_,⟨hP1.toH,ho1,hL1,h.nd,hout1,by rw [he1]; exact h.inc⟩,hK1,ha1,.inl ⟨rfl,rfl,rfl,rfl,he1⟩⟩
    unfold D.zcB D.zgK;exact .done _ _
  | cons n l1=>
    simp only [Pool.out] at hr hP1 hZ
    have hnR:=hQr n (List.mem_cons_self ..);obtain ⟨hnl1,_⟩:=List.nodup_cons.1 hQu;have hnrt:n ∉ rt:=fun hq=>hQd n hq (List.mem_cons_self ..)
    have hnl:n ∉ l:=fun hq=>(hout1 n hq).1 (List.mem_cons_self ..)
    have hnP:=hQs n (.inl (List.mem_cons_self ..));have hol:∀ q,q∈l→q ∉ l1∧q ∉ rt:=fun q hq=>⟨fun hf=>(hout1 q hq).1 (List.mem_cons_of_mem _ hf),(hout1 q hq).2⟩
    have hofn:∀ j,(∀ n,n∈P.fr∨n∈P.rt∨n∈l→¬ zpD p n j)→¬ zpD p n j:=fun j hj=>hj n (hnP.imp id .inl)
    obtain ⟨pre,suf,e,k1,k2,hx⟩:=zmV hp hnn ht J (n:=n) (gn:=(st n).gen) (k:=k) (v:=v) hP1.toH kw kw hJ hc hL1 ho1 hnR hnl1 hnrt hnl fun q hq=>(hol q hq).1
    have hcut:=zjh k1 k2;rw [←e,he1] at hcut
    have hlen:(loE k (ents p ws l)).length=pre.length:=by rw [hcut.1]; unfold ents; simp
    have hhas:hasE k (ents p ws l)=true↔∃ q,suf.head?=some q∧rd w1 (fp p q 0)=k:=by
      rw [zms]
      unfold hasE;rw [hcut.2]
    rcases hx with ⟨hex,m',w3,g',hm',hg',hr',hP3,hl3,hfr⟩ | ⟨hno,m',w3,hm',hr',hP3,hl3,hw3⟩
    · have hkl:∀ q f,q∈l→0≤f→f<3→rd w3 (fp p q f)=rd w1 (fp p q f):=fun q f hq f0 f1=>by
        have hqr:=h.link.range q hq;have hne:q≠n:=fun e=>hnl (e ▸ hq)
        exact hfr _ yak (by unfold zpD; rw [hfp]; omega)
      have he3:ents p w3 l=ents p ws l:=(zf3 fun q f hq f0 f1=>hkl q f hq f0 kw).trans he1
      have ha3:Alone p w3:=fun j j0 j1=>by rw [hfr _ kw yaF]; exact ha1 j j0 j1
      refine ⟨m+m',w3,_,g',l,⟨7,0⟩,kw,kw,hrun hr hr',⟨hP3,fun j j0 j1=>?_,hL1.keepW (hfr c kw yaF) (fun q hq=>hkl q 2 hq kw kw),h.nd,fun q hq=>⟨fun hf=>?_,(hol q hq).2⟩,by rw [he3]; exact h.inc⟩,⟨hl3.trans hK1.1,fun j j0 h1 h2 h3=>(hfr j j0 (hofn j h1)).trans (hK1.2 j j0 h1 h2 h3)⟩,ha3,.inr ⟨_,n,l1,hQe,rfl,rfl,rfl,.inl ⟨hhas.2 hex,rfl,rfl,rfl,he3⟩⟩⟩
      · have:=ha3 (t * 3+j) kw kw
        rw [←Int.add_assoc] at this
        exact this
      · rcases zmv hf with rfl | hf
        · exact hnl hq
        · exact (hol q hq).1 hf
    · have hlp:∀ q f,q∈n::l→0≤f→f<2→fp p q f≠zpP p c pre:=fun q f hq f0 f1=>by
        have hqr:0≤q:=by
          rcases List.mem_cons.1 hq with rfl | hq
          · exact hnR.1
          · exact (h.link.range q hq).1
        rcases zeN p c pre with ⟨e',_⟩ | ⟨x,hx,e'⟩
        · rw [e',hfp]; omega
        · have:=(h.link.range x yaJ).1
          rw [e',hfp,hfp]; omega
      have hkl:∀ q f,q∈l→0≤f→f<2→rd w3 (fp p q f)=rd w1 (fp p q f):=fun q f hq f0 f1=>by
        have hqr:=h.link.range q hq;have hne:q≠n:=fun e=>hnl (e ▸ hq)
        rw [hw3 _ yak,if_neg (hlp q f (List.mem_cons_of_mem _ hq) f0 f1),if_neg yav,if_neg yav,if_neg yav]
      have hL3:zpA p w3 c (pre++n::suf):=by
        refine zpA.ins (e ▸ hL1) (e ▸ h.nd) (fun q hq e'=>?_) hnR (by rw [←e]; exact hnl) ?_ ?_ (fun q hq hne=>?_) (fun hne=>?_)
        · have:0≤q:=by
            rcases List.mem_cons.1 hq with rfl | hq
            · exact hnR.1
            · exact (h.link.range q (by rw [e]; exact hq)).1
          rw [hfp] at e'; omega
        · rw [hw3 _ (by
            rcases zeN p c pre with ⟨e',_⟩ | ⟨x,hx,e'⟩
            · rw [e']; omega
            · have:=(h.link.range x yaJ).1
              rw [e',hfp]; omega),if_pos rfl]
        · rw [hw3 _ yak,if_neg,if_pos rfl]
          rcases zeN p c pre with ⟨e',_⟩ | ⟨x,hx,e'⟩
          · rw [e',hfp]; omega
          · intro e2
            rw [e'] at e2
            have:=zkk e2;exact hnl (by rw [this,e]; exact List.mem_append_left _ hx)
        · have hqr:=h.link.range q (by rw [e]; exact hq)
          have hqn:q≠n:=fun e2=>hnl (by rw [←e2,e]; exact hq)
          rw [hw3 _ yak,if_neg hne,if_neg yav,if_neg yav,if_neg yav]
        · rw [hw3 _ kw,if_neg hne,if_neg yak,if_neg yak,if_neg yak]
      have hhasf:hasE k (ents p ws l)=false:=by
        cases hb:hasE k (ents p ws l) with
        | false=>rfl
        | true=>exact absurd (hhas.1 hb) hno
      have hin:∀ q,q∈pre∨q∈suf→q∈l:=fun q hq=>by rw [e]; exact List.mem_append.2 hq
      have he3:ents p w3 (pre++n::suf)=insE k v (ents p ws l):=by
        unfold insE;rw [hcut.1,hcut.2];have hA:ents p w3 pre=ents p w1 pre:=zf3 fun q f hq f0 f1=>hkl q f (hin q (.inl hq)) f0 f1
        have hB:ents p w3 suf=ents p w1 suf:=zf3 fun q f hq f0 f1=>hkl q f (hin q (.inr hq)) f0 f1
        have h0:rd w3 (fp p n 0)=k:=by
          rw [hw3 _ yak,if_neg (hlp n 0 (List.mem_cons_self ..) kw kw),if_neg yav,if_neg yav,if_pos rfl]
        have h1:rd w3 (fp p n 1)=v:=by
          rw [hw3 _ yak,if_neg (hlp n 1 (List.mem_cons_self ..) kw kw),if_neg yav,if_pos rfl]
        rw [←hA,←hB]
        unfold ents;rw [List.map_append,List.map_cons,h0,h1]
      have ha3:Alone p w3:=fun j j0 j1=>by
        rw [hw3 _ kw,if_neg,if_neg yak,if_neg yak,if_neg yak]
        · exact ha1 j j0 j1
        · rcases zeN p c pre with ⟨e',_⟩ | ⟨x,hx,e'⟩
          · rw [e']; omega
          · have:=(h.link.range x (hin x (.inl hx))).1
            rw [e',hfp]; omega
      refine ⟨m+m',w3,_,g1,pre++n::suf,⟨0,0⟩,kw,kw,hrun hr hr',⟨hP3,fun j j0 j1=>?_,hL3,?_,fun q hq=>?_,by rw [he3]; exact h.inc.ins hhasf⟩,⟨hl3.trans hK1.1,fun j j0 h1 h2 h3=>?_⟩,ha3,.inr ⟨_,n,l1,hQe,rfl,rfl,rfl,.inr ⟨hhasf,rfl,rfl,he3,pre,suf,e,rfl,hlen⟩⟩⟩
      · have:=ha3 (t * 3+j) kw kw
        rw [←Int.add_assoc] at this
        exact this
      · obtain ⟨d1,d2,d3⟩:=List.nodup_append.1 (e ▸ h.nd)
        refine List.nodup_append.2 ⟨d1,List.nodup_cons.2 ⟨fun hq=>hnl (hin n (.inr hq)),d2⟩,fun a ha b hb=>?_⟩
        rcases List.mem_cons.1 hb with rfl | hb
        · exact fun e2=>hnl (e2 ▸ hin a (.inl ha))
        · exact d3 a ha b hb
      · rcases List.mem_append.1 hq with hq | hq
        · exact hol q (hin q (.inl hq))
        · rcases List.mem_cons.1 hq with rfl | hq
          · exact ⟨hnl1,hnrt⟩
          · exact hol q (hin q (.inr hq))
      · have hjn:=hofn j h1
        rw [hw3 j kw,if_neg,if_neg,if_neg,if_neg]
        · exact hK1.2 j j0 h1 h2 h3
        · exact fun e2=>hjn (by unfold zpD; rw [e2,hfp]; omega)
        · exact fun e2=>hjn (by unfold zpD; rw [e2,hfp]; omega)
        · exact fun e2=>hjn (by unfold zpD; rw [e2,hfp]; omega)
        · rcases zeN p c pre with ⟨e',_⟩ | ⟨x,hx,e'⟩
          · rw [e']; exact h3
          · intro e2
            refine h1 x (.inr (.inr (hin x (.inl hx)))) ?_;unfold zpD; rw [e2,e',hfp]; omega
end
section
variable {p : Plan} (hp : PF p)
include hp
theorem zny (d i:Int):D.zbj p d i=if (0≤d∧d<p.domains)∧0≤i∧i<D.za9 p then 2+d * (1+D.za9 p)+i else -1:=by
 have hc:=zg2 hp;have d1:=hp.d1;have d2:=hp.d2;unfold D.zbj D.zbu;refine zg1 hp ?_ ?_
 ·simp only [all_cons,all_nil,and_true]
  rw [zaN (x:=p.domains - 1) kw kw,zaN (x:=D.za9 p - 1) kw kw]
  omega
 ·intro hq
  have h2:=zs2 hp hq.1.1 hq.1.2;rw [zaN (x:=1+D.za9 p) kw kw,zaN (x:=d * _) kw kw,zaN (x:=2+d * _) kw kw,zaN kw kw]
end
/-! ### Parts of a list of entries -/
theorem zoh {k v:Int} {E:List Entry} (h:Rise E) (hm:(⟨k,v⟩:Entry)∈E):getE k E=⟨0,v⟩:=by
 have hh:hasE k E=true:=h.ziz.2 ⟨v,hm⟩;unfold hasE at hh
 have hs:=Rise.split (k:=k) (E:=E);cases hx:hiE k E with
 | nil=>rw [hx] at hh; cases hh
 | cons e r=>
  rw [hx] at hh
  have he:e.key=k:=by simpa using hh
  unfold getE;rw [hx];simp only;rw [if_pos he];have h2:e∈E:=by rw [hs,hx]; exact List.mem_append_right _ (List.mem_cons_self ..)
  have:e=⟨k,v⟩:=by
   have hp:∀ {E:List Entry},Rise E→∀ a b,a∈E→b∈E→a.key=b.key→a=b:=by
    intro E hE
    induction E with
    | nil=>intro a b ha; cases ha
    | cons x l ih=>
     obtain ⟨h1,h2⟩:=List.pairwise_cons.1 hE;intro a b ha hb hk
     rcases List.mem_cons.1 ha with e | ha <;> rcases List.mem_cons.1 hb with e' | hb
     ·rw [e,e']
     ·have:=h1 _ hb; rw [←e] at this; omega
     ·have:=h1 _ ha; rw [←e'] at this; omega
     ·exact ih h2 a b ha hb hk
   exact hp h e ⟨k,v⟩ h2 hm he
  rw [this]
theorem zog {k:Int} {E:List Entry} (h:hasE k E=false):getE k E=⟨6,0⟩:=by
 unfold hasE at h
 unfold getE;cases hx:hiE k E with
 | nil=>rfl
 | cons e r=>rw [hx] at h; simp only; rw [if_neg yaH]
theorem zlw {k:Int} {E E':List Entry} (h:Rise E) (h':Rise E') (hm:∀ v,(⟨k,v⟩:Entry)∈E↔(⟨k,v⟩:Entry)∈E'):hasE k E=hasE k E'∧getE k E=getE k E':=by
 cases h1:hasE k E with
 | true=>
  obtain ⟨v,hv⟩:=h.ziz.1 h1;exact ⟨(h'.ziz.2 ⟨v,(hm v).1 hv⟩).symm,by rw [zoh h hv,zoh h' ((hm v).1 hv)]⟩
 | false=>
  have h2:hasE k E'=false:=by
   cases h2:hasE k E' with
   | false=>rfl
   | true=>
    obtain ⟨v,hv⟩:=h'.ziz.1 h2;rw [h.ziz.2 ⟨v,(hm v).2 hv⟩] at h1; cases h1
  exact ⟨h2.symm,by rw [zog h1,zog h2]⟩
/-! ### What a grant, and a drop, make of a pool -/
theorem Pool.zgC {P:Pool} {m k q:Int} (hd:P.rt.Nodup) (h:q∈(P.grant m k).1.fr∨q∈(P.grant m k).1.rt):q∈P.fr∨q∈P.rt:=by
 have ho:∀ {Q:Pool},(q∈(Q.out k).1.fr∨q∈(Q.out k).1.rt)→q∈Q.fr∨q∈Q.rt:=by
  intro Q h;unfold Pool.out at h
  split at h
  ·exact h
  ·rename_i n l hf
   rcases h with h | h
   ·exact .inl (by rw [hf]; exact List.mem_cons_of_mem _ h)
   ·exact .inr h
 unfold Pool.grant at h
 split at h
 ·rcases ho h with h | h
  ·exact (zfX hd h).symm
  ·have:(P.scan m).rt=[]:=zh0 _ _ _
   rw [this] at h; cases h
 ·exact ho h
theorem zo5 {p:Plan} {P:Pool} {n q:Int} (hd:P.rt.Nodup) (h:q∈(dropP p P n).fr∨q∈(dropP p P n).rt):q∈P.fr∨q∈P.rt∨q=n:=by
 unfold dropP Pool.stash at h
 have hs:((⟨P.fr,P.rt,fun q=>if q=n then ⟨(P.st n).gen,2,(P.st n).kind⟩ else P.st q⟩:Pool).scan p.gen).rt=[]:=zh0 _ _ _
 rcases h with h | h
 ·split at h
  ·exact .inl h
  ·rcases zfX (P:=⟨P.fr,P.rt,fun q=>if q=n then ⟨(P.st n).gen,2,(P.st n).kind⟩ else P.st q⟩) hd h with h | h
   ·exact .inr (.inl h)
   ·exact .inl h
 ·rcases List.mem_append.1 h with h | h
  ·split at h
   ·exact .inr (.inl h)
   ·rw [hs] at h; cases h
  ·exact .inr (.inr (List.mem_singleton.1 h))
/-! ### Nodes by their cells -/
def inB (p:Plan) (ws:List Int) (b q:Int):Bool:=rd ws (fp p q 0) % p.buckets==b
def bk (p:Plan) (ws:List Int) (b:Int) (N:List Int):List Int:=N.filter (inB p ws b)
def mc (p:Plan) (d b:Int):Int:=2+d * (1+D.za9 p)+b
theorem zqk {p:Plan} (hp:PF p) {d b:Int} (hd:0≤d∧d<p.domains) (hb:0≤b∧b<p.buckets):0<mc p d b∧mc p d b<D.za1 p:=by
 have hc:=zg2 hp;have hbc:p.buckets≤D.za9 p:=by unfold D.za9 maxI; split <;> omega
 have h2:=zs2 hp hd.1 hd.2;have h3:(d+1) * (1+D.za9 p)≤p.domains * (1+D.za9 p):=Int.mul_le_mul_of_nonneg_right kw kw
 rw [Int.add_mul,Int.one_mul] at h3
 rw [zfN hp]
 unfold mc;omega
theorem zfg {p:Plan} {ws:List Int} {b q:Int} {N:List Int}:q∈bk p ws b N↔q∈N∧rd ws (fp p q 0) % p.buckets=b:=by
 unfold bk inB;rw [List.mem_filter,beq_iff_eq]
theorem zgU {p:Plan} {ws:List Int} {b:Int} {A C:List Int}:bk p ws b (A++C)=bk p ws b A++bk p ws b C:=List.filter_append ..
theorem zkN {p:Plan} {ws:List Int} {b n:Int} {C:List Int}:bk p ws b (n::C)=if rd ws (fp p n 0) % p.buckets=b then n::bk p ws b C else bk p ws b C:=by
 unfold bk inB;rw [List.filter_cons];simp only [beq_iff_eq]
theorem zgF {p:Plan} {ws ws':List Int} {b:Int} {N:List Int} (h:∀ q,q∈N→rd ws' (fp p q 0)=rd ws (fp p q 0)):bk p ws' b N=bk p ws b N:=by
 unfold bk;refine List.filter_congr fun q hq=>?_;unfold inB
 rw [h q hq]
theorem zjj {p:Plan} {ws ws':List Int} {l:List Int} (e:ents p ws' l=ents p ws l):∀ q,q∈l→rd ws' (fp p q 0)=rd ws (fp p q 0)∧rd ws' (fp p q 1)=rd ws (fp p q 1):=fun q hq=>by
 have:=List.map_inj_left.1 e q hq;simpa using this
theorem zi6 {p:Plan} {ws ws':List Int} {l:List Int} (e:∀ q,q∈l→rd ws' (fp p q 0)=rd ws (fp p q 0)∧rd ws' (fp p q 1)=rd ws (fp p q 1)):ents p ws' l=ents p ws l:=by
 unfold ents;exact List.map_congr_left fun q hq=>by rw [(e q hq).1,(e q hq).2]
structure MapAt (p:Plan) (t:Int) (ws:List Int) (P:Pool) (g d:Int) (N:List Int):Prop where
 pool:PoolH p t ws P g
 own:∀ j,0≤j→j<3→rd ws (D.za1 p+t * 3+j)=0
 nd:N.Nodup
 out:∀ q,q∈N→q ∉ P.fr∧q ∉ P.rt
 inc:Rise (ents p ws N)
 link:∀ b,0≤b→b<p.buckets→zpA p ws (mc p d b) (bk p ws b N)
section
variable {p : Plan} (hp : PF p) (hnn : p.nodes ≤ 1000) {t : Int} (ht : 0 ≤ t ∧ t < p.threads) {ws : List Int} {P : Pool} {g d : Int} {N : List Int} (h : MapAt p t ws P g d N) (hd : 0 ≤ d ∧ d < p.domains)
include hp h
theorem MapAt.at_ {b:Int} (hb:0≤b∧b<p.buckets):LAt p t ws P g (mc p d b) (bk p ws b N):=
 ⟨h.pool,h.own,h.link b hb.1 hb.2,h.nd.filter _,fun q hq=>h.out q (zfg.1 hq).1,h.inc.sub (List.Sublist.map _ List.filter_sublist)⟩
theorem MapAt.bucket (k:Int):0≤k % p.buckets∧k % p.buckets<p.buckets:=by
 have:=hp.b1;exact ⟨Int.emod_nonneg _ kw,Int.emod_lt_of_pos _ kw⟩
theorem MapAt.range {q:Int} (hq:q∈N):0≤q∧q<p.nodes:=by
 have hb:=h.bucket hp (rd ws (fp p q 0));exact (h.at_ hp hb).link.range q (zfg.2 ⟨hq,rfl⟩)
theorem MapAt.ziU:N.length≤p.nodes.toNat:=by
 have:=zkZ (k:=allN p) h.nd fun q hq=>by
  have:=h.range hp hq;exact List.mem_map.2 ⟨q.toNat,List.mem_range'_1.2 kw,kw⟩
 have h2:(allN p).length=p.nodes.toNat:=by unfold allN; simp
 omega
theorem MapAt.part (k:Int):hasE k (ents p ws (bk p ws (k % p.buckets) N))=hasE k (ents p ws N)∧getE k (ents p ws (bk p ws (k % p.buckets) N))=getE k (ents p ws N):=by
 refine zlw (h.inc.sub (List.Sublist.map _ List.filter_sublist)) h.inc fun v=>?_;unfold ents
 simp only [List.mem_map,Entry.mk.injEq]
 constructor
 ·rintro ⟨q,hq,e⟩
  exact ⟨q,(zfg.1 hq).1,e⟩
 ·rintro ⟨q,hq,e⟩
  exact ⟨q,zfg.2 ⟨hq,by rw [e.1]⟩,e⟩
theorem MapAt.cut (k:Int):∃ A C,N=A++C∧loE k (ents p ws N)=ents p ws A∧hiE k (ents p ws N)=ents p ws C∧∀ b,loE k (ents p ws (bk p ws b N))=ents p ws (bk p ws b A)∧hiE k (ents p ws (bk p ws b N))=ents p ws (bk p ws b C):=by
 have hs:(ents p ws N)=loE k (ents p ws N)++hiE k (ents p ws N):=Rise.split;obtain ⟨A,C,e,e1,e2⟩:=List.map_eq_append_iff.1 (show N.map _=_ from hs)
 have e1':ents p ws A=loE k (ents p ws N):=e1;have e2':ents p ws C=hiE k (ents p ws N):=e2;refine ⟨A,C,e,e1'.symm,e2'.symm,fun b=>?_⟩
 rw [e,zgU]
 refine zjh (fun q hq=>?_) (fun q hq=>?_)
 ·have h1:(⟨rd ws (fp p q 0),rd ws (fp p q 1)⟩:Entry)∈ents p ws A:=List.mem_map.2 ⟨q,(zfg.1 hq).1,rfl⟩
  rw [e1'] at h1
  exact zqZ h1
 ·have h1:(⟨rd ws (fp p q 0),rd ws (fp p q 1)⟩:Entry)∈ents p ws C:=List.mem_map.2 ⟨q,(zfg.1 (List.mem_of_mem_head? hq)).1,rfl⟩
  rw [e2'] at h1
  exact h.inc.zrm h1
include hnn ht hd
theorem MapAt.other {b b':Int} (hb:0≤b∧b<p.buckets) (hb':0≤b'∧b'<p.buckets) (hne:b'≠b) {ws':List Int} {P':Pool} {g':Int} {l1:List Int} (h1:LAt p t ws' P' g' (mc p d b) l1) (hK:KeptL p t P (mc p d b) (bk p ws b N) ws ws')
  (hsub:∀ q,q∈P'.fr∨q∈P'.rt→q∈P.fr∨q∈P.rt∨q∈bk p ws b N):LAt p t ws' P' g' (mc p d b') (bk p ws b' N)∧∀ q f,q∈bk p ws b' N→0≤f→f<3→rd ws' (fp p q f)=rd ws (fp p q f):=by
 obtain ⟨z1,z2,z3,z4⟩:=zpZ hp;obtain ⟨r1,r2,r3⟩:=zq2 hp ht;have hfp:∀ q f,fp p q f=D.za2 p+q * 5+2+f:=fun q f=>rfl
 have o:=h.at_ hp hb';have o1:=h.at_ hp hb;have c1:=zqk hp hd hb;have c2:=zqk hp hd hb';have hcne:mc p d b'≠mc p d b:=by unfold mc; omega
 have hdis:∀ q,q∈bk p ws b' N→q ∉ bk p ws b N:=fun q hq hq'=>hne ((zfg.1 hq).2.symm.trans (zfg.1 hq').2)
 have hk:∀ q f,q∈bk p ws b' N→0≤f→f<3→rd ws' (fp p q f)=rd ws (fp p q f):=fun q f hq f0 f1=>by
  have hqr:=o.link.range q hq;obtain ⟨u1,u2⟩:=o.out q hq;refine hK.2 _ yak (fun n hn=>?_) yak yak
  have hnr:=o1.range hp hnn ht c1 hn;have hnq:n≠q:=fun e=>by
   subst e
   rcases hn with hn | hn | hn
   ·exact u1 hn
   ·exact u2 hn
   ·exact hdis n hq hn
  unfold zpD; rw [hfp]; omega
 refine ⟨⟨h1.pool,h1.own,o.link.keepW (hK.2 _ kw (fun n hn=>by have:=o1.range hp hnn ht c1 hn; unfold zpD; omega) kw hcne) fun q hq=>hk q 2 hq kw kw,o.nd,fun q hq=>?_,?_⟩,hk⟩
 ·obtain ⟨u1,u2⟩:=o.out q hq
  refine ⟨fun hf=>?_,fun hf=>?_⟩
  ·rcases hsub q (.inl hf) with h | h | h
   ·exact u1 h
   ·exact u2 h
   ·exact hdis q hq h
  ·rcases hsub q (.inr hf) with h | h | h
   ·exact u1 h
   ·exact u2 h
   ·exact hdis q hq h
 ·rw [zf3 fun q f hq f0 f1=>hk q f hq f0 kw]
  exact o.inc
theorem MapAt.make {b:Int} (hb:0≤b∧b<p.buckets) {ws':List Int} {P':Pool} {g':Int} {l1 N':List Int} (h1:LAt p t ws' P' g' (mc p d b) l1) (hK:KeptL p t P (mc p d b) (bk p ws b N) ws ws')
  (hsub:∀ q,q∈P'.fr∨q∈P'.rt→q∈P.fr∨q∈P.rt∨q∈bk p ws b N) (hnd:N'.Nodup) (hinc:Rise (ents p ws' N')) (e0:bk p ws' b N'=l1) (e1:∀ b',0≤b'→b'<p.buckets→b'≠b→bk p ws' b' N'=bk p ws b' N) :
  MapAt p t ws' P' g' d N':=by
 have hL:∀ b',0≤b'→b'<p.buckets→LAt p t ws' P' g' (mc p d b') (bk p ws' b' N'):=fun b' h0 h2=>by
  by_cases e:b'=b
  ·subst e; rw [e0]; exact h1
  ·rw [e1 b' h0 h2 e]; exact (h.other hp hnn ht hd hb ⟨h0,h2⟩ e h1 hK hsub).1
 refine ⟨h1.pool,h1.own,hnd,fun q hq=>?_,hinc,fun b' h0 h2=>(hL b' h0 h2).link⟩
 have hb':=h.bucket hp (rd ws' (fp p q 0));exact (hL _ hb'.1 hb'.2).out q (zfg.2 ⟨hq,rfl⟩)
theorem MapAt.keep {b:Int} (hb:0≤b∧b<p.buckets) {ws':List Int} {P':Pool} {g':Int} {l1 M:List Int} (h1:LAt p t ws' P' g' (mc p d b) l1) (hK:KeptL p t P (mc p d b) (bk p ws b N) ws ws')
  (hsub:∀ q,q∈P'.fr∨q∈P'.rt→q∈P.fr∨q∈P.rt∨q∈bk p ws b N) (k0:∀ q,q∈bk p ws b M→rd ws' (fp p q 0)=rd ws (fp p q 0)∧rd ws' (fp p q 1)=rd ws (fp p q 1)) (hM:∀ q,q∈M→q∈N) :
  ∀ q,q∈M→rd ws' (fp p q 0)=rd ws (fp p q 0)∧rd ws' (fp p q 1)=rd ws (fp p q 1):=fun q hq=>by
 have hb':=h.bucket hp (rd ws (fp p q 0))
 by_cases e:rd ws (fp p q 0) % p.buckets=b
 ·exact k0 q (zfg.2 ⟨hq,e⟩)
 ·have:=(h.other hp hnn ht hd hb hb' e h1 hK hsub).2 q
  have hm:q∈bk p ws (rd ws (fp p q 0) % p.buckets) N:=zfg.2 ⟨hM q hq,rfl⟩;exact ⟨this 0 hm kw kw,this 1 hm kw kw⟩
theorem MapAt.get (J:Nat) (hJ:1100<J) (k:Int):∃ m,m≤9 * N.length+7∧Runs (D.zfZ (J+1) ⟨p,0,t⟩ (mc p d (k % p.buckets)) k) ws m (getE k (ents p ws N)) ws:=by
 have hb:=h.bucket hp k;obtain ⟨m,hm,hr⟩:=(h.at_ hp hb).get hp hnn ht (zqk hp hd hb) J hJ k;have hl:(bk p ws (k % p.buckets) N).length≤N.length:=List.length_filter_le ..;rw [(h.part hp k).2] at hr
 exact ⟨m,kw,hr⟩
end
theorem cl82:zpf ar 82:=kz
theorem cl87:zpf ar 87:=kz
theorem to5:tyO ar 5:=kz
section
variable {R : Type} {P : Program} {E : Enc R} {w w' w0 : World} {L A B N : List Ck} {Z : Nat → Prop} {i k : Nat}
theorem RepL.zero:∀ {n:Nat} {t:T R} {F:Nat→Prop} {v:Value},RepL P E n t F w v→Rep P E 0 t F w v
 | _,.cut,_,_,h=>by unfold RepL at h; exact h.elim
 | _,.done _,_,_,h=>by unfold RepL at h; unfold Rep; exact h
 | 0,.act ..,_,_,h=>by unfold RepL at h; unfold Rep; exact h
 | m+1,.act op at_ a b k,F,v,h=>by
  unfold RepL at h; unfold Rep
  obtain ⟨f,first,cap,hc,hv,_⟩:=h;exact ⟨f,first,cap,hc,hv⟩
theorem RepL.zm1 {n:Nat} {F:Nat→Prop} {v:Value} {t:T R} (h:RepL P E n t F w v) (hd:t.zpB=false):∃ (f:FuncId) (first cap:List Value),v.cells[5+E.n]?=some (kf f first cap)∧FnL P E u64 n F w (kf f first cap) t.next:=by
 cases t with
 | cut=>unfold RepL at h; exact h.elim
 | done r=>cases hd
 | act op at_ a b k=>
  obtain ⟨f,first,cap,_,rfl,hf⟩:=h.zcG;refine ⟨f,first,cap,?_,hf⟩;simp only [zph,Value.cells,List.getElem?_toArray];rw [show 5+E.n=(E.n+4)+1 from kw,List.getElem?_cons_succ,List.getElem?_append_right (by rw [E.zlen]; omega),E.zlen]
  simp
def zpT (P:Program) (E:Enc R) (x:Nat × T R) (v:Value) (F:List Nat):Ck:=
 ⟨F,[],fun w=>RepL P E x.1 x.2 (fun b=>b∈F) w v,fun _ _ h hs hr=>RepL.mono (fun _ h=>h) (fun b hb=>h b (.inl hb)) hs _ _ _ hr⟩
theorem Post.progl {x:Nat × T R} {v:Value} {F:List Nat} (h:Post Z L w0 w) (hi:L[i]?=some (zpT P E x v F)):RepL P E x.1 x.2 (fun b=>b∈F) w v:=h.sep.get hi
theorem Post.progz {x:Nat × T R} {v:Value} {F:List Nat} (h:Post Z L w0 w) (hi:L[i]?=some (zpT P E x v F)):Rep P E 0 x.2 (fun b=>b∈F) w v:=(h.progl hi).zero
theorem zlA {x:Nat × T R} {v:Value} {F:List Nat} (h:RepL P E x.1 x.2 (fun b=>b∈F) w v) (hl:∀ b,b∈F→b<w.heap.size):Sep [zpT P E x v F] w:=
 ⟨h,(fun b hb=>by rcases hb with hb | hb; (exact hl b hb); (cases hb)),(fun _ h=>by cases h),trivial⟩
theorem zlV {n:Nat} {t:T R} {v:Value} (hr:RepL P E n t (grow No w w') w' v):Fresh [zpT P E (n,t) v (rg w.heap.size w'.heap.size)] w.heap.size w'.heap.size w':=
 ⟨zlA (RepL.mono (fun b hb=>zfD.2 (hb.resolve_left fun h=>h)) (Same.refl _ _) (Nat.le_refl _) _ _ _ hr) fun b hb=>(zfD.1 hb).2,fun c hc b hb=>by
  rcases List.mem_singleton.1 hc with rfl
  rcases hb with hb | hb
  ·exact zfD.1 hb
  ·cases hb⟩
theorem Post.addProgL {n:Nat} {t:T R} {v:Value} (h:Post Z L w0 w) (hb:Below w.heap.size w w') (hr:RepL P E n t (grow No w w') w' v):Post Z (L++[zpT P E (n,t) v (rg w.heap.size w'.heap.size)]) w0 w':=
 h.addL (l:=[([zpT P E (n,t) v (rg w.heap.size w'.heap.size)],w.heap.size,w'.heap.size)]) hb ⟨zlV hr,Nat.le_refl _,zeM,trivial⟩
theorem Post.callL {n:Nat} {t:T R} {v v0:Value} {x:Nat × T R} {F:List Nat} (h:Post Z L w0 w) (hk:L[k]?=some (zpT P E x v0 F)) (hb:Chg (fun b=>b∈F) w w') (hr:RepL P E n t (grow (fun b=>b∈F) w w') w' v) :
  Post Z (L.set k (zpT P E (n,t) v (F++rg w.heap.size w'.heap.size))) w0 w':=by
 have hz:=hb.size;have hl:∀ b,b∈F++rg w.heap.size w'.heap.size→b<w'.heap.size:=fun b hb=>by
  rcases List.mem_append.1 hb with hb | hb
  ·exact ai (h.sep.lt hk (.inl hb)) hz
  ·exact (zfD.1 hb).2
 have hr':RepL P E n t (fun b=>b∈F++rg w.heap.size w'.heap.size) w' v:=RepL.mono (fun b hb=>List.mem_append.2 (hb.imp id zfD.2)) (Same.refl _ _) (Nat.le_refl _) _ _ _ hr
 have:=h.set (N:=[]) hk (c':=zpT P E (n,t) v (F++rg w.heap.size w'.heap.size)) ⟨⟨zlA (x:=(n,t)) hr' hl,hb,fun c hc b hb=>?_⟩,fun c hc b hb=>by rcases List.mem_singleton.1 hc with rfl; cases hb⟩
 ·rwa [List.append_nil] at this
 ·rcases List.mem_singleton.1 hc with rfl
  rcases List.mem_append.1 hb with hb | hb
  ·exact .inl hb
  ·exact .inr (zfD.1 hb).1
theorem Post.frame {Y:Nat→Prop} (h:Post Z (A++B) w0 w) (h2:Done Y No N w w') (hY:∀ b,Y b→∃ e,e∈B∧b∈e.own):Post Z (A++N) w0 w':=by
 have hmem:∀ c,c∈A→∀ e,e∈B→e.clear c:=fun c hc e he=>by
  obtain ⟨i,hi⟩:=List.mem_iff_getElem?.1 hc;obtain ⟨j,hj⟩:=List.mem_iff_getElem?.1 he;have hil:=(List.getElem?_eq_some_iff.1 hi).1;exact (h.sep.clear (i:=i) (j:=A.length+j) (by rw [List.getElem?_append_left hil]; exact hi) (by rw [List.getElem?_append_right kw]; simpa using hj) kw).2
 have hold:∀ c,c∈A→∀ b,c.has b→b<w.heap.size∧¬ Y b:=fun c hc b hb=>⟨(h.sep.ok c (List.mem_append_left _ hc)).2 b hb,fun hy=>by
  obtain ⟨e,he,hbe⟩:=hY b hy;exact hmem c hc e he b hbe hb⟩
 have hnew:∀ d,d∈N→∀ b,d.has b→Y b∨w.heap.size≤b:=fun d hd b hb=>hb.elim (h2.mine d hd b) (fun hr=>.inr ((h2.rest d hd b hr).resolve_left fun h=>h))
 have hsz:=h.size;refine ⟨((h.sep.sub (List.sublist_append_left A B)).keep h2.chg.size fun c hc b hb=>h2.chg.block b (hold c hc b hb).1 (hold c hc b hb).2).append h2.sep fun c hc d hd=>⟨fun b h3 h4=>?_,fun b h3 h4=>?_⟩,h.chg.trans h2.chg (fun b hb hy=>?_),fun c hc b hb=>?_⟩
 ·rcases hnew d hd b h4 with h5 | h5
  ·exact (hold c hc b (.inl h3)).2 h5
  ·have:=(hold c hc b (.inl h3)).1; omega
 ·rcases hnew d hd b (.inl h3) with h5 | h5
  ·exact (hold c hc b h4).2 h5
  ·have:=(hold c hc b h4).1; omega
 ·obtain ⟨e,he,hbe⟩:=hY b hy
  rcases h.mine e (List.mem_append_right _ he) b hbe with h5 | h5
  ·exact h5
  ·omega
 ·rcases List.mem_append.1 hc with hc | hc
  ·exact h.mine c (List.mem_append_left _ hc) b hb
  ·rcases h2.mine c hc b hb with h5 | h5
   ·obtain ⟨e,he,hbe⟩:=hY b h5
    exact h.mine e (List.mem_append_right _ he) b hbe
   ·exact .inr kw
end
/-! ### A step, a run, of a program that changes blocks of its own, in a region -/
end Go.Proofs.YtbbipmelhmgmfaaGreat

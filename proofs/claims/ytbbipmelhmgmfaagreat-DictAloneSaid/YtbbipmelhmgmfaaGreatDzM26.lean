/- Some of our texts, one behind the other. -/
import Derived.Test.YtbbipmelhmgmfaaGreatDzM22
import Derived.Test.YtbbipmelhmgmfaaGreatDzM24
import Derived.Test.YtbbipmelhmgmfaaGreatDzRefs15
import Derived.Test.YtbbipmelhmgmfaaGreatDzM15
import Derived.Test.YtbbipmelhmgmfaaGreatDzM17
import Derived.Test.YtbbipmelhmgmfaaGreatDzLListp
import Derived.Shelf.SlSortCmp.NoneTotal
import Derived.Test.YtbbipmelhmgmfaaGreatProg
import Derived.Lib.Walk
import Derived.Test.YtbbipmelhmgmfaaGreatDzMem
set_option linter.all false
set_option maxRecDepth 100000
set_option maxHeartbeats 20000000
/- Ours. -/
namespace Go.Proofs.YtbbipmelhmgmfaaGreat
open Go.RowKit
theorem EP {fu:Nat} {l:List Entry} (h:l.length<fu) (h2:l.length<=900000):D.jh fu l l=some true:=by
 unfold D.jh;rw [show ((l.length:Int) !=(l.length:Int))=false from by simp]
 simp only [cond_false]
 refine iV (fun o=>o=some true) (fun (i:Nat) (x:Bool × Int)=>x.2=(i:Int)) l.length fu rfl h ?_ ?_
 ·rintro i ⟨b,x⟩ hi rfl
  simp only
  rw [show decide ((i:Int)<(l.length:Int))=true from by simp; omega,hO hi,bW (show -1000000<=(i:Int)+1 by omega) O]
  simp only [cond_true,Option.bind_some]
  rw [show (l[i]==l[i])=true from by simp]
  exact ⟨_,rfl,by simp⟩
 ·rintro ⟨b,x⟩ rfl
  simp only
  rw [show decide ((l.length:Int)<(l.length:Int))=false from by simp]
  exact ⟨_,rfl,by simp⟩
theorem o5 {α:Type} {E A B:List α} {n:Nat} (h:E=A++B) (hn:A.length=n):cA E 0 (n:Int)=some A:=by
 subst h hn;unfold cA;rw [if_pos (by simp only [List.length_append]; omega)];simp
theorem qK {α:Type} {E A B:List α} {n:Nat} (h:E=A++B) (hn:A.length=n):cA E (n:Int) (E.length:Int)=some B:=by
 subst h hn;unfold cA;rw [if_pos (by simp only [List.length_append]; omega),Int.toNat_natCast,Int.toNat_natCast,List.drop_left,List.length_append];rw [List.take_of_length_le O]
theorem ve {α:Type} {E A B:List α} {b:α} {n:Nat} (h:E=A++b::B) (hn:A.length=n) (hl:n<=100000):cA E (IntKind.i64.wrap ((n:Int)+1)) (E.length:Int)=some B:=by
 rw [bW O O,show (n:Int)+1=((n+1:Nat):Int) from by simp]
 exact qK (A:=A++[b]) (by rw [h]; simp) (by simp [hn])
theorem lT {α:Type} {E A B:List α} {b:α} {n:Nat} (h:E=A++b::B) (hn:A.length=n):Jj E (n:Int)=some b:=by
 subst h hn;rw [hO yas];simp
section
variable {fu : Nat} {a0 a1 : List Int} {a2 : Int} {a3 : List Int} {a4 : List Bool} {a5 : Int} {E : List Entry} {L : List Int} {k : Int} (hf : E.length < fu) (hE : E.length <= 100000)
include hf hE
theorem oZ:D.gy fu a0 a1 a2 a3 a4 a5 E L k=some ((loE k E).length:Int):=by
 have hs:=Kh.split (k:=k) (E:=E);have hl:(loE k E).length+(hiE k E).length=E.length:=by conv=>rhs; rw [hs]; rw [List.length_append]
 unfold D.gy;refine iV (fun o=>o=some ((loE k E).length:Int)) (fun (i:Nat) (x:Int)=>x=(i:Int)) (loE k E).length fu rfl O ?_ ?_
 ·rintro i _ hi rfl
  have hg:Jj E (i:Int)=some ((loE k E)[i]):=by
   have h0:∀ {A B E:List Entry} (hs:E=A++B) (hi:i<A.length),Jj E (i:Int)=some (A[i]):=fun {A B E} hs hi=>by
    subst hs;rw [hO (by rw [List.length_append]; omega),List.getElem_append_left hi]
   exact h0 hs hi
  have hk:((loE k E)[i]).key<k:=pA (List.getElem_mem hi);rw [show decide ((i:Int)<(E.length:Int))=true from by simp; omega,hg]
  simp only [cond_true,Option.bind_some]
  rw [decide_eq_true hk,bW (show -1000000<=(i:Int)+1 by omega) O]
  exact ⟨_,rfl,by simp⟩
 ·rintro _ rfl
  cases hh:hiE k E with
  | nil=>
   rw [hh] at hl
   rw [show decide (((loE k E).length:Int)<(E.length:Int))=false from by simp at hl ⊢; omega]
   exact ⟨_,rfl,rfl⟩
  | cons e r=>
   have hk:=rD hh;rw [hh] at hl
   have hg:Jj E ((loE k E).length:Int)=some e:=lT (hs.trans (by rw [hh])) rfl
   simp only [List.length_cons] at hl
   rw [show decide (((loE k E).length:Int)<(E.length:Int))=true from by simp; omega,hg]
   simp only [cond_true,Option.bind_some]
   rw [show decide (e.key<k)=false from by rw [decide_eq_false_iff_not]; omega]
   exact ⟨_,rfl,rfl⟩
theorem oR:D.iB fu a0 a1 a2 a3 a4 a5 E L k=some (J7 k E):=by
 have hs:=Kh.split (k:=k) (E:=E);have hl:(loE k E).length+(hiE k E).length=E.length:=by conv=>rhs; rw [hs]; rw [List.length_append]
 unfold D.iB;rw [oZ hf hE];simp only [Option.bind_some];unfold J7;cases hh:hiE k E with
 | nil=>
  rw [hh] at hl
  rw [show decide (((loE k E).length:Int)<(E.length:Int))=false from by simp at hl ⊢; omega]
  rfl
 | cons e r=>
  rw [hh] at hl
  simp only [List.length_cons] at hl
  have hg:Jj E ((loE k E).length:Int)=some e:=lT (hs.trans (by rw [hh])) rfl
  rw [show decide (((loE k E).length:Int)<(E.length:Int))=true from by simp; omega,hg]
  rfl
theorem DS:D.kT fu a0 a1 a2 a3 a4 a5 E L k=some (KC k E):=by
 have hs:=Kh.split (k:=k) (E:=E);unfold D.kT;rw [oR hf hE];simp only [Option.bind_some];cases hh:hiE k E with
 | nil=>
  have h1:J7 k E=false:=by unfold J7; rw [hh]
  have h2:KC k E=⟨6,0⟩:=by unfold KC; rw [hh]
  rw [h1,h2]
  rfl
 | cons e r=>
  have hg:Jj E ((loE k E).length:Int)=some e:=lT (hs.trans (by rw [hh])) rfl
  by_cases he:e.key=k
  ·have h1:J7 k E=true:=by unfold J7; rw [hh]; simp [he]
   have h2:KC k E=⟨0,e.value⟩:=by unfold KC; rw [hh]; simp [he]
   rw [h1,h2]
   simp only [Bool.not_true,cond_false]
   rw [oZ hf hE]
   simp only [Option.bind_some]
   rw [hg]
   rfl
  ·have h1:J7 k E=false:=by unfold J7; rw [hh]; simp [he]
   have h2:KC k E=⟨6,0⟩:=by unfold KC; rw [hh]; simp [he]
   rw [h1,h2]
   rfl
end
theorem Ex {fu:Nat} {N m room k:Int} {P:Pool} {g:List Int} {o:List Bool} {E:List Entry} {pre Jk:List Int} {n:Int} (hf:E.length<fu) (hE:E.length<=1000) (hfu:2000<=fu) (h:PR N P g o) (hr:∀ n,n∈P.rt->0<=n/\n<N) (hN:N<=1000) (Jb:P.fr.length<=500) (hl:P.rt.length<=500)
  (hk:J7 k E=true) (hp:(loE k E).length=pre.length) (hL:(pre++n::Jk).length<=1000) :
  ∃ g' o',D.iA fu P.fr P.rt room g o m E (pre++n::Jk) k=some ((P.stash room m n).fr,(P.stash room m n).rt,room,g',o',m,delE k E,pre++Jk,KC k E)/\PR N (P.stash room m n) g' o':=by
 obtain ⟨g',o',hR,hPR⟩:=CK (fu:=fu) (m:=m) (room:=room) (n:=n) h hr hN Jb hl hfu;refine ⟨g',o',?_,hPR⟩;obtain ⟨e,r,hh,he⟩:∃ e r,hiE k E=e::r/\e.key=k:=by
  unfold J7 at hk
  cases hh:hiE k E with
  | nil=>rw [hh] at hk; cases hk
  | cons e r=>rw [hh] at hk; exact ⟨e,r,rfl,by simpa using hk⟩
 have hs:E=loE k E++e::r:=by rw [<-hh]; exact Kh.split
 have hll:=congrArg List.length hs;simp only [List.length_append,List.length_cons] at hll hL
 have e1:Jj E (pre.length:Int)=some e:=lT hs hp;have e2:cA E 0 (pre.length:Int)=some (loE k E):=o5 hs hp;have e3:cA E (IntKind.i64.wrap ((pre.length:Int)+1)) (E.length:Int)=some r:=ve hs hp O
 have eg:KC k E=⟨0,e.value⟩:=by unfold KC; rw [hh]; simp [he]
 have ed:delE k E=loE k E++r:=by unfold delE; rw [if_pos hk,hh]; rfl
 unfold D.iA;rw [oR hf O,hk];simp only [Option.bind_some,Bool.not_true,cond_false];rw [oZ hf O,hp];simp only [Option.bind_some];rw [e1,lT rfl rfl];simp only [Option.bind_some];rw [e2];simp only [Option.bind_some];rw [dw (a:=([]:List Entry)) yao,List.nil_append];simp only [Option.bind_some];rw [e3];simp only [Option.bind_some];rw [dw O,o5 rfl rfl];simp only [Option.bind_some];rw [dw (a:=([]:List Int)) yao,List.nil_append];simp only [Option.bind_some];rw [ve rfl rfl O];simp only [Option.bind_some];rw [dw O];simp only [Option.bind_some];rw [hR,eg,ed]
 rfl
theorem rI {fu:Nat} {N m room k v:Int} {P:Pool} {g:List Int} {o:List Bool} {E:List Entry} {pre Jk:List Int} (hf:E.length<fu) (hE:E.length<=500) (hfu:2000<=fu) (h:PR N P g o) (hr:∀ n,n∈P.rt->0<=n/\n<N) (Jb:∀ n,n∈P.fr->0<=n/\n<N) (hd:P.rt.Nodup) (hN:N<=1000) (hf2:P.fr.length<=500) (hl:P.rt.length<=500)
  (hp:(loE k E).length=pre.length) (hL:(pre++Jk).length<=500) (Q:Pool) (G:IY) (hG:P.grant m 2=(Q,G)) (hQ:Q.fr.length<=1000) (hGn:0<=G.node->G.node<N) :
  if G.node<0 then ∃ g' o',D.iC fu P.fr P.rt room g o m E (pre++Jk) k v=some (Q.fr,Q.rt,room,g',o',m,E,pre++Jk,⟨4,0⟩)/\PR N Q g' o'
  else if J7 k E=true then ∃ g' o',D.iC fu P.fr P.rt room g o m E (pre++Jk) k v=some ((Q.back m G.node).fr,(Q.back m G.node).rt,room,g',o',m,E,pre++Jk,⟨7,0⟩)/\PR N (Q.back m G.node) g' o'
  else ∃ g' o',D.iC fu P.fr P.rt room g o m E (pre++Jk) k v=some (Q.fr,Q.rt,room,g',o',m,insE k v E,pre++G.node::Jk,⟨0,0⟩)/\PR N Q g' o':=by
 obtain ⟨g',o',hR,hPR⟩:=CX (fu:=fu) (m:=m) (room:=room) (k:=2) h hr Jb hd hN hf2 hl hfu;rw [hG] at hR hPR
 unfold D.iC;rw [hR];simp only [Option.bind_some]
 by_cases hn:G.node<0
 ·rw [if_pos hn,decide_eq_true hn]
  exact ⟨g',o',rfl,hPR⟩
 rw [if_neg hn,decide_eq_false hn]
 simp only [cond_false]
 rw [oR hf O]
 simp only [Option.bind_some]
 cases hk:J7 k E with
 | true=>
  rw [if_pos rfl]
  simp only [cond_true]
  obtain ⟨g2,o2,hB,hPB⟩:=vV (fu:=fu) (m:=m) (n:=G.node) (room:=room) (rt:=Q.rt) hPR ⟨O,hGn O⟩ hN (show Q.fr.length<=100000 by omega)
  rw [hB]
  exact ⟨g2,o2,rfl,hPB⟩
 | false=>
  rw [if_neg yas]
  simp only [cond_false]
  rw [oZ hf O]
  simp only [Option.bind_some]
  have hs:=Kh.split (k:=k) (E:=E);have hll:=congrArg List.length hs;simp only [List.length_append] at hll hL
  have e2:cA E 0 (pre.length:Int)=some (loE k E):=o5 hs hp;have e3:cA E (pre.length:Int) (E.length:Int)=some (hiE k E):=qK hs hp;refine ⟨g',o',?_,hPR⟩;rw [show insE k v E=loE k E++⟨k,v⟩::hiE k E from rfl,hp,e2]
  simp only [Option.bind_some]
  rw [dw (a:=([]:List Entry)) yao,List.nil_append]
  simp only [Option.bind_some]
  rw [dw yao]
  simp only [Option.bind_some]
  rw [e3]
  simp only [Option.bind_some]
  rw [dw yao,o5 rfl rfl]
  simp only [Option.bind_some]
  rw [dw (a:=([]:List Int)) yao,List.nil_append]
  simp only [Option.bind_some]
  rw [dw yao]
  simp only [Option.bind_some]
  rw [qK rfl rfl]
  simp only [Option.bind_some]
  rw [dw yao]
  simp
section
variable {p : Plan} (hp : PF p)
include hp
theorem wS (d i:Int):D.eO p d i=if (0<=d/\d<p.domains)/\0<=i/\i<D.bE p then 2+d * (1+D.bE p)+i else -1:=by
 have hc:=jO hp;have d1:=hp.d1;have d2:=hp.d2;unfold D.eO D.fM;refine iY hp ?_ ?_
 ·simp only [all_cons,all_nil,and_true]
  rw [bq (x:=p.domains - 1) O O,bq (x:=D.bE p - 1) O O]
  omega
 ·intro hq
  have h2:=yh hp hq.1.1 hq.1.2;rw [bq (x:=1+D.bE p) O O,bq (x:=d * _) O O,bq (x:=2+d * _) O O,bq O O]
end
/-! ### Parts of a list of entries -/
theorem xj {k v:Int} {E:List Entry} (h:Kh E) (hm:(⟨k,v⟩:Entry)∈E):KC k E=⟨0,v⟩:=by
 have hh:J7 k E=true:=h.jT.2 ⟨v,hm⟩;unfold J7 at hh
 have hs:=Kh.split (k:=k) (E:=E);cases hx:hiE k E with
 | nil=>rw [hx] at hh; cases hh
 | cons e r=>
  rw [hx] at hh
  have he:e.key=k:=by simpa using hh
  unfold KC;rw [hx];simp only;rw [if_pos he];have h2:e∈E:=by rw [hs,hx]; exact List.mem_append_right _ (List.mem_cons_self ..)
  have:e=⟨k,v⟩:=by
   have hp:∀ {E:List Entry},Kh E->∀ a b,a∈E->b∈E->a.key=b.key->a=b:=by
    intro E hE
    induction E with
    | nil=>intro a b ha; cases ha
    | cons x l ih=>
     obtain ⟨h1,h2⟩:=List.pairwise_cons.1 hE;intro a b ha hb hk
     rcases List.mem_cons.1 ha with e | ha <;> rcases List.mem_cons.1 hb with e' | hb
     ·rw [e,e']
     ·have:=h1 _ hb; rw [<-e] at this; omega
     ·have:=h1 _ ha; rw [<-e'] at this; omega
     ·exact ih h2 a b ha hb hk
   exact hp h e ⟨k,v⟩ h2 hm he
  rw [this]
theorem xh {k:Int} {E:List Entry} (h:J7 k E=false):KC k E=⟨6,0⟩:=by
 unfold J7 at h
 unfold KC;cases hx:hiE k E with
 | nil=>rfl
 | cons e r=>rw [hx] at h; simp only; rw [if_neg yaJ]
theorem De {k:Int} {E E':List Entry} (h:Kh E) (h':Kh E') (hm:∀ v,(⟨k,v⟩:Entry)∈E↔(⟨k,v⟩:Entry)∈E'):J7 k E=J7 k E'/\KC k E=KC k E':=by
 cases h1:J7 k E with
 | true=>
  obtain ⟨v,hv⟩:=h.jT.1 h1;exact ⟨(h'.jT.2 ⟨v,(hm v).1 hv⟩).symm,by rw [xj h hv,xj h' ((hm v).1 hv)]⟩
 | false=>
  have h2:J7 k E'=false:=by
   cases h2:J7 k E' with
   | false=>rfl
   | true=>
    obtain ⟨v,hv⟩:=h'.jT.1 h2;rw [h.jT.2 ⟨v,(hm v).2 hv⟩] at h1; cases h1
  exact ⟨h2.symm,by rw [xh h1,xh h2]⟩
/-! ### What a grant, and a drop, make of a pool -/
theorem Pool.oh {P:Pool} {m k q:Int} (hd:P.rt.Nodup) (h:q∈(P.grant m k).1.fr\/q∈(P.grant m k).1.rt):q∈P.fr\/q∈P.rt:=by
 have ho:∀ {Q:Pool},(q∈(Q.out k).1.fr\/q∈(Q.out k).1.rt)->q∈Q.fr\/q∈Q.rt:=by
  intro Q h;unfold Pool.out at h
  split at h
  ·exact h
  ·rename_i n l hf
   rcases h with h | h
   ·exact .inl (by rw [hf]; exact List.mem_cons_of_mem _ h)
   ·exact .inr h
 unfold Pool.grant at h
 split at h
 ·rcases ho h with h | h
  ·exact (gk hd h).symm
  ·have:(P.scan m).rt=[]:=fG _ _ _
   rw [this] at h; cases h
 ·exact ho h
theorem DD {p:Plan} {P:Pool} {n q:Int} (hd:P.rt.Nodup) (h:q∈(dropP p P n).fr\/q∈(dropP p P n).rt):q∈P.fr\/q∈P.rt\/q=n:=by
 unfold dropP Pool.stash at h
 have hs:((⟨P.fr,P.rt,fun q=>if q=n then ⟨(P.st n).IP,2,(P.st n).kind⟩ else P.st q⟩:Pool).scan p.IP).rt=[]:=fG _ _ _
 rcases h with h | h
 ·split at h
  ·exact .inl h
  ·rcases gk (P:=⟨P.fr,P.rt,fun q=>if q=n then ⟨(P.st n).IP,2,(P.st n).kind⟩ else P.st q⟩) hd h with h | h
   ·exact .inr (.inl h)
   ·exact .inl h
 ·rcases List.mem_append.1 h with h | h
  ·split at h
   ·exact .inr (.inl h)
   ·rw [hs] at h; cases h
  ·exact .inr (.inr (List.mem_singleton.1 h))
/-! ### Nodes by their cells -/
def inB (p:Plan) (ws:List Int) (b q:Int):Bool:=rd ws (fp p q 0) % p.buckets==b
def bk (p:Plan) (ws:List Int) (b:Int) (N:List Int):List Int:=N.filter (inB p ws b)
def mc (p:Plan) (d b:Int):Int:=2+d * (1+D.bE p)+b
theorem je {p:Plan} (hp:PF p) {d b:Int} (hd:0<=d/\d<p.domains) (hb:0<=b/\b<p.buckets):0<mc p d b/\mc p d b<D.aL p:=by
 have hc:=jO hp;have hbc:p.buckets<=D.bE p:=by unfold D.bE maxI; split <;> omega
 have h2:=yh hp hd.1 hd.2;have h3:(d+1) * (1+D.bE p)<=p.domains * (1+D.bE p):=Int.mul_le_mul_of_nonneg_right O O
 rw [Int.add_mul,Int.one_mul] at h3
 rw [lL hp]
 unfold mc;omega
theorem eZ {p:Plan} {ws:List Int} {b q:Int} {N:List Int}:q∈bk p ws b N↔q∈N/\rd ws (fp p q 0) % p.buckets=b:=by
 unfold bk inB;rw [List.mem_filter,beq_iff_eq]
theorem fb {p:Plan} {ws:List Int} {b:Int} {A C:List Int}:bk p ws b (A++C)=bk p ws b A++bk p ws b C:=List.filter_append ..
theorem oW {p:Plan} {ws:List Int} {b n:Int} {C:List Int}:bk p ws b (n::C)=if rd ws (fp p n 0) % p.buckets=b then n::bk p ws b C else bk p ws b C:=by
 unfold bk inB;rw [List.filter_cons];simp only [beq_iff_eq]
theorem j5 {p:Plan} {ws I7:List Int} {b:Int} {N:List Int} (h:∀ q,q∈N->rd I7 (fp p q 0)=rd ws (fp p q 0)):bk p I7 b N=bk p ws b N:=by
 unfold bk;refine List.filter_congr fun q hq=>?_;unfold inB
 rw [h q hq]
theorem oF {p:Plan} {ws I7:List Int} {l:List Int} (e:IB p I7 l=IB p ws l):∀ q,q∈l->rd I7 (fp p q 0)=rd ws (fp p q 0)/\rd I7 (fp p q 1)=rd ws (fp p q 1):=fun q hq=>by
 have:=List.map_inj_left.1 e q hq;simpa using this
theorem om {p:Plan} {ws I7:List Int} {l:List Int} (e:∀ q,q∈l->rd I7 (fp p q 0)=rd ws (fp p q 0)/\rd I7 (fp p q 1)=rd ws (fp p q 1)):IB p I7 l=IB p ws l:=by
 unfold IB;exact List.map_congr_left fun q hq=>by rw [(e q hq).1,(e q hq).2]
structure Ko (p:Plan) (t:Int) (ws:List Int) (P:Pool) (g d:Int) (N:List Int):Prop where
 pool:J5 p t ws P g
 own:∀ j,0<=j->j<3->rd ws (D.aL p+t * 3+j)=0
 nd:N.Nodup
 out:∀ q,q∈N->q ∉ P.fr/\q ∉ P.rt
 inc:Kh (IB p ws N)
 link:∀ b,0<=b->b<p.buckets->br p ws (mc p d b) (bk p ws b N)
section
variable {p : Plan} (hp : PF p) (hnn : p.nodes <= 1000) {t : Int} (ht : 0 <= t /\ t < p.threads) {ws : List Int} {P : Pool} {g d : Int} {N : List Int} (h : Ko p t ws P g d N) (hd : 0 <= d /\ d < p.domains)
include hp h
theorem Ko.at_ {b:Int} (hb:0<=b/\b<p.buckets):LAt p t ws P g (mc p d b) (bk p ws b N):=
 ⟨h.pool,h.own,h.link b hb.1 hb.2,h.nd.filter _,fun q hq=>h.out q (eZ.1 hq).1,h.inc.sub (List.Sublist.map _ List.filter_sublist)⟩
theorem Ko.bucket (k:Int):0<=k % p.buckets/\k % p.buckets<p.buckets:=by
 have:=hp.b1;exact ⟨Int.emod_nonneg _ O,Int.emod_lt_of_pos _ O⟩
theorem Ko.range {q:Int} (hq:q∈N):0<=q/\q<p.nodes:=by
 have hb:=h.bucket hp (rd ws (fp p q 0));exact (h.at_ hp hb).link.range q (eZ.2 ⟨hq,rfl⟩)
theorem Ko.j6:N.length<=p.nodes.toNat:=by
 have:=ri (k:=allN p) h.nd fun q hq=>by
  have:=h.range hp hq;exact List.mem_map.2 ⟨q.toNat,List.mem_range'_1.2 O,O⟩
 have h2:(allN p).length=p.nodes.toNat:=by unfold allN; simp
 omega
theorem Ko.part (k:Int):J7 k (IB p ws (bk p ws (k % p.buckets) N))=J7 k (IB p ws N)/\KC k (IB p ws (bk p ws (k % p.buckets) N))=KC k (IB p ws N):=by
 refine De (h.inc.sub (List.Sublist.map _ List.filter_sublist)) h.inc fun v=>?_;unfold IB
 simp only [List.mem_map,Entry.mk.injEq]
 constructor
 ·rintro ⟨q,hq,e⟩
  exact ⟨q,(eZ.1 hq).1,e⟩
 ·rintro ⟨q,hq,e⟩
  exact ⟨q,eZ.2 ⟨hq,by rw [e.1]⟩,e⟩
theorem Ko.cut (k:Int):∃ A C,N=A++C/\loE k (IB p ws N)=IB p ws A/\hiE k (IB p ws N)=IB p ws C/\∀ b,loE k (IB p ws (bk p ws b N))=IB p ws (bk p ws b A)/\hiE k (IB p ws (bk p ws b N))=IB p ws (bk p ws b C):=by
 have hs:(IB p ws N)=loE k (IB p ws N)++hiE k (IB p ws N):=Kh.split;obtain ⟨A,C,e,e1,e2⟩:=List.map_eq_append_iff.1 (show N.map _=_ from hs)
 have e1':IB p ws A=loE k (IB p ws N):=e1;have e2':IB p ws C=hiE k (IB p ws N):=e2;refine ⟨A,C,e,e1'.symm,e2'.symm,fun b=>?_⟩
 rw [e,fb]
 refine oz (fun q hq=>?_) (fun q hq=>?_)
 ·have h1:(⟨rd ws (fp p q 0),rd ws (fp p q 1)⟩:Entry)∈IB p ws A:=List.mem_map.2 ⟨q,(eZ.1 hq).1,rfl⟩
  rw [e1'] at h1
  exact pA h1
 ·have h1:(⟨rd ws (fp p q 0),rd ws (fp p q 1)⟩:Entry)∈IB p ws C:=List.mem_map.2 ⟨q,(eZ.1 (List.mem_of_mem_head? hq)).1,rfl⟩
  rw [e2'] at h1
  exact h.inc.xo h1
include hnn ht hd
theorem Ko.other {b b':Int} (hb:0<=b/\b<p.buckets) (hb':0<=b'/\b'<p.buckets) (hne:b'≠b) {I7:List Int} {P':Pool} {g':Int} {l1:List Int} (h1:LAt p t I7 P' g' (mc p d b) l1) (hK:KeptL p t P (mc p d b) (bk p ws b N) ws I7)
  (hsub:∀ q,q∈P'.fr\/q∈P'.rt->q∈P.fr\/q∈P.rt\/q∈bk p ws b N):LAt p t I7 P' g' (mc p d b') (bk p ws b' N)/\∀ q f,q∈bk p ws b' N->0<=f->f<3->rd I7 (fp p q f)=rd ws (fp p q f):=by
 obtain ⟨z1,z2,z3,z4⟩:=cE hp;obtain ⟨r1,r2,r3⟩:=dq hp ht;have hfp:∀ q f,fp p q f=D.aO p+q * 5+2+f:=fun q f=>rfl
 have o:=h.at_ hp hb';have o1:=h.at_ hp hb;have c1:=je hp hd hb;have c2:=je hp hd hb';have hcne:mc p d b'≠mc p d b:=by unfold mc; omega
 have hdis:∀ q,q∈bk p ws b' N->q ∉ bk p ws b N:=fun q hq hq'=>hne ((eZ.1 hq).2.symm.trans (eZ.1 hq').2)
 have hk:∀ q f,q∈bk p ws b' N->0<=f->f<3->rd I7 (fp p q f)=rd ws (fp p q f):=fun q f hq f0 f1=>by
  have hqr:=o.link.range q hq;obtain ⟨u1,u2⟩:=o.out q hq;refine hK.2 _ yal (fun n hn=>?_) yal yal
  have hnr:=o1.range hp hnn ht c1 hn;have hnq:n≠q:=fun e=>by
   subst e
   rcases hn with hn | hn | hn
   ·exact u1 hn
   ·exact u2 hn
   ·exact hdis n hq hn
  unfold bL; rw [hfp]; omega
 refine ⟨⟨h1.pool,h1.own,o.link.keepW (hK.2 _ O (fun n hn=>by have:=o1.range hp hnn ht c1 hn; unfold bL; omega) O hcne) fun q hq=>hk q 2 hq O O,o.nd,fun q hq=>?_,?_⟩,hk⟩
 ·obtain ⟨u1,u2⟩:=o.out q hq
  refine ⟨fun hf=>?_,fun hf=>?_⟩
  ·rcases hsub q (.inl hf) with h | h | h
   ·exact u1 h
   ·exact u2 h
   ·exact hdis q hq h
  ·rcases hsub q (.inr hf) with h | h | h
   ·exact u1 h
   ·exact u2 h
   ·exact hdis q hq h
 ·rw [jN fun q f hq f0 f1=>hk q f hq f0 O]
  exact o.inc
theorem Ko.make {b:Int} (hb:0<=b/\b<p.buckets) {I7:List Int} {P':Pool} {g':Int} {l1 N':List Int} (h1:LAt p t I7 P' g' (mc p d b) l1) (hK:KeptL p t P (mc p d b) (bk p ws b N) ws I7)
  (hsub:∀ q,q∈P'.fr\/q∈P'.rt->q∈P.fr\/q∈P.rt\/q∈bk p ws b N) (hnd:N'.Nodup) (hinc:Kh (IB p I7 N')) (e0:bk p I7 b N'=l1) (e1:∀ b',0<=b'->b'<p.buckets->b'≠b->bk p I7 b' N'=bk p ws b' N) :
  Ko p t I7 P' g' d N':=by
 have hL:∀ b',0<=b'->b'<p.buckets->LAt p t I7 P' g' (mc p d b') (bk p I7 b' N'):=fun b' h0 h2=>by
  by_cases e:b'=b
  ·subst e; rw [e0]; exact h1
  ·rw [e1 b' h0 h2 e]; exact (h.other hp hnn ht hd hb ⟨h0,h2⟩ e h1 hK hsub).1
 refine ⟨h1.pool,h1.own,hnd,fun q hq=>?_,hinc,fun b' h0 h2=>(hL b' h0 h2).link⟩
 have hb':=h.bucket hp (rd I7 (fp p q 0));exact (hL _ hb'.1 hb'.2).out q (eZ.2 ⟨hq,rfl⟩)
theorem Ko.keep {b:Int} (hb:0<=b/\b<p.buckets) {I7:List Int} {P':Pool} {g':Int} {l1 M:List Int} (h1:LAt p t I7 P' g' (mc p d b) l1) (hK:KeptL p t P (mc p d b) (bk p ws b N) ws I7)
  (hsub:∀ q,q∈P'.fr\/q∈P'.rt->q∈P.fr\/q∈P.rt\/q∈bk p ws b N) (k0:∀ q,q∈bk p ws b M->rd I7 (fp p q 0)=rd ws (fp p q 0)/\rd I7 (fp p q 1)=rd ws (fp p q 1)) (hM:∀ q,q∈M->q∈N) :
  ∀ q,q∈M->rd I7 (fp p q 0)=rd ws (fp p q 0)/\rd I7 (fp p q 1)=rd ws (fp p q 1):=fun q hq=>by
 have hb':=h.bucket hp (rd ws (fp p q 0))
 by_cases e:rd ws (fp p q 0) % p.buckets=b
 ·exact k0 q (eZ.2 ⟨hq,e⟩)
 ·have:=(h.other hp hnn ht hd hb hb' e h1 hK hsub).2 q
  have hm:q∈bk p ws (rd ws (fp p q 0) % p.buckets) N:=eZ.2 ⟨hM q hq,rfl⟩;exact ⟨this 0 hm O O,this 1 hm O O⟩
theorem Ko.get (J:Nat) (hJ:1100<J) (k:Int):∃ m,m<=9 * N.length+7/\I6 (D.iZ (J+1) ⟨p,0,t⟩ (mc p d (k % p.buckets)) k) ws m (KC k (IB p ws N)) ws:=by
 have hb:=h.bucket hp k;obtain ⟨m,hm,hr⟩:=(h.at_ hp hb).get hp hnn ht (je hp hd hb) J hJ k;have hl:(bk p ws (k % p.buckets) N).length<=N.length:=List.length_filter_le ..;rw [(h.part hp k).2] at hr
 exact ⟨m,O,hr⟩
theorem Ko.del (J d':Nat) (hJ:1100<J) (hg:g<900000) (k:Int) (ha:Alone p ws) :
  ∃ (m:Nat) (I7:List Int) (P':Pool) (g':Int) (N':List Int),m<=9 * N.length+70 * P.rt.length+21/\g'<=g+P.rt.length/\I6 (D.eV (J+1) (d'+1) ⟨p,0,t⟩ (mc p d (k % p.buckets)) k) ws m (KC k (IB p ws N)) I7/\Ko p t I7 P' g' d N'/\Alone p I7/\IB p I7 N'=delE k (IB p ws N)/\
   ((J7 k (IB p ws N)=false/\I7=ws/\P'=P/\g'=g/\N'=N)\/(J7 k (IB p ws N)=true/\∃ pre n Jk,N=pre++n::Jk/\N'=pre++Jk/\P'=dropP p P n/\(loE k (IB p ws N)).length=pre.length)):=by
 have hb:=h.bucket hp k;have hA:=h.at_ hp hb;have c1:=je hp hd hb;obtain ⟨m,I7,P',g',l',hm,hg',hr,hA',hK,he,hcase⟩:=hA.del hp hnn ht c1 J d' hJ hg k (fun _ n hn=>ha.held (h.pool.ret.range n hn).1)
 have hal':=hA.alone hp hnn ht c1 hK ha;have hl:(bk p ws (k % p.buckets) N).length<=N.length:=List.length_filter_le ..;obtain ⟨q1,q2⟩:=h.part hp k;rw [q2] at hr
 rcases hcase with ⟨hh,rfl,rfl,rfl,rfl⟩ | ⟨hh,pre,n,Jk,e',rfl,rfl,hpl⟩
 ·rw [q1] at hh
  exact ⟨m,I7,P',g',N,O,hg',hr,h,hal',by unfold delE; rw [if_neg (by rw [hh]; simp)],.inl ⟨hh,rfl,rfl,rfl,rfl⟩⟩
 ·have hhN:J7 k (IB p ws N)=true:=by rw [<-q1]; exact hh
  obtain ⟨A,C,e,eA,eC,ebk⟩:=h.cut hp k;obtain ⟨n',C',rfl,hk'⟩:∃ n' C',C=n'::C'/\rd ws (fp p n' 0)=k:=by
   unfold J7 at hhN
   rw [eC] at hhN
   cases C with
   | nil=>cases hhN
   | cons n' C'=>exact ⟨n',C',rfl,by simpa [IB] using hhN⟩
  have hlen:pre.length=(bk p ws (k % p.buckets) A).length:=by
   rw [<-hpl,(ebk _).1]; unfold IB; simp
  have hbc:bk p ws (k % p.buckets) (n'::C')=n'::bk p ws (k % p.buckets) C':=by rw [oW,if_pos (by rw [hk'])]
  have hsplit:pre++n::Jk=bk p ws (k % p.buckets) A++n'::bk p ws (k % p.buckets) C':=by rw [<-e',e,fb,hbc]
  obtain ⟨rfl,e2⟩:=List.append_inj hsplit hlen;obtain ⟨rfl,rfl⟩:=List.cons.inj e2;have hAC:∀ q,q∈A++C'->q∈N:=fun q hq=>by
   rw [e]
   rcases List.mem_append.1 hq with hq | hq
   ·exact List.mem_append_left _ hq
   ·exact List.mem_append_right _ (List.mem_cons_of_mem _ hq)
  have hnN:n∈bk p ws (k % p.buckets) N:=by rw [e']; exact List.mem_append_right _ (List.mem_cons_self ..)
  have hsub:∀ q,q∈(dropP p P n).fr\/q∈(dropP p P n).rt->q∈P.fr\/q∈P.rt\/q∈bk p ws (k % p.buckets) N:=fun q hq=>by
   rcases DD h.pool.nod hq with h1 | h1 | rfl
   ·exact .inl h1
   ·exact .inr (.inl h1)
   ·exact .inr (.inr hnN)
  have hdE:delE k (IB p ws (bk p ws (k % p.buckets) N))=IB p ws (bk p ws (k % p.buckets) (A++C')):=by
   unfold delE;rw [if_pos hh,(ebk _).1,(ebk _).2,hbc,fb];unfold IB;rw [List.map_append]
   rfl
  rw [hdE,<-fb] at he
  have k0:=oF (ws:=ws) he;have hk:=h.keep hp hnn ht hd hb hA' hK hsub k0 hAC;have hbe:∀ b',bk p I7 b' (A++C')=bk p ws b' (A++C'):=fun b'=>j5 fun q hq=>(hk q hq).1
  have hE:IB p I7 (A++C')=delE k (IB p ws N):=by
   rw [om hk]
   unfold delE;rw [if_pos hhN,eA,eC];unfold IB;rw [List.map_append]
   rfl
  refine ⟨m,I7,_,g',A++C',O,hg',hr,h.make hp hnn ht hd hb hA' hK hsub ?_ (by rw [hE]; exact h.inc.del) (by rw [hbe,fb]) (fun b' h0 h1 hne=>?_),hal',hE,.inr ⟨hhN,A,n,C',e,rfl,rfl,by rw [eA]; unfold IB; simp⟩⟩
  ·have:=h.nd
   rw [e] at this
   exact this.sublist (List.Sublist.append_left (List.sublist_cons_self ..) _)
  ·rw [hbe,e,fb,fb,oW,if_neg (by rw [hk']; exact fun x=>hne x.symm)]
theorem Ko.add (hdm:0<p.domains) (hn40:p.nodes<=40) (ha:Alone p ws) (J:Nat) (hJ:1100<J) (hg:g<900000) (k v:Int) :
    ∃ (m:Nat) (I7:List Int) (P':Pool) (g':Int) (N':List Int) (res:IM),m<=9 * N.length+70 * P.rt.length+30/\g'<=g+P.rt.length+2/\I6 (D.jR (J+1) ⟨p,0,t⟩ (mc p d (k % p.buckets)) k v) ws m res I7/\Ko p t I7 P' g' d N'/\Alone p I7/\
      (((P.grant p.IP 2).2=⟨-1,0,4⟩/\res=⟨4,0⟩/\P'=(P.grant p.IP 2).1/\N'=N/\IB p I7 N'=IB p ws N)\/
       (∃ (Q:Pool) (n:Int) (fr:List Int),(Q=P\/Q=P.scan p.IP)/\Q.fr=n::fr/\P.grant p.IP 2=Q.out 2/\(P.grant p.IP 2).2.node=n/\
         ((J7 k (IB p ws N)=true/\res=⟨7,0⟩/\P'=(P.grant p.IP 2).1.back p.IP n/\N'=N/\IB p I7 N'=IB p ws N)\/
          (J7 k (IB p ws N)=false/\res=⟨0,0⟩/\P'=(P.grant p.IP 2).1/\IB p I7 N'=insE k v (IB p ws N)/\∃ pre Jk,N=pre++Jk/\N'=pre++n::Jk/\(loE k (IB p ws N)).length=pre.length)))):=by
  have hb:=h.bucket hp k;have hA:=h.at_ hp hb;have c1:=je hp hd hb;obtain ⟨m,I7,P',g',l',res,hm,hg',hr,hA',hK,hal',hcase⟩:=hA.add hp hnn ht c1 hdm hn40 ha J hJ hg k v;have hl:(bk p ws (k % p.buckets) N).length<=N.length:=List.length_filter_le ..;obtain ⟨q1,q2⟩:=h.part hp k;have same:∀ {P':Pool},LAt p t I7 P' g' (mc p d (k % p.buckets)) (bk p ws (k % p.buckets) N)->(∀ q,q∈P'.fr\/q∈P'.rt->q∈P.fr\/q∈P.rt\/q∈bk p ws (k % p.buckets) N)->IB p I7 (bk p ws (k % p.buckets) N)=IB p ws (bk p ws (k % p.buckets) N)->
      Ko p t I7 P' g' d N/\IB p I7 N=IB p ws N:=fun hA' hsub he=>by
    have hk:=h.keep hp hnn ht hd hb hA' hK hsub (oF he) fun q hq=>hq
    have hE:=om hk;exact ⟨h.make hp hnn ht hd hb hA' hK hsub h.nd (by rw [hE]; exact h.inc) (j5 fun q hq=>(hk q hq).1) (fun b' _ _ _=>j5 fun q hq=>(hk q hq).1),hE⟩
  rcases hcase with ⟨hgr,rfl,rfl,rfl,he⟩ | ⟨Q,n,fr,hQ,hQf,hgo,hgn,hx⟩
  · obtain ⟨hM,hE⟩:=same hA' (fun q hq=>(Pool.oh h.pool.nod hq).imp id .inl) he
    exact ⟨m,I7,_,g',N,_,O,hg',hr,hM,hal',.inl ⟨hgr,rfl,rfl,rfl,hE⟩⟩
  · have hnP:n∈P.fr\/n∈P.rt:=by
      have hnq:n∈Q.fr:=by rw [hQf]; exact List.mem_cons_self ..
      rcases hQ with e | e
      · rw [e] at hnq; exact .inl hnq
      · rw [e] at hnq; exact (gk h.pool.nod hnq).symm
    rcases hx with ⟨hh,rfl,rfl,rfl,he⟩ | ⟨hh,rfl,rfl,he,pre,Jk,e',rfl,hpl⟩
    · obtain ⟨hM,hE⟩:=same hA' (fun q hq=>by
        rcases hq with hq | hq
        · rcases wh hq with rfl | hq
          · exact hnP.imp id .inl
          · exact (Pool.oh h.pool.nod (.inl hq)).imp id .inl
        · exact (Pool.oh h.pool.nod (.inr hq)).imp id .inl) he
      exact ⟨m,I7,_,g',N,_,O,hg',hr,hM,hal',.inr ⟨Q,n,fr,hQ,hQf,hgo,hgn,.inl ⟨by rw [<-q1]; exact hh,rfl,rfl,rfl,hE⟩⟩⟩
    · have hhN:J7 k (IB p ws N)=false:=by rw [<-q1]; exact hh
      obtain ⟨A,C,e,eA,eC,ebk⟩:=h.cut hp k;have hlen:pre.length=(bk p ws (k % p.buckets) A).length:=by
        rw [<-hpl,(ebk _).1]; unfold IB; simp
      have hsplit:pre++Jk=bk p ws (k % p.buckets) A++bk p ws (k % p.buckets) C:=by rw [<-e',e,fb]
      obtain ⟨rfl,rfl⟩:=List.append_inj hsplit hlen;have hi:IB p I7 (bk p ws (k % p.buckets) A++n::bk p ws (k % p.buckets) C)=IB p ws (bk p ws (k % p.buckets) A)++⟨k,v⟩::IB p ws (bk p ws (k % p.buckets) C):=by
        rw [he]; unfold insE; rw [(ebk _).1,(ebk _).2]
      have hi':IB p I7 (bk p ws (k % p.buckets) A)++⟨rd I7 (fp p n 0),rd I7 (fp p n 1)⟩::IB p I7 (bk p ws (k % p.buckets) C)=IB p ws (bk p ws (k % p.buckets) A)++⟨k,v⟩::IB p ws (bk p ws (k % p.buckets) C):=by
        rw [<-hi]; unfold IB; rw [List.map_append]; rfl
      obtain ⟨i1,i2⟩:=List.append_inj hi' (by unfold IB; simp);obtain ⟨i3,i4⟩:=List.cons.inj i2;have hkn:rd I7 (fp p n 0)=k:=(Entry.mk.inj i3).1;have hvn:rd I7 (fp p n 1)=v:=(Entry.mk.inj i3).2;have hsub:∀ q,q∈(P.grant p.IP 2).1.fr\/q∈(P.grant p.IP 2).1.rt->q∈P.fr\/q∈P.rt\/q∈bk p ws (k % p.buckets) N:=fun q hq=>(Pool.oh h.pool.nod hq).imp id .inl
      have k0:∀ q,q∈bk p ws (k % p.buckets) N->rd I7 (fp p q 0)=rd ws (fp p q 0)/\rd I7 (fp p q 1)=rd ws (fp p q 1):=fun q hq=>by
        rw [e'] at hq
        rcases List.mem_append.1 hq with hq | hq
        · exact oF i1 q hq
        · exact oF i4 q hq
      have hk:=h.keep hp hnn ht hd hb hA' hK hsub k0 fun q hq=>hq
      have hkA:=fun q (hq:q∈A)=>hk q (by rw [e]; exact List.mem_append_left _ hq)
      have hkC:=fun q (hq:q∈C)=>hk q (by rw [e]; exact List.mem_append_right _ hq)
      have hnN:n ∉ N:=fun hq=>hnP.elim (h.out n hq).1 (h.out n hq).2
      have hE:IB p I7 (A++n::C)=insE k v (IB p ws N):=by
        unfold insE;rw [eA,eC,<-om hkA,<-om hkC];unfold IB;rw [List.map_append,List.map_cons,hkn,hvn]
      refine ⟨m,I7,_,g',A++n::C,_,O,hg',hr,h.make hp hnn ht hd hb hA' hK hsub ?_ (by rw [hE]; exact h.inc.ins hhN) ?_ (fun b' h0 h1 hne=>?_),hal',.inr ⟨Q,n,fr,hQ,hQf,hgo,hgn,.inr ⟨hhN,rfl,rfl,hE,A,C,e,rfl,by rw [eA]; unfold IB; simp⟩⟩⟩
      · exact (List.perm_middle.nodup_iff).2 (List.nodup_cons.2 ⟨by rw [<-e]; exact hnN,by rw [<-e]; exact h.nd⟩)
      · rw [fb,oW,hkn,if_pos rfl,j5 fun q hq=>(hkA q hq).1,j5 fun q hq=>(hkC q hq).1]
      · rw [fb,oW,hkn,if_neg fun x=>hne x.symm,j5 fun q hq=>(hkA q hq).1,j5 fun q hq=>(hkC q hq).1,<-fb,<-e]
end
theorem CI {p:Plan} (hp:PF p) (hnn:p.nodes<=1000) {M:Mem} (hl:Len p M.ws) {c:Int} (hc:0<=c/\c<D.bF p) {l:List Int} (hL:br p M.ws c l) (hle:(l.length:Int)<=p.nodes) {fu:Nat} (hfu:1001<fu) :
  D.lC fu p M 0 c=some (IB p M.ws l):=by
 have hN:=cQ hp;unfold Len at hl
 unfold D.lC;rw [oX O O,hL.word];simp only [Option.bind_some];refine iV (fun o=>o=some (IB p M.ws l)) (fun (i:Nat) (x:List Entry × Int × Int)=>∃ pre Jk,l=pre++Jk/\pre.length=i/\x=(IB p M.ws pre,lw Jk,(i:Int))) l.length fu ⟨[],l,rfl,rfl,rfl⟩ O ?_ ?_
 ·rintro i _ hi ⟨pre,Jk,e,hpl,rfl⟩
  obtain ⟨q,s,rfl⟩:∃ q s,Jk=q::s:=by
   cases Jk with
   | nil=>rw [e] at hi; simp at hi; omega
   | cons q s=>exact ⟨q,s,rfl⟩
  have hLq:=br.app (e ▸ hL);have hq:=hLq.2.1;obtain ⟨q1,q2,q3⟩:=kr hp hq;have ec:D.aX (lw (q::s))=q:=lnode O O
  have hfp:∀ f,fp p q f=sp p q+2+f:=fun f=>rfl
  have hfl:∀ f,0<=f->f<3->D.bo p q f=fp p q f:=fun f f0 f1=>pw hp hq ⟨f0,f1⟩
  simp only
  rw [show decide ((i:Int)<p.nodes)=true from by simp; omega,ec,show decide (q>=0)=true from by simpa using hq.1]
  simp only [cond_true,Option.bind_some]
  rw [hfl 2 O O,hfl 0 O O,hfl 1 O O,oX yal yal,hLq.2.2.word]
  simp only [Option.bind_some]
  rw [wV hLq.2.2 hnn]
  simp only [show ((0:Int)==0)=true from rfl,cond_true]
  rw [oX yal yal,oX yal yal]
  simp only [Option.bind_some]
  have hpn:(pre.length:Int)<=1000:=O
  have ha:JW (IB p M.ws pre) [(⟨rd M.ws (fp p q 0),rd M.ws (fp p q 1)⟩:Entry)]=some (IB p M.ws (pre++[q])):=by
   unfold JW;rw [if_pos (by simp only [jY,List.length_singleton,IB,List.length_map]; omega)];unfold IB;rw [List.map_append]
   rfl
  rw [ha]
  simp only [Option.bind_some]
  rw [bW (show -1000000<=(i:Int)+1 by omega) O]
  exact ⟨_,rfl,pre++[q],s,by rw [e]; simp,by simp [hpl],rfl⟩
 ·rintro _ ⟨pre,Jk,e,hpl,rfl⟩
  have hs:Jk=[]:=by
   have:=congrArg List.length e;rw [List.length_append] at this
   exact List.length_eq_zero_iff.1 O
  subst hs;rw [List.append_nil] at e
  subst e;have ec:D.aX (lw [])=-1:=rO;simp only;rw [ec];refine ⟨(IB p M.ws l,lw [],(l.length:Int)),?_,rfl⟩;cases decide ((l.length:Int)<p.nodes) <;> rfl
theorem LAt.start {p:Plan} (hp:PF p) {ws:List Int} (h:LaidAt p ws) {t:Int} (ht:0<=t/\t<p.threads) {c:Int} (hc:rd ws c=0):LAt p t ws ⟨allN p,[],fun _=>⟨0,0,0⟩⟩ 0 c []/\Alone p ws:=by
 have hP:=PoolAt.start hp h ht;refine ⟨⟨hP.toH,fun j j0 j1=>?_,hc,List.nodup_nil,fun q hq=>(by cases hq),List.Pairwise.nil⟩,hP.hz⟩
 have:=hP.hz (t * 3+j) O O
 rw [<-Int.add_assoc] at this
 exact this
def D.dB (a0:Plan) (a1:Int) (a2:Int):Int:=(bif (!(D.cY a0)) then (-1) else (D.eO a0 a1 (IntKind.i64.wrap (a2.tmod (IntKind.u64.wrap a0.buckets)))))
theorem nT (w0:World) 
    (a0:Plan) (a1:Int) (a2:Int) :
    Calls B0 44 #[z6 (ac a0),.int .i64 a1,.int .u64 a2] w0 (bB (.int .i64 (D.dB a0 a1 a2)) w0):=by
 refine kN Tryz.func44 rfl 19 rfl rfl fun fr r hB=>?_;refine I0 ?_
 refine kX 23 (z6 (ac a0)) r rfl rfl fun b1 w2 n3 r=>?_;obtain ⟨E1,Z2,H1,hB,zB⟩:=n3.all hB
 refine kA (I 0) r rfl rfl fun r=>wn (d9 (I0 (kG (ac a0) 6 r rfl H1 IJ rfl rfl fun r=>?_)));refine kE r (mO w2 a0) rfl cl91 rfl fun w4 hb r=>?_
 have Z4:=hb.size;have H1:=keep hb H1;obtain ⟨hB,zB⟩:=IQ hb hB;refine aa (.bool (!(D.cY a0))) r (fun R=>JQ r (u:=(.bool (D.cY a0))) rfl rfl) rfl fun fr r=>wn ?_;refine q5 (t:=(!(D.cY a0))) (r.ev rfl) (fun h5=>?_) (fun h5=>?_)
 ·
  refine I0 (kA (I (-1)) r rfl rfl fun r=>wn (q4 ?_));have hd:D.dB a0 a1 a2=(-1):=(ar h5).trans (rfl)
  refine aT r rfl rfl ?_;rw [hd];exact ⟨rfl,hB⟩
 refine q7 (d9 ?_);refine bI 9 [.val (z6 (ac a0)),.val (I a1),.val (U a2),.val (.pointer (some ⟨b1,4,none⟩)),.val (I a0.buckets),.val (U (V a0.buckets)),.val (U (a2.tmod (V a0.buckets))),.val (I (W (a2.tmod (V a0.buckets)))),.val (I (D.eO a0 a1 (W (a2.tmod (V a0.buckets)))))] mixed r kz (kV (kV (kV (kV (kV (kV (kV (kV (kV bH))))))))) ?_ ?_
 ·
  refine ec r (fun _ u _ b d s=>aU s (cs:=(ac a0)) (n:=6) rfl (keep b H1) IJ rfl bz) (ec r (fun _ u _ b d s=>aw s rfl bz) (ec r (fun _ u _ b d s=>aw s rfl bz) (ec r (fun _ u _ b d s=>az s (b:=b1) (o:=0) rfl j7 bz) (ec r (fun _ u _ b d s=>ax s d.1 (keep b H1) IL rfl bz) (ec r (fun _ u _ b d s=>cV s (n:=a0.buckets) d.1 ti3 KO bz) (ec r (fun _ u _ b d s=>bd s d.1 d.2.1 rfl (DN (by first | assumption | decide | (have hq:=lI.1 (by simpa using ‹(!D.cY _)=false›); have hq1:=hq.b1; have hq2:=hq.b2; unfold V; rw [cX O O]; omega))) bz) (ec r (fun _ u _ b d s=>cV s (n:=(a2.tmod (V a0.buckets))) d.1 KO ti3 bz) (ec r (fun I2 u w' hb' hd r'=>aN r' (args:=[(z6 (ac a0)),(I a1),(I (W (a2.tmod (V a0.buckets))))]) (lc hd.1 (lc hd.2.1 (lc hd.2.2.1 l0))) cl36 ((tS _ a0 a1 (W (a2.tmod (V a0.buckets)))).mono JL)) ?_))))))));exact bJ
 intro fr u w6 hb Iz hne r;have r:=r.congr (sc (Iz 8 ke) (sc (Iz 7 ke) (sc (Iz 6 ke) (sc (Iz 5 ke) (sc (Iz 4 ke) (sc (Iz 3 ke) (sc (Iz 2 ke) (sc (Iz 1 ke) (sc (Iz 0 ke) rfl)))))))));have Z6:=hb.size;have H1:=keep hb H1;obtain ⟨hB,zB⟩:=IQ hb hB;refine kA (I (D.eO a0 a1 (W (a2.tmod (V a0.buckets))))) r rfl rfl fun r=>wn (q4 ?_);have hd:D.dB a0 a1 a2=(D.eO a0 a1 (W (a2.tmod (V a0.buckets)))):=(ai h5).trans (rfl)
 refine aT r rfl rfl ?_;rw [hd];exact ⟨rfl,hB⟩
section
variable {n : Nat} {F : Nat -> Prop} {j : Nat} {w0 : World}
theorem cl44:af B0 44:=kz
def D.gZ (j:Nat) (a0:Je) (a1:Int) (a2:Int) (a3:Int):T IM:=(D.jR j a0 (D.dB a0.p a1 a2) a2 a3)
theorem uH (hF:kH F w0) (hj:n<j)
    (a0:Je) (a1:Int) (a2:Int) (a3:Int) :
    Calls B0 90 #[z6 (bi a0),.int .i64 a1,.int .u64 a2,.int .u64 a3] w0 (av B0 aA n (D.gZ j a0 a1 a2 a3) F w0):=by
 refine kN Tryz.func90 rfl 18 rfl rfl fun fr r hB=>?_;refine I0 ?_
 refine kX 47 (z6 (bi a0)) r rfl rfl fun b1 w2 n3 r=>?_;obtain ⟨E1,Z2,H1,hB,zB⟩:=n3.all hB
 refine ah (.cells (kq aA) 41 (0,0)) r (fun R=>ag JD) rfl fun fr b4 w5 n6 r=>?_;have H1:=keep n6.below H1
 obtain ⟨E4,Z5,H4,hB,zB⟩:=n6.all hB;refine wn (d9 ?_);refine bI 8 [.val (z6 (bi a0)),.val (zp b1),.val (z6 (ac a0.p)),.val (I a1),.val (U a2),.val (I (D.dB a0.p a1 a2)),.val (U a2),.val (U a3)] mixed r kz (kV (kV (kV (kV (kV (kV (kV (kV bH)))))))) ?_ ?_
 ·
  refine ec r (fun _ u _ b d s=>aU s (cs:=(bi a0)) (n:=8) rfl (keep b H1) La rfl bz) (ec r (fun _ u _ b d s=>az s (b:=b1) (o:=0) rfl dm bz) (ec r (fun _ u _ b d s=>aU s (cs:=(ac a0.p)) (n:=6) d.1 (keep b H1) IJ rfl bz) (ec r (fun _ u _ b d s=>aw s rfl bz) (ec r (fun _ u _ b d s=>aw s rfl bz) (ec r (fun I2 u w' hb' hd r'=>aN r' (args:=[(z6 (ac a0.p)),(I a1),(U a2)]) (lc hd.1 (lc hd.2.1 (lc hd.2.2.1 l0))) cl44 ((nT _ a0.p a1 a2).mono JL)) (ec r (fun _ u _ b d s=>aw s rfl bz) (ec r (fun _ u _ b d s=>aw s rfl bz) ?_)))))));exact bJ
 intro fr u w7 hb Iz hne r;have r:=r.congr (sc (Iz 7 ke) (sc (Iz 6 ke) (sc (Iz 5 ke) (sc (Iz 4 ke) (sc (Iz 3 ke) (sc (Iz 2 ke) (sc (Iz 1 ke) (sc (Iz 0 ke) rfl))))))));have Z7:=hb.size;have H1:=keep hb H1;have H4:=keep hb H4;obtain ⟨hB,zB⟩:=IQ hb hB;refine kJ r (Cn (j:=j) (F:=No) (n:=n) (fun _ h=>h.elim) O a0 (D.dB a0.p a1 a2) a2 a3) rfl cl82 rfl fun w8 v9 hb Jv r=>?_;have hb:=hb.below
 have Z8:=hb.size;have H1:=keep hb H1;have H4:=keep hb H4;obtain ⟨hB,zB⟩:=IQ hb hB;refine kP r Jv.shape rfl rfl H4 Ju rfl rfl fun JV JH r=>?_;have Z11:=JH.size
 have H1:=JH.keep H1 O
 have H4:=JH.at_;obtain ⟨hB,zB⟩:=JH.on hB O
 refine wn (q4 ?_);have hs:=Jv.shape.cells;refine ak r rfl rfl H4 (k:=8) hs.1 Jt ?_;rw [<-hs.2.2];exact av.fin (Jd.aS hB) Jv JH (fun _ h=>h.elim) (fun h=>h) O O O
def D.oJ (j:Nat) (a0:Je) (a1:Int) (a2:Int):T IM:=(D.eV j j a0 (D.dB a0.p a1 a2) a2)
theorem Co (hF:kH F w0) (hj:n<j)
    (a0:Je) (a1:Int) (a2:Int) :
    Calls B0 96 #[z6 (bi a0),.int .i64 a1,.int .u64 a2] w0 (av B0 aA n (D.oJ j a0 a1 a2) F w0):=by
 refine kN Tryz.func96 rfl 15 rfl rfl fun fr r hB=>?_;refine I0 ?_
 refine kX 47 (z6 (bi a0)) r rfl rfl fun b1 w2 n3 r=>?_;obtain ⟨E1,Z2,H1,hB,zB⟩:=n3.all hB
 refine ah (.cells (kq aA) 41 (0,0)) r (fun R=>ag JD) rfl fun fr b4 w5 n6 r=>?_;have H1:=keep n6.below H1
 obtain ⟨E4,Z5,H4,hB,zB⟩:=n6.all hB;refine wn (d9 ?_);refine bI 7 [.val (z6 (bi a0)),.val (zp b1),.val (z6 (ac a0.p)),.val (I a1),.val (U a2),.val (I (D.dB a0.p a1 a2)),.val (U a2)] mixed r kz (kV (kV (kV (kV (kV (kV (kV bH))))))) ?_ ?_
 ·
  refine ec r (fun _ u _ b d s=>aU s (cs:=(bi a0)) (n:=8) rfl (keep b H1) La rfl bz) (ec r (fun _ u _ b d s=>az s (b:=b1) (o:=0) rfl dm bz) (ec r (fun _ u _ b d s=>aU s (cs:=(ac a0.p)) (n:=6) d.1 (keep b H1) IJ rfl bz) (ec r (fun _ u _ b d s=>aw s rfl bz) (ec r (fun _ u _ b d s=>aw s rfl bz) (ec r (fun I2 u w' hb' hd r'=>aN r' (args:=[(z6 (ac a0.p)),(I a1),(U a2)]) (lc hd.1 (lc hd.2.1 (lc hd.2.2.1 l0))) cl44 ((nT _ a0.p a1 a2).mono JL)) (ec r (fun _ u _ b d s=>aw s rfl bz) ?_))))));exact bJ
 intro fr u w7 hb Iz hne r;have r:=r.congr (sc (Iz 6 ke) (sc (Iz 5 ke) (sc (Iz 4 ke) (sc (Iz 3 ke) (sc (Iz 2 ke) (sc (Iz 1 ke) (sc (Iz 0 ke) rfl)))))));have Z7:=hb.size;have H1:=keep hb H1;have H4:=keep hb H4;obtain ⟨hB,zB⟩:=IQ hb hB;refine kJ r ((Cl (j:=j) (k:=j) (n:=n) O O) (No) _ (fun _ h=>h.elim) a0 (D.dB a0.p a1 a2) a2) rfl cl86 rfl fun w8 v9 hb Jv r=>?_;have hb:=hb.below
 have Z8:=hb.size;have H1:=keep hb H1;have H4:=keep hb H4;obtain ⟨hB,zB⟩:=IQ hb hB;refine kP r Jv.shape rfl rfl H4 Ju rfl rfl fun JV JH r=>?_;have Z11:=JH.size
 have H1:=JH.keep H1 O
 have H4:=JH.at_;obtain ⟨hB,zB⟩:=JH.on hB O
 refine wn (q4 ?_);have hs:=Jv.shape.cells;refine ak r rfl rfl H4 (k:=8) hs.1 Jt ?_;rw [<-hs.2.2];exact av.fin (Jd.aS hB) Jv JH (fun _ h=>h.elim) (fun h=>h) O O O
def D.oL (j:Nat) (a0:Je) (a1:Int) (a2:Int):T IM:=(D.iZ j a0 (D.dB a0.p a1 a2) a2)
theorem Cr (hF:kH F w0) (hj:n<j)
    (a0:Je) (a1:Int) (a2:Int) :
    Calls B0 97 #[z6 (bi a0),.int .i64 a1,.int .u64 a2] w0 (av B0 aA n (D.oL j a0 a1 a2) F w0):=by
 refine kN Tryz.func97 rfl 15 rfl rfl fun fr r hB=>?_;refine I0 ?_
 refine kX 47 (z6 (bi a0)) r rfl rfl fun b1 w2 n3 r=>?_;obtain ⟨E1,Z2,H1,hB,zB⟩:=n3.all hB
 refine ah (.cells (kq aA) 41 (0,0)) r (fun R=>ag JD) rfl fun fr b4 w5 n6 r=>?_;have H1:=keep n6.below H1
 obtain ⟨E4,Z5,H4,hB,zB⟩:=n6.all hB;refine wn (d9 ?_);refine bI 7 [.val (z6 (bi a0)),.val (zp b1),.val (z6 (ac a0.p)),.val (I a1),.val (U a2),.val (I (D.dB a0.p a1 a2)),.val (U a2)] mixed r kz (kV (kV (kV (kV (kV (kV (kV bH))))))) ?_ ?_
 ·
  refine ec r (fun _ u _ b d s=>aU s (cs:=(bi a0)) (n:=8) rfl (keep b H1) La rfl bz) (ec r (fun _ u _ b d s=>az s (b:=b1) (o:=0) rfl dm bz) (ec r (fun _ u _ b d s=>aU s (cs:=(ac a0.p)) (n:=6) d.1 (keep b H1) IJ rfl bz) (ec r (fun _ u _ b d s=>aw s rfl bz) (ec r (fun _ u _ b d s=>aw s rfl bz) (ec r (fun I2 u w' hb' hd r'=>aN r' (args:=[(z6 (ac a0.p)),(I a1),(U a2)]) (lc hd.1 (lc hd.2.1 (lc hd.2.2.1 l0))) cl44 ((nT _ a0.p a1 a2).mono JL)) (ec r (fun _ u _ b d s=>aw s rfl bz) ?_))))));exact bJ
 intro fr u w7 hb Iz hne r;have r:=r.congr (sc (Iz 6 ke) (sc (Iz 5 ke) (sc (Iz 4 ke) (sc (Iz 3 ke) (sc (Iz 2 ke) (sc (Iz 1 ke) (sc (Iz 0 ke) rfl)))))));have Z7:=hb.size;have H1:=keep hb H1;have H4:=keep hb H4;obtain ⟨hB,zB⟩:=IQ hb hB;refine kJ r (Cs (j:=j) (F:=No) (n:=n) (fun _ h=>h.elim) O a0 (D.dB a0.p a1 a2) a2) rfl cl87 rfl fun w8 v9 hb Jv r=>?_;have hb:=hb.below
 have Z8:=hb.size;have H1:=keep hb H1;have H4:=keep hb H4;obtain ⟨hB,zB⟩:=IQ hb hB;refine kP r Jv.shape rfl rfl H4 Ju rfl rfl fun JV JH r=>?_;have Z11:=JH.size
 have H1:=JH.keep H1 O
 have H4:=JH.at_;obtain ⟨hB,zB⟩:=JH.on hB O
 refine wn (q4 ?_);have hs:=Jv.shape.cells;refine ak r rfl rfl H4 (k:=8) hs.1 Jt ?_;rw [<-hs.2.2];exact av.fin (Jd.aS hB) Jv JH (fun _ h=>h.elim) (fun h=>h) O O O
end
end Go.Proofs.YtbbipmelhmgmfaaGreat

/- Ours. -/
namespace Go.Proofs.YtbbipmelhmgmfaaGreat
open Go.Shelf
def CZ:Go.Shelf.Ren:=⟨fun | 6=>93 | 15=>168 | 14=>167 | 28=>263 | 29=>264 | 20=>255 | 21=>256 | 22=>257 | 23=>258 | 24=>259 | 25=>260 | 26=>261 | 27=>262 | 46=>323 | 47=>324 | 48=>325 | 49=>326 | 50=>327 | 57=>369 | n=>n,fun | 22=>82 | 24=>104 | 25=>170 | 3=>3 | 39=>217 | 0=>0 | 53=>282 | 55=>34 | 4=>4 | 46=>276 | 45=>275 | 50=>186 | 5=>5 | 9=>9 | 66=>307 | 70=>310 | 76=>327 | 77=>328 | n=>n,fun | n=>n⟩
theorem sortL:Go.Proofs.SlLaysF0.n6 Tryz.prog CZ:={
 mixed:=kz
 f6:=⟨Tryz.f93.name,ke,Tryz.func93.trans (congrArg some kz)⟩
 f14:=⟨Tryz.f167.name,ke,Tryz.func167.trans (congrArg some kz)⟩
 f15:=Tryz.func168.trans (congrArg some kz)
 f20:=⟨Tryz.f255.name,ke,Tryz.func255.trans (congrArg some kz)⟩
 f21:=⟨Tryz.f256.name,ke,Tryz.func256.trans (congrArg some kz)⟩
 f22:=⟨Tryz.f257.name,ke,Tryz.func257.trans (congrArg some kz)⟩
 f23:=⟨Tryz.f258.name,ke,Tryz.func258.trans (congrArg some kz)⟩
 f24:=⟨Tryz.f259.name,ke,Tryz.func259.trans (congrArg some kz)⟩
 f25:=⟨Tryz.f260.name,ke,Tryz.func260.trans (congrArg some kz)⟩
 f26:=⟨Tryz.f261.name,ke,Tryz.func261.trans (congrArg some kz)⟩
 f27:=⟨Tryz.f262.name,ke,Tryz.func262.trans (congrArg some kz)⟩
 f28:=Tryz.func263.trans (congrArg some kz)
 f29:=Tryz.func264.trans (congrArg some kz)
 f46:=⟨Tryz.f323.name,ke,Tryz.func323.trans (congrArg some kz)⟩
 f47:=Tryz.func324.trans (congrArg some kz)
 f48:=Tryz.func325.trans (congrArg some kz)
 f49:=⟨Tryz.f326.name,ke,Tryz.func326.trans (congrArg some kz)⟩
 f50:=⟨Tryz.f327.name,ke,Tryz.func327.trans (congrArg some kz)⟩
 f57:=⟨Tryz.f369.name,ke,Tryz.func369.trans (congrArg some kz)⟩
 t0:=Tryz.underlying0
 a0:=Tryz.isAgg0
 z0:=Tryz.sizeOf0
 v0:=Tryz.zeroValue0
 t3:=Tryz.underlying3
 a3:=Tryz.isAgg3
 z3:=Tryz.sizeOf3
 v3:=Tryz.zeroValue3
 t4:=Tryz.underlying4
 a4:=Tryz.isAgg4
 z4:=Tryz.sizeOf4
 v4:=Tryz.zeroValue4
 t5:=Tryz.underlying5
 a5:=Tryz.isAgg5
 z5:=Tryz.sizeOf5
 v5:=Tryz.zeroValue5
 t9:=Tryz.underlying9
 a9:=Tryz.isAgg9
 z9:=Tryz.sizeOf9
 v9:=Tryz.zeroValue9
 t22:=Tryz.underlying82
 a22:=Tryz.isAgg82
 z22:=Tryz.sizeOf82
 v22:=Tryz.zeroValue82
 t25:=Tryz.underlying170
 a25:=Tryz.isAgg170
 z25:=Tryz.sizeOf170
 v25:=Tryz.zeroValue170
 t39:=Tryz.underlying217
 a39:=Tryz.isAgg217
 z39:=Tryz.sizeOf217
 v39:=Tryz.zeroValue217
 t45:=Tryz.underlying275
 a45:=Tryz.isAgg275
 z45:=Tryz.sizeOf275
 v45:=Tryz.zeroValue275
 t46:=Tryz.underlying276
 a46:=Tryz.isAgg276
 z46:=Tryz.sizeOf276
 v46:=Tryz.zeroValue276
 t50:=Tryz.underlying186
 a50:=Tryz.isAgg186
 z50:=Tryz.sizeOf186
 v50:=Tryz.zeroValue186
 t53:=Tryz.underlying282
 a53:=Tryz.isAgg282
 z53:=Tryz.sizeOf282
 v53:=Tryz.zeroValue282
 t55:=Tryz.underlying34
 a55:=Tryz.isAgg34
 z55:=Tryz.sizeOf34
 v55:=Tryz.zeroValue34
 t66:=Tryz.underlying307
 a66:=Tryz.isAgg307
 z66:=Tryz.sizeOf307
 v66:=Tryz.zeroValue307
 t70:=Tryz.underlying310
 a70:=Tryz.isAgg310
 z70:=Tryz.sizeOf310
 v70:=Tryz.zeroValue310
 t76:=Tryz.underlying327
 a76:=Tryz.isAgg327
 z76:=Tryz.sizeOf327
 v76:=Tryz.zeroValue327
 t77:=Tryz.underlying328
 a77:=Tryz.isAgg328
 z77:=Tryz.sizeOf328
 v77:=Tryz.zeroValue328 }
end Go.Proofs.YtbbipmelhmgmfaaGreat

/- Ours. -/
namespace Go.Proofs.YtbbipmelhmgmfaaGreat
open Go.RowKit Go.Shelf Go.Lib
open Go.Sort (flatK get_flatK size_flatK HoldsK)
instance:Inhabited Entry:=⟨⟨0,0⟩⟩
def cfE (x y:Entry):Int:=if x.key<y.key then -1 else if x.key > y.key then 1 else 0
theorem nanE (x:Int) (w:World):Calls Tryz.prog 169 #[.int .u64 x] w fun e w'=>e=.returned (.bool false)/\w'=w:=by
 go_enter Tryz.func169,Tryz.ntmps169
 go_wp2
 go_ret
 exact ⟨by simp,rfl⟩
theorem cmpE (x y:Int) (w:World):Calls Tryz.prog 95 #[.int .u64 x,.int .u64 y] w fun e w'=>e=.returned (.int .i64 (if x<y then -1 else if x > y then 1 else 0))/\w'=w:=by
 go_enter Tryz.func95,Tryz.ntmps95
 go_wp2_with (go_at_call 169; refine (nanE _ _).mono ?_; rintro e w' ⟨rfl,hw⟩; rw [hw])
 all_goals (go_ret; refine ⟨?_,rfl⟩; (repeat' split) <;> first | rfl | (exfalso; omega))
theorem closeE (x y:Entry) (W:World):Calls Tryz.prog 94 #[.agg #[.int .u64 x.key,.int .u64 x.value],.agg #[.int .u64 y.key,.int .u64 y.value]] W fun e w'=>e=.returned (.int .i64 (cfE x y))/\∃ q os',w'=Go.Sort.grow (W.drewN q) os':=by
 have hcon:=fun W'=>cmpE x.key y.key W'
 change ∀ W',Calls Tryz.prog 95 _ _ (fun e w'=>e=.returned (.int .i64 (cfE x y))/\w'=W') at hcon
 generalize cfE x y=r at hcon ⊢
 go_enter Tryz.func94,Tryz.ntmps94
 go_wp2_with (go_at_call 95; refine (hcon _).mono ?_; rintro e w' ⟨rfl,rfl⟩)
 go_ret
 exact ⟨rfl,0,_,by rw [Go.Sort.alloc_eq_grow,Go.Sort.alloc_eq_grow,Go.Sort.grow_grow]; rfl⟩
/-! ### What the row holds: sorted, where no two keys are one -/
def insK (e:Entry):List Entry->List Entry
 | []=>[e]
 | x::l=>if e.key<x.key then e::x::l else x::insK e l
def sortK:List Entry->List Entry
 | []=>[]
 | x::l=>insK x (sortK l)
def sortD (l:List Entry):Option (List Entry):=if l.length<=2147483648/\(l.map Entry.key).Nodup then some (sortK l) else none
theorem qY (e:Entry):∀ l,(insK e l).Perm (e::l)
 | []=>.refl _
 | x::l=>by
  unfold insK
  split
  ·exact .refl _
  ·exact (List.Perm.cons x (qY e l)).trans (List.Perm.swap _ _ _)
theorem o9:∀ l,(sortK l).Perm l
 | []=>.refl _
 | x::l=>(qY x _).trans (.cons x (o9 l))
theorem uM (e:Entry):∀ l,l.Pairwise (fun a b=>a.key<=b.key)->(insK e l).Pairwise fun a b=>a.key<=b.key
 | [],_=>List.pairwise_singleton _ _
 | x::l,h=>by
  obtain ⟨h1,h2⟩:=List.pairwise_cons.1 h;unfold insK
  split
  ·rename_i hlt
   refine List.pairwise_cons.2 ⟨fun y hy=>?_,h⟩
   rcases List.mem_cons.1 hy with rfl | hy
   ·omega
   ·have:=h1 y hy; omega
  ·rename_i hlt
   refine List.pairwise_cons.2 ⟨fun y hy=>?_,uM e l h2⟩
   rcases List.mem_cons.1 ((qY e l).mem_iff.1 hy) with rfl | hy
   ·omega
   ·exact h1 y hy
theorem qB:∀ l,(sortK l).Pairwise fun a b=>a.key<=b.key
 | []=>.nil
 | x::l=>uM x _ (qB l)
theorem wu:∀ {l:List Entry},(l.map Entry.key).Nodup->∀ {a b:Entry},a∈l->b∈l->a.key=b.key->a=b
 | x::l,h,a,b,ha,hb,e=>by
  rw [List.map_cons,List.nodup_cons] at h
  rcases List.mem_cons.1 ha with ha | ha
  ·rcases List.mem_cons.1 hb with hb | hb
   ·rw [ha,hb]
   ·exact absurd (List.mem_map.2 ⟨b,hb,by rw [<-e,ha]⟩) h.1
  ·rcases List.mem_cons.1 hb with hb | hb
   ·exact absurd (List.mem_map.2 ⟨a,ha,by rw [e,hb]⟩) h.1
   ·exact wu h.2 ha hb e
theorem oC {l zs ys:List Entry} (h:sortD l=some zs) (hp:ys.Perm l) (hs:ys.Pairwise fun a b=>a.key<=b.key):ys=zs/\l.length<=2147483648:=by
 unfold sortD at h
 split at h
 ·rename_i h1
  obtain rfl:=Option.some.inj h;refine ⟨List.Perm.eq_of_pairwise (fun a b ha hb h2 h3=>?_) hs (qB l) (hp.trans (o9 l).symm),h1.1⟩
  exact wu h1.2 (hp.mem_iff.1 ha) ((o9 l).mem_iff.1 hb) O
 ·cases h
theorem ltE (x y:Entry):ltOf cfE x y=decide (x.key<y.key):=by
 unfold ltOf cfE
 by_cases h1:x.key<y.key
 ·simp [h1]
 ·by_cases h2:x.key > y.key <;> simp [h1,h2]
theorem swoE:Go.Sort.SWO (ltOf cfE) where
 irrefl x:=by rw [ltE]; simp
 trans x y z h1 h2:=by rw [ltE] at *; simp at *; omega
 ntrans x y z h1 h2:=by rw [ltE] at *; simp at *; omega
theorem vT {l:List Entry} {j:Nat} (hj:j<l.length * 2):(l.flatMap aI)[j]?=some ((flatK aI 2 l.toArray)[j]!):=by
 have h1:j / 2<l.length:=O
 rw [get_flatK _ _ _ _ (by simpa using hj)]
 have h2:(aI l[j / 2])[j % 2]?=some (aI l[j / 2])[j % 2]!:=by
  have h3:j % 2<(aI l[j / 2]).length:=Nat.mod_lt _ O
  rw [getElem!_pos (aI l[j / 2]) (j % 2) h3,List.getElem?_eq_getElem h3]
 have h4:=nW (f:=aI) (sz:=2) (fun _=>rfl) l (j / 2) h1 (j % 2) _ h2
 rw [show j / 2 * 2+j % 2=j from by omega] at h4
 rw [h4]
 congr 3
 rw [getElem!_pos _ _ (by simpa using h1)]
 simp
theorem eg94:∀ args w,(callFunc 94 args).run Tryz.prog w=.ok (.enter 94 args) w:=enters_of Tryz.func94 kz rfl
theorem EE {v:Value} {xs zs:List Entry} {w:World} (hr:cx 104 2 aI v xs w) (hz:sortD xs=some zs) :
  Calls Tryz.prog 93 #[v,.func (.func 94) #[] #[]] w fun e w'=>e=.returned (.tuple #[])/\Appended 104 2 aI v zs w v w':=by
 rcases hr with ⟨ad,rfl,rfl⟩ | ⟨g,o,cap,cur,rfl,h2,h3,h4,h5,h6⟩
 ·obtain ⟨rfl,_⟩:=oC hz (ys:=[]) (.refl _) .nil
  refine (AnyF.slices_SortFunc_none sortL ad 0 _ w).mono ?_;rintro e w' ⟨rfl,rfl⟩;exact ⟨rfl,.inl ⟨ad,rfl,rfl⟩,Jd.refl _ _,fun b hb=>.inl hb⟩
 ·have hlen:xs.length<=2147483648:=(oC hz (o9 xs) (qB xs)).2
  have hcur:∀ j,j<xs.length * 2->cur[o+j]?=(xs.flatMap aI)[j]?:=fun j hj=>by
   rw [<-h5,List.getElem?_take,if_pos hj,List.getElem?_drop,Array.getElem?_toList]
  have hH:HoldsK aI 2 w g o xs.toArray:=fun j hj=>by
   have hj':j<xs.length * 2:=by rw [size_flatK] at hj; simpa using hj
   refine ⟨?_,?_⟩
   ·simp only [World.cell?,h3]
    rw [hcur j hj',vT hj']
    rfl
   ·simp only [World.frozen?,h3]
    simp
  have hb:g<w.heap.size:=q8 h3;have hc:=AnyQ.slices_SortFunc sortL 2 Tryz.isAgg104 Tryz.sizeOf104 aI (fun _=>rfl) (fun x v hv=>by simp [aI] at hv; rcases hv with rfl | rfl <;> rfl) cfE swoE 94 #[] g o cap xs.toArray w eg94 (fun _ _ _ _ x y=>closeE x y _) hH hb yao
  change Calls Tryz.prog 93 _ _ _ at hc
  refine hc.mono ?_;rintro e w' ⟨rfl,d,n,os,hp,hs,rfl⟩;have hds:d.size=xs.length:=by have:=hp.1; simpa using this
  have hperm:d.toList.Perm xs:=by
   have:=hp.2.2;rw [Array.extract_eq_self_of_le yao,Array.extract_eq_self_of_le yas] at this
   simpa using this
  have hsort:d.toList.Pairwise fun a b=>a.key<=b.key:=by
   rw [List.pairwise_iff_getElem]
   intro i j hi hj hij;simp only [Array.length_toList] at hi hj
   have:=hs i j (Nat.zero_le _) hij yao
   rw [ltE,getElem!_pos d j hj,getElem!_pos d i hi] at this
   simp only [Array.getElem_toList]
   simpa using this
  obtain ⟨rfl,_⟩:=oC hz hperm hsort;refine ⟨rfl,?_,?_,fun b hb=>.inl hb⟩
  ·refine .inr ⟨g,o,cap,Go.Sort.putCells id o (flatK aI 2 d) cur,by simp [hds],by rw [Array.length_toList,hds]; exact h2,?_,?_,?_,h6⟩
   ·show ((w.heap.modify g _)++os)[g]?=_
    rw [Array.getElem?_append_left (by simpa using hb),Array.getElem?_modify,if_pos rfl,h3]
    rfl
   ·simpa [Go.Sort.putCells] using h4
   ·have hzl:d.toList.length=xs.length:=by rw [Array.length_toList,hds]
    have hle:xs.length * 2<=cap * 2:=Nat.mul_le_mul_right 2 h2;refine List.ext_getElem? fun j=>?_;rw [List.getElem?_take]
    split
    ·rename_i hj
     rw [vT hj,List.getElem?_drop,Array.getElem?_toList]
     have hj2:o+j<cur.size:=O
     simp only [Go.Sort.putCells,Array.getElem?_mapIdx,Array.getElem?_eq_getElem hj2,Option.map_some,size_flatK]
     rw [if_pos ⟨O,O⟩,show o+j - o=j from by omega]
     rfl
    ·rename_i hj
     symm
     rw [List.getElem?_eq_none_iff,gT (f:=aI) (sz:=2) (fun _=>rfl)]
     omega
  ·refine ⟨rfl,rfl,rfl,?_,fun b hb hn=>?_⟩
   ·show w.heap.size<=((w.heap.modify g _)++os).size
    simp
   ·show ((w.heap.modify g _)++os)[b]?=_
    rw [Array.getElem?_append_left (by simpa using hb),Array.getElem?_modify,if_neg (fun e=>hn (by subst e; exact iX (a:=⟨g,o,none⟩) h6))]
theorem cl93:af B0 93:=kz
def D.iK (fu:Nat) (a0:Plan) (a1:Mem) (a2:Int) (a3:Int):Option (List Entry):=(loopThen (fun (x6:List Entry × Int)=>(bif (decide (x6.2<a0.buckets)) then ((D.lC fu a0 a1 a2 (D.eO a0 a3 x6.2)).bind (fun (JI:List Entry)=>((JW x6.1 JI).bind (fun (JP:List Entry)=>(some (Lp.next (JP,(IntKind.i64.wrap (x6.2+1))))))))) else (some (Lp.brk (x6.1,x6.2))))) fu ([],0) (fun (x19:List Entry × Int)=>((sortD x19.1).bind (fun (Kb:List Entry)=>(some Kb)))))
theorem ui {fu:Nat} (w0:World) (a0:Plan) {Jo:MG} (a1:Mem) (a1h:JX Jo a1 w0) (a2:Int) (a3:Int) {res:List Entry} (hD:D.iK fu a0 a1 a2 a3=some res) :
    Calls B0 47 #[z6 (ac a0),zp Jo.mb,.int .i64 a2,.int .i64 a3] w0 (fun e w'=>∃ (v0:Value),e=.returned v0/\Kv No No [II 104 2 aI v0 res] w0 w'):=by
 refine enter Tryz.func47 rfl 30 rfl rfl fun fr r=>?_;have hP:Post No [] w0 w0:=Post.nil w0
 have hP:Post No [memR Jo a1] w0 w0:=hP.addRo bg a1h rfl a1h.lt;unfold D.iK at hD
 refine I0 ?_;refine kX 23 (z6 (ac a0)) r rfl rfl fun b1 w2 n3 r=>?_;have hP:Post No [_,ae b1 ((ac a0)).toArray 23] w0 w2:=hP.new n3
 refine kA kS r rfl rfl fun r=>wn (I0 (kA kS r rfl rfl fun r=>wn (d9 (I0 (kF 0 r rfl j7 rfl fun r=>kL (I a0.buckets) r rfl (hP.cell (i:=1) rfl) IL rfl rfl fun r=>kM (I 0) r rfl rfl fun r=>wn ?_)))));have hP:Post No [_,_,II 104 2 aI kS ([])] w0 w2:=hP.nilRow 104 2 aI
 refine dV (X:=List Entry × Int) (G:=Value) (x0:=([],0)) (fun x γ=>[(0,(z6 (ac a0))),(1,(zp Jo.mb)),(2,(I a2)),(3,(I a3)),(4,(zp b1)),(8,kS),(12,(I a0.buckets)),(9,γ),(13,(I x.2))]) (fun x γ w=>Post No [memR Jo a1,ae b1 ((ac a0)).toArray 23,II 104 2 aI γ x.1] w0 w) kS r (kO (kO (aq rfl aJ))) hP hD ?_ ?_
 ·
  rintro x6 γ7 fr w9 g y8 RPy8 nxy8 bky8 rty8 r hP hD;have hP:Post No [_,_,_] w0 w9:=hP;refine I0 (kB r rfl rfl rfl rfl rfl fun r=>wn (d9 ?_));refine q5 (t:=(decide (x6.2<a0.buckets))) (r.ev rfl) (fun JS=>?_) (fun JS=>?_)
  ·
   have hD:=z7 (ar JS) hD;refine q7 (d9 (wp_block (I0 (kM (I x6.2) r rfl rfl fun r=>kA (I x6.2) r rfl rfl fun r=>wn ?_))));obtain ⟨JI,hx11,hD⟩:=aG hD
   refine oG 9 [.val γ7,.val (z6 (ac a0)),.val (zp Jo.mb),.val (I a2),.val (z6 (ac a0)),.val (I a3),.val (I x6.2),.val (I (D.eO a0 a3 x6.2)),.pred (MkP (fun v12:Value=>v12) (fun v12:Value=>[II 104 2 aI v12 JI])) (MkP.st _ _)] mixed r kz ?_ ?_
   ·
    refine fc r (fun I2 g w' hb' hd r'=>aw r' rfl bz) ?_;refine fc r (fun I2 g w' hb' hd r'=>aU r' (cs:=(ac a0)) (n:=6) rfl ((hP.z8 hb').cell (i:=1) rfl) IJ rfl bz) ?_
    refine fc r (fun I2 g w' hb' hd r'=>aw r' rfl bz) ?_;refine fc r (fun I2 g w' hb' hd r'=>aw r' rfl bz) ?_
    refine fc r (fun I2 g w' hb' hd r'=>aU r' (cs:=(ac a0)) (n:=6) rfl ((hP.z8 hb').cell (i:=1) rfl) IJ rfl bz) ?_;refine fc r (fun I2 g w' hb' hd r'=>aw r' rfl bz) ?_
    refine fc r (fun I2 g w' hb' hd r'=>aw r' rfl bz) ?_;refine fc r (fun I2 g w' hb' hd r'=>aN r' (args:=[(z6 (ac a0)),(I a3),(I x6.2)]) (lc (hd 4 rfl).1 (lc (hd 5 rfl).1 (lc (hd 6 rfl).1 l0))) cl36 ((tS _ a0 a3 x6.2).mono JL)) ?_
    refine fc r (fun I2 g w' hb' hd r'=>aN r' (args:=[(z6 (ac a0)),(zp Jo.mb),(I a2),(I (D.eO a0 a3 x6.2))]) (lc (hd 1 rfl).1 (lc (hd 2 rfl).1 (lc (hd 3 rfl).1 (lc (hd 7 rfl).1 l0)))) cl42 ((BF _ a0 a1 ((hP.z8 hb').Le (i:=0) rfl) a2 (D.eO a0 a3 x6.2) hx11).mono (by rintro _ w2 ⟨y,rfl,hq⟩; exact ⟨_,rfl,hq.KE.below,MkP.of y hq⟩))) ?_;exact bU
   intro fr gg w14 hb Iz hap r;obtain ⟨v12,g8,hs8⟩:=(Iz 8 rfl).1;have r:=r.congr (sc g8 (sc ((Iz 7 rfl).1) (sc ((Iz 6 rfl).1) (sc ((Iz 5 rfl).1) (sc ((Iz 4 rfl).1) (sc ((Iz 3 rfl).1) (sc ((Iz 2 rfl).1) (sc ((Iz 1 rfl).1) (sc ((Iz 0 rfl).1) rfl)))))))));have hP:Post No [_,_,_,II 104 2 aI v12 JI] w0 w14:=hP.addL (l:=[([II 104 2 aI v12 JI],(gg 8).lo,(gg 8).hi)]) hb ⟨hs8,(Iz 8 rfl).2.1,da,trivial⟩;obtain ⟨JP,hx15,hD⟩:=aG hD;refine dR 104 2 aI γ7 r (fun R=>dN r rt82 (fun _=>rfl) (fun _=>rfl) (hP.row (i:=2) rfl) (hP.row (i:=3) rfl).ro hx15 rfl rfl) rfl fun fr v16 w17 ha18 r=>?_;have hP:Post No [_,_,II 104 2 aI v16 JP,_] w0 w17:=hP.append (i:=2) rfl ha18
   refine kA v16 r rfl rfl fun r=>wn ?_;refine q6 (kB r rfl rfl rfl rfl rfl fun r=>kM (I (W (x6.2+1))) r rfl rfl fun r=>wn ?_)
   exact nxy8 (JP,(W (x6.2+1))) v16 _ _ _ hD r (kO (kO (aq rfl aJ))) (hP.pick [0,1,2] rfl rfl)
  have hD:=z7 (ai JS) hD;refine wp_exit ?_;exact bky8 (x6.1,x6.2) γ7 _ _ _ hD r (kO (kO (aq rfl aJ))) (hP.pick [0,1,2] rfl rfl)
 rintro x19 γ20 fr w21 g r hP hD;have hP:Post No [_,_,_] w0 w21:=hP;refine I0 (kM γ20 r rfl rfl fun r=>?_);obtain ⟨Kb,hx22,hD⟩:=aG hD
 refine kC r (EE (hP.row (i:=2) rfl) hx22) rfl cl93 rfl ?_;rintro _ w23 ⟨rfl,ha24⟩;refine ⟨_,rfl,fun fr r=>?_⟩
 have hP:Post No [_,_,II 104 2 aI γ20 Kb] w0 w23:=hP.append (i:=2) rfl ha24;refine wn (I0 (kM γ20 r rfl rfl fun r=>kA γ20 r rfl rfl fun r=>wn (q4 ?_)));have hv:Kb=res:=Option.some.inj hD
 try dsimp only [Exit.then,Exit.inBlock]
 refine aT (fn:=Tryz.f47) r (t:=8) rfl (v:=γ20) rfl ?_;subst hv;exact ⟨γ20,rfl,(hP.pick [2] rfl rfl).done (dg rfl cG)⟩
end Go.Proofs.YtbbipmelhmgmfaaGreat

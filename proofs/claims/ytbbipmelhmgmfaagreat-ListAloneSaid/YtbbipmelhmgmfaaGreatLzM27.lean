/- Some of our texts, one behind the other. -/
import Derived.Test.YtbbipmelhmgmfaaGreatLzM22
import Derived.Test.YtbbipmelhmgmfaaGreatLzM24
import Derived.Test.YtbbipmelhmgmfaaGreatLzRefs15
import Derived.Test.YtbbipmelhmgmfaaGreatLzM25
import Derived.Test.YtbbipmelhmgmfaaGreatLzM15
set_option linter.all false
set_option maxRecDepth 100000
set_option maxHeartbeats 20000000
/- Ours. -/
namespace Go.Proofs.YtbbipmelhmgmfaaGreat
open Go.RowKit
theorem DU {fu:Nat} {l:List Entry} (h:l.length<fu) (h2:l.length≤900000):D.j6 fu l l=some true:=by
 unfold D.j6;rw [show ((l.length:Int) !=(l.length:Int))=false from by simp]
 simp only [cond_false]
 refine jE (fun o=>o=some true) (fun (i:Nat) (x:Bool × Int)=>x.2=(i:Int)) l.length fu rfl h ?_ ?_
 ·rintro i ⟨b,x⟩ hi rfl
  simp only
  rw [show decide ((i:Int)<(l.length:Int))=true from by simp; omega,gP hi,bW (show -1000000≤(i:Int)+1 by omega) kw]
  simp only [cond_true,Option.bind_some]
  rw [show (l[i]==l[i])=true from by simp]
  exact ⟨_,rfl,by simp⟩
 ·rintro ⟨b,x⟩ rfl
  simp only
  rw [show decide ((l.length:Int)<(l.length:Int))=false from by simp]
  exact ⟨_,rfl,by simp⟩
theorem nL {α:Type} {E A B:List α} {n:Nat} (h:E=A++B) (hn:A.length=n):cz E 0 (n:Int)=some A:=by
 subst h hn;unfold cz;rw [if_pos (by simp only [List.length_append]; omega)];simp
theorem qq {α:Type} {E A B:List α} {n:Nat} (h:E=A++B) (hn:A.length=n):cz E (n:Int) (E.length:Int)=some B:=by
 subst h hn;unfold cz;rw [if_pos (by simp only [List.length_append]; omega),Int.toNat_natCast,Int.toNat_natCast,List.drop_left,List.length_append];rw [List.take_of_length_le kw]
theorem uz {α:Type} {E A B:List α} {b:α} {n:Nat} (h:E=A++b::B) (hn:A.length=n) (hl:n≤100000):cz E (IntKind.i64.wrap ((n:Int)+1)) (E.length:Int)=some B:=by
 rw [bW kw kw,show (n:Int)+1=((n+1:Nat):Int) from by simp]
 exact qq (A:=A++[b]) (by rw [h]; simp) (by simp [hn])
theorem lH {α:Type} {E A B:List α} {b:α} {n:Nat} (h:E=A++b::B) (hn:A.length=n):getI E (n:Int)=some b:=by
 subst h hn;rw [gP yar];simp
section
variable {fu : Nat} {a0 a1 : List Int} {a2 : Int} {a3 : List Int} {a4 : List Bool} {a5 : Int} {E : List Entry} {L : List Int} {k : Int} (hf : E.length < fu) (hE : E.length ≤ 100000)
include hf hE
theorem oF:D.gh fu a0 a1 a2 a3 a4 a5 E L k=some ((loE k E).length:Int):=by
 have hs:=Rise.split (k:=k) (E:=E);have hl:(loE k E).length+(hiE k E).length=E.length:=by conv=>rhs; rw [hs]; rw [List.length_append]
 unfold D.gh;refine jE (fun o=>o=some ((loE k E).length:Int)) (fun (i:Nat) (x:Int)=>x=(i:Int)) (loE k E).length fu rfl kw ?_ ?_
 ·rintro i _ hi rfl
  have hg:getI E (i:Int)=some ((loE k E)[i]):=by
   have h0:∀ {A B E:List Entry} (hs:E=A++B) (hi:i<A.length),getI E (i:Int)=some (A[i]):=fun {A B E} hs hi=>by
    subst hs;rw [gP (by rw [List.length_append]; omega),List.getElem_append_left hi]
   exact h0 hs hi
  have hk:((loE k E)[i]).key<k:=rX (List.getElem_mem hi);rw [show decide ((i:Int)<(E.length:Int))=true from by simp; omega,hg]
  simp only [cond_true,Option.bind_some]
  rw [decide_eq_true hk,bW (show -1000000≤(i:Int)+1 by omega) kw]
  exact ⟨_,rfl,by simp⟩
 ·rintro _ rfl
  cases hh:hiE k E with
  | nil=>
   rw [hh] at hl
   rw [show decide (((loE k E).length:Int)<(E.length:Int))=false from by simp at hl ⊢; omega]
   exact ⟨_,rfl,rfl⟩
  | cons e r=>
   have hk:=qM hh;rw [hh] at hl
   have hg:getI E ((loE k E).length:Int)=some e:=lH (hs.trans (by rw [hh])) rfl
   simp only [List.length_cons] at hl
   rw [show decide (((loE k E).length:Int)<(E.length:Int))=true from by simp; omega,hg]
   simp only [cond_true,Option.bind_some]
   rw [show decide (e.key<k)=false from by rw [decide_eq_false_iff_not]; omega]
   exact ⟨_,rfl,rfl⟩
theorem oC:D.ij fu a0 a1 a2 a3 a4 a5 E L k=some (hasE k E):=by
 have hs:=Rise.split (k:=k) (E:=E);have hl:(loE k E).length+(hiE k E).length=E.length:=by conv=>rhs; rw [hs]; rw [List.length_append]
 unfold D.ij;rw [oF hf hE];simp only [Option.bind_some];unfold hasE;cases hh:hiE k E with
 | nil=>
  rw [hh] at hl
  rw [show decide (((loE k E).length:Int)<(E.length:Int))=false from by simp at hl ⊢; omega]
  rfl
 | cons e r=>
  rw [hh] at hl
  simp only [List.length_cons] at hl
  have hg:getI E ((loE k E).length:Int)=some e:=lH (hs.trans (by rw [hh])) rfl
  rw [show decide (((loE k E).length:Int)<(E.length:Int))=true from by simp; omega,hg]
  rfl
theorem Dp:D.jZ fu a0 a1 a2 a3 a4 a5 E L k=some (getE k E):=by
 have hs:=Rise.split (k:=k) (E:=E);unfold D.jZ;rw [oC hf hE];simp only [Option.bind_some];cases hh:hiE k E with
 | nil=>
  have h1:hasE k E=false:=by unfold hasE; rw [hh]
  have h2:getE k E=⟨6,0⟩:=by unfold getE; rw [hh]
  rw [h1,h2]
  rfl
 | cons e r=>
  have hg:getI E ((loE k E).length:Int)=some e:=lH (hs.trans (by rw [hh])) rfl
  by_cases he:e.key=k
  ·have h1:hasE k E=true:=by unfold hasE; rw [hh]; simp [he]
   have h2:getE k E=⟨0,e.value⟩:=by unfold getE; rw [hh]; simp [he]
   rw [h1,h2]
   simp only [Bool.not_true,cond_false]
   rw [oF hf hE]
   simp only [Option.bind_some]
   rw [hg]
   rfl
  ·have h1:hasE k E=false:=by unfold hasE; rw [hh]; simp [he]
   have h2:getE k E=⟨6,0⟩:=by unfold getE; rw [hh]; simp [he]
   rw [h1,h2]
   rfl
end
theorem Db {fu:Nat} {N m room k:Int} {P:Pool} {g:List Int} {o:List Bool} {E:List Entry} {pre suf:List Int} {n:Int} (hf:E.length<fu) (hE:E.length≤1000) (hfu:2000≤fu) (h:PR N P g o) (hr:∀ n,n∈P.rt→0≤n∧n<N) (hN:N≤1000) (hfr:P.fr.length≤500) (hl:P.rt.length≤500)
  (hk:hasE k E=true) (hp:(loE k E).length=pre.length) (hL:(pre++n::suf).length≤1000) :
  ∃ g' o',D.ig fu P.fr P.rt room g o m E (pre++n::suf) k=some ((P.stash room m n).fr,(P.stash room m n).rt,room,g',o',m,delE k E,pre++suf,getE k E)∧PR N (P.stash room m n) g' o':=by
 obtain ⟨g',o',hR,hPR⟩:=BX (fu:=fu) (m:=m) (room:=room) (n:=n) h hr hN hfr hl hfu;refine ⟨g',o',?_,hPR⟩;obtain ⟨e,r,hh,he⟩:∃ e r,hiE k E=e::r∧e.key=k:=by
  unfold hasE at hk
  cases hh:hiE k E with
  | nil=>rw [hh] at hk; cases hk
  | cons e r=>rw [hh] at hk; exact ⟨e,r,rfl,by simpa using hk⟩
 have hs:E=loE k E++e::r:=by rw [←hh]; exact Rise.split
 have hll:=congrArg List.length hs;simp only [List.length_append,List.length_cons] at hll hL
 have e1:getI E (pre.length:Int)=some e:=lH hs hp;have e2:cz E 0 (pre.length:Int)=some (loE k E):=nL hs hp;have e3:cz E (IntKind.i64.wrap ((pre.length:Int)+1)) (E.length:Int)=some r:=uz hs hp kw
 have eg:getE k E=⟨0,e.value⟩:=by unfold getE; rw [hh]; simp [he]
 have ed:delE k E=loE k E++r:=by unfold delE; rw [if_pos hk,hh]; rfl
 unfold D.ig;rw [oC hf kw,hk];simp only [Option.bind_some,Bool.not_true,cond_false];rw [oF hf kw,hp];simp only [Option.bind_some];rw [e1,lH rfl rfl];simp only [Option.bind_some];rw [e2];simp only [Option.bind_some];rw [dl (a:=([]:List Entry)) yaq,List.nil_append];simp only [Option.bind_some];rw [e3];simp only [Option.bind_some];rw [dl kw,nL rfl rfl];simp only [Option.bind_some];rw [dl (a:=([]:List Int)) yaq,List.nil_append];simp only [Option.bind_some];rw [uz rfl rfl kw];simp only [Option.bind_some];rw [dl kw];simp only [Option.bind_some];rw [hR,eg,ed]
 rfl
theorem qW {fu:Nat} {N m room k v:Int} {P:Pool} {g:List Int} {o:List Bool} {E:List Entry} {pre suf:List Int} (hf:E.length<fu) (hE:E.length≤500) (hfu:2000≤fu) (h:PR N P g o) (hr:∀ n,n∈P.rt→0≤n∧n<N) (hfr:∀ n,n∈P.fr→0≤n∧n<N) (hd:P.rt.Nodup) (hN:N≤1000) (hf2:P.fr.length≤500) (hl:P.rt.length≤500)
  (hp:(loE k E).length=pre.length) (hL:(pre++suf).length≤500) (Q:Pool) (G:Grant) (hG:P.grant m 2=(Q,G)) (hQ:Q.fr.length≤1000) (hGn:0≤G.node→G.node<N) :
  if G.node<0 then ∃ g' o',D.ik fu P.fr P.rt room g o m E (pre++suf) k v=some (Q.fr,Q.rt,room,g',o',m,E,pre++suf,⟨4,0⟩)∧PR N Q g' o'
  else if hasE k E=true then ∃ g' o',D.ik fu P.fr P.rt room g o m E (pre++suf) k v=some ((Q.back m G.node).fr,(Q.back m G.node).rt,room,g',o',m,E,pre++suf,⟨7,0⟩)∧PR N (Q.back m G.node) g' o'
  else ∃ g' o',D.ik fu P.fr P.rt room g o m E (pre++suf) k v=some (Q.fr,Q.rt,room,g',o',m,insE k v E,pre++G.node::suf,⟨0,0⟩)∧PR N Q g' o':=by
 obtain ⟨g',o',hR,hPR⟩:=CC (fu:=fu) (m:=m) (room:=room) (k:=2) h hr hfr hd hN hf2 hl hfu;rw [hG] at hR hPR
 unfold D.ik;rw [hR];simp only [Option.bind_some]
 by_cases hn:G.node<0
 ·rw [if_pos hn,decide_eq_true hn]
  exact ⟨g',o',rfl,hPR⟩
 rw [if_neg hn,decide_eq_false hn]
 simp only [cond_false]
 rw [oC hf kw]
 simp only [Option.bind_some]
 cases hk:hasE k E with
 | true=>
  rw [if_pos rfl]
  simp only [cond_true]
  obtain ⟨g2,o2,hB,hPB⟩:=uT (fu:=fu) (m:=m) (n:=G.node) (room:=room) (rt:=Q.rt) hPR ⟨kw,hGn kw⟩ hN (show Q.fr.length≤100000 by omega)
  rw [hB]
  exact ⟨g2,o2,rfl,hPB⟩
 | false=>
  rw [if_neg yar]
  simp only [cond_false]
  rw [oF hf kw]
  simp only [Option.bind_some]
  have hs:=Rise.split (k:=k) (E:=E);have hll:=congrArg List.length hs;simp only [List.length_append] at hll hL
  have e2:cz E 0 (pre.length:Int)=some (loE k E):=nL hs hp;have e3:cz E (pre.length:Int) (E.length:Int)=some (hiE k E):=qq hs hp;refine ⟨g',o',?_,hPR⟩;rw [show insE k v E=loE k E++⟨k,v⟩::hiE k E from rfl,hp,e2]
  simp only [Option.bind_some]
  rw [dl (a:=([]:List Entry)) yaq,List.nil_append]
  simp only [Option.bind_some]
  rw [dl yaq]
  simp only [Option.bind_some]
  rw [e3]
  simp only [Option.bind_some]
  rw [dl yaq,nL rfl rfl]
  simp only [Option.bind_some]
  rw [dl (a:=([]:List Int)) yaq,List.nil_append]
  simp only [Option.bind_some]
  rw [dl yaq]
  simp only [Option.bind_some]
  rw [qq rfl rfl]
  simp only [Option.bind_some]
  rw [dl yaq]
  simp
theorem Cf {p:Plan} (hp:PF p) (hnn:p.nodes≤1000) {M:Mem} (hl:Len p M.ws) {c:Int} (hc:0≤c∧c<D.bD p) {l:List Int} (hL:bq p M.ws c l) (hle:(l.length:Int)≤p.nodes) {fu:Nat} (hfu:1001<fu) :
  D.iC fu p M 0 c=some (ents p M.ws l):=by
 have hN:=cR hp;unfold Len at hl
 unfold D.iC;rw [oD kw kw,hL.word];simp only [Option.bind_some];refine jE (fun o=>o=some (ents p M.ws l)) (fun (i:Nat) (x:List Entry × Int × Int)=>∃ pre suf,l=pre++suf∧pre.length=i∧x=(ents p M.ws pre,lw suf,(i:Int))) l.length fu ⟨[],l,rfl,rfl,rfl⟩ kw ?_ ?_
 ·rintro i _ hi ⟨pre,suf,e,hpl,rfl⟩
  obtain ⟨q,s,rfl⟩:∃ q s,suf=q::s:=by
   cases suf with
   | nil=>rw [e] at hi; simp at hi; omega
   | cons q s=>exact ⟨q,s,rfl⟩
  have hLq:=bq.app (e ▸ hL);have hq:=hLq.2.1;obtain ⟨q1,q2,q3⟩:=jR hp hq;have ec:D.aW (lw (q::s))=q:=lnode kw kw
  have hfp:∀ f,fp p q f=sp p q+2+f:=fun f=>rfl
  have hfl:∀ f,0≤f→f<3→D.bo p q f=fp p q f:=fun f f0 f1=>oS hp hq ⟨f0,f1⟩
  simp only
  rw [show decide ((i:Int)<p.nodes)=true from by simp; omega,ec,show decide (q≥0)=true from by simpa using hq.1]
  simp only [cond_true,Option.bind_some]
  rw [hfl 2 kw kw,hfl 0 kw kw,hfl 1 kw kw,oD yal yal,hLq.2.2.word]
  simp only [Option.bind_some]
  rw [wg hLq.2.2 hnn]
  simp only [show ((0:Int)==0)=true from rfl,cond_true]
  rw [oD yal yal,oD yal yal]
  simp only [Option.bind_some]
  have hpn:(pre.length:Int)≤1000:=kw
  have ha:appD (ents p M.ws pre) [(⟨rd M.ws (fp p q 0),rd M.ws (fp p q 1)⟩:Entry)]=some (ents p M.ws (pre++[q])):=by
   unfold appD;rw [if_pos (by simp only [lO,List.length_singleton,ents,List.length_map]; omega)];unfold ents;rw [List.map_append]
   rfl
  rw [ha]
  simp only [Option.bind_some]
  rw [bW (show -1000000≤(i:Int)+1 by omega) kw]
  exact ⟨_,rfl,pre++[q],s,by rw [e]; simp,by simp [hpl],rfl⟩
 ·rintro _ ⟨pre,suf,e,hpl,rfl⟩
  have hs:suf=[]:=by
   have:=congrArg List.length e;rw [List.length_append] at this
   exact List.length_eq_zero_iff.1 kw
  subst hs;rw [List.append_nil] at e
  subst e;have ec:D.aW (lw [])=-1:=rp;simp only;rw [ec];refine ⟨(ents p M.ws l,lw [],(l.length:Int)),?_,rfl⟩;cases decide ((l.length:Int)<p.nodes) <;> rfl
theorem CM {p:Plan} (h:D.ez p=true):PF p∧(p.nodes≤40∧p.retire≤40∧p.domains≤6∧p.buckets≤10)∧0<p.domains:=by
 unfold D.ez at h
 cases h1:D.eK p <;> rw [h1] at h
 ·cases h
 cases h2:D.cN p <;> rw [h2] at h
 ·cases h
 have hp:=uB h2;exact ⟨hp,Dn hp h1,by simpa using h⟩
theorem Dr:D.kn 4000=some true:=by decide +kernel
theorem LAt.start {p:Plan} (hp:PF p) {ws:List Int} (h:LaidAt p ws) {t:Int} (ht:0≤t∧t<p.threads) {c:Int} (hc:rd ws c=0):LAt p t ws ⟨allN p,[],fun _=>⟨0,0,0⟩⟩ 0 c []∧Alone p ws:=by
 have hP:=PoolAt.start hp h ht;refine ⟨⟨hP.toH,fun j j0 j1=>?_,hc,List.nodup_nil,fun q hq=>(by cases hq),List.Pairwise.nil⟩,hP.hz⟩
 have:=hP.hz (t * 3+j) kw kw
 rw [←Int.add_assoc] at this
 exact this
section
variable {p : Plan} (hp : PF p)
include hp
theorem Dm (d i:Int):D.cB p d i=if (0≤d∧d<p.domains)∧0≤i∧i<D.bG p then 2+d * (1+D.bG p)+i else -1:=by
 have hc:=jB hp;have d1:=hp.d1;have d2:=hp.d2;unfold D.cB D.fG;refine iO hp ?_ ?_
 ·simp only [all_cons,all_nil,and_true]
  rw [bp (x:=p.domains - 1) kw kw,bp (x:=D.bG p - 1) kw kw]
  omega
 ·intro hq
  have h2:=xP hp hq.1.1 hq.1.2;rw [bp (x:=1+D.bG p) kw kw,bp (x:=d * _) kw kw,bp (x:=2+d * _) kw kw,bp kw kw]
end
end Go.Proofs.YtbbipmelhmgmfaaGreat

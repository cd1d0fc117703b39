/- Some of our texts, one behind the other. -/
import Derived.Test.YtbbipmelhmgmfaaGreatDzM26
import Derived.Test.YtbbipmelhmgmfaaGreatDzM27
import Derived.Test.YtbbipmelhmgmfaaGreatDzLawTA
import Derived.WalkKit
import Derived.ProofKit
import Derived.OpenShut
import Derived.ShutString
import Derived.ChangeOld
import Derived.Below
import Derived.Carry
import Derived.SizedLaws
import Derived.Deep.Slices
import Derived.Deep.Fields
import Derived.ChangeSame
import Derived.Test.YtbbipmelhmgmfaaGreatRows
import Derived.ChangeSlices
import Derived.Test.YtbbipmelhmgmfaaGreatDzM7
set_option linter.all false
set_option maxRecDepth 100000
set_option maxHeartbeats 20000000
/- Ours. -/
namespace Go.Proofs.YtbbipmelhmgmfaaGreat
open Go.RowKit
theorem Du {p:Plan} (h:D.eD p=true):PF p/\(p.nodes<=40/\p.retire<=40/\p.domains<=6/\p.buckets<=10)/\0<p.domains:=by
 unfold D.eD at h
 cases h1:D.eM p <;> rw [h1] at h
 ·cases h
 cases h2:D.cM p <;> rw [h2] at h
 ·cases h
 have hp:=vg h2;exact ⟨hp,DZ hp h1,by simpa using h⟩
theorem DF:D.l5 4000=some true:=by decide +kernel
theorem D5 {p:Plan} (hp:PF p) {d:Int} (hd:0<=d/\d<p.domains) {c:CallD} (hk:0<=c.k/\c.k<=18446744073709551615) (J:Nat):D.fL J (⟨p,0,0⟩:Je) d c =
  (bif ((c.kind.tmod 3)==0) then D.jR J ⟨p,0,0⟩ (mc p d (c.k % p.buckets)) c.k c.v else bif ((c.kind.tmod 3)==1) then D.eV J J ⟨p,0,0⟩ (mc p d (c.k % p.buckets)) c.k else D.iZ J ⟨p,0,0⟩ (mc p d (c.k % p.buckets)) c.k):=by
 unfold D.fL D.gZ D.oJ D.oL;rw [Dp hp hd hk]
theorem Pool.Dm {P:Pool} {m k:Int}:(P.grant m k).1.fr.length<=P.fr.length+P.rt.length:=by
 have h1:=oE m P.rt.reverse ⟨P.fr,[],P.st⟩;have h2:(P.scan m).fr.length<=P.fr.length+P.rt.length:=by
  unfold Pool.scan;simpa using h1
 have h3:∀ Q:Pool,(Q.out k).1.fr.length<=Q.fr.length:=fun Q=>by
  unfold Pool.out
  split
  ·exact Nat.le_refl _
  ·rename_i n l h; rw [h]; simp
 unfold Pool.grant;cases hf:P.fr with
 | nil=>rw [hf] at h2; exact Nat.le_trans (h3 _) h2
 | cons a l=>have:=h3 P; rw [hf] at this; exact Nat.le_trans this yas
theorem BC (p:Plan) (l:List CallD) (_:-9223372036854775808<=p.nodes/\p.nodes<=9223372036854775807) (_:-9223372036854775808<=p.threads/\p.threads<=9223372036854775807)
  (_:-9223372036854775808<=p.retire/\p.retire<=9223372036854775807) (_:-9223372036854775808<=p.domains/\p.domains<=9223372036854775807) (_:-9223372036854775808<=p.buckets/\p.buckets<=9223372036854775807)
  (_:-9223372036854775808<=p.IP/\p.IP<=9223372036854775807) (hb:∀ x,x∈l->(0<=x.kind/\x.kind<=255)/\(0<=x.k/\x.k<=18446744073709551615)/\(0<=x.v/\x.v<=18446744073709551615)):∃ fu,Wk.D.mK fu p l=some true:=by
 refine ⟨4000,?_⟩;unfold Wk.D.mK;rw [DF];simp only [Option.bind_some,Bool.not_true,cond_false];cases hfw:D.eD p
 case false=>rfl
 simp only [Bool.not_true,cond_false,Option.bind_some]
 cases hl:decide ((l.length:Int) > 60)
 case true=>rfl
 simp only [decide_eq_false_iff_not] at hl
 simp only [cond_false]
 obtain ⟨hp,hfw,hdm⟩:=Du hfw;have ht1:=hp.t1;have hn1:=hp.n1;have hr1:=hp.r1;have Jz:=hp.r2;have ht:(0:Int)<=0/\0<p.threads:=O
 obtain ⟨z1,z2,z3,z4⟩:=cE hp;have hdl:=hp.d2;rw [bW (show -1000000<=p.domains - 1 by omega) O]
 obtain ⟨d,hde⟩:∃ d,d=p.domains - 1:=⟨_,rfl⟩;rw [<-hde];have hd:0<=d/\d<p.domains:=O
 obtain ⟨M,hM,hL⟩:=Ee hp hfw (fu:=4000) O;rw [hM];simp only [Option.bind_some];obtain ⟨hA0,hal0⟩:=Ko.start hp hL ht hd;obtain ⟨g0,o0,hN,hPR0⟩:=DW hp O (room:=p.retire) (m:=p.IP) (fu:=4000) O;rw [hN];simp only [Option.bind_some];refine iV (fun o=>o=some true) (fun (i:Nat) (x:Bool × Int × Mem × List Int × List Int × Int × List Int × List Bool × Int × List Entry × List Int)=>∃ (P:Pool) (ga:Int) (nl gl:List Int) (ol:List Bool) (b:Bool) (M:Mem),
   x=(b,(i:Int),M,P.fr,P.rt,p.retire,gl,ol,p.IP,IB p M.ws nl,nl)/\ga<=100 * (i:Int)/\Ko p 0 M.ws P ga d nl/\Alone p M.ws/\PR p.nodes P gl ol) l.length 4000
  ⟨⟨allN p,[],fun _=>⟨0,0,0⟩⟩,0,[],g0,o0,false,M,rfl,O,hA0,hal0,hPR0⟩ O ?_ ?_
 ·rintro i x hi ⟨P,ga,nl,gl,ol,b,M,rfl,hga,hA,hal,hPR⟩
  simp only
  have hll:=hA.j6 hp;have hcf:=hA.pool.free.count O
  have hrm:=hA.pool.ret.room;have hel:(IB p M.ws nl).length=nl.length:=by unfold IB; simp
  rw [show decide ((i:Int)<(l.length:Int))=true from by simp; omega,bW (show -1000000<=(i:Int)+1 by omega) O,hO hi]
  simp only [cond_true,Option.bind_some,wZ]
  obtain ⟨-,hkb,-⟩:=hb _ (List.getElem_mem hi)
  generalize l[i]=cl at hkb ⊢
  rw [D5 hp hd hkb]
  generalize cl.k=k
  generalize cl.v=v
  rw [DS O O]
  simp only [Option.bind_some]
  have fin:∀ (m:Nat) (tr:T IM) (r:IM) (I7:List Int) (P':Pool) (g':Int) (nl' gl':List Int) (ol':List Bool),m<=3200->g'<=ga+100->I6 tr M.ws m r I7->Ko p 0 I7 P' g' d nl'->Alone p I7->PR p.nodes P' gl' ol'->
    ∃ x',((D.jz 4000 (4000,tr) M cap0 100000).bind fun (x130:IM × Int × Bool × Mem)=>(Option.bind (bif (!x130.2.2.1) then (some true) else (bif (!(x130.1==r)) then (some true) else ((D.iK 4000 p x130.2.2.2 0 d).bind (fun (x138:List Entry)=>((D.jh 4000 x138 (IB p I7 nl')).bind (fun (x141:Bool)=>(some (!x141)))))))) (fun (x143:Bool)=>(bif x143 then (some (Lp.ret (X:=Bool × Int × Mem × List Int × List Int × Int × List Int × List Bool × Int × List Entry × List Int) false)) else (some (Lp.next (b,(i:Int)+1,x130.2.2.2,P'.fr,P'.rt,p.retire,gl',ol',p.IP,IB p I7 nl',nl')))))))=some (Lp.next x')/\
     ∃ (P:Pool) (ga:Int) (nl gl:List Int) (ol:List Bool) (b:Bool) (M:Mem),x'=(b,((i+1:Nat):Int),M,P.fr,P.rt,p.retire,gl,ol,p.IP,IB p M.ws nl,nl)/\ga<=100 * ((i+1:Nat):Int)/\Ko p 0 M.ws P ga d nl/\Alone p M.ws/\PR p.nodes P gl ol:=by
   intro m tr r I7 P' g' nl' gl' ol' hm hg' hr hA' hal' hPR';have hll':=hA'.j6 hp;obtain ⟨cc,hcc⟩:=runR (fu:=4000) (most:=100000) (M:=M) hr O O O;rw [hcc];simp only [Option.bind_some,Bool.not_true,cond_false];rw [show (r==r)=true from by simp,CA hp O (M:=⟨I7,cc⟩) hA' hd O]
   simp only [Option.bind_some,Bool.not_true,cond_false]
   rw [EP (by unfold IB; simp; omega) (by unfold IB; simp; omega)]
   exact ⟨_,rfl,P',g',nl',gl',ol',b,⟨I7,cc⟩,by simp,O,hA',hal',hPR'⟩
  by_cases h0:cl.kind.tmod 3=0
  ·-- an entry is put in
   rw [show (cl.kind.tmod 3==0)=true from by simp [h0]]
   simp only [cond_true]
   obtain ⟨m,I7,P',g',l',res,hm,hg',hr,hA',hal',hcase⟩:=hA.add hp O ht hd hdm O hal 4000 O O k v;have hgl:=Pool.Dm (P:=P) (m:=p.IP) (k:=2);have hcut:∃ pre Jk,nl=pre++Jk/\(loE k (IB p M.ws nl)).length=pre.length:=by
    have h1:(loE k (IB p M.ws nl)).length<=nl.length:=by
     rw [<-hel]
     conv=>rhs; rw [Kh.split (k:=k) (E:=IB p M.ws nl)]
     rw [List.length_append]; omega
    exact ⟨nl.take (loE k (IB p M.ws nl)).length,nl.drop (loE k (IB p M.ws nl)).length,(List.take_append_drop ..).symm,by rw [List.length_take]; omega⟩
   rcases hcase with ⟨hg,rfl,rfl,rfl,he⟩ | ⟨Q,n,fr,hQ,hQf,hgo,hgn,hx⟩
   ·obtain ⟨pre,Jk,e,hpl⟩:=hcut
    have hra:=rI (fu:=4000) (v:=v) (room:=p.retire) O O O hPR hA.pool.ret.range hA.pool.free.range hA.pool.nod O O O hpl (by rw [<-e]; omega) (P.grant p.IP 2).1 (P.grant p.IP 2).2 rfl O (by rw [hg]; intro h; simp at h)
    rw [if_pos (by rw [hg]; show (-1:Int)<0; omega),<-e] at hra
    obtain ⟨g2,o2,hD,hP2⟩:=hra;rw [hD];simp only [Option.bind_some];rw [<-he];exact fin m _ _ I7 _ g' l' g2 o2 O O hr hA' hal' hP2
   ·have hnr:0<=n/\n<p.nodes:=by
     rcases hQ with rfl | rfl
     ·exact hA.pool.free.range n (by rw [hQf]; exact List.mem_cons_self ..)
     ·have hm:n∈(P.scan p.IP).fr:=by rw [hQf]; exact List.mem_cons_self ..
      exact (gk hA.pool.nod hm).elim (hA.pool.ret.range n) (hA.pool.free.range n)
    rcases hx with ⟨hh,rfl,rfl,rfl,he⟩ | ⟨hh,rfl,rfl,he,pre,Jk,e,rfl,hpl⟩
    ·obtain ⟨pre,Jk,e,hpl⟩:=hcut
     have hra:=rI (fu:=4000) (v:=v) (room:=p.retire) O O O hPR hA.pool.ret.range hA.pool.free.range hA.pool.nod O O O hpl (by rw [<-e]; omega) (P.grant p.IP 2).1 (P.grant p.IP 2).2 rfl O (by rw [hgn]; intro _; omega)
     rw [if_neg (by rw [hgn]; omega),if_pos hh,<-e,hgn] at hra
     obtain ⟨g2,o2,hD,hP2⟩:=hra;rw [hD];simp only [Option.bind_some];rw [<-he];exact fin m _ _ I7 _ g' l' g2 o2 O O hr hA' hal' hP2
    ·have hra:=rI (fu:=4000) (v:=v) (room:=p.retire) O O O hPR hA.pool.ret.range hA.pool.free.range hA.pool.nod O O O hpl (by rw [<-e]; omega) (P.grant p.IP 2).1 (P.grant p.IP 2).2 rfl O (by rw [hgn]; intro _; omega)
     rw [if_neg (by rw [hgn]; omega),if_neg (by rw [hh]; simp),<-e,hgn] at hra
     obtain ⟨g2,o2,hD,hP2⟩:=hra;rw [hD];simp only [Option.bind_some];rw [<-he];exact fin m _ _ I7 _ g' (pre++n::Jk) g2 o2 O O hr hA' hal' hP2
  ·rw [show (cl.kind.tmod 3==0)=false from by simp [h0]]
   simp only [cond_false]
   by_cases h1:cl.kind.tmod 3=1
   ·-- an entry is taken away
    rw [show (cl.kind.tmod 3==1)=true from by simp [h1]]
    simp only [cond_true]
    obtain ⟨m,I7,P',g',l',hm,hg',hr,hA',hal',he,hcase⟩:=hA.del hp O ht hd 4000 4000 O O k hal
    rcases hcase with ⟨hh,rfl,rfl,rfl,rfl⟩ | ⟨hh,pre,n,Jk,e,rfl,rfl,hpl⟩
    ·have hD:D.iA 4000 P'.fr P'.rt p.retire gl ol p.IP (IB p M.ws l') l' k=some (P'.fr,P'.rt,p.retire,gl,ol,p.IP,IB p M.ws l',l',KC k (IB p M.ws l')):=by
      unfold D.iA;rw [oR O O,hh];have:KC k (IB p M.ws l')=⟨6,0⟩:=by
       unfold KC;unfold J7 at hh
       cases hh':hiE k (IB p M.ws l') with
       | nil=>rfl
       | cons a r=>rw [hh'] at hh; simp only; rw [if_neg (by simpa using hh)]
      rw [this]
      rfl
     rw [hD]
     simp only [Option.bind_some]
     exact fin m _ _ M.ws P' g' l' gl ol O O hr hA' hal' hPR
    ·have hPRa:=hPR.re (n:=n) (s:=⟨(P.st n).IP,2,(P.st n).kind⟩) rfl
     obtain ⟨gd,od,hRd,hPRd⟩:=Ex (fu:=4000) (m:=p.IP) (room:=p.retire) (n:=n) (pre:=pre) (Jk:=Jk) (E:=IB p M.ws nl) O O O hPRa hA.pool.ret.range O (by simp only; omega) (by simp only; omega) hh hpl (by rw [<-e]; omega);rw [<-e] at hRd
     simp only at hRd
     rw [hRd]
     simp only [Option.bind_some]
     rw [<-he]
     exact fin m _ _ I7 (dropP p P n) g' (pre++Jk) gd od O O hr hA' hal' hPRd
   ·rw [show (cl.kind.tmod 3==1)=false from by simp [h1]]
    simp only [cond_false,Option.bind_some]
    obtain ⟨m,hm,hr⟩:=hA.get hp O ht hd 4000 O k;exact fin m _ _ M.ws P ga nl gl ol O O hr hA hal hPR
 ·rintro x ⟨P,ga,nl,gl,ol,b,M,rfl,_⟩
  simp only
  rw [show decide ((l.length:Int)<(l.length:Int))=false from by simp]
  exact ⟨_,rfl,by trivial⟩
end Go.Proofs.YtbbipmelhmgmfaaGreat

/- Ours. -/
namespace Go.Proofs.YtbbipmelhmgmfaaGreat
open Go.ChangeShapes Go.WideShapes Go.RowKit Go.Deep Go.ChangeAt
section
variable {H : Type} {enc : TypeId × Value -> H} {P : Program} {w : World} {base : Nat} {spare : Nat -> Bool} {held : Bool}
theorem Cm {α:Type} {l:List α} {j:Nat} (h:j<l.length):(l.drop j).take 1=[l[j]]:=by
 rw [List.drop_eq_getElem_cons h]
 rfl
theorem Cd {r:Reach} {b0:Nat} {t:TypeId} {fs:Array Go.Field} {v:Value} {d:DataW H} {p:List MemPlace} (ks:List IntKind) (hs:P.underlying t=some (.struct fs)) (hone:oneCellFields P fs=true)
  (hC:P.cellsOf t=fs.size) (hk:fs.toList.map (fun f=>P.underlying f.type)=ks.map fun k=>some (.int k))
  (hv:Value.okWide P w r b0 t v) (h:DataW.Trod enc P w base spare held t v d p) :
  ∃ ns:List Int,v=z6 (List.zipWith Value.int ks ns)/\ns.length=ks.length/\∀ q,q∈List.zip ks ns->(Lit.int q.1 q.2).wf=true:=by
 obtain ⟨cs,rfl,hsz⟩:=okWide_struct hs hv;obtain ⟨fuel,hf⟩:=h;obtain ⟨xs,n,_,hx,hl,hlen,hfs⟩:=DataW.trod_struct hs hf;have hkl:ks.length=fs.size:=by
  have:=congrArg List.length hk;simpa using this.symm
 have hcl:cs.size=fs.size:=hsz.trans hC;have hat:∀ j (hj:j<cs.size),∃ (k:IntKind) (m:Int),ks[j]?=some k/\cs[j]=.int k m/\(Lit.int k m).wf=true:=by
  intro j hj;have hjf:fs[j]?=some fs[j]:=by simp
  obtain ⟨ho,hc⟩:=hone_of hone j _ hjf;have h1:=hfs j _ hjf;rw [ho,hc] at h1
  have hcs:((Value.agg cs).cells.toList.drop j).take 1=[cs[j]]:=by
   have:=Cm (l:=cs.toList) (j:=j) (by simpa using hj)
   simpa [Value.cells] using this
  rw [hcs] at h1
  have hxs:xs[j]?=some (xs[j]'O):=by simp
  rw [hxs] at h1
  have hu:(fs.toList.map (fun f=>P.underlying f.type))[j]?=some (P.underlying fs[j].type):=by simp [hjf]
  rw [hk] at hu
  obtain ⟨k,hk1,hk2⟩:∃ k,ks[j]?=some k/\some (.int k)=P.underlying fs[j].type:=by
   simpa using hu
  obtain ⟨m,hm,_,hw⟩:=DataW.trod_int hk2.symm h1;exact ⟨k,m,hk1,by simpa using hm,hw⟩
 refine ⟨cs.toList.map intOf,?_,by simp; omega,?_⟩
 ·congr 1
  apply Array.ext_getElem?
  intro j
  rcases Nat.lt_or_ge j cs.size with hj | hj
  ·obtain ⟨k,m,h1,h2,_⟩:=hat j hj
   simp [List.getElem?_zipWith,h1,hj,h2,intOf]
  ·simp [List.getElem?_zipWith,hj]
 ·intro q hq
  obtain ⟨j,hj,he⟩:=List.mem_iff_getElem.1 hq;simp only [List.length_zip,List.length_map,Array.length_toList] at hj
  obtain ⟨k,m,h1,h2,h3⟩:=hat j O;have hk3:ks[j]'O=k:=by
   have:=List.getElem?_eq_getElem (l:=ks) (i:=j) O
   rw [h1] at this
   exact (Option.some.inj this).symm
  simp only [List.getElem_zip,List.getElem_map] at he
  rw [<-he]
  simp only [hk3,Array.getElem_toList,h2,intOf]
  exact h3
end
theorem xn {α:Type} {l:List α} (h:l.length=3):∃ x0 x1 x2,l=[x0,x1,x2]:=by
 match l,h with
 | [x0,x1,x2],_=>exact ⟨x0,x1,x2,rfl⟩
theorem GU {α:Type} {l:List α} (h:l.length=6):∃ x0 x1 x2 x3 x4 x5,l=[x0,x1,x2,x3,x4,x5]:=by
 match l,h with
 | [x0,x1,x2,x3,x4,x5],_=>exact ⟨x0,x1,x2,x3,x4,x5,rfl⟩
theorem laidOut:laidOutB Tryz.prog:=kz
end Go.Proofs.YtbbipmelhmgmfaaGreat

/- Ours. -/
namespace Go.Proofs.YtbbipmelhmgmfaaGreat
open Go.ChangeShapes Go.WideShapes Go.ChangeAt Go.RowKit
def ioN:List Nat:=[104,97,114,110,101,115,115,32,52,55,55,53,50,49,53,100,50,97,49,57,51,99,54,57,101,51,99,52,55,102,55,54,54,49,55,51,101,57,97,53,57,54,99,52,51,56,52,52,48,100,52,50,97,52,53,57,98,102,50,52,51,54,57,53,101,49,101,99,57,101,52,52,32,99,117,116,32,97,116,32,99,117,98,105,99,108,101,47,99,117,98,105,99,108,101,108,97,119,49,55,46,68,111,109,97,105,110,77,97,110,121,32,99,117,98,105,99,108,101,47,99,117,98,105,99,108,101,108,97,119,49,51,46,67,104,101,99,107,65,108,111,110,101,32,99,117,98,105,99,108,101,47,99,117,98,105,99,108,101,108,97,119,49,53,46,76,105,115,116,65,108,111,110,101,32,99,117,98,105,99,108,101,47,99,117,98,105,99,108,101,108,97,119,49,54,46,68,105,99,116,67,101,108,108,115,32,99,117,98,105,99,108,101,47,99,117,98,105,99,108,101,108,97,119,49,54,46,68,105,99,116,66,117,99,107,101,116,115,32,99,117,98,105,99,108,101,47,99,117,98,105,99,108,101,108,97,119,49,54,46,68,105,99,116,65,112,97,114,116,32,99,117,98,105,99,108,101,47,99,117,98,105,99,108,101,108,97,119,49,54,46,68,105,99,116,65,108,111,110,101,32,99,117,98,105,99,108,101,47,99,117,98,105,99,108,101,108,97,119,49,55,46,68,111,109,97,105,110,79,100,100,32,99,117,98,105,99,108,101,47,99,117,98,105,99,108,101,108,97,119,49,50,46,65,108,108,111,99,77,97,110,121]
theorem io1:Tryz.prog.initOrder=String.ofList (ioN.map Char.ofNat):=kz
theorem io2:Tryz.prog.initOrder.toList=ioN.map Char.ofNat:=by rw [io1,String.toList_ofList]
theorem io3:behindMainWord (wordsSigns Tryz.prog.initOrder.toList)=(([99,117,116]:List Nat).map Char.ofNat)::([[97,116],[99,117,98,105,99,108,101,47,99,117,98,105,99,108,101,108,97,119,49,55,46,68,111,109,97,105,110,77,97,110,121],[99,117,98,105,99,108,101,47,99,117,98,105,99,108,101,108,97,119,49,51,46,67,104,101,99,107,65,108,111,110,101],[99,117,98,105,99,108,101,47,99,117,98,105,99,108,101,108,97,119,49,53,46,76,105,115,116,65,108,111,110,101],[99,117,98,105,99,108,101,47,99,117,98,105,99,108,101,108,97,119,49,54,46,68,105,99,116,67,101,108,108,115],[99,117,98,105,99,108,101,47,99,117,98,105,99,108,101,108,97,119,49,54,46,68,105,99,116,66,117,99,107,101,116,115],[99,117,98,105,99,108,101,47,99,117,98,105,99,108,101,108,97,119,49,54,46,68,105,99,116,65,112,97,114,116],[99,117,98,105,99,108,101,47,99,117,98,105,99,108,101,108,97,119,49,54,46,68,105,99,116,65,108,111,110,101],[99,117,98,105,99,108,101,47,99,117,98,105,99,108,101,108,97,119,49,55,46,68,111,109,97,105,110,79,100,100],[99,117,98,105,99,108,101,47,99,117,98,105,99,108,101,108,97,119,49,50,46,65,108,108,111,99,77,97,110,121]]:List (List Nat)).map (List.map Char.ofNat):=by rw [io2]; kernel_rfl
theorem stripG (r:List (List Char)):stripLifts liftWords (([99,117,116].map Char.ofNat)::r)=([],([99,117,116].map Char.ofNat)::r):=by rfl
theorem makeG {P:Program} {r:List (List Char)} (h:behindMainWord (wordsSigns P.initOrder.toList)=([99,117,116].map Char.ofNat)::r):P.make=some .cut:=by
  unfold Program.make;rw [h]
  rfl
theorem liftsG {P:Program} {r:List (List Char)} (h:behindMainWord (wordsSigns P.initOrder.toList)=([99,117,116].map Char.ofNat)::r):P.liftsFinal=false:=by
  unfold Program.liftsFinal Program.headLifts;rw [h,stripG]
  rfl
theorem enterG {P:Program} {r:List (List Char)} (h:behindMainWord (wordsSigns P.initOrder.toList)=([99,117,116].map Char.ofNat)::r) (h1:P.laysLater=false) (h2:P.bearsReflect=false) (h3:P.doorFits []=true):P.mayEnter=true:=by
  unfold Program.mayEnter;rw [h];simp only [stripG,h1,h2,h3]
  rfl
theorem e1:Tryz.prog.laysLater=false:=kz
theorem e2:Tryz.prog.bearsReflect=false:=kz
theorem e3:Tryz.prog.doorFits []=true:=kz
theorem Ei:Tryz.prog.make=some .cut:=makeG io3
theorem DG:Tryz.prog.liftsFinal=false:=liftsG io3
theorem Dt:Tryz.prog.mayEnter=true:=enterG io3 e1 e2 e3
theorem Eb:mapsRowed Tryz.prog:=kz
theorem Dw:Tryz.prog.stopsHeard=true:=kz
end Go.Proofs.YtbbipmelhmgmfaaGreat

/- Ours. -/
namespace Go.Proofs.YtbbipmelhmgmfaaGreat
open Go.ChangeShapes Go.WideShapes Go.RowKit Go.Deep Go.ChangeAt
section
variable {H : Type} {enc : TypeId × Value -> H} {P : Program} {w : World} {base : Nat} {spare : Nat -> Bool} {held : Bool}
def flatF (P:Program) (k:TypeId->Option (List IntKind)):Nat->List Go.Field->Option (List IntKind)
 | _,[]=>some []
 | off,f::fs=>if f.offset=off then (k f.type).bind fun ks=>if ks.length=P.cellsOf f.type then (flatF P k (off+P.cellsOf f.type) fs).map (ks++·) else none else none
def flatK (P:Program):Nat->TypeId->Option (List IntKind)
 | 0,_=>none
 | n+1,t=>match P.underlying t with
  | some (.int k)=>some [k]
  | some (.struct fs)=>(flatF P (flatK P n) 0 fs.toList).bind fun ks=>if ks.length=P.cellsOf t then some ks else none
  | _=>none
def Ints (ks:List IntKind) (cs:List Value):Prop:=∃ ns:List Int,cs=List.zipWith Value.int ks ns/\ns.length=ks.length/\∀ q,q∈List.zip ks ns->(Lit.int q.1 q.2).wf=true
theorem Ints.append {ks ks':List IntKind} {cs cs':List Value} (h:Ints ks cs) (h':Ints ks' cs'):Ints (ks++ks') (cs++cs'):=by
 obtain ⟨ns,rfl,h2,h3⟩:=h;obtain ⟨ns',rfl,h2',h3'⟩:=h';refine ⟨ns++ns',(List.zipWith_append h2.symm).symm,by simp [h2,h2'],fun q hq=>?_⟩
 rw [List.zip_append h2.symm] at hq
 rcases List.mem_append.1 hq with hq | hq
 ·exact h3 q hq
 ·exact h3' q hq
theorem uS {k:TypeId->Option (List IntKind)} {m:Nat} {cs:List Value} (hk:∀ t ks cs x,k t=some ks->DataW.trod enc P w base spare held m t cs=some x->Ints ks cs):∀ (fs:List Go.Field) (off:Nat) (ks:List IntKind),flatF P k off fs=some ks->
  (∀ f,f∈fs->∃ y,DataW.trod enc P w base spare held m f.type ((cs.drop f.offset).take (P.cellsOf f.type))=some y)->Ints ks ((cs.drop off).take ks.length)
 | [],off,ks,h,_=>by
  obtain rfl:=Option.some.inj h;exact ⟨[],by simp,rfl,fun q hq=>by simp at hq⟩
 | f::fs,off,ks,h,hf=>by
  unfold flatF at h
  split at h
  ·rename_i ho
   obtain ⟨k1,h1,h⟩:=Option.bind_eq_some_iff.1 h
   split at h
   ·rename_i hl
    obtain ⟨k2,h2,rfl⟩:=Option.map_eq_some_iff.1 h;obtain ⟨y,hy⟩:=hf f (List.mem_cons_self ..);have i1:=hk _ _ _ _ h1 hy;have i2:=uS hk fs _ k2 h2 fun g hg=>hf g (List.mem_cons_of_mem _ hg)
    rw [ho,<-hl] at i1
    rw [List.length_append,List.take_add,List.drop_drop,hl]
    rw [hl] at i1
    exact i1.append i2
   ·cases h
  ·cases h
theorem vE:∀ (n:Nat) (t:TypeId) (ks:List IntKind) (m:Nat) (cs:List Value) (x:DataW H × List MemPlace),flatK P n t=some ks->DataW.trod enc P w base spare held m t cs=some x->Ints ks cs
 | 0,_,_,_,_,_,h,_=>by cases h
 | n+1,t,ks,m,cs,x,h,hd=>by
  unfold flatK at h
  split at h
  ·rename_i k hu
   obtain rfl:=Option.some.inj h;obtain ⟨z,h1,_,h2⟩:=DataW.trod_int hu hd;subst h1;exact ⟨[z],rfl,rfl,fun q hq=>by
    rcases List.mem_singleton.1 hq with rfl
    exact h2⟩
  ·rename_i fs hu
   obtain ⟨ks',h1,h2⟩:=Option.bind_eq_some_iff.1 h
   split at h2
   ·rename_i hl
    obtain rfl:=Option.some.inj h2;obtain ⟨xs,m',_,hx,hcl,hlen,hfs⟩:=DataW.trod_struct hu hd;have:=uS (m:=m') (cs:=cs) (fun t ks cs x=>vE n t ks m' cs x) fs.toList 0 ks' h1 fun f hf=>by
     obtain ⟨j,hj,he⟩:=List.mem_iff_getElem.1 hf;have hj':fs[j]?=some f:=by rw [<-he]; simp
     have h3:=hfs j f hj';have hjs:j<fs.size:=by simpa using hj
     exact ⟨_,h3.trans (List.getElem?_eq_getElem (show j<xs.length by omega))⟩
    rw [List.drop_zero,List.take_of_length_le O] at this
    exact this
   ·cases h2
  ·cases h
theorem CP {α:Type} {T:TypeId} {t e:TypeId} {v:Value} {d:DataW H} {p:List MemPlace} {sz:Nat} (f:α->List Value) (Pr:α->Prop) (z:α) (ht:P.underlying t=some (.slice e))
  (hel:∀ m cs x,DataW.trod enc P w base spare held m e cs=some x->∃ y,cs=f y/\Pr y) (hc:P.cellsOf e=sz) (hpos:0<sz) (hfl:∀ x,(f x).length=sz)
  (hv:∃ a len cap,v=.slice a len cap) (h:DataW.Trod enc P w base spare held t v d p):∃ xs:List α,I1 T sz f v xs w/\∀ x,x∈xs->Pr x:=by
 obtain ⟨a,len,cap,rfl⟩:=hv;obtain ⟨fuel,hd⟩:=h
 rcases open_slice ht hd with ⟨h1,_⟩ | ⟨ad,n',c,m,q,D,Pl,h1,_,hnc,_,hm,_,hcell⟩
 ·simp only [Value.cells,List.cons.injEq,and_true] at h1
  injection h1 with h1 h2 h3
  subst h1; subst h2; subst h3;exact ⟨[],.inl ⟨_,_,rfl,rfl⟩,fun _ h=>by cases h⟩
 ·simp only [Value.cells,List.cons.injEq,and_true] at h1
  injection h1 with h1 h2 h3
  subst h1; subst h2; subst h3;have hlen:len<=m:=by rw [hm]; split <;> omega
  have hI:∀ i,i<len->∃ y:α,w.cells? base (ad.add (i * sz)) sz=some (f y)/\Pr y:=fun i hi=>by
   obtain ⟨cs',h1,h2⟩:=hcell i O;obtain ⟨y,h3,h4⟩:=hel q cs' _ h2;rw [hc,h3] at h1
   exact ⟨y,h1,h4⟩
  obtain ⟨g,hg⟩:=Classical.axiomOfChoice (r:=fun (i:Nat) (y:α)=>i<len->w.cells? base (ad.add (i * sz)) sz=some (f y)/\Pr y)
   (fun i=>by
    by_cases hi:i<len
    ·obtain ⟨y,h⟩:=hI i hi; exact ⟨y,fun _=>h⟩
    ·exact ⟨z,fun h=>absurd h hi⟩)
  refine ⟨(List.range len).map fun i=>g i,?_,fun x hx=>?_⟩
  ·cases len with
   | zero=>exact .inl ⟨_,_,rfl,rfl⟩
   | succ m0=>
    have hz:∀ i,i<m0+1->∀ j u,(f ((g i)))[j]?=some u->w.cell? ((ad.add (i * sz)).add j)=some u:=fun i hi j u hu=>by
     obtain ⟨h1,_⟩:=hg i hi;obtain ⟨_,h4,h5⟩:=World.cells?_some h1;have hj:j<(f (g i)).length:=(List.getElem?_eq_some_iff.1 hu).1;rw [h5 j O,hu]
    have h0:=hz 0 O 0 ((f ((g 0)))[0]'(by rw [hfl]; exact hpos)) yas
    have hadd:(ad.add (0 * sz)).add 0=ad:=by rw [Nat.zero_mul]; rfl
    rw [hadd] at h0
    have hsp:ad.spot=none:=by
     unfold World.cell? at h0
     split at h0
     ·split at h0
      ·cases h0
      ·rename_i h; simpa using h
     ·cases h0
    obtain ⟨gB,o,sp⟩:=ad;simp only at hsp
    subst hsp;have hx:∃ cur E fz,w.heap[gB]?=some (.cells cur E fz):=by
     unfold World.cell? at h0
     split at h0
     ·rename_i c' E fz hh; exact ⟨c',E,fz,hh⟩
     ·cases h0
    obtain ⟨cur,E,fz,hh⟩:=hx;refine .inr ⟨gB,o,cap,cur,E,fz,by simp,?_,hh,?_,by simpa using hnc⟩
    ·intro he
     have:=congrArg List.length he;simp at this
    ·have hll:((List.range (m0+1)).map fun i=>g i).length=m0+1:=by simp
     apply List.ext_getElem?
     intro q;rw [hll]
     by_cases hq:q<(m0+1) * sz
     ·have hi:q / sz<m0+1:=(Nat.div_lt_iff_lt_mul hpos).2 hq
      have hj:q % sz<sz:=Nat.mod_lt _ hpos;have hqq:q / sz * sz+q % sz=q:=by rw [Nat.mul_comm]; exact Nat.div_add_mod q sz
      have h1:=hz (q / sz) hi (q % sz) ((f ((g (q / sz))))[q % sz]'(by rw [hfl]; exact hj)) yas
      rw [Addr.add_lit,Addr.add_lit] at h1
      simp only [World.cell?,hh] at h1
      have h2:=nW hfl ((List.range (m0+1)).map fun i=>g i) (q / sz) (by rw [hll]; exact hi) (q % sz) ((f ((g (q / sz))))[q % sz]'(by rw [hfl]; exact hj)) yas
      rw [hqq] at h2
      rw [h2,List.getElem?_take,if_pos hq,List.getElem?_drop]
      rw [Nat.add_assoc,hqq] at h1
      simpa using h1
     ·rw [List.getElem?_take,if_neg hq,List.getElem?_eq_none]
      rw [gT hfl,hll]
      omega
  ·obtain ⟨i,hi,rfl⟩:=List.mem_map.1 hx
   exact (hg i (List.mem_range.1 hi)).2
theorem D6 {α:Type} {T:TypeId} {r:Reach} {b0:Nat} {t e:TypeId} {v:Value} {d:DataW H} {p:List MemPlace} {sz:Nat} (f:α->List Value) (Pr:α->Prop) (z:α) (ht:P.underlying t=some (.slice e))
  (hel:∀ m cs x,DataW.trod enc P w base spare held m e cs=some x->∃ y,cs=f y/\Pr y) (hc:P.cellsOf e=sz) (hpos:0<sz) (hfl:∀ x,(f x).length=sz)
  (hv:Value.okWide P w r b0 t v) (h:DataW.Trod enc P w base spare held t v d p):∃ xs:List α,I1 T sz f v xs w/\∀ x,x∈xs->Pr x:=
 CP f Pr z ht hel hc hpos hfl (okWide_slice ht hv) h
theorem D2 {α:Type} {T:TypeId} {r:Reach} {b0:Nat} {t e:TypeId} {v:Value} {d:DataW H} {p:List MemPlace} (n:Nat) (ks:List IntKind) (f:α->List Value) (dec:List Int->α) (ht:P.underlying t=some (.slice e)) (hk:flatK P n e=some ks)
  (hc:P.cellsOf e=ks.length) (hdec:∀ ns:List Int,ns.length=ks.length->f (dec ns)=List.zipWith Value.int ks ns) (hpos:0<ks.length) (hfl:∀ x,(f x).length=ks.length)
  (hv:Value.okWide P w r b0 t v) (h:DataW.Trod enc P w base spare held t v d p) :
  ∃ xs:List α,I1 T ks.length f v xs w/\∀ x,x∈xs->∃ ns:List Int,x=dec ns/\ns.length=ks.length/\∀ q,q∈List.zip ks ns->(Lit.int q.1 q.2).wf=true:=
 D6 f (fun x=>∃ ns:List Int,x=dec ns/\ns.length=ks.length/\∀ q,q∈List.zip ks ns->(Lit.int q.1 q.2).wf=true) (dec []) ht (fun m cs x hx=>by
  obtain ⟨ns,h1,h2,h3⟩:=vE n e ks m cs x hk hx;exact ⟨dec ns,by rw [hdec ns h2]; exact h1,ns,rfl,h2,h3⟩) hc hpos hfl hv h
end
end Go.Proofs.YtbbipmelhmgmfaaGreat

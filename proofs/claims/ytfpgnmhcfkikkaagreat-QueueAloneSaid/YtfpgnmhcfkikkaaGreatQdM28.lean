/- Some of our texts, one behind the other. -/
import Derived.Test.YtfpgnmhcfkikkaaGreatQdM22
import Derived.Test.YtfpgnmhcfkikkaaGreatQdM23
import Derived.Test.YtfpgnmhcfkikkaaGreatQdM25
import Derived.Test.YtfpgnmhcfkikkaaGreatQdM18
import Derived.Test.YtfpgnmhcfkikkaaGreatQdLawQA
import Derived.WalkKit
import Derived.ProofKit
import Derived.OpenShut
import Derived.ShutString
import Derived.ChangeOld
import Derived.Below
import Derived.Carry
import Derived.SizedLaws
import Derived.Deep.Slices
import Derived.Deep.Fields
import Derived.ChangeSame
import Derived.Test.YtfpgnmhcfkikkaaGreatRows
import Derived.ChangeSlices
import Derived.Test.YtfpgnmhcfkikkaaGreatQdM7
set_option linter.all false
/- Ours. -/
namespace Go.Proofs.YtfpgnmhcfkikkaaGreat
open Go.RowKit
theorem lU {p:Plan} (hp:PF p) (hdm:0<p.domains) (hnn:p.nodes≤40) {M:Mem} (hl:Len p M.ws) {a:Int} {r:List Int} (hd:rd M.ws 2=a+1) (hk:Link p M.ws a r) (hn:(a::r).Nodup) (hr:∀ q,q∈a::r→0≤q∧q<p.nodes) :
    D.ik 4000 p M 0 0=some (r.map fun q=>rd M.ws (fp p q 1)):=by
  have h4:=haz4 hp hdm;obtain ⟨z1,z2,z3,z4⟩:=bZ hp;unfold Len at hl
  have hn1:=hp.n1;have ht1:=hp.t1;have hrl:((a::r).length:Int)≤p.nodes:=by
    have:=jE (k:=allN p) hn fun q hq=>by
      have:=hr q hq;exact List.mem_map.2 ⟨q.toNat,List.mem_range'_1.2 (by omega),by omega⟩
    have h2:(allN p).length=p.nodes.toNat:=by unfold allN; simp
    omega
  unfold D.ik;rw [jL hp hdm (by omega),m7 (by omega) (by omega)];simp only [Option.bind_some];rw [show (2:Int)+0=2 from rfl,hd]
  have key:∀ (s:List Int) (b:Int) (acc:List Int) (k:Nat),Link p M.ws b s→(∀ q,q∈b::s→0≤q∧q<p.nodes)→(acc.length:Int)+s.length+1≤p.nodes→s.length<k→
      (runLoop (fun (x9:List Int × Int)=>(bif (decide ((x9.1.length:Int)<p.nodes)) then ((D.eL 4000 M 0 (D.bS p (D.bq x9.2) 2)).bind (fun (x14:Int)=>(bif (x14==0) then (some (Lp.brk (Z:=List Int) (x9.1,x14))) else ((D.eL 4000 M 0 (D.bS p (D.bq x14) 1)).bind (fun (x17:Int)=>((appD x9.1 ([x17])).bind (fun (x21:List Int)=>(some (Lp.next (x21,x14)))))))))) else (some (Lp.brk (x9.1,x9.2))))) k (acc,b+1)).bind (afterLoop fun (x25:List Int × Int)=>(some x25.1))=some (acc++s.map fun q=>rd M.ws (fp p q 1)):=by
    intro s
    induction s with
    | nil=>
      intro b acc k hk hr hc hlt;obtain ⟨k,rfl⟩:∃ q,k=q+1:=⟨k - 1,by omega⟩
      have hb:=hr b (List.mem_cons_self ..);obtain ⟨q1,q2,q3⟩:=dF hp hb;have hfp:fp p b 2=sp p b+2+2:=rfl;simp only [runLoop];rw [show decide ((acc.length:Int)<p.nodes)=true from by simp; simp at hc; omega]
      simp only [cond_true]
      rw [qnode (by omega) (by omega),show b+1 - 1=b from by omega,eD hp hb (by omega),show D.aJ p+b * 5+2+2=fp p b 2 from rfl,m7 (by omega) (by omega),hk.2]
      simp [afterLoop,goOn]
    | cons c s ih=>
      intro b acc k hk hr hc hlt;obtain ⟨k,rfl⟩:∃ q,k=q+1:=⟨k - 1,by omega⟩
      have hb:=hr b (List.mem_cons_self ..);have hcr:=hr c (List.mem_cons_of_mem _ (List.mem_cons_self ..));obtain ⟨q1,q2,q3⟩:=dF hp hb;obtain ⟨y1,y2,y3⟩:=dF hp hcr;have hfp:fp p b 2=sp p b+2+2:=rfl;have hfc:fp p c 1=sp p c+2+1:=rfl;simp only [List.length_cons,Int.natCast_add,Int.natCast_one] at hc hlt
      have h1:=ih c (acc++[rd M.ws (fp p c 1)]) k hk.2 (fun q hq=>hr q (List.mem_cons_of_mem _ hq)) (by simp; omega) (by omega)
      rw [show acc++(c::s).map (fun q=>rd M.ws (fp p q 1))=(acc++[rd M.ws (fp p c 1)])++s.map (fun q=>rd M.ws (fp p q 1)) from by simp,←h1]
      simp only [runLoop]
      rw [show decide ((acc.length:Int)<p.nodes)=true from by simp; omega]
      simp only [cond_true]
      rw [qnode (by omega) (by omega),show b+1 - 1=b from by omega,eD hp hb (by omega),show D.aJ p+b * 5+2+2=fp p b 2 from rfl,m7 (by omega) (by omega),hk.1]
      simp only [Option.bind_some]
      rw [show (c+1==0)=false from by simp; omega]
      simp only [cond_false]
      rw [qnode (by omega) (by omega),show c+1 - 1=c from by omega,eD hp hcr (by omega),show D.aJ p+c * 5+2+1=fp p c 1 from rfl,m7 (by omega) (by omega)]
      have ha:appD acc [rd M.ws (fp p c 1)]=some (acc++[rd M.ws (fp p c 1)]):=by unfold appD; rw [if_pos (by simp only [jH,List.length_singleton]; omega)]
      simp only [Option.bind_some,ha,goOn]
  simp only [List.length_cons,Int.natCast_add,Int.natCast_one] at hrl
  have h1:=key r a [] 4000 hk hr (by simp; omega) (by omega)
  rw [List.nil_append] at h1
  exact h1
theorem lR {fu:Nat} {l:List Int} (h:l.length<fu) (h2:l.length≤900000):D.kY fu l l=some true:=zQ h h2
theorem pA {p:Plan} {a:Int} {r:List Int} (hn:(a::r).Nodup) (hr:∀ q,q∈a::r→0≤q∧q<p.nodes):(r.length:Int)+1≤p.nodes:=by
  have:=jE (k:=allN p) hn fun q hq=>by
    have:=hr q hq;exact List.mem_map.2 ⟨q.toNat,List.mem_range'_1.2 (by omega),by omega⟩
  have h0:=hr a (List.mem_cons_self ..);have h2:(allN p).length=p.nodes.toNat:=by unfold allN; simp
  simp only [List.length_cons] at this
  omega
theorem s5 {α:Type} {a:α} {l:List α}:sliceD (a::l) 1 (((a::l).length:Nat):Int)=some l:=by
  unfold sliceD;rw [if_pos (by simp only [List.length_cons]; omega)];simp
theorem yo (p:Plan) (l:List Int) (_:-9223372036854775808≤p.nodes∧p.nodes≤9223372036854775807) (_:-9223372036854775808≤p.threads∧p.threads≤9223372036854775807)
    (_:-9223372036854775808≤p.retire∧p.retire≤9223372036854775807) (_:-9223372036854775808≤p.domains∧p.domains≤9223372036854775807) (_:-9223372036854775808≤p.buckets∧p.buckets≤9223372036854775807)
    (_:-9223372036854775808≤p.gen∧p.gen≤9223372036854775807) (hb:∀ n,n∈l→-32768≤n∧n≤32767):∃ fu,Wk.D.kr fu p l=some true:=by
  refine ⟨4000,?_⟩;unfold Wk.D.kr;rw [Ac];simp only [Option.bind_some,Bool.not_true,cond_false];cases hfw:D.dq p
  case false=>rfl
  simp only [Bool.not_true,cond_false,Option.bind_some]
  cases hl:decide ((l.length:Int) > 60)
  case true=>rfl
  simp only [decide_eq_false_iff_not] at hl
  simp only [cond_false]
  obtain ⟨hp,hfw,hdm⟩:=A8 hfw;have ht1:=hp.t1;have hn1:=hp.n1;have hr1:=hp.r1;have hr2:=hp.r2;have ht:(0:Int)≤0∧0<p.threads:=by omega
  obtain ⟨z1,z2,z3,z4⟩:=bZ hp;obtain ⟨M,st0,hM,hQ0,hm0,hs0⟩:=Bk hp hfw hdm ht l;rw [hM];simp only [Option.bind_some];have hall:allN p=(0:Int)::sq 1 (p.nodes.toNat - 1):=by
    have:allN p=sq 0 (p.nodes.toNat - 1+1):=by unfold allN sq; rw [show p.nodes.toNat - 1+1=p.nodes.toNat from by omega]
    rw [this,tO]; rfl
  have hC0:CAt p 0 M.ws ⟨sq 1 (p.nodes.toNat - 1),[],st0⟩ 1 0 []:=by
    refine ⟨hQ0.pool,⟨fun q q0 q1=>?_,fun q _=>hm0 q,fun q hq=>?_⟩,by simp,fun q hq=>?_,by rw [hQ0.hd]; rfl,by rw [hQ0.tl]; rfl,hQ0.last⟩
    · by_cases e:q=0
      · exact .inr (.inr (.inl (by simp [e])))
      · exact .inl (List.mem_map.2 ⟨q.toNat,List.mem_range'_1.2 (by omega),by omega⟩)
    · rw [List.mem_singleton.1 hq]
      exact hQ0.out 0 (by omega) (by omega)
    · rw [List.mem_singleton.1 hq]; omega
  obtain ⟨g0,o0,hN,hPR0⟩:=AC hp (by omega) (room:=p.retire) (m:=p.gen) (fu:=4000) (by omega);obtain ⟨g1,o1,hG,hPR1⟩:=sF (fu:=4000) (m:=p.gen) (room:=p.retire) (k:=1) hPR0 (fun _ h=>(by cases h)) (fun n hn=>by
    unfold allN at hn
    obtain ⟨q,hq,rfl⟩:=List.mem_map.1 hn;have:=List.mem_range'_1.1 hq;omega) List.nodup_nil (by omega) (by simp only [allN,List.length_map,List.length_range']; omega) (by simp) (by omega)
  have hgr:(⟨allN p,[],fun _=>⟨0,0,0⟩⟩:Pool).grant p.gen 1=(⟨sq 1 (p.nodes.toNat - 1),[],fun q=>if q=0 then ⟨0,1,1⟩ else ⟨0,0,0⟩⟩,⟨0,0,0⟩):=by
    unfold Pool.grant Pool.out;rw [hall]
    rfl
  rw [hgr] at hG hPR1
  have hPRc:PR p.nodes ⟨sq 1 (p.nodes.toNat - 1),[],st0⟩ g1 o1:=by
    refine ⟨hPR1.gl,hPR1.ol,fun n n0 n1=>?_⟩
    rw [hPR1.gen n n0 n1,hs0 n]
    show (if n=0 then (⟨0,1,1⟩:State) else ⟨0,0,0⟩).gen=0
    split <;> rfl
  have hMk:D.j7 4000 p.nodes p.retire p.gen=some (sq 1 (p.nodes.toNat - 1),[],p.retire,g1,o1,p.gen,[],[0],0):=by
    unfold D.j7;rw [hN];simp only [Option.bind_some];simp only at hG
    rw [hG]
    rfl
  rw [hMk]
  simp only [Option.bind_some]
  rw [show ((0:Int) !=0)=false from rfl]
  simp only [cond_false]
  refine m5 (fun o=>o=some true) (fun (i:Nat) (x:Bool × Int × Mem × List Int × List Int × Int × List Int × List Bool × Int × List Int × List Int)=>∃ (P:Pool) (ga a:Int) (r gl:List Int) (ol:List Bool) (b:Bool) (M:Mem),
      x=(b,(i:Int),M,P.fr,P.rt,p.retire,gl,ol,p.gen,(r.map fun q=>rd M.ws (fp p q 1)),a::r)∧ga≤1+100 * (i:Int)∧CAt p 0 M.ws P ga a r∧PR p.nodes P gl ol) l.length 4000
    ⟨⟨sq 1 (p.nodes.toNat - 1),[],st0⟩,1,0,[],g1,o1,false,M,rfl,by omega,hC0,hPRc⟩ (by omega) ?_ ?_
  · rintro i x hi ⟨P,ga,a,r,gl,ol,b,M,rfl,hga,hC,hPR⟩
    simp only
    have hrl:=pA hC.nd hC.rg;have hcf:=hC.pool.free.count (by omega)
    have hrm:=hC.pool.ret.room;have hbi:=hb _ (List.getElem_mem hi);rw [show decide ((i:Int)<(l.length:Int))=true from by simp; omega,bV (show -1000000≤(i:Int)+1 by omega) (by omega)]
    simp only [cond_true]
    have hPRa:=hPR.re (n:=a) (s:=⟨(P.st a).gen,2,(P.st a).kind⟩) rfl;obtain ⟨gd,od,hRd,hPRd⟩:=zE (fu:=4000) (m:=p.gen) (room:=p.retire) (n:=a) hPRa hC.pool.ret.range (by omega) (by simp only; omega) (by simp only; omega) (by omega)
    simp only at hRd
    generalize hQd:(⟨P.fr,P.rt,fun q=>if q=a then ⟨(P.st a).gen,2,(P.st a).kind⟩ else P.st q⟩:Pool).stash p.retire p.gen a=Qd at hRd hPRd
    have hDq:D.iX 4000 P.fr P.rt p.retire gl ol p.gen (r.map fun q=>rd M.ws (fp p q 1)) (a::r)=some (match r with
        | []=>(P.fr,P.rt,p.retire,gl,ol,p.gen,[],[a],⟨6,0⟩)
        | c::r'=>(Qd.fr,Qd.rt,p.retire,gd,od,p.gen,(r'.map fun q=>rd M.ws (fp p q 1)),c::r',⟨0,rd M.ws (fp p c 1)⟩)):=by
      cases r with
      | nil=>rfl
      | cons c r'=>
        unfold D.iX;rw [show ((((c::r').map fun q=>rd M.ws (fp p q 1)).length:Int)==0)=false from by simp only [List.length_map,List.length_cons,beq_eq_false_iff_ne]; omega]
        simp only [cond_false,List.map_cons]
        rw [show getI (rd M.ws (fp p c 1)::r'.map fun q=>rd M.ws (fp p q 1)) 0=some (rd M.ws (fp p c 1)) from rfl,show getI (a::c::r') 0=some a from rfl,s5,s5]
        simp only [Option.bind_some]
        rw [hRd]
        rfl
    rw [hDq,iB hi]
    simp only [Option.bind_some,pD]
    by_cases hpos:l[i]≥0
    · -- a put
      rw [show decide (l[i]≥0)=true from decide_eq_true hpos]
      simp only [cond_true,Option.bind_some]
      obtain ⟨m,ws',g',hm,hg',hv,hor⟩:=hC.enqV hp hdm hfw.1 hfw.2.1 ht 4000 (by omega) (by omega) (IntKind.u64.wrap l[i]);obtain ⟨ge,oe,hRe,hPRe⟩:=sF (fu:=4000) (m:=p.gen) (room:=p.retire) (k:=1) hPR hC.pool.ret.range hC.pool.free.range hC.pool.nod (by omega) (by omega) (by omega) (by omega);unfold D.kv;rw [hRe];simp only [Option.bind_some]
      generalize hQ:P.grant p.gen 1=Q at hor hPRe ⊢
      have hvm:∀ s:List Int,(∀ q,q∈s→q∈a::r)→(s.map fun q=>rd ws' (fp p q 1))=s.map fun q=>rd M.ws (fp p q 1):=fun s hs=>List.map_congr_left fun q hq=>hv q (hs q hq)
      rcases hor with ⟨hq,hr,hC'⟩ | ⟨hq,hr,hC',hval⟩
      · rw [hq,show decide ((-1:Int)<0)=true from rfl]
        simp only [cond_true,Option.bind_some]
        obtain ⟨c,hc⟩:=runR (fu:=4000) (most:=100000) (M:=M) hr (by omega) (by omega) (by omega);rw [hc];simp only [Option.bind_some];rw [show ((⟨4,0⟩:Res)==⟨4,0⟩)=true from rfl,lU hp hdm hfw.1 (M:=⟨ws',c⟩) hC'.pool.free.len hC'.hd hC'.link hC'.nd hC'.rg,hvm r fun q hq=>List.mem_cons_of_mem _ hq]
        simp only [Bool.not_true,cond_false,Option.bind_some]
        rw [lR (by simp; omega) (by simp; omega)]
        refine ⟨_,rfl,Q.1,g',a,r,ge,oe,b,⟨ws',c⟩,?_,by omega,hC',hPRe⟩
        simp only
        rw [hvm r fun q hq=>List.mem_cons_of_mem _ hq]
        simp
      · have hrl':=pA hC'.nd hC'.rg
        rw [show decide (Q.2.node<0)=false from by rw [decide_eq_false_iff_not]; omega,dB (a:=([]:List Int)) (b:=r.map fun q=>rd M.ws (fp p q 1)) (by simp; omega),dB (a:=([]:List Int)) (b:=a::r) (by simp; omega)]
        simp only [cond_false,Option.bind_some,List.nil_append]
        rw [dB (by simp; omega)]
        simp only [Option.bind_some]
        rw [dB (by simp; omega)]
        simp only [Option.bind_some]
        obtain ⟨c,hc⟩:=runR (fu:=4000) (most:=100000) (M:=M) hr (by omega) (by omega) (by omega);rw [hc];simp only [Option.bind_some];have hvl:((r++[Q.2.node]).map fun q=>rd ws' (fp p q 1))=(r.map fun q=>rd M.ws (fp p q 1))++[IntKind.u64.wrap l[i]]:=by
          rw [List.map_append,hvm r fun q hq=>List.mem_cons_of_mem _ hq]
          simp only [List.map_cons,List.map_nil]
          rw [hval]
        rw [show ((⟨0,0⟩:Res)==⟨0,0⟩)=true from rfl,lU hp hdm hfw.1 (M:=⟨ws',c⟩) hC'.pool.free.len hC'.hd hC'.link hC'.nd hC'.rg,hvl]
        simp only [Bool.not_true,cond_false,Option.bind_some]
        rw [lR (by simp; omega) (by simp; omega)]
        refine ⟨_,rfl,Q.1,g',a,r++[Q.2.node],ge,oe,b,⟨ws',c⟩,?_,by omega,hC',hPRe⟩
        simp only
        rw [hvl]
        simp
    · -- a take
      rw [show decide (l[i]≥0)=false from decide_eq_false hpos]
      simp only [cond_false,Option.bind_some]
      rcases hC.deqV hp hdm hfw.1 hfw.2.1 ht 4000 (by omega) (by omega) with ⟨rfl,m,ws',hm,hr,hC'⟩ | ⟨c0,r',m,ws',g',rfl,hm,hg',hr,hC',hv⟩
      · obtain ⟨c,hc⟩:=runR (fu:=4000) (most:=100000) (M:=M) hr (by omega) (by omega) (by omega)
        rw [hc]
        simp only [Option.bind_some]
        rw [show ((⟨6,0⟩:Res)==⟨6,0⟩)=true from rfl,lU hp hdm hfw.1 (M:=⟨ws',c⟩) hC'.pool.free.len hC'.hd hC'.link hC'.nd hC'.rg]
        simp only [Bool.not_true,cond_false,Option.bind_some,List.map_nil]
        rw [lR (by simp) (by simp)]
        exact ⟨_,rfl,P,ga,a,[],gl,ol,b,⟨ws',c⟩,by simp,by omega,hC',hPR⟩
      · obtain ⟨c,hc⟩:=runR (fu:=4000) (most:=100000) (M:=M) hr (by omega) (by omega) (by omega)
        rw [hQd] at hC'
        have hrl':=pA hC'.nd hC'.rg;have hvm:(r'.map fun q=>rd ws' (fp p q 1))=r'.map fun q=>rd M.ws (fp p q 1):=List.map_congr_left fun q hq=>hv q (List.mem_cons_of_mem _ hq)
        rw [hc]
        simp only [Option.bind_some]
        rw [show ((⟨0,rd M.ws (fp p c0 1)⟩:Res)==⟨0,rd M.ws (fp p c0 1)⟩)=true from by simp,lU hp hdm hfw.1 (M:=⟨ws',c⟩) hC'.pool.free.len hC'.hd hC'.link hC'.nd hC'.rg,hvm]
        simp only [Bool.not_true,cond_false,Option.bind_some]
        rw [lR (by simp; omega) (by simp; omega)]
        refine ⟨_,rfl,Qd,g',c0,r',gd,od,b,⟨ws',c⟩,?_,by omega,hC',hPRd⟩
        simp only
        rw [hvm]
        simp
  · rintro x ⟨P,ga,a,r,gl,ol,b,M,rfl,_⟩
    simp only
    rw [show decide ((l.length:Int)<(l.length:Int))=false from by simp]
    exact ⟨_,rfl,by trivial⟩
end Go.Proofs.YtfpgnmhcfkikkaaGreat

/- Ours. -/
namespace Go.Proofs.YtfpgnmhcfkikkaaGreat
open Go.ChangeShapes Go.WideShapes Go.RowKit Go.Deep Go.ChangeAt
section
variable {H : Type} {enc : TypeId × Value → H} {P : Program} {w : World} {base : Nat} {spare : Nat → Bool} {held : Bool}
theorem zn {α:Type} {l:List α} {j:Nat} (h:j<l.length):(l.drop j).take 1=[l[j]]:=by
  rw [List.drop_eq_getElem_cons h]
  rfl
theorem zf {r:Reach} {b0:Nat} {t:TypeId} {fs:Array Go.Field} {v:Value} {d:DataW H} {p:List MemPlace} (ks:List IntKind) (hs:P.underlying t=some (.struct fs)) (hone:oneCellFields P fs=true)
    (hC:P.cellsOf t=fs.size) (hk:fs.toList.map (fun f=>P.underlying f.type)=ks.map fun k=>some (.int k))
    (hv:Value.okWide P w r b0 t v) (h:DataW.Trod enc P w base spare held t v d p) :
    ∃ ns:List Int,v=.agg (List.zipWith Value.int ks ns).toArray∧ns.length=ks.length∧∀ q,q∈List.zip ks ns→(Lit.int q.1 q.2).wf=true:=by
  obtain ⟨cs,rfl,hsz⟩:=okWide_struct hs hv;obtain ⟨fuel,hf⟩:=h;obtain ⟨xs,n,_,hx,hl,hlen,hfs⟩:=DataW.trod_struct hs hf;have hkl:ks.length=fs.size:=by
    have:=congrArg List.length hk;simpa using this.symm
  have hcl:cs.size=fs.size:=hsz.trans hC;have hat:∀ j (hj:j<cs.size),∃ (k:IntKind) (m:Int),ks[j]?=some k∧cs[j]=.int k m∧(Lit.int k m).wf=true:=by
    intro j hj;have hjf:fs[j]?=some fs[j]:=by simp
    obtain ⟨ho,hc⟩:=hone_of hone j _ hjf;have h1:=hfs j _ hjf;rw [ho,hc] at h1
    have hcs:((Value.agg cs).cells.toList.drop j).take 1=[cs[j]]:=by
      have:=zn (l:=cs.toList) (j:=j) (by simpa using hj)
      simpa [Value.cells] using this
    rw [hcs] at h1
    have hxs:xs[j]?=some (xs[j]'(by omega)):=by simp
    rw [hxs] at h1
    have hu:(fs.toList.map (fun f=>P.underlying f.type))[j]?=some (P.underlying fs[j].type):=by simp [hjf]
    rw [hk] at hu
    obtain ⟨k,hk1,hk2⟩:∃ k,ks[j]?=some k∧some (.int k)=P.underlying fs[j].type:=by
      simpa using hu
    obtain ⟨m,hm,_,hw⟩:=DataW.trod_int hk2.symm h1;exact ⟨k,m,hk1,by simpa using hm,hw⟩
  refine ⟨cs.toList.map intOf,?_,by simp; omega,?_⟩
  · congr 1
    apply Array.ext_getElem?
    intro j
    rcases Nat.lt_or_ge j cs.size with hj | hj
    · obtain ⟨k,m,h1,h2,_⟩:=hat j hj
      simp [List.getElem?_zipWith,h1,hj,h2,intOf]
    · simp [List.getElem?_zipWith,hj]
  · intro q hq
    obtain ⟨j,hj,he⟩:=List.mem_iff_getElem.1 hq;simp only [List.length_zip,List.length_map,Array.length_toList] at hj
    obtain ⟨k,m,h1,h2,h3⟩:=hat j (by omega);have hk3:ks[j]'(by omega)=k:=by
      have:=List.getElem?_eq_getElem (l:=ks) (i:=j) (by omega)
      rw [h1] at this
      exact (Option.some.inj this).symm
    simp only [List.getElem_zip,List.getElem_map] at he
    rw [←he]
    simp only [hk3,Array.getElem_toList,h2,intOf]
    exact h3
end
theorem CG {α:Type} {l:List α} (h:l.length=6):∃ x0 x1 x2 x3 x4 x5,l=[x0,x1,x2,x3,x4,x5]:=by
  match l,h with
  | [x0,x1,x2,x3,x4,x5],_=>exact ⟨x0,x1,x2,x3,x4,x5,rfl⟩
theorem laidOut:laidOutB Tryz.prog:=by kernel_rfl
end Go.Proofs.YtfpgnmhcfkikkaaGreat

/- Ours. -/
namespace Go.Proofs.YtfpgnmhcfkikkaaGreat
open Go.ChangeShapes Go.WideShapes Go.ChangeAt Go.RowKit
def ioN:List Nat:=[104,97,114,110,101,115,115,32,50,53,55,97,102,51,54,101,100,51,53,99,52,57,99,55,97,51,51,97,101,48,51,50,55,53,51,51,101,49,54,98,100,55,102,55,54,51,55,55,52,48,51,49,53,101,48,100,50,55,56,48,101,48,101,51,97,98,56,55,99,50,101,48,32,99,117,116,32,97,116,32,99,117,98,105,99,108,101,47,99,117,98,105,99,108,101,108,97,119,49,50,46,65,108,108,111,99,65,108,111,110,101,32,99,117,98,105,99,108,101,47,99,117,98,105,99,108,101,108,97,119,49,50,46,65,108,108,111,99,77,97,110,121,32,99,117,98,105,99,108,101,47,99,117,98,105,99,108,101,108,97,119,49,55,46,68,111,109,97,105,110,77,97,110,121,32,99,117,98,105,99,108,101,47,99,117,98,105,99,108,101,108,97,119,49,51,46,67,104,101,99,107,65,108,111,110,101,32,99,117,98,105,99,108,101,47,99,117,98,105,99,108,101,108,97,119,49,52,46,81,117,101,117,101,65,108,111,110,101,32,99,117,98,105,99,108,101,47,99,117,98,105,99,108,101,108,97,119,49,52,46,81,117,101,117,101,77,97,110,121,32,99,117,98,105,99,108,101,47,99,117,98,105,99,108,101,108,97,119,49,53,46,76,105,115,116,75,101,121,115,32,99,117,98,105,99,108,101,47,99,117,98,105,99,108,101,108,97,119,49,53,46,76,105,115,116,82,97,99,101,32,99,117,98,105,99,108,101,47,99,117,98,105,99,108,101,108,97,119,49,53,46,76,105,115,116,65,108,111,110,101,32,99,117,98,105,99,108,101,47,99,117,98,105,99,108,101,108,97,119,49,53,46,76,105,115,116,83,116,97,108,108,115,32,99,117,98,105,99,108,101,47,99,117,98,105,99,108,101,108,97,119,49,53,46,76,105,115,116,77,97,110,121,32,99,117,98,105,99,108,101,47,99,117,98,105,99,108,101,108,97,119,49,53,46,76,105,115,116,78,111,100,101,115,32,99,117,98,105,99,108,101,47,99,117,98,105,99,108,101,108,97,119,49,55,46,68,111,109,97,105,110,65,108,111,110,101,32,99,117,98,105,99,108,101,47,99,117,98,105,99,108,101,108,97,119,49,55,46,68,111,109,97,105,110,79,100,100,32,99,117,98,105,99,108,101,47,99,117,98,105,99,108,101,108,97,119,49,54,46,68,105,99,116,67,101,108,108,115,32,99,117,98,105,99,108,101,47,99,117,98,105,99,108,101,108,97,119,49,54,46,68,105,99,116,65,108,111,110,101,32,99,117,98,105,99,108,101,47,99,117,98,105,99,108,101,108,97,119,49,54,46,68,105,99,116,65,112,97,114,116,32,99,117,98,105,99,108,101,47,99,117,98,105,99,108,101,108,97,119,49,54,46,68,105,99,116,66,117,99,107,101,116,115,32,99,117,98,105,99,108,101,47,99,117,98,105,99,108,101,108,97,119,49,55,46,68,111,109,97,105,110,65,112,97,114,116]
theorem io1:Tryz.prog.initOrder=String.ofList (ioN.map Char.ofNat):=by kernel_rfl
theorem io2:Tryz.prog.initOrder.toList=ioN.map Char.ofNat:=by rw [io1,String.toList_ofList]
theorem io3:behindMainWord (wordsSigns Tryz.prog.initOrder.toList)=(([99,117,116]:List Nat).map Char.ofNat)::([[97,116],[99,117,98,105,99,108,101,47,99,117,98,105,99,108,101,108,97,119,49,50,46,65,108,108,111,99,65,108,111,110,101],[99,117,98,105,99,108,101,47,99,117,98,105,99,108,101,108,97,119,49,50,46,65,108,108,111,99,77,97,110,121],[99,117,98,105,99,108,101,47,99,117,98,105,99,108,101,108,97,119,49,55,46,68,111,109,97,105,110,77,97,110,121],[99,117,98,105,99,108,101,47,99,117,98,105,99,108,101,108,97,119,49,51,46,67,104,101,99,107,65,108,111,110,101],[99,117,98,105,99,108,101,47,99,117,98,105,99,108,101,108,97,119,49,52,46,81,117,101,117,101,65,108,111,110,101],[99,117,98,105,99,108,101,47,99,117,98,105,99,108,101,108,97,119,49,52,46,81,117,101,117,101,77,97,110,121],[99,117,98,105,99,108,101,47,99,117,98,105,99,108,101,108,97,119,49,53,46,76,105,115,116,75,101,121,115],[99,117,98,105,99,108,101,47,99,117,98,105,99,108,101,108,97,119,49,53,46,76,105,115,116,82,97,99,101],[99,117,98,105,99,108,101,47,99,117,98,105,99,108,101,108,97,119,49,53,46,76,105,115,116,65,108,111,110,101],[99,117,98,105,99,108,101,47,99,117,98,105,99,108,101,108,97,119,49,53,46,76,105,115,116,83,116,97,108,108,115],[99,117,98,105,99,108,101,47,99,117,98,105,99,108,101,108,97,119,49,53,46,76,105,115,116,77,97,110,121],[99,117,98,105,99,108,101,47,99,117,98,105,99,108,101,108,97,119,49,53,46,76,105,115,116,78,111,100,101,115],[99,117,98,105,99,108,101,47,99,117,98,105,99,108,101,108,97,119,49,55,46,68,111,109,97,105,110,65,108,111,110,101],[99,117,98,105,99,108,101,47,99,117,98,105,99,108,101,108,97,119,49,55,46,68,111,109,97,105,110,79,100,100],[99,117,98,105,99,108,101,47,99,117,98,105,99,108,101,108,97,119,49,54,46,68,105,99,116,67,101,108,108,115],[99,117,98,105,99,108,101,47,99,117,98,105,99,108,101,108,97,119,49,54,46,68,105,99,116,65,108,111,110,101],[99,117,98,105,99,108,101,47,99,117,98,105,99,108,101,108,97,119,49,54,46,68,105,99,116,65,112,97,114,116],[99,117,98,105,99,108,101,47,99,117,98,105,99,108,101,108,97,119,49,54,46,68,105,99,116,66,117,99,107,101,116,115],[99,117,98,105,99,108,101,47,99,117,98,105,99,108,101,108,97,119,49,55,46,68,111,109,97,105,110,65,112,97,114,116]]:List (List Nat)).map (List.map Char.ofNat):=by rw [io2]; kernel_rfl
theorem stripG (r:List (List Char)):stripLifts liftWords (([99,117,116].map Char.ofNat)::r)=([],([99,117,116].map Char.ofNat)::r):=by rfl
theorem makeG {P:Program} {r:List (List Char)} (h:behindMainWord (wordsSigns P.initOrder.toList)=([99,117,116].map Char.ofNat)::r):P.make=some .cut:=by
  unfold Program.make;rw [h]
  rfl
theorem liftsG {P:Program} {r:List (List Char)} (h:behindMainWord (wordsSigns P.initOrder.toList)=([99,117,116].map Char.ofNat)::r):P.liftsFinal=false:=by
  unfold Program.liftsFinal Program.headLifts;rw [h,stripG]
  rfl
theorem enterG {P:Program} {r:List (List Char)} (h:behindMainWord (wordsSigns P.initOrder.toList)=([99,117,116].map Char.ofNat)::r) (h1:P.laysLater=false) (h2:P.bearsReflect=false) (h3:P.doorFits []=true):P.mayEnter=true:=by
  unfold Program.mayEnter;rw [h];simp only [stripG,h1,h2,h3]
  rfl
theorem e1:Tryz.prog.laysLater=false:=by kernel_rfl
theorem e2:Tryz.prog.bearsReflect=false:=by kernel_rfl
theorem e3:Tryz.prog.doorFits []=true:=by kernel_rfl
theorem AG:Tryz.prog.make=some .cut:=makeG io3
theorem Ao:Tryz.prog.liftsFinal=false:=liftsG io3
theorem Au:Tryz.prog.mayEnter=true:=enterG io3 e1 e2 e3
theorem AE:mapsRowed Tryz.prog:=by kernel_rfl
theorem Ar:Tryz.prog.stopsHeard=true:=by kernel_rfl
end Go.Proofs.YtfpgnmhcfkikkaaGreat

/- Ours. -/
namespace Go.Proofs.YtfpgnmhcfkikkaaGreat
open Go.ChangeShapes Go.WideShapes Go.RowKit Go.Deep Go.ChangeAt
section
variable {H : Type} {enc : TypeId × Value → H} {P : Program} {w : World} {base : Nat} {spare : Nat → Bool} {held : Bool}
def flatF (P:Program) (k:TypeId→Option (List IntKind)):Nat→List Go.Field→Option (List IntKind)
  | _,[]=>some []
  | off,f::fs=>if f.offset=off then (k f.type).bind fun ks=>if ks.length=P.cellsOf f.type then (flatF P k (off+P.cellsOf f.type) fs).map (ks++·) else none else none
def flatK (P:Program):Nat→TypeId→Option (List IntKind)
  | 0,_=>none
  | n+1,t=>match P.underlying t with
    | some (.int k)=>some [k]
    | some (.struct fs)=>(flatF P (flatK P n) 0 fs.toList).bind fun ks=>if ks.length=P.cellsOf t then some ks else none
    | _=>none
def Ints (ks:List IntKind) (cs:List Value):Prop:=∃ ns:List Int,cs=List.zipWith Value.int ks ns∧ns.length=ks.length∧∀ q,q∈List.zip ks ns→(Lit.int q.1 q.2).wf=true
theorem Ints.append {ks ks':List IntKind} {cs cs':List Value} (h:Ints ks cs) (h':Ints ks' cs'):Ints (ks++ks') (cs++cs'):=by
  obtain ⟨ns,rfl,h2,h3⟩:=h;obtain ⟨ns',rfl,h2',h3'⟩:=h';refine ⟨ns++ns',(List.zipWith_append h2.symm).symm,by simp [h2,h2'],fun q hq=>?_⟩
  rw [List.zip_append h2.symm] at hq
  rcases List.mem_append.1 hq with hq | hq
  · exact h3 q hq
  · exact h3' q hq
theorem s8 {k:TypeId→Option (List IntKind)} {m:Nat} {cs:List Value} (hk:∀ t ks cs x,k t=some ks→DataW.trod enc P w base spare held m t cs=some x→Ints ks cs):∀ (fs:List Go.Field) (off:Nat) (ks:List IntKind),flatF P k off fs=some ks→
    (∀ f,f∈fs→∃ y,DataW.trod enc P w base spare held m f.type ((cs.drop f.offset).take (P.cellsOf f.type))=some y)→Ints ks ((cs.drop off).take ks.length)
  | [],off,ks,h,_=>by
    obtain rfl:=Option.some.inj h;exact ⟨[],by simp,rfl,fun q hq=>by simp at hq⟩
  | f::fs,off,ks,h,hf=>by
    unfold flatF at h
    split at h
    · rename_i ho
      obtain ⟨k1,h1,h⟩:=Option.bind_eq_some_iff.1 h
      split at h
      · rename_i hl
        obtain ⟨k2,h2,rfl⟩:=Option.map_eq_some_iff.1 h;obtain ⟨y,hy⟩:=hf f (List.mem_cons_self ..);have i1:=hk _ _ _ _ h1 hy;have i2:=s8 hk fs _ k2 h2 fun g hg=>hf g (List.mem_cons_of_mem _ hg)
        rw [ho,←hl] at i1
        rw [List.length_append,List.take_add,List.drop_drop,hl]
        rw [hl] at i1
        exact i1.append i2
      · cases h
    · cases h
theorem sN:∀ (n:Nat) (t:TypeId) (ks:List IntKind) (m:Nat) (cs:List Value) (x:DataW H × List MemPlace),flatK P n t=some ks→DataW.trod enc P w base spare held m t cs=some x→Ints ks cs
  | 0,_,_,_,_,_,h,_=>by cases h
  | n+1,t,ks,m,cs,x,h,hd=>by
    unfold flatK at h
    split at h
    · rename_i k hu
      obtain rfl:=Option.some.inj h;obtain ⟨z,h1,_,h2⟩:=DataW.trod_int hu hd;subst h1;exact ⟨[z],rfl,rfl,fun q hq=>by
        rcases List.mem_singleton.1 hq with rfl
        exact h2⟩
    · rename_i fs hu
      obtain ⟨ks',h1,h2⟩:=Option.bind_eq_some_iff.1 h
      split at h2
      · rename_i hl
        obtain rfl:=Option.some.inj h2;obtain ⟨xs,m',_,hx,hcl,hlen,hfs⟩:=DataW.trod_struct hu hd;have:=s8 (m:=m') (cs:=cs) (fun t ks cs x=>sN n t ks m' cs x) fs.toList 0 ks' h1 fun f hf=>by
          obtain ⟨j,hj,he⟩:=List.mem_iff_getElem.1 hf;have hj':fs[j]?=some f:=by rw [←he]; simp
          have h3:=hfs j f hj';have hjs:j<fs.size:=by simpa using hj
          exact ⟨_,h3.trans (List.getElem?_eq_getElem (show j<xs.length by omega))⟩
        rw [List.drop_zero,List.take_of_length_le (by omega)] at this
        exact this
      · cases h2
    · cases h
theorem zO {α:Type} {T:TypeId} {r:Reach} {b0:Nat} {t e:TypeId} {v:Value} {d:DataW H} {p:List MemPlace} {sz:Nat} (f:α→List Value) (Pr:α→Prop) (z:α) (ht:P.underlying t=some (.slice e))
    (hel:∀ m cs x,DataW.trod enc P w base spare held m e cs=some x→∃ y,cs=f y∧Pr y) (hc:P.cellsOf e=sz) (hpos:0<sz) (hfl:∀ x,(f x).length=sz)
    (hv:Value.okWide P w r b0 t v) (h:DataW.Trod enc P w base spare held t v d p):∃ xs:List α,RoAt T sz f v xs w∧∀ x,x∈xs→Pr x:=by
  obtain ⟨a,len,cap,rfl⟩:=okWide_slice ht hv;obtain ⟨fuel,hd⟩:=h
  rcases open_slice ht hd with ⟨h1,_⟩ | ⟨ad,n',c,m,q,D,Pl,h1,_,hnc,_,hm,_,hcell⟩
  · simp only [Value.cells,List.cons.injEq,and_true] at h1
    injection h1 with h1 h2 h3
    subst h1; subst h2; subst h3;exact ⟨[],.inl ⟨_,_,rfl,rfl⟩,fun _ h=>by cases h⟩
  · simp only [Value.cells,List.cons.injEq,and_true] at h1
    injection h1 with h1 h2 h3
    subst h1; subst h2; subst h3;have hlen:len≤m:=by rw [hm]; split <;> omega
    have hI:∀ i,i<len→∃ y:α,w.cells? base (ad.add (i * sz)) sz=some (f y)∧Pr y:=fun i hi=>by
      obtain ⟨cs',h1,h2⟩:=hcell i (by omega);obtain ⟨y,h3,h4⟩:=hel q cs' _ h2;rw [hc,h3] at h1
      exact ⟨y,h1,h4⟩
    obtain ⟨g,hg⟩:=Classical.axiomOfChoice (r:=fun (i:Nat) (y:α)=>i<len→w.cells? base (ad.add (i * sz)) sz=some (f y)∧Pr y)
      (fun i=>by
        by_cases hi:i<len
        · obtain ⟨y,h⟩:=hI i hi; exact ⟨y,fun _=>h⟩
        · exact ⟨z,fun h=>absurd h hi⟩)
    refine ⟨(List.range len).map fun i=>g i,?_,fun x hx=>?_⟩
    · cases len with
      | zero=>exact .inl ⟨_,_,rfl,rfl⟩
      | succ m0=>
        have hz:∀ i,i<m0+1→∀ j u,(f ((g i)))[j]?=some u→w.cell? ((ad.add (i * sz)).add j)=some u:=fun i hi j u hu=>by
          obtain ⟨h1,_⟩:=hg i hi;obtain ⟨_,h4,h5⟩:=World.cells?_some h1;have hj:j<(f (g i)).length:=(List.getElem?_eq_some_iff.1 hu).1;rw [h5 j (by omega),hu]
        have h0:=hz 0 (by omega) 0 ((f ((g 0)))[0]'(by rw [hfl]; exact hpos)) (by simp)
        have hadd:(ad.add (0 * sz)).add 0=ad:=by rw [Nat.zero_mul]; rfl
        rw [hadd] at h0
        have hsp:ad.spot=none:=by
          unfold World.cell? at h0
          split at h0
          · split at h0
            · cases h0
            · rename_i h; simpa using h
          · cases h0
        obtain ⟨gB,o,sp⟩:=ad;simp only at hsp
        subst hsp;have hx:∃ cur E fz,w.heap[gB]?=some (.cells cur E fz):=by
          unfold World.cell? at h0
          split at h0
          · rename_i c' E fz hh; exact ⟨c',E,fz,hh⟩
          · cases h0
        obtain ⟨cur,E,fz,hh⟩:=hx;refine .inr ⟨gB,o,cap,cur,E,fz,by simp,?_,hh,?_,by simpa using hnc⟩
        · intro he
          have:=congrArg List.length he;simp at this
        · have hll:((List.range (m0+1)).map fun i=>g i).length=m0+1:=by simp
          apply List.ext_getElem?
          intro q;rw [hll]
          by_cases hq:q<(m0+1) * sz
          · have hi:q / sz<m0+1:=(Nat.div_lt_iff_lt_mul hpos).2 hq
            have hj:q % sz<sz:=Nat.mod_lt _ hpos;have hqq:q / sz * sz+q % sz=q:=by rw [Nat.mul_comm]; exact Nat.div_add_mod q sz
            have h1:=hz (q / sz) hi (q % sz) ((f ((g (q / sz))))[q % sz]'(by rw [hfl]; exact hj)) (by simp)
            rw [Addr.add_lit,Addr.add_lit] at h1
            simp only [World.cell?,hh] at h1
            have h2:=oF hfl ((List.range (m0+1)).map fun i=>g i) (q / sz) (by rw [hll]; exact hi) (q % sz) ((f ((g (q / sz))))[q % sz]'(by rw [hfl]; exact hj)) (by simp)
            rw [hqq] at h2
            rw [h2,List.getElem?_take,if_pos hq,List.getElem?_drop]
            rw [Nat.add_assoc,hqq] at h1
            simpa using h1
          · rw [List.getElem?_take,if_neg hq,List.getElem?_eq_none]
            rw [gu hfl,hll]
            omega
    · obtain ⟨i,hi,rfl⟩:=List.mem_map.1 hx
      exact (hg i (List.mem_range.1 hi)).2
theorem zP {α:Type} {T:TypeId} {r:Reach} {b0:Nat} {t e:TypeId} {v:Value} {d:DataW H} {p:List MemPlace} (n:Nat) (ks:List IntKind) (f:α→List Value) (dec:List Int→α) (ht:P.underlying t=some (.slice e)) (hk:flatK P n e=some ks)
    (hc:P.cellsOf e=ks.length) (hdec:∀ ns:List Int,ns.length=ks.length→f (dec ns)=List.zipWith Value.int ks ns) (hpos:0<ks.length) (hfl:∀ x,(f x).length=ks.length)
    (hv:Value.okWide P w r b0 t v) (h:DataW.Trod enc P w base spare held t v d p) :
    ∃ xs:List α,RoAt T ks.length f v xs w∧∀ x,x∈xs→∃ ns:List Int,x=dec ns∧ns.length=ks.length∧∀ q,q∈List.zip ks ns→(Lit.int q.1 q.2).wf=true:=
  zO f (fun x=>∃ ns:List Int,x=dec ns∧ns.length=ks.length∧∀ q,q∈List.zip ks ns→(Lit.int q.1 q.2).wf=true) (dec []) ht (fun m cs x hx=>by
    obtain ⟨ns,h1,h2,h3⟩:=sN n e ks m cs x hk hx;exact ⟨dec ns,by rw [hdec ns h2]; exact h1,ns,rfl,h2,h3⟩) hc hpos hfl hv h
theorem zS {T:TypeId} {r:Reach} {b0:Nat} {t e:TypeId} {k:IntKind} {v:Value} {d:DataW H} {p:List MemPlace} (f:Int→List Value) (hf:∀ x,f x=[.int k x]) (ht:P.underlying t=some (.slice e)) (he:P.underlying e=some (.int k)) (hc:P.cellsOf e=1)
    (hv:Value.okWide P w r b0 t v) (h:DataW.Trod enc P w base spare held t v d p):∃ xs:List Int,RoAt T 1 f v xs w∧∀ n,n∈xs→(Lit.int k n).wf=true:=by
  obtain ⟨xs,h1,h2⟩:=zP (T:=T) 1 [k] f (fun ns=>ns.headD 0) ht (by unfold flatK; rw [he]) hc (fun ns hn=>by
    match ns,hn with
    | [x],_=>exact hf x) (by simp) (fun x=>by rw [hf]; rfl) hv h
  refine ⟨xs,h1,fun n hn=>?_⟩
  obtain ⟨ns,rfl,h3,h4⟩:=h2 n hn
  match ns,h3 with
  | [x],_=>exact h4 (k,x) (by simp)
end
end Go.Proofs.YtfpgnmhcfkikkaaGreat

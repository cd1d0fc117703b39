/- Some of our texts, one behind the other. -/
import Derived.Test.YtikjpdpgdmbdpaaGreatLkM26
import Derived.Test.YtikjpdpgdmbdpaaGreatLkLawLK
import Derived.WalkKit
import Derived.ProofKit
import Derived.OpenShut
import Derived.ShutString
import Derived.ChangeOld
import Derived.Below
import Derived.Carry
import Derived.SizedLaws
import Derived.Deep.Slices
import Derived.Deep.Fields
import Derived.ChangeSame
import Derived.Test.YtikjpdpgdmbdpaaGreatRows
import Derived.ChangeSlices
import Derived.Test.YtikjpdpgdmbdpaaGreatLkM6
set_option linter.all false
/- Ours. -/
namespace Go.Proofs.YtikjpdpgdmbdpaaGreat
open Go.RowKit
def pk:Plan:=⟨14,1,4,1,1,1000⟩
theorem pkF:PF pk:=Az (by decide +kernel)
theorem Cg:D.bE pk 0 0=2:=pS pkF (by decide) (c:=0) (by omega)
theorem Cv:4≤D.aH pk:=haz4 pkF (by decide)
theorem zK (a:List Int) (hb:∀ n,n∈a→0≤n∧n≤18446744073709551615):∃ fu,Wk.D.kT fu a=some true:=by
  refine ⟨4000,?_⟩;unfold Wk.D.kT;rw [BI];simp only [Option.bind_some,Bool.not_true,cond_false];cases hl:decide ((a.length:Int) > 12)
  case true=>rfl
  simp only [decide_eq_false_iff_not] at hl
  simp only [cond_false]
  rw [show (⟨14,1,4,1,1,1000⟩:Plan)=pk from rfl,Cg]
  have hp:=pkF;have h4:=Cv;have ht:(0:Int)≤0∧(0:Int)<pk.threads:=⟨Int.le_refl _,show (0:Int)<1 by omega⟩
  have hnn:pk.nodes≤1000:=by show (14:Int)≤1000; omega
  have hfew:pk.nodes≤40∧pk.retire≤40∧pk.domains≤6∧pk.buckets≤10:=⟨by show (14:Int)≤40; omega,by show (4:Int)≤40; omega,by show (1:Int)≤6; omega,by show (1:Int)≤10; omega⟩
  have hc:(0:Int)<2∧(2:Int)<D.aH pk:=by omega
  have h14:pk.nodes.toNat=14:=rfl;have hS:=(bN hp);obtain ⟨M,hM,hL⟩:=Cc hp hfew (fu:=4000) (by omega)
  rw [hM]
  simp only [Option.bind_some]
  have hw2:rd M.ws 2=0:=hL.zero 2 (by omega) (fun m m0 m1=>by omega)
  obtain ⟨hA0,hal0⟩:=LAt.start hp hL ht hw2;have hgl:∀ (k:Nat) (hk:k<a.length),a[k]∈a:=fun k hk=>List.getElem_mem hk
  refine jW (fun o=>o=some true) (fun (i:Nat) (x:Int × Int × Mem)=>x.2.1=(i:Int)∧∃ P g l,LAt pk 0 x.2.2.ws P g 2 l∧Alone pk x.2.2.ws∧g≤2 * (i:Int)∧P.rt=[]∧14≤P.fr.length+i∧x.1=(l.length:Int)∧
      (∀ e,e∈ents pk x.2.2.ws l→∃ j,j<i∧e.value=(j:Int)∧a[j]?=some e.key∧∀ k,k<j→a[k]?≠some e.key)∧(∀ k,k<i→∃ e,e∈ents pk x.2.2.ws l∧a[k]?=some e.key)) a.length 4000
    ⟨rfl,_,0,[],hA0,hal0,by omega,rfl,by unfold allN; simp [h14],rfl,fun e he=>(by cases he),fun k hk=>(by omega)⟩ (by omega) ?_ ?_
  · rintro i ⟨n,x,M1⟩ hi ⟨rfl,P,g,l,hA,hal,hg,hrt,hfr,rfl,hv,hk⟩
    simp only at hA hal hv hk ⊢
    rw [show decide ((i:Int)<(a.length:Int))=true from by simp; omega]
    simp only [cond_true]
    rw [iM hi]
    simp only [Option.bind_some,pX]
    rw [cC (x:=(i:Int)) (by omega) (by omega)]
    obtain ⟨m,ws',P',g',l',res,hm,hg',hr,hA',hK,hal',hcase⟩:=hA.add hp hnn ht hc (by show (0:Int)<1; omega) (by show (14:Int)≤40; omega) hal 4000 (by omega) (by omega) a[i] (i:Int)
    have hll:=hA.gU hp hnn ht hc;have hll':=hA'.gU hp hnn ht hc;rw [h14] at hll hll'
    rw [hrt] at hm hg'
    simp only [List.length_nil] at hm hg'
    obtain ⟨c,hcc⟩:=runR (fu:=4000) (most:=9999) (M:=M1) hr (by omega) (by omega) (by omega);rw [hcc];simp only [Option.bind_some];obtain ⟨fr,rt,st⟩:=P;simp only at hrt hfr
    subst hrt;cases fr with
    | nil=>simp only [List.length_nil] at hfr; omega
    | cons n0 fr0=>
      simp only [List.length_cons] at hfr
      have hwr:IntKind.i64.wrap ((i:Int)+1)=((i+1:Nat):Int):=by rw [bS (by omega) (by omega)]; simp
      rcases hcase with ⟨hgr,_⟩ | ⟨Q,n,f2,hQ,hQf,hgr,hnd,hcase⟩
      · have:(0:Int)=4:=congrArg Grant.e hgr
        omega
      · rcases hcase with ⟨hhas,rfl,hP',rfl,he⟩ | ⟨hhas,rfl,hP',he,_⟩
        · rw [show ((7:Int)==0)=false from rfl,hwr]
          simp only [cond_false,Option.bind_some]
          refine ⟨_,rfl,rfl,P',g',l',hA',hal',by simp only [Int.natCast_add,Int.natCast_one]; omega,by rw [hP']; rfl,?_,rfl,fun e hm=>?_,fun k hk'=>?_⟩
          · have:fr0.length≤P'.fr.length:=by
              rw [hP']
              exact C5 (P:=(Pool.grant ⟨n0::fr0,[],st⟩ pk.gen 2).1)
            omega
          · simp only at hm
            rw [he] at hm
            obtain ⟨j,h1,h2⟩:=hv e hm;exact ⟨j,by omega,h2⟩
          · simp only
            rw [he]
            by_cases e1:k=i
            · obtain ⟨v,hv'⟩:=hA.inc.mJ.1 hhas
              exact ⟨_,hv',by rw [e1,List.getElem?_eq_getElem hi]⟩
            · exact hk k (by omega)
        · rw [show ((0:Int)==0)=true from rfl,hwr]
          simp only [cond_true,Option.bind_some]
          have hlen:l'.length=l.length+1:=by
            have h1:=congrArg List.length he;rw [C6] at h1
            unfold ents at h1
            simpa using h1
          refine ⟨_,rfl,rfl,P',g',l',hA',hal',by simp only [Int.natCast_add,Int.natCast_one]; omega,by rw [hP']; rfl,?_,?_,fun e hm=>?_,fun k hk'=>?_⟩
          · have:fr0.length=P'.fr.length:=by rw [hP']; rfl
            omega
          · simp only
            rw [bS (by omega) (by omega)]; omega
          · simp only at hm
            rw [he,pN] at hm
            rcases hm with rfl | hm
            · refine ⟨i,by omega,rfl,List.getElem?_eq_getElem hi,fun k hk' hka=>?_⟩
              obtain ⟨e2,he2,hke⟩:=hk k hk';rw [hka] at hke
              simp only [Option.some.injEq] at hke
              have:hasE a[i] (ents pk M1.ws l)=true:=hA.inc.mJ.2 ⟨e2.value,by rw [hke]; exact he2⟩
              rw [hhas] at this
              cases this
            · obtain ⟨j,h1,h2⟩:=hv e hm
              exact ⟨j,by omega,h2⟩
          · simp only
            by_cases e1:k=i
            · exact ⟨⟨a[i],(i:Int)⟩,by rw [he,pN]; exact .inl rfl,by rw [e1,List.getElem?_eq_getElem hi]⟩
            · obtain ⟨e2,he2,hke⟩:=hk k (by omega)
              exact ⟨e2,by rw [he,pN]; exact .inr he2,hke⟩
  · rintro ⟨n,x,M1⟩ ⟨rfl,P,g,l,hA,hal,hg,hrt,hfr,rfl,hv,hk⟩
    simp only at hA hal hv hk ⊢
    rw [show decide ((a.length:Int)<(a.length:Int))=false from by simp]
    refine ⟨_,rfl,?_⟩;simp only;have hll:=hA.gU hp hnn ht hc;rw [h14] at hll
    have hlen:(l.length:Int)≤pk.nodes:=by show (l.length:Int)≤14; omega
    rw [sZ hp hnn (fu:=4000) hA.pool.free.len (by omega) hA.link hlen (by omega)]
    simp only [Option.bind_some]
    have hEl:(ents pk M1.ws l).length=l.length:=by unfold ents; simp
    have hEr:=hA.inc;obtain ⟨E,hE⟩:∃ E,E=ents pk M1.ws l:=⟨_,rfl⟩;rw [←hE] at hv hEl hEr ⊢
    refine jW (fun o=>o=some true) (fun (i:Nat) (x:Bool × Int)=>x=(false,(i:Int))) E.length 4000 rfl (by omega) ?_ ?_
    · rintro i _ hi rfl
      simp only
      rw [show decide ((i:Int)<(E.length:Int))=true from by simp; omega]
      simp only [cond_true]
      obtain ⟨j,j1,j2,j3,j4⟩:=hv E[i] (List.getElem_mem hi);obtain ⟨ja,je⟩:=List.getElem?_eq_some_iff.1 j3;have hwl:IntKind.u64.wrap (a.length:Int)=(a.length:Int):=cC (by omega) (by omega);have hgE:getI E (i:Int)=some E[i]:=iM hi;have hga:getI a E[i].value=some E[i].key:=by rw [j2,iM ja,je]
      have hcond:(bif (decide ((i:Int) > 0)) then ((getI E (IntKind.i64.wrap ((i:Int) - 1))).bind (fun (x53:Entry)=>((getI E (i:Int)).bind (fun (x54:Entry)=>(bif (decide (x53.key≥x54.key)) then (some true) else ((getI E (i:Int)).bind (fun (x57:Entry)=>(bif (decide (x57.value≥(IntKind.u64.wrap (a.length:Int)))) then (some true) else ((getI E (i:Int)).bind (fun (x60:Entry)=>((getI a x60.value).bind (fun (x61:Int)=>((getI E (i:Int)).bind (fun (x62:Entry)=>(some (x61 !=x62.key)))))))))))))))) else ((getI E (i:Int)).bind (fun (x64:Entry)=>(bif (decide (x64.value≥(IntKind.u64.wrap (a.length:Int)))) then (some true) else ((getI E (i:Int)).bind (fun (x67:Entry)=>((getI a x67.value).bind (fun (x68:Int)=>((getI E (i:Int)).bind (fun (x69:Entry)=>(some (x68 !=x69.key))))))))))))=some false:=by
        have hval:decide (E[i].value≥(a.length:Int))=false:=by rw [j2]; simp; omega
        cases hi0:decide ((i:Int) > 0) with
        | false=>
          simp only [cond_false,hgE,Option.bind_some,hwl,hval,hga,bne_self_eq_false]
        | true=>
          have hi1:0<i:=by simpa using hi0
          rw [bS (show -1000000≤(i:Int) - 1 by omega) (by omega),show (i:Int) - 1=((i - 1:Nat):Int) from by omega,iM (show i - 1<E.length by omega)]
          have hlt:E[i - 1].key<E[i].key:=(List.pairwise_iff_getElem.1 hEr) (i - 1) i (by omega) hi (by omega)
          simp only [cond_true,hgE,Option.bind_some,hwl,hval,hga,bne_self_eq_false,show decide (E[i - 1].key≥E[i].key)=false from by simpa using hlt,cond_false]
      rw [hcond]
      simp only [Option.bind_some,cond_false]
      refine jW (fun (o:Option (Lp (Bool × Int) Bool))=>∃ x':Bool × Int,o=some (Lp.next x')∧x'=(false,((i+1:Nat):Int))) (fun (k:Nat) (x:Bool × Int)=>x=(false,(k:Int))) j 4000 rfl (by omega) ?_ ?_
      · rintro k _ hkj rfl
        simp only
        rw [hgE]
        simp only [Option.bind_some]
        rw [j2,bS (x:=(j:Int)) (by omega) (by omega),show decide ((k:Int)<(j:Int))=true from by simp; omega]
        simp only [cond_true]
        have hka:k<a.length:=by omega
        rw [iM hka]
        simp only [Option.bind_some]
        have hne:(a[k]==E[i].key)=false:=by
          have:=j4 k hkj;rw [List.getElem?_eq_getElem hka] at this
          simpa using this
        rw [hne]
        simp only [cond_false]
        rw [bS (show -1000000≤(k:Int)+1 by omega) (by omega)]
        exact ⟨_,rfl,by simp⟩
      · rintro _ rfl
        simp only
        rw [hgE]
        simp only [Option.bind_some]
        rw [j2,bS (x:=(j:Int)) (by omega) (by omega),show decide ((j:Int)<(j:Int))=false from by simp]
        refine ⟨_,rfl,?_⟩;simp only;rw [bS (show -1000000≤(i:Int)+1 by omega) (by omega)]
        exact ⟨_,rfl,by simp⟩
    · rintro _ rfl
      simp only
      rw [show decide ((E.length:Int)<(E.length:Int))=false from by simp]
      refine ⟨_,rfl,?_⟩;rw [show ((E.length:Int) !=(l.length:Int))=false from by simp [hEl]]
      simp only [cond_false]
      rw [bS (show -1000000≤(a.length:Int) - 1 by omega) (by omega)]
      refine jW (fun o=>o=some true) (fun (i:Nat) (x:Int × Int × Mem)=>x.2.1=(a.length:Int) - 1 - (i:Int)∧∃ P g l,LAt pk 0 x.2.2.ws P g 2 l∧Alone pk x.2.2.ws∧g≤100+4 * (i:Int)∧x.1=(l.length:Int)∧
          (∀ e,e∈ents pk x.2.2.ws l→∃ j,j+i<a.length∧a[j]?=some e.key)) a.length 4000
        ⟨by simp,P,g,l,hA,hal,by omega,rfl,fun e he=>?_⟩ (by omega) ?_ ?_
      · obtain ⟨j,j1,j2,j3,j4⟩:=hv e (by rw [hE]; exact he)
        exact ⟨j,by omega,j3⟩
      · rintro i ⟨n,x,M2⟩ hi ⟨rfl,P,g,l,hA,hal,hg,rfl,hv⟩
        simp only at hA hal hv ⊢
        rw [show decide ((a.length:Int) - 1 - (i:Int)≥0)=true from by simp; omega]
        simp only [cond_true]
        obtain ⟨q,hq⟩:∃ q:Nat,(a.length:Int) - 1 - (i:Int)=(q:Int):=⟨a.length - 1 - i,by omega⟩
        have hqa:q<a.length:=by omega
        rw [hq,iM hqa]
        simp only [Option.bind_some,pX]
        have hroom:=hA.pool.ret.room;have hr4:pk.retire=4:=rfl;obtain ⟨m,ws',P',g',l',hm,hg',hr,hA',hK,he,hcase⟩:=hA.del hp hnn ht hc 4000 4000 (by omega) (by omega) a[q] fun _ n hn=>hal.held (hA.pool.ret.range n hn).1
        have hal':=hA.alone hp hnn ht hc hK hal;have hll:=hA.gU hp hnn ht hc;rw [h14] at hll
        obtain ⟨c,hcc⟩:=runR (fu:=4000) (most:=9999) (M:=M2) hr (by omega) (by omega) (by omega);rw [hcc];simp only [Option.bind_some];rw [Bm];have hsub:∀ e,e∈ents pk ws' l'→∃ j,j+(i+1)<a.length∧a[j]?=some e.key:=fun e hm=>by
          rw [he,BF hA.inc] at hm
          obtain ⟨j,j1,j2⟩:=hv e hm.1
          by_cases e1:j=q
          · rw [e1,List.getElem?_eq_getElem hqa] at j2
            simp only [Option.some.injEq] at j2
            exact absurd j2.symm hm.2
          · exact ⟨j,by omega,j2⟩
        have hE1:∀ w k,(ents pk w k).length=k.length:=fun w k=>by unfold ents; simp
        rw [bS (show -1000000≤(q:Int) - 1 by omega) (by omega)]
        cases hb:hasE a[q] (ents pk M2.ws l) with
        | false=>
          rw [if_neg (by simp),show ((6:Int)==0)=false from rfl]
          simp only [cond_false,Option.bind_some]
          refine ⟨_,rfl,by simp only [Int.natCast_add,Int.natCast_one]; omega,P',g',l',hA',hal',by simp only [Int.natCast_add,Int.natCast_one]; omega,?_,hsub⟩
          have:l'=l:=by
            rcases hcase with h | h
            · exact h.2.2.2.2
            · rw [hb] at h; cases h.1
          rw [this]
        | true=>
          rw [if_pos rfl,show ((0:Int)==0)=true from rfl]
          simp only [cond_true,Option.bind_some]
          have hld:=C4 hb;rw [←he,hE1,hE1] at hld
          refine ⟨_,rfl,by simp only [Int.natCast_add,Int.natCast_one]; omega,P',g',l',hA',hal',by simp only [Int.natCast_add,Int.natCast_one]; omega,?_,hsub⟩
          simp only
          rw [bS (by omega) (by omega)]; omega
      · rintro ⟨n,x,M2⟩ ⟨rfl,P,g,l,hA,hal,hg,rfl,hv⟩
        simp only at hA hal hv ⊢
        rw [show decide ((a.length:Int) - 1 - (a.length:Int)≥0)=false from by simp; omega]
        refine ⟨_,rfl,?_⟩;simp only;have hl0:l=[]:=by
          cases l with
          | nil=>rfl
          | cons q l=>
            obtain ⟨j,j1,_⟩:=hv _ (List.mem_cons_self ..);omega
        subst hl0;rw [show (((([]:List Int).length:Nat):Int)==0)=true from rfl]
        simp only [cond_true]
        rw [sZ hp hnn (fu:=4000) hA.pool.free.len (by omega) hA.link (by show (0:Int)≤14; omega) (by omega)]
        rfl
end Go.Proofs.YtikjpdpgdmbdpaaGreat

/- Ours. -/
namespace Go.Proofs.YtikjpdpgdmbdpaaGreat
open Go.ChangeShapes Go.WideShapes Go.RowKit Go.Deep Go.ChangeAt
section
variable {H : Type} {enc : TypeId × Value → H} {P : Program} {w : World} {base : Nat} {spare : Nat → Bool} {held : Bool}
end
theorem laidOut:laidOutB Tryz.prog:=by kernel_rfl
end Go.Proofs.YtikjpdpgdmbdpaaGreat

/- Ours. -/
namespace Go.Proofs.YtikjpdpgdmbdpaaGreat
open Go.ChangeShapes Go.WideShapes Go.ChangeAt Go.RowKit
def ioN:List Nat:=[104,97,114,110,101,115,115,32,97,54,49,50,49,101,50,52,50,101,50,50,98,54,54,55,98,52,97,55,50,99,51,51,50,57,102,100,99,100,57,97,52,99,53,97,54,97,97,52,57,50,55,54,56,54,55,57,51,98,97,50,48,102,49,53,56,54,55,55,50,99,56,99,32,99,117,116,32,97,116,32,99,117,98,105,99,108,101,47,99,117,98,105,99,108,101,108,97,119,49,50,46,65,108,108,111,99,77,97,110,121,32,99,117,98,105,99,108,101,47,99,117,98,105,99,108,101,108,97,119,49,55,46,68,111,109,97,105,110,77,97,110,121,32,99,117,98,105,99,108,101,47,99,117,98,105,99,108,101,108,97,119,49,51,46,67,104,101,99,107,65,108,111,110,101,32,99,117,98,105,99,108,101,47,99,117,98,105,99,108,101,108,97,119,49,52,46,81,117,101,117,101,77,97,110,121,32,99,117,98,105,99,108,101,47,99,117,98,105,99,108,101,108,97,119,49,53,46,76,105,115,116,75,101,121,115,32,99,117,98,105,99,108,101,47,99,117,98,105,99,108,101,108,97,119,49,53,46,76,105,115,116,82,97,99,101,32,99,117,98,105,99,108,101,47,99,117,98,105,99,108,101,108,97,119,49,53,46,76,105,115,116,65,108,111,110,101,32,99,117,98,105,99,108,101,47,99,117,98,105,99,108,101,108,97,119,49,53,46,76,105,115,116,83,116,97,108,108,115,32,99,117,98,105,99,108,101,47,99,117,98,105,99,108,101,108,97,119,49,53,46,76,105,115,116,77,97,110,121,32,99,117,98,105,99,108,101,47,99,117,98,105,99,108,101,108,97,119,49,53,46,76,105,115,116,78,111,100,101,115,32,99,117,98,105,99,108,101,47,99,117,98,105,99,108,101,108,97,119,49,55,46,68,111,109,97,105,110,79,100,100,32,99,117,98,105,99,108,101,47,99,117,98,105,99,108,101,108,97,119,49,54,46,68,105,99,116,67,101,108,108,115]
theorem io1:Tryz.prog.initOrder=String.ofList (ioN.map Char.ofNat):=by kernel_rfl
theorem io2:Tryz.prog.initOrder.toList=ioN.map Char.ofNat:=by rw [io1,String.toList_ofList]
theorem io3:behindMainWord (wordsSigns Tryz.prog.initOrder.toList)=(([99,117,116]:List Nat).map Char.ofNat)::([[97,116],[99,117,98,105,99,108,101,47,99,117,98,105,99,108,101,108,97,119,49,50,46,65,108,108,111,99,77,97,110,121],[99,117,98,105,99,108,101,47,99,117,98,105,99,108,101,108,97,119,49,55,46,68,111,109,97,105,110,77,97,110,121],[99,117,98,105,99,108,101,47,99,117,98,105,99,108,101,108,97,119,49,51,46,67,104,101,99,107,65,108,111,110,101],[99,117,98,105,99,108,101,47,99,117,98,105,99,108,101,108,97,119,49,52,46,81,117,101,117,101,77,97,110,121],[99,117,98,105,99,108,101,47,99,117,98,105,99,108,101,108,97,119,49,53,46,76,105,115,116,75,101,121,115],[99,117,98,105,99,108,101,47,99,117,98,105,99,108,101,108,97,119,49,53,46,76,105,115,116,82,97,99,101],[99,117,98,105,99,108,101,47,99,117,98,105,99,108,101,108,97,119,49,53,46,76,105,115,116,65,108,111,110,101],[99,117,98,105,99,108,101,47,99,117,98,105,99,108,101,108,97,119,49,53,46,76,105,115,116,83,116,97,108,108,115],[99,117,98,105,99,108,101,47,99,117,98,105,99,108,101,108,97,119,49,53,46,76,105,115,116,77,97,110,121],[99,117,98,105,99,108,101,47,99,117,98,105,99,108,101,108,97,119,49,53,46,76,105,115,116,78,111,100,101,115],[99,117,98,105,99,108,101,47,99,117,98,105,99,108,101,108,97,119,49,55,46,68,111,109,97,105,110,79,100,100],[99,117,98,105,99,108,101,47,99,117,98,105,99,108,101,108,97,119,49,54,46,68,105,99,116,67,101,108,108,115]]:List (List Nat)).map (List.map Char.ofNat):=by rw [io2]; kernel_rfl
theorem stripG (r:List (List Char)):stripLifts liftWords (([99,117,116].map Char.ofNat)::r)=([],([99,117,116].map Char.ofNat)::r):=by rfl
theorem makeG {P:Program} {r:List (List Char)} (h:behindMainWord (wordsSigns P.initOrder.toList)=([99,117,116].map Char.ofNat)::r):P.make=some .cut:=by
  unfold Program.make;rw [h]
  rfl
theorem liftsG {P:Program} {r:List (List Char)} (h:behindMainWord (wordsSigns P.initOrder.toList)=([99,117,116].map Char.ofNat)::r):P.liftsFinal=false:=by
  unfold Program.liftsFinal Program.headLifts;rw [h,stripG]
  rfl
theorem enterG {P:Program} {r:List (List Char)} (h:behindMainWord (wordsSigns P.initOrder.toList)=([99,117,116].map Char.ofNat)::r) (h1:P.laysLater=false) (h2:P.bearsReflect=false) (h3:P.doorFits []=true):P.mayEnter=true:=by
  unfold Program.mayEnter;rw [h];simp only [stripG,h1,h2,h3]
  rfl
theorem e1:Tryz.prog.laysLater=false:=by kernel_rfl
theorem e2:Tryz.prog.bearsReflect=false:=by kernel_rfl
theorem e3:Tryz.prog.doorFits []=true:=by kernel_rfl
theorem BK:Tryz.prog.make=some .cut:=makeG io3
theorem Bq:Tryz.prog.liftsFinal=false:=liftsG io3
theorem Bv:Tryz.prog.mayEnter=true:=enterG io3 e1 e2 e3
theorem BV:mapsRowed Tryz.prog:=by kernel_rfl
theorem Bp:Tryz.prog.stopsHeard=true:=by kernel_rfl
end Go.Proofs.YtikjpdpgdmbdpaaGreat

/- Ours. -/
namespace Go.Proofs.YtikjpdpgdmbdpaaGreat
open Go.ChangeShapes Go.WideShapes Go.RowKit Go.Deep Go.ChangeAt
section
variable {H : Type} {enc : TypeId × Value → H} {P : Program} {w : World} {base : Nat} {spare : Nat → Bool} {held : Bool}
def flatF (P:Program) (k:TypeId→Option (List IntKind)):Nat→List Go.Field→Option (List IntKind)
  | _,[]=>some []
  | off,f::fs=>if f.offset=off then (k f.type).bind fun ks=>if ks.length=P.cellsOf f.type then (flatF P k (off+P.cellsOf f.type) fs).map (ks++·) else none else none
def flatK (P:Program):Nat→TypeId→Option (List IntKind)
  | 0,_=>none
  | n+1,t=>match P.underlying t with
    | some (.int k)=>some [k]
    | some (.struct fs)=>(flatF P (flatK P n) 0 fs.toList).bind fun ks=>if ks.length=P.cellsOf t then some ks else none
    | _=>none
def Ints (ks:List IntKind) (cs:List Value):Prop:=∃ ns:List Int,cs=List.zipWith Value.int ks ns∧ns.length=ks.length∧∀ q,q∈List.zip ks ns→(Lit.int q.1 q.2).wf=true
theorem Ints.append {ks ks':List IntKind} {cs cs':List Value} (h:Ints ks cs) (h':Ints ks' cs'):Ints (ks++ks') (cs++cs'):=by
  obtain ⟨ns,rfl,h2,h3⟩:=h;obtain ⟨ns',rfl,h2',h3'⟩:=h';refine ⟨ns++ns',(List.zipWith_append h2.symm).symm,by simp [h2,h2'],fun q hq=>?_⟩
  rw [List.zip_append h2.symm] at hq
  rcases List.mem_append.1 hq with hq | hq
  · exact h3 q hq
  · exact h3' q hq
theorem sX {k:TypeId→Option (List IntKind)} {m:Nat} {cs:List Value} (hk:∀ t ks cs x,k t=some ks→DataW.trod enc P w base spare held m t cs=some x→Ints ks cs):∀ (fs:List Go.Field) (off:Nat) (ks:List IntKind),flatF P k off fs=some ks→
    (∀ f,f∈fs→∃ y,DataW.trod enc P w base spare held m f.type ((cs.drop f.offset).take (P.cellsOf f.type))=some y)→Ints ks ((cs.drop off).take ks.length)
  | [],off,ks,h,_=>by
    obtain rfl:=Option.some.inj h;exact ⟨[],by simp,rfl,fun q hq=>by simp at hq⟩
  | f::fs,off,ks,h,hf=>by
    unfold flatF at h
    split at h
    · rename_i ho
      obtain ⟨k1,h1,h⟩:=Option.bind_eq_some_iff.1 h
      split at h
      · rename_i hl
        obtain ⟨k2,h2,rfl⟩:=Option.map_eq_some_iff.1 h;obtain ⟨y,hy⟩:=hf f (List.mem_cons_self ..);have i1:=hk _ _ _ _ h1 hy;have i2:=sX hk fs _ k2 h2 fun g hg=>hf g (List.mem_cons_of_mem _ hg)
        rw [ho,←hl] at i1
        rw [List.length_append,List.take_add,List.drop_drop,hl]
        rw [hl] at i1
        exact i1.append i2
      · cases h
    · cases h
theorem tJ:∀ (n:Nat) (t:TypeId) (ks:List IntKind) (m:Nat) (cs:List Value) (x:DataW H × List MemPlace),flatK P n t=some ks→DataW.trod enc P w base spare held m t cs=some x→Ints ks cs
  | 0,_,_,_,_,_,h,_=>by cases h
  | n+1,t,ks,m,cs,x,h,hd=>by
    unfold flatK at h
    split at h
    · rename_i k hu
      obtain rfl:=Option.some.inj h;obtain ⟨z,h1,_,h2⟩:=DataW.trod_int hu hd;subst h1;exact ⟨[z],rfl,rfl,fun q hq=>by
        rcases List.mem_singleton.1 hq with rfl
        exact h2⟩
    · rename_i fs hu
      obtain ⟨ks',h1,h2⟩:=Option.bind_eq_some_iff.1 h
      split at h2
      · rename_i hl
        obtain rfl:=Option.some.inj h2;obtain ⟨xs,m',_,hx,hcl,hlen,hfs⟩:=DataW.trod_struct hu hd;have:=sX (m:=m') (cs:=cs) (fun t ks cs x=>tJ n t ks m' cs x) fs.toList 0 ks' h1 fun f hf=>by
          obtain ⟨j,hj,he⟩:=List.mem_iff_getElem.1 hf;have hj':fs[j]?=some f:=by rw [←he]; simp
          have h3:=hfs j f hj';have hjs:j<fs.size:=by simpa using hj
          exact ⟨_,h3.trans (List.getElem?_eq_getElem (show j<xs.length by omega))⟩
        rw [List.drop_zero,List.take_of_length_le (by omega)] at this
        exact this
      · cases h2
    · cases h
theorem Bb {α:Type} {T:TypeId} {r:Reach} {b0:Nat} {t e:TypeId} {v:Value} {d:DataW H} {p:List MemPlace} {sz:Nat} (f:α→List Value) (Pr:α→Prop) (z:α) (ht:P.underlying t=some (.slice e))
    (hel:∀ m cs x,DataW.trod enc P w base spare held m e cs=some x→∃ y,cs=f y∧Pr y) (hc:P.cellsOf e=sz) (hpos:0<sz) (hfl:∀ x,(f x).length=sz)
    (hv:Value.okWide P w r b0 t v) (h:DataW.Trod enc P w base spare held t v d p):∃ xs:List α,RoAt T sz f v xs w∧∀ x,x∈xs→Pr x:=by
  obtain ⟨a,len,cap,rfl⟩:=okWide_slice ht hv;obtain ⟨fuel,hd⟩:=h
  rcases open_slice ht hd with ⟨h1,_⟩ | ⟨ad,n',c,m,q,D,Pl,h1,_,hnc,_,hm,_,hcell⟩
  · simp only [Value.cells,List.cons.injEq,and_true] at h1
    injection h1 with h1 h2 h3
    subst h1; subst h2; subst h3;exact ⟨[],.inl ⟨_,_,rfl,rfl⟩,fun _ h=>by cases h⟩
  · simp only [Value.cells,List.cons.injEq,and_true] at h1
    injection h1 with h1 h2 h3
    subst h1; subst h2; subst h3;have hlen:len≤m:=by rw [hm]; split <;> omega
    have hI:∀ i,i<len→∃ y:α,w.cells? base (ad.add (i * sz)) sz=some (f y)∧Pr y:=fun i hi=>by
      obtain ⟨cs',h1,h2⟩:=hcell i (by omega);obtain ⟨y,h3,h4⟩:=hel q cs' _ h2;rw [hc,h3] at h1
      exact ⟨y,h1,h4⟩
    obtain ⟨g,hg⟩:=Classical.axiomOfChoice (r:=fun (i:Nat) (y:α)=>i<len→w.cells? base (ad.add (i * sz)) sz=some (f y)∧Pr y)
      (fun i=>by
        by_cases hi:i<len
        · obtain ⟨y,h⟩:=hI i hi; exact ⟨y,fun _=>h⟩
        · exact ⟨z,fun h=>absurd h hi⟩)
    refine ⟨(List.range len).map fun i=>g i,?_,fun x hx=>?_⟩
    · cases len with
      | zero=>exact .inl ⟨_,_,rfl,rfl⟩
      | succ m0=>
        have hz:∀ i,i<m0+1→∀ j u,(f ((g i)))[j]?=some u→w.cell? ((ad.add (i * sz)).add j)=some u:=fun i hi j u hu=>by
          obtain ⟨h1,_⟩:=hg i hi;obtain ⟨_,h4,h5⟩:=World.cells?_some h1;have hj:j<(f (g i)).length:=(List.getElem?_eq_some_iff.1 hu).1;rw [h5 j (by omega),hu]
        have h0:=hz 0 (by omega) 0 ((f ((g 0)))[0]'(by rw [hfl]; exact hpos)) (by simp)
        have hadd:(ad.add (0 * sz)).add 0=ad:=by rw [Nat.zero_mul]; rfl
        rw [hadd] at h0
        have hsp:ad.spot=none:=by
          unfold World.cell? at h0
          split at h0
          · split at h0
            · cases h0
            · rename_i h; simpa using h
          · cases h0
        obtain ⟨gB,o,sp⟩:=ad;simp only at hsp
        subst hsp;have hx:∃ cur E fz,w.heap[gB]?=some (.cells cur E fz):=by
          unfold World.cell? at h0
          split at h0
          · rename_i c' E fz hh; exact ⟨c',E,fz,hh⟩
          · cases h0
        obtain ⟨cur,E,fz,hh⟩:=hx;refine .inr ⟨gB,o,cap,cur,E,fz,by simp,?_,hh,?_,by simpa using hnc⟩
        · intro he
          have:=congrArg List.length he;simp at this
        · have hll:((List.range (m0+1)).map fun i=>g i).length=m0+1:=by simp
          apply List.ext_getElem?
          intro q;rw [hll]
          by_cases hq:q<(m0+1) * sz
          · have hi:q / sz<m0+1:=(Nat.div_lt_iff_lt_mul hpos).2 hq
            have hj:q % sz<sz:=Nat.mod_lt _ hpos;have hqq:q / sz * sz+q % sz=q:=by rw [Nat.mul_comm]; exact Nat.div_add_mod q sz
            have h1:=hz (q / sz) hi (q % sz) ((f ((g (q / sz))))[q % sz]'(by rw [hfl]; exact hj)) (by simp)
            rw [Addr.add_lit,Addr.add_lit] at h1
            simp only [World.cell?,hh] at h1
            have h2:=oU hfl ((List.range (m0+1)).map fun i=>g i) (q / sz) (by rw [hll]; exact hi) (q % sz) ((f ((g (q / sz))))[q % sz]'(by rw [hfl]; exact hj)) (by simp)
            rw [hqq] at h2
            rw [h2,List.getElem?_take,if_pos hq,List.getElem?_drop]
            rw [Nat.add_assoc,hqq] at h1
            simpa using h1
          · rw [List.getElem?_take,if_neg hq,List.getElem?_eq_none]
            rw [gF hfl,hll]
            omega
    · obtain ⟨i,hi,rfl⟩:=List.mem_map.1 hx
      exact (hg i (List.mem_range.1 hi)).2
theorem AV {α:Type} {T:TypeId} {r:Reach} {b0:Nat} {t e:TypeId} {v:Value} {d:DataW H} {p:List MemPlace} (n:Nat) (ks:List IntKind) (f:α→List Value) (dec:List Int→α) (ht:P.underlying t=some (.slice e)) (hk:flatK P n e=some ks)
    (hc:P.cellsOf e=ks.length) (hdec:∀ ns:List Int,ns.length=ks.length→f (dec ns)=List.zipWith Value.int ks ns) (hpos:0<ks.length) (hfl:∀ x,(f x).length=ks.length)
    (hv:Value.okWide P w r b0 t v) (h:DataW.Trod enc P w base spare held t v d p) :
    ∃ xs:List α,RoAt T ks.length f v xs w∧∀ x,x∈xs→∃ ns:List Int,x=dec ns∧ns.length=ks.length∧∀ q,q∈List.zip ks ns→(Lit.int q.1 q.2).wf=true:=
  Bb f (fun x=>∃ ns:List Int,x=dec ns∧ns.length=ks.length∧∀ q,q∈List.zip ks ns→(Lit.int q.1 q.2).wf=true) (dec []) ht (fun m cs x hx=>by
    obtain ⟨ns,h1,h2,h3⟩:=tJ n e ks m cs x hk hx;exact ⟨dec ns,by rw [hdec ns h2]; exact h1,ns,rfl,h2,h3⟩) hc hpos hfl hv h
theorem AU {T:TypeId} {r:Reach} {b0:Nat} {t e:TypeId} {k:IntKind} {v:Value} {d:DataW H} {p:List MemPlace} (f:Int→List Value) (hf:∀ x,f x=[.int k x]) (ht:P.underlying t=some (.slice e)) (he:P.underlying e=some (.int k)) (hc:P.cellsOf e=1)
    (hv:Value.okWide P w r b0 t v) (h:DataW.Trod enc P w base spare held t v d p):∃ xs:List Int,RoAt T 1 f v xs w∧∀ n,n∈xs→(Lit.int k n).wf=true:=by
  obtain ⟨xs,h1,h2⟩:=AV (T:=T) 1 [k] f (fun ns=>ns.headD 0) ht (by unfold flatK; rw [he]) hc (fun ns hn=>by
    match ns,hn with
    | [x],_=>exact hf x) (by simp) (fun x=>by rw [hf]; rfl) hv h
  refine ⟨xs,h1,fun n hn=>?_⟩
  obtain ⟨ns,rfl,h3,h4⟩:=h2 n hn
  match ns,h3 with
  | [x],_=>exact h4 (k,x) (by simp)
end
end Go.Proofs.YtikjpdpgdmbdpaaGreat

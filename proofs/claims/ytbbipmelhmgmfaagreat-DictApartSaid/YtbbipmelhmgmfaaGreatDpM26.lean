/- Some of our texts, one behind the other. -/
import Derived.Test.YtbbipmelhmgmfaaGreatDpM25
import Derived.ChangeSlices
import Derived.Test.YtbbipmelhmgmfaaGreatDpM5
set_option linter.all false
set_option maxRecDepth 100000
set_option maxHeartbeats 20000000
/- Ours. -/
namespace Go.Proofs.YtbbipmelhmgmfaaGreat
open Go.ChangeShapes Go.WideShapes Go.ChangeAt Go.RowKit
def ioN:List Nat:=[104,97,114,110,101,115,115,32,52,55,55,53,50,49,53,100,50,97,49,57,51,99,54,57,101,51,99,52,55,102,55,54,54,49,55,51,101,57,97,53,57,54,99,52,51,56,52,52,48,100,52,50,97,52,53,57,98,102,50,52,51,54,57,53,101,49,101,99,57,101,52,52,32,99,117,116,32,97,116,32,99,117,98,105,99,108,101,47,99,117,98,105,99,108,101,108,97,119,49,55,46,68,111,109,97,105,110,77,97,110,121,32,99,117,98,105,99,108,101,47,99,117,98,105,99,108,101,108,97,119,49,51,46,67,104,101,99,107,65,108,111,110,101,32,99,117,98,105,99,108,101,47,99,117,98,105,99,108,101,108,97,119,49,53,46,76,105,115,116,65,108,111,110,101,32,99,117,98,105,99,108,101,47,99,117,98,105,99,108,101,108,97,119,49,54,46,68,105,99,116,67,101,108,108,115,32,99,117,98,105,99,108,101,47,99,117,98,105,99,108,101,108,97,119,49,54,46,68,105,99,116,66,117,99,107,101,116,115,32,99,117,98,105,99,108,101,47,99,117,98,105,99,108,101,108,97,119,49,54,46,68,105,99,116,65,112,97,114,116,32,99,117,98,105,99,108,101,47,99,117,98,105,99,108,101,108,97,119,49,54,46,68,105,99,116,65,108,111,110,101,32,99,117,98,105,99,108,101,47,99,117,98,105,99,108,101,108,97,119,49,55,46,68,111,109,97,105,110,79,100,100,32,99,117,98,105,99,108,101,47,99,117,98,105,99,108,101,108,97,119,49,50,46,65,108,108,111,99,77,97,110,121]
theorem io1:Tryz.prog.initOrder=String.ofList (ioN.map Char.ofNat):=kz
theorem io2:Tryz.prog.initOrder.toList=ioN.map Char.ofNat:=by rw [io1,String.toList_ofList]
theorem io3:behindMainWord (wordsSigns Tryz.prog.initOrder.toList)=(([99,117,116]:List Nat).map Char.ofNat)::([[97,116],[99,117,98,105,99,108,101,47,99,117,98,105,99,108,101,108,97,119,49,55,46,68,111,109,97,105,110,77,97,110,121],[99,117,98,105,99,108,101,47,99,117,98,105,99,108,101,108,97,119,49,51,46,67,104,101,99,107,65,108,111,110,101],[99,117,98,105,99,108,101,47,99,117,98,105,99,108,101,108,97,119,49,53,46,76,105,115,116,65,108,111,110,101],[99,117,98,105,99,108,101,47,99,117,98,105,99,108,101,108,97,119,49,54,46,68,105,99,116,67,101,108,108,115],[99,117,98,105,99,108,101,47,99,117,98,105,99,108,101,108,97,119,49,54,46,68,105,99,116,66,117,99,107,101,116,115],[99,117,98,105,99,108,101,47,99,117,98,105,99,108,101,108,97,119,49,54,46,68,105,99,116,65,112,97,114,116],[99,117,98,105,99,108,101,47,99,117,98,105,99,108,101,108,97,119,49,54,46,68,105,99,116,65,108,111,110,101],[99,117,98,105,99,108,101,47,99,117,98,105,99,108,101,108,97,119,49,55,46,68,111,109,97,105,110,79,100,100],[99,117,98,105,99,108,101,47,99,117,98,105,99,108,101,108,97,119,49,50,46,65,108,108,111,99,77,97,110,121]]:List (List Nat)).map (List.map Char.ofNat):=by rw [io2]; kernel_rfl
theorem stripG (r:List (List Char)):stripLifts liftWords (([99,117,116].map Char.ofNat)::r)=([],([99,117,116].map Char.ofNat)::r):=by rfl
theorem makeG {P:Program} {r:List (List Char)} (h:behindMainWord (wordsSigns P.initOrder.toList)=([99,117,116].map Char.ofNat)::r):P.make=some .cut:=by
  unfold Program.make;rw [h]
  rfl
theorem liftsG {P:Program} {r:List (List Char)} (h:behindMainWord (wordsSigns P.initOrder.toList)=([99,117,116].map Char.ofNat)::r):P.liftsFinal=false:=by
  unfold Program.liftsFinal Program.headLifts;rw [h,stripG]
  rfl
theorem enterG {P:Program} {r:List (List Char)} (h:behindMainWord (wordsSigns P.initOrder.toList)=([99,117,116].map Char.ofNat)::r) (h1:P.laysLater=false) (h2:P.bearsReflect=false) (h3:P.doorFits []=true):P.mayEnter=true:=by
  unfold Program.mayEnter;rw [h];simp only [stripG,h1,h2,h3]
  rfl
theorem e1:Tryz.prog.laysLater=false:=kz
theorem e2:Tryz.prog.bearsReflect=false:=kz
theorem e3:Tryz.prog.doorFits []=true:=kz
theorem zoW:Tryz.prog.make=some .cut:=makeG io3
theorem zo7:Tryz.prog.liftsFinal=false:=liftsG io3
theorem znU:Tryz.prog.mayEnter=true:=enterG io3 e1 e2 e3
theorem zoD:mapsRowed Tryz.prog:=kz
theorem znX:Tryz.prog.stopsHeard=true:=kz
end Go.Proofs.YtbbipmelhmgmfaaGreat

/- Ours. -/
namespace Go.Proofs.YtbbipmelhmgmfaaGreat
open Go.ChangeShapes Go.WideShapes Go.RowKit Go.Deep Go.ChangeAt
section
variable {H : Type} {enc : TypeId × Value → H} {P : Program} {w : World} {base : Nat} {spare : Nat → Bool} {held : Bool}
def flatF (P:Program) (k:TypeId→Option (List IntKind)):Nat→List Go.Field→Option (List IntKind)
 | _,[]=>some []
 | off,f::fs=>if f.offset=off then (k f.type).bind fun ks=>if ks.length=P.cellsOf f.type then (flatF P k (off+P.cellsOf f.type) fs).map (ks++·) else none else none
def flatK (P:Program):Nat→TypeId→Option (List IntKind)
 | 0,_=>none
 | n+1,t=>match P.underlying t with
  | some (.int k)=>some [k]
  | some (.struct fs)=>(flatF P (flatK P n) 0 fs.toList).bind fun ks=>if ks.length=P.cellsOf t then some ks else none
  | _=>none
def Ints (ks:List IntKind) (cs:List Value):Prop:=∃ ns:List Int,cs=List.zipWith Value.int ks ns∧ns.length=ks.length∧∀ q,q∈List.zip ks ns→(Lit.int q.1 q.2).wf=true
theorem Ints.append {ks ks':List IntKind} {cs cs':List Value} (h:Ints ks cs) (h':Ints ks' cs'):Ints (ks++ks') (cs++cs'):=by
 obtain ⟨ns,rfl,h2,h3⟩:=h;obtain ⟨ns',rfl,h2',h3'⟩:=h';refine ⟨ns++ns',(List.zipWith_append h2.symm).symm,by simp [h2,h2'],fun q hq=>?_⟩
 rw [List.zip_append h2.symm] at hq
 rcases List.mem_append.1 hq with hq | hq
 ·exact h3 q hq
 ·exact h3' q hq
theorem zkq {k:TypeId→Option (List IntKind)} {m:Nat} {cs:List Value} (hk:∀ t ks cs x,k t=some ks→DataW.trod enc P w base spare held m t cs=some x→Ints ks cs):∀ (fs:List Go.Field) (off:Nat) (ks:List IntKind),flatF P k off fs=some ks→
  (∀ f,f∈fs→∃ y,DataW.trod enc P w base spare held m f.type ((cs.drop f.offset).take (P.cellsOf f.type))=some y)→Ints ks ((cs.drop off).take ks.length)
 | [],off,ks,h,_=>by
  obtain rfl:=Option.some.inj h;exact ⟨[],by simp,rfl,fun q hq=>by simp at hq⟩
 | f::fs,off,ks,h,hf=>by
  unfold flatF at h
  split at h
  ·rename_i ho
   obtain ⟨k1,h1,h⟩:=Option.bind_eq_some_iff.1 h
   split at h
   ·rename_i hl
    obtain ⟨k2,h2,rfl⟩:=Option.map_eq_some_iff.1 h;obtain ⟨y,hy⟩:=hf f (List.mem_cons_self ..);have i1:=hk _ _ _ _ h1 hy;have i2:=zkq hk fs _ k2 h2 fun g hg=>hf g (List.mem_cons_of_mem _ hg)
    rw [ho,←hl] at i1
    rw [List.length_append,List.take_add,List.drop_drop,hl]
    rw [hl] at i1
    exact i1.append i2
   ·cases h
  ·cases h
theorem zlo:∀ (n:Nat) (t:TypeId) (ks:List IntKind) (m:Nat) (cs:List Value) (x:DataW H × List MemPlace),flatK P n t=some ks→DataW.trod enc P w base spare held m t cs=some x→Ints ks cs
 | 0,_,_,_,_,_,h,_=>by cases h
 | n+1,t,ks,m,cs,x,h,hd=>by
  unfold flatK at h
  split at h
  ·rename_i k hu
   obtain rfl:=Option.some.inj h;obtain ⟨z,h1,_,h2⟩:=DataW.trod_int hu hd;subst h1;exact ⟨[z],rfl,rfl,fun q hq=>by
    rcases List.mem_singleton.1 hq with rfl
    exact h2⟩
  ·rename_i fs hu
   obtain ⟨ks',h1,h2⟩:=Option.bind_eq_some_iff.1 h
   split at h2
   ·rename_i hl
    obtain rfl:=Option.some.inj h2;obtain ⟨xs,m',_,hx,hcl,hlen,hfs⟩:=DataW.trod_struct hu hd;have:=zkq (m:=m') (cs:=cs) (fun t ks cs x=>zlo n t ks m' cs x) fs.toList 0 ks' h1 fun f hf=>by
     obtain ⟨j,hj,he⟩:=List.mem_iff_getElem.1 hf;have hj':fs[j]?=some f:=by rw [←he]; simp
     have h3:=hfs j f hj';have hjs:j<fs.size:=by simpa using hj
     exact ⟨_,h3.trans (List.getElem?_eq_getElem (show j<xs.length by omega))⟩
    rw [List.drop_zero,List.take_of_length_le kw] at this
    exact this
   ·cases h2
  ·cases h
theorem zmO {α:Type} {T:TypeId} {t e:TypeId} {v:Value} {d:DataW H} {p:List MemPlace} {sz:Nat} (f:α→List Value) (Pr:α→Prop) (z:α) (ht:P.underlying t=some (.slice e))
  (hel:∀ m cs x,DataW.trod enc P w base spare held m e cs=some x→∃ y,cs=f y∧Pr y) (hc:P.cellsOf e=sz) (hpos:0<sz) (hfl:∀ x,(f x).length=sz)
  (hv:∃ a len cap,v=.slice a len cap) (h:DataW.Trod enc P w base spare held t v d p):∃ xs:List α,RoAt T sz f v xs w∧∀ x,x∈xs→Pr x:=by
 obtain ⟨a,len,cap,rfl⟩:=hv;obtain ⟨fuel,hd⟩:=h
 rcases open_slice ht hd with ⟨h1,_⟩ | ⟨ad,n',c,m,q,D,Pl,h1,_,hnc,_,hm,_,hcell⟩
 ·simp only [Value.cells,List.cons.injEq,and_true] at h1
  injection h1 with h1 h2 h3
  subst h1; subst h2; subst h3;exact ⟨[],.inl ⟨_,_,rfl,rfl⟩,fun _ h=>by cases h⟩
 ·simp only [Value.cells,List.cons.injEq,and_true] at h1
  injection h1 with h1 h2 h3
  subst h1; subst h2; subst h3;have hlen:len≤m:=by rw [hm]; split <;> omega
  have hI:∀ i,i<len→∃ y:α,w.cells? base (ad.add (i * sz)) sz=some (f y)∧Pr y:=fun i hi=>by
   obtain ⟨cs',h1,h2⟩:=hcell i kw;obtain ⟨y,h3,h4⟩:=hel q cs' _ h2;rw [hc,h3] at h1
   exact ⟨y,h1,h4⟩
  obtain ⟨g,hg⟩:=Classical.axiomOfChoice (r:=fun (i:Nat) (y:α)=>i<len→w.cells? base (ad.add (i * sz)) sz=some (f y)∧Pr y)
   (fun i=>by
    by_cases hi:i<len
    ·obtain ⟨y,h⟩:=hI i hi; exact ⟨y,fun _=>h⟩
    ·exact ⟨z,fun h=>absurd h hi⟩)
  refine ⟨(List.range len).map fun i=>g i,?_,fun x hx=>?_⟩
  ·cases len with
   | zero=>exact .inl ⟨_,_,rfl,rfl⟩
   | succ m0=>
    have hz:∀ i,i<m0+1→∀ j u,(f ((g i)))[j]?=some u→w.cell? ((ad.add (i * sz)).add j)=some u:=fun i hi j u hu=>by
     obtain ⟨h1,_⟩:=hg i hi;obtain ⟨_,h4,h5⟩:=World.cells?_some h1;have hj:j<(f (g i)).length:=(List.getElem?_eq_some_iff.1 hu).1;rw [h5 j kw,hu]
    have h0:=hz 0 kw 0 ((f ((g 0)))[0]'(by rw [hfl]; exact hpos)) yat
    have hadd:(ad.add (0 * sz)).add 0=ad:=by rw [Nat.zero_mul]; rfl
    rw [hadd] at h0
    have hsp:ad.spot=none:=by
     unfold World.cell? at h0
     split at h0
     ·split at h0
      ·cases h0
      ·rename_i h; simpa using h
     ·cases h0
    obtain ⟨gB,o,sp⟩:=ad;simp only at hsp
    subst hsp;have hx:∃ cur E fz,w.heap[gB]?=some (.cells cur E fz):=by
     unfold World.cell? at h0
     split at h0
     ·rename_i c' E fz hh; exact ⟨c',E,fz,hh⟩
     ·cases h0
    obtain ⟨cur,E,fz,hh⟩:=hx;refine .inr ⟨gB,o,cap,cur,E,fz,by simp,?_,hh,?_,by simpa using hnc⟩
    ·intro he
     have:=congrArg List.length he;simp at this
    ·have hll:((List.range (m0+1)).map fun i=>g i).length=m0+1:=by simp
     apply List.ext_getElem?
     intro q;rw [hll]
     by_cases hq:q<(m0+1) * sz
     ·have hi:q / sz<m0+1:=(Nat.div_lt_iff_lt_mul hpos).2 hq
      have hj:q % sz<sz:=Nat.mod_lt _ hpos;have hqq:q / sz * sz+q % sz=q:=by rw [Nat.mul_comm]; exact Nat.div_add_mod q sz
      have h1:=hz (q / sz) hi (q % sz) ((f ((g (q / sz))))[q % sz]'(by rw [hfl]; exact hj)) yat
      rw [Addr.add_lit,Addr.add_lit] at h1
      simp only [World.cell?,hh] at h1
      have h2:=zhb hfl ((List.range (m0+1)).map fun i=>g i) (q / sz) (by rw [hll]; exact hi) (q % sz) ((f ((g (q / sz))))[q % sz]'(by rw [hfl]; exact hj)) yat
      rw [hqq] at h2
      rw [h2,List.getElem?_take,if_pos hq,List.getElem?_drop]
      rw [Nat.add_assoc,hqq] at h1
      simpa using h1
     ·rw [List.getElem?_take,if_neg hq,List.getElem?_eq_none]
      rw [zcQ hfl,hll]
      omega
  ·obtain ⟨i,hi,rfl⟩:=List.mem_map.1 hx
   exact (hg i (List.mem_range.1 hi)).2
theorem zn9 {α:Type} {T:TypeId} {r:Reach} {b0:Nat} {t e:TypeId} {v:Value} {d:DataW H} {p:List MemPlace} {sz:Nat} (f:α→List Value) (Pr:α→Prop) (z:α) (ht:P.underlying t=some (.slice e))
  (hel:∀ m cs x,DataW.trod enc P w base spare held m e cs=some x→∃ y,cs=f y∧Pr y) (hc:P.cellsOf e=sz) (hpos:0<sz) (hfl:∀ x,(f x).length=sz)
  (hv:Value.okWide P w r b0 t v) (h:DataW.Trod enc P w base spare held t v d p):∃ xs:List α,RoAt T sz f v xs w∧∀ x,x∈xs→Pr x:=
 zmO f Pr z ht hel hc hpos hfl (okWide_slice ht hv) h
theorem zly {α:Type} {T:TypeId} {r:Reach} {b0:Nat} {t e:TypeId} {v:Value} {d:DataW H} {p:List MemPlace} (n:Nat) (ks:List IntKind) (f:α→List Value) (dec:List Int→α) (ht:P.underlying t=some (.slice e)) (hk:flatK P n e=some ks)
  (hc:P.cellsOf e=ks.length) (hdec:∀ ns:List Int,ns.length=ks.length→f (dec ns)=List.zipWith Value.int ks ns) (hpos:0<ks.length) (hfl:∀ x,(f x).length=ks.length)
  (hv:Value.okWide P w r b0 t v) (h:DataW.Trod enc P w base spare held t v d p) :
  ∃ xs:List α,RoAt T ks.length f v xs w∧∀ x,x∈xs→∃ ns:List Int,x=dec ns∧ns.length=ks.length∧∀ q,q∈List.zip ks ns→(Lit.int q.1 q.2).wf=true:=
 zn9 f (fun x=>∃ ns:List Int,x=dec ns∧ns.length=ks.length∧∀ q,q∈List.zip ks ns→(Lit.int q.1 q.2).wf=true) (dec []) ht (fun m cs x hx=>by
  obtain ⟨ns,h1,h2,h3⟩:=zlo n e ks m cs x hk hx;exact ⟨dec ns,by rw [hdec ns h2]; exact h1,ns,rfl,h2,h3⟩) hc hpos hfl hv h
end
end Go.Proofs.YtbbipmelhmgmfaaGreat

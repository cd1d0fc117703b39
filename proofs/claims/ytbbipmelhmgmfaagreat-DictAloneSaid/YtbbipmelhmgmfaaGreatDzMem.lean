/- Ours. -/
import Derived.Test.YtbbipmelhmgmfaaGreatDzM7
import Derived.Test.YtbbipmelhmgmfaaGreatProg
set_option linter.all false
set_option maxRecDepth 100000
set_option maxHeartbeats 20000000
namespace Go.Proofs.YtbbipmelhmgmfaaGreat
open Go.RowKit
structure Mem where
 ws:List Int
 cnt:Int
structure MG where
 mb:Nat
 lb:Nat
 rb:Nat
 wb:Nat
 cap:Nat
def MG.bs (g:MG):List Nat:=[g.mb,g.lb,g.rb,g.wb]
structure JX (g:MG) (M:Mem) (w:World):Prop where
 hdr:w.heap[g.mb]?=some (.cells #[.slice (some ⟨g.lb,0,none⟩) 1 g.cap,.int .i64 M.cnt] 145 (0,0))
 lst:∃ cur,w.heap[g.lb]?=some (.cells cur 139 (0,0))/\cur[0]?=some (.pointer (some ⟨g.rb,0,none⟩))
 reg:w.heap[g.rb]?=some (.cells #[.slice (some ⟨g.wb,0,none⟩) M.ws.length M.ws.length,.int .u64 1] 142 (0,0))
 wds:w.heap[g.wb]?=some (.cells (M.ws.flatMap u64).toArray 34 (0,0))
 apart:g.mb≠g.lb/\g.mb≠g.rb/\g.mb≠g.wb/\g.lb≠g.rb/\g.lb≠g.wb/\g.rb≠g.wb
section
variable {g : MG} {M : Mem} {w w' w0 : World} {L : List Ck} {Z : Nat -> Prop} {i : Nat}
theorem JX.st (h:∀ b,b∈g.bs->w'.heap[b]?=w.heap[b]?) (hm:JX g M w):JX g M w':=by
 obtain ⟨h1,⟨cur,h2,h2'⟩,h3,h4,h5⟩:=hm;exact ⟨(h _ yaK).trans h1,⟨cur,(h _ yaK).trans h2,h2'⟩,(h _ yaK).trans h3,(h _ yaK).trans h4,h5⟩
theorem JX.lt (hm:JX g M w):∀ b,b∈g.bs->b<w.heap.size:=by
 obtain ⟨h1,⟨cur,h2,h2'⟩,h3,h4,h5⟩:=hm;intro b hb;simp only [MG.bs,List.mem_cons,List.not_mem_nil,or_false] at hb
 rcases hb with rfl | rfl | rfl | rfl
 ·exact q8 h1
 ·exact q8 h2
 ·exact q8 h3
 ·exact q8 h4
def I9 (g:MG) (M:Mem):Ck:=⟨g.bs,[],JX g M,fun _ _ h _ hm=>hm.st fun b hb=>h b (.inl hb)⟩
def memR (g:MG) (M:Mem):Ck:=⟨[],g.bs,JX g M,fun _ _ h _ hm=>hm.st fun b hb=>h b (.inr hb)⟩
theorem Post.mem (h:Post Z L w0 w) (hi:L[i]?=some (I9 g M)):JX g M w:=h.sep.get hi
theorem Post.Le (h:Post Z L w0 w) (hi:L[i]?=some (memR g M)):JX g M w:=h.sep.get hi
theorem wK (hm:JX g M w):JY [I9 g M] w:=
 ⟨hm,(fun b hb=>by rcases hb with hb | hb; (exact hm.lt b hb); (cases hb)),(fun _ h=>by cases h),trivial⟩
theorem Post.memUpd {M':Mem} {b:Nat} {o:Obj} (h:Post Z L w0 w) (hi:L[i]?=some (I9 g M)) (hb:b∈g.bs) (hu:Upd w w' b o) (hm:JX g M' w'):Post Z (L.set i (I9 g M')) w0 w':=by
 have:=h.set (N:=[]) hi (c':=I9 g M') ⟨⟨wK hm,⟨hu.os,hu.tape,hu.output,Nat.le_of_eq hu.size.symm,fun k _ hk=>hu.other k fun e=>hk (e ▸ hb)⟩,fun c hc b' hb'=>by rcases List.mem_singleton.1 hc with rfl; exact .inl hb'⟩,fun c hc b' hb'=>by rcases List.mem_singleton.1 hc with rfl; cases hb'⟩
 rwa [List.append_nil] at this
theorem JX.setCnt {c:Int} (hm:JX g M w) (hu:Upd w w' g.mb (.cells #[.slice (some ⟨g.lb,0,none⟩) 1 g.cap,.int .i64 c] 145 (0,0))):JX g { M with cnt:=c } w':=by
 obtain ⟨h1,⟨cur,h2,h2'⟩,h3,h4,h5⟩:=hm;obtain ⟨e1,e2,e3,_⟩:=id h5;exact ⟨hu.at_,⟨cur,(hu.other _ (Ne.symm e1)).trans h2,h2'⟩,(hu.other _ (Ne.symm e2)).trans h3,(hu.other _ (Ne.symm e3)).trans h4,h5⟩
theorem JX.setWord {ws:List Int} (hm:JX g M w) (hl:ws.length=M.ws.length) (hu:Upd w w' g.wb (.cells (ws.flatMap u64).toArray 34 (0,0))):JX g { M with ws:=ws } w':=by
 obtain ⟨h1,⟨cur,h2,h2'⟩,h3,h4,h5⟩:=hm;obtain ⟨_,_,e1,_,e2,e3⟩:=id h5;refine ⟨(hu.other _ e1).trans h1,⟨cur,(hu.other _ e2).trans h2,h2'⟩,?_,hu.at_,h5⟩;show w'.heap[g.rb]?=some (.cells #[.slice (some ⟨g.wb,0,none⟩) ws.length ws.length,.int .u64 1] 142 (0,0))
 rw [hl]
 exact (hu.other _ e3).trans h3
theorem lU:∀ (l:List Int),l.flatMap u64=l.map (.int .u64)
 | []=>rfl
 | x::l=>by simp [List.flatMap_cons,u64,lU l]
theorem CW {ws:List Int} {k:Nat} {v:Int}:over (ws.flatMap u64).toArray k [.int .u64 v]=((ws.set k v).flatMap u64).toArray:=by
 simp only [over,lU,List.setIfInBounds_toArray,List.map_set]
theorem qG {ws:List Int} {k:Nat} {v:Int}:over (ws.flatMap u64).toArray (0+k * 1) (Value.int .u64 v).cells.toList=((ws.set k v).flatMap u64).toArray:=by
 rw [show 0+k * 1=k from by omega]
 exact CW
theorem rz {ws:List Int} {y x:Int} {v:Int} (h:Jj ws y=some x):0+y.toNat * 1+(Value.int .u64 v).cells.size<=(ws.flatMap u64).toArray.size:=by
 obtain ⟨h0,h1,h2,_⟩:=fF h;rw [lU];simp only [List.size_toArray,List.length_map];show 0+y.toNat * 1+1<=_
 omega
def zeroI (x:Int):Option Unit:=if x=0 then some () else none
theorem gj {x:Int} {u:Unit} (h:zeroI x=some u):x=0:=by
 unfold zeroI at h
 split at h
 ·assumption
 ·cases h
def Mem.put (M:Mem) (at_ v:Int):Mem:={ M with ws:=M.ws.set at_.toNat v }
section
variable {P : Program} {a : Act} {d : Option Tmp} {ty : TypeId} {pos : String} {Ki : Array Edge} {N : Nat} {s : SL} (Jb : Fr a N s)
include Jb
theorem dz {x:Operand} {ad:Addr} {R:Value->World->Prop} (hx:lookO s x=.pointer (some ad)) (h:R (.pointer (some ad)) w):Yields P ⟨d,.nilCheck x,ty,pos,Ki,none⟩ a w R:=by
 refine .of_run (v:=.pointer (some ad)) (w':=w) ?_ h;simp only [execOp,Jb.ev hx]
 rfl
theorem qV {x:Operand} {t:TypeId} {y:Int} {R:Value->World->Prop} (hm:JX g M w) (hx:lookO s x=.pointer (some ⟨g.lb,0+y.toNat * 1,none⟩)) (hy:y=0) (ht:tyO P t=true) (h:R (.pointer (some ⟨g.rb,0,none⟩)) w) :
  Yields P ⟨d,.load t x,ty,pos,Ki,none⟩ a w R:=by
 subst hy;obtain ⟨cur,h2,h3⟩:=hm.lst;exact ax Jb hx h2 ht h3 h
theorem qR {x:Operand} {t:TypeId} {y x0:Int} {R:Value->World->Prop} (hm:JX g M w) (hi:Jj M.ws y=some x0) (hx:lookO s x=.pointer (some ⟨g.wb,0+y.toNat * 1,none⟩)) (ht:tyO P t=true) (h:R (.int .u64 x0) w) :
  Yields P ⟨d,.load t x,ty,pos,Ki,none⟩ a w R:=by
 obtain ⟨h0,h1,h2,rfl⟩:=fF hi;refine ax Jb hx hm.wds ht ?_ h;rw [lU];simp
end
end
/-! ### Programs as chunks -/
section
variable {R : Type} {P : Program} {E : Enc R} {w w' w0 : World} {L : List Ck} {Z : Nat -> Prop} {i : Nat}
def bT (P:Program) (E:Enc R) (x:Nat × T R) (v:Value) (F:List Nat):Ck:=
 ⟨[],F,fun w=>Jm P E x.1 x.2 (fun b=>b∈F) w v,fun _ _ h hs hr=>Jm.mono (fun _ h=>h) (fun b hb=>h b (.inr hb)) hs _ _ _ hr⟩
theorem Post.prog {x:Nat × T R} {v:Value} {F:List Nat} (h:Post Z L w0 w) (hi:L[i]?=some (bT P E x v F)):Jm P E x.1 x.2 (fun b=>b∈F) w v:=h.sep.get hi
def rg (lo hi:Nat):List Nat:=List.range' lo (hi - lo)
theorem ez {lo hi b:Nat}:b∈rg lo hi↔lo<=b/\b<hi:=by
 simp only [rg,List.mem_range'_1]
 omega
theorem wm {x:Nat × T R} {v:Value} {F:List Nat} (h:Jm P E x.1 x.2 (fun b=>b∈F) w v) (hl:∀ b,b∈F->b<w.heap.size):JY [bT P E x v F] w:=
 ⟨h,(fun b hb=>by rcases hb with hb | hb; (cases hb); (exact hl b hb)),(fun _ h=>by cases h),trivial⟩
theorem CN {n:Nat} {t:T R} {v:Value} (hr:Jm P E n t (grow No w w') w' v):cy [bT P E (n,t) v (rg w.heap.size w'.heap.size)] w.heap.size w'.heap.size w':=
 ⟨wm (Jm.mono (fun b hb=>ez.2 (hb.resolve_left fun h=>h)) (I8.refl _ _) (Nat.le_refl _) _ _ _ hr) fun b hb=>(ez.1 hb).2,fun c hc b hb=>by
  rcases List.mem_singleton.1 hc with rfl
  rcases hb with hb | hb
  ·cases hb
  ·exact ez.1 hb⟩
theorem JY.beside {N L:List Ck} {lo hi B:Nat} (h1:cy N lo hi w) (h2:JY L w) (h3:∀ c,c∈L->∀ b,c.has b->b<B) (hB:B<=lo):JY (N++L) w:=
 h1.1.append h2 fun c hc d hd=>⟨fun b hb hb'=>by have:=h1.2 c hc b (.inl hb); have:=h3 d hd b hb'; omega,fun b hb hb'=>by have:=h1.2 c hc b hb'; have:=h3 d hd b (.inl hb); omega⟩
theorem Jd.kept {S:Nat->Prop} (h:Jd S w w'):Kept w.heap.size S 0 0 w w':=⟨h.os,h.tape,h.output,h.size,fun b hb=>h.block b O (by rcases hb with hb | hb; exact hb.2; omega)⟩
def T.res (d:R):T R->R
 | .done r=>r
 | _=>d
theorem Jm.jW {n:Nat} {F:Nat->Prop} {v:Value}:∀ {t:T R},Jm P E n t F w v->v.cells[0]?=some (.bool t.bC)
 | .cut,h=>by unfold Jm at h; exact h.elim
 | .done r,h=>by unfold Jm at h; subst h; rfl
 | .act ..,h=>by obtain ⟨_,_,_,_,rfl,_⟩:=h.dD; rfl
theorem Jm.EQ {n:Nat} {F:Nat->Prop} {v:Value} {d:R} (hd:E.zero=E.cells d):∀ {t:T R},Jm P E n t F w v->((v.cells.toList.drop 1).take E.n)=E.cells (t.res d)
 | .cut,h=>by unfold Jm at h; exact h.elim
 | .done r,h=>by
  unfold Jm at h; subst h
  show ((E.cells r++_).take E.n)=E.cells r
  rw [<-E.len r,List.take_left]
 | .act ..,h=>by
  obtain ⟨_,_,_,_,rfl,_⟩:=h.dD;show ((E.zero++_).take E.n)=E.cells d
  rw [hd,<-E.len d,List.take_left]
theorem hU {a:Act} {d:Option Tmp} {ty:TypeId} {pos:String} {Ki:Array Edge} {N:Nat} {s:SL} (Jb:Fr a N s) {x:Operand} {b:Nat} {t Et:TypeId} {v:Value} {Q:Value->World->Prop} (hv:Shape E v)
  (hx:lookO s x=.pointer (some ⟨b,0,none⟩)) (h:w.heap[b]?=some (.cells v.cells Et (0,0))) (ht:tyA P t (E.n+6)=true) (hr:Q v w):Yields P ⟨d,.load t x,ty,pos,Ki,none⟩ a w Q:=by
 obtain ⟨c,rfl,h1,h2⟩:=hv;have hl:c.toList.length=E.n+6:=by simpa using h1
 refine aU Jb (cs:=c.toList) (n:=E.n+6) hx h (by rw [hl]; exact ht) ?_ (by simpa using hr);show (c.toList.drop 0).take (E.n+6)=c.toList
 rw [List.drop_zero,<-hl,List.take_length]
end
section
variable {R : Type} {P : Program} {E : Enc R} {w w' w0 : World} {L : List Ck} {Z : Nat -> Prop} {i : Nat}
def T.acc:T R->Access
 | .act op at_ a b _=>⟨op,at_,a,b⟩
 | _=>⟨0,0,0,0⟩
def T.next:T R->Int->T R
 | .act _ _ _ _ k,x=>k x
 | _,_=>.cut
theorem Jm.xm {n:Nat} {F:Nat->Prop} {v:Value} {t:T R} (h:Jm P E n t F w v) (hd:t.bC=false):((v.cells.toList.drop (1+E.n)).take 4)=bh t.acc:=by
 cases t with
 | cut=>unfold Jm at h; exact h.elim
 | done r=>cases hd
 | act op at_ a b k=>
  obtain ⟨_,_,_,_,rfl,_⟩:=h.dD;show (((.bool false::(E.zero++_)):List Value).drop (1+E.n)).take 4=_
  rw [Nat.add_comm,List.drop_succ_cons,<-E.zlen,List.drop_left]
  rfl
theorem Jm.rB {n:Nat} {F:Nat->Prop} {v:Value} {t:T R} (h:Jm P E n t F w v) (hd:t.bC=false):∃ (f:FuncId) (first cap:List Value),v.cells[5+E.n]?=some (kf f first cap)/\Kq P E u64 n F w (kf f first cap) t.next:=by
 cases t with
 | cut=>unfold Jm at h; exact h.elim
 | done r=>cases hd
 | act op at_ a b k=>
  obtain ⟨f,first,cap,_,rfl,hf⟩:=h.dD;refine ⟨f,first,cap,?_,hf⟩;simp only [aC,Value.cells,List.getElem?_toArray];rw [show 5+E.n=(E.n+4)+1 from O,List.getElem?_cons_succ,List.getElem?_append_right (by rw [E.zlen]; omega),E.zlen]
  simp
def depthI:Nat->Option Nat
 | 0=>none
 | n+1=>some n
theorem vD {n m:Nat} (h:depthI n=some m):n=m+1:=by
 cases n with
 | zero=>cases h
 | succ n=>exact congrArg (·+1) (Option.some.inj h)
theorem Post.addProgF {n:Nat} {t:T R} {v v0:Value} {x:Nat × T R} {F:List Nat} {k:Nat} (h:Post Z L w0 w) (hk:L[k]?=some (bT P E x v0 F)) (hb:Below w.heap.size w w') (hr:Jm P E n t (grow (fun b=>b∈F) w w') w' v) :
  Post Z (L++[bT P E (n,t) v (F++rg w.heap.size w'.heap.size)]) w0 w':=by
 have hz:=hb.size;have hlt:∀ b,b∈F->b<w.heap.size:=fun b hb=>h.sep.lt hk (.inr hb)
 have hl:∀ b,b∈F++rg w.heap.size w'.heap.size->b<w'.heap.size:=fun b hb=>by
  rcases List.mem_append.1 hb with hb | hb
  ·exact q9 (hlt b hb) hz
  ·exact (ez.1 hb).2
 have hr':Jm P E n t (fun b=>b∈F++rg w.heap.size w'.heap.size) w' v:=Jm.mono (fun b hb=>List.mem_append.2 (hb.imp id ez.2)) (I8.refl _ _) (Nat.le_refl _) _ _ _ hr
 refine ⟨(h.sep.below hb).append (wm (x:=(n,t)) hr' hl) fun d hd e he=>?_,h.KE.trans (Jd.of_below hb) (fun _ _ h=>h.elim),fun d hd b hb=>?_⟩
 ·rcases List.mem_singleton.1 he with rfl
  refine ⟨fun b hb1 hb2=>?_,fun b hb=>by cases hb⟩
  rcases hb2 with hb2 | hb2
  ·cases hb2
  ·rcases List.mem_append.1 hb2 with hb2 | hb2
   ·obtain ⟨j,hj⟩:=List.mem_iff_getElem?.1 hd
    by_cases hjk:j=k
    ·subst hjk
     rw [hj] at hk
     obtain rfl:=Option.some.inj hk;cases hb1
    ·exact (h.sep.clear hj hk hjk).1 b hb1 (.inr hb2)
   ·have:=(ez.1 hb2).1
    have:=(h.sep.ok d hd).2 b (.inl hb1);omega
 ·rcases List.mem_append.1 hd with hd | hd
  ·exact h.mine d hd b hb
  ·rcases List.mem_singleton.1 hd with rfl; cases hb
def PrP (P:Program) (E:Enc R) (x:Nat × T R):Value->Nat->Nat->World->Prop:=fun v lo hi w=>cy [bT P E x v (rg lo hi)] lo hi w
theorem PrP.st (x:Nat × T R) {B:Nat} {S:Nat->Prop}:∀ v lo hi w1 w2,PrP P E x v lo hi w1->Kept B S lo hi w1 w2->PrP P E x v lo hi w2:=by
 rintro v lo hi w1 w2 ⟨hs,hb⟩ ⟨_,_,_,hz,hk⟩;exact ⟨hs.keep hz fun c hc b hcb=>hk b (.inr (hb c hc b hcb)),hb⟩
def guardI (b:Bool):Option Unit:=if b=true then some () else none
theorem yR {p:Prop} [Decidable p] {u:Unit} (h:guardI (decide p)=some u):p:=by
 unfold guardI at h
 split at h
 ·rename_i h1; exact of_decide_eq_true h1
 ·cases h
theorem nK {fn:Func} {a:Act} {n:Nat} {s:SL} (h:Fr a n s) {R:Ending->World->Prop} {w:World} {t t' t2:Tmp} {ty:TypeId} {b:Nat} {c:Array Value} {E:TypeId} {fz:Nat × Nat} {k:Nat} {v' v2:Value} (hf:fn.results=#[.cell t ty,.tmp t',.tmp t2])
  (hv:look s t=.pointer (some ⟨b,0,none⟩)) (hv':look s t'=v') (hv2:look s t2=v2) (hb:w.heap[b]?=some (.cells c E fz)) (hk:c.size=k) (ht:tyA P ty k=true) (hR:R (.returned (.tuple #[.agg c,v',v2])) w):bodyPost P fn R .ret a w:=by
 refine ⟨h.defers,_,?_,hR⟩;subst hk; subst hv'; subst hv2;have hl:(loadVar ty ⟨b,0,none⟩).run P w=.ok (.agg c) w:=by
  have:=iM (P:=P) (t:=ty) (jF hb (o:=0) (n:=c.size) (cs:=c.toList) yav) (by simpa using ht)
  simpa using this
 simp [results,hf,h.slot,hv,asAddr,hl]
end
/-! ### A memory that is made -/
section
variable {P : Program} {w w' w0 : World} {L : List Ck} {Z : Nat -> Prop}
def oneI:List Int->Option Int
 | [n]=>if 0<=n/\n<=16777216 then some n else none
 | _=>none
theorem Ez {l:List Int} {n:Int} (h:oneI l=some n):l=[n]/\0<=n/\n<=16777216:=by
 unfold oneI at h
 split at h
 ·split at h
  ·rename_i m h1
   obtain rfl:=Option.some.inj h;exact ⟨rfl,h1⟩
  ·cases h
 ·cases h
def zerosI (n:Int):List Int:=List.replicate n.toNat 0
def WB (n:Int) (wb:Nat) (w:World):Prop:=w.heap[wb]?=some (.cells ((zerosI n).flatMap u64).toArray 34 (0,0))
def W6 (B:Nat) (n:Int):Value->Nat->Nat->World->Prop:=fun v _ _ w=>∃ wb,v=.slice (some ⟨wb,0,none⟩) n.toNat n.toNat/\WB n wb w/\B<=wb
def W7 (B:Nat) (n:Int):Value->Nat->Nat->World->Prop:=fun v _ _ w=>∃ wb,v=.agg #[.slice (some ⟨wb,0,none⟩) n.toNat n.toNat,.int .u64 1]/\WB n wb w/\B<=wb
def RB (n:Int) (wb rb:Nat) (w:World):Prop:=w.heap[rb]?=some (.cells #[.slice (some ⟨wb,0,none⟩) n.toNat n.toNat,.int .u64 1] 142 (0,0))
def W8 (B:Nat) (n:Int):Value->Nat->Nat->World->Prop:=fun v _ _ w=>∃ wb rb,v=.pointer (some ⟨rb,0,none⟩)/\WB n wb w/\RB n wb rb w/\B<=wb/\wb<rb
def W9 (B:Nat) (n:Int):Value->Nat->Nat->World->Prop:=fun v _ _ w=>∃ wb rb lb,v=.slice (some ⟨lb,0,none⟩) 1 1/\WB n wb w/\RB n wb rb w/\w.heap[lb]?=some (.cells #[.pointer (some ⟨rb,0,none⟩)] 139 (0,0))/\B<=wb/\wb<rb/\rb<lb
def LB (rb lb:Nat) (w:World):Prop:=∃ cur,w.heap[lb]?=some (.cells cur 139 (0,0))/\cur[0]?=some (.pointer (some ⟨rb,0,none⟩))
def W10 (B:Nat) (n:Int):Value->Nat->Nat->World->Prop:=fun v _ _ w=>∃ wb rb lb cap,v=.slice (some ⟨lb,0,none⟩) 1 cap/\WB n wb w/\RB n wb rb w/\LB rb lb w/\B<=wb/\wb<rb/\rb<lb
def W13 (B b:Nat) (n:Int):Value->Nat->Nat->World->Prop:=fun v _ _ w=>v=undef/\∃ wb rb lb cap,JX ⟨b,lb,rb,wb,cap⟩ ⟨zerosI n,0⟩ w/\B<=wb/\B<=rb/\B<=lb
theorem WB.st {n:Int} {wb B:Nat} {S:Nat->Prop} (h:WB n wb w) (hk:KeptW B S w w') (hB:B<=wb):WB n wb w':=(hk.2.2.2.2 wb (q8 h) O).trans h
theorem RB.st {n:Int} {wb rb B:Nat} {S:Nat->Prop} (h:RB n wb rb w) (hk:KeptW B S w w') (hB:B<=rb):RB n wb rb w':=(hk.2.2.2.2 rb (q8 h) O).trans h
theorem LB.st {rb lb B:Nat} {S:Nat->Prop} (h:LB rb lb w) (hk:KeptW B S w w') (hB:B<=lb):LB rb lb w':=by
 obtain ⟨cur,h1,h2⟩:=h;exact ⟨cur,(hk.2.2.2.2 lb (q8 h1) O).trans h1,h2⟩
theorem W6.st (B:Nat) (n:Int) {S:Nat->Prop}:∀ v lo hi w1 w2,W6 B n v lo hi w1->KeptW B S w1 w2->W6 B n v lo hi w2:=by
 rintro v lo hi w1 w2 ⟨wb,h1,h2,h3⟩ hk;exact ⟨wb,h1,h2.st hk h3,h3⟩
theorem W7.st (B:Nat) (n:Int) {S:Nat->Prop}:∀ v lo hi w1 w2,W7 B n v lo hi w1->KeptW B S w1 w2->W7 B n v lo hi w2:=by
 rintro v lo hi w1 w2 ⟨wb,h1,h2,h3⟩ hk;exact ⟨wb,h1,h2.st hk h3,h3⟩
theorem W8.st (B:Nat) (n:Int) {S:Nat->Prop}:∀ v lo hi w1 w2,W8 B n v lo hi w1->KeptW B S w1 w2->W8 B n v lo hi w2:=by
 rintro v lo hi w1 w2 ⟨wb,rb,h1,h2,h3,h4,h5⟩ hk;exact ⟨wb,rb,h1,h2.st hk h4,h3.st hk O,h4,h5⟩
theorem W9.st (B:Nat) (n:Int) {S:Nat->Prop}:∀ v lo hi w1 w2,W9 B n v lo hi w1->KeptW B S w1 w2->W9 B n v lo hi w2:=by
 rintro v lo hi w1 w2 ⟨wb,rb,lb,h1,h2,h3,h4,h5,h6,h7⟩ hk;exact ⟨wb,rb,lb,h1,h2.st hk h5,h3.st hk O,(hk.2.2.2.2 lb (q8 h4) O).trans h4,h5,h6,h7⟩
theorem W10.st (B:Nat) (n:Int) {S:Nat->Prop}:∀ v lo hi w1 w2,W10 B n v lo hi w1->KeptW B S w1 w2->W10 B n v lo hi w2:=by
 rintro v lo hi w1 w2 ⟨wb,rb,lb,cap,h1,h2,h3,h4,h5,h6,h7⟩ hk;exact ⟨wb,rb,lb,cap,h1,h2.st hk h5,h3.st hk O,h4.st hk O,h5,h6,h7⟩
theorem W13.st (B b:Nat) (n:Int):∀ v lo hi w1 w2,W13 B b n v lo hi w1->KeptW B (fun _=>False) w1 w2->W13 B b n v lo hi w2:=by
 rintro v lo hi w1 w2 ⟨h0,wb,rb,lb,cap,h1,h2,h3,h4⟩ hk;exact ⟨h0,wb,rb,lb,cap,h1.st (fun c hc=>hk.2.2.2.2 c (h1.lt c hc) (fun _ h=>h)),h2,h3,h4⟩
section
variable {a : Act} {d : Option Tmp} {ty : TypeId} {pos : String} {Ki : Array Edge} {N : Nat} {s : SL} (Jb : Fr a N s)
include Jb
theorem Cw {x y:Operand} {t:TypeId} {n:Int} {R:Value->World->Prop} (hT:rowTy P t 34 1=true) (hz:zeroOf P 34=some (.int .u64 0)) (hb:(match P.info? 34 with | some i=>i.bytes==8 | none=>false)=true)
  (hx:lookO s x=.int .i64 n) (hy:lookO s y=.int .i64 n) (h0:0<=n) (h1:n<=16777216)
  (hr:∀ wb w',New w w' wb (.cells ((zerosI n).flatMap u64).toArray 34 (0,0))->R (.slice (some ⟨wb,0,none⟩) n.toNat n.toNat) w'):Yields P ⟨d,.makeSlice t x y,ty,pos,Ki,none⟩ a w R:=by
 obtain ⟨ht,i,z,hi,hiz,hsz,_,_,_⟩:=oI hT;have hzz:z=.int .u64 0:=by
  unfold zeroOf at hz
  rw [hi] at hz
  simp only [hiz] at hz
  exact Option.some.inj hz
 subst hzz;rw [hi] at hb
 have hb8:i.bytes=8:=by simpa using hb
 have hr1:=run_makeSlice (P:=P) (w:=w) t 34 i (.int .u64 0) ht hi hiz .i64 .i64 n n h0 (Int.le_refl _) (by rw [hsz]; omega) (by rw [hb8]; omega) O
 have hc:madeCells (Value.int .u64 0).cells (n.toNat * i.size)=((zerosI n).flatMap u64).toArray:=by
  rw [hsz,lU,zerosI,List.map_replicate]
  apply Array.ext
  ·simp [madeCells]
  ·intro j h1 h2
   simp only [madeCells,Array.size_map,Array.size_range] at h1
   simp only [madeCells,Array.getElem_map,Array.getElem_range,List.getElem_toArray,List.getElem_replicate]
   have:j % (Value.int IntKind.u64 0).cells.size=0:=by
    show j % 1=0
    omega
   rw [this]
   rfl
 rw [hc] at hr1
 refine .of_run (v:=.slice (some ⟨w.heap.size,0,none⟩) n.toNat n.toNat) (w':=w.alloc (.cells ((zerosI n).flatMap u64).toArray 34)) ?_ (hr _ _ (New.lV _ _));simp only [execOp,Jb.ev hx,Jb.ev hy,Sem.run_bind,hr1,Result.andThen_ok,Sem.run_pure]
theorem CC {x y:Operand} {t e:TypeId} {lb:Nat} {u:Value} {R:Value->World->Prop} (hT:rowTy P t e 1=true) (hx:lookO s x=.slice none 0 0) (hy:lookO s y=.slice (some ⟨lb,0,none⟩) 1 1) (hl:w.heap[lb]?=some (.cells #[u] e (0,0)))
  (hr:∀ b cap cur w',New w w' b (.cells cur e (0,0))->cur[0]?=some u->R (.slice (some ⟨b,0,none⟩) 1 cap) w'):Yields P ⟨d,.call ⟨.builtin .append,#[x,y],#[t,t]⟩,ty,pos,Ki,none⟩ a w R:=by
 obtain ⟨ht,i,z,hi,hiz,hsz,_,hby,_⟩:=oI hT;have hq:=run_append_nil (P:=P) w t ty e i z ht hi hiz ⟨lb,0,none⟩ 1 1 [u] (by simp [hsz]) (fun j v hv=>by
  rw [Addr.add_lit]
  simp only [World.cell?,hl]
  simpa using hv) O O O
 have hcur:([u].toArray++Builtin.zeroCells z.cells (grownCap w 1 0 e - 1))[0]?=some u:=by
  rw [Array.getElem?_append_left yas]
  rfl
 refine .of_run (v:=.slice (some ⟨w.heap.size,0,none⟩) 1 (grownCap w 1 0 e)) (w':=w.drew.alloc (.cells ([u].toArray++Builtin.zeroCells z.cells (grownCap w 1 0 e - 1)) e)) ?_ (hr _ _ _ _ ⟨rfl,heap_alloc_new w.drew _,⟨rfl,rfl,rfl,by simp,fun k hk=>(heap_alloc_old (r:=k) w.drew _ (by simpa using hk):_)⟩,Array.size_push _⟩ hcur)
 have e2:(#[x,y]:Array Operand).map a.eval=#[.slice none 0 0,.slice (some ⟨lb,0,none⟩) 1 1]:=Jb.evs (xs:=[x,y]) (vs:=[_,_]) (lc2 hx hy);simp only [execOp,resolve,e2,Sem.run_bind,Sem.run_pure,Result.andThen_ok,invoke,builtin,hq]
end
theorem Post.made {b:Nat} {n:Int} {cs:Array Value} {T:TypeId} {v:Value} {lo hi i:Nat} (h:Post Z L w0 w) (hi':L[i]?=some (ae b cs T)) (hk:Jd (fun k=>k∈[b]) w w') (hm:W13 w.heap.size b n v lo hi w'):∃ g:MG,g.mb=b/\Post Z (L.set i (I9 g ⟨zerosI n,0⟩)) w0 w':=by
 obtain ⟨_,wb,rb,lb,cap,h1,h2,h3,h4⟩:=hm;refine ⟨⟨b,lb,rb,wb,cap⟩,rfl,?_⟩;have:=h.set (N:=[]) hi' (c':=I9 ⟨b,lb,rb,wb,cap⟩ ⟨zerosI n,0⟩) ⟨⟨wK h1,hk,fun c hc b' hb'=>?_⟩,fun c hc b' hb'=>by rcases List.mem_singleton.1 hc with rfl; cases hb'⟩
 ·rwa [List.append_nil] at this
 ·rcases List.mem_singleton.1 hc with rfl
  simp only [I9,MG.bs,List.mem_cons,List.not_mem_nil,or_false] at hb'
  rcases hb' with rfl | rfl | rfl | rfl
  ·exact .inl (List.mem_singleton.2 rfl)
  ·exact .inr h4
  ·exact .inr h3
  ·exact .inr h2
end
end Go.Proofs.YtbbipmelhmgmfaaGreat
/-! ### An effect that hands on a program -/
namespace Go.Proofs.YtbbipmelhmgmfaaGreat
open Go.RowKit
end Go.Proofs.YtbbipmelhmgmfaaGreat
/-! ### Appending to a literal of nothing, in a region that draws -/
namespace Go.Proofs.YtbbipmelhmgmfaaGreat
open Go.RowKit
section
variable {α : Type} {P : Program} {T : TypeId} {sz : Nat} {f : α -> List Value} {w w' : World} {ys zs : List α}
theorem Ct {t ty:TypeId} {v2:Value} {ad:Option Addr} (hT:rowTy P t T sz=true) (hf:∀ x,(f x).length=sz) (h1:∀ x,(f x).all Value.oneCell'=true) (Jz:I1 T sz f v2 ys w) (hz:JW [] ys=some zs) :
  ∃ v' w',(Builtin.append_ #[t,t] ty #[.slice ad 0 0,v2]).run P w=.ok v' w'/\Below w.heap.size w w'/\MkP (fun y:Value=>y) (fun y=>[II T sz f y zs]) v' w.heap.size w'.heap.size w':=by
 have hr:cx T sz f (.slice ad 0 0) ([]:List α) w:=.inl ⟨ad,rfl,rfl⟩;obtain ⟨v',w',hq,ha⟩:=uX (ty:=ty) hT hf h1 hr Jz hz;have hb:Below w.heap.size w w':=⟨ha.2.1.os,ha.2.1.tape,ha.2.1.output,ha.2.1.size,fun k hk=>ha.2.1.block k hk (by rw [oe]; exact fun h=>by cases h)⟩
 refine ⟨v',w',hq,hb,_,rfl,j4 ha.1,fun c hc b hbc=>?_⟩
 rcases List.mem_singleton.1 hc with rfl
 rcases hbc with hbc | hbc
 ·rcases ha.2.2 b hbc with h | h
  ·rw [oe] at h; cases h
  ·exact ⟨h,ha.1.lt b hbc⟩
 ·cases hbc
end
section
variable {α : Type} {P : Program} {T : TypeId} {sz : Nat} {f : α -> List Value} {w : World} {ys : List α} {a : Act} {d : Option Tmp} {ty : TypeId} {pos : String} {Ki : Array Edge} {N : Nat} {s : SL} (Jb : Fr a N s)
include Jb
theorem oo {x y:Operand} {t:TypeId} {v2:Value} {zs:List α} {ad:Option Addr} {R:Value->World->Prop} (hT:rowTy P t T sz=true) (hf:∀ x,(f x).length=sz) (h1:∀ x,(f x).all Value.oneCell'=true)
  (Jz:I1 T sz f v2 ys w) (hz:JW [] ys=.some zs) (hx:lookO s x=.slice ad 0 0) (hy:lookO s y=v2)
  (h:∀ v' w',Below w.heap.size w w'->MkP (fun y:Value=>y) (fun y=>[II T sz f y zs]) v' w.heap.size w'.heap.size w'->R v' w') :
  Yields P ⟨d,.call ⟨.builtin .append,#[x,y],#[t,t]⟩,ty,pos,Ki,none⟩ a w R:=by
 obtain ⟨v',w',hq,h1',h2⟩:=Ct (ty:=ty) (ad:=ad) hT hf h1 Jz hz;refine .of_run (v:=v') (w':=w') ?_ (h v' w' h1' h2);have e:(#[x,y]:Array Operand).map a.eval=#[.slice ad 0 0,v2]:=Jb.evs (xs:=[x,y]) (vs:=[_,v2]) (lc2 hx hy);simp only [execOp,resolve,e,Sem.run_bind,Sem.run_pure,Result.andThen_ok,invoke,builtin,hq]
end
end Go.Proofs.YtbbipmelhmgmfaaGreat

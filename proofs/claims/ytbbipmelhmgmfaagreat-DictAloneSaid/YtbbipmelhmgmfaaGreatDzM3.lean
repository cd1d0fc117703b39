/- Some of our texts, one behind the other. -/
import Derived.Test.YtbbipmelhmgmfaaGreatDzOps
set_option linter.all false
set_option maxRecDepth 100000
set_option maxHeartbeats 20000000
/- Ours. -/
namespace Go.Proofs.YtbbipmelhmgmfaaGreat
open Go.RowKit
structure Gh where
 v:Value
 lo:Nat
 hi:Nat
def Kept (B:Nat) (S:Nat->Prop) (lo hi:Nat) (w1 w2:World):Prop:=
 w2.os=w1.os/\w2.tape=w1.tape/\w2.output=w1.output/\w1.heap.size<=w2.heap.size/\∀ b,(b<B/\¬ S b)\/(lo<=b/\b<hi)->w2.heap[b]?=w1.heap[b]?
def KeptW (B:Nat) (S:Nat->Prop) (w1 w2:World):Prop:=
 w2.os=w1.os/\w2.tape=w1.tape/\w2.output=w1.output/\w1.heap.size<=w2.heap.size/\∀ b,b<w1.heap.size->(b<B->¬ S b)->w2.heap[b]?=w1.heap[b]?
inductive IX (B:Nat) (S:Nat->Prop) where
 | any
 | val (c:Value)
 | new (ob:Obj)
 | slice (ob:Obj) (l:Nat)
 | cell (T:TypeId) (n:Nat)
 | stored (q:Nat) (c:Array Value) (T:TypeId) (n:Nat) (h:c.size=n)
 | pred (p:Value->Nat->Nat->World->Prop) (h:∀ v lo hi w1 w2,p v lo hi w1->Kept B S lo hi w1 w2->p v lo hi w2)
 | whole (p:Value->Nat->Nat->World->Prop) (h:∀ v lo hi w1 w2,p v lo hi w1->KeptW B S w1 w2->p v lo hi w2)
 | eff (p:Value->Nat->Nat->World->Prop) (h:∀ v lo hi w1 w2,p v lo hi w1->Kept B (fun _=>False) lo hi w1 w2->p v lo hi w2)
 | effW (p:Value->Nat->Nat->World->Prop) (h:∀ v lo hi w1 w2,p v lo hi w1->KeptW B (fun _=>False) w1 w2->p v lo hi w2)
 | dep (q:Nat) (p:Value->Value->Prop)
 | depN (qs:List Nat) (p:List Value->Value->Prop)
 | storedD (q j:Nat) (c:Value->Array Value) (T:TypeId) (n:Nat)
 | cons (q:Nat) (p:Value->Nat->Nat->World->Prop) (h:∀ v lo hi w1 w2,p v lo hi w1->Kept B S lo hi w1 w2->p v lo hi w2)
 | effC (js:List Nat) (p:Value->Nat->Nat->World->Prop) (h:∀ v lo hi w1 w2,p v lo hi w1->Kept B (fun _=>False) lo hi w1 w2->p v lo hi w2)
 | effCW (js:List Nat) (p:Value->Nat->Nat->World->Prop) (h:∀ v lo hi w1 w2,p v lo hi w1->KeptW B (fun _=>False) w1 w2->p v lo hi w2)
inductive Sh where
 | free
 | cell (T:TypeId) (n:Nat)
 | store (q:Nat) (T:TypeId) (n:Nat)
 | eff
 | whole
def IX.sh {B:Nat} {S:Nat->Prop}:IX B S->Sh
 | .cell T n=>.cell T n
 | .stored q _ T n _=>.store q T n
 | .storedD q _ _ T n=>.store q T n
 | .eff _ _=>.eff
 | .effW _ _=>.eff
 | .effC _ _ _=>.eff
 | .effCW _ _ _=>.eff
 | .whole _ _=>.whole
 | _=>.free
def IX.needs {B:Nat} {S:Nat->Prop}:IX B S->List Nat
 | .dep q _=>[q]
 | .depN qs _=>qs
 | .storedD _ j _ _ _=>[j]
 | _=>[]
def IX.eats {B:Nat} {S:Nat->Prop}:IX B S->List Nat
 | .effC js _ _=>js
 | .effCW js _ _=>js
 | _=>[]
def IX.until {B:Nat} {S:Nat->Prop}:IX B S->Option Nat
 | .cons q _ _=>some q
 | _=>none
def IX.isW {B:Nat} {S:Nat->Prop}:IX B S->Bool
 | .effW _ _=>true
 | .effCW _ _ _=>true
 | _=>false
def IX.ok {B:Nat} {S:Nat->Prop}:IX B S->(Nat->Gh)->Nat->World->Prop
 | .any,_,_,_=>True
 | .val c,g,i,_=>(g i).v=c
 | .new ob,g,i,w=>(g i).v=.pointer (some ⟨(g i).lo,0,none⟩)/\(g i).lo<(g i).hi/\w.heap[(g i).lo]?=some ob
 | .slice ob l,g,i,w=>(g i).v=.slice (some ⟨(g i).lo,0,none⟩) l l/\(g i).lo<(g i).hi/\w.heap[(g i).lo]?=some ob
 | .cell T n,g,i,w=>(g i).v=.pointer (some ⟨(g i).lo,0,none⟩)/\(g i).lo<(g i).hi/\∃ c,w.heap[(g i).lo]?=some (.cells c T (0,0))/\c.size=n
 | .stored q c T _ _,g,i,w=>(g i).v=undef/\w.heap[(g q).lo]?=some (.cells c T (0,0))
 | .pred p _,g,i,w=>p (g i).v (g i).lo (g i).hi w
 | .whole p _,g,i,w=>p (g i).v (g i).lo (g i).hi w
 | .eff p _,g,i,w=>p (g i).v (g i).lo (g i).hi w
 | .effW p _,g,i,w=>p (g i).v (g i).lo (g i).hi w
 | .dep q p,g,i,_=>p (g q).v (g i).v
 | .depN qs p,g,i,_=>p (qs.map fun q=>(g q).v) (g i).v
 | .storedD q j c T _,g,i,w=>(g i).v=undef/\w.heap[(g q).lo]?=some (.cells (c (g j).v) T (0,0))
 | .cons q p _,g,i,w=>(g q).hi=0->p (g i).v (g i).lo (g i).hi w
 | .effC _ p _,g,i,w=>p (g i).v (g i).lo (g i).hi w
 | .effCW _ p _,g,i,w=>p (g i).v (g i).lo (g i).hi w
def IX.mk {B:Nat} {S:Nat->Prop}:IX B S->(Nat->Gh)->Value->World->World->Prop
 | .any,_,_,w,w'=>Below w.heap.size w w'
 | .val c,_,v,w,w'=>Below w.heap.size w w'/\v=c
 | .new ob,_,v,w,w'=>Below w.heap.size w w'/\∃ b,v=.pointer (some ⟨b,0,none⟩)/\b=w.heap.size/\w'.heap[b]?=some ob
 | .slice ob l,_,v,w,w'=>Below w.heap.size w w'/\∃ b,v=.slice (some ⟨b,0,none⟩) l l/\b=w.heap.size/\w'.heap[b]?=some ob
 | .cell T n,_,v,w,w'=>Below w.heap.size w w'/\∃ b,v=.pointer (some ⟨b,0,none⟩)/\b=w.heap.size/\∃ c,w'.heap[b]?=some (.cells c T (0,0))/\c.size=n
 | .stored q c T _ _,g,v,w,w'=>Upd w w' (g q).lo (.cells c T (0,0))/\v=undef
 | .pred p _,_,v,w,w'=>Below w.heap.size w w'/\p v w.heap.size w'.heap.size w'
 | .whole p _,_,v,w,w'=>Below w.heap.size w w'/\p v w.heap.size w'.heap.size w'
 | .eff p _,_,v,w,w'=>Kept w.heap.size S 0 0 w w'/\p v w.heap.size w'.heap.size w'
 | .effW p _,_,v,w,w'=>Kept w.heap.size S 0 0 w w'/\p v w.heap.size w'.heap.size w'
 | .dep q p,g,v,w,w'=>Below w.heap.size w w'/\p (g q).v v
 | .depN qs p,g,v,w,w'=>Below w.heap.size w w'/\p (qs.map fun q=>(g q).v) v
 | .storedD q j c T n,g,v,w,w'=>Upd w w' (g q).lo (.cells (c (g j).v) T (0,0))/\v=undef/\(c (g j).v).size=n
 | .cons _ p _,_,v,w,w'=>Below w.heap.size w w'/\p v w.heap.size w'.heap.size w'
 | .effC js p _,g,v,w,w'=>Kept w.heap.size (fun b=>S b\/∃ j,j∈js/\(g j).lo<=b/\b<(g j).hi) 0 0 w w'/\p v w.heap.size w'.heap.size w'
 | .effCW js p _,g,v,w,w'=>Kept w.heap.size (fun b=>S b\/∃ j,j∈js/\(g j).lo<=b/\b<(g j).hi) 0 0 w w'/\p v w.heap.size w'.heap.size w'
def fact {B:Nat} {S:Nat->Prop}:List (IX B S)->Nat->IX B S
 | [],_=>.any
 | f::_,0=>f
 | _::l,n+1=>fact l n
def bQ (o:Oper) (j:Nat):Bool:=o.after.toList.any fun e=>Region.binds .any e&&e.on==j
def freely (L:List Oper) (sh:Nat->Sh):Bool:=
  distinct L&&L.zipIdx.all (fun (o,i)=>(o.after.toList.all fun e=>!Region.binds .any e||decide (e.on<i))&&
    (match sh i with
     | .store q T n=>bQ o q&&(match sh q with | .cell T' n'=>T==T'&&n==n' | _=>false)&&(List.range L.length).all fun j=>decide (j=i)||(match sh j with | .store q' _ _=>!(q'==q) | _=>true)
     | .eff=>(List.range L.length).all fun j=>decide (j=i)||(match sh j with | .eff=>false | _=>true)
     | .whole=>(List.range L.length).all fun j=>(match sh j with | .store _ _ _=>false | _=>true)
     | _=>true))
def early (L:List Oper) (sh:Nat->Sh) (i:Nat):Bool:=
 L.zipIdx.all fun (o,j)=>match sh j with | .eff=>decide (j=i)||bQ o i | _=>true
def effDone (L:List Oper) (sh:Nat->Sh) (listed:Array Bool):Bool:=
 L.zipIdx.any fun (_,j)=>match sh j with | .eff=>listed.getD j false | _=>false
section
variable {P : Program} {Q : Exit -> Act -> World -> Prop} {L : List Oper} {a : Act} {w : World} {B : Nat} {S : Nat -> Prop}
structure FInv (L:List Oper) (fs:Nat->IX B S) (a:Act) (w0:World) (listed:Array Bool) (g:Nat->Gh) (a':Act) (w':World):Prop where
 act:a'=JK L (fun j=>(g j).v) 0 a
 closed:∀ i o,L[i]?=some o->listed.getD i false=true->∀ e,e∈o.after->Region.binds .any e=true->listed.getD e.on false=true
 os:w'.os=w0.os
 tape:w'.tape=w0.tape
 output:w'.output=w0.output
 size:w0.heap.size<=w'.heap.size
 old:∀ b,b<B->¬ S b\/effDone L (fun i=>(fs i).sh) listed=false->w'.heap[b]?=w0.heap[b]?
 facts:∀ i,i<L.length->listed.getD i false=true->(fs i).ok g i w'/\B<=(g i).lo/\(g i).lo<=(g i).hi/\(g i).hi<=w'.heap.size
 apart:∀ i j,i≠j->i<L.length->j<L.length->listed.getD i false=true->listed.getD j false=true->(g i).hi<=(g j).lo\/(g j).hi<=(g i).lo
 fresh:∀ i,i<L.length->listed.getD i false=false->(g i).hi=0
def cn (P:Program) (L:List Oper) (fs:Nat->IX B S) (a:Act) (w0:World):List Oper->Nat->Prop
 | [],_=>True
 | o::l,i=>(∀ g w',(g i).hi=0->w'.os=w0.os->w'.tape=w0.tape->w'.output=w0.output->w0.heap.size<=w'.heap.size->(∀ b,b<B->¬ S b\/early L (fun i=>(fs i).sh) i=true->w'.heap[b]?=w0.heap[b]?)->
   (∀ j,bQ o j=true->(fs j).ok g j w'/\B<=(g j).lo/\(g j).hi<=w'.heap.size/\∀ q,bQ o q=true->q≠j->(g j).hi<=(g q).lo\/(g q).hi<=(g j).lo)->
   YieldsG P L.toArray o (JK L (fun j=>(g j).v) 0 a) w' fun v w''=>(fs i).mk g v w' w'')/\cn P L fs a w0 l (i+1)
theorem wq {fs:Nat->IX B S} {w0:World}:∀ (l:List Oper) (k i:Nat) (o:Oper),cn P L fs a w0 l k->l[i]?=some o->
  (∀ g w',(g (k+i)).hi=0->w'.os=w0.os->w'.tape=w0.tape->w'.output=w0.output->w0.heap.size<=w'.heap.size->(∀ b,b<B->¬ S b\/early L (fun i=>(fs i).sh) (k+i)=true->w'.heap[b]?=w0.heap[b]?)->
   (∀ j,bQ o j=true->(fs j).ok g j w'/\B<=(g j).lo/\(g j).hi<=w'.heap.size/\∀ q,bQ o q=true->q≠j->(g j).hi<=(g q).lo\/(g q).hi<=(g j).lo)->
   YieldsG P L.toArray o (JK L (fun j=>(g j).v) 0 a) w' fun v w''=>(fs (k+i)).mk g v w' w'')
 | [],_,_,_,_,h=>by simp at h
 | p::l,k,0,o,hE,h=>by
  simp only [List.getElem?_cons_zero,Option.some.injEq] at h
  subst h;exact hE.1
 | p::l,k,i+1,o,hE,h=>by
  simp only [List.getElem?_cons_succ] at h
  have:=wq l (k+1) i o hE.2 h;rw [show k+1+i=k+(i+1) from by omega] at this
  exact this
theorem fZ {sh:Nat->Sh} (h:freely L sh=true) {i:Nat} {o:Oper} (hi:L[i]?=some o) :
  (∀ e,e∈o.after->Region.binds .any e=true->e.on<i)/\
  (∀ q T n,sh i=.store q T n->bQ o q=true/\sh q=.cell T n/\∀ j,j<L.length->j≠i->∀ T' n',sh j≠.store q T' n')/\
  (sh i=.eff->∀ j,j<L.length->j≠i->sh j≠.eff)/\(sh i=.whole->∀ j,j<L.length->∀ q T n,sh j≠.store q T n):=by
 simp only [freely,Bool.and_eq_true] at h
 have hm:(o,i)∈L.zipIdx:=by
  rw [List.mem_iff_getElem?]
  exact ⟨i,by simp [hi]⟩
 have h2:=List.all_eq_true.1 h.2 _ hm;simp only [Bool.and_eq_true] at h2
 refine ⟨fun e he hb=>?_,fun q T n hq=>?_,fun hq j hj hne=>?_,fun hq j hj q T n hs=>?_⟩
 ·have:=List.all_eq_true.1 h2.1 e (by simpa using he)
  simpa [hb] using this
 ·have h3:=h2.2
  rw [hq] at h3
  simp only [Bool.and_eq_true] at h3
  refine ⟨h3.1.1,?_,fun j hj hne T' n' hs=>?_⟩
  ·have h4:=h3.1.2
   cases hc:sh q with
   | cell T' n'=>
    rw [hc] at h4
    simp only [Bool.and_eq_true,beq_iff_eq] at h4
    rw [h4.1,h4.2]
   | _=>rw [hc] at h4; cases h4
  ·have:=List.all_eq_true.1 h3.2 j (List.mem_range.2 hj)
   rw [hs] at this
   simp [hne] at this
 ·have h3:=h2.2
  rw [hq] at h3
  intro hs;have:=List.all_eq_true.1 h3 j (List.mem_range.2 hj);rw [hs] at this
  simp [hne] at this
 ·have h3:=h2.2
  rw [hq] at h3
  have:=List.all_eq_true.1 h3 j (List.mem_range.2 hj);rw [hs] at this
  cases this
theorem jE {o:Oper} {j:Nat} (h:bQ o j=true):∃ e,e∈o.after/\Region.binds .any e=true/\e.on=j:=by
 obtain ⟨e,he,h2⟩:=List.any_eq_true.1 h;simp only [Bool.and_eq_true,beq_iff_eq] at h2
 exact ⟨e,by simpa using he,h2.1,h2.2⟩
theorem kh {l:Array Bool} {i j:Nat} (h:(l.setIfInBounds i true).getD j false=true) (hne:j≠i):l.getD j false=true:=by
 rw [getD_set_ne false (Ne.symm hne)] at h; exact h
structure Step (B:Nat) (S:Nat->Prop) (sh:Sh) (es:List Nat) (g:Nat->Gh) (w w':World):Prop where
 os:w'.os=w.os
 tape:w'.tape=w.tape
 output:w'.output=w.output
 size:w.heap.size<=w'.heap.size
 block:∀ b,b<w.heap.size->(∀ q T n,sh=.store q T n->b≠(g q).lo)->(sh=.eff->¬ S b/\∀ j,j∈es->¬ ((g j).lo<=b/\b<(g j).hi))->w'.heap[b]?=w.heap[b]?
 stored:∀ q T n,sh=.store q T n->∃ c,w'.heap[(g q).lo]?=some (.cells c T (0,0))/\c.size=n
theorem IX.step {f:IX B S} {g:Nat->Gh} {v:Value} {w w':World} (h:f.mk g v w w'):Step B S f.sh f.eats g w w':=by
 cases f with
 | any=>exact ⟨h.os,h.tape,h.output,h.size,fun b hb _ _=>h.block b hb,nofun⟩
 | val c=>exact ⟨h.1.os,h.1.tape,h.1.output,h.1.size,fun b hb _ _=>h.1.block b hb,nofun⟩
 | new ob=>exact ⟨h.1.os,h.1.tape,h.1.output,h.1.size,fun b hb _ _=>h.1.block b hb,nofun⟩
 | slice ob l=>exact ⟨h.1.os,h.1.tape,h.1.output,h.1.size,fun b hb _ _=>h.1.block b hb,nofun⟩
 | cell T n=>exact ⟨h.1.os,h.1.tape,h.1.output,h.1.size,fun b hb _ _=>h.1.block b hb,nofun⟩
 | pred p hp=>exact ⟨h.1.os,h.1.tape,h.1.output,h.1.size,fun b hb _ _=>h.1.block b hb,nofun⟩
 | whole p hp=>exact ⟨h.1.os,h.1.tape,h.1.output,h.1.size,fun b hb _ _=>h.1.block b hb,nofun⟩
 | stored q c T n hn=>
  refine ⟨h.1.os,h.1.tape,h.1.output,Nat.le_of_eq h.1.size.symm,fun b hb h1 _=>h.1.other b (h1 q T n rfl),?_⟩
  intro q' T' n' he;simp only [IX.sh,Sh.store.injEq] at he
  obtain ⟨rfl,rfl,rfl⟩:=he;exact ⟨c,h.1.at_,hn⟩
 | dep q p=>exact ⟨h.1.os,h.1.tape,h.1.output,h.1.size,fun b hb _ _=>h.1.block b hb,nofun⟩
 | depN qs p=>exact ⟨h.1.os,h.1.tape,h.1.output,h.1.size,fun b hb _ _=>h.1.block b hb,nofun⟩
 | storedD q j c T n=>
  refine ⟨h.1.os,h.1.tape,h.1.output,Nat.le_of_eq h.1.size.symm,fun b hb h1 _=>h.1.other b (h1 q T n rfl),?_⟩
  intro q' T' n' he;simp only [IX.sh,Sh.store.injEq] at he
  obtain ⟨rfl,rfl,rfl⟩:=he;exact ⟨c (g j).v,h.1.at_,h.2.2⟩
 | eff p hp=>exact ⟨h.1.1,h.1.2.1,h.1.2.2.1,h.1.2.2.2.1,fun b hb _ h2=>h.1.2.2.2.2 b (.inl ⟨hb,(h2 rfl).1⟩),nofun⟩
 | effW p hp=>exact ⟨h.1.1,h.1.2.1,h.1.2.2.1,h.1.2.2.2.1,fun b hb _ h2=>h.1.2.2.2.2 b (.inl ⟨hb,(h2 rfl).1⟩),nofun⟩
 | cons q p hp=>exact ⟨h.1.os,h.1.tape,h.1.output,h.1.size,fun b hb _ _=>h.1.block b hb,nofun⟩
 | effC j p hp=>exact ⟨h.1.1,h.1.2.1,h.1.2.2.1,h.1.2.2.2.1,fun b hb _ h2=>h.1.2.2.2.2 b (.inl ⟨hb,fun hs=>hs.elim (h2 rfl).1 fun ⟨k,hk,hr⟩=>(h2 rfl).2 k hk hr⟩),nofun⟩
 | effCW j p hp=>exact ⟨h.1.1,h.1.2.1,h.1.2.2.1,h.1.2.2.2.1,fun b hb _ h2=>h.1.2.2.2.2 b (.inl ⟨hb,fun hs=>hs.elim (h2 rfl).1 fun ⟨k,hk,hr⟩=>(h2 rfl).2 k hk hr⟩),nofun⟩
theorem Step.ok {fs:Nat->IX B S} (hSB:∀ b,S b->b<B) {g g':Nat->Gh} {i j:Nat} {w' w'':World} (hst:Step B S (fs i).sh (fs i).eats g w' w'')
  (hg:∀ k,k≠i->g' k=g k) (hji:j≠i) (hj:(fs j).ok g j w') (hlo:B<=(g j).lo) (hhi:(g j).hi<=w'.heap.size) (hBw:B<=w'.heap.size)
  (hq1:∀ q T n,(fs j).sh=.store q T n->q≠i/\(g q).lo<w'.heap.size/\B<=(g q).lo)
  (hq2:∀ q T n,(fs i).sh=.store q T n->B<=(g q).lo/\(fs q).sh=.cell T n/\(∀ q' T' n',(fs j).sh=.store q' T' n'->(g q').lo≠(g q).lo)/\(j≠q->(g j).lo<(g j).hi->(g q).lo≠(g j).lo)/\(j≠q->(g q).lo<(g j).lo\/(g j).hi<=(g q).lo))
  (he:(fs i).sh=.eff->(fs j).sh≠.eff) (hwh:(fs j).sh=.whole->∀ q T n,(fs i).sh≠.store q T n) (hww:(fs j).isW=true->∀ q T n,(fs i).sh≠.store q T n) (hnd:∀ q,q∈(fs j).needs->q≠i)
  (hz:∀ k,k∈(fs i).eats->j≠k->(g j).hi<=(g k).lo\/(g k).hi<=(g j).lo) (hzB:∀ k,k∈(fs i).eats->B<=(g k).lo)
  (hzq:∀ k q T n,k∈(fs i).eats->(fs j).sh=.store q T n->(g q).lo<(g k).lo\/(g k).hi<=(g q).lo) (hzc:∀ k,k∈(fs i).eats->(fs k).until=some i)
  (hzw:∀ k,k∈(fs i).eats->(fs j).sh≠.whole) (hi0:(fs j).until≠none->(g' i).hi≠0):(fs j).ok g' j w'':=by
 have hgj:=hg j hji;have hz1:∀ k,k∈(fs i).eats->(fs j).until≠some i->(g j).hi<=(g k).lo\/(g k).hi<=(g j).lo:=fun k hk h=>hz k hk fun e=>h (e ▸ hzc k hk)
 have hne:∀ q T n,(fs i).sh=.store q T n->(∀ T n,(fs j).sh≠.cell T n)->j≠q:=fun q T n hq hc h=>by
  subst h;exact hc T n (hq2 _ T n hq).2.1
 cases hf:fs j with
 | any=>trivial
 | val c=>rw [hf] at hj; simp only [IX.ok,hgj] at hj ⊢; exact hj
 | cell T n=>
  rw [hf] at hj
  simp only [IX.ok,hgj] at hj ⊢
  obtain ⟨h1,h2,c,h3,h4⟩:=hj;refine ⟨h1,h2,?_⟩
  by_cases hq:∃ T' n',(fs i).sh=.store j T' n'
  ·obtain ⟨T',n',hq⟩:=hq
   obtain ⟨c2,h5,h6⟩:=hst.stored j T' n' hq;have h7:=(hq2 j T' n' hq).2.1;rw [hf] at h7
   simp only [IX.sh,Sh.cell.injEq] at h7
   rw [h7.1,h7.2]
   exact ⟨c2,h5,h6⟩
  ·refine ⟨c,?_,h4⟩
   rw [hst.block _ (q8 h3) (fun q T' n' hq' h=>?_) (fun _=>⟨fun h=>by have:=hSB _ h; omega,fun k hk hr=>by have h9:=hz1 k hk (by rw [hf]; nofun); have h8:=h2; omega⟩)]
   ·exact h3
   ·have hjq:j≠q:=fun h=>by subst h; exact hq ⟨T',n',hq'⟩
    exact (hq2 q T' n' hq').2.2.2.1 hjq h2 h.symm
 | new ob=>
  rw [hf] at hj
  simp only [IX.ok,hgj] at hj ⊢
  refine ⟨hj.1,hj.2.1,?_⟩;have hlt:=q8 hj.2.2;rw [hst.block _ hlt (fun q T n hq h=>?_) (fun _=>⟨fun h=>by have:=hSB _ h; omega,fun k hk hr=>by have h9:=hz1 k hk (by rw [hf]; nofun); have h8:=hj.2.1; omega⟩)]
  ·exact hj.2.2
  ·exact (hq2 q T n hq).2.2.2.1 (hne q T n hq fun _ _=>by rw [hf]; nofun) hj.2.1 h.symm
 | slice ob l=>
  rw [hf] at hj
  simp only [IX.ok,hgj] at hj ⊢
  refine ⟨hj.1,hj.2.1,?_⟩;have hlt:=q8 hj.2.2;rw [hst.block _ hlt (fun q T n hq h=>?_) (fun _=>⟨fun h=>by have:=hSB _ h; omega,fun k hk hr=>by have h9:=hz1 k hk (by rw [hf]; nofun); have h8:=hj.2.1; omega⟩)]
  ·exact hj.2.2
  ·exact (hq2 q T n hq).2.2.2.1 (hne q T n hq fun _ _=>by rw [hf]; nofun) hj.2.1 h.symm
 | stored q c T n hn=>
  obtain ⟨hqi,hlt,hqB⟩:=hq1 q T n yaG;rw [hf] at hj
  simp only [IX.ok,hgj,hg q hqi] at hj ⊢
  refine ⟨hj.1,?_⟩;rw [hst.block _ hlt (fun q2 T2 n2 hq h=>?_) (fun _=>⟨fun h=>by have:=hSB _ h; omega,fun k9 hk hr=>by have h9:=hzq k9 q T n hk yaG; omega⟩)]
  ·exact hj.2
  ·exact (hq2 q2 T2 n2 hq).2.2.1 q T n yaG h
 | dep q p=>
  have hqi:q≠i:=hnd q (by rw [hf]; exact List.mem_singleton.2 rfl)
  rw [hf] at hj
  simp only [IX.ok,hgj,hg q hqi] at hj ⊢
  exact hj
 | depN qs p=>
  rw [hf] at hj
  simp only [IX.ok,hgj] at hj ⊢
  rw [List.map_congr_left (g:=fun q=>(g q).v) fun q hq=>by rw [hg q (hnd q (by rw [hf]; exact hq))]]
  exact hj
 | storedD q k c T n=>
  have hki:k≠i:=hnd k (by rw [hf]; exact List.mem_singleton.2 rfl)
  obtain ⟨hqi,hlt,hqB⟩:=hq1 q T n yaG;rw [hf] at hj
  simp only [IX.ok,hgj,hg q hqi,hg k hki] at hj ⊢
  refine ⟨hj.1,?_⟩;rw [hst.block _ hlt (fun q2 T2 n2 hq h=>?_) (fun _=>⟨fun h=>by have:=hSB _ h; omega,fun k9 hk hr=>by have h9:=hzq k9 q T n hk yaG; omega⟩)]
  ·exact hj.2
  ·exact (hq2 q2 T2 n2 hq).2.2.1 q T n yaG h
 | pred p hp=>
  rw [hf] at hj
  simp only [IX.ok,hgj] at hj ⊢
  refine hp _ _ _ _ _ hj ⟨hst.os,hst.tape,hst.output,hst.size,fun b hb=>hst.block b O (fun q T n hq h=>?_) (fun _=>⟨fun h=>?_,fun k hk hr=>?_⟩)⟩
  ·have h1:=(hq2 q T n hq).1
   have:=(hq2 q T n hq).2.2.2.2 (hne q T n hq fun _ _=>by rw [hf]; nofun)
   omega
  ·rcases hb with hb | hb
   ·exact hb.2 h
   ·have:=hSB _ h; omega
  ·have h9:=hz1 k hk (by rw [hf]; nofun)
   have h8:=hzB k hk;omega
 | effW p hp=>
  rw [hf] at hj
  simp only [IX.ok,hgj] at hj ⊢
  refine hp _ _ _ _ _ hj ⟨hst.os,hst.tape,hst.output,hst.size,fun b hb _=>hst.block b hb (fun q T n hq=>absurd hq (hww yaG q T n)) (fun h=>absurd (show (fs j).sh=.eff from by rw [hf]; rfl) (he h))⟩
 | effCW js p hp=>
  rw [hf] at hj
  simp only [IX.ok,hgj] at hj ⊢
  refine hp _ _ _ _ _ hj ⟨hst.os,hst.tape,hst.output,hst.size,fun b hb _=>hst.block b hb (fun q T n hq=>absurd hq (hww yaG q T n)) (fun h=>absurd (show (fs j).sh=.eff from by rw [hf]; rfl) (he h))⟩
 | whole p hp=>
  rw [hf] at hj
  simp only [IX.ok,hgj] at hj ⊢
  refine hp _ _ _ _ _ hj ⟨hst.os,hst.tape,hst.output,hst.size,fun b hb hn=>hst.block b hb (fun q T n hq=>absurd hq (hwh yaG q T n)) (fun _=>⟨fun h=>hn (hSB b h) h,fun k hk _=>hzw k hk yaG⟩)⟩
 | eff p hp=>
  rw [hf] at hj
  simp only [IX.ok,hgj] at hj ⊢
  refine hp _ _ _ _ _ hj ⟨hst.os,hst.tape,hst.output,hst.size,fun b hb=>hst.block b O (fun q T n hq h=>?_) (fun h=>?_)⟩
  ·have h1:=(hq2 q T n hq).1
   have:=(hq2 q T n hq).2.2.2.2 (hne q T n hq fun _ _=>by rw [hf]; nofun)
   omega
  ·exact absurd (show (fs j).sh=.eff from by rw [hf]; rfl) (he h)
 | cons q0 p hp=>
  rw [hf] at hj
  simp only [IX.ok,hgj] at hj ⊢
  intro h0;have hqi:q0≠i:=fun e=>hi0 (by rw [hf]; nofun) (e ▸ h0)
  rw [hg q0 hqi] at h0
  refine hp _ _ _ _ _ (hj h0) ⟨hst.os,hst.tape,hst.output,hst.size,fun b hb=>hst.block b O (fun q T n hq h=>?_) (fun _=>⟨fun h=>?_,fun k hk hr=>?_⟩)⟩
  ·have h1:=(hq2 q T n hq).1
   have:=(hq2 q T n hq).2.2.2.2 (hne q T n hq fun _ _=>by rw [hf]; nofun)
   omega
  ·rcases hb with hb | hb
   ·exact hb.2 h
   ·have:=hSB _ h; omega
  ·have h9:=hz1 k hk (by rw [hf]; simp [IX.until,hqi])
   have h8:=hzB k hk;omega
 | effC j0 p hp=>
  rw [hf] at hj
  simp only [IX.ok,hgj] at hj ⊢
  refine hp _ _ _ _ _ hj ⟨hst.os,hst.tape,hst.output,hst.size,fun b hb=>hst.block b O (fun q T n hq h=>?_) (fun h=>?_)⟩
  ·have h1:=(hq2 q T n hq).1
   have:=(hq2 q T n hq).2.2.2.2 (hne q T n hq fun _ _=>by rw [hf]; nofun)
   omega
  ·exact absurd (show (fs j).sh=.eff from by rw [hf]; rfl) (he h)
theorem IX.Hv {f:IX B S} {g g':Nat->Gh} {i:Nat} {v:Value} {w w':World} (h:f.mk g v w w') (hi:g' i=⟨v,w.heap.size,w'.heap.size⟩) (hq:∀ q T n,f.sh=.store q T n->g' q=g q) (hnd:∀ q,q∈f.needs->g' q=g q):f.ok g' i w':=by
 cases f with
 | any=>trivial
 | val c=>simp only [IX.ok,hi]; exact h.2
 | new ob=>obtain ⟨hb,b,h1,h2,h3⟩:=h; simp only [IX.ok,hi]; subst h2; exact ⟨h1,q8 h3,h3⟩
 | slice ob l=>obtain ⟨hb,b,h1,h2,h3⟩:=h; simp only [IX.ok,hi]; subst h2; exact ⟨h1,q8 h3,h3⟩
 | cell T n=>obtain ⟨hb,b,h1,h2,c,h3,h4⟩:=h; simp only [IX.ok,hi]; subst h2; exact ⟨h1,q8 h3,c,h3,h4⟩
 | stored q c T n hn=>simp only [IX.ok,hi,hq q T n rfl]; exact ⟨h.2,h.1.at_⟩
 | dep q p=>simp only [IX.ok,hi,hnd q (List.mem_singleton.2 rfl)]; exact h.2
 | depN qs p=>
  simp only [IX.ok,hi]
  rw [List.map_congr_left (g:=fun q=>(g q).v) fun q hq=>by rw [hnd q hq]]
  exact h.2
 | storedD q j c T n=>simp only [IX.ok,hi,hq q T n rfl,hnd j (List.mem_singleton.2 rfl)]; exact ⟨h.2.1,h.1.at_⟩
 | pred p hp=>simp only [IX.ok,hi]; exact h.2
 | whole p hp=>simp only [IX.ok,hi]; exact h.2
 | effW p hp=>simp only [IX.ok,hi]; exact h.2
 | cons q p hp=>simp only [IX.ok,hi]; exact fun _=>h.2
 | effC j p hp=>simp only [IX.ok,hi]; exact h.2
 | effCW j p hp=>simp only [IX.ok,hi]; exact h.2
 | eff p hp=>simp only [IX.ok,hi]; exact h.2
theorem oM {f:IX B S} {g:Nat->Gh} {i:Nat} {w:World} {T:TypeId} {n:Nat} (h:f.ok g i w) (hs:f.sh=.cell T n):(g i).lo<(g i).hi:=by
 cases f with
 | cell T n=>exact h.2.1
 | _=>cases hs
theorem qX (fs:Nat->IX B S) (hW:(∀ i,(fs i).isW=false)\/∀ i q T n,(fs i).sh≠.store q T n) (hB:w.heap.size=B) (hSB:∀ b,S b->b<B)
  (hpos:0<B\/∀ i,(fs i).until=none) (hE:∀ i j,j∈(fs i).eats->(∃ o,L[i]?=some o/\bQ o j=true)/\(fs j).until=some i/\∀ k,(fs k).sh≠.whole)
  (hs:freely L (fun i=>(fs i).sh)=true) (hN:∀ i o,L[i]?=some o->∀ q,q∈(fs i).needs->bQ o q=true) (he:cn P L fs a { w with drawn:=w.drawn+1 } L 0)
  (hl:∀ g w',w'.os=w.os->w'.tape=w.tape->w'.output=w.output->w.heap.size<=w'.heap.size->(∀ b,b<B->¬ S b->w'.heap[b]?=w.heap[b]?)->
   (∀ i,i<L.length->(fs i).ok g i w'/\B<=(g i).lo/\(g i).lo<=(g i).hi/\(g i).hi<=w'.heap.size)->
   (∀ i j,i≠j->i<L.length->j<L.length->(g i).hi<=(g j).lo\/(g j).hi<=(g i).lo)->Q .normal (JK L (fun j=>(g j).v) 0 a) w') :
  wpAny P .any L.toArray Q L.toArray.size (Array.replicate L.toArray.size false) a { w with drawn:=w.drawn+1 }:=by
 have hdist:distinct L=true:=by simp only [freely,Bool.and_eq_true] at hs; exact hs.1
 refine qZ (fun listed a' w'=>listed.size=L.length/\∃ g,FInv L fs a { w with drawn:=w.drawn+1 } listed g a' w') ?_ ?_ _ _ _ _ ?_ ?_
 ·rintro listed a' w' i o ⟨hsz,g,hI⟩ ho h0 hall
  have ho:L[i]?=some o:=by simpa using ho
  have hil:i<L.length:=(List.getElem?_eq_some_iff.1 ho).1;obtain ⟨hback,hstore,heff,_⟩:=fZ hs ho;have hf:listed.getD i false=false:=by rw [jS O false true]; exact h0
  have hdep:∀ j,bQ o j=true->listed.getD j false=true/\j<L.length:=by
   intro j hj;obtain ⟨e,hem,heb,rfl⟩:=jE hj;exact ⟨hall e hem heb,by have:=hback e hem heb; omega⟩
  have hearly:early L (fun i=>(fs i).sh) i=true->effDone L (fun i=>(fs i).sh) listed=false:=by
   intro h;rw [effDone,List.any_eq_false];rintro ⟨o2,j⟩ hm2;have h1:=List.all_eq_true.1 h _ hm2;have ho2:L[j]?=some o2:=by
    obtain ⟨k,hk⟩:=List.mem_iff_getElem?.1 hm2;rw [List.getElem?_zipIdx] at hk
    cases hkk:L[k]? with
    | none=>rw [hkk] at hk; cases hk
    | some z=>
     rw [hkk] at hk
     simp only [Option.map_some,Option.some.injEq,Prod.mk.injEq,Nat.zero_add] at hk
     rw [<-hk.2,hkk,hk.1]
   cases hc:(fs j).sh with
   | eff=>
    simp only [hc,Bool.or_eq_true,decide_eq_true_eq] at h1 ⊢
    rcases h1 with h1 | h1
    ·subst h1; simp [hf]
    ·intro hlj
     obtain ⟨e,hem,heb,hei⟩:=jE h1;have:=hI.closed j o2 ho2 hlj e hem heb;rw [hei,hf] at this
     cases this
   | _=>simp [hc]
  have hBw:B<=w'.heap.size:=by rw [<-hB]; exact hI.size
  have hy:=wq L 0 i o he ho g w' (by rw [Nat.zero_add]; exact hI.fresh i hil hf) hI.os hI.tape hI.output hI.size (fun b hb h=>hI.old b hb (h.imp (fun z=>z) (by rw [Nat.zero_add]; exact hearly)))
   (fun j hj=>⟨(hI.facts j (hdep j hj).2 (hdep j hj).1).1,(hI.facts j (hdep j hj).2 (hdep j hj).1).2.1,(hI.facts j (hdep j hj).2 (hdep j hj).1).2.2.2,fun q hq hqj=>hI.apart j q (Ne.symm hqj) (hdep j hj).2 (hdep q hq).2 (hdep j hj).1 (hdep q hq).1⟩)
  rw [Nat.zero_add] at hy
  rw [hI.act]
  refine hy.wp fun v w'' hmk=>⟨by simpa using hsz,(fun j=>if j=i then ⟨v,w'.heap.size,w''.heap.size⟩ else g j),?_⟩
  have hst:=IX.step hmk;have hg:∀ k,k≠i->(fun j=>if j=i then (⟨v,w'.heap.size,w''.heap.size⟩:Gh) else g j) k=g k:=fun k hk=>if_neg hk
  have hgi:(fun j=>if j=i then (⟨v,w'.heap.size,w''.heap.size⟩:Gh) else g j) i=⟨v,w'.heap.size,w''.heap.size⟩:=if_pos rfl
  generalize (fun j=>if j=i then (⟨v,w'.heap.size,w''.heap.size⟩:Gh) else g j)=g' at hg hgi
  have hq2:∀ q T n,(fs i).sh=.store q T n->q≠i/\q<L.length/\listed.getD q false=true/\(fs q).sh=.cell T n/\B<=(g q).lo/\(g q).lo<(g q).hi/\(g q).hi<=w'.heap.size:=by
   intro q T n hq;obtain ⟨h1,h2,h3⟩:=hstore q T n hq;obtain ⟨h4,h5⟩:=hdep q h1;have h6:=hI.facts q h5 h4;exact ⟨fun h=>(by rw [h,hf] at h4; cases h4),h5,h4,h2,h6.2.1,oM h6.1 h2,h6.2.2.2⟩
  have hz2:∀ k,k∈(fs i).eats->k<L.length/\listed.getD k false=true/\B<=(g k).lo/\(fs k).until=some i/\∀ j,(fs j).sh≠.whole:=by
   intro k hk;obtain ⟨⟨o',ho',ha⟩,hu,hx⟩:=hE i k hk;rw [ho] at ho'
   simp only [Option.some.injEq] at ho'
   subst ho';obtain ⟨h1,h2⟩:=hdep k ha;exact ⟨h2,h1,(hI.facts k h2 h1).2.1,hu,hx⟩
  have hmono:effDone L (fun i=>(fs i).sh) (listed.setIfInBounds i true)=false->effDone L (fun i=>(fs i).sh) listed=false/\(fs i).sh≠.eff:=by
   intro h;rw [effDone,List.any_eq_false] at h
   constructor
   ·rw [effDone,List.any_eq_false]
    rintro ⟨o2,j⟩ hm2;have h1:=h _ hm2;cases hc:(fs j).sh with
    | eff=>
     simp only [hc] at h1 ⊢
     intro hlj;exact h1 (getD_set_true hlj)
    | _=>simp [hc]
   ·intro hsh
    have hm2:(o,i)∈L.zipIdx:=by
     rw [List.mem_iff_getElem?]
     exact ⟨i,by simp [ho]⟩
    have h1:=h _ hm2;simp only [hsh] at h1
    exact h1 (by simp [hsz,hil])
  constructor
  ·rw [rm _ _ _ _ i _ _ hdist ho]
   refine o6 _ _ _ _ _ fun j _=>?_;rw [Nat.zero_add]
   by_cases hji:j=i
   ·subst hji; rw [if_pos rfl,hgi]
   ·rw [if_neg hji,hg j hji]
  ·intro q oq hq hlq e hee heb
   by_cases hqi:q=i
   ·subst hqi
    rw [hq] at ho
    cases ho
    exact getD_set_true (hall e hee heb)
   ·exact getD_set_true (hI.closed q oq hq (kh hlq hqi) e hee heb)
  ·exact hst.os.trans hI.os
  ·exact hst.tape.trans hI.tape
  ·exact hst.output.trans hI.output
  ·exact Nat.le_trans hI.size hst.size
  ·intro b hb h
   rw [hst.block b O (fun q T n hq=>by have:=hq2 q T n hq; omega) (fun hsh=>⟨?_,fun k hk hr=>?_⟩),hI.old b hb (h.imp (fun z=>z) fun h=>(hmono h).1)]
   ·rcases h with h | h
    ·exact h
    ·exact absurd hsh (hmono h).2
   ·have:=(hz2 k hk).2.2.1; omega
  ·intro j hjl hlj
   by_cases hji:j=i
   ·subst hji
    refine ⟨IX.Hv hmk hgi (fun q T n hq=>hg q (hq2 q T n hq).1) (fun q hq=>hg q fun h=>?_),?_⟩
    ·have h4:=(hdep q (hN j o ho q hq)).1
     rw [h,hf] at h4; cases h4
    rw [hgi]
    exact ⟨hBw,hst.size,Nat.le_refl _⟩
   ·have hlj:=kh hlj hji
    obtain ⟨h1,h2,h3,h4⟩:=hI.facts j hjl hlj;refine ⟨Step.ok hSB hst hg hji h1 h2 h4 hBw ?_ ?_ ?_ ?_ (fun hw=>?_) (fun q hq hqi=>?_) (fun k hk hjk=>hI.apart j k hjk hjl (hz2 k hk).1 hlj (hz2 k hk).2.1) (fun k hk=>(hz2 k hk).2.2.1)
      (fun k q T n hk hq=>?_) (fun k hk=>(hz2 k hk).2.2.2.1) (fun k hk=>(hz2 k hk).2.2.2.2 j) (fun hu=>by rw [hgi]; have:=hst.size; have:=hpos.resolve_right fun h=>hu (h j); simp only; omega),?_⟩
    ·intro q T n hq
     obtain ⟨oj,hoj⟩:∃ oj,L[j]?=some oj:=⟨L[j],by simp [hjl]⟩
     obtain ⟨_,hs2,_⟩:=fZ hs hoj;obtain ⟨h5,h6,_⟩:=hs2 q T n hq;obtain ⟨e,hem,heb,hei⟩:=jE h5;have h7:=hI.closed j oj hoj hlj e hem heb;rw [hei] at h7
     have hql:q<L.length:=by
      have:=(fZ hs hoj).1 e hem heb;omega
     have h8:=hI.facts q hql h7;have h9:=oM h8.1 h6;exact ⟨fun h=>(by rw [h,hf] at h7; cases h7),O,h8.2.1⟩
    ·intro q T n hq
     obtain ⟨a1,a2,a3,a4,a5,a6,a7⟩:=hq2 q T n hq;refine ⟨a5,a4,fun q' T' n' hq' heq=>?_,fun hjq hlt heq=>?_,fun hjq=>?_⟩
     ·obtain ⟨oj,hoj⟩:∃ oj,L[j]?=some oj:=⟨L[j],by simp [hjl]⟩
      obtain ⟨_,hs2,_⟩:=fZ hs hoj;obtain ⟨h5,h6,JS⟩:=hs2 q' T' n' hq';obtain ⟨e,hem,heb,hei⟩:=jE h5;have h7:=hI.closed j oj hoj hlj e hem heb;rw [hei] at h7
      have hql:q'<L.length:=by
       have:=(fZ hs hoj).1 e hem heb;omega
      have h9:=oM (hI.facts q' hql h7).1 h6;have hqq:q'≠q:=fun h=>by
       subst h;exact JS i hil (Ne.symm hji) T n hq
      rcases hI.apart q' q hqq hql a2 h7 a3 with h | h <;> omega
     ·rcases hI.apart j q hjq hjl a2 hlj a3 with h | h <;> omega
     ·rcases hI.apart j q hjq hjl a2 hlj a3 with h | h <;> omega
    ·intro hsh
     exact heff hsh j hjl hji
    ·intro hsh
     obtain ⟨oj,hoj⟩:∃ oj,L[j]?=some oj:=⟨L[j],by simp [hjl]⟩
     exact (fZ hs hoj).2.2.2 hsh i hil
    ·rcases hW with hW | hW
     ·rw [hW j] at hw; cases hw
     ·exact hW i
    ·obtain ⟨oj,hoj⟩:∃ oj,L[j]?=some oj:=⟨L[j],by simp [hjl]⟩
     obtain ⟨e,hem,heb,hei⟩:=jE (hN j oj hoj q hq);have h7:=hI.closed j oj hoj hlj e hem heb;rw [hei,hqi,hf] at h7
     cases h7
    ·obtain ⟨oj,hoj⟩:∃ oj,L[j]?=some oj:=⟨L[j],by simp [hjl]⟩
     obtain ⟨_,hs2,_⟩:=fZ hs hoj;obtain ⟨h5,h6,_⟩:=hs2 q T n hq;obtain ⟨e,hem,heb,hei⟩:=jE h5;have h7:=hI.closed j oj hoj hlj e hem heb;rw [hei] at h7
     have hql:q<L.length:=by
      have:=(fZ hs hoj).1 e hem heb;omega
     have h9:=oM (hI.facts q hql h7).1 h6;obtain ⟨k1,k2,k3,k4,_⟩:=hz2 k hk;have hqk:q≠k:=fun e=>by
      subst e;cases hc:fs q <;> rw [hc] at h6 k4 <;> first | (cases h6; done) | (cases k4; done)
     rcases hI.apart q k hqk hql k1 h7 k2 with h | h <;> omega
    ·rw [hg j hji]
     exact ⟨h2,h3,Nat.le_trans h4 hst.size⟩
  ·intro j k hjk hjl hkl hlj hlk
   by_cases hji:j=i
   ·subst hji
    rw [hgi,hg k (Ne.symm hjk)]
    exact .inr (hI.facts k hkl (kh hlk (Ne.symm hjk))).2.2.2
   ·by_cases hki:k=i
    ·subst hki
     rw [hgi,hg j hji]
     exact .inl (hI.facts j hjl (kh hlj hji)).2.2.2
    ·rw [hg j hji,hg k hki]
     exact hI.apart j k hjk hjl hkl (kh hlj hji) (kh hlk hki)
  ·intro j hjl hlj
   by_cases hji:j=i
   ·subst hji
    exfalso
    simp [hsz,hil] at hlj
   ·rw [hg j hji]
    refine hI.fresh j hjl ?_
    rwa [getD_set_ne false (Ne.symm hji)] at hlj
 ·rintro listed a' w' ⟨hsz,g,hI⟩ hr
  have hall:∀ i,i<L.length->listed.getD i false=true:=by
   intro i
   induction i using Nat.strongRecOn with
   | _ i ih=>
    intro hi;cases hc:listed.getD i false with
    | true=>rfl
    | false=>
     exfalso
     have hm:i∈Region.ready .any L.toArray listed:=by
      refine mem_ready.2 ⟨?_,L[i],by simp [hi],?_⟩
      ·rw [jS O true false]; exact hc
      ·intro e he heb
       have:=(fZ hs (i:=i) (o:=L[i]) (by simp [hi])).1 e he heb
       exact ih e.on this O
     rw [hr] at hm
     cases hm
  rw [hI.act]
  exact hl g w' hI.os hI.tape hI.output hI.size (fun b hb h=>hI.old b hb (.inl h)) (fun i hi=>hI.facts i hi (hall i hi)) fun i j hij hi hj=>hI.apart i j hij hi hj (hall i hi) (hall j hj)
 ·have:∀ n (b:Array Bool),left n b<=n:=fun n b=>by
   unfold left;exact Nat.le_trans (List.length_filter_le _ _) yas
  exact this _ _
 ·refine ⟨by simp,(fun i=>⟨start L a i,0,0⟩),?_⟩
  constructor
  ·refine (qO a _ _ _ fun i oi hoi=>?_).symm
   simp only [start,Nat.zero_add,hoi]
  ·intro i o _ h; rw [gS] at h; cases h
  ·rfl
  ·rfl
  ·rfl
  ·exact Nat.le_refl _
  ·intro b _ _; rfl
  ·intro i _ h; rw [gS] at h; cases h
  ·intro i j _ _ _ h; rw [gS] at h; cases h
  ·intro i _ _; rfl
theorem Dn {id:Nat} (fs:Nat->IX B S) (hW:(∀ i,(fs i).isW=false)\/∀ i q T n,(fs i).sh≠.store q T n) (hm:P.follows .mixedOrders=true) (hB:w.heap.size=B) (hSB:∀ b,S b->b<B)
  (hpos:0<B\/∀ i,(fs i).until=none) (hE:∀ i j,j∈(fs i).eats->(∃ o,L[i]?=some o/\bQ o j=true)/\(fs j).until=some i/\∀ k,(fs k).sh≠.whole)
  (hs:freely L (fun i=>(fs i).sh)=true) (hN:∀ i o,L[i]?=some o->∀ q,q∈(fs i).needs->bQ o q=true) (he:cn P L fs a { w with drawn:=w.drawn+1 } L 0)
  (hl:∀ g w',w'.os=w.os->w'.tape=w.tape->w'.output=w.output->w.heap.size<=w'.heap.size->(∀ b,b<B->¬ S b->w'.heap[b]?=w.heap[b]?)->
   (∀ i,i<L.length->(fs i).ok g i w'/\B<=(g i).lo/\(g i).lo<=(g i).hi/\(g i).hi<=w'.heap.size)->
   (∀ i j,i≠j->i<L.length->j<L.length->(g i).hi<=(g j).lo\/(g j).hi<=(g i).lo)->Q .normal (JK L (fun j=>(g j).v) 0 a) w') :
  (Code.region id L.toArray true).wp P Q a w:=wp_region_any hm (qX fs hW hB hSB hpos hE hs hN he hl)
theorem ru (fs:Nat->IX B S) (hW:((∀ i,(fs i).isW=false)\/∀ i q T n,(fs i).sh≠.store q T n)/\∀ i,(fs i).eats=[]/\(fs i).until=none) (hB:w.heap.size=B) (hSB:∀ b,S b->b<B)
  (hs:freely L (fun i=>(fs i).sh)=true) (hN:∀ i o,L[i]?=some o->∀ q,q∈(fs i).needs->bQ o q=true) (he:cn P L fs a { w with drawn:=w.drawn+1 } L 0)
  (hl:∀ g w',w'.os=w.os->w'.tape=w.tape->w'.output=w.output->w.heap.size<=w'.heap.size->(∀ b,b<B->¬ S b->w'.heap[b]?=w.heap[b]?)->
   (∀ i,i<L.length->(fs i).ok g i w'/\B<=(g i).lo/\(g i).lo<=(g i).hi/\(g i).hi<=w'.heap.size)->
   (∀ i j,i≠j->i<L.length->j<L.length->(g i).hi<=(g j).lo\/(g j).hi<=(g i).lo)->Q .normal (JK L (fun j=>(g j).v) 0 a) w') :
  wpAny P .any L.toArray Q L.toArray.size (Array.replicate L.toArray.size false) a { w with drawn:=w.drawn+1 }:=
 qX fs hW.1 hB hSB (.inr fun i=>(hW.2 i).2) (fun i j hj=>by rw [(hW.2 i).1] at hj; cases hj) hs hN he hl
theorem wB {id:Nat} (fs:Nat->IX B S) (hW:((∀ i,(fs i).isW=false)\/∀ i q T n,(fs i).sh≠.store q T n)/\∀ i,(fs i).eats=[]/\(fs i).until=none) (hm:P.follows .mixedOrders=true) (hB:w.heap.size=B) (hSB:∀ b,S b->b<B)
  (hs:freely L (fun i=>(fs i).sh)=true) (hN:∀ i o,L[i]?=some o->∀ q,q∈(fs i).needs->bQ o q=true) (he:cn P L fs a { w with drawn:=w.drawn+1 } L 0)
  (hl:∀ g w',w'.os=w.os->w'.tape=w.tape->w'.output=w.output->w.heap.size<=w'.heap.size->(∀ b,b<B->¬ S b->w'.heap[b]?=w.heap[b]?)->
   (∀ i,i<L.length->(fs i).ok g i w'/\B<=(g i).lo/\(g i).lo<=(g i).hi/\(g i).hi<=w'.heap.size)->
   (∀ i j,i≠j->i<L.length->j<L.length->(g i).hi<=(g j).lo\/(g j).hi<=(g i).lo)->Q .normal (JK L (fun j=>(g j).v) 0 a) w') :
  (Code.region id L.toArray true).wp P Q a w:=wp_region_any hm (ru fs hW hB hSB hs hN he hl)
theorem Oper.wp_Q {o:Oper} {a:Act} {w:World} {K:Act->World->Prop} {Q Q':Exit->Act->World->Prop} (h:∀ e a w,e≠.normal->Q' e a w->Q e a w) (hh:o.wp P a w K Q'):o.wp P a w K Q:=by
 unfold Oper.wp at *
 generalize (execOp a.eval o).run P w=r at *
 cases r with
 | ok n w'=>
  cases n <;> simp only [Oper.upon] at hh ⊢ <;>
   first
    | exact hh
    | exact Calls.mono hh (fun e w'' he=>by cases e <;> first | exact he | exact h _ _ _ yas he | exact he.imp fun a he=>he.imp fun w he=>h _ _ _ yas he)
    | exact Rows.mono hh (fun _ _ he=>he)
 | halt x w'=>cases x <;> simp only [Oper.upon] at hh ⊢ <;> first | exact hh | exact h _ _ _ yas hh | exact hh.imp fun a he=>he.imp fun w he=>h _ _ _ yas he
def padded (listed:Array Bool) (n:Nat):Array Bool:=listed++Array.replicate n false
theorem iU {listed:Array Bool} {n i:Nat} {d:Bool} (h:i<listed.size):(padded listed n).getD i d=listed.getD i d:=by
 unfold padded;simp only [Array.getD_eq_getD_getElem?];rw [Array.getElem?_append_left h]
theorem vB {listed:Array Bool} {n i:Nat} (h:listed.size<=i):(padded listed n).getD i false=false:=by
 unfold padded;simp only [Array.getD_eq_getD_getElem?];rw [Array.getElem?_append_right h];cases hc:(Array.replicate n false)[i - listed.size]? with
 | none=>rfl
 | some b=>
  have:=(Array.getElem?_eq_some_iff.1 hc).2;simpa using this.symm
theorem uQ {listed:Array Bool} {n i:Nat} (h:i<listed.size):(padded listed n).setIfInBounds i true=padded (listed.setIfInBounds i true) n:=by
 unfold padded;rw [Array.setIfInBounds_append,if_pos h]
def noGuards (l:List Oper):Bool:=l.all fun o=>o.guard.isNone
theorem Cz {l:List Oper} (h:noGuards l=true) {i:Nat} {o:Oper} (ho:l[i]?=some o) (ops:Array Oper) (ts:Array Value):Region.wanted o (yielded ops ts)=true:=by
 have:=List.all_eq_true.1 h o (List.mem_of_getElem? ho);cases hg:o.guard with
 | none=>simp [Region.wanted,hg]
 | some g=>rw [hg] at this; cases this
theorem Dr {k:Nat} (hs:shapely L=true) (hch:chained L k=true) (listed:Array Bool) (hsz:listed.size=L.length) (hkl:k<=L.length) (hlow:∀ i,i<k->listed.getD i false=true) (hhigh:∀ i,k<=i->listed.getD i false=false) {a:Act} {w:World}
  (h:wpList P L.toArray Q (L.drop k) a w) (fuel:Nat) (hf:left L.toArray.size listed<=fuel):wpAny P .any L.toArray Q fuel listed a w:=by
 refine qZ (fun listed a w=>listed.size=L.length/\∃ j,k<=j/\j<=L.length/\(∀ i,i<j->listed.getD i false=true)/\(∀ i,j<=i->listed.getD i false=false)/\wpList P L.toArray Q (L.drop j) a w) ?_ ?_ fuel listed a w hf ⟨hsz,k,Nat.le_refl _,hkl,hlow,hhigh,h⟩
 ·rintro listed b v i oi ⟨hsz,j,hkj,hjl,hlow,hhigh,hwp⟩ ho h0 hall
  have ho':L[i]?=some oi:=by simpa using ho
  have hil:i<L.length:=(List.getElem?_eq_some_iff.1 ho').1;have hf0:listed.getD i false=false:=by rw [jS O false true]; exact h0
  have hji:j=i:=by
   rcases Nat.lt_trichotomy i j with h | h | h
   ·rw [hlow i h] at hf0; cases hf0
   ·exact h.symm
   ·obtain ⟨e,he,hei⟩:=nX hch ho' O
    have:=hall e he (nY hs ho' e he).1;rw [hhigh e.on O] at this
    cases this
  subst hji;have hd:L.drop j=oi::L.drop (j+1):=by
   rw [List.drop_eq_getElem_cons hil]
   have:L[j]=oi:=by simpa [List.getElem?_eq_getElem hil] using ho'
   rw [this]
  rw [hd] at hwp
  unfold wpList at hwp
  have key:∀ a'' w'',wpList P L.toArray Q (L.drop (j+1)) a'' w''->(listed.setIfInBounds j true).size=L.length/\∃ q,k<=q/\q<=L.length/\(∀ i,i<q->(listed.setIfInBounds j true).getD i false=true)/\(∀ i,q<=i->(listed.setIfInBounds j true).getD i false=false)/\wpList P L.toArray Q (L.drop q) a'' w'':=by
   intro a'' w'' h;refine ⟨by simpa using hsz,j+1,O,O,fun q hq=>?_,fun q hq=>?_,h⟩
   ·by_cases hqj:q=j
    ·subst hqj; simp [hsz,hil]
    ·exact getD_set_true (hlow q O)
   ·rw [getD_set_ne false O]; exact hhigh q O
  split
  ·rename_i hq
   rw [if_pos hq] at hwp
   exact hwp.imp (Oper.wp_mono key) (fun h=>h)
  ·rename_i hq
   rw [if_neg hq] at hwp
   exact key _ _ hwp
 ·rintro listed b v ⟨hsz,j,hkj,hjl,hlow,hhigh,hwp⟩ hr
  have hall:=qM hs hsz hr;have hj:j=L.length:=by
   rcases Nat.lt_or_ge j L.length with h | h
   ·have:=hall j h
    rw [hhigh j (Nat.le_refl _)] at this
    cases this
   ·omega
  subst hj;rw [List.drop_length] at hwp
  exact hwp
theorem Df {k:Nat} (hs:drawnOk L k=true) (hsk:shapely (L.take k)=true) (hg:noGuards (L.take k)=true) {Q':Exit->Act->World->Prop} (hQ:∀ e a w,e≠.normal->Q' e a w->Q e a w) (hN:∀ a w,Q' .normal a w->wpList P L.toArray Q (L.drop k) a w) :
  ∀ (fuel:Nat) (listed:Array Bool) (a:Act) (w:World),listed.size=k->(∀ i o,L[i]?=some o->i<k->listed.getD i false=true->∀ e∈o.after,listed.getD e.on false=true)->
   wpAny P .any (L.take k).toArray Q' fuel listed a w->∀ fuel2,left L.toArray.size (padded listed (L.length - k))<=fuel2->wpAny P .any L.toArray Q fuel2 (padded listed (L.length - k)) a w:=by
 simp only [drawnOk,Bool.and_eq_true,decide_eq_true_eq] at hs
 obtain ⟨⟨⟨hs,hw⟩,hch⟩,hkl⟩:=hs;have hsH:∀ i o,L[i]?=some o->∀ e∈o.after,Region.binds .any e=true/\e.on<i:=fun i o ho=>nY hs ho
 have htk:∀ i,i<k->(L.take k)[i]?=L[i]?:=fun i hi=>oH hi
 have hlk:(L.take k).length=k:=by simp; omega
 have fin:∀ (listed:Array Bool) (a:Act) (w:World),listed.size=k->Region.ready .any (L.take k).toArray listed=[]->Q' .normal a w->∀ fuel2,left L.toArray.size (padded listed (L.length - k))<=fuel2->wpAny P .any L.toArray Q fuel2 (padded listed (L.length - k)) a w:=by
  intro listed a w hsz hr hq fuel2 hf2;refine Dr hs hch _ (by simp [padded]; omega) O (fun i hi=>?_) (fun i hi=>vB O) (hN _ _ hq) fuel2 hf2
  rw [iU O]
  exact qM hsk O hr i O
 have low:∀ (listed:Array Bool),listed.size=k->(∀ i o,L[i]?=some o->i<k->listed.getD i false=true->∀ e∈o.after,listed.getD e.on false=true)->∀ j,k<=j->j∈Region.ready .any L.toArray (padded listed (L.length - k))->∀ i,i<k->listed.getD i false=true:=by
  intro listed hsz hcl j hkj hj;obtain ⟨_,o,ho,hall⟩:=mem_ready.1 hj;have ho:L[j]?=some o:=by simpa using ho
  have hjk:j=k:=by
   rcases Nat.lt_or_ge k j with h | h
   ·obtain ⟨e,he,hei⟩:=nX hch ho h
    have:=hall e he (hsH j o ho e he).1;rw [vB O] at this
    cases this
   ·omega
  subst hjk;have main:∀ d i,i+d+1=j->listed.getD i false=true:=by
   intro d
   induction d using Nat.strongRecOn with
   | _ d ih=>
    intro i hi;obtain ⟨i',o',hlt,ho',e,he,hei⟩:=vJ hw (j:=i) yao;have hi'l:i'<(L.take (j+1)).length:=(List.getElem?_eq_some_iff.1 ho').1;have hi'k:i'<=j:=by simp at hi'l; omega
    rw [oH O] at ho'
    rcases Nat.lt_or_ge i' j with h | h
    ·have h1:=ih (j - 1 - i') O i' O
     have:=hcl i' o' ho' h h1 e he
     rwa [hei] at this
    ·have e1:i'=j:=by omega
     subst e1;rw [ho] at ho'
     cases ho'
     have:=hall e he (hsH i' o ho e he).1;rw [hei,iU O] at this
     exact this
  intro i hi;exact main (j - 1 - i) i O
 intro fuel
 induction fuel with
 | zero=>
  intro listed a w hsz hcl h;exact fin listed a w hsz h.1 h.2
 | succ fuel ih=>
  intro listed a w hsz hcl h
  by_cases hr:Region.ready .any (L.take k).toArray listed=[]
  ·exact fin listed a w hsz hr (h.1 hr)
  obtain ⟨j0,hj0⟩:=List.exists_mem_of_ne_nil _ hr;obtain ⟨hj0f,o0,ho0,hall0⟩:=mem_ready.1 hj0;have ho0:(L.take k)[j0]?=some o0:=by simpa using ho0
  have hj0k:j0<k:=by have:=(List.getElem?_eq_some_iff.1 ho0).1; omega
  have hj0n:listed.getD j0 false=false:=by rw [jS O false true]; exact hj0f
  have hj0L:j0∈Region.ready .any L.toArray (padded listed (L.length - k)):=by
   refine mem_ready.2 ⟨by rw [iU O]; exact hj0f,o0,by rw [htk j0 hj0k] at ho0; simpa using ho0,fun e he hb=>?_⟩
   have:=hsH j0 o0 (by rw [htk j0 hj0k] at ho0; exact ho0) e he
   rw [iU O]
   exact hall0 e he hb
  intro fuel2 hf2;cases fuel2 with
  | zero=>
   exfalso
   have hlt:j0<L.length:=O
   have h1:j0∈(List.range L.toArray.size).filter fun i=>!(padded listed (L.length - k)).getD i true:=List.mem_filter.2 ⟨List.mem_range.2 (by simpa using hlt),by rw [iU O,hj0f]; rfl⟩
   have h2:left L.toArray.size (padded listed (L.length - k))=0:=O
   rw [List.eq_nil_of_length_eq_zero h2] at h1
   cases h1
  | succ fuel2=>
   refine ⟨fun hrl=>(by rw [hrl] at hj0L; cases hj0L),fun j hj=>?_⟩
   have hjk:j<k:=by
    rcases Nat.lt_or_ge j k with h | h
    ·exact h
    ·have:=low listed hsz hcl j h hj j0 hj0k
     rw [hj0n] at this
     cases this
   obtain ⟨hjf,o,ho,hall⟩:=mem_ready.1 hj;have ho:L[j]?=some o:=by simpa using ho
   have hjf':listed.getD j true=false:=by rwa [iU O] at hjf
   have hall':∀ e∈o.after,Region.binds .any e=true->listed.getD e.on false=true:=fun e he hb=>by
    have:=hsH j o ho e he;have h2:=hall e he hb
    rwa [iU O] at h2
   have hoH:(L.take k)[j]?=some o:=by rw [htk j hjk]; exact ho
   have hjH:j∈Region.ready .any (L.take k).toArray listed:=mem_ready.2 ⟨hjf',o,by simpa using hoH,hall'⟩
   have hwp:=h.2 j hjH;have hls:=wj (listed:=padded listed (L.length - k)) (n:=L.toArray.size) (i:=j) yao hjf
   have hcl':∀ i o',L[i]?=some o'->i<k->(listed.setIfInBounds j true).getD i false=true->∀ e∈o'.after,(listed.setIfInBounds j true).getD e.on false=true:=by
    intro i o' ho' hik hil e he
    by_cases hij:i=j
    ·subst hij
     rw [ho] at ho'
     cases ho'
     exact getD_set_true (hall' e he (hsH i o ho e he).1)
    ·rw [getD_set_ne false (Ne.symm hij)] at hil
     exact getD_set_true (hcl i o' ho' hik hil e he)
   unfold wpOp at hwp ⊢
   rw [show (L.take k).toArray[j]?=some o from by simpa using hoH] at hwp
   rw [show L.toArray[j]?=some o from by simpa using ho]
   simp only at hwp ⊢
   rw [if_pos (Cz hg hoH _ _)] at hwp ⊢
   rcases hwp with hwp | ⟨h1,h2⟩
   ·refine .inl (Oper.wp_Q hQ (Oper.wp_mono (fun a' w' h'=>?_) hwp))
    rw [uQ O]
    exact ih (listed.setIfInBounds j true) a' w' (by simpa using hsz) hcl' h' fuel2 (by rw [<-uQ O]; omega)
   ·exact .inr ⟨h1,h2.imp fun a h=>h.imp fun w h=>hQ _ _ _ yas h⟩
theorem rj {id:Nat} {k:Nat} (hm:P.follows .mixedOrders=true) (hs:drawnOk L k=true) (hsk:shapely (L.take k)=true) (hg:noGuards (L.take k)=true)
  (h:wpAny P .any (L.take k).toArray (fun e a w=>e=.normal/\wpList P L.toArray Q (L.drop k) a w) (L.take k).toArray.size (Array.replicate (L.take k).toArray.size false) a { w with drawn:=w.drawn+1 }):(Code.region id L.toArray true).wp P Q a w:=by
 refine wp_region_any hm ?_;have hkl:k<L.length:=by simp only [drawnOk,Bool.and_eq_true,decide_eq_true_eq] at hs; exact hs.2
 have hlk:(L.take k).length=k:=by simp; omega
 have h2:=Df (Q:=Q) hs hsk hg (Q':=fun e a w=>e=.normal/\wpList P L.toArray Q (L.drop k) a w) (fun e a w hne h=>absurd h.1 hne) (fun a w h=>h.2) _ (Array.replicate k false) a { w with drawn:=w.drawn+1 } yas (fun i o _ _ hl=>by rw [gS] at hl; cases hl) (by rw [show (L.take k).toArray.size=k from by simp; omega] at h; exact h)
 have e:padded (Array.replicate k false) (L.length - k)=Array.replicate L.toArray.size false:=by
  unfold padded;rw [Array.replicate_append_replicate]
  congr 1
  simp
  omega
 rw [e] at h2
 refine h2 _ ?_;unfold left;exact Nat.le_trans (List.length_filter_le ..) yas
end
/-! ### With frames -/
theorem vQ:∀ (l:List Value) (c:Array Value) (o i:Nat),o+l.length<=c.size->(over c o l)[i]?=if o<=i/\i<o+l.length then l[i - o]? else c[i]?
 | [],c,o,i,_=>by
  simp only [over,List.length_nil,Nat.add_zero]
  rw [if_neg O]
 | v::l,c,o,i,h=>by
  simp only [List.length_cons] at h
  simp only [over,List.length_cons]
  rw [vQ l _ (o+1) i yao]
  by_cases h1:i=o
  ·subst h1
   rw [if_neg O,if_pos O]
   simp [show i<c.size from by omega]
  ·by_cases h2:o+1<=i/\i<o+1+l.length
   ·rw [if_pos h2,if_pos O]
    rw [show i - o=(i - (o+1))+1 from O,List.getElem?_cons_succ]
   ·rw [if_neg h2,if_neg O]
    rw [Array.getElem?_setIfInBounds_ne (Ne.symm h1)]
theorem uU:∀ (l:List Value) (c:Array Value) (o:Nat),(over c o l).size=c.size
 | [],_,_=>rfl
 | v::l,c,o=>by simp only [over]; rw [uU l]; simp
theorem fX {c:Array Value} {l:List Value} (h:c.size=l.length):over c 0 l=l.toArray:=by
 apply Array.ext_getElem?
 intro i;rw [vQ l c 0 i O]
 split
 ·simp
 ·rename_i hn
  have:l.length<=i:=O
  simp [h,this]
section
variable {P : Program} {Q : Exit -> Act -> World -> Prop} {L : List Oper} {a : Act} {w : World} {N : Nat} {s : SL}
theorem bU {B:Nat} {S:Nat->Prop} {fs:Nat->IX B S} {w0:World} {i:Nat}:cn P L fs a w0 [] i:=trivial
theorem dT {fs:Nat->IX w.heap.size (fun _=>False)} {o:Oper} {l:List Oper} {i:Nat} (r:Fr a N s) (hd:(o.guard.isNone&&dstsIn N L)=true)
  (h:∀ a' g w',Below w.heap.size w w'->(∀ j,bQ o j=true->(fs j).ok g j w'/\w.heap.size<=(g j).lo/\(g j).hi<=w'.heap.size/\∀ q,bQ o q=true->q≠j->(g j).hi<=(g q).lo\/(g q).hi<=(g j).lo)->Fr a' N (Kt L (fun j=>(g j).v) 0 s)->
   Yields P o a' w' fun v w''=>(fs i).mk g v w' w'') (h2:cn P L fs a w l (i+1)):cn P L fs a w (o::l) i:=by
 simp only [Bool.and_eq_true] at hd
 exact ⟨fun g w' _ h1 h3 h4 h5 h6 h7=>.plain hd.1 (h _ g w' ⟨h1,h3,h4,h5,fun b hb=>h6 b hb (.inl fun h=>h)⟩ h7 (r.JK L _ 0 hd.2)),h2⟩
theorem bp {fs:Nat->IX w.heap.size (fun _=>False)} {o:Oper} {l:List Oper} {i j d:Nat} (want:Bool) (r:Fr a N s) (hg:o.guard=some (j,want)) (hj:(L.toArray[j]?).bind (·.dst)=some d)
  (hd:(Nat.ble (d+1) N&&dstsIn N L)=true)
  (hv:∀ g w',(∀ j,bQ o j=true->(fs j).ok g j w'/\w.heap.size<=(g j).lo/\(g j).hi<=w'.heap.size/\∀ q,bQ o q=true->q≠j->(g j).hi<=(g q).lo\/(g q).hi<=(g j).lo)->look (Kt L (fun j=>(g j).v) 0 s) d=.bool want)
  (h:∀ a' g w',Below w.heap.size w w'->(∀ j,bQ o j=true->(fs j).ok g j w'/\w.heap.size<=(g j).lo/\(g j).hi<=w'.heap.size/\∀ q,bQ o q=true->q≠j->(g j).hi<=(g q).lo\/(g q).hi<=(g j).lo)->Fr a' N (Kt L (fun j=>(g j).v) 0 s)->
   Yields P { o with guard:=none } a' w' fun v w''=>(fs i).mk g v w' w'') (h2:cn P L fs a w l (i+1)):cn P L fs a w (o::l) i:=by
 simp only [Bool.and_eq_true] at hd
 refine ⟨fun g w' _ h1 h3 h4 h5 h6 h7=>?_,h2⟩
 have hr:=r.JK L (fun j=>(g j).v) 0 hd.2
 have hy:=nZ (ops:=L.toArray) hr hj (hv g w' h7) (Nat.le_of_ble_eq_true hd.1);unfold YieldsG;rw [if_pos (by simp only [Region.wanted,hg,hy,ja,beq_self_eq_true])]
 exact h _ g w' ⟨h1,h3,h4,h5,fun b hb=>h6 b hb (.inl fun h=>h)⟩ h7 hr
theorem bD {fs:Nat->IX w.heap.size (fun _=>False)} {o:Oper} {l:List Oper} {i j d:Nat} (want:Bool) (v:Value) (r:Fr a N s) (hg:o.guard=some (j,want)) (hj:(L.toArray[j]?).bind (·.dst)=some d)
  (hd:(Nat.ble (d+1) N&&dstsIn N L)=true)
  (hv:∀ g w',(∀ j,bQ o j=true->(fs j).ok g j w'/\w.heap.size<=(g j).lo/\(g j).hi<=w'.heap.size/\∀ q,bQ o q=true->q≠j->(g j).hi<=(g q).lo\/(g q).hi<=(g j).lo)->look (Kt L (fun j=>(g j).v) 0 s) d=v)
  (hn:ja v≠some want) (Iz:∀ g w',(fs i).mk g undef w' w') (h2:cn P L fs a w l (i+1)):cn P L fs a w (o::l) i:=by
 simp only [Bool.and_eq_true] at hd
 refine ⟨fun g w' _ h1 h3 h4 h5 h6 h7=>?_,h2⟩
 have hr:=r.JK L (fun j=>(g j).v) 0 hd.2
 have hy:=nZ (ops:=L.toArray) hr hj (hv g w' h7) (Nat.le_of_ble_eq_true hd.1);unfold YieldsG;rw [if_neg (by
  simp only [Region.wanted,hg,hy]
  exact fun h=>hn (eq_of_beq h))]
 exact Iz g w'
def okV {B:Nat} {S:Nat->Prop} (L:List Oper) (fl:List (IX B S)):Bool:=((fl.all fun f=>!f.isW)||fl.all fun f=>match f.sh with | .store _ _ _=>false | _=>true)&&L.zipIdx.all fun (o,i)=>(fact fl i).needs.all fun q=>bQ o q
theorem rE {B:Nat} {S:Nat->Prop} {L:List Oper} {fl:List (IX B S)} (h:okV L fl=true):∀ i o,L[i]?=some o->∀ q,q∈(fact fl i).needs->bQ o q=true:=by
 intro i o ho q hq;simp only [okV,Bool.and_eq_true] at h
 have hm:(o,i)∈L.zipIdx:=by
  rw [List.mem_iff_getElem?]
  exact ⟨i,by simp [ho]⟩
 exact List.all_eq_true.1 (List.all_eq_true.1 h.2 _ hm) q hq
theorem oK {B:Nat} {S:Nat->Prop}:∀ (fl:List (IX B S)) (i:Nat),fact fl i∈fl\/fact fl i=.any
 | [],_=>.inr rfl
 | _::_,0=>.inl (List.mem_cons_self ..)
 | _::l,n+1=>(oK l n).imp (List.mem_cons_of_mem _) id
theorem rP {B:Nat} {S:Nat->Prop} {L:List Oper} {fl:List (IX B S)} (h:okV L fl=true):(∀ i,(fact fl i).isW=false)\/∀ i q T n,(fact fl i).sh≠.store q T n:=by
 simp only [okV,Bool.and_eq_true,Bool.or_eq_true] at h
 have h:=h.1;simp only [List.all_eq_true] at h
 rcases h with h | h
 ·refine .inl fun i=>?_
  rcases oK fl i with hm | hm
  ·simpa using h _ hm
  ·rw [hm]; rfl
 ·refine .inr fun i q T n hs=>?_
  rcases oK fl i with hm | hm
  ·have:=h _ hm
   rw [hs] at this
   cases this
  ·rw [hm] at hs; cases hs
def okE {B:Nat} {S:Nat->Prop} (L:List Oper) (fl:List (IX B S)):Bool:=fl.zipIdx.all fun (f,i)=>f.eats.all fun j=>(match L[i]? with | some o=>bQ o j | none=>false)&&((fact fl j).until==some i)&&fl.all fun f=>(match f.sh with | .whole=>false | _=>true)
theorem rf {B:Nat} {S:Nat->Prop}:∀ (fl:List (IX B S)) (i:Nat),fact fl i=.any\/fl[i]?=some (fact fl i)
 | [],_=>.inl rfl
 | _::_,0=>.inr rfl
 | _::l,n+1=>by simpa [fact] using rf l n
theorem wY {B:Nat} {S:Nat->Prop} {L:List Oper} {fl:List (IX B S)} (h:okE L fl=true):∀ i j,j∈(fact fl i).eats->(∃ o,L[i]?=some o/\bQ o j=true)/\(fact fl j).until=some i/\∀ k,(fact fl k).sh≠.whole:=by
 intro i j he
 rcases rf fl i with hi | hi
 ·rw [hi] at he; cases he
 ·have hm:(fact fl i,i)∈fl.zipIdx:=by
   rw [List.mem_iff_getElem?]
   exact ⟨i,by simp [hi]⟩
  have h1:=List.all_eq_true.1 (List.all_eq_true.1 h _ hm) j he;simp only [Bool.and_eq_true,beq_iff_eq] at h1
  obtain ⟨⟨h1,h2⟩,h3⟩:=h1;refine ⟨?_,h2,fun k=>?_⟩
  ·cases hl:L[i]? with
   | none=>rw [hl] at h1; cases h1
   | some o=>rw [hl] at h1; exact ⟨o,rfl,h1⟩
  ·rcases rf fl k with hk | hk
   ·rw [hk]; exact nofun
   ·have h4:=List.all_eq_true.1 h3 _ (List.mem_of_getElem? hk)
    intro hs;rw [hs] at h4
    cases h4
def okW {B:Nat} {S:Nat->Prop} (L:List Oper) (fl:List (IX B S)):Bool:=okV L fl&&fl.all fun f=>f.eats.isEmpty&&f.until.isNone
theorem oY {B:Nat} {S:Nat->Prop} {L:List Oper} {fl:List (IX B S)} (h:okW L fl=true):∀ i o,L[i]?=some o->∀ q,q∈(fact fl i).needs->bQ o q=true:=rE (by unfold okW at h; simp only [Bool.and_eq_true] at h; exact h.1)
theorem p5 {B:Nat} {S:Nat->Prop} {L:List Oper} {fl:List (IX B S)} (h:okW L fl=true):((∀ i,(fact fl i).isW=false)\/∀ i q T n,(fact fl i).sh≠.store q T n)/\∀ i,(fact fl i).eats=[]/\(fact fl i).until=none:=by
 unfold okW at h
 simp only [Bool.and_eq_true] at h
 refine ⟨rP h.1,fun i=>?_⟩
 rcases oK fl i with hm | hm
 ·have:=List.all_eq_true.1 h.2 _ hm
  simpa using this
 ·rw [hm]; exact ⟨rfl,rfl⟩
theorem dl {id:Nat} (fl:List (IX w.heap.size (fun _=>False))) (hm:P.follows .mixedOrders=true) (r:Fr a N s) (hs:(freely L (fun i=>(fact fl i).sh)&&dstsIn N L&&okW L fl)=true)
  (he:cn P L (fact fl) a { w with drawn:=w.drawn+1 } L 0)
  (hl:∀ a' g w',Below w.heap.size w w'->(∀ i,Nat.ble (i+1) L.length=true->(fact fl i).ok g i w'/\w.heap.size<=(g i).lo/\(g i).lo<=(g i).hi/\(g i).hi<=w'.heap.size)->
   (∀ i j,(!(i==j)&&Nat.ble (i+1) L.length&&Nat.ble (j+1) L.length)=true->(g i).hi<=(g j).lo\/(g j).hi<=(g i).lo)->Fr a' N (Kt L (fun j=>(g j).v) 0 s)->Q .normal a' w') :
  (Code.region id L.toArray true).wp P Q a w:=by
 simp only [Bool.and_eq_true] at hs
 refine wB (fact fl) (p5 hs.2) hm rfl (fun _ h=>h.elim) hs.1.1 (oY hs.2) he fun g w' h1 h2 h3 h4 h5 h6 h7=>hl _ g w' ⟨h1,h2,h3,h4,fun b hb=>h5 b hb fun h=>h⟩ (fun i hi=>h6 i (Nat.le_of_ble_eq_true hi)) (fun i j hij=>?_) (r.JK L _ 0 hs.1.2)
 simp only [Bool.and_eq_true,Bool.not_eq_true',beq_eq_false_iff_ne] at hij
 exact h7 i j hij.1.1 (Nat.le_of_ble_eq_true hij.1.2) (Nat.le_of_ble_eq_true hij.2)
theorem oG {id:Nat} (k:Nat) (fl:List (IX w.heap.size (fun _=>False))) (hm:P.follows .mixedOrders=true) (r:Fr a N s) (hs:(drawnOk L k&&shapely (L.take k)&&noGuards (L.take k)&&(freely (L.take k) (fun i=>(fact fl i).sh)&&dstsIn N (L.take k)&&okW (L.take k) fl))=true)
  (he:cn P (L.take k) (fact fl) a { w with drawn:=w.drawn+1 } (L.take k) 0)
  (hl:∀ a' g w',Below w.heap.size w w'->(∀ i,Nat.ble (i+1) (L.take k).length=true->(fact fl i).ok g i w'/\w.heap.size<=(g i).lo/\(g i).lo<=(g i).hi/\(g i).hi<=w'.heap.size)->
   (∀ i j,(!(i==j)&&Nat.ble (i+1) (L.take k).length&&Nat.ble (j+1) (L.take k).length)=true->(g i).hi<=(g j).lo\/(g j).hi<=(g i).lo)->Fr a' N (Kt (L.take k) (fun j=>(g j).v) 0 s)->wpList P L.toArray Q (L.drop k) a' w') :
  (Code.region id L.toArray true).wp P Q a w:=by
 simp only [Bool.and_eq_true] at hs
 obtain ⟨⟨⟨hs1,hs2⟩,hs3⟩,hs⟩:=hs;refine rj hm hs1 hs2 hs3 (ru (fact fl) (p5 hs.2) rfl (fun _ h=>h.elim) hs.1.1 (oY hs.2) he fun g w' h1 h2 h3 h4 h5 h6 h7=>⟨rfl,hl _ g w' ⟨h1,h2,h3,h4,fun b hb=>h5 b hb fun h=>h⟩ (fun i hi=>h6 i (Nat.le_of_ble_eq_true hi)) (fun i j hij=>?_) (r.JK (L.take k) _ 0 hs.1.2)⟩)
 simp only [Bool.and_eq_true,Bool.not_eq_true',beq_eq_false_iff_ne] at hij
 exact h7 i j hij.1.1 (Nat.le_of_ble_eq_true hij.1.2) (Nat.le_of_ble_eq_true hij.2)
end
inductive Lp (X Z:Type) where
 | next (x:X)
 | brk (x:X)
 | ret (z:Z)
def goOn {X Z:Type} (f:X->Option (Lp X Z)):Lp X Z->Option (Lp X Z)
 | .next x=>f x
 | .brk x=>some (.brk x)
 | .ret z=>some (.ret z)
def runLoop {X Z:Type} (body:X->Option (Lp X Z)):Nat->X->Option (Lp X Z)
 | 0,_=>none
 | k+1,x=>(body x).bind (goOn (runLoop body k))
def afterLoop {X Z:Type} (f:X->Option Z):Lp X Z->Option Z
 | .next _=>none
 | .brk x=>f x
 | .ret z=>some z
def loopThen {X Z:Type} (body:X->Option (Lp X Z)) (k:Nat) (x0:X) (f:X->Option Z):Option Z:=(runLoop body k x0).bind (afterLoop f)
theorem aG {X Z:Type} {t:Option X} {f:X->Option Z} {z:Z} (h:t.bind f=some z):∃ x,t=some x/\f x=some z:=by
 cases t with
 | none=>cases h
 | some x=>exact ⟨x,rfl,h⟩
end Go.Proofs.YtbbipmelhmgmfaaGreat

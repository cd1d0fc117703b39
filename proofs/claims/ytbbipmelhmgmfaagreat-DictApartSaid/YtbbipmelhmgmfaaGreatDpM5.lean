/- Some of our texts, one behind the other. -/
import Derived.Test.YtbbipmelhmgmfaaGreatDpM3
import Derived.Laws.Append
import Derived.Laws.CopyRow
import Derived.Laws.MakeOwn
import Derived.ChangeKeysEq
import Derived.Laws.StructEq
set_option linter.all false
set_option maxRecDepth 100000
set_option maxHeartbeats 20000000
/- Ours. -/
namespace Go.Proofs.YtbbipmelhmgmfaaGreat
open Go.RowKit
structure Ck where
 own:List Nat
 ro:List Nat
 ok:World→Prop
 st:∀ w w':World,(∀ b,b∈own∨b∈ro→w'.heap[b]?=w.heap[b]?)→w.heap.size≤w'.heap.size→ok w→ok w'
def Ck.has (c:Ck) (b:Nat):Prop:=b∈c.own∨b∈c.ro
def Ck.clear (c d:Ck):Prop:=∀ b,b∈c.own→¬ d.has b
def Sep:List Ck→World→Prop
 | [],_=>True
 | c::L,w=>c.ok w∧(∀ b,c.has b→b<w.heap.size)∧(∀ d,d∈L→c.clear d∧d.clear c)∧Sep L w
structure Chg (Z:Nat→Prop) (w w':World):Prop where
 os:w'.os=w.os
 tape:w'.tape=w.tape
 output:w'.output=w.output
 size:w.heap.size≤w'.heap.size
 block:∀ b,b<w.heap.size→¬ Z b→w'.heap[b]?=w.heap[b]?
theorem dr {w w':World} {d:Nat} (h:Below w.heap.size { w with drawn:=d } w'):Below w.heap.size w w':=⟨h.os,h.tape,h.output,h.size,h.block⟩
def No:Nat→Prop:=fun _=>False
theorem Chg.below {w w':World} (h:Chg No w w'):Below w.heap.size w w':=⟨h.os,h.tape,h.output,h.size,fun b hb=>h.block b hb fun h=>h⟩
theorem Chg.of_below {w w':World} (h:Below w.heap.size w w'):Chg No w w':=⟨h.os,h.tape,h.output,h.size,fun b hb _=>h.block b hb⟩
theorem Chg.refl (Z:Nat→Prop) (w:World):Chg Z w w:=⟨rfl,rfl,rfl,Nat.le_refl _,fun _ _ _=>rfl⟩
theorem Chg.trans {Z Z':Nat→Prop} {w w' w'':World} (h:Chg Z w w') (h':Chg Z' w' w'') (hz:∀ b,b<w.heap.size→Z' b→Z b):Chg Z w w'':=
 ⟨h'.os.trans h.os,h'.tape.trans h.tape,h'.output.trans h.output,Nat.le_trans h.size h'.size,fun b hb hn=>(h'.block b (ai hb h.size) fun h=>hn (hz b hb h)).trans (h.block b hb hn)⟩
section
variable {L N : List Ck} {c c' : Ck} {w w' w0 : World} {i : Nat} {Z : Nat → Prop}
theorem Sep.ok (h:Sep L w):∀ c,c∈L→c.ok w∧∀ b,c.has b→b<w.heap.size:=by
 induction L with
 | nil=>intro c hc; cases hc
 | cons d L ih=>
  intro c hc
  rcases List.mem_cons.1 hc with rfl | hc
  ·exact ⟨h.1,h.2.1⟩
  ·exact ih h.2.2.2 c hc
theorem Sep.get (h:Sep L w) (hi:L[i]?=some c):c.ok w:=(h.ok c (List.mem_of_getElem? hi)).1
theorem Sep.lt (h:Sep L w) (hi:L[i]?=some c) {b:Nat} (hb:c.has b):b<w.heap.size:=(h.ok c (List.mem_of_getElem? hi)).2 b hb
theorem Sep.clear {j:Nat} {d:Ck} (h:Sep L w) (hi:L[i]?=some c) (hj:L[j]?=some d) (hn:i≠j):c.clear d∧d.clear c:=by
 induction L generalizing i j with
 | nil=>simp at hi
 | cons e L ih=>
  cases i with
  | zero=>
   cases j with
   | zero=>exact absurd rfl hn
   | succ j=>
    simp only [List.getElem?_cons_zero,Option.some.injEq,List.getElem?_cons_succ] at hi hj
    subst hi;exact h.2.2.1 d (List.mem_of_getElem? hj)
  | succ i=>
   cases j with
   | zero=>
    simp only [List.getElem?_cons_zero,Option.some.injEq,List.getElem?_cons_succ] at hi hj
    subst hj;exact (h.2.2.1 c (List.mem_of_getElem? hi)).symm
   | succ j=>
    simp only [List.getElem?_cons_succ] at hi hj
    exact ih h.2.2.2 hi hj kw
theorem Sep.keep (h:Sep L w) (hs:w.heap.size≤w'.heap.size) (hk:∀ c,c∈L→∀ b,c.has b→w'.heap[b]?=w.heap[b]?):Sep L w':=by
 induction L with
 | nil=>trivial
 | cons d L ih=>
  exact ⟨d.st w w' (hk d (List.mem_cons_self ..)) hs h.1,fun b hb=>ai (h.2.1 b hb) hs,h.2.2.1,ih h.2.2.2 fun c hc=>hk c (List.mem_cons_of_mem _ hc)⟩
theorem Sep.below (h:Sep L w) (hb:Below w.heap.size w w'):Sep L w':=h.keep hb.size fun c hc b hbc=>hb.block b ((h.ok c hc).2 b hbc)
theorem Sep.append (h:Sep L w) (h2:Sep N w) (hc:∀ c,c∈L→∀ d,d∈N→c.clear d∧d.clear c):Sep (L++N) w:=by
 induction L with
 | nil=>exact h2
 | cons d L ih=>
  refine ⟨h.1,h.2.1,fun e he=>?_,ih h.2.2.2 fun c hc'=>hc c (List.mem_cons_of_mem _ hc')⟩
  rcases List.mem_append.1 he with he | he
  ·exact h.2.2.1 e he
  ·exact hc d (List.mem_cons_self ..) e he
theorem Sep.sub (h:Sep L w) (hs:List.Sublist N L):Sep N w:=by
 induction hs with
 | slnil=>trivial
 | cons a _ ih=>exact ih h.2.2.2
 | cons_cons a hs ih=>exact ⟨h.1,h.2.1,fun d hd=>h.2.2.1 d (hs.subset hd),ih h.2.2.2⟩
theorem Sep.setN:∀ (L:List Ck) (i:Nat),Sep L w→L[i]?=some c→Sep (c'::N) w'→
  (∀ j d,L[j]?=some d→j≠i→(d.ok w'∧∀ b,d.has b→b<w'.heap.size)∧∀ e,e∈c'::N→e.clear d∧d.clear e)→Sep (L.set i c'++N) w'
 | [],_,_,hi,_,_=>by simp at hi
 | c0::L,0,h,hi,hN,hd=>by
  simp only [List.getElem?_cons_zero,Option.some.injEq] at hi
  subst hi;have hd':∀ d,d∈L→(d.ok w'∧∀ b,d.has b→b<w'.heap.size)∧∀ e,e∈c'::N→e.clear d∧d.clear e:=fun d hm=>by
   obtain ⟨j,hj⟩:=List.mem_iff_getElem?.1 hm;exact hd (j+1) d (by simpa using hj) kw
  refine ⟨hN.1,hN.2.1,fun d hdm=>?_,?_⟩
  ·rcases List.mem_append.1 hdm with hm | hm
   ·exact (hd' d hm).2 c' (List.mem_cons_self ..)
   ·exact hN.2.2.1 d hm
  ·have hL:Sep L w':=by
    have h3:=h.2.2.2;have h4:∀ d,d∈L→d.ok w'∧∀ b,d.has b→b<w'.heap.size:=fun d hm=>(hd' d hm).1
    clear hd hd' hN h
    induction L with
    | nil=>trivial
    | cons e L ih=>exact ⟨(h4 e (List.mem_cons_self ..)).1,(h4 e (List.mem_cons_self ..)).2,h3.2.2.1,ih h3.2.2.2 fun d hm=>h4 d (List.mem_cons_of_mem _ hm)⟩
   exact hL.append hN.2.2.2 fun d hm e he=>((hd' d hm).2 e (List.mem_cons_of_mem _ he)).symm
 | d::L,i+1,h,hi,hN,hd=>by
  simp only [List.getElem?_cons_succ] at hi
  have hg:=hd 0 d rfl kw
  refine ⟨hg.1.1,hg.1.2,fun e he=>?_,Sep.setN L i h.2.2.2 hi hN fun j e hj hn=>hd (j+1) e (by simpa using hj) kw⟩
  rcases List.mem_append.1 he with he | he
  ·rcases List.mem_or_eq_of_mem_set he with he | rfl
   ·exact h.2.2.1 e he
   ·exact (hg.2 _ (List.mem_cons_self ..)).symm
  ·exact (hg.2 e (List.mem_cons_of_mem _ he)).symm
structure Post (Z:Nat→Prop) (L:List Ck) (w0 w:World):Prop where
 sep:Sep L w
 chg:Chg Z w0 w
 mine:∀ c,c∈L→∀ b,b∈c.own→Z b∨w0.heap.size≤b
structure Done (Z Y:Nat→Prop) (L:List Ck) (w0 w:World):Prop extends Post Z L w0 w where
 rest:∀ c,c∈L→∀ b,b∈c.ro→Y b∨w0.heap.size≤b
theorem Post.start (h:Sep L w0) (hz:∀ c,c∈L→∀ b,b∈c.own→Z b):Post Z L w0 w0:=⟨h,Chg.refl _ _,fun c hc b hb=>.inl (hz c hc b hb)⟩
theorem Post.below (h:Post Z L w0 w) (hb:Below w.heap.size w w'):Post Z L w0 w':=⟨h.sep.below hb,h.chg.trans (Chg.of_below hb) (fun _ _ h=>h.elim),h.mine⟩
theorem Post.done {Y:Nat→Prop} (h:Post Z L w0 w) (hr:∀ c,c∈L→∀ b,b∈c.ro→Y b∨w0.heap.size≤b):Done Z Y L w0 w:=⟨h,hr⟩
theorem Post.size (h:Post Z L w0 w):w0.heap.size≤w.heap.size:=h.chg.size
theorem Post.add (h:Post Z L w0 w) (h2:Done No No N w w'):Post Z (L++N) w0 w':=by
 have hb:=h2.chg.below;have hnew:∀ d,d∈N→∀ b,d.has b→w.heap.size≤b:=fun d hd b hb=>hb.elim (fun h=>(h2.mine d hd b h).resolve_left fun h=>h) (fun h=>(h2.rest d hd b h).resolve_left fun h=>h)
 refine ⟨(h.sep.below hb).append h2.sep fun c hc d hd=>⟨fun b h3 h4=>?_,fun b h3 h4=>?_⟩,h.chg.trans h2.chg (fun _ _ h=>h.elim),fun c hc b hb=>?_⟩
 ·have:=(h.sep.ok c hc).2 b (.inl h3); have:=hnew d hd b h4; omega
 ·have:=(h.sep.ok c hc).2 b h4; have:=hnew d hd b (.inl h3); omega
 ·rcases List.mem_append.1 hc with hc | hc
  ·exact h.mine c hc b hb
  ·exact .inr (Nat.le_trans h.size (hnew c hc b (.inl hb)))
theorem Post.setY {Y:Nat→Prop} (h:Post Z L w0 w) (hi:L[i]?=some c) (hY:∀ b,Y b→b∈c.ro∨∃ (k:Nat) (e:Ck),L[k]?=some e∧e.own=[]∧b∈e.ro) (h2:Done (fun b=>b∈c.own) Y (c'::N) w w'):Post Z (L.set i c'++N) w0 w':=by
 refine ⟨Sep.setN L i h.sep hi h2.sep fun j d hj hn=>?_,h.chg.trans h2.chg (fun b hb hc=>(h.mine c (List.mem_of_getElem? hi) b hc).resolve_right kw),fun e he b hb=>?_⟩
 ·obtain ⟨h3,h4⟩:=h.sep.clear hi hj (Ne.symm hn)
  have h5:=fun b hb=>h.sep.lt hj (b:=b) hb
  refine ⟨⟨d.st w w' (fun b hb=>h2.chg.block b (h5 b hb) fun hc=>h3 b hc hb) h2.chg.size (h.sep.get hj),fun b hb=>ai (h5 b hb) h2.chg.size⟩,fun e he=>⟨fun b h7 h8=>?_,fun b h7 h8=>?_⟩⟩
  ·rcases h2.mine e he b h7 with h9 | h9
   ·exact h3 b h9 h8
   ·have:=h5 b h8; omega
  ·rcases h8 with h8 | h8
   ·rcases h2.mine e he b h8 with h9 | h9
    ·exact h4 b h7 (.inl h9)
    ·have:=h5 b (.inl h7); omega
   ·rcases h2.rest e he b h8 with h9 | h9
    ·rcases hY b h9 with h9 | ⟨k,e',hk,ho,h9⟩
     ·exact h4 b h7 (.inr h9)
     ·by_cases hjk:j=k
      ·subst hjk
       rw [hj] at hk
       obtain rfl:=Option.some.inj hk;rw [ho] at h7; cases h7
      ·exact (h.sep.clear hj hk hjk).1 b h7 (.inr h9)
    ·have:=h5 b (.inl h7); omega
 ·have hmine:∀ e,e∈c'::N→b∈e.own→Z b∨w0.heap.size≤b:=fun e he hb=>by
   rcases h2.mine e he b hb with h9 | h9
   ·exact h.mine c (List.mem_of_getElem? hi) b h9
   ·exact .inr (Nat.le_trans h.size h9)
  rcases List.mem_append.1 he with he | he
  ·rcases List.mem_or_eq_of_mem_set he with he | rfl
   ·exact h.mine e he b hb
   ·exact hmine _ (List.mem_cons_self ..) hb
  ·exact hmine e (List.mem_cons_of_mem _ he) hb
theorem Post.set (h:Post Z L w0 w) (hi:L[i]?=some c) (h2:Done (fun b=>b∈c.own) (fun b=>b∈c.ro) (c'::N) w w'):Post Z (L.set i c'++N) w0 w':=h.setY hi (fun _ hb=>.inl hb) h2
theorem Done.weak {Y Y':Nat→Prop} (h:Done Z Y L w0 w) (hY:∀ b,Y b→Y' b):Done Z Y' L w0 w:=⟨h.toPost,fun c hc b hb=>(h.rest c hc b hb).imp (hY b) id⟩
theorem Post.setN (h:Post Z L w0 w) (hi:L[i]?=some c) (h2:Done (fun b=>b∈c.own) No (c'::N) w w'):Post Z (L.set i c'++N) w0 w':=h.set hi (h2.weak fun _ h=>h.elim)
theorem Post.setR {k:Nat} {e:Ck} (h:Post Z L w0 w) (hi:L[i]?=some c) (hk:L[k]?=some e) (ho:e.own=[]) (h2:Done (fun b=>b∈c.own) (fun b=>b∈e.ro) (c'::N) w w'):Post Z (L.set i c'++N) w0 w':=
 h.setY hi (fun _ hb=>.inr ⟨k,e,hk,ho,hb⟩) h2
/-! ### Cells -/
def zpi (b:Nat) (c:Array Value) (T:TypeId):Ck:=⟨[b],[],fun w=>w.heap[b]?=some (.cells c T (0,0)),fun _ _ h _ hw=>(h b (.inl (List.mem_cons_self ..))).trans hw⟩
theorem Post.cell {b:Nat} {a:Array Value} {T:TypeId} (h:Post Z L w0 w) (hi:L[i]?=some (zpi b a T)):w.heap[b]?=some (.cells a T (0,0)):=h.sep.get hi
theorem zrO {b:Nat} {a:Array Value} {T:TypeId} {Y:Nat→Prop} {q:Nat}:∀ c,c∈[zpi b a T]→∀ b,b∈c.ro→Y b∨q≤b:=fun c hc b hb=>by
 rcases List.mem_singleton.1 hc with rfl
 cases hb
theorem zkT {b:Nat} {a:Array Value} {T:TypeId} (h:w.heap[b]?=some (.cells a T (0,0))):Sep [zpi b a T] w:=
 ⟨h,(fun b' hb=>by rcases hb with hb | hb; (rcases List.mem_singleton.1 hb with rfl; exact ah h); (cases hb)),(fun _ h=>by cases h),trivial⟩
theorem Post.new {b:Nat} {a:Array Value} {T:TypeId} (h:Post Z L w0 w) (hn:New w w' b (.cells a T (0,0))):Post Z (L++[zpi b a T]) w0 w':=
 h.add ⟨⟨zkT hn.at_,Chg.of_below hn.below,fun c hc b' hb=>by rcases List.mem_singleton.1 hc with rfl; rcases List.mem_singleton.1 hb with rfl; exact .inr (Nat.le_of_eq hn.eq.symm)⟩,zrO⟩
theorem Post.upd {b:Nat} {a a':Array Value} {T T':TypeId} (h:Post Z L w0 w) (hi:L[i]?=some (zpi b a T)) (hu:Upd w w' b (.cells a' T' (0,0))):Post Z (L.set i (zpi b a' T')) w0 w':=by
 have:=h.set (N:=[]) hi (c':=zpi b a' T') ⟨⟨zkT hu.at_,⟨hu.os,hu.tape,hu.output,Nat.le_of_eq hu.size.symm,fun k _ hk=>hu.other k fun e=>hk (e ▸ List.mem_singleton.2 rfl)⟩,fun c hc b' hb=>by rcases List.mem_singleton.1 hc with rfl; exact .inl hb⟩,zrO⟩
 rwa [List.append_nil] at this
def distinctN:List Nat→Bool
 | []=>true
 | i::l=>(l.all fun j=>!(i==j))&&distinctN l
theorem Sep.pick (h:Sep L w):∀ (is:List Nat) (N:List Ck),distinctN is=true→is.map (fun i=>L[i]?)=N.map some→Sep N w
 | [],[],_,_=>trivial
 | [],_::_,_,h=>by simp at h
 | _::_,[],_,h=>by simp at h
 | i::is,c::N,hd,hm=>by
  simp only [List.map_cons,List.cons.injEq] at hm
  simp only [distinctN,Bool.and_eq_true] at hd
  refine ⟨h.get hm.1,fun b hb=>h.lt hm.1 hb,fun d hdm=>?_,Sep.pick h is N hd.2 hm.2⟩
  obtain ⟨j,hj⟩:=List.mem_iff_getElem?.1 hdm;have h2:(is.map fun i=>L[i]?)[j]?=(N.map some)[j]?:=by rw [hm.2]
  rw [List.getElem?_map,List.getElem?_map,hj] at h2
  cases hk:is[j]? with
  | none=>rw [hk] at h2; simp at h2
  | some k=>
   rw [hk] at h2
   simp only [Option.map_some,Option.some.injEq] at h2
   have hn:=List.all_eq_true.1 hd.1 k (List.mem_of_getElem? hk);exact h.clear hm.1 h2 (by simpa using hn)
theorem Sep.pk (h:Sep L w) (is:List Nat) (hd:distinctN is=true) (hm:is.map (fun i=>L[i]?)=N.map some):Sep N w:=h.pick is N hd hm
theorem Post.pick (h:Post Z L w0 w) (is:List Nat) (hd:distinctN is=true) (hm:is.map (fun i=>L[i]?)=N.map some):Post Z N w0 w:=by
 refine ⟨h.sep.pick is N hd hm,h.chg,fun c hc b hb=>?_⟩
 obtain ⟨j,hj⟩:=List.mem_iff_getElem?.1 hc;have h2:(is.map fun i=>L[i]?)[j]?=(N.map some)[j]?:=by rw [hm]
 rw [List.getElem?_map,List.getElem?_map,hj] at h2
 cases hk:is[j]? with
 | none=>rw [hk] at h2; simp at h2
 | some k=>
  rw [hk] at h2
  simp only [Option.map_some,Option.some.injEq] at h2
  exact h.mine c (List.mem_of_getElem? h2) b hb
theorem zc1 {Y:Nat→Prop} {q:Nat}:∀ c,c∈([]:List Ck)→∀ b,b∈c.ro→Y b∨q≤b:=fun c hc=>by cases hc
theorem zbo {Y:Nat→Prop} {q:Nat} (h:c.ro=[]) (ht:∀ c,c∈L→∀ b,b∈c.ro→Y b∨q≤b):∀ d,d∈c::L→∀ b,b∈d.ro→Y b∨q≤b:=fun d hd b hb=>by
 rcases List.mem_cons.1 hd with rfl | hd
 ·rw [h] at hb; cases hb
 ·exact ht d hd b hb
theorem ziH {Y:Nat→Prop} {q:Nat} (h:∀ b,b∈c.ro→Y b∨q≤b) (ht:∀ c,c∈L→∀ b,b∈c.ro→Y b∨q≤b):∀ d,d∈c::L→∀ b,b∈d.ro→Y b∨q≤b:=fun d hd b hb=>by
 rcases List.mem_cons.1 hd with rfl | hd
 ·exact h b hb
 ·exact ht d hd b hb
theorem Post.nil (w:World):Post No [] w w:=.start trivial fun _ h=>by cases h
theorem zcM:∀ d,d∈([]:List Ck)→d.own=[]:=fun _ h=>by cases h
theorem zll (h:c.own=[]) (ht:∀ d,d∈L→d.own=[]):∀ d,d∈c::L→d.own=[]:=fun d hd=>by
 rcases List.mem_cons.1 hd with rfl | hd
 ·exact h
 ·exact ht d hd
theorem Post.addRo (h:Post Z L w0 w) (hn:∀ d,d∈L→d.own=[]) (hc:c.ok w) (ho:c.own=[]) (hl:∀ b,b∈c.ro→b<w.heap.size):Post Z (L++[c]) w0 w:=by
 refine ⟨h.sep.append ⟨hc,fun b hb=>hb.elim (fun h=>by rw [ho] at h; cases h) (hl b),(fun _ h=>by cases h),trivial⟩ fun d hd e he=>?_,h.chg,fun d hd b hb=>?_⟩
 ·rcases List.mem_singleton.1 he with rfl
  exact ⟨(fun b hb=>by rw [hn d hd] at hb; cases hb),(fun b hb=>by rw [ho] at hb; cases hb)⟩
 ·rcases List.mem_append.1 hd with hd | hd
  ·exact h.mine d hd b hb
  ·rcases List.mem_singleton.1 hd with rfl
   rw [ho] at hb; cases hb
end
/-! ### What a region makes -/
section
variable {L N : List Ck} {c c' : Ck} {w w' w0 : World} {i : Nat} {Z : Nat → Prop}
def Fresh (N:List Ck) (lo hi:Nat) (w:World):Prop:=Sep N w∧∀ c,c∈N→∀ b,c.has b→lo≤b∧b<hi
def FreshL (B:Nat) (w:World):List (List Ck × Nat × Nat)→Prop
 | []=>True
 | q::l=>Fresh q.1 q.2.1 q.2.2 w∧B≤q.2.1∧(∀ p,p∈l→q.2.2≤p.2.1∨p.2.2≤q.2.1)∧FreshL B w l
theorem FreshL.at_ {B:Nat}:∀ {l:List (List Ck × Nat × Nat)},FreshL B w l→∀ q,q∈l→Fresh q.1 q.2.1 q.2.2 w∧B≤q.2.1
 | [],_,_,h=>by cases h
 | p::l,h,q,hq=>by
  rcases List.mem_cons.1 hq with rfl | hq
  ·exact ⟨h.1,h.2.1⟩
  ·exact FreshL.at_ h.2.2.2 q hq
theorem FreshL.sep {B:Nat}:∀ {l:List (List Ck × Nat × Nat)},FreshL B w l→Sep (l.flatMap fun q=>q.1) w
 | [],_=>trivial
 | q::l,h=>by
  refine (h.1.1).append (FreshL.sep h.2.2.2) fun c hc d hd=>?_;obtain ⟨p,hp,hdp⟩:=List.mem_flatMap.1 hd
  have h1:=h.1.2 c hc;have h2:=(FreshL.at_ h.2.2.2 p hp).1.2 d hdp;have h3:=h.2.2.1 p hp;exact ⟨fun b hb hb'=>by have:=h1 b (.inl hb); have:=h2 b hb'; omega,fun b hb hb'=>by have:=h2 b (.inl hb); have:=h1 b hb'; omega⟩
theorem FreshL.done {l:List (List Ck × Nat × Nat)} (hb:Below w.heap.size w w') (h:FreshL w.heap.size w' l):Done No No (l.flatMap fun q=>q.1) w w':=by
 have hn:∀ c,c∈(l.flatMap fun q=>q.1)→∀ b,c.has b→w.heap.size≤b:=fun c hc b hb=>by
  obtain ⟨p,hp,hdp⟩:=List.mem_flatMap.1 hc;have h2:=h.at_ p hp;have:=h2.1.2 c hdp b hb;omega
 exact ⟨⟨h.sep,Chg.of_below hb,fun c hc b hb=>.inr (hn c hc b (.inl hb))⟩,fun c hc b hb=>.inr (hn c hc b (.inr hb))⟩
theorem Post.addL {l:List (List Ck × Nat × Nat)} (h:Post Z L w0 w) (hb:Below w.heap.size w w') (hf:FreshL w.heap.size w' l):Post Z (L++l.flatMap fun q=>q.1) w0 w':=h.add (hf.done hb)
theorem zeM {lo hi:Nat}:∀ p,p∈([]:List (List Ck × Nat × Nat))→hi≤p.2.1∨p.2.2≤lo:=fun _ h=>by cases h
theorem zlk {lo hi:Nat} {q:List Ck × Nat × Nat} {l:List (List Ck × Nat × Nat)} (h:hi≤q.2.1∨q.2.2≤lo) (ht:∀ p,p∈l→hi≤p.2.1∨p.2.2≤lo):∀ p,p∈q::l→hi≤p.2.1∨p.2.2≤lo:=fun p hp=>by
 rcases List.mem_cons.1 hp with rfl | hp
 ·exact h
 ·exact ht p hp
theorem Fresh.cell {b hi:Nat} {a:Array Value} {T:TypeId} (hl:b<hi) (h:w.heap[b]?=some (.cells a T (0,0))):Fresh [zpi b a T] b hi w:=
 ⟨zkT h,fun c hc b' hb=>by
  rcases List.mem_singleton.1 hc with rfl
  rcases hb with hb | hb
  ·rcases List.mem_singleton.1 hb with rfl; omega
  ·cases hb⟩
def MkP {G:Type} (val:G→Value) (N:G→List Ck):Value→Nat→Nat→World→Prop:=fun v lo hi w=>∃ y,v=val y∧Fresh (N y) lo hi w
theorem MkP.st {G:Type} (val:G→Value) (N:G→List Ck) {B:Nat} {S:Nat→Prop}:∀ v lo hi w1 w2,MkP val N v lo hi w1→Kept B S lo hi w1 w2→MkP val N v lo hi w2:=by
 rintro v lo hi w1 w2 ⟨y,hv,hs,hb⟩ ⟨_,_,_,hz,hk⟩;exact ⟨y,hv,hs.keep hz fun c hc b hcb=>hk b (.inr (hb c hc b hcb)),hb⟩
theorem MkP.of {G:Type} {val:G→Value} {N:G→List Ck} (y:G) (h:Done No No (N y) w w'):MkP val N (val y) w.heap.size w'.heap.size w':=
 ⟨y,rfl,h.sep,fun c hc b hb=>⟨hb.elim (fun h'=>(h.mine c hc b h').resolve_left fun h=>h) (fun h'=>(h.rest c hc b h').resolve_left fun h=>h),(h.sep.ok c hc).2 b hb⟩⟩
end
/-! ### A region with one operation that changes a chunk -/
section
theorem Upd.kept {w w':World} {b:Nat} {o:Obj} (h:Upd w w' b o):Kept w.heap.size (fun k=>k∈[b]) 0 0 w w':=
 ⟨h.os,h.tape,h.output,Nat.le_of_eq h.size.symm,fun k hk=>h.other k (by rcases hk with hk | hk; (exact fun e=>hk.2 (List.mem_singleton.2 e)); omega)⟩
theorem zlm {lo hi:Nat} {w:World}:Fresh [] lo hi w:=⟨trivial,fun _ h=>by cases h⟩
variable {L : List Ck} {c c' d : Ck} {w w' w0 : World} {i j : Nat} {Z : Nat → Prop}
theorem drK {S:Nat→Prop} {n:Nat} (h:Chg S { w with drawn:=n } w'):Chg S w w':=⟨h.os,h.tape,h.output,h.size,h.block⟩
theorem Post.okK (h:Post Z L w0 w) (hj:L[j]?=some c) (hk:Chg (fun b=>b∈c.own) w w') (hi:L[i]?=some d) (hne:(j==i)=false):d.ok w':=by
 have hcl:=h.sep.clear hj hi (by simpa using hne)
 exact d.st w w' (fun b hb=>hk.block b (h.sep.lt hi hb) fun hc=>hcl.1 b hc hb) hk.size (h.sep.get hi)
theorem Post.cellK {b:Nat} {a:Array Value} {T:TypeId} (h:Post Z L w0 w) (hj:L[j]?=some c) (hk:Chg (fun b=>b∈c.own) w w') (hi:L[i]?=some (zpi b a T)) (hne:(j==i)=false):w'.heap[b]?=some (.cells a T (0,0)):=h.okK hj hk hi hne
theorem Post.effL {l:List (List Ck × Nat × Nat)} (h:Post Z L w0 w) (hi:L[i]?=some c) (hk:Chg (fun b=>b∈c.own) w w') (hc:c'.ok w') (ho:c'.own=c.own) (hr:c'.ro=c.ro) (hf:FreshL w.heap.size w' l) :
  Post Z (L.set i c'++l.flatMap fun q=>q.1) w0 w':=by
 have hn:∀ d,d∈(l.flatMap fun q=>q.1)→∀ b,d.has b→w.heap.size≤b:=fun d hd b hb=>by
  obtain ⟨p,hp,hdp⟩:=List.mem_flatMap.1 hd;have h2:=hf.at_ p hp;have:=h2.1.2 d hdp b hb;omega
 have hlt:∀ b,c'.has b→b<w.heap.size:=fun b hb=>h.sep.lt hi (by rcases hb with hb | hb; exact .inl (ho ▸ hb); exact .inr (hr ▸ hb))
 refine h.set hi ⟨⟨⟨hc,fun b hb=>ai (hlt b hb) hk.size,fun d hd=>⟨fun b hb hb'=>?_,fun b hb hb'=>?_⟩,hf.sep⟩,hk,fun d hd b hb=>?_⟩,fun d hd b hb=>?_⟩
 ·have:=hlt b (.inl hb); have:=hn d hd b hb'; omega
 ·have:=hlt b hb'; have:=hn d hd b (.inl hb); omega
 ·rcases List.mem_cons.1 hd with rfl | hd
  ·exact .inl (ho ▸ hb)
  ·exact .inr (hn d hd b (.inl hb))
 ·rcases List.mem_cons.1 hd with rfl | hd
  ·exact .inl (hr ▸ hb)
  ·exact .inr (hn d hd b (.inr hb))
def EffP {G:Type} (B:Nat) (c':Ck) (val:G→Value) (N:G→List Ck):Value→Nat→Nat→World→Prop:=fun v lo hi w=>∃ y,v=val y∧c'.ok w∧(∀ b,c'.has b→b<B)∧Fresh (N y) lo hi w
theorem EffP.st {G:Type} (B:Nat) (c':Ck) (val:G→Value) (N:G→List Ck):∀ v lo hi w1 w2,EffP B c' val N v lo hi w1→Kept B (fun _=>False) lo hi w1 w2→EffP B c' val N v lo hi w2:=by
 rintro v lo hi w1 w2 ⟨y,hv,hc,hb,hs,hn⟩ ⟨_,_,_,hz,hk⟩;exact ⟨y,hv,c'.st _ _ (fun b h=>hk b (.inl ⟨hb b h,fun h=>h⟩)) hz hc,hb,hs.keep hz fun c hc b hcb=>hk b (.inr (hn c hc b hcb)),hn⟩
theorem EffP.val {B:Nat} {v0:Value} {N:Unit→List Ck} {v:Value} {lo hi:Nat} {w:World} (h:EffP B c' (fun _:Unit=>v0) N v lo hi w):v=v0:=h.choose_spec.1
theorem EffP.of {G:Type} {B:Nat} {val:G→Value} {N:G→List Ck} (y:G) (h:Done (fun b=>b∈c.own) No (c'::N y) w w') (ho:c'.own=c.own) (hlt:∀ b,c'.has b→b<B) :
  EffP B c' val N (val y) w.heap.size w'.heap.size w':=by
 refine ⟨y,rfl,h.sep.1,hlt,h.sep.2.2.2,fun d hd b hb=>⟨?_,(h.sep.2.2.2.ok d hd).2 b hb⟩⟩
 have hcl:=h.sep.2.2.1 d hd
 rcases hb with hb | hb
 ·rcases h.mine d (List.mem_cons_of_mem _ hd) b hb with h1 | h1
  ·exact absurd (.inl (ho ▸ h1)) (hcl.2 b hb)
  ·exact h1
 ·exact (h.rest d (List.mem_cons_of_mem _ hd) b hb).resolve_left fun h=>h
end
section
variable {P : Program} {Q : Exit → Act → World → Prop} {L : List Oper} {a : Act} {w : World} {N : Nat} {s : SL} {bs : List Nat}
theorem zbe {fs:Nat→Fact w.heap.size (fun b=>b∈bs)} {o:Oper} {l:List Oper} {i:Nat} (r:Fr a N s) (hd:(o.guard.isNone&&dstsIn N L)=true) (he:early L (fun i=>(fs i).sh) i=true)
  (h:∀ a' g w',Below w.heap.size w w'→(∀ j,zpR o j=true→(fs j).ok g j w'∧w.heap.size≤(g j).lo∧(g j).hi≤w'.heap.size∧∀ q,zpR o q=true→q≠j→(g j).hi≤(g q).lo∨(g q).hi≤(g j).lo)→Fr a' N (putsS L (fun j=>(g j).v) 0 s)→
   Yields P o a' w' fun v w''=>(fs i).mk g v w' w'') (h2:EachF P L fs a w l (i+1)):EachF P L fs a w (o::l) i:=by
 simp only [Bool.and_eq_true] at hd
 exact ⟨fun g w' h1 h3 h4 h5 h6 h7=>.plain hd.1 (h _ g w' ⟨h1,h3,h4,h5,fun b hb=>h6 b hb (.inr he)⟩ h7 (r.puts L _ 0 hd.2)),h2⟩
theorem zaK {fs:Nat→Fact w.heap.size (fun b=>b∈bs)} {o:Oper} {l:List Oper} {i:Nat} (r:Fr a N s) (hd:(o.guard.isNone&&dstsIn N L)=true)
  (h:∀ a' g w',Chg (fun b=>b∈bs) w w'→(∀ j,zpR o j=true→(fs j).ok g j w'∧w.heap.size≤(g j).lo∧(g j).hi≤w'.heap.size∧∀ q,zpR o q=true→q≠j→(g j).hi≤(g q).lo∨(g q).hi≤(g j).lo)→Fr a' N (putsS L (fun j=>(g j).v) 0 s)→
   Yields P o a' w' fun v w''=>(fs i).mk g v w' w'') (h2:EachF P L fs a w l (i+1)):EachF P L fs a w (o::l) i:=by
 simp only [Bool.and_eq_true] at hd
 exact ⟨fun g w' h1 h3 h4 h5 h6 h7=>.plain hd.1 (h _ g w' ⟨h1,h3,h4,h5,fun b hb hn=>h6 b hb (.inl hn)⟩ h7 (r.puts L _ 0 hd.2)),h2⟩
theorem zjr {id:Nat} (bs:List Nat) (fl:List (Fact w.heap.size (fun b=>b∈bs))) (hm:P.follows .mixedOrders=true) (r:Fr a N s) (hS:∀ b,b∈bs→b<w.heap.size) (hs:(freely L (fun i=>(fact fl i).sh)&&dstsIn N L&&okW L fl)=true)
  (he:EachF P L (fact fl) a { w with drawn:=w.drawn+1 } L 0)
  (hl:∀ a' g w',Chg (fun b=>b∈bs) w w'→(∀ i,Nat.ble (i+1) L.length=true→(fact fl i).ok g i w'∧w.heap.size≤(g i).lo∧(g i).lo≤(g i).hi∧(g i).hi≤w'.heap.size)→
   (∀ i j,(!(i==j)&&Nat.ble (i+1) L.length&&Nat.ble (j+1) L.length)=true→(g i).hi≤(g j).lo∨(g j).hi≤(g i).lo)→Fr a' N (putsS L (fun j=>(g j).v) 0 s)→Q .normal a' w') :
  (Code.region id L.toArray true).wp P Q a w:=by
 simp only [Bool.and_eq_true] at hs
 refine zmX (fact fl) (zmk hs.2) hm rfl hS hs.1.1 (zm9 hs.2) he fun g w' h1 h2 h3 h4 h5 h6 h7=>hl _ g w' ⟨h1,h2,h3,h4,fun b hb hn=>h5 b hb hn⟩ (fun i hi=>h6 i (Nat.le_of_ble_eq_true hi)) (fun i j hij=>?_) (r.puts L _ 0 hs.1.2)
 simp only [Bool.and_eq_true,Bool.not_eq_true',beq_eq_false_iff_ne] at hij
 exact h7 i j hij.1.1 (Nat.le_of_ble_eq_true hij.1.2) (Nat.le_of_ble_eq_true hij.2)
end
/-! ### Loops and joins with things that aren't told -/
section
variable {P : Program} {Q : Exit → Act → World → Prop} {c : Code} {a : Act} {w : World} {N : Nat} {s : SL} {X Y Z G : Type}
def RoundPostG (Q:Exit→Act→World→Prop) (id N:Nat) (S:X→G→List (Nat × Value)) (I:X→G→World→Prop) (z:Z) (y:Lp X Z):Exit→Act→World→Prop
 | .normal,a,w=>∃ x' γ' s',y=.next x'∧Fr a N s'∧(∀ q,q∈S x' γ'→look s' q.1=q.2)∧I x' γ' w
 | .exit id',a,w=>id'=id∧∃ x' γ' s',y=.brk x'∧Fr a N s'∧(∀ q,q∈S x' γ'→look s' q.1=q.2)∧I x' γ' w
 | .ret,a,w=>∃ z',y=.ret z'∧(z'=z→Q .ret a w)
 | _,_,_=>False
theorem zdZ {id:Nat} {body:X→Option (Lp X Z)} {f:X→Option Z} {z:Z} {k:Nat} {x0:X} (S:X→G→List (Nat × Value)) (I:X→G→World→Prop) (γ0:G) (r:Fr a N s) (hs:∀ q,q∈S x0 γ0→look s q.1=q.2) (h0:I x0 γ0 w)
  (hD:loopThen body k x0 f=some z)
  (round:∀ x γ a w g y (RP:Exit→Act→World→Prop),
   (∀ x' γ' s' a' w',some (Lp.next x')=some y→Fr a' N s'→(∀ q,q∈S x' γ'→look s' q.1=q.2)→I x' γ' w'→RP .normal a' w')→
   (∀ x' γ' s' a' w',some (Lp.brk x')=some y→Fr a' N s'→(∀ q,q∈S x' γ'→look s' q.1=q.2)→I x' γ' w'→RP (.exit id) a' w')→
   (∀ z' a' w',some (Lp.ret z')=some y→(some z'=some z→Q .ret a' w')→RP .ret a' w')→
   Fr a N (pushes (S x γ) (.base g))→I x γ w→body x=some y→c.wp P RP a w)
  (rest:∀ x γ a w g,Fr a N (pushes (S x γ) (.base g))→I x γ w→f x=some z→Q .normal a w):(Code.block id (.loop c)).wp P Q a w:=by
 obtain ⟨q,hL,hq⟩:=zaj hD;refine wp_block ?_;refine zkR (X:=(X × G) × Nat) (fun x=>S x.1.1 x.1.2) (fun x w=>I x.1.1 x.1.2 w∧runLoop body x.2 x.1.1=some q) (fun x=>x.2) ((x0,γ0),k) r hs ⟨h0,hL⟩ ?_;rintro ⟨⟨x,γ⟩,m⟩ a w g hr ⟨hi,hm⟩
 cases m with
 | zero=>cases hm
 | succ m=>
  obtain ⟨y,hy,hgo⟩:=zaj hm;refine Code.wp_mono ?_ (round x γ a w g y (RoundPostG Q id N S I z y) (fun x' γ' s' a' w' h r hs hi=>⟨x',γ',s',(Option.some.inj h).symm,r,hs,hi⟩) (fun x' γ' s' a' w' h r hs hi=>⟨rfl,x',γ',s',(Option.some.inj h).symm,r,hs,hi⟩)
   (fun z' a' w' h hq=>⟨z',(Option.some.inj h).symm,fun h=>hq (congrArg some h)⟩) hr hi hy)
  intro e a' w' h;cases e with
  | normal=>
   obtain ⟨x',γ',s',rfl,h2,h3,h4⟩:=h;exact ⟨((x',γ'),m),s',h2,h3,⟨h4,hgo⟩,Nat.lt_succ_self m⟩
  | exit id'=>
   obtain ⟨rfl,x',γ',s',rfl,h2,h3,h4⟩:=h;have hqe:q=.brk x':=(Option.some.inj hgo).symm;subst hqe;show Exit.inBlock id' Q (.exit id') a' w'
   simp only [Exit.inBlock,if_true]
   exact rest x' γ' a' w' _ (h2.forget _ h3) h4 hq
  | ret=>
   obtain ⟨z',rfl,h2⟩:=h;have hqe:q=.ret z':=(Option.some.inj hgo).symm;subst hqe;exact h2 (Option.some.inj hq)
  | _=>exact h.elim
theorem zbs {f:Y→Option Z} {t:Option Y} {z:Z} (S:Y→G→List (Nat × Value)) (I:Y→G→World→Prop) (hD:t.bind f=some z)
  (body:∀ y (RP:Exit→Act→World→Prop),(∀ y' γ s' a' w',some y'=some y→Fr a' N s'→(∀ q,q∈S y' γ→look s' q.1=q.2)→I y' γ w'→RP .normal a' w')→t=some y→c.wp P RP a w)
  (rest:∀ y γ a w g,Fr a N (pushes (S y γ) (.base g))→I y γ w→f y=some z→Q .normal a w):c.wp P Q a w:=by
 obtain ⟨y,hy,hf⟩:=zaj hD;refine Code.wp_mono ?_ (body y (fun e a' w'=>e=.normal∧∃ γ s',Fr a' N s'∧(∀ q,q∈S y γ→look s' q.1=q.2)∧I y γ w') (fun y' γ s' a' w' h r hs hi=>by
  obtain rfl:y'=y:=Option.some.inj h;exact ⟨rfl,γ,s',r,hs,hi⟩) hy)
 rintro e a' w' ⟨rfl,γ,s',h2,h3,h4⟩;exact rest y γ a' w' _ (h2.forget _ h3) h4 hf
end
def rowBs:Value→List Nat
 | .slice (some a) _ (_+1)=>[a.block]
 | _=>[]
theorem zgL {a:Addr} {n c b:Nat} (h:b∈rowBs (.slice (some a) n c)):b=a.block:=by
 cases c with
 | zero=>cases h
 | succ c=>exact List.mem_singleton.1 h
theorem zjq {a:Addr} {n c:Nat} (h:0<c):a.block∈rowBs (.slice (some a) n c):=by
 cases c with
 | zero=>cases h
 | succ c=>exact List.mem_singleton.2 rfl
theorem zmK {ad:Option Addr} {n:Nat}:rowBs (.slice ad n 0)=[]:=by cases ad <;> rfl
def rowB:Value→Nat
 | .slice (some a) _ _=>a.block
 | _=>0
def rowO:Value→Nat
 | .slice (some a) _ _=>a.off
 | _=>0
def RowAt {α:Type} (T:TypeId) (sz:Nat) (f:α→List Value) (v:Value) (xs:List α) (w:World):Prop:=
 (∃ ad,v=.slice ad 0 0∧xs=[])∨∃ g o cap cur,v=.slice (some ⟨g,o,none⟩) xs.length cap∧xs.length≤cap∧w.heap[g]?=some (.cells cur T (0,0))∧o+cap * sz≤cur.size∧(cur.toList.drop o).take (xs.length * sz)=xs.flatMap f∧0<cap
section
variable {α : Type} {P : Program} {T : TypeId} {sz : Nat} {f : α → List Value} {v : Value} {xs ys : List α} {w w' : World}
theorem RowAt.st (h:∀ b,b∈rowBs v→w'.heap[b]?=w.heap[b]?) (hr:RowAt T sz f v xs w):RowAt T sz f v xs w':=by
 rcases hr with hr | ⟨g,o,cap,cur,rfl,h2,h3,h4⟩
 ·exact .inl hr
 ·exact .inr ⟨g,o,cap,cur,rfl,h2,(h g (zjq h4.2.2)).trans h3,h4⟩
theorem RowAt.lt (hr:RowAt T sz f v xs w):∀ b,b∈rowBs v→b<w.heap.size:=by
 rcases hr with ⟨ad,rfl,_⟩ | ⟨g,o,cap,cur,rfl,h2,h3,h4⟩
 ·intro b hb; rw [zmK] at hb; cases hb
 ·intro b hb
  rcases zgL hb with rfl
  exact ah h3
def RoAt {α:Type} (_T:TypeId) (sz:Nat) (f:α→List Value) (v:Value) (xs:List α) (w:World):Prop:=
 (∃ ad cap,v=.slice ad 0 cap∧xs=[])∨∃ g o cap cur E fz,v=.slice (some ⟨g,o,none⟩) xs.length cap∧xs≠[]∧w.heap[g]?=some (.cells cur E fz)∧(cur.toList.drop o).take (xs.length * sz)=xs.flatMap f∧xs.length≤cap
def rdBs:Value→List Nat
 | .slice (some a) (_+1) _=>[a.block]
 | _=>[]
theorem RoAt.st (h:∀ b,b∈rdBs v→w'.heap[b]?=w.heap[b]?) (hr:RoAt T sz f v xs w):RoAt T sz f v xs w':=by
 rcases hr with hr | ⟨g,o,cap,cur,E,fz,rfl,h2,h3,h4⟩
 ·exact .inl hr
 ·refine .inr ⟨g,o,cap,cur,E,fz,rfl,h2,(h g ?_).trans h3,h4⟩
  cases xs with
  | nil=>exact absurd rfl h2
  | cons x xs=>exact List.mem_singleton.2 rfl
theorem RoAt.lt (hr:RoAt T sz f v xs w):∀ b,b∈rdBs v→b<w.heap.size:=by
 rcases hr with ⟨ad,cap,rfl,_⟩ | ⟨g,o,cap,cur,E,fz,rfl,h2,h3,h4⟩
 ·intro b hb; cases ad <;> cases hb
 ·intro b hb
  cases xs with
  | nil=>exact absurd rfl h2
  | cons x xs=>
   rcases List.mem_singleton.1 hb with rfl
   exact ah h3
theorem RowAt.ro (hr:RowAt T sz f v xs w):RoAt T sz f v xs w:=by
 rcases hr with ⟨ad,rfl,rfl⟩ | ⟨g,o,cap,cur,rfl,h2,h3,h4,h5,_⟩
 ·exact .inl ⟨_,_,rfl,rfl⟩
 ·cases xs with
  | nil=>exact .inl ⟨_,_,rfl,rfl⟩
  | cons x xs=>exact .inr ⟨g,o,cap,cur,T,(0,0),rfl,by simp,h3,h5,h2⟩
def rowK (T:TypeId) (sz:Nat) (f:α→List Value) (v:Value) (xs:List α):Ck:=
 ⟨rowBs v,[],RowAt T sz f v xs,fun _ _ h _ hr=>hr.st fun b hb=>h b (.inl hb)⟩
def roK (T:TypeId) (sz:Nat) (f:α→List Value) (v:Value) (xs:List α):Ck:=
 ⟨[],rdBs v,RoAt T sz f v xs,fun _ _ h _ hr=>hr.st fun b hb=>h b (.inr hb)⟩
theorem zkz (hr:RowAt T sz f v xs w):Sep [rowK T sz f v xs] w:=
 ⟨hr,(fun b hb=>by rcases hb with hb | hb; (exact hr.lt b hb); (cases hb)),(fun _ h=>by cases h),trivial⟩
theorem RoAt.len (hr:RoAt T sz f v xs w):∃ ad c,v=.slice ad xs.length c:=by
 rcases hr with ⟨ad,cap,rfl,rfl⟩ | ⟨g,o,cap,cur,E,fz,rfl,_⟩
 ·exact ⟨_,_,rfl⟩
 ·exact ⟨_,_,rfl⟩
theorem RoAt.some {i:Nat} (hr:RoAt T sz f v xs w) (hi:i<xs.length):∃ cap,v=.slice (some ⟨rowB v,rowO v,none⟩) xs.length cap:=by
 rcases hr with ⟨ad,cap,rfl,rfl⟩ | ⟨g,o,cap,cur,E,fz,rfl,_⟩
 ·cases hi
 ·exact ⟨cap,rfl⟩
theorem zcQ (hf:∀ x,(f x).length=sz):∀ (xs:List α),(xs.flatMap f).length=xs.length * sz
 | []=>by simp
 | x::xs=>by
  simp only [List.flatMap_cons,List.length_append,hf,zcQ hf xs,List.length_cons,Nat.add_mul]
  omega
theorem zhb (hf:∀ x,(f x).length=sz):∀ (xs:List α) (i:Nat) (h:i<xs.length) (j:Nat) (u:Value),(f xs[i])[j]?=some u→(xs.flatMap f)[i * sz+j]?=some u
 | [],i,h,j,u,hu=>by cases h
 | x::xs,0,h,j,u,hu=>by
  simp only [List.getElem_cons_zero] at hu
  simp only [List.flatMap_cons,Nat.zero_mul,Nat.zero_add]
  rw [List.getElem?_append_left (List.getElem?_eq_some_iff.1 hu).1]
  exact hu
 | x::xs,i+1,h,j,u,hu=>by
  simp only [List.getElem_cons_succ] at hu
  simp only [List.flatMap_cons]
  rw [List.getElem?_append_right (by rw [hf,Nat.add_mul]; omega),hf,show (i+1) * sz+j - sz=i * sz+j from by rw [Nat.add_mul]; omega]
  exact zhb hf xs i yaH j u hu
theorem RoAt.lies {i:Nat} (hr:RoAt T sz f v xs w) (hf:∀ x,(f x).length=sz) (hi:i<xs.length):Lies w (rowB v) (rowO v+i * sz) (f xs[i]):=by
 rcases hr with ⟨ad,cap,rfl,rfl⟩ | ⟨g,o,cap,cur,E,fz,rfl,h2,h3,h5,_⟩
 ·cases hi
 ·intro j u hu
  have h6:=zhb hf xs i hi j u hu;rw [←h5,List.getElem?_take] at h6
  split at h6
  ·rw [List.getElem?_drop] at h6
   simp only [World.cell?,rowB,rowO,h3]
   simpa [Nat.add_assoc] using h6
  ·cases h6
def getI (xs:List α) (i:Int):Option α:=if 0≤i then xs[i.toNat]? else none
theorem zfT {i:Int} {x:α} (h:getI xs i=.some x):0≤i∧i<xs.length∧∃ h:i.toNat<xs.length,xs[i.toNat]=x:=by
 unfold getI at h
 split at h
 ·rename_i h0
  obtain ⟨h1,h2⟩:=List.getElem?_eq_some_iff.1 h;exact ⟨h0,kw,h1,h2⟩
 ·cases h
theorem RoAt.at_ {i:Int} {x:α} (hr:RoAt T sz f v xs w) (hf:∀ x,(f x).length=sz) (h:getI xs i=.some x):Lies w (rowB v) (rowO v+i.toNat * sz) (f x):=by
 obtain ⟨_,_,h1,rfl⟩:=zfT h;exact hr.lies hf h1
theorem Lies.part {b o:Nat} {cs:List Value} (h:Lies w b o cs) (k n:Nat):Lies w b (o+k) ((cs.drop k).take n):=by
 intro j u hu;rw [List.getElem?_take] at hu
 split at hu
 ·rw [List.getElem?_drop] at hu
  rw [Nat.add_assoc]
  exact h (k+j) u hu
 ·cases hu
/-! ### Operations -/
section
variable {a : Act} {d : Option Tmp} {ty : TypeId} {pos : String} {aft : Array Edge} {N : Nat} {s : SL} (hfr : Fr a N s)
include hfr
theorem zbN {x:Operand} {t:TypeId} {R:Value→World→Prop} {w1:World} (hr:RoAt T sz f v xs w1) (ht:isSlice P t=true) (hx:lookO s x=v) (h:R (.int .i64 xs.length) w) :
  Yields P ⟨d,.call ⟨.builtin .len,#[x],#[t]⟩,ty,pos,aft,none⟩ a w R:=by
 obtain ⟨ad,c,e⟩:=hr.len;exact zqC hfr ht (hx.trans e) h
theorem zlv {x y:Operand} {t:TypeId} {b o n c k:Nat} {kd:IntKind} {i:Int} {R:Value→World→Prop} (ht:sliceTy P t k=true) (hx:lookO s x=.slice (some ⟨b,o,none⟩) n c) (hy:lookO s y=.int kd i)
  (h0:0≤i) (h1:i<n) (hr:R (.pointer (some ⟨b,o+i.toNat * k,none⟩)) w):Yields P ⟨d,.indexAddr t x y,ty,pos,aft,none⟩ a w R:=by
 refine .of_run (v:=.pointer (some ⟨b,o+i.toNat * k,none⟩)) (w':=w) ?_ hr;unfold sliceTy at ht
 cases h2:P.underlying t with
 | none=>rw [h2] at ht; cases ht
 | some d1=>
  rw [h2] at ht
  cases d1 with
  | slice e=>
   have hs:(sizeOf e).run P w=.ok k w:=zfa ht;simp only [execOp,hfr.ev hx,hfr.ev hy,Instr.indexAt,asIntOf,Sem.run_bind,Sem.run_pure,Result.andThen_ok,run_underlying h2,h0,h1,and_self,if_true,hs,Addr.add_lit]
  | _=>cases ht
theorem zbU {x y:Operand} {t:TypeId} {kd:IntKind} {i:Int} {x0:α} {R:Value→World→Prop} {w1:World} (hr:RoAt T sz f v xs w1) (hi:getI xs i=.some x0) (ht:sliceTy P t sz=true) (hx:lookO s x=v) (hy:lookO s y=.int kd i)
  (h:R (.pointer (some ⟨rowB v,rowO v+i.toNat * sz,none⟩)) w):Yields P ⟨d,.indexAddr t x y,ty,pos,aft,none⟩ a w R:=by
 obtain ⟨h0,h1,h2,_⟩:=zfT hi;obtain ⟨cap,e⟩:=hr.some h2;exact zlv hfr ht (hx.trans e) hy h0 h1 h
theorem zcV {x:Operand} {b o:Nat} {t:TypeId} {cs:List Value} {R:Value→World→Prop} (hl:Lies w b o cs) (hx:lookO s x=.pointer (some ⟨b,o,none⟩)) (ht:tyA P t cs.length=true) (h:R (.agg cs.toArray) w) :
  Yields P ⟨d,.load t x,ty,pos,aft,none⟩ a w R:=by
 refine .of_run (v:=.agg cs.toArray) (w':=w) ?_ h;simp only [execOp,hfr.ev hx,Instr.loadAt,Instr.sureAddr,Sem.run_bind,Sem.run_pure,Result.andThen_ok,zf2 hl ht]
theorem zcR {x:Operand} {b o:Nat} {t:TypeId} {u:Value} {R:Value→World→Prop} (hl:Lies w b o [u]) (hx:lookO s x=.pointer (some ⟨b,o,none⟩)) (ht:tyO P t=true) (h:R u w) :
  Yields P ⟨d,.load t x,ty,pos,aft,none⟩ a w R:=by
 refine .of_run (v:=u) (w':=w) ?_ h;simp only [execOp,hfr.ev hx,Instr.loadAt,Instr.sureAddr,Sem.run_bind,Sem.run_pure,Result.andThen_ok,zjA (show w.cell? ⟨b,o,none⟩=.some u from hl 0 u rfl) ht]
end
/-! ### Append -/
def zm0:Nat:=2147483648
def appD (xs ys:List α):Option (List α):=if xs.length+ys.length≤zm0 then .some (xs++ys) else none
theorem zov {zs:List α} (h:appD xs ys=.some zs):xs.length+ys.length≤2147483648∧zs=xs++ys:=by
 unfold appD at h
 split at h
 ·rename_i h1
  exact ⟨h1,(Option.some.inj h).symm⟩
 ·cases h
def rowTy (P:Program) (t e:TypeId) (sz:Nat):Bool:=
 (match P.underlying t with | .some (.slice e')=>e'==e | _=>false)&&
 (match P.info? e with | .some i=>i.size==sz&&decide (0<sz)&&decide (i.bytes≤65536)&&(match i.zero with | .some z=>z.cells.size==sz | none=>false) | none=>false)
theorem zl2 {t e:TypeId} (h:rowTy P t e sz=true):P.underlying t=.some (.slice e)∧∃ i z,P.info? e=.some i∧i.zero=.some z∧i.size=sz∧0<sz∧i.bytes≤65536∧z.cells.size=sz:=by
 simp only [rowTy,Bool.and_eq_true] at h
 obtain ⟨h1,h2⟩:=h
 constructor
 ·cases hq:P.underlying t with
  | none=>rw [hq] at h1; cases h1
  | some dd=>rw [hq] at h1; cases dd <;> first | (simp at h1; subst h1; rfl) | cases h1
 ·cases hi:P.info? e with
  | none=>rw [hi] at h2; cases h2
  | some i=>
   rw [hi] at h2
   simp only [Bool.and_eq_true,beq_iff_eq,decide_eq_true_eq] at h2
   cases hz:i.zero with
   | none=>rw [hz] at h2; cases h2.2
   | some z=>
    rw [hz] at h2
    simp only [beq_iff_eq] at h2
    exact ⟨i,z,rfl,hz,h2.1.1.1,h2.1.1.2,h2.1.2,h2.2⟩
theorem zl0 (t ty e:TypeId) (i:TypeInfo) (ht:P.underlying t=.some (.slice e)) (hi:P.info? e=.some i)
  (g o sLen sCap:Nat) (cur:Array Value) (hg:w.heap[g]?=.some (.cells cur e (0,0)))
  (a:Addr) (m c:Nat) (news:List Value) (hl:news.length=m * i.size) (hnews:∀ j u,news[j]?=.some u→w.cell? (a.add j)=.some u) (h1:∀ u∈news,u.oneCell'=true)
  (hroom:sLen+m≤sCap) (hfit:o+sLen * i.size+news.length≤cur.size) :
  (Builtin.append_ #[t,t] ty #[.slice (.some ⟨g,o,none⟩) sLen sCap,.slice (.some a) m c]).run P w =
   .ok (.slice (.some ⟨g,o,none⟩) (sLen+m) sCap) (w.setRow g (cur.toList.take (o+sLen * i.size)++news++cur.toList.drop (o+sLen * i.size+news.length)).toArray):=by
 have hf:=run_firstCells_some (P:=P) w i.size m a m c news hl hnews;have hst:=run_storeCells_at P g (o+sLen * i.size) e news 0 cur w hg (by simpa using hfit) h1
 simp only [Nat.add_zero] at hst
 simp [Builtin.append_,run_underlying ht,sizeOf,typeInfo,hi,Builtin.lenOf,hroom,hf,Addr.add_lit,hst]
theorem zju (t ty e:TypeId) (i:TypeInfo) (ht:P.underlying t=.some (.slice e)) (hi:P.info? e=.some i) (ad ad2:Option Addr) (sLen sCap c2:Nat) (h:sLen≤sCap) :
  (Builtin.append_ #[t,t] ty #[.slice ad sLen sCap,.slice ad2 0 c2]).run P w=.ok (.slice ad sLen sCap) w:=by
 cases ad <;> cases ad2 <;> simp [Builtin.append_,run_underlying ht,sizeOf,typeInfo,hi,Builtin.lenOf,h,Builtin.firstCells,storeCells,loadCells,loadCellsFrom]
def Appended (T:TypeId) (sz:Nat) (f:α→List Value) (v:Value) (zs:List α) (w:World) (v':Value) (w':World):Prop:=
 RowAt T sz f v' zs w'∧Chg (fun b=>b∈rowBs v) w w'∧∀ b,b∈rowBs v'→b∈rowBs v∨w.heap.size≤b
theorem RowAt.holds (hr:RowAt T sz f v xs w) (_hf:∀ x,(f x).length=sz) {g o n c:Nat} (hv:v=.slice (.some ⟨g,o,none⟩) n c):∀ j u,(xs.flatMap f)[j]?=.some u→w.cell? ((⟨g,o,none⟩:Addr).add j)=.some u:=by
 intro j u hu
 rcases hr with ⟨ad,rfl,rfl⟩ | ⟨g',o',cap,cur,rfl,h2,h3,h4,h5,_⟩
 ·simp at hu
 ·simp only [Value.slice.injEq,Option.some.injEq,Addr.mk.injEq] at hv
  obtain ⟨⟨rfl,rfl,_⟩,_,_⟩:=hv;rw [←h5,List.getElem?_take] at hu
  split at hu
  ·rw [List.getElem?_drop] at hu
   rw [Addr.add_lit]
   simp only [World.cell?,h3]
   simpa using hu
  ·cases hu
theorem RoAt.holds (hr:RoAt T sz f v xs w) {a:Addr} {n c:Nat} (hv:v=.slice (.some a) n c):∀ j u,(xs.flatMap f)[j]?=.some u→w.cell? (a.add j)=.some u:=by
 intro j u hu
 rcases hr with ⟨ad,cap,rfl,rfl⟩ | ⟨g,o,cap,cur,E,fz,rfl,h2,h3,h5,_⟩
 ·simp at hu
 ·simp only [Value.slice.injEq,Option.some.injEq] at hv
  obtain ⟨rfl,_,_⟩:=hv;rw [←h5,List.getElem?_take] at hu
  split at hu
  ·rw [List.getElem?_drop] at hu
   rw [Addr.add_lit]
   simp only [World.cell?,h3]
   simpa using hu
  ·cases hu
theorem zmC {t ty:TypeId} {v2:Value} {zs:List α} (hT:rowTy P t T sz=true) (hf:∀ x,(f x).length=sz) (h1:∀ x,(f x).all Value.oneCell'=true)
  (hr:RowAt T sz f v xs w) (hr2:RoAt T sz f v2 ys w) (hz:appD xs ys=.some zs) :
  ∃ v' w',(Builtin.append_ #[t,t] ty #[v,v2]).run P w=.ok v' w'∧Appended T sz f v zs w v' w':=by
 obtain ⟨hn,rfl⟩:=zov hz;obtain ⟨ht,i,z,hi,hiz,rfl,hsz,hby,hzs⟩:=zl2 hT;have hone:∀ u,u∈ys.flatMap f→u.oneCell'=true:=by
  intro u hu;obtain ⟨x,_,hx⟩:=List.mem_flatMap.1 hu;exact List.all_eq_true.1 (h1 x) u hx
 have hl:=zcQ hf ys;have hlx:=zcQ hf xs;have hbytes:(xs.length+ys.length) * i.bytes≤140737488355328:=Nat.le_trans (Nat.mul_le_mul hn hby) ke
 have grown:∀ (old:Nat),old<xs.length+ys.length→∀ cells:Array Value,cells=((xs++ys).flatMap f).toArray++Builtin.zeroCells z.cells (grownCap w (xs.length+ys.length) old T - (xs.length+ys.length))→
   Appended T i.size f v (xs++ys) w (.slice (.some ⟨w.heap.size,0,none⟩) (xs.length+ys.length) (grownCap w (xs.length+ys.length) old T)) (w.drew.alloc (.cells cells T)):=by
  intro old ho cells hc;have hge:=grownCap_ge w (xs.length+ys.length) old T;have hlz:=zcQ hf (xs++ys);simp only [List.length_append] at hlz
  refine ⟨.inr ⟨w.heap.size,0,_,cells,by rw [List.length_append],by rw [List.length_append]; exact hge,heap_alloc_new w.drew _,?_,?_,kw⟩,⟨rfl,rfl,rfl,by simp,fun k hk _=>(heap_alloc_old (r:=k) w.drew _ (by simpa using hk):_)⟩,?_⟩
  ·have hlz':((xs++ys).flatMap f).length+(grownCap w (xs.length+ys.length) old T - (xs.length+ys.length)) * i.size=grownCap w (xs.length+ys.length) old T * i.size:=by
    rw [hlz,←Nat.add_mul]
    congr 1
    omega
   subst hc;simp only [Array.size_append,List.size_toArray,Builtin.zeroCells,Array.size_map,Array.size_range,hzs,Nat.zero_add];omega
  ·subst hc
   rw [List.length_append,←hlz,List.drop_zero]
   simp only [Array.toList_append]
   exact List.take_left
  ·intro b hb
   rcases zgL hb with rfl
   exact .inr (Nat.le_refl _)
 rcases id hr2 with ⟨ad2,c2,rfl,rfl⟩ | ⟨g2,o2,cap2,cur2,E2,fz2,e2,h22,h23,h25,_⟩
 ·have:∃ ad n c,v=.slice ad n c∧n≤c:=by
   rcases hr with ⟨ad,rfl,_⟩ | ⟨g,o,cap,cur,rfl,h2,_⟩
   ·exact ⟨_,_,_,rfl,Nat.le_refl _⟩
   ·exact ⟨_,_,_,rfl,h2⟩
  obtain ⟨ad,n,c,rfl,hnc⟩:=this;exact ⟨_,_,zju t ty T i ht hi ad ad2 n c c2 hnc,by rw [List.append_nil]; exact hr,Chg.refl _ _,fun b hb=>.inl hb⟩
 ·have hh2:=hr2.holds e2
  subst e2
  rcases id hr with ⟨ad,rfl,rfl⟩ | ⟨g,o,cap,cur,e1,h2,h3,h4,h5,hcap⟩
  ·by_cases h0:ys=[]
   ·subst h0
    exact absurd rfl h22
   cases ad with
   | some ad=>
    have hp:0<ys.length:=List.length_pos_iff.2 h0;simp only [List.length_nil,Nat.zero_add] at hn hbytes grown
    have hq:=run_append_grow (P:=P) w t ty T i z ht hi hiz ad 0 0 [] yat (fun j u h=>by simp at h) ⟨g2,o2,none⟩ ys.length cap2 (ys.flatMap f) hl hh2 kw kw (growslice_fits kw (by rw [Nat.zero_add]; exact hbytes))
    refine ⟨_,_,hq,?_⟩;have:=grown 0 hp _ rfl;simpa using this
   | none=>
    have hp:0<ys.length:=List.length_pos_iff.2 h0;simp only [List.length_nil,Nat.zero_add] at hn hbytes grown
    have hq:=run_append_nil (P:=P) w t ty T i z ht hi hiz ⟨g2,o2,none⟩ ys.length cap2 (ys.flatMap f) hl hh2 hp kw kw
    refine ⟨_,_,hq,?_⟩;have:=grown 0 hp _ rfl;simpa using this
  ·subst e1
   by_cases hroom:xs.length+ys.length≤cap
   ·have hm:(xs.length+ys.length) * i.size≤cap * i.size:=Nat.mul_le_mul_right _ hroom
    rw [Nat.add_mul] at hm
    have hfit:o+xs.length * i.size+(ys.flatMap f).length≤cur.size:=by rw [hl]; omega
    have hq:=zl0 (P:=P) t ty T i ht hi g o xs.length cap cur h3 ⟨g2,o2,none⟩ ys.length cap2 (ys.flatMap f) hl hh2 hone hroom hfit;refine ⟨_,_,hq,.inr ⟨g,o,cap,_,by rw [List.length_append],by rw [List.length_append]; exact hroom,setRow_heap w g cur _ T _ h3,?_,?_,hcap⟩,⟨rfl,rfl,rfl,by simp,fun k _ hk=>setRow_other w g k _ fun e=>hk (e ▸ zjq hcap)⟩,fun b hb=>.inl (zgL hb ▸ zjq hcap)⟩
    ·simp only [List.size_toArray,List.length_append,List.length_take,List.length_drop,Array.length_toList]
     omega
    ·rw [List.flatMap_append,←h5,List.length_append,Nat.add_mul]
     simp only [List.append_assoc]
     rw [List.drop_append_of_le_length yaD,List.drop_take]
     rw [show o+xs.length * i.size - o=xs.length * i.size from by omega]
     have hA:(List.take (xs.length * i.size) (cur.toList.drop o)).length=xs.length * i.size:=by rw [h5,hlx]
     rw [List.take_append,hA,show xs.length * i.size+ys.length * i.size - xs.length * i.size=(ys.flatMap f).length from by rw [hl]; omega,List.take_left]
     rw [List.take_of_length_le kw]
   ·have hq:=run_append_grow (P:=P) w t ty T i z ht hi hiz ⟨g,o,none⟩ xs.length cap (xs.flatMap f) hlx (hr.holds hf rfl) ⟨g2,o2,none⟩ ys.length cap2 (ys.flatMap f) hl hh2 kw kw (growslice_fits kw hbytes)
    refine ⟨_,_,hq,?_⟩;have:=grown cap kw _ rfl;simpa using this
section
variable {a : Act} {d : Option Tmp} {ty : TypeId} {pos : String} {aft : Array Edge} {N : Nat} {s : SL} (hfr : Fr a N s)
include hfr
theorem zkK {x y:Operand} {t:TypeId} {v2:Value} {zs:List α} {R:Value→World→Prop} (hT:rowTy P t T sz=true) (hf:∀ x,(f x).length=sz) (h1:∀ x,(f x).all Value.oneCell'=true)
  (hr:RowAt T sz f v xs w) (hr2:RoAt T sz f v2 ys w) (hz:appD xs ys=.some zs) (hx:lookO s x=v) (hy:lookO s y=v2) (h:∀ v' w',Appended T sz f v zs w v' w'→R v' w') :
  Yields P ⟨d,.call ⟨.builtin .append,#[x,y],#[t,t]⟩,ty,pos,aft,none⟩ a w R:=by
 obtain ⟨v',w',hq,ha⟩:=zmC (ty:=ty) hT hf h1 hr hr2 hz;refine .of_run (v:=v') (w':=w') ?_ (h v' w' ha);have e:(#[x,y]:Array Operand).map a.eval=#[v,v2]:=hfr.evs (xs:=[x,y]) (vs:=[v,v2]) (lc2 hx hy);simp only [execOp,resolve,e,Sem.run_bind,Sem.run_pure,Result.andThen_ok,invoke,builtin,hq]
end
section
variable {ops : Array Oper} {rest : List Oper} {Q : Exit → Act → World → Prop} {a : Act} {N : Nat} {s : SL}
theorem zm3 {o:Oper} {zs:List α} (T:TypeId) (sz:Nat) (f:α→List Value) (v:Value) (hfr:Fr a N s) (hy:∀ R:Value→World→Prop,(∀ v' w',Appended T sz f v zs w v' w'→R v' w')→Yields P o a w R) (hg:(o.guard.isNone&&dstIn N o.dst)=true)
  (hk:∀ a v' w',Appended T sz f v zs w v' w'→Fr a N (putS s o.dst v')→wpList P ops Q rest a w'):wpList P ops Q (o::rest) a w:=by
 simp only [Bool.and_eq_true] at hg
 exact zek yaG (hy (fun v' w'=>Appended T sz f v zs w v' w') fun _ _ h=>h) fun v' w' h=>hk _ v' w' h (hfr.put _ hg.2)
end
theorem Post.append {Z:Nat→Prop} {L:List Ck} {w0:World} {i:Nat} {v':Value} {zs:List α} (h:Post Z L w0 w) (hi:L[i]?=.some (rowK T sz f v xs)) (ha:Appended T sz f v zs w v' w'):Post Z (L.set i (rowK T sz f v' zs)) w0 w':=by
 have:=h.set (N:=[]) hi (c':=rowK T sz f v' zs) ⟨⟨zkz ha.1,ha.2.1,fun c hc b hb=>by rcases List.mem_singleton.1 hc with rfl; exact ha.2.2 b hb⟩,fun c hc b hb=>by rcases List.mem_singleton.1 hc with rfl; cases hb⟩
 rwa [List.append_nil] at this
theorem Post.row {Z:Nat→Prop} {L:List Ck} {w0:World} {i:Nat} (h:Post Z L w0 w) (hi:L[i]?=.some (rowK T sz f v xs)):RowAt T sz f v xs w:=h.sep.get hi
theorem Post.ro {Z:Nat→Prop} {L:List Ck} {w0:World} {i:Nat} (h:Post Z L w0 w) (hi:L[i]?=.some (roK T sz f v xs)):RoAt T sz f v xs w:=h.sep.get hi
theorem RowAt.nil:RowAt T sz f (.slice none 0 0) ([]:List α) w:=.inl ⟨_,rfl,rfl⟩
theorem RowAt.zmr {b n:Nat} (h:w.heap[b]?=.some (.cells (xs.flatMap f).toArray T (0,0))) (hf:∀ x,(f x).length=sz) (hn:xs.length=n):RowAt T sz f (.slice (.some ⟨b,0,none⟩) n n) xs w:=by
 subst hn;cases xs with
 | nil=>exact .inl ⟨_,rfl,rfl⟩
 | cons x xs=>
 refine .inr ⟨b,0,_,_,rfl,Nat.le_refl _,h,?_,?_,by simp⟩
 ·simp only [List.size_toArray,zcQ hf]; omega
 ·rw [←zcQ hf]; exact List.take_length
theorem Post.newRow {Z:Nat→Prop} {L:List Ck} {w0:World} {b n:Nat} (h:Post Z L w0 w) (hn:New w w' b (.cells (xs.flatMap f).toArray T (0,0))) (hf:∀ x,(f x).length=sz) (hl:xs.length=n) :
  Post Z (L++[rowK T sz f (.slice (.some ⟨b,0,none⟩) n n) xs]) w0 w':=
 h.add ⟨⟨zkz (RowAt.zmr hn.at_ hf hl),Chg.of_below hn.below,fun c hc b' hb=>by rcases List.mem_singleton.1 hc with rfl; rcases zgL hb with rfl; exact .inr (Nat.le_of_eq hn.eq.symm)⟩,fun c hc b' hb=>by rcases List.mem_singleton.1 hc with rfl; cases hb⟩
theorem MkP.row {T':TypeId} {lo hi:Nat} (h:MkP (fun y:Value=>y) (fun y=>[rowK T sz f y xs]) v lo hi w):RoAt T' sz f v xs w:=by
 obtain ⟨y,rfl,hs,_⟩:=h;exact (hs.get (i:=0) (c:=rowK T sz f v xs) rfl).ro
theorem MkP.newRow {b n:Nat} (hn:New w w' b (.cells (xs.flatMap f).toArray T (0,0))) (hf:∀ x,(f x).length=sz) (hl:xs.length=n):MkP (fun y:Value=>y) (fun y=>[rowK T sz f y xs]) (.slice (.some ⟨b,0,none⟩) n n) w.heap.size w'.heap.size w':=by
 refine ⟨_,rfl,zkz (RowAt.zmr hn.at_ hf hl),fun c hc b' hb=>?_⟩
 rcases List.mem_singleton.1 hc with rfl
 rcases hb with hb | hb
 ·rcases zgL hb with rfl
  exact ⟨Nat.le_of_eq hn.eq.symm,ah hn.at_⟩
 ·cases hb
theorem Post.nilRow {Z:Nat→Prop} {L:List Ck} {w0:World} (T:TypeId) (sz:Nat) (f:α→List Value) (h:Post Z L w0 w):Post Z (L++[rowK T sz f (.slice none 0 0) []]) w0 w:=
 h.add ⟨⟨zkz RowAt.nil,Chg.refl _ _,fun c hc b' hb=>by rcases List.mem_singleton.1 hc with rfl; cases hb⟩,fun c hc b' hb=>by rcases List.mem_singleton.1 hc with rfl; cases hb⟩
end
/-! ### Parts of rows -/
/-! ### A thing put into a row; rows that are made -/
/-! ### Structs of integers compared -/
section
variable {P : Program} {w : World}
theorem zhZ (d:Nat) (xs ys:Array Value):∀ (fs:List Go.Field) (l:List (IntKind × Int × Int)),
  fs.map (fun f=>(f.name !="_"&&P.plainKey f.type,P.underlying f.type))=l.map (fun q=>(true,some (.int q.1)))→
  fs.map (fun f=>(xs[f.offset]?,ys[f.offset]?))=l.map (fun q=>(some (.int q.1 q.2.1),some (.int q.1 q.2.2)))→
  (Op.eqFields (d+1) xs ys fs).run P w=.ok (l.all fun q=>q.2.1==q.2.2) w
 | [],[],_,_=>by simp [Op.eqFields]
 | [],_::_,h,_=>by simp at h
 | _::_,[],h,_=>by simp at h
 | f::fs,q::l,h,h2=>by
  simp only [List.map_cons,List.cons.injEq,Prod.mk.injEq,Bool.and_eq_true,bne_iff_ne] at h h2
  obtain ⟨⟨⟨hn,hp⟩,hu⟩,ht⟩:=h;obtain ⟨⟨hx,hy⟩,ht2⟩:=h2;have ih:=zhZ d xs ys fs l ht ht2;have p1:=run_part_plain (P:=P) (w:=w) hp hx;have p2:=run_part_plain (P:=P) (w:=w) hp hy;simp only [Op.eqFields,hn,ne_eq,not_false_eq_true,if_true,Sem.run_bind,p1,p2,Result.andThen_ok,run_equalIn_int w d f.type q.1 q.1 q.2.1 q.2.2 hu,List.all_cons];cases q.2.1==q.2.2
  ·simp
  ·simpa using ih
theorem znE {t:TypeId} {xs ys:Array Value} (l:List (IntKind × Int × Int)) (ht:P.underlying t=some (.struct (P.fieldsOf t))) (hp:P.stoodInHeld t=false)
  (h:(P.fieldsOf t).toList.map (fun f=>(f.name !="_"&&P.plainKey f.type,P.underlying f.type))=l.map (fun q=>(true,some (.int q.1))))
  (h2:(P.fieldsOf t).toList.map (fun f=>(xs[f.offset]?,ys[f.offset]?))=l.map (fun q=>(some (.int q.1 q.2.1),some (.int q.1 q.2.2)))) {b:Bool} (hb:(l.all fun q=>q.2.1==q.2.2)=b) :
  (binOp .eql t (.agg xs) (.agg ys)).run P w=.ok (.bool b) w∧(binOp .neq t (.agg xs) (.agg ys)).run P w=.ok (.bool !b) w:=by
 subst hb;have he:(Op.equalIn 10000 t (.agg xs) (.agg ys)).run P w=.ok (l.all fun q=>q.2.1==q.2.2) w:=by
  rw [run_equalIn_struct w 9999 t xs ys ht hp]
  exact zhZ 9998 xs ys _ l h h2
 rw [run_eql_struct,run_neq_struct,he]
 exact ⟨rfl,rfl⟩
end
def arrTy (P:Program) (t:TypeId) (n k:Nat):Bool:=match P.underlying t with | some (.array m e)=>m==n&&sized P e k&&!(n==0) | _=>false
theorem zs9 {P:Program} {w:World} {a:Act} {d:Option Tmp} {ty:TypeId} {pos:String} {aft:Array Edge} {N:Nat} {s:SL} {x:Operand} {t:TypeId} {b n k:Nat} {R:Value→World→Prop} (hfr:Fr a N s) (ht:arrTy P t n k=true)
  (hx:lookO s x=.pointer (some ⟨b,0,none⟩)) (hR:R (.slice (some ⟨b,0,none⟩) n n) w):Yields P ⟨d,.slice t x none none none,ty,pos,aft,none⟩ a w R:=by
 refine .of_run (v:=.slice (some ⟨b,0,none⟩) n n) (w':=w) ?_ hR;unfold arrTy at ht
 cases h2:P.underlying t with
 | none=>rw [h2] at ht; cases ht
 | some d1=>
  rw [h2] at ht
  cases d1 with
  | array m e=>
   simp only [Bool.and_eq_true,beq_iff_eq,Bool.not_eq_true',beq_eq_false_iff_ne] at ht
   obtain ⟨⟨rfl,ht⟩,_⟩:=ht;have hs:(sizeOf e).run P w=.ok k w:=zfa ht;simp [execOp,hfr.ev hx,Instr.sliceAt,Instr.sureAddr,Instr.sliceBounds,run_underlying h2,hs,Addr.add]
  | _=>cases ht
theorem RoAt.ofCell {α:Type} {T E:TypeId} {sz:Nat} {f:α→List Value} {b n:Nat} {xs:List α} {w:World} {c:Array Value} (h:w.heap[b]?=.some (.cells c E (0,0))) (hn:xs.length=n) (hne:xs≠[]) (hc:c.toList.take (n * sz)=xs.flatMap f) :
  RoAt T sz f (.slice (.some ⟨b,0,none⟩) n n) xs w:=by
 subst hn;exact .inr ⟨b,0,xs.length,c,E,(0,0),rfl,hne,h,by rw [List.drop_zero]; exact hc,Nat.le_refl _⟩
structure CallD where
 kind:Int
 k:Int
 v:Int
 deriving DecidableEq
def zpm (x:CallD):List Value:=[(.int .u8 x.kind),(.int .u64 x.k),(.int .u64 x.v)]
structure Arr3F where
 f0:Field
 f1:Field
 f2:Field
 deriving DecidableEq
def zcL (x:Arr3F):List Value:=(zpr x.f0)++(zpr x.f1)++(zpr x.f2)
structure Entry where
 key:Int
 value:Int
 deriving DecidableEq
def zpw (x:Entry):List Value:=[(.int .u64 x.key),(.int .u64 x.value)]
end Go.Proofs.YtbbipmelhmgmfaaGreat

/- Some of our texts, one behind the other. -/
import Derived.Laws.Append
import Derived.Laws.CopyRow
import Derived.Laws.MakeOwn
import Derived.ChangeKeysEq
import Derived.Laws.StructEq
import Derived.Test.YtbbipmelhmgmfaaGreatLzM5
import Derived.Test.YtbbipmelhmgmfaaGreatLzM3
set_option linter.all false
set_option maxRecDepth 100000
set_option maxHeartbeats 20000000
/- Ours. -/
namespace Go.Proofs.YtbbipmelhmgmfaaGreat
open Go.RowKit
def rowBs:Value→List Nat
 | .slice (some a) _ (_+1)=>[a.block]
 | _=>[]
theorem jz {a:Addr} {n c b:Nat} (h:b∈rowBs (.slice (some a) n c)):b=a.block:=by
 cases c with
 | zero=>cases h
 | succ c=>exact List.mem_singleton.1 h
theorem jC {a:Addr} {n c:Nat} (h:0<c):a.block∈rowBs (.slice (some a) n c):=by
 cases c with
 | zero=>cases h
 | succ c=>exact List.mem_singleton.2 rfl
theorem nM {ad:Option Addr} {n:Nat}:rowBs (.slice ad n 0)=[]:=by cases ad <;> rfl
def rowB:Value→Nat
 | .slice (some a) _ _=>a.block
 | _=>0
def rowO:Value→Nat
 | .slice (some a) _ _=>a.off
 | _=>0
def cv {α:Type} (T:TypeId) (sz:Nat) (f:α→List Value) (v:Value) (xs:List α) (w:World):Prop:=
 (∃ ad,v=.slice ad 0 0∧xs=[])∨∃ g o cap cur,v=.slice (some ⟨g,o,none⟩) xs.length cap∧xs.length≤cap∧w.heap[g]?=some (.cells cur T (0,0))∧o+cap * sz≤cur.size∧(cur.toList.drop o).take (xs.length * sz)=xs.flatMap f∧0<cap
section
variable {α : Type} {P : Program} {T : TypeId} {sz : Nat} {f : α → List Value} {v : Value} {xs ys : List α} {w w' : World}
theorem cv.st (h:∀ b,b∈rowBs v→w'.heap[b]?=w.heap[b]?) (hr:cv T sz f v xs w):cv T sz f v xs w':=by
 rcases hr with hr | ⟨g,o,cap,cur,rfl,h2,h3,h4⟩
 ·exact .inl hr
 ·exact .inr ⟨g,o,cap,cur,rfl,h2,(h g (jC h4.2.2)).trans h3,h4⟩
theorem cv.lt (hr:cv T sz f v xs w):∀ b,b∈rowBs v→b<w.heap.size:=by
 rcases hr with ⟨ad,rfl,_⟩ | ⟨g,o,cap,cur,rfl,h2,h3,h4⟩
 ·intro b hb; rw [nM] at hb; cases hb
 ·intro b hb
  rcases jz hb with rfl
  exact q7 h3
def RoAt {α:Type} (_T:TypeId) (sz:Nat) (f:α→List Value) (v:Value) (xs:List α) (w:World):Prop:=
 (∃ ad cap,v=.slice ad 0 cap∧xs=[])∨∃ g o cap cur E fz,v=.slice (some ⟨g,o,none⟩) xs.length cap∧xs≠[]∧w.heap[g]?=some (.cells cur E fz)∧(cur.toList.drop o).take (xs.length * sz)=xs.flatMap f∧xs.length≤cap
def rdBs:Value→List Nat
 | .slice (some a) (_+1) _=>[a.block]
 | _=>[]
theorem RoAt.st (h:∀ b,b∈rdBs v→w'.heap[b]?=w.heap[b]?) (hr:RoAt T sz f v xs w):RoAt T sz f v xs w':=by
 rcases hr with hr | ⟨g,o,cap,cur,E,fz,rfl,h2,h3,h4⟩
 ·exact .inl hr
 ·refine .inr ⟨g,o,cap,cur,E,fz,rfl,h2,(h g ?_).trans h3,h4⟩
  cases xs with
  | nil=>exact absurd rfl h2
  | cons x xs=>exact List.mem_singleton.2 rfl
theorem RoAt.lt (hr:RoAt T sz f v xs w):∀ b,b∈rdBs v→b<w.heap.size:=by
 rcases hr with ⟨ad,cap,rfl,_⟩ | ⟨g,o,cap,cur,E,fz,rfl,h2,h3,h4⟩
 ·intro b hb; cases ad <;> cases hb
 ·intro b hb
  cases xs with
  | nil=>exact absurd rfl h2
  | cons x xs=>
   rcases List.mem_singleton.1 hb with rfl
   exact q7 h3
theorem cv.ro (hr:cv T sz f v xs w):RoAt T sz f v xs w:=by
 rcases hr with ⟨ad,rfl,rfl⟩ | ⟨g,o,cap,cur,rfl,h2,h3,h4,h5,_⟩
 ·exact .inl ⟨_,_,rfl,rfl⟩
 ·cases xs with
  | nil=>exact .inl ⟨_,_,rfl,rfl⟩
  | cons x xs=>exact .inr ⟨g,o,cap,cur,T,(0,0),rfl,by simp,h3,h5,h2⟩
theorem RoAt.nil:RoAt T sz f (.slice none 0 0) ([]:List α) w:=.inl ⟨_,_,rfl,rfl⟩
def rowK (T:TypeId) (sz:Nat) (f:α→List Value) (v:Value) (xs:List α):Ck:=
 ⟨rowBs v,[],cv T sz f v xs,fun _ _ h _ hr=>hr.st fun b hb=>h b (.inl hb)⟩
def roK (T:TypeId) (sz:Nat) (f:α→List Value) (v:Value) (xs:List α):Ck:=
 ⟨[],rdBs v,RoAt T sz f v xs,fun _ _ h _ hr=>hr.st fun b hb=>h b (.inr hb)⟩
theorem iR (hr:cv T sz f v xs w):Sep [rowK T sz f v xs] w:=
 ⟨hr,(fun b hb=>by rcases hb with hb | hb; (exact hr.lt b hb); (cases hb)),(fun _ h=>by cases h),trivial⟩
theorem RoAt.len (hr:RoAt T sz f v xs w):∃ ad c,v=.slice ad xs.length c:=by
 rcases hr with ⟨ad,cap,rfl,rfl⟩ | ⟨g,o,cap,cur,E,fz,rfl,_⟩
 ·exact ⟨_,_,rfl⟩
 ·exact ⟨_,_,rfl⟩
theorem RoAt.some {i:Nat} (hr:RoAt T sz f v xs w) (hi:i<xs.length):∃ cap,v=.slice (some ⟨rowB v,rowO v,none⟩) xs.length cap:=by
 rcases hr with ⟨ad,cap,rfl,rfl⟩ | ⟨g,o,cap,cur,E,fz,rfl,_⟩
 ·cases hi
 ·exact ⟨cap,rfl⟩
theorem iH (hf:∀ x,(f x).length=sz):∀ (xs:List α),(xs.flatMap f).length=xs.length * sz
 | []=>by simp
 | x::xs=>by
  simp only [List.flatMap_cons,List.length_append,hf,iH hf xs,List.length_cons,Nat.add_mul]
  omega
theorem qt (hf:∀ x,(f x).length=sz):∀ (xs:List α) (i:Nat) (h:i<xs.length) (j:Nat) (u:Value),(f xs[i])[j]?=some u→(xs.flatMap f)[i * sz+j]?=some u
 | [],i,h,j,u,hu=>by cases h
 | x::xs,0,h,j,u,hu=>by
  simp only [List.getElem_cons_zero] at hu
  simp only [List.flatMap_cons,Nat.zero_mul,Nat.zero_add]
  rw [List.getElem?_append_left (List.getElem?_eq_some_iff.1 hu).1]
  exact hu
 | x::xs,i+1,h,j,u,hu=>by
  simp only [List.getElem_cons_succ] at hu
  simp only [List.flatMap_cons]
  rw [List.getElem?_append_right (by rw [hf,Nat.add_mul]; omega),hf,show (i+1) * sz+j - sz=i * sz+j from by rw [Nat.add_mul]; omega]
  exact qt hf xs i yaN j u hu
theorem RoAt.lies {i:Nat} (hr:RoAt T sz f v xs w) (hf:∀ x,(f x).length=sz) (hi:i<xs.length):Lies w (rowB v) (rowO v+i * sz) (f xs[i]):=by
 rcases hr with ⟨ad,cap,rfl,rfl⟩ | ⟨g,o,cap,cur,E,fz,rfl,h2,h3,h5,_⟩
 ·cases hi
 ·intro j u hu
  have h6:=qt hf xs i hi j u hu;rw [←h5,List.getElem?_take] at h6
  split at h6
  ·rw [List.getElem?_drop] at h6
   simp only [World.cell?,rowB,rowO,h3]
   simpa [Nat.add_assoc] using h6
  ·cases h6
def getI (xs:List α) (i:Int):Option α:=if 0≤i then xs[i.toNat]? else none
theorem fA {i:Int} {x:α} (h:getI xs i=.some x):0≤i∧i<xs.length∧∃ h:i.toNat<xs.length,xs[i.toNat]=x:=by
 unfold getI at h
 split at h
 ·rename_i h0
  obtain ⟨h1,h2⟩:=List.getElem?_eq_some_iff.1 h;exact ⟨h0,kw,h1,h2⟩
 ·cases h
theorem RoAt.at_ {i:Int} {x:α} (hr:RoAt T sz f v xs w) (hf:∀ x,(f x).length=sz) (h:getI xs i=.some x):Lies w (rowB v) (rowO v+i.toNat * sz) (f x):=by
 obtain ⟨_,_,h1,rfl⟩:=fA h;exact hr.lies hf h1
theorem Lies.part {b o:Nat} {cs:List Value} (h:Lies w b o cs) (k n:Nat):Lies w b (o+k) ((cs.drop k).take n):=by
 intro j u hu;rw [List.getElem?_take] at hu
 split at hu
 ·rw [List.getElem?_drop] at hu
  rw [Nat.add_assoc]
  exact h (k+j) u hu
 ·cases hu
/-! ### Operations -/
section
variable {a : Act} {d : Option Tmp} {ty : TypeId} {pos : String} {aft : Array Edge} {N : Nat} {s : SL} (hfr : Fr a N s)
include hfr
theorem cV {x:Operand} {t:TypeId} {R:Value→World→Prop} {w1:World} (hr:RoAt T sz f v xs w1) (ht:isSlice P t=true) (hx:lookO s x=v) (h:R (.int .i64 xs.length) w) :
  Yields P ⟨d,.call ⟨.builtin .len,#[x],#[t]⟩,ty,pos,aft,none⟩ a w R:=by
 obtain ⟨ad,c,e⟩:=hr.len;exact m5 hfr ht (hx.trans e) h
theorem BH {x y:Operand} {t:TypeId} {b o n c k:Nat} {kd:IntKind} {i:Int} {R:Value→World→Prop} (ht:sliceTy P t k=true) (hx:lookO s x=.slice (some ⟨b,o,none⟩) n c) (hy:lookO s y=.int kd i)
  (h0:0≤i) (h1:i<n) (hr:R (.pointer (some ⟨b,o+i.toNat * k,none⟩)) w):Yields P ⟨d,.indexAddr t x y,ty,pos,aft,none⟩ a w R:=by
 refine .of_run (v:=.pointer (some ⟨b,o+i.toNat * k,none⟩)) (w':=w) ?_ hr;unfold sliceTy at ht
 cases h2:P.underlying t with
 | none=>rw [h2] at ht; cases ht
 | some d1=>
  rw [h2] at ht
  cases d1 with
  | slice e=>
   have hs:(sizeOf e).run P w=.ok k w:=fU ht;simp only [execOp,hfr.ev hx,hfr.ev hy,Instr.indexAt,asIntOf,Sem.run_bind,Sem.run_pure,Result.andThen_ok,run_underlying h2,h0,h1,and_self,if_true,hs,Addr.add_lit]
  | _=>cases ht
theorem cy {x y:Operand} {t:TypeId} {kd:IntKind} {i:Int} {x0:α} {R:Value→World→Prop} {w1:World} (hr:RoAt T sz f v xs w1) (hi:getI xs i=.some x0) (ht:sliceTy P t sz=true) (hx:lookO s x=v) (hy:lookO s y=.int kd i)
  (h:R (.pointer (some ⟨rowB v,rowO v+i.toNat * sz,none⟩)) w):Yields P ⟨d,.indexAddr t x y,ty,pos,aft,none⟩ a w R:=by
 obtain ⟨h0,h1,h2,_⟩:=fA hi;obtain ⟨cap,e⟩:=hr.some h2;exact BH hfr ht (hx.trans e) hy h0 h1 h
theorem jr {x:Operand} {b o:Nat} {t:TypeId} {cs:List Value} {R:Value→World→Prop} (hl:Lies w b o cs) (hx:lookO s x=.pointer (some ⟨b,o,none⟩)) (ht:tyA P t cs.length=true) (h:R (.agg cs.toArray) w) :
  Yields P ⟨d,.load t x,ty,pos,aft,none⟩ a w R:=by
 refine .of_run (v:=.agg cs.toArray) (w':=w) ?_ h;simp only [execOp,hfr.ev hx,Instr.loadAt,Instr.sureAddr,Sem.run_bind,Sem.run_pure,Result.andThen_ok,iE hl ht]
theorem cW {x:Operand} {b o:Nat} {t:TypeId} {u:Value} {R:Value→World→Prop} (hl:Lies w b o [u]) (hx:lookO s x=.pointer (some ⟨b,o,none⟩)) (ht:tyO P t=true) (h:R u w) :
  Yields P ⟨d,.load t x,ty,pos,aft,none⟩ a w R:=by
 refine .of_run (v:=u) (w':=w) ?_ h;simp only [execOp,hfr.ev hx,Instr.loadAt,Instr.sureAddr,Sem.run_bind,Sem.run_pure,Result.andThen_ok,ud (show w.cell? ⟨b,o,none⟩=.some u from hl 0 u rfl) ht]
end
/-! ### Append -/
def lO:Nat:=2147483648
def appD (xs ys:List α):Option (List α):=if xs.length+ys.length≤lO then .some (xs++ys) else none
theorem Dl {zs:List α} (h:appD xs ys=.some zs):xs.length+ys.length≤2147483648∧zs=xs++ys:=by
 unfold appD at h
 split at h
 ·rename_i h1
  exact ⟨h1,(Option.some.inj h).symm⟩
 ·cases h
def rowTy (P:Program) (t e:TypeId) (sz:Nat):Bool:=
 (match P.underlying t with | .some (.slice e')=>e'==e | _=>false)&&
 (match P.info? e with | .some i=>i.size==sz&&decide (0<sz)&&decide (i.bytes≤65536)&&(match i.zero with | .some z=>z.cells.size==sz | none=>false) | none=>false)
theorem o7 {t e:TypeId} (h:rowTy P t e sz=true):P.underlying t=.some (.slice e)∧∃ i z,P.info? e=.some i∧i.zero=.some z∧i.size=sz∧0<sz∧i.bytes≤65536∧z.cells.size=sz:=by
 simp only [rowTy,Bool.and_eq_true] at h
 obtain ⟨h1,h2⟩:=h
 constructor
 ·cases hq:P.underlying t with
  | none=>rw [hq] at h1; cases h1
  | some dd=>rw [hq] at h1; cases dd <;> first | (simp at h1; subst h1; rfl) | cases h1
 ·cases hi:P.info? e with
  | none=>rw [hi] at h2; cases h2
  | some i=>
   rw [hi] at h2
   simp only [Bool.and_eq_true,beq_iff_eq,decide_eq_true_eq] at h2
   cases hz:i.zero with
   | none=>rw [hz] at h2; cases h2.2
   | some z=>
    rw [hz] at h2
    simp only [beq_iff_eq] at h2
    exact ⟨i,z,rfl,hz,h2.1.1.1,h2.1.1.2,h2.1.2,h2.2⟩
theorem Bv (t ty e:TypeId) (i:TypeInfo) (ht:P.underlying t=.some (.slice e)) (hi:P.info? e=.some i)
  (g o sLen sCap:Nat) (cur:Array Value) (hg:w.heap[g]?=.some (.cells cur e (0,0)))
  (a:Addr) (m c:Nat) (news:List Value) (hl:news.length=m * i.size) (hnews:∀ j u,news[j]?=.some u→w.cell? (a.add j)=.some u) (h1:∀ u∈news,u.oneCell'=true)
  (hroom:sLen+m≤sCap) (hfit:o+sLen * i.size+news.length≤cur.size) :
  (Builtin.append_ #[t,t] ty #[.slice (.some ⟨g,o,none⟩) sLen sCap,.slice (.some a) m c]).run P w =
   .ok (.slice (.some ⟨g,o,none⟩) (sLen+m) sCap) (w.setRow g (cur.toList.take (o+sLen * i.size)++news++cur.toList.drop (o+sLen * i.size+news.length)).toArray):=by
 have hf:=run_firstCells_some (P:=P) w i.size m a m c news hl hnews;have hst:=run_storeCells_at P g (o+sLen * i.size) e news 0 cur w hg (by simpa using hfit) h1
 simp only [Nat.add_zero] at hst
 simp [Builtin.append_,run_underlying ht,sizeOf,typeInfo,hi,Builtin.lenOf,hroom,hf,Addr.add_lit,hst]
theorem AR (t ty e:TypeId) (i:TypeInfo) (ht:P.underlying t=.some (.slice e)) (hi:P.info? e=.some i) (ad ad2:Option Addr) (sLen sCap c2:Nat) (h:sLen≤sCap) :
  (Builtin.append_ #[t,t] ty #[.slice ad sLen sCap,.slice ad2 0 c2]).run P w=.ok (.slice ad sLen sCap) w:=by
 cases ad <;> cases ad2 <;> simp [Builtin.append_,run_underlying ht,sizeOf,typeInfo,hi,Builtin.lenOf,h,Builtin.firstCells,storeCells,loadCells,loadCellsFrom]
def Appended (T:TypeId) (sz:Nat) (f:α→List Value) (v:Value) (zs:List α) (w:World) (v':Value) (w':World):Prop:=
 cv T sz f v' zs w'∧Chg (fun b=>b∈rowBs v) w w'∧∀ b,b∈rowBs v'→b∈rowBs v∨w.heap.size≤b
theorem cv.holds (hr:cv T sz f v xs w) (_hf:∀ x,(f x).length=sz) {g o n c:Nat} (hv:v=.slice (.some ⟨g,o,none⟩) n c):∀ j u,(xs.flatMap f)[j]?=.some u→w.cell? ((⟨g,o,none⟩:Addr).add j)=.some u:=by
 intro j u hu
 rcases hr with ⟨ad,rfl,rfl⟩ | ⟨g',o',cap,cur,rfl,h2,h3,h4,h5,_⟩
 ·simp at hu
 ·simp only [Value.slice.injEq,Option.some.injEq,Addr.mk.injEq] at hv
  obtain ⟨⟨rfl,rfl,_⟩,_,_⟩:=hv;rw [←h5,List.getElem?_take] at hu
  split at hu
  ·rw [List.getElem?_drop] at hu
   rw [Addr.add_lit]
   simp only [World.cell?,h3]
   simpa using hu
  ·cases hu
theorem RoAt.holds (hr:RoAt T sz f v xs w) {a:Addr} {n c:Nat} (hv:v=.slice (.some a) n c):∀ j u,(xs.flatMap f)[j]?=.some u→w.cell? (a.add j)=.some u:=by
 intro j u hu
 rcases hr with ⟨ad,cap,rfl,rfl⟩ | ⟨g,o,cap,cur,E,fz,rfl,h2,h3,h5,_⟩
 ·simp at hu
 ·simp only [Value.slice.injEq,Option.some.injEq] at hv
  obtain ⟨rfl,_,_⟩:=hv;rw [←h5,List.getElem?_take] at hu
  split at hu
  ·rw [List.getElem?_drop] at hu
   rw [Addr.add_lit]
   simp only [World.cell?,h3]
   simpa using hu
  ·cases hu
theorem uj {t ty:TypeId} {v2:Value} {zs:List α} (hT:rowTy P t T sz=true) (hf:∀ x,(f x).length=sz) (h1:∀ x,(f x).all Value.oneCell'=true)
  (hr:cv T sz f v xs w) (hr2:RoAt T sz f v2 ys w) (hz:appD xs ys=.some zs) :
  ∃ v' w',(Builtin.append_ #[t,t] ty #[v,v2]).run P w=.ok v' w'∧Appended T sz f v zs w v' w':=by
 obtain ⟨hn,rfl⟩:=Dl hz;obtain ⟨ht,i,z,hi,hiz,rfl,hsz,hby,hzs⟩:=o7 hT;have hone:∀ u,u∈ys.flatMap f→u.oneCell'=true:=by
  intro u hu;obtain ⟨x,_,hx⟩:=List.mem_flatMap.1 hu;exact List.all_eq_true.1 (h1 x) u hx
 have hl:=iH hf ys;have hlx:=iH hf xs;have hbytes:(xs.length+ys.length) * i.bytes≤140737488355328:=Nat.le_trans (Nat.mul_le_mul hn hby) ke
 have grown:∀ (old:Nat),old<xs.length+ys.length→∀ cells:Array Value,cells=((xs++ys).flatMap f).toArray++Builtin.zeroCells z.cells (grownCap w (xs.length+ys.length) old T - (xs.length+ys.length))→
   Appended T i.size f v (xs++ys) w (.slice (.some ⟨w.heap.size,0,none⟩) (xs.length+ys.length) (grownCap w (xs.length+ys.length) old T)) (w.drew.alloc (.cells cells T)):=by
  intro old ho cells hc;have hge:=grownCap_ge w (xs.length+ys.length) old T;have hlz:=iH hf (xs++ys);simp only [List.length_append] at hlz
  refine ⟨.inr ⟨w.heap.size,0,_,cells,by rw [List.length_append],by rw [List.length_append]; exact hge,heap_alloc_new w.drew _,?_,?_,kw⟩,⟨rfl,rfl,rfl,by simp,fun k hk _=>(heap_alloc_old (r:=k) w.drew _ (by simpa using hk):_)⟩,?_⟩
  ·have hlz':((xs++ys).flatMap f).length+(grownCap w (xs.length+ys.length) old T - (xs.length+ys.length)) * i.size=grownCap w (xs.length+ys.length) old T * i.size:=by
    rw [hlz,←Nat.add_mul]
    congr 1
    omega
   subst hc;simp only [Array.size_append,List.size_toArray,Builtin.zeroCells,Array.size_map,Array.size_range,hzs,Nat.zero_add];omega
  ·subst hc
   rw [List.length_append,←hlz,List.drop_zero]
   simp only [Array.toList_append]
   exact List.take_left
  ·intro b hb
   rcases jz hb with rfl
   exact .inr (Nat.le_refl _)
 rcases id hr2 with ⟨ad2,c2,rfl,rfl⟩ | ⟨g2,o2,cap2,cur2,E2,fz2,e2,h22,h23,h25,_⟩
 ·have:∃ ad n c,v=.slice ad n c∧n≤c:=by
   rcases hr with ⟨ad,rfl,_⟩ | ⟨g,o,cap,cur,rfl,h2,_⟩
   ·exact ⟨_,_,_,rfl,Nat.le_refl _⟩
   ·exact ⟨_,_,_,rfl,h2⟩
  obtain ⟨ad,n,c,rfl,hnc⟩:=this;exact ⟨_,_,AR t ty T i ht hi ad ad2 n c c2 hnc,by rw [List.append_nil]; exact hr,Chg.refl _ _,fun b hb=>.inl hb⟩
 ·have hh2:=hr2.holds e2
  subst e2
  rcases id hr with ⟨ad,rfl,rfl⟩ | ⟨g,o,cap,cur,e1,h2,h3,h4,h5,hcap⟩
  ·by_cases h0:ys=[]
   ·subst h0
    exact absurd rfl h22
   cases ad with
   | some ad=>
    have hp:0<ys.length:=List.length_pos_iff.2 h0;simp only [List.length_nil,Nat.zero_add] at hn hbytes grown
    have hq:=run_append_grow (P:=P) w t ty T i z ht hi hiz ad 0 0 [] yar (fun j u h=>by simp at h) ⟨g2,o2,none⟩ ys.length cap2 (ys.flatMap f) hl hh2 kw kw (growslice_fits kw (by rw [Nat.zero_add]; exact hbytes))
    refine ⟨_,_,hq,?_⟩;have:=grown 0 hp _ rfl;simpa using this
   | none=>
    have hp:0<ys.length:=List.length_pos_iff.2 h0;simp only [List.length_nil,Nat.zero_add] at hn hbytes grown
    have hq:=run_append_nil (P:=P) w t ty T i z ht hi hiz ⟨g2,o2,none⟩ ys.length cap2 (ys.flatMap f) hl hh2 hp kw kw
    refine ⟨_,_,hq,?_⟩;have:=grown 0 hp _ rfl;simpa using this
  ·subst e1
   by_cases hroom:xs.length+ys.length≤cap
   ·have hm:(xs.length+ys.length) * i.size≤cap * i.size:=Nat.mul_le_mul_right _ hroom
    rw [Nat.add_mul] at hm
    have hfit:o+xs.length * i.size+(ys.flatMap f).length≤cur.size:=by rw [hl]; omega
    have hq:=Bv (P:=P) t ty T i ht hi g o xs.length cap cur h3 ⟨g2,o2,none⟩ ys.length cap2 (ys.flatMap f) hl hh2 hone hroom hfit;refine ⟨_,_,hq,.inr ⟨g,o,cap,_,by rw [List.length_append],by rw [List.length_append]; exact hroom,setRow_heap w g cur _ T _ h3,?_,?_,hcap⟩,⟨rfl,rfl,rfl,by simp,fun k _ hk=>setRow_other w g k _ fun e=>hk (e ▸ jC hcap)⟩,fun b hb=>.inl (jz hb ▸ jC hcap)⟩
    ·simp only [List.size_toArray,List.length_append,List.length_take,List.length_drop,Array.length_toList]
     omega
    ·rw [List.flatMap_append,←h5,List.length_append,Nat.add_mul]
     simp only [List.append_assoc]
     rw [List.drop_append_of_le_length yaq,List.drop_take]
     rw [show o+xs.length * i.size - o=xs.length * i.size from by omega]
     have hA:(List.take (xs.length * i.size) (cur.toList.drop o)).length=xs.length * i.size:=by rw [h5,hlx]
     rw [List.take_append,hA,show xs.length * i.size+ys.length * i.size - xs.length * i.size=(ys.flatMap f).length from by rw [hl]; omega,List.take_left]
     rw [List.take_of_length_le kw]
   ·have hq:=run_append_grow (P:=P) w t ty T i z ht hi hiz ⟨g,o,none⟩ xs.length cap (xs.flatMap f) hlx (hr.holds hf rfl) ⟨g2,o2,none⟩ ys.length cap2 (ys.flatMap f) hl hh2 kw kw (growslice_fits kw hbytes)
    refine ⟨_,_,hq,?_⟩;have:=grown cap kw _ rfl;simpa using this
section
variable {a : Act} {d : Option Tmp} {ty : TypeId} {pos : String} {aft : Array Edge} {N : Nat} {s : SL} (hfr : Fr a N s)
include hfr
theorem dP {x y:Operand} {t:TypeId} {v2:Value} {zs:List α} {R:Value→World→Prop} (hT:rowTy P t T sz=true) (hf:∀ x,(f x).length=sz) (h1:∀ x,(f x).all Value.oneCell'=true)
  (hr:cv T sz f v xs w) (hr2:RoAt T sz f v2 ys w) (hz:appD xs ys=.some zs) (hx:lookO s x=v) (hy:lookO s y=v2) (h:∀ v' w',Appended T sz f v zs w v' w'→R v' w') :
  Yields P ⟨d,.call ⟨.builtin .append,#[x,y],#[t,t]⟩,ty,pos,aft,none⟩ a w R:=by
 obtain ⟨v',w',hq,ha⟩:=uj (ty:=ty) hT hf h1 hr hr2 hz;refine .of_run (v:=v') (w':=w') ?_ (h v' w' ha);have e:(#[x,y]:Array Operand).map a.eval=#[v,v2]:=hfr.evs (xs:=[x,y]) (vs:=[v,v2]) (lc2 hx hy);simp only [execOp,resolve,e,Sem.run_bind,Sem.run_pure,Result.andThen_ok,invoke,builtin,hq]
end
section
variable {ops : Array Oper} {rest : List Oper} {Q : Exit → Act → World → Prop} {a : Act} {N : Nat} {s : SL}
theorem dT {o:Oper} {zs:List α} (T:TypeId) (sz:Nat) (f:α→List Value) (v:Value) (hfr:Fr a N s) (hy:∀ R:Value→World→Prop,(∀ v' w',Appended T sz f v zs w v' w'→R v' w')→Yields P o a w R) (hg:(o.guard.isNone&&dstIn N o.dst)=true)
  (hk:∀ a v' w',Appended T sz f v zs w v' w'→Fr a N (putS s o.dst v')→wpList P ops Q rest a w'):wpList P ops Q (o::rest) a w:=by
 simp only [Bool.and_eq_true] at hg
 exact gJ yaJ (hy (fun v' w'=>Appended T sz f v zs w v' w') fun _ _ h=>h) fun v' w' h=>hk _ v' w' h (hfr.put _ hg.2)
end
theorem Post.append {Z:Nat→Prop} {L:List Ck} {w0:World} {i:Nat} {v':Value} {zs:List α} (h:Post Z L w0 w) (hi:L[i]?=.some (rowK T sz f v xs)) (ha:Appended T sz f v zs w v' w'):Post Z (L.set i (rowK T sz f v' zs)) w0 w':=by
 have:=h.set (N:=[]) hi (c':=rowK T sz f v' zs) ⟨⟨iR ha.1,ha.2.1,fun c hc b hb=>by rcases List.mem_singleton.1 hc with rfl; exact ha.2.2 b hb⟩,fun c hc b hb=>by rcases List.mem_singleton.1 hc with rfl; cases hb⟩
 rwa [List.append_nil] at this
theorem Post.row {Z:Nat→Prop} {L:List Ck} {w0:World} {i:Nat} (h:Post Z L w0 w) (hi:L[i]?=.some (rowK T sz f v xs)):cv T sz f v xs w:=h.sep.get hi
theorem Post.ro {Z:Nat→Prop} {L:List Ck} {w0:World} {i:Nat} (h:Post Z L w0 w) (hi:L[i]?=.some (roK T sz f v xs)):RoAt T sz f v xs w:=h.sep.get hi
theorem Sep.weakAt {c c':Ck} (hc:c'.ok w) (h1:∀ b,c'.has b→c.has b) (h2:∀ b,b∈c'.own→b∈c.own):∀ (L:List Ck) (i:Nat),Sep L w→L[i]?=.some c→Sep (L.set i c') w
 | [],_,_,hi=>by simp at hi
 | d::L,0,h,hi=>by
  simp only [List.getElem?_cons_zero,Option.some.injEq] at hi
  subst hi;exact ⟨hc,fun b hb=>h.2.1 b (h1 b hb),fun e he=>⟨fun b hb=>(h.2.2.1 e he).1 b (h2 b hb),fun b hb hb'=>(h.2.2.1 e he).2 b hb (h1 b hb')⟩,h.2.2.2⟩
 | d::L,i+1,h,hi=>by
  simp only [List.getElem?_cons_succ] at hi
  refine ⟨h.1,h.2.1,fun e he=>?_,Sep.weakAt hc h1 h2 L i h.2.2.2 hi⟩
  rcases List.mem_or_eq_of_mem_set he with he | rfl
  ·exact h.2.2.1 e he
  ·have hcd:=h.2.2.1 c (List.mem_of_getElem? hi)
   exact ⟨fun b hb hb'=>hcd.1 b hb (h1 b hb'),fun b hb hb'=>hcd.2 b (h2 b hb) hb'⟩
theorem qw {b:Nat} (hr:cv T sz f v xs w) (h:b∈rdBs v):b∈rowBs v:=by
 rcases hr with ⟨ad,rfl,rfl⟩ | ⟨g,o,cap,cur,rfl,h2,h3,h4,h5,hcap⟩
 ·cases ad <;> cases h
 ·cases xs with
  | nil=>cases h
  | cons x xs=>rcases List.mem_singleton.1 h with rfl; exact jC hcap
theorem Post.toRo {Z:Nat→Prop} {L:List Ck} {w0:World} {i:Nat} (h:Post Z L w0 w) (hi:L[i]?=.some (rowK T sz f v xs)):Post Z (L.set i (roK T sz f v xs)) w0 w:=by
 have hr:cv T sz f v xs w:=h.sep.get hi;refine ⟨Sep.weakAt (c:=rowK T sz f v xs) (c':=roK T sz f v xs) hr.ro (fun b hb=>?_) (fun b hb=>(by cases hb)) L i h.sep hi,h.chg,fun c hc b hb=>?_⟩
 ·rcases hb with hb | hb
  ·cases hb
  ·exact .inl (qw hr hb)
 ·rcases List.mem_or_eq_of_mem_set hc with hc | rfl
  ·exact h.mine c hc b hb
  ·cases hb
theorem cv.nil:cv T sz f (.slice none 0 0) ([]:List α) w:=.inl ⟨_,rfl,rfl⟩
theorem cv.vk {b n:Nat} (h:w.heap[b]?=.some (.cells (xs.flatMap f).toArray T (0,0))) (hf:∀ x,(f x).length=sz) (hn:xs.length=n):cv T sz f (.slice (.some ⟨b,0,none⟩) n n) xs w:=by
 subst hn;cases xs with
 | nil=>exact .inl ⟨_,rfl,rfl⟩
 | cons x xs=>
 refine .inr ⟨b,0,_,_,rfl,Nat.le_refl _,h,?_,?_,by simp⟩
 ·simp only [List.size_toArray,iH hf]; omega
 ·rw [←iH hf]; exact List.take_length
theorem Post.newRow {Z:Nat→Prop} {L:List Ck} {w0:World} {b n:Nat} (h:Post Z L w0 w) (hn:New w w' b (.cells (xs.flatMap f).toArray T (0,0))) (hf:∀ x,(f x).length=sz) (hl:xs.length=n) :
  Post Z (L++[rowK T sz f (.slice (.some ⟨b,0,none⟩) n n) xs]) w0 w':=
 h.add ⟨⟨iR (cv.vk hn.at_ hf hl),Chg.of_below hn.below,fun c hc b' hb=>by rcases List.mem_singleton.1 hc with rfl; rcases jz hb with rfl; exact .inr (Nat.le_of_eq hn.eq.symm)⟩,fun c hc b' hb=>by rcases List.mem_singleton.1 hc with rfl; cases hb⟩
theorem MkP.row {T':TypeId} {lo hi:Nat} (h:MkP (fun y:Value=>y) (fun y=>[rowK T sz f y xs]) v lo hi w):RoAt T' sz f v xs w:=by
 obtain ⟨y,rfl,hs,_⟩:=h;exact (hs.get (i:=0) (c:=rowK T sz f v xs) rfl).ro
theorem MkP.newRow {b n:Nat} (hn:New w w' b (.cells (xs.flatMap f).toArray T (0,0))) (hf:∀ x,(f x).length=sz) (hl:xs.length=n):MkP (fun y:Value=>y) (fun y=>[rowK T sz f y xs]) (.slice (.some ⟨b,0,none⟩) n n) w.heap.size w'.heap.size w':=by
 refine ⟨_,rfl,iR (cv.vk hn.at_ hf hl),fun c hc b' hb=>?_⟩
 rcases List.mem_singleton.1 hc with rfl
 rcases hb with hb | hb
 ·rcases jz hb with rfl
  exact ⟨Nat.le_of_eq hn.eq.symm,q7 hn.at_⟩
 ·cases hb
theorem Post.nilRow {Z:Nat→Prop} {L:List Ck} {w0:World} (T:TypeId) (sz:Nat) (f:α→List Value) (h:Post Z L w0 w):Post Z (L++[rowK T sz f (.slice none 0 0) []]) w0 w:=
 h.add ⟨⟨iR cv.nil,Chg.refl _ _,fun c hc b' hb=>by rcases List.mem_singleton.1 hc with rfl; cases hb⟩,fun c hc b' hb=>by rcases List.mem_singleton.1 hc with rfl; cases hb⟩
end
/-! ### Parts of rows -/
section
variable {α : Type} {P : Program} {T : TypeId} {sz : Nat} {f : α → List Value} {v : Value} {xs ys : List α} {w w' : World}
def cz (xs:List α) (lo hi:Int):Option (List α):=if 0≤lo∧lo≤hi∧hi≤xs.length then some ((xs.drop lo.toNat).take (hi.toNat - lo.toNat)) else none
theorem nV {lo hi:Int} (h:cz xs lo hi=some ys):(0≤lo∧lo≤hi∧hi≤xs.length)∧ys=(xs.drop lo.toNat).take (hi.toNat - lo.toNat):=by
 unfold cz at h
 split at h
 ·rename_i h1; exact ⟨h1,(Option.some.inj h).symm⟩
 ·cases h
def cD (sz:Nat) (v:Value) (l h:Nat):Value:=match v with
 | .slice a _ cap=>.slice (if cap=l then a else a.map (·.add (l * sz))) (h - l) (cap - l)
 | v=>v
theorem uD (hf:∀ x,(f x).length=sz) (l n:Nat):((xs.flatMap f).drop (l * sz)).take (n * sz)=((xs.drop l).take n).flatMap f:=by
 have hd:∀ (xs:List α) (l:Nat),(xs.flatMap f).drop (l * sz)=(xs.drop l).flatMap f:=by
  intro xs
  induction xs with
  | nil=>intro l; simp
  | cons x xs ih=>
   intro l;cases l with
   | zero=>simp
   | succ l=>
    rw [List.flatMap_cons,List.drop_succ_cons,←ih l,show (l+1) * sz=(f x).length+l * sz from by rw [hf,Nat.add_mul]; omega,←List.drop_drop,List.drop_left]
 have ht:∀ (xs:List α) (n:Nat),(xs.flatMap f).take (n * sz)=(xs.take n).flatMap f:=by
  intro xs
  induction xs with
  | nil=>intro l; simp
  | cons x xs ih=>
   intro n;cases n with
   | zero=>simp
   | succ n=>
    rw [List.take_succ_cons,List.flatMap_cons,List.flatMap_cons,←ih n,show (n+1) * sz=(f x).length+n * sz from by rw [hf,Nat.add_mul]; omega,List.take_length_add_append]
 rw [hd,ht]
theorem vo {lo hi:Int} (h:cz xs lo hi=some ys):ys.length=hi.toNat - lo.toNat:=by
 obtain ⟨⟨h0,h1,h2⟩,rfl⟩:=nV h;simp only [List.length_take,List.length_drop];omega
theorem RoAt.slice {lo hi:Int} (hr:RoAt T sz f v xs w) (hf:∀ x,(f x).length=sz) (h:cz xs lo hi=.some ys):RoAt T sz f (cD sz v lo.toNat hi.toNat) ys w:=by
 have hl:=vo h;obtain ⟨⟨h0,h1,h2⟩,hy⟩:=nV h
 by_cases he:ys=[]
 ·subst he
  have hz:hi.toNat - lo.toNat=0:=hl.symm
  rcases hr with ⟨ad,cap,rfl,rfl⟩ | ⟨g,o,cap,cur,E,fz,rfl,_⟩
  ·exact .inl ⟨_,_,by simp only [cD,hz]; rfl,rfl⟩
  ·exact .inl ⟨_,_,by simp only [cD,hz]; rfl,rfl⟩
 ·rcases hr with ⟨ad,cap,rfl,rfl⟩ | ⟨g,o,cap,cur,E,fz,rfl,h3,h4,h5,h6⟩
  ·simp at hy; exact absurd hy he
  ·have hlt:lo.toNat<cap:=by
    have:ys.length≠0:=fun h=>he (List.eq_nil_of_length_eq_zero h)
    omega
   refine .inr ⟨g,o+lo.toNat * sz,cap - lo.toNat,cur,E,fz,?_,he,h4,?_,kw⟩
   ·simp only [cD]
    rw [if_neg kw,hl]
    simp only [Option.map_some,Addr.add_lit]
   ·rw [hl,hy,←uD hf,←h5,←List.drop_drop]
    rw [List.drop_take,List.take_take]
    congr 1
    have:hi.toNat * sz≤xs.length * sz:=Nat.mul_le_mul_right _ kw
    have h7:(hi.toNat - lo.toNat) * sz=hi.toNat * sz - lo.toNat * sz:=Nat.sub_mul ..;omega
theorem cv.slice {lo hi:Int} (hr:cv T sz f v xs w) (hf:∀ x,(f x).length=sz) (h:cz xs lo hi=some ys):cv T sz f (cD sz v lo.toNat hi.toNat) ys w∧∀ b,b∈rowBs (cD sz v lo.toNat hi.toNat)→b∈rowBs v:=by
 have hl:=vo h;obtain ⟨⟨h0,h1,h2⟩,hy⟩:=nV h
 rcases hr with ⟨ad,rfl,rfl⟩ | ⟨g,o,cap,cur,rfl,h3,h4,h5,h6,hcap⟩
 ·simp only [List.length_nil] at h2
  have hh:hi.toNat=0:=kw
  have hlo:lo.toNat=0:=kw
  simp only [List.drop_nil,List.take_nil] at hy
  subst hy;have e:cD sz (.slice ad 0 0) lo.toNat hi.toNat=.slice ad 0 0:=by rw [hh,hlo]; simp [cD]
  rw [e]
  exact ⟨.inl ⟨_,rfl,rfl⟩,fun b hb=>hb⟩
 ·by_cases hc:cap=lo.toNat
  ·have e:cD sz (.slice (.some ⟨g,o,none⟩) xs.length cap) lo.toNat hi.toNat=.slice (.some ⟨g,o,none⟩) ys.length 0:=by
    simp only [cD,hc,if_true,hl,Nat.sub_self]
   rw [e]
   have:ys=[]:=List.eq_nil_of_length_eq_zero kw
   subst this;exact ⟨.inl ⟨_,rfl,rfl⟩,fun b hb=>by rw [nM] at hb; cases hb⟩
  ·have e:cD sz (.slice (.some ⟨g,o,none⟩) xs.length cap) lo.toNat hi.toNat=.slice (.some ⟨g,o+lo.toNat * sz,none⟩) ys.length (cap - lo.toNat):=by
    simp only [cD,if_neg hc,hl,Option.map_some,Addr.add_lit]
   rw [e]
   have hcc:(cap - lo.toNat) * sz=cap * sz - lo.toNat * sz:=Nat.sub_mul ..;have hcm:lo.toNat * sz≤cap * sz:=Nat.mul_le_mul_right _ kw
   refine ⟨.inr ⟨g,o+lo.toNat * sz,cap - lo.toNat,cur,rfl,kw,h4,kw,?_,kw⟩,fun b hb=>jz hb ▸ jC hcap⟩
   rw [hl,hy,←uD hf,←h6,←List.drop_drop]
   rw [List.drop_take,List.take_take]
   congr 1
   have:hi.toNat * sz≤xs.length * sz:=Nat.mul_le_mul_right _ kw
   have h7:(hi.toNat - lo.toNat) * sz=hi.toNat * sz - lo.toNat * sz:=Nat.sub_mul ..;omega
def loOf:Option Value→Int
 | some (.int _ n)=>n
 | _=>0
def hiOf (n:Nat):Option Value→Int
 | some (.int _ n)=>n
 | _=>n
def intO:Option Value→Bool
 | some (.int _ _)=>true
 | none=>true
 | _=>false
theorem D4 {t e:TypeId} {ad:Option Addr} {n cap:Nat} {lo hi:Option Value} (ht:P.underlying t=some (.slice e)) (hs:(sizeOf e).run P w=.ok sz w) (hil:intO lo=true) (hih:intO hi=true) (hn:n≤cap) (h0:0≤loOf lo) (h1:loOf lo≤hiOf n hi) (h2:hiOf n hi≤n) :
  (Instr.sliceAt t (.slice ad n cap) lo hi none).run P w=.ok (cD sz (.slice ad n cap) (loOf lo).toNat (hiOf n hi).toNat) w:=by
 have key:∀ (l h:Int) (lo hi:Option Value),(Instr.sliceBounds true n cap lo hi none).run P w=.ok (l.toNat,h.toNat,cap) w→(Instr.sliceAt t (.slice ad n cap) lo hi none).run P w=.ok (cD sz (.slice ad n cap) l.toNat h.toNat) w:=by
  intro l h lo hi hb;simp only [Instr.sliceAt,Instr.slice,Sem.run_bind,run_underlying ht,Result.andThen_ok,hb,hs,Sem.run_pure,cD]
 refine key _ _ lo hi ?_;cases lo with
 | none=>
  cases hi with
  | none=>simp [Instr.sliceBounds,loOf,hiOf]
  | some h=>
   cases h with
   | int k m=>
    simp only [loOf,hiOf] at *
    simp [Instr.sliceBounds,run_sliceBound (P:=P) (w:=w) k m cap _ kw kw]
   | _=>cases hih
 | some l=>
  cases l with
  | int k l=>
   cases hi with
   | none=>
    simp only [loOf,hiOf] at *
    simp [Instr.sliceBounds,run_sliceBound (P:=P) (w:=w) k l n _ kw kw]
   | some h=>
    cases h with
    | int k2 m=>
     simp only [loOf,hiOf] at *
     have e1:=fun c=>run_sliceBound (P:=P) (w:=w) k2 m cap c kw kw
     have e2:=fun c=>run_sliceBound (P:=P) (w:=w) k l m.toNat c kw kw
     simp [Instr.sliceBounds,e1,e2]
    | _=>cases hih
  | _=>cases hil
end
section
variable {α : Type} {P : Program} {T : TypeId} {sz : Nat} {f : α → List Value} {v : Value} {xs ys : List α} {w : World} {a : Act} {d : Option Tmp} {ty : TypeId} {pos : String} {aft : Array Edge} {N : Nat} {s : SL}
theorem RoAt.capped (hr:RoAt T sz f v xs w):∃ ad c,v=.slice ad xs.length c∧xs.length≤c:=by
 rcases hr with ⟨ad,cap,rfl,rfl⟩ | ⟨g,o,cap,cur,E,fz,rfl,_,_,_,h⟩
 ·exact ⟨_,_,rfl,Nat.zero_le _⟩
 ·exact ⟨_,_,rfl,h⟩
theorem fD {x:Operand} {t:TypeId} {lo hi:Option Operand} {vlo vhi:Option Value} {l h:Int} {R:Value→World→Prop} {w1:World} (hfr:Fr a N s) (hr:RoAt T sz f v xs w1) (ht:sliceTy P t sz=true) (hx:lookO s x=v) (hlo:lo.map (lookO s)=vlo) (hhi:hi.map (lookO s)=vhi)
  (hil:intO vlo=true) (hih:intO vhi=true) (hl:loOf vlo=l) (hh:hiOf xs.length vhi=h) (hD:cz xs l h=some ys) (hR:R (cD sz v l.toNat h.toNat) w):Yields P ⟨d,.slice t x lo hi none,ty,pos,aft,none⟩ a w R:=by
 obtain ⟨ad,c,rfl,hc⟩:=hr.capped;obtain ⟨⟨h0,h1,h2⟩,_⟩:=nV hD;refine .of_run (v:=_) (w':=w) ?_ hR;unfold sliceTy at ht
 cases h2':P.underlying t with
 | none=>rw [h2'] at ht; cases ht
 | some d1=>
  rw [h2'] at ht
  cases d1 with
  | slice e=>
   have hs:(sizeOf e).run P w=.ok sz w:=fU ht;have he:∀ o:Option Operand,o.map a.eval=o.map (lookO s):=fun o=>by cases o with
    | none=>rfl
    | some o=>simp [hfr.eval]
   subst hl; subst hh;have hq:=D4 (P:=P) (w:=w) (ad:=ad) h2' hs hil hih hc h0 h1 h2;simp only [execOp,hfr.ev hx,he,hlo,hhi,Option.map_none,Sem.run_bind,hq,Result.andThen_ok,Sem.run_pure]
  | _=>cases ht
theorem Post.narrow {Z:Nat→Prop} {L:List Ck} {w0:World} {i:Nat} {lo hi:Int} (h:Post Z L w0 w) (hi':L[i]?=.some (rowK T sz f v xs)) (hf:∀ x,(f x).length=sz) (hD:cz xs lo hi=some ys):Post Z (L.set i (rowK T sz f (cD sz v lo.toNat hi.toNat) ys)) w0 w:=by
 obtain ⟨h1,h2⟩:=cv.slice (h.row hi') hf hD;have:=h.set (N:=[]) hi' (c':=rowK T sz f (cD sz v lo.toNat hi.toNat) ys) ⟨⟨iR h1,Chg.refl _ _,fun c hc b hb=>by rcases List.mem_singleton.1 hc with rfl; exact .inl (h2 b hb)⟩,fun c hc b hb=>by rcases List.mem_singleton.1 hc with rfl; cases hb⟩
 rwa [List.append_nil] at this
end
/-! ### A thing put into a row; rows that are made -/
section
variable {α : Type} {P : Program} {T : TypeId} {f : α → List Value} {v : Value} {xs : List α} {w w' : World}
theorem ug (hf:∀ x,(f x).length=1) {x1:α} {u:Value} (hu:f x1=[u]):∀ (xs:List α) (i:Nat),(xs.set i x1).flatMap f=(xs.flatMap f).set i u
 | [],_=>by simp
 | x::xs,0=>by
  obtain ⟨y,hy⟩:=List.length_eq_one_iff.1 (hf x);simp [List.flatMap_cons,hu,hy]
 | x::xs,i+1=>by
  obtain ⟨y,hy⟩:=List.length_eq_one_iff.1 (hf x);simp [List.flatMap_cons,hy,ug hf hu xs i]
theorem qG {a:Act} {d:Option Tmp} {ty:TypeId} {pos:String} {aft:Array Edge} {N:Nat} {s:SL} (hfr:Fr a N s) {x y:Operand} {t:TypeId} {i:Int} {x0 x1:α} {u:Value} {R:Value→World→Prop} (hr:cv T 1 f v xs w) (hi:getI xs i=some x0)
  (hf:∀ x,(f x).length=1) (hu:f x1=[u]) (hp:plainCell u=true) (hc:u.cells=#[u]) (hx:lookO s x=.pointer (some ⟨rowB v,rowO v+i.toNat * 1,none⟩)) (hy:lookO s y=u) (ht:sized P t 1=true)
  (h:∀ w',Appended T 1 f v (xs.set i.toNat x1) w v w'→R undef w'):Yields P ⟨d,.store t x y,ty,pos,aft,none⟩ a w R:=by
 obtain ⟨h0,h1,h2,_⟩:=fA hi
 rcases id hr with ⟨ad,rfl,rfl⟩ | ⟨g,o,cap,cur,rfl,h3,h4,h5,h6,hcap⟩
 ·cases h2
 ·refine bb hfr (o:=o+i.toNat * 1) (v:=u) (c':=over cur (o+i.toNat * 1) [u]) hx hy h4 (by rw [hc]; exact ht) (by rw [hc]; show o+i.toNat * 1+1≤cur.size; omega) (by rw [hc]; simp [hp]) (by rw [hc]) fun w' hu'=>h w' ?_
  refine ⟨.inr ⟨g,o,cap,_,by rw [List.length_set],by rw [List.length_set]; exact h3,hu'.at_,by rw [uA]; exact h5,?_,hcap⟩,⟨hu'.os,hu'.tape,hu'.output,Nat.le_of_eq hu'.size.symm,fun k _ hk=>hu'.other k fun e=>hk (e ▸ jC hcap)⟩,fun b hb=>.inl hb⟩
  rw [ug hf hu,←h6,List.length_set]
  simp only [over,Array.toList_setIfInBounds]
  rw [List.drop_set,if_neg kw,List.take_set]
  congr 1
  omega
theorem qY {ops:Array Oper} {rest:List Oper} {Q:Exit→Act→World→Prop} {a:Act} {N:Nat} {s:SL} {o:Oper} (T:TypeId) (f:α→List Value) (v:Value) (zs:List α) (hfr:Fr a N s)
  (hy:∀ R:Value→World→Prop,(∀ w',Appended T 1 f v zs w v w'→R undef w')→Yields P o a w R) (hg:(o.guard.isNone&&dstIn N o.dst)=true)
  (hk:∀ a w',Appended T 1 f v zs w v w'→Fr a N (putS s o.dst undef)→wpList P ops Q rest a w'):wpList P ops Q (o::rest) a w:=by
 simp only [Bool.and_eq_true] at hg
 exact gJ yaJ (hy (fun v' w'=>v'=undef∧Appended T 1 f v zs w v w') fun _ h=>⟨rfl,h⟩) fun v' w' h=>by rw [h.1]; exact hk _ w' h.2 (hfr.put _ hg.2)
def makeD (z:α) (n:Int):Option (List α):=if 0≤n∧n≤16777216 then some (List.replicate n.toNat z) else none
theorem vn {z:α} {n:Int} (h:makeD z n=some xs):0≤n∧n≤16777216∧xs=List.replicate n.toNat z:=by
 unfold makeD at h
 split at h
 ·rename_i h1; exact ⟨h1.1,h1.2,(Option.some.inj h).symm⟩
 ·cases h
theorem uK {z:α} {n:Int} (h:makeD z n=some xs):xs.length=n.toNat:=by
 obtain ⟨_,_,rfl⟩:=vn h;simp
theorem uS {a:Act} {d:Option Tmp} {ty:TypeId} {pos:String} {aft:Array Edge} {N:Nat} {s:SL} (hfr:Fr a N s) {x y:Operand} {t e:TypeId} {n:Int} {z:α} {u:Value} {R:Value→World→Prop} (hT:rowTy P t e 1=true) (hz:zeroOf P e=some u) (hzf:f z=[u]) (hc:u.cells=#[u])
  (hx:lookO s x=.int .i64 n) (hy:lookO s y=.int .i64 n) (hD:makeD z n=some xs)
  (hr:∀ b w',New w w' b (.cells (xs.flatMap f).toArray e (0,0))→R (.slice (some ⟨b,0,none⟩) n.toNat n.toNat) w'):Yields P ⟨d,.makeSlice t x y,ty,pos,aft,none⟩ a w R:=by
 obtain ⟨h0,h1,rfl⟩:=vn hD;obtain ⟨ht,i,z',hi,hiz,hsz,_,hby,_⟩:=o7 hT;have hzz:z'=u:=by
  unfold zeroOf at hz
  rw [hi] at hz
  simp only [hiz] at hz
  exact Option.some.inj hz
 subst hzz;have hb2:(i.bytes:Int) * n≤65536 * 16777216:=Int.mul_le_mul kw h1 h0 kw;have hr1:=run_makeSlice (P:=P) (w:=w) t e i z' ht hi hiz .i64 .i64 n n h0 (Int.le_refl _) (by rw [hsz]; omega) kw kw;have hcc:madeCells z'.cells (n.toNat * i.size)=((List.replicate n.toNat z).flatMap f).toArray:=by
  rw [hsz,hc,Nat.mul_one]
  have hfm:(List.replicate n.toNat z).flatMap f=List.replicate n.toNat z':=by
   induction n.toNat with
   | zero=>rfl
   | succ k ih=>rw [List.replicate_succ,List.flatMap_cons,hzf,ih]; rfl
  rw [hfm]
  apply Array.ext
  ·simp [madeCells]
  ·intro j h1 h2
   simp only [madeCells,Array.size_map,Array.size_range] at h1
   simp only [madeCells,Array.getElem_map,Array.getElem_range,List.getElem_toArray,List.getElem_replicate]
   have:j % (#[z']:Array Value).size=0:=by
    show j % 1=0
    omega
   rw [this]
   rfl
 rw [hcc] at hr1
 refine .of_run (v:=.slice (some ⟨w.heap.size,0,none⟩) n.toNat n.toNat) (w':=w.alloc (.cells ((List.replicate n.toNat z).flatMap f).toArray e)) ?_ (hr _ _ (New.lG _ _));simp only [execOp,hfr.ev hx,hfr.ev hy,Sem.run_bind,hr1,Result.andThen_ok,Sem.run_pure]
end
/-! ### Structs of integers compared -/
section
variable {P : Program} {w : World}
theorem tN (d:Nat) (xs ys:Array Value):∀ (fs:List Go.Field) (l:List (IntKind × Int × Int)),
  fs.map (fun f=>(f.name !="_"&&P.plainKey f.type,P.underlying f.type))=l.map (fun q=>(true,some (.int q.1)))→
  fs.map (fun f=>(xs[f.offset]?,ys[f.offset]?))=l.map (fun q=>(some (.int q.1 q.2.1),some (.int q.1 q.2.2)))→
  (Op.eqFields (d+1) xs ys fs).run P w=.ok (l.all fun q=>q.2.1==q.2.2) w
 | [],[],_,_=>by simp [Op.eqFields]
 | [],_::_,h,_=>by simp at h
 | _::_,[],h,_=>by simp at h
 | f::fs,q::l,h,h2=>by
  simp only [List.map_cons,List.cons.injEq,Prod.mk.injEq,Bool.and_eq_true,bne_iff_ne] at h h2
  obtain ⟨⟨⟨hn,hp⟩,hu⟩,ht⟩:=h;obtain ⟨⟨hx,hy⟩,ht2⟩:=h2;have ih:=tN d xs ys fs l ht ht2;have p1:=run_part_plain (P:=P) (w:=w) hp hx;have p2:=run_part_plain (P:=P) (w:=w) hp hy;simp only [Op.eqFields,hn,ne_eq,not_false_eq_true,if_true,Sem.run_bind,p1,p2,Result.andThen_ok,run_equalIn_int w d f.type q.1 q.1 q.2.1 q.2.2 hu,List.all_cons];cases q.2.1==q.2.2
  ·simp
  ·simpa using ih
theorem vI {t:TypeId} {xs ys:Array Value} (l:List (IntKind × Int × Int)) (ht:P.underlying t=some (.struct (P.fieldsOf t))) (hp:P.stoodInHeld t=false)
  (h:(P.fieldsOf t).toList.map (fun f=>(f.name !="_"&&P.plainKey f.type,P.underlying f.type))=l.map (fun q=>(true,some (.int q.1))))
  (h2:(P.fieldsOf t).toList.map (fun f=>(xs[f.offset]?,ys[f.offset]?))=l.map (fun q=>(some (.int q.1 q.2.1),some (.int q.1 q.2.2)))) {b:Bool} (hb:(l.all fun q=>q.2.1==q.2.2)=b) :
  (binOp .eql t (.agg xs) (.agg ys)).run P w=.ok (.bool b) w∧(binOp .neq t (.agg xs) (.agg ys)).run P w=.ok (.bool !b) w:=by
 subst hb;have he:(Op.equalIn 10000 t (.agg xs) (.agg ys)).run P w=.ok (l.all fun q=>q.2.1==q.2.2) w:=by
  rw [run_equalIn_struct w 9999 t xs ys ht hp]
  exact tN 9998 xs ys _ l h h2
 rw [run_eql_struct,run_neq_struct,he]
 exact ⟨rfl,rfl⟩
end
def arrTy (P:Program) (t:TypeId) (n k:Nat):Bool:=match P.underlying t with | some (.array m e)=>m==n&&sized P e k&&!(n==0) | _=>false
theorem xW {P:Program} {w:World} {a:Act} {d:Option Tmp} {ty:TypeId} {pos:String} {aft:Array Edge} {N:Nat} {s:SL} {x:Operand} {t:TypeId} {b n k:Nat} {R:Value→World→Prop} (hfr:Fr a N s) (ht:arrTy P t n k=true)
  (hx:lookO s x=.pointer (some ⟨b,0,none⟩)) (hR:R (.slice (some ⟨b,0,none⟩) n n) w):Yields P ⟨d,.slice t x none none none,ty,pos,aft,none⟩ a w R:=by
 refine .of_run (v:=.slice (some ⟨b,0,none⟩) n n) (w':=w) ?_ hR;unfold arrTy at ht
 cases h2:P.underlying t with
 | none=>rw [h2] at ht; cases ht
 | some d1=>
  rw [h2] at ht
  cases d1 with
  | array m e=>
   simp only [Bool.and_eq_true,beq_iff_eq,Bool.not_eq_true',beq_eq_false_iff_ne] at ht
   obtain ⟨⟨rfl,ht⟩,_⟩:=ht;have hs:(sizeOf e).run P w=.ok k w:=fU ht;simp [execOp,hfr.ev hx,Instr.sliceAt,Instr.sureAddr,Instr.sliceBounds,run_underlying h2,hs,Addr.add]
  | _=>cases ht
theorem RoAt.ofCell {α:Type} {T E:TypeId} {sz:Nat} {f:α→List Value} {b n:Nat} {xs:List α} {w:World} {c:Array Value} (h:w.heap[b]?=.some (.cells c E (0,0))) (hn:xs.length=n) (hne:xs≠[]) (hc:c.toList.take (n * sz)=xs.flatMap f) :
  RoAt T sz f (.slice (.some ⟨b,0,none⟩) n n) xs w:=by
 subst hn;exact .inr ⟨b,0,xs.length,c,E,(0,0),rfl,hne,h,by rw [List.drop_zero]; exact hc,Nat.le_refl _⟩
structure CallL where
 kind:Int
 k:Int
 v:Int
 deriving DecidableEq
def dK (x:CallL):List Value:=[(.int .u8 x.kind),(.int .u8 x.k),(.int .u8 x.v)]
structure Arr3F where
 f0:Field
 f1:Field
 f2:Field
 deriving DecidableEq
def dz (x:Arr3F):List Value:=(aS x.f0)++(aS x.f1)++(aS x.f2)
structure Entry where
 key:Int
 value:Int
 deriving DecidableEq
def aM (x:Entry):List Value:=[(.int .u64 x.key),(.int .u64 x.value)]
theorem gY:ba y6 190 0 0:=kz
theorem lK:ba y6 190 1 1:=kz
theorem ra:ba y6 190 2 2:=kz
theorem dV:tyA y6 190 3:=kz
theorem eP:sized y6 190 3:=kz
theorem ts3:sized y6 3 1:=kz
theorem gb:zeroOf y6 190=some (u7 (aR (⟨0,0,0⟩:State))):=kz
def D.dE (a0:State) (a1:Int):State:=(⟨a0.gen,1,a1⟩:State)
theorem zL (w0:World) 
    (a0:State) (a1:Int) :
    Calls y6 272 #[u7 (aR a0),.int .i64 a1] w0 (bB (u7 (aR (D.dE a0 a1))) w0):=by
 refine kN Tryz.func272 rfl 9 rfl rfl fun fr r hB=>?_;refine wsr ?_
 refine kX 190 (u7 (aR a0)) r rfl rfl fun b1 w2 n3 r=>?_;obtain ⟨eb1,zw2,hb1,hB,zB⟩:=n3.all hB
 refine ah (.cells ((aR (⟨0,0,0⟩:State))).toArray 190 (0,0)) r (fun R=>ag gb) rfl fun fr b4 w5 n6 r=>?_;have hb1:=keep n6.below hb1
 obtain ⟨eb4,zw5,hb4,hB,zB⟩:=n6.all hB;refine wn (wsr (kF 0 r rfl gY rfl fun r=>kL (I a0.gen) r rfl hb1 to3 rfl rfl fun r=>kM (I a1) r rfl rfl fun r=>kU (u7 (aR (⟨a0.gen,1,a1⟩:State))) r kz rfl fun r=>?_));refine aJ (.cells ((aR (⟨a0.gen,1,a1⟩:State))).toArray 190 (0,0)) r (fun R=>bb r (o:=0) (v:=(u7 (aR (⟨a0.gen,1,a1⟩:State)))) rfl rfl hb4 eP r9 rfl rfl) rfl fun fr w7 u8 r=>?_
 have zw7:=u8.size;have hb1:=u8.keep hb1 kw
 have hb4:=u8.at_;obtain ⟨hB,zB⟩:=u8.on hB kw
 refine wn (d9 ?_);refine ak r rfl rfl hb4 (k:=3) rfl dV ?_;exact ⟨rfl,hB⟩
def D.bP (a0:State) (a1:Int):State:=(bif (decide (a0.gen≥a1)) then (⟨a0.gen,3,0⟩:State) else (⟨(IntKind.i64.wrap (a0.gen+1)),0,0⟩:State))
theorem zz (w0:World) 
    (a0:State) (a1:Int) :
    Calls y6 308 #[u7 (aR a0),.int .i64 a1] w0 (bB (u7 (aR (D.bP a0 a1))) w0):=by
 refine kN Tryz.func308 rfl 16 rfl rfl fun fr r hB=>?_;refine wsr ?_
 refine kX 190 (u7 (aR a0)) r rfl rfl fun b1 w2 n3 r=>?_;obtain ⟨eb1,zw2,hb1,hB,zB⟩:=n3.all hB
 refine ah (.cells ((aR (⟨0,0,0⟩:State))).toArray 190 (0,0)) r (fun R=>ag gb) rfl fun fr b4 w5 n6 r=>?_;have hb1:=keep n6.below hb1
 obtain ⟨eb4,zw5,hb4,hB,zB⟩:=n6.all hB;refine wn (a9 (wsr (kF 0 r rfl gY rfl fun r=>kL (I a0.gen) r rfl hb1 to3 rfl rfl fun r=>kM (I a1) r rfl rfl fun r=>kB r rfl rfl rfl rfl rfl fun r=>wn ?_)));refine q4 (t:=(decide (a0.gen≥a1))) (r.ev rfl) (fun h7=>?_) (fun h7=>?_)
 ·
  refine wsr (kF 0 r rfl gY rfl fun r=>kL (I a0.gen) r rfl hb1 to3 rfl rfl fun r=>kU (u7 (aR (⟨a0.gen,3,0⟩:State))) r kz rfl fun r=>?_);refine aJ (.cells ((aR (⟨a0.gen,3,0⟩:State))).toArray 190 (0,0)) r (fun R=>bb r (o:=0) (v:=(u7 (aR (⟨a0.gen,3,0⟩:State)))) rfl rfl hb4 eP r9 rfl rfl) rfl fun fr w8 u9 r=>?_
  have zw8:=u9.size;have hb1:=u9.keep hb1 kw
  have hb4:=u9.at_;obtain ⟨hB,zB⟩:=u9.on hB kw
  refine wn (d9 ?_);have hd:D.bP a0 a1=(⟨a0.gen,3,0⟩:State):=(ar h7).trans (rfl);refine ak r rfl rfl hb4 (k:=3) rfl dV ?_;rw [hd];exact ⟨rfl,hB⟩
 refine q6 (wsr (kF 0 r rfl gY rfl fun r=>kL (I a0.gen) r rfl hb1 to3 rfl rfl fun r=>kB r rfl rfl rfl rfl rfl fun r=>kU (.agg (aR (⟨(W (a0.gen+1)),0,0⟩:State)).toArray) r kz rfl fun r=>?_));refine aJ (.cells ((aR (⟨(W (a0.gen+1)),0,0⟩:State))).toArray 190 (0,0)) r (fun R=>bb r (o:=0) (v:=(.agg (aR (⟨(W (a0.gen+1)),0,0⟩:State)).toArray)) rfl rfl hb4 eP r9 rfl rfl) rfl fun fr w10 u11 r=>?_
 have zw10:=u11.size;have hb1:=u11.keep hb1 kw
 have hb4:=u11.at_;obtain ⟨hB,zB⟩:=u11.on hB kw
 refine wn (d9 ?_);have hd:D.bP a0 a1=(⟨(W (a0.gen+1)),0,0⟩:State):=(ai h7).trans (rfl);refine ak r rfl rfl hb4 (k:=3) rfl dV ?_;rw [hd];exact ⟨rfl,hB⟩
def D.gp (a0:State):State:=({ a0 with mode:=2 })
theorem zk (w0:World) 
    (a0:State) :
    Calls y6 138 #[u7 (aR a0)] w0 (bB (u7 (aR (D.gp a0))) w0):=by
 refine kN Tryz.func138 rfl 5 rfl rfl fun fr r hB=>?_;refine wsr ?_
 refine kX 190 (u7 (aR a0)) r rfl rfl fun b1 w2 n3 r=>?_;obtain ⟨eb1,zw2,hb1,hB,zB⟩:=n3.all hB
 refine ah (.cells ((aR (⟨0,0,0⟩:State))).toArray 190 (0,0)) r (fun R=>ag gb) rfl fun fr b4 w5 n6 r=>?_;have hb1:=keep n6.below hb1
 obtain ⟨eb4,zw5,hb4,hB,zB⟩:=n6.all hB;refine wn (wsr (kF 0 r rfl lK rfl fun r=>?_));refine aJ (.cells ((aR ({ a0 with mode:=2 }))).toArray 190 (0,0)) r (fun R=>bb r (o:=1) (v:=(I 2)) rfl rfl hb1 ts3 r9 rfl rfl) rfl fun fr w7 u8 r=>?_
 have zw7:=u8.size;have hb4:=u8.keep hb4 kw
 have hb1:=u8.at_;obtain ⟨hB,zB⟩:=u8.on hB kw
 refine wn (wsr (kG (aR ({ a0 with mode:=2 })) 3 r rfl hb1 dV rfl rfl fun r=>?_))
 refine aJ (.cells ((aR ({ a0 with mode:=2 }))).toArray 190 (0,0)) r (fun R=>bb r (o:=0) (v:=(u7 (aR ({ a0 with mode:=2 })))) rfl rfl hb4 eP r9 rfl rfl) rfl fun fr w9 u10 r=>?_
 have zw9:=u10.size;have hb1:=u10.keep hb1 kw
 have hb4:=u10.at_;obtain ⟨hB,zB⟩:=u10.on hB kw
 refine wn (d9 ?_);refine ak r rfl rfl hb4 (k:=3) rfl dV ?_;exact ⟨rfl,hB⟩
def D.db (a0:State):Bool:=(bif (decide (a0.gen≥0)) then (bif (decide (a0.gen≤1073741823)) then (bif (decide (a0.mode≥0)) then (bif (decide (a0.mode≤3)) then (bif (decide (a0.kind≥0)) then (decide (a0.kind≤2)) else false) else false) else false) else false) else false)
theorem sH (w0:World) 
    (a0:State) :
    Calls y6 198 #[u7 (aR a0)] w0 (bB (.bool (D.db a0)) w0):=by
 refine kN Tryz.func198 rfl 31 rfl rfl fun fr r hB=>?_;refine wsr ?_
 refine kX 190 (u7 (aR a0)) r rfl rfl fun b1 w2 n3 r=>?_;obtain ⟨eb1,zw2,hb1,hB,zB⟩:=n3.all hB
 refine kA (.bool false) r rfl rfl fun r=>wn (wsr (kF 0 r rfl gY rfl fun r=>kL (I a0.gen) r rfl hb1 to3 rfl rfl fun r=>kB r rfl rfl rfl rfl rfl fun r=>kM (.bool (decide (a0.gen≥0))) r rfl rfl fun r=>?_));refine bE (decide (a0.gen≥0)) (fun h4=>?_) (fun h4=>?_)
 ·
  refine s1 r h4 (kF 0 r rfl gY rfl fun r=>s1 r h4 (kL (I a0.gen) r rfl hb1 to3 rfl rfl fun r=>s1 r h4 (kB r rfl rfl rfl rfl rfl fun r=>aa (.bool (decide (a0.gen≤1073741823))) r (fun R=>ax r (b:=true) (kb h4) rfl) rfl fun fr r=>kM (.bool (decide (a0.gen≤1073741823))) r rfl rfl fun r=>?_)));refine bE (decide (a0.gen≤1073741823)) (fun h5=>?_) (fun h5=>?_)
  ·
   refine s1 r h5 (kF 0 r rfl lK rfl fun r=>s1 r h5 (kL (I a0.mode) r rfl hb1 to3 rfl rfl fun r=>s1 r h5 (kB r rfl rfl rfl rfl rfl fun r=>aa (.bool (decide (a0.mode≥0))) r (fun R=>ax r (b:=true) (kb h5) rfl) rfl fun fr r=>kM (.bool (decide (a0.mode≥0))) r rfl rfl fun r=>?_)));refine bE (decide (a0.mode≥0)) (fun h6=>?_) (fun h6=>?_)
   ·
    refine s1 r h6 (kF 0 r rfl lK rfl fun r=>s1 r h6 (kL (I a0.mode) r rfl hb1 to3 rfl rfl fun r=>s1 r h6 (kB r rfl rfl rfl rfl rfl fun r=>aa (.bool (decide (a0.mode≤3))) r (fun R=>ax r (b:=true) (kb h6) rfl) rfl fun fr r=>kM (.bool (decide (a0.mode≤3))) r rfl rfl fun r=>?_)));refine bE (decide (a0.mode≤3)) (fun h7=>?_) (fun h7=>?_)
    ·
     refine s1 r h7 (kF 0 r rfl ra rfl fun r=>s1 r h7 (kL (I a0.kind) r rfl hb1 to3 rfl rfl fun r=>s1 r h7 (kB r rfl rfl rfl rfl rfl fun r=>aa (.bool (decide (a0.kind≥0))) r (fun R=>ax r (b:=true) (kb h7) rfl) rfl fun fr r=>kM (.bool (decide (a0.kind≥0))) r rfl rfl fun r=>?_)));refine bE (decide (a0.kind≥0)) (fun h8=>?_) (fun h8=>?_)
     ·
      refine s1 r h8 (kF 0 r rfl ra rfl fun r=>s1 r h8 (kL (I a0.kind) r rfl hb1 to3 rfl rfl fun r=>s1 r h8 (kB r rfl rfl rfl rfl rfl fun r=>aa (.bool (decide (a0.kind≤2))) r (fun R=>ax r (b:=true) (kb h8) rfl) rfl fun fr r=>kA (.bool (decide (a0.kind≤2))) r rfl rfl fun r=>wn (d9 ?_))));have hd:D.db a0=(decide (a0.kind≤2)):=(ar h4).trans ((ar h5).trans ((ar h6).trans ((ar h7).trans ((ar h8).trans (rfl)))))
      refine aU r rfl rfl ?_;rw [hd];exact ⟨rfl,hB⟩
     refine s0 r h8 fun fr r=>s0 r h8 fun fr r=>s0 r h8 fun fr r=>aa (.bool false) r (fun R=>ax r (b:=false) (kb h8) rfl) rfl fun fr r=>kA (.bool false) r rfl rfl fun r=>wn (d9 ?_);have hd:D.db a0=false:=(ar h4).trans ((ar h5).trans ((ar h6).trans ((ar h7).trans ((ai h8).trans (rfl)))))
     refine aU r rfl rfl ?_;rw [hd];exact ⟨rfl,hB⟩
    refine s0 r h7 fun fr r=>s0 r h7 fun fr r=>s0 r h7 fun fr r=>aa (.bool false) r (fun R=>ax r (b:=false) (kb h7) rfl) rfl fun fr r=>kM (.bool false) r rfl rfl fun r=>s0 r (rfl:false=_) fun fr r=>s0 r (rfl:false=_) fun fr r=>s0 r (rfl:false=_) fun fr r=>aa (.bool false) r (fun R=>ax r (b:=false) (kb (rfl:false=_)) rfl) rfl fun fr r=>kA (.bool false) r rfl rfl fun r=>wn (d9 ?_);have hd:D.db a0=false:=(ar h4).trans ((ar h5).trans ((ar h6).trans ((ai h7).trans (rfl))))
    refine aU r rfl rfl ?_;rw [hd];exact ⟨rfl,hB⟩
   refine s0 r h6 fun fr r=>s0 r h6 fun fr r=>s0 r h6 fun fr r=>aa (.bool false) r (fun R=>ax r (b:=false) (kb h6) rfl) rfl fun fr r=>kM (.bool false) r rfl rfl fun r=>s0 r (rfl:false=_) fun fr r=>s0 r (rfl:false=_) fun fr r=>s0 r (rfl:false=_) fun fr r=>aa (.bool false) r (fun R=>ax r (b:=false) (kb (rfl:false=_)) rfl) rfl fun fr r=>kM (.bool false) r rfl rfl fun r=>s0 r (rfl:false=_) fun fr r=>s0 r (rfl:false=_) fun fr r=>s0 r (rfl:false=_) fun fr r=>aa (.bool false) r (fun R=>ax r (b:=false) (kb (rfl:false=_)) rfl) rfl fun fr r=>kA (.bool false) r rfl rfl fun r=>wn (d9 ?_);have hd:D.db a0=false:=(ar h4).trans ((ar h5).trans ((ai h6).trans (rfl)))
   refine aU r rfl rfl ?_;rw [hd];exact ⟨rfl,hB⟩
  refine s0 r h5 fun fr r=>s0 r h5 fun fr r=>s0 r h5 fun fr r=>aa (.bool false) r (fun R=>ax r (b:=false) (kb h5) rfl) rfl fun fr r=>kM (.bool false) r rfl rfl fun r=>s0 r (rfl:false=_) fun fr r=>s0 r (rfl:false=_) fun fr r=>s0 r (rfl:false=_) fun fr r=>aa (.bool false) r (fun R=>ax r (b:=false) (kb (rfl:false=_)) rfl) rfl fun fr r=>kM (.bool false) r rfl rfl fun r=>s0 r (rfl:false=_) fun fr r=>s0 r (rfl:false=_) fun fr r=>s0 r (rfl:false=_) fun fr r=>aa (.bool false) r (fun R=>ax r (b:=false) (kb (rfl:false=_)) rfl) rfl fun fr r=>kM (.bool false) r rfl rfl fun r=>s0 r (rfl:false=_) fun fr r=>s0 r (rfl:false=_) fun fr r=>s0 r (rfl:false=_) fun fr r=>aa (.bool false) r (fun R=>ax r (b:=false) (kb (rfl:false=_)) rfl) rfl fun fr r=>kA (.bool false) r rfl rfl fun r=>wn (d9 ?_);have hd:D.db a0=false:=(ar h4).trans ((ai h5).trans (rfl))
  refine aU r rfl rfl ?_;rw [hd];exact ⟨rfl,hB⟩
 refine s0 r h4 fun fr r=>s0 r h4 fun fr r=>s0 r h4 fun fr r=>aa (.bool false) r (fun R=>ax r (b:=false) (kb h4) rfl) rfl fun fr r=>kM (.bool false) r rfl rfl fun r=>s0 r (rfl:false=_) fun fr r=>s0 r (rfl:false=_) fun fr r=>s0 r (rfl:false=_) fun fr r=>aa (.bool false) r (fun R=>ax r (b:=false) (kb (rfl:false=_)) rfl) rfl fun fr r=>kM (.bool false) r rfl rfl fun r=>s0 r (rfl:false=_) fun fr r=>s0 r (rfl:false=_) fun fr r=>s0 r (rfl:false=_) fun fr r=>aa (.bool false) r (fun R=>ax r (b:=false) (kb (rfl:false=_)) rfl) rfl fun fr r=>kM (.bool false) r rfl rfl fun r=>s0 r (rfl:false=_) fun fr r=>s0 r (rfl:false=_) fun fr r=>s0 r (rfl:false=_) fun fr r=>aa (.bool false) r (fun R=>ax r (b:=false) (kb (rfl:false=_)) rfl) rfl fun fr r=>kM (.bool false) r rfl rfl fun r=>s0 r (rfl:false=_) fun fr r=>s0 r (rfl:false=_) fun fr r=>s0 r (rfl:false=_) fun fr r=>aa (.bool false) r (fun R=>ax r (b:=false) (kb (rfl:false=_)) rfl) rfl fun fr r=>kA (.bool false) r rfl rfl fun r=>wn (d9 ?_);have hd:D.db a0=false:=(ai h4).trans (rfl)
 refine aU r rfl rfl ?_;rw [hd];exact ⟨rfl,hB⟩
end Go.Proofs.YtbbipmelhmgmfaaGreat

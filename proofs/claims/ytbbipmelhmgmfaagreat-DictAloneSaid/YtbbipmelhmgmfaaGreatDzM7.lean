/- Some of our texts, one behind the other. -/
import Derived.Laws.Append
import Derived.Laws.CopyRow
import Derived.Laws.MakeOwn
import Derived.ChangeKeysEq
import Derived.Laws.StructEq
import Derived.Test.YtbbipmelhmgmfaaGreatDzM6
import Derived.Test.YtbbipmelhmgmfaaGreatDzM4
set_option linter.all false
set_option maxRecDepth 100000
set_option maxHeartbeats 20000000
/- Ours. -/
namespace Go.Proofs.YtbbipmelhmgmfaaGreat
open Go.RowKit
def rowBs:Value->List Nat
 | .slice (some a) _ (_+1)=>[a.block]
 | _=>[]
theorem jJ {a:Addr} {n c b:Nat} (h:b∈rowBs (.slice (some a) n c)):b=a.block:=by
 cases c with
 | zero=>cases h
 | succ c=>exact List.mem_singleton.1 h
theorem iX {a:Addr} {n c:Nat} (h:0<c):a.block∈rowBs (.slice (some a) n c):=by
 cases c with
 | zero=>cases h
 | succ c=>exact List.mem_singleton.2 rfl
theorem oe {ad:Option Addr} {n:Nat}:rowBs (.slice ad n 0)=[]:=by cases ad <;> rfl
def J1:Value->Nat
 | .slice (some a) _ _=>a.block
 | _=>0
def J2:Value->Nat
 | .slice (some a) _ _=>a.off
 | _=>0
def cx {α:Type} (T:TypeId) (sz:Nat) (f:α->List Value) (v:Value) (xs:List α) (w:World):Prop:=
 (∃ ad,v=.slice ad 0 0/\xs=[])\/∃ g o cap cur,v=.slice (some ⟨g,o,none⟩) xs.length cap/\xs.length<=cap/\w.heap[g]?=some (.cells cur T (0,0))/\o+cap * sz<=cur.size/\(cur.toList.drop o).take (xs.length * sz)=xs.flatMap f/\0<cap
section
variable {α : Type} {P : Program} {T : TypeId} {sz : Nat} {f : α -> List Value} {v : Value} {xs ys : List α} {w w' : World}
theorem cx.st (h:∀ b,b∈rowBs v->w'.heap[b]?=w.heap[b]?) (hr:cx T sz f v xs w):cx T sz f v xs w':=by
 rcases hr with hr | ⟨g,o,cap,cur,rfl,h2,h3,h4⟩
 ·exact .inl hr
 ·exact .inr ⟨g,o,cap,cur,rfl,h2,(h g (iX h4.2.2)).trans h3,h4⟩
theorem cx.lt (hr:cx T sz f v xs w):∀ b,b∈rowBs v->b<w.heap.size:=by
 rcases hr with ⟨ad,rfl,_⟩ | ⟨g,o,cap,cur,rfl,h2,h3,h4⟩
 ·intro b hb; rw [oe] at hb; cases hb
 ·intro b hb
  rcases jJ hb with rfl
  exact q8 h3
def I1 {α:Type} (_T:TypeId) (sz:Nat) (f:α->List Value) (v:Value) (xs:List α) (w:World):Prop:=
 (∃ ad cap,v=.slice ad 0 cap/\xs=[])\/∃ g o cap cur E fz,v=.slice (some ⟨g,o,none⟩) xs.length cap/\xs≠[]/\w.heap[g]?=some (.cells cur E fz)/\(cur.toList.drop o).take (xs.length * sz)=xs.flatMap f/\xs.length<=cap
def Jw:Value->List Nat
 | .slice (some a) (_+1) _=>[a.block]
 | _=>[]
theorem I1.st (h:∀ b,b∈Jw v->w'.heap[b]?=w.heap[b]?) (hr:I1 T sz f v xs w):I1 T sz f v xs w':=by
 rcases hr with hr | ⟨g,o,cap,cur,E,fz,rfl,h2,h3,h4⟩
 ·exact .inl hr
 ·refine .inr ⟨g,o,cap,cur,E,fz,rfl,h2,(h g ?_).trans h3,h4⟩
  cases xs with
  | nil=>exact absurd rfl h2
  | cons x xs=>exact List.mem_singleton.2 rfl
theorem I1.lt (hr:I1 T sz f v xs w):∀ b,b∈Jw v->b<w.heap.size:=by
 rcases hr with ⟨ad,cap,rfl,_⟩ | ⟨g,o,cap,cur,E,fz,rfl,h2,h3,h4⟩
 ·intro b hb; cases ad <;> cases hb
 ·intro b hb
  cases xs with
  | nil=>exact absurd rfl h2
  | cons x xs=>
   rcases List.mem_singleton.1 hb with rfl
   exact q8 h3
theorem cx.ro (hr:cx T sz f v xs w):I1 T sz f v xs w:=by
 rcases hr with ⟨ad,rfl,rfl⟩ | ⟨g,o,cap,cur,rfl,h2,h3,h4,h5,_⟩
 ·exact .inl ⟨_,_,rfl,rfl⟩
 ·cases xs with
  | nil=>exact .inl ⟨_,_,rfl,rfl⟩
  | cons x xs=>exact .inr ⟨g,o,cap,cur,T,(0,0),rfl,by simp,h3,h5,h2⟩
theorem I1.nil:I1 T sz f (.slice none 0 0) ([]:List α) w:=.inl ⟨_,_,rfl,rfl⟩
def II (T:TypeId) (sz:Nat) (f:α->List Value) (v:Value) (xs:List α):Ck:=
 ⟨rowBs v,[],cx T sz f v xs,fun _ _ h _ hr=>hr.st fun b hb=>h b (.inl hb)⟩
def IZ (T:TypeId) (sz:Nat) (f:α->List Value) (v:Value) (xs:List α):Ck:=
 ⟨[],Jw v,I1 T sz f v xs,fun _ _ h _ hr=>hr.st fun b hb=>h b (.inr hb)⟩
theorem j4 (hr:cx T sz f v xs w):JY [II T sz f v xs] w:=
 ⟨hr,(fun b hb=>by rcases hb with hb | hb; (exact hr.lt b hb); (cases hb)),(fun _ h=>by cases h),trivial⟩
theorem I1.len (hr:I1 T sz f v xs w):∃ ad c,v=.slice ad xs.length c:=by
 rcases hr with ⟨ad,cap,rfl,rfl⟩ | ⟨g,o,cap,cur,E,fz,rfl,_⟩
 ·exact ⟨_,_,rfl⟩
 ·exact ⟨_,_,rfl⟩
theorem I1.some {i:Nat} (hr:I1 T sz f v xs w) (hi:i<xs.length):∃ cap,v=.slice (some ⟨J1 v,J2 v,none⟩) xs.length cap:=by
 rcases hr with ⟨ad,cap,rfl,rfl⟩ | ⟨g,o,cap,cur,E,fz,rfl,_⟩
 ·cases hi
 ·exact ⟨cap,rfl⟩
theorem gT (hf:∀ x,(f x).length=sz):∀ (xs:List α),(xs.flatMap f).length=xs.length * sz
 | []=>by simp
 | x::xs=>by
  simp only [List.flatMap_cons,List.length_append,hf,gT hf xs,List.length_cons,Nat.add_mul]
  omega
theorem nW (hf:∀ x,(f x).length=sz):∀ (xs:List α) (i:Nat) (h:i<xs.length) (j:Nat) (u:Value),(f xs[i])[j]?=some u->(xs.flatMap f)[i * sz+j]?=some u
 | [],i,h,j,u,hu=>by cases h
 | x::xs,0,h,j,u,hu=>by
  simp only [List.getElem_cons_zero] at hu
  simp only [List.flatMap_cons,Nat.zero_mul,Nat.zero_add]
  rw [List.getElem?_append_left (List.getElem?_eq_some_iff.1 hu).1]
  exact hu
 | x::xs,i+1,h,j,u,hu=>by
  simp only [List.getElem_cons_succ] at hu
  simp only [List.flatMap_cons]
  rw [List.getElem?_append_right (by rw [hf,Nat.add_mul]; omega),hf,show (i+1) * sz+j - sz=i * sz+j from by rw [Nat.add_mul]; omega]
  exact nW hf xs i yaJ j u hu
theorem I1.lies {i:Nat} (hr:I1 T sz f v xs w) (hf:∀ x,(f x).length=sz) (hi:i<xs.length):Lies w (J1 v) (J2 v+i * sz) (f xs[i]):=by
 rcases hr with ⟨ad,cap,rfl,rfl⟩ | ⟨g,o,cap,cur,E,fz,rfl,h2,h3,h5,_⟩
 ·cases hi
 ·intro j u hu
  have h6:=nW hf xs i hi j u hu;rw [<-h5,List.getElem?_take] at h6
  split at h6
  ·rw [List.getElem?_drop] at h6
   simp only [World.cell?,J1,J2,h3]
   simpa [Nat.add_assoc] using h6
  ·cases h6
def Jj (xs:List α) (i:Int):Option α:=if 0<=i then xs[i.toNat]? else none
theorem fF {i:Int} {x:α} (h:Jj xs i=.some x):0<=i/\i<xs.length/\∃ h:i.toNat<xs.length,xs[i.toNat]=x:=by
 unfold Jj at h
 split at h
 ·rename_i h0
  obtain ⟨h1,h2⟩:=List.getElem?_eq_some_iff.1 h;exact ⟨h0,O,h1,h2⟩
 ·cases h
theorem I1.at_ {i:Int} {x:α} (hr:I1 T sz f v xs w) (hf:∀ x,(f x).length=sz) (h:Jj xs i=.some x):Lies w (J1 v) (J2 v+i.toNat * sz) (f x):=by
 obtain ⟨_,_,h1,rfl⟩:=fF h;exact hr.lies hf h1
theorem Lies.part {b o:Nat} {cs:List Value} (h:Lies w b o cs) (k n:Nat):Lies w b (o+k) ((cs.drop k).take n):=by
 intro j u hu;rw [List.getElem?_take] at hu
 split at hu
 ·rw [List.getElem?_drop] at hu
  rw [Nat.add_assoc]
  exact h (k+j) u hu
 ·cases hu
/-! ### Operations -/
section
variable {a : Act} {d : Option Tmp} {ty : TypeId} {pos : String} {Ki : Array Edge} {N : Nat} {s : SL} (Jb : Fr a N s)
include Jb
theorem cW {x:Operand} {t:TypeId} {R:Value->World->Prop} {w1:World} (hr:I1 T sz f v xs w1) (ht:isSlice P t=true) (hx:lookO s x=v) (h:R (.int .i64 xs.length) w) :
  Yields P ⟨d,.call ⟨.builtin .len,#[x],#[t]⟩,ty,pos,Ki,none⟩ a w R:=by
 obtain ⟨ad,c,e⟩:=hr.len;exact mB Jb ht (hx.trans e) h
theorem Cf {x y:Operand} {t:TypeId} {b o n c k:Nat} {kd:IntKind} {i:Int} {R:Value->World->Prop} (ht:sliceTy P t k=true) (hx:lookO s x=.slice (some ⟨b,o,none⟩) n c) (hy:lookO s y=.int kd i)
  (h0:0<=i) (h1:i<n) (hr:R (.pointer (some ⟨b,o+i.toNat * k,none⟩)) w):Yields P ⟨d,.indexAddr t x y,ty,pos,Ki,none⟩ a w R:=by
 refine .of_run (v:=.pointer (some ⟨b,o+i.toNat * k,none⟩)) (w':=w) ?_ hr;unfold sliceTy at ht
 cases h2:P.underlying t with
 | none=>rw [h2] at ht; cases ht
 | some d1=>
  rw [h2] at ht
  cases d1 with
  | slice e=>
   have hs:(sizeOf e).run P w=.ok k w:=gh ht;simp only [execOp,Jb.ev hx,Jb.ev hy,Instr.indexAt,asIntOf,Sem.run_bind,Sem.run_pure,Result.andThen_ok,run_underlying h2,h0,h1,and_self,if_true,hs,Addr.add_lit]
  | _=>cases ht
theorem cu {x y:Operand} {t:TypeId} {kd:IntKind} {i:Int} {x0:α} {R:Value->World->Prop} {w1:World} (hr:I1 T sz f v xs w1) (hi:Jj xs i=.some x0) (ht:sliceTy P t sz=true) (hx:lookO s x=v) (hy:lookO s y=.int kd i)
  (h:R (.pointer (some ⟨J1 v,J2 v+i.toNat * sz,none⟩)) w):Yields P ⟨d,.indexAddr t x y,ty,pos,Ki,none⟩ a w R:=by
 obtain ⟨h0,h1,h2,_⟩:=fF hi;obtain ⟨cap,e⟩:=hr.some h2;exact Cf Jb ht (hx.trans e) hy h0 h1 h
theorem jD {x:Operand} {b o:Nat} {t:TypeId} {cs:List Value} {R:Value->World->Prop} (hl:Lies w b o cs) (hx:lookO s x=.pointer (some ⟨b,o,none⟩)) (ht:tyA P t cs.length=true) (h:R (.agg cs.toArray) w) :
  Yields P ⟨d,.load t x,ty,pos,Ki,none⟩ a w R:=by
 refine .of_run (v:=.agg cs.toArray) (w':=w) ?_ h;simp only [execOp,Jb.ev hx,Instr.loadAt,Instr.sureAddr,Sem.run_bind,Sem.run_pure,Result.andThen_ok,iM hl ht]
theorem cP {x:Operand} {b o:Nat} {t:TypeId} {u:Value} {R:Value->World->Prop} (hl:Lies w b o [u]) (hx:lookO s x=.pointer (some ⟨b,o,none⟩)) (ht:tyO P t=true) (h:R u w) :
  Yields P ⟨d,.load t x,ty,pos,Ki,none⟩ a w R:=by
 refine .of_run (v:=u) (w':=w) ?_ h;simp only [execOp,Jb.ev hx,Instr.loadAt,Instr.sureAddr,Sem.run_bind,Sem.run_pure,Result.andThen_ok,uK (show w.cell? ⟨b,o,none⟩=.some u from hl 0 u rfl) ht]
end
/-! ### Append -/
def jY:Nat:=2147483648
def JW (xs ys:List α):Option (List α):=if xs.length+ys.length<=jY then .some (xs++ys) else none
theorem EA {zs:List α} (h:JW xs ys=.some zs):xs.length+ys.length<=2147483648/\zs=xs++ys:=by
 unfold JW at h
 split at h
 ·rename_i h1
  exact ⟨h1,(Option.some.inj h).symm⟩
 ·cases h
def rowTy (P:Program) (t e:TypeId) (sz:Nat):Bool:=
 (match P.underlying t with | .some (.slice e')=>e'==e | _=>false)&&
 (match P.info? e with | .some i=>i.size==sz&&decide (0<sz)&&decide (i.bytes<=65536)&&(match i.zero with | .some z=>z.cells.size==sz | none=>false) | none=>false)
theorem oI {t e:TypeId} (h:rowTy P t e sz=true):P.underlying t=.some (.slice e)/\∃ i z,P.info? e=.some i/\i.zero=.some z/\i.size=sz/\0<sz/\i.bytes<=65536/\z.cells.size=sz:=by
 simp only [rowTy,Bool.and_eq_true] at h
 obtain ⟨h1,h2⟩:=h
 constructor
 ·cases hq:P.underlying t with
  | none=>rw [hq] at h1; cases h1
  | some dd=>rw [hq] at h1; cases dd <;> first | (simp at h1; subst h1; rfl) | cases h1
 ·cases hi:P.info? e with
  | none=>rw [hi] at h2; cases h2
  | some i=>
   rw [hi] at h2
   simp only [Bool.and_eq_true,beq_iff_eq,decide_eq_true_eq] at h2
   cases hz:i.zero with
   | none=>rw [hz] at h2; cases h2.2
   | some z=>
    rw [hz] at h2
    simp only [beq_iff_eq] at h2
    exact ⟨i,z,rfl,hz,h2.1.1.1,h2.1.1.2,h2.1.2,h2.2⟩
theorem C4 (t ty e:TypeId) (i:TypeInfo) (ht:P.underlying t=.some (.slice e)) (hi:P.info? e=.some i)
  (g o sLen sCap:Nat) (cur:Array Value) (hg:w.heap[g]?=.some (.cells cur e (0,0)))
  (a:Addr) (m c:Nat) (news:List Value) (hl:news.length=m * i.size) (hnews:∀ j u,news[j]?=.some u->w.cell? (a.add j)=.some u) (h1:∀ u∈news,u.oneCell'=true)
  (hroom:sLen+m<=sCap) (hfit:o+sLen * i.size+news.length<=cur.size) :
  (Builtin.append_ #[t,t] ty #[.slice (.some ⟨g,o,none⟩) sLen sCap,.slice (.some a) m c]).run P w =
   .ok (.slice (.some ⟨g,o,none⟩) (sLen+m) sCap) (w.setRow g (cur.toList.take (o+sLen * i.size)++news++cur.toList.drop (o+sLen * i.size+news.length)).toArray):=by
 have hf:=run_firstCells_some (P:=P) w i.size m a m c news hl hnews;have hst:=run_storeCells_at P g (o+sLen * i.size) e news 0 cur w hg (by simpa using hfit) h1
 simp only [Nat.add_zero] at hst
 simp [Builtin.append_,run_underlying ht,sizeOf,typeInfo,hi,Builtin.lenOf,hroom,hf,Addr.add_lit,hst]
theorem Bz (t ty e:TypeId) (i:TypeInfo) (ht:P.underlying t=.some (.slice e)) (hi:P.info? e=.some i) (ad ad2:Option Addr) (sLen sCap c2:Nat) (h:sLen<=sCap) :
  (Builtin.append_ #[t,t] ty #[.slice ad sLen sCap,.slice ad2 0 c2]).run P w=.ok (.slice ad sLen sCap) w:=by
 cases ad <;> cases ad2 <;> simp [Builtin.append_,run_underlying ht,sizeOf,typeInfo,hi,Builtin.lenOf,h,Builtin.firstCells,storeCells,loadCells,loadCellsFrom]
def Appended (T:TypeId) (sz:Nat) (f:α->List Value) (v:Value) (zs:List α) (w:World) (v':Value) (w':World):Prop:=
 cx T sz f v' zs w'/\Jd (fun b=>b∈rowBs v) w w'/\∀ b,b∈rowBs v'->b∈rowBs v\/w.heap.size<=b
theorem cx.holds (hr:cx T sz f v xs w) (_hf:∀ x,(f x).length=sz) {g o n c:Nat} (hv:v=.slice (.some ⟨g,o,none⟩) n c):∀ j u,(xs.flatMap f)[j]?=.some u->w.cell? ((⟨g,o,none⟩:Addr).add j)=.some u:=by
 intro j u hu
 rcases hr with ⟨ad,rfl,rfl⟩ | ⟨g',o',cap,cur,rfl,h2,h3,h4,h5,_⟩
 ·simp at hu
 ·simp only [Value.slice.injEq,Option.some.injEq,Addr.mk.injEq] at hv
  obtain ⟨⟨rfl,rfl,_⟩,_,_⟩:=hv;rw [<-h5,List.getElem?_take] at hu
  split at hu
  ·rw [List.getElem?_drop] at hu
   rw [Addr.add_lit]
   simp only [World.cell?,h3]
   simpa using hu
  ·cases hu
theorem I1.holds (hr:I1 T sz f v xs w) {a:Addr} {n c:Nat} (hv:v=.slice (.some a) n c):∀ j u,(xs.flatMap f)[j]?=.some u->w.cell? (a.add j)=.some u:=by
 intro j u hu
 rcases hr with ⟨ad,cap,rfl,rfl⟩ | ⟨g,o,cap,cur,E,fz,rfl,h2,h3,h5,_⟩
 ·simp at hu
 ·simp only [Value.slice.injEq,Option.some.injEq] at hv
  obtain ⟨rfl,_,_⟩:=hv;rw [<-h5,List.getElem?_take] at hu
  split at hu
  ·rw [List.getElem?_drop] at hu
   rw [Addr.add_lit]
   simp only [World.cell?,h3]
   simpa using hu
  ·cases hu
theorem uX {t ty:TypeId} {v2:Value} {zs:List α} (hT:rowTy P t T sz=true) (hf:∀ x,(f x).length=sz) (h1:∀ x,(f x).all Value.oneCell'=true)
  (hr:cx T sz f v xs w) (Jz:I1 T sz f v2 ys w) (hz:JW xs ys=.some zs) :
  ∃ v' w',(Builtin.append_ #[t,t] ty #[v,v2]).run P w=.ok v' w'/\Appended T sz f v zs w v' w':=by
 obtain ⟨hn,rfl⟩:=EA hz;obtain ⟨ht,i,z,hi,hiz,rfl,hsz,hby,hzs⟩:=oI hT;have hone:∀ u,u∈ys.flatMap f->u.oneCell'=true:=by
  intro u hu;obtain ⟨x,_,hx⟩:=List.mem_flatMap.1 hu;exact List.all_eq_true.1 (h1 x) u hx
 have hl:=gT hf ys;have hlx:=gT hf xs;have hbytes:(xs.length+ys.length) * i.bytes<=140737488355328:=Nat.le_trans (Nat.mul_le_mul hn hby) ke
 have grown:∀ (old:Nat),old<xs.length+ys.length->∀ cells:Array Value,cells=((xs++ys).flatMap f).toArray++Builtin.zeroCells z.cells (grownCap w (xs.length+ys.length) old T - (xs.length+ys.length))->
   Appended T i.size f v (xs++ys) w (.slice (.some ⟨w.heap.size,0,none⟩) (xs.length+ys.length) (grownCap w (xs.length+ys.length) old T)) (w.drew.alloc (.cells cells T)):=by
  intro old ho cells hc;have hge:=grownCap_ge w (xs.length+ys.length) old T;have hlz:=gT hf (xs++ys);simp only [List.length_append] at hlz
  refine ⟨.inr ⟨w.heap.size,0,_,cells,by rw [List.length_append],by rw [List.length_append]; exact hge,heap_alloc_new w.drew _,?_,?_,O⟩,⟨rfl,rfl,rfl,by simp,fun k hk _=>(heap_alloc_old (r:=k) w.drew _ (by simpa using hk):_)⟩,?_⟩
  ·have hlz':((xs++ys).flatMap f).length+(grownCap w (xs.length+ys.length) old T - (xs.length+ys.length)) * i.size=grownCap w (xs.length+ys.length) old T * i.size:=by
    rw [hlz,<-Nat.add_mul]
    congr 1
    omega
   subst hc;simp only [Array.size_append,List.size_toArray,Builtin.zeroCells,Array.size_map,Array.size_range,hzs,Nat.zero_add];omega
  ·subst hc
   rw [List.length_append,<-hlz,List.drop_zero]
   simp only [Array.toList_append]
   exact List.take_left
  ·intro b hb
   rcases jJ hb with rfl
   exact .inr (Nat.le_refl _)
 rcases id Jz with ⟨ad2,c2,rfl,rfl⟩ | ⟨g2,o2,cap2,cur2,E2,fz2,e2,h22,h23,h25,_⟩
 ·have:∃ ad n c,v=.slice ad n c/\n<=c:=by
   rcases hr with ⟨ad,rfl,_⟩ | ⟨g,o,cap,cur,rfl,h2,_⟩
   ·exact ⟨_,_,_,rfl,Nat.le_refl _⟩
   ·exact ⟨_,_,_,rfl,h2⟩
  obtain ⟨ad,n,c,rfl,hnc⟩:=this;exact ⟨_,_,Bz t ty T i ht hi ad ad2 n c c2 hnc,by rw [List.append_nil]; exact hr,Jd.refl _ _,fun b hb=>.inl hb⟩
 ·have hh2:=Jz.holds e2
  subst e2
  rcases id hr with ⟨ad,rfl,rfl⟩ | ⟨g,o,cap,cur,e1,h2,h3,h4,h5,hcap⟩
  ·by_cases h0:ys=[]
   ·subst h0
    exact absurd rfl h22
   cases ad with
   | some ad=>
    have hp:0<ys.length:=List.length_pos_iff.2 h0;simp only [List.length_nil,Nat.zero_add] at hn hbytes grown
    have hq:=run_append_grow (P:=P) w t ty T i z ht hi hiz ad 0 0 [] yas (fun j u h=>by simp at h) ⟨g2,o2,none⟩ ys.length cap2 (ys.flatMap f) hl hh2 O O (growslice_fits O (by rw [Nat.zero_add]; exact hbytes))
    refine ⟨_,_,hq,?_⟩;have:=grown 0 hp _ rfl;simpa using this
   | none=>
    have hp:0<ys.length:=List.length_pos_iff.2 h0;simp only [List.length_nil,Nat.zero_add] at hn hbytes grown
    have hq:=run_append_nil (P:=P) w t ty T i z ht hi hiz ⟨g2,o2,none⟩ ys.length cap2 (ys.flatMap f) hl hh2 hp O O
    refine ⟨_,_,hq,?_⟩;have:=grown 0 hp _ rfl;simpa using this
  ·subst e1
   by_cases hroom:xs.length+ys.length<=cap
   ·have hm:(xs.length+ys.length) * i.size<=cap * i.size:=Nat.mul_le_mul_right _ hroom
    rw [Nat.add_mul] at hm
    have hfit:o+xs.length * i.size+(ys.flatMap f).length<=cur.size:=by rw [hl]; omega
    have hq:=C4 (P:=P) t ty T i ht hi g o xs.length cap cur h3 ⟨g2,o2,none⟩ ys.length cap2 (ys.flatMap f) hl hh2 hone hroom hfit;refine ⟨_,_,hq,.inr ⟨g,o,cap,_,by rw [List.length_append],by rw [List.length_append]; exact hroom,setRow_heap w g cur _ T _ h3,?_,?_,hcap⟩,⟨rfl,rfl,rfl,by simp,fun k _ hk=>setRow_other w g k _ fun e=>hk (e ▸ iX hcap)⟩,fun b hb=>.inl (jJ hb ▸ iX hcap)⟩
    ·simp only [List.size_toArray,List.length_append,List.length_take,List.length_drop,Array.length_toList]
     omega
    ·rw [List.flatMap_append,<-h5,List.length_append,Nat.add_mul]
     simp only [List.append_assoc]
     rw [List.drop_append_of_le_length yao,List.drop_take]
     rw [show o+xs.length * i.size - o=xs.length * i.size from by omega]
     have hA:(List.take (xs.length * i.size) (cur.toList.drop o)).length=xs.length * i.size:=by rw [h5,hlx]
     rw [List.take_append,hA,show xs.length * i.size+ys.length * i.size - xs.length * i.size=(ys.flatMap f).length from by rw [hl]; omega,List.take_left]
     rw [List.take_of_length_le O]
   ·have hq:=run_append_grow (P:=P) w t ty T i z ht hi hiz ⟨g,o,none⟩ xs.length cap (xs.flatMap f) hlx (hr.holds hf rfl) ⟨g2,o2,none⟩ ys.length cap2 (ys.flatMap f) hl hh2 O O (growslice_fits O hbytes)
    refine ⟨_,_,hq,?_⟩;have:=grown cap O _ rfl;simpa using this
section
variable {a : Act} {d : Option Tmp} {ty : TypeId} {pos : String} {Ki : Array Edge} {N : Nat} {s : SL} (Jb : Fr a N s)
include Jb
theorem dN {x y:Operand} {t:TypeId} {v2:Value} {zs:List α} {R:Value->World->Prop} (hT:rowTy P t T sz=true) (hf:∀ x,(f x).length=sz) (h1:∀ x,(f x).all Value.oneCell'=true)
  (hr:cx T sz f v xs w) (Jz:I1 T sz f v2 ys w) (hz:JW xs ys=.some zs) (hx:lookO s x=v) (hy:lookO s y=v2) (h:∀ v' w',Appended T sz f v zs w v' w'->R v' w') :
  Yields P ⟨d,.call ⟨.builtin .append,#[x,y],#[t,t]⟩,ty,pos,Ki,none⟩ a w R:=by
 obtain ⟨v',w',hq,ha⟩:=uX (ty:=ty) hT hf h1 hr Jz hz;refine .of_run (v:=v') (w':=w') ?_ (h v' w' ha);have e:(#[x,y]:Array Operand).map a.eval=#[v,v2]:=Jb.evs (xs:=[x,y]) (vs:=[v,v2]) (lc2 hx hy);simp only [execOp,resolve,e,Sem.run_bind,Sem.run_pure,Result.andThen_ok,invoke,builtin,hq]
end
section
variable {ops : Array Oper} {rest : List Oper} {Q : Exit -> Act -> World -> Prop} {a : Act} {N : Nat} {s : SL}
theorem dR {o:Oper} {zs:List α} (T:TypeId) (sz:Nat) (f:α->List Value) (v:Value) (Jb:Fr a N s) (hy:∀ R:Value->World->Prop,(∀ v' w',Appended T sz f v zs w v' w'->R v' w')->Yields P o a w R) (hg:(o.guard.isNone&&Ku N o.dst)=true)
  (hk:∀ a v' w',Appended T sz f v zs w v' w'->Fr a N (KJ s o.dst v')->wpList P ops Q rest a w'):wpList P ops Q (o::rest) a w:=by
 simp only [Bool.and_eq_true] at hg
 exact gY yaH (hy (fun v' w'=>Appended T sz f v zs w v' w') fun _ _ h=>h) fun v' w' h=>hk _ v' w' h (Jb.put _ hg.2)
end
theorem Post.append {Z:Nat->Prop} {L:List Ck} {w0:World} {i:Nat} {v':Value} {zs:List α} (h:Post Z L w0 w) (hi:L[i]?=.some (II T sz f v xs)) (ha:Appended T sz f v zs w v' w'):Post Z (L.set i (II T sz f v' zs)) w0 w':=by
 have:=h.set (N:=[]) hi (c':=II T sz f v' zs) ⟨⟨j4 ha.1,ha.2.1,fun c hc b hb=>by rcases List.mem_singleton.1 hc with rfl; exact ha.2.2 b hb⟩,fun c hc b hb=>by rcases List.mem_singleton.1 hc with rfl; cases hb⟩
 rwa [List.append_nil] at this
theorem Post.row {Z:Nat->Prop} {L:List Ck} {w0:World} {i:Nat} (h:Post Z L w0 w) (hi:L[i]?=.some (II T sz f v xs)):cx T sz f v xs w:=h.sep.get hi
theorem Post.ro {Z:Nat->Prop} {L:List Ck} {w0:World} {i:Nat} (h:Post Z L w0 w) (hi:L[i]?=.some (IZ T sz f v xs)):I1 T sz f v xs w:=h.sep.get hi
theorem JY.weakAt {c c':Ck} (hc:c'.ok w) (h1:∀ b,c'.has b->c.has b) (h2:∀ b,b∈c'.own->b∈c.own):∀ (L:List Ck) (i:Nat),JY L w->L[i]?=.some c->JY (L.set i c') w
 | [],_,_,hi=>by simp at hi
 | d::L,0,h,hi=>by
  simp only [List.getElem?_cons_zero,Option.some.injEq] at hi
  subst hi;exact ⟨hc,fun b hb=>h.2.1 b (h1 b hb),fun e he=>⟨fun b hb=>(h.2.2.1 e he).1 b (h2 b hb),fun b hb hb'=>(h.2.2.1 e he).2 b hb (h1 b hb')⟩,h.2.2.2⟩
 | d::L,i+1,h,hi=>by
  simp only [List.getElem?_cons_succ] at hi
  refine ⟨h.1,h.2.1,fun e he=>?_,JY.weakAt hc h1 h2 L i h.2.2.2 hi⟩
  rcases List.mem_or_eq_of_mem_set he with he | rfl
  ·exact h.2.2.1 e he
  ·have hcd:=h.2.2.1 c (List.mem_of_getElem? hi)
   exact ⟨fun b hb hb'=>hcd.1 b hb (h1 b hb'),fun b hb hb'=>hcd.2 b (h2 b hb) hb'⟩
theorem qQ {b:Nat} (hr:cx T sz f v xs w) (h:b∈Jw v):b∈rowBs v:=by
 rcases hr with ⟨ad,rfl,rfl⟩ | ⟨g,o,cap,cur,rfl,h2,h3,h4,h5,hcap⟩
 ·cases ad <;> cases h
 ·cases xs with
  | nil=>cases h
  | cons x xs=>rcases List.mem_singleton.1 h with rfl; exact iX hcap
theorem Post.toRo {Z:Nat->Prop} {L:List Ck} {w0:World} {i:Nat} (h:Post Z L w0 w) (hi:L[i]?=.some (II T sz f v xs)):Post Z (L.set i (IZ T sz f v xs)) w0 w:=by
 have hr:cx T sz f v xs w:=h.sep.get hi;refine ⟨JY.weakAt (c:=II T sz f v xs) (c':=IZ T sz f v xs) hr.ro (fun b hb=>?_) (fun b hb=>(by cases hb)) L i h.sep hi,h.KE,fun c hc b hb=>?_⟩
 ·rcases hb with hb | hb
  ·cases hb
  ·exact .inl (qQ hr hb)
 ·rcases List.mem_or_eq_of_mem_set hc with hc | rfl
  ·exact h.mine c hc b hb
  ·cases hb
theorem cx.nil:cx T sz f (.slice none 0 0) ([]:List α) w:=.inl ⟨_,rfl,rfl⟩
theorem cx.vW {b n:Nat} (h:w.heap[b]?=.some (.cells (xs.flatMap f).toArray T (0,0))) (hf:∀ x,(f x).length=sz) (hn:xs.length=n):cx T sz f (.slice (.some ⟨b,0,none⟩) n n) xs w:=by
 subst hn;cases xs with
 | nil=>exact .inl ⟨_,rfl,rfl⟩
 | cons x xs=>
 refine .inr ⟨b,0,_,_,rfl,Nat.le_refl _,h,?_,?_,by simp⟩
 ·simp only [List.size_toArray,gT hf]; omega
 ·rw [<-gT hf]; exact List.take_length
theorem Post.newRow {Z:Nat->Prop} {L:List Ck} {w0:World} {b n:Nat} (h:Post Z L w0 w) (hn:New w w' b (.cells (xs.flatMap f).toArray T (0,0))) (hf:∀ x,(f x).length=sz) (hl:xs.length=n) :
  Post Z (L++[II T sz f (.slice (.some ⟨b,0,none⟩) n n) xs]) w0 w':=
 h.add ⟨⟨j4 (cx.vW hn.at_ hf hl),Jd.of_below hn.below,fun c hc b' hb=>by rcases List.mem_singleton.1 hc with rfl; rcases jJ hb with rfl; exact .inr (Nat.le_of_eq hn.eq.symm)⟩,fun c hc b' hb=>by rcases List.mem_singleton.1 hc with rfl; cases hb⟩
theorem MkP.row {T':TypeId} {lo hi:Nat} (h:MkP (fun y:Value=>y) (fun y=>[II T sz f y xs]) v lo hi w):I1 T' sz f v xs w:=by
 obtain ⟨y,rfl,hs,_⟩:=h;exact (hs.get (i:=0) (c:=II T sz f v xs) rfl).ro
theorem MkP.newRow {b n:Nat} (hn:New w w' b (.cells (xs.flatMap f).toArray T (0,0))) (hf:∀ x,(f x).length=sz) (hl:xs.length=n):MkP (fun y:Value=>y) (fun y=>[II T sz f y xs]) (.slice (.some ⟨b,0,none⟩) n n) w.heap.size w'.heap.size w':=by
 refine ⟨_,rfl,j4 (cx.vW hn.at_ hf hl),fun c hc b' hb=>?_⟩
 rcases List.mem_singleton.1 hc with rfl
 rcases hb with hb | hb
 ·rcases jJ hb with rfl
  exact ⟨Nat.le_of_eq hn.eq.symm,q8 hn.at_⟩
 ·cases hb
theorem Post.nilRow {Z:Nat->Prop} {L:List Ck} {w0:World} (T:TypeId) (sz:Nat) (f:α->List Value) (h:Post Z L w0 w):Post Z (L++[II T sz f (.slice none 0 0) []]) w0 w:=
 h.add ⟨⟨j4 cx.nil,Jd.refl _ _,fun c hc b' hb=>by rcases List.mem_singleton.1 hc with rfl; cases hb⟩,fun c hc b' hb=>by rcases List.mem_singleton.1 hc with rfl; cases hb⟩
end
/-! ### Parts of rows -/
section
variable {α : Type} {P : Program} {T : TypeId} {sz : Nat} {f : α -> List Value} {v : Value} {xs ys : List α} {w w' : World}
def cA (xs:List α) (lo hi:Int):Option (List α):=if 0<=lo/\lo<=hi/\hi<=xs.length then some ((xs.drop lo.toNat).take (hi.toNat - lo.toNat)) else none
theorem og {lo hi:Int} (h:cA xs lo hi=some ys):(0<=lo/\lo<=hi/\hi<=xs.length)/\ys=(xs.drop lo.toNat).take (hi.toNat - lo.toNat):=by
 unfold cA at h
 split at h
 ·rename_i h1; exact ⟨h1,(Option.some.inj h).symm⟩
 ·cases h
def cD (sz:Nat) (v:Value) (l h:Nat):Value:=match v with
 | .slice a _ cap=>.slice (if cap=l then a else a.map (·.add (l * sz))) (h - l) (cap - l)
 | v=>v
theorem vq (hf:∀ x,(f x).length=sz) (l n:Nat):((xs.flatMap f).drop (l * sz)).take (n * sz)=((xs.drop l).take n).flatMap f:=by
 have hd:∀ (xs:List α) (l:Nat),(xs.flatMap f).drop (l * sz)=(xs.drop l).flatMap f:=by
  intro xs
  induction xs with
  | nil=>intro l; simp
  | cons x xs ih=>
   intro l;cases l with
   | zero=>simp
   | succ l=>
    rw [List.flatMap_cons,List.drop_succ_cons,<-ih l,show (l+1) * sz=(f x).length+l * sz from by rw [hf,Nat.add_mul]; omega,<-List.drop_drop,List.drop_left]
 have ht:∀ (xs:List α) (n:Nat),(xs.flatMap f).take (n * sz)=(xs.take n).flatMap f:=by
  intro xs
  induction xs with
  | nil=>intro l; simp
  | cons x xs ih=>
   intro n;cases n with
   | zero=>simp
   | succ n=>
    rw [List.take_succ_cons,List.flatMap_cons,List.flatMap_cons,<-ih n,show (n+1) * sz=(f x).length+n * sz from by rw [hf,Nat.add_mul]; omega,List.take_length_add_append]
 rw [hd,ht]
theorem vZ {lo hi:Int} (h:cA xs lo hi=some ys):ys.length=hi.toNat - lo.toNat:=by
 obtain ⟨⟨h0,h1,h2⟩,rfl⟩:=og h;simp only [List.length_take,List.length_drop];omega
theorem I1.slice {lo hi:Int} (hr:I1 T sz f v xs w) (hf:∀ x,(f x).length=sz) (h:cA xs lo hi=.some ys):I1 T sz f (cD sz v lo.toNat hi.toNat) ys w:=by
 have hl:=vZ h;obtain ⟨⟨h0,h1,h2⟩,hy⟩:=og h
 by_cases he:ys=[]
 ·subst he
  have hz:hi.toNat - lo.toNat=0:=hl.symm
  rcases hr with ⟨ad,cap,rfl,rfl⟩ | ⟨g,o,cap,cur,E,fz,rfl,_⟩
  ·exact .inl ⟨_,_,by simp only [cD,hz]; rfl,rfl⟩
  ·exact .inl ⟨_,_,by simp only [cD,hz]; rfl,rfl⟩
 ·rcases hr with ⟨ad,cap,rfl,rfl⟩ | ⟨g,o,cap,cur,E,fz,rfl,h3,h4,h5,h6⟩
  ·simp at hy; exact absurd hy he
  ·have hlt:lo.toNat<cap:=by
    have:ys.length≠0:=fun h=>he (List.eq_nil_of_length_eq_zero h)
    omega
   refine .inr ⟨g,o+lo.toNat * sz,cap - lo.toNat,cur,E,fz,?_,he,h4,?_,O⟩
   ·simp only [cD]
    rw [if_neg O,hl]
    simp only [Option.map_some,Addr.add_lit]
   ·rw [hl,hy,<-vq hf,<-h5,<-List.drop_drop]
    rw [List.drop_take,List.take_take]
    congr 1
    have:hi.toNat * sz<=xs.length * sz:=Nat.mul_le_mul_right _ O
    have h7:(hi.toNat - lo.toNat) * sz=hi.toNat * sz - lo.toNat * sz:=Nat.sub_mul ..;omega
theorem cx.slice {lo hi:Int} (hr:cx T sz f v xs w) (hf:∀ x,(f x).length=sz) (h:cA xs lo hi=some ys):cx T sz f (cD sz v lo.toNat hi.toNat) ys w/\∀ b,b∈rowBs (cD sz v lo.toNat hi.toNat)->b∈rowBs v:=by
 have hl:=vZ h;obtain ⟨⟨h0,h1,h2⟩,hy⟩:=og h
 rcases hr with ⟨ad,rfl,rfl⟩ | ⟨g,o,cap,cur,rfl,h3,h4,h5,h6,hcap⟩
 ·simp only [List.length_nil] at h2
  have hh:hi.toNat=0:=O
  have hlo:lo.toNat=0:=O
  simp only [List.drop_nil,List.take_nil] at hy
  subst hy;have e:cD sz (.slice ad 0 0) lo.toNat hi.toNat=.slice ad 0 0:=by rw [hh,hlo]; simp [cD]
  rw [e]
  exact ⟨.inl ⟨_,rfl,rfl⟩,fun b hb=>hb⟩
 ·by_cases hc:cap=lo.toNat
  ·have e:cD sz (.slice (.some ⟨g,o,none⟩) xs.length cap) lo.toNat hi.toNat=.slice (.some ⟨g,o,none⟩) ys.length 0:=by
    simp only [cD,hc,if_true,hl,Nat.sub_self]
   rw [e]
   have:ys=[]:=List.eq_nil_of_length_eq_zero O
   subst this;exact ⟨.inl ⟨_,rfl,rfl⟩,fun b hb=>by rw [oe] at hb; cases hb⟩
  ·have e:cD sz (.slice (.some ⟨g,o,none⟩) xs.length cap) lo.toNat hi.toNat=.slice (.some ⟨g,o+lo.toNat * sz,none⟩) ys.length (cap - lo.toNat):=by
    simp only [cD,if_neg hc,hl,Option.map_some,Addr.add_lit]
   rw [e]
   have hcc:(cap - lo.toNat) * sz=cap * sz - lo.toNat * sz:=Nat.sub_mul ..;have hcm:lo.toNat * sz<=cap * sz:=Nat.mul_le_mul_right _ O
   refine ⟨.inr ⟨g,o+lo.toNat * sz,cap - lo.toNat,cur,rfl,O,h4,O,?_,O⟩,fun b hb=>jJ hb ▸ iX hcap⟩
   rw [hl,hy,<-vq hf,<-h6,<-List.drop_drop]
   rw [List.drop_take,List.take_take]
   congr 1
   have:hi.toNat * sz<=xs.length * sz:=Nat.mul_le_mul_right _ O
   have h7:(hi.toNat - lo.toNat) * sz=hi.toNat * sz - lo.toNat * sz:=Nat.sub_mul ..;omega
def loOf:Option Value->Int
 | some (.int _ n)=>n
 | _=>0
def hiOf (n:Nat):Option Value->Int
 | some (.int _ n)=>n
 | _=>n
def intO:Option Value->Bool
 | some (.int _ _)=>true
 | none=>true
 | _=>false
theorem Ev {t e:TypeId} {ad:Option Addr} {n cap:Nat} {lo hi:Option Value} (ht:P.underlying t=some (.slice e)) (hs:(sizeOf e).run P w=.ok sz w) (hil:intO lo=true) (hih:intO hi=true) (hn:n<=cap) (h0:0<=loOf lo) (h1:loOf lo<=hiOf n hi) (h2:hiOf n hi<=n) :
  (Instr.sliceAt t (.slice ad n cap) lo hi none).run P w=.ok (cD sz (.slice ad n cap) (loOf lo).toNat (hiOf n hi).toNat) w:=by
 have key:∀ (l h:Int) (lo hi:Option Value),(Instr.sliceBounds true n cap lo hi none).run P w=.ok (l.toNat,h.toNat,cap) w->(Instr.sliceAt t (.slice ad n cap) lo hi none).run P w=.ok (cD sz (.slice ad n cap) l.toNat h.toNat) w:=by
  intro l h lo hi hb;simp only [Instr.sliceAt,Instr.slice,Sem.run_bind,run_underlying ht,Result.andThen_ok,hb,hs,Sem.run_pure,cD]
 refine key _ _ lo hi ?_;cases lo with
 | none=>
  cases hi with
  | none=>simp [Instr.sliceBounds,loOf,hiOf]
  | some h=>
   cases h with
   | int k m=>
    simp only [loOf,hiOf] at *
    simp [Instr.sliceBounds,run_sliceBound (P:=P) (w:=w) k m cap _ O O]
   | _=>cases hih
 | some l=>
  cases l with
  | int k l=>
   cases hi with
   | none=>
    simp only [loOf,hiOf] at *
    simp [Instr.sliceBounds,run_sliceBound (P:=P) (w:=w) k l n _ O O]
   | some h=>
    cases h with
    | int k2 m=>
     simp only [loOf,hiOf] at *
     have e1:=fun c=>run_sliceBound (P:=P) (w:=w) k2 m cap c O O
     have e2:=fun c=>run_sliceBound (P:=P) (w:=w) k l m.toNat c O O
     simp [Instr.sliceBounds,e1,e2]
    | _=>cases hih
  | _=>cases hil
end
section
variable {α : Type} {P : Program} {T : TypeId} {sz : Nat} {f : α -> List Value} {v : Value} {xs ys : List α} {w : World} {a : Act} {d : Option Tmp} {ty : TypeId} {pos : String} {Ki : Array Edge} {N : Nat} {s : SL}
theorem I1.capped (hr:I1 T sz f v xs w):∃ ad c,v=.slice ad xs.length c/\xs.length<=c:=by
 rcases hr with ⟨ad,cap,rfl,rfl⟩ | ⟨g,o,cap,cur,E,fz,rfl,_,_,_,h⟩
 ·exact ⟨_,_,rfl,Nat.zero_le _⟩
 ·exact ⟨_,_,rfl,h⟩
theorem fI {x:Operand} {t:TypeId} {lo hi:Option Operand} {vlo vhi:Option Value} {l h:Int} {R:Value->World->Prop} {w1:World} (Jb:Fr a N s) (hr:I1 T sz f v xs w1) (ht:sliceTy P t sz=true) (hx:lookO s x=v) (hlo:lo.map (lookO s)=vlo) (hhi:hi.map (lookO s)=vhi)
  (hil:intO vlo=true) (hih:intO vhi=true) (hl:loOf vlo=l) (hh:hiOf xs.length vhi=h) (hD:cA xs l h=some ys) (hR:R (cD sz v l.toNat h.toNat) w):Yields P ⟨d,.slice t x lo hi none,ty,pos,Ki,none⟩ a w R:=by
 obtain ⟨ad,c,rfl,hc⟩:=hr.capped;obtain ⟨⟨h0,h1,h2⟩,_⟩:=og hD;refine .of_run (v:=_) (w':=w) ?_ hR;unfold sliceTy at ht
 cases h2':P.underlying t with
 | none=>rw [h2'] at ht; cases ht
 | some d1=>
  rw [h2'] at ht
  cases d1 with
  | slice e=>
   have hs:(sizeOf e).run P w=.ok sz w:=gh ht;have he:∀ o:Option Operand,o.map a.eval=o.map (lookO s):=fun o=>by cases o with
    | none=>rfl
    | some o=>simp [Jb.eval]
   subst hl; subst hh;have hq:=Ev (P:=P) (w:=w) (ad:=ad) h2' hs hil hih hc h0 h1 h2;simp only [execOp,Jb.ev hx,he,hlo,hhi,Option.map_none,Sem.run_bind,hq,Result.andThen_ok,Sem.run_pure]
  | _=>cases ht
theorem Post.narrow {Z:Nat->Prop} {L:List Ck} {w0:World} {i:Nat} {lo hi:Int} (h:Post Z L w0 w) (hi':L[i]?=.some (II T sz f v xs)) (hf:∀ x,(f x).length=sz) (hD:cA xs lo hi=some ys):Post Z (L.set i (II T sz f (cD sz v lo.toNat hi.toNat) ys)) w0 w:=by
 obtain ⟨h1,h2⟩:=cx.slice (h.row hi') hf hD;have:=h.set (N:=[]) hi' (c':=II T sz f (cD sz v lo.toNat hi.toNat) ys) ⟨⟨j4 h1,Jd.refl _ _,fun c hc b hb=>by rcases List.mem_singleton.1 hc with rfl; exact .inl (h2 b hb)⟩,fun c hc b hb=>by rcases List.mem_singleton.1 hc with rfl; cases hb⟩
 rwa [List.append_nil] at this
end
/-! ### A thing put into a row; rows that are made -/
section
variable {α : Type} {P : Program} {T : TypeId} {f : α -> List Value} {v : Value} {xs : List α} {w w' : World}
theorem uL (hf:∀ x,(f x).length=1) {x1:α} {u:Value} (hu:f x1=[u]):∀ (xs:List α) (i:Nat),(xs.set i x1).flatMap f=(xs.flatMap f).set i u
 | [],_=>by simp
 | x::xs,0=>by
  obtain ⟨y,hy⟩:=List.length_eq_one_iff.1 (hf x);simp [List.flatMap_cons,hu,hy]
 | x::xs,i+1=>by
  obtain ⟨y,hy⟩:=List.length_eq_one_iff.1 (hf x);simp [List.flatMap_cons,hy,uL hf hu xs i]
theorem rr {a:Act} {d:Option Tmp} {ty:TypeId} {pos:String} {Ki:Array Edge} {N:Nat} {s:SL} (Jb:Fr a N s) {x y:Operand} {t:TypeId} {i:Int} {x0 x1:α} {u:Value} {R:Value->World->Prop} (hr:cx T 1 f v xs w) (hi:Jj xs i=some x0)
  (hf:∀ x,(f x).length=1) (hu:f x1=[u]) (hp:plainCell u=true) (hc:u.cells=#[u]) (hx:lookO s x=.pointer (some ⟨J1 v,J2 v+i.toNat * 1,none⟩)) (hy:lookO s y=u) (ht:sized P t 1=true)
  (h:∀ w',Appended T 1 f v (xs.set i.toNat x1) w v w'->R undef w'):Yields P ⟨d,.store t x y,ty,pos,Ki,none⟩ a w R:=by
 obtain ⟨h0,h1,h2,_⟩:=fF hi
 rcases id hr with ⟨ad,rfl,rfl⟩ | ⟨g,o,cap,cur,rfl,h3,h4,h5,h6,hcap⟩
 ·cases h2
 ·refine bb Jb (o:=o+i.toNat * 1) (v:=u) (c':=over cur (o+i.toNat * 1) [u]) hx hy h4 (by rw [hc]; exact ht) (by rw [hc]; show o+i.toNat * 1+1<=cur.size; omega) (by rw [hc]; simp [hp]) (by rw [hc]) fun w' hu'=>h w' ?_
  refine ⟨.inr ⟨g,o,cap,_,by rw [List.length_set],by rw [List.length_set]; exact h3,hu'.at_,by rw [uU]; exact h5,?_,hcap⟩,⟨hu'.os,hu'.tape,hu'.output,Nat.le_of_eq hu'.size.symm,fun k _ hk=>hu'.other k fun e=>hk (e ▸ iX hcap)⟩,fun b hb=>.inl hb⟩
  rw [uL hf hu,<-h6,List.length_set]
  simp only [over,Array.toList_setIfInBounds]
  rw [List.drop_set,if_neg O,List.take_set]
  congr 1
  omega
theorem rK {ops:Array Oper} {rest:List Oper} {Q:Exit->Act->World->Prop} {a:Act} {N:Nat} {s:SL} {o:Oper} (T:TypeId) (f:α->List Value) (v:Value) (zs:List α) (Jb:Fr a N s)
  (hy:∀ R:Value->World->Prop,(∀ w',Appended T 1 f v zs w v w'->R undef w')->Yields P o a w R) (hg:(o.guard.isNone&&Ku N o.dst)=true)
  (hk:∀ a w',Appended T 1 f v zs w v w'->Fr a N (KJ s o.dst undef)->wpList P ops Q rest a w'):wpList P ops Q (o::rest) a w:=by
 simp only [Bool.and_eq_true] at hg
 exact gY yaH (hy (fun v' w'=>v'=undef/\Appended T 1 f v zs w v w') fun _ h=>⟨rfl,h⟩) fun v' w' h=>by rw [h.1]; exact hk _ w' h.2 (Jb.put _ hg.2)
def makeD (z:α) (n:Int):Option (List α):=if 0<=n/\n<=16777216 then some (List.replicate n.toNat z) else none
theorem vL {z:α} {n:Int} (h:makeD z n=some xs):0<=n/\n<=16777216/\xs=List.replicate n.toNat z:=by
 unfold makeD at h
 split at h
 ·rename_i h1; exact ⟨h1.1,h1.2,(Option.some.inj h).symm⟩
 ·cases h
theorem vC {z:α} {n:Int} (h:makeD z n=some xs):xs.length=n.toNat:=by
 obtain ⟨_,_,rfl⟩:=vL h;simp
theorem vk {a:Act} {d:Option Tmp} {ty:TypeId} {pos:String} {Ki:Array Edge} {N:Nat} {s:SL} (Jb:Fr a N s) {x y:Operand} {t e:TypeId} {n:Int} {z:α} {u:Value} {R:Value->World->Prop} (hT:rowTy P t e 1=true) (hz:zeroOf P e=some u) (hzf:f z=[u]) (hc:u.cells=#[u])
  (hx:lookO s x=.int .i64 n) (hy:lookO s y=.int .i64 n) (hD:makeD z n=some xs)
  (hr:∀ b w',New w w' b (.cells (xs.flatMap f).toArray e (0,0))->R (.slice (some ⟨b,0,none⟩) n.toNat n.toNat) w'):Yields P ⟨d,.makeSlice t x y,ty,pos,Ki,none⟩ a w R:=by
 obtain ⟨h0,h1,rfl⟩:=vL hD;obtain ⟨ht,i,z',hi,hiz,hsz,_,hby,_⟩:=oI hT;have hzz:z'=u:=by
  unfold zeroOf at hz
  rw [hi] at hz
  simp only [hiz] at hz
  exact Option.some.inj hz
 subst hzz;have hb2:(i.bytes:Int) * n<=65536 * 16777216:=Int.mul_le_mul O h1 h0 O;have hr1:=run_makeSlice (P:=P) (w:=w) t e i z' ht hi hiz .i64 .i64 n n h0 (Int.le_refl _) (by rw [hsz]; omega) O O;have hcc:madeCells z'.cells (n.toNat * i.size)=((List.replicate n.toNat z).flatMap f).toArray:=by
  rw [hsz,hc,Nat.mul_one]
  have hfm:(List.replicate n.toNat z).flatMap f=List.replicate n.toNat z':=by
   induction n.toNat with
   | zero=>rfl
   | succ k ih=>rw [List.replicate_succ,List.flatMap_cons,hzf,ih]; rfl
  rw [hfm]
  apply Array.ext
  ·simp [madeCells]
  ·intro j h1 h2
   simp only [madeCells,Array.size_map,Array.size_range] at h1
   simp only [madeCells,Array.getElem_map,Array.getElem_range,List.getElem_toArray,List.getElem_replicate]
   have:j % (#[z']:Array Value).size=0:=by
    show j % 1=0
    omega
   rw [this]
   rfl
 rw [hcc] at hr1
 refine .of_run (v:=.slice (some ⟨w.heap.size,0,none⟩) n.toNat n.toNat) (w':=w.alloc (.cells ((List.replicate n.toNat z).flatMap f).toArray e)) ?_ (hr _ _ (New.lV _ _));simp only [execOp,Jb.ev hx,Jb.ev hy,Sem.run_bind,hr1,Result.andThen_ok,Sem.run_pure]
end
/-! ### Structs of integers compared -/
section
variable {P : Program} {w : World}
theorem uq (d:Nat) (xs ys:Array Value):∀ (fs:List Go.Field) (l:List (IntKind × Int × Int)),
  fs.map (fun f=>(f.name !="_"&&P.plainKey f.type,P.underlying f.type))=l.map (fun q=>(true,some (.int q.1)))->
  fs.map (fun f=>(xs[f.offset]?,ys[f.offset]?))=l.map (fun q=>(some (.int q.1 q.2.1),some (.int q.1 q.2.2)))->
  (Op.eqFields (d+1) xs ys fs).run P w=.ok (l.all fun q=>q.2.1==q.2.2) w
 | [],[],_,_=>by simp [Op.eqFields]
 | [],_::_,h,_=>by simp at h
 | _::_,[],h,_=>by simp at h
 | f::fs,q::l,h,h2=>by
  simp only [List.map_cons,List.cons.injEq,Prod.mk.injEq,Bool.and_eq_true,bne_iff_ne] at h h2
  obtain ⟨⟨⟨hn,hp⟩,hu⟩,ht⟩:=h;obtain ⟨⟨hx,hy⟩,ht2⟩:=h2;have ih:=uq d xs ys fs l ht ht2;have p1:=run_part_plain (P:=P) (w:=w) hp hx;have p2:=run_part_plain (P:=P) (w:=w) hp hy;simp only [Op.eqFields,hn,ne_eq,not_false_eq_true,if_true,Sem.run_bind,p1,p2,Result.andThen_ok,run_equalIn_int w d f.type q.1 q.1 q.2.1 q.2.2 hu,List.all_cons];cases q.2.1==q.2.2
  ·simp
  ·simpa using ih
theorem wE {t:TypeId} {xs ys:Array Value} (l:List (IntKind × Int × Int)) (ht:P.underlying t=some (.struct (P.fieldsOf t))) (hp:P.stoodInHeld t=false)
  (h:(P.fieldsOf t).toList.map (fun f=>(f.name !="_"&&P.plainKey f.type,P.underlying f.type))=l.map (fun q=>(true,some (.int q.1))))
  (h2:(P.fieldsOf t).toList.map (fun f=>(xs[f.offset]?,ys[f.offset]?))=l.map (fun q=>(some (.int q.1 q.2.1),some (.int q.1 q.2.2)))) {b:Bool} (hb:(l.all fun q=>q.2.1==q.2.2)=b) :
  (binOp .eql t (.agg xs) (.agg ys)).run P w=.ok (.bool b) w/\(binOp .neq t (.agg xs) (.agg ys)).run P w=.ok (.bool !b) w:=by
 subst hb;have he:(Op.equalIn 10000 t (.agg xs) (.agg ys)).run P w=.ok (l.all fun q=>q.2.1==q.2.2) w:=by
  rw [run_equalIn_struct w 9999 t xs ys ht hp]
  exact uq 9998 xs ys _ l h h2
 rw [run_eql_struct,run_neq_struct,he]
 exact ⟨rfl,rfl⟩
end
def arrTy (P:Program) (t:TypeId) (n k:Nat):Bool:=match P.underlying t with | some (.array m e)=>m==n&&sized P e k&&!(n==0) | _=>false
theorem yf {P:Program} {w:World} {a:Act} {d:Option Tmp} {ty:TypeId} {pos:String} {Ki:Array Edge} {N:Nat} {s:SL} {x:Operand} {t:TypeId} {b n k:Nat} {R:Value->World->Prop} (Jb:Fr a N s) (ht:arrTy P t n k=true)
  (hx:lookO s x=.pointer (some ⟨b,0,none⟩)) (hR:R (.slice (some ⟨b,0,none⟩) n n) w):Yields P ⟨d,.slice t x none none none,ty,pos,Ki,none⟩ a w R:=by
 refine .of_run (v:=.slice (some ⟨b,0,none⟩) n n) (w':=w) ?_ hR;unfold arrTy at ht
 cases h2:P.underlying t with
 | none=>rw [h2] at ht; cases ht
 | some d1=>
  rw [h2] at ht
  cases d1 with
  | array m e=>
   simp only [Bool.and_eq_true,beq_iff_eq,Bool.not_eq_true',beq_eq_false_iff_ne] at ht
   obtain ⟨⟨rfl,ht⟩,_⟩:=ht;have hs:(sizeOf e).run P w=.ok k w:=gh ht;simp [execOp,Jb.ev hx,Instr.sliceAt,Instr.sureAddr,Instr.sliceBounds,run_underlying h2,hs,Addr.add]
  | _=>cases ht
theorem I1.ofCell {α:Type} {T E:TypeId} {sz:Nat} {f:α->List Value} {b n:Nat} {xs:List α} {w:World} {c:Array Value} (h:w.heap[b]?=.some (.cells c E (0,0))) (hn:xs.length=n) (hne:xs≠[]) (hc:c.toList.take (n * sz)=xs.flatMap f) :
  I1 T sz f (.slice (.some ⟨b,0,none⟩) n n) xs w:=by
 subst hn;exact .inr ⟨b,0,xs.length,c,E,(0,0),rfl,hne,h,by rw [List.drop_zero]; exact hc,Nat.le_refl _⟩
structure CallD where
 kind:Int
 k:Int
 v:Int
 deriving DecidableEq
def dx (x:CallD):List Value:=[(.int .u8 x.kind),(.int .u64 x.k),(.int .u64 x.v)]
structure Arr3F where
 f0:Field
 f1:Field
 f2:Field
 deriving DecidableEq
def dE (x:Arr3F):List Value:=(aR x.f0)++(aR x.f1)++(aR x.f2)
structure Entry where
 key:Int
 value:Int
 deriving DecidableEq
def aI (x:Entry):List Value:=[(.int .u64 x.key),(.int .u64 x.value)]
theorem ig:ba B0 190 0 0:=kz
theorem lX:ba B0 190 1 1:=kz
theorem rF:ba B0 190 2 2:=kz
theorem dY:tyA B0 190 3:=kz
theorem eS:sized B0 190 3:=kz
theorem ts3:sized B0 3 1:=kz
theorem gu:zeroOf B0 190=some (z6 (aQ (⟨0,0,0⟩:State))):=kz
def D.dJ (a0:State) (a1:Int):State:=(⟨a0.IP,1,a1⟩:State)
theorem Ao (w0:World) 
    (a0:State) (a1:Int) :
    Calls B0 272 #[z6 (aQ a0),.int .i64 a1] w0 (bB (z6 (aQ (D.dJ a0 a1))) w0):=by
 refine kN Tryz.func272 rfl 9 rfl rfl fun fr r hB=>?_;refine I0 ?_
 refine kX 190 (z6 (aQ a0)) r rfl rfl fun b1 w2 n3 r=>?_;obtain ⟨eb1,zw2,hb1,hB,zB⟩:=n3.all hB
 refine ah (.cells ((aQ (⟨0,0,0⟩:State))).toArray 190 (0,0)) r (fun R=>ag gu) rfl fun fr b4 w5 n6 r=>?_;have hb1:=keep n6.below hb1
 obtain ⟨eb4,zw5,Jc,hB,zB⟩:=n6.all hB;refine wn (I0 (kF 0 r rfl ig rfl fun r=>kL (I a0.IP) r rfl hb1 IL rfl rfl fun r=>kM (I a1) r rfl rfl fun r=>kU (z6 (aQ (⟨a0.IP,1,a1⟩:State))) r kz rfl fun r=>?_));refine aM (.cells ((aQ (⟨a0.IP,1,a1⟩:State))).toArray 190 (0,0)) r (fun R=>bb r (o:=0) (v:=(z6 (aQ (⟨a0.IP,1,a1⟩:State)))) rfl rfl Jc eS u7 rfl rfl) rfl fun fr w7 u8 r=>?_
 have zw7:=u8.size;have hb1:=u8.keep hb1 O
 have Jc:=u8.at_;obtain ⟨hB,zB⟩:=u8.on hB O
 refine wn (q4 ?_);refine ak r rfl rfl Jc (k:=3) rfl dY ?_;exact ⟨rfl,hB⟩
def D.bR (a0:State) (a1:Int):State:=(bif (decide (a0.IP>=a1)) then (⟨a0.IP,3,0⟩:State) else (⟨(IntKind.i64.wrap (a0.IP+1)),0,0⟩:State))
theorem A9 (w0:World) 
    (a0:State) (a1:Int) :
    Calls B0 308 #[z6 (aQ a0),.int .i64 a1] w0 (bB (z6 (aQ (D.bR a0 a1))) w0):=by
 refine kN Tryz.func308 rfl 16 rfl rfl fun fr r hB=>?_;refine I0 ?_
 refine kX 190 (z6 (aQ a0)) r rfl rfl fun b1 w2 n3 r=>?_;obtain ⟨eb1,zw2,hb1,hB,zB⟩:=n3.all hB
 refine ah (.cells ((aQ (⟨0,0,0⟩:State))).toArray 190 (0,0)) r (fun R=>ag gu) rfl fun fr b4 w5 n6 r=>?_;have hb1:=keep n6.below hb1
 obtain ⟨eb4,zw5,Jc,hB,zB⟩:=n6.all hB;refine wn (d9 (I0 (kF 0 r rfl ig rfl fun r=>kL (I a0.IP) r rfl hb1 IL rfl rfl fun r=>kM (I a1) r rfl rfl fun r=>kB r rfl rfl rfl rfl rfl fun r=>wn ?_)));refine q5 (t:=(decide (a0.IP>=a1))) (r.ev rfl) (fun h7=>?_) (fun h7=>?_)
 ·
  refine I0 (kF 0 r rfl ig rfl fun r=>kL (I a0.IP) r rfl hb1 IL rfl rfl fun r=>kU (z6 (aQ (⟨a0.IP,3,0⟩:State))) r kz rfl fun r=>?_);refine aM (.cells ((aQ (⟨a0.IP,3,0⟩:State))).toArray 190 (0,0)) r (fun R=>bb r (o:=0) (v:=(z6 (aQ (⟨a0.IP,3,0⟩:State)))) rfl rfl Jc eS u7 rfl rfl) rfl fun fr w8 u9 r=>?_
  have zw8:=u9.size;have hb1:=u9.keep hb1 O
  have Jc:=u9.at_;obtain ⟨hB,zB⟩:=u9.on hB O
  refine wn (q4 ?_);have hd:D.bR a0 a1=(⟨a0.IP,3,0⟩:State):=(ar h7).trans (rfl);refine ak r rfl rfl Jc (k:=3) rfl dY ?_;rw [hd];exact ⟨rfl,hB⟩
 refine q7 (I0 (kF 0 r rfl ig rfl fun r=>kL (I a0.IP) r rfl hb1 IL rfl rfl fun r=>kB r rfl rfl rfl rfl rfl fun r=>kU (.agg (aQ (⟨(W (a0.IP+1)),0,0⟩:State)).toArray) r kz rfl fun r=>?_));refine aM (.cells ((aQ (⟨(W (a0.IP+1)),0,0⟩:State))).toArray 190 (0,0)) r (fun R=>bb r (o:=0) (v:=(.agg (aQ (⟨(W (a0.IP+1)),0,0⟩:State)).toArray)) rfl rfl Jc eS u7 rfl rfl) rfl fun fr J8 JG r=>?_
 have zw10:=JG.size;have hb1:=JG.keep hb1 O
 have Jc:=JG.at_;obtain ⟨hB,zB⟩:=JG.on hB O
 refine wn (q4 ?_);have hd:D.bR a0 a1=(⟨(W (a0.IP+1)),0,0⟩:State):=(ai h7).trans (rfl);refine ak r rfl rfl Jc (k:=3) rfl dY ?_;rw [hd];exact ⟨rfl,hB⟩
def D.gF (a0:State):State:=({ a0 with mode:=2 })
theorem A8 (w0:World) 
    (a0:State) :
    Calls B0 138 #[z6 (aQ a0)] w0 (bB (z6 (aQ (D.gF a0))) w0):=by
 refine kN Tryz.func138 rfl 5 rfl rfl fun fr r hB=>?_;refine I0 ?_
 refine kX 190 (z6 (aQ a0)) r rfl rfl fun b1 w2 n3 r=>?_;obtain ⟨eb1,zw2,hb1,hB,zB⟩:=n3.all hB
 refine ah (.cells ((aQ (⟨0,0,0⟩:State))).toArray 190 (0,0)) r (fun R=>ag gu) rfl fun fr b4 w5 n6 r=>?_;have hb1:=keep n6.below hb1
 obtain ⟨eb4,zw5,Jc,hB,zB⟩:=n6.all hB;refine wn (I0 (kF 0 r rfl lX rfl fun r=>?_));refine aM (.cells ((aQ ({ a0 with mode:=2 }))).toArray 190 (0,0)) r (fun R=>bb r (o:=1) (v:=(I 2)) rfl rfl hb1 ts3 u7 rfl rfl) rfl fun fr w7 u8 r=>?_
 have zw7:=u8.size;have Jc:=u8.keep Jc O
 have hb1:=u8.at_;obtain ⟨hB,zB⟩:=u8.on hB O
 refine wn (I0 (kG (aQ ({ a0 with mode:=2 })) 3 r rfl hb1 dY rfl rfl fun r=>?_))
 refine aM (.cells ((aQ ({ a0 with mode:=2 }))).toArray 190 (0,0)) r (fun R=>bb r (o:=0) (v:=(z6 (aQ ({ a0 with mode:=2 })))) rfl rfl Jc eS u7 rfl rfl) rfl fun fr w9 u10 r=>?_
 have zw9:=u10.size;have hb1:=u10.keep hb1 O
 have Jc:=u10.at_;obtain ⟨hB,zB⟩:=u10.on hB O
 refine wn (q4 ?_);refine ak r rfl rfl Jc (k:=3) rfl dY ?_;exact ⟨rfl,hB⟩
def D.dh (a0:State):Bool:=(bif (decide (a0.IP>=0)) then (bif (decide (a0.IP<=1073741823)) then (bif (decide (a0.mode>=0)) then (bif (decide (a0.mode<=3)) then (bif (decide (a0.kind>=0)) then (decide (a0.kind<=2)) else false) else false) else false) else false) else false)
theorem tw (w0:World) 
    (a0:State) :
    Calls B0 198 #[z6 (aQ a0)] w0 (bB (.bool (D.dh a0)) w0):=by
 refine kN Tryz.func198 rfl 31 rfl rfl fun fr r hB=>?_;refine I0 ?_
 refine kX 190 (z6 (aQ a0)) r rfl rfl fun b1 w2 n3 r=>?_;obtain ⟨eb1,zw2,hb1,hB,zB⟩:=n3.all hB
 refine kA (.bool false) r rfl rfl fun r=>wn (I0 (kF 0 r rfl ig rfl fun r=>kL (I a0.IP) r rfl hb1 IL rfl rfl fun r=>kB r rfl rfl rfl rfl rfl fun r=>kM (.bool (decide (a0.IP>=0))) r rfl rfl fun r=>?_));refine bG (decide (a0.IP>=0)) (fun h4=>?_) (fun h4=>?_)
 ·
  refine s1 r h4 (kF 0 r rfl ig rfl fun r=>s1 r h4 (kL (I a0.IP) r rfl hb1 IL rfl rfl fun r=>s1 r h4 (kB r rfl rfl rfl rfl rfl fun r=>aa (.bool (decide (a0.IP<=1073741823))) r (fun R=>ay r (b:=true) (kb h4) rfl) rfl fun fr r=>kM (.bool (decide (a0.IP<=1073741823))) r rfl rfl fun r=>?_)));refine bG (decide (a0.IP<=1073741823)) (fun h5=>?_) (fun h5=>?_)
  ·
   refine s1 r h5 (kF 0 r rfl lX rfl fun r=>s1 r h5 (kL (I a0.mode) r rfl hb1 IL rfl rfl fun r=>s1 r h5 (kB r rfl rfl rfl rfl rfl fun r=>aa (.bool (decide (a0.mode>=0))) r (fun R=>ay r (b:=true) (kb h5) rfl) rfl fun fr r=>kM (.bool (decide (a0.mode>=0))) r rfl rfl fun r=>?_)));refine bG (decide (a0.mode>=0)) (fun h6=>?_) (fun h6=>?_)
   ·
    refine s1 r h6 (kF 0 r rfl lX rfl fun r=>s1 r h6 (kL (I a0.mode) r rfl hb1 IL rfl rfl fun r=>s1 r h6 (kB r rfl rfl rfl rfl rfl fun r=>aa (.bool (decide (a0.mode<=3))) r (fun R=>ay r (b:=true) (kb h6) rfl) rfl fun fr r=>kM (.bool (decide (a0.mode<=3))) r rfl rfl fun r=>?_)));refine bG (decide (a0.mode<=3)) (fun h7=>?_) (fun h7=>?_)
    ·
     refine s1 r h7 (kF 0 r rfl rF rfl fun r=>s1 r h7 (kL (I a0.kind) r rfl hb1 IL rfl rfl fun r=>s1 r h7 (kB r rfl rfl rfl rfl rfl fun r=>aa (.bool (decide (a0.kind>=0))) r (fun R=>ay r (b:=true) (kb h7) rfl) rfl fun fr r=>kM (.bool (decide (a0.kind>=0))) r rfl rfl fun r=>?_)));refine bG (decide (a0.kind>=0)) (fun h8=>?_) (fun h8=>?_)
     ·
      refine s1 r h8 (kF 0 r rfl rF rfl fun r=>s1 r h8 (kL (I a0.kind) r rfl hb1 IL rfl rfl fun r=>s1 r h8 (kB r rfl rfl rfl rfl rfl fun r=>aa (.bool (decide (a0.kind<=2))) r (fun R=>ay r (b:=true) (kb h8) rfl) rfl fun fr r=>kA (.bool (decide (a0.kind<=2))) r rfl rfl fun r=>wn (q4 ?_))));have hd:D.dh a0=(decide (a0.kind<=2)):=(ar h4).trans ((ar h5).trans ((ar h6).trans ((ar h7).trans ((ar h8).trans (rfl)))))
      refine aT r rfl rfl ?_;rw [hd];exact ⟨rfl,hB⟩
     refine s0 r h8 fun fr r=>s0 r h8 fun fr r=>s0 r h8 fun fr r=>aa (.bool false) r (fun R=>ay r (b:=false) (kb h8) rfl) rfl fun fr r=>kA (.bool false) r rfl rfl fun r=>wn (q4 ?_);have hd:D.dh a0=false:=(ar h4).trans ((ar h5).trans ((ar h6).trans ((ar h7).trans ((ai h8).trans (rfl)))))
     refine aT r rfl rfl ?_;rw [hd];exact ⟨rfl,hB⟩
    refine s0 r h7 fun fr r=>s0 r h7 fun fr r=>s0 r h7 fun fr r=>aa (.bool false) r (fun R=>ay r (b:=false) (kb h7) rfl) rfl fun fr r=>kM (.bool false) r rfl rfl fun r=>s0 r (rfl:false=_) fun fr r=>s0 r (rfl:false=_) fun fr r=>s0 r (rfl:false=_) fun fr r=>aa (.bool false) r (fun R=>ay r (b:=false) (kb (rfl:false=_)) rfl) rfl fun fr r=>kA (.bool false) r rfl rfl fun r=>wn (q4 ?_);have hd:D.dh a0=false:=(ar h4).trans ((ar h5).trans ((ar h6).trans ((ai h7).trans (rfl))))
    refine aT r rfl rfl ?_;rw [hd];exact ⟨rfl,hB⟩
   refine s0 r h6 fun fr r=>s0 r h6 fun fr r=>s0 r h6 fun fr r=>aa (.bool false) r (fun R=>ay r (b:=false) (kb h6) rfl) rfl fun fr r=>kM (.bool false) r rfl rfl fun r=>s0 r (rfl:false=_) fun fr r=>s0 r (rfl:false=_) fun fr r=>s0 r (rfl:false=_) fun fr r=>aa (.bool false) r (fun R=>ay r (b:=false) (kb (rfl:false=_)) rfl) rfl fun fr r=>kM (.bool false) r rfl rfl fun r=>s0 r (rfl:false=_) fun fr r=>s0 r (rfl:false=_) fun fr r=>s0 r (rfl:false=_) fun fr r=>aa (.bool false) r (fun R=>ay r (b:=false) (kb (rfl:false=_)) rfl) rfl fun fr r=>kA (.bool false) r rfl rfl fun r=>wn (q4 ?_);have hd:D.dh a0=false:=(ar h4).trans ((ar h5).trans ((ai h6).trans (rfl)))
   refine aT r rfl rfl ?_;rw [hd];exact ⟨rfl,hB⟩
  refine s0 r h5 fun fr r=>s0 r h5 fun fr r=>s0 r h5 fun fr r=>aa (.bool false) r (fun R=>ay r (b:=false) (kb h5) rfl) rfl fun fr r=>kM (.bool false) r rfl rfl fun r=>s0 r (rfl:false=_) fun fr r=>s0 r (rfl:false=_) fun fr r=>s0 r (rfl:false=_) fun fr r=>aa (.bool false) r (fun R=>ay r (b:=false) (kb (rfl:false=_)) rfl) rfl fun fr r=>kM (.bool false) r rfl rfl fun r=>s0 r (rfl:false=_) fun fr r=>s0 r (rfl:false=_) fun fr r=>s0 r (rfl:false=_) fun fr r=>aa (.bool false) r (fun R=>ay r (b:=false) (kb (rfl:false=_)) rfl) rfl fun fr r=>kM (.bool false) r rfl rfl fun r=>s0 r (rfl:false=_) fun fr r=>s0 r (rfl:false=_) fun fr r=>s0 r (rfl:false=_) fun fr r=>aa (.bool false) r (fun R=>ay r (b:=false) (kb (rfl:false=_)) rfl) rfl fun fr r=>kA (.bool false) r rfl rfl fun r=>wn (q4 ?_);have hd:D.dh a0=false:=(ar h4).trans ((ai h5).trans (rfl))
  refine aT r rfl rfl ?_;rw [hd];exact ⟨rfl,hB⟩
 refine s0 r h4 fun fr r=>s0 r h4 fun fr r=>s0 r h4 fun fr r=>aa (.bool false) r (fun R=>ay r (b:=false) (kb h4) rfl) rfl fun fr r=>kM (.bool false) r rfl rfl fun r=>s0 r (rfl:false=_) fun fr r=>s0 r (rfl:false=_) fun fr r=>s0 r (rfl:false=_) fun fr r=>aa (.bool false) r (fun R=>ay r (b:=false) (kb (rfl:false=_)) rfl) rfl fun fr r=>kM (.bool false) r rfl rfl fun r=>s0 r (rfl:false=_) fun fr r=>s0 r (rfl:false=_) fun fr r=>s0 r (rfl:false=_) fun fr r=>aa (.bool false) r (fun R=>ay r (b:=false) (kb (rfl:false=_)) rfl) rfl fun fr r=>kM (.bool false) r rfl rfl fun r=>s0 r (rfl:false=_) fun fr r=>s0 r (rfl:false=_) fun fr r=>s0 r (rfl:false=_) fun fr r=>aa (.bool false) r (fun R=>ay r (b:=false) (kb (rfl:false=_)) rfl) rfl fun fr r=>kM (.bool false) r rfl rfl fun r=>s0 r (rfl:false=_) fun fr r=>s0 r (rfl:false=_) fun fr r=>s0 r (rfl:false=_) fun fr r=>aa (.bool false) r (fun R=>ay r (b:=false) (kb (rfl:false=_)) rfl) rfl fun fr r=>kA (.bool false) r rfl rfl fun r=>wn (q4 ?_);have hd:D.dh a0=false:=(ai h4).trans (rfl)
 refine aT r rfl rfl ?_;rw [hd];exact ⟨rfl,hB⟩
end Go.Proofs.YtbbipmelhmgmfaaGreat

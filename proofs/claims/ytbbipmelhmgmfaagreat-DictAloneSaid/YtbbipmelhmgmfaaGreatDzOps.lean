/- Ours. -/
import Derived.WalkKit
import Derived.KernelRfl
import Derived.Deep.LoopGhost
import Derived.Test.YtbbipmelhmgmfaaGreatDzDrawn
set_option linter.all false
set_option maxRecDepth 100000
set_option maxHeartbeats 20000000
namespace Go.Proofs.YtbbipmelhmgmfaaGreat
open Go.RowKit
section
variable {P : Program} {a : Act} {w : World} {d : Option Tmp} {ty : TypeId} {pos : String} {Ki : Array Edge}
def tyA (P:Program) (t:TypeId) (n:Nat):Bool:=
 (match P.underlying t with | some (.struct _) | some (.array _ _)=>true | _=>false)&&(match P.info? t with | some i=>i.size==n | none=>false)
def tyO (P:Program) (t:TypeId):Bool:=
 (match P.underlying t with | some (.struct _) | some (.array _ _)=>false | some _=>true | none=>false)&&(match P.info? t with | some i=>i.size==1 | none=>false)
def sized (P:Program) (t:TypeId) (n:Nat):Bool:=match P.info? t with | some i=>i.size==n | none=>false
theorem wt {t:TypeId} {n:Nat} (h:tyA P t n=true):sized P t n=true:=by
 simp only [tyA,Bool.and_eq_true] at h; exact h.2
theorem gh {t:TypeId} {n:Nat} (h:sized P t n=true):(sizeOf t).run P w=.ok n w:=by
 unfold sized at h
 cases hq:P.info? t with
 | none=>rw [hq] at h; cases h
 | some i=>rw [hq] at h; simp at h; subst h; simp [sizeOf,typeInfo,hq,go_sem]
theorem wO {t:TypeId} {n:Nat} (h:tyA P t n=true):(isAgg t).run P w=.ok true w:=by
 simp only [tyA,Bool.and_eq_true] at h
 have h1:=h.1;cases hq:P.underlying t with
 | none=>rw [hq] at h1; cases h1
 | some dd=>
  rw [hq] at h1
  unfold isAgg;rw [Sem.run_bind,run_underlying hq w];cases dd <;> first | rfl | cases h1
theorem DV {t:TypeId} (h:tyO P t=true):(isAgg t).run P w=.ok false w:=by
 simp only [tyO,Bool.and_eq_true] at h
 have h1:=h.1;cases hq:P.underlying t with
 | none=>rw [hq] at h1; cases h1
 | some dd=>
  rw [hq] at h1
  unfold isAgg;rw [Sem.run_bind,run_underlying hq w];cases dd <;> first | rfl | cases h1
def Lies (w:World) (b o:Nat) (cs:List Value):Prop:=∀ j v,cs[j]?=some v->w.cell? ⟨b,o+j,none⟩=some v
theorem ub (b o:Nat):∀ (cs:List Value) (i:Nat) (acc:Array Value),Lies w b (o+i) cs->(loadCellsFrom ⟨b,o,none⟩ i cs.length acc).run P w=.ok (acc++cs.toArray) w
 | [],i,acc,_=>by simp [loadCellsFrom,go_sem]
 | c::cs,i,acc,h=>by
  have h0:=h 0 c rfl;rw [Nat.add_zero] at h0
  have hl:(load (Addr.add ⟨b,o,none⟩ i)).run P w=.ok c w:=by
   rw [Addr.add_lit]
   simp [load,Sem.run,h0]
  simp only [List.length_cons,loadCellsFrom,Sem.run_bind,hl,Result.andThen_ok]
  rw [ub b o cs (i+1) (acc.push c) (fun j v hv=>by
   have:=h (j+1) v (by simpa using hv)
   rw [show o+(i+1)+j=o+i+(j+1) from by omega]
   exact this)]
  simp
theorem iM {b o:Nat} {t:TypeId} {cs:List Value} (h:Lies w b o cs) (ht:tyA P t cs.length=true):(loadVar t ⟨b,o,none⟩).run P w=.ok (.agg cs.toArray) w:=by
 have:=ub (P:=P) (w:=w) b o cs 0 #[] yaJ
 unfold loadVar;rw [Sem.run_bind,wO ht];simp only [Result.andThen_ok,if_true];rw [Sem.run_bind,gh (wt ht)];simp only [Result.andThen_ok];rw [Sem.run_bind];unfold loadCells;rw [this];simp [go_sem]
theorem uK {b o:Nat} {t:TypeId} {v:Value} (h:w.cell? ⟨b,o,none⟩=some v) (ht:tyO P t=true):(loadVar t ⟨b,o,none⟩).run P w=.ok v w:=by
 unfold loadVar;rw [Sem.run_bind,DV ht];simp [load,Sem.run,h]
theorem jF {b:Nat} {c:Array Value} {E:TypeId} {fz:Nat × Nat} (h:w.heap[b]?=some (.cells c E fz)) {o n:Nat} {cs:List Value} (hc:((c.toList.drop o).take n)=cs):Lies w b o cs:=by
 intro j v hv;subst hc;simp only [World.cell?,h];rw [List.getElem?_take] at hv
 split at hv
 ·rw [List.getElem?_drop] at hv
  simpa using hv
 ·cases hv
/-! ### The frame as a list of what was put last -/
theorem lc1 {a a':Value} (h:a=a'):[a]=[a']:=by rw [h]
theorem lc2 {a b a' b':Value} (h:a=a') (h2:b=b'):[a,b]=[a',b']:=by rw [h,h2]
inductive SL where
 | base (g:Nat->Value)
 | push (s:SL) (d:Nat) (v:Value)
def look:SL->Nat->Value
 | .base g,t=>g t
 | .push s d v,t=>if t=d then v else look s t
def lookO (s:SL):Operand->Value
 | .tmp t=>look s t
 | .const v=>v
 | .global g=>.pointer (some ⟨g,0,none⟩)
 | .func f=>.func (.func f) #[] #[]
structure Fr (a:Act) (n:Nat) (s:SL):Prop where
 defers:a.defers=[]
 size:a.tmps.size=n
 slot:∀ t,a.tmps.getD t undef=look s t
theorem Fr.eval {a:Act} {n:Nat} {s:SL} (h:Fr a n s) (x:Operand):a.eval x=lookO s x:=by
 cases x <;> simp [Act.eval,lookO,<-h.slot]
theorem Fr.ev {a:Act} {n:Nat} {s:SL} (h:Fr a n s) {x:Operand} {v:Value} (hx:lookO s x=v):a.eval x=v:=by rw [h.eval,hx]
theorem Fr.evs {a:Act} {n:Nat} {s:SL} (h:Fr a n s) {xs:List Operand} {vs:List Value} (hx:xs.map (lookO s)=vs):xs.toArray.map a.eval=vs.toArray:=by
 subst hx;rw [List.map_toArray];exact congrArg (fun f=>(xs.map f).toArray) (funext fun x=>h.eval x)
def KJ (s:SL) (d:Option Tmp) (v:Value):SL:=match d with | some d=>s.push d v | none=>s
theorem Fr.put {a:Act} {n:Nat} {s:SL} (h:Fr a n s) {d:Option Tmp} (v:Value) (hd:(match d with | some d=>decide (d<n) | none=>true)=true):Fr (a.put d v) n (KJ s d v):=by
 cases d with
 | none=>exact h
 | some d=>
  have hd':d<n:=by simpa using hd
  refine ⟨h.defers,by simp [Act.put,h.size],fun t=>?_⟩
  simp only [Act.put,KJ,look,Array.getD_eq_getD_getElem?]
  by_cases ht:t=d
  ·subst ht
   rw [if_pos rfl,Array.getElem?_setIfInBounds,if_pos rfl,if_pos (by rw [h.size]; exact hd')]
   rfl
  ·rw [if_neg ht,Array.getElem?_setIfInBounds,if_neg (Ne.symm ht),<-h.slot,Array.getD_eq_getD_getElem?]
def jb:List Value->Nat->SL
 | [],_=>.base fun _=>undef
 | v::l,k=>(jb l (k+1)).push k v
theorem uW:∀ (l:List Value) (k t:Nat),look (jb l k) t=if t<k then undef else l.getD (t - k) undef
 | [],k,t=>by simp [jb,look]
 | v::l,k,t=>by
  simp only [jb,look,uW l (k+1) t]
  by_cases h:t=k
  ·subst h; simp
  ·rw [if_neg h]
   by_cases h2:t<k
   ·rw [if_pos O,if_pos h2]
   ·rw [if_neg O,if_neg h2]
    obtain ⟨j,rfl⟩:∃ j,t=k+1+j:=⟨t - k - 1,O⟩
    rw [show k+1+j - (k+1)=j from O,show k+1+j - k=j+1 from by omega]
    simp
theorem Fr.enter (l:List Value) (m:Nat):Fr { tmps:=l.toArray++Array.replicate m undef,defers:=[] } (l.length+m) (jb l 0):=by
 refine ⟨rfl,by simp,fun t=>?_⟩
 rw [uW]
 simp only [Nat.not_lt_zero,if_false,Nat.sub_zero,Array.getD_eq_getD_getElem?,Array.getElem?_append,List.size_toArray]
 split
 ·rename_i h; simp [h]
 ·rename_i h
  rw [Array.getElem?_replicate]
  split <;> simp [h]
def pushes:List (Nat × Value)->SL->SL
 | [],s=>s
 | (d,v)::l,s=>(pushes l s).push d v
theorem Fr.forget {a:Act} {n:Nat} {s:SL} (h:Fr a n s):∀ (l:List (Nat × Value)),(∀ q,q∈l->look s q.1=q.2)->Fr a n (pushes l (.base (look s)))
 | [],_=>⟨h.defers,h.size,h.slot⟩
 | (d,v)::l,hk=>by
  have ih:=Fr.forget h l fun q hq=>hk q (List.mem_cons_of_mem _ hq)
  refine ⟨ih.defers,ih.size,fun t=>?_⟩
  simp only [pushes,look]
  by_cases ht:t=d
  ·subst ht
   rw [if_pos rfl,h.slot]
   exact hk (t,v) (List.mem_cons_self ..)
  ·rw [if_neg ht,<-ih.slot]
theorem enter {f:FuncId} {fn:Func} {c:Code} {l:List Value} {w:World} {R:Ending->World->Prop} (hf:P.funcs[f]?=some fn) (hb:fn.body=some c) (n:Nat) (hn:fn.ntmps=n)
  (hl:l.length+(n - l.length)=n) (h:∀ a,Fr a n (jb l 0)->c.wp P (bodyPost P fn R) a w):Calls P f l.toArray w R:=by
 refine calls_of_wp hf hb (h _ ?_);have:=Fr.enter l (n - l.length);rw [hl] at this
 rw [hn]
 simpa using this
theorem aT {fn:Func} {a:Act} {n:Nat} {s:SL} (h:Fr a n s) {R:Ending->World->Prop} {w:World} {t:Tmp} {v:Value} (hf:fn.results=#[.tmp t]) (hv:look s t=v) (hR:R (.returned v) w):bodyPost P fn R .ret a w:=by
 refine ⟨h.defers,v,?_,hR⟩;subst hv;simp [results,hf,<-h.slot]
theorem fE {fn:Func} {a:Act} {n:Nat} {s:SL} (h:Fr a n s) {R:Ending->World->Prop} {w:World} {t t':Tmp} {v v':Value} (hf:fn.results=#[.tmp t,.tmp t']) (hv:look s t=v) (hv':look s t'=v')
  (hR:R (.returned (.tuple #[v,v'])) w):bodyPost P fn R .ret a w:=by
 refine ⟨h.defers,_,?_,hR⟩;subst hv; subst hv';simp [results,hf,<-h.slot]
theorem ak {fn:Func} {a:Act} {n:Nat} {s:SL} (h:Fr a n s) {R:Ending->World->Prop} {w:World} {t:Tmp} {ty:TypeId} {b:Nat} {c:Array Value} {E:TypeId} {fz:Nat × Nat} {k:Nat} (hf:fn.results=#[.cell t ty])
  (hv:look s t=.pointer (some ⟨b,0,none⟩)) (hb:w.heap[b]?=some (.cells c E fz)) (hk:c.size=k) (ht:tyA P ty k=true) (hR:R (.returned (.agg c)) w):bodyPost P fn R .ret a w:=by
 refine ⟨h.defers,_,?_,hR⟩;subst hk;have hl:(loadVar ty ⟨b,0,none⟩).run P w=.ok (.agg c) w:=by
  have:=iM (P:=P) (t:=ty) (jF hb (o:=0) (n:=c.size) (cs:=c.toList) yav) (by simpa using ht)
  simpa using this
 simp [results,hf,h.slot,hv,asAddr,hl]
theorem fT {fn:Func} {a:Act} {n:Nat} {s:SL} (h:Fr a n s) {R:Ending->World->Prop} {w:World} {t t':Tmp} {ty:TypeId} {b:Nat} {c:Array Value} {E:TypeId} {fz:Nat × Nat} {k:Nat} {v':Value} (hf:fn.results=#[.cell t ty,.tmp t'])
  (hv:look s t=.pointer (some ⟨b,0,none⟩)) (hv':look s t'=v') (hb:w.heap[b]?=some (.cells c E fz)) (hk:c.size=k) (ht:tyA P ty k=true) (hR:R (.returned (.tuple #[.agg c,v'])) w):bodyPost P fn R .ret a w:=by
 refine ⟨h.defers,_,?_,hR⟩;subst hk; subst hv';have hl:(loadVar ty ⟨b,0,none⟩).run P w=.ok (.agg c) w:=by
  have:=iM (P:=P) (t:=ty) (jF hb (o:=0) (n:=c.size) (cs:=c.toList) yav) (by simpa using ht)
  simpa using this
 simp [results,hf,h.slot,hv,asAddr,hl]
def Kt:List Oper->(Nat->Value)->Nat->SL->SL
 | [],_,_,s=>s
 | o::l,u,k,s=>Kt l u (k+1) (KJ s o.dst (u k))
def dstsIn (n:Nat) (l:List Oper):Bool:=l.all fun o=>match o.dst with | some d=>decide (d<n) | none=>true
theorem Fr.JK {n:Nat}:∀ (l:List Oper) (u:Nat->Value) (k:Nat) {a:Act} {s:SL},Fr a n s->dstsIn n l=true->Fr (JK l u k a) n (Kt l u k s)
 | [],_,_,_,_,h,_=>h
 | o::l,u,k,a,s,h,hd=>by
  simp only [dstsIn,List.all_cons,Bool.and_eq_true] at hd
  exact Fr.JK l u (k+1) (h.put (u k) hd.1) hd.2
/-! ### Operations that read -/
section
variable {N : Nat} {s : SL} (Jb : Fr a N s)
include Jb
theorem aU {x:Operand} {b o n:Nat} {t E:TypeId} {c:Array Value} {fz:Nat × Nat} {cs:List Value} {R:Value->World->Prop} (hx:lookO s x=.pointer (some ⟨b,o,none⟩))
  (h:w.heap[b]?=some (.cells c E fz)) (ht:tyA P t cs.length=true) (hc:((c.toList.drop o).take n)=cs) (hr:R (.agg cs.toArray) w):Yields P ⟨d,.load t x,ty,pos,Ki,none⟩ a w R:=by
 refine .of_run (v:=.agg cs.toArray) (w':=w) ?_ hr;simp only [execOp,Jb.ev hx,Instr.loadAt,Instr.sureAddr,Sem.run_bind,Sem.run_pure,Result.andThen_ok,iM (jF h hc) ht]
theorem ax {x:Operand} {b o:Nat} {t E:TypeId} {c:Array Value} {fz:Nat × Nat} {v:Value} {R:Value->World->Prop} (hx:lookO s x=.pointer (some ⟨b,o,none⟩))
  (h:w.heap[b]?=some (.cells c E fz)) (ht:tyO P t=true) (hc:c[o]?=some v) (hr:R v w):Yields P ⟨d,.load t x,ty,pos,Ki,none⟩ a w R:=by
 refine .of_run (v:=v) (w':=w) ?_ hr;have:w.cell? ⟨b,o,none⟩=some v:=by simp [World.cell?,h,hc]
 simp only [execOp,Jb.ev hx,Instr.loadAt,Instr.sureAddr,Sem.run_bind,Sem.run_pure,Result.andThen_ok,uK this ht]
end
/-! ### New blocks -/
structure New (w w':World) (b:Nat) (o:Obj):Prop where
 eq:b=w.heap.size
 at_:w'.heap[b]?=some o
 below:Below w.heap.size w w'
 size:w'.heap.size=b+1
theorem New.lV (w:World) (o:Obj):New w (w.alloc o) w.heap.size o:=
 ⟨rfl,by show (w.heap.push o)[w.heap.size]?=some o; simp,(Below.refl _ _).alloc (Nat.le_refl _) _,by simp⟩
theorem keep {w w':World} {b:Nat} {o:Obj} (hb:Below w.heap.size w w') (h:w.heap[b]?=some o):w'.heap[b]?=some o:=by
 rw [hb.block b (q8 h)]; exact h
section
variable {N : Nat} {s : SL} (Jb : Fr a N s)
include Jb
theorem xP {x:Operand} {t:TypeId} {v:Value} {R:Value->World->Prop} (hx:lookO s x=v) (hr:∀ b w',New w w' b (.cells v.cells t (0,0))->R (.pointer (some ⟨b,0,none⟩)) w') :
  Yields P ⟨d,.box t x,ty,pos,Ki,none⟩ a w R:=by
 refine .of_run (v:=.pointer (some ⟨w.heap.size,0,none⟩)) (w':=w.alloc (.cells v.cells t)) ?_ (hr _ _ (New.lV _ _));simp only [execOp,Jb.ev hx,Instr.box,newVar,newRow,newObj,Sem.run_bind,Sem.run_pure]
 rfl
end
def zeroOf (P:Program) (t:TypeId):Option Value:=match P.info? t with | some i=>i.zero | none=>none
theorem ag {t:TypeId} {z:Value} {R:Value->World->Prop} (hz:zeroOf P t=some z)
  (hr:∀ b w',New w w' b (.cells z.cells t (0,0))->R (.pointer (some ⟨b,0,none⟩)) w'):Yields P ⟨d,.alloc t,ty,pos,Ki,none⟩ a w R:=by
 refine .of_run (v:=.pointer (some ⟨w.heap.size,0,none⟩)) (w':=w.alloc (.cells z.cells t)) ?_ (hr _ _ (New.lV _ _));unfold zeroOf at hz
 cases hq:P.info? t with
 | none=>rw [hq] at hz; cases hz
 | some i=>
  rw [hq] at hz
  have hz':i.zero=some z:=hz;simp only [execOp,Instr.alloc,zeroValue,typeInfo,program,newVar,newRow,newObj,Sem.run_bind,Sem.run_pure,Result.andThen_ok,Sem.run,hq,hz']
  rfl
/-! ### Stores -/
structure Upd (w w':World) (b:Nat) (o:Obj):Prop where
 os:w'.os=w.os
 tape:w'.tape=w.tape
 output:w'.output=w.output
 size:w'.heap.size=w.heap.size
 at_:w'.heap[b]?=some o
 other:∀ k,k≠b->w'.heap[k]?=w.heap[k]?
def over (c:Array Value):Nat->List Value->Array Value
 | _,[]=>c
 | o,v::l=>over (c.setIfInBounds o v) (o+1) l
def plainCell:Value->Bool
 | .agg _ | .tuple _=>false
 | _=>true
theorem uh (b o:Nat):∀ (l:List Value) (i:Nat) (w:World) (c:Array Value) (E:TypeId),w.heap[b]?=some (.cells c E (0,0))->o+i+l.length<=c.size->l.all plainCell=true->
  ∃ w',(storeCells ⟨b,o,none⟩ l i).run P w=.ok () w'/\Upd w w' b (.cells (over c (o+i) l) E (0,0))
 | [],i,w,c,E,h,_,_=>⟨w,by simp [storeCells,go_sem],⟨rfl,rfl,rfl,rfl,h,fun _ _=>rfl⟩⟩
 | v::l,i,w,c,E,h,hn,hp=>by
  simp only [List.length_cons] at hn
  simp only [List.all_cons,Bool.and_eq_true] at hp
  have hcell:w.cell? ⟨b,o+i,none⟩=some c[o+i]:=by simp [World.cell?,h]
  have hfz:w.frozen? ⟨b,o+i,none⟩=false:=by simp [World.frozen?,h]
  have hs:(store (Addr.add ⟨b,o,none⟩ i) v).run P w=.ok () (w.setCell ⟨b,o+i,none⟩ v):=by
   rw [Addr.add_lit]
   cases v <;> first | (simp [plainCell] at hp; done) | simp [store,Sem.run,hcell,hfz]
  have hlt:=q8 h;have h1:(w.setCell ⟨b,o+i,none⟩ v).heap[b]?=some (.cells (c.setIfInBounds (o+i) v) E (0,0)):=by
   have h':w.heap[b]=.cells c E (0,0):=by simpa [Array.getElem?_eq_getElem hlt] using h
   show (w.heap.modify b _)[b]?=_
   rw [Array.getElem?_eq_getElem (by simpa using hlt),Array.getElem_modify_self,h']
   rfl
  obtain ⟨w',hr,hu⟩:=uh b o l (i+1) (w.setCell ⟨b,o+i,none⟩ v) _ E h1 yao hp.2;refine ⟨w',?_,?_⟩
  ·simp only [storeCells,Sem.run_bind,hs,Result.andThen_ok]; exact hr
  ·refine ⟨hu.os,hu.tape,hu.output,?_,?_,fun k hk=>?_⟩
   ·rw [hu.size]; simp [World.setCell]
   ·rw [hu.at_]; rfl
   ·rw [hu.other k hk]; exact Below.heap_setCell _ _ _ _ hk
section
variable {N : Nat} {s : SL} (Jb : Fr a N s)
include Jb
theorem bb {x y:Operand} {b o:Nat} {t E:TypeId} {c c':Array Value} {v:Value} {R:Value->World->Prop} (hx:lookO s x=.pointer (some ⟨b,o,none⟩)) (hy:lookO s y=v)
  (h:w.heap[b]?=some (.cells c E (0,0))) (ht:sized P t v.cells.size=true) (hn:o+v.cells.size<=c.size) (hp:v.cells.toList.all plainCell=true) (hc:over c o v.cells.toList=c')
  (hr:∀ w',Upd w w' b (.cells c' E (0,0))->R undef w'):Yields P ⟨d,.store t x y,ty,pos,Ki,none⟩ a w R:=by
 obtain ⟨w',hs,hu⟩:=uh (P:=P) b o v.cells.toList 0 w c E h (by simpa using hn) hp;rw [Nat.add_zero,hc] at hu
 refine .Eg (w':=w') ?_ (hr _ hu);simp only [execOp,Jb.ev hx,Jb.ev hy,Instr.storeAt,Instr.sureAddr,storeVar,Sem.run_bind,Sem.run_pure,Result.andThen_ok,gh ht,ne_eq,not_true_eq_false,if_false,hs]
end
theorem Upd.below {w0 w w':World} {b B:Nat} {o:Obj} (hB:Below B w0 w) (h:Upd w w' b o) (hb:B<=b):Below B w0 w':=
 hB.trans ⟨h.os,h.tape,h.output,by rw [h.size]; exact Nat.le_refl _,fun k hk=>h.other k O⟩
theorem Upd.keep {w w':World} {b k:Nat} {o o':Obj} (h:Upd w w' b o) (hk:w.heap[k]?=some o') (hne:k≠b):w'.heap[k]?=some o':=by
 rw [h.other k hne]; exact hk
/-! ### Values -/
section
variable {N : Nat} {s : SL} (Jb : Fr a N s)
include Jb
theorem aw {x:Operand} {v:Value} {R:Value->World->Prop} (hx:lookO s x=v) (hr:R v w):Yields P ⟨d,.move x,ty,pos,Ki,none⟩ a w R:=.of_run (v:=v) (w':=w) (by rw [<-Jb.ev hx]; rfl) hr
theorem cZ {x:Operand} {v:Value} {R:Value->World->Prop} (hx:lookO s x=v) (hr:R v w):Yields P ⟨d,.assign x,ty,pos,Ki,none⟩ a w R:=.of_run (v:=v) (w':=w) (by rw [<-Jb.ev hx]; rfl) hr
theorem ay {c x y:Operand} {b:Bool} {v:Value} {R:Value->World->Prop} (hc:lookO s c=.bool b) (hx:lookO s (bif b then x else y)=v) (hr:R v w):Yields P ⟨d,.pick c x y,ty,pos,Ki,none⟩ a w R:=by
 refine .of_run (v:=v) (w':=w) ?_ hr;have hc':=Jb.ev hc;have hx':=Jb.ev hx;cases b <;> simp_all [execOp,asBool,go_sem]
theorem aZ {fn:Fn} {fs cs:List Operand} {v:Value} {R:Value->World->Prop} (hv:Value.func fn (fs.map (lookO s)).toArray (cs.map (lookO s)).toArray=v) (hr:R v w):Yields P ⟨d,.makeFunc fn fs.toArray cs.toArray,ty,pos,Ki,none⟩ a w R:=
 .of_run (v:=v) (w':=w) (by rw [<-hv,<-Jb.evs rfl,<-Jb.evs rfl]; rfl) hr
theorem bd {op:BinOp} {t t2:TypeId} {x y:Operand} {u u' v:Value} {R:Value->World->Prop} (hx:lookO s x=u) (hy:lookO s y=u')
  (hg:(eqGuard op t x y u u').run P w=.ok () w) (h:(binOp op t u u').run P w=.ok v w) (hr:R v w):Yields P ⟨d,.binOp op t x y t2,ty,pos,Ki,none⟩ a w R:=by
 refine .of_run (v:=v) (w':=w) ?_ hr;simp only [execOp,Jb.ev hx,Jb.ev hy,Sem.run_bind,hg,Result.andThen_ok,h,Sem.run_pure]
theorem JQ {op:UnOp} {t:TypeId} {x:Operand} {u v:Value} {R:Value->World->Prop} (hx:lookO s x=u) (h:(Op.unary op u).run P w=.ok v w) (hr:R v w):Yields P ⟨d,.unOp op t x,ty,pos,Ki,none⟩ a w R:=by
 refine .of_run (v:=v) (w':=w) ?_ hr;simp only [execOp,Jb.ev hx,Sem.run_bind,Result.andThen_ok,h,Sem.run_pure]
end
def intTy (P:Program) (t:TypeId) (k:IntKind):Bool:=match P.underlying t with | some (.int k')=>k'==k | _=>false
section
variable {N : Nat} {s : SL} (Jb : Fr a N s)
include Jb
theorem cV {st t:TypeId} {x:Operand} {k k':IntKind} {n:Int} {R:Value->World->Prop} (hx:lookO s x=.int k n) (hs:intTy P st k=true) (ht:intTy P t k'=true) (hr:R (.int k' (k'.wrap n)) w) :
  Yields P ⟨d,.convert st t x,ty,pos,Ki,none⟩ a w R:=by
 refine .of_run (v:=.int k' (k'.wrap n)) (w':=w) ?_ hr;unfold intTy at hs ht
 cases h1:P.underlying st with
 | none=>rw [h1] at hs; cases hs
 | some d1=>
  cases h2:P.underlying t with
  | none=>rw [h2] at ht; cases ht
  | some d2=>
   rw [h1] at hs; rw [h2] at ht
   cases d1 <;> first | cases hs | skip
   cases d2 <;> first | cases ht | skip
   simp at hs ht
   subst hs; subst ht;simp only [execOp,Jb.ev hx,convert,Sem.run_bind,run_underlying h1,run_underlying h2,Result.andThen_ok]
   rfl
theorem bZ {x:Operand} {i:Nat} {vs:Array Value} {v:Value} {R:Value->World->Prop} (hx:lookO s x=.tuple vs) (hv:vs[i]?=some v) (hr:R v w):Yields P ⟨d,.extract x i,ty,pos,Ki,none⟩ a w R:=by
 refine .of_run (v:=v) (w':=w) ?_ hr;simp only [execOp,Jb.ev hx,Instr.extract,hv]
 rfl
theorem eQ {t:TypeId} {ps:List (Nat × Operand)} {v:Value} {R:Value->World->Prop} (h:(Instr.build t (ps.map fun q=>(q.1,lookO s q.2)).toArray).run P w=.ok v w) (hr:R v w):Yields P ⟨d,.build t ps.toArray,ty,pos,Ki,none⟩ a w R:=by
 refine .of_run (v:=v) (w':=w) ?_ hr;have e:(ps.toArray.map fun q=>(q.1,a.eval q.2))=(ps.map fun q=>(q.1,lookO s q.2)).toArray:=by
  rw [List.map_toArray]
  have:(fun q:Nat × Operand=>(q.1,a.eval q.2))=fun q=>(q.1,lookO s q.2):=funext fun q=>by rw [Jb.eval]
  rw [this]
 simp only [execOp]
 rw [e]
 simp only [Sem.run_bind,h,Result.andThen_ok,Sem.run_pure]
end
def ba (P:Program) (t:TypeId) (i o:Nat):Bool:=match P.underlying t with
 | some (.struct fs)=>(match fs[i]? with | some f=>f.offset==o&&(match P.info? f.type with | some q=>q.size !=0 | none=>false) | none=>false)
 | _=>false
section
variable {N : Nat} {s : SL} (Jb : Fr a N s)
include Jb
theorem az {t:TypeId} {x:Operand} {i b o k:Nat} {R:Value->World->Prop} (hx:lookO s x=.pointer (some ⟨b,o,none⟩)) (hf:ba P t i k=true)
  (hr:R (.pointer (some ⟨b,o+k,none⟩)) w):Yields P ⟨d,.fieldAddr t x i,ty,pos,Ki,none⟩ a w R:=by
 refine .of_run (v:=.pointer (some ⟨b,o+k,none⟩)) (w':=w) ?_ hr;unfold ba at hf
 cases h1:P.underlying t with
 | none=>rw [h1] at hf; cases hf
 | some d1=>
  rw [h1] at hf
  cases d1 with
  | struct fs=>
   simp only at hf
   cases h2:fs[i]? with
   | none=>rw [h2] at hf; cases hf
   | some f=>
    rw [h2] at hf
    simp only [Bool.and_eq_true] at hf
    cases h3:P.info? f.type with
    | none=>rw [h3] at hf; exact absurd hf.2 yas
    | some q=>
     rw [h3] at hf
     have h4:f.offset=k:=by simpa using hf.1
     have h5:q.size≠0:=by simpa using hf.2
     have h6:(sizeOf f.type).run P w=.ok q.size w:=gh (by unfold sized; rw [h3]; simp)
     simp only [execOp,Jb.ev hx,Instr.fieldAt,Instr.sureAddr,fieldPlace,Sem.run_bind,run_underlying h1,h2,Sem.run_pure,Result.andThen_ok,h6,h5,if_false,h4,Addr.add_lit]
  | _=>cases hf
end
def fieldZ (P:Program) (t:TypeId) (i k:Nat):Bool:=match P.underlying t with
 | some (.struct fs)=>(match fs[i]? with
  | some f=>f.offset==k&&sized P f.type 0&&decide (P.cellsOf t≠0)&&(byteOfCell P P.depth t (0 % P.cellsOf t)).isSome&&(byteOfCell P P.depth t (k % P.cellsOf t)).isSome
  | none=>false)
 | _=>false
theorem uV {b o:Nat} {E:TypeId} {c:Array Value} {fz:Nat × Nat} (h:w.heap[b]?=some (.cells c E fz)) (hs:P.cellsOf E≠0) {x:Nat} (hx:byteOfCell P P.depth E (o % P.cellsOf E)=some x) :
  (byteOf ⟨b,o,none⟩).run P w=.ok (o / P.cellsOf E * P.bytesOf E+x) w:=by
 have hsh:w.shape? b=some (E,c.size):=by simp [World.shape?,h]
 simp [byteOf,program,noView,viewAt,shape,Sem.run_bind,Sem.run,hsh,hs,hx,go_sem]
theorem lD {N:Nat} {s:SL} (Jb:Fr a N s) {t:TypeId} {x:Operand} {i b k:Nat} {c:Array Value} {fz:Nat × Nat} {R:Value->World->Prop} (hx:lookO s x=.pointer (some ⟨b,0,none⟩)) (hf:fieldZ P t i k=true) (h:w.heap[b]?=some (.cells c t fz))
  (hr:∀ sp,R (.pointer (some ⟨b,k,sp⟩)) w):Yields P ⟨d,.fieldAddr t x i,ty,pos,Ki,none⟩ a w R:=by
 unfold fieldZ at hf
 cases h1:P.underlying t with
 | none=>rw [h1] at hf; cases hf
 | some d1=>
  rw [h1] at hf
  cases d1 with
  | struct fs=>
   simp only at hf
   cases h2:fs[i]? with
   | none=>rw [h2] at hf; cases hf
   | some f=>
    rw [h2] at hf
    simp only [Bool.and_eq_true,decide_eq_true_eq,beq_iff_eq] at hf
    obtain ⟨⟨⟨⟨hk,hz⟩,hs⟩,hx0⟩,hx1⟩:=hf;obtain ⟨x0,hx0⟩:=Option.isSome_iff_exists.1 hx0;obtain ⟨x1,hx1⟩:=Option.isSome_iff_exists.1 hx1;have r0:=uV (P:=P) (o:=0) h hs hx0;have r1:=uV (P:=P) (o:=k) h hs hx1;have h6:(sizeOf f.type).run P w=.ok 0 w:=gh hz;have key:∃ sp,(fieldPlace ⟨b,0,none⟩ f).run P w=.ok ⟨b,k,sp⟩ w:=by
     simp only [fieldPlace,Sem.run_bind,h6,Result.andThen_ok,if_true,partAt,r0,Nat.zero_add,hk,r1]
     split
     ·exact ⟨none,rfl⟩
     ·exact ⟨_,rfl⟩
    obtain ⟨sp,key⟩:=key;refine .of_run (v:=.pointer (some ⟨b,k,sp⟩)) (w':=w) ?_ (hr sp);simp only [execOp,Jb.ev hx,Instr.fieldAt,Instr.sureAddr,Sem.run_bind,run_underlying h1,h2,Sem.run_pure,Result.andThen_ok,key]
  | _=>cases hf
theorem lJ {N:Nat} {s:SL} (Jb:Fr a N s) {t:TypeId} {x:Operand} {ad:Addr} {R:Value->World->Prop} (hx:lookO s x=.pointer (some ad)) (ht:tyA P t 0=true) (hr:R (.agg #[]) w):Yields P ⟨d,.load t x,ty,pos,Ki,none⟩ a w R:=by
 refine .of_run (v:=.agg #[]) (w':=w) ?_ hr;have hl:(loadVar t ad).run P w=.ok (.agg #[]) w:=by
  unfold loadVar;rw [Sem.run_bind,wO ht];simp only [Result.andThen_ok,if_true];rw [Sem.run_bind,gh (wt ht)];simp only [Result.andThen_ok];rw [Sem.run_bind];simp [loadCells,loadCellsFrom,go_sem]
 simp only [execOp,Jb.ev hx,Instr.loadAt,Instr.sureAddr,Sem.run_bind,Sem.run_pure,Result.andThen_ok,hl]
/-! ### Calls -/
def af (P:Program) (f:FuncId):Bool:=match P.funcs[f]? with | some fn=>fn.name !="runtime.NumGoroutine"&&fn.body.isSome | none=>false
section
variable {N : Nat} {s : SL} (Jb : Fr a N s)
include Jb
theorem Gx {x y:Operand} {k:IntKind} {m n:Int} {ts:Array TypeId} {R:Value->World->Prop} (hx:lookO s x=.int k m) (hy:lookO s y=.int k n) (hr:R (.int k (if n > m then n else m)) w) :
  Yields P ⟨d,.call ⟨.builtin .max,#[x,y],ts⟩,ty,pos,Ki,none⟩ a w R:=by
 refine .of_run (v:=.int k (if n > m then n else m)) (w':=w) ?_ hr
 have e:(#[x,y]:Array Operand).map a.eval=#[.int k m,.int k n]:=Jb.evs (xs:=[x,y]) (vs:=[.int k m,.int k n]) (lc2 hx hy);simp only [execOp,resolve,e,Sem.run_bind,Sem.run_pure,Result.andThen_ok,invoke,builtin]
 rfl
theorem EW {x y:Operand} {k:IntKind} {m n:Int} {ts:Array TypeId} {R:Value->World->Prop} (hx:lookO s x=.int k m) (hy:lookO s y=.int k n) (hr:R (.int k (if n<m then n else m)) w) :
  Yields P ⟨d,.call ⟨.builtin .min,#[x,y],ts⟩,ty,pos,Ki,none⟩ a w R:=by
 refine .of_run (v:=.int k (if n<m then n else m)) (w':=w) ?_ hr
 have e:(#[x,y]:Array Operand).map a.eval=#[.int k m,.int k n]:=Jb.evs (xs:=[x,y]) (vs:=[.int k m,.int k n]) (lc2 hx hy);simp only [execOp,resolve,e,Sem.run_bind,Sem.run_pure,Result.andThen_ok,invoke,builtin]
 rfl
def isSlice (P:Program) (t:TypeId):Bool:=match P.underlying t with | some (.slice _)=>true | _=>false
theorem mB {x:Operand} {ad:Option Addr} {n c:Nat} {t:TypeId} {R:Value->World->Prop} (ht:isSlice P t=true) (hx:lookO s x=.slice ad n c) (hr:R (.int .i64 n) w) :
  Yields P ⟨d,.call ⟨.builtin .len,#[x],#[t]⟩,ty,pos,Ki,none⟩ a w R:=by
 refine .of_run (v:=.int .i64 n) (w':=w) ?_ hr;have e:(#[x]:Array Operand).map a.eval=#[.slice ad n c]:=Jb.evs (xs:=[x]) (vs:=[.slice ad n c]) (lc1 hx);unfold isSlice at ht
 cases h2:P.underlying t with
 | none=>rw [h2] at ht; cases ht
 | some d1=>
  rw [h2] at ht
  cases d1 with
  | slice el=>
   simp only [execOp,resolve,e,Sem.run_bind,Sem.run_pure,Result.andThen_ok,invoke,builtin,Builtin.len_,List.getElem?_toArray,List.getElem?_cons_zero,run_underlying h2]
   rfl
  | _=>cases ht
def sliceTy (P:Program) (t:TypeId) (k:Nat):Bool:=match P.underlying t with | some (.slice e)=>sized P e k | _=>false
theorem jC {x y:Operand} {t:TypeId} {b o n c k:Nat} {i:Int} {R:Value->World->Prop} (ht:sliceTy P t k=true) (hx:lookO s x=.slice (some ⟨b,o,none⟩) n c) (hy:lookO s y=.int .i64 i)
  (h0:0<=i) (h1:i<n) (hr:R (.pointer (some ⟨b,o+i.toNat * k,none⟩)) w):Yields P ⟨d,.indexAddr t x y,ty,pos,Ki,none⟩ a w R:=by
 refine .of_run (v:=.pointer (some ⟨b,o+i.toNat * k,none⟩)) (w':=w) ?_ hr;unfold sliceTy at ht
 cases h2:P.underlying t with
 | none=>rw [h2] at ht; cases ht
 | some d1=>
  rw [h2] at ht
  cases d1 with
  | slice e=>
   have hs:(sizeOf e).run P w=.ok k w:=gh ht;simp only [execOp,Jb.ev hx,Jb.ev hy,Instr.indexAt,asIntOf,Sem.run_bind,Sem.run_pure,Result.andThen_ok,run_underlying h2,h0,h1,and_self,if_true,hs,Addr.add_lit]
  | _=>cases ht
theorem cJ {t E:TypeId} {n:Nat} {ps:List (Nat × Operand)} {c:Array Value} {R:Value->World->Prop} (h:(Instr.buildSlice t n (ps.map fun q=>(q.1,lookO s q.2)).toArray).run P w=.ok (.slice (some ⟨w.heap.size,0,none⟩) n n) (w.alloc (.cells c E)))
  (hr:∀ b w',New w w' b (.cells c E (0,0))->R (.slice (some ⟨b,0,none⟩) n n) w'):Yields P ⟨d,.buildSlice t n ps.toArray,ty,pos,Ki,none⟩ a w R:=by
 refine .of_run (v:=.slice (some ⟨w.heap.size,0,none⟩) n n) (w':=w.alloc (.cells c E)) ?_ (hr _ _ (New.lV _ _));have e:(ps.toArray.map fun q=>(q.1,a.eval q.2))=(ps.map fun q=>(q.1,lookO s q.2)).toArray:=by
  rw [List.map_toArray]
  have:(fun q:Nat × Operand=>(q.1,a.eval q.2))=fun q=>(q.1,lookO s q.2):=funext fun q=>by rw [Jb.eval]
  rw [this]
 simp only [execOp]
 rw [e]
 simp only [Sem.run_bind,h,Result.andThen_ok,Sem.run_pure]
theorem aN {f:FuncId} {xs:List Operand} {ts:Array TypeId} {args:List Value} {R:Value->World->Prop} (hx:xs.map (lookO s)=args)
  (hf:af P f=true)
  (hc:Calls P f args.toArray w fun e w'=>∃ v,e=.returned v/\R v w'):Yields P ⟨d,.call ⟨.value (.func f),xs.toArray,ts⟩,ty,pos,Ki,none⟩ a w R:=by
 refine .wG (f:=f) (args:=args.toArray) ?_ hc;unfold af at hf
 cases h1:P.funcs[f]? with
 | none=>rw [h1] at hf; cases hf
 | some fn=>
  rw [h1] at hf
  simp only [Bool.and_eq_true] at hf
  have h2:(fn.name=="runtime.NumGoroutine")=false:=by simpa [bne] using hf.1
  have h3:fn.body.isNone=false:=by simpa using hf.2
  simp only [execOp,resolve,Jb.evs hx,Act.eval,Deferred.ofValue,Sem.run_bind,Sem.run_pure,Result.andThen_ok,invoke,callFunc,program,Sem.run,h1,h2,h3,Array.append_empty,Array.empty_append]
  rfl
theorem eu {x:Operand} {f:FuncId} {fs cs:List Value} {xs:List Operand} {ts:Array TypeId} {args:List Value} {R:Value->World->Prop} (hx0:lookO s x=.func (.func f) fs.toArray cs.toArray)
  (hx:fs++xs.map (lookO s)++cs=args) (hf:af P f=true)
  (hc:Calls P f args.toArray w fun e w'=>∃ v,e=.returned v/\R v w'):Yields P ⟨d,.call ⟨.value x,xs.toArray,ts⟩,ty,pos,Ki,none⟩ a w R:=by
 refine .wG (f:=f) (args:=args.toArray) ?_ hc;unfold af at hf
 cases h1:P.funcs[f]? with
 | none=>rw [h1] at hf; cases hf
 | some fn=>
  rw [h1] at hf
  simp only [Bool.and_eq_true] at hf
  have h2:(fn.name=="runtime.NumGoroutine")=false:=by simpa [bne] using hf.1
  have h3:fn.body.isNone=false:=by simpa using hf.2
  subst hx;rw [<-List.append_toArray,<-List.append_toArray,<-Jb.evs rfl];simp only [execOp,resolve,Jb.ev hx0,Deferred.ofValue,Sem.run_bind,Sem.run_pure,Result.andThen_ok,invoke,callFunc,program,Sem.run,h1,h2,h3]
  rfl
theorem dM {x x1:Operand} {f:FuncId} {fs cs:List Value} {ts:Array TypeId} {v1:Value} {R:Value->World->Prop} (hx0:lookO s x=.func (.func f) fs.toArray cs.toArray) (hx1:lookO s x1=v1)
  (hf:af P f=true) (hc:Calls P f (fs++[v1]++cs).toArray w fun e w'=>∃ v,e=.returned v/\R v w'):Yields P ⟨d,.call ⟨.value x,#[x1],ts⟩,ty,pos,Ki,none⟩ a w R:=
 eu Jb (xs:=[x1]) hx0 (by rw [List.map_cons,List.map_nil,hx1]) hf hc
theorem iW {x:Operand} {f:FuncId} {fs cs:List Value} {ts:Array TypeId} {R:Value->World->Prop} (hx0:lookO s x=.func (.func f) fs.toArray cs.toArray)
  (hf:af P f=true) (hc:Calls P f (fs++[]++cs).toArray w fun e w'=>∃ v,e=.returned v/\R v w'):Yields P ⟨d,.call ⟨.value x,#[],ts⟩,ty,pos,Ki,none⟩ a w R:=
 eu Jb (xs:=[]) hx0 rfl hf hc
end
/-! ### Steps in the order of the text -/
section
variable {ops : Array Oper} {Q : Exit -> Act -> World -> Prop} {rest : List Oper} {N : Nat} {s : SL}
def Ku (n:Nat) (d:Option Tmp):Bool:=match d with | some d=>decide (d<n) | none=>true
theorem aa {o:Oper} (v:Value) (Jb:Fr a N s) (hy:∀ R:Value->World->Prop,R v w->Yields P o a w R) (hg:(o.guard.isNone&&Ku N o.dst)=true)
  (hk:∀ a,Fr a N (KJ s o.dst v)->wpList P ops Q rest a w):wpList P ops Q (o::rest) a w:=by
 simp only [Bool.and_eq_true] at hg
 exact gY yaH (hy (fun v' w'=>v'=v/\w'=w) ⟨rfl,rfl⟩) (by rintro _ _ ⟨rfl,rfl⟩; exact hk _ (Jb.put _ hg.2))
theorem ah {o:Oper} (ob:Obj) (Jb:Fr a N s) (hy:∀ R:Value->World->Prop,(∀ b w',New w w' b ob->R (.pointer (some ⟨b,0,none⟩)) w')->Yields P o a w R) (hg:(o.guard.isNone&&Ku N o.dst)=true)
  (hk:∀ a b w',New w w' b ob->Fr a N (KJ s o.dst (.pointer (some ⟨b,0,none⟩)))->wpList P ops Q rest a w'):wpList P ops Q (o::rest) a w:=by
 simp only [Bool.and_eq_true] at hg
 exact gY yaH (hy (fun v' w'=>∃ b,v'=.pointer (some ⟨b,0,none⟩)/\New w w' b ob) fun b w' h=>⟨b,rfl,h⟩) (by rintro _ w' ⟨b,rfl,h⟩; exact hk _ b w' h (Jb.put _ hg.2))
theorem eH {o:Oper} (ob:Obj) (l:Nat) (Jb:Fr a N s) (hy:∀ R:Value->World->Prop,(∀ b w',New w w' b ob->R (.slice (some ⟨b,0,none⟩) l l) w')->Yields P o a w R) (hg:(o.guard.isNone&&Ku N o.dst)=true)
  (hk:∀ a b w',New w w' b ob->Fr a N (KJ s o.dst (.slice (some ⟨b,0,none⟩) l l))->wpList P ops Q rest a w'):wpList P ops Q (o::rest) a w:=by
 simp only [Bool.and_eq_true] at hg
 exact gY yaH (hy (fun v' w'=>∃ b,v'=.slice (some ⟨b,0,none⟩) l l/\New w w' b ob) fun b w' h=>⟨b,rfl,h⟩) (by rintro _ w' ⟨b,rfl,h⟩; exact hk _ b w' h (Jb.put _ hg.2))
def ja:Value->Option Bool
 | .bool b=>some b
 | _=>none
theorem nZ {j d:Nat} {v:Value} (Jb:Fr a N s) (hj:(ops[j]?).bind (·.dst)=some d) (hv:look s d=v) (hd:d<N):yielded ops a.tmps j=ja v:=by
 unfold yielded;rw [hj];have h1:=Jb.slot d;rw [hv] at h1
 have h2:a.tmps[d]?=some v:=by
  rw [Array.getD_eq_getD_getElem?] at h1
  have:d<a.tmps.size:=by rw [Jb.size]; exact hd
  simp only [this,getElem?_pos,Option.getD_some] at h1 ⊢
  rw [h1]
 simp only [Option.bind_some,h2]
 cases v <;> rfl
theorem jP {o:Oper} {j d:Nat} {want:Bool} (Jb:Fr a N s) (hg:o.guard=some (j,want)) (hj:(ops[j]?).bind (·.dst)=some d) (hd:Nat.ble (d+1) N=true) (hv:look s d=.bool want)
  (hk:wpList P ops Q ({ o with guard:=none }::rest) a w):wpList P ops Q (o::rest) a w:=by
 have hy:=nZ (ops:=ops) Jb hj hv (Nat.le_of_ble_eq_true hd);unfold wpList at hk ⊢
 simp only [Region.wanted,hg,hy,ja,beq_self_eq_true,if_true] at hk ⊢
 exact hk
theorem dU {o:Oper} {j d:Nat} {want:Bool} {v:Value} (Jb:Fr a N s) (hg:o.guard=some (j,want)) (hj:(ops[j]?).bind (·.dst)=some d) (hd:(Nat.ble (d+1) N&&Ku N o.dst)=true) (hv:look s d=v)
  (hn:ja v≠some want) (hk:∀ a,Fr a N (KJ s o.dst undef)->wpList P ops Q rest a w):wpList P ops Q (o::rest) a w:=by
 simp only [Bool.and_eq_true] at hd
 have hy:=nZ (ops:=ops) Jb hj hv (Nat.le_of_ble_eq_true hd.1);unfold wpList;have hw:Region.wanted o (yielded ops a.tmps)=false:=by
  simp only [Region.wanted,hg,hy]
  exact beq_eq_false_iff_ne.2 hn
 rw [hw]
 exact hk _ (Jb.put _ hd.2)
theorem bG {G:Prop} (t:Bool) (h1:t=true->G) (h2:t=false->G):G:=by
 cases t
 ·exact h2 rfl
 ·exact h1 rfl
theorem oD {o:Oper} (b k:Nat) (Jb:Fr a N s) (hy:∀ R:Value->World->Prop,(∀ sp,R (.pointer (some ⟨b,k,sp⟩)) w)->Yields P o a w R) (hg:(o.guard.isNone&&Ku N o.dst)=true)
  (hk:∀ a sp,Fr a N (KJ s o.dst (.pointer (some ⟨b,k,sp⟩)))->wpList P ops Q rest a w):wpList P ops Q (o::rest) a w:=by
 simp only [Bool.and_eq_true] at hg
 exact gY yaH (hy (fun v' w'=>∃ sp,v'=.pointer (some ⟨b,k,sp⟩)/\w'=w) fun sp=>⟨sp,rfl,rfl⟩) (by rintro _ _ ⟨sp,rfl,rfl⟩; exact hk _ sp (Jb.put _ hg.2))
theorem aM {o:Oper} {b:Nat} (ob:Obj) (Jb:Fr a N s) (hy:∀ R:Value->World->Prop,(∀ w',Upd w w' b ob->R undef w')->Yields P o a w R) (hg:(o.guard.isNone&&Ku N o.dst)=true)
  (hk:∀ a w',Upd w w' b ob->Fr a N (KJ s o.dst undef)->wpList P ops Q rest a w'):wpList P ops Q (o::rest) a w:=by
 simp only [Bool.and_eq_true] at hg
 exact gY yaH (hy (fun v' w'=>v'=undef/\Upd w w' b ob) fun w' h=>⟨rfl,h⟩) (by rintro _ w' ⟨rfl,h⟩; exact hk _ w' h (Jb.put _ hg.2))
theorem cS {o:Oper} {f:FuncId} {args:Array Value} {S:Ending->World->Prop} (Jb:Fr a N s) (hc:Calls P f args w S)
  (hy:∀ R:Value->World->Prop,(Calls P f args w fun e w'=>∃ v,e=.returned v/\R v w')->Yields P o a w R) (hg:(o.guard.isNone&&Ku N o.dst)=true)
  (hk:∀ e w',S e w'->∃ v,e=.returned v/\∀ a,Fr a N (KJ s o.dst v)->wpList P ops Q rest a w'):wpList P ops Q (o::rest) a w:=by
 simp only [Bool.and_eq_true] at hg
 exact gY yaH (hy (fun v' w'=>∀ a,Fr a N (KJ s o.dst v')->wpList P ops Q rest a w') (hc.mono hk)) fun v w' h=>h _ (Jb.put _ hg.2)
end
end
/-! ### Regions that draw: what each operation comes to -/
inductive Ph where
 | any
 | val (c:Value)
 | new (B:Nat) (ob:Obj)
 | slice (B:Nat) (ob:Obj) (l:Nat)
 | pred (p:Value->World->Prop) (h:∀ v w1 w2,p v w1->Below w1.heap.size w1 w2->p v w2)
def Ph.ok:Ph->Value->World->Prop
 | .any,_,_=>True
 | .val c,v,_=>v=c
 | .new B ob,v,w=>∃ b,v=.pointer (some ⟨b,0,none⟩)/\B<=b/\w.heap[b]?=some ob
 | .slice B ob l,v,w=>∃ b,v=.slice (some ⟨b,0,none⟩) l l/\B<=b/\w.heap[b]?=some ob
 | .pred p _,v,w=>p v w
def Ph.mk:Ph->World->Value->World->Prop
 | .new _ ob,w0,v,w=>∃ b,v=.pointer (some ⟨b,0,none⟩)/\w0.heap.size<=b/\w.heap[b]?=some ob
 | .slice _ ob l,w0,v,w=>∃ b,v=.slice (some ⟨b,0,none⟩) l l/\w0.heap.size<=b/\w.heap[b]?=some ob
 | p,_,v,w=>p.ok v w
def Ph.within (n:Nat):Ph->Prop
 | .new B _=>B<=n
 | .slice B _ _=>B<=n
 | _=>True
def blk:Value->Nat
 | .pointer (some ⟨b,_,_⟩)=>b
 | .slice (some ⟨b,_,_⟩) _ _=>b
 | _=>0
def Ph.isNew:Ph->Bool
 | .new _ _=>true
 | .slice _ _ _=>true
 | _=>false
theorem Ph.Hf {p:Ph} {w0 w:World} {v:Value} {n:Nat} (h:p.mk w0 v w) (hp:p.within n) (hn:n<=w0.heap.size):p.ok v w:=by
 cases p with
 | new B ob=>obtain ⟨b,h1,h2,h3⟩:=h; exact ⟨b,h1,Nat.le_trans hp (Nat.le_trans hn h2),h3⟩
 | slice B ob l=>obtain ⟨b,h1,h2,h3⟩:=h; exact ⟨b,h1,Nat.le_trans hp (Nat.le_trans hn h2),h3⟩
 | _=>exact h
theorem Ph.lt {p:Ph} {w:World} {v:Value} (h:p.ok v w) (hn:p.isNew=true):blk v<w.heap.size:=by
 cases p with
 | new B ob=>obtain ⟨b,rfl,_,h3⟩:=h; exact q8 h3
 | slice B ob l=>obtain ⟨b,rfl,_,h3⟩:=h; exact q8 h3
 | _=>cases hn
theorem Ph.ge {p:Ph} {w0 w:World} {v:Value} (h:p.mk w0 v w) (hn:p.isNew=true):w0.heap.size<=blk v:=by
 cases p with
 | new B ob=>obtain ⟨b,rfl,h2,_⟩:=h; exact h2
 | slice B ob l=>obtain ⟨b,rfl,h2,_⟩:=h; exact h2
 | _=>cases hn
def nth:List Ph->Nat->Ph
 | [],_=>.any
 | p::_,0=>p
 | _::l,n+1=>nth l n
def phs (l:List Ph):Nat->Value->World->Prop:=fun i v w=>(nth l i).ok v w
theorem CH (l:List Ph):∀ i v w1 w2,phs l i v w1->Below w1.heap.size w1 w2->phs l i v w2:=by
 intro i v w1 w2 h hb;unfold phs at *
 cases hp:nth l i with
 | any=>trivial
 | val c=>rw [hp] at h; exact h
 | new B ob=>rw [hp] at h; obtain ⟨b,h1,h2,h3⟩:=h; exact ⟨b,h1,h2,keep hb h3⟩
 | pred p hs=>rw [hp] at h; exact hs _ _ _ h hb
 | slice B ob l=>rw [hp] at h; obtain ⟨b,h1,h2,h3⟩:=h; exact ⟨b,h1,h2,keep hb h3⟩
theorem bJ {P:Program} {ops:Array Oper} {Φ:Nat->Value->World->Prop} {Ψ:Nat->World->Value->World->Prop} {full:List Oper} {a:Act} {w:World} {i:Nat}:Each P ops Φ Ψ full a w [] i:=trivial
theorem dA {P:Program} {ops:Array Oper} {Φ:Nat->Value->World->Prop} {Ψ:Nat->World->Value->World->Prop} {full:List Oper} {a:Act} {w:World} {o:Oper} {l:List Oper} {i N:Nat} {s:SL} (r:Fr a N s) (hd:(o.guard.isNone&&dstsIn N full)=true)
  (h:∀ a' u w',Below w.heap.size w w'->Deps Φ u w' o.after.toList->Fr a' N (Kt full u 0 s)->Yields P o a' w' fun v w''=>Below w'.heap.size w' w''/\Ψ i w' v w'') (h2:Each P ops Φ Ψ full a w l (i+1)):Each P ops Φ Ψ full a w (o::l) i:=by
 simp only [Bool.and_eq_true] at hd
 exact ⟨fun u w' hb hdp=>.plain hd.1 (h _ u w' hb hdp (r.JK full u 0 hd.2)),h2⟩
theorem bI {P:Program} {Q:Exit->Act->World->Prop} {id:Nat} {L:List Oper} {a:Act} {w:World} {N:Nat} {s:SL} (k:Nat) (ps:List Ph) (hm:P.follows .mixedOrders=true) (r:Fr a N s)
  (hs:(drawnOk L k&&dstsIn N (L.take k))=true) (hw:∀ i,(nth ps i).within w.heap.size) (he:Each P L.toArray (phs ps) (fun i=>(nth ps i).mk) (L.take k) a { w with drawn:=w.drawn+1 } (L.take k) 0)
  (hl:∀ a' u w',Below w.heap.size w w'->(∀ i,i<k->(nth ps i).ok (u i) w')->(∀ i j,i<k->j<k->i≠j->(nth ps i).isNew=true->(nth ps j).isNew=true->blk (u i)≠blk (u j))->Fr a' N (Kt (L.take k) u 0 s)->wpList P L.toArray Q (L.drop k) a' w'):(Code.region id L.toArray true).wp P Q a w:=by
 simp only [Bool.and_eq_true] at hs
 refine Dk k (phs ps) (fun i=>(nth ps i).mk) (fun i j v v2=>(nth ps i).isNew=true->(nth ps j).isNew=true->blk v≠blk v2) hm hs.1 (CH _) (fun i v w' w'' hb h=>Ph.Hf h (hw i) hb.size)
  (fun i j v v2 w' w'' h h2=>⟨fun n1 n2=>?_,fun n1 n2=>?_⟩) he fun u w' hb Iz hne=>hl _ u w' hb Iz hne (r.JK _ u 0 hs.2)
 ·have:=Ph.ge h n1
  have:=Ph.lt (show (nth ps j).ok v2 w' from h2) n2
  omega
 ·have:=Ph.ge h n2
  have:=Ph.lt (show (nth ps j).ok v2 w' from h2) n1
  omega
theorem bH {n:Nat}:∀ i,(nth [] i).within n:=fun i=>by cases i <;> trivial
theorem ct {n:Nat} {p:Ph} {l:List Ph} (h:p.within n) (h2:∀ i,(nth l i).within n):∀ i,(nth (p::l) i).within n:=fun i=>by cases i with | zero=>exact h | succ i=>exact h2 i
theorem Fr.congr {a:Act} {n:Nat} {s s':SL} (h:Fr a n s) (e:s=s'):Fr a n s':=e ▸ h
theorem bs1 {x1 y1:Nat × Value} {P:Program} {α:Type} {f:Array (Nat × Value)->Sem α} {w:World} {r:Result α} (h1:x1=y1) (h:(f [y1].toArray).run P w=r):(f [x1].toArray).run P w=r:=by rw [h1]; exact h
theorem bs2 {x1 y1 x2 y2:Nat × Value} {P:Program} {α:Type} {f:Array (Nat × Value)->Sem α} {w:World} {r:Result α} (h1:x1=y1) (h2:x2=y2) (h:(f [y1,y2].toArray).run P w=r):(f [x1,x2].toArray).run P w=r:=by rw [h1,h2]; exact h
theorem bs3 {x1 y1 x2 y2 x3 y3:Nat × Value} {P:Program} {α:Type} {f:Array (Nat × Value)->Sem α} {w:World} {r:Result α} (h1:x1=y1) (h2:x2=y2) (h3:x3=y3) (h:(f [y1,y2,y3].toArray).run P w=r):(f [x1,x2,x3].toArray).run P w=r:=by rw [h1,h2,h3]; exact h
theorem rq {P:Program} {Q:Exit->Act->World->Prop} {c:Code} {a:Act} {w:World} {N:Nat} {s:SL} {X:Type} (S:X->List (Nat × Value)) (Inv:X->World->Prop) (m:X->Nat) (x0:X) (r:Fr a N s)
  (hs:∀ q,q∈S x0->look s q.1=q.2) (h0:Inv x0 w)
  (round:∀ x a w g,Fr a N (pushes (S x) (.base g))->Inv x w->c.wp P (Exit.then (fun a' w'=>∃ x' s',Fr a' N s'/\(∀ q,q∈S x'->look s' q.1=q.2)/\Inv x' w'/\m x'<m x) Q) a w):(Code.loop c).wp P Q a w:=by
 refine wp_loop_ghost (fun n a w=>∃ x g,m x=n/\Fr a N (pushes (S x) (.base g))/\Inv x w) (m x0) ⟨x0,_,rfl,r.forget _ hs,h0⟩ ?_;rintro n a w ⟨x,g,rfl,hr,hi⟩
 refine Code.wp_mono ?_ (round x a w g hr hi);intro e a' w' h;cases e with
 | normal=>
  obtain ⟨x',s',h1,h2,h3,h4⟩:=h;exact ⟨m x',h4,x',_,rfl,h1.forget _ h2,h3⟩
 | _=>exact h
theorem Em {P:Program} {Q:Exit->Act->World->Prop} {c:Code} {a:Act} {w:World} {N:Nat} (S:List (Nat × Value)) (I:World->Prop)
  (h:c.wp P (fun e a w=>e=.normal/\∃ s',Fr a N s'/\(∀ q,q∈S->look s' q.1=q.2)/\I w) a w) (hk:∀ a w g,Fr a N (pushes S (.base g))->I w->Q .normal a w):c.wp P Q a w:=
 Code.wp_mono (fun e a w ⟨he,s',h1,h2,h3⟩=>by subst he; exact hk a w _ (h1.forget _ h2) h3) h
theorem wU {α:Type} {f:α->List Value} {n:Nat} (hf:∀ x,(f x).length=n):∀ (l:List α) (i:Nat) (h:i<l.length),(((l.flatMap f).toArray.toList.drop (i * n)).take n)=f l[i]
 | [],i,h=>by simp at h
 | x::l,0,_=>by simp [hf x]
 | x::l,i+1,h=>by
  have:=wU hf l i yaJ
  simp only [List.flatMap_cons] at this ⊢
  rw [show (i+1) * n=n+i * n from by rw [Nat.add_mul,Nat.one_mul,Nat.add_comm]]
  rw [<-List.drop_drop]
  have e:(f x++l.flatMap f).drop n=l.flatMap f:=by rw [<-hf x]; exact List.drop_left
  rw [e]
  simpa using this
theorem aJ {s:SL}:∀ q:Nat × Value,q∈([]:List (Nat × Value))->look s q.1=q.2:=fun _ h=>nomatch h
theorem aq {s:SL} {d:Nat} {v:Value} {l:List (Nat × Value)} (h:look s d=v) (ht:∀ q,q∈l->look s q.1=q.2):∀ q,q∈(d,v)::l->look s q.1=q.2:=fun q hq=>by
 rcases List.mem_cons.1 hq with rfl | hq
 ·exact h
 ·exact ht q hq
theorem ar {α:Type} {c:Bool} {a b:α} (h:c=true):cond c a b=a:=by rw [h]; rfl
theorem ai {α:Type} {c:Bool} {a b:α} (h:c=false):cond c a b=b:=by rw [h]; rfl
theorem c2 {α β:Type} {f:α->β} {a b:α} (h:a=b):f a=f b:=h ▸ rfl
theorem l0:([]:List Value)=[]:=rfl
theorem lc {a b:Value} {l l':List Value} (h:a=b) (h2:l=l'):a::l=b::l':=by rw [h,h2]
theorem sc {d:Nat} {a b:Value} {l l':SL} (h:a=b) (h2:l=l'):l.push d a=l'.push d b:=by rw [h,h2]
section
variable {P : Program} {a : Act} {w : World} {d : Option Tmp} {ty : TypeId} {pos : String} {Ki : Array Edge}
variable {ops : Array Oper} {Q : Exit -> Act -> World -> Prop} {rest : List Oper} {N : Nat} {s : SL}
theorem kM (v:Value) (Jb:Fr a N s) {x:Operand} (hx:lookO s x=v) (hg:Ku N d=true) (hk:∀ {a},Fr a N (KJ s d v)->wpList P ops Q rest a w):wpList P ops Q (⟨d,.move x,ty,pos,Ki,none⟩::rest) a w:=
 aa v Jb (fun R=>aw Jb hx) hg fun a r=>hk r
theorem kA (v:Value) (Jb:Fr a N s) {x:Operand} (hx:lookO s x=v) (hg:Ku N d=true) (hk:∀ {a},Fr a N (KJ s d v)->wpList P ops Q rest a w):wpList P ops Q (⟨d,.assign x,ty,pos,Ki,none⟩::rest) a w:=
 aa v Jb (fun R=>cZ Jb hx) hg fun a r=>hk r
theorem kL (v:Value) (Jb:Fr a N s) {x:Operand} {b o:Nat} {t E:TypeId} {c:Array Value} {fz:Nat × Nat} (hx:lookO s x=.pointer (some ⟨b,o,none⟩))
  (h:w.heap[b]?=some (.cells c E fz)) (ht:tyO P t=true) (hc:c[o]?=some v) (hg:Ku N d=true) (hk:∀ {a},Fr a N (KJ s d v)->wpList P ops Q rest a w):wpList P ops Q (⟨d,.load t x,ty,pos,Ki,none⟩::rest) a w:=
 aa v Jb (fun R=>ax Jb hx h ht hc) hg fun a r=>hk r
theorem kG (cs:List Value) (n:Nat) (Jb:Fr a N s) {x:Operand} {b o:Nat} {t E:TypeId} {c:Array Value} {fz:Nat × Nat} (hx:lookO s x=.pointer (some ⟨b,o,none⟩))
  (h:w.heap[b]?=some (.cells c E fz)) (ht:tyA P t cs.length=true) (hc:((c.toList.drop o).take n)=cs) (hg:Ku N d=true) (hk:∀ {a},Fr a N (KJ s d (.agg cs.toArray))->wpList P ops Q rest a w):wpList P ops Q (⟨d,.load t x,ty,pos,Ki,none⟩::rest) a w:=
 aa _ Jb (fun R=>aU Jb hx h ht hc) hg fun a r=>hk r
theorem kF (o:Nat) (Jb:Fr a N s) {t:TypeId} {x:Operand} {i b k:Nat} (hx:lookO s x=.pointer (some ⟨b,o,none⟩)) (hf:ba P t i k=true) (hg:Ku N d=true)
  (hk:∀ {a},Fr a N (KJ s d (.pointer (some ⟨b,o+k,none⟩)))->wpList P ops Q rest a w):wpList P ops Q (⟨d,.fieldAddr t x i,ty,pos,Ki,none⟩::rest) a w:=
 aa _ Jb (fun R=>az Jb hx hf) hg fun a r=>hk r
theorem kB (Jb:Fr a N s) {op:BinOp} {t t2:TypeId} {x y:Operand} {u u' v:Value} (hx:lookO s x=u) (hy:lookO s y=u')
  (hq:(eqGuard op t x y u u').run P w=.ok () w) (h:(binOp op t u u').run P w=.ok v w) (hg:Ku N d=true) (hk:∀ {a},Fr a N (KJ s d v)->wpList P ops Q rest a w):wpList P ops Q (⟨d,.binOp op t x y t2,ty,pos,Ki,none⟩::rest) a w:=
 aa v Jb (fun R=>bd Jb hx hy hq h) hg fun a r=>hk r
theorem kU (v:Value) (Jb:Fr a N s) {t:TypeId} {ps:List (Nat × Operand)} (h:(Instr.build t (ps.map fun q=>(q.1,lookO s q.2)).toArray).run P w=.ok v w) (hg:Ku N d=true)
  (hk:∀ {a},Fr a N (KJ s d v)->wpList P ops Q rest a w):wpList P ops Q (⟨d,.build t ps.toArray,ty,pos,Ki,none⟩::rest) a w:=
 aa v Jb (fun R=>eQ Jb h) hg fun a r=>hk r
theorem kX (t:TypeId) (v:Value) (Jb:Fr a N s) {x:Operand} (hx:lookO s x=v) (hg:Ku N d=true)
  (hk:∀ {a} b w',New w w' b (.cells v.cells t (0,0))->Fr a N (KJ s d (.pointer (some ⟨b,0,none⟩)))->wpList P ops Q rest a w'):wpList P ops Q (⟨d,.box t x,ty,pos,Ki,none⟩::rest) a w:=
 ah _ Jb (fun R=>xP Jb hx) hg fun a b w' h r=>hk b w' h r
theorem kC {f:FuncId} {S:Ending->World->Prop} {xs:List Operand} {ts:Array TypeId} {args:List Value} (Jb:Fr a N s) (hc:Calls P f args.toArray w S) (hx:xs.map (lookO s)=args)
  (hf:af P f=true) (hg:Ku N d=true) (hk:∀ e w',S e w'->∃ v,e=.returned v/\∀ a,Fr a N (KJ s d v)->wpList P ops Q rest a w'):wpList P ops Q (⟨d,.call ⟨.value (.func f),xs.toArray,ts⟩,ty,pos,Ki,none⟩::rest) a w:=
 cS Jb hc (fun R hc=>aN Jb hx hf hc) hg hk
end
theorem kN {P:Program} {f:FuncId} {fn:Func} {c:Code} {l:List Value} {w:World} {R:Ending->World->Prop} (hf:P.funcs[f]?=some fn) (hb:fn.body=some c) (n:Nat) (hn:fn.ntmps=n)
  (hl:l.length+(n - l.length)=n) (h:∀ a,Fr a n (jb l 0)->Below w.heap.size w w->c.wp P (bodyPost P fn R) a w):Calls P f l.toArray w R:=enter hf hb n hn hl fun a r=>h a r (Below.refl _ _)
theorem kV {n:Nat} {p:Ph} {l:List Ph} (h2:∀ i,(nth l i).within n) (h:p.within n:=by exact trivial):∀ i,(nth (p::l) i).within n:=ct h h2
theorem kO {s:SL} {d1 d2 d3 d4:Nat} {v1 v2 v3 v4:Value} {l:List (Nat × Value)} (ht:∀ q,q∈l->look s q.1=q.2) (h1:look s d1=v1:=by exact rfl) (h2:look s d2=v2:=by exact rfl) (h3:look s d3=v3:=by exact rfl) (h4:look s d4=v4:=by exact rfl) :
  ∀ q,q∈(d1,v1)::(d2,v2)::(d3,v3)::(d4,v4)::l->look s q.1=q.2:=aq h1 (aq h2 (aq h3 (aq h4 ht)))
theorem kb {a b:Bool} (h:a=b):Value.bool a=Value.bool b:=congrArg Value.bool h
abbrev kf (f:FuncId) (l l':List Value):Value:=.func (.func f) l.toArray l'.toArray
end Go.Proofs.YtbbipmelhmgmfaaGreat

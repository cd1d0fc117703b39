/- Some of our texts, one behind the other. -/
import Derived.Test.YtbbipmelhmgmfaaGreatDpOps
set_option linter.all false
set_option maxRecDepth 100000
set_option maxHeartbeats 20000000
/- Ours. -/
namespace Go.Proofs.YtbbipmelhmgmfaaGreat
open Go.RowKit
inductive T (R:Type) where
 | cut
 | done (r:R)
 | act (op at_ a b:Int) (k:Int→T R)
def T.bind {A B:Type}:T A→(A→T B)→T B
 | .cut,_=>.cut
 | .done r,f=>f r
 | .act op at_ a b k,f=>.act op at_ a b fun x=>(k x).bind f
structure Enc (R:Type) where
 n:Nat
 cells:R→List Value
 zero:List Value
 len:∀ r,(cells r).length=n
 zlen:zero.length=n
 plain:∀ r,(cells r).all plainCell=true
 zplain:zero.all plainCell=true
def Same (F:Nat→Prop) (w w':World):Prop:=∀ b,F b→w'.heap[b]?=w.heap[b]?
def zph (ov:Bool) (r:List Value) (op at_ a b:Int) (next:Value):Array Value:=
 (.bool ov::(r++[.int .i64 op,.int .i64 at_,.int .u64 a,.int .u64 b,next])).toArray
def grow (F:Nat→Prop) (w w':World):Nat→Prop:=fun b=>F b∨(w.heap.size≤b∧b<w'.heap.size)
def Shape {R:Type} (E:Enc R) (v:Value):Prop:=∃ c:Array Value,v=.agg c∧c.size=E.n+6∧c.toList.all plainCell=true
def Rep {R:Type} (P:Program) (E:Enc R):Nat→T R→(Nat→Prop)→World→Value→Prop
 | _,.cut,_,_,_=>False
 | _,.done r,_,_,v=>v=.agg (zph true (E.cells r) 0 0 0 0 .nilFunc)
 | 0,.act op at_ a b _,_,_,v=>∃ (f:FuncId) (first cap:List Value),zpf P f=true∧v=.agg (zph false E.zero op at_ a b (.func (.func f) first.toArray cap.toArray))
 | m+1,.act op at_ a b k,F,w,v=>∃ (f:FuncId) (first cap:List Value),zpf P f=true∧v=.agg (zph false E.zero op at_ a b (.func (.func f) first.toArray cap.toArray))∧
   ∀ x w',Same F w w'→w.heap.size≤w'.heap.size→
    Calls P f (first++[Value.int .u64 x]++cap).toArray w' fun e w''=>∃ v',e=.returned v'∧Below w'.heap.size w' w''∧Rep P E m (k x) (grow F w' w'') w'' v'
def zpp {R:Type} (P:Program) (E:Enc R) (n:Nat) (t:T R) (F:Nat→Prop) (w:World):Ending→World→Prop:=
 fun e w'=>∃ v,e=.returned v∧Below w.heap.size w w'∧Rep P E n t (grow F w w') w' v
def FnAt {R α:Type} (P:Program) (E:Enc R) (enc:α→List Value) (m:Nat) (F:Nat→Prop) (w:World) (f:FuncId) (first cap:List Value) (g:α→T R):Prop:=
 ∀ x w',Same F w w'→w.heap.size≤w'.heap.size→Calls P f (first++enc x++cap).toArray w' (zpp P E m (g x) F w')
def FnT {R α:Type} (P:Program) (E:Enc R) (enc:α→List Value) (n:Nat) (F:Nat→Prop) (w:World) (fv:Value) (g:α→T R):Prop:=
 ∃ (f:FuncId) (first cap:List Value),zpf P f=true∧fv=.func (.func f) first.toArray cap.toArray∧∀ m,m<n→FnAt P E enc m F w f first cap g
def u64 (x:Int):List Value:=[.int .u64 x]
def i64 (x:Int):List Value:=[.int .i64 x]
def boolE (x:Bool):List Value:=[.bool x]
def unitE (_:Unit):List Value:=[]
def noneE (_:Unit):List Value:=[.agg #[]]
def zpl:Enc Int:=⟨1,fun r=>[.int .i64 r],[.int .i64 0],fun _=>rfl,rfl,fun _=>rfl,rfl⟩
def zpy:Enc Int:=⟨1,fun r=>[.int .u64 r],[.int .u64 0],fun _=>rfl,rfl,fun _=>rfl,rfl⟩
def zpH:Enc Bool:=⟨1,fun r=>[.bool r],[.bool false],fun _=>rfl,rfl,fun _=>rfl,rfl⟩
def zpk:Enc Unit:=⟨0,fun _=>[],[],fun _=>rfl,rfl,fun _=>rfl,rfl⟩
def zpx (v:Value) (w:World):Ending→World→Prop:=fun e w'=>e=.returned v∧Below w.heap.size w w'
def T.zpB {R:Type}:T R→Bool
 | .done _=>true
 | _=>false
section
variable {R : Type} {P : Program} {E : Enc R}
theorem Same.refl (F:Nat→Prop) (w:World):Same F w w:=fun _ _=>rfl
theorem Same.trans {F:Nat→Prop} {a b c:World} (h:Same F a b) (h':Same F b c):Same F a c:=fun k hk=>(h' k hk).trans (h k hk)
theorem Same.sub {F F':Nat→Prop} {a b:World} (h:Same F a b) (hs:∀ b,F' b→F b):Same F' a b:=fun k hk=>h k (hs k hk)
theorem Same.below {F:Nat→Prop} {w w':World} (h:Below w.heap.size w w') (hF:∀ b,F b→b<w.heap.size):Same F w w':=fun k hk=>h.block k (hF k hk)
theorem Same.at_ {F:Nat→Prop} {w w':World} {b:Nat} {o:Obj} (h:Same F w w') (hb:F b) (hw:w.heap[b]?=some o):w'.heap[b]?=some o:=by rw [h b hb]; exact hw
theorem Rep.mono {F F':Nat→Prop} {w w':World} (hs:∀ b,F b→F' b) (h1:Same F w w') (h2:w.heap.size≤w'.heap.size) :
  ∀ (n:Nat) (t:T R) (v:Value),Rep P E n t F w v→Rep P E n t F' w' v
 | _,.cut,_,h=>by unfold Rep at h; exact h.elim
 | _,.done _,_,h=>by unfold Rep at h ⊢; exact h
 | 0,.act ..,_,h=>by unfold Rep at h ⊢; exact h
 | m+1,.act op at_ a b k,v,h=>by
  unfold Rep at h ⊢
  obtain ⟨f,first,cap,hc,hv,h⟩:=h;refine ⟨f,first,cap,hc,hv,fun x w'' hs' hz=>?_⟩
  refine (h x w'' (h1.trans (hs'.sub hs)) kw).mono ?_;rintro e w3 ⟨v',he,hb,hr⟩;exact ⟨v',he,hb,Rep.mono (fun b hb=>hb.imp (hs b) id) (Same.refl _ _) (Nat.le_refl _) m _ _ hr⟩
theorem Rep.down {F:Nat→Prop} {w:World}:∀ {n m:Nat} {t:T R} {v:Value},m≤n→Rep P E n t F w v→Rep P E m t F w v
 | _,_,.cut,_,_,h=>by unfold Rep at h; exact h.elim
 | _,_,.done _,_,_,h=>by unfold Rep at h ⊢; exact h
 | 0,m,.act ..,_,hm,h=>by
  obtain rfl:m=0:=kw
  exact h
 | n+1,0,.act ..,_,_,h=>by
  unfold Rep at h ⊢
  obtain ⟨f,first,cap,hc,hv,_⟩:=h;exact ⟨f,first,cap,hc,hv⟩
 | n+1,m+1,.act op at_ a b k,v,hm,h=>by
  unfold Rep at h ⊢
  obtain ⟨f,first,cap,hc,hv,h⟩:=h;refine ⟨f,first,cap,hc,hv,fun x w'' hs' hz=>?_⟩
  refine (h x w'' hs' hz).mono ?_;rintro e w3 ⟨v',he,hb,hr⟩;exact ⟨v',he,hb,Rep.down kw hr⟩
theorem Rep.shape {F:Nat→Prop} {w:World}:∀ {n:Nat} {t:T R} {v:Value},Rep P E n t F w v→Shape E v
 | _,.cut,_,h=>by unfold Rep at h; exact h.elim
 | _,.done r,_,h=>by
  unfold Rep at h; subst h
  exact ⟨_,rfl,by simp [zph,E.len],by simp [zph,plainCell,E.plain r]⟩
 | 0,.act ..,_,h=>by
  unfold Rep at h; obtain ⟨_,_,_,_,rfl⟩:=h
  exact ⟨_,rfl,by simp [zph,E.zlen],by simp [zph,plainCell,E.zplain]⟩
 | m+1,.act ..,_,h=>by
  unfold Rep at h; obtain ⟨_,_,_,_,rfl,_⟩:=h
  exact ⟨_,rfl,by simp [zph,E.zlen],by simp [zph,plainCell,E.zplain]⟩
theorem Rep.ziT {n:Nat} {F:Nat→Prop} {w:World} {op at_ a b:Int} {k:Int→T R} {fv:Value} (h:FnT P E u64 n F w fv k) :
  Rep P E n (.act op at_ a b k) F w (.agg (zph false E.zero op at_ a b fv)):=by
 obtain ⟨f,first,cap,hc,rfl,h⟩:=h;cases n with
 | zero=>unfold Rep; exact ⟨f,first,cap,hc,rfl⟩
 | succ m=>unfold Rep; exact ⟨f,first,cap,hc,rfl,fun x w' h1 h2=>h m (Nat.lt_succ_self _) x w' h1 h2⟩
theorem Rep.zgO {n:Nat} {F:Nat→Prop} {w:World} {r:R}:Rep P E n (.done r) F w (.agg (zph true (E.cells r) 0 0 0 0 .nilFunc)):=by unfold Rep; rfl
theorem FnAt.mono {α:Type} {enc:α→List Value} {m:Nat} {F F':Nat→Prop} {w w':World} {f:FuncId} {first cap:List Value} {g:α→T R} (h:FnAt P E enc m F w f first cap g)
  (hs:∀ b,F b→F' b) (h1:Same F w w') (h2:w.heap.size≤w'.heap.size):FnAt P E enc m F' w' f first cap g:=fun x w'' hs' hz=>by
 refine (h x w'' (h1.trans (hs'.sub hs)) kw).mono ?_;rintro e w3 ⟨v',he,hb,hr⟩;exact ⟨v',he,hb,Rep.mono (fun b hb=>hb.imp (hs b) id) (Same.refl _ _) (Nat.le_refl _) m _ _ hr⟩
theorem FnT.mono {α:Type} {enc:α→List Value} {n n':Nat} {F F':Nat→Prop} {w w':World} {fv:Value} {g:α→T R} (h:FnT P E enc n F w fv g) (hn:n'≤n)
  (hs:∀ b,F b→F' b) (h1:Same F w w') (h2:w.heap.size≤w'.heap.size):FnT P E enc n' F' w' fv g:=by
 obtain ⟨f,first,cap,hc,hv,h⟩:=h;exact ⟨f,first,cap,hc,hv,fun m hm=>(h m kw).mono hs h1 h2⟩
theorem Rep.zcG {n:Nat} {F:Nat→Prop} {w:World} {op at_ a b:Int} {k:Int→T R} {v:Value} (h:Rep P E n (.act op at_ a b k) F w v) :
  ∃ (f:FuncId) (first cap:List Value),zpf P f=true∧v=.agg (zph false E.zero op at_ a b (.func (.func f) first.toArray cap.toArray))∧FnT P E u64 n F w (.func (.func f) first.toArray cap.toArray) k:=by
 cases n with
 | zero=>
  unfold Rep at h
  obtain ⟨f,first,cap,hc,hv⟩:=h;exact ⟨f,first,cap,hc,hv,f,first,cap,hc,rfl,fun m hm=>absurd hm (Nat.not_lt_zero m)⟩
 | succ q=>
  have h':=h;unfold Rep at h
  obtain ⟨f,first,cap,hc,hv,hk⟩:=h;refine ⟨f,first,cap,hc,hv,f,first,cap,hc,rfl,fun m hm x w' h1 h2=>?_⟩
  refine (hk x w' h1 h2).mono ?_;rintro e w'' ⟨v',he,hb,hr⟩;exact ⟨v',he,hb,Rep.down kw hr⟩
theorem FnT.at_ {α:Type} {enc:α→List Value} {n:Nat} {F:Nat→Prop} {w:World} {f:FuncId} {first cap:List Value} {g:α→T R} (h:FnT P E enc n F w (.func (.func f) first.toArray cap.toArray) g) :
  zpf P f=true∧∀ m,m<n→FnAt P E enc m F w f first cap g:=by
 obtain ⟨f',first',cap',hc,he,hf⟩:=h;simp only [Value.func.injEq,Fn.func.injEq] at he
 obtain ⟨e1,e2,e3⟩:=he;have e2':first=first':=by simpa using congrArg Array.toList e2
 have e3':cap=cap':=by simpa using congrArg Array.toList e3
 subst e1; subst e2'; subst e3';exact ⟨hc,hf⟩
theorem zpp.fin {n:Nat} {t:T R} {F F1:Nat→Prop} {w0 w1 w2 w3:World} {r:Nat} {o:Obj} {v:Value} (hB:Below w0.heap.size w0 w3) (hr:Rep P E n t (grow F1 w1 w2) w2 v)
  (hu:Upd w2 w3 r o) (hF:∀ b,F1 b→F b∨(w0.heap.size≤b∧b<w1.heap.size)) (hFr:¬ F1 r) (hr1:r<w1.heap.size) (h01:w0.heap.size≤w1.heap.size) (h12:w1.heap.size≤w2.heap.size) :
  zpp P E n t F w0 (.returned v) w3:=by
 refine ⟨v,rfl,hB,Rep.mono ?_ ?_ (by rw [hu.size]; exact Nat.le_refl _) n t v hr⟩
 ·rintro b (hb | ⟨hb1,hb2⟩)
  ·rcases hF b hb with h | ⟨h1,h2⟩
   ·exact .inl h
   ·exact .inr ⟨h1,by rw [hu.size]; omega⟩
  ·exact .inr ⟨kw,by rw [hu.size]; omega⟩
 ·rintro b (hb | ⟨hb1,hb2⟩)
  ·exact hu.other b (fun e=>hFr (e ▸ hb))
  ·exact hu.other b kw
def RepAt {R:Type} (P:Program) (E:Enc R) (n:Nat) (t:T R) (F:Nat→Prop) (B r:Nat) (v:Value) (w:World):Prop:=
 (∀ b,F b→b<w.heap.size)∧r<w.heap.size∧B≤w.heap.size∧Rep P E n t (fun b=>F b∨(B≤b∧b<w.heap.size∧b≠r)) w v
theorem RepAt.stable {n:Nat} {t:T R} {F:Nat→Prop} {B r:Nat}:∀ v w1 w2,RepAt P E n t F B r v w1→Below w1.heap.size w1 w2→RepAt P E n t F B r v w2:=by
 rintro v w1 w2 ⟨h1,h2,h3,h4⟩ hb;have hz:=hb.size;refine ⟨fun b h=>ai (h1 b h) hz,kw,kw,Rep.mono ?_ (Same.below hb ?_) hz n _ _ h4⟩
 ·rintro b (h | ⟨h,h',h''⟩)
  ·exact .inl h
  ·exact .inr ⟨h,kw,h''⟩
 ·rintro b (h | ⟨h,h',h''⟩)
  ·exact h1 b h
  ·exact h'
theorem RepAt.zlh {n:Nat} {t:T R} {F:Nat→Prop} {B r:Nat} {w1 w2:World} {v:Value} (hF:∀ b,F b→b<w1.heap.size) (hr:r<w1.heap.size) (hB:B≤w1.heap.size) (hb:Below w1.heap.size w1 w2)
  (h:Rep P E n t (grow (fun b=>F b∨(B≤b∧b<w1.heap.size∧b≠r)) w1 w2) w2 v):RepAt P E n t F B r v w2:=by
 have hz:=hb.size;refine ⟨fun b h=>ai (hF b h) hz,kw,kw,Rep.mono ?_ (Same.refl _ _) (Nat.le_refl _) n _ _ h⟩
 rintro b ((h | ⟨h,h',h''⟩) | ⟨h,h'⟩)
 ·exact .inl h
 ·exact .inr ⟨h,kw,h''⟩
 ·exact .inr ⟨kw,h',kw⟩
theorem zls:∀ (l:List Value) (pre post:List Value),post.length=l.length→over (pre++post).toArray pre.length l=(pre++l).toArray
 | [],pre,post,h=>by
  have:post=[]:=List.eq_nil_of_length_eq_zero yaH
  subst this; rfl
 | v::l,pre,[],h=>by simp at h
 | v::l,pre,p::post,h=>by
  have ih:=zls l (pre++[v]) post yaH
  simp only [over]
  have e:(pre++p::post).toArray.setIfInBounds pre.length v=(pre++[v]++post).toArray:=by
   simp
  rw [e]
  simpa using ih
theorem zkQ {c c':Array Value} (h:c.size=c'.size):over c 0 c'.toList=c':=by
 have:=zls c'.toList [] c.toList yaH
 simpa using this
theorem znN {a:Act} {w:World} {d:Option Tmp} {ty:TypeId} {pos:String} {aft:Array Edge} {N:Nat} {s:SL} (hfr:Fr a N s) {x y:Operand} {b:Nat} {t Et:TypeId} {c:Array Value} {v:Value}
  {Q:Value→World→Prop} (hv:Shape E v) (hx:lookO s x=.pointer (some ⟨b,0,none⟩)) (hy:lookO s y=v) (h:w.heap[b]?=some (.cells c Et (0,0))) (ht:sized P t (E.n+6)=true) (hn:c.size=E.n+6)
  (hr:∀ w',Upd w w' b (.cells v.cells Et (0,0))→Q undef w'):Yields P ⟨d,.store t x y,ty,pos,aft,none⟩ a w Q:=by
 obtain ⟨c',rfl,h1,h2⟩:=hv;exact zax hfr hx hy h (by simpa [Value.cells,h1] using ht) (by simp [Value.cells,h1,hn]) h2 (zkQ (by simp [Value.cells,h1,hn])) hr
theorem Shape.cells {v:Value} (h:Shape E v):v.cells.size=E.n+6∧v.cells.toList.all plainCell=true∧v=.agg v.cells:=by
 obtain ⟨c,rfl,h1,h2⟩:=h;exact ⟨h1,h2,rfl⟩
end
section
variable {P : Program} {a : Act} {w : World} {d : Option Tmp} {ty : TypeId} {pos : String} {aft : Array Edge}
variable {ops : Array Oper} {Q : Exit → Act → World → Prop} {rest : List Oper} {N : Nat} {s : SL}
theorem kP {R:Type} {E:Enc R} (hfr:Fr a N s) {x y:Operand} {b:Nat} {t Et:TypeId} {c:Array Value} {v:Value} (hv:Shape E v) (hx:lookO s x=.pointer (some ⟨b,0,none⟩)) (hy:lookO s y=v) (h:w.heap[b]?=some (.cells c Et (0,0)))
  (ht:sized P t (E.n+6)=true) (hn:c.size=E.n+6) (hg:dstIn N d=true) (hk:∀ {a} w',Upd w w' b (.cells v.cells Et (0,0))→Fr a N (putS s d undef)→wpList P ops Q rest a w'):wpList P ops Q (⟨d,.store t x y,ty,pos,aft,none⟩::rest) a w:=
 zaD _ hfr (fun R=>znN hfr hv hx hy h ht hn) hg fun a w' h r=>hk w' h r
theorem kD {R:Type} {E:Enc R} {m:Nat} {t:T R} {F:Nat→Prop} {f:FuncId} {xs:List Operand} {ts:Array TypeId} {args:List Value} (hfr:Fr a N s) (hc:Calls P f args.toArray w (zpp P E m t F w)) (hx:xs.map (lookO s)=args)
  (hf:zpf P f=true) (hg:dstIn N d=true) (hk:∀ {a} w' v,Below w.heap.size w w'→Rep P E m t (grow F w w') w' v→Fr a N (putS s d v)→wpList P ops Q rest a w'):wpList P ops Q (⟨d,.call ⟨.value (.func f),xs.toArray,ts⟩,ty,pos,aft,none⟩::rest) a w:=
 kC hfr hc hx hf hg (by rintro _ w' ⟨v,rfl,hb,hr⟩; exact ⟨_,rfl,fun a r=>hk w' v hb hr r⟩)
theorem kE {v:Value} {f:FuncId} {xs:List Operand} {ts:Array TypeId} {args:List Value} (hfr:Fr a N s) (hc:Calls P f args.toArray w (zpx v w)) (hx:xs.map (lookO s)=args)
  (hf:zpf P f=true) (hg:dstIn N d=true) (hk:∀ {a} w',Below w.heap.size w w'→Fr a N (putS s d v)→wpList P ops Q rest a w'):wpList P ops Q (⟨d,.call ⟨.value (.func f),xs.toArray,ts⟩,ty,pos,aft,none⟩::rest) a w:=
 kC hfr hc hx hf hg (by rintro _ w' ⟨rfl,hb⟩; exact ⟨_,rfl,fun a r=>hk w' hb r⟩)
end
abbrev kS:Value:=.slice none 0 0
abbrev kH (F:Nat→Prop) (w:World):Prop:=∀ b,F b→b<w.heap.size
abbrev kW (F:Nat→Prop) (w0 w1:World) (r:Nat):Nat→Prop:=fun b=>F b∨(w0.heap.size≤b∧b<w1.heap.size∧b≠r)
structure Gh where
 v:Value
 lo:Nat
 hi:Nat
def Kept (B:Nat) (S:Nat→Prop) (lo hi:Nat) (w1 w2:World):Prop:=
 w2.os=w1.os∧w2.tape=w1.tape∧w2.output=w1.output∧w1.heap.size≤w2.heap.size∧∀ b,(b<B∧¬ S b)∨(lo≤b∧b<hi)→w2.heap[b]?=w1.heap[b]?
def KeptW (B:Nat) (S:Nat→Prop) (w1 w2:World):Prop:=
 w2.os=w1.os∧w2.tape=w1.tape∧w2.output=w1.output∧w1.heap.size≤w2.heap.size∧∀ b,b<w1.heap.size→(b<B→¬ S b)→w2.heap[b]?=w1.heap[b]?
inductive Fact (B:Nat) (S:Nat→Prop) where
 | any
 | val (c:Value)
 | new (ob:Obj)
 | slice (ob:Obj) (l:Nat)
 | cell (T:TypeId) (n:Nat)
 | stored (q:Nat) (c:Array Value) (T:TypeId) (n:Nat) (h:c.size=n)
 | pred (p:Value→Nat→Nat→World→Prop) (h:∀ v lo hi w1 w2,p v lo hi w1→Kept B S lo hi w1 w2→p v lo hi w2)
 | whole (p:Value→Nat→Nat→World→Prop) (h:∀ v lo hi w1 w2,p v lo hi w1→KeptW B S w1 w2→p v lo hi w2)
 | eff (p:Value→Nat→Nat→World→Prop) (h:∀ v lo hi w1 w2,p v lo hi w1→Kept B (fun _=>False) lo hi w1 w2→p v lo hi w2)
 | effW (p:Value→Nat→Nat→World→Prop) (h:∀ v lo hi w1 w2,p v lo hi w1→KeptW B (fun _=>False) w1 w2→p v lo hi w2)
 | dep (q:Nat) (p:Value→Value→Prop)
 | depN (qs:List Nat) (p:List Value→Value→Prop)
 | storedD (q j:Nat) (c:Value→Array Value) (T:TypeId) (n:Nat)
inductive Sh where
 | free
 | cell (T:TypeId) (n:Nat)
 | store (q:Nat) (T:TypeId) (n:Nat)
 | eff
 | whole
def Fact.sh {B:Nat} {S:Nat→Prop}:Fact B S→Sh
 | .cell T n=>.cell T n
 | .stored q _ T n _=>.store q T n
 | .storedD q _ _ T n=>.store q T n
 | .eff _ _=>.eff
 | .effW _ _=>.eff
 | .whole _ _=>.whole
 | _=>.free
def Fact.needs {B:Nat} {S:Nat→Prop}:Fact B S→List Nat
 | .dep q _=>[q]
 | .depN qs _=>qs
 | .storedD _ j _ _ _=>[j]
 | _=>[]
def Fact.isW {B:Nat} {S:Nat→Prop}:Fact B S→Bool
 | .effW _ _=>true
 | _=>false
def Fact.ok {B:Nat} {S:Nat→Prop}:Fact B S→(Nat→Gh)→Nat→World→Prop
 | .any,_,_,_=>True
 | .val c,g,i,_=>(g i).v=c
 | .new ob,g,i,w=>(g i).v=.pointer (some ⟨(g i).lo,0,none⟩)∧(g i).lo<(g i).hi∧w.heap[(g i).lo]?=some ob
 | .slice ob l,g,i,w=>(g i).v=.slice (some ⟨(g i).lo,0,none⟩) l l∧(g i).lo<(g i).hi∧w.heap[(g i).lo]?=some ob
 | .cell T n,g,i,w=>(g i).v=.pointer (some ⟨(g i).lo,0,none⟩)∧(g i).lo<(g i).hi∧∃ c,w.heap[(g i).lo]?=some (.cells c T (0,0))∧c.size=n
 | .stored q c T _ _,g,i,w=>(g i).v=undef∧w.heap[(g q).lo]?=some (.cells c T (0,0))
 | .pred p _,g,i,w=>p (g i).v (g i).lo (g i).hi w
 | .whole p _,g,i,w=>p (g i).v (g i).lo (g i).hi w
 | .eff p _,g,i,w=>p (g i).v (g i).lo (g i).hi w
 | .effW p _,g,i,w=>p (g i).v (g i).lo (g i).hi w
 | .dep q p,g,i,_=>p (g q).v (g i).v
 | .depN qs p,g,i,_=>p (qs.map fun q=>(g q).v) (g i).v
 | .storedD q j c T _,g,i,w=>(g i).v=undef∧w.heap[(g q).lo]?=some (.cells (c (g j).v) T (0,0))
def Fact.mk {B:Nat} {S:Nat→Prop}:Fact B S→(Nat→Gh)→Value→World→World→Prop
 | .any,_,_,w,w'=>Below w.heap.size w w'
 | .val c,_,v,w,w'=>Below w.heap.size w w'∧v=c
 | .new ob,_,v,w,w'=>Below w.heap.size w w'∧∃ b,v=.pointer (some ⟨b,0,none⟩)∧b=w.heap.size∧w'.heap[b]?=some ob
 | .slice ob l,_,v,w,w'=>Below w.heap.size w w'∧∃ b,v=.slice (some ⟨b,0,none⟩) l l∧b=w.heap.size∧w'.heap[b]?=some ob
 | .cell T n,_,v,w,w'=>Below w.heap.size w w'∧∃ b,v=.pointer (some ⟨b,0,none⟩)∧b=w.heap.size∧∃ c,w'.heap[b]?=some (.cells c T (0,0))∧c.size=n
 | .stored q c T _ _,g,v,w,w'=>Upd w w' (g q).lo (.cells c T (0,0))∧v=undef
 | .pred p _,_,v,w,w'=>Below w.heap.size w w'∧p v w.heap.size w'.heap.size w'
 | .whole p _,_,v,w,w'=>Below w.heap.size w w'∧p v w.heap.size w'.heap.size w'
 | .eff p _,_,v,w,w'=>Kept w.heap.size S 0 0 w w'∧p v w.heap.size w'.heap.size w'
 | .effW p _,_,v,w,w'=>Kept w.heap.size S 0 0 w w'∧p v w.heap.size w'.heap.size w'
 | .dep q p,g,v,w,w'=>Below w.heap.size w w'∧p (g q).v v
 | .depN qs p,g,v,w,w'=>Below w.heap.size w w'∧p (qs.map fun q=>(g q).v) v
 | .storedD q j c T n,g,v,w,w'=>Upd w w' (g q).lo (.cells (c (g j).v) T (0,0))∧v=undef∧(c (g j).v).size=n
def fact {B:Nat} {S:Nat→Prop}:List (Fact B S)→Nat→Fact B S
 | [],_=>.any
 | f::_,0=>f
 | _::l,n+1=>fact l n
def zpR (o:Oper) (j:Nat):Bool:=o.after.toList.any fun e=>Region.binds .any e&&e.on==j
def freely (L:List Oper) (sh:Nat→Sh):Bool:=
  distinct L&&L.zipIdx.all (fun (o,i)=>(o.after.toList.all fun e=>!Region.binds .any e||decide (e.on<i))&&
    (match sh i with
     | .store q T n=>zpR o q&&(match sh q with | .cell T' n'=>T==T'&&n==n' | _=>false)&&(List.range L.length).all fun j=>decide (j=i)||(match sh j with | .store q' _ _=>!(q'==q) | _=>true)
     | .eff=>(List.range L.length).all fun j=>decide (j=i)||(match sh j with | .eff=>false | _=>true)
     | .whole=>(List.range L.length).all fun j=>(match sh j with | .store _ _ _=>false | _=>true)
     | _=>true))
def early (L:List Oper) (sh:Nat→Sh) (i:Nat):Bool:=
 L.zipIdx.all fun (o,j)=>match sh j with | .eff=>decide (j=i)||zpR o i | _=>true
def effDone (L:List Oper) (sh:Nat→Sh) (listed:Array Bool):Bool:=
 L.zipIdx.any fun (_,j)=>match sh j with | .eff=>listed.getD j false | _=>false
section
variable {P : Program} {Q : Exit → Act → World → Prop} {L : List Oper} {a : Act} {w : World} {B : Nat} {S : Nat → Prop}
structure FInv (L:List Oper) (fs:Nat→Fact B S) (a:Act) (w0:World) (listed:Array Bool) (g:Nat→Gh) (a':Act) (w':World):Prop where
 act:a'=puts L (fun j=>(g j).v) 0 a
 closed:∀ i o,L[i]?=some o→listed.getD i false=true→∀ e,e∈o.after→Region.binds .any e=true→listed.getD e.on false=true
 os:w'.os=w0.os
 tape:w'.tape=w0.tape
 output:w'.output=w0.output
 size:w0.heap.size≤w'.heap.size
 old:∀ b,b<B→¬ S b∨effDone L (fun i=>(fs i).sh) listed=false→w'.heap[b]?=w0.heap[b]?
 facts:∀ i,i<L.length→listed.getD i false=true→(fs i).ok g i w'∧B≤(g i).lo∧(g i).lo≤(g i).hi∧(g i).hi≤w'.heap.size
 apart:∀ i j,i≠j→i<L.length→j<L.length→listed.getD i false=true→listed.getD j false=true→(g i).hi≤(g j).lo∨(g j).hi≤(g i).lo
def EachF (P:Program) (L:List Oper) (fs:Nat→Fact B S) (a:Act) (w0:World):List Oper→Nat→Prop
 | [],_=>True
 | o::l,i=>(∀ g w',w'.os=w0.os→w'.tape=w0.tape→w'.output=w0.output→w0.heap.size≤w'.heap.size→(∀ b,b<B→¬ S b∨early L (fun i=>(fs i).sh) i=true→w'.heap[b]?=w0.heap[b]?)→
   (∀ j,zpR o j=true→(fs j).ok g j w'∧B≤(g j).lo∧(g j).hi≤w'.heap.size∧∀ q,zpR o q=true→q≠j→(g j).hi≤(g q).lo∨(g q).hi≤(g j).lo)→
   YieldsG P L.toArray o (puts L (fun j=>(g j).v) 0 a) w' fun v w''=>(fs i).mk g v w' w'')∧EachF P L fs a w0 l (i+1)
theorem zm8 {fs:Nat→Fact B S} {w0:World}:∀ (l:List Oper) (k i:Nat) (o:Oper),EachF P L fs a w0 l k→l[i]?=some o→
  (∀ g w',w'.os=w0.os→w'.tape=w0.tape→w'.output=w0.output→w0.heap.size≤w'.heap.size→(∀ b,b<B→¬ S b∨early L (fun i=>(fs i).sh) (k+i)=true→w'.heap[b]?=w0.heap[b]?)→
   (∀ j,zpR o j=true→(fs j).ok g j w'∧B≤(g j).lo∧(g j).hi≤w'.heap.size∧∀ q,zpR o q=true→q≠j→(g j).hi≤(g q).lo∨(g q).hi≤(g j).lo)→
   YieldsG P L.toArray o (puts L (fun j=>(g j).v) 0 a) w' fun v w''=>(fs (k+i)).mk g v w' w'')
 | [],_,_,_,_,h=>by simp at h
 | p::l,k,0,o,hE,h=>by
  simp only [List.getElem?_cons_zero,Option.some.injEq] at h
  subst h;exact hE.1
 | p::l,k,i+1,o,hE,h=>by
  simp only [List.getElem?_cons_succ] at h
  have:=zm8 l (k+1) i o hE.2 h;rw [show k+1+i=k+(i+1) from by omega] at this
  exact this
theorem zf0 {sh:Nat→Sh} (h:freely L sh=true) {i:Nat} {o:Oper} (hi:L[i]?=some o) :
  (∀ e,e∈o.after→Region.binds .any e=true→e.on<i)∧
  (∀ q T n,sh i=.store q T n→zpR o q=true∧sh q=.cell T n∧∀ j,j<L.length→j≠i→∀ T' n',sh j≠.store q T' n')∧
  (sh i=.eff→∀ j,j<L.length→j≠i→sh j≠.eff)∧(sh i=.whole→∀ j,j<L.length→∀ q T n,sh j≠.store q T n):=by
 simp only [freely,Bool.and_eq_true] at h
 have hm:(o,i)∈L.zipIdx:=by
  rw [List.mem_iff_getElem?]
  exact ⟨i,by simp [hi]⟩
 have h2:=List.all_eq_true.1 h.2 _ hm;simp only [Bool.and_eq_true] at h2
 refine ⟨fun e he hb=>?_,fun q T n hq=>?_,fun hq j hj hne=>?_,fun hq j hj q T n hs=>?_⟩
 ·have:=List.all_eq_true.1 h2.1 e (by simpa using he)
  simpa [hb] using this
 ·have h3:=h2.2
  rw [hq] at h3
  simp only [Bool.and_eq_true] at h3
  refine ⟨h3.1.1,?_,fun j hj hne T' n' hs=>?_⟩
  ·have h4:=h3.1.2
   cases hc:sh q with
   | cell T' n'=>
    rw [hc] at h4
    simp only [Bool.and_eq_true,beq_iff_eq] at h4
    rw [h4.1,h4.2]
   | _=>rw [hc] at h4; cases h4
  ·have:=List.all_eq_true.1 h3.2 j (List.mem_range.2 hj)
   rw [hs] at this
   simp [hne] at this
 ·have h3:=h2.2
  rw [hq] at h3
  intro hs;have:=List.all_eq_true.1 h3 j (List.mem_range.2 hj);rw [hs] at this
  simp [hne] at this
 ·have h3:=h2.2
  rw [hq] at h3
  have:=List.all_eq_true.1 h3 j (List.mem_range.2 hj);rw [hs] at this
  cases this
theorem zfH {o:Oper} {j:Nat} (h:zpR o j=true):∃ e,e∈o.after∧Region.binds .any e=true∧e.on=j:=by
 obtain ⟨e,he,h2⟩:=List.any_eq_true.1 h;simp only [Bool.and_eq_true,beq_iff_eq] at h2
 exact ⟨e,by simpa using he,h2.1,h2.2⟩
structure Step (B:Nat) (S:Nat→Prop) (sh:Sh) (g:Nat→Gh) (w w':World):Prop where
 os:w'.os=w.os
 tape:w'.tape=w.tape
 output:w'.output=w.output
 size:w.heap.size≤w'.heap.size
 block:∀ b,b<w.heap.size→(∀ q T n,sh=.store q T n→b≠(g q).lo)→(sh=.eff→¬ S b)→w'.heap[b]?=w.heap[b]?
 stored:∀ q T n,sh=.store q T n→∃ c,w'.heap[(g q).lo]?=some (.cells c T (0,0))∧c.size=n
theorem Fact.step {f:Fact B S} {g:Nat→Gh} {v:Value} {w w':World} (h:f.mk g v w w'):Step B S f.sh g w w':=by
 cases f with
 | any=>exact ⟨h.os,h.tape,h.output,h.size,fun b hb _ _=>h.block b hb,nofun⟩
 | val c=>exact ⟨h.1.os,h.1.tape,h.1.output,h.1.size,fun b hb _ _=>h.1.block b hb,nofun⟩
 | new ob=>exact ⟨h.1.os,h.1.tape,h.1.output,h.1.size,fun b hb _ _=>h.1.block b hb,nofun⟩
 | slice ob l=>exact ⟨h.1.os,h.1.tape,h.1.output,h.1.size,fun b hb _ _=>h.1.block b hb,nofun⟩
 | cell T n=>exact ⟨h.1.os,h.1.tape,h.1.output,h.1.size,fun b hb _ _=>h.1.block b hb,nofun⟩
 | pred p hp=>exact ⟨h.1.os,h.1.tape,h.1.output,h.1.size,fun b hb _ _=>h.1.block b hb,nofun⟩
 | whole p hp=>exact ⟨h.1.os,h.1.tape,h.1.output,h.1.size,fun b hb _ _=>h.1.block b hb,nofun⟩
 | stored q c T n hn=>
  refine ⟨h.1.os,h.1.tape,h.1.output,Nat.le_of_eq h.1.size.symm,fun b hb h1 _=>h.1.other b (h1 q T n rfl),?_⟩
  intro q' T' n' he;simp only [Fact.sh,Sh.store.injEq] at he
  obtain ⟨rfl,rfl,rfl⟩:=he;exact ⟨c,h.1.at_,hn⟩
 | dep q p=>exact ⟨h.1.os,h.1.tape,h.1.output,h.1.size,fun b hb _ _=>h.1.block b hb,nofun⟩
 | depN qs p=>exact ⟨h.1.os,h.1.tape,h.1.output,h.1.size,fun b hb _ _=>h.1.block b hb,nofun⟩
 | storedD q j c T n=>
  refine ⟨h.1.os,h.1.tape,h.1.output,Nat.le_of_eq h.1.size.symm,fun b hb h1 _=>h.1.other b (h1 q T n rfl),?_⟩
  intro q' T' n' he;simp only [Fact.sh,Sh.store.injEq] at he
  obtain ⟨rfl,rfl,rfl⟩:=he;exact ⟨c (g j).v,h.1.at_,h.2.2⟩
 | eff p hp=>exact ⟨h.1.1,h.1.2.1,h.1.2.2.1,h.1.2.2.2.1,fun b hb _ h2=>h.1.2.2.2.2 b (.inl ⟨hb,h2 rfl⟩),nofun⟩
 | effW p hp=>exact ⟨h.1.1,h.1.2.1,h.1.2.2.1,h.1.2.2.2.1,fun b hb _ h2=>h.1.2.2.2.2 b (.inl ⟨hb,h2 rfl⟩),nofun⟩
theorem ziC {l:Array Bool} {i j:Nat} (h:(l.setIfInBounds i true).getD j false=true) (hne:j≠i):l.getD j false=true:=by
 rw [getD_set_ne false (Ne.symm hne)] at h; exact h
theorem Step.ok {fs:Nat→Fact B S} (hSB:∀ b,S b→b<B) {g g':Nat→Gh} {i j:Nat} {w' w'':World} (hst:Step B S (fs i).sh g w' w'')
  (hg:∀ k,k≠i→g' k=g k) (hji:j≠i) (hj:(fs j).ok g j w') (hlo:B≤(g j).lo) (hhi:(g j).hi≤w'.heap.size) (hBw:B≤w'.heap.size)
  (hq1:∀ q T n,(fs j).sh=.store q T n→q≠i∧(g q).lo<w'.heap.size∧B≤(g q).lo)
  (hq2:∀ q T n,(fs i).sh=.store q T n→B≤(g q).lo∧(fs q).sh=.cell T n∧(∀ q' T' n',(fs j).sh=.store q' T' n'→(g q').lo≠(g q).lo)∧(j≠q→(g j).lo<(g j).hi→(g q).lo≠(g j).lo)∧(j≠q→(g q).lo<(g j).lo∨(g j).hi≤(g q).lo))
  (he:(fs i).sh=.eff→(fs j).sh≠.eff) (hwh:(fs j).sh=.whole→∀ q T n,(fs i).sh≠.store q T n) (hww:(fs j).isW=true→∀ q T n,(fs i).sh≠.store q T n) (hnd:∀ q,q∈(fs j).needs→q≠i):(fs j).ok g' j w'':=by
 have hgj:=hg j hji;have hne:∀ q T n,(fs i).sh=.store q T n→(∀ T n,(fs j).sh≠.cell T n)→j≠q:=fun q T n hq hc h=>by
  subst h;exact hc T n (hq2 _ T n hq).2.1
 cases hf:fs j with
 | any=>trivial
 | val c=>rw [hf] at hj; simp only [Fact.ok,hgj] at hj ⊢; exact hj
 | cell T n=>
  rw [hf] at hj
  simp only [Fact.ok,hgj] at hj ⊢
  obtain ⟨h1,h2,c,h3,h4⟩:=hj;refine ⟨h1,h2,?_⟩
  by_cases hq:∃ T' n',(fs i).sh=.store j T' n'
  ·obtain ⟨T',n',hq⟩:=hq
   obtain ⟨c2,h5,h6⟩:=hst.stored j T' n' hq;have h7:=(hq2 j T' n' hq).2.1;rw [hf] at h7
   simp only [Fact.sh,Sh.cell.injEq] at h7
   rw [h7.1,h7.2]
   exact ⟨c2,h5,h6⟩
  ·refine ⟨c,?_,h4⟩
   rw [hst.block _ (ah h3) (fun q T' n' hq' h=>?_) (fun _ h=>by have:=hSB _ h; omega)]
   ·exact h3
   ·have hjq:j≠q:=fun h=>by subst h; exact hq ⟨T',n',hq'⟩
    exact (hq2 q T' n' hq').2.2.2.1 hjq h2 h.symm
 | new ob=>
  rw [hf] at hj
  simp only [Fact.ok,hgj] at hj ⊢
  refine ⟨hj.1,hj.2.1,?_⟩;have hlt:=ah hj.2.2;rw [hst.block _ hlt (fun q T n hq h=>?_) (fun _ h=>by have:=hSB _ h; omega)]
  ·exact hj.2.2
  ·exact (hq2 q T n hq).2.2.2.1 (hne q T n hq fun _ _=>by rw [hf]; nofun) hj.2.1 h.symm
 | slice ob l=>
  rw [hf] at hj
  simp only [Fact.ok,hgj] at hj ⊢
  refine ⟨hj.1,hj.2.1,?_⟩;have hlt:=ah hj.2.2;rw [hst.block _ hlt (fun q T n hq h=>?_) (fun _ h=>by have:=hSB _ h; omega)]
  ·exact hj.2.2
  ·exact (hq2 q T n hq).2.2.2.1 (hne q T n hq fun _ _=>by rw [hf]; nofun) hj.2.1 h.symm
 | stored q c T n hn=>
  obtain ⟨hqi,hlt,hqB⟩:=hq1 q T n (by rw [hf]; rfl);rw [hf] at hj
  simp only [Fact.ok,hgj,hg q hqi] at hj ⊢
  refine ⟨hj.1,?_⟩;rw [hst.block _ hlt (fun q2 T2 n2 hq h=>?_) (fun _ h=>by have:=hSB _ h; omega)]
  ·exact hj.2
  ·exact (hq2 q2 T2 n2 hq).2.2.1 q T n (by rw [hf]; rfl) h
 | dep q p=>
  have hqi:q≠i:=hnd q (by rw [hf]; exact List.mem_singleton.2 rfl)
  rw [hf] at hj
  simp only [Fact.ok,hgj,hg q hqi] at hj ⊢
  exact hj
 | depN qs p=>
  rw [hf] at hj
  simp only [Fact.ok,hgj] at hj ⊢
  rw [List.map_congr_left (g:=fun q=>(g q).v) fun q hq=>by rw [hg q (hnd q (by rw [hf]; exact hq))]]
  exact hj
 | storedD q k c T n=>
  have hki:k≠i:=hnd k (by rw [hf]; exact List.mem_singleton.2 rfl)
  obtain ⟨hqi,hlt,hqB⟩:=hq1 q T n (by rw [hf]; rfl);rw [hf] at hj
  simp only [Fact.ok,hgj,hg q hqi,hg k hki] at hj ⊢
  refine ⟨hj.1,?_⟩;rw [hst.block _ hlt (fun q2 T2 n2 hq h=>?_) (fun _ h=>by have:=hSB _ h; omega)]
  ·exact hj.2
  ·exact (hq2 q2 T2 n2 hq).2.2.1 q T n (by rw [hf]; rfl) h
 | pred p hp=>
  rw [hf] at hj
  simp only [Fact.ok,hgj] at hj ⊢
  refine hp _ _ _ _ _ hj ⟨hst.os,hst.tape,hst.output,hst.size,fun b hb=>hst.block b kw (fun q T n hq h=>?_) (fun _ h=>?_)⟩
  ·have h1:=(hq2 q T n hq).1
   have:=(hq2 q T n hq).2.2.2.2 (hne q T n hq fun _ _=>by rw [hf]; nofun)
   omega
  ·rcases hb with hb | hb
   ·exact hb.2 h
   ·have:=hSB _ h; omega
 | effW p hp=>
  rw [hf] at hj
  simp only [Fact.ok,hgj] at hj ⊢
  refine hp _ _ _ _ _ hj ⟨hst.os,hst.tape,hst.output,hst.size,fun b hb _=>hst.block b hb (fun q T n hq=>absurd hq (hww (by rw [hf]; rfl) q T n)) (fun h=>absurd (show (fs j).sh=.eff from by rw [hf]; rfl) (he h))⟩
 | whole p hp=>
  rw [hf] at hj
  simp only [Fact.ok,hgj] at hj ⊢
  refine hp _ _ _ _ _ hj ⟨hst.os,hst.tape,hst.output,hst.size,fun b hb hn=>hst.block b hb (fun q T n hq=>absurd hq (hwh (by rw [hf]; rfl) q T n)) (fun _ h=>hn (hSB b h) h)⟩
 | eff p hp=>
  rw [hf] at hj
  simp only [Fact.ok,hgj] at hj ⊢
  refine hp _ _ _ _ _ hj ⟨hst.os,hst.tape,hst.output,hst.size,fun b hb=>hst.block b kw (fun q T n hq h=>?_) (fun h=>?_)⟩
  ·have h1:=(hq2 q T n hq).1
   have:=(hq2 q T n hq).2.2.2.2 (hne q T n hq fun _ _=>by rw [hf]; nofun)
   omega
  ·exact absurd (show (fs j).sh=.eff from by rw [hf]; rfl) (he h)
theorem Fact.zsN {f:Fact B S} {g g':Nat→Gh} {i:Nat} {v:Value} {w w':World} (h:f.mk g v w w') (hi:g' i=⟨v,w.heap.size,w'.heap.size⟩) (hq:∀ q T n,f.sh=.store q T n→g' q=g q) (hnd:∀ q,q∈f.needs→g' q=g q):f.ok g' i w':=by
 cases f with
 | any=>trivial
 | val c=>simp only [Fact.ok,hi]; exact h.2
 | new ob=>obtain ⟨hb,b,h1,h2,h3⟩:=h; simp only [Fact.ok,hi]; subst h2; exact ⟨h1,ah h3,h3⟩
 | slice ob l=>obtain ⟨hb,b,h1,h2,h3⟩:=h; simp only [Fact.ok,hi]; subst h2; exact ⟨h1,ah h3,h3⟩
 | cell T n=>obtain ⟨hb,b,h1,h2,c,h3,h4⟩:=h; simp only [Fact.ok,hi]; subst h2; exact ⟨h1,ah h3,c,h3,h4⟩
 | stored q c T n hn=>simp only [Fact.ok,hi,hq q T n rfl]; exact ⟨h.2,h.1.at_⟩
 | dep q p=>simp only [Fact.ok,hi,hnd q (List.mem_singleton.2 rfl)]; exact h.2
 | depN qs p=>
  simp only [Fact.ok,hi]
  rw [List.map_congr_left (g:=fun q=>(g q).v) fun q hq=>by rw [hnd q hq]]
  exact h.2
 | storedD q j c T n=>simp only [Fact.ok,hi,hq q T n rfl,hnd j (List.mem_singleton.2 rfl)]; exact ⟨h.2.1,h.1.at_⟩
 | pred p hp=>simp only [Fact.ok,hi]; exact h.2
 | whole p hp=>simp only [Fact.ok,hi]; exact h.2
 | effW p hp=>simp only [Fact.ok,hi]; exact h.2
 | eff p hp=>simp only [Fact.ok,hi]; exact h.2
theorem zlG {f:Fact B S} {g:Nat→Gh} {i:Nat} {w:World} {T:TypeId} {n:Nat} (h:f.ok g i w) (hs:f.sh=.cell T n):(g i).lo<(g i).hi:=by
 cases f with
 | cell T n=>exact h.2.1
 | _=>cases hs
theorem zkL (fs:Nat→Fact B S) (hW:(∀ i,(fs i).isW=false)∨∀ i q T n,(fs i).sh≠.store q T n) (hB:w.heap.size=B) (hSB:∀ b,S b→b<B)
  (hs:freely L (fun i=>(fs i).sh)=true) (hN:∀ i o,L[i]?=some o→∀ q,q∈(fs i).needs→zpR o q=true) (he:EachF P L fs a { w with drawn:=w.drawn+1 } L 0)
  (hl:∀ g w',w'.os=w.os→w'.tape=w.tape→w'.output=w.output→w.heap.size≤w'.heap.size→(∀ b,b<B→¬ S b→w'.heap[b]?=w.heap[b]?)→
   (∀ i,i<L.length→(fs i).ok g i w'∧B≤(g i).lo∧(g i).lo≤(g i).hi∧(g i).hi≤w'.heap.size)→
   (∀ i j,i≠j→i<L.length→j<L.length→(g i).hi≤(g j).lo∨(g j).hi≤(g i).lo)→Q .normal (puts L (fun j=>(g j).v) 0 a) w') :
  wpAny P .any L.toArray Q L.toArray.size (Array.replicate L.toArray.size false) a { w with drawn:=w.drawn+1 }:=by
 have hdist:distinct L=true:=by simp only [freely,Bool.and_eq_true] at hs; exact hs.1
 refine zjT (fun listed a' w'=>listed.size=L.length∧∃ g,FInv L fs a { w with drawn:=w.drawn+1 } listed g a' w') ?_ ?_ _ _ _ _ ?_ ?_
 ·rintro listed a' w' i o ⟨hsz,g,hI⟩ ho h0 hall
  have ho:L[i]?=some o:=by simpa using ho
  have hil:i<L.length:=(List.getElem?_eq_some_iff.1 ho).1;obtain ⟨hback,hstore,heff,_⟩:=zf0 hs ho;have hf:listed.getD i false=false:=by rw [ziK kw false true]; exact h0
  have hdep:∀ j,zpR o j=true→listed.getD j false=true∧j<L.length:=by
   intro j hj;obtain ⟨e,hem,heb,rfl⟩:=zfH hj;exact ⟨hall e hem heb,by have:=hback e hem heb; omega⟩
  have hearly:early L (fun i=>(fs i).sh) i=true→effDone L (fun i=>(fs i).sh) listed=false:=by
   intro h;rw [effDone,List.any_eq_false];rintro ⟨o2,j⟩ hm2;have h1:=List.all_eq_true.1 h _ hm2;have ho2:L[j]?=some o2:=by
    obtain ⟨k,hk⟩:=List.mem_iff_getElem?.1 hm2;rw [List.getElem?_zipIdx] at hk
    cases hkk:L[k]? with
    | none=>rw [hkk] at hk; cases hk
    | some z=>
     rw [hkk] at hk
     simp only [Option.map_some,Option.some.injEq,Prod.mk.injEq,Nat.zero_add] at hk
     rw [←hk.2,hkk,hk.1]
   cases hc:(fs j).sh with
   | eff=>
    simp only [hc,Bool.or_eq_true,decide_eq_true_eq] at h1 ⊢
    rcases h1 with h1 | h1
    ·subst h1; simp [hf]
    ·intro hlj
     obtain ⟨e,hem,heb,hei⟩:=zfH h1;have:=hI.closed j o2 ho2 hlj e hem heb;rw [hei,hf] at this
     cases this
   | _=>simp [hc]
  have hBw:B≤w'.heap.size:=by rw [←hB]; exact hI.size
  have hy:=zm8 L 0 i o he ho g w' hI.os hI.tape hI.output hI.size (fun b hb h=>hI.old b hb (h.imp (fun z=>z) (by rw [Nat.zero_add]; exact hearly)))
   (fun j hj=>⟨(hI.facts j (hdep j hj).2 (hdep j hj).1).1,(hI.facts j (hdep j hj).2 (hdep j hj).1).2.1,(hI.facts j (hdep j hj).2 (hdep j hj).1).2.2.2,fun q hq hqj=>hI.apart j q (Ne.symm hqj) (hdep j hj).2 (hdep q hq).2 (hdep j hj).1 (hdep q hq).1⟩)
  rw [Nat.zero_add] at hy
  rw [hI.act]
  refine hy.wp fun v w'' hmk=>⟨by simpa using hsz,(fun j=>if j=i then ⟨v,w'.heap.size,w''.heap.size⟩ else g j),?_⟩
  have hst:=Fact.step hmk;have hg:∀ k,k≠i→(fun j=>if j=i then (⟨v,w'.heap.size,w''.heap.size⟩:Gh) else g j) k=g k:=fun k hk=>if_neg hk
  have hgi:(fun j=>if j=i then (⟨v,w'.heap.size,w''.heap.size⟩:Gh) else g j) i=⟨v,w'.heap.size,w''.heap.size⟩:=if_pos rfl
  generalize (fun j=>if j=i then (⟨v,w'.heap.size,w''.heap.size⟩:Gh) else g j)=g' at hg hgi
  have hq2:∀ q T n,(fs i).sh=.store q T n→q≠i∧q<L.length∧listed.getD q false=true∧(fs q).sh=.cell T n∧B≤(g q).lo∧(g q).lo<(g q).hi∧(g q).hi≤w'.heap.size:=by
   intro q T n hq;obtain ⟨h1,h2,h3⟩:=hstore q T n hq;obtain ⟨h4,h5⟩:=hdep q h1;have h6:=hI.facts q h5 h4;exact ⟨fun h=>(by rw [h,hf] at h4; cases h4),h5,h4,h2,h6.2.1,zlG h6.1 h2,h6.2.2.2⟩
  have hmono:effDone L (fun i=>(fs i).sh) (listed.setIfInBounds i true)=false→effDone L (fun i=>(fs i).sh) listed=false∧(fs i).sh≠.eff:=by
   intro h;rw [effDone,List.any_eq_false] at h
   constructor
   ·rw [effDone,List.any_eq_false]
    rintro ⟨o2,j⟩ hm2;have h1:=h _ hm2;cases hc:(fs j).sh with
    | eff=>
     simp only [hc] at h1 ⊢
     intro hlj;exact h1 (getD_set_true hlj)
    | _=>simp [hc]
   ·intro hsh
    have hm2:(o,i)∈L.zipIdx:=by
     rw [List.mem_iff_getElem?]
     exact ⟨i,by simp [ho]⟩
    have h1:=h _ hm2;simp only [hsh] at h1
    exact h1 (by simp [hsz,hil])
  constructor
  ·rw [zkE _ _ _ _ i _ _ hdist ho]
   refine zh9 _ _ _ _ _ fun j _=>?_;rw [Nat.zero_add]
   by_cases hji:j=i
   ·subst hji; rw [if_pos rfl,hgi]
   ·rw [if_neg hji,hg j hji]
  ·intro q oq hq hlq e hee heb
   by_cases hqi:q=i
   ·subst hqi
    rw [hq] at ho
    cases ho
    exact getD_set_true (hall e hee heb)
   ·exact getD_set_true (hI.closed q oq hq (ziC hlq hqi) e hee heb)
  ·exact hst.os.trans hI.os
  ·exact hst.tape.trans hI.tape
  ·exact hst.output.trans hI.output
  ·exact Nat.le_trans hI.size hst.size
  ·intro b hb h
   rw [hst.block b kw (fun q T n hq=>by have:=hq2 q T n hq; omega) (fun hsh=>?_),hI.old b hb (h.imp (fun z=>z) fun h=>(hmono h).1)]
   rcases h with h | h
   ·exact h
   ·exact absurd hsh (hmono h).2
  ·intro j hjl hlj
   by_cases hji:j=i
   ·subst hji
    refine ⟨Fact.zsN hmk hgi (fun q T n hq=>hg q (hq2 q T n hq).1) (fun q hq=>hg q fun h=>?_),?_⟩
    ·have h4:=(hdep q (hN j o ho q hq)).1
     rw [h,hf] at h4; cases h4
    rw [hgi]
    exact ⟨hBw,hst.size,Nat.le_refl _⟩
   ·have hlj:=ziC hlj hji
    obtain ⟨h1,h2,h3,h4⟩:=hI.facts j hjl hlj;refine ⟨Step.ok hSB hst hg hji h1 h2 h4 hBw ?_ ?_ ?_ ?_ (fun hw=>?_) (fun q hq hqi=>?_),?_⟩
    ·intro q T n hq
     obtain ⟨oj,hoj⟩:∃ oj,L[j]?=some oj:=⟨L[j],by simp [hjl]⟩
     obtain ⟨_,hs2,_⟩:=zf0 hs hoj;obtain ⟨h5,h6,_⟩:=hs2 q T n hq;obtain ⟨e,hem,heb,hei⟩:=zfH h5;have h7:=hI.closed j oj hoj hlj e hem heb;rw [hei] at h7
     have hql:q<L.length:=by
      have:=(zf0 hs hoj).1 e hem heb;omega
     have h8:=hI.facts q hql h7;have h9:=zlG h8.1 h6;exact ⟨fun h=>(by rw [h,hf] at h7; cases h7),kw,h8.2.1⟩
    ·intro q T n hq
     obtain ⟨a1,a2,a3,a4,a5,a6,a7⟩:=hq2 q T n hq;refine ⟨a5,a4,fun q' T' n' hq' heq=>?_,fun hjq hlt heq=>?_,fun hjq=>?_⟩
     ·obtain ⟨oj,hoj⟩:∃ oj,L[j]?=some oj:=⟨L[j],by simp [hjl]⟩
      obtain ⟨_,hs2,_⟩:=zf0 hs hoj;obtain ⟨h5,h6,h10⟩:=hs2 q' T' n' hq';obtain ⟨e,hem,heb,hei⟩:=zfH h5;have h7:=hI.closed j oj hoj hlj e hem heb;rw [hei] at h7
      have hql:q'<L.length:=by
       have:=(zf0 hs hoj).1 e hem heb;omega
      have h9:=zlG (hI.facts q' hql h7).1 h6;have hqq:q'≠q:=fun h=>by
       subst h;exact h10 i hil (Ne.symm hji) T n hq
      rcases hI.apart q' q hqq hql a2 h7 a3 with h | h <;> omega
     ·rcases hI.apart j q hjq hjl a2 hlj a3 with h | h <;> omega
     ·rcases hI.apart j q hjq hjl a2 hlj a3 with h | h <;> omega
    ·intro hsh
     exact heff hsh j hjl hji
    ·intro hsh
     obtain ⟨oj,hoj⟩:∃ oj,L[j]?=some oj:=⟨L[j],by simp [hjl]⟩
     exact (zf0 hs hoj).2.2.2 hsh i hil
    ·rcases hW with hW | hW
     ·rw [hW j] at hw; cases hw
     ·exact hW i
    ·obtain ⟨oj,hoj⟩:∃ oj,L[j]?=some oj:=⟨L[j],by simp [hjl]⟩
     obtain ⟨e,hem,heb,hei⟩:=zfH (hN j oj hoj q hq);have h7:=hI.closed j oj hoj hlj e hem heb;rw [hei,hqi,hf] at h7
     cases h7
    ·rw [hg j hji]
     exact ⟨h2,h3,Nat.le_trans h4 hst.size⟩
  ·intro j k hjk hjl hkl hlj hlk
   by_cases hji:j=i
   ·subst hji
    rw [hgi,hg k (Ne.symm hjk)]
    exact .inr (hI.facts k hkl (ziC hlk (Ne.symm hjk))).2.2.2
   ·by_cases hki:k=i
    ·subst hki
     rw [hgi,hg j hji]
     exact .inl (hI.facts j hjl (ziC hlj hji)).2.2.2
    ·rw [hg j hji,hg k hki]
     exact hI.apart j k hjk hjl hkl (ziC hlj hji) (ziC hlk hki)
 ·rintro listed a' w' ⟨hsz,g,hI⟩ hr
  have hall:∀ i,i<L.length→listed.getD i false=true:=by
   intro i
   induction i using Nat.strongRecOn with
   | _ i ih=>
    intro hi;cases hc:listed.getD i false with
    | true=>rfl
    | false=>
     exfalso
     have hm:i∈Region.ready .any L.toArray listed:=by
      refine mem_ready.2 ⟨?_,L[i],by simp [hi],?_⟩
      ·rw [ziK kw true false]; exact hc
      ·intro e he heb
       have:=(zf0 hs (i:=i) (o:=L[i]) (by simp [hi])).1 e he heb
       exact ih e.on this kw
     rw [hr] at hm
     cases hm
  rw [hI.act]
  exact hl g w' hI.os hI.tape hI.output hI.size (fun b hb h=>hI.old b hb (.inl h)) (fun i hi=>hI.facts i hi (hall i hi)) fun i j hij hi hj=>hI.apart i j hij hi hj (hall i hi) (hall j hj)
 ·have:∀ n (b:Array Bool),left n b≤n:=fun n b=>by
   unfold left;exact Nat.le_trans (List.length_filter_le _ _) yat
  exact this _ _
 ·refine ⟨by simp,(fun i=>⟨start L a i,B,B⟩),?_⟩
  constructor
  ·refine (ziB a _ _ _ fun i oi hoi=>?_).symm
   simp only [start,Nat.zero_add,hoi]
  ·intro i o _ h; rw [zcW] at h; cases h
  ·rfl
  ·rfl
  ·rfl
  ·exact Nat.le_refl _
  ·intro b _ _; rfl
  ·intro i _ h; rw [zcW] at h; cases h
  ·intro i j _ _ _ h; rw [zcW] at h; cases h
theorem zmX {id:Nat} (fs:Nat→Fact B S) (hW:(∀ i,(fs i).isW=false)∨∀ i q T n,(fs i).sh≠.store q T n) (hm:P.follows .mixedOrders=true) (hB:w.heap.size=B) (hSB:∀ b,S b→b<B)
  (hs:freely L (fun i=>(fs i).sh)=true) (hN:∀ i o,L[i]?=some o→∀ q,q∈(fs i).needs→zpR o q=true) (he:EachF P L fs a { w with drawn:=w.drawn+1 } L 0)
  (hl:∀ g w',w'.os=w.os→w'.tape=w.tape→w'.output=w.output→w.heap.size≤w'.heap.size→(∀ b,b<B→¬ S b→w'.heap[b]?=w.heap[b]?)→
   (∀ i,i<L.length→(fs i).ok g i w'∧B≤(g i).lo∧(g i).lo≤(g i).hi∧(g i).hi≤w'.heap.size)→
   (∀ i j,i≠j→i<L.length→j<L.length→(g i).hi≤(g j).lo∨(g j).hi≤(g i).lo)→Q .normal (puts L (fun j=>(g j).v) 0 a) w') :
  (Code.region id L.toArray true).wp P Q a w:=wp_region_any hm (zkL fs hW hB hSB hs hN he hl)
/-! ### A head that draws its order, and a tail in the order of the text -/
theorem Oper.wp_Q {o:Oper} {a:Act} {w:World} {K:Act→World→Prop} {Q Q':Exit→Act→World→Prop} (h:∀ e a w,e≠.normal→Q' e a w→Q e a w) (hh:o.wp P a w K Q'):o.wp P a w K Q:=by
 unfold Oper.wp at *
 generalize (execOp a.eval o).run P w=r at *
 cases r with
 | ok n w'=>
  cases n <;> simp only [Oper.upon] at hh ⊢ <;>
   first
    | exact hh
    | exact Calls.mono hh (fun e w'' he=>by cases e <;> first | exact he | exact h _ _ _ yat he | exact he.imp fun a he=>he.imp fun w he=>h _ _ _ yat he)
    | exact Rows.mono hh (fun _ _ he=>he)
 | halt x w'=>cases x <;> simp only [Oper.upon] at hh ⊢ <;> first | exact hh | exact h _ _ _ yat hh | exact hh.imp fun a he=>he.imp fun w he=>h _ _ _ yat he
def padded (listed:Array Bool) (n:Nat):Array Bool:=listed++Array.replicate n false
theorem zf4 {listed:Array Bool} {n i:Nat} {d:Bool} (h:i<listed.size):(padded listed n).getD i d=listed.getD i d:=by
 unfold padded;simp only [Array.getD_eq_getD_getElem?];rw [Array.getElem?_append_left h]
theorem zlr {listed:Array Bool} {n i:Nat} (h:listed.size≤i):(padded listed n).getD i false=false:=by
 unfold padded;simp only [Array.getD_eq_getD_getElem?];rw [Array.getElem?_append_right h];cases hc:(Array.replicate n false)[i - listed.size]? with
 | none=>rfl
 | some b=>
  have:=(Array.getElem?_eq_some_iff.1 hc).2;simpa using this.symm
theorem zkx {listed:Array Bool} {n i:Nat} (h:i<listed.size):(padded listed n).setIfInBounds i true=padded (listed.setIfInBounds i true) n:=by
 unfold padded;rw [Array.setIfInBounds_append,if_pos h]
def noGuards (l:List Oper):Bool:=l.all fun o=>o.guard.isNone
theorem zlO {l:List Oper} (h:noGuards l=true) {i:Nat} {o:Oper} (ho:l[i]?=some o) (ops:Array Oper) (ts:Array Value):Region.wanted o (yielded ops ts)=true:=by
 have:=List.all_eq_true.1 h o (List.mem_of_getElem? ho);cases hg:o.guard with
 | none=>simp [Region.wanted,hg]
 | some g=>rw [hg] at this; cases this
theorem zo9 {k:Nat} (hs:shapely L=true) (hch:chained L k=true) (listed:Array Bool) (hsz:listed.size=L.length) (hkl:k≤L.length) (hlow:∀ i,i<k→listed.getD i false=true) (hhigh:∀ i,k≤i→listed.getD i false=false) {a:Act} {w:World}
  (h:wpList P L.toArray Q (L.drop k) a w) (fuel:Nat) (hf:left L.toArray.size listed≤fuel):wpAny P .any L.toArray Q fuel listed a w:=by
 refine zjT (fun listed a w=>listed.size=L.length∧∃ j,k≤j∧j≤L.length∧(∀ i,i<j→listed.getD i false=true)∧(∀ i,j≤i→listed.getD i false=false)∧wpList P L.toArray Q (L.drop j) a w) ?_ ?_ fuel listed a w hf ⟨hsz,k,Nat.le_refl _,hkl,hlow,hhigh,h⟩
 ·rintro listed b v i oi ⟨hsz,j,hkj,hjl,hlow,hhigh,hwp⟩ ho h0 hall
  have ho':L[i]?=some oi:=by simpa using ho
  have hil:i<L.length:=(List.getElem?_eq_some_iff.1 ho').1;have hf0:listed.getD i false=false:=by rw [ziK kw false true]; exact h0
  have hji:j=i:=by
   rcases Nat.lt_trichotomy i j with h | h | h
   ·rw [hlow i h] at hf0; cases hf0
   ·exact h.symm
   ·obtain ⟨e,he,hei⟩:=zhf hch ho' kw
    have:=hall e he (zhi hs ho' e he).1;rw [hhigh e.on kw] at this
    cases this
  subst hji;have hd:L.drop j=oi::L.drop (j+1):=by
   rw [List.drop_eq_getElem_cons hil]
   have:L[j]=oi:=by simpa [List.getElem?_eq_getElem hil] using ho'
   rw [this]
  rw [hd] at hwp
  unfold wpList at hwp
  have key:∀ a'' w'',wpList P L.toArray Q (L.drop (j+1)) a'' w''→(listed.setIfInBounds j true).size=L.length∧∃ q,k≤q∧q≤L.length∧(∀ i,i<q→(listed.setIfInBounds j true).getD i false=true)∧(∀ i,q≤i→(listed.setIfInBounds j true).getD i false=false)∧wpList P L.toArray Q (L.drop q) a'' w'':=by
   intro a'' w'' h;refine ⟨by simpa using hsz,j+1,kw,kw,fun q hq=>?_,fun q hq=>?_,h⟩
   ·by_cases hqj:q=j
    ·subst hqj; simp [hsz,hil]
    ·exact getD_set_true (hlow q kw)
   ·rw [getD_set_ne false kw]; exact hhigh q kw
  split
  ·rename_i hq
   rw [if_pos hq] at hwp
   exact hwp.imp (Oper.wp_mono key) (fun h=>h)
  ·rename_i hq
   rw [if_neg hq] at hwp
   exact key _ _ hwp
 ·rintro listed b v ⟨hsz,j,hkj,hjl,hlow,hhigh,hwp⟩ hr
  have hall:=ziD hs hsz hr;have hj:j=L.length:=by
   rcases Nat.lt_or_ge j L.length with h | h
   ·have:=hall j h
    rw [hhigh j (Nat.le_refl _)] at this
    cases this
   ·omega
  subst hj;rw [List.drop_length] at hwp
  exact hwp
theorem znc {k:Nat} (hs:drawnOk L k=true) (hsk:shapely (L.take k)=true) (hg:noGuards (L.take k)=true) {Q':Exit→Act→World→Prop} (hQ:∀ e a w,e≠.normal→Q' e a w→Q e a w) (hN:∀ a w,Q' .normal a w→wpList P L.toArray Q (L.drop k) a w) :
  ∀ (fuel:Nat) (listed:Array Bool) (a:Act) (w:World),listed.size=k→(∀ i o,L[i]?=some o→i<k→listed.getD i false=true→∀ e∈o.after,listed.getD e.on false=true)→
   wpAny P .any (L.take k).toArray Q' fuel listed a w→∀ fuel2,left L.toArray.size (padded listed (L.length - k))≤fuel2→wpAny P .any L.toArray Q fuel2 (padded listed (L.length - k)) a w:=by
 simp only [drawnOk,Bool.and_eq_true,decide_eq_true_eq] at hs
 obtain ⟨⟨⟨hs,hw⟩,hch⟩,hkl⟩:=hs;have hsH:∀ i o,L[i]?=some o→∀ e∈o.after,Region.binds .any e=true∧e.on<i:=fun i o ho=>zhi hs ho
 have htk:∀ i,i<k→(L.take k)[i]?=L[i]?:=fun i hi=>zjp hi
 have hlk:(L.take k).length=k:=by simp; omega
 have fin:∀ (listed:Array Bool) (a:Act) (w:World),listed.size=k→Region.ready .any (L.take k).toArray listed=[]→Q' .normal a w→∀ fuel2,left L.toArray.size (padded listed (L.length - k))≤fuel2→wpAny P .any L.toArray Q fuel2 (padded listed (L.length - k)) a w:=by
  intro listed a w hsz hr hq fuel2 hf2;refine zo9 hs hch _ (by simp [padded]; omega) kw (fun i hi=>?_) (fun i hi=>zlr kw) (hN _ _ hq) fuel2 hf2
  rw [zf4 kw]
  exact ziD hsk kw hr i kw
 have low:∀ (listed:Array Bool),listed.size=k→(∀ i o,L[i]?=some o→i<k→listed.getD i false=true→∀ e∈o.after,listed.getD e.on false=true)→∀ j,k≤j→j∈Region.ready .any L.toArray (padded listed (L.length - k))→∀ i,i<k→listed.getD i false=true:=by
  intro listed hsz hcl j hkj hj;obtain ⟨_,o,ho,hall⟩:=mem_ready.1 hj;have ho:L[j]?=some o:=by simpa using ho
  have hjk:j=k:=by
   rcases Nat.lt_or_ge k j with h | h
   ·obtain ⟨e,he,hei⟩:=zhf hch ho h
    have:=hall e he (hsH j o ho e he).1;rw [zlr kw] at this
    cases this
   ·omega
  subst hjk;have main:∀ d i,i+d+1=j→listed.getD i false=true:=by
   intro d
   induction d using Nat.strongRecOn with
   | _ d ih=>
    intro i hi;obtain ⟨i',o',hlt,ho',e,he,hei⟩:=zmt hw (j:=i) yaD;have hi'l:i'<(L.take (j+1)).length:=(List.getElem?_eq_some_iff.1 ho').1;have hi'k:i'≤j:=by simp at hi'l; omega
    rw [zjp kw] at ho'
    rcases Nat.lt_or_ge i' j with h | h
    ·have h1:=ih (j - 1 - i') kw i' kw
     have:=hcl i' o' ho' h h1 e he
     rwa [hei] at this
    ·have e1:i'=j:=by omega
     subst e1;rw [ho] at ho'
     cases ho'
     have:=hall e he (hsH i' o ho e he).1;rw [hei,zf4 kw] at this
     exact this
  intro i hi;exact main (j - 1 - i) i kw
 intro fuel
 induction fuel with
 | zero=>
  intro listed a w hsz hcl h;exact fin listed a w hsz h.1 h.2
 | succ fuel ih=>
  intro listed a w hsz hcl h
  by_cases hr:Region.ready .any (L.take k).toArray listed=[]
  ·exact fin listed a w hsz hr (h.1 hr)
  obtain ⟨j0,hj0⟩:=List.exists_mem_of_ne_nil _ hr;obtain ⟨hj0f,o0,ho0,hall0⟩:=mem_ready.1 hj0;have ho0:(L.take k)[j0]?=some o0:=by simpa using ho0
  have hj0k:j0<k:=by have:=(List.getElem?_eq_some_iff.1 ho0).1; omega
  have hj0n:listed.getD j0 false=false:=by rw [ziK kw false true]; exact hj0f
  have hj0L:j0∈Region.ready .any L.toArray (padded listed (L.length - k)):=by
   refine mem_ready.2 ⟨by rw [zf4 kw]; exact hj0f,o0,by rw [htk j0 hj0k] at ho0; simpa using ho0,fun e he hb=>?_⟩
   have:=hsH j0 o0 (by rw [htk j0 hj0k] at ho0; exact ho0) e he
   rw [zf4 kw]
   exact hall0 e he hb
  intro fuel2 hf2;cases fuel2 with
  | zero=>
   exfalso
   have hlt:j0<L.length:=kw
   have h1:j0∈(List.range L.toArray.size).filter fun i=>!(padded listed (L.length - k)).getD i true:=List.mem_filter.2 ⟨List.mem_range.2 (by simpa using hlt),by rw [zf4 kw,hj0f]; rfl⟩
   have h2:left L.toArray.size (padded listed (L.length - k))=0:=kw
   rw [List.eq_nil_of_length_eq_zero h2] at h1
   cases h1
  | succ fuel2=>
   refine ⟨fun hrl=>(by rw [hrl] at hj0L; cases hj0L),fun j hj=>?_⟩
   have hjk:j<k:=by
    rcases Nat.lt_or_ge j k with h | h
    ·exact h
    ·have:=low listed hsz hcl j h hj j0 hj0k
     rw [hj0n] at this
     cases this
   obtain ⟨hjf,o,ho,hall⟩:=mem_ready.1 hj;have ho:L[j]?=some o:=by simpa using ho
   have hjf':listed.getD j true=false:=by rwa [zf4 kw] at hjf
   have hall':∀ e∈o.after,Region.binds .any e=true→listed.getD e.on false=true:=fun e he hb=>by
    have:=hsH j o ho e he;have h2:=hall e he hb
    rwa [zf4 kw] at h2
   have hoH:(L.take k)[j]?=some o:=by rw [htk j hjk]; exact ho
   have hjH:j∈Region.ready .any (L.take k).toArray listed:=mem_ready.2 ⟨hjf',o,by simpa using hoH,hall'⟩
   have hwp:=h.2 j hjH;have hls:=zmu (listed:=padded listed (L.length - k)) (n:=L.toArray.size) (i:=j) yaD hjf
   have hcl':∀ i o',L[i]?=some o'→i<k→(listed.setIfInBounds j true).getD i false=true→∀ e∈o'.after,(listed.setIfInBounds j true).getD e.on false=true:=by
    intro i o' ho' hik hil e he
    by_cases hij:i=j
    ·subst hij
     rw [ho] at ho'
     cases ho'
     exact getD_set_true (hall' e he (hsH i o ho e he).1)
    ·rw [getD_set_ne false (Ne.symm hij)] at hil
     exact getD_set_true (hcl i o' ho' hik hil e he)
   unfold wpOp at hwp ⊢
   rw [show (L.take k).toArray[j]?=some o from by simpa using hoH] at hwp
   rw [show L.toArray[j]?=some o from by simpa using ho]
   simp only at hwp ⊢
   rw [if_pos (zlO hg hoH _ _)] at hwp ⊢
   rcases hwp with hwp | ⟨h1,h2⟩
   ·refine .inl (Oper.wp_Q hQ (Oper.wp_mono (fun a' w' h'=>?_) hwp))
    rw [zkx kw]
    exact ih (listed.setIfInBounds j true) a' w' (by simpa using hsz) hcl' h' fuel2 (by rw [←zkx kw]; omega)
   ·exact .inr ⟨h1,h2.imp fun a h=>h.imp fun w h=>hQ _ _ _ yat h⟩
theorem zmf {id:Nat} {k:Nat} (hm:P.follows .mixedOrders=true) (hs:drawnOk L k=true) (hsk:shapely (L.take k)=true) (hg:noGuards (L.take k)=true)
  (h:wpAny P .any (L.take k).toArray (fun e a w=>e=.normal∧wpList P L.toArray Q (L.drop k) a w) (L.take k).toArray.size (Array.replicate (L.take k).toArray.size false) a { w with drawn:=w.drawn+1 }):(Code.region id L.toArray true).wp P Q a w:=by
 refine wp_region_any hm ?_;have hkl:k<L.length:=by simp only [drawnOk,Bool.and_eq_true,decide_eq_true_eq] at hs; exact hs.2
 have hlk:(L.take k).length=k:=by simp; omega
 have h2:=znc (Q:=Q) hs hsk hg (Q':=fun e a w=>e=.normal∧wpList P L.toArray Q (L.drop k) a w) (fun e a w hne h=>absurd h.1 hne) (fun a w h=>h.2) _ (Array.replicate k false) a { w with drawn:=w.drawn+1 } yat (fun i o _ _ hl=>by rw [zcW] at hl; cases hl) (by rw [show (L.take k).toArray.size=k from by simp; omega] at h; exact h)
 have e:padded (Array.replicate k false) (L.length - k)=Array.replicate L.toArray.size false:=by
  unfold padded;rw [Array.replicate_append_replicate]
  congr 1
  simp
  omega
 rw [e] at h2
 refine h2 _ ?_;unfold left;exact Nat.le_trans (List.length_filter_le ..) yat
end
/-! ### With frames -/
theorem zme:∀ (l:List Value) (c:Array Value) (o i:Nat),o+l.length≤c.size→(over c o l)[i]?=if o≤i∧i<o+l.length then l[i - o]? else c[i]?
 | [],c,o,i,_=>by
  simp only [over,List.length_nil,Nat.add_zero]
  rw [if_neg kw]
 | v::l,c,o,i,h=>by
  simp only [List.length_cons] at h
  simp only [over,List.length_cons]
  rw [zme l _ (o+1) i yaD]
  by_cases h1:i=o
  ·subst h1
   rw [if_neg kw,if_pos kw]
   simp [show i<c.size from by omega]
  ·by_cases h2:o+1≤i∧i<o+1+l.length
   ·rw [if_pos h2,if_pos kw]
    rw [show i - o=(i - (o+1))+1 from kw,List.getElem?_cons_succ]
   ·rw [if_neg h2,if_neg kw]
    rw [Array.getElem?_setIfInBounds_ne (Ne.symm h1)]
theorem zkr {c:Array Value} {l:List Value} (h:c.size=l.length):over c 0 l=l.toArray:=by
 apply Array.ext_getElem?
 intro i;rw [zme l c 0 i kw]
 split
 ·simp
 ·rename_i hn
  have:l.length≤i:=kw
  simp [h,this]
section
variable {P : Program} {Q : Exit → Act → World → Prop} {L : List Oper} {a : Act} {w : World} {N : Nat} {s : SL}
theorem zb4 {B:Nat} {S:Nat→Prop} {fs:Nat→Fact B S} {w0:World} {i:Nat}:EachF P L fs a w0 [] i:=trivial
theorem zkn {fs:Nat→Fact w.heap.size (fun _=>False)} {o:Oper} {l:List Oper} {i:Nat} (r:Fr a N s) (hd:(o.guard.isNone&&dstsIn N L)=true)
  (h:∀ a' g w',Below w.heap.size w w'→(∀ j,zpR o j=true→(fs j).ok g j w'∧w.heap.size≤(g j).lo∧(g j).hi≤w'.heap.size∧∀ q,zpR o q=true→q≠j→(g j).hi≤(g q).lo∨(g q).hi≤(g j).lo)→Fr a' N (putsS L (fun j=>(g j).v) 0 s)→
   Yields P o a' w' fun v w''=>(fs i).mk g v w' w'') (h2:EachF P L fs a w l (i+1)):EachF P L fs a w (o::l) i:=by
 simp only [Bool.and_eq_true] at hd
 exact ⟨fun g w' h1 h3 h4 h5 h6 h7=>.plain hd.1 (h _ g w' ⟨h1,h3,h4,h5,fun b hb=>h6 b hb (.inl fun h=>h)⟩ h7 (r.puts L _ 0 hd.2)),h2⟩
theorem zap {fs:Nat→Fact w.heap.size (fun _=>False)} {o:Oper} {l:List Oper} {i j d:Nat} (want:Bool) (r:Fr a N s) (hg:o.guard=some (j,want)) (hj:(L.toArray[j]?).bind (·.dst)=some d)
  (hd:(Nat.ble (d+1) N&&dstsIn N L)=true)
  (hv:∀ g w',(∀ j,zpR o j=true→(fs j).ok g j w'∧w.heap.size≤(g j).lo∧(g j).hi≤w'.heap.size∧∀ q,zpR o q=true→q≠j→(g j).hi≤(g q).lo∨(g q).hi≤(g j).lo)→look (putsS L (fun j=>(g j).v) 0 s) d=.bool want)
  (h:∀ a' g w',Below w.heap.size w w'→(∀ j,zpR o j=true→(fs j).ok g j w'∧w.heap.size≤(g j).lo∧(g j).hi≤w'.heap.size∧∀ q,zpR o q=true→q≠j→(g j).hi≤(g q).lo∨(g q).hi≤(g j).lo)→Fr a' N (putsS L (fun j=>(g j).v) 0 s)→
   Yields P { o with guard:=none } a' w' fun v w''=>(fs i).mk g v w' w'') (h2:EachF P L fs a w l (i+1)):EachF P L fs a w (o::l) i:=by
 simp only [Bool.and_eq_true] at hd
 refine ⟨fun g w' h1 h3 h4 h5 h6 h7=>?_,h2⟩
 have hr:=r.puts L (fun j=>(g j).v) 0 hd.2
 have hy:=zha (ops:=L.toArray) hr hj (hv g w' h7) (Nat.le_of_ble_eq_true hd.1);unfold YieldsG;rw [if_pos (by simp only [Region.wanted,hg,hy,zpC,beq_self_eq_true])]
 exact h _ g w' ⟨h1,h3,h4,h5,fun b hb=>h6 b hb (.inl fun h=>h)⟩ h7 hr
theorem zav {fs:Nat→Fact w.heap.size (fun _=>False)} {o:Oper} {l:List Oper} {i j d:Nat} (want:Bool) (v:Value) (r:Fr a N s) (hg:o.guard=some (j,want)) (hj:(L.toArray[j]?).bind (·.dst)=some d)
  (hd:(Nat.ble (d+1) N&&dstsIn N L)=true)
  (hv:∀ g w',(∀ j,zpR o j=true→(fs j).ok g j w'∧w.heap.size≤(g j).lo∧(g j).hi≤w'.heap.size∧∀ q,zpR o q=true→q≠j→(g j).hi≤(g q).lo∨(g q).hi≤(g j).lo)→look (putsS L (fun j=>(g j).v) 0 s) d=v)
  (hn:zpC v≠some want) (hΦ:∀ g w',(fs i).mk g undef w' w') (h2:EachF P L fs a w l (i+1)):EachF P L fs a w (o::l) i:=by
 simp only [Bool.and_eq_true] at hd
 refine ⟨fun g w' h1 h3 h4 h5 h6 h7=>?_,h2⟩
 have hr:=r.puts L (fun j=>(g j).v) 0 hd.2
 have hy:=zha (ops:=L.toArray) hr hj (hv g w' h7) (Nat.le_of_ble_eq_true hd.1);unfold YieldsG;rw [if_neg (by
  simp only [Region.wanted,hg,hy]
  exact fun h=>hn (eq_of_beq h))]
 exact hΦ g w'
def okW {B:Nat} {S:Nat→Prop} (L:List Oper) (fl:List (Fact B S)):Bool:=((fl.all fun f=>!f.isW)||fl.all fun f=>match f.sh with | .store _ _ _=>false | _=>true)&&L.zipIdx.all fun (o,i)=>(fact fl i).needs.all fun q=>zpR o q
theorem zm9 {B:Nat} {S:Nat→Prop} {L:List Oper} {fl:List (Fact B S)} (h:okW L fl=true):∀ i o,L[i]?=some o→∀ q,q∈(fact fl i).needs→zpR o q=true:=by
 intro i o ho q hq;simp only [okW,Bool.and_eq_true] at h
 have hm:(o,i)∈L.zipIdx:=by
  rw [List.mem_iff_getElem?]
  exact ⟨i,by simp [ho]⟩
 exact List.all_eq_true.1 (List.all_eq_true.1 h.2 _ hm) q hq
theorem zkX {B:Nat} {S:Nat→Prop}:∀ (fl:List (Fact B S)) (i:Nat),fact fl i∈fl∨fact fl i=.any
 | [],_=>.inr rfl
 | _::_,0=>.inl (List.mem_cons_self ..)
 | _::l,n+1=>(zkX l n).imp (List.mem_cons_of_mem _) id
theorem zmk {B:Nat} {S:Nat→Prop} {L:List Oper} {fl:List (Fact B S)} (h:okW L fl=true):(∀ i,(fact fl i).isW=false)∨∀ i q T n,(fact fl i).sh≠.store q T n:=by
 simp only [okW,Bool.and_eq_true,Bool.or_eq_true] at h
 have h:=h.1;simp only [List.all_eq_true] at h
 rcases h with h | h
 ·refine .inl fun i=>?_
  rcases zkX fl i with hm | hm
  ·simpa using h _ hm
  ·rw [hm]; rfl
 ·refine .inr fun i q T n hs=>?_
  rcases zkX fl i with hm | hm
  ·have:=h _ hm
   rw [hs] at this
   cases this
  ·rw [hm] at hs; cases hs
theorem zda {id:Nat} (fl:List (Fact w.heap.size (fun _=>False))) (hm:P.follows .mixedOrders=true) (r:Fr a N s) (hs:(freely L (fun i=>(fact fl i).sh)&&dstsIn N L&&okW L fl)=true)
  (he:EachF P L (fact fl) a { w with drawn:=w.drawn+1 } L 0)
  (hl:∀ a' g w',Below w.heap.size w w'→(∀ i,Nat.ble (i+1) L.length=true→(fact fl i).ok g i w'∧w.heap.size≤(g i).lo∧(g i).lo≤(g i).hi∧(g i).hi≤w'.heap.size)→
   (∀ i j,(!(i==j)&&Nat.ble (i+1) L.length&&Nat.ble (j+1) L.length)=true→(g i).hi≤(g j).lo∨(g j).hi≤(g i).lo)→Fr a' N (putsS L (fun j=>(g j).v) 0 s)→Q .normal a' w') :
  (Code.region id L.toArray true).wp P Q a w:=by
 simp only [Bool.and_eq_true] at hs
 refine zmX (fact fl) (zmk hs.2) hm rfl (fun _ h=>h.elim) hs.1.1 (zm9 hs.2) he fun g w' h1 h2 h3 h4 h5 h6 h7=>hl _ g w' ⟨h1,h2,h3,h4,fun b hb=>h5 b hb fun h=>h⟩ (fun i hi=>h6 i (Nat.le_of_ble_eq_true hi)) (fun i j hij=>?_) (r.puts L _ 0 hs.1.2)
 simp only [Bool.and_eq_true,Bool.not_eq_true',beq_eq_false_iff_ne] at hij
 exact h7 i j hij.1.1 (Nat.le_of_ble_eq_true hij.1.2) (Nat.le_of_ble_eq_true hij.2)
theorem zmb {id:Nat} (k:Nat) (fl:List (Fact w.heap.size (fun _=>False))) (hm:P.follows .mixedOrders=true) (r:Fr a N s) (hs:(drawnOk L k&&shapely (L.take k)&&noGuards (L.take k)&&(freely (L.take k) (fun i=>(fact fl i).sh)&&dstsIn N (L.take k)&&okW (L.take k) fl))=true)
  (he:EachF P (L.take k) (fact fl) a { w with drawn:=w.drawn+1 } (L.take k) 0)
  (hl:∀ a' g w',Below w.heap.size w w'→(∀ i,Nat.ble (i+1) (L.take k).length=true→(fact fl i).ok g i w'∧w.heap.size≤(g i).lo∧(g i).lo≤(g i).hi∧(g i).hi≤w'.heap.size)→
   (∀ i j,(!(i==j)&&Nat.ble (i+1) (L.take k).length&&Nat.ble (j+1) (L.take k).length)=true→(g i).hi≤(g j).lo∨(g j).hi≤(g i).lo)→Fr a' N (putsS (L.take k) (fun j=>(g j).v) 0 s)→wpList P L.toArray Q (L.drop k) a' w') :
  (Code.region id L.toArray true).wp P Q a w:=by
 simp only [Bool.and_eq_true] at hs
 obtain ⟨⟨⟨hs1,hs2⟩,hs3⟩,hs⟩:=hs;refine zmf hm hs1 hs2 hs3 (zkL (fact fl) (zmk hs.2) rfl (fun _ h=>h.elim) hs.1.1 (zm9 hs.2) he fun g w' h1 h2 h3 h4 h5 h6 h7=>⟨rfl,hl _ g w' ⟨h1,h2,h3,h4,fun b hb=>h5 b hb fun h=>h⟩ (fun i hi=>h6 i (Nat.le_of_ble_eq_true hi)) (fun i j hij=>?_) (r.puts (L.take k) _ 0 hs.1.2)⟩)
 simp only [Bool.and_eq_true,Bool.not_eq_true',beq_eq_false_iff_ne] at hij
 exact h7 i j hij.1.1 (Nat.le_of_ble_eq_true hij.1.2) (Nat.le_of_ble_eq_true hij.2)
end
end Go.Proofs.YtbbipmelhmgmfaaGreat

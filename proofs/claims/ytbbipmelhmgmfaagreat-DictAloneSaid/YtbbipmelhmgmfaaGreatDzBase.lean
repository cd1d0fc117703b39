/- Ours. -/
import Derived.Test.YtbbipmelhmgmfaaGreatDzOps
set_option linter.all false
set_option maxRecDepth 100000
set_option maxHeartbeats 20000000
namespace Go.Proofs.YtbbipmelhmgmfaaGreat
open Go.RowKit
inductive T (R:Type) where
 | cut
 | done (r:R)
 | act (op at_ a b:Int) (k:Int->T R)
def T.bind {A B:Type}:T A->(A->T B)->T B
 | .cut,_=>.cut
 | .done r,f=>f r
 | .act op at_ a b k,f=>.act op at_ a b fun x=>(k x).bind f
structure Enc (R:Type) where
 n:Nat
 cells:R->List Value
 zero:List Value
 len:∀ r,(cells r).length=n
 zlen:zero.length=n
 plain:∀ r,(cells r).all plainCell=true
 zplain:zero.all plainCell=true
def I8 (F:Nat->Prop) (w w':World):Prop:=∀ b,F b->w'.heap[b]?=w.heap[b]?
def aC (ov:Bool) (r:List Value) (op at_ a b:Int) (next:Value):Array Value:=
 (.bool ov::(r++[.int .i64 op,.int .i64 at_,.int .u64 a,.int .u64 b,next])).toArray
def grow (F:Nat->Prop) (w w':World):Nat->Prop:=fun b=>F b\/(w.heap.size<=b/\b<w'.heap.size)
def Shape {R:Type} (E:Enc R) (v:Value):Prop:=∃ c:Array Value,v=.agg c/\c.size=E.n+6/\c.toList.all plainCell=true
def Jm {R:Type} (P:Program) (E:Enc R):Nat->T R->(Nat->Prop)->World->Value->Prop
 | _,.cut,_,_,_=>False
 | _,.done r,_,_,v=>v=.agg (aC true (E.cells r) 0 0 0 0 .nilFunc)
 | 0,.act op at_ a b _,_,_,v=>∃ (f:FuncId) (first cap:List Value),af P f=true/\v=.agg (aC false E.zero op at_ a b (.func (.func f) first.toArray cap.toArray))
 | m+1,.act op at_ a b k,F,w,v=>∃ (f:FuncId) (first cap:List Value),af P f=true/\v=.agg (aC false E.zero op at_ a b (.func (.func f) first.toArray cap.toArray))/\
   ∀ x w',I8 F w w'->w.heap.size<=w'.heap.size->
    Calls P f (first++[Value.int .u64 x]++cap).toArray w' fun e w''=>∃ v',e=.returned v'/\Below w'.heap.size w' w''/\Jm P E m (k x) (grow F w' w'') w'' v'
def aH {R:Type} (P:Program) (E:Enc R) (n:Nat) (t:T R) (F:Nat->Prop) (w:World):Ending->World->Prop:=
 fun e w'=>∃ v,e=.returned v/\Below w.heap.size w w'/\Jm P E n t (grow F w w') w' v
def FnAt {R α:Type} (P:Program) (E:Enc R) (enc:α->List Value) (m:Nat) (F:Nat->Prop) (w:World) (f:FuncId) (first cap:List Value) (g:α->T R):Prop:=
 ∀ x w',I8 F w w'->w.heap.size<=w'.heap.size->Calls P f (first++enc x++cap).toArray w' (aH P E m (g x) F w')
def Kq {R α:Type} (P:Program) (E:Enc R) (enc:α->List Value) (n:Nat) (F:Nat->Prop) (w:World) (fv:Value) (g:α->T R):Prop:=
 ∃ (f:FuncId) (first cap:List Value),af P f=true/\fv=.func (.func f) first.toArray cap.toArray/\∀ m,m<n->FnAt P E enc m F w f first cap g
def u64 (x:Int):List Value:=[.int .u64 x]
def i64 (x:Int):List Value:=[.int .i64 x]
def aF (x:Bool):List Value:=[.bool x]
def unitE (_:Unit):List Value:=[]
def noneE (_:Unit):List Value:=[.agg #[]]
def aj:Enc Int:=⟨1,fun r=>[.int .i64 r],[.int .i64 0],fun _=>rfl,rfl,fun _=>rfl,rfl⟩
def bK:Enc Int:=⟨1,fun r=>[.int .u64 r],[.int .u64 0],fun _=>rfl,rfl,fun _=>rfl,rfl⟩
def cv:Enc Bool:=⟨1,fun r=>[.bool r],[.bool false],fun _=>rfl,rfl,fun _=>rfl,rfl⟩
def aD:Enc Unit:=⟨0,fun _=>[],[],fun _=>rfl,rfl,fun _=>rfl,rfl⟩
def bB (v:Value) (w:World):Ending->World->Prop:=fun e w'=>e=.returned v/\Below w.heap.size w w'
def T.bC {R:Type}:T R->Bool
 | .done _=>true
 | _=>false
section
variable {R : Type} {P : Program} {E : Enc R}
theorem I8.refl (F:Nat->Prop) (w:World):I8 F w w:=fun _ _=>rfl
theorem I8.trans {F:Nat->Prop} {a b c:World} (h:I8 F a b) (h':I8 F b c):I8 F a c:=fun k hk=>(h' k hk).trans (h k hk)
theorem I8.sub {F F':Nat->Prop} {a b:World} (h:I8 F a b) (hs:∀ b,F' b->F b):I8 F' a b:=fun k hk=>h k (hs k hk)
theorem I8.below {F:Nat->Prop} {w w':World} (h:Below w.heap.size w w') (hF:∀ b,F b->b<w.heap.size):I8 F w w':=fun k hk=>h.block k (hF k hk)
theorem I8.at_ {F:Nat->Prop} {w w':World} {b:Nat} {o:Obj} (h:I8 F w w') (hb:F b) (hw:w.heap[b]?=some o):w'.heap[b]?=some o:=by rw [h b hb]; exact hw
theorem Jm.mono {F F':Nat->Prop} {w w':World} (hs:∀ b,F b->F' b) (h1:I8 F w w') (h2:w.heap.size<=w'.heap.size) :
  ∀ (n:Nat) (t:T R) (v:Value),Jm P E n t F w v->Jm P E n t F' w' v
 | _,.cut,_,h=>by unfold Jm at h; exact h.elim
 | _,.done _,_,h=>by unfold Jm at h ⊢; exact h
 | 0,.act ..,_,h=>by unfold Jm at h ⊢; exact h
 | m+1,.act op at_ a b k,v,h=>by
  unfold Jm at h ⊢
  obtain ⟨f,first,cap,hc,hv,h⟩:=h;refine ⟨f,first,cap,hc,hv,fun x w'' hs' hz=>?_⟩
  refine (h x w'' (h1.trans (hs'.sub hs)) O).mono ?_;rintro e w3 ⟨v',he,hb,hr⟩;exact ⟨v',he,hb,Jm.mono (fun b hb=>hb.imp (hs b) id) (I8.refl _ _) (Nat.le_refl _) m _ _ hr⟩
theorem Jm.down {F:Nat->Prop} {w:World}:∀ {n m:Nat} {t:T R} {v:Value},m<=n->Jm P E n t F w v->Jm P E m t F w v
 | _,_,.cut,_,_,h=>by unfold Jm at h; exact h.elim
 | _,_,.done _,_,_,h=>by unfold Jm at h ⊢; exact h
 | 0,m,.act ..,_,hm,h=>by
  obtain rfl:m=0:=O
  exact h
 | n+1,0,.act ..,_,_,h=>by
  unfold Jm at h ⊢
  obtain ⟨f,first,cap,hc,hv,_⟩:=h;exact ⟨f,first,cap,hc,hv⟩
 | n+1,m+1,.act op at_ a b k,v,hm,h=>by
  unfold Jm at h ⊢
  obtain ⟨f,first,cap,hc,hv,h⟩:=h;refine ⟨f,first,cap,hc,hv,fun x w'' hs' hz=>?_⟩
  refine (h x w'' hs' hz).mono ?_;rintro e w3 ⟨v',he,hb,hr⟩;exact ⟨v',he,hb,Jm.down O hr⟩
theorem Jm.shape {F:Nat->Prop} {w:World}:∀ {n:Nat} {t:T R} {v:Value},Jm P E n t F w v->Shape E v
 | _,.cut,_,h=>by unfold Jm at h; exact h.elim
 | _,.done r,_,h=>by
  unfold Jm at h; subst h
  exact ⟨_,rfl,by simp [aC,E.len],by simp [aC,plainCell,E.plain r]⟩
 | 0,.act ..,_,h=>by
  unfold Jm at h; obtain ⟨_,_,_,_,rfl⟩:=h
  exact ⟨_,rfl,by simp [aC,E.zlen],by simp [aC,plainCell,E.zplain]⟩
 | m+1,.act ..,_,h=>by
  unfold Jm at h; obtain ⟨_,_,_,_,rfl,_⟩:=h
  exact ⟨_,rfl,by simp [aC,E.zlen],by simp [aC,plainCell,E.zplain]⟩
theorem Jm.iq {n:Nat} {F:Nat->Prop} {w:World} {op at_ a b:Int} {k:Int->T R} {fv:Value} (h:Kq P E u64 n F w fv k) :
  Jm P E n (.act op at_ a b k) F w (.agg (aC false E.zero op at_ a b fv)):=by
 obtain ⟨f,first,cap,hc,rfl,h⟩:=h;cases n with
 | zero=>unfold Jm; exact ⟨f,first,cap,hc,rfl⟩
 | succ m=>unfold Jm; exact ⟨f,first,cap,hc,rfl,fun x w' h1 h2=>h m (Nat.lt_succ_self _) x w' h1 h2⟩
theorem Jm.ib {n:Nat} {F:Nat->Prop} {w:World} {r:R}:Jm P E n (.done r) F w (.agg (aC true (E.cells r) 0 0 0 0 .nilFunc)):=by unfold Jm; rfl
theorem FnAt.mono {α:Type} {enc:α->List Value} {m:Nat} {F F':Nat->Prop} {w w':World} {f:FuncId} {first cap:List Value} {g:α->T R} (h:FnAt P E enc m F w f first cap g)
  (hs:∀ b,F b->F' b) (h1:I8 F w w') (h2:w.heap.size<=w'.heap.size):FnAt P E enc m F' w' f first cap g:=fun x w'' hs' hz=>by
 refine (h x w'' (h1.trans (hs'.sub hs)) O).mono ?_;rintro e w3 ⟨v',he,hb,hr⟩;exact ⟨v',he,hb,Jm.mono (fun b hb=>hb.imp (hs b) id) (I8.refl _ _) (Nat.le_refl _) m _ _ hr⟩
theorem Kq.mono {α:Type} {enc:α->List Value} {n n':Nat} {F F':Nat->Prop} {w w':World} {fv:Value} {g:α->T R} (h:Kq P E enc n F w fv g) (hn:n'<=n)
  (hs:∀ b,F b->F' b) (h1:I8 F w w') (h2:w.heap.size<=w'.heap.size):Kq P E enc n' F' w' fv g:=by
 obtain ⟨f,first,cap,hc,hv,h⟩:=h;exact ⟨f,first,cap,hc,hv,fun m hm=>(h m O).mono hs h1 h2⟩
theorem Jm.dD {n:Nat} {F:Nat->Prop} {w:World} {op at_ a b:Int} {k:Int->T R} {v:Value} (h:Jm P E n (.act op at_ a b k) F w v) :
  ∃ (f:FuncId) (first cap:List Value),af P f=true/\v=.agg (aC false E.zero op at_ a b (.func (.func f) first.toArray cap.toArray))/\Kq P E u64 n F w (.func (.func f) first.toArray cap.toArray) k:=by
 cases n with
 | zero=>
  unfold Jm at h
  obtain ⟨f,first,cap,hc,hv⟩:=h;exact ⟨f,first,cap,hc,hv,f,first,cap,hc,rfl,fun m hm=>absurd hm (Nat.not_lt_zero m)⟩
 | succ q=>
  have h':=h;unfold Jm at h
  obtain ⟨f,first,cap,hc,hv,hk⟩:=h;refine ⟨f,first,cap,hc,hv,f,first,cap,hc,rfl,fun m hm x w' h1 h2=>?_⟩
  refine (hk x w' h1 h2).mono ?_;rintro e w'' ⟨v',he,hb,hr⟩;exact ⟨v',he,hb,Jm.down O hr⟩
theorem Kq.at_ {α:Type} {enc:α->List Value} {n:Nat} {F:Nat->Prop} {w:World} {f:FuncId} {first cap:List Value} {g:α->T R} (h:Kq P E enc n F w (.func (.func f) first.toArray cap.toArray) g) :
  af P f=true/\∀ m,m<n->FnAt P E enc m F w f first cap g:=by
 obtain ⟨f',first',cap',hc,he,hf⟩:=h;simp only [Value.func.injEq,Fn.func.injEq] at he
 obtain ⟨e1,e2,e3⟩:=he;have e2':first=first':=by simpa using congrArg Array.toList e2
 have e3':cap=cap':=by simpa using congrArg Array.toList e3
 subst e1; subst e2'; subst e3';exact ⟨hc,hf⟩
theorem aH.fin {n:Nat} {t:T R} {F F1:Nat->Prop} {w0 w1 w2 w3:World} {r:Nat} {o:Obj} {v:Value} (hB:Below w0.heap.size w0 w3) (hr:Jm P E n t (grow F1 w1 w2) w2 v)
  (hu:Upd w2 w3 r o) (hF:∀ b,F1 b->F b\/(w0.heap.size<=b/\b<w1.heap.size)) (hFr:¬ F1 r) (hr1:r<w1.heap.size) (h01:w0.heap.size<=w1.heap.size) (h12:w1.heap.size<=w2.heap.size) :
  aH P E n t F w0 (.returned v) w3:=by
 refine ⟨v,rfl,hB,Jm.mono ?_ ?_ (by rw [hu.size]; exact Nat.le_refl _) n t v hr⟩
 ·rintro b (hb | ⟨hb1,hb2⟩)
  ·rcases hF b hb with h | ⟨h1,h2⟩
   ·exact .inl h
   ·exact .inr ⟨h1,by rw [hu.size]; omega⟩
  ·exact .inr ⟨O,by rw [hu.size]; omega⟩
 ·rintro b (hb | ⟨hb1,hb2⟩)
  ·exact hu.other b (fun e=>hFr (e ▸ hb))
  ·exact hu.other b O
def Ke {R:Type} (P:Program) (E:Enc R) (n:Nat) (t:T R) (F:Nat->Prop) (B r:Nat) (v:Value) (w:World):Prop:=
 (∀ b,F b->b<w.heap.size)/\r<w.heap.size/\B<=w.heap.size/\Jm P E n t (fun b=>F b\/(B<=b/\b<w.heap.size/\b≠r)) w v
theorem Ke.stable {n:Nat} {t:T R} {F:Nat->Prop} {B r:Nat}:∀ v w1 w2,Ke P E n t F B r v w1->Below w1.heap.size w1 w2->Ke P E n t F B r v w2:=by
 rintro v w1 w2 ⟨h1,h2,h3,h4⟩ hb;have hz:=hb.size;refine ⟨fun b h=>q9 (h1 b h) hz,O,O,Jm.mono ?_ (I8.below hb ?_) hz n _ _ h4⟩
 ·rintro b (h | ⟨h,h',h''⟩)
  ·exact .inl h
  ·exact .inr ⟨h,O,h''⟩
 ·rintro b (h | ⟨h,h',h''⟩)
  ·exact h1 b h
  ·exact h'
theorem Ke.m7 {n:Nat} {t:T R} {F:Nat->Prop} {B r:Nat} {w1 w2:World} {v:Value} (hF:∀ b,F b->b<w1.heap.size) (hr:r<w1.heap.size) (hB:B<=w1.heap.size) (hb:Below w1.heap.size w1 w2)
  (h:Jm P E n t (grow (fun b=>F b\/(B<=b/\b<w1.heap.size/\b≠r)) w1 w2) w2 v):Ke P E n t F B r v w2:=by
 have hz:=hb.size;refine ⟨fun b h=>q9 (hF b h) hz,O,O,Jm.mono ?_ (I8.refl _ _) (Nat.le_refl _) n _ _ h⟩
 rintro b ((h | ⟨h,h',h''⟩) | ⟨h,h'⟩)
 ·exact .inl h
 ·exact .inr ⟨h,O,h''⟩
 ·exact .inr ⟨O,h',O⟩
theorem vo:∀ (l:List Value) (pre post:List Value),post.length=l.length->over (pre++post).toArray pre.length l=(pre++l).toArray
 | [],pre,post,h=>by
  have:post=[]:=List.eq_nil_of_length_eq_zero yaJ
  subst this; rfl
 | v::l,pre,[],h=>by simp at h
 | v::l,pre,p::post,h=>by
  have ih:=vo l (pre++[v]) post yaJ
  simp only [over]
  have e:(pre++p::post).toArray.setIfInBounds pre.length v=(pre++[v]++post).toArray:=by
   simp
  rw [e]
  simpa using ih
theorem rl {c c':Array Value} (h:c.size=c'.size):over c 0 c'.toList=c':=by
 have:=vo c'.toList [] c.toList yaJ
 simpa using this
theorem Dy {a:Act} {w:World} {d:Option Tmp} {ty:TypeId} {pos:String} {Ki:Array Edge} {N:Nat} {s:SL} (Jb:Fr a N s) {x y:Operand} {b:Nat} {t Et:TypeId} {c:Array Value} {v:Value}
  {Q:Value->World->Prop} (hv:Shape E v) (hx:lookO s x=.pointer (some ⟨b,0,none⟩)) (hy:lookO s y=v) (h:w.heap[b]?=some (.cells c Et (0,0))) (ht:sized P t (E.n+6)=true) (hn:c.size=E.n+6)
  (hr:∀ w',Upd w w' b (.cells v.cells Et (0,0))->Q undef w'):Yields P ⟨d,.store t x y,ty,pos,Ki,none⟩ a w Q:=by
 obtain ⟨c',rfl,h1,h2⟩:=hv;exact bb Jb hx hy h (by simpa [Value.cells,h1] using ht) (by simp [Value.cells,h1,hn]) h2 (rl (by simp [Value.cells,h1,hn])) hr
theorem Shape.cells {v:Value} (h:Shape E v):v.cells.size=E.n+6/\v.cells.toList.all plainCell=true/\v=.agg v.cells:=by
 obtain ⟨c,rfl,h1,h2⟩:=h;exact ⟨h1,h2,rfl⟩
end
section
variable {P : Program} {a : Act} {w : World} {d : Option Tmp} {ty : TypeId} {pos : String} {Ki : Array Edge}
variable {ops : Array Oper} {Q : Exit -> Act -> World -> Prop} {rest : List Oper} {N : Nat} {s : SL}
theorem kP {R:Type} {E:Enc R} (Jb:Fr a N s) {x y:Operand} {b:Nat} {t Et:TypeId} {c:Array Value} {v:Value} (hv:Shape E v) (hx:lookO s x=.pointer (some ⟨b,0,none⟩)) (hy:lookO s y=v) (h:w.heap[b]?=some (.cells c Et (0,0)))
  (ht:sized P t (E.n+6)=true) (hn:c.size=E.n+6) (hg:Ku N d=true) (hk:∀ {a} w',Upd w w' b (.cells v.cells Et (0,0))->Fr a N (KJ s d undef)->wpList P ops Q rest a w'):wpList P ops Q (⟨d,.store t x y,ty,pos,Ki,none⟩::rest) a w:=
 aM _ Jb (fun R=>Dy Jb hv hx hy h ht hn) hg fun a w' h r=>hk w' h r
theorem kD {R:Type} {E:Enc R} {m:Nat} {t:T R} {F:Nat->Prop} {f:FuncId} {xs:List Operand} {ts:Array TypeId} {args:List Value} (Jb:Fr a N s) (hc:Calls P f args.toArray w (aH P E m t F w)) (hx:xs.map (lookO s)=args)
  (hf:af P f=true) (hg:Ku N d=true) (hk:∀ {a} w' v,Below w.heap.size w w'->Jm P E m t (grow F w w') w' v->Fr a N (KJ s d v)->wpList P ops Q rest a w'):wpList P ops Q (⟨d,.call ⟨.value (.func f),xs.toArray,ts⟩,ty,pos,Ki,none⟩::rest) a w:=
 kC Jb hc hx hf hg (by rintro _ w' ⟨v,rfl,hb,hr⟩; exact ⟨_,rfl,fun a r=>hk w' v hb hr r⟩)
theorem kE {v:Value} {f:FuncId} {xs:List Operand} {ts:Array TypeId} {args:List Value} (Jb:Fr a N s) (hc:Calls P f args.toArray w (bB v w)) (hx:xs.map (lookO s)=args)
  (hf:af P f=true) (hg:Ku N d=true) (hk:∀ {a} w',Below w.heap.size w w'->Fr a N (KJ s d v)->wpList P ops Q rest a w'):wpList P ops Q (⟨d,.call ⟨.value (.func f),xs.toArray,ts⟩,ty,pos,Ki,none⟩::rest) a w:=
 kC Jb hc hx hf hg (by rintro _ w' ⟨rfl,hb⟩; exact ⟨_,rfl,fun a r=>hk w' hb r⟩)
end
abbrev kS:Value:=.slice none 0 0
abbrev kH (F:Nat->Prop) (w:World):Prop:=∀ b,F b->b<w.heap.size
abbrev kW (F:Nat->Prop) (w0 w1:World) (r:Nat):Nat->Prop:=fun b=>F b\/(w0.heap.size<=b/\b<w1.heap.size/\b≠r)
end Go.Proofs.YtbbipmelhmgmfaaGreat

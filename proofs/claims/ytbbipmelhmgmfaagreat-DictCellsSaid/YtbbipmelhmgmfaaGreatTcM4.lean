/- Some of our texts, one behind the other. -/
import Derived.Test.YtbbipmelhmgmfaaGreatTcOps
import Derived.Test.YtbbipmelhmgmfaaGreatTcM2
import Derived.Test.YtbbipmelhmgmfaaGreatTcM3
import Derived.Test.YtbbipmelhmgmfaaGreatProg
set_option linter.all false
set_option maxRecDepth 100000
set_option maxHeartbeats 20000000
/- Ours. -/
namespace Go.Proofs.YtbbipmelhmgmfaaGreat
open Go.RowKit
inductive T (R:Type) where
  | cut
  | done (r:R)
  | act (op at_ a b:Int) (k:Int→T R)
def T.bind {A B:Type}:T A→(A→T B)→T B
  | .cut,_=>.cut
  | .done r,f=>f r
  | .act op at_ a b k,f=>.act op at_ a b fun x=>(k x).bind f
def T.load {R:Type} (at_:Int) (k:Int→T R):T R:=.act 0 at_ 0 0 k
def T.store {R:Type} (at_ w:Int) (k:T R):T R:=.act 1 at_ w 0 fun _=>k
def T.swap {R:Type} (at_ was w:Int) (k:Bool→T R):T R:=.act 2 at_ was w fun x=>k (x==was)
structure Enc (R:Type) where
  n:Nat
  cells:R→List Value
  zero:List Value
  len:∀ r,(cells r).length=n
  zlen:zero.length=n
  plain:∀ r,(cells r).all plainCell=true
  zplain:zero.all plainCell=true
def Same (F:Nat→Prop) (w w':World):Prop:=∀ b,F b→w'.heap[b]?=w.heap[b]?
def progCells (ov:Bool) (r:List Value) (op at_ a b:Int) (next:Value):Array Value:=
  (.bool ov::(r++[.int .i64 op,.int .i64 at_,.int .u64 a,.int .u64 b,next])).toArray
def grow (F:Nat→Prop) (w w':World):Nat→Prop:=fun b=>F b∨(w.heap.size≤b∧b<w'.heap.size)
def Shape {R:Type} (E:Enc R) (v:Value):Prop:=∃ c:Array Value,v=.agg c∧c.size=E.n+6∧c.toList.all plainCell=true
def Rep {R:Type} (P:Program) (E:Enc R):Nat→T R→(Nat→Prop)→World→Value→Prop
  | _,.cut,_,_,_=>False
  | _,.done r,_,_,v=>v=.agg (progCells true (E.cells r) 0 0 0 0 .nilFunc)
  | 0,.act op at_ a b _,_,_,v=>∃ (f:FuncId) (first cap:List Value),callable P f=true∧v=.agg (progCells false E.zero op at_ a b (.func (.func f) first.toArray cap.toArray))
  | m+1,.act op at_ a b k,F,w,v=>∃ (f:FuncId) (first cap:List Value),callable P f=true∧v=.agg (progCells false E.zero op at_ a b (.func (.func f) first.toArray cap.toArray))∧
      ∀ x w',Same F w w'→w.heap.size≤w'.heap.size→
        Calls P f (first++[Value.int .u64 x]++cap).toArray w' fun e w''=>∃ v',e=.returned v'∧Below w'.heap.size w' w''∧Rep P E m (k x) (grow F w' w'') w'' v'
def RepRes {R:Type} (P:Program) (E:Enc R) (n:Nat) (t:T R) (F:Nat→Prop) (w:World):Ending→World→Prop:=
  fun e w'=>∃ v,e=.returned v∧Below w.heap.size w w'∧Rep P E n t (grow F w w') w' v
def FnAt {R α:Type} (P:Program) (E:Enc R) (enc:α→List Value) (m:Nat) (F:Nat→Prop) (w:World) (f:FuncId) (first cap:List Value) (g:α→T R):Prop:=
  ∀ x w',Same F w w'→w.heap.size≤w'.heap.size→Calls P f (first++enc x++cap).toArray w' (RepRes P E m (g x) F w')
def FnT {R α:Type} (P:Program) (E:Enc R) (enc:α→List Value) (n:Nat) (F:Nat→Prop) (w:World) (fv:Value) (g:α→T R):Prop:=
  ∃ (f:FuncId) (first cap:List Value),callable P f=true∧fv=.func (.func f) first.toArray cap.toArray∧∀ m,m<n→FnAt P E enc m F w f first cap g
def u64 (x:Int):List Value:=[.int .u64 x]
def i64 (x:Int):List Value:=[.int .i64 x]
def boolE (x:Bool):List Value:=[.bool x]
def unitE (_:Unit):List Value:=[]
def noneE (_:Unit):List Value:=[.agg #[]]
def encInt:Enc Int:=⟨1,fun r=>[.int .i64 r],[.int .i64 0],fun _=>rfl,rfl,fun _=>rfl,rfl⟩
def encWord:Enc Int:=⟨1,fun r=>[.int .u64 r],[.int .u64 0],fun _=>rfl,rfl,fun _=>rfl,rfl⟩
def encBool:Enc Bool:=⟨1,fun r=>[.bool r],[.bool false],fun _=>rfl,rfl,fun _=>rfl,rfl⟩
def encNone:Enc Unit:=⟨0,fun _=>[],[],fun _=>rfl,rfl,fun _=>rfl,rfl⟩
def PureRes (v:Value) (w:World):Ending→World→Prop:=fun e w'=>e=.returned v∧Below w.heap.size w w'
def T.isDone {R:Type}:T R→Bool
  | .done _=>true
  | _=>false
section
variable {R : Type} {P : Program} {E : Enc R}
theorem Same.refl (F:Nat→Prop) (w:World):Same F w w:=fun _ _=>rfl
theorem Same.trans {F:Nat→Prop} {a b c:World} (h:Same F a b) (h':Same F b c):Same F a c:=fun k hk=>(h' k hk).trans (h k hk)
theorem Same.sub {F F':Nat→Prop} {a b:World} (h:Same F a b) (hs:∀ b,F' b→F b):Same F' a b:=fun k hk=>h k (hs k hk)
theorem Same.below {F:Nat→Prop} {w w':World} (h:Below w.heap.size w w') (hF:∀ b,F b→b<w.heap.size):Same F w w':=fun k hk=>h.block k (hF k hk)
theorem Same.at_ {F:Nat→Prop} {w w':World} {b:Nat} {o:Obj} (h:Same F w w') (hb:F b) (hw:w.heap[b]?=some o):w'.heap[b]?=some o:=by rw [h b hb]; exact hw
theorem Rep.mono {F F':Nat→Prop} {w w':World} (hs:∀ b,F b→F' b) (h1:Same F w w') (h2:w.heap.size≤w'.heap.size) :
    ∀ (n:Nat) (t:T R) (v:Value),Rep P E n t F w v→Rep P E n t F' w' v
  | _,.cut,_,h=>by unfold Rep at h; exact h.elim
  | _,.done _,_,h=>by unfold Rep at h ⊢; exact h
  | 0,.act ..,_,h=>by unfold Rep at h ⊢; exact h
  | m+1,.act op at_ a b k,v,h=>by
    unfold Rep at h ⊢
    obtain ⟨f,first,cap,hc,hv,h⟩:=h;refine ⟨f,first,cap,hc,hv,fun x w'' hs' hz=>?_⟩
    refine (h x w'' (h1.trans (hs'.sub hs)) (by omega)).mono ?_;rintro e w3 ⟨v',he,hb,hr⟩;exact ⟨v',he,hb,Rep.mono (fun b hb=>hb.imp (hs b) id) (Same.refl _ _) (Nat.le_refl _) m _ _ hr⟩
theorem Rep.down {F:Nat→Prop} {w:World}:∀ {n m:Nat} {t:T R} {v:Value},m≤n→Rep P E n t F w v→Rep P E m t F w v
  | _,_,.cut,_,_,h=>by unfold Rep at h; exact h.elim
  | _,_,.done _,_,_,h=>by unfold Rep at h ⊢; exact h
  | 0,m,.act ..,_,hm,h=>by
    obtain rfl:m=0:=by omega
    exact h
  | n+1,0,.act ..,_,_,h=>by
    unfold Rep at h ⊢
    obtain ⟨f,first,cap,hc,hv,_⟩:=h;exact ⟨f,first,cap,hc,hv⟩
  | n+1,m+1,.act op at_ a b k,v,hm,h=>by
    unfold Rep at h ⊢
    obtain ⟨f,first,cap,hc,hv,h⟩:=h;refine ⟨f,first,cap,hc,hv,fun x w'' hs' hz=>?_⟩
    refine (h x w'' hs' hz).mono ?_;rintro e w3 ⟨v',he,hb,hr⟩;exact ⟨v',he,hb,Rep.down (by omega) hr⟩
theorem Rep.shape {F:Nat→Prop} {w:World}:∀ {n:Nat} {t:T R} {v:Value},Rep P E n t F w v→Shape E v
  | _,.cut,_,h=>by unfold Rep at h; exact h.elim
  | _,.done r,_,h=>by
    unfold Rep at h; subst h
    exact ⟨_,rfl,by simp [progCells,E.len],by simp [progCells,plainCell,E.plain r]⟩
  | 0,.act ..,_,h=>by
    unfold Rep at h; obtain ⟨_,_,_,_,rfl⟩:=h
    exact ⟨_,rfl,by simp [progCells,E.zlen],by simp [progCells,plainCell,E.zplain]⟩
  | m+1,.act ..,_,h=>by
    unfold Rep at h; obtain ⟨_,_,_,_,rfl,_⟩:=h
    exact ⟨_,rfl,by simp [progCells,E.zlen],by simp [progCells,plainCell,E.zplain]⟩
theorem Rep.act_of {n:Nat} {F:Nat→Prop} {w:World} {op at_ a b:Int} {k:Int→T R} {fv:Value} (h:FnT P E u64 n F w fv k) :
    Rep P E n (.act op at_ a b k) F w (.agg (progCells false E.zero op at_ a b fv)):=by
  obtain ⟨f,first,cap,hc,rfl,h⟩:=h;cases n with
  | zero=>unfold Rep; exact ⟨f,first,cap,hc,rfl⟩
  | succ m=>unfold Rep; exact ⟨f,first,cap,hc,rfl,fun x w' h1 h2=>h m (Nat.lt_succ_self _) x w' h1 h2⟩
theorem Rep.done_of {n:Nat} {F:Nat→Prop} {w:World} {r:R}:Rep P E n (.done r) F w (.agg (progCells true (E.cells r) 0 0 0 0 .nilFunc)):=by unfold Rep; rfl
theorem FnAt.mono {α:Type} {enc:α→List Value} {m:Nat} {F F':Nat→Prop} {w w':World} {f:FuncId} {first cap:List Value} {g:α→T R} (h:FnAt P E enc m F w f first cap g)
    (hs:∀ b,F b→F' b) (h1:Same F w w') (h2:w.heap.size≤w'.heap.size):FnAt P E enc m F' w' f first cap g:=fun x w'' hs' hz=>by
  refine (h x w'' (h1.trans (hs'.sub hs)) (by omega)).mono ?_;rintro e w3 ⟨v',he,hb,hr⟩;exact ⟨v',he,hb,Rep.mono (fun b hb=>hb.imp (hs b) id) (Same.refl _ _) (Nat.le_refl _) m _ _ hr⟩
theorem FnT.mono {α:Type} {enc:α→List Value} {n n':Nat} {F F':Nat→Prop} {w w':World} {fv:Value} {g:α→T R} (h:FnT P E enc n F w fv g) (hn:n'≤n)
    (hs:∀ b,F b→F' b) (h1:Same F w w') (h2:w.heap.size≤w'.heap.size):FnT P E enc n' F' w' fv g:=by
  obtain ⟨f,first,cap,hc,hv,h⟩:=h;exact ⟨f,first,cap,hc,hv,fun m hm=>(h m (by omega)).mono hs h1 h2⟩
theorem Rep.act_inv {n:Nat} {F:Nat→Prop} {w:World} {op at_ a b:Int} {k:Int→T R} {v:Value} (h:Rep P E n (.act op at_ a b k) F w v) :
    ∃ (f:FuncId) (first cap:List Value),callable P f=true∧v=.agg (progCells false E.zero op at_ a b (.func (.func f) first.toArray cap.toArray))∧FnT P E u64 n F w (.func (.func f) first.toArray cap.toArray) k:=by
  cases n with
  | zero=>
    unfold Rep at h
    obtain ⟨f,first,cap,hc,hv⟩:=h;exact ⟨f,first,cap,hc,hv,f,first,cap,hc,rfl,fun m hm=>absurd hm (Nat.not_lt_zero m)⟩
  | succ q=>
    have h':=h;unfold Rep at h
    obtain ⟨f,first,cap,hc,hv,hk⟩:=h;refine ⟨f,first,cap,hc,hv,f,first,cap,hc,rfl,fun m hm x w' h1 h2=>?_⟩
    refine (hk x w' h1 h2).mono ?_;rintro e w'' ⟨v',he,hb,hr⟩;exact ⟨v',he,hb,Rep.down (by omega) hr⟩
theorem FnT.at_ {α:Type} {enc:α→List Value} {n:Nat} {F:Nat→Prop} {w:World} {f:FuncId} {first cap:List Value} {g:α→T R} (h:FnT P E enc n F w (.func (.func f) first.toArray cap.toArray) g) :
    callable P f=true∧∀ m,m<n→FnAt P E enc m F w f first cap g:=by
  obtain ⟨f',first',cap',hc,he,hf⟩:=h;simp only [Value.func.injEq,Fn.func.injEq] at he
  obtain ⟨e1,e2,e3⟩:=he;have e2':first=first':=by simpa using congrArg Array.toList e2
  have e3':cap=cap':=by simpa using congrArg Array.toList e3
  subst e1; subst e2'; subst e3';exact ⟨hc,hf⟩
theorem RepRes.fin {n:Nat} {t:T R} {F F1:Nat→Prop} {w0 w1 w2 w3:World} {r:Nat} {o:Obj} {v:Value} (hB:Below w0.heap.size w0 w3) (hr:Rep P E n t (grow F1 w1 w2) w2 v)
    (hu:Upd w2 w3 r o) (hF:∀ b,F1 b→F b∨(w0.heap.size≤b∧b<w1.heap.size)) (hFr:¬ F1 r) (hr1:r<w1.heap.size) (h01:w0.heap.size≤w1.heap.size) (h12:w1.heap.size≤w2.heap.size) :
    RepRes P E n t F w0 (.returned v) w3:=by
  refine ⟨v,rfl,hB,Rep.mono ?_ ?_ (by rw [hu.size]; exact Nat.le_refl _) n t v hr⟩
  · rintro b (hb | ⟨hb1,hb2⟩)
    · rcases hF b hb with h | ⟨h1,h2⟩
      · exact .inl h
      · exact .inr ⟨h1,by rw [hu.size]; omega⟩
    · exact .inr ⟨by omega,by rw [hu.size]; omega⟩
  · rintro b (hb | ⟨hb1,hb2⟩)
    · exact hu.other b (fun e=>hFr (e ▸ hb))
    · exact hu.other b (by omega)
def RepAt {R:Type} (P:Program) (E:Enc R) (n:Nat) (t:T R) (F:Nat→Prop) (B r:Nat) (v:Value) (w:World):Prop:=
  (∀ b,F b→b<w.heap.size)∧r<w.heap.size∧B≤w.heap.size∧Rep P E n t (fun b=>F b∨(B≤b∧b<w.heap.size∧b≠r)) w v
theorem RepAt.stable {n:Nat} {t:T R} {F:Nat→Prop} {B r:Nat}:∀ v w1 w2,RepAt P E n t F B r v w1→Below w1.heap.size w1 w2→RepAt P E n t F B r v w2:=by
  rintro v w1 w2 ⟨h1,h2,h3,h4⟩ hb;have hz:=hb.size;refine ⟨fun b h=>Nat.lt_of_lt_of_le (h1 b h) hz,by omega,by omega,Rep.mono ?_ (Same.below hb ?_) hz n _ _ h4⟩
  · rintro b (h | ⟨h,h',h''⟩)
    · exact .inl h
    · exact .inr ⟨h,by omega,h''⟩
  · rintro b (h | ⟨h,h',h''⟩)
    · exact h1 b h
    · exact h'
theorem RepAt.of_res {n:Nat} {t:T R} {F:Nat→Prop} {B r:Nat} {w1 w2:World} {v:Value} (hF:∀ b,F b→b<w1.heap.size) (hr:r<w1.heap.size) (hB:B≤w1.heap.size) (hb:Below w1.heap.size w1 w2)
    (h:Rep P E n t (grow (fun b=>F b∨(B≤b∧b<w1.heap.size∧b≠r)) w1 w2) w2 v):RepAt P E n t F B r v w2:=by
  have hz:=hb.size;refine ⟨fun b h=>Nat.lt_of_lt_of_le (hF b h) hz,by omega,by omega,Rep.mono ?_ (Same.refl _ _) (Nat.le_refl _) n _ _ h⟩
  rintro b ((h | ⟨h,h',h''⟩) | ⟨h,h'⟩)
  · exact .inl h
  · exact .inr ⟨h,by omega,h''⟩
  · exact .inr ⟨by omega,h',by omega⟩
theorem over_full:∀ (l:List Value) (pre post:List Value),post.length=l.length→over (pre++post).toArray pre.length l=(pre++l).toArray
  | [],pre,post,h=>by
    have:post=[]:=List.eq_nil_of_length_eq_zero (by simpa using h)
    subst this; rfl
  | v::l,pre,[],h=>by simp at h
  | v::l,pre,p::post,h=>by
    have ih:=over_full l (pre++[v]) post (by simpa using h)
    simp only [over]
    have e:(pre++p::post).toArray.setIfInBounds pre.length v=(pre++[v]++post).toArray:=by
      simp
    rw [e]
    simpa using ih
theorem over_all {c c':Array Value} (h:c.size=c'.size):over c 0 c'.toList=c':=by
  have:=over_full c'.toList [] c.toList (by simpa using h)
  simpa using this
theorem y_storep {a:Act} {w:World} {d:Option Tmp} {ty:TypeId} {pos:String} {aft:Array Edge} {N:Nat} {s:SL} (hfr:Fr a N s) {x y:Operand} {b:Nat} {t Et:TypeId} {c:Array Value} {v:Value}
    {Q:Value→World→Prop} (hv:Shape E v) (hx:lookO s x=.pointer (some ⟨b,0,none⟩)) (hy:lookO s y=v) (h:w.heap[b]?=some (.cells c Et (0,0))) (ht:sized P t (E.n+6)=true) (hn:c.size=E.n+6)
    (hr:∀ w',Upd w w' b (.cells v.cells Et (0,0))→Q undef w'):Yields P ⟨d,.store t x y,ty,pos,aft,none⟩ a w Q:=by
  obtain ⟨c',rfl,h1,h2⟩:=hv;exact y_store hfr hx hy h (by simpa [Value.cells,h1] using ht) (by simp [Value.cells,h1,hn]) h2 (over_all (by simp [Value.cells,h1,hn])) hr
theorem Shape.cells {v:Value} (h:Shape E v):v.cells.size=E.n+6∧v.cells.toList.all plainCell=true∧v=.agg v.cells:=by
  obtain ⟨c,rfl,h1,h2⟩:=h;exact ⟨h1,h2,rfl⟩
end
section
variable {P : Program} {a : Act} {w : World} {d : Option Tmp} {ty : TypeId} {pos : String} {aft : Array Edge}
variable {ops : Array Oper} {Q : Exit → Act → World → Prop} {rest : List Oper} {N : Nat} {s : SL}
theorem kP {R:Type} {E:Enc R} (hfr:Fr a N s) {x y:Operand} {b:Nat} {t Et:TypeId} {c:Array Value} {v:Value} (hv:Shape E v) (hx:lookO s x=.pointer (some ⟨b,0,none⟩)) (hy:lookO s y=v) (h:w.heap[b]?=some (.cells c Et (0,0)))
    (ht:sized P t (E.n+6)=true) (hn:c.size=E.n+6) (hg:dstIn N d=true) (hk:∀ {a} w',Upd w w' b (.cells v.cells Et (0,0))→Fr a N (putS s d undef)→wpList P ops Q rest a w'):wpList P ops Q (⟨d,.store t x y,ty,pos,aft,none⟩::rest) a w:=
  seq_upd _ hfr (fun R=>y_storep hfr hv hx hy h ht hn) hg fun a w' h r=>hk w' h r
theorem kD {R:Type} {E:Enc R} {m:Nat} {t:T R} {F:Nat→Prop} {f:FuncId} {xs:List Operand} {ts:Array TypeId} {args:List Value} (hfr:Fr a N s) (hc:Calls P f args.toArray w (RepRes P E m t F w)) (hx:xs.map (lookO s)=args)
    (hf:callable P f=true) (hg:dstIn N d=true) (hk:∀ {a} w' v,Below w.heap.size w w'→Rep P E m t (grow F w w') w' v→Fr a N (putS s d v)→wpList P ops Q rest a w'):wpList P ops Q (⟨d,.call ⟨.value (.func f),xs.toArray,ts⟩,ty,pos,aft,none⟩::rest) a w:=
  kC hfr hc hx hf hg (by rintro _ w' ⟨v,rfl,hb,hr⟩; exact ⟨_,rfl,fun a r=>hk w' v hb hr r⟩)
theorem kE {v:Value} {f:FuncId} {xs:List Operand} {ts:Array TypeId} {args:List Value} (hfr:Fr a N s) (hc:Calls P f args.toArray w (PureRes v w)) (hx:xs.map (lookO s)=args)
    (hf:callable P f=true) (hg:dstIn N d=true) (hk:∀ {a} w',Below w.heap.size w w'→Fr a N (putS s d v)→wpList P ops Q rest a w'):wpList P ops Q (⟨d,.call ⟨.value (.func f),xs.toArray,ts⟩,ty,pos,aft,none⟩::rest) a w:=
  kC hfr hc hx hf hg (by rintro _ w' ⟨rfl,hb⟩; exact ⟨_,rfl,fun a r=>hk w' hb r⟩)
end
abbrev kS:Value:=.slice none 0 0
abbrev kH (F:Nat→Prop) (w:World):Prop:=∀ b,F b→b<w.heap.size
abbrev kW (F:Nat→Prop) (w0 w1:World) (r:Nat):Nat→Prop:=fun b=>F b∨(w0.heap.size≤b∧b<w1.heap.size∧b≠r)
abbrev W (x:Int):Int:=IntKind.i64.wrap x
abbrev V (x:Int):Int:=IntKind.u64.wrap x
abbrev I (x:Int):Value:=.int .i64 x
abbrev zp (b:Nat):Value:=.pointer (some ⟨b,0,none⟩)
abbrev U (x:Int):Value:=.int .u64 x
theorem bz {w:World} {α:Type} {v:α}:Below w.heap.size w w∧v=v:=⟨Below.refl _ _,rfl⟩
section
variable {P : Program} {Q : Exit → Act → World → Prop} {a : Act} {w : World}
theorem wn {ops:Array Oper} (h:Q .normal a w):wpList P ops Q [] a w:=h
theorem wsr {id:Nat} {l:List Oper} {y:Code} (h:wpList P l.toArray (Exit.then (y.wp P Q) Q) l a w):(Code.seq (Code.region id l.toArray false) y).wp P Q a w:=wp_seq (wp_region_lit h)
end
section
variable {P : Program} {ops : Array Oper} {rest : List Oper} {Q : Exit → Act → World → Prop} {a : Act} {w : World} {N : Nat} {s : SL}
theorem s0 {o:Oper} {j d:Nat} {want x y:Bool} (hfr:Fr a N s) (e:x=y) (hk:∀ a,Fr a N (putS s o.dst undef)→wpList P ops Q rest a w) (hg:o.guard=some (j,want):=by rfl) (hj:(ops[j]?).bind (·.dst)=some d:=by rfl) (hd:(Nat.ble (d+1) N&&dstIn N o.dst)=true:=by rfl) (hv:look s d=.bool x:=by rfl)
    (hn:(y==want)=false:=by rfl):wpList P ops Q (o::rest) a w:=seq_skip hfr hg hj hd (v:=.bool y) (hv.trans (congrArg Value.bool e)) (by
  intro h;have h2:y=want:=Option.some.inj h;rw [h2] at hn
  simp at hn) hk
theorem s1 {o:Oper} {j d:Nat} {want x:Bool} (hfr:Fr a N s) (e:x=want) (hk:wpList P ops Q ({ o with guard:=none }::rest) a w) (hg:o.guard=some (j,want):=by rfl) (hj:(ops[j]?).bind (·.dst)=some d:=by rfl) (hd:Nat.ble (d+1) N=true:=by rfl) (hv:look s d=.bool x:=by rfl):wpList P ops Q (o::rest) a w:=
  seq_want hfr hg hj hd (hv.trans (congrArg Value.bool e)) hk
end
theorem ec {P:Program} {ops:Array Oper} {Φ:Nat→Value→World→Prop} {Ψ:Nat→World→Value→World→Prop} {full:List Oper} {a:Act} {w:World} {o:Oper} {l:List Oper} {i N:Nat} {s:SL} (r:Fr a N s)
    (h:∀ a' u w',Below w.heap.size w w'→Deps Φ u w' o.after.toList→Fr a' N (putsS full u 0 s)→Yields P o a' w' fun v w''=>Below w'.heap.size w' w''∧Ψ i w' v w'') (h2:Each P ops Φ Ψ full a w l (i+1)) (hd:(o.guard.isNone&&dstsIn N full)=true:=by rfl):Each P ops Φ Ψ full a w (o::l) i:=each_consF r hd h h2
section
variable {P : Program} {L : List Oper} {a : Act} {w : World} {N : Nat} {s : SL}
theorem fc {fs:Nat→Fact w.heap.size (fun _=>False)} {o:Oper} {l:List Oper} {i:Nat} (r:Fr a N s)
    (h:∀ a' g w',Below w.heap.size w w'→(∀ j,awaits o j=true→(fs j).ok g j w'∧w.heap.size≤(g j).lo∧(g j).hi≤w'.heap.size∧∀ q,awaits o q=true→q≠j→(g j).hi≤(g q).lo∨(g q).hi≤(g j).lo)→Fr a' N (putsS L (fun j=>(g j).v) 0 s)→
      Yields P o a' w' fun v w''=>(fs i).mk g v w' w'') (h2:EachF P L fs a w l (i+1)) (hd:(o.guard.isNone&&dstsIn N L)=true:=by rfl):EachF P L fs a w (o::l) i:=eachF_cons r hd h h2
end
theorem New.all {w0 w w':World} {b:Nat} {o:Obj} (n:New w w' b o) (hB:Below w0.heap.size w0 w):b=w.heap.size∧w'.heap.size=b+1∧w'.heap[b]?=some o∧Below w0.heap.size w0 w'∧w0.heap.size≤w'.heap.size:=
  have h:=hB.trans (n.below.mono hB.size)
  ⟨n.eq,n.size,n.at_,h,h.size⟩
theorem bon {w0 w w':World} (hb:Below w.heap.size w w') (hB:Below w0.heap.size w0 w):Below w0.heap.size w0 w'∧w0.heap.size≤w'.heap.size:=
  have h:=hB.trans (hb.mono hB.size)
  ⟨h,h.size⟩
theorem Upd.on {w0 w w':World} {b:Nat} {o:Obj} (u:Upd w w' b o) (hB:Below w0.heap.size w0 w) (h:w0.heap.size≤b):Below w0.heap.size w0 w'∧w0.heap.size≤w'.heap.size:=
  have h:=u.below hB h
  ⟨h,h.size⟩
theorem keep2 {w0 w w':World} {d b:Nat} {o:Obj} (hB:Below w0.heap.size w0 w) (hb:Below w.heap.size { w with drawn:=d } w') (h:w0.heap[b]?=some o):w'.heap[b]?=some o:=Eq.trans (show w'.heap[b]?=w.heap[b]? from hb.block b (Nat.lt_of_lt_of_le (lt_of_block h) hB.size)) (keep hB h)
theorem fgrow {F:Nat→Prop} {w0 w:World} (hF:∀ b,F b→b<w0.heap.size) (hB:Below w0.heap.size w0 w) (r:Nat):∀ b,(fun b=>F b∨(w0.heap.size≤b∧b<w.heap.size∧b≠r)) b→b<w.heap.size:=by
  rintro b (h | h)
  · exact Nat.lt_of_lt_of_le (hF b h) hB.size
  · exact h.2.1
theorem rfin {R:Type} {P:Program} {E:Enc R} {n:Nat} {t:T R} {F:Nat→Prop} {w0 w1 w2 w3:World} {r:Nat} {o:Obj} {v:Value} (hF:∀ b,F b→b<w0.heap.size) (hB:Below w0.heap.size w0 w3) (hr:Rep P E n t (grow (fun b=>F b∨(w0.heap.size≤b∧b<w1.heap.size∧b≠r)) w1 w2) w2 v)
    (hu:Upd w2 w3 r o) (hr1:r<w1.heap.size) (h01:w0.heap.size≤r) (h12:w1.heap.size≤w2.heap.size):RepRes P E n t F w0 (.returned v) w3:=
  RepRes.fin hB hr hu (by rintro b (h | ⟨h1,h2,_⟩); exact .inl h; exact .inr ⟨h1,h2⟩) (by rintro (h | ⟨_,_,h⟩); (have:=hF _ h; omega); exact h rfl) hr1 (by omega) h12
theorem kR {R:Type} {P:Program} {E:Enc R} {n:Nat} {t:T R} {F:Nat→Prop} {w0 w1 w2 w3:World} {v:Value} {fn:Func} {a:Act} {N:Nat} {s:SL} {tt:Tmp} {ty Et:TypeId} {b k:Nat} {fz:Nat × Nat} {o:Obj} (r:Fr a N s)
    (hr:Rep P E n t (grow (fun b'=>F b'∨(w0.heap.size≤b'∧b'<w1.heap.size∧b'≠b)) w1 w2) w2 v) (hf:fn.results=#[.cell tt ty]) (hv:look s tt=.pointer (some ⟨b,0,none⟩)) (hb:w3.heap[b]?=some (.cells v.cells Et fz)) (hk:E.n+6=k)
    (ht:tyA P ty k=true) (hF:∀ b,F b→b<w0.heap.size) (hB:Below w0.heap.size w0 w3) (hu:Upd w2 w3 b o) (h1:b<w1.heap.size) (h2:w0.heap.size≤b) (h3:w1.heap.size≤w2.heap.size):bodyPost P fn (RepRes P E n t F w0) .ret a w3:=by
  have hs:=hr.shape.cells;refine ret_cell r hf hv hb (k:=k) (hs.1.trans hk) ht ?_;rw [←hs.2.2];exact rfin hF hB hr hu h1 h2 h3
abbrev kq {R:Type} (E:Enc R):=progCells false E.zero 0 0 0 0 .nilFunc
structure Plan where
  nodes:Int
  threads:Int
  retire:Int
  domains:Int
  buckets:Int
  gen:Int
  deriving DecidableEq
def planC (x:Plan):List Value:=[(.int .i64 x.nodes),(.int .i64 x.threads),(.int .i64 x.retire),(.int .i64 x.domains),(.int .i64 x.buckets),(.int .i64 x.gen)]
structure Bound where
  n:Int
  least:Int
  most:Int
  deriving DecidableEq
def boundC (x:Bound):List Value:=[(.int .i64 x.n),(.int .i64 x.least),(.int .i64 x.most)]
def boundsC (l:List Bound):List Value:=l.flatMap boundC
structure Access where
  op:Int
  at_:Int
  a:Int
  b:Int
  deriving DecidableEq
def accessC (x:Access):List Value:=[(.int .i64 x.op),(.int .i64 x.at_),(.int .u64 x.a),(.int .u64 x.b)]
structure Cap where
  region:Int
  epoch:Int
  deriving DecidableEq
def capC (x:Cap):List Value:=[(.int .i64 x.region),(.int .u64 x.epoch)]
structure Field where
  at_:Int
  bits:Int
  deriving DecidableEq
def fieldC (x:Field):List Value:=[(.int .i64 x.at_),(.int .i64 x.bits)]
structure State where
  gen:Int
  mode:Int
  kind:Int
  deriving DecidableEq
def stateC (x:State):List Value:=[(.int .i64 x.gen),(.int .i64 x.mode),(.int .i64 x.kind)]
structure Handle where
  index:Int
  gen:Int
  tenant:Int
  deriving DecidableEq
structure Grant where
  node:Int
  gen:Int
  e:Int
  deriving DecidableEq
def grantC (x:Grant):List Value:=[(.int .i64 x.node),(.int .i64 x.gen),(.int .i64 x.e)]
def encGrant:Enc Grant:=⟨3,grantC,grantC (⟨0,0,0⟩:Grant),fun _=>rfl,rfl,fun _=>rfl,rfl⟩
def argGrant (x:Grant):List Value:=[.agg (grantC x).toArray]
structure Res where
  e:Int
  v:Int
  deriving DecidableEq
def resC (x:Res):List Value:=[(.int .i64 x.e),(.int .u64 x.v)]
def encRes:Enc Res:=⟨2,resC,resC (⟨0,0⟩:Res),fun _=>rfl,rfl,fun _=>rfl,rfl⟩
structure OpR where
  code:Int
  d:Int
  f:Int
  h:Int
  a:Int
  b:Int
  deriving DecidableEq
structure Scan where
  at_:Int
  left:Int
  done:Int
  deriving DecidableEq
def scanC (x:Scan):List Value:=[(.int .i64 x.at_),(.int .i64 x.left),(.int .i64 x.done)]
structure Seat where
  p:Plan
  tenant:Int
  thread:Int
  deriving DecidableEq
def seatC (x:Seat):List Value:=(planC x.p)++[(.int .i64 x.tenant)]++[(.int .i64 x.thread)]
structure Where where
  seat:Seat
  head:Int
  tail:Int
  deriving DecidableEq
structure Walk where
  seat:Seat
  cell:Int
  k:Int
  place:Int
  cur:Int
  next:Int
  there:Bool
  deriving DecidableEq
def walkC (x:Walk):List Value:=(seatC x.seat)++[(.int .i64 x.cell)]++[(.int .u64 x.k)]++[(.int .i64 x.place)]++[(.int .u64 x.cur)]++[(.int .u64 x.next)]++[(.bool x.there)]
def encWalk:Enc Walk:=⟨14,walkC,walkC (⟨(⟨(⟨0,0,0,0,0,0⟩:Plan),0,0⟩:Seat),0,0,0,0,0,false⟩:Walk),fun _=>rfl,rfl,fun _=>rfl,rfl⟩
def argWalk (x:Walk):List Value:=[.agg (walkC x).toArray]
def maxI (m n:Int):Int:=if n > m then n else m
def minI (m n:Int):Int:=if n<m then n else m
def shrI (k:IntKind) (x y:Int):Int:=x.fdiv (2 ^ (min y.toNat k.bits))
def shlI (k:IntKind) (x y:Int):Int:=k.wrap (x * 2 ^ (min y.toNat k.bits))
def bits_and (k:IntKind) (x y:Int):Int:=k.wrap ((BitVec.ofInt k.bits x &&& BitVec.ofInt k.bits y).toNat)
def bits_or (k:IntKind) (x y:Int):Int:=k.wrap ((BitVec.ofInt k.bits x ||| BitVec.ofInt k.bits y).toNat)
def bits_andNot (k:IntKind) (x y:Int):Int:=k.wrap ((BitVec.ofInt k.bits x &&& ~~~(BitVec.ofInt k.bits y)).toNat)
theorem bin_shl {P:Program} {k k':IntKind} {t:TypeId} {x y:Int} {w:World} (hy:0≤y):(binOp .shl t (.int k x) (.int k' y)).run P w=.ok (.int k (shlI k x y)) w:=by
  have h:¬ y<0:=by omega
  simp only [binOp,Op.shift,if_neg h]
  rfl
theorem bin_shr {P:Program} {k k':IntKind} {t:TypeId} {x y:Int} {w:World} (hy:0≤y):(binOp .shr t (.int k x) (.int k' y)).run P w=.ok (.int k (shrI k x y)) w:=by
  have h:¬ y<0:=by omega
  simp only [binOp,Op.shift,if_neg h]
  rfl
theorem bin_rem {P:Program} {k:IntKind} {t:TypeId} {x y:Int} {w:World} (hy:y≠0):(binOp .rem t (.int k x) (.int k y)).run P w=.ok (.int k (x.tmod y)) w:=by
  simp [binOp,Op.intDiv,hy]
def arrTy (P:Program) (t:TypeId) (n k:Nat):Bool:=match P.underlying t with | some (.array m e)=>m==n&&sized P e k&&!(n==0) | _=>false
theorem y_arr {P:Program} {w:World} {a:Act} {d:Option Tmp} {ty:TypeId} {pos:String} {aft:Array Edge} {N:Nat} {s:SL} {x:Operand} {t:TypeId} {b n k:Nat} {R:Value→World→Prop} (hfr:Fr a N s) (ht:arrTy P t n k=true)
    (hx:lookO s x=.pointer (some ⟨b,0,none⟩)) (hR:R (.slice (some ⟨b,0,none⟩) n n) w):Yields P ⟨d,.slice t x none none none,ty,pos,aft,none⟩ a w R:=by
  refine .of_run (v:=.slice (some ⟨b,0,none⟩) n n) (w':=w) ?_ hR;unfold arrTy at ht
  cases h2:P.underlying t with
  | none=>rw [h2] at ht; cases ht
  | some d1=>
    rw [h2] at ht
    cases d1 with
    | array m e=>
      simp only [Bool.and_eq_true,beq_iff_eq,Bool.not_eq_true',beq_eq_false_iff_ne] at ht
      obtain ⟨⟨rfl,ht⟩,_⟩:=ht;have hs:(sizeOf e).run P w=.ok k w:=run_size ht;simp [execOp,hfr.ev hx,Instr.sliceAt,Instr.sureAddr,Instr.sliceBounds,run_underlying h2,hs,Addr.add]
    | _=>cases ht
theorem RoAt.ofCell {α:Type} {T E:TypeId} {sz:Nat} {f:α→List Value} {b n:Nat} {xs:List α} {w:World} {c:Array Value} (h:w.heap[b]?=.some (.cells c E (0,0))) (hn:xs.length=n) (hne:xs≠[]) (hc:c.toList.take (n * sz)=xs.flatMap f) :
    RoAt T sz f (.slice (.some ⟨b,0,none⟩) n n) xs w:=by
  subst hn;exact .inr ⟨b,0,xs.length,c,E,(0,0),rfl,hne,h,by rw [List.drop_zero]; exact hc,Nat.le_refl _⟩
structure CallD where
  kind:Int
  k:Int
  v:Int
  deriving DecidableEq
structure Pick where
  o:OpR
  of_:Int
  bit:Int
  deriving DecidableEq
structure CallL where
  kind:Int
  k:Int
  v:Int
  deriving DecidableEq
structure Arr3F where
  f0:Field
  f1:Field
  f2:Field
  deriving DecidableEq
def arr3FC (x:Arr3F):List Value:=(fieldC x.f0)++(fieldC x.f1)++(fieldC x.f2)
structure Entry where
  key:Int
  value:Int
  deriving DecidableEq
def entryC (x:Entry):List Value:=[(.int .u64 x.key),(.int .u64 x.value)]
structure Mem where
  ws:List Int
  cnt:Int
structure MG where
  mb:Nat
  lb:Nat
  rb:Nat
  wb:Nat
  cap:Nat
def MG.bs (g:MG):List Nat:=[g.mb,g.lb,g.rb,g.wb]
structure MemAt (g:MG) (M:Mem) (w:World):Prop where
  hdr:w.heap[g.mb]?=some (.cells #[.slice (some ⟨g.lb,0,none⟩) 1 g.cap,.int .i64 M.cnt] 145 (0,0))
  lst:∃ cur,w.heap[g.lb]?=some (.cells cur 139 (0,0))∧cur[0]?=some (.pointer (some ⟨g.rb,0,none⟩))
  reg:w.heap[g.rb]?=some (.cells #[.slice (some ⟨g.wb,0,none⟩) M.ws.length M.ws.length,.int .u64 1] 142 (0,0))
  wds:w.heap[g.wb]?=some (.cells (M.ws.flatMap u64).toArray 34 (0,0))
  apart:g.mb≠g.lb∧g.mb≠g.rb∧g.mb≠g.wb∧g.lb≠g.rb∧g.lb≠g.wb∧g.rb≠g.wb
section
variable {g : MG} {M : Mem} {w w' w0 : World} {L : List Ck} {Z : Nat → Prop} {i : Nat}
theorem MemAt.st (h:∀ b,b∈g.bs→w'.heap[b]?=w.heap[b]?) (hm:MemAt g M w):MemAt g M w':=by
  obtain ⟨h1,⟨cur,h2,h2'⟩,h3,h4,h5⟩:=hm;exact ⟨(h _ (by simp [MG.bs])).trans h1,⟨cur,(h _ (by simp [MG.bs])).trans h2,h2'⟩,(h _ (by simp [MG.bs])).trans h3,(h _ (by simp [MG.bs])).trans h4,h5⟩
theorem MemAt.lt (hm:MemAt g M w):∀ b,b∈g.bs→b<w.heap.size:=by
  obtain ⟨h1,⟨cur,h2,h2'⟩,h3,h4,h5⟩:=hm;intro b hb;simp only [MG.bs,List.mem_cons,List.not_mem_nil,or_false] at hb
  rcases hb with rfl | rfl | rfl | rfl
  · exact lt_of_block h1
  · exact lt_of_block h2
  · exact lt_of_block h3
  · exact lt_of_block h4
def memK (g:MG) (M:Mem):Ck:=⟨g.bs,[],MemAt g M,fun _ _ h _ hm=>hm.st fun b hb=>h b (.inl hb)⟩
def memR (g:MG) (M:Mem):Ck:=⟨[],g.bs,MemAt g M,fun _ _ h _ hm=>hm.st fun b hb=>h b (.inr hb)⟩
theorem Post.mem (h:Post Z L w0 w) (hi:L[i]?=some (memK g M)):MemAt g M w:=h.sep.get hi
theorem Post.memr (h:Post Z L w0 w) (hi:L[i]?=some (memR g M)):MemAt g M w:=h.sep.get hi
theorem sep_mem (hm:MemAt g M w):Sep [memK g M] w:=
  ⟨hm,(fun b hb=>by rcases hb with hb | hb; (exact hm.lt b hb); (cases hb)),(fun _ h=>by cases h),trivial⟩
theorem Post.memUpd {M':Mem} {b:Nat} {o:Obj} (h:Post Z L w0 w) (hi:L[i]?=some (memK g M)) (hb:b∈g.bs) (hu:Upd w w' b o) (hm:MemAt g M' w'):Post Z (L.set i (memK g M')) w0 w':=by
  have:=h.set (N:=[]) hi (c':=memK g M') ⟨⟨sep_mem hm,⟨hu.os,hu.tape,hu.output,Nat.le_of_eq hu.size.symm,fun k _ hk=>hu.other k fun e=>hk (e ▸ hb)⟩,fun c hc b' hb'=>by rcases List.mem_singleton.1 hc with rfl; exact .inl hb'⟩,fun c hc b' hb'=>by rcases List.mem_singleton.1 hc with rfl; cases hb'⟩
  rwa [List.append_nil] at this
theorem MemAt.setCnt {c:Int} (hm:MemAt g M w) (hu:Upd w w' g.mb (.cells #[.slice (some ⟨g.lb,0,none⟩) 1 g.cap,.int .i64 c] 145 (0,0))):MemAt g { M with cnt:=c } w':=by
  obtain ⟨h1,⟨cur,h2,h2'⟩,h3,h4,h5⟩:=hm;obtain ⟨e1,e2,e3,_⟩:=id h5;exact ⟨hu.at_,⟨cur,(hu.other _ (Ne.symm e1)).trans h2,h2'⟩,(hu.other _ (Ne.symm e2)).trans h3,(hu.other _ (Ne.symm e3)).trans h4,h5⟩
theorem MemAt.setWord {ws:List Int} (hm:MemAt g M w) (hl:ws.length=M.ws.length) (hu:Upd w w' g.wb (.cells (ws.flatMap u64).toArray 34 (0,0))):MemAt g { M with ws:=ws } w':=by
  obtain ⟨h1,⟨cur,h2,h2'⟩,h3,h4,h5⟩:=hm;obtain ⟨_,_,e1,_,e2,e3⟩:=id h5;refine ⟨(hu.other _ e1).trans h1,⟨cur,(hu.other _ e2).trans h2,h2'⟩,?_,hu.at_,h5⟩;show w'.heap[g.rb]?=some (.cells #[.slice (some ⟨g.wb,0,none⟩) ws.length ws.length,.int .u64 1] 142 (0,0))
  rw [hl]
  exact (hu.other _ e3).trans h3
theorem flat_u64:∀ (l:List Int),l.flatMap u64=l.map (.int .u64)
  | []=>rfl
  | x::l=>by simp [List.flatMap_cons,u64,flat_u64 l]
theorem over_words {ws:List Int} {k:Nat} {v:Int}:over (ws.flatMap u64).toArray k [.int .u64 v]=((ws.set k v).flatMap u64).toArray:=by
  simp only [over,flat_u64,List.setIfInBounds_toArray,List.map_set]
theorem over_words1 {ws:List Int} {k:Nat} {v:Int}:over (ws.flatMap u64).toArray (0+k * 1) (Value.int .u64 v).cells.toList=((ws.set k v).flatMap u64).toArray:=by
  rw [show 0+k * 1=k from by omega]
  exact over_words
theorem word_lt {ws:List Int} {y x:Int} {v:Int} (h:getI ws y=some x):0+y.toNat * 1+(Value.int .u64 v).cells.size≤(ws.flatMap u64).toArray.size:=by
  obtain ⟨h0,h1,h2,_⟩:=getI_lt h;rw [flat_u64];simp only [List.size_toArray,List.length_map];show 0+y.toNat * 1+1≤_
  omega
def zeroI (x:Int):Option Unit:=if x=0 then some () else none
theorem zeroI_eq {x:Int} {u:Unit} (h:zeroI x=some u):x=0:=by
  unfold zeroI at h
  split at h
  · assumption
  · cases h
def Mem.put (M:Mem) (at_ v:Int):Mem:={ M with ws:=M.ws.set at_.toNat v }
section
variable {P : Program} {a : Act} {d : Option Tmp} {ty : TypeId} {pos : String} {aft : Array Edge} {N : Nat} {s : SL} (hfr : Fr a N s)
include hfr
theorem y_nilCheck {x:Operand} {ad:Addr} {R:Value→World→Prop} (hx:lookO s x=.pointer (some ad)) (h:R (.pointer (some ad)) w):Yields P ⟨d,.nilCheck x,ty,pos,aft,none⟩ a w R:=by
  refine .of_run (v:=.pointer (some ad)) (w':=w) ?_ h;simp only [execOp,hfr.ev hx]
  rfl
theorem y_regLoad {x:Operand} {t:TypeId} {y:Int} {R:Value→World→Prop} (hm:MemAt g M w) (hx:lookO s x=.pointer (some ⟨g.lb,0+y.toNat * 1,none⟩)) (hy:y=0) (ht:tyO P t=true) (h:R (.pointer (some ⟨g.rb,0,none⟩)) w) :
    Yields P ⟨d,.load t x,ty,pos,aft,none⟩ a w R:=by
  subst hy;obtain ⟨cur,h2,h3⟩:=hm.lst;exact y_load_one hfr hx h2 ht h3 h
theorem y_wordLoad {x:Operand} {t:TypeId} {y x0:Int} {R:Value→World→Prop} (hm:MemAt g M w) (hi:getI M.ws y=some x0) (hx:lookO s x=.pointer (some ⟨g.wb,0+y.toNat * 1,none⟩)) (ht:tyO P t=true) (h:R (.int .u64 x0) w) :
    Yields P ⟨d,.load t x,ty,pos,aft,none⟩ a w R:=by
  obtain ⟨h0,h1,h2,rfl⟩:=getI_lt hi;refine y_load_one hfr hx hm.wds ht ?_ h;rw [flat_u64];simp
end
end
/-! ### Programs as chunks -/
section
variable {R : Type} {P : Program} {E : Enc R} {w w' w0 : World} {L : List Ck} {Z : Nat → Prop} {i : Nat}
def progK (P:Program) (E:Enc R) (x:Nat × T R) (v:Value) (F:List Nat):Ck:=
  ⟨[],F,fun w=>Rep P E x.1 x.2 (fun b=>b∈F) w v,fun _ _ h hs hr=>Rep.mono (fun _ h=>h) (fun b hb=>h b (.inr hb)) hs _ _ _ hr⟩
theorem Post.prog {x:Nat × T R} {v:Value} {F:List Nat} (h:Post Z L w0 w) (hi:L[i]?=some (progK P E x v F)):Rep P E x.1 x.2 (fun b=>b∈F) w v:=h.sep.get hi
def rg (lo hi:Nat):List Nat:=List.range' lo (hi - lo)
theorem mem_rg {lo hi b:Nat}:b∈rg lo hi↔lo≤b∧b<hi:=by
  simp only [rg,List.mem_range'_1]
  omega
theorem sep_prog {x:Nat × T R} {v:Value} {F:List Nat} (h:Rep P E x.1 x.2 (fun b=>b∈F) w v) (hl:∀ b,b∈F→b<w.heap.size):Sep [progK P E x v F] w:=
  ⟨h,(fun b hb=>by rcases hb with hb | hb; (cases hb); (exact hl b hb)),(fun _ h=>by cases h),trivial⟩
theorem fresh_prog {n:Nat} {t:T R} {v:Value} (hr:Rep P E n t (grow No w w') w' v):Fresh [progK P E (n,t) v (rg w.heap.size w'.heap.size)] w.heap.size w'.heap.size w':=
  ⟨sep_prog (Rep.mono (fun b hb=>mem_rg.2 (hb.resolve_left fun h=>h)) (Same.refl _ _) (Nat.le_refl _) _ _ _ hr) fun b hb=>(mem_rg.1 hb).2,fun c hc b hb=>by
    rcases List.mem_singleton.1 hc with rfl
    rcases hb with hb | hb
    · cases hb
    · exact mem_rg.1 hb⟩
theorem Sep.beside {N L:List Ck} {lo hi B:Nat} (h1:Fresh N lo hi w) (h2:Sep L w) (h3:∀ c,c∈L→∀ b,c.has b→b<B) (hB:B≤lo):Sep (N++L) w:=
  h1.1.append h2 fun c hc d hd=>⟨fun b hb hb'=>by have:=h1.2 c hc b (.inl hb); have:=h3 d hd b hb'; omega,fun b hb hb'=>by have:=h1.2 c hc b hb'; have:=h3 d hd b (.inl hb); omega⟩
theorem Chg.kept {S:Nat→Prop} (h:Chg S w w'):Kept w.heap.size S 0 0 w w':=⟨h.os,h.tape,h.output,h.size,fun b hb=>h.block b (by omega) (by rcases hb with hb | hb; exact hb.2; omega)⟩
def T.res (d:R):T R→R
  | .done r=>r
  | _=>d
theorem Rep.over_at {n:Nat} {F:Nat→Prop} {v:Value}:∀ {t:T R},Rep P E n t F w v→v.cells[0]?=some (.bool t.isDone)
  | .cut,h=>by unfold Rep at h; exact h.elim
  | .done r,h=>by unfold Rep at h; subst h; rfl
  | .act ..,h=>by obtain ⟨_,_,_,_,rfl,_⟩:=h.act_inv; rfl
theorem Rep.res_at {n:Nat} {F:Nat→Prop} {v:Value} {d:R} (hd:E.zero=E.cells d):∀ {t:T R},Rep P E n t F w v→((v.cells.toList.drop 1).take E.n)=E.cells (t.res d)
  | .cut,h=>by unfold Rep at h; exact h.elim
  | .done r,h=>by
    unfold Rep at h; subst h
    show ((E.cells r++_).take E.n)=E.cells r
    rw [←E.len r,List.take_left]
  | .act ..,h=>by
    obtain ⟨_,_,_,_,rfl,_⟩:=h.act_inv;show ((E.zero++_).take E.n)=E.cells d
    rw [hd,←E.len d,List.take_left]
theorem y_loadp {a:Act} {d:Option Tmp} {ty:TypeId} {pos:String} {aft:Array Edge} {N:Nat} {s:SL} (hfr:Fr a N s) {x:Operand} {b:Nat} {t Et:TypeId} {v:Value} {Q:Value→World→Prop} (hv:Shape E v)
    (hx:lookO s x=.pointer (some ⟨b,0,none⟩)) (h:w.heap[b]?=some (.cells v.cells Et (0,0))) (ht:tyA P t (E.n+6)=true) (hr:Q v w):Yields P ⟨d,.load t x,ty,pos,aft,none⟩ a w Q:=by
  obtain ⟨c,rfl,h1,h2⟩:=hv;have hl:c.toList.length=E.n+6:=by simpa using h1
  refine y_load_agg hfr (cs:=c.toList) (n:=E.n+6) hx h (by rw [hl]; exact ht) ?_ (by simpa using hr);show (c.toList.drop 0).take (E.n+6)=c.toList
  rw [List.drop_zero,←hl,List.take_length]
theorem Post.step {g:MG} {M:Mem} {x:Nat × T R} {v:Value} {F F':List Nat} (h:Post Z L w0 w) (hi:L[i]?=some (memK g M)) (hr:Rep P E x.1 x.2 (fun b=>b∈F') w v) (hl:∀ b,b∈F'→b<w.heap.size)
    (hn:∀ b,b∈F'→b ∉ g.bs) (hF:∀ b,b∈F'→b∈F∨w0.heap.size≤b):Done Z (fun b=>b∈F) [memK g M,progK P E x v F'] w0 w:=by
  have hm:Post Z [memK g M] w0 w:=h.pick [i] (by simp [distinctN]) (by simp [hi])
  refine ⟨⟨⟨hm.sep.1,hm.sep.2.1,fun d hd=>?_,sep_prog hr hl⟩,hm.chg,fun c hc b hb=>?_⟩,fun c hc b hb=>?_⟩
  · rcases List.mem_singleton.1 hd with rfl
    exact ⟨fun b hb hb'=>by rcases hb' with hb' | hb'; (cases hb'); (exact hn b hb' hb),fun b hb=>by cases hb⟩
  · rcases List.mem_cons.1 hc with rfl | hc
    · exact hm.mine _ (List.mem_singleton.2 rfl) b hb
    · rcases List.mem_singleton.1 hc with rfl; cases hb
  · rcases List.mem_cons.1 hc with rfl | hc
    · cases hb
    · rcases List.mem_singleton.1 hc with rfl; exact hF b hb
end
section
variable {R : Type} {P : Program} {E : Enc R} {w w' w0 : World} {L : List Ck} {Z : Nat → Prop} {i : Nat}
def T.acc:T R→Access
  | .act op at_ a b _=>⟨op,at_,a,b⟩
  | _=>⟨0,0,0,0⟩
def T.next:T R→Int→T R
  | .act _ _ _ _ k,x=>k x
  | _,_=>.cut
theorem Rep.acc_at {n:Nat} {F:Nat→Prop} {v:Value} {t:T R} (h:Rep P E n t F w v) (hd:t.isDone=false):((v.cells.toList.drop (1+E.n)).take 4)=accessC t.acc:=by
  cases t with
  | cut=>unfold Rep at h; exact h.elim
  | done r=>cases hd
  | act op at_ a b k=>
    obtain ⟨_,_,_,_,rfl,_⟩:=h.act_inv;show (((.bool false::(E.zero++_)):List Value).drop (1+E.n)).take 4=_
    rw [Nat.add_comm,List.drop_succ_cons,←E.zlen,List.drop_left]
    rfl
theorem Rep.next_at {n:Nat} {F:Nat→Prop} {v:Value} {t:T R} (h:Rep P E n t F w v) (hd:t.isDone=false):∃ (f:FuncId) (first cap:List Value),v.cells[5+E.n]?=some (kf f first cap)∧FnT P E u64 n F w (kf f first cap) t.next:=by
  cases t with
  | cut=>unfold Rep at h; exact h.elim
  | done r=>cases hd
  | act op at_ a b k=>
    obtain ⟨f,first,cap,_,rfl,hf⟩:=h.act_inv;refine ⟨f,first,cap,?_,hf⟩;simp only [progCells,Value.cells,List.getElem?_toArray];rw [show 5+E.n=(E.n+4)+1 from by omega,List.getElem?_cons_succ,List.getElem?_append_right (by rw [E.zlen]; omega),E.zlen]
    simp
def depthI:Nat→Option Nat
  | 0=>none
  | n+1=>some n
theorem depthI_eq {n m:Nat} (h:depthI n=some m):n=m+1:=by
  cases n with
  | zero=>cases h
  | succ n=>exact congrArg (·+1) (Option.some.inj h)
theorem Post.addProgF {n:Nat} {t:T R} {v v0:Value} {x:Nat × T R} {F:List Nat} {k:Nat} (h:Post Z L w0 w) (hk:L[k]?=some (progK P E x v0 F)) (hb:Below w.heap.size w w') (hr:Rep P E n t (grow (fun b=>b∈F) w w') w' v) :
    Post Z (L++[progK P E (n,t) v (F++rg w.heap.size w'.heap.size)]) w0 w':=by
  have hz:=hb.size;have hlt:∀ b,b∈F→b<w.heap.size:=fun b hb=>h.sep.lt hk (.inr hb)
  have hl:∀ b,b∈F++rg w.heap.size w'.heap.size→b<w'.heap.size:=fun b hb=>by
    rcases List.mem_append.1 hb with hb | hb
    · exact Nat.lt_of_lt_of_le (hlt b hb) hz
    · exact (mem_rg.1 hb).2
  have hr':Rep P E n t (fun b=>b∈F++rg w.heap.size w'.heap.size) w' v:=Rep.mono (fun b hb=>List.mem_append.2 (hb.imp id mem_rg.2)) (Same.refl _ _) (Nat.le_refl _) _ _ _ hr
  refine ⟨(h.sep.below hb).append (sep_prog (x:=(n,t)) hr' hl) fun d hd e he=>?_,h.chg.trans (Chg.of_below hb) (fun _ _ h=>h.elim),fun d hd b hb=>?_⟩
  · rcases List.mem_singleton.1 he with rfl
    refine ⟨fun b hb1 hb2=>?_,fun b hb=>by cases hb⟩
    rcases hb2 with hb2 | hb2
    · cases hb2
    · rcases List.mem_append.1 hb2 with hb2 | hb2
      · obtain ⟨j,hj⟩:=List.mem_iff_getElem?.1 hd
        by_cases hjk:j=k
        · subst hjk
          rw [hj] at hk
          obtain rfl:=Option.some.inj hk;cases hb1
        · exact (h.sep.clear hj hk hjk).1 b hb1 (.inr hb2)
      · have:=(mem_rg.1 hb2).1
        have:=(h.sep.ok d hd).2 b (.inl hb1);omega
  · rcases List.mem_append.1 hd with hd | hd
    · exact h.mine d hd b hb
    · rcases List.mem_singleton.1 hd with rfl; cases hb
def PrP (P:Program) (E:Enc R) (x:Nat × T R):Value→Nat→Nat→World→Prop:=fun v lo hi w=>Fresh [progK P E x v (rg lo hi)] lo hi w
theorem PrP.st (x:Nat × T R) {B:Nat} {S:Nat→Prop}:∀ v lo hi w1 w2,PrP P E x v lo hi w1→Kept B S lo hi w1 w2→PrP P E x v lo hi w2:=by
  rintro v lo hi w1 w2 ⟨hs,hb⟩ ⟨_,_,_,hz,hk⟩;exact ⟨hs.keep hz fun c hc b hcb=>hk b (.inr (hb c hc b hcb)),hb⟩
def guardI (b:Bool):Option Unit:=if b=true then some () else none
theorem guardI_eq {p:Prop} [Decidable p] {u:Unit} (h:guardI (decide p)=some u):p:=by
  unfold guardI at h
  split at h
  · rename_i h1; exact of_decide_eq_true h1
  · cases h
theorem ret_cell_tmp2 {fn:Func} {a:Act} {n:Nat} {s:SL} (h:Fr a n s) {R:Ending→World→Prop} {w:World} {t t' t2:Tmp} {ty:TypeId} {b:Nat} {c:Array Value} {E:TypeId} {fz:Nat × Nat} {k:Nat} {v' v2:Value} (hf:fn.results=#[.cell t ty,.tmp t',.tmp t2])
    (hv:look s t=.pointer (some ⟨b,0,none⟩)) (hv':look s t'=v') (hv2:look s t2=v2) (hb:w.heap[b]?=some (.cells c E fz)) (hk:c.size=k) (ht:tyA P ty k=true) (hR:R (.returned (.tuple #[.agg c,v',v2])) w):bodyPost P fn R .ret a w:=by
  refine ⟨h.defers,_,?_,hR⟩;subst hk; subst hv'; subst hv2;have hl:(loadVar ty ⟨b,0,none⟩).run P w=.ok (.agg c) w:=by
    have:=loadVar_agg (P:=P) (t:=ty) (lies_block hb (o:=0) (n:=c.size) (cs:=c.toList) (by rw [List.drop_zero]; exact List.take_of_length_le (by simp))) (by simpa using ht)
    simpa using this
  simp [results,hf,h.slot,hv,asAddr,hl]
end
/-! ### A memory that is made -/
section
variable {P : Program} {w w' w0 : World} {L : List Ck} {Z : Nat → Prop}
def oneI:List Int→Option Int
  | [n]=>if 0≤n∧n≤16777216 then some n else none
  | _=>none
theorem oneI_eq {l:List Int} {n:Int} (h:oneI l=some n):l=[n]∧0≤n∧n≤16777216:=by
  unfold oneI at h
  split at h
  · split at h
    · rename_i m h1
      obtain rfl:=Option.some.inj h;exact ⟨rfl,h1⟩
    · cases h
  · cases h
def zerosI (n:Int):List Int:=List.replicate n.toNat 0
def WB (n:Int) (wb:Nat) (w:World):Prop:=w.heap[wb]?=some (.cells ((zerosI n).flatMap u64).toArray 34 (0,0))
def W6 (B:Nat) (n:Int):Value→Nat→Nat→World→Prop:=fun v _ _ w=>∃ wb,v=.slice (some ⟨wb,0,none⟩) n.toNat n.toNat∧WB n wb w∧B≤wb
def W7 (B:Nat) (n:Int):Value→Nat→Nat→World→Prop:=fun v _ _ w=>∃ wb,v=.agg #[.slice (some ⟨wb,0,none⟩) n.toNat n.toNat,.int .u64 1]∧WB n wb w∧B≤wb
def RB (n:Int) (wb rb:Nat) (w:World):Prop:=w.heap[rb]?=some (.cells #[.slice (some ⟨wb,0,none⟩) n.toNat n.toNat,.int .u64 1] 142 (0,0))
def W8 (B:Nat) (n:Int):Value→Nat→Nat→World→Prop:=fun v _ _ w=>∃ wb rb,v=.pointer (some ⟨rb,0,none⟩)∧WB n wb w∧RB n wb rb w∧B≤wb∧wb<rb
def W9 (B:Nat) (n:Int):Value→Nat→Nat→World→Prop:=fun v _ _ w=>∃ wb rb lb,v=.slice (some ⟨lb,0,none⟩) 1 1∧WB n wb w∧RB n wb rb w∧w.heap[lb]?=some (.cells #[.pointer (some ⟨rb,0,none⟩)] 139 (0,0))∧B≤wb∧wb<rb∧rb<lb
def LB (rb lb:Nat) (w:World):Prop:=∃ cur,w.heap[lb]?=some (.cells cur 139 (0,0))∧cur[0]?=some (.pointer (some ⟨rb,0,none⟩))
def W10 (B:Nat) (n:Int):Value→Nat→Nat→World→Prop:=fun v _ _ w=>∃ wb rb lb cap,v=.slice (some ⟨lb,0,none⟩) 1 cap∧WB n wb w∧RB n wb rb w∧LB rb lb w∧B≤wb∧wb<rb∧rb<lb
def W13 (B b:Nat) (n:Int):Value→Nat→Nat→World→Prop:=fun v _ _ w=>v=undef∧∃ wb rb lb cap,MemAt ⟨b,lb,rb,wb,cap⟩ ⟨zerosI n,0⟩ w∧B≤wb∧B≤rb∧B≤lb
theorem WB.st {n:Int} {wb B:Nat} {S:Nat→Prop} (h:WB n wb w) (hk:KeptW B S w w') (hB:B≤wb):WB n wb w':=(hk.2.2.2.2 wb (lt_of_block h) (by omega)).trans h
theorem RB.st {n:Int} {wb rb B:Nat} {S:Nat→Prop} (h:RB n wb rb w) (hk:KeptW B S w w') (hB:B≤rb):RB n wb rb w':=(hk.2.2.2.2 rb (lt_of_block h) (by omega)).trans h
theorem LB.st {rb lb B:Nat} {S:Nat→Prop} (h:LB rb lb w) (hk:KeptW B S w w') (hB:B≤lb):LB rb lb w':=by
  obtain ⟨cur,h1,h2⟩:=h;exact ⟨cur,(hk.2.2.2.2 lb (lt_of_block h1) (by omega)).trans h1,h2⟩
theorem KeptW.of_below {B:Nat} {S:Nat→Prop} (h:Below w.heap.size w w'):KeptW B S w w':=⟨h.os,h.tape,h.output,h.size,fun b hb _=>h.block b hb⟩
theorem W6.st (B:Nat) (n:Int) {S:Nat→Prop}:∀ v lo hi w1 w2,W6 B n v lo hi w1→KeptW B S w1 w2→W6 B n v lo hi w2:=by
  rintro v lo hi w1 w2 ⟨wb,h1,h2,h3⟩ hk;exact ⟨wb,h1,h2.st hk h3,h3⟩
theorem W7.st (B:Nat) (n:Int) {S:Nat→Prop}:∀ v lo hi w1 w2,W7 B n v lo hi w1→KeptW B S w1 w2→W7 B n v lo hi w2:=by
  rintro v lo hi w1 w2 ⟨wb,h1,h2,h3⟩ hk;exact ⟨wb,h1,h2.st hk h3,h3⟩
theorem W8.st (B:Nat) (n:Int) {S:Nat→Prop}:∀ v lo hi w1 w2,W8 B n v lo hi w1→KeptW B S w1 w2→W8 B n v lo hi w2:=by
  rintro v lo hi w1 w2 ⟨wb,rb,h1,h2,h3,h4,h5⟩ hk;exact ⟨wb,rb,h1,h2.st hk h4,h3.st hk (by omega),h4,h5⟩
theorem W9.st (B:Nat) (n:Int) {S:Nat→Prop}:∀ v lo hi w1 w2,W9 B n v lo hi w1→KeptW B S w1 w2→W9 B n v lo hi w2:=by
  rintro v lo hi w1 w2 ⟨wb,rb,lb,h1,h2,h3,h4,h5,h6,h7⟩ hk;exact ⟨wb,rb,lb,h1,h2.st hk h5,h3.st hk (by omega),(hk.2.2.2.2 lb (lt_of_block h4) (by omega)).trans h4,h5,h6,h7⟩
theorem W10.st (B:Nat) (n:Int) {S:Nat→Prop}:∀ v lo hi w1 w2,W10 B n v lo hi w1→KeptW B S w1 w2→W10 B n v lo hi w2:=by
  rintro v lo hi w1 w2 ⟨wb,rb,lb,cap,h1,h2,h3,h4,h5,h6,h7⟩ hk;exact ⟨wb,rb,lb,cap,h1,h2.st hk h5,h3.st hk (by omega),h4.st hk (by omega),h5,h6,h7⟩
theorem W13.st (B b:Nat) (n:Int):∀ v lo hi w1 w2,W13 B b n v lo hi w1→KeptW B (fun _=>False) w1 w2→W13 B b n v lo hi w2:=by
  rintro v lo hi w1 w2 ⟨h0,wb,rb,lb,cap,h1,h2,h3,h4⟩ hk;exact ⟨h0,wb,rb,lb,cap,h1.st (fun c hc=>hk.2.2.2.2 c (h1.lt c hc) (fun _ h=>h)),h2,h3,h4⟩
section
variable {a : Act} {d : Option Tmp} {ty : TypeId} {pos : String} {aft : Array Edge} {N : Nat} {s : SL} (hfr : Fr a N s)
include hfr
theorem y_makeWords {x y:Operand} {t:TypeId} {n:Int} {R:Value→World→Prop} (hT:rowTy P t 34 1=true) (hz:zeroOf P 34=some (.int .u64 0)) (hb:(match P.info? 34 with | some i=>i.bytes==8 | none=>false)=true)
    (hx:lookO s x=.int .i64 n) (hy:lookO s y=.int .i64 n) (h0:0≤n) (h1:n≤16777216)
    (hr:∀ wb w',New w w' wb (.cells ((zerosI n).flatMap u64).toArray 34 (0,0))→R (.slice (some ⟨wb,0,none⟩) n.toNat n.toNat) w'):Yields P ⟨d,.makeSlice t x y,ty,pos,aft,none⟩ a w R:=by
  obtain ⟨ht,i,z,hi,hiz,hsz,_,_,_⟩:=rowTy_at hT;have hzz:z=.int .u64 0:=by
    unfold zeroOf at hz
    rw [hi] at hz
    simp only [hiz] at hz
    exact Option.some.inj hz
  subst hzz;rw [hi] at hb
  have hb8:i.bytes=8:=by simpa using hb
  have hr1:=run_makeSlice (P:=P) (w:=w) t 34 i (.int .u64 0) ht hi hiz .i64 .i64 n n h0 (Int.le_refl _) (by rw [hsz]; omega) (by rw [hb8]; omega) (by omega)
  have hc:madeCells (Value.int .u64 0).cells (n.toNat * i.size)=((zerosI n).flatMap u64).toArray:=by
    rw [hsz,flat_u64,zerosI,List.map_replicate]
    apply Array.ext
    · simp [madeCells]
    · intro j h1 h2
      simp only [madeCells,Array.size_map,Array.size_range] at h1
      simp only [madeCells,Array.getElem_map,Array.getElem_range,List.getElem_toArray,List.getElem_replicate]
      have:j % (Value.int IntKind.u64 0).cells.size=0:=by
        show j % 1=0
        omega
      rw [this]
      rfl
  rw [hc] at hr1
  refine .of_run (v:=.slice (some ⟨w.heap.size,0,none⟩) n.toNat n.toNat) (w':=w.alloc (.cells ((zerosI n).flatMap u64).toArray 34)) ?_ (hr _ _ (New.of_alloc _ _));simp only [execOp,hfr.ev hx,hfr.ev hy,Sem.run_bind,hr1,Result.andThen_ok,Sem.run_pure]
theorem y_appendNil {x y:Operand} {t e:TypeId} {lb:Nat} {u:Value} {R:Value→World→Prop} (hT:rowTy P t e 1=true) (hx:lookO s x=.slice none 0 0) (hy:lookO s y=.slice (some ⟨lb,0,none⟩) 1 1) (hl:w.heap[lb]?=some (.cells #[u] e (0,0)))
    (hr:∀ b cap cur w',New w w' b (.cells cur e (0,0))→cur[0]?=some u→R (.slice (some ⟨b,0,none⟩) 1 cap) w'):Yields P ⟨d,.call ⟨.builtin .append,#[x,y],#[t,t]⟩,ty,pos,aft,none⟩ a w R:=by
  obtain ⟨ht,i,z,hi,hiz,hsz,_,hby,_⟩:=rowTy_at hT;have hq:=run_append_nil (P:=P) w t ty e i z ht hi hiz ⟨lb,0,none⟩ 1 1 [u] (by simp [hsz]) (fun j v hv=>by
    rw [Addr.add_lit]
    simp only [World.cell?,hl]
    simpa using hv) (by omega) (by omega) (by omega)
  have hcur:([u].toArray++Builtin.zeroCells z.cells (grownCap w 1 0 e - 1))[0]?=some u:=by
    rw [Array.getElem?_append_left (by simp)]
    rfl
  refine .of_run (v:=.slice (some ⟨w.heap.size,0,none⟩) 1 (grownCap w 1 0 e)) (w':=w.drew.alloc (.cells ([u].toArray++Builtin.zeroCells z.cells (grownCap w 1 0 e - 1)) e)) ?_ (hr _ _ _ _ ⟨rfl,heap_alloc_new w.drew _,⟨rfl,rfl,rfl,by simp,fun k hk=>(heap_alloc_old (r:=k) w.drew _ (by simpa using hk):_)⟩,Array.size_push _⟩ hcur)
  have e2:(#[x,y]:Array Operand).map a.eval=#[.slice none 0 0,.slice (some ⟨lb,0,none⟩) 1 1]:=hfr.evs (xs:=[x,y]) (vs:=[_,_]) (lc2 hx hy);simp only [execOp,resolve,e2,Sem.run_bind,Sem.run_pure,Result.andThen_ok,invoke,builtin,hq]
end
theorem Post.made {b:Nat} {n:Int} {cs:Array Value} {T:TypeId} {v:Value} {lo hi i:Nat} (h:Post Z L w0 w) (hi':L[i]?=some (cellC b cs T)) (hk:Chg (fun k=>k∈[b]) w w') (hm:W13 w.heap.size b n v lo hi w'):∃ g:MG,g.mb=b∧Post Z (L.set i (memK g ⟨zerosI n,0⟩)) w0 w':=by
  obtain ⟨_,wb,rb,lb,cap,h1,h2,h3,h4⟩:=hm;refine ⟨⟨b,lb,rb,wb,cap⟩,rfl,?_⟩;have:=h.set (N:=[]) hi' (c':=memK ⟨b,lb,rb,wb,cap⟩ ⟨zerosI n,0⟩) ⟨⟨sep_mem h1,hk,fun c hc b' hb'=>?_⟩,fun c hc b' hb'=>by rcases List.mem_singleton.1 hc with rfl; cases hb'⟩
  · rwa [List.append_nil] at this
  · rcases List.mem_singleton.1 hc with rfl
    simp only [memK,MG.bs,List.mem_cons,List.not_mem_nil,or_false] at hb'
    rcases hb' with rfl | rfl | rfl | rfl
    · exact .inl (List.mem_singleton.2 rfl)
    · exact .inr h4
    · exact .inr h3
    · exact .inr h2
end
end Go.Proofs.YtbbipmelhmgmfaaGreat
/-! ### An effect that hands on a program -/
namespace Go.Proofs.YtbbipmelhmgmfaaGreat
open Go.RowKit
section
variable {R : Type} {P : Program} {E : Enc R} {w w' w0 : World} {L : List Ck} {Z : Nat → Prop} {i k : Nat} {c c' e : Ck}
def EffR (P:Program) (E:Enc R) (B:Nat) (Y:List Nat) (c':Ck) (x:Nat × T R) (u:Value):Value→Nat→Nat→World→Prop:=
  fun v lo hi w=>∃ (y:Value) (F:List Nat),v=.tuple #[y,u]∧c'.ok w∧(∀ b,c'.has b→b<B)∧(∀ b,b∈Y→b<B)∧Rep P E x.1 x.2 (fun b=>b∈F) w y∧∀ b,b∈F→b ∉ c'.own∧(b∈Y∨(lo≤b∧b<hi))
theorem EffR.st {B:Nat} {Y:List Nat} {x:Nat × T R} {u:Value}:∀ v lo hi w1 w2,EffR P E B Y c' x u v lo hi w1→Kept B (fun _=>False) lo hi w1 w2→EffR P E B Y c' x u v lo hi w2:=by
  rintro v lo hi w1 w2 ⟨y,F,hv,hc,hb,hY,hr,hF⟩ ⟨_,_,_,hz,hk⟩;refine ⟨y,F,hv,c'.st _ _ (fun b h=>hk b (.inl ⟨hb b h,fun h=>h⟩)) hz hc,hb,hY,Rep.mono (fun _ h=>h) (fun b hb'=>?_) hz _ _ _ hr,hF⟩
  rcases (hF b hb').2 with h | h
  · exact hk b (.inl ⟨hY b h,fun h=>h⟩)
  · exact hk b (.inr h)
theorem EffR.of {B:Nat} {Y:List Nat} {x:Nat × T R} {u y:Value} {F:List Nat} (h:Done (fun b=>b∈c.own) (fun b=>b∈Y) [c',progK P E x y F] w w') (hlt:∀ b,c'.has b→b<B) (hY:∀ b,b∈Y→b<B) :
    EffR P E B Y c' x u (.tuple #[y,u]) w.heap.size w'.heap.size w':=by
  have hm:progK P E x y F∈[c',progK P E x y F]:=List.mem_cons_of_mem _ (List.mem_singleton.2 rfl);refine ⟨y,F,rfl,h.sep.1,hlt,hY,h.sep.2.2.2.1,fun b hb=>⟨fun hc=>(h.sep.2.2.1 _ (List.mem_singleton.2 rfl)).1 b hc (.inr hb),?_⟩⟩
  rcases h.rest _ hm b hb with h1 | h1
  · exact .inl h1
  · exact .inr ⟨h1,(h.sep.ok _ hm).2 b (.inr hb)⟩
end
end Go.Proofs.YtbbipmelhmgmfaaGreat
/-! ### Appending to a literal of nothing, in a region that draws -/
namespace Go.Proofs.YtbbipmelhmgmfaaGreat
open Go.RowKit
section
variable {α : Type} {P : Program} {T : TypeId} {sz : Nat} {f : α → List Value} {w w' : World} {ys zs : List α}
end
section
variable {α : Type} {P : Program} {T : TypeId} {sz : Nat} {f : α → List Value} {w : World} {ys : List α} {a : Act} {d : Option Tmp} {ty : TypeId} {pos : String} {aft : Array Edge} {N : Nat} {s : SL} (hfr : Fr a N s)
include hfr
end
end Go.Proofs.YtbbipmelhmgmfaaGreat

/- Ours. -/
import Derived.Test.YtikjpdpgdmbdpaaGreatLnOps
set_option linter.all false
namespace Go.Proofs.YtikjpdpgdmbdpaaGreat
open Go.RowKit
inductive T (R:Type) where
  | cut
  | done (r:R)
  | act (op at_ a b:Int) (k:Int→T R)
def T.bind {A B:Type}:T A→(A→T B)→T B
  | .cut,_=>.cut
  | .done r,f=>f r
  | .act op at_ a b k,f=>.act op at_ a b fun x=>(k x).bind f
def T.load {R:Type} (at_:Int) (k:Int→T R):T R:=.act 0 at_ 0 0 k
def T.store {R:Type} (at_ w:Int) (k:T R):T R:=.act 1 at_ w 0 fun _=>k
def T.swap {R:Type} (at_ was w:Int) (k:Bool→T R):T R:=.act 2 at_ was w fun x=>k (x==was)
structure Enc (R:Type) where
  n:Nat
  cells:R→List Value
  zero:List Value
  len:∀ r,(cells r).length=n
  zlen:zero.length=n
  plain:∀ r,(cells r).all plainCell=true
  zplain:zero.all plainCell=true
def Same (F:Nat→Prop) (w w':World):Prop:=∀ b,F b→w'.heap[b]?=w.heap[b]?
def zpc (ov:Bool) (r:List Value) (op at_ a b:Int) (next:Value):Array Value:=
  (.bool ov::(r++[.int .i64 op,.int .i64 at_,.int .u64 a,.int .u64 b,next])).toArray
def grow (F:Nat→Prop) (w w':World):Nat→Prop:=fun b=>F b∨(w.heap.size≤b∧b<w'.heap.size)
def Shape {R:Type} (E:Enc R) (v:Value):Prop:=∃ c:Array Value,v=.agg c∧c.size=E.n+6∧c.toList.all plainCell=true
def Rep {R:Type} (P:Program) (E:Enc R):Nat→T R→(Nat→Prop)→World→Value→Prop
  | _,.cut,_,_,_=>False
  | _,.done r,_,_,v=>v=.agg (zpc true (E.cells r) 0 0 0 0 .nilFunc)
  | 0,.act op at_ a b _,_,_,v=>∃ (f:FuncId) (first cap:List Value),zpd P f=true∧v=.agg (zpc false E.zero op at_ a b (.func (.func f) first.toArray cap.toArray))
  | m+1,.act op at_ a b k,F,w,v=>∃ (f:FuncId) (first cap:List Value),zpd P f=true∧v=.agg (zpc false E.zero op at_ a b (.func (.func f) first.toArray cap.toArray))∧
      ∀ x w',Same F w w'→w.heap.size≤w'.heap.size→
        Calls P f (first++[Value.int .u64 x]++cap).toArray w' fun e w''=>∃ v',e=.returned v'∧Below w'.heap.size w' w''∧Rep P E m (k x) (grow F w' w'') w'' v'
def zpl {R:Type} (P:Program) (E:Enc R) (n:Nat) (t:T R) (F:Nat→Prop) (w:World):Ending→World→Prop:=
  fun e w'=>∃ v,e=.returned v∧Below w.heap.size w w'∧Rep P E n t (grow F w w') w' v
def FnAt {R α:Type} (P:Program) (E:Enc R) (enc:α→List Value) (m:Nat) (F:Nat→Prop) (w:World) (f:FuncId) (first cap:List Value) (g:α→T R):Prop:=
  ∀ x w',Same F w w'→w.heap.size≤w'.heap.size→Calls P f (first++enc x++cap).toArray w' (zpl P E m (g x) F w')
def FnT {R α:Type} (P:Program) (E:Enc R) (enc:α→List Value) (n:Nat) (F:Nat→Prop) (w:World) (fv:Value) (g:α→T R):Prop:=
  ∃ (f:FuncId) (first cap:List Value),zpd P f=true∧fv=.func (.func f) first.toArray cap.toArray∧∀ m,m<n→FnAt P E enc m F w f first cap g
def u64 (x:Int):List Value:=[.int .u64 x]
def i64 (x:Int):List Value:=[.int .i64 x]
def boolE (x:Bool):List Value:=[.bool x]
def unitE (_:Unit):List Value:=[]
def noneE (_:Unit):List Value:=[.agg #[]]
def zpi:Enc Int:=⟨1,fun r=>[.int .i64 r],[.int .i64 0],fun _=>rfl,rfl,fun _=>rfl,rfl⟩
def zpu:Enc Int:=⟨1,fun r=>[.int .u64 r],[.int .u64 0],fun _=>rfl,rfl,fun _=>rfl,rfl⟩
def zpD:Enc Bool:=⟨1,fun r=>[.bool r],[.bool false],fun _=>rfl,rfl,fun _=>rfl,rfl⟩
def zph:Enc Unit:=⟨0,fun _=>[],[],fun _=>rfl,rfl,fun _=>rfl,rfl⟩
def zpt (v:Value) (w:World):Ending→World→Prop:=fun e w'=>e=.returned v∧Below w.heap.size w w'
def T.zpx {R:Type}:T R→Bool
  | .done _=>true
  | _=>false
section
variable {R : Type} {P : Program} {E : Enc R}
theorem Same.refl (F:Nat→Prop) (w:World):Same F w w:=fun _ _=>rfl
theorem Same.trans {F:Nat→Prop} {a b c:World} (h:Same F a b) (h':Same F b c):Same F a c:=fun k hk=>(h' k hk).trans (h k hk)
theorem Same.sub {F F':Nat→Prop} {a b:World} (h:Same F a b) (hs:∀ b,F' b→F b):Same F' a b:=fun k hk=>h k (hs k hk)
theorem Same.below {F:Nat→Prop} {w w':World} (h:Below w.heap.size w w') (hF:∀ b,F b→b<w.heap.size):Same F w w':=fun k hk=>h.block k (hF k hk)
theorem Same.at_ {F:Nat→Prop} {w w':World} {b:Nat} {o:Obj} (h:Same F w w') (hb:F b) (hw:w.heap[b]?=some o):w'.heap[b]?=some o:=by rw [h b hb]; exact hw
theorem Rep.mono {F F':Nat→Prop} {w w':World} (hs:∀ b,F b→F' b) (h1:Same F w w') (h2:w.heap.size≤w'.heap.size) :
    ∀ (n:Nat) (t:T R) (v:Value),Rep P E n t F w v→Rep P E n t F' w' v
  | _,.cut,_,h=>by unfold Rep at h; exact h.elim
  | _,.done _,_,h=>by unfold Rep at h ⊢; exact h
  | 0,.act ..,_,h=>by unfold Rep at h ⊢; exact h
  | m+1,.act op at_ a b k,v,h=>by
    unfold Rep at h ⊢
    obtain ⟨f,first,cap,hc,hv,h⟩:=h;refine ⟨f,first,cap,hc,hv,fun x w'' hs' hz=>?_⟩
    refine (h x w'' (h1.trans (hs'.sub hs)) kw).mono ?_;rintro e w3 ⟨v',he,hb,hr⟩;exact ⟨v',he,hb,Rep.mono (fun b hb=>hb.imp (hs b) id) (Same.refl _ _) (Nat.le_refl _) m _ _ hr⟩
theorem Rep.down {F:Nat→Prop} {w:World}:∀ {n m:Nat} {t:T R} {v:Value},m≤n→Rep P E n t F w v→Rep P E m t F w v
  | _,_,.cut,_,_,h=>by unfold Rep at h; exact h.elim
  | _,_,.done _,_,_,h=>by unfold Rep at h ⊢; exact h
  | 0,m,.act ..,_,hm,h=>by
    obtain rfl:m=0:=kw
    exact h
  | n+1,0,.act ..,_,_,h=>by
    unfold Rep at h ⊢
    obtain ⟨f,first,cap,hc,hv,_⟩:=h;exact ⟨f,first,cap,hc,hv⟩
  | n+1,m+1,.act op at_ a b k,v,hm,h=>by
    unfold Rep at h ⊢
    obtain ⟨f,first,cap,hc,hv,h⟩:=h;refine ⟨f,first,cap,hc,hv,fun x w'' hs' hz=>?_⟩
    refine (h x w'' hs' hz).mono ?_;rintro e w3 ⟨v',he,hb,hr⟩;exact ⟨v',he,hb,Rep.down kw hr⟩
theorem Rep.shape {F:Nat→Prop} {w:World}:∀ {n:Nat} {t:T R} {v:Value},Rep P E n t F w v→Shape E v
  | _,.cut,_,h=>by unfold Rep at h; exact h.elim
  | _,.done r,_,h=>by
    unfold Rep at h; subst h
    exact ⟨_,rfl,by simp [zpc,E.len],by simp [zpc,plainCell,E.plain r]⟩
  | 0,.act ..,_,h=>by
    unfold Rep at h; obtain ⟨_,_,_,_,rfl⟩:=h
    exact ⟨_,rfl,by simp [zpc,E.zlen],by simp [zpc,plainCell,E.zplain]⟩
  | m+1,.act ..,_,h=>by
    unfold Rep at h; obtain ⟨_,_,_,_,rfl,_⟩:=h
    exact ⟨_,rfl,by simp [zpc,E.zlen],by simp [zpc,plainCell,E.zplain]⟩
theorem Rep.zjk {n:Nat} {F:Nat→Prop} {w:World} {op at_ a b:Int} {k:Int→T R} {fv:Value} (h:FnT P E u64 n F w fv k) :
    Rep P E n (.act op at_ a b k) F w (.agg (zpc false E.zero op at_ a b fv)):=by
  obtain ⟨f,first,cap,hc,rfl,h⟩:=h;cases n with
  | zero=>unfold Rep; exact ⟨f,first,cap,hc,rfl⟩
  | succ m=>unfold Rep; exact ⟨f,first,cap,hc,rfl,fun x w' h1 h2=>h m (Nat.lt_succ_self _) x w' h1 h2⟩
theorem Rep.zgI {n:Nat} {F:Nat→Prop} {w:World} {r:R}:Rep P E n (.done r) F w (.agg (zpc true (E.cells r) 0 0 0 0 .nilFunc)):=by unfold Rep; rfl
theorem FnAt.mono {α:Type} {enc:α→List Value} {m:Nat} {F F':Nat→Prop} {w w':World} {f:FuncId} {first cap:List Value} {g:α→T R} (h:FnAt P E enc m F w f first cap g)
    (hs:∀ b,F b→F' b) (h1:Same F w w') (h2:w.heap.size≤w'.heap.size):FnAt P E enc m F' w' f first cap g:=fun x w'' hs' hz=>by
  refine (h x w'' (h1.trans (hs'.sub hs)) kw).mono ?_;rintro e w3 ⟨v',he,hb,hr⟩;exact ⟨v',he,hb,Rep.mono (fun b hb=>hb.imp (hs b) id) (Same.refl _ _) (Nat.le_refl _) m _ _ hr⟩
theorem FnT.mono {α:Type} {enc:α→List Value} {n n':Nat} {F F':Nat→Prop} {w w':World} {fv:Value} {g:α→T R} (h:FnT P E enc n F w fv g) (hn:n'≤n)
    (hs:∀ b,F b→F' b) (h1:Same F w w') (h2:w.heap.size≤w'.heap.size):FnT P E enc n' F' w' fv g:=by
  obtain ⟨f,first,cap,hc,hv,h⟩:=h;exact ⟨f,first,cap,hc,hv,fun m hm=>(h m kw).mono hs h1 h2⟩
theorem Rep.zcR {n:Nat} {F:Nat→Prop} {w:World} {op at_ a b:Int} {k:Int→T R} {v:Value} (h:Rep P E n (.act op at_ a b k) F w v) :
    ∃ (f:FuncId) (first cap:List Value),zpd P f=true∧v=.agg (zpc false E.zero op at_ a b (.func (.func f) first.toArray cap.toArray))∧FnT P E u64 n F w (.func (.func f) first.toArray cap.toArray) k:=by
  cases n with
  | zero=>
    unfold Rep at h
    obtain ⟨f,first,cap,hc,hv⟩:=h;exact ⟨f,first,cap,hc,hv,f,first,cap,hc,rfl,fun m hm=>absurd hm (Nat.not_lt_zero m)⟩
  | succ q=>
    have h':=h;unfold Rep at h
    obtain ⟨f,first,cap,hc,hv,hk⟩:=h;refine ⟨f,first,cap,hc,hv,f,first,cap,hc,rfl,fun m hm x w' h1 h2=>?_⟩
    refine (hk x w' h1 h2).mono ?_;rintro e w'' ⟨v',he,hb,hr⟩;exact ⟨v',he,hb,Rep.down kw hr⟩
theorem FnT.at_ {α:Type} {enc:α→List Value} {n:Nat} {F:Nat→Prop} {w:World} {f:FuncId} {first cap:List Value} {g:α→T R} (h:FnT P E enc n F w (.func (.func f) first.toArray cap.toArray) g) :
    zpd P f=true∧∀ m,m<n→FnAt P E enc m F w f first cap g:=by
  obtain ⟨f',first',cap',hc,he,hf⟩:=h;simp only [Value.func.injEq,Fn.func.injEq] at he
  obtain ⟨e1,e2,e3⟩:=he;have e2':first=first':=by simpa using congrArg Array.toList e2
  have e3':cap=cap':=by simpa using congrArg Array.toList e3
  subst e1; subst e2'; subst e3';exact ⟨hc,hf⟩
theorem zpl.fin {n:Nat} {t:T R} {F F1:Nat→Prop} {w0 w1 w2 w3:World} {r:Nat} {o:Obj} {v:Value} (hB:Below w0.heap.size w0 w3) (hr:Rep P E n t (grow F1 w1 w2) w2 v)
    (hu:Upd w2 w3 r o) (hF:∀ b,F1 b→F b∨(w0.heap.size≤b∧b<w1.heap.size)) (hFr:¬ F1 r) (hr1:r<w1.heap.size) (h01:w0.heap.size≤w1.heap.size) (h12:w1.heap.size≤w2.heap.size) :
    zpl P E n t F w0 (.returned v) w3:=by
  refine ⟨v,rfl,hB,Rep.mono ?_ ?_ (by rw [hu.size]; exact Nat.le_refl _) n t v hr⟩
  · rintro b (hb | ⟨hb1,hb2⟩)
    · rcases hF b hb with h | ⟨h1,h2⟩
      · exact .inl h
      · exact .inr ⟨h1,by rw [hu.size]; omega⟩
    · exact .inr ⟨kw,by rw [hu.size]; omega⟩
  · rintro b (hb | ⟨hb1,hb2⟩)
    · exact hu.other b (fun e=>hFr (e ▸ hb))
    · exact hu.other b kw
def RepAt {R:Type} (P:Program) (E:Enc R) (n:Nat) (t:T R) (F:Nat→Prop) (B r:Nat) (v:Value) (w:World):Prop:=
  (∀ b,F b→b<w.heap.size)∧r<w.heap.size∧B≤w.heap.size∧Rep P E n t (fun b=>F b∨(B≤b∧b<w.heap.size∧b≠r)) w v
theorem RepAt.stable {n:Nat} {t:T R} {F:Nat→Prop} {B r:Nat}:∀ v w1 w2,RepAt P E n t F B r v w1→Below w1.heap.size w1 w2→RepAt P E n t F B r v w2:=by
  rintro v w1 w2 ⟨h1,h2,h3,h4⟩ hb;have hz:=hb.size;refine ⟨fun b h=>Nat.lt_of_lt_of_le (h1 b h) hz,kw,kw,Rep.mono ?_ (Same.below hb ?_) hz n _ _ h4⟩
  · rintro b (h | ⟨h,h',h''⟩)
    · exact .inl h
    · exact .inr ⟨h,kw,h''⟩
  · rintro b (h | ⟨h,h',h''⟩)
    · exact h1 b h
    · exact h'
theorem RepAt.zkX {n:Nat} {t:T R} {F:Nat→Prop} {B r:Nat} {w1 w2:World} {v:Value} (hF:∀ b,F b→b<w1.heap.size) (hr:r<w1.heap.size) (hB:B≤w1.heap.size) (hb:Below w1.heap.size w1 w2)
    (h:Rep P E n t (grow (fun b=>F b∨(B≤b∧b<w1.heap.size∧b≠r)) w1 w2) w2 v):RepAt P E n t F B r v w2:=by
  have hz:=hb.size;refine ⟨fun b h=>Nat.lt_of_lt_of_le (hF b h) hz,kw,kw,Rep.mono ?_ (Same.refl _ _) (Nat.le_refl _) n _ _ h⟩
  rintro b ((h | ⟨h,h',h''⟩) | ⟨h,h'⟩)
  · exact .inl h
  · exact .inr ⟨h,kw,h''⟩
  · exact .inr ⟨kw,h',kw⟩
theorem zlK:∀ (l:List Value) (pre post:List Value),post.length=l.length→over (pre++post).toArray pre.length l=(pre++l).toArray
  | [],pre,post,h=>by
    have:post=[]:=List.eq_nil_of_length_eq_zero (by simpa using h)
    subst this; rfl
  | v::l,pre,[],h=>by simp at h
  | v::l,pre,p::post,h=>by
    have ih:=zlK l (pre++[v]) post (by simpa using h)
    simp only [over]
    have e:(pre++p::post).toArray.setIfInBounds pre.length v=(pre++[v]++post).toArray:=by
      simp
    rw [e]
    simpa using ih
theorem zlq {c c':Array Value} (h:c.size=c'.size):over c 0 c'.toList=c':=by
  have:=zlK c'.toList [] c.toList (by simpa using h)
  simpa using this
theorem znQ {a:Act} {w:World} {d:Option Tmp} {ty:TypeId} {pos:String} {aft:Array Edge} {N:Nat} {s:SL} (hfr:Fr a N s) {x y:Operand} {b:Nat} {t Et:TypeId} {c:Array Value} {v:Value}
    {Q:Value→World→Prop} (hv:Shape E v) (hx:lookO s x=.pointer (some ⟨b,0,none⟩)) (hy:lookO s y=v) (h:w.heap[b]?=some (.cells c Et (0,0))) (ht:sized P t (E.n+6)=true) (hn:c.size=E.n+6)
    (hr:∀ w',Upd w w' b (.cells v.cells Et (0,0))→Q undef w'):Yields P ⟨d,.store t x y,ty,pos,aft,none⟩ a w Q:=by
  obtain ⟨c',rfl,h1,h2⟩:=hv;exact zaN hfr hx hy h (by simpa [Value.cells,h1] using ht) (by simp [Value.cells,h1,hn]) h2 (zlq (by simp [Value.cells,h1,hn])) hr
theorem Shape.cells {v:Value} (h:Shape E v):v.cells.size=E.n+6∧v.cells.toList.all plainCell=true∧v=.agg v.cells:=by
  obtain ⟨c,rfl,h1,h2⟩:=h;exact ⟨h1,h2,rfl⟩
end
section
variable {P : Program} {a : Act} {w : World} {d : Option Tmp} {ty : TypeId} {pos : String} {aft : Array Edge}
variable {ops : Array Oper} {Q : Exit → Act → World → Prop} {rest : List Oper} {N : Nat} {s : SL}
theorem kP {R:Type} {E:Enc R} (hfr:Fr a N s) {x y:Operand} {b:Nat} {t Et:TypeId} {c:Array Value} {v:Value} (hv:Shape E v) (hx:lookO s x=.pointer (some ⟨b,0,none⟩)) (hy:lookO s y=v) (h:w.heap[b]?=some (.cells c Et (0,0)))
    (ht:sized P t (E.n+6)=true) (hn:c.size=E.n+6) (hg:dstIn N d=true) (hk:∀ {a} w',Upd w w' b (.cells v.cells Et (0,0))→Fr a N (putS s d undef)→wpList P ops Q rest a w'):wpList P ops Q (⟨d,.store t x y,ty,pos,aft,none⟩::rest) a w:=
  zaS _ hfr (fun R=>znQ hfr hv hx hy h ht hn) hg fun a w' h r=>hk w' h r
theorem kD {R:Type} {E:Enc R} {m:Nat} {t:T R} {F:Nat→Prop} {f:FuncId} {xs:List Operand} {ts:Array TypeId} {args:List Value} (hfr:Fr a N s) (hc:Calls P f args.toArray w (zpl P E m t F w)) (hx:xs.map (lookO s)=args)
    (hf:zpd P f=true) (hg:dstIn N d=true) (hk:∀ {a} w' v,Below w.heap.size w w'→Rep P E m t (grow F w w') w' v→Fr a N (putS s d v)→wpList P ops Q rest a w'):wpList P ops Q (⟨d,.call ⟨.value (.func f),xs.toArray,ts⟩,ty,pos,aft,none⟩::rest) a w:=
  kC hfr hc hx hf hg (by rintro _ w' ⟨v,rfl,hb,hr⟩; exact ⟨_,rfl,fun a r=>hk w' v hb hr r⟩)
theorem kE {v:Value} {f:FuncId} {xs:List Operand} {ts:Array TypeId} {args:List Value} (hfr:Fr a N s) (hc:Calls P f args.toArray w (zpt v w)) (hx:xs.map (lookO s)=args)
    (hf:zpd P f=true) (hg:dstIn N d=true) (hk:∀ {a} w',Below w.heap.size w w'→Fr a N (putS s d v)→wpList P ops Q rest a w'):wpList P ops Q (⟨d,.call ⟨.value (.func f),xs.toArray,ts⟩,ty,pos,aft,none⟩::rest) a w:=
  kC hfr hc hx hf hg (by rintro _ w' ⟨rfl,hb⟩; exact ⟨_,rfl,fun a r=>hk w' hb r⟩)
end
abbrev kS:Value:=.slice none 0 0
abbrev kH (F:Nat→Prop) (w:World):Prop:=∀ b,F b→b<w.heap.size
abbrev kW (F:Nat→Prop) (w0 w1:World) (r:Nat):Nat→Prop:=fun b=>F b∨(w0.heap.size≤b∧b<w1.heap.size∧b≠r)
end Go.Proofs.YtikjpdpgdmbdpaaGreat

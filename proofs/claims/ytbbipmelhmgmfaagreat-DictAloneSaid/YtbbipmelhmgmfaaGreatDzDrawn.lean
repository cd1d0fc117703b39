/- Ours. -/
import Derived.Orders
import Derived.Below
import Derived.Tactics
import Derived.OneCell
set_option linter.all false
set_option maxRecDepth 100000
set_option maxHeartbeats 20000000
namespace Go.Proofs.YtbbipmelhmgmfaaGreat
open Go.RowKit
theorem z7 {α:Sort _} {a b c:α} (h:a=b) (hD:a=c):b=c:=h.symm.trans hD
abbrev d9:=@wp_seq
abbrev q4:=@wp_ret
abbrev q5:=@wp_cond_split
abbrev q6:=@wp_region_lit
abbrev q7:=@wp_skip
abbrev q9:=@Nat.lt_of_lt_of_le
abbrev r9:=@wpList_nil
theorem u7 {a b:Nat} (h:Nat.ble a b=true:=by rfl):a<=b:=Nat.le_of_ble_eq_true h
abbrev z6 (l:List Value):Value:=.agg l.toArray
abbrev q8:=@lt_of_block
theorem Kl {p:Prop} (h:p:=by rintro (h | ⟨_,_,h⟩); (have:=hF _ h; omega); exact h rfl):p:=h
theorem JL {p:Prop} (h:p:=by rintro _ w2 ⟨rfl,hb2⟩; exact ⟨_,rfl,hb2,rfl⟩):p:=h
theorem yac {p:Prop} (h:p:=by rintro b (h | ⟨h1,h2,_⟩); exact .inl h; exact .inr ⟨h1,h2⟩):p:=h
theorem yad {p:Prop} (h:p:=by rintro b hlt (h | ⟨h,_⟩); exact h; omega):p:=h
theorem yae {p:Prop} (h:p:=by rintro b (h | h); (rcases h with h | ⟨h1,h2,h3⟩; exact .inl h; exact .inr ⟨h1,O,h3⟩); exact .inr ⟨O,O,O⟩):p:=h
theorem yaf {p:Prop} (h:p:=by rintro b (h | h | h); exact .inl h; exact .inr ⟨O,O⟩; exact .inr ⟨O,O⟩):p:=h
theorem KD {p:Prop} (h:p:=by simp [ja]):p:=h
theorem yah {p:Prop} (h:p:=by rintro b (h | ⟨h1,h2,h3⟩); exact .inl h; exact .inr ⟨h1,O,h3⟩):p:=h
theorem yai {p:Prop} (h:p:=by rintro b ⟨h1,h2⟩ (h | ⟨h3,h4,_⟩); (have:=hF b h; omega); omega):p:=h
theorem yaj {p:Prop} (h:p:=by unfold sp; omega):p:=h
theorem yak {p:Prop} (h:p:=by first | assumption | decide | exact yR ka | (simp; done)):p:=h
theorem yal {p:Prop} (h:p:=by rw [hfp]; omega):p:=h
theorem yam {p:Prop} (h:p:=by rintro b (h | h); exact h.elim; exact h):p:=h
theorem yan {p:Prop} (h:p:=by rintro b ⟨h,h'⟩; exact .inr ⟨O,O,O⟩):p:=h
theorem yao {p:Prop} (h:p:=by simp; omega):p:=h
theorem yap {p:Prop} (h:p:=by rintro b (h | ⟨h,h'⟩); exact .inl (s1 b h); exact .inr ⟨O,O,O⟩):p:=h
theorem yaq {p:Prop} (h:p:=by rintro b (h | ⟨h,h'⟩) h2; exact hdj b h h2; have:=JZ b h2; omega):p:=h
theorem yar {p:Prop} (h:p:=by rw [hn]; exact Nat.le_of_ble_eq_true rfl):p:=h
theorem yas {p:Prop} (h:p:=by simp):p:=h
theorem yat {p:Prop} (h:p:=by first | assumption | decide | (have hq:=yV (by simpa using ‹(!D.cf _)=false›); omega)):p:=h
theorem yau {p:Prop} (h:p:=by rintro b hlt (h | h | h); exact h; omega; omega):p:=h
theorem yav {p:Prop} (h:p:=by rw [List.drop_zero]; exact List.take_of_length_le (by simp)):p:=h
theorem yaw {p:Prop} (h:p:=by rintro (h | h | h); (have:=hF _ h; omega); omega; omega):p:=h
theorem yax {p:Prop} (h:p:=by first | assumption | decide):p:=h
theorem yay {p:Prop} (h:p:=by rw [hfp,hfp]; omega):p:=h
theorem yaz {p:Prop} (h:p:=by intro c hc b hb; rcases List.mem_cons.1 hc with rfl | hc; exact .inl hb; rcases List.mem_singleton.1 hc with rfl; exact .inr hb):p:=h
theorem yaA {p:Prop} (h:p:=by intro h; cases h):p:=h
theorem yaB {p:Prop} (h:p:=by rintro _ w2 ⟨y,rfl,hb2,Jz⟩; exact ⟨_,rfl,hb2,PrepP.of (drB hb') hb2 Jz⟩):p:=h
theorem yaC {p:Prop} (h:p:=by dsimp only; omega):p:=h
theorem yaD {p:Prop} (h:p:=by rw [List.length_set]; omega):p:=h
theorem yaE {p:Prop} (h:p:=by simp [ja,undef]):p:=h
theorem yaF {p:Prop} (h:p:=by unfold nx; omega):p:=h
theorem yaG {p:Prop} (h:p:=by rw [hf]; rfl):p:=h
theorem yaH {p:Prop} (h:p:=by simpa using hg.1):p:=h
theorem yaI {p:Prop} (h:p:=by unfold bL; omega):p:=h
theorem yaJ {p:Prop} (h:p:=by simpa using h):p:=h
theorem yaK {p:Prop} (h:p:=by simp [MG.bs]):p:=h
theorem yaL {p:Prop} (h:p:=by rw [e]; exact List.mem_append_left _ hx):p:=h
theorem O {p : Prop} (h : p := by omega) : p := h
theorem ke {p : Prop} (h : p := by decide) : p := h
theorem kz {p : Prop} (h : p := by kernel_rfl) : p := h
theorem ka {p : Prop} (h : p := by assumption) : p := h
section
variable {P : Program} {ops : Array Oper} {Q : Exit -> Act -> World -> Prop}
def Yields (P:Program) (o:Oper) (a:Act) (w:World) (R:Value->World->Prop):Prop:=
 o.wp P a w (fun a' w'=>∃ v,a'=a.put o.dst v/\R v w') (fun _ _ _=>False)
theorem D3 {o:Oper} {a:Act} {w:World} {K K':Act->World->Prop} (h:∀ a w,K a w->K' a w)
  (hh:o.wp P a w K (fun _ _ _=>False)):o.wp P a w K' Q:=by
 unfold Oper.wp at *
 generalize (execOp a.eval o).run P w=r at *
 cases r with
 | ok n w'=>
  cases n <;> simp only [Oper.upon] at hh ⊢ <;>
   first
    | exact h _ _ hh
    | exact Calls.mono hh (fun e w'' he=>by
      cases e with
      | returned v=>exact h _ _ he
      | panicked c=>exact he.elim
      | outgrown=>obtain ⟨_,_,hf⟩:=he; exact hf.elim)
    | exact Rows.mono hh (fun _ _ he=>h _ _ he)
 | halt x w'=>cases x <;> simp only [Oper.upon] at hh ⊢
theorem Yields.wp {o:Oper} {a:Act} {w:World} {R:Value->World->Prop} {K:Act->World->Prop} (h:Yields P o a w R)
  (hk:∀ v w',R v w'->K (a.put o.dst v) w'):o.wp P a w K Q:=
 D3 (fun a' w' ⟨v,he,hr⟩=>by subst he; exact hk v w' hr) h
theorem Yields.of_run {o:Oper} {a:Act} {w w':World} {v:Value} {R:Value->World->Prop} (h:(execOp a.eval o).run P w=.ok (.value v) w') (hr:R v w'):Yields P o a w R:=by
 unfold Yields Oper.wp;rw [h];exact ⟨v,rfl,hr⟩
theorem Yields.Eg {o:Oper} {a:Act} {w w':World} {R:Value->World->Prop} (h:(execOp a.eval o).run P w=.ok .skip w') (hr:R undef w'):Yields P o a w R:=by
 unfold Yields Oper.wp;rw [h];exact ⟨undef,rfl,hr⟩
theorem Yields.wG {o:Oper} {a:Act} {w:World} {f:FuncId} {args:Array Value} {R:Value->World->Prop} (h:(execOp a.eval o).run P w=.ok (.enter f args) w)
  (hc:Calls P f args w fun e w'=>∃ v,e=.returned v/\R v w'):Yields P o a w R:=by
 unfold Yields Oper.wp;rw [h];refine Calls.mono hc ?_;rintro e w' ⟨v,rfl,hr⟩;exact ⟨v,rfl,hr⟩
def YieldsG (P:Program) (ops:Array Oper) (o:Oper) (a:Act) (w:World) (R:Value->World->Prop):Prop:=
 if Region.wanted o (yielded ops a.tmps) then Yields P o a w R else R undef w
theorem YieldsG.plain {o:Oper} {a:Act} {w:World} {R:Value->World->Prop} (hg:o.guard.isNone=true) (h:Yields P o a w R):YieldsG P ops o a w R:=by
 unfold YieldsG;rw [if_pos (by simp [Region.wanted,Option.isNone_iff_eq_none.1 hg])];exact h
theorem YieldsG.wp {o:Oper} {a:Act} {w:World} {R:Value->World->Prop} {K:Act->World->Prop} (h:YieldsG P ops o a w R)
  (hk:∀ v w',R v w'->K (a.put o.dst v) w'):if Region.wanted o (yielded ops a.tmps) then o.wp P a w K Q\/(o.asks P a w/\LetsOut Q) else K (a.put o.dst undef) w:=by
 unfold YieldsG at h
 split
 ·rename_i hw; rw [if_pos hw] at h; exact .inl (h.wp hk)
 ·rename_i hw; rw [if_neg hw] at h; exact hk _ _ h
theorem gY {o:Oper} {rest:List Oper} {a:Act} {w:World} {R:Value->World->Prop} (hg:o.guard=none) (h:Yields P o a w R)
  (hk:∀ v w',R v w'->wpList P ops Q rest (a.put o.dst v) w'):wpList P ops Q (o::rest) a w:=
 wpList_plain hg fun _ hK=>h.wp fun v w' hr=>hK _ _ (hk v w' hr)
/-! ### Any order -/
theorem filter_lt {α:Type} {p q:α->Bool} (hpq:∀ x,p x=true->q x=true):∀ (l:List α) (x:α),x∈l->q x=true->p x=false->(l.filter p).length<(l.filter q).length:=by
 have hle:∀ l:List α,(l.filter p).length<=(l.filter q).length:=by
  intro l
  induction l with
  | nil=>simp
  | cons y l ih=>
   simp only [List.filter_cons]
   cases hp:p y
   ·cases hq:q y <;> simp <;> omega
   ·simp [hpq y hp]; omega
 intro l
 induction l with
 | nil=>intro x hx; cases hx
 | cons y l ih=>
  intro x hx hq hp;simp only [List.filter_cons]
  rcases List.mem_cons.1 hx with rfl | hx
  ·have:=hle l
   simp [hq,hp]; omega
  ·have:=ih x hx hq hp
   cases hp':p y
   ·cases hq':q y <;> simp <;> omega
   ·simp [hpq y hp']; omega
def left (n:Nat) (listed:Array Bool):Nat:=((List.range n).filter fun i=>!listed.getD i true).length
theorem wj {n i:Nat} {listed:Array Bool} (hi:i<n) (h:listed.getD i true=false):left n (listed.setIfInBounds i true)<left n listed:=by
 refine filter_lt (fun x hx=>?_) _ i (List.mem_range.2 hi) yaJ ?_
 ·by_cases hxi:x=i
  ·subst hxi; simpa using h
  ·rw [getD_set_ne true (Ne.symm hxi)] at hx; exact hx
 ·have hlt:i<listed.size:=by
   rcases Nat.lt_or_ge i listed.size with h' | h'
   ·exact h'
   ·simp [h'] at h
  simp [hlt]
theorem qZ {md:Region.Mode} (Inv:Array Bool->Act->World->Prop)
  (hstep:∀ listed a w i o,Inv listed a w->ops[i]?=some o->listed.getD i true=false->(∀ e∈o.after,Region.binds md e=true->listed.getD e.on false=true)->
   if Region.wanted o (yielded ops a.tmps) then (o.wp P a w (fun a' w'=>Inv (listed.setIfInBounds i true) a' w') Q\/(o.asks P a w/\LetsOut Q)) else Inv (listed.setIfInBounds i true) (a.put o.dst undef) w)
  (hend:∀ listed a w,Inv listed a w->Region.ready md ops listed=[]->Q .normal a w) :
  ∀ fuel listed a w,left ops.size listed<=fuel->Inv listed a w->wpAny P md ops Q fuel listed a w:=by
 intro fuel
 induction fuel with
 | zero=>
  intro listed a w hf hi;have hr:Region.ready md ops listed=[]:=by
   apply List.eq_nil_iff_forall_not_mem.2
   intro j hj;obtain ⟨h0,o,ho,_⟩:=mem_ready.1 hj;have hlt:j<ops.size:=(Array.getElem?_eq_some_iff.1 ho).1;have:left ops.size listed=0:=O
   have h1:j∈(List.range ops.size).filter fun i=>!listed.getD i true:=List.mem_filter.2 ⟨List.mem_range.2 hlt,by simpa using h0⟩
   rw [List.eq_nil_of_length_eq_zero this] at h1
   cases h1
  exact ⟨hr,hend _ _ _ hi hr⟩
 | succ fuel ih=>
  intro listed a w hf hi;refine ⟨fun hr=>hend _ _ _ hi hr,fun j hj=>?_⟩
  obtain ⟨h0,o,ho,hall⟩:=mem_ready.1 hj;have hlt:j<ops.size:=(Array.getElem?_eq_some_iff.1 ho).1;have hw:=hstep listed a w j o hi ho h0 hall;unfold wpOp;rw [ho];have hl:left ops.size (listed.setIfInBounds j true)<=fuel:=by
   have:=wj hlt h0;omega
  simp only []
  split
  ·rename_i hq
   rw [if_pos hq] at hw
   exact hw.imp (Oper.wp_mono (fun a' w' h=>ih _ a' w' hl h)) id
  ·rename_i hq
   rw [if_neg hq] at hw
   exact ih _ _ _ hl hw
/-! ### The frame while some are done -/
def JK:List Oper->(Nat->Value)->Nat->Act->Act
 | [],_,_,a=>a
 | o::l,u,i,a=>JK l u (i+1) (a.put o.dst (u i))
theorem Act.Ed (a:Act) (x:Option Tmp) (v u:Value):(a.put x v).put x u=a.put x u:=by
 cases x with
 | none=>rfl
 | some d=>simp [Act.put]
theorem o6:∀ (l:List Oper) (u u':Nat->Value) (k:Nat) (a:Act),(∀ i,k<=i->u i=u' i)->JK l u k a=JK l u' k a
 | [],_,_,_,_,_=>rfl
 | o::l,u,u',k,a,h=>by
  simp only [JK]
  rw [h k (Nat.le_refl _)]
  exact o6 l u u' (k+1) _ fun i hi=>h i O
def distinct:List Oper->Bool
 | []=>true
 | o::l=>(match o.dst with | none=>true | some d=>l.all fun p=>p.dst !=some d)&&distinct l
theorem vR:∀ (l:List Oper) (u:Nat->Value) (k:Nat) (a:Act) (x:Option Tmp) (v:Value),(∀ d,x=some d->∀ p∈l,p.dst≠some d)->(JK l u k a).put x v=JK l u k (a.put x v)
 | [],_,_,_,_,_,_=>rfl
 | o::l,u,k,a,x,v,h=>by
  simp only [JK]
  rw [vR l u (k+1) _ x v fun d hd p hp=>h d hd p (List.mem_cons_of_mem _ hp)]
  rw [Act.put_comm a (x:=o.dst) (y:=x) (u k) v fun d hd hx=>h d hx o (List.mem_cons_self ..) hd]
theorem rm:∀ (l:List Oper) (u:Nat->Value) (k:Nat) (a:Act) (i:Nat) (o:Oper) (v:Value),distinct l=true->l[i]?=some o->
  (JK l u k a).put o.dst v=JK l (fun j=>if j=k+i then v else u j) k a
 | [],_,_,_,_,_,_,_,h=>by simp at h
 | p::l,u,k,a,0,o,v,hd,h=>by
  simp only [List.getElem?_cons_zero,Option.some.injEq] at h
  subst h;simp only [distinct,Bool.and_eq_true] at hd
  simp only [JK]
  rw [vR]
  ·rw [Act.Ed]
   simp only [Nat.add_zero,if_true]
   exact o6 _ _ _ _ _ fun j hj=>by rw [if_neg O]
  ·intro d hx q hq
   rw [hx] at hd
   have:=List.all_eq_true.1 hd.1 q hq;simpa using this
 | p::l,u,k,a,i+1,o,v,hd,h=>by
  simp only [List.getElem?_cons_succ] at h
  simp only [distinct,Bool.and_eq_true] at hd
  simp only [JK]
  rw [rm l u (k+1) _ i o v hd.2 h]
  rw [if_neg (by omega:¬ k=k+(i+1))]
  refine o6 _ _ _ _ _ fun j _=>?_;rw [show k+1+i=k+(i+1) from by omega]
def start:List Oper->Act->Nat->Value
 | l,a,i=>match l[i]? with
  | some o=>(match o.dst with | some d=>a.tmps.getD d undef | none=>undef)
  | none=>undef
theorem DL (a:Act) (x:Option Tmp):a.put x (match x with | some d=>a.tmps.getD d undef | none=>undef)=a:=by
 cases x with
 | none=>rfl
 | some d=>
  obtain ⟨t,ds⟩:=a;simp only [Act.put]
  congr 1
  apply Array.ext_getElem?
  intro i;rw [Array.getElem?_setIfInBounds]
  split
  ·rename_i he
   subst he
   split
   ·rename_i h; simp [h]
   ·rename_i h; simp at h; simp [h]
  ·rfl
theorem qO (a:Act):∀ (l:List Oper) (u:Nat->Value) (k:Nat),(∀ i o,l[i]?=some o->u (k+i)=(match o.dst with | some d=>a.tmps.getD d undef | none=>undef))->JK l u k a=a
 | [],_,_,_=>rfl
 | o::l,u,k,h=>by
  simp only [JK]
  have h0:=h 0 o yas
  rw [Nat.add_zero] at h0
  rw [h0,DL]
  exact qO a l u (k+1) fun i o ho=>by
   have:=h (i+1) o (by simpa using ho)
   rw [show k+1+i=k+(i+1) from by omega]
   exact this
def Deps (Φ:Nat->Value->World->Prop) (u:Nat->Value) (w:World):List Edge->Prop
 | []=>True
 | e::es=>Φ e.on (u e.on) w/\Deps Φ u w es
theorem wM {Φ:Nat->Value->World->Prop} {u:Nat->Value} {w:World}:∀ (l:List Edge),(∀ e∈l,Φ e.on (u e.on) w)->Deps Φ u w l
 | [],_=>trivial
 | e::l,h=>⟨h e (List.mem_cons_self ..),wM l fun x hx=>h x (List.mem_cons_of_mem _ hx)⟩
def Each (P:Program) (ops:Array Oper) (Φ:Nat->Value->World->Prop) (Ψ:Nat->World->Value->World->Prop) (full:List Oper) (a:Act) (w:World):List Oper->Nat->Prop
 | [],_=>True
 | o::l,i=>(∀ u w',Below w.heap.size w w'->Deps Φ u w' o.after.toList->YieldsG P ops o (JK full u 0 a) w' fun v w''=>Below w'.heap.size w' w''/\Ψ i w' v w'')/\Each P ops Φ Ψ full a w l (i+1)
theorem wJ {Φ:Nat->Value->World->Prop} {Ψ:Nat->World->Value->World->Prop} {full:List Oper} {a:Act} {w:World}:∀ (l:List Oper) (k i:Nat) (o:Oper),Each P ops Φ Ψ full a w l k->l[i]?=some o->
  ∀ u w',Below w.heap.size w w'->Deps Φ u w' o.after.toList->YieldsG P ops o (JK full u 0 a) w' fun v w''=>Below w'.heap.size w' w''/\Ψ (k+i) w' v w''
 | [],_,_,_,_,h=>by simp at h
 | p::l,k,0,o,hE,h=>by
  simp only [List.getElem?_cons_zero,Option.some.injEq] at h
  subst h;exact hE.1
 | p::l,k,i+1,o,hE,h=>by
  simp only [List.getElem?_cons_succ] at h
  have:=wJ l (k+1) i o hE.2 h;rw [show k+1+i=k+(i+1) from by omega] at this
  exact this
def shapely (l:List Oper):Bool:=
 distinct l&&l.zipIdx.all fun (o,i)=>o.after.toList.all fun e=>Region.binds .any e&&decide (e.on<i)
def waits (l:List Oper):Bool:=
 (List.range (l.length - 1)).all fun j=>(List.range l.length).any fun i=>decide (j<i)&&(match l[i]? with | some o=>o.after.toList.any fun e=>decide (e.on=j) | none=>false)
theorem nY {l:List Oper} (h:shapely l=true) {i:Nat} {o:Oper} (hi:l[i]?=some o):∀ e∈o.after,Region.binds .any e=true/\e.on<i:=by
 simp only [shapely,Bool.and_eq_true] at h
 have hm:(o,i)∈l.zipIdx:=by
  rw [List.mem_iff_getElem?]
  exact ⟨i,by simp [hi]⟩
 have h2:=List.all_eq_true.1 h.2 _ hm;intro e he;have h3:=List.all_eq_true.1 h2 e (by simpa using he)
 simp only [Bool.and_eq_true,decide_eq_true_eq] at h3
 exact h3
theorem jS {listed:Array Bool} {i:Nat} (h:i<listed.size) (d e:Bool):listed.getD i d=listed.getD i e:=by simp [h]
theorem qM {l:List Oper} (hs:shapely l=true) {listed:Array Bool} (hsz:listed.size=l.length) (hr:Region.ready .any l.toArray listed=[]):∀ i,i<l.length->listed.getD i false=true:=by
 intro i
 induction i using Nat.strongRecOn with
 | _ i ih=>
  intro hi;cases hc:listed.getD i false with
  | true=>rfl
  | false=>
   exfalso
   have hm:i∈Region.ready .any l.toArray listed:=by
    refine mem_ready.2 ⟨?_,l[i],by simp [hi],?_⟩
    ·rw [jS O true false]; exact hc
    ·intro e he _
     have:=(nY hs (i:=i) (o:=l[i]) (by simp [hi])) e he
     exact ih e.on this.2 O
   rw [hr] at hm
   cases hm
theorem vJ {l:List Oper} (h:waits l=true) {j:Nat} (hj:j<l.length - 1):∃ i o,j<i/\l[i]?=some o/\∃ e∈o.after,e.on=j:=by
 have h1:=List.all_eq_true.1 h j (List.mem_range.2 hj);obtain ⟨i,hi,h2⟩:=List.any_eq_true.1 h1;simp only [Bool.and_eq_true,decide_eq_true_eq] at h2
 obtain ⟨h3,h4⟩:=h2;cases ho:l[i]? with
 | none=>rw [ho] at h4; cases h4
 | some o=>
  rw [ho] at h4
  obtain ⟨e,he,h5⟩:=List.any_eq_true.1 h4;exact ⟨i,o,h3,ho,e,by simpa using he,by simpa using h5⟩
theorem gS (n i:Nat):(Array.replicate n false).getD i false=false:=by
 simp only [Array.getD_eq_getD_getElem?,Array.getElem?_replicate]
 split <;> rfl
def chained (l:List Oper) (k:Nat):Bool:=
 l.zipIdx.all fun (o,i)=>decide (i<k+1)||o.after.toList.any fun e=>decide (e.on+1=i)
theorem nX {l:List Oper} {k:Nat} (h:chained l k=true) {i:Nat} {o:Oper} (hi:l[i]?=some o) (hk:k<i):∃ e∈o.after,e.on+1=i:=by
 have hm:(o,i)∈l.zipIdx:=by
  rw [List.mem_iff_getElem?]
  exact ⟨i,by simp [hi]⟩
 have h2:=List.all_eq_true.1 h _ hm;simp only [Bool.or_eq_true,decide_eq_true_eq] at h2
 rcases h2 with h2 | h2
 ·omega
 ·obtain ⟨e,he,h3⟩:=List.any_eq_true.1 h2
  exact ⟨e,by simpa using he,by simpa using h3⟩
def drawnOk (L:List Oper) (k:Nat):Bool:=shapely L&&waits (L.take (k+1))&&chained L k&&decide (k<L.length)
theorem oH {α:Type} {L:List α} {k j:Nat} (h:j<k):(L.take k)[j]?=L[j]?:=by
 rw [List.getElem?_take,if_pos h]
def DInv (P:Program) (Q:Exit->Act->World->Prop) (L:List Oper) (k:Nat) (Φ:Nat->Value->World->Prop) (Dis:Nat->Nat->Value->Value->Prop) (a:Act) (w0:World) (listed:Array Bool) (a':Act) (w':World):Prop:=
 listed.size=L.length/\(((∀ j,k<=j->listed.getD j false=false)/\(∀ i o,L[i]?=some o->listed.getD i false=true->∀ e∈o.after,listed.getD e.on false=true)/\
   ∃ u,a'=JK (L.take k) u 0 a/\Below w0.heap.size w0 w'/\(∀ i,listed.getD i false=true->Φ i (u i) w')/\∀ i j,i≠j->listed.getD i false=true->listed.getD j false=true->Dis i j (u i) (u j))\/
  ∃ j,k<j/\j<=L.length/\(∀ i,i<j->listed.getD i false=true)/\(∀ i,j<=i->listed.getD i false=false)/\wpList P L.toArray Q (L.drop j) a' w')
theorem Dk {id:Nat} {L:List Oper} {a:Act} {w:World} (k:Nat) (Φ:Nat->Value->World->Prop) (Ψ:Nat->World->Value->World->Prop) (Dis:Nat->Nat->Value->Value->Prop) (hm:P.follows .mixedOrders=true)
  (hs:drawnOk L k=true)
  (hst:∀ i v w1 w2,Φ i v w1->Below w1.heap.size w1 w2->Φ i v w2)
  (hΨ:∀ i v w' w'',Below w.heap.size w w'->Ψ i w' v w''->Φ i v w'') (hdis:∀ i j v v2 w' w'',Ψ i w' v w''->Φ j v2 w'->Dis i j v v2/\Dis j i v2 v)
  (he:Each P L.toArray Φ Ψ (L.take k) a { w with drawn:=w.drawn+1 } (L.take k) 0)
  (hl:∀ u w',Below w.heap.size w w'->(∀ i,i<k->Φ i (u i) w')->(∀ i j,i<k->j<k->i≠j->Dis i j (u i) (u j))->wpList P L.toArray Q (L.drop k) (JK (L.take k) u 0 a) w') :
  (Code.region id L.toArray true).wp P Q a w:=by
 simp only [drawnOk,Bool.and_eq_true,decide_eq_true_eq] at hs
 obtain ⟨⟨⟨hs,hw⟩,hch⟩,hkl⟩:=hs;refine wp_region_any hm ?_
 let w0:World:={ w with drawn:=w.drawn+1 }
 have hB0:Below w.heap.size w w0:=⟨rfl,rfl,rfl,Nat.le_refl _,fun _ _=>rfl⟩
 have hlt:(L.take (k+1)).length=k+1:=by simp; omega
 have hdist:distinct (L.take k)=true:=by
  have hd:distinct L=true:=by simp only [shapely,Bool.and_eq_true] at hs; exact hs.1
  clear he hl hw hch hkl hs hlt
  induction L generalizing k with
  | nil=>simp [distinct]
  | cons o l ih=>
   cases k with
   | zero=>simp [distinct]
   | succ k=>
    simp only [distinct,Bool.and_eq_true] at hd
    simp only [List.take_succ_cons,distinct,Bool.and_eq_true]
    refine ⟨?_,ih k hd.2⟩;cases hdst:o.dst with
    | none=>rfl
    | some d=>
     rw [hdst] at hd
     exact List.all_eq_true.2 fun p hp=>List.all_eq_true.1 hd.1 p (List.mem_of_mem_take hp)
 refine qZ (DInv P Q L k Φ Dis a w0) ?_ ?_ _ _ _ _ ?_ ?_
 ·intro listed a' w' i oi hi ho h0 hall
  have ho':L[i]?=some oi:=by simpa using ho
  have hed:=nY hs ho';have hil:i<L.length:=(List.getElem?_eq_some_iff.1 ho').1;obtain ⟨hsz,hi⟩:=hi;have hf:listed.getD i false=false:=by rw [jS O false true]; exact h0
  have tail:∀ j b v,j=i->wpList P L.toArray Q (L.drop j) b v->(∀ q,q<j->listed.getD q false=true)->(∀ q,j<=q->listed.getD q false=false)->k<=j->
    if Region.wanted oi (yielded L.toArray b.tmps) then (oi.wp P b v (DInv P Q L k Φ Dis a w0 (listed.setIfInBounds i true)) Q\/(oi.asks P b v/\LetsOut Q)) else DInv P Q L k Φ Dis a w0 (listed.setIfInBounds i true) (b.put oi.dst undef) v:=by
   intro j b v hji hwp hlow hhigh hkj;subst hji;have hd:L.drop j=oi::L.drop (j+1):=by
    rw [List.drop_eq_getElem_cons hil]
    have:L[j]=oi:=by simpa [List.getElem?_eq_getElem hil] using ho'
    rw [this]
   rw [hd] at hwp
   unfold wpList at hwp
   have key:∀ a'' w'',wpList P L.toArray Q (L.drop (j+1)) a'' w''->DInv P Q L k Φ Dis a w0 (listed.setIfInBounds j true) a'' w'':=by
    intro a'' w'' h;refine ⟨by simpa using hsz,.inr ⟨j+1,O,O,fun q hq=>?_,fun q hq=>?_,h⟩⟩
    ·by_cases hqj:q=j
     ·subst hqj; simp [hsz,hil]
     ·exact getD_set_true (hlow q O)
    ·rw [getD_set_ne false O]; exact hhigh q O
   split
   ·rename_i hq
    rw [if_pos hq] at hwp
    exact hwp.imp (Oper.wp_mono key) (fun h=>h)
   ·rename_i hq
    rw [if_neg hq] at hwp
    exact key _ _ hwp
  rcases hi with ⟨htail,hclosed,u,ha,hB,Iz,hDs⟩ | ⟨j,hkj,hjl,hlow,hhigh,hwp⟩
  ·subst ha
   by_cases hik:i<k
   ·-- one of the free ones
    have hoi:(L.take k)[i]?=some oi:=by rw [oH hik]; exact ho'
    have hy:=wJ (L.take k) 0 i oi he hoi u w' hB (wM _ fun e hee=>Iz e.on (hall e (by simpa using hee) (hed e (by simpa using hee)).1))
    refine hy.wp fun v w'' ⟨hB2,hv⟩=>⟨by simpa using hsz,.inl ⟨?_,?_,(fun j=>if j=0+i then v else u j),rm _ _ _ _ _ _ _ hdist hoi,hB.trans (hB2.mono hB.size),?_,?_⟩⟩
    ·intro q hq; rw [getD_set_ne false O]; exact htail q hq
    ·intro q oq hq hlq e hee
     by_cases hqi:q=i
     ·subst hqi
      rw [hq] at ho'
      cases ho'
      exact getD_set_true (hall e hee (hed e hee).1)
     ·rw [getD_set_ne false (Ne.symm hqi)] at hlq
      exact getD_set_true (hclosed q oq hq hlq e hee)
    ·intro q hlq
     rw [Nat.zero_add] at hv
     show Φ q (if q=0+i then v else u q) w''
     rw [Nat.zero_add]
     by_cases hqi:q=i
     ·subst hqi; rw [if_pos rfl]; exact hΨ _ _ _ _ (hB0.trans hB) hv
     ·rw [if_neg hqi]
      rw [getD_set_ne false (Ne.symm hqi)] at hlq
      exact hst _ _ _ _ (Iz q hlq) hB2
    ·intro q q2 hqq hlq hlq2
     rw [Nat.zero_add] at hv
     show Dis q q2 (if q=0+i then v else u q) (if q2=0+i then v else u q2)
     rw [Nat.zero_add]
     by_cases hqi:q=i
     ·subst hqi
      rw [if_pos rfl,if_neg (Ne.symm hqq)]
      rw [getD_set_ne false hqq] at hlq2
      exact (hdis _ _ _ _ _ _ hv (Iz q2 hlq2)).1
     ·rw [if_neg hqi]
      rw [getD_set_ne false (Ne.symm hqi)] at hlq
      by_cases hqi2:q2=i
      ·subst hqi2
       rw [if_pos rfl]
       exact (hdis _ _ _ _ _ _ hv (Iz q hlq)).2
      ·rw [if_neg hqi2]
       rw [getD_set_ne false (Ne.symm hqi2)] at hlq2
       exact hDs q q2 hqq hlq hlq2
   ·-- the first of the tail
    have hik2:i=k:=by
     rcases Nat.lt_or_ge k i with h | h
     ·obtain ⟨e,hee,hei⟩:=nX hch ho' h
      have h1:=hall e hee (hed e hee).1;rw [htail e.on O] at h1
      cases h1
     ·omega
    subst hik2;have hlisted:∀ j,j<i->listed.getD j false=true:=by
     have key:∀ d j,j+d=i->0<d->listed.getD j false=true:=by
      intro d
      induction d using Nat.strongRecOn with
      | _ d ih=>
       intro j hj hd;obtain ⟨q,oq,hjq,hoq,e,hee,hej⟩:=vJ hw (j:=j) O;have hqlt:q<(L.take (i+1)).length:=(List.getElem?_eq_some_iff.1 hoq).1;rw [oH O] at hoq
       by_cases hqi:q=i
       ·subst hqi
        rw [ho'] at hoq
        cases hoq
        have:=hall e hee (hed e hee).1;rw [hej] at this
        exact this
       ·have h1:=ih (i - q) O q O O
        have:=hclosed q oq hoq h1 e hee;rw [hej] at this
        exact this
     intro j hj;exact key (i - j) j O O
    exact tail i _ _ rfl (hl u w' (hB0.trans hB) (fun j hj=>Iz j (hlisted j hj)) fun j j2 hj hj2 hne=>hDs j j2 hne (hlisted j hj) (hlisted j2 hj2)) hlisted htail (Nat.le_refl _)
  ·have hij:i=j:=by
    rcases Nat.lt_trichotomy i j with h | h | h
    ·rw [hlow i h] at hf; cases hf
    ·exact h
    ·obtain ⟨e,hee,hei⟩:=nX hch ho' O
     have h1:=hall e hee (hed e hee).1;rw [hhigh e.on O] at h1
     cases h1
   exact tail j _ _ hij.symm hwp hlow hhigh O
 ·intro listed a' w' hi hr
  obtain ⟨hsz,hi⟩:=hi;have hall:=qM hs hsz hr
  rcases hi with ⟨htail,_⟩ | ⟨j,hkj,hjl,hlow,hhigh,hwp⟩
  ·have:=hall k hkl
   rw [htail k (Nat.le_refl _)] at this
   cases this
  ·have hj:j=L.length:=by
    rcases Nat.lt_or_ge j L.length with h | h
    ·have:=hall j h
     rw [hhigh j (Nat.le_refl _)] at this
     cases this
    ·omega
   subst hj;rw [List.drop_length] at hwp
   exact hwp
 ·have:∀ n (b:Array Bool),left n b<=n:=fun n b=>by
   unfold left;exact Nat.le_trans (List.length_filter_le _ _) yas
  exact this _ _
 ·refine ⟨by simp,.inl ⟨fun j _=>gS _ _,fun i oi hoi h=>?_,start (L.take k) a,?_,Below.refl _ _,fun i h=>?_,fun i j _ h=>?_⟩⟩
  ·rw [gS] at h; cases h
  ·refine (qO a _ _ _ fun i oi hoi=>?_).symm
   simp only [start,Nat.zero_add,hoi]
  ·rw [gS] at h; cases h
  ·rw [gS] at h; cases h
end
end Go.Proofs.YtbbipmelhmgmfaaGreat

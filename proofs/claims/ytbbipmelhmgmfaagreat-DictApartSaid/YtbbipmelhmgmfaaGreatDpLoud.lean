/- Ours. -/
import Derived.Test.YtbbipmelhmgmfaaGreatDpMem
set_option linter.all false
set_option maxRecDepth 100000
set_option maxHeartbeats 20000000
namespace Go.Proofs.YtbbipmelhmgmfaaGreat
open Go.RowKit
def RepL {R:Type} (P:Program) (E:Enc R):Nat→T R→(Nat→Prop)→World→Value→Prop
 | _,.cut,_,_,_=>False
 | _,.done r,_,_,v=>v=.agg (zph true (E.cells r) 0 0 0 0 .nilFunc)
 | 0,.act op at_ a b _,_,_,v=>∃ (f:FuncId) (first cap:List Value),zpf P f=true∧v=.agg (zph false E.zero op at_ a b (.func (.func f) first.toArray cap.toArray))
 | m+1,.act op at_ a b k,F,w,v=>∃ (f:FuncId) (first cap:List Value),zpf P f=true∧v=.agg (zph false E.zero op at_ a b (.func (.func f) first.toArray cap.toArray))∧
   ∀ x w',Same F w w'→w.heap.size≤w'.heap.size→
    Calls P f (first++[Value.int .u64 x]++cap).toArray w' fun e w''=>∃ v',e=.returned v'∧Chg F w' w''∧RepL P E m (k x) (grow F w' w'') w'' v'
def zpj {R:Type} (P:Program) (E:Enc R) (n:Nat) (t:T R) (F:Nat→Prop) (w:World):Ending→World→Prop:=
 fun e w'=>∃ v,e=.returned v∧Chg F w w'∧RepL P E n t (grow F w w') w' v
def FnLAt {R α:Type} (P:Program) (E:Enc R) (enc:α→List Value) (m:Nat) (F:Nat→Prop) (w:World) (f:FuncId) (first cap:List Value) (g:α→T R):Prop:=
 ∀ x w',Same F w w'→w.heap.size≤w'.heap.size→Calls P f (first++enc x++cap).toArray w' (zpj P E m (g x) F w')
def FnL {R α:Type} (P:Program) (E:Enc R) (enc:α→List Value) (n:Nat) (F:Nat→Prop) (w:World) (fv:Value) (g:α→T R):Prop:=
 ∃ (f:FuncId) (first cap:List Value),zpf P f=true∧fv=.func (.func f) first.toArray cap.toArray∧∀ m,m<n→FnLAt P E enc m F w f first cap g
section
variable {R : Type} {P : Program} {E : Enc R}
theorem Chg.weakZ {Z Z':Nat→Prop} {w w':World} (h:Chg Z w w') (hz:∀ b,Z b→Z' b):Chg Z' w w':=⟨h.os,h.tape,h.output,h.size,fun b hb hn=>h.block b hb fun h=>hn (hz b h)⟩
theorem Chg.zpv {Z:Nat→Prop} {w w':World} (h:Below w.heap.size w w'):Chg Z w w':=(Chg.of_below h).weakZ fun _ h=>h.elim
theorem zpO {F:Nat→Prop} {w0 w:World} (hF:∀ b,F b→b<w0.heap.size) (hB:w0.heap.size≤w.heap.size) (r:Nat):∀ b,(fun b=>F b∨(w0.heap.size≤b∧b<w.heap.size∧b≠r)) b→b<w.heap.size:=by
 rintro b (h | h)
 ·exact ai (hF b h) hB
 ·exact h.2.1
theorem Chg.thenB {Z:Nat→Prop} {w0 w w':World} (h:Chg Z w0 w) (h':Below w.heap.size w w'):Chg Z w0 w':=h.trans (Chg.of_below h') fun _ _ h=>h.elim
theorem Chg.zpI {Z:Nat→Prop} {w0 w w':World} {b:Nat} {o:Obj} (h:Chg Z w0 w) (h':Upd w w' b o) (hb:w0.heap.size≤b∨Z b):Chg Z w0 w':=
 ⟨h'.os.trans h.os,h'.tape.trans h.tape,h'.output.trans h.output,by rw [h'.size]; exact h.size,fun k hk hn=>(h'.other k fun e=>by subst e; rcases hb with hb | hb; omega; exact hn hb).trans (h.block k hk hn)⟩
theorem Chg.zpK {Z Z':Nat→Prop} {w0 w w':World} (h:Chg Z w0 w) (h':Chg Z' w w') (hz:∀ b,b<w0.heap.size→Z' b→Z b):Chg Z w0 w':=h.trans h' hz
theorem zpE {Z:Nat→Prop} {w w':World} {b:Nat} {o:Obj} (h:Chg Z w w') (hb:w.heap[b]?=some o) (hn:¬ Z b):w'.heap[b]?=some o:=(h.block b (ah hb) hn).trans hb
theorem zhT {w:World} {b b':Nat} {c c':Array Value} {T T':TypeId} {z z':Nat × Nat} (h:w.heap[b]?=some (.cells c T z)) (h':w.heap[b']?=some (.cells c' T' z')) (hT:(T==T')=false):b≠b':=by
 intro e;subst e;rw [h] at h'
 simp only [Option.some.injEq,Obj.cells.injEq] at h'
 rw [h'.2.1] at hT
 simp at hT
theorem zle {F F':Nat→Prop} {w w':World} (hs:∀ b,F b→F' b):∀ b,grow F w w' b→grow F' w w' b:=fun b hb=>hb.imp (hs b) id
theorem RepL.mono {F F':Nat→Prop} {w w':World} (hs:∀ b,F b→F' b) (h1:Same F w w') (h2:w.heap.size≤w'.heap.size) :
  ∀ (n:Nat) (t:T R) (v:Value),RepL P E n t F w v→RepL P E n t F' w' v
 | _,.cut,_,h=>by unfold RepL at h; exact h.elim
 | _,.done _,_,h=>by unfold RepL at h ⊢; exact h
 | 0,.act ..,_,h=>by unfold RepL at h ⊢; exact h
 | m+1,.act op at_ a b k,v,h=>by
  unfold RepL at h ⊢
  obtain ⟨f,first,cap,hc,hv,h⟩:=h;refine ⟨f,first,cap,hc,hv,fun x w'' hs' hz=>?_⟩
  refine (h x w'' (h1.trans (hs'.sub hs)) kw).mono ?_;rintro e w3 ⟨v',he,hb,hr⟩;exact ⟨v',he,hb.weakZ hs,RepL.mono (zle hs) (Same.refl _ _) (Nat.le_refl _) m _ _ hr⟩
theorem RepL.down {F:Nat→Prop} {w:World}:∀ {n m:Nat} {t:T R} {v:Value},m≤n→RepL P E n t F w v→RepL P E m t F w v
 | _,_,.cut,_,_,h=>by unfold RepL at h; exact h.elim
 | _,_,.done _,_,_,h=>by unfold RepL at h ⊢; exact h
 | 0,m,.act ..,_,hm,h=>by
  obtain rfl:m=0:=kw
  exact h
 | n+1,0,.act ..,_,_,h=>by
  unfold RepL at h ⊢
  obtain ⟨f,first,cap,hc,hv,_⟩:=h;exact ⟨f,first,cap,hc,hv⟩
 | n+1,m+1,.act op at_ a b k,v,hm,h=>by
  unfold RepL at h ⊢
  obtain ⟨f,first,cap,hc,hv,h⟩:=h;refine ⟨f,first,cap,hc,hv,fun x w'' hs' hz=>?_⟩
  refine (h x w'' hs' hz).mono ?_;rintro e w3 ⟨v',he,hb,hr⟩;exact ⟨v',he,hb,RepL.down kw hr⟩
theorem RepL.shape {F:Nat→Prop} {w:World}:∀ {n:Nat} {t:T R} {v:Value},RepL P E n t F w v→Shape E v
 | _,.cut,_,h=>by unfold RepL at h; exact h.elim
 | _,.done r,_,h=>by
  unfold RepL at h; subst h
  exact ⟨_,rfl,by simp [zph,E.len],by simp [zph,plainCell,E.plain r]⟩
 | 0,.act ..,_,h=>by
  unfold RepL at h; obtain ⟨_,_,_,_,rfl⟩:=h
  exact ⟨_,rfl,by simp [zph,E.zlen],by simp [zph,plainCell,E.zplain]⟩
 | m+1,.act ..,_,h=>by
  unfold RepL at h; obtain ⟨_,_,_,_,rfl,_⟩:=h
  exact ⟨_,rfl,by simp [zph,E.zlen],by simp [zph,plainCell,E.zplain]⟩
theorem Rep.loud:∀ {n:Nat} {t:T R} {F:Nat→Prop} {w:World} {v:Value},Rep P E n t F w v→RepL P E n t F w v
 | _,.cut,_,_,_,h=>by unfold Rep at h; exact h.elim
 | _,.done _,_,_,_,h=>by unfold Rep at h; unfold RepL; exact h
 | 0,.act ..,_,_,_,h=>by unfold Rep at h; unfold RepL; exact h
 | m+1,.act op at_ a b k,F,w,v,h=>by
  unfold Rep at h; unfold RepL
  obtain ⟨f,first,cap,hc,hv,h⟩:=h;refine ⟨f,first,cap,hc,hv,fun x w'' hs' hz=>?_⟩
  refine (h x w'' hs' hz).mono ?_;rintro e w3 ⟨v',he,hb,hr⟩;exact ⟨v',he,Chg.zpv hb,hr.loud⟩
theorem RepL.ziT {n:Nat} {F:Nat→Prop} {w:World} {op at_ a b:Int} {k:Int→T R} {fv:Value} (h:FnL P E u64 n F w fv k) :
  RepL P E n (.act op at_ a b k) F w (.agg (zph false E.zero op at_ a b fv)):=by
 obtain ⟨f,first,cap,hc,rfl,h⟩:=h;cases n with
 | zero=>unfold RepL; exact ⟨f,first,cap,hc,rfl⟩
 | succ m=>unfold RepL; exact ⟨f,first,cap,hc,rfl,fun x w' h1 h2=>h m (Nat.lt_succ_self _) x w' h1 h2⟩
theorem RepL.zgO {n:Nat} {F:Nat→Prop} {w:World} {r:R}:RepL P E n (.done r) F w (.agg (zph true (E.cells r) 0 0 0 0 .nilFunc)):=by unfold RepL; rfl
theorem FnLAt.mono {α:Type} {enc:α→List Value} {m:Nat} {F F':Nat→Prop} {w w':World} {f:FuncId} {first cap:List Value} {g:α→T R} (h:FnLAt P E enc m F w f first cap g)
  (hs:∀ b,F b→F' b) (h1:Same F w w') (h2:w.heap.size≤w'.heap.size):FnLAt P E enc m F' w' f first cap g:=fun x w'' hs' hz=>by
 refine (h x w'' (h1.trans (hs'.sub hs)) kw).mono ?_;rintro e w3 ⟨v',he,hb,hr⟩;exact ⟨v',he,hb.weakZ hs,RepL.mono (zle hs) (Same.refl _ _) (Nat.le_refl _) m _ _ hr⟩
theorem FnL.mono {α:Type} {enc:α→List Value} {n n':Nat} {F F':Nat→Prop} {w w':World} {fv:Value} {g:α→T R} (h:FnL P E enc n F w fv g) (hn:n'≤n)
  (hs:∀ b,F b→F' b) (h1:Same F w w') (h2:w.heap.size≤w'.heap.size):FnL P E enc n' F' w' fv g:=by
 obtain ⟨f,first,cap,hc,hv,h⟩:=h;exact ⟨f,first,cap,hc,hv,fun m hm=>(h m kw).mono hs h1 h2⟩
theorem RepL.zcG {n:Nat} {F:Nat→Prop} {w:World} {op at_ a b:Int} {k:Int→T R} {v:Value} (h:RepL P E n (.act op at_ a b k) F w v) :
  ∃ (f:FuncId) (first cap:List Value),zpf P f=true∧v=.agg (zph false E.zero op at_ a b (.func (.func f) first.toArray cap.toArray))∧FnL P E u64 n F w (.func (.func f) first.toArray cap.toArray) k:=by
 cases n with
 | zero=>
  unfold RepL at h
  obtain ⟨f,first,cap,hc,hv⟩:=h;exact ⟨f,first,cap,hc,hv,f,first,cap,hc,rfl,fun m hm=>absurd hm (Nat.not_lt_zero m)⟩
 | succ q=>
  unfold RepL at h
  obtain ⟨f,first,cap,hc,hv,hk⟩:=h;refine ⟨f,first,cap,hc,hv,f,first,cap,hc,rfl,fun m hm x w' h1 h2=>?_⟩
  refine (hk x w' h1 h2).mono ?_;rintro e w'' ⟨v',he,hb,hr⟩;exact ⟨v',he,hb,RepL.down kw hr⟩
theorem FnL.at_ {α:Type} {enc:α→List Value} {n:Nat} {F:Nat→Prop} {w:World} {f:FuncId} {first cap:List Value} {g:α→T R} (h:FnL P E enc n F w (.func (.func f) first.toArray cap.toArray) g) :
  zpf P f=true∧∀ m,m<n→FnLAt P E enc m F w f first cap g:=by
 obtain ⟨f',first',cap',hc,he,hf⟩:=h;simp only [Value.func.injEq,Fn.func.injEq] at he
 obtain ⟨e1,e2,e3⟩:=he;have e2':first=first':=by simpa using congrArg Array.toList e2
 have e3':cap=cap':=by simpa using congrArg Array.toList e3
 subst e1; subst e2'; subst e3';exact ⟨hc,hf⟩
theorem zpj.fin {n:Nat} {t:T R} {F F1:Nat→Prop} {w0 w1 w2 w3:World} {r:Nat} {o:Obj} {v:Value} (hB:Chg F w0 w3) (hr:RepL P E n t (grow F1 w1 w2) w2 v)
  (hu:Upd w2 w3 r o) (hF:∀ b,F1 b→F b∨(w0.heap.size≤b∧b<w1.heap.size)) (hFr:¬ F1 r) (hr1:r<w1.heap.size) (h01:w0.heap.size≤w1.heap.size) (h12:w1.heap.size≤w2.heap.size) :
  zpj P E n t F w0 (.returned v) w3:=by
 refine ⟨v,rfl,hB,RepL.mono ?_ ?_ (by rw [hu.size]; exact Nat.le_refl _) n t v hr⟩
 ·rintro b (hb | ⟨hb1,hb2⟩)
  ·rcases hF b hb with h | ⟨h1,h2⟩
   ·exact .inl h
   ·exact .inr ⟨h1,by rw [hu.size]; omega⟩
  ·exact .inr ⟨kw,by rw [hu.size]; omega⟩
 ·rintro b (hb | ⟨hb1,hb2⟩)
  ·exact hu.other b (fun e=>hFr (e ▸ hb))
  ·exact hu.other b kw
end
section
variable {P : Program} {Q : Exit → Act → World → Prop} {L : List Oper} {a : Act} {w : World} {N : Nat} {s : SL} {S : Nat → Prop}
theorem zdw {fs:Nat→Fact w.heap.size S} {o:Oper} {l:List Oper} {i:Nat} (r:Fr a N s) (hd:(o.guard.isNone&&dstsIn N L)=true) (he:early L (fun i=>(fs i).sh) i=true)
  (h:∀ a' g w',Below w.heap.size w w'→(∀ j,zpR o j=true→(fs j).ok g j w'∧w.heap.size≤(g j).lo∧(g j).hi≤w'.heap.size∧∀ q,zpR o q=true→q≠j→(g j).hi≤(g q).lo∨(g q).hi≤(g j).lo)→Fr a' N (putsS L (fun j=>(g j).v) 0 s)→
   Yields P o a' w' fun v w''=>(fs i).mk g v w' w'') (h2:EachF P L fs a w l (i+1)):EachF P L fs a w (o::l) i:=by
 simp only [Bool.and_eq_true] at hd
 exact ⟨fun g w' h1 h3 h4 h5 h6 h7=>.plain hd.1 (h _ g w' ⟨h1,h3,h4,h5,fun b hb=>h6 b hb (.inr he)⟩ h7 (r.puts L _ 0 hd.2)),h2⟩
theorem zaW {fs:Nat→Fact w.heap.size S} {o:Oper} {l:List Oper} {i:Nat} (r:Fr a N s) (hd:(o.guard.isNone&&dstsIn N L)=true)
  (h:∀ a' g w',Chg S w w'→(∀ j,zpR o j=true→(fs j).ok g j w'∧w.heap.size≤(g j).lo∧(g j).hi≤w'.heap.size∧∀ q,zpR o q=true→q≠j→(g j).hi≤(g q).lo∨(g q).hi≤(g j).lo)→Fr a' N (putsS L (fun j=>(g j).v) 0 s)→
   Yields P o a' w' fun v w''=>(fs i).mk g v w' w'') (h2:EachF P L fs a w l (i+1)):EachF P L fs a w (o::l) i:=by
 simp only [Bool.and_eq_true] at hd
 exact ⟨fun g w' h1 h3 h4 h5 h6 h7=>.plain hd.1 (h _ g w' ⟨h1,h3,h4,h5,fun b hb hn=>h6 b hb (.inl hn)⟩ h7 (r.puts L _ 0 hd.2)),h2⟩
theorem zeq {id:Nat} (k:Nat) (S:Nat→Prop) (fl:List (Fact w.heap.size S)) (hm:P.follows .mixedOrders=true) (r:Fr a N s) (hSB:∀ b,S b→b<w.heap.size) (hs:(drawnOk L k&&shapely (L.take k)&&noGuards (L.take k)&&(freely (L.take k) (fun i=>(fact fl i).sh)&&dstsIn N (L.take k)&&okW (L.take k) fl))=true)
  (he:EachF P (L.take k) (fact fl) a { w with drawn:=w.drawn+1 } (L.take k) 0)
  (hl:∀ a' g w',Chg S w w'→(∀ i,Nat.ble (i+1) (L.take k).length=true→(fact fl i).ok g i w'∧w.heap.size≤(g i).lo∧(g i).lo≤(g i).hi∧(g i).hi≤w'.heap.size)→
   (∀ i j,(!(i==j)&&Nat.ble (i+1) (L.take k).length&&Nat.ble (j+1) (L.take k).length)=true→(g i).hi≤(g j).lo∨(g j).hi≤(g i).lo)→Fr a' N (putsS (L.take k) (fun j=>(g j).v) 0 s)→wpList P L.toArray Q (L.drop k) a' w') :
  (Code.region id L.toArray true).wp P Q a w:=by
 simp only [Bool.and_eq_true] at hs
 obtain ⟨⟨⟨hs1,hs2⟩,hs3⟩,hs⟩:=hs;refine zmf hm hs1 hs2 hs3 (zkL (fact fl) (zmk hs.2) rfl hSB hs.1.1 (zm9 hs.2) he fun g w' h1 h2 h3 h4 h5 h6 h7=>⟨rfl,hl _ g w' ⟨h1,h2,h3,h4,fun b hb hn=>h5 b hb hn⟩ (fun i hi=>h6 i (Nat.le_of_ble_eq_true hi)) (fun i j hij=>?_) (r.puts (L.take k) _ 0 hs.1.2)⟩)
 simp only [Bool.and_eq_true,Bool.not_eq_true',beq_eq_false_iff_ne] at hij
 exact h7 i j hij.1.1 (Nat.le_of_ble_eq_true hij.1.2) (Nat.le_of_ble_eq_true hij.2)
end
def StepE {R:Type} (P:Program) (E:Enc R) (n:Nat) (t:T R) (F:Nat→Prop):Value→Nat→Nat→World→Prop:=fun v lo hi w=>RepL P E n t (fun b=>F b∨(lo≤b∧b<hi)) w v
theorem StepE.st {R:Type} {P:Program} {E:Enc R} {n:Nat} {t:T R} {F:Nat→Prop} {B:Nat} (hF:∀ b,F b→b<B):∀ v lo hi w1 w2,StepE P E n t F v lo hi w1→Kept B (fun _=>False) lo hi w1 w2→StepE P E n t F v lo hi w2:=by
 rintro v lo hi w1 w2 h ⟨_,_,_,hz,hk⟩;refine RepL.mono (fun b hb=>hb) (fun b hb=>hk b ?_) hz n _ _ h
 rcases hb with hb | hb
 ·exact .inl ⟨hF b hb,fun h=>h⟩
 ·exact .inr hb
section
variable {P : Program} {a : Act} {w : World} {d : Option Tmp} {ty : TypeId} {pos : String} {aft : Array Edge}
variable {ops : Array Oper} {Q : Exit → Act → World → Prop} {rest : List Oper} {N : Nat} {s : SL}
theorem kJ {R:Type} {E:Enc R} {m:Nat} {t:T R} {F:Nat→Prop} {f:FuncId} {xs:List Operand} {ts:Array TypeId} {args:List Value} (hfr:Fr a N s) (hc:Calls P f args.toArray w (zpj P E m t F w)) (hx:xs.map (lookO s)=args)
  (hf:zpf P f=true) (hg:dstIn N d=true) (hk:∀ {a} w' v,Chg F w w'→RepL P E m t (grow F w w') w' v→Fr a N (putS s d v)→wpList P ops Q rest a w'):wpList P ops Q (⟨d,.call ⟨.value (.func f),xs.toArray,ts⟩,ty,pos,aft,none⟩::rest) a w:=
 kC hfr hc hx hf hg (by rintro _ w' ⟨v,rfl,hb,hr⟩; exact ⟨_,rfl,fun a r=>hk w' v hb hr r⟩)
end
end Go.Proofs.YtbbipmelhmgmfaaGreat

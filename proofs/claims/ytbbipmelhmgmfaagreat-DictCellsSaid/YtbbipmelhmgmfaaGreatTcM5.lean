/- Some of our texts, one behind the other. -/
import Derived.Test.YtbbipmelhmgmfaaGreatTcM4
import Derived.Test.YtbbipmelhmgmfaaGreatRows
set_option linter.all false
set_option maxRecDepth 100000
set_option maxHeartbeats 20000000
/- Ours. -/
namespace Go.Proofs.YtbbipmelhmgmfaaGreat
open Go.RowKit
def RepL {R:Type} (P:Program) (E:Enc R):Nat→T R→(Nat→Prop)→World→Value→Prop
  | _,.cut,_,_,_=>False
  | _,.done r,_,_,v=>v=.agg (progCells true (E.cells r) 0 0 0 0 .nilFunc)
  | 0,.act op at_ a b _,_,_,v=>∃ (f:FuncId) (first cap:List Value),callable P f=true∧v=.agg (progCells false E.zero op at_ a b (.func (.func f) first.toArray cap.toArray))
  | m+1,.act op at_ a b k,F,w,v=>∃ (f:FuncId) (first cap:List Value),callable P f=true∧v=.agg (progCells false E.zero op at_ a b (.func (.func f) first.toArray cap.toArray))∧
      ∀ x w',Same F w w'→w.heap.size≤w'.heap.size→
        Calls P f (first++[Value.int .u64 x]++cap).toArray w' fun e w''=>∃ v',e=.returned v'∧Chg F w' w''∧RepL P E m (k x) (grow F w' w'') w'' v'
def RepResL {R:Type} (P:Program) (E:Enc R) (n:Nat) (t:T R) (F:Nat→Prop) (w:World):Ending→World→Prop:=
  fun e w'=>∃ v,e=.returned v∧Chg F w w'∧RepL P E n t (grow F w w') w' v
def FnLAt {R α:Type} (P:Program) (E:Enc R) (enc:α→List Value) (m:Nat) (F:Nat→Prop) (w:World) (f:FuncId) (first cap:List Value) (g:α→T R):Prop:=
  ∀ x w',Same F w w'→w.heap.size≤w'.heap.size→Calls P f (first++enc x++cap).toArray w' (RepResL P E m (g x) F w')
def FnL {R α:Type} (P:Program) (E:Enc R) (enc:α→List Value) (n:Nat) (F:Nat→Prop) (w:World) (fv:Value) (g:α→T R):Prop:=
  ∃ (f:FuncId) (first cap:List Value),callable P f=true∧fv=.func (.func f) first.toArray cap.toArray∧∀ m,m<n→FnLAt P E enc m F w f first cap g
section
variable {R : Type} {P : Program} {E : Enc R}
theorem Chg.weakZ {Z Z':Nat→Prop} {w w':World} (h:Chg Z w w') (hz:∀ b,Z b→Z' b):Chg Z' w w':=⟨h.os,h.tape,h.output,h.size,fun b hb hn=>h.block b hb fun h=>hn (hz b h)⟩
theorem Chg.belowZ {Z:Nat→Prop} {w w':World} (h:Below w.heap.size w w'):Chg Z w w':=(Chg.of_below h).weakZ fun _ h=>h.elim
theorem fgrowC {F:Nat→Prop} {w0 w:World} (hF:∀ b,F b→b<w0.heap.size) (hB:w0.heap.size≤w.heap.size) (r:Nat):∀ b,(fun b=>F b∨(w0.heap.size≤b∧b<w.heap.size∧b≠r)) b→b<w.heap.size:=by
  rintro b (h | h)
  · exact Nat.lt_of_lt_of_le (hF b h) hB
  · exact h.2.1
theorem Chg.thenB {Z:Nat→Prop} {w0 w w':World} (h:Chg Z w0 w) (h':Below w.heap.size w w'):Chg Z w0 w':=h.trans (Chg.of_below h') fun _ _ h=>h.elim
theorem Chg.thenU {Z:Nat→Prop} {w0 w w':World} {b:Nat} {o:Obj} (h:Chg Z w0 w) (h':Upd w w' b o) (hb:w0.heap.size≤b∨Z b):Chg Z w0 w':=
  ⟨h'.os.trans h.os,h'.tape.trans h.tape,h'.output.trans h.output,by rw [h'.size]; exact h.size,fun k hk hn=>(h'.other k fun e=>by subst e; rcases hb with hb | hb; omega; exact hn hb).trans (h.block k hk hn)⟩
theorem Chg.thenF {Z Z':Nat→Prop} {w0 w w':World} (h:Chg Z w0 w) (h':Chg Z' w w') (hz:∀ b,b<w0.heap.size→Z' b→Z b):Chg Z w0 w':=h.trans h' hz
theorem keepC {Z:Nat→Prop} {w w':World} {b:Nat} {o:Obj} (h:Chg Z w w') (hb:w.heap[b]?=some o) (hn:¬ Z b):w'.heap[b]?=some o:=(h.block b (lt_of_block hb) hn).trans hb
theorem blk_tne {w:World} {b b':Nat} {c c':Array Value} {T T':TypeId} {z z':Nat × Nat} (h:w.heap[b]?=some (.cells c T z)) (h':w.heap[b']?=some (.cells c' T' z')) (hT:(T==T')=false):b≠b':=by
  intro e;subst e;rw [h] at h'
  simp only [Option.some.injEq,Obj.cells.injEq] at h'
  rw [h'.2.1] at hT
  simp at hT
theorem grow_mono {F F':Nat→Prop} {w w':World} (hs:∀ b,F b→F' b):∀ b,grow F w w' b→grow F' w w' b:=fun b hb=>hb.imp (hs b) id
theorem RepL.mono {F F':Nat→Prop} {w w':World} (hs:∀ b,F b→F' b) (h1:Same F w w') (h2:w.heap.size≤w'.heap.size) :
    ∀ (n:Nat) (t:T R) (v:Value),RepL P E n t F w v→RepL P E n t F' w' v
  | _,.cut,_,h=>by unfold RepL at h; exact h.elim
  | _,.done _,_,h=>by unfold RepL at h ⊢; exact h
  | 0,.act ..,_,h=>by unfold RepL at h ⊢; exact h
  | m+1,.act op at_ a b k,v,h=>by
    unfold RepL at h ⊢
    obtain ⟨f,first,cap,hc,hv,h⟩:=h;refine ⟨f,first,cap,hc,hv,fun x w'' hs' hz=>?_⟩
    refine (h x w'' (h1.trans (hs'.sub hs)) (by omega)).mono ?_;rintro e w3 ⟨v',he,hb,hr⟩;exact ⟨v',he,hb.weakZ hs,RepL.mono (grow_mono hs) (Same.refl _ _) (Nat.le_refl _) m _ _ hr⟩
theorem RepL.down {F:Nat→Prop} {w:World}:∀ {n m:Nat} {t:T R} {v:Value},m≤n→RepL P E n t F w v→RepL P E m t F w v
  | _,_,.cut,_,_,h=>by unfold RepL at h; exact h.elim
  | _,_,.done _,_,_,h=>by unfold RepL at h ⊢; exact h
  | 0,m,.act ..,_,hm,h=>by
    obtain rfl:m=0:=by omega
    exact h
  | n+1,0,.act ..,_,_,h=>by
    unfold RepL at h ⊢
    obtain ⟨f,first,cap,hc,hv,_⟩:=h;exact ⟨f,first,cap,hc,hv⟩
  | n+1,m+1,.act op at_ a b k,v,hm,h=>by
    unfold RepL at h ⊢
    obtain ⟨f,first,cap,hc,hv,h⟩:=h;refine ⟨f,first,cap,hc,hv,fun x w'' hs' hz=>?_⟩
    refine (h x w'' hs' hz).mono ?_;rintro e w3 ⟨v',he,hb,hr⟩;exact ⟨v',he,hb,RepL.down (by omega) hr⟩
theorem RepL.shape {F:Nat→Prop} {w:World}:∀ {n:Nat} {t:T R} {v:Value},RepL P E n t F w v→Shape E v
  | _,.cut,_,h=>by unfold RepL at h; exact h.elim
  | _,.done r,_,h=>by
    unfold RepL at h; subst h
    exact ⟨_,rfl,by simp [progCells,E.len],by simp [progCells,plainCell,E.plain r]⟩
  | 0,.act ..,_,h=>by
    unfold RepL at h; obtain ⟨_,_,_,_,rfl⟩:=h
    exact ⟨_,rfl,by simp [progCells,E.zlen],by simp [progCells,plainCell,E.zplain]⟩
  | m+1,.act ..,_,h=>by
    unfold RepL at h; obtain ⟨_,_,_,_,rfl,_⟩:=h
    exact ⟨_,rfl,by simp [progCells,E.zlen],by simp [progCells,plainCell,E.zplain]⟩
theorem Rep.loud:∀ {n:Nat} {t:T R} {F:Nat→Prop} {w:World} {v:Value},Rep P E n t F w v→RepL P E n t F w v
  | _,.cut,_,_,_,h=>by unfold Rep at h; exact h.elim
  | _,.done _,_,_,_,h=>by unfold Rep at h; unfold RepL; exact h
  | 0,.act ..,_,_,_,h=>by unfold Rep at h; unfold RepL; exact h
  | m+1,.act op at_ a b k,F,w,v,h=>by
    unfold Rep at h; unfold RepL
    obtain ⟨f,first,cap,hc,hv,h⟩:=h;refine ⟨f,first,cap,hc,hv,fun x w'' hs' hz=>?_⟩
    refine (h x w'' hs' hz).mono ?_;rintro e w3 ⟨v',he,hb,hr⟩;exact ⟨v',he,Chg.belowZ hb,hr.loud⟩
theorem RepL.act_of {n:Nat} {F:Nat→Prop} {w:World} {op at_ a b:Int} {k:Int→T R} {fv:Value} (h:FnL P E u64 n F w fv k) :
    RepL P E n (.act op at_ a b k) F w (.agg (progCells false E.zero op at_ a b fv)):=by
  obtain ⟨f,first,cap,hc,rfl,h⟩:=h;cases n with
  | zero=>unfold RepL; exact ⟨f,first,cap,hc,rfl⟩
  | succ m=>unfold RepL; exact ⟨f,first,cap,hc,rfl,fun x w' h1 h2=>h m (Nat.lt_succ_self _) x w' h1 h2⟩
theorem RepL.done_of {n:Nat} {F:Nat→Prop} {w:World} {r:R}:RepL P E n (.done r) F w (.agg (progCells true (E.cells r) 0 0 0 0 .nilFunc)):=by unfold RepL; rfl
theorem FnLAt.mono {α:Type} {enc:α→List Value} {m:Nat} {F F':Nat→Prop} {w w':World} {f:FuncId} {first cap:List Value} {g:α→T R} (h:FnLAt P E enc m F w f first cap g)
    (hs:∀ b,F b→F' b) (h1:Same F w w') (h2:w.heap.size≤w'.heap.size):FnLAt P E enc m F' w' f first cap g:=fun x w'' hs' hz=>by
  refine (h x w'' (h1.trans (hs'.sub hs)) (by omega)).mono ?_;rintro e w3 ⟨v',he,hb,hr⟩;exact ⟨v',he,hb.weakZ hs,RepL.mono (grow_mono hs) (Same.refl _ _) (Nat.le_refl _) m _ _ hr⟩
theorem FnL.mono {α:Type} {enc:α→List Value} {n n':Nat} {F F':Nat→Prop} {w w':World} {fv:Value} {g:α→T R} (h:FnL P E enc n F w fv g) (hn:n'≤n)
    (hs:∀ b,F b→F' b) (h1:Same F w w') (h2:w.heap.size≤w'.heap.size):FnL P E enc n' F' w' fv g:=by
  obtain ⟨f,first,cap,hc,hv,h⟩:=h;exact ⟨f,first,cap,hc,hv,fun m hm=>(h m (by omega)).mono hs h1 h2⟩
theorem RepL.act_inv {n:Nat} {F:Nat→Prop} {w:World} {op at_ a b:Int} {k:Int→T R} {v:Value} (h:RepL P E n (.act op at_ a b k) F w v) :
    ∃ (f:FuncId) (first cap:List Value),callable P f=true∧v=.agg (progCells false E.zero op at_ a b (.func (.func f) first.toArray cap.toArray))∧FnL P E u64 n F w (.func (.func f) first.toArray cap.toArray) k:=by
  cases n with
  | zero=>
    unfold RepL at h
    obtain ⟨f,first,cap,hc,hv⟩:=h;exact ⟨f,first,cap,hc,hv,f,first,cap,hc,rfl,fun m hm=>absurd hm (Nat.not_lt_zero m)⟩
  | succ q=>
    unfold RepL at h
    obtain ⟨f,first,cap,hc,hv,hk⟩:=h;refine ⟨f,first,cap,hc,hv,f,first,cap,hc,rfl,fun m hm x w' h1 h2=>?_⟩
    refine (hk x w' h1 h2).mono ?_;rintro e w'' ⟨v',he,hb,hr⟩;exact ⟨v',he,hb,RepL.down (by omega) hr⟩
theorem FnL.at_ {α:Type} {enc:α→List Value} {n:Nat} {F:Nat→Prop} {w:World} {f:FuncId} {first cap:List Value} {g:α→T R} (h:FnL P E enc n F w (.func (.func f) first.toArray cap.toArray) g) :
    callable P f=true∧∀ m,m<n→FnLAt P E enc m F w f first cap g:=by
  obtain ⟨f',first',cap',hc,he,hf⟩:=h;simp only [Value.func.injEq,Fn.func.injEq] at he
  obtain ⟨e1,e2,e3⟩:=he;have e2':first=first':=by simpa using congrArg Array.toList e2
  have e3':cap=cap':=by simpa using congrArg Array.toList e3
  subst e1; subst e2'; subst e3';exact ⟨hc,hf⟩
theorem RepResL.fin {n:Nat} {t:T R} {F F1:Nat→Prop} {w0 w1 w2 w3:World} {r:Nat} {o:Obj} {v:Value} (hB:Chg F w0 w3) (hr:RepL P E n t (grow F1 w1 w2) w2 v)
    (hu:Upd w2 w3 r o) (hF:∀ b,F1 b→F b∨(w0.heap.size≤b∧b<w1.heap.size)) (hFr:¬ F1 r) (hr1:r<w1.heap.size) (h01:w0.heap.size≤w1.heap.size) (h12:w1.heap.size≤w2.heap.size) :
    RepResL P E n t F w0 (.returned v) w3:=by
  refine ⟨v,rfl,hB,RepL.mono ?_ ?_ (by rw [hu.size]; exact Nat.le_refl _) n t v hr⟩
  · rintro b (hb | ⟨hb1,hb2⟩)
    · rcases hF b hb with h | ⟨h1,h2⟩
      · exact .inl h
      · exact .inr ⟨h1,by rw [hu.size]; omega⟩
    · exact .inr ⟨by omega,by rw [hu.size]; omega⟩
  · rintro b (hb | ⟨hb1,hb2⟩)
    · exact hu.other b (fun e=>hFr (e ▸ hb))
    · exact hu.other b (by omega)
theorem RepRes.loud {n:Nat} {t:T R} {F:Nat→Prop} {w w':World} {e:Ending} (h:RepRes P E n t F w e w'):RepResL P E n t F w e w':=by
  obtain ⟨v,rfl,hb,hr⟩:=h;exact ⟨v,rfl,Chg.belowZ hb,hr.loud⟩
theorem FnT.loud {α:Type} {enc:α→List Value} {n:Nat} {F:Nat→Prop} {w:World} {fv:Value} {g:α→T R} (h:FnT P E enc n F w fv g):FnL P E enc n F w fv g:=by
  obtain ⟨f,first,cap,hc,hv,h⟩:=h;exact ⟨f,first,cap,hc,hv,fun m hm x w' h1 h2=>(h m hm x w' h1 h2).mono fun e w'' hr=>hr.loud⟩
def OwnP (P:Program) (E:Enc R) (n:Nat) (t:T R) (B r:Nat) (v:Value) (w:World):Prop:=r<w.heap.size∧B≤w.heap.size∧RepL P E n t (fun b=>B≤b∧b<w.heap.size∧b≠r) w v
theorem OwnP.stable {n:Nat} {t:T R} {B r:Nat}:∀ v w1 w2,OwnP P E n t B r v w1→Below w1.heap.size w1 w2→OwnP P E n t B r v w2:=by
  rintro v w1 w2 ⟨h2,h3,h4⟩ hb;have hz:=hb.size;refine ⟨by omega,by omega,RepL.mono ?_ (Same.below hb fun b h=>h.2.1) hz n _ _ h4⟩
  rintro b ⟨h,h',h''⟩;exact ⟨h,by omega,h''⟩
theorem OwnP.of_res {n:Nat} {t:T R} {B r:Nat} {w1 w2:World} {v:Value} (hr:r<w1.heap.size) (hB:B≤w1.heap.size) (hb:Below w1.heap.size w1 w2)
    (h:RepL P E n t (grow No w1 w2) w2 v):OwnP P E n t B r v w2:=by
  have hz:=hb.size;refine ⟨by omega,by omega,RepL.mono ?_ (Same.refl _ _) (Nat.le_refl _) n _ _ h⟩
  rintro b (h | ⟨h,h'⟩)
  · exact h.elim
  · exact ⟨by omega,h',by omega⟩
end
section
variable {P : Program} {Q : Exit → Act → World → Prop} {L : List Oper} {a : Act} {w : World} {N : Nat} {s : SL} {S : Nat → Prop}
theorem eachS_early {fs:Nat→Fact w.heap.size S} {o:Oper} {l:List Oper} {i:Nat} (r:Fr a N s) (hd:(o.guard.isNone&&dstsIn N L)=true) (he:early L (fun i=>(fs i).sh) i=true)
    (h:∀ a' g w',Below w.heap.size w w'→(∀ j,awaits o j=true→(fs j).ok g j w'∧w.heap.size≤(g j).lo∧(g j).hi≤w'.heap.size∧∀ q,awaits o q=true→q≠j→(g j).hi≤(g q).lo∨(g q).hi≤(g j).lo)→Fr a' N (putsS L (fun j=>(g j).v) 0 s)→
      Yields P o a' w' fun v w''=>(fs i).mk g v w' w'') (h2:EachF P L fs a w l (i+1)):EachF P L fs a w (o::l) i:=by
  simp only [Bool.and_eq_true] at hd
  exact ⟨fun g w' h1 h3 h4 h5 h6 h7=>.plain hd.1 (h _ g w' ⟨h1,h3,h4,h5,fun b hb=>h6 b hb (.inr he)⟩ h7 (r.puts L _ 0 hd.2)),h2⟩
theorem eachS_late {fs:Nat→Fact w.heap.size S} {o:Oper} {l:List Oper} {i:Nat} (r:Fr a N s) (hd:(o.guard.isNone&&dstsIn N L)=true)
    (h:∀ a' g w',Chg S w w'→(∀ j,awaits o j=true→(fs j).ok g j w'∧w.heap.size≤(g j).lo∧(g j).hi≤w'.heap.size∧∀ q,awaits o q=true→q≠j→(g j).hi≤(g q).lo∨(g q).hi≤(g j).lo)→Fr a' N (putsS L (fun j=>(g j).v) 0 s)→
      Yields P o a' w' fun v w''=>(fs i).mk g v w' w'') (h2:EachF P L fs a w l (i+1)):EachF P L fs a w (o::l) i:=by
  simp only [Bool.and_eq_true] at hd
  exact ⟨fun g w' h1 h3 h4 h5 h6 h7=>.plain hd.1 (h _ g w' ⟨h1,h3,h4,h5,fun b hb hn=>h6 b hb (.inl hn)⟩ h7 (r.puts L _ 0 hd.2)),h2⟩
theorem wp_freeSE {id:Nat} (k:Nat) (S:Nat→Prop) (fl:List (Fact w.heap.size S)) (hm:P.follows .mixedOrders=true) (r:Fr a N s) (hSB:∀ b,S b→b<w.heap.size) (hs:(drawnOk L k&&shapely (L.take k)&&noGuards (L.take k)&&(freely (L.take k) (fun i=>(fact fl i).sh)&&dstsIn N (L.take k)&&okW (L.take k) fl))=true)
    (he:EachF P (L.take k) (fact fl) a { w with drawn:=w.drawn+1 } (L.take k) 0)
    (hl:∀ a' g w',Chg S w w'→(∀ i,Nat.ble (i+1) (L.take k).length=true→(fact fl i).ok g i w'∧w.heap.size≤(g i).lo∧(g i).lo≤(g i).hi∧(g i).hi≤w'.heap.size)→
      (∀ i j,(!(i==j)&&Nat.ble (i+1) (L.take k).length&&Nat.ble (j+1) (L.take k).length)=true→(g i).hi≤(g j).lo∨(g j).hi≤(g i).lo)→Fr a' N (putsS (L.take k) (fun j=>(g j).v) 0 s)→wpList P L.toArray Q (L.drop k) a' w') :
    (Code.region id L.toArray true).wp P Q a w:=by
  simp only [Bool.and_eq_true] at hs
  obtain ⟨⟨⟨hs1,hs2⟩,hs3⟩,hs⟩:=hs;refine wp_split hm hs1 hs2 hs3 (any_free (fact fl) (okW_at hs.2) rfl hSB hs.1.1 (okN_at hs.2) he fun g w' h1 h2 h3 h4 h5 h6 h7=>⟨rfl,hl _ g w' ⟨h1,h2,h3,h4,fun b hb hn=>h5 b hb hn⟩ (fun i hi=>h6 i (Nat.le_of_ble_eq_true hi)) (fun i j hij=>?_) (r.puts (L.take k) _ 0 hs.1.2)⟩)
  simp only [Bool.and_eq_true,Bool.not_eq_true',beq_eq_false_iff_ne] at hij
  exact h7 i j hij.1.1 (Nat.le_of_ble_eq_true hij.1.2) (Nat.le_of_ble_eq_true hij.2)
end
def StepE {R:Type} (P:Program) (E:Enc R) (n:Nat) (t:T R) (F:Nat→Prop):Value→Nat→Nat→World→Prop:=fun v lo hi w=>RepL P E n t (fun b=>F b∨(lo≤b∧b<hi)) w v
theorem StepE.st {R:Type} {P:Program} {E:Enc R} {n:Nat} {t:T R} {F:Nat→Prop} {B:Nat} (hF:∀ b,F b→b<B):∀ v lo hi w1 w2,StepE P E n t F v lo hi w1→Kept B (fun _=>False) lo hi w1 w2→StepE P E n t F v lo hi w2:=by
  rintro v lo hi w1 w2 h ⟨_,_,_,hz,hk⟩;refine RepL.mono (fun b hb=>hb) (fun b hb=>hk b ?_) hz n _ _ h
  rcases hb with hb | hb
  · exact .inl ⟨hF b hb,fun h=>h⟩
  · exact .inr hb
section
variable {P : Program} {a : Act} {w : World} {d : Option Tmp} {ty : TypeId} {pos : String} {aft : Array Edge}
variable {ops : Array Oper} {Q : Exit → Act → World → Prop} {rest : List Oper} {N : Nat} {s : SL}
theorem kJ {R:Type} {E:Enc R} {m:Nat} {t:T R} {F:Nat→Prop} {f:FuncId} {xs:List Operand} {ts:Array TypeId} {args:List Value} (hfr:Fr a N s) (hc:Calls P f args.toArray w (RepResL P E m t F w)) (hx:xs.map (lookO s)=args)
    (hf:callable P f=true) (hg:dstIn N d=true) (hk:∀ {a} w' v,Chg F w w'→RepL P E m t (grow F w w') w' v→Fr a N (putS s d v)→wpList P ops Q rest a w'):wpList P ops Q (⟨d,.call ⟨.value (.func f),xs.toArray,ts⟩,ty,pos,aft,none⟩::rest) a w:=
  kC hfr hc hx hf hg (by rintro _ w' ⟨v,rfl,hb,hr⟩; exact ⟨_,rfl,fun a r=>hk w' v hb hr r⟩)
end
def D.plan_within (l:List Bound):Bool:=l.all fun b=>!(decide (b.n<b.least))&&!(decide (b.n > b.most))
theorem within_no {l:List Bound} {k:Nat} (h:k<l.length) (hb:l[k].n<l[k].least∨l[k].n > l[k].most):D.plan_within l=false:=by
  unfold D.plan_within;rw [List.all_eq_false];refine ⟨l[k],List.getElem_mem h,?_⟩
  rcases hb with hb | hb <;> simp [hb]
theorem within_step {l:List Bound} {k:Nat} (h:k<l.length) (hw:D.plan_within (l.take k)=true) (h1:¬ l[k].n<l[k].least) (h2:¬ l[k].n > l[k].most):D.plan_within (l.take (k+1))=true:=by
  unfold D.plan_within at *
  rw [List.take_succ_eq_append_getElem h,List.all_append,hw]
  simp only [List.all_cons,List.all_nil,Bool.true_and,Bool.and_true,Bool.and_eq_true,Bool.not_eq_true',decide_eq_false_iff_not]
  exact ⟨h1,h2⟩
theorem tsb:sized Tryz.prog 148 3:=by kernel_rfl
theorem tab:tyA Tryz.prog 148 3:=by kernel_rfl
theorem tib:tyO Tryz.prog 3:=by kernel_rfl
theorem isb:isSlice Tryz.prog 203:=by kernel_rfl
theorem slb:sliceTy Tryz.prog 203 3:=by kernel_rfl
theorem zb:zeroOf Tryz.prog 148=some (.agg #[.int .i64 0,.int .i64 0,.int .i64 0]):=by kernel_rfl
theorem fb0:fieldOff Tryz.prog 148 0 0:=by kernel_rfl
theorem fb1:fieldOff Tryz.prog 148 1 1:=by kernel_rfl
theorem fb2:fieldOff Tryz.prog 148 2 2:=by kernel_rfl
theorem c_plan_within (w0:World) (l:List Bound) {b:Nat} (hb:w0.heap[b]?=some (.cells (boundsC l).toArray 148 (0,0))) (hl:l.length≤8):Calls Tryz.prog 127 #[.slice (some ⟨b,0,none⟩) l.length l.length] w0 (PureRes (.bool (D.plan_within l)) w0):=by
  refine enter (l:=[.slice (some ⟨b,0,none⟩) l.length l.length]) Tryz.func127 rfl 24 rfl rfl fun a0 r=>?_;refine wp_seq (wp_region_lit ?_)
  refine seq_val (.bool false) r (fun R=>y_assign r rfl) rfl fun a0 r=>wpList_nil ?_;refine wp_seq (wp_seq (wp_region_lit ?_))
  refine seq_val (.slice (some ⟨b,0,none⟩) l.length l.length) r (fun R=>y_move r rfl) rfl fun a0 r=>?_;refine seq_val (.int .i64 l.length) r (fun R=>y_len r isb rfl) rfl fun a0 r=>?_
  refine seq_val (.int .i64 0) r (fun R=>y_move r rfl) rfl fun a0 r=>wpList_nil (wp_block ?_);refine wp_loopF (X:=Nat) (fun k=>[(5,.slice (some ⟨b,0,none⟩) l.length l.length),(6,.int .i64 l.length),(7,.int .i64 k)])
    (fun k w=>k≤l.length∧Below w0.heap.size w0 w∧D.plan_within (l.take k)=true) (fun k=>l.length - k) 0 r (hs_cons rfl (hs_cons rfl (hs_cons rfl hs_nil))) ⟨by omega,Below.refl _ _,by simp [D.plan_within]⟩ ?_
  rintro k a0 w g r ⟨hk,hB,hw⟩;have hbw:w.heap[b]?=some (.cells (boundsC l).toArray 148 (0,0)):=by rw [hB.block b (lt_of_block hb)]; exact hb
  refine wp_seq (wp_region_lit ?_);refine seq_val (.bool (decide ((k:Int)<l.length))) r (fun R=>y_bin r (u:=.int .i64 k) (u':=.int .i64 l.length) rfl rfl rfl rfl) rfl fun a0 r=>wpList_nil ?_;refine wp_seq (wp_cond_split (t:=decide ((k:Int)<l.length)) (r.ev rfl) (fun h=>?_) (fun h=>?_))
  · have hkl:k<l.length:=by simpa using h
    refine wp_skip ?_;refine wp_seq (wp_block ?_);refine wp_seq (wp_region_lit ?_);refine seq_val (.pointer (some ⟨b,0+(k:Int).toNat * 3,none⟩)) r (fun R=>y_indexAddr r slb rfl rfl (by omega) (by omega)) rfl fun a0 r=>?_;refine seq_val (.agg (boundC l[k]).toArray) r (fun R=>y_load_agg r (cs:=boundC l[k]) (n:=3) rfl hbw tab (by have:=flat_at (f:=boundC) (n:=3) (fun _=>rfl) l k hkl; simpa [boundsC] using this)) rfl fun a0 r=>?_
    refine seq_new (.cells #[.int .i64 0,.int .i64 0,.int .i64 0] 148 (0,0)) r (fun R=>y_alloc zb) rfl fun a0 b1 w1 n1 r=>?_;have e1:=n1.eq
    have z1:=n1.size;have h1:=n1.at_;have zB:=hB.size;have hB:=hB.trans (n1.below.mono hB.size);refine seq_upd (.cells (boundC l[k]).toArray 148 (0,0)) r (fun R=>y_store r (v:=.agg (boundC l[k]).toArray) rfl rfl h1 tsb (Nat.le_of_ble_eq_true rfl) rfl rfl) rfl fun a0 w2 u2 r=>wpList_nil ?_;have z2:=u2.size
    have h2:=u2.at_;have hB:=u2.below hB (by omega)
    refine wp_seq (wp_region_lit ?_);refine seq_val (.pointer (some ⟨b1,0,none⟩)) r (fun R=>y_fieldAddr r (o:=0) rfl fb0) rfl fun a0 r=>?_;refine seq_val (.int .i64 l[k].n) r (fun R=>y_load_one r rfl h2 tib rfl) rfl fun a0 r=>?_
    refine seq_val (.pointer (some ⟨b1,1,none⟩)) r (fun R=>y_fieldAddr r (o:=0) rfl fb1) rfl fun a0 r=>?_;refine seq_val (.int .i64 l[k].least) r (fun R=>y_load_one r rfl h2 tib rfl) rfl fun a0 r=>?_
    refine seq_val (.bool (decide (l[k].n<l[k].least))) r (fun R=>y_bin r (u:=.int .i64 l[k].n) (u':=.int .i64 l[k].least) rfl rfl rfl rfl) rfl fun a0 r=>?_;refine seq_val (.bool (decide (l[k].n<l[k].least))) r (fun R=>y_move r rfl) rfl fun a0 r=>?_
    have wi:IntKind.i64.wrap ((k:Int)+1)=((k+1:Nat):Int):=by
      have:IntKind.i64.wrap ((k:Int)+1)=(k:Int)+1:=by simp only [IntKind.wrap]; simp [IntKind.signed,IntKind.bits]; omega
      rw [this]; omega
    refine seq_split (decide (l[k].n<l[k].least)) (fun h1=>?_) (fun h1=>?_)
    · have hn:=within_no hkl (.inl (of_decide_eq_true h1))
      refine seq_skip r rfl rfl rfl (v:=.bool true) (kb h1) (by simp [boolOf]) fun a0 r=>?_;refine seq_skip r rfl rfl rfl (v:=.bool true) (kb h1) (by simp [boolOf]) fun a0 r=>?_
      refine seq_skip r rfl rfl rfl (v:=.bool true) (kb h1) (by simp [boolOf]) fun a0 r=>?_;refine seq_skip r rfl rfl rfl (v:=.bool true) (kb h1) (by simp [boolOf]) fun a0 r=>?_
      refine seq_skip r rfl rfl rfl (v:=.bool true) (kb h1) (by simp [boolOf]) fun a0 r=>?_;refine seq_val (.bool true) r (fun R=>y_pick r (b:=true) (kb h1) rfl) rfl fun a0 r=>wpList_nil ?_
      refine wp_cond_split (t:=true) (r.ev rfl) (fun _=>?_) (fun h=>by cases h)
      refine wp_seq (wp_region_lit ?_);refine seq_val (.bool false) r (fun R=>y_assign r rfl) rfl fun a0 r=>wpList_nil (wp_ret ?_);refine ret_tmp r rfl (v:=.bool false) rfl ?_
      rw [hn]
      exact ⟨rfl,hB⟩
    · refine seq_want r rfl rfl rfl (kb h1) ?_
      refine seq_val (.pointer (some ⟨b1,0,none⟩)) r (fun R=>y_fieldAddr r (o:=0) rfl fb0) rfl fun a0 r=>?_;refine seq_want r rfl rfl rfl (kb h1) ?_
      refine seq_val (.int .i64 l[k].n) r (fun R=>y_load_one r rfl h2 tib rfl) rfl fun a0 r=>?_;refine seq_want r rfl rfl rfl (kb h1) ?_
      refine seq_val (.pointer (some ⟨b1,2,none⟩)) r (fun R=>y_fieldAddr r (o:=0) rfl fb2) rfl fun a0 r=>?_;refine seq_want r rfl rfl rfl (kb h1) ?_
      refine seq_val (.int .i64 l[k].most) r (fun R=>y_load_one r rfl h2 tib rfl) rfl fun a0 r=>?_;refine seq_want r rfl rfl rfl (kb h1) ?_
      refine seq_val (.bool (decide (l[k].n > l[k].most))) r (fun R=>y_bin r (u:=.int .i64 l[k].n) (u':=.int .i64 l[k].most) rfl rfl rfl rfl) rfl fun a0 r=>?_;refine seq_val (.bool (decide (l[k].n > l[k].most))) r (fun R=>y_pick r (b:=false) (kb h1) rfl) rfl fun a0 r=>wpList_nil ?_
      refine wp_cond_split (t:=decide (l[k].n > l[k].most)) (r.ev rfl) (fun h2'=>?_) (fun h2'=>?_)
      · have hn:=within_no hkl (.inr (of_decide_eq_true h2'))
        refine wp_seq (wp_region_lit ?_);refine seq_val (.bool false) r (fun R=>y_assign r rfl) rfl fun a0 r=>wpList_nil (wp_ret ?_);refine ret_tmp r rfl (v:=.bool false) rfl ?_
        rw [hn]
        exact ⟨rfl,hB⟩
      · refine wp_skip ?_
        refine wp_region_lit ?_;refine seq_val (.int .i64 ((k+1:Nat):Int)) r (fun R=>y_bin r (u:=.int .i64 k) (u':=.int .i64 1) rfl rfl rfl (congrArg (fun z=>Result.ok (Value.int .i64 z) _) wi)) rfl fun a0 r=>?_;refine seq_val (.int .i64 ((k+1:Nat):Int)) r (fun R=>y_move r rfl) rfl fun a0 r=>wpList_nil ?_
        exact ⟨k+1,_,r,hs_cons rfl (hs_cons rfl (hs_cons rfl hs_nil)),⟨hkl,hB,within_step hkl hw (of_decide_eq_false h1) (of_decide_eq_false h2')⟩,by omega⟩
  · have hkl:k=l.length:=by have:=of_decide_eq_false h; omega
    subst hkl;refine wp_exit ?_;refine wp_seq (wp_region_lit ?_);refine seq_val (.bool true) r (fun R=>y_assign r rfl) rfl fun a0 r=>wpList_nil (wp_ret ?_);refine ret_tmp r rfl (v:=.bool true) rfl ?_
    rw [List.take_length] at hw
    rw [hw]
    exact ⟨rfl,hB⟩
theorem c_plan_within_nil (w0:World):Calls Tryz.prog 127 #[.slice none 0 0] w0 (PureRes (.bool (D.plan_within [])) w0):=by
  refine enter (l:=[.slice none 0 0]) Tryz.func127 rfl 24 rfl rfl fun a0 r=>?_;refine wp_seq (wp_region_lit ?_)
  refine seq_val (.bool false) r (fun R=>y_assign r rfl) rfl fun a0 r=>wpList_nil ?_;refine wp_seq (wp_seq (wp_region_lit ?_))
  refine seq_val (.slice none 0 0) r (fun R=>y_move r rfl) rfl fun a0 r=>?_;refine seq_val (.int .i64 ((0:Nat):Int)) r (fun R=>y_len r isb rfl) rfl fun a0 r=>?_
  refine seq_val (.int .i64 0) r (fun R=>y_move r rfl) rfl fun a0 r=>wpList_nil (wp_block ?_);refine wp_loopF (X:=Unit) (fun _=>[(6,.int .i64 ((0:Nat):Int)),(7,.int .i64 0)]) (fun _ w=>w=w0) (fun _=>0) () r (hs_cons rfl (hs_cons rfl hs_nil)) rfl ?_
  rintro _ a0 w g r rfl;refine wp_seq (wp_region_lit ?_);refine seq_val (.bool (decide ((0:Int)<((0:Nat):Int)))) r (fun R=>y_bin r (u:=.int .i64 0) (u':=.int .i64 ((0:Nat):Int)) rfl rfl rfl rfl) rfl fun a0 r=>wpList_nil ?_;refine wp_seq (wp_cond_split (t:=decide ((0:Int)<((0:Nat):Int))) (r.ev rfl) (fun h=>by cases h) (fun h=>?_))
  refine wp_exit ?_;refine wp_seq (wp_region_lit ?_);refine seq_val (.bool true) r (fun R=>y_assign r rfl) rfl fun a0 r=>wpList_nil (wp_ret ?_);refine ret_tmp r rfl (v:=.bool true) rfl ?_
  exact ⟨rfl,Below.refl _ _⟩
end Go.Proofs.YtbbipmelhmgmfaaGreat

/- Some of our texts, one behind the other. -/
import Derived.Test.YtbbipmelhmgmfaaGreatLzM17
import Derived.Test.YtbbipmelhmgmfaaGreatLzM24
import Derived.Test.YtbbipmelhmgmfaaGreatLzM12
import Derived.Test.YtbbipmelhmgmfaaGreatLzM16
import Derived.Test.YtbbipmelhmgmfaaGreatLzMem
import Derived.Test.YtbbipmelhmgmfaaGreatLzM22
set_option linter.all false
set_option maxRecDepth 100000
set_option maxHeartbeats 20000000
/- Ours. -/
namespace Go.Proofs.YtbbipmelhmgmfaaGreat
open Go.RowKit
section
variable {R : Type} {P : Program} {E : Enc R} {w w' w0 : World} {L A B N : List Ck} {Z : Nat → Prop} {i k : Nat}
theorem RepL.zero:∀ {n:Nat} {t:T R} {F:Nat→Prop} {v:Value},RepL P E n t F w v→Rep P E 0 t F w v
 | _,.cut,_,_,h=>by unfold RepL at h; exact h.elim
 | _,.done _,_,_,h=>by unfold RepL at h; unfold Rep; exact h
 | 0,.act ..,_,_,h=>by unfold RepL at h; unfold Rep; exact h
 | m+1,.act op at_ a b k,F,v,h=>by
  unfold RepL at h; unfold Rep
  obtain ⟨f,first,cap,hc,hv,_⟩:=h;exact ⟨f,first,cap,hc,hv⟩
theorem RepL.qO {n:Nat} {F:Nat→Prop} {v:Value} {t:T R} (h:RepL P E n t F w v) (hd:t.bA=false):∃ (f:FuncId) (first cap:List Value),v.cells[5+E.n]?=some (kf f first cap)∧FnL P E u64 n F w (kf f first cap) t.next:=by
 cases t with
 | cut=>unfold RepL at h; exact h.elim
 | done r=>cases hd
 | act op at_ a b k=>
  obtain ⟨f,first,cap,_,rfl,hf⟩:=h.dx;refine ⟨f,first,cap,?_,hf⟩;simp only [aC,Value.cells,List.getElem?_toArray];rw [show 5+E.n=(E.n+4)+1 from kw,List.getElem?_cons_succ,List.getElem?_append_right (by rw [E.zlen]; omega),E.zlen]
  simp
def co (P:Program) (E:Enc R) (x:Nat × T R) (v:Value) (F:List Nat):Ck:=
 ⟨F,[],fun w=>RepL P E x.1 x.2 (fun b=>b∈F) w v,fun _ _ h hs hr=>RepL.mono (fun _ h=>h) (fun b hb=>h b (.inl hb)) hs _ _ _ hr⟩
theorem Post.progl {x:Nat × T R} {v:Value} {F:List Nat} (h:Post Z L w0 w) (hi:L[i]?=some (co P E x v F)):RepL P E x.1 x.2 (fun b=>b∈F) w v:=h.sep.get hi
theorem Post.progz {x:Nat × T R} {v:Value} {F:List Nat} (h:Post Z L w0 w) (hi:L[i]?=some (co P E x v F)):Rep P E 0 x.2 (fun b=>b∈F) w v:=(h.progl hi).zero
theorem uM {x:Nat × T R} {v:Value} {F:List Nat} (h:RepL P E x.1 x.2 (fun b=>b∈F) w v) (hl:∀ b,b∈F→b<w.heap.size):Sep [co P E x v F] w:=
 ⟨h,(fun b hb=>by rcases hb with hb | hb; (exact hl b hb); (cases hb)),(fun _ h=>by cases h),trivial⟩
theorem uc {n:Nat} {t:T R} {v:Value} (hr:RepL P E n t (grow No w w') w' v):Fresh [co P E (n,t) v (rg w.heap.size w'.heap.size)] w.heap.size w'.heap.size w':=
 ⟨uM (RepL.mono (fun b hb=>ep.2 (hb.resolve_left fun h=>h)) (Same.refl _ _) (Nat.le_refl _) _ _ _ hr) fun b hb=>(ep.1 hb).2,fun c hc b hb=>by
  rcases List.mem_singleton.1 hc with rfl
  rcases hb with hb | hb
  ·exact ep.1 hb
  ·cases hb⟩
def PrL (P:Program) (E:Enc R) (x:Nat × T R):Value→Nat→Nat→World→Prop:=fun v lo hi w=>Fresh [co P E x v (rg lo hi)] lo hi w
theorem PrL.st (x:Nat × T R) {B:Nat} {S:Nat→Prop}:∀ v lo hi w1 w2,PrL P E x v lo hi w1→Kept B S lo hi w1 w2→PrL P E x v lo hi w2:=by
 rintro v lo hi w1 w2 ⟨hs,hb⟩ ⟨_,_,_,hz,hk⟩;exact ⟨hs.keep hz fun c hc b hcb=>hk b (.inr (hb c hc b hcb)),hb⟩
theorem Post.callL {n:Nat} {t:T R} {v v0:Value} {x:Nat × T R} {F:List Nat} (h:Post Z L w0 w) (hk:L[k]?=some (co P E x v0 F)) (hb:Chg (fun b=>b∈F) w w') (hr:RepL P E n t (grow (fun b=>b∈F) w w') w' v) :
  Post Z (L.set k (co P E (n,t) v (F++rg w.heap.size w'.heap.size))) w0 w':=by
 have hz:=hb.size;have hl:∀ b,b∈F++rg w.heap.size w'.heap.size→b<w'.heap.size:=fun b hb=>by
  rcases List.mem_append.1 hb with hb | hb
  ·exact q8 (h.sep.lt hk (.inl hb)) hz
  ·exact (ep.1 hb).2
 have hr':RepL P E n t (fun b=>b∈F++rg w.heap.size w'.heap.size) w' v:=RepL.mono (fun b hb=>List.mem_append.2 (hb.imp id ep.2)) (Same.refl _ _) (Nat.le_refl _) _ _ _ hr
 have:=h.set (N:=[]) hk (c':=co P E (n,t) v (F++rg w.heap.size w'.heap.size)) ⟨⟨uM (x:=(n,t)) hr' hl,hb,fun c hc b hb=>?_⟩,fun c hc b hb=>by rcases List.mem_singleton.1 hc with rfl; cases hb⟩
 ·rwa [List.append_nil] at this
 ·rcases List.mem_singleton.1 hc with rfl
  rcases List.mem_append.1 hb with hb | hb
  ·exact .inl hb
  ·exact .inr (ep.1 hb).1
theorem Post.frame {Y:Nat→Prop} (h:Post Z (A++B) w0 w) (h2:Done Y No N w w') (hY:∀ b,Y b→∃ e,e∈B∧b∈e.own):Post Z (A++N) w0 w':=by
 have hmem:∀ c,c∈A→∀ e,e∈B→e.clear c:=fun c hc e he=>by
  obtain ⟨i,hi⟩:=List.mem_iff_getElem?.1 hc;obtain ⟨j,hj⟩:=List.mem_iff_getElem?.1 he;have hil:=(List.getElem?_eq_some_iff.1 hi).1;exact (h.sep.clear (i:=i) (j:=A.length+j) (by rw [List.getElem?_append_left hil]; exact hi) (by rw [List.getElem?_append_right kw]; simpa using hj) kw).2
 have hold:∀ c,c∈A→∀ b,c.has b→b<w.heap.size∧¬ Y b:=fun c hc b hb=>⟨(h.sep.ok c (List.mem_append_left _ hc)).2 b hb,fun hy=>by
  obtain ⟨e,he,hbe⟩:=hY b hy;exact hmem c hc e he b hbe hb⟩
 have hnew:∀ d,d∈N→∀ b,d.has b→Y b∨w.heap.size≤b:=fun d hd b hb=>hb.elim (h2.mine d hd b) (fun hr=>.inr ((h2.rest d hd b hr).resolve_left fun h=>h))
 have hsz:=h.size;refine ⟨((h.sep.sub (List.sublist_append_left A B)).keep h2.chg.size fun c hc b hb=>h2.chg.block b (hold c hc b hb).1 (hold c hc b hb).2).append h2.sep fun c hc d hd=>⟨fun b h3 h4=>?_,fun b h3 h4=>?_⟩,h.chg.trans h2.chg (fun b hb hy=>?_),fun c hc b hb=>?_⟩
 ·rcases hnew d hd b h4 with h5 | h5
  ·exact (hold c hc b (.inl h3)).2 h5
  ·have:=(hold c hc b (.inl h3)).1; omega
 ·rcases hnew d hd b (.inl h3) with h5 | h5
  ·exact (hold c hc b h4).2 h5
  ·have:=(hold c hc b h4).1; omega
 ·obtain ⟨e,he,hbe⟩:=hY b hy
  rcases h.mine e (List.mem_append_right _ he) b hbe with h5 | h5
  ·exact h5
  ·omega
 ·rcases List.mem_append.1 hc with hc | hc
  ·exact h.mine c (List.mem_append_left _ hc) b hb
  ·rcases h2.mine c hc b hb with h5 | h5
   ·obtain ⟨e,he,hbe⟩:=hY b h5
    exact h.mine e (List.mem_append_right _ he) b hbe
   ·exact .inr kw
end
/-! ### A step, a run, of a program that changes blocks of its own, in a region -/
theorem yR {fu:Nat} (w0:World) {a0v:Value} {a0F:List Nat} (a0:Nat × T Res) {a1g:MG} (a1:Mem) (a2:Cap) (hS:Sep [co y6 aA a0 a0v a0F,memK a1g a1] w0) {res:(Nat × T Res) × Bool × Mem} (hD:D.pq fu a0 a1 a2=some res) :
    Calls y6 19 #[a0v,zp a1g.mb,u7 (capC a2)] w0 (fun e w'=>∃ (v0:Value) (F0:List Nat),e=.returned (.tuple #[v0,(.bool res.2.1)])∧Done (fun b=>b∈a0F∨b∈(memK a1g a1).own) No [memK a1g res.2.2,co y6 aA res.1 v0 F0] w0 w'∧(res.2.1=false→v0=a0v∧res.1=a0)):=by
 refine enter Tryz.func19 rfl 28 rfl rfl fun fr r=>?_;have hP:Post (fun b=>b∈a0F∨b∈(memK a1g a1).own) [co y6 aA a0 a0v a0F,memK a1g a1] w0 w0:=.start hS yaz
 unfold D.pq at hD
 refine wsr ?_;refine kX 41 a0v r rfl rfl fun b1 w2 n3 r=>?_;have hP:Post (fun b=>b∈a0F∨b∈(memK a1g a1).own) [co y6 aA a0 a0v a0F,memK a1g a1,ac b1 a0v.cells 41] w0 w2:=hP.new n3
 refine kX 52 (u7 (capC a2)) r rfl rfl fun b5 w6 n7 r=>?_;have hP:Post (fun b=>b∈a0F∨b∈(memK a1g a1).own) [co y6 aA a0 a0v a0F,memK a1g a1,ac b1 a0v.cells 41,ac b5 ((capC a2)).toArray 52] w0 w6:=hP.new n7
 refine ah (.cells (kq aA) 41 (0,0)) r (fun R=>ag tz41) rfl fun fr b9 w10 n11 r=>?_;have hP:Post (fun b=>b∈a0F∨b∈(memK a1g a1).own) [co y6 aA a0 a0v a0F,memK a1g a1,ac b1 a0v.cells 41,ac b5 ((capC a2)).toArray 52,ac b9 (kq aA) 41] w0 w10:=hP.new n11
 refine kA (.bool false) r rfl rfl fun r=>wn (a9 (wsr (aa _ r (fun R=>az r (b:=b1) (o:=0) (k:=0) rfl rj) rfl fun fr r=>kL (.bool a0.2.bA) r rfl (hP.cell (i:=2) rfl) to4 (Rep.jK (hP.progz (i:=0) rfl)) rfl fun r=>wn ?_)));refine q4 (t:=a0.2.bA) (r.ev rfl) (fun h13=>?_) (fun h13=>?_)
 ·
  have hD:=(ar h13).symm.trans hD;refine wsr (aa a0v r (fun R=>gS r (hP.progz (i:=0) rfl).shape rfl (hP.cell (i:=2) rfl) ta41) rfl fun fr r=>?_);refine kP r (hP.progz (i:=0) rfl).shape rfl rfl (hP.cell (i:=4) rfl) ts41 rfl rfl fun w14 u15 r=>?_
  have hP:Post (fun b=>b∈a0F∨b∈(memK a1g a1).own) [co y6 aA a0 a0v a0F,memK a1g a1,ac b1 a0v.cells 41,ac b5 ((capC a2)).toArray 52,ac b9 a0v.cells 41] w0 w14:=hP.upd (i:=4) rfl u15
  refine kA (.bool false) r rfl rfl fun r=>wn (d9 ?_);have hv:(a0,false,a1)=res:=Option.some.inj hD
  try dsimp only [Exit.then,Exit.inBlock]
  have hs:=(hP.progz (i:=0) rfl).shape.cells;refine fL (fn:=Tryz.f19) r rfl rfl (v':=(.bool false)) rfl (hP.cell (i:=4) rfl) (k:=8) hs.1 ta41 ?_;rw [←hs.2.2];subst hv;exact ⟨a0v,a0F,rfl,(hP.pick [1,0] rfl rfl).done (dc rfl (dc rfl cH)),fun _=>⟨rfl,rfl⟩⟩
 have hD:=(ai h13).symm.trans hD;refine q6 (wsr (kM (zp a1g.mb) r rfl rfl fun r=>kG (capC a2) 2 r rfl (hP.cell (i:=3) rfl) ta52 rfl rfl fun r=>aa _ r (fun R=>az r (b:=b1) (o:=0) (k:=3) rfl DL) rfl fun fr r=>kG (bk (T.acc a0.2)) 4 r rfl (hP.cell (i:=2) rfl) ta38 (Rep.wm (hP.progz (i:=0) rfl) h13) rfl fun r=>?_));obtain ⟨x16,hx16,hD⟩:=aH hD
 refine kC r (tq w10 a1 a2 (T.acc a0.2) (hP.sep.pk [1] rfl rfl) hx16) rfl cl65 rfl ?_;rintro _ w17 ⟨rfl,hq⟩;refine ⟨_,rfl,fun fr r=>?_⟩
 have hP:Post (fun b=>b∈a0F∨b∈(memK a1g a1).own) [co y6 aA a0 a0v a0F,memK a1g x16.2.2,ac b1 a0v.cells 41,ac b5 ((capC a2)).toArray 52,ac b9 (kq aA) 41] w0 w17:=hP.setN (i:=1) rfl hq
 refine kM (.tuple #[(U x16.1),(.bool x16.2.1)]) r rfl rfl fun r=>aa (U x16.1) r (fun R=>bX r (vs:=#[(U x16.1),(.bool x16.2.1)]) rfl rfl) rfl fun fr r=>aa (.bool x16.2.1) r (fun R=>bX r (vs:=#[(U x16.1),(.bool x16.2.1)]) rfl rfl) rfl fun fr r=>kA (U x16.1) r rfl rfl fun r=>kA (.bool x16.2.1) r rfl rfl fun r=>wn (a9 (wsr (kM (.bool x16.2.1) r rfl rfl fun r=>aa (.bool (!x16.2.1)) r (fun R=>y_un r (u:=(.bool x16.2.1)) rfl rfl) rfl fun fr r=>wn ?_)));refine q4 (t:=(!x16.2.1)) (r.ev rfl) (fun h18=>?_) (fun h18=>?_)
 ·
  have hD:=(ar h18).symm.trans hD;refine wsr (aa a0v r (fun R=>gS r (hP.progz (i:=0) rfl).shape rfl (hP.cell (i:=2) rfl) ta41) rfl fun fr r=>?_);refine kP r (hP.progz (i:=0) rfl).shape rfl rfl (hP.cell (i:=4) rfl) ts41 rfl rfl fun w19 u20 r=>?_
  have hP:Post (fun b=>b∈a0F∨b∈(memK a1g a1).own) [co y6 aA a0 a0v a0F,memK a1g x16.2.2,ac b1 a0v.cells 41,ac b5 ((capC a2)).toArray 52,ac b9 a0v.cells 41] w0 w19:=hP.upd (i:=4) rfl u20
  refine kA (.bool false) r rfl rfl fun r=>wn (d9 ?_);have hv:(a0,false,x16.2.2)=res:=Option.some.inj hD
  try dsimp only [Exit.then,Exit.inBlock]
  have hs:=(hP.progz (i:=0) rfl).shape.cells;refine fL (fn:=Tryz.f19) r rfl rfl (v':=(.bool false)) rfl (hP.cell (i:=4) rfl) (k:=8) hs.1 ta41 ?_;rw [←hs.2.2];subst hv;exact ⟨a0v,a0F,rfl,(hP.pick [1,0] rfl rfl).done (dc rfl (dc rfl cH)),fun _=>⟨rfl,rfl⟩⟩
 have hD:=(ai h18).symm.trans hD;refine q6 (wsr (aa _ r (fun R=>az r (b:=b1) (o:=0) (k:=7) rfl DK) rfl fun fr r=>?_));obtain ⟨nf21,n122,n223,hv24,hk25⟩:=RepL.qO (hP.progl (i:=0) rfl) h13
 refine kL (kf nf21 n122 n223) r rfl (hP.cell (i:=2) rfl) to39 hv24 rfl fun r=>kM (U x16.1) r rfl rfl fun r=>?_;obtain ⟨x26,hx26,hD⟩:=aH hD
 refine cS r (hk25.at_.2 x26 (by rw [uQ hx26]; exact Nat.lt_succ_self _) x16.1 w17 (Same.refl _ _) (Nat.le_refl _)) (fun R hc=>dI r rfl rfl hk25.at_.1 hc) rfl ?_;rintro _ w27 ⟨v28,rfl,hb,hr29⟩
 refine ⟨_,rfl,fun fr r=>?_⟩
 have zw27:=hP.size;have hP:Post (fun b=>b∈a0F∨b∈(memK a1g a1).own) [co y6 aA (x26,T.next a0.2 x16.1) v28 (a0F++rg w17.heap.size w27.heap.size),memK a1g x16.2.2,ac b1 a0v.cells 41,ac b5 ((capC a2)).toArray 52,ac b9 (kq aA) 41] w0 w27:=hP.callL (k:=0) rfl hb hr29
 refine kP r (hP.progz (i:=0) rfl).shape rfl rfl (hP.cell (i:=4) rfl) ts41 rfl rfl fun w31 u32 r=>?_;have hP:Post (fun b=>b∈a0F∨b∈(memK a1g a1).own) [co y6 aA (x26,T.next a0.2 x16.1) v28 (a0F++rg w17.heap.size w27.heap.size),memK a1g x16.2.2,ac b1 a0v.cells 41,ac b5 ((capC a2)).toArray 52,ac b9 v28.cells 41] w0 w31:=hP.upd (i:=4) rfl u32
 refine kA (.bool true) r rfl rfl fun r=>wn (d9 ?_);have hv:((x26,T.next a0.2 x16.1),true,x16.2.2)=res:=Option.some.inj hD
 try dsimp only [Exit.then,Exit.inBlock]
 have hs:=(hP.progz (i:=0) rfl).shape.cells;refine fL (fn:=Tryz.f19) r rfl rfl (v':=(.bool true)) rfl (hP.cell (i:=4) rfl) (k:=8) hs.1 ta41 ?_;rw [←hs.2.2];subst hv;exact ⟨v28,(a0F++rg w17.heap.size w27.heap.size),rfl,(hP.pick [1,0] rfl rfl).done (dc rfl (dc rfl cH)),fun h=>by cases h⟩
theorem tk {fu:Nat} (w0:World) {a0v:Value} {a0F:List Nat} (a0:Nat × T Res) {a1g:MG} (a1:Mem) (a2:Cap) (a3:Int) (hS:Sep [co y6 aA a0 a0v a0F,memK a1g a1] w0) {res:Res × Int × Bool × Mem} (hD:D.jn fu a0 a1 a2 a3=some res) :
    Calls y6 29 #[a0v,zp a1g.mb,u7 (capC a2),.int .i64 a3] w0 (fun e w'=>e=.returned (.tuple #[(u7 (resC res.1)),(.int .i64 res.2.1),(.bool res.2.2.1)])∧Done (fun b=>b∈a0F∨b∈(memK a1g a1).own) No [memK a1g res.2.2.2] w0 w'):=by
 refine enter Tryz.func29 rfl 39 rfl rfl fun fr r=>?_;have hP:Post (fun b=>b∈a0F∨b∈(memK a1g a1).own) [co y6 aA a0 a0v a0F,memK a1g a1] w0 w0:=.start hS yaz
 unfold D.jn at hD
 refine wsr ?_;refine kX 41 a0v r rfl rfl fun b1 w2 n3 r=>?_;have hP:Post (fun b=>b∈a0F∨b∈(memK a1g a1).own) [co y6 aA a0 a0v a0F,memK a1g a1,ac b1 a0v.cells 41] w0 w2:=hP.new n3
 refine kX 52 (u7 (capC a2)) r rfl rfl fun b5 w6 n7 r=>?_;have hP:Post (fun b=>b∈a0F∨b∈(memK a1g a1).own) [co y6 aA a0 a0v a0F,memK a1g a1,ac b1 a0v.cells 41,ac b5 ((capC a2)).toArray 52] w0 w6:=hP.new n7
 refine ah (.cells ((resC (⟨0,0⟩:Res))).toArray 36 (0,0)) r (fun R=>ag tz36) rfl fun fr b9 w10 n11 r=>?_;have hP:Post (fun b=>b∈a0F∨b∈(memK a1g a1).own) [co y6 aA a0 a0v a0F,memK a1g a1,ac b1 a0v.cells 41,ac b5 ((capC a2)).toArray 52,ac b9 ((resC (⟨0,0⟩:Res))).toArray 36] w0 w10:=hP.new n11
 refine kA (I 0) r rfl rfl fun r=>kA (.bool false) r rfl rfl fun r=>wn (wsr (kA (I 0) r rfl rfl fun r=>wn (a9 ?_)));refine ee (X:=Int × Mem × (Nat × T Res)) (G:=Value × List Nat) (x0:=(0,a1,a0)) (fun x γ=>[(0,a0v),(1,(zp a1g.mb)),(2,(u7 (capC a2))),(3,(I a3)),(4,(zp b1)),(6,(zp b5)),(8,(zp b9)),(9,(I 0)),(10,(.bool false)),(11,(I x.1))]) (fun x γ w=>Post (fun b=>b∈a0F∨b∈(memK a1g a1).own) [co y6 aA x.2.2 γ.1 γ.2,memK a1g x.2.1,ac b1 γ.1.cells 41,ac b5 ((capC a2)).toArray 52,ac b9 ((resC (⟨0,0⟩:Res))).toArray 36] w0 w) (a0v,a0F) r (kO (kO (au rfl (au rfl aI)))) hP hD ?_ ?_
 ·
  rintro x13 γ14 fr w16 g y15 RPy15 nxy15 bky15 rty15 r hP hD;have hP:Post (fun b=>b∈a0F∨b∈(memK a1g a1).own) [co y6 aA x13.2.2 γ14.1 γ14.2,memK a1g x13.2.1,ac b1 γ14.1.cells 41,ac b5 ((capC a2)).toArray 52,ac b9 ((resC (⟨0,0⟩:Res))).toArray 36] w0 w16:=hP
  refine a9 (a9 ?_);refine cQ (N:=39) (Y:=Bool) (G:=Unit) (fun x γ=>[(0,a0v),(1,(zp a1g.mb)),(2,(u7 (capC a2))),(3,(I a3)),(4,(zp b1)),(6,(zp b5)),(8,(zp b9)),(9,(I 0)),(10,(.bool false)),(11,(I x13.1)),(21,(.bool x))]) (fun x γ w=>Post (fun b=>b∈a0F∨b∈(memK a1g a1).own) [co y6 aA x13.2.2 γ14.1 γ14.2,memK a1g x13.2.1,ac b1 γ14.1.cells 41,ac b5 ((capC a2)).toArray 52,ac b9 ((resC (⟨0,0⟩:Res))).toArray 36] w0 w) hD ?_ ?_
  ·
   rintro y17 RPy17 nxy17 hD;refine q5 (kM (I x13.1) r rfl rfl fun r=>kM (I a3) r rfl rfl fun r=>kB r rfl rfl rfl rfl rfl fun r=>kM (.bool (decide (x13.1<a3))) r rfl rfl fun r=>?_);refine bE (decide (x13.1<a3)) (fun h18=>?_) (fun h18=>?_)
   ·
    have hD:=(ar h18).symm.trans hD;refine s1 r h18 (aa _ r (fun R=>az r (b:=b1) (o:=0) (k:=0) rfl rj) rfl fun fr r=>s1 r h18 (kL (.bool x13.2.2.2.bA) r rfl (hP.cell (i:=2) rfl) to4 (Rep.jK (hP.progz (i:=0) rfl)) rfl fun r=>s1 r h18 (aa (.bool (!x13.2.2.2.bA)) r (fun R=>y_un r (u:=(.bool x13.2.2.2.bA)) rfl rfl) rfl fun fr r=>aa (.bool (!x13.2.2.2.bA)) r (fun R=>ax r (b:=true) (kb h18) rfl) rfl fun fr r=>wn ?_)));exact nxy17 (!x13.2.2.2.bA) () _ _ _ hD r (kO (kO (au rfl (au rfl (au rfl aI))))) (hP.pick [0,1,2,3,4] rfl rfl)
   have hD:=(ai h18).symm.trans hD;refine s0 r h18 fun fr r=>s0 r h18 fun fr r=>s0 r h18 fun fr r=>aa (.bool false) r (fun R=>ax r (b:=false) (kb h18) rfl) rfl fun fr r=>wn ?_;exact nxy17 false () _ _ _ hD r (kO (kO (au rfl (au rfl (au rfl aI))))) (hP.pick [0,1,2,3,4] rfl rfl)
  rintro x19 γ20 fr w21 g r hP hD;have hP:Post (fun b=>b∈a0F∨b∈(memK a1g a1).own) [co y6 aA x13.2.2 γ14.1 γ14.2,memK a1g x13.2.1,ac b1 γ14.1.cells 41,ac b5 ((capC a2)).toArray 52,ac b9 ((resC (⟨0,0⟩:Res))).toArray 36] w0 w21:=hP
  refine q4 (t:=x19) (r.ev rfl) (fun h22=>?_) (fun h22=>?_)
  ·
   have hD:=(ar h22).symm.trans hD;refine q6 (wp_block (wsr (aa γ14.1 r (fun R=>gS r (hP.progz (i:=0) rfl).shape rfl (hP.cell (i:=2) rfl) ta41) rfl fun fr r=>kM (zp a1g.mb) r rfl rfl fun r=>kG (capC a2) 2 r rfl (hP.cell (i:=3) rfl) ta52 rfl rfl fun r=>?_)));obtain ⟨x23,hx23,hD⟩:=aH hD
   have hsh:=(hP.progz (i:=0) rfl).shape.cells.1;refine kC r (yR w21 x13.2.2 x13.2.1 a2 (hP.sep.pk [0,1] rfl rfl) hx23) rfl cl19 rfl ?_;rintro _ w24 ⟨v25,F26,rfl,hq,hsame⟩;refine ⟨_,rfl,fun fr r=>?_⟩
   have hP:Post (fun b=>b∈a0F∨b∈(memK a1g a1).own) [co y6 aA x23.1 v25 F26,memK a1g x23.2.2,ac b1 γ14.1.cells 41,ac b5 ((capC a2)).toArray 52,ac b9 ((resC (⟨0,0⟩:Res))).toArray 36] w0 w24:=(Post.frame (A:=[ac b1 γ14.1.cells 41,ac b5 ((capC a2)).toArray 52,ac b9 ((resC (⟨0,0⟩:Res))).toArray 36]) (B:=[co y6 aA x13.2.2 γ14.1 γ14.2,memK a1g x13.2.1,]) (hP.pick [2,3,4,0,1] rfl rfl) hq (fun b hb=>hb.elim (fun h=>⟨_,List.mem_cons_self ..,h⟩) fun h=>⟨_,List.mem_cons_of_mem _ (List.mem_singleton.2 rfl),h⟩)).pick [4,3,0,1,2] rfl rfl
   refine kM (.tuple #[v25,(.bool x23.2.1)]) r rfl rfl fun r=>aa v25 r (fun R=>bX r (vs:=#[v25,(.bool x23.2.1)]) rfl rfl) rfl fun fr r=>aa (.bool x23.2.1) r (fun R=>bX r (vs:=#[v25,(.bool x23.2.1)]) rfl rfl) rfl fun fr r=>?_;refine ah (.cells (kq aA) 41 (0,0)) r (fun R=>ag tz41) rfl fun fr b28 w29 n30 r=>?_
   have hP:Post (fun b=>b∈a0F∨b∈(memK a1g a1).own) [co y6 aA x23.1 v25 F26,memK a1g x23.2.2,ac b1 γ14.1.cells 41,ac b5 ((capC a2)).toArray 52,ac b9 ((resC (⟨0,0⟩:Res))).toArray 36,ac b28 (kq aA) 41] w0 w29:=hP.new n30
   refine kP r (hP.progz (i:=0) rfl).shape rfl rfl (hP.cell (i:=5) rfl) ts41 rfl rfl fun w32 u33 r=>?_;have hP:Post (fun b=>b∈a0F∨b∈(memK a1g a1).own) [co y6 aA x23.1 v25 F26,memK a1g x23.2.2,ac b1 γ14.1.cells 41,ac b5 ((capC a2)).toArray 52,ac b9 ((resC (⟨0,0⟩:Res))).toArray 36,ac b28 v25.cells 41] w0 w32:=hP.upd (i:=5) rfl u33
   refine kA (.bool x23.2.1) r rfl rfl fun r=>wn (a9 (wsr (kM (.bool x23.2.1) r rfl rfl fun r=>aa (.bool (!x23.2.1)) r (fun R=>y_un r (u:=(.bool x23.2.1)) rfl rfl) rfl fun fr r=>wn ?_)));refine q4 (t:=(!x23.2.1)) (r.ev rfl) (fun h34=>?_) (fun h34=>?_)
   ·
    have hD:=(ar h34).symm.trans hD;refine wp_exit ?_;obtain ⟨e1,e2⟩:=hsame (by simpa using h34)
    rw [e1,e2] at hP
    exact bky15 (x13.1,x23.2.2,x13.2.2) (γ14.1,F26) _ _ _ hD r (kO (kO (au rfl (au rfl aI)))) (hP.pick [0,1,2,3,4] rfl rfl)
   have hD:=(ai h34).symm.trans hD;refine q6 (wsr (aa v25 r (fun R=>gS r (hP.progz (i:=0) rfl).shape rfl (hP.cell (i:=5) rfl) ta41) rfl fun fr r=>?_));refine kP r (hP.progz (i:=0) rfl).shape rfl rfl (hP.cell (i:=2) rfl) ts41 (by have h:=hsh; simpa using h) rfl fun w35 u36 r=>?_
   have hP:Post (fun b=>b∈a0F∨b∈(memK a1g a1).own) [co y6 aA x23.1 v25 F26,memK a1g x23.2.2,ac b1 v25.cells 41,ac b5 ((capC a2)).toArray 52,ac b9 ((resC (⟨0,0⟩:Res))).toArray 36,ac b28 v25.cells 41] w0 w35:=hP.upd (i:=2) rfl u36
   refine wn ?_;refine q5 (kM (I x13.1) r rfl rfl fun r=>kB r rfl rfl rfl rfl rfl fun r=>kA (I (W (x13.1+1))) r rfl rfl fun r=>wn ?_);exact nxy15 ((W (x13.1+1)),x23.2.2,x23.1) (v25,F26) _ _ _ hD r (kO (kO (au rfl (au rfl aI)))) (hP.pick [0,1,2,3,4] rfl rfl)
  have hD:=(ai h22).symm.trans hD;refine wp_exit ?_;exact bky15 (x13.1,x13.2.1,x13.2.2) (γ14.1,γ14.2) _ _ _ hD r (kO (kO (au rfl (au rfl aI)))) (hP.pick [0,1,2,3,4] rfl rfl)
 rintro x37 γ38 fr w39 g r hP hD;have hP:Post (fun b=>b∈a0F∨b∈(memK a1g a1).own) [co y6 aA x37.2.2 γ38.1 γ38.2,memK a1g x37.2.1,ac b1 γ38.1.cells 41,ac b5 ((capC a2)).toArray 52,ac b9 ((resC (⟨0,0⟩:Res))).toArray 36] w0 w39:=hP
 refine a9 ?_;refine jD [b9] [.val (.pointer (some ⟨b1,1,none⟩)),.val (u7 (resC (T.res (⟨0,0⟩:Res) x37.2.2.2))),.val (I x37.1),.val (zp b1),.val (.bool x37.2.2.2.bA),.eff (EffP w39.heap.size (ac b9 ((resC (T.res (⟨0,0⟩:Res) x37.2.2.2))).toArray 36) (fun _:Unit=>undef) (fun _:Unit=>[])) (EffP.st _ _ _ _),.val (I x37.1),.val (.bool x37.2.2.2.bA)] mixed r (fun b hb=>hP.sep.lt (i:=4) rfl (.inl hb)) kz ?_ ?_
 ·
  refine cx r rfl kz (fun fr1 g w' hb' hd r'=>?_) ?_
  · exact az r' (b:=b1) (o:=0) (k:=1) rfl DX bz
  refine cx r rfl kz (fun fr1 g w' hb' hd r'=>?_) ?_
  · exact aX r' (cs:=(resC (T.res (⟨0,0⟩:Res) x37.2.2.2))) (n:=2) (hd 0 rfl).1 ((hP.below (dr hb')).cell (i:=2) rfl) ta36 (Rep.DP (d:=(⟨0,0⟩:Res)) rfl ((hP.below (dr hb')).progz (i:=0) rfl)) bz
  refine aO r rfl (fun fr1 g w' hk' hd r'=>?_) ?_
  · exact ay r' (v:=(I x37.1)) rfl bz
  refine aO r rfl (fun fr1 g w' hk' hd r'=>?_) ?_
  · exact az r' (b:=b1) (o:=0) (k:=0) rfl rj bz
  refine aO r rfl (fun fr1 g w' hk' hd r'=>?_) ?_
  · exact av r' (v:=(.bool x37.2.2.2.bA)) (hd 3 rfl).1 (hP.cellK (j:=4) rfl (drK hk') (i:=2) rfl rfl) to4 (Rep.jK (RepL.zero (show RepL _ _ _ _ _ _ _ from hP.okK (j:=4) rfl (drK hk') (i:=0) rfl rfl))) bz
  refine cx r rfl kz (fun fr1 g w' hb' hd r'=>?_) ?_
  · exact bb r' (o:=0) (v:=(u7 (resC (T.res (⟨0,0⟩:Res) x37.2.2.2)))) rfl (hd 1 rfl).1 ((hP.below (dr hb')).cell (i:=4) rfl) ts36 r9 rfl rfl (fun w2 u2=>⟨u2.kept,(),rfl,u2.at_,(fun b hb=>hP.sep.lt (i:=4) rfl hb),lB⟩)
  refine aO r rfl (fun fr1 g w' hk' hd r'=>?_) ?_
  · exact cF r' (v:=(I x37.1)) (hd 2 rfl).1 bz
  refine aO r rfl (fun fr1 g w' hk' hd r'=>?_) ?_
  · exact cF r' (v:=(.bool x37.2.2.2.bA)) (hd 4 rfl).1 bz
  exact bS
 intro fr gg w40 hb hΦ hap r;obtain ⟨⟨⟩,g5,hcE,_,hs5⟩:=(hΦ 5 rfl).1;have r:=r.congr (sc ((hΦ 7 rfl).1) (sc ((hΦ 6 rfl).1) (sc ((hΦ 4 rfl).1) (sc ((hΦ 3 rfl).1) (sc ((hΦ 2 rfl).1) (sc ((hΦ 1 rfl).1) (sc ((hΦ 0 rfl).1) rfl)))))));have hP:Post (fun b=>b∈a0F∨b∈(memK a1g a1).own) [co y6 aA x37.2.2 γ38.1 γ38.2,memK a1g x37.2.1,ac b1 γ38.1.cells 41,ac b5 ((capC a2)).toArray 52,ac b9 ((resC (T.res (⟨0,0⟩:Res) x37.2.2.2))).toArray 36] w0 w40:=hP.effL (i:=4) (l:=[]) rfl hb hcE rfl rfl trivial
 refine d9 ?_;have hv:((T.res (⟨0,0⟩:Res) x37.2.2.2),x37.1,x37.2.2.2.bA,x37.2.1)=res:=Option.some.inj hD
 try dsimp only [Exit.then,Exit.inBlock]
 refine ny (fn:=Tryz.f29) r rfl rfl (v':=(I x37.1)) (v2:=(.bool x37.2.2.2.bA)) rfl rfl (hP.cell (i:=4) rfl) (k:=2) rfl ta36 ?_;subst hv;exact ⟨rfl,(hP.pick [1] rfl rfl).done (dc rfl cH)⟩
abbrev pL0:Plan:=⟨2,1,4,1,1,1⟩
abbrev sL00:Seat:=⟨pL0,0,0⟩
theorem cl42:af y6 42:=kz
theorem is82:isSlice y6 82:=kz
theorem rt82:rowTy y6 82 104 2:=kz
def D.iC (fu:Nat) (a0:Plan) (a1:Mem) (a2:Int) (a3:Int):Option (List Entry):=((D.gy fu a1 a2 a3).bind (fun (x5:Int)=>(loopThen (fun (x8:List Entry × Int × Int)=>(Option.bind (bif (decide (x8.2.2<a0.nodes)) then (some (decide ((D.aW x8.2.1)≥0))) else (some false)) (fun (x15:Bool)=>(bif x15 then ((D.gy fu a1 a2 (D.bo a0 (D.aW x8.2.1) 2)).bind (fun (x21:Int)=>(Option.bind (bif ((cL .u64 x21 1)==0) then ((D.gy fu a1 a2 (D.bo a0 (D.aW x8.2.1) 0)).bind (fun (x25:Int)=>((D.gy fu a1 a2 (D.bo a0 (D.aW x8.2.1) 1)).bind (fun (x26:Int)=>((appD x8.1 ([(⟨x25,x26⟩:Entry)])).bind (fun (x30:List Entry)=>(some x30))))))) else (some x8.1)) (fun (x34:List Entry)=>(some (Lp.next (x34,x21,(IntKind.i64.wrap (x8.2.2+1))))))))) else (some (Lp.brk (x8.1,x8.2.1,x8.2.2))))))) fu ([],x5,0) (fun (x37:List Entry × Int × Int)=>(some x37.1)))))
theorem tF {fu:Nat} (w0:World) (a0:Plan) {a1g:MG} (a1:Mem) (a1h:MemAt a1g a1 w0) (a2:Int) (a3:Int) {res:List Entry} (hD:D.iC fu a0 a1 a2 a3=some res) :
    Calls y6 42 #[u7 (ae a0),zp a1g.mb,.int .i64 a2,.int .i64 a3] w0 (fun e w'=>∃ (v0:Value),e=.returned v0∧Done No No [rowK 104 2 aM v0 res] w0 w'):=by
 refine enter Tryz.func42 rfl 56 rfl rfl fun fr r=>?_;have hP:Post No [] w0 w0:=Post.nil w0
 have hP:Post No [memR a1g a1] w0 w0:=hP.addRo bi a1h rfl a1h.lt;unfold D.iC at hD
 refine wsr ?_;refine kX 23 (u7 (ae a0)) r rfl rfl fun b1 w2 n3 r=>?_;have hP:Post No [_,ac b1 ((ae a0)).toArray 23] w0 w2:=hP.new n3
 refine kA kS r rfl rfl fun r=>wn (wsr (kA kS r rfl rfl fun r=>wn (wsr (kM (zp a1g.mb) r rfl rfl fun r=>kM (I a2) r rfl rfl fun r=>kM (I a3) r rfl rfl fun r=>?_))));obtain ⟨x5,hx5,hD⟩:=aH hD
 refine kE r (mH w2 a1 (hP.memr (i:=0) rfl) a2 a3 hx5) rfl cl21 rfl fun w6 hb r=>?_;have hP:=hP.below hb
 refine kA (U x5) r rfl rfl fun r=>wn (a9 (wsr (kA (I 0) r rfl rfl fun r=>wn ?_)));have hP:Post No [_,_,rowK 104 2 aM kS ([])] w0 w6:=hP.nilRow 104 2 aM
 refine ee (X:=List Entry × Int × Int) (G:=Value) (x0:=([],x5,0)) (fun x γ=>[(0,(u7 (ae a0))),(1,(zp a1g.mb)),(2,(I a2)),(3,(I a3)),(4,(zp b1)),(8,kS),(9,γ),(10,(U x.2.1)),(11,(I x.2.2))]) (fun x γ w=>Post No [memR a1g a1,ac b1 ((ae a0)).toArray 23,rowK 104 2 aM γ x.1] w0 w) kS r (kO (kO (au rfl aI))) hP hD ?_ ?_
 ·
  rintro x8 γ9 fr w11 g y10 RPy10 nxy10 bky10 rty10 r hP hD;have hP:Post No [_,_,_] w0 w11:=hP;refine a9 (a9 ?_);refine cQ (N:=56) (Y:=Bool) (G:=Unit) (fun x γ=>[(0,(u7 (ae a0))),(1,(zp a1g.mb)),(2,(I a2)),(3,(I a3)),(4,(zp b1)),(8,kS),(9,γ9),(10,(U x8.2.1)),(11,(I x8.2.2)),(25,(.bool x))]) (fun x γ w=>Post No [memR a1g a1,ac b1 ((ae a0)).toArray 23,rowK 104 2 aM γ9 x8.1] w0 w) hD ?_ ?_
  ·
   rintro y12 RPy12 nxy12 hD;refine q5 (kM (I x8.2.2) r rfl rfl fun r=>kF 0 r rfl eO rfl fun r=>kL (I a0.nodes) r rfl (hP.cell (i:=1) rfl) to3 rfl rfl fun r=>kB r rfl rfl rfl rfl rfl fun r=>kM (.bool (decide (x8.2.2<a0.nodes))) r rfl rfl fun r=>?_);refine bE (decide (x8.2.2<a0.nodes)) (fun h13=>?_) (fun h13=>?_)
   ·
    have hD:=(ar h13).symm.trans hD;refine s1 r h13 (kM (U x8.2.1) r rfl rfl fun r=>s1 r h13 ?_);refine kE r (fM w11 x8.2.1) rfl cl88 rfl fun w14 hb r=>?_
    have hP:=hP.below hb;refine s1 r h13 (kB r rfl rfl rfl rfl rfl fun r=>aa (.bool (decide ((D.aW x8.2.1)≥0))) r (fun R=>ax r (b:=true) (kb h13) rfl) rfl fun fr r=>wn ?_);exact nxy12 (decide ((D.aW x8.2.1)≥0)) () _ _ _ hD r (kO (kO (au rfl (au rfl aI)))) (hP.pick [0,1,2] rfl rfl)
   have hD:=(ai h13).symm.trans hD;refine s0 r h13 fun fr r=>s0 r h13 fun fr r=>s0 r h13 fun fr r=>aa (.bool false) r (fun R=>ax r (b:=false) (kb h13) rfl) rfl fun fr r=>wn ?_;exact nxy12 false () _ _ _ hD r (kO (kO (au rfl (au rfl aI)))) (hP.pick [0,1,2] rfl rfl)
  rintro x15 γ16 fr w17 g r hP hD;have hP:Post No [_,_,_] w0 w17:=hP;refine q4 (t:=x15) (r.ev rfl) (fun h18=>?_) (fun h18=>?_)
  ·
   have hD:=(ar h18).symm.trans hD;refine q6 (a9 (wp_block (wsr (kM (U x8.2.1) r rfl rfl fun r=>?_))));refine kE r (fM w17 x8.2.1) rfl cl88 rfl fun w19 hb r=>?_
   have hP:=hP.below hb;refine kA (I (D.aW x8.2.1)) r rfl rfl fun r=>wn (wsr (kM (zp a1g.mb) r rfl rfl fun r=>kM (I a2) r rfl rfl fun r=>kG (ae a0) 6 r rfl (hP.cell (i:=1) rfl) ta23 rfl rfl fun r=>kM (I (D.aW x8.2.1)) r rfl rfl fun r=>?_));refine kE r (eu w19 a0 (D.aW x8.2.1) 2) rfl cl89 rfl fun w20 hb r=>?_
   have hP:=hP.below hb;obtain ⟨x21,hx21,hD⟩:=aH hD;refine kE r (mH w20 a1 (hP.memr (i:=0) rfl) a2 (D.bo a0 (D.aW x8.2.1) 2) hx21) rfl cl21 rfl fun w22 hb r=>?_;have hP:=hP.below hb
   refine kA (U x21) r rfl rfl fun r=>wn (wsr (kM (U x21) r rfl rfl fun r=>kB r rfl rfl rfl rfl rfl fun r=>kB r rfl rfl rfl rfl rfl fun r=>wn ?_));refine cQ (N:=56) (Y:=List Entry) (G:=Value) (fun x γ=>[(0,(u7 (ae a0))),(1,(zp a1g.mb)),(2,(I a2)),(3,(I a3)),(4,(zp b1)),(8,kS),(10,(U x21)),(11,(I x8.2.2)),(25,(.bool x15)),(12,(I (D.aW x8.2.1))),(38,(.bool ((cL .u64 x21 1)==0))),(9,γ)]) (fun x γ w=>Post No [memR a1g a1,ac b1 ((ae a0)).toArray 23,rowK 104 2 aM γ x] w0 w) hD ?_ ?_
   ·
    rintro y23 RPy23 nxy23 hD;refine q4 (t:=((cL .u64 x21 1)==0)) (r.ev rfl) (fun h24=>?_) (fun h24=>?_)
    ·
     have hD:=(ar h24).symm.trans hD;obtain ⟨x25,hx25,hD⟩:=aH hD;obtain ⟨x26,hx26,hD⟩:=aH hD;refine qK 15 [.val γ9,.val (zp a1g.mb),.val (I a2),.val (u7 (ae a0)),.val (I (D.aW x8.2.1)),.val (I (D.bo a0 (D.aW x8.2.1) 0)),.val (U x25),.val (zp a1g.mb),.val (I a2),.val (u7 (ae a0)),.val (I (D.aW x8.2.1)),.val (I (D.bo a0 (D.aW x8.2.1) 1)),.val (U x26),.val (u7 (aM (⟨x25,x26⟩:Entry))),.pred (MkP (fun v:Value=>v) (fun v:Value=>[rowK 104 2 aM v ([(⟨x25,x26⟩:Entry)])])) (MkP.st _ _)] mixed r kz ?_ ?_
     ·
      refine fc r (fun fr1 g w' hb' hd r'=>ay r' rfl bz) ?_;refine fc r (fun fr1 g w' hb' hd r'=>ay r' rfl bz) ?_
      refine fc r (fun fr1 g w' hb' hd r'=>ay r' rfl bz) ?_;refine fc r (fun fr1 g w' hb' hd r'=>aX r' (cs:=(ae a0)) (n:=6) rfl ((hP.below (dr hb')).cell (i:=1) rfl) ta23 rfl bz) ?_
      refine fc r (fun fr1 g w' hb' hd r'=>ay r' rfl bz) ?_;refine fc r (fun fr1 g w' hb' hd r'=>aP r' (args:=[(u7 (ae a0)),(I (D.aW x8.2.1)),(I 0)]) (lc (hd 3 rfl).1 (lc (hd 4 rfl).1 (lc rfl l0))) cl89 ((eu _ a0 (D.aW x8.2.1) 0).mono yab)) ?_
      refine fc r (fun fr1 g w' hb' hd r'=>aP r' (args:=[(zp a1g.mb),(I a2),(I (D.bo a0 (D.aW x8.2.1) 0))]) (lc (hd 1 rfl).1 (lc (hd 2 rfl).1 (lc (hd 5 rfl).1 l0))) cl21 ((mH _ a1 ((hP.below (dr hb')).memr (i:=0) rfl) a2 (D.bo a0 (D.aW x8.2.1) 0) hx25).mono yab)) ?_;refine fc r (fun fr1 g w' hb' hd r'=>ay r' rfl bz) ?_
      refine fc r (fun fr1 g w' hb' hd r'=>ay r' rfl bz) ?_;refine fc r (fun fr1 g w' hb' hd r'=>aX r' (cs:=(ae a0)) (n:=6) rfl ((hP.below (dr hb')).cell (i:=1) rfl) ta23 rfl bz) ?_
      refine fc r (fun fr1 g w' hb' hd r'=>ay r' rfl bz) ?_;refine fc r (fun fr1 g w' hb' hd r'=>aP r' (args:=[(u7 (ae a0)),(I (D.aW x8.2.1)),(I 1)]) (lc (hd 9 rfl).1 (lc (hd 10 rfl).1 (lc rfl l0))) cl89 ((eu _ a0 (D.aW x8.2.1) 1).mono yab)) ?_
      refine fc r (fun fr1 g w' hb' hd r'=>aP r' (args:=[(zp a1g.mb),(I a2),(I (D.bo a0 (D.aW x8.2.1) 1))]) (lc (hd 7 rfl).1 (lc (hd 8 rfl).1 (lc (hd 11 rfl).1 l0))) cl21 ((mH _ a1 ((hP.below (dr hb')).memr (i:=0) rfl) a2 (D.bo a0 (D.aW x8.2.1) 1) hx26).mono yab)) ?_;refine fc r (fun fr1 g w' hb' hd r'=>eF r' (v:=(u7 (aM (⟨x25,x26⟩:Entry)))) (bs2 (congrArg (fun z=>(0,z)) (hd 6 rfl).1) (congrArg (fun z=>(1,z)) (hd 12 rfl).1) kz) bz) ?_
      refine fc r (fun fr1 g w' hb' hd r'=>cI r' (c:=(([(⟨x25,x26⟩:Entry)]).flatMap aM).toArray) (E:=104) (bs1 (congrArg (fun z=>(0,z)) (hd 13 rfl).1) kz) (fun b w2 n2=>⟨n2.below,MkP.newRow n2 (fun _=>rfl) rfl⟩)) ?_;exact bS
     intro fr gg w29 hb hΦ hap r;obtain ⟨v27,g14,hs14⟩:=(hΦ 14 rfl).1;have r:=r.congr (sc g14 (sc ((hΦ 13 rfl).1) (sc ((hΦ 12 rfl).1) (sc ((hΦ 11 rfl).1) (sc ((hΦ 10 rfl).1) (sc ((hΦ 9 rfl).1) (sc ((hΦ 8 rfl).1) (sc ((hΦ 7 rfl).1) (sc ((hΦ 6 rfl).1) (sc ((hΦ 5 rfl).1) (sc ((hΦ 4 rfl).1) (sc ((hΦ 3 rfl).1) (sc ((hΦ 2 rfl).1) (sc ((hΦ 1 rfl).1) (sc ((hΦ 0 rfl).1) rfl)))))))))))))));have hP:Post No [_,_,_,rowK 104 2 aM v27 ([(⟨x25,x26⟩:Entry)])] w0 w29:=hP.addL (l:=[([rowK 104 2 aM v27 ([(⟨x25,x26⟩:Entry)])],(gg 14).lo,(gg 14).hi)]) hb ⟨hs14,(hΦ 14 rfl).2.1,dO,trivial⟩;obtain ⟨x30,hx30,hD⟩:=aH hD;refine dT 104 2 aM γ9 r (fun R=>dP r rt82 (fun _=>rfl) (fun _=>rfl) (hP.row (i:=2) rfl) (hP.row (i:=3) rfl).ro hx30 rfl rfl) rfl fun fr v31 w32 ha33 r=>?_;have hP:Post No [_,_,rowK 104 2 aM v31 x30,_] w0 w32:=hP.append (i:=2) rfl ha33
     refine kA v31 r rfl rfl fun r=>wn ?_;exact nxy23 x30 v31 _ _ _ hD r (kO (kO (kO aI))) (hP.pick [0,1,2] rfl rfl)
    have hD:=(ai h24).symm.trans hD;refine q6 ?_;exact nxy23 x8.1 γ9 _ _ _ hD r (kO (kO (kO aI))) (hP.pick [0,1,2] rfl rfl)
   rintro x34 γ35 fr w36 g r hP hD;have hP:Post No [_,_,_] w0 w36:=hP;refine q5 (kM (I x8.2.2) r rfl rfl fun r=>kB r rfl rfl rfl rfl rfl fun r=>kA (I (W (x8.2.2+1))) r rfl rfl fun r=>wn ?_);exact nxy10 (x34,x21,(W (x8.2.2+1))) γ35 _ _ _ hD r (kO (kO (au rfl aI))) (hP.pick [0,1,2] rfl rfl)
  have hD:=(ai h18).symm.trans hD;refine wp_exit ?_;exact bky10 (x8.1,x8.2.1,x8.2.2) γ9 _ _ _ hD r (kO (kO (au rfl aI))) (hP.pick [0,1,2] rfl rfl)
 rintro x37 γ38 fr w39 g r hP hD;have hP:Post No [_,_,_] w0 w39:=hP;refine wsr (kM γ38 r rfl rfl fun r=>kA γ38 r rfl rfl fun r=>wn (d9 ?_));have hv:x37.1=res:=Option.some.inj hD
 try dsimp only [Exit.then,Exit.inBlock]
 refine aU (fn:=Tryz.f42) r (t:=8) rfl (v:=γ38) rfl ?_;subst hv;exact ⟨γ38,rfl,(hP.pick [2] rfl rfl).done (dc rfl cH)⟩
def D.kn (fu:Nat) :Option (Bool):=((D.j7 fu (⟨2,1,4,1,1,1⟩:Plan)).bind (fun (x7:Mem)=>((D.jh fu x7 0).bind (fun (x12:Cap)=>((D.jn fu (fu,(D.gQ (fu+1) (⟨(⟨2,1,4,1,1,1⟩:Plan),0,0⟩:Seat) (D.cB (⟨2,1,4,1,1,1⟩:Plan) 0 0) 5 7)) x7 x12 99).bind (fun (x13:Res × Int × Bool × Mem)=>(Option.bind (bif x13.2.2.1 then (bif (x13.1.e==0) then ((D.iC fu (⟨2,1,4,1,1,1⟩:Plan) x13.2.2.2 0 (D.cB (⟨2,1,4,1,1,1⟩:Plan) 0 0)).bind (fun (x19:List Entry)=>(some ((x19.length:Int)==1)))) else (some false)) else (some false)) (fun (x25:Bool)=>(some x25)))))))))
theorem sG {fu:Nat} (w0:World) {res:Bool} (hD:D.kn fu =some res) :
    Calls y6 33 #[] w0 (bB (.bool res) w0):=by
 refine enter Tryz.func33 rfl 39 rfl rfl fun fr r=>?_;have hP:Post No [] w0 w0:=Post.nil w0
 unfold D.kn at hD
 refine wsr (kA (.bool false) r rfl rfl fun r=>wn (wsr (kU (u7 (ae pL0)) r kz rfl fun r=>?_)));refine ah (.cells ((ae (⟨0,0,0,0,0,0⟩:Plan))).toArray 23 (0,0)) r (fun R=>ag tz23) rfl fun fr b1 w2 n3 r=>?_
 have hP:Post No [ac b1 ((ae (⟨0,0,0,0,0,0⟩:Plan))).toArray 23] w0 w2:=hP.new n3;refine aJ (.cells ((ae pL0)).toArray 23 (0,0)) r (fun R=>bb r (o:=0) (v:=(u7 (ae pL0))) rfl rfl (hP.cell (i:=0) rfl) ts23 r9 rfl rfl) rfl fun fr w5 u6 r=>?_;have hP:Post No [ac b1 ((ae pL0)).toArray 23] w0 w5:=hP.upd (i:=0) rfl u6
 refine wn (wsr (kG (ae pL0) 6 r rfl (hP.cell (i:=0) rfl) ta23 rfl rfl fun r=>?_));obtain ⟨x7,hx7,hD⟩:=aH hD
 refine kC r (sJ w5 pL0 hx7) rfl cl14 rfl ?_;rintro _ w8 ⟨mg9,rfl,hq⟩;refine ⟨_,rfl,fun fr r=>?_⟩
 have hP:Post No [_,memK mg9 x7] w0 w8:=hP.add hq;refine kA (zp mg9.mb) r rfl rfl fun r=>wn (a9 (wsr (kM (zp mg9.mb) r rfl rfl fun r=>kB r rfl rfl rfl rfl rfl fun r=>wn ?_)));refine q4 (t:=false) (r.ev rfl) (fun h=>absurd ((rfl:false=_).symm.trans h) ke) (fun _=>q6 (a9 ?_))
 obtain ⟨x12,hx12,hD⟩:=aH hD;obtain ⟨x13,hx13,hD⟩:=aH hD;refine Fc.vA mg9.bs [.val (u7 (ae pL0)),.val (u7 (bC sL00)),.val (u7 (ae pL0)),.val (I (D.cB pL0 0 0)),.cons 8 (PrL y6 aA (fu,(D.gQ (fu+1) sL00 (D.cB pL0 0 0) 5 7))) (PrL.st _),.val (zp mg9.mb),.val (zp mg9.mb),.val (u7 (capC x12)),.effC [4] (EffP w8.heap.size (memK mg9 x13.2.2.2) (fun _:Unit=>(.tuple #[(u7 (resC x13.1)),(I x13.2.1),(.bool x13.2.2.1)])) (fun _:Unit=>[])) (EffP.st _ _ _ _),.val (.tuple #[(u7 (resC x13.1)),(I x13.2.1),(.bool x13.2.2.1)]),.val (u7 (resC x13.1)),.val (I x13.2.1),.val (.bool x13.2.2.1),.cell 36 2,.stored 13 ((resC x13.1)).toArray 36 2 rfl,.val (I x13.2.1),.val (.bool x13.2.2.1)] mixed r (fun b hb=>hP.sep.lt (i:=1) rfl (.inl hb)) ⟨_,List.mem_cons_self ..⟩ kz ?_ ?_
 ·
  refine Fc.aO r rfl (fun fr1 g w' hk' hd r'=>?_) ?_
  · exact aX r' (cs:=(ae pL0)) (n:=6) rfl (hP.cellK (j:=1) rfl (drK hk') (i:=0) rfl rfl) ta23 rfl bz
  refine Fc.aO r rfl (fun fr1 g w' hk' hd r'=>?_) ?_
  · exact eF r' (v:=(u7 (bC sL00))) (bs1 (congrArg (fun z=>(0,z)) (hd 0 rfl).1) kz) bz
  refine Fc.aO r rfl (fun fr1 g w' hk' hd r'=>?_) ?_
  · exact aX r' (cs:=(ae pL0)) (n:=6) rfl (hP.cellK (j:=1) rfl (drK hk') (i:=0) rfl rfl) ta23 rfl bz
  refine Fc.aO r rfl (fun fr1 g w' hk' hd r'=>?_) ?_
  · exact aP r' (args:=[(u7 (ae pL0)),(I 0),(I 0)]) (lc (hd 2 rfl).1 (lc rfl (lc rfl l0))) cl36 ((pK _ pL0 0 0).mono yab)
  refine Fc.cx r rfl kz (fun fr1 g w' hb' hd r'=>?_) ?_
  · exact aP r' (args:=[(u7 (bC sL00)),(I (D.cB pL0 0 0)),(U 5),(U 7)]) (lc (hd 1 rfl).1 (lc (hd 3 rfl).1 (lc rfl (lc rfl l0)))) cl82 ((ue (F:=No) (n:=fu) (j:=fu+1) (fun _ h=>h.elim) kw sL00 (D.cB pL0 0 0) 5 7).mono (by rintro _ w2 ⟨y,rfl,hb2,hr2⟩; exact ⟨_,rfl,hb2.below,uc hr2⟩))
  refine Fc.cx r rfl kz (fun fr1 g w' hb' hd r'=>?_) ?_
  · exact ay r' (v:=(zp mg9.mb)) rfl bz
  refine Fc.aO r rfl (fun fr1 g w' hk' hd r'=>?_) ?_
  · exact ay r' (v:=(zp mg9.mb)) rfl bz
  refine Fc.cx r rfl kz (fun fr1 g w' hb' hd r'=>?_) ?_
  · exact aP r' (args:=[(zp mg9.mb),(I 0)]) (lc (hd 6 rfl).1 (lc rfl l0)) cl20 ((pD _ x7 ((hP.below (dr hb')).mem (i:=1) rfl) 0 hx12).mono yab)
  refine Fc.eachC r rfl kz (fun fr1 g w' h0 hb' hd r'=>?_) ?_
  · exact aP r' (args:=[(g 4).v,(zp mg9.mb),(u7 (capC x12)),(I 99)]) (lc rfl (lc (hd 5 rfl).1 (lc (hd 7 rfl).1 (lc rfl l0)))) cl29 ((tk _ (fu,(D.gQ (fu+1) sL00 (D.cB pL0 0 0) 5 7)) x7 x12 99 (Sep.beside ((hd 4 rfl).1 h0) ((hP.below (dr hb')).sep.pk [1] rfl rfl) yaA (hd 4 rfl).2.1) hx13).mono (by rintro _ w2 ⟨rfl,hq⟩; exact ⟨_,rfl,Chg.keptC hq.chg,EffP.ofC hq (fun b hb=>hP.sep.lt (i:=1) rfl hb)⟩))
  refine Fc.aO r rfl (fun fr1 g w' hk' hd r'=>?_) ?_
  · exact ay r' (v:=(.tuple #[(u7 (resC x13.1)),(I x13.2.1),(.bool x13.2.2.1)])) (EffP.val (hd 8 rfl).1) bz
  refine Fc.aO r rfl (fun fr1 g w' hk' hd r'=>?_) ?_
  · exact bX r' (vs:=#[(u7 (resC x13.1)),(I x13.2.1),(.bool x13.2.2.1)]) (hd 9 rfl).1 rfl bz
  refine Fc.aO r rfl (fun fr1 g w' hk' hd r'=>?_) ?_
  · exact bX r' (vs:=#[(u7 (resC x13.1)),(I x13.2.1),(.bool x13.2.2.1)]) (hd 9 rfl).1 rfl bz
  refine Fc.aO r rfl (fun fr1 g w' hk' hd r'=>?_) ?_
  · exact bX r' (vs:=#[(u7 (resC x13.1)),(I x13.2.1),(.bool x13.2.2.1)]) (hd 9 rfl).1 rfl bz
  refine Fc.aO r rfl (fun fr1 g w' hk' hd r'=>?_) ?_
  · exact ag tz36 (fun b w2 n2=>⟨n2.below,b,rfl,n2.eq,_,n2.at_,rfl⟩)
  refine Fc.aO r rfl (fun fr1 g w' hk' hd r'=>?_) ?_
  · obtain ⟨hp,_,c,hc,hn⟩:=(hd 13 rfl).1; exact bb r' (o:=0) (c:=c) (v:=(u7 (resC x13.1))) hp (hd 10 rfl).1 hc ts36 yaD rfl (lq (hn.trans rfl)) (fun w2 u2=>⟨u2,rfl⟩)
  refine Fc.aO r rfl (fun fr1 g w' hk' hd r'=>?_) ?_
  · exact cF r' (v:=(I x13.2.1)) (hd 11 rfl).1 bz
  refine Fc.aO r rfl (fun fr1 g w' hk' hd r'=>?_) ?_
  · exact cF r' (v:=(.bool x13.2.2.1)) (hd 12 rfl).1 bz
  exact Fc.bS
 intro fr gg w15 hb hΦ hap r;obtain ⟨v11,hv4⟩:∃ v,v=(gg 4).v:=⟨_,rfl⟩;have g4:(gg 4).v=v11:=hv4.symm;obtain ⟨⟨⟩,g8,hcE,_,hs8⟩:=(hΦ 8 rfl).1;obtain ⟨b14,ee_b14⟩:∃ b,b=(gg 13).lo:=⟨_,rfl⟩;have g13:(gg 13).v=(zp b14):=by rw [ee_b14]; exact (hΦ 13 rfl).1.1
 have H14:w15.heap[b14]?=some (.cells ((resC x13.1)).toArray 36 (0,0)):=by rw [ee_b14]; exact (hΦ 14 rfl).1.2
 have hs13:Fresh [ac b14 ((resC x13.1)).toArray 36] (gg 13).lo (gg 13).hi w15:=by subst ee_b14; exact Fresh.cell (hΦ 13 rfl).1.2.1 H14
 have r:=r.congr (sc ((hΦ 16 rfl).1) (sc ((hΦ 15 rfl).1) (sc g13 (sc ((hΦ 12 rfl).1) (sc ((hΦ 11 rfl).1) (sc ((hΦ 10 rfl).1) (sc ((hΦ 9 rfl).1) (sc g8 (sc ((hΦ 7 rfl).1) (sc ((hΦ 6 rfl).1) (sc ((hΦ 5 rfl).1) (sc g4 (sc ((hΦ 3 rfl).1) (sc ((hΦ 2 rfl).1) (sc ((hΦ 1 rfl).1) (sc ((hΦ 0 rfl).1) rfl))))))))))))))));have hP:Post No [_,memK mg9 x13.2.2.2,ac b14 ((resC x13.1)).toArray 36] w0 w15:=hP.effL (i:=1) (l:=[([ac b14 ((resC x13.1)).toArray 36],(gg 13).lo,(gg 13).hi)]) rfl hb hcE rfl rfl ⟨hs13,(hΦ 13 rfl).2.1,dO,trivial⟩;refine a9 ?_;refine cQ (N:=39) (Y:=Bool) (G:=Unit) (fun x γ=>[(1,(zp b1)),(2,(zp mg9.mb)),(10,(.bool false)),(3,(zp b14)),(5,(.bool x13.2.2.1)),(0,(.bool x))]) (fun x γ w=>Post No [ac b1 ((ae pL0)).toArray 23,memK mg9 x13.2.2.2,ac b14 ((resC x13.1)).toArray 36] w0 w) hD ?_ ?_
 ·
  rintro y16 RPy16 nxy16 hD;refine bE x13.2.2.1 (fun h17=>?_) (fun h17=>?_)
  ·
   have hD:=(ar h17).symm.trans hD;refine bE (x13.1.e==0) (fun h18=>?_) (fun h18=>?_)
   ·
    have hD:=(ar h18).symm.trans hD;obtain ⟨x19,hx19,hD⟩:=aH hD;refine df [.val (.bool x13.2.2.1),.val (.bool x13.2.2.1),.val (zp b14),.val (I x13.1.e),.val (.bool (x13.1.e==0)),.val (.bool (x13.1.e==0)),.val (.bool (x13.1.e==0)),.val (u7 (ae pL0)),.val (zp mg9.mb),.val (u7 (ae pL0)),.val (I (D.cB pL0 0 0)),.pred (MkP (fun v20:Value=>v20) (fun v20:Value=>[rowK 104 2 aM v20 x19])) (MkP.st _ _),.val (I (x19.length:Int)),.val (.bool ((x19.length:Int)==1)),.val (.bool ((x19.length:Int)==1)),.val (.bool ((x19.length:Int)==1))] mixed r kz ?_ ?_
    ·
     refine fc r (fun fr1 g w' hb' hd r'=>ay r' rfl bz) ?_;refine fc r (fun fr1 g w' hb' hd r'=>ay r' (hd 0 rfl).1 bz) ?_
     refine bf true r rfl rfl rfl (fun g w' hd=>Eq.trans (show (g 1).v=.bool x13.2.2.1 from (hd 1 rfl).1) (kb h17)) (fun fr1 g w' hb' hd r'=>?_) ?_
     · exact az r' (b:=b14) (o:=0) (k:=0) rfl wE bz
     refine bf true r rfl rfl rfl (fun g w' hd=>Eq.trans (show (g 1).v=.bool x13.2.2.1 from (hd 1 rfl).1) (kb h17)) (fun fr1 g w' hb' hd r'=>?_) ?_
     · exact av r' (v:=(I x13.1.e)) (hd 2 rfl).1 ((hP.below (dr hb')).cell (i:=2) rfl) to33 rfl bz
     refine bf true r rfl rfl rfl (fun g w' hd=>Eq.trans (show (g 1).v=.bool x13.2.2.1 from (hd 1 rfl).1) (kb h17)) (fun fr1 g w' hb' hd r'=>?_) ?_
     · exact bd r' (u:=(I x13.1.e)) (u':=(I 0)) (v:=(.bool (x13.1.e==0))) (hd 3 rfl).1 rfl rfl rfl bz
     refine fc r (fun fr1 g w' hb' hd r'=>ax r' (b:=true) (v:=(.bool (x13.1.e==0))) (Eq.trans (show (g 1).v=.bool x13.2.2.1 from (hd 1 rfl).1) (kb h17)) (hd 4 rfl).1 bz) ?_;refine fc r (fun fr1 g w' hb' hd r'=>ay r' (hd 5 rfl).1 bz) ?_
     refine bf true r rfl rfl rfl (fun g w' hd=>Eq.trans (show (g 6).v=.bool (x13.1.e==0) from (hd 6 rfl).1) (kb h18)) (fun fr1 g w' hb' hd r'=>?_) ?_
     · exact aX r' (cs:=(ae pL0)) (n:=6) rfl ((hP.below (dr hb')).cell (i:=0) rfl) ta23 rfl bz
     refine bf true r rfl rfl rfl (fun g w' hd=>Eq.trans (show (g 6).v=.bool (x13.1.e==0) from (hd 6 rfl).1) (kb h18)) (fun fr1 g w' hb' hd r'=>?_) ?_
     · exact ay r' (v:=(zp mg9.mb)) rfl bz
     refine bf true r rfl rfl rfl (fun g w' hd=>Eq.trans (show (g 6).v=.bool (x13.1.e==0) from (hd 6 rfl).1) (kb h18)) (fun fr1 g w' hb' hd r'=>?_) ?_
     · exact aX r' (cs:=(ae pL0)) (n:=6) rfl ((hP.below (dr hb')).cell (i:=0) rfl) ta23 rfl bz
     refine bf true r rfl rfl rfl (fun g w' hd=>Eq.trans (show (g 6).v=.bool (x13.1.e==0) from (hd 6 rfl).1) (kb h18)) (fun fr1 g w' hb' hd r'=>?_) ?_
     · exact aP r' (args:=[(u7 (ae pL0)),(I 0),(I 0)]) (lc (hd 9 rfl).1 (lc rfl (lc rfl l0))) cl36 ((pK _ pL0 0 0).mono yab)
     refine bf true r rfl rfl rfl (fun g w' hd=>Eq.trans (show (g 6).v=.bool (x13.1.e==0) from (hd 6 rfl).1) (kb h18)) (fun fr1 g w' hb' hd r'=>?_) ?_
     · exact aP r' (args:=[(u7 (ae pL0)),(zp mg9.mb),(I 0),(I (D.cB pL0 0 0))]) (lc (hd 7 rfl).1 (lc (hd 8 rfl).1 (lc rfl (lc (hd 10 rfl).1 l0)))) cl42 ((tF _ pL0 x13.2.2.2 ((hP.below (dr hb')).mem (i:=1) rfl) 0 (D.cB pL0 0 0) hx19).mono (by rintro _ w2 ⟨y,rfl,hq⟩; exact ⟨_,rfl,hq.chg.below,MkP.of y hq⟩))
     refine bf true r rfl rfl rfl (fun g w' hd=>Eq.trans (show (g 6).v=.bool (x13.1.e==0) from (hd 6 rfl).1) (kb h18)) (fun fr1 g w' hb' hd r'=>?_) ?_
     · obtain ⟨y,hy,hs,_⟩:=(hd 11 rfl).1; exact cV r' (cv.ro (hs.get (i:=0) rfl)) is82 hy bz
     refine bf true r rfl rfl rfl (fun g w' hd=>Eq.trans (show (g 6).v=.bool (x13.1.e==0) from (hd 6 rfl).1) (kb h18)) (fun fr1 g w' hb' hd r'=>?_) ?_
     · exact bd r' (u:=(I (x19.length:Int))) (u':=(I 1)) (v:=(.bool ((x19.length:Int)==1))) (hd 12 rfl).1 rfl rfl rfl bz
     refine fc r (fun fr1 g w' hb' hd r'=>ax r' (b:=true) (v:=(.bool ((x19.length:Int)==1))) (Eq.trans (show (g 6).v=.bool (x13.1.e==0) from (hd 6 rfl).1) (kb h18)) (hd 13 rfl).1 bz) ?_;refine fc r (fun fr1 g w' hb' hd r'=>cF r' (hd 14 rfl).1 bz) ?_
     exact bS
    intro fr gg w22 hb hΦ hap r;obtain ⟨v20,g11,hs11⟩:=(hΦ 11 rfl).1;have r:=r.congr (sc ((hΦ 15 rfl).1) (sc ((hΦ 14 rfl).1) (sc ((hΦ 13 rfl).1) (sc ((hΦ 12 rfl).1) (sc g11 (sc ((hΦ 10 rfl).1) (sc ((hΦ 9 rfl).1) (sc ((hΦ 8 rfl).1) (sc ((hΦ 7 rfl).1) (sc ((hΦ 6 rfl).1) (sc ((hΦ 5 rfl).1) (sc ((hΦ 4 rfl).1) (sc ((hΦ 3 rfl).1) (sc ((hΦ 2 rfl).1) (sc ((hΦ 1 rfl).1) (sc ((hΦ 0 rfl).1) rfl))))))))))))))));have hP:Post No [_,_,_,rowK 104 2 aM v20 x19] w0 w22:=hP.addL (l:=[([rowK 104 2 aM v20 x19],(gg 11).lo,(gg 11).hi)]) hb ⟨hs11,(hΦ 11 rfl).2.1,dO,trivial⟩;exact nxy16 ((x19.length:Int)==1) () _ _ _ hD r (kO (au rfl (au rfl aI))) (hP.pick [0,1,2] rfl rfl)
   have hD:=(ai h18).symm.trans hD;refine df [.val (.bool x13.2.2.1),.val (.bool x13.2.2.1),.val (zp b14),.val (I x13.1.e),.val (.bool (x13.1.e==0)),.val (.bool (x13.1.e==0)),.val (.bool (x13.1.e==0)),.val undef,.val undef,.val undef,.val undef,.val undef,.val undef,.val undef,.val (.bool false),.val (.bool false)] mixed r kz ?_ ?_
   ·
    refine fc r (fun fr1 g w' hb' hd r'=>ay r' rfl bz) ?_;refine fc r (fun fr1 g w' hb' hd r'=>ay r' (hd 0 rfl).1 bz) ?_
    refine bf true r rfl rfl rfl (fun g w' hd=>Eq.trans (show (g 1).v=.bool x13.2.2.1 from (hd 1 rfl).1) (kb h17)) (fun fr1 g w' hb' hd r'=>?_) ?_
    · exact az r' (b:=b14) (o:=0) (k:=0) rfl wE bz
    refine bf true r rfl rfl rfl (fun g w' hd=>Eq.trans (show (g 1).v=.bool x13.2.2.1 from (hd 1 rfl).1) (kb h17)) (fun fr1 g w' hb' hd r'=>?_) ?_
    · exact av r' (v:=(I x13.1.e)) (hd 2 rfl).1 ((hP.below (dr hb')).cell (i:=2) rfl) to33 rfl bz
    refine bf true r rfl rfl rfl (fun g w' hd=>Eq.trans (show (g 1).v=.bool x13.2.2.1 from (hd 1 rfl).1) (kb h17)) (fun fr1 g w' hb' hd r'=>?_) ?_
    · exact bd r' (u:=(I x13.1.e)) (u':=(I 0)) (v:=(.bool (x13.1.e==0))) (hd 3 rfl).1 rfl rfl rfl bz
    refine fc r (fun fr1 g w' hb' hd r'=>ax r' (b:=true) (v:=(.bool (x13.1.e==0))) (Eq.trans (show (g 1).v=.bool x13.2.2.1 from (hd 1 rfl).1) (kb h17)) (hd 4 rfl).1 bz) ?_;refine fc r (fun fr1 g w' hb' hd r'=>ay r' (hd 5 rfl).1 bz) ?_
    refine bg true (.bool false) r rfl rfl rfl (fun g w' hd=>Eq.trans (show (g 6).v=.bool (x13.1.e==0) from (hd 6 rfl).1) (kb h18)) yae (fun _ _=>bz) ?_;refine bg true (.bool false) r rfl rfl rfl (fun g w' hd=>Eq.trans (show (g 6).v=.bool (x13.1.e==0) from (hd 6 rfl).1) (kb h18)) yae (fun _ _=>bz) ?_
    refine bg true (.bool false) r rfl rfl rfl (fun g w' hd=>Eq.trans (show (g 6).v=.bool (x13.1.e==0) from (hd 6 rfl).1) (kb h18)) yae (fun _ _=>bz) ?_;refine bg true (.bool false) r rfl rfl rfl (fun g w' hd=>Eq.trans (show (g 6).v=.bool (x13.1.e==0) from (hd 6 rfl).1) (kb h18)) yae (fun _ _=>bz) ?_
    refine bg true (.bool false) r rfl rfl rfl (fun g w' hd=>Eq.trans (show (g 6).v=.bool (x13.1.e==0) from (hd 6 rfl).1) (kb h18)) yae (fun _ _=>bz) ?_;refine bg true (.bool false) r rfl rfl rfl (fun g w' hd=>Eq.trans (show (g 6).v=.bool (x13.1.e==0) from (hd 6 rfl).1) (kb h18)) yae (fun _ _=>bz) ?_
    refine bg true (.bool false) r rfl rfl rfl (fun g w' hd=>Eq.trans (show (g 6).v=.bool (x13.1.e==0) from (hd 6 rfl).1) (kb h18)) yae (fun _ _=>bz) ?_;refine fc r (fun fr1 g w' hb' hd r'=>ax r' (b:=false) (v:=(.bool false)) (Eq.trans (show (g 6).v=.bool (x13.1.e==0) from (hd 6 rfl).1) (kb h18)) rfl bz) ?_
    refine fc r (fun fr1 g w' hb' hd r'=>cF r' (hd 14 rfl).1 bz) ?_;exact bS
   intro fr gg w23 hb hΦ hap r;have r:=r.congr (sc ((hΦ 15 rfl).1) (sc ((hΦ 14 rfl).1) (sc ((hΦ 13 rfl).1) (sc ((hΦ 12 rfl).1) (sc ((hΦ 11 rfl).1) (sc ((hΦ 10 rfl).1) (sc ((hΦ 9 rfl).1) (sc ((hΦ 8 rfl).1) (sc ((hΦ 7 rfl).1) (sc ((hΦ 6 rfl).1) (sc ((hΦ 5 rfl).1) (sc ((hΦ 4 rfl).1) (sc ((hΦ 3 rfl).1) (sc ((hΦ 2 rfl).1) (sc ((hΦ 1 rfl).1) (sc ((hΦ 0 rfl).1) rfl))))))))))))))));have hP:=hP.below hb;exact nxy16 false () _ _ _ hD r (kO (au rfl (au rfl aI))) (hP.pick [0,1,2] rfl rfl)
  have hD:=(ai h17).symm.trans hD;refine df [.val (.bool x13.2.2.1),.val (.bool x13.2.2.1),.val undef,.val undef,.val undef,.val (.bool false),.val (.bool false),.val undef,.val undef,.val undef,.val undef,.val undef,.val undef,.val undef,.val (.bool false),.val (.bool false)] mixed r kz ?_ ?_
  ·
   refine fc r (fun fr1 g w' hb' hd r'=>ay r' rfl bz) ?_;refine fc r (fun fr1 g w' hb' hd r'=>ay r' (hd 0 rfl).1 bz) ?_
   refine bg true (.bool false) r rfl rfl rfl (fun g w' hd=>Eq.trans (show (g 1).v=.bool x13.2.2.1 from (hd 1 rfl).1) (kb h17)) yae (fun _ _=>bz) ?_;refine bg true (.bool false) r rfl rfl rfl (fun g w' hd=>Eq.trans (show (g 1).v=.bool x13.2.2.1 from (hd 1 rfl).1) (kb h17)) yae (fun _ _=>bz) ?_
   refine bg true (.bool false) r rfl rfl rfl (fun g w' hd=>Eq.trans (show (g 1).v=.bool x13.2.2.1 from (hd 1 rfl).1) (kb h17)) yae (fun _ _=>bz) ?_;refine fc r (fun fr1 g w' hb' hd r'=>ax r' (b:=false) (v:=(.bool false)) (Eq.trans (show (g 1).v=.bool x13.2.2.1 from (hd 1 rfl).1) (kb h17)) rfl bz) ?_
   refine fc r (fun fr1 g w' hb' hd r'=>ay r' (hd 5 rfl).1 bz) ?_;refine bg true (.bool false) r rfl rfl rfl (fun g w' hd=>Eq.trans (show (g 6).v=.bool false from (hd 6 rfl).1) (kb (rfl:false=_))) yae (fun _ _=>bz) ?_
   refine bg true (.bool false) r rfl rfl rfl (fun g w' hd=>Eq.trans (show (g 6).v=.bool false from (hd 6 rfl).1) (kb (rfl:false=_))) yae (fun _ _=>bz) ?_;refine bg true (.bool false) r rfl rfl rfl (fun g w' hd=>Eq.trans (show (g 6).v=.bool false from (hd 6 rfl).1) (kb (rfl:false=_))) yae (fun _ _=>bz) ?_
   refine bg true (.bool false) r rfl rfl rfl (fun g w' hd=>Eq.trans (show (g 6).v=.bool false from (hd 6 rfl).1) (kb (rfl:false=_))) yae (fun _ _=>bz) ?_;refine bg true (.bool false) r rfl rfl rfl (fun g w' hd=>Eq.trans (show (g 6).v=.bool false from (hd 6 rfl).1) (kb (rfl:false=_))) yae (fun _ _=>bz) ?_
   refine bg true (.bool false) r rfl rfl rfl (fun g w' hd=>Eq.trans (show (g 6).v=.bool false from (hd 6 rfl).1) (kb (rfl:false=_))) yae (fun _ _=>bz) ?_;refine bg true (.bool false) r rfl rfl rfl (fun g w' hd=>Eq.trans (show (g 6).v=.bool false from (hd 6 rfl).1) (kb (rfl:false=_))) yae (fun _ _=>bz) ?_
   refine fc r (fun fr1 g w' hb' hd r'=>ax r' (b:=false) (v:=(.bool false)) (Eq.trans (show (g 6).v=.bool false from (hd 6 rfl).1) (kb (rfl:false=_))) rfl bz) ?_;refine fc r (fun fr1 g w' hb' hd r'=>cF r' (hd 14 rfl).1 bz) ?_
   exact bS
  intro fr gg w24 hb hΦ hap r;have r:=r.congr (sc ((hΦ 15 rfl).1) (sc ((hΦ 14 rfl).1) (sc ((hΦ 13 rfl).1) (sc ((hΦ 12 rfl).1) (sc ((hΦ 11 rfl).1) (sc ((hΦ 10 rfl).1) (sc ((hΦ 9 rfl).1) (sc ((hΦ 8 rfl).1) (sc ((hΦ 7 rfl).1) (sc ((hΦ 6 rfl).1) (sc ((hΦ 5 rfl).1) (sc ((hΦ 4 rfl).1) (sc ((hΦ 3 rfl).1) (sc ((hΦ 2 rfl).1) (sc ((hΦ 1 rfl).1) (sc ((hΦ 0 rfl).1) rfl))))))))))))))));have hP:=hP.below hb;exact nxy16 false () _ _ _ hD r (kO (au rfl (au rfl aI))) (hP.pick [0,1,2] rfl rfl)
 rintro x25 γ26 fr w27 g r hP hD;have hP:Post No [_,_,_] w0 w27:=hP;refine d9 ?_;have hv:x25=res:=Option.some.inj hD
 try dsimp only [Exit.then,Exit.inBlock]
 refine aU (fn:=Tryz.f33) r (t:=0) rfl (v:=(.bool x25)) rfl ?_;subst hv;exact ⟨rfl,hP.chg.below⟩
def D.ez (a0:Plan):Bool:=(bif (D.eK a0) then (bif (D.cN a0) then (decide (a0.domains > 0)) else false) else false)
theorem zH (w0:World) 
    (a0:Plan) :
    Calls y6 34 #[u7 (ae a0)] w0 (bB (.bool (D.ez a0)) w0):=by
 refine kN Tryz.func34 rfl 14 rfl rfl fun fr r hB=>?_;refine wsr ?_
 refine kX 23 (u7 (ae a0)) r rfl rfl fun b1 w2 n3 r=>?_;obtain ⟨E1,Z2,H1,hB,zB⟩:=n3.all hB
 refine kA (.bool false) r rfl rfl fun r=>wn (wsr (kG (ae a0) 6 r rfl H1 ta23 rfl rfl fun r=>?_));refine kE r (zU w2 a0) rfl cl57 rfl fun w4 hb r=>?_
 have Z4:=hb.size;have H1:=keep hb H1;obtain ⟨hB,zB⟩:=bon hb hB;refine kM (.bool (D.eK a0)) r rfl rfl fun r=>?_;refine bE (D.eK a0) (fun h5=>?_) (fun h5=>?_)
 ·
  refine s1 r h5 (kG (ae a0) 6 r rfl H1 ta23 rfl rfl fun r=>s1 r h5 ?_);refine kE r (sF w4 a0) rfl cl58 rfl fun w6 hb r=>?_
  have Z6:=hb.size;have H1:=keep hb H1;obtain ⟨hB,zB⟩:=bon hb hB;refine aa (.bool (D.cN a0)) r (fun R=>ax r (b:=true) (kb h5) rfl) rfl fun fr r=>kM (.bool (D.cN a0)) r rfl rfl fun r=>?_;refine bE (D.cN a0) (fun h7=>?_) (fun h7=>?_)
  ·
   refine s1 r h7 (kF 0 r rfl hO rfl fun r=>s1 r h7 (kL (I a0.domains) r rfl H1 to3 rfl rfl fun r=>s1 r h7 (kB r rfl rfl rfl rfl rfl fun r=>aa (.bool (decide (a0.domains > 0))) r (fun R=>ax r (b:=true) (kb h7) rfl) rfl fun fr r=>kA (.bool (decide (a0.domains > 0))) r rfl rfl fun r=>wn (d9 ?_))));have hd:D.ez a0=(decide (a0.domains > 0)):=(ar h5).trans ((ar h7).trans (rfl))
   refine aU r rfl rfl ?_;rw [hd];exact ⟨rfl,hB⟩
  refine s0 r h7 fun fr r=>s0 r h7 fun fr r=>s0 r h7 fun fr r=>aa (.bool false) r (fun R=>ax r (b:=false) (kb h7) rfl) rfl fun fr r=>kA (.bool false) r rfl rfl fun r=>wn (d9 ?_);have hd:D.ez a0=false:=(ar h5).trans ((ai h7).trans (rfl))
  refine aU r rfl rfl ?_;rw [hd];exact ⟨rfl,hB⟩
 refine s0 r h5 fun fr r=>s0 r h5 fun fr r=>aa (.bool false) r (fun R=>ax r (b:=false) (kb h5) rfl) rfl fun fr r=>kM (.bool false) r rfl rfl fun r=>s0 r (rfl:false=_) fun fr r=>s0 r (rfl:false=_) fun fr r=>s0 r (rfl:false=_) fun fr r=>aa (.bool false) r (fun R=>ax r (b:=false) (kb (rfl:false=_)) rfl) rfl fun fr r=>kA (.bool false) r rfl rfl fun r=>wn (d9 ?_);have hd:D.ez a0=false:=(ai h5).trans (rfl)
 refine aU r rfl rfl ?_;rw [hd];exact ⟨rfl,hB⟩
theorem chgNil' {w w':World} (h:Chg (fun b=>b∈([]:List Nat)) w w'):Below w.heap.size w w':=⟨h.os,h.tape,h.output,h.size,fun b hb=>h.block b hb fun h=>by cases h⟩
section
variable {α : Type} {P : Program} {T : TypeId} {sz : Nat} {f : α → List Value} {v : Value} {xs ys zs : List α} {w w' w0 : World} {B lo hi : Nat}
def AppQ (B:Nat) (T:TypeId) (sz:Nat) (f:α→List Value) (zs:List α):Value→Nat→Nat→World→Prop:=fun v _ _ w=>cv T sz f v zs w∧∀ b,b∈rowBs v→B≤b
theorem AppQ.st:∀ v lo hi w1 w2,AppQ B T sz f zs v lo hi w1→KeptW B (fun _=>False) w1 w2→AppQ B T sz f zs v lo hi w2:=by
 rintro v lo hi w1 w2 ⟨h1,h2⟩ ⟨_,_,_,_,hk⟩;exact ⟨h1.st fun b hb=>hk b (h1.lt b hb) fun _ h=>h,h2⟩
theorem AppQ.fresh (h:AppQ w.heap.size T sz f zs v lo hi w'):Fresh [rowK T sz f v zs] w.heap.size w'.heap.size w':=
 ⟨iR h.1,fun c hc b hb=>by
  rcases List.mem_singleton.1 hc with rfl
  rcases hb with hb | hb
  ·exact ⟨h.2 b hb,h.1.lt b hb⟩
  ·cases hb⟩
theorem uP {a:Act} {d:Option Tmp} {ty:TypeId} {pos:String} {aft:Array Edge} {N:Nat} {s:SL} (hfr:Fr a N s) {x y:Operand} {t:TypeId} {v2:Value} {g:Nat→Gh} {j:Nat} (hT:rowTy P t T sz=true) (hf:∀ x,(f x).length=sz) (h1:∀ x,(f x).all Value.oneCell'=true)
  (hm:MkP (fun y:Value=>y) (fun y=>[rowK T sz f y xs]) (g j).v (g j).lo (g j).hi w) (hlo:B≤(g j).lo) (hB:B≤w.heap.size) (hr2:RoAt T sz f v2 ys w) (hz:appD xs ys=some zs) (hx:lookO s x=(g j).v) (hy:lookO s y=v2) :
  Yields P ⟨d,.call ⟨.builtin .append,#[x,y],#[t,t]⟩,ty,pos,aft,none⟩ a w fun v' w'=>Kept w.heap.size (fun b=>b∈([]:List Nat)∨∃ k,k∈[j]∧(g k).lo≤b∧b<(g k).hi) 0 0 w w'∧AppQ B T sz f zs v' w.heap.size w'.heap.size w':=by
 obtain ⟨y',hy',hs,hb⟩:=hm;have hr:cv T sz f (g j).v xs w:=by rw [hy']; exact hs.1
 have hin:∀ b,b∈rowBs (g j).v→(g j).lo≤b∧b<(g j).hi:=fun b hb'=>hb _ (List.mem_singleton.2 rfl) b (.inl (by rw [hy'] at hb'; exact hb'))
 refine dP hfr hT hf h1 hr hr2 hz hx hy fun v' w' ha=>⟨⟨ha.2.1.os,ha.2.1.tape,ha.2.1.output,ha.2.1.size,fun b hb=>?_⟩,ha.1,fun b hb=>?_⟩
 ·rcases hb with hb | hb
  ·exact ha.2.1.block b hb.1 fun hz=>hb.2 (.inr ⟨j,List.mem_singleton.2 rfl,hin b hz⟩)
  ·omega
 ·rcases ha.2.2 b hb with h | h
  ·have:=hin b h; omega
  ·omega
end
end Go.Proofs.YtbbipmelhmgmfaaGreat

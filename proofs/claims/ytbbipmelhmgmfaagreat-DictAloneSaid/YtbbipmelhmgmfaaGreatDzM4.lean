/- Some of our texts, one behind the other. -/
import Derived.Test.YtbbipmelhmgmfaaGreatDzBase
import Derived.Test.YtbbipmelhmgmfaaGreatDzM3
import Derived.Test.YtbbipmelhmgmfaaGreatRows
set_option linter.all false
set_option maxRecDepth 100000
set_option maxHeartbeats 20000000
/- Ours. -/
namespace Go.Proofs.YtbbipmelhmgmfaaGreat
open Go.RowKit
abbrev W (x:Int):Int:=IntKind.i64.wrap x
abbrev V (x:Int):Int:=IntKind.u64.wrap x
abbrev I (x:Int):Value:=.int .i64 x
abbrev zp (b:Nat):Value:=.pointer (some ⟨b,0,none⟩)
abbrev U (x:Int):Value:=.int .u64 x
theorem bz {w:World} {α:Type} {v:α}:Below w.heap.size w w/\v=v:=⟨Below.refl _ _,rfl⟩
section
variable {P : Program} {Q : Exit -> Act -> World -> Prop} {a : Act} {w : World}
theorem wn {ops:Array Oper} (h:Q .normal a w):wpList P ops Q [] a w:=h
theorem I0 {id:Nat} {l:List Oper} {y:Code} (h:wpList P l.toArray (Exit.then (y.wp P Q) Q) l a w):(Code.seq (Code.region id l.toArray false) y).wp P Q a w:=d9 (q6 h)
end
section
variable {P : Program} {ops : Array Oper} {rest : List Oper} {Q : Exit -> Act -> World -> Prop} {a : Act} {w : World} {N : Nat} {s : SL}
theorem s0 {o:Oper} {j d:Nat} {want x y:Bool} (Jb:Fr a N s) (e:x=y) (hk:∀ a,Fr a N (KJ s o.dst undef)->wpList P ops Q rest a w) (hg:o.guard=some (j,want):=by rfl) (hj:(ops[j]?).bind (·.dst)=some d:=by rfl) (hd:(Nat.ble (d+1) N&&Ku N o.dst)=true:=by rfl) (hv:look s d=.bool x:=by rfl)
  (hn:(y==want)=false:=by rfl):wpList P ops Q (o::rest) a w:=dU Jb hg hj hd (v:=.bool y) (hv.trans (congrArg Value.bool e)) (by
 intro h;have h2:y=want:=Option.some.inj h;rw [h2] at hn
 simp at hn) hk
theorem s1 {o:Oper} {j d:Nat} {want x:Bool} (Jb:Fr a N s) (e:x=want) (hk:wpList P ops Q ({ o with guard:=none }::rest) a w) (hg:o.guard=some (j,want):=by rfl) (hj:(ops[j]?).bind (·.dst)=some d:=by rfl) (hd:Nat.ble (d+1) N=true:=by rfl) (hv:look s d=.bool x:=by rfl):wpList P ops Q (o::rest) a w:=
 jP Jb hg hj hd (hv.trans (congrArg Value.bool e)) hk
end
theorem ec {P:Program} {ops:Array Oper} {Φ:Nat->Value->World->Prop} {Ψ:Nat->World->Value->World->Prop} {full:List Oper} {a:Act} {w:World} {o:Oper} {l:List Oper} {i N:Nat} {s:SL} (r:Fr a N s)
  (h:∀ a' u w',Below w.heap.size w w'->Deps Φ u w' o.after.toList->Fr a' N (Kt full u 0 s)->Yields P o a' w' fun v w''=>Below w'.heap.size w' w''/\Ψ i w' v w'') (h2:Each P ops Φ Ψ full a w l (i+1)) (hd:(o.guard.isNone&&dstsIn N full)=true:=by rfl):Each P ops Φ Ψ full a w (o::l) i:=dA r hd h h2
section
variable {P : Program} {L : List Oper} {a : Act} {w : World} {N : Nat} {s : SL}
theorem fc {fs:Nat->IX w.heap.size (fun _=>False)} {o:Oper} {l:List Oper} {i:Nat} (r:Fr a N s)
  (h:∀ a' g w',Below w.heap.size w w'->(∀ j,bQ o j=true->(fs j).ok g j w'/\w.heap.size<=(g j).lo/\(g j).hi<=w'.heap.size/\∀ q,bQ o q=true->q≠j->(g j).hi<=(g q).lo\/(g q).hi<=(g j).lo)->Fr a' N (Kt L (fun j=>(g j).v) 0 s)->
   Yields P o a' w' fun v w''=>(fs i).mk g v w' w'') (h2:cn P L fs a w l (i+1)) (hd:(o.guard.isNone&&dstsIn N L)=true:=by rfl):cn P L fs a w (o::l) i:=dT r hd h h2
end
theorem New.all {w0 w w':World} {b:Nat} {o:Obj} (n:New w w' b o) (hB:Below w0.heap.size w0 w):b=w.heap.size/\w'.heap.size=b+1/\w'.heap[b]?=some o/\Below w0.heap.size w0 w'/\w0.heap.size<=w'.heap.size:=
 have h:=hB.trans (n.below.mono hB.size)
 ⟨n.eq,n.size,n.at_,h,h.size⟩
theorem IQ {w0 w w':World} (hb:Below w.heap.size w w') (hB:Below w0.heap.size w0 w):Below w0.heap.size w0 w'/\w0.heap.size<=w'.heap.size:=
 have h:=hB.trans (hb.mono hB.size)
 ⟨h,h.size⟩
theorem Upd.on {w0 w w':World} {b:Nat} {o:Obj} (u:Upd w w' b o) (hB:Below w0.heap.size w0 w) (h:w0.heap.size<=b):Below w0.heap.size w0 w'/\w0.heap.size<=w'.heap.size:=
 have h:=u.below hB h
 ⟨h,h.size⟩
theorem cr {w0 w w':World} {d b:Nat} {o:Obj} (hB:Below w0.heap.size w0 w) (hb:Below w.heap.size { w with drawn:=d } w') (h:w0.heap[b]?=some o):w'.heap[b]?=some o:=Eq.trans (show w'.heap[b]?=w.heap[b]? from hb.block b (q9 (q8 h) hB.size)) (keep hB h)
theorem aP {F:Nat->Prop} {w0 w:World} (hF:∀ b,F b->b<w0.heap.size) (hB:Below w0.heap.size w0 w) (r:Nat):∀ b,(fun b=>F b\/(w0.heap.size<=b/\b<w.heap.size/\b≠r)) b->b<w.heap.size:=by
 rintro b (h | h)
 ·exact q9 (hF b h) hB.size
 ·exact h.2.1
theorem JR {R:Type} {P:Program} {E:Enc R} {n:Nat} {t:T R} {F:Nat->Prop} {w0 w1 w2 w3:World} {r:Nat} {o:Obj} {v:Value} (hF:∀ b,F b->b<w0.heap.size) (hB:Below w0.heap.size w0 w3) (hr:Jm P E n t (grow (fun b=>F b\/(w0.heap.size<=b/\b<w1.heap.size/\b≠r)) w1 w2) w2 v)
  (hu:Upd w2 w3 r o) (hr1:r<w1.heap.size) (h01:w0.heap.size<=r) (h12:w1.heap.size<=w2.heap.size):aH P E n t F w0 (.returned v) w3:=
 aH.fin hB hr hu yac Kl hr1 O h12
theorem kR {R:Type} {P:Program} {E:Enc R} {n:Nat} {t:T R} {F:Nat->Prop} {w0 w1 w2 w3:World} {v:Value} {fn:Func} {a:Act} {N:Nat} {s:SL} {tt:Tmp} {ty Et:TypeId} {b k:Nat} {fz:Nat × Nat} {o:Obj} (r:Fr a N s)
  (hr:Jm P E n t (grow (fun b'=>F b'\/(w0.heap.size<=b'/\b'<w1.heap.size/\b'≠b)) w1 w2) w2 v) (hf:fn.results=#[.cell tt ty]) (hv:look s tt=.pointer (some ⟨b,0,none⟩)) (hb:w3.heap[b]?=some (.cells v.cells Et fz)) (hk:E.n+6=k)
  (ht:tyA P ty k=true) (hF:∀ b,F b->b<w0.heap.size) (hB:Below w0.heap.size w0 w3) (hu:Upd w2 w3 b o) (h1:b<w1.heap.size) (h2:w0.heap.size<=b) (h3:w1.heap.size<=w2.heap.size):bodyPost P fn (aH P E n t F w0) .ret a w3:=by
 have hs:=hr.shape.cells;refine ak r hf hv hb (k:=k) (hs.1.trans hk) ht ?_;rw [<-hs.2.2];exact JR hF hB hr hu h1 h2 h3
abbrev kq {R:Type} (E:Enc R):=aC false E.zero 0 0 0 0 .nilFunc
structure Plan where
 nodes:Int
 threads:Int
 retire:Int
 domains:Int
 buckets:Int
 IP:Int
 deriving DecidableEq
def ac (x:Plan):List Value:=[(.int .i64 x.nodes),(.int .i64 x.threads),(.int .i64 x.retire),(.int .i64 x.domains),(.int .i64 x.buckets),(.int .i64 x.IP)]
structure IG where
 n:Int
 least:Int
 most:Int
 deriving DecidableEq
def bS (x:IG):List Value:=[(.int .i64 x.n),(.int .i64 x.least),(.int .i64 x.most)]
def boundsC (l:List IG):List Value:=l.flatMap bS
structure Access where
 op:Int
 at_:Int
 a:Int
 b:Int
 deriving DecidableEq
def bh (x:Access):List Value:=[(.int .i64 x.op),(.int .i64 x.at_),(.int .u64 x.a),(.int .u64 x.b)]
structure Cap where
 region:Int
 epoch:Int
 deriving DecidableEq
def IV (x:Cap):List Value:=[(.int .i64 x.region),(.int .u64 x.epoch)]
structure Field where
 at_:Int
 bits:Int
 deriving DecidableEq
def aR (x:Field):List Value:=[(.int .i64 x.at_),(.int .i64 x.bits)]
structure State where
 IP:Int
 mode:Int
 kind:Int
 deriving DecidableEq
def aQ (x:State):List Value:=[(.int .i64 x.IP),(.int .i64 x.mode),(.int .i64 x.kind)]
structure Handle where
 index:Int
 IP:Int
 tenant:Int
 deriving DecidableEq
structure IY where
 node:Int
 IP:Int
 e:Int
 deriving DecidableEq
def grantC (x:IY):List Value:=[(.int .i64 x.node),(.int .i64 x.IP),(.int .i64 x.e)]
def bA:Enc IY:=⟨3,grantC,grantC (⟨0,0,0⟩:IY),fun _=>rfl,rfl,fun _=>rfl,rfl⟩
def argGrant (x:IY):List Value:=[z6 (grantC x)]
structure IM where
 e:Int
 v:Int
 deriving DecidableEq
def ID (x:IM):List Value:=[(.int .i64 x.e),(.int .u64 x.v)]
def aA:Enc IM:=⟨2,ID,ID (⟨0,0⟩:IM),fun _=>rfl,rfl,fun _=>rfl,rfl⟩
structure J4 where
 at_:Int
 left:Int
 done:Int
 deriving DecidableEq
def Kn (x:J4):List Value:=[(.int .i64 x.at_),(.int .i64 x.left),(.int .i64 x.done)]
structure Je where
 p:Plan
 tenant:Int
 thread:Int
 deriving DecidableEq
def bi (x:Je):List Value:=(ac x.p)++[(.int .i64 x.tenant)]++[(.int .i64 x.thread)]
structure Walk where
 seat:Je
 cell:Int
 k:Int
 place:Int
 cur:Int
 next:Int
 there:Bool
 deriving DecidableEq
def bf (x:Walk):List Value:=(bi x.seat)++[(.int .i64 x.cell)]++[(.int .u64 x.k)]++[(.int .i64 x.place)]++[(.int .u64 x.cur)]++[(.int .u64 x.next)]++[(.bool x.there)]
def aK:Enc Walk:=⟨14,bf,bf (⟨(⟨(⟨0,0,0,0,0,0⟩:Plan),0,0⟩:Je),0,0,0,0,0,false⟩:Walk),fun _=>rfl,rfl,fun _=>rfl,rfl⟩
def argWalk (x:Walk):List Value:=[z6 (bf x)]
def maxI (m n:Int):Int:=if n > m then n else m
def minI (m n:Int):Int:=if n<m then n else m
def KK (k:IntKind) (x y:Int):Int:=x.fdiv (2 ^ (min y.toNat k.bits))
def KQ (k:IntKind) (x y:Int):Int:=k.wrap (x * 2 ^ (min y.toNat k.bits))
def cL (k:IntKind) (x y:Int):Int:=k.wrap ((BitVec.ofInt k.bits x &&& BitVec.ofInt k.bits y).toNat)
def dS (k:IntKind) (x y:Int):Int:=k.wrap ((BitVec.ofInt k.bits x ||| BitVec.ofInt k.bits y).toNat)
def cH (k:IntKind) (x y:Int):Int:=k.wrap ((BitVec.ofInt k.bits x &&& ~~~(BitVec.ofInt k.bits y)).toNat)
theorem oN {P:Program} {k k':IntKind} {t:TypeId} {x y:Int} {w:World} (hy:0<=y):(binOp .shl t (.int k x) (.int k' y)).run P w=.ok (.int k (KQ k x y)) w:=by
 have h:¬ y<0:=O
 simp only [binOp,Op.shift,if_neg h]
 rfl
theorem rC {P:Program} {k k':IntKind} {t:TypeId} {x y:Int} {w:World} (hy:0<=y):(binOp .shr t (.int k x) (.int k' y)).run P w=.ok (.int k (KK k x y)) w:=by
 have h:¬ y<0:=O
 simp only [binOp,Op.shift,if_neg h]
 rfl
theorem DN {P:Program} {k:IntKind} {t:TypeId} {x y:Int} {w:World} (hy:y≠0):(binOp .rem t (.int k x) (.int k y)).run P w=.ok (.int k (x.tmod y)) w:=by
 simp [binOp,Op.intDiv,hy]
noncomputable abbrev B0:=Tryz.prog
def D.cC (l:List IG):Bool:=l.all fun b=>!(decide (b.n<b.least))&&!(decide (b.n > b.most))
theorem vp {l:List IG} {k:Nat} (h:k<l.length) (hb:l[k].n<l[k].least\/l[k].n > l[k].most):D.cC l=false:=by
 unfold D.cC;rw [List.all_eq_false];refine ⟨l[k],List.getElem_mem h,?_⟩
 rcases hb with hb | hb <;> simp [hb]
theorem Cp {l:List IG} {k:Nat} (h:k<l.length) (hw:D.cC (l.take k)=true) (h1:¬ l[k].n<l[k].least) (h2:¬ l[k].n > l[k].most):D.cC (l.take (k+1))=true:=by
 unfold D.cC at *
 rw [List.take_succ_eq_append_getElem h,List.all_append,hw]
 simp only [List.all_cons,List.all_nil,Bool.true_and,Bool.and_true,Bool.and_eq_true,Bool.not_eq_true',decide_eq_false_iff_not]
 exact ⟨h1,h2⟩
theorem tsb:sized B0 148 3:=kz
theorem tab:tyA B0 148 3:=kz
theorem tib:tyO B0 3:=kz
theorem isb:isSlice B0 203:=kz
theorem slb:sliceTy B0 203 3:=kz
theorem zb:zeroOf B0 148=some (.agg #[.int .i64 0,.int .i64 0,.int .i64 0]):=kz
theorem fb0:ba B0 148 0 0:=kz
theorem fb1:ba B0 148 1 1:=kz
theorem fb2:ba B0 148 2 2:=kz
theorem qp (w0:World) (l:List IG) {b:Nat} (hb:w0.heap[b]?=some (.cells (boundsC l).toArray 148 (0,0))) (hl:l.length<=8):Calls B0 127 #[.slice (some ⟨b,0,none⟩) l.length l.length] w0 (bB (.bool (D.cC l)) w0):=by
 refine enter (l:=[.slice (some ⟨b,0,none⟩) l.length l.length]) Tryz.func127 rfl 24 rfl rfl fun a0 r=>?_;refine d9 (q6 ?_)
 refine aa (.bool false) r (fun R=>cZ r rfl) rfl fun a0 r=>r9 ?_;refine d9 (d9 (q6 ?_))
 refine aa (.slice (some ⟨b,0,none⟩) l.length l.length) r (fun R=>aw r rfl) rfl fun a0 r=>?_;refine aa (.int .i64 l.length) r (fun R=>mB r isb rfl) rfl fun a0 r=>?_
 refine aa (.int .i64 0) r (fun R=>aw r rfl) rfl fun a0 r=>r9 (wp_block ?_);refine rq (X:=Nat) (fun k=>[(5,.slice (some ⟨b,0,none⟩) l.length l.length),(6,.int .i64 l.length),(7,.int .i64 k)])
  (fun k w=>k<=l.length/\Below w0.heap.size w0 w/\D.cC (l.take k)=true) (fun k=>l.length - k) 0 r (aq rfl (aq rfl (aq rfl aJ))) ⟨O,Below.refl _ _,by simp [D.cC]⟩ ?_
 rintro k a0 w g r ⟨hk,hB,hw⟩;have hbw:w.heap[b]?=some (.cells (boundsC l).toArray 148 (0,0)):=by rw [hB.block b (q8 hb)]; exact hb
 refine d9 (q6 ?_);refine aa (.bool (decide ((k:Int)<l.length))) r (fun R=>bd r (u:=.int .i64 k) (u':=.int .i64 l.length) rfl rfl rfl rfl) rfl fun a0 r=>r9 ?_;refine d9 (q5 (t:=decide ((k:Int)<l.length)) (r.ev rfl) (fun h=>?_) (fun h=>?_))
 ·have hkl:k<l.length:=by simpa using h
  refine q7 ?_;refine d9 (wp_block ?_);refine d9 (q6 ?_);refine aa (.pointer (some ⟨b,0+(k:Int).toNat * 3,none⟩)) r (fun R=>jC r slb rfl rfl O O) rfl fun a0 r=>?_;refine aa (z6 (bS l[k])) r (fun R=>aU r (cs:=bS l[k]) (n:=3) rfl hbw tab (by have:=wU (f:=bS) (n:=3) (fun _=>rfl) l k hkl; simpa [boundsC] using this)) rfl fun a0 r=>?_
  refine ah (.cells #[.int .i64 0,.int .i64 0,.int .i64 0] 148 (0,0)) r (fun R=>ag zb) rfl fun a0 b1 w1 n1 r=>?_;have e1:=n1.eq
  have z1:=n1.size;have h1:=n1.at_;have zB:=hB.size;have hB:=hB.trans (n1.below.mono hB.size);refine aM (.cells (bS l[k]).toArray 148 (0,0)) r (fun R=>bb r (v:=z6 (bS l[k])) rfl rfl h1 tsb u7 rfl rfl) rfl fun a0 w2 u2 r=>r9 ?_;have z2:=u2.size
  have h2:=u2.at_;have hB:=u2.below hB O
  refine d9 (q6 ?_);refine aa (.pointer (some ⟨b1,0,none⟩)) r (fun R=>az r (o:=0) rfl fb0) rfl fun a0 r=>?_;refine aa (.int .i64 l[k].n) r (fun R=>ax r rfl h2 tib rfl) rfl fun a0 r=>?_
  refine aa (.pointer (some ⟨b1,1,none⟩)) r (fun R=>az r (o:=0) rfl fb1) rfl fun a0 r=>?_;refine aa (.int .i64 l[k].least) r (fun R=>ax r rfl h2 tib rfl) rfl fun a0 r=>?_
  refine aa (.bool (decide (l[k].n<l[k].least))) r (fun R=>bd r (u:=.int .i64 l[k].n) (u':=.int .i64 l[k].least) rfl rfl rfl rfl) rfl fun a0 r=>?_;refine aa (.bool (decide (l[k].n<l[k].least))) r (fun R=>aw r rfl) rfl fun a0 r=>?_
  have wi:IntKind.i64.wrap ((k:Int)+1)=((k+1:Nat):Int):=by
   have:IntKind.i64.wrap ((k:Int)+1)=(k:Int)+1:=by simp only [IntKind.wrap]; simp [IntKind.signed,IntKind.bits]; omega
   rw [this]; omega
  refine bG (decide (l[k].n<l[k].least)) (fun h1=>?_) (fun h1=>?_)
  ·have hn:=vp hkl (.inl (of_decide_eq_true h1))
   refine dU r rfl rfl rfl (v:=.bool true) (kb h1) KD fun a0 r=>?_;refine dU r rfl rfl rfl (v:=.bool true) (kb h1) KD fun a0 r=>?_
   refine dU r rfl rfl rfl (v:=.bool true) (kb h1) KD fun a0 r=>?_;refine dU r rfl rfl rfl (v:=.bool true) (kb h1) KD fun a0 r=>?_
   refine dU r rfl rfl rfl (v:=.bool true) (kb h1) KD fun a0 r=>?_;refine aa (.bool true) r (fun R=>ay r (b:=true) (kb h1) rfl) rfl fun a0 r=>r9 ?_
   refine q5 (t:=true) (r.ev rfl) (fun _=>?_) (fun h=>by cases h)
   refine d9 (q6 ?_);refine aa (.bool false) r (fun R=>cZ r rfl) rfl fun a0 r=>r9 (q4 ?_);refine aT r rfl (v:=.bool false) rfl ?_
   rw [hn]
   exact ⟨rfl,hB⟩
  ·refine jP r rfl rfl rfl (kb h1) ?_
   refine aa (.pointer (some ⟨b1,0,none⟩)) r (fun R=>az r (o:=0) rfl fb0) rfl fun a0 r=>?_;refine jP r rfl rfl rfl (kb h1) ?_
   refine aa (.int .i64 l[k].n) r (fun R=>ax r rfl h2 tib rfl) rfl fun a0 r=>?_;refine jP r rfl rfl rfl (kb h1) ?_
   refine aa (.pointer (some ⟨b1,2,none⟩)) r (fun R=>az r (o:=0) rfl fb2) rfl fun a0 r=>?_;refine jP r rfl rfl rfl (kb h1) ?_
   refine aa (.int .i64 l[k].most) r (fun R=>ax r rfl h2 tib rfl) rfl fun a0 r=>?_;refine jP r rfl rfl rfl (kb h1) ?_
   refine aa (.bool (decide (l[k].n > l[k].most))) r (fun R=>bd r (u:=.int .i64 l[k].n) (u':=.int .i64 l[k].most) rfl rfl rfl rfl) rfl fun a0 r=>?_;refine aa (.bool (decide (l[k].n > l[k].most))) r (fun R=>ay r (b:=false) (kb h1) rfl) rfl fun a0 r=>r9 ?_
   refine q5 (t:=decide (l[k].n > l[k].most)) (r.ev rfl) (fun h2'=>?_) (fun h2'=>?_)
   ·have hn:=vp hkl (.inr (of_decide_eq_true h2'))
    refine d9 (q6 ?_);refine aa (.bool false) r (fun R=>cZ r rfl) rfl fun a0 r=>r9 (q4 ?_);refine aT r rfl (v:=.bool false) rfl ?_
    rw [hn]
    exact ⟨rfl,hB⟩
   ·refine q7 ?_
    refine q6 ?_;refine aa (.int .i64 ((k+1:Nat):Int)) r (fun R=>bd r (u:=.int .i64 k) (u':=.int .i64 1) rfl rfl rfl (congrArg (fun z=>Result.ok (Value.int .i64 z) _) wi)) rfl fun a0 r=>?_;refine aa (.int .i64 ((k+1:Nat):Int)) r (fun R=>aw r rfl) rfl fun a0 r=>r9 ?_
    exact ⟨k+1,_,r,aq rfl (aq rfl (aq rfl aJ)),⟨hkl,hB,Cp hkl hw (of_decide_eq_false h1) (of_decide_eq_false h2')⟩,O⟩
 ·have hkl:k=l.length:=by have:=of_decide_eq_false h; omega
  subst hkl;refine wp_exit ?_;refine d9 (q6 ?_);refine aa (.bool true) r (fun R=>cZ r rfl) rfl fun a0 r=>r9 (q4 ?_);refine aT r rfl (v:=.bool true) rfl ?_
  rw [List.take_length] at hw
  rw [hw]
  exact ⟨rfl,hB⟩
theorem AP (w0:World):Calls B0 127 #[.slice none 0 0] w0 (bB (.bool (D.cC [])) w0):=by
 refine enter (l:=[.slice none 0 0]) Tryz.func127 rfl 24 rfl rfl fun a0 r=>?_;refine d9 (q6 ?_)
 refine aa (.bool false) r (fun R=>cZ r rfl) rfl fun a0 r=>r9 ?_;refine d9 (d9 (q6 ?_))
 refine aa (.slice none 0 0) r (fun R=>aw r rfl) rfl fun a0 r=>?_;refine aa (.int .i64 ((0:Nat):Int)) r (fun R=>mB r isb rfl) rfl fun a0 r=>?_
 refine aa (.int .i64 0) r (fun R=>aw r rfl) rfl fun a0 r=>r9 (wp_block ?_);refine rq (X:=Unit) (fun _=>[(6,.int .i64 ((0:Nat):Int)),(7,.int .i64 0)]) (fun _ w=>w=w0) (fun _=>0) () r (aq rfl (aq rfl aJ)) rfl ?_
 rintro _ a0 w g r rfl;refine d9 (q6 ?_);refine aa (.bool (decide ((0:Int)<((0:Nat):Int)))) r (fun R=>bd r (u:=.int .i64 0) (u':=.int .i64 ((0:Nat):Int)) rfl rfl rfl rfl) rfl fun a0 r=>r9 ?_;refine d9 (q5 (t:=decide ((0:Int)<((0:Nat):Int))) (r.ev rfl) (fun h=>by cases h) (fun h=>?_))
 refine wp_exit ?_;refine d9 (q6 ?_);refine aa (.bool true) r (fun R=>cZ r rfl) rfl fun a0 r=>r9 (q4 ?_);refine aT r rfl (v:=.bool true) rfl ?_
 exact ⟨rfl,Below.refl _ _⟩
end Go.Proofs.YtbbipmelhmgmfaaGreat

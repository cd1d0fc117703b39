/- Some of our texts, one behind the other. -/
import Derived.Test.YtbbipmelhmgmfaaGreatDzM23
import Derived.Test.YtbbipmelhmgmfaaGreatDzLListp
import Derived.Test.YtbbipmelhmgmfaaGreatDzMem
import Derived.Test.YtbbipmelhmgmfaaGreatDzM17
import Derived.Test.YtbbipmelhmgmfaaGreatDzM13
import Derived.Test.YtbbipmelhmgmfaaGreatDzM16
import Derived.Test.YtbbipmelhmgmfaaGreatDzM22
set_option linter.all false
set_option maxRecDepth 100000
set_option maxHeartbeats 20000000
/- Ours. -/
namespace Go.Proofs.YtbbipmelhmgmfaaGreat
open Go.RowKit
structure PR (N:Int) (P:Pool) (g:List Int) (o:List Bool):Prop where
 gl:(g.length:Int)=N
 ol:(o.length:Int)=N
 IP:∀ n,0<=n->n<N->rd g n=(P.st n).IP
theorem dw {α:Type} {a b:List α} (h:a.length+b.length<=1000000):JW a b=some (a++b):=by
 unfold JW; rw [if_pos (by simp only [jY]; omega)]
theorem PR.back {N m n:Int} {P:Pool} {g:List Int} {o o':List Bool} (h:PR N P g o) (hn:0<=n/\n<N) (ho:o'.length=o.length):PR N (P.back m n) (if (P.st n).IP>=m then g else g.set n.toNat (IntKind.i64.wrap ((P.st n).IP+1))) o':=by
 have hgl:=h.gl;refine ⟨by split <;> simp [hgl],by rw [ho]; exact h.ol,fun q q0 q1=>?_⟩
 show rd _ q=(if q=n then D.bR (P.st n) m else P.st q).IP
 unfold D.bR
 by_cases hm:(P.st n).IP>=m
 ·rw [if_pos hm,show decide ((P.st n).IP>=m)=true from decide_eq_true hm,cond_true,h.IP q q0 q1]
  split
  ·rename_i e; rw [e]
  ·rfl
 ·rw [if_neg hm,show decide ((P.st n).IP>=m)=false from decide_eq_false hm,cond_false,bX hn.1 O q0]
  split
  ·rfl
  ·exact h.IP q q0 q1
theorem vV {fu:Nat} {N m n room:Int} {P:Pool} {rt g:List Int} {o:List Bool} (h:PR N P g o) (hn:0<=n/\n<N) (hN:N<=1000) (hf:P.fr.length<=100000) :
  ∃ g' o',D.jf fu P.fr rt room g o m n=some ((P.back m n).fr,rt,room,g',o',m)/\PR N (P.back m n) g' o':=by
 have hgl:=h.gl;have hol:=h.ol;have e1:Jj g n=some ((P.st n).IP):=by rw [ia hn.1 O,h.IP n hn.1 hn.2]
 unfold D.jf;rw [dw (a:=([]:List Int)) (b:=g) yao,dw (a:=([]:List Bool)) (b:=o) yao];simp only [Option.bind_some,List.nil_append];rw [e1];simp only [Option.bind_some]
 by_cases hm:(P.st n).IP>=m
 ·rw [show decide ((P.st n).IP>=m)=true from decide_eq_true hm]
  obtain ⟨b,hb⟩:∃ b,Jj o n=some b:=by
   unfold Jj;rw [if_pos hn.1];exact ⟨_,List.getElem?_eq_getElem O⟩
  rw [hb]
  simp only [cond_true,Option.bind_some]
  refine ⟨g,o.set n.toNat true,?_,?_⟩
  ·have:(P.back m n).fr=P.fr:=by
    unfold Pool.back D.bR;rw [show decide ((P.st n).IP>=m)=true from decide_eq_true hm]
    rfl
   rw [this]
  ·have:=h.back (m:=m) (o':=o.set n.toNat true) hn yas
   rwa [if_pos hm] at this
 ·rw [show decide ((P.st n).IP>=m)=false from decide_eq_false hm,dw (a:=[n]) (b:=P.fr) yao]
  simp only [cond_false,Option.bind_some]
  refine ⟨g.set n.toNat (IntKind.i64.wrap ((P.st n).IP+1)),o,?_,?_⟩
  ·have:(P.back m n).fr=[n]++P.fr:=by
    unfold Pool.back D.bR;rw [show decide ((P.st n).IP>=m)=false from decide_eq_false hm]
    rfl
   rw [this]
  ·have:=h.back (m:=m) (o':=o) hn rfl
   rwa [if_neg hm] at this
theorem D8:heldF []=fun _=>false:=by
 funext n
 unfold heldF;cases h:decide (n>=0)
 ·rfl
 ·have:decide (n<(([]:List Bool).length:Int))=false:=by simp only [decide_eq_true_eq] at h; simp; omega
  rw [this]; rfl
theorem oE (m:Int):∀ (l:List Int) (P:Pool),(l.foldl (Pool.back m) P).fr.length<=P.fr.length+l.length
 | [],_=>Nat.le_add_right _ _
 | n::l,P=>by
  rw [List.foldl_cons]
  have h1:=oE m l (P.back m n);have h2:(P.back m n).fr.length<=P.fr.length+1:=by
   show (if _ then P.fr else n::P.fr).length<=_
   split <;> simp
  simp only [List.length_cons]
  omega
theorem vM {fu:Nat} {N m room:Int} {P:Pool} {g:List Int} {o:List Bool} (h:PR N P g o) (hr:∀ n,n∈P.rt->0<=n/\n<N) (hN:N<=1000) (hf:P.fr.length<=1000) (hl:P.rt.length<=1000) (hfu:2000<=fu) :
  ∃ g' o',D.jg fu P.fr P.rt room g o m=some ((P.scan m).fr,[],room,g',o',m)/\PR N (P.scan m) g' o':=by
 unfold D.jg;rw [CM hl hfu,D8,o7 _ _ rfl];simp only [Option.bind_some];refine iV (fun z=>∃ g' o',z=some ((P.scan m).fr,[],room,g',o',m)/\PR N (P.scan m) g' o')
  (fun (i:Nat) (x:Int × List Int × List Int × Int × List Int × List Bool × Int)=>∃ g' o',x=((i:Int),((P.rt.reverse.take i).foldl (Pool.back m) ⟨P.fr,[],P.st⟩).fr,[],room,g',o',m)/\PR N ((P.rt.reverse.take i).foldl (Pool.back m) ⟨P.fr,[],P.st⟩) g' o')
  P.rt.reverse.length fu ⟨g,o,rfl,h.gl,h.ol,h.IP⟩ yao ?_ ?_
 ·rintro i x hi ⟨g1,o1,rfl,hp⟩
  simp only
  have hb:=oE m (P.rt.reverse.take i) ⟨P.fr,[],P.st⟩;rw [show decide ((i:Int)<(P.rt.reverse.length:Int))=true from by rw [decide_eq_true_eq]; omega,hO hi,bW (show -1000000<=(i:Int)+1 by omega) (by simp at hi; omega)]
  simp only [cond_true,Option.bind_some]
  have hm:=hr _ (List.mem_reverse.1 (List.getElem_mem hi));obtain ⟨g2,o2,e2,hp2⟩:=vV (fu:=fu) (m:=m) (room:=room) (rt:=[]) hp hm hN (by simp only [List.length_take] at hb; simp at hi; omega)
  rw [e2]
  simp only [Option.bind_some]
  have ht:P.rt.reverse.take (i+1)=P.rt.reverse.take i++[P.rt.reverse[i]]:=by rw [List.take_succ_eq_append_getElem hi]
  refine ⟨_,rfl,g2,o2,?_,by rw [ht,List.foldl_append]; exact hp2⟩
  rw [ht,List.foldl_append]
  simp
 ·rintro x ⟨g1,o1,rfl,hp⟩
  simp only
  rw [show decide ((P.rt.reverse.length:Int)<(P.rt.reverse.length:Int))=false from by simp]
  refine ⟨_,rfl,?_⟩;rw [List.take_length] at hp ⊢
  exact ⟨g1,o1,rfl,hp⟩
theorem DW {p:Plan} (hp:PF p) (hnn:p.nodes<=1000) {room m:Int} {fu:Nat} (hfu:2000<=fu):∃ g o,D.lh fu p.nodes room m=some (allN p,[],room,g,o,m)/\PR p.nodes ⟨allN p,[],fun _=>⟨0,0,0⟩⟩ g o:=by
 have hn1:=hp.n1;have hmk:∀ {α:Type} (z:α),makeD z p.nodes=some (List.replicate p.nodes.toNat z):=fun z=>by unfold makeD; rw [if_pos O]
 unfold D.lh;rw [hmk,hmk];simp only [Option.bind_some];refine iV (fun z=>∃ g o,z=some (allN p,[],room,g,o,m)/\PR p.nodes ⟨allN p,[],fun _=>⟨0,0,0⟩⟩ g o)
  (fun (i:Nat) (x:Int × List Int)=>x=((i:Int),(List.range' 0 i).map fun (q:Nat)=>(q:Int))) p.nodes.toNat fu rfl O ?_ ?_
 ·rintro i x hi rfl
  simp only
  rw [show decide ((i:Int)<p.nodes)=true from by rw [decide_eq_true_eq]; omega,dw yao,bW (show -1000000<=(i:Int)+1 by omega) O]
  refine ⟨_,rfl,?_⟩;rw [List.range'_concat];simp
 ·rintro x rfl
  simp only
  rw [show decide (((p.nodes.toNat:Nat):Int)<p.nodes)=false from by rw [decide_eq_false_iff_not]; omega]
  refine ⟨_,rfl,List.replicate p.nodes.toNat 0,List.replicate p.nodes.toNat false,rfl,by simp; omega,by simp; omega,fun n n0 n1=>?_⟩
  unfold rd;rw [List.getD_eq_getElem?_getD,List.getElem?_replicate,if_pos O]
  rfl
theorem wP {fu:Nat} {N m room k:Int} {Q:Pool} {g:List Int} {o:List Bool} (h:PR N Q g o) (hr:∀ n,n∈Q.fr->0<=n/\n<N) (hf:Q.fr.length<=1000) (hN:N<=1000) :
  ∃ g' o',(bif ((Q.fr.length:Int)==0) then (some (Q.fr,Q.rt,room,g,o,m,(-1),0)) else ((Jj Q.fr 0).bind (fun (x33:Int)=>((cA Q.fr 1 (Q.fr.length:Int)).bind (fun (x38:List Int)=>((JW ([]:List Int) x38).bind (fun (IW:List Int)=>((Jj g x33).bind (fun (x45:Int)=>(some (IW,Q.rt,room,g,o,m,x33,x45))))))))))) =
   some ((Q.out k).1.fr,(Q.out k).1.rt,room,g',o',m,(Q.out k).2.node,(Q.out k).2.IP)/\PR N (Q.out k).1 g' o':=by
 obtain ⟨fr,rt,st⟩:=Q;cases fr with
 | nil=>exact ⟨g,o,rfl,h⟩
 | cons n l=>
  have hn:=hr n (List.mem_cons_self ..);have hgl:=h.gl;simp only [List.length_cons] at hf
  have h0:Jj (n::l) 0=some n:=by unfold Jj; rw [if_pos O]; rfl
  have h1:cA (n::l) 1 (((n::l).length:Nat):Int)=some l:=by
   unfold cA;rw [if_pos (by simp only [List.length_cons]; omega)];simp
  have h2:Jj g n=some ((st n).IP):=by rw [ia hn.1 O]; exact congrArg some (h.IP n hn.1 hn.2)
  simp only
  rw [show (((n::l).length:Int)==0)=false from by simp only [List.length_cons,beq_eq_false_iff_ne]; omega,h0,h1]
  simp only [cond_false,Option.bind_some]
  rw [dw yao]
  simp only [Option.bind_some,List.nil_append]
  rw [h2]
  refine ⟨g,o,rfl,hgl,h.ol,fun q q0 q1=>?_⟩
  rw [h.IP q q0 q1]
  show (st q).IP=(if q=n then D.dJ (st n) k else st q).IP
  split
  ·rename_i e; rw [e]; rfl
  ·rfl
theorem CX {fu:Nat} {N m room k:Int} {P:Pool} {g:List Int} {o:List Bool} (h:PR N P g o) (hr:∀ n,n∈P.rt->0<=n/\n<N) (Jb:∀ n,n∈P.fr->0<=n/\n<N) (hd:P.rt.Nodup) (hN:N<=1000) (hf:P.fr.length<=500) (hl:P.rt.length<=500) (hfu:2000<=fu) :
  ∃ g' o',D.kQ fu P.fr P.rt room g o m=some ((P.grant m k).1.fr,(P.grant m k).1.rt,room,g',o',m,(P.grant m k).2.node,(P.grant m k).2.IP)/\PR N (P.grant m k).1 g' o':=by
 unfold D.kQ;have hsub:∀ n,n∈(P.scan m).fr->0<=n/\n<N:=fun n hn=>(gk hd hn).elim (hr n) (Jb n)
 have hb:=oE m P.rt.reverse ⟨P.fr,[],P.st⟩;have hsr:(P.scan m).rt=[]:=fG _ _ _;have hsl:(P.scan m).fr.length<=P.fr.length+P.rt.length:=by simpa [Pool.scan] using hb
 obtain ⟨fr,rt,st⟩:=P;cases fr with
 | nil=>
  simp only
  obtain ⟨g1,o1,e1,h1⟩:=vM (fu:=fu) (m:=m) (room:=room) h hr hN yas (by simp only at hl ⊢; omega) hfu;simp only at e1
  rw [show ((([]:List Int).length:Int)==0)=true from rfl,e1]
  simp only [cond_true,Option.bind_some]
  have hx:=wP (fu:=fu) (m:=m) (room:=room) (k:=k) h1 hsub (by simp only [List.length_nil] at hsl; simp only at hl; omega) hN
  rw [hsr] at hx
  exact hx
 | cons n l=>
  simp only
  rw [show (((n::l).length:Int)==0)=false from by simp only [List.length_cons,beq_eq_false_iff_ne]; omega]
  simp only [cond_false,Option.bind_some]
  have hx:=wP (fu:=fu) (m:=m) (room:=room) (k:=k) h Jb (by simp only at hf ⊢; omega) hN
  rw [show (((n::l).length:Int)==0)=false from by simp only [List.length_cons,beq_eq_false_iff_ne]; omega] at hx
  exact hx
theorem CK {fu:Nat} {N m room n:Int} {P:Pool} {g:List Int} {o:List Bool} (h:PR N P g o) (hr:∀ n,n∈P.rt->0<=n/\n<N) (hN:N<=1000) (hf:P.fr.length<=500) (hl:P.rt.length<=500) (hfu:2000<=fu) :
  ∃ g' o',D.kK fu P.fr P.rt room g o m n=some ((P.stash room m n).fr,(P.stash room m n).rt,room,g',o',m)/\PR N (P.stash room m n) g' o':=by
 unfold D.kK Pool.stash;have hsr:(P.scan m).rt=[]:=fG _ _ _
 by_cases hc:(P.rt.length:Int)<room
 ·rw [show decide ((P.rt.length:Int)>=room)=false from by rw [decide_eq_false_iff_not]; omega,if_pos hc]
  simp only [cond_false,Option.bind_some]
  rw [dw yao]
  simp only [Option.bind_some,List.nil_append]
  rw [dw yao]
  exact ⟨g,o,rfl,h.gl,h.ol,h.IP⟩
 ·obtain ⟨g1,o1,e1,h1⟩:=vM (fu:=fu) (m:=m) (room:=room) h hr hN O O hfu
  rw [show decide ((P.rt.length:Int)>=room)=true from by rw [decide_eq_true_eq]; omega,if_neg hc,e1]
  simp only [cond_true,Option.bind_some]
  rw [dw yas]
  simp only [Option.bind_some,List.nil_append]
  rw [dw yas,hsr]
  exact ⟨g1,o1,rfl,h1.gl,h1.ol,h1.IP⟩
theorem PR.re {N n:Int} {P:Pool} {g:List Int} {o:List Bool} (h:PR N P g o) {s:State} (hs:s.IP=(P.st n).IP):PR N ⟨P.fr,P.rt,fun q=>if q=n then s else P.st q⟩ g o:=
 ⟨h.gl,h.ol,fun q q0 q1=>by
  rw [h.IP q q0 q1]
  show _=(if q=n then s else P.st q).IP
  split
  ·rename_i e; rw [e,hs]
  ·rfl⟩
theorem cl82:af B0 82:=kz
theorem cl87:af B0 87:=kz
theorem to5:tyO B0 5:=kz
end Go.Proofs.YtbbipmelhmgmfaaGreat

/- Ours. -/
namespace Go.Proofs.YtbbipmelhmgmfaaGreat.Fc
open Go.RowKit
section
variable {P : Program} {Q : Exit -> Act -> World -> Prop} {L : List Oper} {a : Act} {w : World} {N : Nat} {s : SL} {bs : List Nat}
theorem bU {B:Nat} {S:Nat->Prop} {fs:Nat->IX B S} {w0:World} {i:Nat}:cn P L fs a w0 [] i:=trivial
theorem cI {fs:Nat->IX w.heap.size (fun b=>b∈bs)} {o:Oper} {l:List Oper} {i:Nat} (r:Fr a N s) (hd:(o.guard.isNone&&dstsIn N L)=true) (he:early L (fun i=>(fs i).sh) i=true)
  (h:∀ a' g w',Below w.heap.size w w'->(∀ j,bQ o j=true->(fs j).ok g j w'/\w.heap.size<=(g j).lo/\(g j).hi<=w'.heap.size/\∀ q,bQ o q=true->q≠j->(g j).hi<=(g q).lo\/(g q).hi<=(g j).lo)->Fr a' N (Kt L (fun j=>(g j).v) 0 s)->
   Yields P o a' w' fun v w''=>(fs i).mk g v w' w'') (h2:cn P L fs a w l (i+1)):cn P L fs a w (o::l) i:=by
 simp only [Bool.and_eq_true] at hd
 exact ⟨fun g w' _ h1 h3 h4 h5 h6 h7=>.plain hd.1 (h _ g w' ⟨h1,h3,h4,h5,fun b hb=>h6 b hb (.inr he)⟩ h7 (r.JK L _ 0 hd.2)),h2⟩
theorem aW {fs:Nat->IX w.heap.size (fun b=>b∈bs)} {o:Oper} {l:List Oper} {i:Nat} (r:Fr a N s) (hd:(o.guard.isNone&&dstsIn N L)=true)
  (h:∀ a' g w',Jd (fun b=>b∈bs) w w'->(∀ j,bQ o j=true->(fs j).ok g j w'/\w.heap.size<=(g j).lo/\(g j).hi<=w'.heap.size/\∀ q,bQ o q=true->q≠j->(g j).hi<=(g q).lo\/(g q).hi<=(g j).lo)->Fr a' N (Kt L (fun j=>(g j).v) 0 s)->
   Yields P o a' w' fun v w''=>(fs i).mk g v w' w'') (h2:cn P L fs a w l (i+1)):cn P L fs a w (o::l) i:=by
 simp only [Bool.and_eq_true] at hd
 exact ⟨fun g w' _ h1 h3 h4 h5 h6 h7=>.plain hd.1 (h _ g w' ⟨h1,h3,h4,h5,fun b hb hn=>h6 b hb (.inl hn)⟩ h7 (r.JK L _ 0 hd.2)),h2⟩
theorem eachC {fs:Nat->IX w.heap.size (fun b=>b∈bs)} {o:Oper} {l:List Oper} {i:Nat} (r:Fr a N s) (hd:(o.guard.isNone&&dstsIn N L)=true) (he:early L (fun i=>(fs i).sh) i=true)
  (h:∀ a' g w',(g i).hi=0->Below w.heap.size w w'->(∀ j,bQ o j=true->(fs j).ok g j w'/\w.heap.size<=(g j).lo/\(g j).hi<=w'.heap.size/\∀ q,bQ o q=true->q≠j->(g j).hi<=(g q).lo\/(g q).hi<=(g j).lo)->Fr a' N (Kt L (fun j=>(g j).v) 0 s)->
   Yields P o a' w' fun v w''=>(fs i).mk g v w' w'') (h2:cn P L fs a w l (i+1)):cn P L fs a w (o::l) i:=by
 simp only [Bool.and_eq_true] at hd
 exact ⟨fun g w' h0 h1 h3 h4 h5 h6 h7=>.plain hd.1 (h _ g w' h0 ⟨h1,h3,h4,h5,fun b hb=>h6 b hb (.inr he)⟩ h7 (r.JK L _ 0 hd.2)),h2⟩
theorem Dx {id:Nat} (bs:List Nat) (fl:List (IX w.heap.size (fun b=>b∈bs))) (hm:P.follows .mixedOrders=true) (r:Fr a N s) (hS:∀ b,b∈bs->b<w.heap.size) (hne:∃ b,b∈bs) (hs:(freely L (fun i=>(fact fl i).sh)&&dstsIn N L&&okV L fl&&okE L fl)=true)
  (he:cn P L (fact fl) a { w with drawn:=w.drawn+1 } L 0)
  (hl:∀ a' g w',Jd (fun b=>b∈bs) w w'->(∀ i,Nat.ble (i+1) L.length=true->(fact fl i).ok g i w'/\w.heap.size<=(g i).lo/\(g i).lo<=(g i).hi/\(g i).hi<=w'.heap.size)->
   (∀ i j,(!(i==j)&&Nat.ble (i+1) L.length&&Nat.ble (j+1) L.length)=true->(g i).hi<=(g j).lo\/(g j).hi<=(g i).lo)->Fr a' N (Kt L (fun j=>(g j).v) 0 s)->Q .normal a' w') :
  (Code.region id L.toArray true).wp P Q a w:=by
 simp only [Bool.and_eq_true] at hs
 have hpos:0<w.heap.size:=by
  obtain ⟨b,hb⟩:=hne;have:=hS b hb;omega
 refine Dn (fact fl) (rP hs.1.2) hm rfl hS (.inl hpos) (wY hs.2) hs.1.1.1 (rE hs.1.2) he fun g w' h1 h2 h3 h4 h5 h6 h7=>hl _ g w' ⟨h1,h2,h3,h4,fun b hb hn=>h5 b hb hn⟩ (fun i hi=>h6 i (Nat.le_of_ble_eq_true hi)) (fun i j hij=>?_) (r.JK L _ 0 hs.1.1.2)
 simp only [Bool.and_eq_true,Bool.not_eq_true',beq_eq_false_iff_ne] at hij
 exact h7 i j hij.1.1 (Nat.le_of_ble_eq_true hij.1.2) (Nat.le_of_ble_eq_true hij.2)
theorem vF {id:Nat} (k:Nat) (fl:List (IX w.heap.size (fun b=>b∈([]:List Nat)))) (hm:P.follows .mixedOrders=true) (r:Fr a N s) (hpos:0<w.heap.size)
  (hs:(drawnOk L k&&shapely (L.take k)&&noGuards (L.take k)&&(freely (L.take k) (fun i=>(fact fl i).sh)&&dstsIn N (L.take k)&&okV (L.take k) fl&&okE (L.take k) fl))=true)
  (he:cn P (L.take k) (fact fl) a { w with drawn:=w.drawn+1 } (L.take k) 0)
  (hl:∀ a' g w',Below w.heap.size w w'->(∀ i,Nat.ble (i+1) (L.take k).length=true->(fact fl i).ok g i w'/\w.heap.size<=(g i).lo/\(g i).lo<=(g i).hi/\(g i).hi<=w'.heap.size)->
   (∀ i j,(!(i==j)&&Nat.ble (i+1) (L.take k).length&&Nat.ble (j+1) (L.take k).length)=true->(g i).hi<=(g j).lo\/(g j).hi<=(g i).lo)->Fr a' N (Kt (L.take k) (fun j=>(g j).v) 0 s)->wpList P L.toArray Q (L.drop k) a' w') :
  (Code.region id L.toArray true).wp P Q a w:=by
 simp only [Bool.and_eq_true] at hs
 obtain ⟨⟨⟨hs1,hs2⟩,hs3⟩,hs⟩:=hs;refine rj hm hs1 hs2 hs3 (qX (fact fl) (rP hs.1.2) rfl (fun _ h=>by cases h) (.inl hpos) (wY hs.2) hs.1.1.1 (rE hs.1.2) he fun g w' h1 h2 h3 h4 h5 h6 h7=>⟨rfl,hl _ g w' ⟨h1,h2,h3,h4,fun b hb=>h5 b hb fun h=>by cases h⟩ (fun i hi=>h6 i (Nat.le_of_ble_eq_true hi)) (fun i j hij=>?_) (r.JK (L.take k) _ 0 hs.1.1.2)⟩)
 simp only [Bool.and_eq_true,Bool.not_eq_true',beq_eq_false_iff_ne] at hij
 exact h7 i j hij.1.1 (Nat.le_of_ble_eq_true hij.1.2) (Nat.le_of_ble_eq_true hij.2)
end
end Go.Proofs.YtbbipmelhmgmfaaGreat.Fc
namespace Go.Proofs.YtbbipmelhmgmfaaGreat
open Go.RowKit
theorem Jd.keptC {bs:List Nat} {g:Nat->Gh} {j:Nat} {w w':World} (h:Jd (fun b=>b∈rg (g j).lo (g j).hi\/b∈bs) w w'):Kept w.heap.size (fun b=>b∈bs\/∃ k,k∈[j]/\(g k).lo<=b/\b<(g k).hi) 0 0 w w':=
 ⟨h.os,h.tape,h.output,h.size,fun b hb=>by
  rcases hb with hb | hb
  ·exact h.block b hb.1 fun hz=>hb.2 (hz.elim (fun h=>.inr ⟨j,List.mem_singleton.2 rfl,ez.1 h⟩) .inl)
  ·omega⟩
theorem KN.ofC {Z:Nat->Prop} {B:Nat} {c':Ck} {v:Value} {w w':World} (h:Kv Z No [c'] w w') (hlt:∀ b,c'.has b->b<B):KN B c' (fun _:Unit=>v) (fun _:Unit=>[]) v w.heap.size w'.heap.size w':=
 ⟨(),rfl,h.sep.1,hlt,lQ⟩
section
variable {R : Type} {P : Program} {E : Enc R} {w w' w0 : World} {L A B N : List Ck} {Z : Nat -> Prop} {i k : Nat}
theorem IK.zero:∀ {n:Nat} {t:T R} {F:Nat->Prop} {v:Value},IK P E n t F w v->Jm P E 0 t F w v
 | _,.cut,_,_,h=>by unfold IK at h; exact h.elim
 | _,.done _,_,_,h=>by unfold IK at h; unfold Jm; exact h
 | 0,.act ..,_,_,h=>by unfold IK at h; unfold Jm; exact h
 | m+1,.act op at_ a b k,F,v,h=>by
  unfold IK at h; unfold Jm
  obtain ⟨f,first,cap,hc,hv,_⟩:=h;exact ⟨f,first,cap,hc,hv⟩
theorem IK.rB {n:Nat} {F:Nat->Prop} {v:Value} {t:T R} (h:IK P E n t F w v) (hd:t.bC=false):∃ (f:FuncId) (first cap:List Value),v.cells[5+E.n]?=some (kf f first cap)/\K1 P E u64 n F w (kf f first cap) t.next:=by
 cases t with
 | cut=>unfold IK at h; exact h.elim
 | done r=>cases hd
 | act op at_ a b k=>
  obtain ⟨f,first,cap,_,rfl,hf⟩:=h.dD;refine ⟨f,first,cap,?_,hf⟩;simp only [aC,Value.cells,List.getElem?_toArray];rw [show 5+E.n=(E.n+4)+1 from O,List.getElem?_cons_succ,List.getElem?_append_right (by rw [E.zlen]; omega),E.zlen]
  simp
def bY (P:Program) (E:Enc R) (x:Nat × T R) (v:Value) (F:List Nat):Ck:=
 ⟨F,[],fun w=>IK P E x.1 x.2 (fun b=>b∈F) w v,fun _ _ h hs hr=>IK.mono (fun _ h=>h) (fun b hb=>h b (.inl hb)) hs _ _ _ hr⟩
theorem Post.progl {x:Nat × T R} {v:Value} {F:List Nat} (h:Post Z L w0 w) (hi:L[i]?=some (bY P E x v F)):IK P E x.1 x.2 (fun b=>b∈F) w v:=h.sep.get hi
theorem Post.progz {x:Nat × T R} {v:Value} {F:List Nat} (h:Post Z L w0 w) (hi:L[i]?=some (bY P E x v F)):Jm P E 0 x.2 (fun b=>b∈F) w v:=(h.progl hi).zero
theorem vu {x:Nat × T R} {v:Value} {F:List Nat} (h:IK P E x.1 x.2 (fun b=>b∈F) w v) (hl:∀ b,b∈F->b<w.heap.size):JY [bY P E x v F] w:=
 ⟨h,(fun b hb=>by rcases hb with hb | hb; (exact hl b hb); (cases hb)),(fun _ h=>by cases h),trivial⟩
theorem uG {n:Nat} {t:T R} {v:Value} (hr:IK P E n t (grow No w w') w' v):cy [bY P E (n,t) v (rg w.heap.size w'.heap.size)] w.heap.size w'.heap.size w':=
 ⟨vu (IK.mono (fun b hb=>ez.2 (hb.resolve_left fun h=>h)) (I8.refl _ _) (Nat.le_refl _) _ _ _ hr) fun b hb=>(ez.1 hb).2,fun c hc b hb=>by
  rcases List.mem_singleton.1 hc with rfl
  rcases hb with hb | hb
  ·exact ez.1 hb
  ·cases hb⟩
theorem Post.addProgL {n:Nat} {t:T R} {v:Value} (h:Post Z L w0 w) (hb:Below w.heap.size w w') (hr:IK P E n t (grow No w w') w' v):Post Z (L++[bY P E (n,t) v (rg w.heap.size w'.heap.size)]) w0 w':=
 h.addL (l:=[([bY P E (n,t) v (rg w.heap.size w'.heap.size)],w.heap.size,w'.heap.size)]) hb ⟨uG hr,Nat.le_refl _,da,trivial⟩
def PrL (P:Program) (E:Enc R) (x:Nat × T R):Value->Nat->Nat->World->Prop:=fun v lo hi w=>cy [bY P E x v (rg lo hi)] lo hi w
theorem PrL.st (x:Nat × T R) {B:Nat} {S:Nat->Prop}:∀ v lo hi w1 w2,PrL P E x v lo hi w1->Kept B S lo hi w1 w2->PrL P E x v lo hi w2:=by
 rintro v lo hi w1 w2 ⟨hs,hb⟩ ⟨_,_,_,hz,hk⟩;exact ⟨hs.keep hz fun c hc b hcb=>hk b (.inr (hb c hc b hcb)),hb⟩
theorem Post.callL {n:Nat} {t:T R} {v v0:Value} {x:Nat × T R} {F:List Nat} (h:Post Z L w0 w) (hk:L[k]?=some (bY P E x v0 F)) (hb:Jd (fun b=>b∈F) w w') (hr:IK P E n t (grow (fun b=>b∈F) w w') w' v) :
  Post Z (L.set k (bY P E (n,t) v (F++rg w.heap.size w'.heap.size))) w0 w':=by
 have hz:=hb.size;have hl:∀ b,b∈F++rg w.heap.size w'.heap.size->b<w'.heap.size:=fun b hb=>by
  rcases List.mem_append.1 hb with hb | hb
  ·exact q9 (h.sep.lt hk (.inl hb)) hz
  ·exact (ez.1 hb).2
 have hr':IK P E n t (fun b=>b∈F++rg w.heap.size w'.heap.size) w' v:=IK.mono (fun b hb=>List.mem_append.2 (hb.imp id ez.2)) (I8.refl _ _) (Nat.le_refl _) _ _ _ hr
 have:=h.set (N:=[]) hk (c':=bY P E (n,t) v (F++rg w.heap.size w'.heap.size)) ⟨⟨vu (x:=(n,t)) hr' hl,hb,fun c hc b hb=>?_⟩,fun c hc b hb=>by rcases List.mem_singleton.1 hc with rfl; cases hb⟩
 ·rwa [List.append_nil] at this
 ·rcases List.mem_singleton.1 hc with rfl
  rcases List.mem_append.1 hb with hb | hb
  ·exact .inl hb
  ·exact .inr (ez.1 hb).1
theorem Post.frame {Y:Nat->Prop} (h:Post Z (A++B) w0 w) (h2:Kv Y No N w w') (hY:∀ b,Y b->∃ e,e∈B/\b∈e.own):Post Z (A++N) w0 w':=by
 have hmem:∀ c,c∈A->∀ e,e∈B->e.clear c:=fun c hc e he=>by
  obtain ⟨i,hi⟩:=List.mem_iff_getElem?.1 hc;obtain ⟨j,hj⟩:=List.mem_iff_getElem?.1 he;have hil:=(List.getElem?_eq_some_iff.1 hi).1;exact (h.sep.clear (i:=i) (j:=A.length+j) (by rw [List.getElem?_append_left hil]; exact hi) (by rw [List.getElem?_append_right O]; simpa using hj) O).2
 have hold:∀ c,c∈A->∀ b,c.has b->b<w.heap.size/\¬ Y b:=fun c hc b hb=>⟨(h.sep.ok c (List.mem_append_left _ hc)).2 b hb,fun hy=>by
  obtain ⟨e,he,hbe⟩:=hY b hy;exact hmem c hc e he b hbe hb⟩
 have hnew:∀ d,d∈N->∀ b,d.has b->Y b\/w.heap.size<=b:=fun d hd b hb=>hb.elim (h2.mine d hd b) (fun hr=>.inr ((h2.rest d hd b hr).resolve_left fun h=>h))
 have hsz:=h.size;refine ⟨((h.sep.sub (List.sublist_append_left A B)).keep h2.KE.size fun c hc b hb=>h2.KE.block b (hold c hc b hb).1 (hold c hc b hb).2).append h2.sep fun c hc d hd=>⟨fun b h3 h4=>?_,fun b h3 h4=>?_⟩,h.KE.trans h2.KE (fun b hb hy=>?_),fun c hc b hb=>?_⟩
 ·rcases hnew d hd b h4 with h5 | h5
  ·exact (hold c hc b (.inl h3)).2 h5
  ·have:=(hold c hc b (.inl h3)).1; omega
 ·rcases hnew d hd b (.inl h3) with h5 | h5
  ·exact (hold c hc b h4).2 h5
  ·have:=(hold c hc b h4).1; omega
 ·obtain ⟨e,he,hbe⟩:=hY b hy
  rcases h.mine e (List.mem_append_right _ he) b hbe with h5 | h5
  ·exact h5
  ·omega
 ·rcases List.mem_append.1 hc with hc | hc
  ·exact h.mine c (List.mem_append_left _ hc) b hb
  ·rcases h2.mine c hc b hb with h5 | h5
   ·obtain ⟨e,he,hbe⟩:=hY b h5
    exact h.mine e (List.mem_append_right _ he) b hbe
   ·exact .inr O
end
/-! ### A step, a run, of a program that changes blocks of its own, in a region -/
theorem zE {fu:Nat} (w0:World) {Ji:Value} {Kz:List Nat} (a0:Nat × T IM) {Jo:MG} (a1:Mem) (a2:Cap) (hS:JY [bY B0 aA a0 Ji Kz,I9 Jo a1] w0) {res:(Nat × T IM) × Bool × Mem} (hD:D.pP fu a0 a1 a2=some res) :
    Calls B0 19 #[Ji,zp Jo.mb,z6 (IV a2)] w0 (fun e w'=>∃ (v0:Value) (F0:List Nat),e=.returned (.tuple #[v0,(.bool res.2.1)])/\Kv (fun b=>b∈Kz\/b∈(I9 Jo a1).own) No [I9 Jo res.2.2,bY B0 aA res.1 v0 F0] w0 w'/\(res.2.1=false->v0=Ji/\res.1=a0)):=by
 refine enter Tryz.func19 rfl 28 rfl rfl fun fr r=>?_;have hP:Post (fun b=>b∈Kz\/b∈(I9 Jo a1).own) [bY B0 aA a0 Ji Kz,I9 Jo a1] w0 w0:=.start hS yaz
 unfold D.pP at hD
 refine I0 ?_;refine kX 41 Ji r rfl rfl fun b1 w2 n3 r=>?_;have hP:Post (fun b=>b∈Kz\/b∈(I9 Jo a1).own) [bY B0 aA a0 Ji Kz,I9 Jo a1,ae b1 Ji.cells 41] w0 w2:=hP.new n3
 refine kX 52 (z6 (IV a2)) r rfl rfl fun b5 w6 n7 r=>?_;have hP:Post (fun b=>b∈Kz\/b∈(I9 Jo a1).own) [bY B0 aA a0 Ji Kz,I9 Jo a1,ae b1 Ji.cells 41,ae b5 ((IV a2)).toArray 52] w0 w6:=hP.new n7
 refine ah (.cells (kq aA) 41 (0,0)) r (fun R=>ag JD) rfl fun fr b9 J8 n11 r=>?_;have hP:Post (fun b=>b∈Kz\/b∈(I9 Jo a1).own) [bY B0 aA a0 Ji Kz,I9 Jo a1,ae b1 Ji.cells 41,ae b5 ((IV a2)).toArray 52,ae b9 (kq aA) 41] w0 J8:=hP.new n11
 refine kA (.bool false) r rfl rfl fun r=>wn (d9 (I0 (aa _ r (fun R=>az r (b:=b1) (o:=0) (k:=0) rfl rQ) rfl fun fr r=>kL (.bool a0.2.bC) r rfl (hP.cell (i:=2) rfl) to4 (Jm.jW (hP.progz (i:=0) rfl)) rfl fun r=>wn ?_)));refine q5 (t:=a0.2.bC) (r.ev rfl) (fun J6=>?_) (fun J6=>?_)
 ·
  have hD:=z7 (ar J6) hD;refine I0 (aa Ji r (fun R=>hU r (hP.progz (i:=0) rfl).shape rfl (hP.cell (i:=2) rfl) Jt) rfl fun fr r=>?_);refine kP r (hP.progz (i:=0) rfl).shape rfl rfl (hP.cell (i:=4) rfl) Ju rfl rfl fun w14 u15 r=>?_
  have hP:Post (fun b=>b∈Kz\/b∈(I9 Jo a1).own) [bY B0 aA a0 Ji Kz,I9 Jo a1,ae b1 Ji.cells 41,ae b5 ((IV a2)).toArray 52,ae b9 Ji.cells 41] w0 w14:=hP.upd (i:=4) rfl u15
  refine kA (.bool false) r rfl rfl fun r=>wn (q4 ?_);have hv:(a0,false,a1)=res:=Option.some.inj hD
  try dsimp only [Exit.then,Exit.inBlock]
  have hs:=(hP.progz (i:=0) rfl).shape.cells;refine fT (fn:=Tryz.f19) r rfl rfl (v':=(.bool false)) rfl (hP.cell (i:=4) rfl) (k:=8) hs.1 Jt ?_;rw [<-hs.2.2];subst hv;exact ⟨Ji,Kz,rfl,(hP.pick [1,0] rfl rfl).done (dg rfl (dg rfl cG)),fun _=>⟨rfl,rfl⟩⟩
 have hD:=z7 (ai J6) hD;refine q7 (I0 (kM (zp Jo.mb) r rfl rfl fun r=>kG (IV a2) 2 r rfl (hP.cell (i:=3) rfl) ta52 rfl rfl fun r=>aa _ r (fun R=>az r (b:=b1) (o:=0) (k:=3) rfl EH) rfl fun fr r=>kG (bh (T.acc a0.2)) 4 r rfl (hP.cell (i:=2) rfl) KX (Jm.xm (hP.progz (i:=0) rfl) J6) rfl fun r=>?_));obtain ⟨Kd,hx16,hD⟩:=aG hD
 refine kC r (tW J8 a1 a2 (T.acc a0.2) (hP.sep.pk [1] rfl rfl) hx16) rfl cl65 rfl ?_;rintro _ w17 ⟨rfl,hq⟩;refine ⟨_,rfl,fun fr r=>?_⟩
 have hP:Post (fun b=>b∈Kz\/b∈(I9 Jo a1).own) [bY B0 aA a0 Ji Kz,I9 Jo Kd.2.2,ae b1 Ji.cells 41,ae b5 ((IV a2)).toArray 52,ae b9 (kq aA) 41] w0 w17:=hP.setN (i:=1) rfl hq
 refine kM (.tuple #[(U Kd.1),(.bool Kd.2.1)]) r rfl rfl fun r=>aa (U Kd.1) r (fun R=>bZ r (vs:=#[(U Kd.1),(.bool Kd.2.1)]) rfl rfl) rfl fun fr r=>aa (.bool Kd.2.1) r (fun R=>bZ r (vs:=#[(U Kd.1),(.bool Kd.2.1)]) rfl rfl) rfl fun fr r=>kA (U Kd.1) r rfl rfl fun r=>kA (.bool Kd.2.1) r rfl rfl fun r=>wn (d9 (I0 (kM (.bool Kd.2.1) r rfl rfl fun r=>aa (.bool (!Kd.2.1)) r (fun R=>JQ r (u:=(.bool Kd.2.1)) rfl rfl) rfl fun fr r=>wn ?_)));refine q5 (t:=(!Kd.2.1)) (r.ev rfl) (fun K4=>?_) (fun K4=>?_)
 ·
  have hD:=z7 (ar K4) hD;refine I0 (aa Ji r (fun R=>hU r (hP.progz (i:=0) rfl).shape rfl (hP.cell (i:=2) rfl) Jt) rfl fun fr r=>?_);refine kP r (hP.progz (i:=0) rfl).shape rfl rfl (hP.cell (i:=4) rfl) Ju rfl rfl fun w19 u20 r=>?_
  have hP:Post (fun b=>b∈Kz\/b∈(I9 Jo a1).own) [bY B0 aA a0 Ji Kz,I9 Jo Kd.2.2,ae b1 Ji.cells 41,ae b5 ((IV a2)).toArray 52,ae b9 Ji.cells 41] w0 w19:=hP.upd (i:=4) rfl u20
  refine kA (.bool false) r rfl rfl fun r=>wn (q4 ?_);have hv:(a0,false,Kd.2.2)=res:=Option.some.inj hD
  try dsimp only [Exit.then,Exit.inBlock]
  have hs:=(hP.progz (i:=0) rfl).shape.cells;refine fT (fn:=Tryz.f19) r rfl rfl (v':=(.bool false)) rfl (hP.cell (i:=4) rfl) (k:=8) hs.1 Jt ?_;rw [<-hs.2.2];subst hv;exact ⟨Ji,Kz,rfl,(hP.pick [1,0] rfl rfl).done (dg rfl (dg rfl cG)),fun _=>⟨rfl,rfl⟩⟩
 have hD:=z7 (ai K4) hD;refine q7 (I0 (aa _ r (fun R=>az r (b:=b1) (o:=0) (k:=7) rfl ED) rfl fun fr r=>?_));obtain ⟨nf21,n122,n223,hv24,hk25⟩:=IK.rB (hP.progl (i:=0) rfl) J6
 refine kL (kf nf21 n122 n223) r rfl (hP.cell (i:=2) rfl) to39 hv24 rfl fun r=>kM (U Kd.1) r rfl rfl fun r=>?_;obtain ⟨Ky,hx26,hD⟩:=aG hD
 refine cS r (hk25.at_.2 Ky (by rw [vD hx26]; exact Nat.lt_succ_self _) Kd.1 w17 (I8.refl _ _) (Nat.le_refl _)) (fun R hc=>dM r rfl rfl hk25.at_.1 hc) rfl ?_;rintro _ w27 ⟨v28,rfl,hb,hr29⟩
 refine ⟨_,rfl,fun fr r=>?_⟩
 have zw27:=hP.size;have hP:Post (fun b=>b∈Kz\/b∈(I9 Jo a1).own) [bY B0 aA (Ky,T.next a0.2 Kd.1) v28 (Kz++rg w17.heap.size w27.heap.size),I9 Jo Kd.2.2,ae b1 Ji.cells 41,ae b5 ((IV a2)).toArray 52,ae b9 (kq aA) 41] w0 w27:=hP.callL (k:=0) rfl hb hr29
 refine kP r (hP.progz (i:=0) rfl).shape rfl rfl (hP.cell (i:=4) rfl) Ju rfl rfl fun w31 u32 r=>?_;have hP:Post (fun b=>b∈Kz\/b∈(I9 Jo a1).own) [bY B0 aA (Ky,T.next a0.2 Kd.1) v28 (Kz++rg w17.heap.size w27.heap.size),I9 Jo Kd.2.2,ae b1 Ji.cells 41,ae b5 ((IV a2)).toArray 52,ae b9 v28.cells 41] w0 w31:=hP.upd (i:=4) rfl u32
 refine kA (.bool true) r rfl rfl fun r=>wn (q4 ?_);have hv:((Ky,T.next a0.2 Kd.1),true,Kd.2.2)=res:=Option.some.inj hD
 try dsimp only [Exit.then,Exit.inBlock]
 have hs:=(hP.progz (i:=0) rfl).shape.cells;refine fT (fn:=Tryz.f19) r rfl rfl (v':=(.bool true)) rfl (hP.cell (i:=4) rfl) (k:=8) hs.1 Jt ?_;rw [<-hs.2.2];subst hv;exact ⟨v28,(Kz++rg w17.heap.size w27.heap.size),rfl,(hP.pick [1,0] rfl rfl).done (dg rfl (dg rfl cG)),fun h=>by cases h⟩
theorem tV {fu:Nat} (w0:World) {Ji:Value} {Kz:List Nat} (a0:Nat × T IM) {Jo:MG} (a1:Mem) (a2:Cap) (a3:Int) (hS:JY [bY B0 aA a0 Ji Kz,I9 Jo a1] w0) {res:IM × Int × Bool × Mem} (hD:D.jz fu a0 a1 a2 a3=some res) :
    Calls B0 29 #[Ji,zp Jo.mb,z6 (IV a2),.int .i64 a3] w0 (fun e w'=>e=.returned (.tuple #[(z6 (ID res.1)),(.int .i64 res.2.1),(.bool res.2.2.1)])/\Kv (fun b=>b∈Kz\/b∈(I9 Jo a1).own) No [I9 Jo res.2.2.2] w0 w'):=by
 refine enter Tryz.func29 rfl 39 rfl rfl fun fr r=>?_;have hP:Post (fun b=>b∈Kz\/b∈(I9 Jo a1).own) [bY B0 aA a0 Ji Kz,I9 Jo a1] w0 w0:=.start hS yaz
 unfold D.jz at hD
 refine I0 ?_;refine kX 41 Ji r rfl rfl fun b1 w2 n3 r=>?_;have hP:Post (fun b=>b∈Kz\/b∈(I9 Jo a1).own) [bY B0 aA a0 Ji Kz,I9 Jo a1,ae b1 Ji.cells 41] w0 w2:=hP.new n3
 refine kX 52 (z6 (IV a2)) r rfl rfl fun b5 w6 n7 r=>?_;have hP:Post (fun b=>b∈Kz\/b∈(I9 Jo a1).own) [bY B0 aA a0 Ji Kz,I9 Jo a1,ae b1 Ji.cells 41,ae b5 ((IV a2)).toArray 52] w0 w6:=hP.new n7
 refine ah (.cells ((ID (⟨0,0⟩:IM))).toArray 36 (0,0)) r (fun R=>ag tz36) rfl fun fr b9 J8 n11 r=>?_;have hP:Post (fun b=>b∈Kz\/b∈(I9 Jo a1).own) [bY B0 aA a0 Ji Kz,I9 Jo a1,ae b1 Ji.cells 41,ae b5 ((IV a2)).toArray 52,ae b9 ((ID (⟨0,0⟩:IM))).toArray 36] w0 J8:=hP.new n11
 refine kA (I 0) r rfl rfl fun r=>kA (.bool false) r rfl rfl fun r=>wn (I0 (kA (I 0) r rfl rfl fun r=>wn (d9 ?_)));refine dV (X:=Int × Mem × (Nat × T IM)) (G:=Value × List Nat) (x0:=(0,a1,a0)) (fun x γ=>[(0,Ji),(1,(zp Jo.mb)),(2,(z6 (IV a2))),(3,(I a3)),(4,(zp b1)),(6,(zp b5)),(8,(zp b9)),(9,(I 0)),(10,(.bool false)),(11,(I x.1))]) (fun x γ w=>Post (fun b=>b∈Kz\/b∈(I9 Jo a1).own) [bY B0 aA x.2.2 γ.1 γ.2,I9 Jo x.2.1,ae b1 γ.1.cells 41,ae b5 ((IV a2)).toArray 52,ae b9 ((ID (⟨0,0⟩:IM))).toArray 36] w0 w) (Ji,Kz) r (kO (kO (aq rfl (aq rfl aJ)))) hP hD ?_ ?_
 ·
  rintro IC γ14 fr w16 g y15 RPy15 nxy15 bky15 rty15 r hP hD;have hP:Post (fun b=>b∈Kz\/b∈(I9 Jo a1).own) [bY B0 aA IC.2.2 γ14.1 γ14.2,I9 Jo IC.2.1,ae b1 γ14.1.cells 41,ae b5 ((IV a2)).toArray 52,ae b9 ((ID (⟨0,0⟩:IM))).toArray 36] w0 w16:=hP
  refine d9 (d9 ?_);refine cR (N:=39) (Y:=Bool) (G:=Unit) (fun x γ=>[(0,Ji),(1,(zp Jo.mb)),(2,(z6 (IV a2))),(3,(I a3)),(4,(zp b1)),(6,(zp b5)),(8,(zp b9)),(9,(I 0)),(10,(.bool false)),(11,(I IC.1)),(21,(.bool x))]) (fun x γ w=>Post (fun b=>b∈Kz\/b∈(I9 Jo a1).own) [bY B0 aA IC.2.2 γ14.1 γ14.2,I9 Jo IC.2.1,ae b1 γ14.1.cells 41,ae b5 ((IV a2)).toArray 52,ae b9 ((ID (⟨0,0⟩:IM))).toArray 36] w0 w) hD ?_ ?_
  ·
   rintro y17 RPy17 nxy17 hD;refine q6 (kM (I IC.1) r rfl rfl fun r=>kM (I a3) r rfl rfl fun r=>kB r rfl rfl rfl rfl rfl fun r=>kM (.bool (decide (IC.1<a3))) r rfl rfl fun r=>?_);refine bG (decide (IC.1<a3)) (fun K4=>?_) (fun K4=>?_)
   ·
    have hD:=z7 (ar K4) hD;refine s1 r K4 (aa _ r (fun R=>az r (b:=b1) (o:=0) (k:=0) rfl rQ) rfl fun fr r=>s1 r K4 (kL (.bool IC.2.2.2.bC) r rfl (hP.cell (i:=2) rfl) to4 (Jm.jW (hP.progz (i:=0) rfl)) rfl fun r=>s1 r K4 (aa (.bool (!IC.2.2.2.bC)) r (fun R=>JQ r (u:=(.bool IC.2.2.2.bC)) rfl rfl) rfl fun fr r=>aa (.bool (!IC.2.2.2.bC)) r (fun R=>ay r (b:=true) (kb K4) rfl) rfl fun fr r=>wn ?_)));exact nxy17 (!IC.2.2.2.bC) () _ _ _ hD r (kO (kO (aq rfl (aq rfl (aq rfl aJ))))) (hP.pick [0,1,2,3,4] rfl rfl)
   have hD:=z7 (ai K4) hD;refine s0 r K4 fun fr r=>s0 r K4 fun fr r=>s0 r K4 fun fr r=>aa (.bool false) r (fun R=>ay r (b:=false) (kb K4) rfl) rfl fun fr r=>wn ?_;exact nxy17 false () _ _ _ hD r (kO (kO (aq rfl (aq rfl (aq rfl aJ))))) (hP.pick [0,1,2,3,4] rfl rfl)
  rintro x19 γ20 fr w21 g r hP hD;have hP:Post (fun b=>b∈Kz\/b∈(I9 Jo a1).own) [bY B0 aA IC.2.2 γ14.1 γ14.2,I9 Jo IC.2.1,ae b1 γ14.1.cells 41,ae b5 ((IV a2)).toArray 52,ae b9 ((ID (⟨0,0⟩:IM))).toArray 36] w0 w21:=hP
  refine q5 (t:=x19) (r.ev rfl) (fun h22=>?_) (fun h22=>?_)
  ·
   have hD:=z7 (ar h22) hD;refine q7 (wp_block (I0 (aa γ14.1 r (fun R=>hU r (hP.progz (i:=0) rfl).shape rfl (hP.cell (i:=2) rfl) Jt) rfl fun fr r=>kM (zp Jo.mb) r rfl rfl fun r=>kG (IV a2) 2 r rfl (hP.cell (i:=3) rfl) ta52 rfl rfl fun r=>?_)));obtain ⟨JE,hx23,hD⟩:=aG hD
   have hsh:=(hP.progz (i:=0) rfl).shape.cells.1;refine kC r (zE w21 IC.2.2 IC.2.1 a2 (hP.sep.pk [0,1] rfl rfl) hx23) rfl cl19 rfl ?_;rintro _ w24 ⟨v25,F26,rfl,hq,hsame⟩;refine ⟨_,rfl,fun fr r=>?_⟩
   have hP:Post (fun b=>b∈Kz\/b∈(I9 Jo a1).own) [bY B0 aA JE.1 v25 F26,I9 Jo JE.2.2,ae b1 γ14.1.cells 41,ae b5 ((IV a2)).toArray 52,ae b9 ((ID (⟨0,0⟩:IM))).toArray 36] w0 w24:=(Post.frame (A:=[ae b1 γ14.1.cells 41,ae b5 ((IV a2)).toArray 52,ae b9 ((ID (⟨0,0⟩:IM))).toArray 36]) (B:=[bY B0 aA IC.2.2 γ14.1 γ14.2,I9 Jo IC.2.1,]) (hP.pick [2,3,4,0,1] rfl rfl) hq (fun b hb=>hb.elim (fun h=>⟨_,List.mem_cons_self ..,h⟩) fun h=>⟨_,List.mem_cons_of_mem _ (List.mem_singleton.2 rfl),h⟩)).pick [4,3,0,1,2] rfl rfl
   refine kM (.tuple #[v25,(.bool JE.2.1)]) r rfl rfl fun r=>aa v25 r (fun R=>bZ r (vs:=#[v25,(.bool JE.2.1)]) rfl rfl) rfl fun fr r=>aa (.bool JE.2.1) r (fun R=>bZ r (vs:=#[v25,(.bool JE.2.1)]) rfl rfl) rfl fun fr r=>?_;refine ah (.cells (kq aA) 41 (0,0)) r (fun R=>ag JD) rfl fun fr b28 w29 n30 r=>?_
   have hP:Post (fun b=>b∈Kz\/b∈(I9 Jo a1).own) [bY B0 aA JE.1 v25 F26,I9 Jo JE.2.2,ae b1 γ14.1.cells 41,ae b5 ((IV a2)).toArray 52,ae b9 ((ID (⟨0,0⟩:IM))).toArray 36,ae b28 (kq aA) 41] w0 w29:=hP.new n30
   refine kP r (hP.progz (i:=0) rfl).shape rfl rfl (hP.cell (i:=5) rfl) Ju rfl rfl fun w32 u33 r=>?_;have hP:Post (fun b=>b∈Kz\/b∈(I9 Jo a1).own) [bY B0 aA JE.1 v25 F26,I9 Jo JE.2.2,ae b1 γ14.1.cells 41,ae b5 ((IV a2)).toArray 52,ae b9 ((ID (⟨0,0⟩:IM))).toArray 36,ae b28 v25.cells 41] w0 w32:=hP.upd (i:=5) rfl u33
   refine kA (.bool JE.2.1) r rfl rfl fun r=>wn (d9 (I0 (kM (.bool JE.2.1) r rfl rfl fun r=>aa (.bool (!JE.2.1)) r (fun R=>JQ r (u:=(.bool JE.2.1)) rfl rfl) rfl fun fr r=>wn ?_)));refine q5 (t:=(!JE.2.1)) (r.ev rfl) (fun h34=>?_) (fun h34=>?_)
   ·
    have hD:=z7 (ar h34) hD;refine wp_exit ?_;obtain ⟨e1,e2⟩:=hsame (by simpa using h34)
    rw [e1,e2] at hP
    exact bky15 (IC.1,JE.2.2,IC.2.2) (γ14.1,F26) _ _ _ hD r (kO (kO (aq rfl (aq rfl aJ)))) (hP.pick [0,1,2,3,4] rfl rfl)
   have hD:=z7 (ai h34) hD;refine q7 (I0 (aa v25 r (fun R=>hU r (hP.progz (i:=0) rfl).shape rfl (hP.cell (i:=5) rfl) Jt) rfl fun fr r=>?_));refine kP r (hP.progz (i:=0) rfl).shape rfl rfl (hP.cell (i:=2) rfl) Ju (by have h:=hsh; simpa using h) rfl fun w35 u36 r=>?_
   have hP:Post (fun b=>b∈Kz\/b∈(I9 Jo a1).own) [bY B0 aA JE.1 v25 F26,I9 Jo JE.2.2,ae b1 v25.cells 41,ae b5 ((IV a2)).toArray 52,ae b9 ((ID (⟨0,0⟩:IM))).toArray 36,ae b28 v25.cells 41] w0 w35:=hP.upd (i:=2) rfl u36
   refine wn ?_;refine q6 (kM (I IC.1) r rfl rfl fun r=>kB r rfl rfl rfl rfl rfl fun r=>kA (I (W (IC.1+1))) r rfl rfl fun r=>wn ?_);exact nxy15 ((W (IC.1+1)),JE.2.2,JE.1) (v25,F26) _ _ _ hD r (kO (kO (aq rfl (aq rfl aJ)))) (hP.pick [0,1,2,3,4] rfl rfl)
  have hD:=z7 (ai h22) hD;refine wp_exit ?_;exact bky15 (IC.1,IC.2.1,IC.2.2) (γ14.1,γ14.2) _ _ _ hD r (kO (kO (aq rfl (aq rfl aJ)))) (hP.pick [0,1,2,3,4] rfl rfl)
 rintro JO γ38 fr w39 g r hP hD;have hP:Post (fun b=>b∈Kz\/b∈(I9 Jo a1).own) [bY B0 aA JO.2.2 γ38.1 γ38.2,I9 Jo JO.2.1,ae b1 γ38.1.cells 41,ae b5 ((IV a2)).toArray 52,ae b9 ((ID (⟨0,0⟩:IM))).toArray 36] w0 w39:=hP
 refine d9 ?_;refine jQ [b9] [.val (.pointer (some ⟨b1,1,none⟩)),.val (z6 (ID (T.res (⟨0,0⟩:IM) JO.2.2.2))),.val (I JO.1),.val (zp b1),.val (.bool JO.2.2.2.bC),.eff (KN w39.heap.size (ae b9 ((ID (T.res (⟨0,0⟩:IM) JO.2.2.2))).toArray 36) (fun _:Unit=>undef) (fun _:Unit=>[])) (KN.st _ _ _ _),.val (I JO.1),.val (.bool JO.2.2.2.bC)] mixed r (fun b hb=>hP.sep.lt (i:=4) rfl (.inl hb)) kz ?_ ?_
 ·
  refine cI r rfl kz (fun I2 g w' hb' hd r'=>?_) ?_
  · exact az r' (b:=b1) (o:=0) (k:=1) rfl EM bz
  refine cI r rfl kz (fun I2 g w' hb' hd r'=>?_) ?_
  · exact aU r' (cs:=(ID (T.res (⟨0,0⟩:IM) JO.2.2.2))) (n:=2) (hd 0 rfl).1 ((hP.z8 hb').cell (i:=2) rfl) ta36 (Jm.EQ (d:=(⟨0,0⟩:IM)) rfl ((hP.z8 hb').progz (i:=0) rfl)) bz
  refine aW r rfl (fun I2 g w' hk' hd r'=>?_) ?_
  · exact aw r' (v:=(I JO.1)) rfl bz
  refine aW r rfl (fun I2 g w' hk' hd r'=>?_) ?_
  · exact az r' (b:=b1) (o:=0) (k:=0) rfl rQ bz
  refine aW r rfl (fun I2 g w' hk' hd r'=>?_) ?_
  · exact ax r' (v:=(.bool JO.2.2.2.bC)) (hd 3 rfl).1 (hP.cellK (j:=4) rfl (drK hk') (i:=2) rfl rfl) to4 (Jm.jW (IK.zero (show IK _ _ _ _ _ _ _ from hP.okK (j:=4) rfl (drK hk') (i:=0) rfl rfl))) bz
  refine cI r rfl kz (fun I2 g w' hb' hd r'=>?_) ?_
  · exact bb r' (o:=0) (v:=(z6 (ID (T.res (⟨0,0⟩:IM) JO.2.2.2)))) rfl (hd 1 rfl).1 ((hP.z8 hb').cell (i:=4) rfl) ts36 u7 rfl rfl (fun w2 u2=>⟨u2.kept,(),rfl,u2.at_,(fun b hb=>hP.sep.lt (i:=4) rfl hb),lQ⟩)
  refine aW r rfl (fun I2 g w' hk' hd r'=>?_) ?_
  · exact cZ r' (v:=(I JO.1)) (hd 2 rfl).1 bz
  refine aW r rfl (fun I2 g w' hk' hd r'=>?_) ?_
  · exact cZ r' (v:=(.bool JO.2.2.2.bC)) (hd 4 rfl).1 bz
  exact bU
 intro fr gg w40 hb Iz hap r;obtain ⟨⟨⟩,g5,hcE,_,hs5⟩:=(Iz 5 rfl).1;have r:=r.congr (sc ((Iz 7 rfl).1) (sc ((Iz 6 rfl).1) (sc ((Iz 4 rfl).1) (sc ((Iz 3 rfl).1) (sc ((Iz 2 rfl).1) (sc ((Iz 1 rfl).1) (sc ((Iz 0 rfl).1) rfl)))))));have hP:Post (fun b=>b∈Kz\/b∈(I9 Jo a1).own) [bY B0 aA JO.2.2 γ38.1 γ38.2,I9 Jo JO.2.1,ae b1 γ38.1.cells 41,ae b5 ((IV a2)).toArray 52,ae b9 ((ID (T.res (⟨0,0⟩:IM) JO.2.2.2))).toArray 36] w0 w40:=hP.effL (i:=4) (l:=[]) rfl hb hcE rfl rfl trivial
 refine q4 ?_;have hv:((T.res (⟨0,0⟩:IM) JO.2.2.2),JO.1,JO.2.2.2.bC,JO.2.1)=res:=Option.some.inj hD
 try dsimp only [Exit.then,Exit.inBlock]
 refine nK (fn:=Tryz.f29) r rfl rfl (v':=(I JO.1)) (v2:=(.bool JO.2.2.2.bC)) rfl rfl (hP.cell (i:=4) rfl) (k:=2) rfl ta36 ?_;subst hv;exact ⟨rfl,(hP.pick [1] rfl rfl).done (dg rfl cG)⟩
theorem cl42:af B0 42:=kz
theorem is82:isSlice B0 82:=kz
theorem rt82:rowTy B0 82 104 2:=kz
def D.lC (fu:Nat) (a0:Plan) (a1:Mem) (a2:Int) (a3:Int):Option (List Entry):=((D.gJ fu a1 a2 a3).bind (fun (x5:Int)=>(loopThen (fun (x8:List Entry × Int × Int)=>(Option.bind (bif (decide (x8.2.2<a0.nodes)) then (some (decide ((D.aX x8.2.1)>=0))) else (some false)) (fun (JP:Bool)=>(bif JP then ((D.gJ fu a1 a2 (D.bo a0 (D.aX x8.2.1) 2)).bind (fun (Jh:Int)=>(Option.bind (bif ((cL .u64 Jh 1)==0) then ((D.gJ fu a1 a2 (D.bo a0 (D.aX x8.2.1) 0)).bind (fun (x25:Int)=>((D.gJ fu a1 a2 (D.bo a0 (D.aX x8.2.1) 1)).bind (fun (Ky:Int)=>((JW x8.1 ([(⟨x25,Ky⟩:Entry)])).bind (fun (x30:List Entry)=>(some x30))))))) else (some x8.1)) (fun (x34:List Entry)=>(some (Lp.next (x34,Jh,(IntKind.i64.wrap (x8.2.2+1))))))))) else (some (Lp.brk (x8.1,x8.2.1,x8.2.2))))))) fu ([],x5,0) (fun (JO:List Entry × Int × Int)=>(some JO.1)))))
theorem BF {fu:Nat} (w0:World) (a0:Plan) {Jo:MG} (a1:Mem) (a1h:JX Jo a1 w0) (a2:Int) (a3:Int) {res:List Entry} (hD:D.lC fu a0 a1 a2 a3=some res) :
    Calls B0 42 #[z6 (ac a0),zp Jo.mb,.int .i64 a2,.int .i64 a3] w0 (fun e w'=>∃ (v0:Value),e=.returned v0/\Kv No No [II 104 2 aI v0 res] w0 w'):=by
 refine enter Tryz.func42 rfl 56 rfl rfl fun fr r=>?_;have hP:Post No [] w0 w0:=Post.nil w0
 have hP:Post No [memR Jo a1] w0 w0:=hP.addRo bg a1h rfl a1h.lt;unfold D.lC at hD
 refine I0 ?_;refine kX 23 (z6 (ac a0)) r rfl rfl fun b1 w2 n3 r=>?_;have hP:Post No [_,ae b1 ((ac a0)).toArray 23] w0 w2:=hP.new n3
 refine kA kS r rfl rfl fun r=>wn (I0 (kA kS r rfl rfl fun r=>wn (I0 (kM (zp Jo.mb) r rfl rfl fun r=>kM (I a2) r rfl rfl fun r=>kM (I a3) r rfl rfl fun r=>?_))));obtain ⟨x5,hx5,hD⟩:=aG hD
 refine kE r (mR w2 a1 (hP.Le (i:=0) rfl) a2 a3 hx5) rfl cl21 rfl fun w6 hb r=>?_;have hP:=hP.below hb
 refine kA (U x5) r rfl rfl fun r=>wn (d9 (I0 (kA (I 0) r rfl rfl fun r=>wn ?_)));have hP:Post No [_,_,II 104 2 aI kS ([])] w0 w6:=hP.nilRow 104 2 aI
 refine dV (X:=List Entry × Int × Int) (G:=Value) (x0:=([],x5,0)) (fun x γ=>[(0,(z6 (ac a0))),(1,(zp Jo.mb)),(2,(I a2)),(3,(I a3)),(4,(zp b1)),(8,kS),(9,γ),(10,(U x.2.1)),(11,(I x.2.2))]) (fun x γ w=>Post No [memR Jo a1,ae b1 ((ac a0)).toArray 23,II 104 2 aI γ x.1] w0 w) kS r (kO (kO (aq rfl aJ))) hP hD ?_ ?_
 ·
  rintro x8 γ9 fr JV g y10 RPy10 nxy10 bky10 rty10 r hP hD;have hP:Post No [_,_,_] w0 JV:=hP;refine d9 (d9 ?_);refine cR (N:=56) (Y:=Bool) (G:=Unit) (fun x γ=>[(0,(z6 (ac a0))),(1,(zp Jo.mb)),(2,(I a2)),(3,(I a3)),(4,(zp b1)),(8,kS),(9,γ9),(10,(U x8.2.1)),(11,(I x8.2.2)),(25,(.bool x))]) (fun x γ w=>Post No [memR Jo a1,ae b1 ((ac a0)).toArray 23,II 104 2 aI γ9 x8.1] w0 w) hD ?_ ?_
  ·
   rintro y12 RPy12 nxy12 hD;refine q6 (kM (I x8.2.2) r rfl rfl fun r=>kF 0 r rfl eR rfl fun r=>kL (I a0.nodes) r rfl (hP.cell (i:=1) rfl) IL rfl rfl fun r=>kB r rfl rfl rfl rfl rfl fun r=>kM (.bool (decide (x8.2.2<a0.nodes))) r rfl rfl fun r=>?_);refine bG (decide (x8.2.2<a0.nodes)) (fun J6=>?_) (fun J6=>?_)
   ·
    have hD:=z7 (ar J6) hD;refine s1 r J6 (kM (U x8.2.1) r rfl rfl fun r=>s1 r J6 ?_);refine kE r (fU JV x8.2.1) rfl cl88 rfl fun w14 hb r=>?_
    have hP:=hP.below hb;refine s1 r J6 (kB r rfl rfl rfl rfl rfl fun r=>aa (.bool (decide ((D.aX x8.2.1)>=0))) r (fun R=>ay r (b:=true) (kb J6) rfl) rfl fun fr r=>wn ?_);exact nxy12 (decide ((D.aX x8.2.1)>=0)) () _ _ _ hD r (kO (kO (aq rfl (aq rfl aJ)))) (hP.pick [0,1,2] rfl rfl)
   have hD:=z7 (ai J6) hD;refine s0 r J6 fun fr r=>s0 r J6 fun fr r=>s0 r J6 fun fr r=>aa (.bool false) r (fun R=>ay r (b:=false) (kb J6) rfl) rfl fun fr r=>wn ?_;exact nxy12 false () _ _ _ hD r (kO (kO (aq rfl (aq rfl aJ)))) (hP.pick [0,1,2] rfl rfl)
  rintro JP γ16 fr w17 g r hP hD;have hP:Post No [_,_,_] w0 w17:=hP;refine q5 (t:=JP) (r.ev rfl) (fun K4=>?_) (fun K4=>?_)
  ·
   have hD:=z7 (ar K4) hD;refine q7 (d9 (wp_block (I0 (kM (U x8.2.1) r rfl rfl fun r=>?_))));refine kE r (fU w17 x8.2.1) rfl cl88 rfl fun w19 hb r=>?_
   have hP:=hP.below hb;refine kA (I (D.aX x8.2.1)) r rfl rfl fun r=>wn (I0 (kM (zp Jo.mb) r rfl rfl fun r=>kM (I a2) r rfl rfl fun r=>kG (ac a0) 6 r rfl (hP.cell (i:=1) rfl) IJ rfl rfl fun r=>kM (I (D.aX x8.2.1)) r rfl rfl fun r=>?_));refine kE r (eB w19 a0 (D.aX x8.2.1) 2) rfl cl89 rfl fun w20 hb r=>?_
   have hP:=hP.below hb;obtain ⟨Jh,hx21,hD⟩:=aG hD;refine kE r (mR w20 a1 (hP.Le (i:=0) rfl) a2 (D.bo a0 (D.aX x8.2.1) 2) hx21) rfl cl21 rfl fun w22 hb r=>?_;have hP:=hP.below hb
   refine kA (U Jh) r rfl rfl fun r=>wn (I0 (kM (U Jh) r rfl rfl fun r=>kB r rfl rfl rfl rfl rfl fun r=>kB r rfl rfl rfl rfl rfl fun r=>wn ?_));refine cR (N:=56) (Y:=List Entry) (G:=Value) (fun x γ=>[(0,(z6 (ac a0))),(1,(zp Jo.mb)),(2,(I a2)),(3,(I a3)),(4,(zp b1)),(8,kS),(10,(U Jh)),(11,(I x8.2.2)),(25,(.bool JP)),(12,(I (D.aX x8.2.1))),(38,(.bool ((cL .u64 Jh 1)==0))),(9,γ)]) (fun x γ w=>Post No [memR Jo a1,ae b1 ((ac a0)).toArray 23,II 104 2 aI γ x] w0 w) hD ?_ ?_
   ·
    rintro y23 RPy23 nxy23 hD;refine q5 (t:=((cL .u64 Jh 1)==0)) (r.ev rfl) (fun h24=>?_) (fun h24=>?_)
    ·
     have hD:=z7 (ar h24) hD;obtain ⟨x25,hx25,hD⟩:=aG hD;obtain ⟨Ky,hx26,hD⟩:=aG hD;refine oG 15 [.val γ9,.val (zp Jo.mb),.val (I a2),.val (z6 (ac a0)),.val (I (D.aX x8.2.1)),.val (I (D.bo a0 (D.aX x8.2.1) 0)),.val (U x25),.val (zp Jo.mb),.val (I a2),.val (z6 (ac a0)),.val (I (D.aX x8.2.1)),.val (I (D.bo a0 (D.aX x8.2.1) 1)),.val (U Ky),.val (z6 (aI (⟨x25,Ky⟩:Entry))),.pred (MkP (fun v:Value=>v) (fun v:Value=>[II 104 2 aI v ([(⟨x25,Ky⟩:Entry)])])) (MkP.st _ _)] mixed r kz ?_ ?_
     ·
      refine fc r (fun I2 g w' hb' hd r'=>aw r' rfl bz) ?_;refine fc r (fun I2 g w' hb' hd r'=>aw r' rfl bz) ?_
      refine fc r (fun I2 g w' hb' hd r'=>aw r' rfl bz) ?_;refine fc r (fun I2 g w' hb' hd r'=>aU r' (cs:=(ac a0)) (n:=6) rfl ((hP.z8 hb').cell (i:=1) rfl) IJ rfl bz) ?_
      refine fc r (fun I2 g w' hb' hd r'=>aw r' rfl bz) ?_;refine fc r (fun I2 g w' hb' hd r'=>aN r' (args:=[(z6 (ac a0)),(I (D.aX x8.2.1)),(I 0)]) (lc (hd 3 rfl).1 (lc (hd 4 rfl).1 (lc rfl l0))) cl89 ((eB _ a0 (D.aX x8.2.1) 0).mono JL)) ?_
      refine fc r (fun I2 g w' hb' hd r'=>aN r' (args:=[(zp Jo.mb),(I a2),(I (D.bo a0 (D.aX x8.2.1) 0))]) (lc (hd 1 rfl).1 (lc (hd 2 rfl).1 (lc (hd 5 rfl).1 l0))) cl21 ((mR _ a1 ((hP.z8 hb').Le (i:=0) rfl) a2 (D.bo a0 (D.aX x8.2.1) 0) hx25).mono JL)) ?_;refine fc r (fun I2 g w' hb' hd r'=>aw r' rfl bz) ?_
      refine fc r (fun I2 g w' hb' hd r'=>aw r' rfl bz) ?_;refine fc r (fun I2 g w' hb' hd r'=>aU r' (cs:=(ac a0)) (n:=6) rfl ((hP.z8 hb').cell (i:=1) rfl) IJ rfl bz) ?_
      refine fc r (fun I2 g w' hb' hd r'=>aw r' rfl bz) ?_;refine fc r (fun I2 g w' hb' hd r'=>aN r' (args:=[(z6 (ac a0)),(I (D.aX x8.2.1)),(I 1)]) (lc (hd 9 rfl).1 (lc (hd 10 rfl).1 (lc rfl l0))) cl89 ((eB _ a0 (D.aX x8.2.1) 1).mono JL)) ?_
      refine fc r (fun I2 g w' hb' hd r'=>aN r' (args:=[(zp Jo.mb),(I a2),(I (D.bo a0 (D.aX x8.2.1) 1))]) (lc (hd 7 rfl).1 (lc (hd 8 rfl).1 (lc (hd 11 rfl).1 l0))) cl21 ((mR _ a1 ((hP.z8 hb').Le (i:=0) rfl) a2 (D.bo a0 (D.aX x8.2.1) 1) hx26).mono JL)) ?_;refine fc r (fun I2 g w' hb' hd r'=>eQ r' (v:=(z6 (aI (⟨x25,Ky⟩:Entry)))) (bs2 (congrArg (fun z=>(0,z)) (hd 6 rfl).1) (congrArg (fun z=>(1,z)) (hd 12 rfl).1) kz) bz) ?_
      refine fc r (fun I2 g w' hb' hd r'=>cJ r' (c:=(([(⟨x25,Ky⟩:Entry)]).flatMap aI).toArray) (E:=104) (bs1 (congrArg (fun z=>(0,z)) (hd 13 rfl).1) kz) (fun b w2 n2=>⟨n2.below,MkP.newRow n2 (fun _=>rfl) rfl⟩)) ?_;exact bU
     intro fr gg w29 hb Iz hap r;obtain ⟨v27,g14,hs14⟩:=(Iz 14 rfl).1;have r:=r.congr (sc g14 (sc ((Iz 13 rfl).1) (sc ((Iz 12 rfl).1) (sc ((Iz 11 rfl).1) (sc ((Iz 10 rfl).1) (sc ((Iz 9 rfl).1) (sc ((Iz 8 rfl).1) (sc ((Iz 7 rfl).1) (sc ((Iz 6 rfl).1) (sc ((Iz 5 rfl).1) (sc ((Iz 4 rfl).1) (sc ((Iz 3 rfl).1) (sc ((Iz 2 rfl).1) (sc ((Iz 1 rfl).1) (sc ((Iz 0 rfl).1) rfl)))))))))))))));have hP:Post No [_,_,_,II 104 2 aI v27 ([(⟨x25,Ky⟩:Entry)])] w0 w29:=hP.addL (l:=[([II 104 2 aI v27 ([(⟨x25,Ky⟩:Entry)])],(gg 14).lo,(gg 14).hi)]) hb ⟨hs14,(Iz 14 rfl).2.1,da,trivial⟩;obtain ⟨x30,hx30,hD⟩:=aG hD;refine dR 104 2 aI γ9 r (fun R=>dN r rt82 (fun _=>rfl) (fun _=>rfl) (hP.row (i:=2) rfl) (hP.row (i:=3) rfl).ro hx30 rfl rfl) rfl fun fr v31 w32 ha33 r=>?_;have hP:Post No [_,_,II 104 2 aI v31 x30,_] w0 w32:=hP.append (i:=2) rfl ha33
     refine kA v31 r rfl rfl fun r=>wn ?_;exact nxy23 x30 v31 _ _ _ hD r (kO (kO (kO aJ))) (hP.pick [0,1,2] rfl rfl)
    have hD:=z7 (ai h24) hD;refine q7 ?_;exact nxy23 x8.1 γ9 _ _ _ hD r (kO (kO (kO aJ))) (hP.pick [0,1,2] rfl rfl)
   rintro x34 γ35 fr w36 g r hP hD;have hP:Post No [_,_,_] w0 w36:=hP;refine q6 (kM (I x8.2.2) r rfl rfl fun r=>kB r rfl rfl rfl rfl rfl fun r=>kA (I (W (x8.2.2+1))) r rfl rfl fun r=>wn ?_);exact nxy10 (x34,Jh,(W (x8.2.2+1))) γ35 _ _ _ hD r (kO (kO (aq rfl aJ))) (hP.pick [0,1,2] rfl rfl)
  have hD:=z7 (ai K4) hD;refine wp_exit ?_;exact bky10 (x8.1,x8.2.1,x8.2.2) γ9 _ _ _ hD r (kO (kO (aq rfl aJ))) (hP.pick [0,1,2] rfl rfl)
 rintro JO γ38 fr w39 g r hP hD;have hP:Post No [_,_,_] w0 w39:=hP;refine I0 (kM γ38 r rfl rfl fun r=>kA γ38 r rfl rfl fun r=>wn (q4 ?_));have hv:JO.1=res:=Option.some.inj hD
 try dsimp only [Exit.then,Exit.inBlock]
 refine aT (fn:=Tryz.f42) r (t:=8) rfl (v:=γ38) rfl ?_;subst hv;exact ⟨γ38,rfl,(hP.pick [2] rfl rfl).done (dg rfl cG)⟩
theorem chgNil' {w w':World} (h:Jd (fun b=>b∈([]:List Nat)) w w'):Below w.heap.size w w':=⟨h.os,h.tape,h.output,h.size,fun b hb=>h.block b hb fun h=>by cases h⟩
section
variable {α : Type} {P : Program} {T : TypeId} {sz : Nat} {f : α -> List Value} {v : Value} {xs ys zs : List α} {w w' w0 : World} {B lo hi : Nat}
def AppQ (B:Nat) (T:TypeId) (sz:Nat) (f:α->List Value) (zs:List α):Value->Nat->Nat->World->Prop:=fun v _ _ w=>cx T sz f v zs w/\∀ b,b∈rowBs v->B<=b
theorem AppQ.st:∀ v lo hi w1 w2,AppQ B T sz f zs v lo hi w1->KeptW B (fun _=>False) w1 w2->AppQ B T sz f zs v lo hi w2:=by
 rintro v lo hi w1 w2 ⟨h1,h2⟩ ⟨_,_,_,_,hk⟩;exact ⟨h1.st fun b hb=>hk b (h1.lt b hb) fun _ h=>h,h2⟩
theorem AppQ.fresh (h:AppQ w.heap.size T sz f zs v lo hi w'):cy [II T sz f v zs] w.heap.size w'.heap.size w':=
 ⟨j4 h.1,fun c hc b hb=>by
  rcases List.mem_singleton.1 hc with rfl
  rcases hb with hb | hb
  ·exact ⟨h.2 b hb,h.1.lt b hb⟩
  ·cases hb⟩
theorem vw {a:Act} {d:Option Tmp} {ty:TypeId} {pos:String} {Ki:Array Edge} {N:Nat} {s:SL} (Jb:Fr a N s) {x y:Operand} {t:TypeId} {v2:Value} {g:Nat->Gh} {j:Nat} (hT:rowTy P t T sz=true) (hf:∀ x,(f x).length=sz) (h1:∀ x,(f x).all Value.oneCell'=true)
  (hm:MkP (fun y:Value=>y) (fun y=>[II T sz f y xs]) (g j).v (g j).lo (g j).hi w) (hlo:B<=(g j).lo) (hB:B<=w.heap.size) (Jz:I1 T sz f v2 ys w) (hz:JW xs ys=some zs) (hx:lookO s x=(g j).v) (hy:lookO s y=v2) :
  Yields P ⟨d,.call ⟨.builtin .append,#[x,y],#[t,t]⟩,ty,pos,Ki,none⟩ a w fun v' w'=>Kept w.heap.size (fun b=>b∈([]:List Nat)\/∃ k,k∈[j]/\(g k).lo<=b/\b<(g k).hi) 0 0 w w'/\AppQ B T sz f zs v' w.heap.size w'.heap.size w':=by
 obtain ⟨y',hy',hs,hb⟩:=hm;have hr:cx T sz f (g j).v xs w:=by rw [hy']; exact hs.1
 have hin:∀ b,b∈rowBs (g j).v->(g j).lo<=b/\b<(g j).hi:=fun b hb'=>hb _ (List.mem_singleton.2 rfl) b (.inl (by rw [hy'] at hb'; exact hb'))
 refine dN Jb hT hf h1 hr Jz hz hx hy fun v' w' ha=>⟨⟨ha.2.1.os,ha.2.1.tape,ha.2.1.output,ha.2.1.size,fun b hb=>?_⟩,ha.1,fun b hb=>?_⟩
 ·rcases hb with hb | hb
  ·exact ha.2.1.block b hb.1 fun hz=>hb.2 (.inr ⟨j,List.mem_singleton.2 rfl,hin b hz⟩)
  ·omega
 ·rcases ha.2.2 b hb with h | h
  ·have:=hin b h; omega
  ·omega
end
end Go.Proofs.YtbbipmelhmgmfaaGreat

/- Some of our texts, one behind the other. -/
import Derived.Test.YtbbipmelhmgmfaaGreatLzM22
import Derived.Test.YtbbipmelhmgmfaaGreatLzM17
import Derived.Test.YtbbipmelhmgmfaaGreatLzRefs12
import Derived.Test.YtbbipmelhmgmfaaGreatLzLListp
import Derived.Test.YtbbipmelhmgmfaaGreatLzMem
set_option linter.all false
set_option maxRecDepth 100000
set_option maxHeartbeats 20000000
/- Ours. -/
namespace Go.Proofs.YtbbipmelhmgmfaaGreat
open Go.RowKit
def heldF (H:List Bool) (n:Int):Bool:=bif decide (n≥0) then (bif decide (n<(H.length:Int)) then (H[n.toNat]?).getD false else false) else false
theorem C4 {fu:Nat} {r:List Int} {H:List Bool} (h:r.length≤1000) (hf:2000≤fu):D.kp fu r H=some (cm (heldF H) r.length r):=by
 unfold D.kp;have ha:appD ([]:List Int) r=some r:=by unfold appD; rw [if_pos (by simp [lO]; omega)]; rfl
 rw [ha]
 simp only [Option.bind_some]
 have key:∀ (k:Nat) (left out:List Int) (q:Nat),k≤left.length→left.length≤1000→out.length+k≤1000→k<q→
   (runLoop (fun (x10:List Int × List Int × Int)=>(bif (decide (x10.2.2≥0)) then ((getI x10.1 x10.2.2).bind (fun (x15:Int)=>(Option.bind (bif (decide (x15≥0)) then (bif (decide (x15<(H.length:Int))) then ((getI H x15).bind (fun (x19:Bool)=>(some x19))) else (some false)) else (some false)) (fun (x20:Bool)=>(bif x20 then (some (Lp.next (x10.1,x10.2.1,(IntKind.i64.wrap (x10.2.2 - 1))))) else ((appD x10.2.1 ([x15])).bind (fun (x28:List Int)=>((getI x10.1 (IntKind.i64.wrap ((x10.1.length:Int) - 1))).bind (fun (x32:Int)=>((getI x10.1 x10.2.2).bind (fun (x33:Int)=>((cz (x10.1.set x10.2.2.toNat x32) 0 (IntKind.i64.wrap (((x10.1.set x10.2.2.toNat x32).length:Int) - 1))).bind (fun (x36:List Int)=>(some (Lp.next (x36,x28,(IntKind.i64.wrap (x10.2.2 - 1)))))))))))))))))) else (some (Lp.brk (Z:=List Int × List Int) (x10.1,x10.2.1,x10.2.2))))) q (left,out,(k:Int) - 1)).bind (afterLoop fun (x37:List Int × List Int × Int)=>(some (x37.1,x37.2.1)))=some ((cm (heldF H) k left).1,out++(cm (heldF H) k left).2):=by
  intro k
  induction k with
  | zero=>
   intro left out q _ _ _ hq;obtain ⟨q,rfl⟩:∃ z,q=z+1:=⟨q - 1,kw⟩
   simp only [runLoop]
   rw [show decide (((0:Nat):Int) - 1≥0)=false from rfl]
   simp [goOn,afterLoop,cm]
  | succ k ih=>
   intro left out q hk hl ho hq;obtain ⟨q,rfl⟩:∃ z,q=z+1:=⟨q - 1,kw⟩
   have hk':k<left.length:=hk;simp only [runLoop];rw [show ((k+1:Nat):Int) - 1=(k:Int) from kw,show decide ((k:Int)≥0)=true from by rw [decide_eq_true_eq]; omega,gP hk',bW (show -1000000≤(k:Int) - 1 by omega) kw]
   simp only [cond_true,Option.bind_some]
   have hh:(bif (decide (left[k]≥0)) then (bif (decide (left[k]<(H.length:Int))) then ((getI H left[k]).bind (fun (x19:Bool)=>(some x19))) else (some false)) else (some false))=some (heldF H left[k]):=by
    unfold heldF;cases h1:decide (left[k]≥0)
    ·rfl
    cases h2:decide (left[k]<(H.length:Int))
    ·rfl
    simp only [decide_eq_true_eq] at h1 h2
    obtain ⟨m,hm⟩:∃ m:Nat,left[k]=(m:Int):=⟨left[k].toNat,kw⟩
    have hml:m<H.length:=kw
    simp only [cond_true]
    rw [hm,gP hml,Int.toNat_natCast,List.getElem?_eq_getElem hml]
    rfl
   rw [hh]
   simp only [Option.bind_some,cm,List.getElem?_eq_getElem hk']
   cases hc:heldF H left[k]
   ·have hap:appD out [left[k]]=some (out++[left[k]]):=by unfold appD; rw [if_pos (by simp only [lO,List.length_singleton]; omega)]
    have hlast:getI left (IntKind.i64.wrap ((left.length:Int) - 1))=some ((left.getLast?).getD 0):=by
     rw [bW kw kw,show (left.length:Int) - 1=((left.length - 1:Nat):Int) from kw,gP kw,List.getLast?_eq_getElem?,List.getElem?_eq_getElem kw]
     rfl
    have hsl:cz (left.set (k:Int).toNat ((left.getLast?).getD 0)) 0 (IntKind.i64.wrap (((left.set (k:Int).toNat ((left.getLast?).getD 0)).length:Int) - 1))=some (left.set k ((left.getLast?).getD 0)).dropLast:=by
     rw [Int.toNat_natCast,List.length_set,bW kw kw]
     unfold cz;rw [if_pos yaF,List.dropLast_eq_take];simp only [List.length_set,Int.toNat_zero,List.drop_zero,Nat.sub_zero]
     congr 2
     omega
    simp only [cond_false,hap,Option.bind_some,hlast,hsl,goOn,Bool.false_eq_true,if_false]
    rw [ih _ _ q yaq yaq yaq kw]
    simp
   ·simp only [cond_true,goOn,if_true,Option.bind_some]
    exact ih left out q kw hl kw kw
 unfold loopThen;have hw:IntKind.i64.wrap ((r.length:Int) - 1)=(r.length:Int) - 1:=bW kw kw;rw [hw];have:=key r.length r [] fu (Nat.le_refl _) h yaq kw;rw [List.nil_append] at this
 exact this
structure PR (N:Int) (P:Pool) (g:List Int) (o:List Bool):Prop where
 gl:(g.length:Int)=N
 ol:(o.length:Int)=N
 gen:∀ n,0≤n→n<N→rd g n=(P.st n).gen
theorem dl {α:Type} {a b:List α} (h:a.length+b.length≤1000000):appD a b=some (a++b):=by
 unfold appD; rw [if_pos (by simp only [lO]; omega)]
theorem PR.back {N m n:Int} {P:Pool} {g:List Int} {o o':List Bool} (h:PR N P g o) (hn:0≤n∧n<N) (ho:o'.length=o.length):PR N (P.back m n) (if (P.st n).gen≥m then g else g.set n.toNat (IntKind.i64.wrap ((P.st n).gen+1))) o':=by
 have hgl:=h.gl;refine ⟨by split <;> simp [hgl],by rw [ho]; exact h.ol,fun q q0 q1=>?_⟩
 show rd _ q=(if q=n then D.bP (P.st n) m else P.st q).gen
 unfold D.bP
 by_cases hm:(P.st n).gen≥m
 ·rw [if_pos hm,show decide ((P.st n).gen≥m)=true from decide_eq_true hm,cond_true,h.gen q q0 q1]
  split
  ·rename_i e; rw [e]
  ·rfl
 ·rw [if_neg hm,show decide ((P.st n).gen≥m)=false from decide_eq_false hm,cond_false,bU hn.1 kw q0]
  split
  ·rfl
  ·exact h.gen q q0 q1
theorem uT {fu:Nat} {N m n room:Int} {P:Pool} {rt g:List Int} {o:List Bool} (h:PR N P g o) (hn:0≤n∧n<N) (hN:N≤1000) (hf:P.fr.length≤100000) :
  ∃ g' o',D.j4 fu P.fr rt room g o m n=some ((P.back m n).fr,rt,room,g',o',m)∧PR N (P.back m n) g' o':=by
 have hgl:=h.gl;have hol:=h.ol;have e1:getI g n=some ((P.st n).gen):=by rw [gU hn.1 kw,h.gen n hn.1 hn.2]
 unfold D.j4;rw [dl (a:=([]:List Int)) (b:=g) yaq,dl (a:=([]:List Bool)) (b:=o) yaq];simp only [Option.bind_some,List.nil_append];rw [e1];simp only [Option.bind_some]
 by_cases hm:(P.st n).gen≥m
 ·rw [show decide ((P.st n).gen≥m)=true from decide_eq_true hm]
  obtain ⟨b,hb⟩:∃ b,getI o n=some b:=by
   unfold getI;rw [if_pos hn.1];exact ⟨_,List.getElem?_eq_getElem kw⟩
  rw [hb]
  simp only [cond_true,Option.bind_some]
  refine ⟨g,o.set n.toNat true,?_,?_⟩
  ·have:(P.back m n).fr=P.fr:=by
    unfold Pool.back D.bP;rw [show decide ((P.st n).gen≥m)=true from decide_eq_true hm]
    rfl
   rw [this]
  ·have:=h.back (m:=m) (o':=o.set n.toNat true) hn yar
   rwa [if_pos hm] at this
 ·rw [show decide ((P.st n).gen≥m)=false from decide_eq_false hm,dl (a:=[n]) (b:=P.fr) yaq]
  simp only [cond_false,Option.bind_some]
  refine ⟨g.set n.toNat (IntKind.i64.wrap ((P.st n).gen+1)),o,?_,?_⟩
  ·have:(P.back m n).fr=[n]++P.fr:=by
    unfold Pool.back D.bP;rw [show decide ((P.st n).gen≥m)=false from decide_eq_false hm]
    rfl
   rw [this]
  ·have:=h.back (m:=m) (o':=o) hn rfl
   rwa [if_neg hm] at this
theorem Cl:heldF []=fun _=>false:=by
 funext n
 unfold heldF;cases h:decide (n≥0)
 ·rfl
 ·have:decide (n<(([]:List Bool).length:Int))=false:=by simp only [decide_eq_true_eq] at h; simp; omega
  rw [this]; rfl
theorem o5 (m:Int):∀ (l:List Int) (P:Pool),(l.foldl (Pool.back m) P).fr.length≤P.fr.length+l.length
 | [],_=>Nat.le_add_right _ _
 | n::l,P=>by
  rw [List.foldl_cons]
  have h1:=o5 m l (P.back m n);have h2:(P.back m n).fr.length≤P.fr.length+1:=by
   show (if _ then P.fr else n::P.fr).length≤_
   split <;> simp
  simp only [List.length_cons]
  omega
theorem vp {fu:Nat} {N m room:Int} {P:Pool} {g:List Int} {o:List Bool} (h:PR N P g o) (hr:∀ n,n∈P.rt→0≤n∧n<N) (hN:N≤1000) (hf:P.fr.length≤1000) (hl:P.rt.length≤1000) (hfu:2000≤fu) :
  ∃ g' o',D.j5 fu P.fr P.rt room g o m=some ((P.scan m).fr,[],room,g',o',m)∧PR N (P.scan m) g' o':=by
 unfold D.j5;rw [C4 hl hfu,Cl,nQ _ _ rfl];simp only [Option.bind_some];refine jE (fun z=>∃ g' o',z=some ((P.scan m).fr,[],room,g',o',m)∧PR N (P.scan m) g' o')
  (fun (i:Nat) (x:Int × List Int × List Int × Int × List Int × List Bool × Int)=>∃ g' o',x=((i:Int),((P.rt.reverse.take i).foldl (Pool.back m) ⟨P.fr,[],P.st⟩).fr,[],room,g',o',m)∧PR N ((P.rt.reverse.take i).foldl (Pool.back m) ⟨P.fr,[],P.st⟩) g' o')
  P.rt.reverse.length fu ⟨g,o,rfl,h.gl,h.ol,h.gen⟩ yaq ?_ ?_
 ·rintro i x hi ⟨g1,o1,rfl,hp⟩
  simp only
  have hb:=o5 m (P.rt.reverse.take i) ⟨P.fr,[],P.st⟩;rw [show decide ((i:Int)<(P.rt.reverse.length:Int))=true from by rw [decide_eq_true_eq]; omega,gP hi,bW (show -1000000≤(i:Int)+1 by omega) (by simp at hi; omega)]
  simp only [cond_true,Option.bind_some]
  have hm:=hr _ (List.mem_reverse.1 (List.getElem_mem hi));obtain ⟨g2,o2,e2,hp2⟩:=uT (fu:=fu) (m:=m) (room:=room) (rt:=[]) hp hm hN (by simp only [List.length_take] at hb; simp at hi; omega)
  rw [e2]
  simp only [Option.bind_some]
  have ht:P.rt.reverse.take (i+1)=P.rt.reverse.take i++[P.rt.reverse[i]]:=by rw [List.take_succ_eq_append_getElem hi]
  refine ⟨_,rfl,g2,o2,?_,by rw [ht,List.foldl_append]; exact hp2⟩
  rw [ht,List.foldl_append]
  simp
 ·rintro x ⟨g1,o1,rfl,hp⟩
  simp only
  rw [show decide ((P.rt.reverse.length:Int)<(P.rt.reverse.length:Int))=false from by simp]
  refine ⟨_,rfl,?_⟩;rw [List.take_length] at hp ⊢
  exact ⟨g1,o1,rfl,hp⟩
theorem DI {p:Plan} (hp:PF p) (hnn:p.nodes≤1000) {room m:Int} {fu:Nat} (hfu:2000≤fu):∃ g o,D.kx fu p.nodes room m=some (allN p,[],room,g,o,m)∧PR p.nodes ⟨allN p,[],fun _=>⟨0,0,0⟩⟩ g o:=by
 have hn1:=hp.n1;have hmk:∀ {α:Type} (z:α),makeD z p.nodes=some (List.replicate p.nodes.toNat z):=fun z=>by unfold makeD; rw [if_pos kw]
 unfold D.kx;rw [hmk,hmk];simp only [Option.bind_some];refine jE (fun z=>∃ g o,z=some (allN p,[],room,g,o,m)∧PR p.nodes ⟨allN p,[],fun _=>⟨0,0,0⟩⟩ g o)
  (fun (i:Nat) (x:Int × List Int)=>x=((i:Int),(List.range' 0 i).map fun (q:Nat)=>(q:Int))) p.nodes.toNat fu rfl kw ?_ ?_
 ·rintro i x hi rfl
  simp only
  rw [show decide ((i:Int)<p.nodes)=true from by rw [decide_eq_true_eq]; omega,dl yaq,bW (show -1000000≤(i:Int)+1 by omega) kw]
  refine ⟨_,rfl,?_⟩;rw [List.range'_concat];simp
 ·rintro x rfl
  simp only
  rw [show decide (((p.nodes.toNat:Nat):Int)<p.nodes)=false from by rw [decide_eq_false_iff_not]; omega]
  refine ⟨_,rfl,List.replicate p.nodes.toNat 0,List.replicate p.nodes.toNat false,rfl,by simp; omega,by simp; omega,fun n n0 n1=>?_⟩
  unfold rd;rw [List.getD_eq_getElem?_getD,List.getElem?_replicate,if_pos kw]
  rfl
theorem vP {fu:Nat} {N m room k:Int} {Q:Pool} {g:List Int} {o:List Bool} (h:PR N Q g o) (hr:∀ n,n∈Q.fr→0≤n∧n<N) (hf:Q.fr.length≤1000) (hN:N≤1000) :
  ∃ g' o',(bif ((Q.fr.length:Int)==0) then (some (Q.fr,Q.rt,room,g,o,m,(-1),0)) else ((getI Q.fr 0).bind (fun (x33:Int)=>((cz Q.fr 1 (Q.fr.length:Int)).bind (fun (x38:List Int)=>((appD ([]:List Int) x38).bind (fun (x39:List Int)=>((getI g x33).bind (fun (x45:Int)=>(some (x39,Q.rt,room,g,o,m,x33,x45))))))))))) =
   some ((Q.out k).1.fr,(Q.out k).1.rt,room,g',o',m,(Q.out k).2.node,(Q.out k).2.gen)∧PR N (Q.out k).1 g' o':=by
 obtain ⟨fr,rt,st⟩:=Q;cases fr with
 | nil=>exact ⟨g,o,rfl,h⟩
 | cons n l=>
  have hn:=hr n (List.mem_cons_self ..);have hgl:=h.gl;simp only [List.length_cons] at hf
  have h0:getI (n::l) 0=some n:=by unfold getI; rw [if_pos kw]; rfl
  have h1:cz (n::l) 1 (((n::l).length:Nat):Int)=some l:=by
   unfold cz;rw [if_pos (by simp only [List.length_cons]; omega)];simp
  have h2:getI g n=some ((st n).gen):=by rw [gU hn.1 kw]; exact congrArg some (h.gen n hn.1 hn.2)
  simp only
  rw [show (((n::l).length:Int)==0)=false from by simp only [List.length_cons,beq_eq_false_iff_ne]; omega,h0,h1]
  simp only [cond_false,Option.bind_some]
  rw [dl yaq]
  simp only [Option.bind_some,List.nil_append]
  rw [h2]
  refine ⟨g,o,rfl,hgl,h.ol,fun q q0 q1=>?_⟩
  rw [h.gen q q0 q1]
  show (st q).gen=(if q=n then D.dE (st n) k else st q).gen
  split
  ·rename_i e; rw [e]; rfl
  ·rfl
theorem CC {fu:Nat} {N m room k:Int} {P:Pool} {g:List Int} {o:List Bool} (h:PR N P g o) (hr:∀ n,n∈P.rt→0≤n∧n<N) (hfr:∀ n,n∈P.fr→0≤n∧n<N) (hd:P.rt.Nodup) (hN:N≤1000) (hf:P.fr.length≤500) (hl:P.rt.length≤500) (hfu:2000≤fu) :
  ∃ g' o',D.jY fu P.fr P.rt room g o m=some ((P.grant m k).1.fr,(P.grant m k).1.rt,room,g',o',m,(P.grant m k).2.node,(P.grant m k).2.gen)∧PR N (P.grant m k).1 g' o':=by
 unfold D.jY;have hsub:∀ n,n∈(P.scan m).fr→0≤n∧n<N:=fun n hn=>(jF hd hn).elim (hr n) (hfr n)
 have hb:=o5 m P.rt.reverse ⟨P.fr,[],P.st⟩;have hsr:(P.scan m).rt=[]:=gX _ _ _;have hsl:(P.scan m).fr.length≤P.fr.length+P.rt.length:=by simpa [Pool.scan] using hb
 obtain ⟨fr,rt,st⟩:=P;cases fr with
 | nil=>
  simp only
  obtain ⟨g1,o1,e1,h1⟩:=vp (fu:=fu) (m:=m) (room:=room) h hr hN yar (by simp only at hl ⊢; omega) hfu;simp only at e1
  rw [show ((([]:List Int).length:Int)==0)=true from rfl,e1]
  simp only [cond_true,Option.bind_some]
  have hx:=vP (fu:=fu) (m:=m) (room:=room) (k:=k) h1 hsub (by simp only [List.length_nil] at hsl; simp only at hl; omega) hN
  rw [hsr] at hx
  exact hx
 | cons n l=>
  simp only
  rw [show (((n::l).length:Int)==0)=false from by simp only [List.length_cons,beq_eq_false_iff_ne]; omega]
  simp only [cond_false,Option.bind_some]
  have hx:=vP (fu:=fu) (m:=m) (room:=room) (k:=k) h hfr (by simp only at hf ⊢; omega) hN
  rw [show (((n::l).length:Int)==0)=false from by simp only [List.length_cons,beq_eq_false_iff_ne]; omega] at hx
  exact hx
theorem BX {fu:Nat} {N m room n:Int} {P:Pool} {g:List Int} {o:List Bool} (h:PR N P g o) (hr:∀ n,n∈P.rt→0≤n∧n<N) (hN:N≤1000) (hf:P.fr.length≤500) (hl:P.rt.length≤500) (hfu:2000≤fu) :
  ∃ g' o',D.jX fu P.fr P.rt room g o m n=some ((P.stash room m n).fr,(P.stash room m n).rt,room,g',o',m)∧PR N (P.stash room m n) g' o':=by
 unfold D.jX Pool.stash;have hsr:(P.scan m).rt=[]:=gX _ _ _
 by_cases hc:(P.rt.length:Int)<room
 ·rw [show decide ((P.rt.length:Int)≥room)=false from by rw [decide_eq_false_iff_not]; omega,if_pos hc]
  simp only [cond_false,Option.bind_some]
  rw [dl yaq]
  simp only [Option.bind_some,List.nil_append]
  rw [dl yaq]
  exact ⟨g,o,rfl,h.gl,h.ol,h.gen⟩
 ·obtain ⟨g1,o1,e1,h1⟩:=vp (fu:=fu) (m:=m) (room:=room) h hr hN kw kw hfu
  rw [show decide ((P.rt.length:Int)≥room)=true from by rw [decide_eq_true_eq]; omega,if_neg hc,e1]
  simp only [cond_true,Option.bind_some]
  rw [dl yar]
  simp only [Option.bind_some,List.nil_append]
  rw [dl yar,hsr]
  exact ⟨g1,o1,rfl,h1.gl,h1.ol,h1.gen⟩
theorem PR.re {N n:Int} {P:Pool} {g:List Int} {o:List Bool} (h:PR N P g o) {s:State} (hs:s.gen=(P.st n).gen):PR N ⟨P.fr,P.rt,fun q=>if q=n then s else P.st q⟩ g o:=
 ⟨h.gl,h.ol,fun q q0 q1=>by
  rw [h.gen q q0 q1]
  show _=(if q=n then s else P.st q).gen
  split
  ·rename_i e; rw [e,hs]
  ·rfl⟩
theorem cl82:af y6 82:=kz
theorem cl87:af y6 87:=kz
theorem wy:ba y6 87 0 0:=kz
theorem oG:ba y6 87 1 1:=kz
theorem wz:ba y6 87 2 2:=kz
theorem ti5:intTy y6 5 .u8:=kz
theorem to5:tyO y6 5:=kz
def D.gq (j:Nat) (a0:Seat) (a1:Int) (a2:CallL):T Res:=(bif ((a2.kind.tmod 3)==0) then (D.gQ j a0 a1 (IntKind.u64.wrap a2.k) (IntKind.u64.wrap a2.v)) else (bif ((a2.kind.tmod 3)==1) then (D.fq j j a0 a1 (IntKind.u64.wrap a2.k)) else (D.jH j a0 a1 (IntKind.u64.wrap a2.k))))
theorem zh {n:Nat} {F:Nat→Prop} {j:Nat} {w0:World} (hF:∀ b,F b→b<w0.heap.size) (hj:n<j)
    (a0:Seat) (a1:Int) (a2:CallL) :
    Calls y6 40 #[u7 (bC a0),.int .i64 a1,u7 (dK a2)] w0 (aw y6 aA n (D.gq j a0 a1 a2) F w0):=by
 refine kN Tryz.func40 rfl 35 rfl rfl fun fr r hB=>?_;refine wsr ?_
 refine kX 47 (u7 (bC a0)) r rfl rfl fun b1 w2 n3 r=>?_;obtain ⟨eb1,zw2,hb1,hB,zB⟩:=n3.all hB
 refine kX 87 (u7 (dK a2)) r rfl rfl fun b4 w5 n6 r=>?_;have hb1:=keep n6.below hb1
 obtain ⟨eb4,zw5,hb4,hB,zB⟩:=n6.all hB;refine ah (.cells (kq aA) 41 (0,0)) r (fun R=>ag tz41) rfl fun fr b7 w8 n9 r=>?_;have hb1:=keep n9.below hb1
 have hb4:=keep n9.below hb4;obtain ⟨eb7,zw8,hb7,hB,zB⟩:=n9.all hB;refine wn (a9 (wsr (kF 0 r rfl wy rfl fun r=>kL (.int .u8 a2.kind) r rfl hb4 to5 rfl rfl fun r=>kB r rfl rfl rfl rfl rfl fun r=>wn (wp_block (wsr (kB r rfl rfl rfl rfl rfl fun r=>kA (.bool ((a2.kind.tmod 3)==0)) r rfl rfl fun r=>wn ?_))))));refine q4 (t:=((a2.kind.tmod 3)==0)) (r.ev rfl) (fun h10=>?_) (fun h10=>?_)
 ·
  refine wsr (kG (bC a0) 8 r rfl hb1 ta47 rfl rfl fun r=>kM (I a1) r rfl rfl fun r=>kF 0 r rfl oG rfl fun r=>kL (.int .u8 a2.k) r rfl hb4 to5 rfl rfl fun r=>aa (U (V a2.k)) r (fun R=>cK r rfl ti5 ti34) rfl fun fr r=>kF 0 r rfl wz rfl fun r=>kL (.int .u8 a2.v) r rfl hb4 to5 rfl rfl fun r=>aa (U (V a2.v)) r (fun R=>cK r rfl ti5 ti34) rfl fun fr r=>?_);refine kJ r (ue (j:=j) (F:=No) (n:=n) (fun _ h=>h.elim) kw a0 a1 (V a2.k) (V a2.v)) rfl cl82 rfl fun w11 v12 hb hr13 r=>?_
  have hb:=hb.below;have zw11:=hb.size;have hb1:=keep hb hb1;have hb4:=keep hb hb4;have hb7:=keep hb hb7;obtain ⟨hB,zB⟩:=bon hb hB;refine kP r hr13.shape rfl rfl hb7 ts41 rfl rfl fun w14 u15 r=>?_;have zw14:=u15.size
  have hb1:=u15.keep hb1 kw
  have hb4:=u15.keep hb4 kw
  have hb7:=u15.at_;obtain ⟨hB,zB⟩:=u15.on hB kw
  refine wn (d9 ?_);have hd:D.gq j a0 a1 a2=(D.gQ j a0 a1 (V a2.k) (V a2.v)):=(ar h10).trans (rfl);have hs:=hr13.shape.cells;refine ak r rfl rfl hb7 (k:=8) hs.1 ta41 ?_;rw [←hs.2.2,hd];exact aw.fin (Chg.aT hB) hr13 u15 (fun _ h=>h.elim) (fun h=>h) kw kw kw
 refine wsr (kB r rfl rfl rfl rfl rfl fun r=>kA (.bool ((a2.kind.tmod 3)==1)) r rfl rfl fun r=>wn ?_);refine q4 (t:=((a2.kind.tmod 3)==1)) (r.ev rfl) (fun h16=>?_) (fun h16=>?_)
 ·
  refine wsr (kG (bC a0) 8 r rfl hb1 ta47 rfl rfl fun r=>kM (I a1) r rfl rfl fun r=>kF 0 r rfl oG rfl fun r=>kL (.int .u8 a2.k) r rfl hb4 to5 rfl rfl fun r=>aa (U (V a2.k)) r (fun R=>cK r rfl ti5 ti34) rfl fun fr r=>?_);refine kJ r ((BM (j:=j) (k:=j) (n:=n) kw kw) (No) _ (fun _ h=>h.elim) a0 a1 (V a2.k)) rfl cl86 rfl fun w17 v18 hb hr19 r=>?_
  have hb:=hb.below;have zw17:=hb.size;have hb1:=keep hb hb1;have hb4:=keep hb hb4;have hb7:=keep hb hb7;obtain ⟨hB,zB⟩:=bon hb hB;refine kP r hr19.shape rfl rfl hb7 ts41 rfl rfl fun w20 u21 r=>?_;have zw20:=u21.size
  have hb1:=u21.keep hb1 kw
  have hb4:=u21.keep hb4 kw
  have hb7:=u21.at_;obtain ⟨hB,zB⟩:=u21.on hB kw
  refine wn (d9 ?_);have hd:D.gq j a0 a1 a2=(D.fq j j a0 a1 (V a2.k)):=(ai h10).trans ((ar h16).trans (rfl));have hs:=hr19.shape.cells;refine ak r rfl rfl hb7 (k:=8) hs.1 ta41 ?_;rw [←hs.2.2,hd];exact aw.fin (Chg.aT hB) hr19 u21 (fun _ h=>h.elim) (fun h=>h) kw kw kw
 refine q6 (wsr (kG (bC a0) 8 r rfl hb1 ta47 rfl rfl fun r=>kM (I a1) r rfl rfl fun r=>kF 0 r rfl oG rfl fun r=>kL (.int .u8 a2.k) r rfl hb4 to5 rfl rfl fun r=>aa (U (V a2.k)) r (fun R=>cK r rfl ti5 ti34) rfl fun fr r=>?_));refine kJ r (BU (j:=j) (F:=No) (n:=n) (fun _ h=>h.elim) kw a0 a1 (V a2.k)) rfl cl87 rfl fun w22 v23 hb hr24 r=>?_
 have hb:=hb.below;have zw22:=hb.size;have hb1:=keep hb hb1;have hb4:=keep hb hb4;have hb7:=keep hb hb7;obtain ⟨hB,zB⟩:=bon hb hB;refine kP r hr24.shape rfl rfl hb7 ts41 rfl rfl fun w25 u26 r=>?_;have zw25:=u26.size
 have hb1:=u26.keep hb1 kw
 have hb4:=u26.keep hb4 kw
 have hb7:=u26.at_;obtain ⟨hB,zB⟩:=u26.on hB kw
 refine wn (d9 ?_);have hd:D.gq j a0 a1 a2=(D.jH j a0 a1 (V a2.k)):=(ai h10).trans ((ai h16).trans (rfl));have hs:=hr24.shape.cells;refine ak r rfl rfl hb7 (k:=8) hs.1 ta41 ?_;rw [←hs.2.2,hd];exact aw.fin (Chg.aT hB) hr24 u26 (fun _ h=>h.elim) (fun h=>h) kw kw kw
end Go.Proofs.YtbbipmelhmgmfaaGreat

/- Ours. -/
namespace Go.Proofs.YtbbipmelhmgmfaaGreat.Fc
open Go.RowKit
inductive Fact (B:Nat) (S:Nat→Prop) where
 | any
 | val (c:Value)
 | new (ob:Obj)
 | slice (ob:Obj) (l:Nat)
 | cell (T:TypeId) (n:Nat)
 | stored (q:Nat) (c:Array Value) (T:TypeId) (n:Nat) (h:c.size=n)
 | pred (p:Value→Nat→Nat→World→Prop) (h:∀ v lo hi w1 w2,p v lo hi w1→Kept B S lo hi w1 w2→p v lo hi w2)
 | whole (p:Value→Nat→Nat→World→Prop) (h:∀ v lo hi w1 w2,p v lo hi w1→KeptW B S w1 w2→p v lo hi w2)
 | eff (p:Value→Nat→Nat→World→Prop) (h:∀ v lo hi w1 w2,p v lo hi w1→Kept B (fun _=>False) lo hi w1 w2→p v lo hi w2)
 | effW (p:Value→Nat→Nat→World→Prop) (h:∀ v lo hi w1 w2,p v lo hi w1→KeptW B (fun _=>False) w1 w2→p v lo hi w2)
 | dep (q:Nat) (p:Value→Value→Prop)
 | depN (qs:List Nat) (p:List Value→Value→Prop)
 | storedD (q j:Nat) (c:Value→Array Value) (T:TypeId) (n:Nat)
 | cons (q:Nat) (p:Value→Nat→Nat→World→Prop) (h:∀ v lo hi w1 w2,p v lo hi w1→Kept B S lo hi w1 w2→p v lo hi w2)
 | effC (js:List Nat) (p:Value→Nat→Nat→World→Prop) (h:∀ v lo hi w1 w2,p v lo hi w1→Kept B (fun _=>False) lo hi w1 w2→p v lo hi w2)
 | effCW (js:List Nat) (p:Value→Nat→Nat→World→Prop) (h:∀ v lo hi w1 w2,p v lo hi w1→KeptW B (fun _=>False) w1 w2→p v lo hi w2)
inductive Sh where
 | free
 | cell (T:TypeId) (n:Nat)
 | store (q:Nat) (T:TypeId) (n:Nat)
 | eff
 | whole
def Fact.sh {B:Nat} {S:Nat→Prop}:Fact B S→Sh
 | .cell T n=>.cell T n
 | .stored q _ T n _=>.store q T n
 | .storedD q _ _ T n=>.store q T n
 | .eff _ _=>.eff
 | .effW _ _=>.eff
 | .effC _ _ _=>.eff
 | .effCW _ _ _=>.eff
 | .whole _ _=>.whole
 | _=>.free
def Fact.needs {B:Nat} {S:Nat→Prop}:Fact B S→List Nat
 | .dep q _=>[q]
 | .depN qs _=>qs
 | .storedD _ j _ _ _=>[j]
 | _=>[]
def Fact.eats {B:Nat} {S:Nat→Prop}:Fact B S→List Nat
 | .effC js _ _=>js
 | .effCW js _ _=>js
 | _=>[]
def Fact.until {B:Nat} {S:Nat→Prop}:Fact B S→Option Nat
 | .cons q _ _=>some q
 | _=>none
def Fact.isW {B:Nat} {S:Nat→Prop}:Fact B S→Bool
 | .effW _ _=>true
 | .effCW _ _ _=>true
 | _=>false
def Fact.ok {B:Nat} {S:Nat→Prop}:Fact B S→(Nat→Gh)→Nat→World→Prop
 | .any,_,_,_=>True
 | .val c,g,i,_=>(g i).v=c
 | .new ob,g,i,w=>(g i).v=.pointer (some ⟨(g i).lo,0,none⟩)∧(g i).lo<(g i).hi∧w.heap[(g i).lo]?=some ob
 | .slice ob l,g,i,w=>(g i).v=.slice (some ⟨(g i).lo,0,none⟩) l l∧(g i).lo<(g i).hi∧w.heap[(g i).lo]?=some ob
 | .cell T n,g,i,w=>(g i).v=.pointer (some ⟨(g i).lo,0,none⟩)∧(g i).lo<(g i).hi∧∃ c,w.heap[(g i).lo]?=some (.cells c T (0,0))∧c.size=n
 | .stored q c T _ _,g,i,w=>(g i).v=undef∧w.heap[(g q).lo]?=some (.cells c T (0,0))
 | .pred p _,g,i,w=>p (g i).v (g i).lo (g i).hi w
 | .whole p _,g,i,w=>p (g i).v (g i).lo (g i).hi w
 | .eff p _,g,i,w=>p (g i).v (g i).lo (g i).hi w
 | .effW p _,g,i,w=>p (g i).v (g i).lo (g i).hi w
 | .dep q p,g,i,_=>p (g q).v (g i).v
 | .depN qs p,g,i,_=>p (qs.map fun q=>(g q).v) (g i).v
 | .storedD q j c T _,g,i,w=>(g i).v=undef∧w.heap[(g q).lo]?=some (.cells (c (g j).v) T (0,0))
 | .cons q p _,g,i,w=>(g q).hi=0→p (g i).v (g i).lo (g i).hi w
 | .effC _ p _,g,i,w=>p (g i).v (g i).lo (g i).hi w
 | .effCW _ p _,g,i,w=>p (g i).v (g i).lo (g i).hi w
def Fact.mk {B:Nat} {S:Nat→Prop}:Fact B S→(Nat→Gh)→Value→World→World→Prop
 | .any,_,_,w,w'=>Below w.heap.size w w'
 | .val c,_,v,w,w'=>Below w.heap.size w w'∧v=c
 | .new ob,_,v,w,w'=>Below w.heap.size w w'∧∃ b,v=.pointer (some ⟨b,0,none⟩)∧b=w.heap.size∧w'.heap[b]?=some ob
 | .slice ob l,_,v,w,w'=>Below w.heap.size w w'∧∃ b,v=.slice (some ⟨b,0,none⟩) l l∧b=w.heap.size∧w'.heap[b]?=some ob
 | .cell T n,_,v,w,w'=>Below w.heap.size w w'∧∃ b,v=.pointer (some ⟨b,0,none⟩)∧b=w.heap.size∧∃ c,w'.heap[b]?=some (.cells c T (0,0))∧c.size=n
 | .stored q c T _ _,g,v,w,w'=>Upd w w' (g q).lo (.cells c T (0,0))∧v=undef
 | .pred p _,_,v,w,w'=>Below w.heap.size w w'∧p v w.heap.size w'.heap.size w'
 | .whole p _,_,v,w,w'=>Below w.heap.size w w'∧p v w.heap.size w'.heap.size w'
 | .eff p _,_,v,w,w'=>Kept w.heap.size S 0 0 w w'∧p v w.heap.size w'.heap.size w'
 | .effW p _,_,v,w,w'=>Kept w.heap.size S 0 0 w w'∧p v w.heap.size w'.heap.size w'
 | .dep q p,g,v,w,w'=>Below w.heap.size w w'∧p (g q).v v
 | .depN qs p,g,v,w,w'=>Below w.heap.size w w'∧p (qs.map fun q=>(g q).v) v
 | .storedD q j c T n,g,v,w,w'=>Upd w w' (g q).lo (.cells (c (g j).v) T (0,0))∧v=undef∧(c (g j).v).size=n
 | .cons _ p _,_,v,w,w'=>Below w.heap.size w w'∧p v w.heap.size w'.heap.size w'
 | .effC js p _,g,v,w,w'=>Kept w.heap.size (fun b=>S b∨∃ j,j∈js∧(g j).lo≤b∧b<(g j).hi) 0 0 w w'∧p v w.heap.size w'.heap.size w'
 | .effCW js p _,g,v,w,w'=>Kept w.heap.size (fun b=>S b∨∃ j,j∈js∧(g j).lo≤b∧b<(g j).hi) 0 0 w w'∧p v w.heap.size w'.heap.size w'
def fact {B:Nat} {S:Nat→Prop}:List (Fact B S)→Nat→Fact B S
 | [],_=>.any
 | f::_,0=>f
 | _::l,n+1=>fact l n
def freely (L:List Oper) (sh:Nat→Sh):Bool:=
  distinct L&&L.zipIdx.all (fun (o,i)=>(o.after.toList.all fun e=>!Region.binds .any e||decide (e.on<i))&&
    (match sh i with
     | .store q T n=>bF o q&&(match sh q with | .cell T' n'=>T==T'&&n==n' | _=>false)&&(List.range L.length).all fun j=>decide (j=i)||(match sh j with | .store q' _ _=>!(q'==q) | _=>true)
     | .eff=>(List.range L.length).all fun j=>decide (j=i)||(match sh j with | .eff=>false | _=>true)
     | .whole=>(List.range L.length).all fun j=>(match sh j with | .store _ _ _=>false | _=>true)
     | _=>true))
def early (L:List Oper) (sh:Nat→Sh) (i:Nat):Bool:=
 L.zipIdx.all fun (o,j)=>match sh j with | .eff=>decide (j=i)||bF o i | _=>true
def effDone (L:List Oper) (sh:Nat→Sh) (listed:Array Bool):Bool:=
 L.zipIdx.any fun (_,j)=>match sh j with | .eff=>listed.getD j false | _=>false
section
variable {P : Program} {Q : Exit → Act → World → Prop} {L : List Oper} {a : Act} {w : World} {B : Nat} {S : Nat → Prop}
structure FInv (L:List Oper) (fs:Nat→Fact B S) (a:Act) (w0:World) (listed:Array Bool) (g:Nat→Gh) (a':Act) (w':World):Prop where
 act:a'=puts L (fun j=>(g j).v) 0 a
 closed:∀ i o,L[i]?=some o→listed.getD i false=true→∀ e,e∈o.after→Region.binds .any e=true→listed.getD e.on false=true
 os:w'.os=w0.os
 tape:w'.tape=w0.tape
 output:w'.output=w0.output
 size:w0.heap.size≤w'.heap.size
 old:∀ b,b<B→¬ S b∨effDone L (fun i=>(fs i).sh) listed=false→w'.heap[b]?=w0.heap[b]?
 facts:∀ i,i<L.length→listed.getD i false=true→(fs i).ok g i w'∧B≤(g i).lo∧(g i).lo≤(g i).hi∧(g i).hi≤w'.heap.size
 apart:∀ i j,i≠j→i<L.length→j<L.length→listed.getD i false=true→listed.getD j false=true→(g i).hi≤(g j).lo∨(g j).hi≤(g i).lo
 fresh:∀ i,i<L.length→listed.getD i false=false→(g i).hi=0
def bV (P:Program) (L:List Oper) (fs:Nat→Fact B S) (a:Act) (w0:World):List Oper→Nat→Prop
 | [],_=>True
 | o::l,i=>(∀ g w',(g i).hi=0→w'.os=w0.os→w'.tape=w0.tape→w'.output=w0.output→w0.heap.size≤w'.heap.size→(∀ b,b<B→¬ S b∨early L (fun i=>(fs i).sh) i=true→w'.heap[b]?=w0.heap[b]?)→
   (∀ j,bF o j=true→(fs j).ok g j w'∧B≤(g j).lo∧(g j).hi≤w'.heap.size∧∀ q,bF o q=true→q≠j→(g j).hi≤(g q).lo∨(g q).hi≤(g j).lo)→
   YieldsG P L.toArray o (puts L (fun j=>(g j).v) 0 a) w' fun v w''=>(fs i).mk g v w' w'')∧bV P L fs a w0 l (i+1)
theorem lD {fs:Nat→Fact B S} {w0:World}:∀ (l:List Oper) (k i:Nat) (o:Oper),bV P L fs a w0 l k→l[i]?=some o→
  (∀ g w',(g (k+i)).hi=0→w'.os=w0.os→w'.tape=w0.tape→w'.output=w0.output→w0.heap.size≤w'.heap.size→(∀ b,b<B→¬ S b∨early L (fun i=>(fs i).sh) (k+i)=true→w'.heap[b]?=w0.heap[b]?)→
   (∀ j,bF o j=true→(fs j).ok g j w'∧B≤(g j).lo∧(g j).hi≤w'.heap.size∧∀ q,bF o q=true→q≠j→(g j).hi≤(g q).lo∨(g q).hi≤(g j).lo)→
   YieldsG P L.toArray o (puts L (fun j=>(g j).v) 0 a) w' fun v w''=>(fs (k+i)).mk g v w' w'')
 | [],_,_,_,_,h=>by simp at h
 | p::l,k,0,o,hE,h=>by
  simp only [List.getElem?_cons_zero,Option.some.injEq] at h
  subst h;exact hE.1
 | p::l,k,i+1,o,hE,h=>by
  simp only [List.getElem?_cons_succ] at h
  have:=lD l (k+1) i o hE.2 h;rw [show k+1+i=k+(i+1) from by omega] at this
  exact this
theorem dH {sh:Nat→Sh} (h:freely L sh=true) {i:Nat} {o:Oper} (hi:L[i]?=some o) :
  (∀ e,e∈o.after→Region.binds .any e=true→e.on<i)∧
  (∀ q T n,sh i=.store q T n→bF o q=true∧sh q=.cell T n∧∀ j,j<L.length→j≠i→∀ T' n',sh j≠.store q T' n')∧
  (sh i=.eff→∀ j,j<L.length→j≠i→sh j≠.eff)∧(sh i=.whole→∀ j,j<L.length→∀ q T n,sh j≠.store q T n):=by
 simp only [freely,Bool.and_eq_true] at h
 have hm:(o,i)∈L.zipIdx:=by
  rw [List.mem_iff_getElem?]
  exact ⟨i,by simp [hi]⟩
 have h2:=List.all_eq_true.1 h.2 _ hm;simp only [Bool.and_eq_true] at h2
 refine ⟨fun e he hb=>?_,fun q T n hq=>?_,fun hq j hj hne=>?_,fun hq j hj q T n hs=>?_⟩
 ·have:=List.all_eq_true.1 h2.1 e (by simpa using he)
  simpa [hb] using this
 ·have h3:=h2.2
  rw [hq] at h3
  simp only [Bool.and_eq_true] at h3
  refine ⟨h3.1.1,?_,fun j hj hne T' n' hs=>?_⟩
  ·have h4:=h3.1.2
   cases hc:sh q with
   | cell T' n'=>
    rw [hc] at h4
    simp only [Bool.and_eq_true,beq_iff_eq] at h4
    rw [h4.1,h4.2]
   | _=>rw [hc] at h4; cases h4
  ·have:=List.all_eq_true.1 h3.2 j (List.mem_range.2 hj)
   rw [hs] at this
   simp [hne] at this
 ·have h3:=h2.2
  rw [hq] at h3
  intro hs;have:=List.all_eq_true.1 h3 j (List.mem_range.2 hj);rw [hs] at this
  simp [hne] at this
 ·have h3:=h2.2
  rw [hq] at h3
  have:=List.all_eq_true.1 h3 j (List.mem_range.2 hj);rw [hs] at this
  cases this
structure Step (B:Nat) (S:Nat→Prop) (sh:Sh) (es:List Nat) (g:Nat→Gh) (w w':World):Prop where
 os:w'.os=w.os
 tape:w'.tape=w.tape
 output:w'.output=w.output
 size:w.heap.size≤w'.heap.size
 block:∀ b,b<w.heap.size→(∀ q T n,sh=.store q T n→b≠(g q).lo)→(sh=.eff→¬ S b∧∀ j,j∈es→¬ ((g j).lo≤b∧b<(g j).hi))→w'.heap[b]?=w.heap[b]?
 stored:∀ q T n,sh=.store q T n→∃ c,w'.heap[(g q).lo]?=some (.cells c T (0,0))∧c.size=n
theorem Fact.step {f:Fact B S} {g:Nat→Gh} {v:Value} {w w':World} (h:f.mk g v w w'):Step B S f.sh f.eats g w w':=by
 cases f with
 | any=>exact ⟨h.os,h.tape,h.output,h.size,fun b hb _ _=>h.block b hb,nofun⟩
 | val c=>exact ⟨h.1.os,h.1.tape,h.1.output,h.1.size,fun b hb _ _=>h.1.block b hb,nofun⟩
 | new ob=>exact ⟨h.1.os,h.1.tape,h.1.output,h.1.size,fun b hb _ _=>h.1.block b hb,nofun⟩
 | slice ob l=>exact ⟨h.1.os,h.1.tape,h.1.output,h.1.size,fun b hb _ _=>h.1.block b hb,nofun⟩
 | cell T n=>exact ⟨h.1.os,h.1.tape,h.1.output,h.1.size,fun b hb _ _=>h.1.block b hb,nofun⟩
 | pred p hp=>exact ⟨h.1.os,h.1.tape,h.1.output,h.1.size,fun b hb _ _=>h.1.block b hb,nofun⟩
 | whole p hp=>exact ⟨h.1.os,h.1.tape,h.1.output,h.1.size,fun b hb _ _=>h.1.block b hb,nofun⟩
 | stored q c T n hn=>
  refine ⟨h.1.os,h.1.tape,h.1.output,Nat.le_of_eq h.1.size.symm,fun b hb h1 _=>h.1.other b (h1 q T n rfl),?_⟩
  intro q' T' n' he;simp only [Fact.sh,Sh.store.injEq] at he
  obtain ⟨rfl,rfl,rfl⟩:=he;exact ⟨c,h.1.at_,hn⟩
 | dep q p=>exact ⟨h.1.os,h.1.tape,h.1.output,h.1.size,fun b hb _ _=>h.1.block b hb,nofun⟩
 | depN qs p=>exact ⟨h.1.os,h.1.tape,h.1.output,h.1.size,fun b hb _ _=>h.1.block b hb,nofun⟩
 | storedD q j c T n=>
  refine ⟨h.1.os,h.1.tape,h.1.output,Nat.le_of_eq h.1.size.symm,fun b hb h1 _=>h.1.other b (h1 q T n rfl),?_⟩
  intro q' T' n' he;simp only [Fact.sh,Sh.store.injEq] at he
  obtain ⟨rfl,rfl,rfl⟩:=he;exact ⟨c (g j).v,h.1.at_,h.2.2⟩
 | eff p hp=>exact ⟨h.1.1,h.1.2.1,h.1.2.2.1,h.1.2.2.2.1,fun b hb _ h2=>h.1.2.2.2.2 b (.inl ⟨hb,(h2 rfl).1⟩),nofun⟩
 | effW p hp=>exact ⟨h.1.1,h.1.2.1,h.1.2.2.1,h.1.2.2.2.1,fun b hb _ h2=>h.1.2.2.2.2 b (.inl ⟨hb,(h2 rfl).1⟩),nofun⟩
 | cons q p hp=>exact ⟨h.1.os,h.1.tape,h.1.output,h.1.size,fun b hb _ _=>h.1.block b hb,nofun⟩
 | effC j p hp=>exact ⟨h.1.1,h.1.2.1,h.1.2.2.1,h.1.2.2.2.1,fun b hb _ h2=>h.1.2.2.2.2 b (.inl ⟨hb,fun hs=>hs.elim (h2 rfl).1 fun ⟨k,hk,hr⟩=>(h2 rfl).2 k hk hr⟩),nofun⟩
 | effCW j p hp=>exact ⟨h.1.1,h.1.2.1,h.1.2.2.1,h.1.2.2.2.1,fun b hb _ h2=>h.1.2.2.2.2 b (.inl ⟨hb,fun hs=>hs.elim (h2 rfl).1 fun ⟨k,hk,hr⟩=>(h2 rfl).2 k hk hr⟩),nofun⟩
theorem Step.ok {fs:Nat→Fact B S} (hSB:∀ b,S b→b<B) {g g':Nat→Gh} {i j:Nat} {w' w'':World} (hst:Step B S (fs i).sh (fs i).eats g w' w'')
  (hg:∀ k,k≠i→g' k=g k) (hji:j≠i) (hj:(fs j).ok g j w') (hlo:B≤(g j).lo) (hhi:(g j).hi≤w'.heap.size) (hBw:B≤w'.heap.size)
  (hq1:∀ q T n,(fs j).sh=.store q T n→q≠i∧(g q).lo<w'.heap.size∧B≤(g q).lo)
  (hq2:∀ q T n,(fs i).sh=.store q T n→B≤(g q).lo∧(fs q).sh=.cell T n∧(∀ q' T' n',(fs j).sh=.store q' T' n'→(g q').lo≠(g q).lo)∧(j≠q→(g j).lo<(g j).hi→(g q).lo≠(g j).lo)∧(j≠q→(g q).lo<(g j).lo∨(g j).hi≤(g q).lo))
  (he:(fs i).sh=.eff→(fs j).sh≠.eff) (hwh:(fs j).sh=.whole→∀ q T n,(fs i).sh≠.store q T n) (hww:(fs j).isW=true→∀ q T n,(fs i).sh≠.store q T n) (hnd:∀ q,q∈(fs j).needs→q≠i)
  (hz:∀ k,k∈(fs i).eats→j≠k→(g j).hi≤(g k).lo∨(g k).hi≤(g j).lo) (hzB:∀ k,k∈(fs i).eats→B≤(g k).lo)
  (hzq:∀ k q T n,k∈(fs i).eats→(fs j).sh=.store q T n→(g q).lo<(g k).lo∨(g k).hi≤(g q).lo) (hzc:∀ k,k∈(fs i).eats→(fs k).until=some i)
  (hzw:∀ k,k∈(fs i).eats→(fs j).sh≠.whole) (hi0:(g' i).hi≠0):(fs j).ok g' j w'':=by
 have hgj:=hg j hji;have hz1:∀ k,k∈(fs i).eats→(fs j).until≠some i→(g j).hi≤(g k).lo∨(g k).hi≤(g j).lo:=fun k hk h=>hz k hk fun e=>h (e ▸ hzc k hk)
 have hne:∀ q T n,(fs i).sh=.store q T n→(∀ T n,(fs j).sh≠.cell T n)→j≠q:=fun q T n hq hc h=>by
  subst h;exact hc T n (hq2 _ T n hq).2.1
 cases hf:fs j with
 | any=>trivial
 | val c=>rw [hf] at hj; simp only [Fact.ok,hgj] at hj ⊢; exact hj
 | cell T n=>
  rw [hf] at hj
  simp only [Fact.ok,hgj] at hj ⊢
  obtain ⟨h1,h2,c,h3,h4⟩:=hj;refine ⟨h1,h2,?_⟩
  by_cases hq:∃ T' n',(fs i).sh=.store j T' n'
  ·obtain ⟨T',n',hq⟩:=hq
   obtain ⟨c2,h5,h6⟩:=hst.stored j T' n' hq;have h7:=(hq2 j T' n' hq).2.1;rw [hf] at h7
   simp only [Fact.sh,Sh.cell.injEq] at h7
   rw [h7.1,h7.2]
   exact ⟨c2,h5,h6⟩
  ·refine ⟨c,?_,h4⟩
   rw [hst.block _ (q7 h3) (fun q T' n' hq' h=>?_) (fun _=>⟨fun h=>by have:=hSB _ h; omega,fun k hk hr=>by have h9:=hz1 k hk (by rw [hf]; nofun); have h8:=h2; omega⟩)]
   ·exact h3
   ·have hjq:j≠q:=fun h=>by subst h; exact hq ⟨T',n',hq'⟩
    exact (hq2 q T' n' hq').2.2.2.1 hjq h2 h.symm
 | new ob=>
  rw [hf] at hj
  simp only [Fact.ok,hgj] at hj ⊢
  refine ⟨hj.1,hj.2.1,?_⟩;have hlt:=q7 hj.2.2;rw [hst.block _ hlt (fun q T n hq h=>?_) (fun _=>⟨fun h=>by have:=hSB _ h; omega,fun k hk hr=>by have h9:=hz1 k hk (by rw [hf]; nofun); have h8:=hj.2.1; omega⟩)]
  ·exact hj.2.2
  ·exact (hq2 q T n hq).2.2.2.1 (hne q T n hq fun _ _=>by rw [hf]; nofun) hj.2.1 h.symm
 | slice ob l=>
  rw [hf] at hj
  simp only [Fact.ok,hgj] at hj ⊢
  refine ⟨hj.1,hj.2.1,?_⟩;have hlt:=q7 hj.2.2;rw [hst.block _ hlt (fun q T n hq h=>?_) (fun _=>⟨fun h=>by have:=hSB _ h; omega,fun k hk hr=>by have h9:=hz1 k hk (by rw [hf]; nofun); have h8:=hj.2.1; omega⟩)]
  ·exact hj.2.2
  ·exact (hq2 q T n hq).2.2.2.1 (hne q T n hq fun _ _=>by rw [hf]; nofun) hj.2.1 h.symm
 | stored q c T n hn=>
  obtain ⟨hqi,hlt,hqB⟩:=hq1 q T n yax;rw [hf] at hj
  simp only [Fact.ok,hgj,hg q hqi] at hj ⊢
  refine ⟨hj.1,?_⟩;rw [hst.block _ hlt (fun q2 T2 n2 hq h=>?_) (fun _=>⟨fun h=>by have:=hSB _ h; omega,fun k9 hk hr=>by have h9:=hzq k9 q T n hk yax; omega⟩)]
  ·exact hj.2
  ·exact (hq2 q2 T2 n2 hq).2.2.1 q T n yax h
 | dep q p=>
  have hqi:q≠i:=hnd q yaI
  rw [hf] at hj
  simp only [Fact.ok,hgj,hg q hqi] at hj ⊢
  exact hj
 | depN qs p=>
  rw [hf] at hj
  simp only [Fact.ok,hgj] at hj ⊢
  rw [List.map_congr_left (g:=fun q=>(g q).v) fun q hq=>by rw [hg q (hnd q (by rw [hf]; exact hq))]]
  exact hj
 | storedD q k c T n=>
  have hki:k≠i:=hnd k yaI
  obtain ⟨hqi,hlt,hqB⟩:=hq1 q T n yax;rw [hf] at hj
  simp only [Fact.ok,hgj,hg q hqi,hg k hki] at hj ⊢
  refine ⟨hj.1,?_⟩;rw [hst.block _ hlt (fun q2 T2 n2 hq h=>?_) (fun _=>⟨fun h=>by have:=hSB _ h; omega,fun k9 hk hr=>by have h9:=hzq k9 q T n hk yax; omega⟩)]
  ·exact hj.2
  ·exact (hq2 q2 T2 n2 hq).2.2.1 q T n yax h
 | pred p hp=>
  rw [hf] at hj
  simp only [Fact.ok,hgj] at hj ⊢
  refine hp _ _ _ _ _ hj ⟨hst.os,hst.tape,hst.output,hst.size,fun b hb=>hst.block b kw (fun q T n hq h=>?_) (fun _=>⟨fun h=>?_,fun k hk hr=>?_⟩)⟩
  ·have h1:=(hq2 q T n hq).1
   have:=(hq2 q T n hq).2.2.2.2 (hne q T n hq fun _ _=>by rw [hf]; nofun)
   omega
  ·rcases hb with hb | hb
   ·exact hb.2 h
   ·have:=hSB _ h; omega
  ·have h9:=hz1 k hk (by rw [hf]; nofun)
   have h8:=hzB k hk;omega
 | effW p hp=>
  rw [hf] at hj
  simp only [Fact.ok,hgj] at hj ⊢
  refine hp _ _ _ _ _ hj ⟨hst.os,hst.tape,hst.output,hst.size,fun b hb _=>hst.block b hb (fun q T n hq=>absurd hq (hww yax q T n)) (fun h=>absurd (show (fs j).sh=.eff from by rw [hf]; rfl) (he h))⟩
 | effCW js p hp=>
  rw [hf] at hj
  simp only [Fact.ok,hgj] at hj ⊢
  refine hp _ _ _ _ _ hj ⟨hst.os,hst.tape,hst.output,hst.size,fun b hb _=>hst.block b hb (fun q T n hq=>absurd hq (hww yax q T n)) (fun h=>absurd (show (fs j).sh=.eff from by rw [hf]; rfl) (he h))⟩
 | whole p hp=>
  rw [hf] at hj
  simp only [Fact.ok,hgj] at hj ⊢
  refine hp _ _ _ _ _ hj ⟨hst.os,hst.tape,hst.output,hst.size,fun b hb hn=>hst.block b hb (fun q T n hq=>absurd hq (hwh yax q T n)) (fun _=>⟨fun h=>hn (hSB b h) h,fun k hk _=>hzw k hk yax⟩)⟩
 | eff p hp=>
  rw [hf] at hj
  simp only [Fact.ok,hgj] at hj ⊢
  refine hp _ _ _ _ _ hj ⟨hst.os,hst.tape,hst.output,hst.size,fun b hb=>hst.block b kw (fun q T n hq h=>?_) (fun h=>?_)⟩
  ·have h1:=(hq2 q T n hq).1
   have:=(hq2 q T n hq).2.2.2.2 (hne q T n hq fun _ _=>by rw [hf]; nofun)
   omega
  ·exact absurd (show (fs j).sh=.eff from by rw [hf]; rfl) (he h)
 | cons q0 p hp=>
  rw [hf] at hj
  simp only [Fact.ok,hgj] at hj ⊢
  intro h0;have hqi:q0≠i:=fun e=>hi0 (e ▸ h0)
  rw [hg q0 hqi] at h0
  refine hp _ _ _ _ _ (hj h0) ⟨hst.os,hst.tape,hst.output,hst.size,fun b hb=>hst.block b kw (fun q T n hq h=>?_) (fun _=>⟨fun h=>?_,fun k hk hr=>?_⟩)⟩
  ·have h1:=(hq2 q T n hq).1
   have:=(hq2 q T n hq).2.2.2.2 (hne q T n hq fun _ _=>by rw [hf]; nofun)
   omega
  ·rcases hb with hb | hb
   ·exact hb.2 h
   ·have:=hSB _ h; omega
  ·have h9:=hz1 k hk (by rw [hf]; simp [Fact.until,hqi])
   have h8:=hzB k hk;omega
 | effC j0 p hp=>
  rw [hf] at hj
  simp only [Fact.ok,hgj] at hj ⊢
  refine hp _ _ _ _ _ hj ⟨hst.os,hst.tape,hst.output,hst.size,fun b hb=>hst.block b kw (fun q T n hq h=>?_) (fun h=>?_)⟩
  ·have h1:=(hq2 q T n hq).1
   have:=(hq2 q T n hq).2.2.2.2 (hne q T n hq fun _ _=>by rw [hf]; nofun)
   omega
  ·exact absurd (show (fs j).sh=.eff from by rw [hf]; rfl) (he h)
theorem Fact.rH {f:Fact B S} {g g':Nat→Gh} {i:Nat} {v:Value} {w w':World} (h:f.mk g v w w') (hi:g' i=⟨v,w.heap.size,w'.heap.size⟩) (hq:∀ q T n,f.sh=.store q T n→g' q=g q) (hnd:∀ q,q∈f.needs→g' q=g q):f.ok g' i w':=by
 cases f with
 | any=>trivial
 | val c=>simp only [Fact.ok,hi]; exact h.2
 | new ob=>obtain ⟨hb,b,h1,h2,h3⟩:=h; simp only [Fact.ok,hi]; subst h2; exact ⟨h1,q7 h3,h3⟩
 | slice ob l=>obtain ⟨hb,b,h1,h2,h3⟩:=h; simp only [Fact.ok,hi]; subst h2; exact ⟨h1,q7 h3,h3⟩
 | cell T n=>obtain ⟨hb,b,h1,h2,c,h3,h4⟩:=h; simp only [Fact.ok,hi]; subst h2; exact ⟨h1,q7 h3,c,h3,h4⟩
 | stored q c T n hn=>simp only [Fact.ok,hi,hq q T n rfl]; exact ⟨h.2,h.1.at_⟩
 | dep q p=>simp only [Fact.ok,hi,hnd q (List.mem_singleton.2 rfl)]; exact h.2
 | depN qs p=>
  simp only [Fact.ok,hi]
  rw [List.map_congr_left (g:=fun q=>(g q).v) fun q hq=>by rw [hnd q hq]]
  exact h.2
 | storedD q j c T n=>simp only [Fact.ok,hi,hq q T n rfl,hnd j (List.mem_singleton.2 rfl)]; exact ⟨h.2.1,h.1.at_⟩
 | pred p hp=>simp only [Fact.ok,hi]; exact h.2
 | whole p hp=>simp only [Fact.ok,hi]; exact h.2
 | effW p hp=>simp only [Fact.ok,hi]; exact h.2
 | cons q p hp=>simp only [Fact.ok,hi]; exact fun _=>h.2
 | effC j p hp=>simp only [Fact.ok,hi]; exact h.2
 | effCW j p hp=>simp only [Fact.ok,hi]; exact h.2
 | eff p hp=>simp only [Fact.ok,hi]; exact h.2
theorem hH {f:Fact B S} {g:Nat→Gh} {i:Nat} {w:World} {T:TypeId} {n:Nat} (h:f.ok g i w) (hs:f.sh=.cell T n):(g i).lo<(g i).hi:=by
 cases f with
 | cell T n=>exact h.2.1
 | _=>cases hs
theorem jI (fs:Nat→Fact B S) (hW:(∀ i,(fs i).isW=false)∨∀ i q T n,(fs i).sh≠.store q T n) (hB:w.heap.size=B) (hSB:∀ b,S b→b<B)
  (hpos:0<B) (hE:∀ i j,j∈(fs i).eats→(∃ o,L[i]?=some o∧bF o j=true)∧(fs j).until=some i∧∀ k,(fs k).sh≠.whole)
  (hs:freely L (fun i=>(fs i).sh)=true) (hN:∀ i o,L[i]?=some o→∀ q,q∈(fs i).needs→bF o q=true) (he:bV P L fs a { w with drawn:=w.drawn+1 } L 0)
  (hl:∀ g w',w'.os=w.os→w'.tape=w.tape→w'.output=w.output→w.heap.size≤w'.heap.size→(∀ b,b<B→¬ S b→w'.heap[b]?=w.heap[b]?)→
   (∀ i,i<L.length→(fs i).ok g i w'∧B≤(g i).lo∧(g i).lo≤(g i).hi∧(g i).hi≤w'.heap.size)→
   (∀ i j,i≠j→i<L.length→j<L.length→(g i).hi≤(g j).lo∨(g j).hi≤(g i).lo)→Q .normal (puts L (fun j=>(g j).v) 0 a) w') :
  wpAny P .any L.toArray Q L.toArray.size (Array.replicate L.toArray.size false) a { w with drawn:=w.drawn+1 }:=by
 have hdist:distinct L=true:=by simp only [freely,Bool.and_eq_true] at hs; exact hs.1
 refine nZ (fun listed a' w'=>listed.size=L.length∧∃ g,FInv L fs a { w with drawn:=w.drawn+1 } listed g a' w') ?_ ?_ _ _ _ _ ?_ ?_
 ·rintro listed a' w' i o ⟨hsz,g,hI⟩ ho h0 hall
  have ho:L[i]?=some o:=by simpa using ho
  have hil:i<L.length:=(List.getElem?_eq_some_iff.1 ho).1;obtain ⟨hback,hstore,heff,_⟩:=dH hs ho;have hf:listed.getD i false=false:=by rw [gT kw false true]; exact h0
  have hdep:∀ j,bF o j=true→listed.getD j false=true∧j<L.length:=by
   intro j hj;obtain ⟨e,hem,heb,rfl⟩:=eS hj;exact ⟨hall e hem heb,by have:=hback e hem heb; omega⟩
  have hearly:early L (fun i=>(fs i).sh) i=true→effDone L (fun i=>(fs i).sh) listed=false:=by
   intro h;rw [effDone,List.any_eq_false];rintro ⟨o2,j⟩ hm2;have h1:=List.all_eq_true.1 h _ hm2;have ho2:L[j]?=some o2:=by
    obtain ⟨k,hk⟩:=List.mem_iff_getElem?.1 hm2;rw [List.getElem?_zipIdx] at hk
    cases hkk:L[k]? with
    | none=>rw [hkk] at hk; cases hk
    | some z=>
     rw [hkk] at hk
     simp only [Option.map_some,Option.some.injEq,Prod.mk.injEq,Nat.zero_add] at hk
     rw [←hk.2,hkk,hk.1]
   cases hc:(fs j).sh with
   | eff=>
    simp only [hc,Bool.or_eq_true,decide_eq_true_eq] at h1 ⊢
    rcases h1 with h1 | h1
    ·subst h1; simp [hf]
    ·intro hlj
     obtain ⟨e,hem,heb,hei⟩:=eS h1;have:=hI.closed j o2 ho2 hlj e hem heb;rw [hei,hf] at this
     cases this
   | _=>simp [hc]
  have hBw:B≤w'.heap.size:=by rw [←hB]; exact hI.size
  have hy:=lD L 0 i o he ho g w' (by rw [Nat.zero_add]; exact hI.fresh i hil hf) hI.os hI.tape hI.output hI.size (fun b hb h=>hI.old b hb (h.imp (fun z=>z) (by rw [Nat.zero_add]; exact hearly)))
   (fun j hj=>⟨(hI.facts j (hdep j hj).2 (hdep j hj).1).1,(hI.facts j (hdep j hj).2 (hdep j hj).1).2.1,(hI.facts j (hdep j hj).2 (hdep j hj).1).2.2.2,fun q hq hqj=>hI.apart j q (Ne.symm hqj) (hdep j hj).2 (hdep q hq).2 (hdep j hj).1 (hdep q hq).1⟩)
  rw [Nat.zero_add] at hy
  rw [hI.act]
  refine hy.wp fun v w'' hmk=>⟨by simpa using hsz,(fun j=>if j=i then ⟨v,w'.heap.size,w''.heap.size⟩ else g j),?_⟩
  have hst:=Fact.step hmk;have hg:∀ k,k≠i→(fun j=>if j=i then (⟨v,w'.heap.size,w''.heap.size⟩:Gh) else g j) k=g k:=fun k hk=>if_neg hk
  have hgi:(fun j=>if j=i then (⟨v,w'.heap.size,w''.heap.size⟩:Gh) else g j) i=⟨v,w'.heap.size,w''.heap.size⟩:=if_pos rfl
  generalize (fun j=>if j=i then (⟨v,w'.heap.size,w''.heap.size⟩:Gh) else g j)=g' at hg hgi
  have hq2:∀ q T n,(fs i).sh=.store q T n→q≠i∧q<L.length∧listed.getD q false=true∧(fs q).sh=.cell T n∧B≤(g q).lo∧(g q).lo<(g q).hi∧(g q).hi≤w'.heap.size:=by
   intro q T n hq;obtain ⟨h1,h2,h3⟩:=hstore q T n hq;obtain ⟨h4,h5⟩:=hdep q h1;have h6:=hI.facts q h5 h4;exact ⟨fun h=>(by rw [h,hf] at h4; cases h4),h5,h4,h2,h6.2.1,hH h6.1 h2,h6.2.2.2⟩
  have hz2:∀ k,k∈(fs i).eats→k<L.length∧listed.getD k false=true∧B≤(g k).lo∧(fs k).until=some i∧∀ j,(fs j).sh≠.whole:=by
   intro k hk;obtain ⟨⟨o',ho',ha⟩,hu,hx⟩:=hE i k hk;rw [ho] at ho'
   simp only [Option.some.injEq] at ho'
   subst ho';obtain ⟨h1,h2⟩:=hdep k ha;exact ⟨h2,h1,(hI.facts k h2 h1).2.1,hu,hx⟩
  have hmono:effDone L (fun i=>(fs i).sh) (listed.setIfInBounds i true)=false→effDone L (fun i=>(fs i).sh) listed=false∧(fs i).sh≠.eff:=by
   intro h;rw [effDone,List.any_eq_false] at h
   constructor
   ·rw [effDone,List.any_eq_false]
    rintro ⟨o2,j⟩ hm2;have h1:=h _ hm2;cases hc:(fs j).sh with
    | eff=>
     simp only [hc] at h1 ⊢
     intro hlj;exact h1 (getD_set_true hlj)
    | _=>simp [hc]
   ·intro hsh
    have hm2:(o,i)∈L.zipIdx:=by
     rw [List.mem_iff_getElem?]
     exact ⟨i,by simp [ho]⟩
    have h1:=h _ hm2;simp only [hsh] at h1
    exact h1 (by simp [hsz,hil])
  constructor
  ·rw [o6 _ _ _ _ i _ _ hdist ho]
   refine lr _ _ _ _ _ fun j _=>?_;rw [Nat.zero_add]
   by_cases hji:j=i
   ·subst hji; rw [if_pos rfl,hgi]
   ·rw [if_neg hji,hg j hji]
  ·intro q oq hq hlq e hee heb
   by_cases hqi:q=i
   ·subst hqi
    rw [hq] at ho
    cases ho
    exact getD_set_true (hall e hee heb)
   ·exact getD_set_true (hI.closed q oq hq (eM hlq hqi) e hee heb)
  ·exact hst.os.trans hI.os
  ·exact hst.tape.trans hI.tape
  ·exact hst.output.trans hI.output
  ·exact Nat.le_trans hI.size hst.size
  ·intro b hb h
   rw [hst.block b kw (fun q T n hq=>by have:=hq2 q T n hq; omega) (fun hsh=>⟨?_,fun k hk hr=>?_⟩),hI.old b hb (h.imp (fun z=>z) fun h=>(hmono h).1)]
   ·rcases h with h | h
    ·exact h
    ·exact absurd hsh (hmono h).2
   ·have:=(hz2 k hk).2.2.1; omega
  ·intro j hjl hlj
   by_cases hji:j=i
   ·subst hji
    refine ⟨Fact.rH hmk hgi (fun q T n hq=>hg q (hq2 q T n hq).1) (fun q hq=>hg q fun h=>?_),?_⟩
    ·have h4:=(hdep q (hN j o ho q hq)).1
     rw [h,hf] at h4; cases h4
    rw [hgi]
    exact ⟨hBw,hst.size,Nat.le_refl _⟩
   ·have hlj:=eM hlj hji
    obtain ⟨h1,h2,h3,h4⟩:=hI.facts j hjl hlj;refine ⟨Step.ok hSB hst hg hji h1 h2 h4 hBw ?_ ?_ ?_ ?_ (fun hw=>?_) (fun q hq hqi=>?_) (fun k hk hjk=>hI.apart j k hjk hjl (hz2 k hk).1 hlj (hz2 k hk).2.1) (fun k hk=>(hz2 k hk).2.2.1)
      (fun k q T n hk hq=>?_) (fun k hk=>(hz2 k hk).2.2.2.1) (fun k hk=>(hz2 k hk).2.2.2.2 j) (by rw [hgi]; have:=hst.size; simp only; omega),?_⟩
    ·intro q T n hq
     obtain ⟨oj,hoj⟩:∃ oj,L[j]?=some oj:=⟨L[j],by simp [hjl]⟩
     obtain ⟨_,hs2,_⟩:=dH hs hoj;obtain ⟨h5,h6,_⟩:=hs2 q T n hq;obtain ⟨e,hem,heb,hei⟩:=eS h5;have h7:=hI.closed j oj hoj hlj e hem heb;rw [hei] at h7
     have hql:q<L.length:=by
      have:=(dH hs hoj).1 e hem heb;omega
     have h8:=hI.facts q hql h7;have h9:=hH h8.1 h6;exact ⟨fun h=>(by rw [h,hf] at h7; cases h7),kw,h8.2.1⟩
    ·intro q T n hq
     obtain ⟨a1,a2,a3,a4,a5,a6,a7⟩:=hq2 q T n hq;refine ⟨a5,a4,fun q' T' n' hq' heq=>?_,fun hjq hlt heq=>?_,fun hjq=>?_⟩
     ·obtain ⟨oj,hoj⟩:∃ oj,L[j]?=some oj:=⟨L[j],by simp [hjl]⟩
      obtain ⟨_,hs2,_⟩:=dH hs hoj;obtain ⟨h5,h6,h10⟩:=hs2 q' T' n' hq';obtain ⟨e,hem,heb,hei⟩:=eS h5;have h7:=hI.closed j oj hoj hlj e hem heb;rw [hei] at h7
      have hql:q'<L.length:=by
       have:=(dH hs hoj).1 e hem heb;omega
      have h9:=hH (hI.facts q' hql h7).1 h6;have hqq:q'≠q:=fun h=>by
       subst h;exact h10 i hil (Ne.symm hji) T n hq
      rcases hI.apart q' q hqq hql a2 h7 a3 with h | h <;> omega
     ·rcases hI.apart j q hjq hjl a2 hlj a3 with h | h <;> omega
     ·rcases hI.apart j q hjq hjl a2 hlj a3 with h | h <;> omega
    ·intro hsh
     exact heff hsh j hjl hji
    ·intro hsh
     obtain ⟨oj,hoj⟩:∃ oj,L[j]?=some oj:=⟨L[j],by simp [hjl]⟩
     exact (dH hs hoj).2.2.2 hsh i hil
    ·rcases hW with hW | hW
     ·rw [hW j] at hw; cases hw
     ·exact hW i
    ·obtain ⟨oj,hoj⟩:∃ oj,L[j]?=some oj:=⟨L[j],by simp [hjl]⟩
     obtain ⟨e,hem,heb,hei⟩:=eS (hN j oj hoj q hq);have h7:=hI.closed j oj hoj hlj e hem heb;rw [hei,hqi,hf] at h7
     cases h7
    ·obtain ⟨oj,hoj⟩:∃ oj,L[j]?=some oj:=⟨L[j],by simp [hjl]⟩
     obtain ⟨_,hs2,_⟩:=dH hs hoj;obtain ⟨h5,h6,_⟩:=hs2 q T n hq;obtain ⟨e,hem,heb,hei⟩:=eS h5;have h7:=hI.closed j oj hoj hlj e hem heb;rw [hei] at h7
     have hql:q<L.length:=by
      have:=(dH hs hoj).1 e hem heb;omega
     have h9:=hH (hI.facts q hql h7).1 h6;obtain ⟨k1,k2,k3,k4,_⟩:=hz2 k hk;have hqk:q≠k:=fun e=>by
      subst e;cases hc:fs q <;> rw [hc] at h6 k4 <;> first | (cases h6; done) | (cases k4; done)
     rcases hI.apart q k hqk hql k1 h7 k2 with h | h <;> omega
    ·rw [hg j hji]
     exact ⟨h2,h3,Nat.le_trans h4 hst.size⟩
  ·intro j k hjk hjl hkl hlj hlk
   by_cases hji:j=i
   ·subst hji
    rw [hgi,hg k (Ne.symm hjk)]
    exact .inr (hI.facts k hkl (eM hlk (Ne.symm hjk))).2.2.2
   ·by_cases hki:k=i
    ·subst hki
     rw [hgi,hg j hji]
     exact .inl (hI.facts j hjl (eM hlj hji)).2.2.2
    ·rw [hg j hji,hg k hki]
     exact hI.apart j k hjk hjl hkl (eM hlj hji) (eM hlk hki)
  ·intro j hjl hlj
   by_cases hji:j=i
   ·subst hji
    exfalso
    simp [hsz,hil] at hlj
   ·rw [hg j hji]
    refine hI.fresh j hjl ?_
    rwa [getD_set_ne false (Ne.symm hji)] at hlj
 ·rintro listed a' w' ⟨hsz,g,hI⟩ hr
  have hall:∀ i,i<L.length→listed.getD i false=true:=by
   intro i
   induction i using Nat.strongRecOn with
   | _ i ih=>
    intro hi;cases hc:listed.getD i false with
    | true=>rfl
    | false=>
     exfalso
     have hm:i∈Region.ready .any L.toArray listed:=by
      refine mem_ready.2 ⟨?_,L[i],by simp [hi],?_⟩
      ·rw [gT kw true false]; exact hc
      ·intro e he heb
       have:=(dH hs (i:=i) (o:=L[i]) (by simp [hi])).1 e he heb
       exact ih e.on this kw
     rw [hr] at hm
     cases hm
  rw [hI.act]
  exact hl g w' hI.os hI.tape hI.output hI.size (fun b hb h=>hI.old b hb (.inl h)) (fun i hi=>hI.facts i hi (hall i hi)) fun i j hij hi hj=>hI.apart i j hij hi hj (hall i hi) (hall j hj)
 ·have:∀ n (b:Array Bool),left n b≤n:=fun n b=>by
   unfold left;exact Nat.le_trans (List.length_filter_le _ _) yar
  exact this _ _
 ·refine ⟨by simp,(fun i=>⟨start L a i,0,0⟩),?_⟩
  constructor
  ·refine (nP a _ _ _ fun i oi hoi=>?_).symm
   simp only [start,Nat.zero_add,hoi]
  ·intro i o _ h; rw [eR] at h; cases h
  ·rfl
  ·rfl
  ·rfl
  ·exact Nat.le_refl _
  ·intro b _ _; rfl
  ·intro i _ h; rw [eR] at h; cases h
  ·intro i j _ _ _ h; rw [eR] at h; cases h
  ·intro i _ _; rfl
theorem og {id:Nat} (fs:Nat→Fact B S) (hW:(∀ i,(fs i).isW=false)∨∀ i q T n,(fs i).sh≠.store q T n) (hm:P.follows .mixedOrders=true) (hB:w.heap.size=B) (hSB:∀ b,S b→b<B)
  (hpos:0<B) (hE:∀ i j,j∈(fs i).eats→(∃ o,L[i]?=some o∧bF o j=true)∧(fs j).until=some i∧∀ k,(fs k).sh≠.whole)
  (hs:freely L (fun i=>(fs i).sh)=true) (hN:∀ i o,L[i]?=some o→∀ q,q∈(fs i).needs→bF o q=true) (he:bV P L fs a { w with drawn:=w.drawn+1 } L 0)
  (hl:∀ g w',w'.os=w.os→w'.tape=w.tape→w'.output=w.output→w.heap.size≤w'.heap.size→(∀ b,b<B→¬ S b→w'.heap[b]?=w.heap[b]?)→
   (∀ i,i<L.length→(fs i).ok g i w'∧B≤(g i).lo∧(g i).lo≤(g i).hi∧(g i).hi≤w'.heap.size)→
   (∀ i j,i≠j→i<L.length→j<L.length→(g i).hi≤(g j).lo∨(g j).hi≤(g i).lo)→Q .normal (puts L (fun j=>(g j).v) 0 a) w') :
  (Code.region id L.toArray true).wp P Q a w:=wp_region_any hm (jI fs hW hB hSB hpos hE hs hN he hl)
end
def okW {B:Nat} {S:Nat→Prop} (L:List Oper) (fl:List (Fact B S)):Bool:=((fl.all fun f=>!f.isW)||fl.all fun f=>match f.sh with | .store _ _ _=>false | _=>true)&&L.zipIdx.all fun (o,i)=>(fact fl i).needs.all fun q=>bF o q
theorem iT {B:Nat} {S:Nat→Prop} {L:List Oper} {fl:List (Fact B S)} (h:okW L fl=true):∀ i o,L[i]?=some o→∀ q,q∈(fact fl i).needs→bF o q=true:=by
 intro i o ho q hq;simp only [okW,Bool.and_eq_true] at h
 have hm:(o,i)∈L.zipIdx:=by
  rw [List.mem_iff_getElem?]
  exact ⟨i,by simp [ho]⟩
 exact List.all_eq_true.1 (List.all_eq_true.1 h.2 _ hm) q hq
theorem iQ {B:Nat} {S:Nat→Prop}:∀ (fl:List (Fact B S)) (i:Nat),fact fl i∈fl∨fact fl i=.any
 | [],_=>.inr rfl
 | _::_,0=>.inl (List.mem_cons_self ..)
 | _::l,n+1=>(iQ l n).imp (List.mem_cons_of_mem _) id
theorem iU {B:Nat} {S:Nat→Prop} {L:List Oper} {fl:List (Fact B S)} (h:okW L fl=true):(∀ i,(fact fl i).isW=false)∨∀ i q T n,(fact fl i).sh≠.store q T n:=by
 simp only [okW,Bool.and_eq_true,Bool.or_eq_true] at h
 have h:=h.1;simp only [List.all_eq_true] at h
 rcases h with h | h
 ·refine .inl fun i=>?_
  rcases iQ fl i with hm | hm
  ·simpa using h _ hm
  ·rw [hm]; rfl
 ·refine .inr fun i q T n hs=>?_
  rcases iQ fl i with hm | hm
  ·have:=h _ hm
   rw [hs] at this
   cases this
  ·rw [hm] at hs; cases hs
def okE {B:Nat} {S:Nat→Prop} (L:List Oper) (fl:List (Fact B S)):Bool:=fl.zipIdx.all fun (f,i)=>f.eats.all fun j=>(match L[i]? with | some o=>bF o j | none=>false)&&((fact fl j).until==some i)&&fl.all fun f=>(match f.sh with | .whole=>false | _=>true)
theorem qL {B:Nat} {S:Nat→Prop}:∀ (fl:List (Fact B S)) (i:Nat),fact fl i=.any∨fl[i]?=some (fact fl i)
 | [],_=>.inl rfl
 | _::_,0=>.inr rfl
 | _::l,n+1=>by simpa [fact] using qL l n
theorem wA {B:Nat} {S:Nat→Prop} {L:List Oper} {fl:List (Fact B S)} (h:okE L fl=true):∀ i j,j∈(fact fl i).eats→(∃ o,L[i]?=some o∧bF o j=true)∧(fact fl j).until=some i∧∀ k,(fact fl k).sh≠.whole:=by
 intro i j he
 rcases qL fl i with hi | hi
 ·rw [hi] at he; cases he
 ·have hm:(fact fl i,i)∈fl.zipIdx:=by
   rw [List.mem_iff_getElem?]
   exact ⟨i,by simp [hi]⟩
  have h1:=List.all_eq_true.1 (List.all_eq_true.1 h _ hm) j he;simp only [Bool.and_eq_true,beq_iff_eq] at h1
  obtain ⟨⟨h1,h2⟩,h3⟩:=h1;refine ⟨?_,h2,fun k=>?_⟩
  ·cases hl:L[i]? with
   | none=>rw [hl] at h1; cases h1
   | some o=>rw [hl] at h1; exact ⟨o,rfl,h1⟩
  ·rcases qL fl k with hk | hk
   ·rw [hk]; exact nofun
   ·have h4:=List.all_eq_true.1 h3 _ (List.mem_of_getElem? hk)
    intro hs;rw [hs] at h4
    cases h4
section
variable {P : Program} {Q : Exit → Act → World → Prop} {L : List Oper} {a : Act} {w : World} {N : Nat} {s : SL} {bs : List Nat}
theorem bS {B:Nat} {S:Nat→Prop} {fs:Nat→Fact B S} {w0:World} {i:Nat}:bV P L fs a w0 [] i:=trivial
theorem cx {fs:Nat→Fact w.heap.size (fun b=>b∈bs)} {o:Oper} {l:List Oper} {i:Nat} (r:Fr a N s) (hd:(o.guard.isNone&&dstsIn N L)=true) (he:early L (fun i=>(fs i).sh) i=true)
  (h:∀ a' g w',Below w.heap.size w w'→(∀ j,bF o j=true→(fs j).ok g j w'∧w.heap.size≤(g j).lo∧(g j).hi≤w'.heap.size∧∀ q,bF o q=true→q≠j→(g j).hi≤(g q).lo∨(g q).hi≤(g j).lo)→Fr a' N (putsS L (fun j=>(g j).v) 0 s)→
   Yields P o a' w' fun v w''=>(fs i).mk g v w' w'') (h2:bV P L fs a w l (i+1)):bV P L fs a w (o::l) i:=by
 simp only [Bool.and_eq_true] at hd
 exact ⟨fun g w' _ h1 h3 h4 h5 h6 h7=>.plain hd.1 (h _ g w' ⟨h1,h3,h4,h5,fun b hb=>h6 b hb (.inr he)⟩ h7 (r.puts L _ 0 hd.2)),h2⟩
theorem aO {fs:Nat→Fact w.heap.size (fun b=>b∈bs)} {o:Oper} {l:List Oper} {i:Nat} (r:Fr a N s) (hd:(o.guard.isNone&&dstsIn N L)=true)
  (h:∀ a' g w',Chg (fun b=>b∈bs) w w'→(∀ j,bF o j=true→(fs j).ok g j w'∧w.heap.size≤(g j).lo∧(g j).hi≤w'.heap.size∧∀ q,bF o q=true→q≠j→(g j).hi≤(g q).lo∨(g q).hi≤(g j).lo)→Fr a' N (putsS L (fun j=>(g j).v) 0 s)→
   Yields P o a' w' fun v w''=>(fs i).mk g v w' w'') (h2:bV P L fs a w l (i+1)):bV P L fs a w (o::l) i:=by
 simp only [Bool.and_eq_true] at hd
 exact ⟨fun g w' _ h1 h3 h4 h5 h6 h7=>.plain hd.1 (h _ g w' ⟨h1,h3,h4,h5,fun b hb hn=>h6 b hb (.inl hn)⟩ h7 (r.puts L _ 0 hd.2)),h2⟩
theorem eachC {fs:Nat→Fact w.heap.size (fun b=>b∈bs)} {o:Oper} {l:List Oper} {i:Nat} (r:Fr a N s) (hd:(o.guard.isNone&&dstsIn N L)=true) (he:early L (fun i=>(fs i).sh) i=true)
  (h:∀ a' g w',(g i).hi=0→Below w.heap.size w w'→(∀ j,bF o j=true→(fs j).ok g j w'∧w.heap.size≤(g j).lo∧(g j).hi≤w'.heap.size∧∀ q,bF o q=true→q≠j→(g j).hi≤(g q).lo∨(g q).hi≤(g j).lo)→Fr a' N (putsS L (fun j=>(g j).v) 0 s)→
   Yields P o a' w' fun v w''=>(fs i).mk g v w' w'') (h2:bV P L fs a w l (i+1)):bV P L fs a w (o::l) i:=by
 simp only [Bool.and_eq_true] at hd
 exact ⟨fun g w' h0 h1 h3 h4 h5 h6 h7=>.plain hd.1 (h _ g w' h0 ⟨h1,h3,h4,h5,fun b hb=>h6 b hb (.inr he)⟩ h7 (r.puts L _ 0 hd.2)),h2⟩
theorem vA {id:Nat} (bs:List Nat) (fl:List (Fact w.heap.size (fun b=>b∈bs))) (hm:P.follows .mixedOrders=true) (r:Fr a N s) (hS:∀ b,b∈bs→b<w.heap.size) (hne:∃ b,b∈bs) (hs:(freely L (fun i=>(fact fl i).sh)&&dstsIn N L&&okW L fl&&okE L fl)=true)
  (he:bV P L (fact fl) a { w with drawn:=w.drawn+1 } L 0)
  (hl:∀ a' g w',Chg (fun b=>b∈bs) w w'→(∀ i,Nat.ble (i+1) L.length=true→(fact fl i).ok g i w'∧w.heap.size≤(g i).lo∧(g i).lo≤(g i).hi∧(g i).hi≤w'.heap.size)→
   (∀ i j,(!(i==j)&&Nat.ble (i+1) L.length&&Nat.ble (j+1) L.length)=true→(g i).hi≤(g j).lo∨(g j).hi≤(g i).lo)→Fr a' N (putsS L (fun j=>(g j).v) 0 s)→Q .normal a' w') :
  (Code.region id L.toArray true).wp P Q a w:=by
 simp only [Bool.and_eq_true] at hs
 have hpos:0<w.heap.size:=by
  obtain ⟨b,hb⟩:=hne;have:=hS b hb;omega
 refine og (fact fl) (iU hs.1.2) hm rfl hS hpos (wA hs.2) hs.1.1.1 (iT hs.1.2) he fun g w' h1 h2 h3 h4 h5 h6 h7=>hl _ g w' ⟨h1,h2,h3,h4,fun b hb hn=>h5 b hb hn⟩ (fun i hi=>h6 i (Nat.le_of_ble_eq_true hi)) (fun i j hij=>?_) (r.puts L _ 0 hs.1.1.2)
 simp only [Bool.and_eq_true,Bool.not_eq_true',beq_eq_false_iff_ne] at hij
 exact h7 i j hij.1.1 (Nat.le_of_ble_eq_true hij.1.2) (Nat.le_of_ble_eq_true hij.2)
theorem uF {id:Nat} (k:Nat) (fl:List (Fact w.heap.size (fun b=>b∈([]:List Nat)))) (hm:P.follows .mixedOrders=true) (r:Fr a N s) (hpos:0<w.heap.size)
  (hs:(drawnOk L k&&shapely (L.take k)&&noGuards (L.take k)&&(freely (L.take k) (fun i=>(fact fl i).sh)&&dstsIn N (L.take k)&&okW (L.take k) fl&&okE (L.take k) fl))=true)
  (he:bV P (L.take k) (fact fl) a { w with drawn:=w.drawn+1 } (L.take k) 0)
  (hl:∀ a' g w',Below w.heap.size w w'→(∀ i,Nat.ble (i+1) (L.take k).length=true→(fact fl i).ok g i w'∧w.heap.size≤(g i).lo∧(g i).lo≤(g i).hi∧(g i).hi≤w'.heap.size)→
   (∀ i j,(!(i==j)&&Nat.ble (i+1) (L.take k).length&&Nat.ble (j+1) (L.take k).length)=true→(g i).hi≤(g j).lo∨(g j).hi≤(g i).lo)→Fr a' N (putsS (L.take k) (fun j=>(g j).v) 0 s)→wpList P L.toArray Q (L.drop k) a' w') :
  (Code.region id L.toArray true).wp P Q a w:=by
 simp only [Bool.and_eq_true] at hs
 obtain ⟨⟨⟨hs1,hs2⟩,hs3⟩,hs⟩:=hs;refine qF hm hs1 hs2 hs3 (jI (fact fl) (iU hs.1.2) rfl (fun _ h=>by cases h) hpos (wA hs.2) hs.1.1.1 (iT hs.1.2) he fun g w' h1 h2 h3 h4 h5 h6 h7=>⟨rfl,hl _ g w' ⟨h1,h2,h3,h4,fun b hb=>h5 b hb fun h=>by cases h⟩ (fun i hi=>h6 i (Nat.le_of_ble_eq_true hi)) (fun i j hij=>?_) (r.puts (L.take k) _ 0 hs.1.1.2)⟩)
 simp only [Bool.and_eq_true,Bool.not_eq_true',beq_eq_false_iff_ne] at hij
 exact h7 i j hij.1.1 (Nat.le_of_ble_eq_true hij.1.2) (Nat.le_of_ble_eq_true hij.2)
end
end Go.Proofs.YtbbipmelhmgmfaaGreat.Fc
namespace Go.Proofs.YtbbipmelhmgmfaaGreat
open Go.RowKit
theorem Chg.keptC {bs:List Nat} {g:Nat→Gh} {j:Nat} {w w':World} (h:Chg (fun b=>b∈rg (g j).lo (g j).hi∨b∈bs) w w'):Kept w.heap.size (fun b=>b∈bs∨∃ k,k∈[j]∧(g k).lo≤b∧b<(g k).hi) 0 0 w w':=
 ⟨h.os,h.tape,h.output,h.size,fun b hb=>by
  rcases hb with hb | hb
  ·exact h.block b hb.1 fun hz=>hb.2 (hz.elim (fun h=>.inr ⟨j,List.mem_singleton.2 rfl,ep.1 h⟩) .inl)
  ·omega⟩
theorem EffP.ofC {Z:Nat→Prop} {B:Nat} {c':Ck} {v:Value} {w w':World} (h:Done Z No [c'] w w') (hlt:∀ b,c'.has b→b<B):EffP B c' (fun _:Unit=>v) (fun _:Unit=>[]) v w.heap.size w'.heap.size w':=
 ⟨(),rfl,h.sep.1,hlt,lB⟩
end Go.Proofs.YtbbipmelhmgmfaaGreat

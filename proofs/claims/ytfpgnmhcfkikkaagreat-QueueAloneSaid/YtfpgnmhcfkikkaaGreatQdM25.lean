/- Some of our texts, one behind the other. -/
import Derived.Test.YtfpgnmhcfkikkaaGreatQdM23
import Derived.Test.YtfpgnmhcfkikkaaGreatQdM20
import Derived.Test.YtfpgnmhcfkikkaaGreatQdRefs12
set_option linter.all false
/- Ours. -/
namespace Go.Proofs.YtfpgnmhcfkikkaaGreat
open Go.RowKit
def heldF (H:List Bool) (n:Int):Bool:=bif decide (n≥0) then (bif decide (n<(H.length:Int)) then (H[n.toNat]?).getD false else false) else false
theorem zG {fu:Nat} {r:List Int} {H:List Bool} (h:r.length≤1000) (hf:2000≤fu):D.j8 fu r H=some (bQ (heldF H) r.length r):=by
  unfold D.j8;have ha:appD ([]:List Int) r=some r:=by unfold appD; rw [if_pos (by simp [jH]; omega)]; rfl
  rw [ha]
  simp only [Option.bind_some]
  have key:∀ (k:Nat) (left out:List Int) (q:Nat),k≤left.length→left.length≤1000→out.length+k≤1000→k<q→
      (runLoop (fun (x10:List Int × List Int × Int)=>(bif (decide (x10.2.2≥0)) then ((getI x10.1 x10.2.2).bind (fun (x15:Int)=>(Option.bind (bif (decide (x15≥0)) then (bif (decide (x15<(H.length:Int))) then ((getI H x15).bind (fun (x19:Bool)=>(some x19))) else (some false)) else (some false)) (fun (x20:Bool)=>(bif x20 then (some (Lp.next (x10.1,x10.2.1,(IntKind.i64.wrap (x10.2.2 - 1))))) else ((appD x10.2.1 ([x15])).bind (fun (x28:List Int)=>((getI x10.1 (IntKind.i64.wrap ((x10.1.length:Int) - 1))).bind (fun (x32:Int)=>((getI x10.1 x10.2.2).bind (fun (x33:Int)=>((sliceD (x10.1.set x10.2.2.toNat x32) 0 (IntKind.i64.wrap (((x10.1.set x10.2.2.toNat x32).length:Int) - 1))).bind (fun (x36:List Int)=>(some (Lp.next (x36,x28,(IntKind.i64.wrap (x10.2.2 - 1)))))))))))))))))) else (some (Lp.brk (Z:=List Int × List Int) (x10.1,x10.2.1,x10.2.2))))) q (left,out,(k:Int) - 1)).bind (afterLoop fun (x37:List Int × List Int × Int)=>(some (x37.1,x37.2.1)))=some ((bQ (heldF H) k left).1,out++(bQ (heldF H) k left).2):=by
    intro k
    induction k with
    | zero=>
      intro left out q _ _ _ hq;obtain ⟨q,rfl⟩:∃ z,q=z+1:=⟨q - 1,by omega⟩
      simp only [runLoop]
      rw [show decide (((0:Nat):Int) - 1≥0)=false from rfl]
      simp [goOn,afterLoop,bQ]
    | succ k ih=>
      intro left out q hk hl ho hq;obtain ⟨q,rfl⟩:∃ z,q=z+1:=⟨q - 1,by omega⟩
      have hk':k<left.length:=hk;simp only [runLoop];rw [show ((k+1:Nat):Int) - 1=(k:Int) from by omega,show decide ((k:Int)≥0)=true from by rw [decide_eq_true_eq]; omega,iB hk',bV (show -1000000≤(k:Int) - 1 by omega) (by omega)]
      simp only [cond_true,Option.bind_some]
      have hh:(bif (decide (left[k]≥0)) then (bif (decide (left[k]<(H.length:Int))) then ((getI H left[k]).bind (fun (x19:Bool)=>(some x19))) else (some false)) else (some false))=some (heldF H left[k]):=by
        unfold heldF;cases h1:decide (left[k]≥0)
        · rfl
        cases h2:decide (left[k]<(H.length:Int))
        · rfl
        simp only [decide_eq_true_eq] at h1 h2
        obtain ⟨m,hm⟩:∃ m:Nat,left[k]=(m:Int):=⟨left[k].toNat,by omega⟩
        have hml:m<H.length:=by omega
        simp only [cond_true]
        rw [hm,iB hml,Int.toNat_natCast,List.getElem?_eq_getElem hml]
        rfl
      rw [hh]
      simp only [Option.bind_some,bQ,List.getElem?_eq_getElem hk']
      cases hc:heldF H left[k]
      · have hap:appD out [left[k]]=some (out++[left[k]]):=by unfold appD; rw [if_pos (by simp only [jH,List.length_singleton]; omega)]
        have hlast:getI left (IntKind.i64.wrap ((left.length:Int) - 1))=some ((left.getLast?).getD 0):=by
          rw [bV (by omega) (by omega),show (left.length:Int) - 1=((left.length - 1:Nat):Int) from by omega,iB (by omega),List.getLast?_eq_getElem?,List.getElem?_eq_getElem (by omega)]
          rfl
        have hsl:sliceD (left.set (k:Int).toNat ((left.getLast?).getD 0)) 0 (IntKind.i64.wrap (((left.set (k:Int).toNat ((left.getLast?).getD 0)).length:Int) - 1))=some (left.set k ((left.getLast?).getD 0)).dropLast:=by
          rw [Int.toNat_natCast,List.length_set,bV (by omega) (by omega)]
          unfold sliceD;rw [if_pos (by rw [List.length_set]; omega),List.dropLast_eq_take];simp only [List.length_set,Int.toNat_zero,List.drop_zero,Nat.sub_zero]
          congr 2
          omega
        simp only [cond_false,hap,Option.bind_some,hlast,hsl,goOn,Bool.false_eq_true,if_false]
        rw [ih _ _ q (by simp; omega) (by simp; omega) (by simp; omega) (by omega)]
        simp
      · simp only [cond_true,goOn,if_true,Option.bind_some]
        exact ih left out q (by omega) hl (by omega) (by omega)
  unfold loopThen;have hw:IntKind.i64.wrap ((r.length:Int) - 1)=(r.length:Int) - 1:=bV (by omega) (by omega);rw [hw];have:=key r.length r [] fu (Nat.le_refl _) h (by simp; omega) (by omega);rw [List.nil_append] at this
  exact this
structure PR (N:Int) (P:Pool) (g:List Int) (o:List Bool):Prop where
  gl:(g.length:Int)=N
  ol:(o.length:Int)=N
  gen:∀ n,0≤n→n<N→rd g n=(P.st n).gen
theorem dB {α:Type} {a b:List α} (h:a.length+b.length≤1000000):appD a b=some (a++b):=by
  unfold appD; rw [if_pos (by simp only [jH]; omega)]
theorem PR.back {N m n:Int} {P:Pool} {g:List Int} {o o':List Bool} (h:PR N P g o) (hn:0≤n∧n<N) (ho:o'.length=o.length):PR N (P.back m n) (if (P.st n).gen≥m then g else g.set n.toNat (IntKind.i64.wrap ((P.st n).gen+1))) o':=by
  have hgl:=h.gl;refine ⟨by split <;> simp [hgl],by rw [ho]; exact h.ol,fun q q0 q1=>?_⟩
  show rd _ q=(if q=n then D.bB (P.st n) m else P.st q).gen
  unfold D.bB
  by_cases hm:(P.st n).gen≥m
  · rw [if_pos hm,show decide ((P.st n).gen≥m)=true from decide_eq_true hm,cond_true,h.gen q q0 q1]
    split
    · rename_i e; rw [e]
    · rfl
  · rw [if_neg hm,show decide ((P.st n).gen≥m)=false from decide_eq_false hm,cond_false,bE hn.1 (by omega) q0]
    split
    · rfl
    · exact h.gen q q0 q1
theorem Am {fu:Nat} {N m n room:Int} {P:Pool} {rt g:List Int} {o:List Bool} (h:PR N P g o) (hn:0≤n∧n<N) (hN:N≤1000) (hf:P.fr.length≤100000) :
    ∃ g' o',D.iY fu P.fr rt room g o m n=some ((P.back m n).fr,rt,room,g',o',m)∧PR N (P.back m n) g' o':=by
  have hgl:=h.gl;have hol:=h.ol;have e1:getI g n=some ((P.st n).gen):=by rw [fM hn.1 (by omega),h.gen n hn.1 hn.2]
  unfold D.iY;rw [dB (a:=([]:List Int)) (b:=g) (by simp; omega),dB (a:=([]:List Bool)) (b:=o) (by simp; omega)];simp only [Option.bind_some,List.nil_append];rw [e1];simp only [Option.bind_some]
  by_cases hm:(P.st n).gen≥m
  · rw [show decide ((P.st n).gen≥m)=true from decide_eq_true hm]
    obtain ⟨b,hb⟩:∃ b,getI o n=some b:=by
      unfold getI;rw [if_pos hn.1];exact ⟨_,List.getElem?_eq_getElem (by omega)⟩
    rw [hb]
    simp only [cond_true,Option.bind_some]
    refine ⟨g,o.set n.toNat true,?_,?_⟩
    · have:(P.back m n).fr=P.fr:=by
        unfold Pool.back D.bB;rw [show decide ((P.st n).gen≥m)=true from decide_eq_true hm]
        rfl
      rw [this]
    · have:=h.back (m:=m) (o':=o.set n.toNat true) hn (by simp)
      rwa [if_pos hm] at this
  · rw [show decide ((P.st n).gen≥m)=false from decide_eq_false hm,dB (a:=[n]) (b:=P.fr) (by simp; omega)]
    simp only [cond_false,Option.bind_some]
    refine ⟨g.set n.toNat (IntKind.i64.wrap ((P.st n).gen+1)),o,?_,?_⟩
    · have:(P.back m n).fr=[n]++P.fr:=by
        unfold Pool.back D.bB;rw [show decide ((P.st n).gen≥m)=false from decide_eq_false hm]
        rfl
      rw [this]
    · have:=h.back (m:=m) (o':=o) hn rfl
      rwa [if_neg hm] at this
theorem zY:heldF []=fun _=>false:=by
  funext n
  unfold heldF;cases h:decide (n≥0)
  · rfl
  · have:decide (n<(([]:List Bool).length:Int))=false:=by simp only [decide_eq_true_eq] at h; simp; omega
    rw [this]; rfl
theorem oU (m:Int):∀ (l:List Int) (P:Pool),(l.foldl (Pool.back m) P).fr.length≤P.fr.length+l.length
  | [],_=>Nat.le_add_right _ _
  | n::l,P=>by
    rw [List.foldl_cons]
    have h1:=oU m l (P.back m n);have h2:(P.back m n).fr.length≤P.fr.length+1:=by
      show (if _ then P.fr else n::P.fr).length≤_
      split <;> simp
    simp only [List.length_cons]
    omega
theorem tq {fu:Nat} {N m room:Int} {P:Pool} {g:List Int} {o:List Bool} (h:PR N P g o) (hr:∀ n,n∈P.rt→0≤n∧n<N) (hN:N≤1000) (hf:P.fr.length≤1000) (hl:P.rt.length≤1000) (hfu:2000≤fu) :
    ∃ g' o',D.gR fu P.fr P.rt room g o m=some ((P.scan m).fr,[],room,g',o',m)∧PR N (P.scan m) g' o':=by
  unfold D.gR;rw [zG hl hfu,zY,oz _ _ rfl];simp only [Option.bind_some];refine m5 (fun z=>∃ g' o',z=some ((P.scan m).fr,[],room,g',o',m)∧PR N (P.scan m) g' o')
    (fun (i:Nat) (x:Int × List Int × List Int × Int × List Int × List Bool × Int)=>∃ g' o',x=((i:Int),((P.rt.reverse.take i).foldl (Pool.back m) ⟨P.fr,[],P.st⟩).fr,[],room,g',o',m)∧PR N ((P.rt.reverse.take i).foldl (Pool.back m) ⟨P.fr,[],P.st⟩) g' o')
    P.rt.reverse.length fu ⟨g,o,rfl,h.gl,h.ol,h.gen⟩ (by simp; omega) ?_ ?_
  · rintro i x hi ⟨g1,o1,rfl,hp⟩
    simp only
    have hb:=oU m (P.rt.reverse.take i) ⟨P.fr,[],P.st⟩;rw [show decide ((i:Int)<(P.rt.reverse.length:Int))=true from by rw [decide_eq_true_eq]; omega,iB hi,bV (show -1000000≤(i:Int)+1 by omega) (by simp at hi; omega)]
    simp only [cond_true,Option.bind_some]
    have hm:=hr _ (List.mem_reverse.1 (List.getElem_mem hi));obtain ⟨g2,o2,e2,hp2⟩:=Am (fu:=fu) (m:=m) (room:=room) (rt:=[]) hp hm hN (by simp only [List.length_take] at hb; simp at hi; omega)
    rw [e2]
    simp only [Option.bind_some]
    have ht:P.rt.reverse.take (i+1)=P.rt.reverse.take i++[P.rt.reverse[i]]:=by rw [List.take_succ_eq_append_getElem hi]
    refine ⟨_,rfl,g2,o2,?_,by rw [ht,List.foldl_append]; exact hp2⟩
    rw [ht,List.foldl_append]
    simp
  · rintro x ⟨g1,o1,rfl,hp⟩
    simp only
    rw [show decide ((P.rt.reverse.length:Int)<(P.rt.reverse.length:Int))=false from by simp]
    refine ⟨_,rfl,?_⟩;rw [List.take_length] at hp ⊢
    exact ⟨g1,o1,rfl,hp⟩
theorem AC {p:Plan} (hp:PF p) (hnn:p.nodes≤1000) {room m:Int} {fu:Nat} (hfu:2000≤fu):∃ g o,D.je fu p.nodes room m=some (allN p,[],room,g,o,m)∧PR p.nodes ⟨allN p,[],fun _=>⟨0,0,0⟩⟩ g o:=by
  have hn1:=hp.n1;have hmk:∀ {α:Type} (z:α),makeD z p.nodes=some (List.replicate p.nodes.toNat z):=fun z=>by unfold makeD; rw [if_pos (by omega)]
  unfold D.je;rw [hmk,hmk];simp only [Option.bind_some];refine m5 (fun z=>∃ g o,z=some (allN p,[],room,g,o,m)∧PR p.nodes ⟨allN p,[],fun _=>⟨0,0,0⟩⟩ g o)
    (fun (i:Nat) (x:Int × List Int)=>x=((i:Int),(List.range' 0 i).map fun (q:Nat)=>(q:Int))) p.nodes.toNat fu rfl (by omega) ?_ ?_
  · rintro i x hi rfl
    simp only
    rw [show decide ((i:Int)<p.nodes)=true from by rw [decide_eq_true_eq]; omega,dB (by simp; omega),bV (show -1000000≤(i:Int)+1 by omega) (by omega)]
    refine ⟨_,rfl,?_⟩;rw [List.range'_concat];simp
  · rintro x rfl
    simp only
    rw [show decide (((p.nodes.toNat:Nat):Int)<p.nodes)=false from by rw [decide_eq_false_iff_not]; omega]
    refine ⟨_,rfl,List.replicate p.nodes.toNat 0,List.replicate p.nodes.toNat false,rfl,by simp; omega,by simp; omega,fun n n0 n1=>?_⟩
    unfold rd;rw [List.getD_eq_getElem?_getD,List.getElem?_replicate,if_pos (by omega)]
    rfl
theorem tI {fu:Nat} {N m room k:Int} {Q:Pool} {g:List Int} {o:List Bool} (h:PR N Q g o) (hr:∀ n,n∈Q.fr→0≤n∧n<N) (hf:Q.fr.length≤1000) (hN:N≤1000) :
    ∃ g' o',(bif ((Q.fr.length:Int)==0) then (some (Q.fr,Q.rt,room,g,o,m,(-1),0)) else ((getI Q.fr 0).bind (fun (x33:Int)=>((sliceD Q.fr 1 (Q.fr.length:Int)).bind (fun (x38:List Int)=>((appD ([]:List Int) x38).bind (fun (x39:List Int)=>((getI g x33).bind (fun (x45:Int)=>(some (x39,Q.rt,room,g,o,m,x33,x45))))))))))) =
      some ((Q.out k).1.fr,(Q.out k).1.rt,room,g',o',m,(Q.out k).2.node,(Q.out k).2.gen)∧PR N (Q.out k).1 g' o':=by
  obtain ⟨fr,rt,st⟩:=Q;cases fr with
  | nil=>exact ⟨g,o,rfl,h⟩
  | cons n l=>
    have hn:=hr n (List.mem_cons_self ..);have hgl:=h.gl;simp only [List.length_cons] at hf
    have h0:getI (n::l) 0=some n:=by unfold getI; rw [if_pos (by omega)]; rfl
    have h1:sliceD (n::l) 1 (((n::l).length:Nat):Int)=some l:=by
      unfold sliceD;rw [if_pos (by simp only [List.length_cons]; omega)];simp
    have h2:getI g n=some ((st n).gen):=by rw [fM hn.1 (by omega)]; exact congrArg some (h.gen n hn.1 hn.2)
    simp only
    rw [show (((n::l).length:Int)==0)=false from by simp only [List.length_cons,beq_eq_false_iff_ne]; omega,h0,h1]
    simp only [cond_false,Option.bind_some]
    rw [dB (by simp; omega)]
    simp only [Option.bind_some,List.nil_append]
    rw [h2]
    refine ⟨g,o,rfl,hgl,h.ol,fun q q0 q1=>?_⟩
    rw [h.gen q q0 q1]
    show (st q).gen=(if q=n then D.cS (st n) k else st q).gen
    split
    · rename_i e; rw [e]; rfl
    · rfl
theorem sF {fu:Nat} {N m room k:Int} {P:Pool} {g:List Int} {o:List Bool} (h:PR N P g o) (hr:∀ n,n∈P.rt→0≤n∧n<N) (hfr:∀ n,n∈P.fr→0≤n∧n<N) (hd:P.rt.Nodup) (hN:N≤1000) (hf:P.fr.length≤500) (hl:P.rt.length≤500) (hfu:2000≤fu) :
    ∃ g' o',D.gP fu P.fr P.rt room g o m=some ((P.grant m k).1.fr,(P.grant m k).1.rt,room,g',o',m,(P.grant m k).2.node,(P.grant m k).2.gen)∧PR N (P.grant m k).1 g' o':=by
  unfold D.gP;have hsub:∀ n,n∈(P.scan m).fr→0≤n∧n<N:=fun n hn=>(lX hd hn).elim (hr n) (hfr n)
  have hb:=oU m P.rt.reverse ⟨P.fr,[],P.st⟩;have hsr:(P.scan m).rt=[]:=iJ _ _ _;have hsl:(P.scan m).fr.length≤P.fr.length+P.rt.length:=by simpa [Pool.scan] using hb
  obtain ⟨fr,rt,st⟩:=P;cases fr with
  | nil=>
    simp only
    obtain ⟨g1,o1,e1,h1⟩:=tq (fu:=fu) (m:=m) (room:=room) h hr hN (by simp) (by simp only at hl ⊢; omega) hfu;simp only at e1
    rw [show ((([]:List Int).length:Int)==0)=true from rfl,e1]
    simp only [cond_true,Option.bind_some]
    have hx:=tI (fu:=fu) (m:=m) (room:=room) (k:=k) h1 hsub (by simp only [List.length_nil] at hsl; simp only at hl; omega) hN
    rw [hsr] at hx
    exact hx
  | cons n l=>
    simp only
    rw [show (((n::l).length:Int)==0)=false from by simp only [List.length_cons,beq_eq_false_iff_ne]; omega]
    simp only [cond_false,Option.bind_some]
    have hx:=tI (fu:=fu) (m:=m) (room:=room) (k:=k) h hfr (by simp only at hf ⊢; omega) hN
    rw [show (((n::l).length:Int)==0)=false from by simp only [List.length_cons,beq_eq_false_iff_ne]; omega] at hx
    exact hx
theorem zE {fu:Nat} {N m room n:Int} {P:Pool} {g:List Int} {o:List Bool} (h:PR N P g o) (hr:∀ n,n∈P.rt→0≤n∧n<N) (hN:N≤1000) (hf:P.fr.length≤500) (hl:P.rt.length≤500) (hfu:2000≤fu) :
    ∃ g' o',D.iW fu P.fr P.rt room g o m n=some ((P.stash room m n).fr,(P.stash room m n).rt,room,g',o',m)∧PR N (P.stash room m n) g' o':=by
  unfold D.iW Pool.stash;have hsr:(P.scan m).rt=[]:=iJ _ _ _
  by_cases hc:(P.rt.length:Int)<room
  · rw [show decide ((P.rt.length:Int)≥room)=false from by rw [decide_eq_false_iff_not]; omega,if_pos hc]
    simp only [cond_false,Option.bind_some]
    rw [dB (by simp; omega)]
    simp only [Option.bind_some,List.nil_append]
    rw [dB (by simp; omega)]
    exact ⟨g,o,rfl,h.gl,h.ol,h.gen⟩
  · obtain ⟨g1,o1,e1,h1⟩:=tq (fu:=fu) (m:=m) (room:=room) h hr hN (by omega) (by omega) hfu
    rw [show decide ((P.rt.length:Int)≥room)=true from by rw [decide_eq_true_eq]; omega,if_neg hc,e1]
    simp only [cond_true,Option.bind_some]
    rw [dB (by simp)]
    simp only [Option.bind_some,List.nil_append]
    rw [dB (by simp),hsr]
    exact ⟨g1,o1,rfl,h1.gl,h1.ol,h1.gen⟩
theorem PR.re {N n:Int} {P:Pool} {g:List Int} {o:List Bool} (h:PR N P g o) {s:State} (hs:s.gen=(P.st n).gen):PR N ⟨P.fr,P.rt,fun q=>if q=n then s else P.st q⟩ g o:=
  ⟨h.gl,h.ol,fun q q0 q1=>by
    rw [h.gen q q0 q1]
    show _=(if q=n then s else P.st q).gen
    split
    · rename_i e; rw [e,hs]
    · rfl⟩
end Go.Proofs.YtfpgnmhcfkikkaaGreat

/- Some of our texts, one behind the other. -/
import Derived.Test.YtikjpdpgdmbdpaaGreatLrM11
import Derived.Test.YtikjpdpgdmbdpaaGreatLrM12
import Derived.Test.YtikjpdpgdmbdpaaGreatLrRetires
import Derived.Test.YtikjpdpgdmbdpaaGreatLrM4
set_option linter.all false
/- Ours. -/
namespace Go.Proofs.YtikjpdpgdmbdpaaGreat
open Go.RowKit
/-! ### The head's word -/
theorem iK {x:Int} (h0:0≤x) (h1:x<18446744073709551616):(BitVec.ofInt 64 x).toNat=x.toNat:=by
  rw [BitVec.toNat_ofInt]
  congr 1
  exact Int.emod_eq_of_lt h0 (by simpa using h1)
theorem and_eq {x y:Int} (h0:0≤x) (h1:x<18446744073709551616) (h2:0≤y) (h3:y<18446744073709551616):cw .u64 x y=((x.toNat &&& y.toNat:Nat):Int):=by
  have h:((BitVec.ofInt 64 x &&& BitVec.ofInt 64 y).toNat:Int)=((x.toNat &&& y.toNat:Nat):Int):=by
    rw [BitVec.toNat_and,iK h0 h1,iK h2 h3]
  show IntKind.u64.wrap ((BitVec.ofInt 64 x &&& BitVec.ofInt 64 y).toNat:Int)=_
  rw [h]
  have:x.toNat &&& y.toNat<2 ^ 64:=Nat.and_lt_two_pow _ kw
  exact dq kw kw
theorem or_eq {x y:Int} (h0:0≤x) (h1:x<18446744073709551616) (h2:0≤y) (h3:y<18446744073709551616):dO .u64 x y=((x.toNat ||| y.toNat:Nat):Int):=by
  have h:((BitVec.ofInt 64 x ||| BitVec.ofInt 64 y).toNat:Int)=((x.toNat ||| y.toNat:Nat):Int):=by
    rw [BitVec.toNat_or,iK h0 h1,iK h2 h3]
  show IntKind.u64.wrap ((BitVec.ofInt 64 x ||| BitVec.ofInt 64 y).toNat:Int)=_
  rw [h]
  have:x.toNat ||| y.toNat<2 ^ 64:=Nat.or_lt_two_pow kw kw
  exact dq kw kw
theorem iL {x y:Int} (h0:0≤x) (h1:x<18446744073709551616) (h2:0≤y) (h3:y<18446744073709551616):ct .u64 x y=((x.toNat &&& (18446744073709551615 - y.toNat):Nat):Int):=by
  have h:((BitVec.ofInt 64 x &&& ~~~(BitVec.ofInt 64 y)).toNat:Int)=((x.toNat &&& (18446744073709551615 - y.toNat):Nat):Int):=by
    rw [BitVec.toNat_and,BitVec.toNat_not,iK h0 h1,iK h2 h3]
  show IntKind.u64.wrap ((BitVec.ofInt 64 x &&& ~~~(BitVec.ofInt 64 y)).toNat:Int)=_
  rw [h]
  have:x.toNat &&& (18446744073709551615 - y.toNat)<2 ^ 64:=Nat.and_lt_two_pow _ kw
  exact dq kw kw
theorem vI:D.bR D.bW=true:=ke
theorem wg:D.bR D.dW=true:=ke
theorem vK:D.bQ D.bW=2097151:=by decide +kernel
theorem wy:D.bQ D.dW=8796093022207:=by decide +kernel
theorem CY:D.ce D.bW=2097151:=by decide +kernel
theorem EY:D.ce D.dW=18446744073707454464:=by decide +kernel
theorem shr0 (w:Int):shrI .u64 w 0=w:=by
  show w.fdiv (2 ^ (min 0 64))=w
  simp
theorem FM {w:Int} (_:0≤w):shrI .u64 w 21=w / 2097152:=by
  show w.fdiv 2097152=_
  exact Int.fdiv_eq_ediv_of_nonneg _ kw
theorem pU {w:Int} (h0:0≤w) (h1:w<18446744073709551616):D.bB D.bW w=w % 2097152:=by
  unfold D.bB;rw [vI,vK];show cw .u64 (shrI .u64 w 0) 2097151=_
  rw [shr0,and_eq h0 h1 kw kw]
  have:w.toNat &&& 2097151=w.toNat % 2097152:=Nat.and_two_pow_sub_one_eq_mod w.toNat 21;rw [show (2097151:Int).toNat=2097151 from rfl,this]
  omega
theorem Co {w:Int} (h0:0≤w) (h1:w<18446744073709551616):D.bB D.dW w=w / 2097152:=by
  unfold D.bB;rw [wg,wy];show cw .u64 (shrI .u64 w 21) 8796093022207=_
  rw [FM h0,and_eq kw kw kw kw]
  have:(w / 2097152).toNat &&& 8796093022207=(w / 2097152).toNat % 8796093022208:=Nat.and_two_pow_sub_one_eq_mod _ 43;rw [show (8796093022207:Int).toNat=8796093022207 from rfl,this]
  omega
theorem Ch {n:Int} (h0:0≤n) (h1:n<18446744073709551616):D.cD D.bW 0 n=n % 2097152:=by
  unfold D.cD;rw [vI,vK,CY];show dO .u64 (ct .u64 0 2097151) (shlI .u64 (cw .u64 n 2097151) 0)=_
  have e:n.toNat &&& 2097151=n.toNat % 2097152:=Nat.and_two_pow_sub_one_eq_mod n.toNat 21;rw [iL kw kw kw kw,and_eq h0 h1 kw kw,show (2097151:Int).toNat=2097151 from rfl,e]
  have h2:shlI .u64 ((n.toNat % 2097152:Nat):Int) 0=((n.toNat % 2097152:Nat):Int):=by
    show IntKind.u64.wrap (((n.toNat % 2097152:Nat):Int) * 2 ^ (min 0 64))=_
    rw [show ((n.toNat % 2097152:Nat):Int) * 2 ^ (min 0 64)=((n.toNat % 2097152:Nat):Int) from by simp]
    exact dq kw kw
  rw [h2,or_eq (by simp) (by simp) kw kw]
  simp
  omega
theorem CF {u t:Int} (h0:0≤u) (h1:u<2097152) (h2:0≤t) (h3:t<18446744073709551616):D.cD D.dW u t=(t % 8796093022208) * 2097152+u:=by
  unfold D.cD;rw [wg,wy,EY];show dO .u64 (ct .u64 u 18446744073707454464) (shlI .u64 (cw .u64 t 8796093022207) 21)=_
  have e:t.toNat &&& 8796093022207=t.toNat % 8796093022208:=Nat.and_two_pow_sub_one_eq_mod t.toNat 43;have e2:u.toNat &&& 2097151=u.toNat % 2097152:=Nat.and_two_pow_sub_one_eq_mod u.toNat 21;rw [iL h0 kw kw kw,and_eq h2 h3 kw kw,show (8796093022207:Int).toNat=8796093022207 from rfl,e,
    show 18446744073709551615 - (18446744073707454464:Int).toNat=2097151 from rfl,e2]
  have h4:shlI .u64 ((t.toNat % 8796093022208:Nat):Int) 21=((t.toNat % 8796093022208 * 2097152:Nat):Int):=by
    show IntKind.u64.wrap (((t.toNat % 8796093022208:Nat):Int) * 2 ^ (min 21 64))=_
    rw [show ((t.toNat % 8796093022208:Nat):Int) * 2 ^ (min 21 64)=((t.toNat % 8796093022208 * 2097152:Nat):Int) from by simp]
    exact dq kw kw
  rw [h4,or_eq kw kw kw kw]
  have h5:u.toNat % 2097152 ||| t.toNat % 8796093022208 * 2097152=2097152 * (t.toNat % 8796093022208)+u.toNat % 2097152:=by
    rw [Nat.or_comm,Nat.mul_comm]
    exact (Nat.two_pow_add_eq_or_of_lt (i:=21) (Nat.mod_lt _ kw) _).symm
  rw [show ((u.toNat % 2097152:Nat):Int).toNat=u.toNat % 2097152 from rfl,show ((t.toNat % 8796093022208 * 2097152:Nat):Int).toNat=t.toNat % 8796093022208 * 2097152 from rfl,h5]
  omega
theorem ue {g n m:Int} (hg:0≤g) (hg1:g<1000000) (hn:0≤n) (hn1:n<2097152) (hm:0≤m) (hm1:m<2097152):D.fo (g * 2097152+n) m=(g+1) * 2097152+m:=by
  unfold D.fo;rw [Co kw kw,Ch hm kw,dq (x:=(g * 2097152+n) / 2097152+1) kw kw,CF kw kw kw kw];omega
theorem Cw {n:Int} (h0:0≤n) (h1:n≤1000000):D.dE n=n+1:=by
  unfold D.dE;rw [bq (x:=n+1) kw kw,dq kw kw]
/-! ### The list -/
def nx (p:Plan) (n:Int):Int:=D.aM p+n * 5+1
def first:List Int→Int
  | []=>0
  | n::_=>n+1
def Linked (p:Plan) (ws:List Int):List Int→Prop
  | []=>True
  | n::l=>rd ws (nx p n)=first l∧Linked p ws l
structure FreeAt (p:Plan) (ws:List Int) (l:List Int) (g:Int):Prop where
  len:(ws.length:Int)=D.bG p
  head:rd ws 0=g * 2097152+first l
  g0:0≤g
  range:∀ n,n∈l→0≤n∧n<p.nodes
  nodup:l.Nodup
  linked:Linked p ws l
theorem Linked.keep {p:Plan} {ws ws':List Int}:∀ {l:List Int},Linked p ws l→(∀ n,n∈l→rd ws' (nx p n)=rd ws (nx p n))→Linked p ws' l
  | [],_,_=>trivial
  | n::_,h,hk=>⟨(hk n (List.mem_cons_self ..)).trans h.1,Linked.keep h.2 fun m hm=>hk m (List.mem_cons_of_mem _ hm)⟩
theorem nr {p:Plan} (hp:PF p) {n:Int} (h0:0≤n) (h1:n<p.nodes):0<nx p n∧nx p n<D.bG p∧D.dw p n=nx p n:=by
  have hN:=cE hp;have hS:=eY hp;unfold nx;exact ⟨kw,kw,by rw [uX hp,if_pos ⟨h0,h1⟩]⟩
theorem ER {p:Plan} {n m:Int} (h:n≠m):nx p n≠nx p m:=by unfold nx; omega
theorem uC {l:List Int} {k:Int} (h:∀ n,n∈l→0≤n∧n<k) (hk:0≤k):0≤first l∧first l≤k:=by
  cases l with
  | nil=>exact ⟨Int.le_refl _,hk⟩
  | cons n l=>have:=h n (List.mem_cons_self ..); simp only [first]; omega
theorem pS {p:Plan} (hp:PF p) {ws:List Int} {g:Int} (h:FreeAt p ws [] g) (hg:g<1000000) (k:Nat):Runs (D.cB (k+1) p) ws 1 (-1) ws:=by
  have hs:=h.len;have hN:=cE hp;have hS:=eY hp;have hn1:=hp.n1;have hh:=h.head;have g0:=h.g0;simp only [first] at hh
  have hb:D.cB (k+1) p=.act 0 0 0 0 (fun x=>D.eI (D.cB k) p x):=by
    show D.iz (D.cB k) p=_
    unfold D.iz;rw [iW hp]; rfl
  rw [hb]
  refine .load kw kw ?_;unfold D.eI;rw [hh,pU kw kw,show (g * 2097152+0) % 2097152=0 from by omega]
  exact .done _ _
theorem Cj {p:Plan} (hp:PF p) {ws:List Int} {n:Int} {l:List Int} {g:Int} (h:FreeAt p ws (n::l) g) (hnn:p.nodes≤1000000) (hg:g<1000000) (k:Nat) :
    Runs (D.cB (k+1) p) ws 3 n (ws.set (0:Int).toNat ((g+1) * 2097152+first l))∧FreeAt p (ws.set (0:Int).toNat ((g+1) * 2097152+first l)) l (g+1):=by
  have hs:=h.len;have hN:=cE hp;have hS:=eY hp;have hn1:=hp.n1;have hh:=h.head;have g0:=h.g0;have hr:=h.range n (List.mem_cons_self ..);have hrl:∀ m,m∈l→0≤m∧m<p.nodes:=fun m hm=>h.range m (List.mem_cons_of_mem _ hm)
  obtain ⟨q1,q2,q3⟩:=nr hp hr.1 hr.2;obtain ⟨f1,f2⟩:=uC hrl kw;simp only [first] at hh
  refine ⟨?_,?_⟩
  · have hb:D.cB (k+1) p=.act 0 0 0 0 (fun x=>D.eI (D.cB k) p x):=by
      show D.iz (D.cB k) p=_
      unfold D.iz;rw [iW hp]; rfl
    rw [hb]
    refine .load kw kw ?_;unfold D.eI;rw [hh,pU kw kw,show (g * 2097152+(n+1)) % 2097152=n+1 from kw,bq (x:=n+1) kw kw,show n+1 - 1=n from kw,bq (x:=n) kw kw,
      show decide (n<0)=false from by simp; omega,q3]
    refine Runs.load (k:=fun x=>D.jB (D.cB k) p (g * 2097152+(n+1)) n x) (by dsimp only; omega) (by dsimp only; omega) ?_
    unfold D.jB;rw [h.linked.1,iW hp,ue g0 hg kw kw f1 kw];refine Runs.act (k:=fun x=>D.ig (fun x=>D.iy (D.cB k) p n x) (g * 2097152+(n+1)) x) (by dsimp only; omega) (gk (ws:=ws) (by dsimp only; omega) (by dsimp only; omega)) ?_
    rw [hh]
    have ha:ck 2 0 (g * 2097152+(n+1)) ((g+1) * 2097152+first l) (g * 2097152+(n+1)) ws=ws.set (0:Int).toNat ((g+1) * 2097152+first l):=by simp [ck]
    rw [ha]
    unfold D.ig D.iy;rw [show (g * 2097152+(n+1)==g * 2097152+(n+1))=true from by simp]
    exact .done _ _
  · refine ⟨by simpa using hs,?_,kw,hrl,(List.nodup_cons.1 h.nodup).2,h.linked.2.keep fun m hm=>?_⟩
    · rw [cn kw kw kw,if_pos rfl]
    · obtain ⟨p1,_,_⟩:=nr hp (hrl m hm).1 (hrl m hm).2
      rw [cn kw kw kw,if_neg kw]
theorem BT {p:Plan} (hp:PF p) {ws:List Int} {n:Int} {l:List Int} {g:Int} (h:FreeAt p ws l g) (hnn:p.nodes≤1000000) (hg:g<1000000) (hr:0≤n∧n<p.nodes) (hno:n ∉ l) (k:Nat) :
    ∃ ws',Runs (D.dU (k+1) p n) ws 3 n ws'∧FreeAt p ws' (n::l) (g+1)∧∀ j,0<j→j≠nx p n→rd ws' j=rd ws j:=by
  have hs:=h.len;have hN:=cE hp;have hS:=eY hp;have hn1:=hp.n1;have hh:=h.head;have g0:=h.g0;obtain ⟨q1,q2,q3⟩:=nr hp hr.1 hr.2;obtain ⟨f1,f2⟩:=uC h.range kw
  obtain ⟨w1,hw1⟩:∃ w1,w1=ws.set (nx p n).toNat (first l):=⟨_,rfl⟩;have hl1:(w1.length:Int)=D.bG p:=by rw [hw1]; simpa using hs
  have hr1:∀ j,0≤j→rd w1 j=if j=nx p n then first l else rd ws j:=fun j hj=>by rw [hw1]; exact cn kw kw hj
  refine ⟨w1.set (0:Int).toNat ((g+1) * 2097152+(n+1)),?_,⟨by simpa using hl1,?_,kw,?_,List.nodup_cons.2 ⟨hno,h.nodup⟩,?_,?_⟩,fun j h0 h1=>?_⟩
  · have hb:D.dU (k+1) p n=.act 0 0 0 0 (fun x=>D.jF (D.dU k) p n x):=by
      show D.iq (D.dU k) p n=_
      unfold D.iq;rw [q3,show (nx p n==-1)=false from by simp; omega,iW hp]; rfl
    rw [hb]
    refine .load kw kw ?_;unfold D.jF;rw [hh,pU kw kw,show (g * 2097152+first l) % 2097152=first l from kw,q3]
    refine Runs.store (k:=fun x=>D.lz (fun _=>D.lN (D.dU k) p (g * 2097152+first l) n) x) (by dsimp only; omega) (by dsimp only; omega) ?_
    unfold D.lz D.lN;rw [Cw hr.1 kw,iW hp,ue g0 hg f1 kw kw kw,←hw1];have hx:rd w1 0=g * 2097152+first l:=by rw [hr1 0 kw,if_neg kw,hh]
    refine Runs.act (k:=fun x=>D.ig (fun x=>D.il (D.dU k) p n x) (g * 2097152+first l) x) (by dsimp only; omega) (gk (ws:=w1) (by dsimp only; omega) (by dsimp only; omega)) ?_
    rw [hx]
    have ha:ck 2 0 (g * 2097152+first l) ((g+1) * 2097152+(n+1)) (g * 2097152+first l) w1=w1.set (0:Int).toNat ((g+1) * 2097152+(n+1)):=by simp [ck]
    rw [ha]
    unfold D.ig D.il;rw [show (g * 2097152+first l==g * 2097152+first l)=true from by simp]
    exact .done _ _
  · rw [cn kw kw kw,if_pos rfl]; rfl
  · intro m hm
    rcases List.mem_cons.1 hm with rfl | hm
    · exact hr
    · exact h.range m hm
  · rw [cn kw kw kw,if_neg kw,hr1 _ kw,if_pos rfl]
  · refine h.linked.keep fun m hm=>?_
    have hmr:=h.range m hm;obtain ⟨p1,_,_⟩:=nr hp hmr.1 hmr.2;have hne:m≠n:=fun e=>hno (e ▸ hm)
    rw [cn kw kw kw,if_neg kw,hr1 _ kw,if_neg (ER hne)]
  · rw [cn kw kw kw,if_neg kw,hr1 _ kw,if_neg h1]
theorem t9 {p:Plan} {ws:List Int} (hn:∀ m,0≤m→m<p.nodes→rd ws (D.aM p+m * 5+1)=if m+1=p.nodes then 0 else m+2):∀ (d:Nat) (i:Nat),(i:Int)+d=p.nodes→Linked p ws ((List.range' i d).map fun (q:Nat)=>(q:Int))
  | 0,_,_=>trivial
  | d+1,i,h=>by
    rw [List.range'_succ,List.map_cons]
    refine ⟨?_,t9 hn d (i+1) kw⟩;unfold nx;rw [hn i kw kw];cases d with
    | zero=>rw [if_pos kw]; rfl
    | succ d=>rw [if_neg kw,List.range'_succ,List.map_cons]; simp only [first]; omega
def allN (p:Plan):List Int:=(List.range' 0 p.nodes.toNat).map fun (q:Nat)=>(q:Int)
theorem uj {p:Plan} (hp:PF p) {ws:List Int} (h:LaidAt p ws):FreeAt p ws (allN p) 0:=by
  have hn1:=hp.n1;refine ⟨h.len,?_,Int.le_refl _,fun n hn=>?_,?_,t9 h.next p.nodes.toNat 0 kw⟩
  · rw [h.head]
    unfold allN;obtain ⟨d,hd⟩:∃ d,p.nodes.toNat=d+1:=⟨p.nodes.toNat - 1,kw⟩
    rw [hd,List.range'_succ,List.map_cons]
    simp [first]
  · obtain ⟨q,hq,rfl⟩:=List.mem_map.1 hn
    have:=(List.mem_range'_1.1 hq).2;omega
  · unfold allN
    exact List.Pairwise.map _ (fun a b h=>kw) (List.nodup_range' (s:=0) (n:=p.nodes.toNat))
structure SF (s:State):Prop where
  g0:0≤s.gen
  g1:s.gen≤1073741823
  m0:0≤s.mode
  m1:s.mode≤3
  k0:0≤s.kind
  k1:s.kind≤2
theorem tk {s:State}:D.cM s=true↔SF s:=by
  unfold D.cM
  constructor
  · intro h
    cases h1:decide (s.gen≥0) <;> rw [h1] at h
    · cases h
    cases h2:decide (s.gen≤1073741823) <;> rw [h2] at h
    · cases h
    cases h3:decide (s.mode≥0) <;> rw [h3] at h
    · cases h
    cases h4:decide (s.mode≤3) <;> rw [h4] at h
    · cases h
    cases h5:decide (s.kind≥0) <;> rw [h5] at h
    · cases h
    simp only [decide_eq_true_eq] at h1 h2 h3 h4 h5
    have h6:s.kind≤2:=by simpa using h
    exact ⟨h1,h2,h3,h4,h5,h6⟩
  · rintro ⟨h1,h2,h3,h4,h5,h6⟩
    simp only [ge_iff_le,h1,h2,h3,h4,h5,h6,decide_true,cond_true]
def swd (s:State):Int:=s.gen+s.mode * 1073741824+s.kind * 4294967296
theorem xu:D.bR fGen=true:=ke
theorem vO:D.bR fMode=true:=ke
theorem vF:D.bR fKind=true:=ke
theorem qL:D.bQ fGen=1073741823:=by decide +kernel
theorem qp:D.bQ fMode=3:=by decide +kernel
theorem qj:D.bQ fKind=3:=by decide +kernel
theorem xk:D.ce fGen=1073741823:=by decide +kernel
theorem vG:D.ce fMode=3221225472:=by decide +kernel
theorem vR:D.ce fKind=12884901888:=by decide +kernel
theorem shrN {w:Int} (k:Nat) (hk:k≤64):shrI .u64 w k=w / 2 ^ k:=by
  unfold shrI;rw [Int.toNat_natCast,show min k IntKind.u64.bits=k from Nat.min_eq_left hk]
  exact Int.fdiv_eq_ediv_of_nonneg _ (Int.le_of_lt (Int.pow_pos kw))
theorem mR {x:Int} (h0:0≤x) (h1:x<18446744073709551616) (k:Nat) (hk:k<64):cw .u64 x ((2 ^ k - 1:Nat):Int)=x % ((2 ^ k:Nat):Int):=by
  have hp:(2:Nat) ^ k<2 ^ 64:=Nat.pow_lt_pow_right kw hk
  have hp1:0<(2:Nat) ^ k:=Nat.pow_pos kw
  rw [and_eq h0 h1 kw kw,Int.toNat_natCast,Nat.and_two_pow_sub_one_eq_mod]
  obtain ⟨y,rfl⟩:∃ y:Nat,x=(y:Int):=⟨x.toNat,kw⟩
  rw [Int.toNat_natCast]
  exact Int.natCast_emod _ _
theorem qo {u v:Int} (a b:Nat) (hu0:0≤u) (hu:u<((2 ^ a:Nat):Int)) (hv0:0≤v) (hv:v<((2 ^ b:Nat):Int)) (hab:a+b<64) (hF:D.bR ⟨a,b⟩=true) (hM:D.bQ ⟨a,b⟩=((2 ^ b - 1:Nat):Int)) (hK:D.ce ⟨a,b⟩=(((2 ^ b - 1) * 2 ^ a:Nat):Int)) :
    D.cD ⟨a,b⟩ u v=v * ((2 ^ a:Nat):Int)+u:=by
  have pa:0<(2:Nat) ^ a:=Nat.pow_pos kw
  have pb:0<(2:Nat) ^ b:=Nat.pow_pos kw
  have hpab:(2:Nat) ^ a * 2 ^ b=2 ^ (a+b):=(Nat.pow_add 2 a b).symm;have hlt:(2:Nat) ^ (a+b)<2 ^ 64:=Nat.pow_lt_pow_right kw hab
  have hlt2:(2:Nat) ^ b≤2 ^ (a+b):=Nat.pow_le_pow_right kw kw
  have hlt3:(2:Nat) ^ a≤2 ^ (a+b):=Nat.pow_le_pow_right kw kw
  unfold D.cD;rw [hF,hM,hK];show dO .u64 (ct .u64 u _) (shlI .u64 (cw .u64 v _) (a:Int))=_
  have hmk:(2 ^ b - 1) * 2 ^ a≤2 ^ (a+b):=by
    rw [←hpab,Nat.mul_comm]
    exact Nat.mul_le_mul_left _ kw
  rw [mR hv0 kw b kw,Int.emod_eq_of_lt hv0 hv,iL hu0 kw kw kw]
  obtain ⟨x,rfl⟩:∃ x:Nat,u=(x:Int):=⟨u.toNat,kw⟩
  obtain ⟨y,rfl⟩:∃ y:Nat,v=(y:Int):=⟨v.toNat,kw⟩
  have hx:x<2 ^ a:=kw
  have hy:y<2 ^ b:=kw
  have hyx:y * 2 ^ a+x<2 ^ (a+b):=by
    rw [←hpab]
    have:=Nat.mul_le_mul_left (2 ^ a) (show y+1≤2 ^ b from hy)
    rw [Nat.mul_add,Nat.mul_comm] at this
    omega
  have h1:x &&& (18446744073709551615 - (2 ^ b - 1) * 2 ^ a)=x:=by
    apply Nat.eq_of_testBit_eq
    intro i;rw [Nat.testBit_and]
    by_cases hi:i<a
    · have:(18446744073709551615 - (2 ^ b - 1) * 2 ^ a).testBit i=true:=by
        rw [show (18446744073709551615:Nat) - (2 ^ b - 1) * 2 ^ a=2 ^ 64 - ((2 ^ b - 1) * 2 ^ a+1) from kw,Nat.testBit_two_pow_sub_succ kw]
        rw [Nat.testBit_mul_two_pow]
        simp [show i<64 from kw,show ¬ a≤i from by omega]
      rw [this,Bool.and_true]
    · rw [Nat.testBit_lt_two_pow (Nat.lt_of_lt_of_le hx (Nat.pow_le_pow_right kw kw)),Bool.false_and]
  have h2:shlI .u64 (y:Int) (a:Int)=((y * 2 ^ a:Nat):Int):=by
    unfold shlI;rw [Int.toNat_natCast,show min a IntKind.u64.bits=a from Nat.min_eq_left (show a≤64 by omega)]
    rw [show (y:Int) * 2 ^ a=((y * 2 ^ a:Nat):Int) from by push_cast; rfl]
    exact dq kw kw
  rw [Int.toNat_natCast,Int.toNat_natCast,h1,h2,or_eq kw kw kw kw,Int.toNat_natCast,Int.toNat_natCast]
  have h5:x ||| y * 2 ^ a=2 ^ a * y+x:=by
    rw [Nat.or_comm,Nat.mul_comm]
    exact (Nat.two_pow_add_eq_or_of_lt hx _).symm
  rw [h5,Nat.mul_comm]
  push_cast
  rfl
theorem uT {s:State} (h:SF s):D.cg s=swd s:=by
  obtain ⟨g0,g1,m0,m1,k0,k1⟩:=h;have hw:St.D.cg 10 s=some (swd s):=by
    unfold St.D.cg;rw [tk.2 ⟨g0,g1,m0,m1,k0,k1⟩];show (((St.D.gU 10 [fGen,fMode,fKind] [IntKind.u64.wrap s.gen,IntKind.u64.wrap s.mode,IntKind.u64.wrap s.kind]).bind (fun (x17:Int × Int)=>(some x17.1))))=_
    rw [uz,dq g0 kw,dq m0 kw,dq k0 kw,qL,qp,qj,show decide (s.gen > 1073741823)=false from by simp; omega,show decide (s.mode > 3)=false from by simp; omega,show decide (s.kind > 3)=false from by simp; omega]
    simp only [cond_false,Option.bind_some]
    rw [show D.cD fGen 0 s.gen=s.gen * ((2 ^ 0:Nat):Int)+0 from qo 0 30 kw ke g0 kw kw xu qL xk]
    rw [show D.cD fMode (s.gen * ((2 ^ 0:Nat):Int)+0) s.mode=s.mode * ((2 ^ 30:Nat):Int)+(s.gen * ((2 ^ 0:Nat):Int)+0) from qo 30 2 kw kw m0 kw kw vO qp vG]
    rw [show D.cD fKind (s.mode * ((2 ^ 30:Nat):Int)+(s.gen * ((2 ^ 0:Nat):Int)+0)) s.kind=s.kind * ((2 ^ 32:Nat):Int)+(s.mode * ((2 ^ 30:Nat):Int)+(s.gen * ((2 ^ 0:Nat):Int)+0)) from qo 32 2 kw kw k0 kw kw vF qj vR]
    congr 1
    unfold swd;omega
  unfold D.cg;rw [hw]; rfl
theorem BP {w:Int} (h0:0≤w) (h1:w<17179869184):ct .u64 (ct .u64 (ct .u64 w (D.ce fGen)) (D.ce fMode)) (D.ce fKind)=0:=by
  rw [xk,vG,vR]
  have l1:w.toNat &&& (18446744073709551615 - (1073741823:Int).toNat)≤w.toNat:=Nat.and_le_left;have l2:(w.toNat &&& (18446744073709551615 - (1073741823:Int).toNat)) &&& (18446744073709551615 - (3221225472:Int).toNat)≤w.toNat &&& (18446744073709551615 - (1073741823:Int).toNat):=Nat.and_le_left;have e1:ct .u64 w 1073741823=_:=iL h0 kw kw kw
  have e2:=iL (x:=((w.toNat &&& (18446744073709551615 - (1073741823:Int).toNat):Nat):Int)) (y:=3221225472) kw kw kw kw
  rw [Int.toNat_natCast] at e2
  rw [e1,e2,iL kw kw kw kw,Int.toNat_natCast]
  rw [Nat.and_assoc,Nat.and_assoc]
  have hK:(18446744073709551615 - (1073741823:Int).toNat) &&& ((18446744073709551615 - (3221225472:Int).toNat) &&& (18446744073709551615 - (12884901888:Int).toNat))=1073741823 * 2 ^ 34:=by decide +kernel
  rw [hK]
  have:w.toNat &&& 1073741823 * 2 ^ 34=0:=by
    apply Nat.eq_of_testBit_eq
    intro i;rw [Nat.testBit_and,Nat.zero_testBit]
    by_cases hi:i<34
    · rw [Nat.testBit_mul_two_pow]
      simp [show ¬ 34≤i from by omega]
    · rw [Nat.testBit_lt_two_pow (Nat.lt_of_lt_of_le (show w.toNat<2 ^ 34 by omega) (Nat.pow_le_pow_right kw kw)),Bool.false_and]
  rw [this]; rfl
theorem CI {s:State} (h:SF s):D.aQ (D.cg s)=(s,true):=by
  rw [uT h]
  have hs:=h;obtain ⟨g0,g1,m0,m1,k0,k1⟩:=h;have w0:0≤swd s:=by unfold swd; omega
  have w1:swd s<17179869184:=by unfold swd; omega
  have e1:D.bB fGen (swd s)=s.gen:=by
    unfold D.bB;rw [xu,qL,show fGen.at_=((0:Nat):Int) from rfl,show (1073741823:Int)=((2 ^ 30 - 1:Nat):Int) from by decide]
    simp only [Bool.not_true,cond_false]
    rw [shrN 0 kw,mR kw kw 30 kw]
    unfold swd;omega
  have e2:D.bB fMode (swd s)=s.mode:=by
    unfold D.bB;rw [vO,qp,show fMode.at_=((30:Nat):Int) from rfl,show (3:Int)=((2 ^ 2 - 1:Nat):Int) from by decide]
    simp only [Bool.not_true,cond_false]
    rw [shrN 30 kw,mR kw kw 2 kw]
    unfold swd;omega
  have e3:D.bB fKind (swd s)=s.kind:=by
    unfold D.bB;rw [vF,qj,show fKind.at_=((32:Nat):Int) from rfl,show (3:Int)=((2 ^ 2 - 1:Nat):Int) from by decide]
    simp only [Bool.not_true,cond_false]
    rw [shrN 32 kw,mR kw kw 2 kw]
    unfold swd;omega
  have hw:St.D.aQ 10 (swd s)=some (s,true):=by
    unfold St.D.aQ;show (St.D.fW 10 [fGen,fMode,fKind] (swd s)).bind _=_
    rw [uh,BP w0 w1,e1,e2,e3]
    show (bif (!(D.cM (⟨(IntKind.i64.wrap s.gen),(IntKind.i64.wrap s.mode),(IntKind.i64.wrap s.kind)⟩:State))) then _ else _)=_
    rw [bq (x:=s.gen) kw kw,bq (x:=s.mode) kw kw,bq (x:=s.kind) kw kw,tk.2 hs]
    rfl
  unfold D.aQ;rw [hw]; rfl
theorem mo {at_:Int} {f:Int→T Int} {ws ws':List Int} {n:Nat} {r:Int} (h0:0≤at_) (h1:at_<ws.length) (h:Runs (f (rd ws at_)) ws n r ws'):Runs (D.dx at_ f) ws (n+1) r ws':=Runs.load h0 h1 h
theorem iE {at_ w:Int} {f:Unit→T Int} {ws ws':List Int} {n:Nat} {r:Int} (h0:0≤at_) (h1:at_<ws.length) (h:Runs (f ()) (ws.set at_.toNat w) n r ws'):Runs (D.dQ at_ w f) ws (n+1) r ws':=Runs.store h0 h1 h
section
variable {p : Plan} (hp : PF p) {n : Int} (hn : 0 ≤ n ∧ n < p.nodes)
include hp hn
theorem qI:D.cH p n=D.aM p+n * 5:=by rw [uG hp,if_pos hn]
theorem mZ {f:Int} (hf:0≤f∧f<3):D.bf p n f=D.aM p+n * 5+2+f:=by rw [mC hp,if_pos ⟨hn,hf⟩]
end
def bK (p:Plan) (n j:Int):Prop:=D.aM p+n * 5≤j∧j<D.aM p+n * 5+5
theorem BV {p:Plan} (hp:PF p) {ws ws':List Int} {n:Int} (hn:0≤n∧n<p.nodes) (hl:(ws.length:Int)=D.bG p) {next:Unit→T Int} {m:Nat} {r:Int} (k:Nat)
    (h:Runs (next ()) (((ws.set (D.aM p+n * 5+2+0).toNat 0).set (D.aM p+n * 5+2+1).toNat 0).set (D.aM p+n * 5+2+2).toNat 0) m r ws') :
    Runs (D.dI (k+4) p n 0 next) ws (m+3) r ws':=by
  have hS:=eY hp;have hN:=cE hp;have w1:IntKind.i64.wrap ((0:Int)+1)=1:=rfl;have w2:IntKind.i64.wrap ((1:Int)+1)=2:=rfl;have w3:IntKind.i64.wrap ((2:Int)+1)=3:=rfl;show Runs (D.eR (D.dI (k+3)) p n 0 next) _ _ _ _
  unfold D.eR;rw [mZ hp hn (f:=0) kw];refine iE kw kw ?_;show Runs (D.dI (k+3) p n (IntKind.i64.wrap (0+1)) next) _ _ _ _
  rw [w1]
  show Runs (D.eR (D.dI (k+2)) p n 1 next) _ _ _ _
  unfold D.eR;rw [mZ hp hn (f:=1) kw];refine iE kw (by rw [List.length_set]; omega) ?_;show Runs (D.dI (k+2) p n (IntKind.i64.wrap (1+1)) next) _ _ _ _
  rw [w2]
  show Runs (D.eR (D.dI (k+1)) p n 2 next) _ _ _ _
  unfold D.eR;rw [mZ hp hn (f:=2) kw];refine iE kw (by rw [List.length_set,List.length_set]; omega) ?_;show Runs (D.dI (k+1) p n (IntKind.i64.wrap (2+1)) next) _ _ _ _
  rw [w3]
  exact h
theorem FreeAt.keep {p:Plan} {ws ws':List Int} {l:List Int} {g:Int} (h:FreeAt p ws l g) (hl:ws'.length=ws.length) (h0:rd ws' 0=rd ws 0) (hk:∀ n,n∈l→rd ws' (nx p n)=rd ws (nx p n)):FreeAt p ws' l g:=
  ⟨by rw [hl]; exact h.len,h0.trans h.head,h.g0,h.range,h.nodup,h.linked.keep hk⟩
structure Reclaimed (p:Plan) (n:Int) (t:State) (ws ws':List Int) (l:List Int) (g:Int):Prop where
  len:ws'.length=ws.length
  state:rd ws' (D.aM p+n * 5)=D.cg t
  fields:∀ f,0≤f→f<3→rd ws' (D.aM p+n * 5+2+f)=0
  gone:t.mode=3→FreeAt p ws' l g
  free:t.mode≠3→FreeAt p ws' (n::l) (g+1)
  others:∀ j,0<j→¬ bK p n j→rd ws' j=rd ws j
theorem sX {p:Plan} (hp:PF p) {ws:List Int} {n:Int} {l:List Int} {g:Int} (hn:0≤n∧n<p.nodes) (hnn:p.nodes≤1000000) (hg:g<1000000) (h:FreeAt p ws l g) (hno:n ∉ l) {t:State}
    (ht:t=D.bv (D.aQ (rd ws (D.aM p+n * 5))).1 p.gen) (k:Nat) :
    ∃ ws',Runs (D.fP (k+4) p n) ws (if t.mode=3 then 5 else 8) (if t.mode=3 then -1 else n) ws'∧Reclaimed p n t ws ws' l g:=by
  have hs:=h.len;have hS:=eY hp;have hN:=cE hp;obtain ⟨v,hv⟩:∃ v,v=((ws.set (D.aM p+n * 5+2+0).toNat 0).set (D.aM p+n * 5+2+1).toNat 0).set (D.aM p+n * 5+2+2).toNat 0:=⟨_,rfl⟩;have hvl:v.length=ws.length:=by rw [hv]; simp
  have hvr:∀ j,0≤j→rd v j=if j=D.aM p+n * 5+2+2∨j=D.aM p+n * 5+2+1∨j=D.aM p+n * 5+2+0 then 0 else rd ws j:=by
    intro j hj;rw [hv,cn kw (by simp; omega) hj]
    split
    · rw [if_pos (.inl ‹_›)]
    rw [cn kw (by simp; omega) hj]
    split
    · rw [if_pos (.inr (.inl ‹_›))]
    rw [cn kw kw hj]
    split
    · rw [if_pos (.inr (.inr ‹_›))]
    rw [if_neg kw]
  obtain ⟨u,hu⟩:∃ u,u=v.set (D.aM p+n * 5).toNat (D.cg t):=⟨_,rfl⟩;have hul:u.length=ws.length:=by rw [hu,List.length_set,hvl]
  have hur:∀ j,0≤j→rd u j=if j=D.aM p+n * 5 then D.cg t else rd v j:=fun j hj=>by rw [hu]; exact cn kw kw hj
  have huo:∀ j,0≤j→(¬ bK p n j∨j=nx p n)→rd u j=rd ws j:=by
    intro j hj hno;unfold bK nx at hno
    rw [hur j hj,if_neg kw,hvr j hj,if_neg kw]
  have hF:FreeAt p u l g:=h.keep hul (huo 0 kw (by unfold bK; omega)) fun m hm=>by
    have hmr:=h.range m hm;have hne:m≠n:=fun e=>hno (e ▸ hm)
    exact huo _ (by unfold nx; omega) (.inl (by unfold bK nx; omega))
  have hfl:∀ f,0≤f→f<3→rd u (D.aM p+n * 5+2+f)=0:=by
    intro f h0 h1;rw [hur _ kw,if_neg kw,hvr _ kw,if_pos kw]
  have hst:rd u (D.aM p+n * 5)=D.cg t:=by rw [hur _ kw,if_pos rfl]
  have main:∀ {m:Nat} {r:Int} {ws'':List Int},Runs (D.fH (k+4) t p n) u m r ws''→Runs (D.fP (k+4) p n) ws (m+5) r ws'':=by
    intro m r ws'' hr;show Runs (D.dI (k+4) p n 0 (fun _=>D.oe (k+4) p n)) ws (m+2+3) r ws''
    refine BV hp hn hs k ?_;rw [←hv];show Runs (D.dx (D.cH p n) (fun x=>D.nR (k+4) p n x)) v (m+1+1) r ws''
    rw [qI hp hn]
    refine mo kw kw ?_;show Runs (D.dQ (D.cH p n) (D.cg (D.bv (D.aQ (rd v (D.aM p+n * 5))).1 p.gen)) (fun _=>D.fH (k+4) (D.bv (D.aQ (rd v (D.aM p+n * 5))).1 p.gen) p n)) v (m+1) r ws''
    rw [qI hp hn,hvr _ kw,if_neg kw,←ht]
    refine iE kw kw ?_;rw [←hu];exact hr
  by_cases hm:t.mode=3
  · refine ⟨u,?_,⟨hul,hst,hfl,fun _=>hF,fun h=>absurd hm h,fun j hj hno=>huo j kw (.inl hno)⟩⟩
    rw [if_pos hm,if_pos hm]
    refine main (m:=0) ?_;unfold D.fH;rw [hm];exact .done _ _
  · obtain ⟨ws',h1,h2,h3⟩:=BT hp hF hnn hg hn hno (k+3)
    have hl':ws'.length=ws.length:=by have:=h2.len; omega
    refine ⟨ws',?_,⟨hl',?_,fun f h0 h1=>?_,fun h=>absurd h hm,fun _=>h2,fun j hj hno=>?_⟩⟩
    · rw [if_neg hm,if_neg hm]
      refine main (m:=3) ?_;unfold D.fH;rw [show (t.mode==3)=false from by simpa using hm]
      exact h1
    · rw [h3 _ kw (by unfold nx; omega),hst]
    · rw [h3 _ kw (by unfold nx; omega),hfl f h0 h1]
    · rw [h3 j hj (by intro e; apply hno; unfold bK; unfold nx at e; omega),huo j kw (.inl hno)]
theorem mK {n:Int} (h0:-1≤n) (h1:n≤1000000000000000000):D.gO n=n+1:=by
  unfold D.gO;have h2:IntKind.i64.wrap (n+1)=n+1:=bq kw kw;rw [h2];exact dq kw kw
theorem bX {p:Plan} (hp:PF p):1≤D.aL p∧D.aL p+p.threads * 3≤D.cq p∧D.cq p<D.aM p∧D.aM p+p.nodes * 5=D.bG p:=by
  have h1:=jH hp;have h2:=jM hp;have h3:=pI hp;have h4:=eY hp;have h5:=fD hp;have h6:=ri hp;have h7:=hp.t1;have h8:=hp.r1;have h9:1 * (1+p.retire)≤p.threads * (1+p.retire):=Int.mul_le_mul_of_nonneg_right h7 kw
  exact ⟨kw,kw,kw,kw⟩
abbrev Len (p:Plan) (ws:List Int):Prop:=(ws.length:Int)=D.bG p
theorem px {p:Plan} (hp:PF p) {ws:List Int} (hl:Len p ws) {t s n:Int} (ht:0≤t∧t<p.threads) (hs:0≤s∧s<3) (hn:-1≤n∧n≤1000000000000000000) :
    Runs (D.dT p t s n) ws 1 () (ws.set (D.aL p+t * 3+s).toNat (n+1)):=by
  obtain ⟨h1,h2,h3,h4⟩:=bX hp;have hn1:=hp.n1;unfold D.dT;rw [mK hn.1 hn.2,py hp,if_pos ⟨ht,hs⟩];unfold Len at hl
  exact C2 kw kw
theorem wQ {i:Int} (h:0≤i):i.tdiv 3=i / 3∧i.tmod 3=i % 3:=⟨Int.tdiv_eq_ediv_of_nonneg h,Int.tmod_eq_emod_of_nonneg h⟩
theorem xh {p:Plan} (hp:PF p) {i:Int} (h0:0≤i) (h1:i<p.threads * 3):D.eQ p (IntKind.i64.wrap (i.tdiv 3)) (i.tmod 3)=D.aL p+i:=by
  have ht2:=hp.t2;rw [(wQ h0).1,(wQ h0).2,cN kw kw,py hp,if_pos kw]
  omega
theorem Ca {p:Plan} (hp:PF p) {ws:List Int} (hl:Len p ws) {n:Int} (hn:-1≤n∧n≤1000000000000000000):∀ (d:Nat) (i:Int) (k:Nat),i+d=p.threads * 3→0≤i→d<k→
    (∃ j,i≤j∧j<p.threads * 3∧rd ws (D.aL p+j)=n+1)→∃ m:Nat,m≤d∧Runs (D.dD k p n i) ws m true ws:=by
  obtain ⟨g1,g2,g3,g4⟩:=bX hp;have hn1:=hp.n1;have ht2:=hp.t2;intro d
  induction d with
  | zero=>
    rintro i k hi _ _ ⟨j,h1,h2,_⟩;omega
  | succ d ih=>
    rintro i k hi h0 hk ⟨j,h1,h2,h3⟩;obtain ⟨k,rfl⟩:∃ q,k=q+1:=⟨k - 1,kw⟩
    have hb:D.dD (k+1) p n i=.act 0 (D.aL p+i) 0 0 (fun x=>D.eS (D.dD k) n p i x):=by
      show D.eP (D.dD k) p n i=_
      unfold D.eP;rw [cN (show -1000000≤p.threads * 3 by omega) kw,show (i==p.threads * 3)=false from by simp; omega,xh hp h0 kw]
      rfl
    unfold Len at hl
    by_cases e:rd ws (D.aL p+i)=n+1
    · refine ⟨1,kw,?_⟩
      rw [hb]
      refine .load kw kw ?_;unfold D.eS;rw [mK hn.1 hn.2,e,show (n+1==n+1)=true from by simp]
      exact .done _ _
    · have hne:j≠i:=fun h=>e (h ▸ h3)
      obtain ⟨m,hm,hr⟩:=ih (i+1) k kw kw kw ⟨j,kw,h2,h3⟩
      refine ⟨m+1,kw,?_⟩
      rw [hb]
      refine .load kw kw ?_;unfold D.eS;rw [mK hn.1 hn.2,show (rd ws (D.aL p+i)==n+1)=false from by simpa using e,cN kw kw]
      exact hr
theorem CC {p:Plan} (hp:PF p) {ws:List Int} (hl:Len p ws) {n:Int} (hn:-1≤n∧n≤1000000000000000000):∀ (d:Nat) (i:Int) (k:Nat),i+d=p.threads * 3→0≤i→d<k→
    (∀ j,i≤j→j<p.threads * 3→rd ws (D.aL p+j)≠n+1)→Runs (D.dD k p n i) ws d false ws:=by
  obtain ⟨g1,g2,g3,g4⟩:=bX hp;have hn1:=hp.n1;have ht2:=hp.t2;intro d
  induction d with
  | zero=>
    intro i k hi _ hk _;obtain ⟨k,rfl⟩:∃ q,k=q+1:=⟨k - 1,kw⟩
    show Runs (D.eP (D.dD k) p n i) _ _ _ _
    unfold D.eP;rw [cN (show -1000000≤p.threads * 3 by omega) kw,show (i==p.threads * 3)=true from by simp; omega]
    exact .done _ _
  | succ d ih=>
    intro i k hi h0 hk hno;obtain ⟨k,rfl⟩:∃ q,k=q+1:=⟨k - 1,kw⟩
    have hb:D.dD (k+1) p n i=.act 0 (D.aL p+i) 0 0 (fun x=>D.eS (D.dD k) n p i x):=by
      show D.eP (D.dD k) p n i=_
      unfold D.eP;rw [cN (show -1000000≤p.threads * 3 by omega) kw,show (i==p.threads * 3)=false from by simp; omega,xh hp h0 kw]
      rfl
    unfold Len at hl
    rw [hb]
    refine .load kw kw ?_;unfold D.eS;rw [mK hn.1 hn.2,show (rd ws (D.aL p+i)==n+1)=false from by simpa using hno i kw kw,cN kw kw]
    exact ih (i+1) k kw kw kw fun j h1 h2=>hno j kw h2
theorem tE {p:Plan} (hp:PF p) {t:Int} (ht:0≤t∧t<p.threads):∀ (d:Nat) (s:Int) (k:Nat) (ws:List Int),s+d=3→0≤s→d<k→Len p ws→
    ∃ ws',Runs (D.eT k p t s) ws d () ws'∧Len p ws'∧∀ j,0≤j→rd ws' j=if D.aL p+t * 3+s≤j∧j<D.aL p+t * 3+3 then 0 else rd ws j:=by
  obtain ⟨g1,g2,g3,g4⟩:=bX hp;have hn1:=hp.n1;intro d
  induction d with
  | zero=>
    intro s k ws hs h0 hk hl;obtain ⟨k,rfl⟩:∃ q,k=q+1:=⟨k - 1,kw⟩
    refine ⟨ws,?_,hl,fun j hj=>by rw [if_neg kw]⟩
    show Runs (D.fM (D.eT k) p t s) _ _ _ _
    unfold D.fM;rw [show (s==3)=true from by simp; omega]
    exact .done _ _
  | succ d ih=>
    intro s k ws hs h0 hk hl;obtain ⟨k,rfl⟩:∃ q,k=q+1:=⟨k - 1,kw⟩
    have h1:=px hp hl ht (s:=s) (n:=-1) ⟨h0,kw⟩ kw
    have hl':Len p (ws.set (D.aL p+t * 3+s).toNat (-1+1)):=by unfold Len at hl ⊢; simpa using hl
    obtain ⟨ws',h2,h3,h4⟩:=ih (s+1) k _ kw kw kw hl';refine ⟨ws',?_,h3,fun j hj=>?_⟩
    · show Runs (D.fM (D.eT k) p t s) _ _ _ _
      unfold D.fM;rw [show (s==3)=false from by simp; omega]
      refine (Runs.bind h1 (g:=fun _=>D.jn (D.eT k) p t s) ?_).cast (show 1+d=d+1 by omega)
      unfold D.jn;rw [cN kw kw];exact h2
    · unfold Len at hl
      rw [h4 j hj,cn kw kw hj]
      by_cases e:j=D.aL p+t * 3+s
      · rw [if_pos e]
        by_cases e2:D.aL p+t * 3+(s+1)≤j∧j<D.aL p+t * 3+3
        · rw [if_pos e2,if_pos kw]
        · rw [if_neg e2,if_pos kw]; rfl
      · rw [if_neg e]
        by_cases e2:D.aL p+t * 3+(s+1)≤j∧j<D.aL p+t * 3+3
        · rw [if_pos e2,if_pos kw]
        · rw [if_neg e2,if_neg kw]
theorem mQ {fu:Nat} {M:Mem} {i:Int} (h0:0≤i) (h1:i<M.ws.length):D.fO fu M 0 i=some (rd M.ws i):=by
  unfold D.fO;have hS:D.ik fu M 0=some (M.ws.length:Int):=rfl;rw [show decide (i<0)=false from by simp; omega]
  simp only [cond_false,hS,Option.bind_some]
  rw [show decide (i≥(M.ws.length:Int))=false from by simp; omega,show zeroI 0=some () from rfl,gk h0 h1]
  rfl
theorem CQ {p:Plan} (hp:PF p) {ws:List Int} (h:LaidAt p ws) {j:Int} (h0:0≤j) (h1:j<p.threads * 3):rd ws (D.aL p+j)=0:=by
  obtain ⟨g1,g2,g3,g4⟩:=bX hp;exact h.zero _ kw fun m _ _=>kw
theorem vV {w sh:Int} (h0:0≤w) (h:0≤sh∧sh<3):shrI .u64 w sh=w / 2 ^ sh.toNat∧0≤w / 2 ^ sh.toNat∧w / 2 ^ sh.toNat≤w:=by
  have hp:(0:Int)<2 ^ sh.toNat:=Int.pow_pos kw
  refine ⟨?_,Int.ediv_nonneg h0 kw,Int.ediv_le_self _ h0⟩;unfold shrI;rw [show min sh.toNat IntKind.u64.bits=sh.toNat from by simp [IntKind.bits]; omega]
  exact Int.fdiv_eq_ediv_of_nonneg _ kw
def rb (p:Plan) (t:Int):Int:=D.cq p+t * (1+p.retire)
structure RetAt (p:Plan) (ws:List Int) (t:Int) (r:List Int):Prop where
  count:rd ws (rb p t)=r.length
  room:(r.length:Int)≤p.retire
  slot:∀ (i:Nat) (h:i<r.length),rd ws (rb p t+1+i)=r[i]+1
  range:∀ n,n∈r→0≤n∧n<p.nodes
section
variable {p : Plan} (hp : PF p) {t : Int} (ht : 0 ≤ t ∧ t < p.threads)
include hp ht
theorem cG:D.aL p+p.threads * 3≤rb p t∧rb p t+1+p.retire≤D.aM p∧0<rb p t:=by
  have h1:=jH hp;have h2:=jM hp;have h3:=pI hp;have h5:=fD hp;have ht1:=hp.t1;have hr1:=hp.r1;unfold rb;have h6:t * (1+p.retire)+(1+p.retire)≤p.threads * (1+p.retire):=by
    have:(t+1) * (1+p.retire)≤p.threads * (1+p.retire):=Int.mul_le_mul_of_nonneg_right kw kw
    rw [Int.add_mul] at this
    omega
  have h7:0≤t * (1+p.retire):=Int.mul_nonneg kw kw
  exact ⟨kw,kw,kw⟩
theorem pR:D.dC p t=rb p t:=by rw [uJ hp,if_pos ht]; rfl
theorem m5 {i:Int} (hi:0≤i∧i<p.retire):D.cT p t i=rb p t+1+i:=by rw [tD hp,if_pos ⟨ht,hi⟩]; rfl
end
theorem RetAt.keep {p:Plan} {ws ws':List Int} {t:Int} {r:List Int} (h:RetAt p ws t r) (hk:∀ j,rb p t≤j→j<rb p t+1+p.retire→rd ws' j=rd ws j):RetAt p ws' t r:=by
  have h0:=h.room;exact ⟨by rw [hk _ kw kw]; exact h.count,h.room,fun i hi=>by rw [hk _ kw kw]; exact h.slot i hi,h.range⟩
/-! ### A scan -/
def co (held:Int→Bool):Nat→List Int→List Int × List Int
  | 0,r=>(r,[])
  | k+1,r=>match r[k]? with
    | none=>co held k r
    | some n=>if held n then co held k r else
      let q:=co held k ((r.set k ((r.getLast?).getD 0)).dropLast)
      (q.1,n::q.2)
theorem vk {r:List Int} {k:Nat} (hk:k<r.length):List.Perm (r[k]::(r.set k ((r.getLast?).getD 0)).dropLast) r∧(r.set k ((r.getLast?).getD 0)).dropLast.length+1=r.length:=by
  rcases List.eq_nil_or_concat r with rfl | ⟨s,z,rfl⟩
  · cases hk
  · simp only [List.concat_eq_append] at hk ⊢
    rw [List.getLast?_append,List.getLast?_singleton]
    simp only [Option.some_or,Option.getD_some]
    rw [List.length_append,List.length_singleton] at hk
    by_cases e:k=s.length
    · subst e
      rw [List.set_append_right _ _ (Nat.le_refl _)]
      simp only [Nat.sub_self,List.set_cons_zero,List.dropLast_concat]
      simp only [List.getElem_append_right (Nat.le_refl _),Nat.sub_self,List.getElem_cons_zero,List.length_append,List.length_singleton]
      exact ⟨(List.perm_append_singleton z s).symm,by simp⟩
    · have hk':k<s.length:=by omega
      rw [List.set_append_left _ _ hk']
      simp only [List.dropLast_concat,List.getElem_append_left hk',List.length_set,List.length_append,List.length_singleton]
      refine ⟨?_,by simp⟩
      rw [List.set_eq_take_append_cons_drop,if_pos hk']
      have h1:List.Perm (s[k]::(s.take k++z::s.drop (k+1))) (z::(s.take k++s[k]::s.drop (k+1))):=by
        refine (List.Perm.cons _ List.perm_middle).trans ?_;refine (List.Perm.swap _ _ _).trans ?_;exact List.Perm.cons _ List.perm_middle.symm
      have h2:s.take k++s[k]::s.drop (k+1)=s:=by rw [←List.drop_eq_getElem_cons hk',List.take_append_drop]
      rw [h2] at h1
      exact h1.trans (List.perm_append_singleton z s).symm
theorem EJ {r:List Int} {k i:Nat} (hk:k<r.length) (hi:i<(r.set k ((r.getLast?).getD 0)).dropLast.length):(r.set k ((r.getLast?).getD 0)).dropLast[i]=if i=k then r[r.length - 1]'kw else r[i]'(by simp at hi; omega):=by
  have hlast:(r.getLast?).getD 0=r[r.length - 1]'kw:=by
    rw [List.getLast?_eq_getElem?,List.getElem?_eq_getElem kw]
    rfl
  rw [List.getElem_dropLast,List.getElem_set]
  by_cases e:k=i
  · rw [if_pos e,if_pos e.symm]; exact hlast
  · rw [if_neg e,if_neg (Ne.symm e)]
def tof (p:Plan) (ws:List Int) (n:Int):State:=D.bv (D.aQ (rd ws (D.aM p+n * 5))).1 p.gen
def pushAll (p:Plan) (ws:List Int) (out l:List Int):List Int:=out.foldl (fun l n=>if (tof p ws n).mode=3 then l else n::l) l
theorem tu {p:Plan} {ws l:List Int}:pushAll p ws [] l=l:=rfl
theorem sZ {p:Plan} {ws out l:List Int} {n:Int}:pushAll p ws (n::out) l=pushAll p ws out (if (tof p ws n).mode=3 then l else n::l):=rfl
theorem oV {p:Plan} {ws:List Int}:∀ {out l:List Int} {n:Int},n∈pushAll p ws out l→n∈out∨n∈l
  | [],_,_,h=>.inr h
  | m::out,l,n,h=>by
    have h:n∈pushAll p ws out (if (tof p ws m).mode=3 then l else m::l):=h
    rcases oV h with h | h
    · exact .inl (List.mem_cons_of_mem _ h)
    · split at h
      · exact .inr h
      · rcases List.mem_cons.1 h with rfl | h
        · exact .inl (List.mem_cons_self ..)
        · exact .inr h
theorem sP {p:Plan} {ws ws':List Int}:∀ {out l:List Int},(∀ n,n∈out→rd ws' (D.aM p+n * 5)=rd ws (D.aM p+n * 5))→pushAll p ws' out l=pushAll p ws out l
  | [],_,_=>by rw [tu,tu]
  | m::out,l,h=>by
    rw [sZ,sZ]
    have e:tof p ws' m=tof p ws m:=by unfold tof; rw [h m (List.mem_cons_self ..)]
    rw [e]
    exact sP fun n hn=>h n (List.mem_cons_of_mem _ hn)
theorem pq {held:Int→Bool}:∀ (k:Nat) (r:List Int),k≤r.length→List.Perm ((co held k r).2++(co held k r).1) r
  | 0,r,_=>List.Perm.refl _
  | k+1,r,hk=>by
    have hk':k<r.length:=hk;simp only [co,List.getElem?_eq_getElem hk'];cases held r[k]
    · simp only [Bool.false_eq_true,if_false,List.cons_append]
      obtain ⟨h1,h2⟩:=vk hk';exact (List.Perm.cons _ (pq k _ kw)).trans h1
    · simp only [if_true]
      exact pq k r kw
structure Scanned (p:Plan) (t:Int) (ws ws':List Int) (r' out l:List Int) (g:Int):Prop where
  len:ws'.length=ws.length
  ret:RetAt p ws' t r'
  free:∃ g',g'≤g+out.length∧FreeAt p ws' (pushAll p ws out l) g'
  states:∀ n,n∈out→rd ws' (D.aM p+n * 5)=D.cg (tof p ws n)
  fields:∀ n f,n∈out→0≤f→f<3→rd ws' (D.aM p+n * 5+2+f)=0
  others:∀ j,0<j→(∀ n,n∈out→¬ bK p n j)→¬ (rb p t≤j∧j<rb p t+1+p.retire)→rd ws' j=rd ws j
def heldW (p:Plan) (ws:List Int) (n:Int):Prop:=∃ j,0≤j∧j<p.threads * 3∧rd ws (D.aL p+j)=n+1
theorem AY {p:Plan} (hp:PF p) (hnn:p.nodes≤1000) {t:Int} (ht:0≤t∧t<p.threads) {held:Int→Bool} (J:Nat) (hJ:100<J):∀ (k:Nat) (r ws l:List Int) (g done:Int) (K:Nat),k≤r.length→(ws.length:Int)=D.bG p→RetAt p ws t r→FreeAt p ws l g→
    (∀ n,n∈r→n ∉ l)→r.Nodup→(∀ n,n∈r→(held n=true↔heldW p ws n))→g+k<1000000→0≤done→done+k≤100000→k<K→
    ∃ (m:Nat) (ws':List Int),m≤70 * k∧Runs (D.cV J K p t ⟨(k:Int) - 1,(r.length:Int),done⟩) ws m (done+((co held k r).2.length:Int)) ws'∧Scanned p t ws ws' (co held k r).1 (co held k r).2 l g:=by
  obtain ⟨q1,q2,q3⟩:=cG hp ht;have hS:=eY hp;have hN:=cE hp;have hn1:=hp.n1;have hr2:=hp.r2;have ht2:=hp.t2;have hz:=bX hp;intro k
  induction k with
  | zero=>
    intro r ws l g done K hk hl hR hF hrl hnd hh hg hd hd2 hK;obtain ⟨K,rfl⟩:∃ q,K=q+1:=⟨K - 1,kw⟩
    refine ⟨0,ws,kw,?_,⟨rfl,hR,⟨g,by simp [co],hF⟩,fun n hn=>by simp [co] at hn,fun n f hn=>by simp [co] at hn,fun _ _ _ _=>rfl⟩⟩
    show Runs (D.fJ J (D.cV J K) p t _) _ _ _ _
    unfold D.fJ;rw [show decide ((⟨((0:Nat):Int) - 1,(r.length:Int),done⟩:Scan).at_<0)=true from by simp]
    have:done+((co held 0 r).2.length:Int)=done:=by simp [co]
    rw [this]
    exact .done _ _
  | succ k ih=>
    intro r ws l g done K hk hl hR hF hrl hnd hh hg hd hd2 hK;obtain ⟨K,rfl⟩:∃ q,K=q+1:=⟨K - 1,kw⟩
    have hk':k<r.length:=hk;have hroom:=hR.room;have hm:r[k]∈r:=List.getElem_mem hk';have hrk:=hR.range _ hm;obtain ⟨n,hnk⟩:∃ n,n=r[k]:=⟨_,rfl⟩;rw [←hnk] at hm hrk
    have hbody:∀ {m:Nat} {res:Int} {ws':List Int},Runs (T.bind (D.lY J p n) (fun x=>D.fb J (D.cV J K) p t ⟨(k:Int) - 1,(r.length:Int),done⟩ ⟨(k:Int),(r.length:Int),done⟩ (n+1) x)) ws m res ws'→
        Runs (D.cV J (K+1) p t ⟨((k+1:Nat):Int) - 1,(r.length:Int),done⟩) ws (m+1) res ws':=by
      intro m res ws' hr;rw [show ((k+1:Nat):Int) - 1=(k:Int) from by omega]
      show Runs (D.fJ J (D.cV J K) p t _) _ _ _ _
      unfold D.fJ;simp only;rw [show decide ((k:Int)<0)=false from by rw [decide_eq_false_iff_not]; omega,m5 hp ht kw,cN (show -1000000≤(k:Int) - 1 by omega) kw]
      refine mo kw kw ?_;rw [hR.slot k hk',←hnk];unfold D.gI;rw [show decide (n+1<1)=false from by simp; omega,dq (x:=p.nodes) kw kw,show decide (n+1 > p.nodes)=false from by simp; omega,cN (show -1000000≤n+1 by omega) kw,show n+1 - 1=n from kw,cN (show -1000000≤n by omega) kw]
      exact hr
    have hsc:co held (k+1) r=if held n then co held k r else ((co held k ((r.set k ((r.getLast?).getD 0)).dropLast)).1,n::(co held k ((r.set k ((r.getLast?).getD 0)).dropLast)).2):=by
      simp only [co,List.getElem?_eq_getElem hk',hnk]
    by_cases hc:held n=true
    · rw [hsc,if_pos hc]
      obtain ⟨j,j0,j1,hj⟩:=(hh n hm).1 hc;obtain ⟨m1,hm1,hr1⟩:=Ca hp hl (n:=n) kw (p.threads * 3).toNat 0 J kw kw kw ⟨j,kw,j1,hj⟩
      obtain ⟨m,ws',hm2,hr2',hsd⟩:=ih r ws l g done K kw hl hR hF hrl hnd hh kw hd kw kw;refine ⟨m1+m+1,ws',kw,hbody ?_,hsd⟩
      exact Runs.bind (g:=fun x=>D.fb J (D.cV J K) p t ⟨(k:Int) - 1,(r.length:Int),done⟩ ⟨(k:Int),(r.length:Int),done⟩ (n+1) x) hr1 hr2'
    · rw [hsc,if_neg hc]
      have hno:∀ j,0≤j→j<p.threads * 3→rd ws (D.aL p+j)≠n+1:=fun j j0 j1 hj=>hc ((hh n hm).2 ⟨j,j0,j1,hj⟩)
      have hr1:=CC hp hl (n:=n) kw (p.threads * 3).toNat 0 J kw kw kw hno
      obtain ⟨hpm,hpl⟩:=vk hk';rw [←hnk] at hpm
      obtain ⟨r2,hr2e⟩:∃ r2,r2=(r.set k ((r.getLast?).getD 0)).dropLast:=⟨_,rfl⟩;have hat:∀ (i:Nat) (hi:i<r2.length),r2[i]=if i=k then r[r.length - 1]'kw else r[i]'(by rw [hr2e] at hi; simp at hi; omega):=by
        intro i hi;subst hr2e;exact EJ hk' hi
      rw [←hr2e] at hpm hpl ⊢
      have hnd2:(n::r2).Nodup:=hpm.nodup_iff.2 hnd;have hsub:∀ q,q∈r2→q∈r∧q≠n:=fun q hq=>⟨hpm.subset (List.mem_cons_of_mem _ hq),fun e=>(List.nodup_cons.1 hnd2).1 (e ▸ hq)⟩
      obtain ⟨v,hv⟩:∃ v,v=if k=r.length - 1 then ws else ws.set (rb p t+1+k).toNat (r[r.length - 1]'kw+1):=⟨_,rfl⟩
      have hvl:v.length=ws.length:=by rw [hv]; split <;> simp
      have hvr:∀ j,0≤j→rd v j=if j=rb p t+1+k then r[r.length - 1]'kw+1 else rd ws j:=by
        intro j hj;rw [hv]
        by_cases e:k=r.length - 1
        · rw [if_pos e]
          split
          · rename_i h
            rw [h,hR.slot k hk']
            congr 2
          · rfl
        · rw [if_neg e]
          exact cn kw kw hj
      obtain ⟨u,hu⟩:∃ u,u=v.set (rb p t).toNat ((r.length:Int) - 1):=⟨_,rfl⟩;have hul:u.length=ws.length:=by rw [hu,List.length_set,hvl]
      have hur:∀ j,0≤j→rd u j=if j=rb p t then (r.length:Int) - 1 else rd v j:=fun j hj=>by rw [hu]; exact cn kw kw hj
      have huo:∀ j,0≤j→¬ (rb p t≤j∧j<rb p t+1+p.retire)→rd u j=rd ws j:=by
        intro j hj hno;rw [hur j hj,if_neg kw,hvr j hj,if_neg kw]
      have hR2:RetAt p u t r2:=by
        refine ⟨?_,kw,fun i hi=>?_,fun q hq=>hR.range q (hsub q hq).1⟩
        · rw [hur _ kw,if_pos rfl]; omega
        · rw [hur _ kw,if_neg kw,hvr _ kw,hat i hi]
          by_cases e:i=k
          · rw [if_pos kw,if_pos e]
          · rw [if_neg kw,if_neg e]
            exact hR.slot i kw
      have hF2:FreeAt p u l g:=hF.keep hul (huo 0 kw kw) fun q hq=>by
        have:=hF.range q hq;exact huo _ (by unfold nx; omega) (by unfold nx; omega)
      have hst:rd u (D.aM p+n * 5)=rd ws (D.aM p+n * 5):=huo _ kw kw
      obtain ⟨w,hw1,hw⟩:=sX hp hrk kw kw hF2 (hrl n hm) (t:=tof p ws n) (by unfold tof; rw [hst]) (J - 4);rw [show J - 4+4=J from by omega] at hw1
      obtain ⟨g2,hg2,hFw⟩:∃ g2,g2≤g+1∧FreeAt p w (if (tof p ws n).mode=3 then l else n::l) g2:=by
        by_cases hm3:(tof p ws n).mode=3
        · exact ⟨g,kw,by rw [if_pos hm3]; exact hw.gone hm3⟩
        · exact ⟨g+1,kw,by rw [if_neg hm3]; exact hw.free hm3⟩
      have hwl:=hw.len;have hwo:=hw.others;have hwu:∀ j,0<j→j<D.aM p→¬ (rb p t≤j∧j<rb p t+1+p.retire)→rd w j=rd ws j:=fun j h0 h1 h2=>by
        rw [hwo j h0 (by unfold bK; omega),huo j kw h2]
      have hRw:RetAt p w t r2:=hR2.keep fun j h0 h1=>hwo j kw (by unfold bK; omega)
      have hother:∀ q,q∈r2→∀ f:Int,0≤f→f<5→rd w (D.aM p+q * 5+f)=rd ws (D.aM p+q * 5+f):=by
        intro q hq f f0 f1;have hqr:=hR.range q (hsub q hq).1;have hqn:=(hsub q hq).2;rw [hwo _ kw (by unfold bK; omega),huo _ kw kw]
      have hA:∀ q,q∈r2→q ∉ (if (tof p ws n).mode=3 then l else n::l):=by
        intro q hq hql
        split at hql
        · exact hrl q (hsub q hq).1 hql
        · rcases List.mem_cons.1 hql with rfl | hql
          · exact (hsub _ hq).2 rfl
          · exact hrl q (hsub q hq).1 hql
      have hB:∀ q,q∈r2→(held q=true↔heldW p w q):=by
        intro q hq;rw [hh q (hsub q hq).1];unfold heldW
        constructor
        · rintro ⟨j,j0,j1,hj⟩
          exact ⟨j,j0,j1,by rw [hwu _ kw kw kw]; exact hj⟩
        · rintro ⟨j,j0,j1,hj⟩
          exact ⟨j,j0,j1,by rw [hwu _ kw kw kw] at hj; exact hj⟩
      obtain ⟨m,ws',hm2,hr2',hsd⟩:=ih r2 w (if (tof p ws n).mode=3 then l else n::l) g2 (done+1) K kw kw hRw hFw hA (List.nodup_cons.1 hnd2).2 hB kw kw kw kw
      have hout:∀ q,q∈(co held k r2).2→q∈r2:=fun q hq=>(pq (held:=held) k r2 kw).subset (List.mem_append_left _ hq)
      have hlen2:(r2.length:Int)=(r.length:Int) - 1:=kw
      have hfin:Runs (D.ez J (D.cV J K) p t ((r.length:Int) - 1) n ⟨(k:Int),(r.length:Int),done⟩) v ((if (tof p ws n).mode=3 then 5 else 8)+m+1) (done+1+((co held k r2).2.length:Int)) ws':=by
        unfold D.ez;rw [pR hp ht,dq (x:=(r.length:Int) - 1) kw kw];refine iE kw kw ?_;rw [←hu];unfold D.nP;refine Runs.bind (g:=fun x=>D.l6 J (D.cV J K) p t ⟨(k:Int),(r.length:Int),done⟩ ((r.length:Int) - 1) x) hw1 ?_
        unfold D.l6;simp only;rw [cN (show -1000000≤(k:Int) - 1 by omega) kw,cN (show -1000000≤done+1 by omega) kw,←hlen2]
        exact hr2'
      have hrem:∃ m3:Nat,m3≤m+11∧Runs (D.gJ J (D.cV J K) p t ⟨(k:Int),(r.length:Int),done⟩ n) ws m3 (done+1+((co held k r2).2.length:Int)) ws':=by
        unfold D.gJ;simp only;rw [cN (show -1000000≤(r.length:Int) - 1 by omega) kw]
        by_cases e:k=r.length - 1
        · rw [show ((k:Int)==(r.length:Int) - 1)=true from by simp; omega]
          rw [if_pos e] at hv
          rw [hv] at hfin
          exact ⟨_,by split <;> omega,hfin⟩
        · rw [show ((k:Int)==(r.length:Int) - 1)=false from by simp; omega]
          rw [if_neg e] at hv
          refine ⟨(if (tof p ws n).mode=3 then 5 else 8)+m+1+1+1,by split <;> omega,?_⟩
          simp only [cond_false]
          rw [m5 hp ht kw]
          refine mo kw kw ?_;unfold D.lv;have hlast:=hR.slot (r.length - 1) kw;rw [show rb p t+1+((r.length:Int) - 1)=rb p t+1+((r.length - 1:Nat):Int) from kw,hlast]
          simp only
          rw [m5 hp ht kw]
          refine iE kw kw ?_;rw [←hv];exact hfin
      obtain ⟨m3,hm3,hrem⟩:=hrem;refine ⟨(p.threads * 3).toNat+m3+1,ws',kw,hbody ?_,?_⟩
      · refine Runs.bind (g:=fun x=>D.fb J (D.cV J K) p t ⟨(k:Int) - 1,(r.length:Int),done⟩ ⟨(k:Int),(r.length:Int),done⟩ (n+1) x) hr1 ?_
        unfold D.fb;simp only [cond_false];rw [cN (show -1000000≤n+1 by omega) kw,show n+1 - 1=n from kw,cN (show -1000000≤n by omega) kw,List.length_cons]
        rw [show done+(((co held k r2).2.length+1:Nat):Int)=done+1+((co held k r2).2.length:Int) from by omega]
        exact hrem
      · have hst2:∀ q,q∈r2→rd w (D.aM p+q * 5)=rd ws (D.aM p+q * 5):=fun q hq=>by
          have:=hother q hq 0 kw kw
          rwa [Int.add_zero] at this
        have hnout:n ∉ (co held k r2).2:=fun h=>(hsub n (hout n h)).2 rfl
        refine ⟨by rw [hsd.len,hwl,hul],hsd.ret,?_,fun q hq=>?_,fun q f hq f0 f1=>?_,fun j h0 h1 h2=>?_⟩
        · obtain ⟨g3,hg3,hF3⟩:=hsd.free
          refine ⟨g3,by rw [List.length_cons]; omega,?_⟩
          show FreeAt p ws' (pushAll p ws (co held k r2).2 (if (tof p ws n).mode=3 then l else n::l)) g3
          rw [←sP fun q hq=>hst2 q (hout q hq)]
          exact hF3
        · rcases List.mem_cons.1 hq with rfl | hq
          · rw [hsd.others _ kw (fun q' hq'=>by
              have:=(hsub q' (hout q' hq')).2;unfold bK; omega) kw]
            exact hw.state
          · rw [hsd.states q hq]
            unfold tof;rw [hst2 q (hout q hq)]
        · rcases List.mem_cons.1 hq with rfl | hq
          · rw [hsd.others _ kw (fun q' hq'=>by
              have:=(hsub q' (hout q' hq')).2;unfold bK; omega) kw]
            exact hw.fields f f0 f1
          · exact hsd.fields q f hq f0 f1
        · rw [hsd.others j h0 (fun q hq=>h1 q (List.mem_cons_of_mem _ hq)) h2,hwo j h0 (h1 n (List.mem_cons_self ..)),huo j kw h2]
theorem uf {p:Plan} (hp:PF p) (hnn:p.nodes≤1000) {t:Int} (ht:0≤t∧t<p.threads) {held:Int→Bool} (J:Nat) (hJ:1100<J) {r ws l:List Int} {g:Int} (hl:(ws.length:Int)=D.bG p) (hR:RetAt p ws t r) (hF:FreeAt p ws l g)
    (hrl:∀ n,n∈r→n ∉ l) (hnd:r.Nodup) (hh:∀ n,n∈r→(held n=true↔heldW p ws n)) (hg:g<900000) :
    ∃ (m:Nat) (ws':List Int),m≤70 * r.length+1∧Runs (D.eG J p t) ws m ((co held r.length r).2.length:Int) ws'∧Scanned p t ws ws' (co held r.length r).1 (co held r.length r).2 l g:=by
  obtain ⟨q1,q2,q3⟩:=cG hp ht;have hS:=eY hp;have hn1:=hp.n1;have hr2:=hp.r2;have hr1:=hp.r1;have ht1:=hp.t1;have hroom:=hR.room;obtain ⟨m,ws',hm,hr,hsd⟩:=AY hp hnn ht J kw r.length r ws l g 0 J (Nat.le_refl _) hl hR hF hrl hnd hh kw kw kw kw;refine ⟨m+1,ws',kw,?_,hsd⟩
  unfold D.eG;rw [pR hp ht];refine mo kw kw ?_;rw [hR.count];unfold D.oI;have hmin:IntKind.i64.wrap (minI (r.length:Int) (IntKind.u64.wrap p.retire))=(r.length:Int):=by
    rw [dq kw kw]
    have:minI (r.length:Int) p.retire=(r.length:Int):=by unfold minI; split <;> omega
    rw [this,cN kw kw]
  rw [hmin,cN (show -1000000≤(r.length:Int) - 1 by omega) kw]
  rw [Int.zero_add] at hr
  exact hr
theorem uE:∀ (l m:List Int),l.Nodup→(∀ x,x∈l→x∈m)→l.length≤m.length
  | [],_,_,_=>Nat.zero_le _
  | x::l,m,hn,hs=>by
    have hx:x∈m:=hs x (List.mem_cons_self ..);have h1:=uE l (m.erase x) (List.nodup_cons.1 hn).2 fun y hy=>(List.mem_erase_of_ne (fun e:y=x=>(List.nodup_cons.1 hn).1 (e ▸ hy))).2 (hs y (List.mem_cons_of_mem _ hy))
    rw [List.length_erase_of_mem hx] at h1
    have:=List.length_pos_of_mem hx;simp only [List.length_cons];omega
theorem BM {n:Int} {k:Nat} (h0:0≤n) (h1:n<k):n∈(List.range' 0 k).map fun (q:Nat)=>(q:Int):=by
  refine List.mem_map.2 ⟨n.toNat,List.mem_range'_1.2 ⟨kw,kw⟩,kw⟩
theorem Cd {l:List Int} {k:Nat} (hn:l.Nodup) (hr:∀ n,n∈l→0≤n∧n<k):l.length≤k:=by
  have:=uE l ((List.range' 0 k).map fun (q:Nat)=>(q:Int)) hn fun x hx=>BM (hr x hx).1 (hr x hx).2
  simpa using this
theorem FreeAt.count {p:Plan} {ws l:List Int} {g:Int} (h:FreeAt p ws l g) (hn:0≤p.nodes):(l.length:Int)≤p.nodes:=by
  have:=Cd (k:=p.nodes.toNat) h.nodup fun n hn=>by have:=h.range n hn; omega
  omega
structure HzOnly (p:Plan) (ws ws':List Int):Prop where
  len:ws'.length=ws.length
  same:∀ j,0≤j→¬ (D.aL p≤j∧j<D.aL p+p.threads * 3)→rd ws' j=rd ws j
theorem HzOnly.refl {p:Plan} {ws:List Int}:HzOnly p ws ws:=⟨rfl,fun _ _ _=>rfl⟩
theorem HzOnly.set {p:Plan} (hp:PF p) {ws ws':List Int} (h:HzOnly p ws ws') (hl:Len p ws) {i v:Int} (h0:0≤i) (h1:i<p.threads * 3):HzOnly p ws (ws'.set (D.aL p+i).toNat v):=by
  obtain ⟨g1,g2,g3,g4⟩:=bX hp;have hn1:=hp.n1;have hl2:=h.len;unfold Len at hl
  refine ⟨by rw [List.length_set,h.len],fun j hj hno=>?_⟩
  rw [cn kw kw hj,if_neg kw]
  exact h.same j hj hno
theorem HzOnly.ret {p:Plan} (hp:PF p) {ws ws':List Int} {t:Int} {r:List Int} (ht:0≤t∧t<p.threads) (h:HzOnly p ws ws') (hr:RetAt p ws t r):RetAt p ws' t r:=by
  obtain ⟨q1,q2,q3⟩:=cG hp ht;exact hr.keep fun j h0 h1=>h.same j kw kw
theorem HzOnly.free {p:Plan} (hp:PF p) {ws ws' l:List Int} {g:Int} (h:HzOnly p ws ws') (hf:FreeAt p ws l g):FreeAt p ws' l g:=by
  obtain ⟨g1,g2,g3,g4⟩:=bX hp;have ht1:=hp.t1;refine hf.keep h.len (h.same 0 kw kw) fun n hn=>?_;have:=hf.range n hn
  exact h.same _ (by unfold nx; omega) (by unfold nx; omega)
theorem Scanned.hz {p:Plan} (hp:PF p) {t:Int} (ht:0≤t∧t<p.threads) {ws ws' r' out l:List Int} {g:Int} (h:Scanned p t ws ws' r' out l g) (hr:∀ n,n∈out→0≤n) {j:Int} (h0:0≤j) (h1:j<p.threads * 3):rd ws' (D.aL p+j)=rd ws (D.aL p+j):=by
  obtain ⟨g1,g2,g3,g4⟩:=bX hp;obtain ⟨q1,q2,q3⟩:=cG hp ht;exact h.others _ kw (fun n hn=>by have:=hr n hn; unfold bK; omega) kw
def PrepP {R:Type} (P:Program) (E:Enc R) (n:Nat) (t:T R) (F:Nat→Prop) (w:World):Value→World→Prop:=fun v x=>Below w.heap.size w x∧Rep P E n t (grow F w x) x v
theorem PrepP.st {R:Type} {P:Program} {E:Enc R} {n:Nat} {t:T R} {F:Nat→Prop} {w:World} (hF:∀ b,F b→b<w.heap.size):∀ v w1 w2,PrepP P E n t F w v w1→Below w1.heap.size w1 w2→PrepP P E n t F w v w2:=by
  rintro v w1 w2 ⟨h1,h2⟩ hb;refine ⟨h1.trans (hb.mono h1.size),Rep.mono ?_ ?_ hb.size n _ _ h2⟩
  · rintro b (h | ⟨h3,h4⟩)
    · exact .inl h
    · exact .inr ⟨h3,Nat.lt_of_lt_of_le h4 hb.size⟩
  · rintro b (h | ⟨h3,h4⟩)
    · exact hb.block b (Nat.lt_of_lt_of_le (hF b h) h1.size)
    · exact hb.block b h4
theorem PrepP.of {R:Type} {P:Program} {E:Enc R} {n:Nat} {t:T R} {F:Nat→Prop} {w w1 w2:World} {v:Value} (h1:Below w.heap.size w w1) (hb:Below w1.heap.size w1 w2) (h:Rep P E n t (grow F w1 w2) w2 v):PrepP P E n t F w v w2:=by
  refine ⟨h1.trans (hb.mono h1.size),Rep.mono ?_ (fun b _=>rfl) (Nat.le_refl _) n _ _ h⟩
  rintro b (h | ⟨h3,h4⟩)
  · exact .inl h
  · exact .inr ⟨Nat.le_trans h1.size h3,h4⟩
theorem drB {w w':World} {d:Nat} (h:Below w.heap.size { w with drawn:=d } w'):Below w.heap.size w w':=⟨h.os,h.tape,h.output,h.size,h.block⟩
end Go.Proofs.YtikjpdpgdmbdpaaGreat

/- Some of our texts, one behind the other. -/
import Derived.Test.YtfpgnmhcfkikkaaGreatQdM20
import Derived.Test.YtfpgnmhcfkikkaaGreatQdQueues
import Derived.Test.YtfpgnmhcfkikkaaGreatQdM19
set_option linter.all false
/- Ours. -/
namespace Go.Proofs.YtfpgnmhcfkikkaaGreat
open Go.RowKit
theorem jL {p:Plan} (hp:PF p) (hd:0<p.domains) {c:Int} (hc:0≤c∧c<2):D.cU p 0 c=2+c:=by
  have hcl:=jC hp;have hd2:=hp.d2;have e1:IntKind.i64.wrap (0 * IntKind.i64.wrap (1+D.bF p))=0:=by rw [Int.zero_mul]; rfl
  unfold D.cU D.eJ;rw [e1,show IntKind.i64.wrap (2+0)=2 from rfl,bh (x:=2+c) (by omega) (by omega),bh (x:=D.bF p - 1) (by omega) (by omega)]
  refine oT hp fun b hb=>?_;simp only [List.mem_cons,List.mem_nil_iff,or_false] at hb
  rcases hb with rfl | rfl
  · refine ⟨?_,?_⟩
    · exact Int.le_refl _
    · show (0:Int)≤IntKind.i64.wrap (p.domains - 1)
      rw [bh (by omega) (by omega)]; omega
  · exact ⟨hc.1,by show c≤D.bF p - 1; omega⟩
theorem haz4 {p:Plan} (hp:PF p) (hd:0<p.domains):4≤D.aT p:=by
  have hcl:=jC hp;rw [jr hp];have:1 * (1+D.bF p)≤p.domains * (1+D.bF p):=Int.mul_le_mul_of_nonneg_right (by omega) (by omega)
  omega
theorem PoolAt.putc {p:Plan} (hp:PF p) {t:Int} (ht:0≤t∧t<p.threads) {ws ws':List Int} {P:Pool} {g a:Int} (h:PoolAt p t ws P g) (ha:0<a∧a<D.aT p) (hl:ws'.length=ws.length)
    (ho:∀ j,0≤j→j≠a→rd ws' j=rd ws j):PoolAt p t ws' P g:=by
  obtain ⟨z1,z2,z3,z4⟩:=bZ hp;obtain ⟨p1,p2,p3⟩:=cB hp ht;refine h.keep hp ht (st:=P.st) hl (ho 0 (by omega) (by omega)) (fun j j0 j1=>ho j (by omega) (by omega)) (fun q e hq e0 e1=>?_) (fun j j0 j1=>ho _ (by omega) (by omega)) (fun q q0 q1=>?_)
  · have hr:=h.free.range q hq
    exact ho _ (by unfold sp; omega) (by unfold sp; omega)
  · have:=h.st q q0 q1
    exact ⟨by rw [ho _ (by unfold sp; omega) (by unfold sp; omega)]; exact this.1,this.2⟩
theorem zA {at_:Int} {f:Int→T Int} {ws ws':List Int} {n:Nat} {r:Int} (h0:0≤at_) (h1:at_<ws.length) (h:Runs (f (rd ws at_)) ws n r ws'):Runs (D.cV at_ f) ws (n+1) r ws':=Runs.load h0 h1 h
theorem s9 {at_:Int} {f:Int→T Int} {ws ws':List Int} {n:Nat} {r:Int} (h0:0≤at_) (h1:at_<ws.length) (h:Runs (f (rd ws at_)) ws n r ws'):Runs (D.lg at_ f) ws (n+1) r ws':=Runs.load h0 h1 h
theorem zh {at_ w:Int} {f:Unit→T Int} {ws ws':List Int} {n:Nat} {r:Int} (h0:0≤at_) (h1:at_<ws.length) (h:Runs (f ()) (ws.set at_.toNat w) n r ws'):Runs (D.dl at_ w f) ws (n+1) r ws':=Runs.store h0 h1 h
theorem zo {p:Plan} (hp:PF p) (hnn:p.nodes≤1000) {t:Int} (ht:0≤t∧t<p.threads) {ws:List Int} {P:Pool} {g n:Int} (h:PoolAt p t ws P g) (hg:g<900000) (J:Nat) (hJ:1100<J) (hn:0≤n∧n<p.nodes) (hnr:n ∉ P.rt) (hnf:n ∉ P.fr) :
    ∃ (m:Nat) (ws':List Int) (g':Int),m≤70 * P.rt.length+12∧g'≤g+P.rt.length∧Runs (D.jo J p t n) ws m n ws'∧
      PoolAt p t ws' ((⟨P.fr,P.rt,fun q=>if q=n then ⟨(P.st n).gen,2,(P.st n).kind⟩ else P.st q⟩:Pool).stash p.retire p.gen n) g'∧ws'.length=ws.length∧
      ∀ j,0<j→(∀ q,q∈P.fr∨q∈P.rt→¬ ofNode p q j)→¬ (rb p t≤j∧j<rb p t+1+p.retire)→j≠sp p n→rd ws' j=rd ws j:=by
  obtain ⟨q1,q2,q3⟩:=dF hp hn;obtain ⟨p1,p2,p3⟩:=cB hp ht;obtain ⟨z1,z2,z3,z4⟩:=bZ hp;have hl:=h.free.len;have hst:=(h.st n hn.1 hn.2);have hsp:D.aJ p≤sp p n:=by unfold sp; omega
  have hS:SF ⟨(P.st n).gen,2,(P.st n).kind⟩:=⟨hst.2.g0,hst.2.g1,by show (0:Int)≤2; omega,by show (2:Int)≤3; omega,hst.2.k0,hst.2.k1⟩
  generalize hu:ws.set (sp p n).toNat (D.bR ⟨(P.st n).gen,2,(P.st n).kind⟩)=u
  have hul:u.length=ws.length:=by rw [←hu,List.length_set]
  have hur:∀ j,0≤j→rd u j=if j=sp p n then D.bR ⟨(P.st n).gen,2,(P.st n).kind⟩ else rd ws j:=fun j hj=>by rw [←hu]; exact bE (by omega) (by omega) hj
  have hPu:PoolAt p t u ⟨P.fr,P.rt,fun q=>if q=n then ⟨(P.st n).gen,2,(P.st n).kind⟩ else P.st q⟩ g:=by
    refine h.keep hp ht hul (by rw [hur 0 (by omega),if_neg (by omega)]) (fun j j0 j1=>by rw [hur j (by omega),if_neg (by omega)]) (fun q f hq f0 f1=>?_) (fun j j0 j1=>by rw [hur _ (by omega),if_neg (by omega)]) (fun q n0 n1=>?_)
    · have hr:=h.free.range q hq
      have hne:q≠n:=fun e=>hnf (e ▸ hq)
      rw [hur _ (by unfold sp; omega),if_neg (by unfold sp; omega)]
    · by_cases e:q=n
      · subst e
        show StAt p u q (if q=q then _ else _)
        rw [if_pos rfl]
        exact ⟨by rw [hur _ (by omega),if_pos rfl],hS⟩
      · show StAt p u q (if q=n then _ else _)
        rw [if_neg e]
        have:=h.st q n0 n1;exact ⟨by rw [hur _ (by unfold sp; omega),if_neg (by unfold sp; omega)]; exact this.1,this.2⟩
  obtain ⟨m,ws',g',hm',hg',hr,hP,hk⟩:=hPu.stash hp hnn ht hn hnr hnf hg J hJ;refine ⟨m+2,ws',g',by simp only at hm'; omega,hg',?_,hP,by rw [hk.1,hul],fun j j0 h1 h2 h3=>?_⟩
  · unfold D.jo
    rw [q3]
    refine zA (n:=m+1) (by omega) (by omega) ?_;unfold D.nS;rw [q3,hst.of];refine zh (by omega) (by omega) ?_;unfold D.nO;have hu':ws.set (sp p n).toNat (D.bR (D.eF (P.st n)))=u:=hu;rw [hu'];exact hr
  · rw [hk.2 j j0 h1 h2,hur j (by omega),if_neg h3]
structure QAt (p:Plan) (t:Int) (ws:List Int) (P:Pool) (g:Int) (i n:Nat) (l:List Int):Prop where
  pool:PoolAt p t ws P g
  le:i≤n
  nn:(n:Int)<p.nodes
  out:∀ q:Int,(i:Int)≤q→q≤n→q ∉ P.fr∧q ∉ P.rt
  hd:rd ws 2=(i:Int)+1
  tl:rd ws 3=(n:Int)+1
  nxt:∀ q:Int,(i:Int)≤q→q<n→rd ws (fp p q 2)=q+2
  last:rd ws (fp p n 2)=0
  val:∀ q:Nat,i≤q→q<n→rd ws (fp p ((q:Int)+1) 1)=l.getD q 0
theorem qword {a:Int} (h0:-1≤a) (h1:a≤1000000):D.cX a=a+1:=by
  unfold D.cX;rw [bh (by omega) (by omega),cD (by omega) (by omega)]
theorem qnode {a:Int} (h0:0≤a) (h1:a≤1000000):D.bq a=a - 1:=by
  unfold D.bq;rw [bh (x:=a) (by omega) (by omega),bh (by omega) (by omega)]
section
variable {p : Plan} (hp : PF p) (hdm : 0 < p.domains) (hnn : p.nodes ≤ 40) (hrr : p.retire ≤ 40) {t : Int} (ht : 0 ≤ t ∧ t < p.threads) {ws : List Int} {P : Pool} {g : Int} {i n : Nat} {l : List Int} (h : QAt p t ws P g i n l)
include hp hdm hnn hrr ht h
omit h in
theorem tL {k:Unit→T Res} {u:List Int} (hu:(u.length:Int)=D.cd p) {m:Nat} {r:Res} {ws':List Int}
    (hr:Runs (k ()) ((u.set (D.aT p+t * 3+1).toNat 0).set (D.aT p+t * 3+0).toNat 0) m r ws'):Runs (D.fY ⟨⟨p,0,t⟩,2,3⟩ k) u (m+2) r ws':=by
  have h1:=jy hp (ws:=u) hu ht (s:=1) (n:=-1) (by omega) (by omega)
  have h2:=jy hp (ws:=u.set (D.aT p+t * 3+1).toNat 0) (by unfold Len; rw [List.length_set]; exact hu) ht (s:=0) (n:=-1) (by omega) (by omega)
  unfold D.fY;unfold D.eM;refine (Runs.bind (g:=fun _=>D.fq (fun _=>D.kJ ⟨⟨p,0,t⟩,2,3⟩ k)) h1 (m:=m+1) ?_).cast (by omega)
  unfold D.fq D.kJ D.eM;refine (Runs.bind (g:=fun _=>D.fq k) h2 (m:=m) ?_).cast (by omega)
  exact hr
end
theorem PoolAt.beside {p:Plan} (hp:PF p) {t:Int} (ht:0≤t∧t<p.threads) {ws ws':List Int} {P:Pool} {g:Int} (h:PoolAt p t ws P g) (A:Int→Prop)
    (hA:∀ j,A j→(0<j∧j<D.aT p)∨∃ n f:Int,(0≤n∧n<p.nodes)∧n ∉ P.fr∧(0≤f∧f<3)∧j=fp p n f) (hl:ws'.length=ws.length) (ho:∀ j,0≤j→¬ A j→rd ws' j=rd ws j):PoolAt p t ws' P g:=by
  obtain ⟨z1,z2,z3,z4⟩:=bZ hp;obtain ⟨p1,p2,p3⟩:=cB hp ht;have hfp:∀ q f,fp p q f=D.aJ p+q * 5+2+f:=fun q f=>rfl
  refine h.keep hp ht (st:=P.st) hl (ho 0 (by omega) fun ha=>?_) (fun j j0 j1=>ho j (by omega) fun ha=>?_) (fun q e hq e0 e1=>?_) (fun j j0 j1=>ho _ (by omega) fun ha=>?_) (fun q q0 q1=>?_)
  · rcases hA _ ha with ha | ⟨n,f,hn,_,hf,he⟩
    · omega
    · rw [hfp] at he; omega
  · rcases hA _ ha with ha | ⟨n,f,hn,_,hf,he⟩
    · omega
    · rw [hfp] at he; omega
  · have hr:=h.free.range q hq
    refine ho _ (by unfold sp; omega) fun ha=>?_
    rcases hA _ ha with ha | ⟨n,f,hn,hnf,hf,he⟩
    · unfold sp at ha; omega
    · rw [hfp] at he
      unfold sp at he
      have:n=q:=by omega
      exact hnf (this ▸ hq)
  · rcases hA _ ha with ha | ⟨n,f,hn,_,hf,he⟩
    · omega
    · rw [hfp] at he; omega
  · have:=h.st q q0 q1
    have hne:¬ A (sp p q):=fun ha=>by
      rcases hA _ ha with ha | ⟨n,f,hn,_,hf,he⟩
      · unfold sp at ha; omega
      · rw [hfp] at he
        unfold sp at he; omega
    exact ⟨by rw [ho _ (by unfold sp; omega) hne]; exact this.1,this.2⟩
theorem at_q {p:Plan} (hp:PF p) (hdm:0<p.domains) (t:Int):D.cH ⟨p,0,t⟩ 0=⟨⟨p,0,t⟩,2,3⟩:=by
  unfold D.cH;rw [jL hp hdm (by omega),jL hp hdm (by omega)]
  rfl
section
variable {p : Plan} (hp : PF p) (hdm : 0 < p.domains) (hnn : p.nodes ≤ 40) (hrr : p.retire ≤ 40) {t : Int} (ht : 0 ≤ t ∧ t < p.threads)
include hp hdm hnn hrr ht
theorem QAt.full {ws:List Int} {st:Int→State} {g:Int} {n:Nat} {l:List Int} (h:QAt p t ws ⟨[],[],st⟩ g 0 n l) (J:Nat) (hJ:1100<J) (hg:g<900000) (v:Int) :
    ∃ (m:Nat) (ws':List Int) (g':Int),m≤50∧g'≤g+1∧Runs (D.bW (J+1) ⟨p,0,t⟩ 0 v) ws m ⟨4,0⟩ ws'∧QAt p t ws' ⟨[],[],st⟩ g' 0 n l:=by
  obtain ⟨z1,z2,z3,z4⟩:=bZ hp;obtain ⟨p1,p2,p3⟩:=cB hp ht;have h4:=haz4 hp hdm;have hnn':=h.nn;obtain ⟨m,ws',g',hm,hg',hr,hP,hk⟩:=h.pool.grant hp (by omega) ht (k:=1) (by omega) hg (J+1) (by omega);have hgr:((⟨[],[],st⟩:Pool).grant p.gen 1)=(⟨[],[],st⟩,⟨-1,0,4⟩):=rfl;rw [hgr] at hr hP
  have hkk:∀ j,0<j→(j<D.aT p∨D.aJ p≤j)→rd ws' j=rd ws j:=fun j j0 hj=>hk.2 j j0 (fun q hq=>by rcases hq with hq | hq <;> cases hq) (by omega)
  have hfp:∀ q f,fp p q f=D.aJ p+q * 5+2+f:=fun q f=>rfl
  simp only [List.length_nil] at hm hg'
  refine ⟨m+0,ws',g',by omega,by omega,?_,hP,h.le,h.nn,fun q _ _=>⟨List.not_mem_nil,List.not_mem_nil⟩,(hkk 2 (by omega) (by omega)).trans h.hd,(hkk 3 (by omega) (by omega)).trans h.tl,fun q q0 q1=>(hkk _ (by rw [hfp]; omega) (by rw [hfp]; omega)).trans (h.nxt q q0 q1),(hkk _ (by rw [hfp]; omega) (by rw [hfp]; omega)).trans h.last,fun q q0 q1=>(hkk _ (by rw [hfp]; omega) (by rw [hfp]; omega)).trans (h.val q q0 q1)⟩
  unfold D.bW;rw [at_q hp hdm];unfold D.gT;refine Runs.bind (g:=fun x=>D.dG (fun x=>D.gp (J+1) ⟨⟨p,0,t⟩,2,3⟩ v x) x) hr ?_
  unfold D.dG;exact .done _ _
end
end Go.Proofs.YtfpgnmhcfkikkaaGreat

/- Ours. -/
set_option maxRecDepth 20000
set_option maxHeartbeats 2000000
namespace Go.Proofs.YtfpgnmhcfkikkaaGreat
open Go.RowKit
theorem BZ:ak Tryz.prog 157:=by kernel_rfl
theorem cl62:ak Tryz.prog 62:=by kernel_rfl
theorem cl66:ak Tryz.prog 66:=by kernel_rfl
theorem cl69:ak Tryz.prog 69:=by kernel_rfl
def D.gV (fu:Nat) (a0:Plan):Option (Mem):=((D.j9 fu a0).bind (fun (x5:Mem)=>((D.gi fu x5 0).bind (fun (x13:Cap)=>((D.ia fu (fu,(D.ek (fu+1) (⟨a0,0,0⟩:Seat) 0)) x5 x13 99).bind (fun (x15:Res × Int × Bool × Mem)=>(Option.bind (bif (!x15.2.2.1) then (some true) else (some (x15.1.e !=0))) (fun (x25:Bool)=>(bif x25 then none else (some x15.2.2.2))))))))))
set_option maxRecDepth 20000 in
set_option maxHeartbeats 20000000 in
theorem qL {fu:Nat} (w0:World) (a0:Plan) {res:Mem} (hD:D.gV fu a0=some res) :
    Calls Tryz.prog 62 #[.agg (af a0).toArray] w0 (fun e w'=>∃ (g0:MG),e=.returned (zp g0.mb)∧Done No No [memK g0 res] w0 w'):=by
 refine enter Tryz.func62 rfl 30 rfl rfl fun fr r=>?_;have hP:Post No [] w0 w0:=Post.nil w0
 unfold D.gV at hD
 refine wsr ?_;refine kX 23 (.agg (af a0).toArray) r rfl rfl fun b1 w2 n3 r=>?_;have hP:Post No [ac b1 ((af a0)).toArray 23] w0 w2:=hP.new n3
 refine kA (.pointer none) r rfl rfl fun r=>wn (wsr (kG (af a0) 6 r rfl (hP.cell (i:=0) rfl) ta23 rfl rfl fun r=>?_));obtain ⟨x5,hx5,hD⟩:=aK hD
 refine kC r (xh w2 a0 hx5) rfl cl24 rfl ?_;rintro _ w6 ⟨mg7,rfl,hq⟩;refine ⟨_,rfl,fun fr r=>?_⟩
 have hP:Post No [ac b1 ((af a0)).toArray 23,memK mg7 x5] w0 w6:=hP.add hq;refine kA (zp mg7.mb) r rfl rfl fun r=>wn (wp_seq (wsr (kM (zp mg7.mb) r rfl rfl fun r=>kB r rfl rfl rfl rfl rfl fun r=>wn ?_)));refine wp_cond_split (t:=false) (r.ev rfl) (fun h=>absurd ((rfl:false=_).symm.trans h) (by decide)) (fun _=>wp_skip (wsr (kG (af a0) 6 r rfl (hP.cell (i:=0) rfl) ta23 rfl rfl fun r=>kU (.agg (bg (⟨a0,0,0⟩:Seat)).toArray) r (by kernel_rfl) rfl fun r=>?_)))
 refine kD r (ze (F:=No) (n:=fu) (j:=fu+1) (fun _ h=>h.elim) (by omega) (⟨a0,0,0⟩:Seat) 0) rfl BZ rfl fun w9 v10 hb hr11 r=>?_;have hP:Post No [ac b1 ((af a0)).toArray 23,memK mg7 x5,aF Tryz.prog aj (fu,(D.ek (fu+1) (⟨a0,0,0⟩:Seat) 0)) v10 (rg w6.heap.size w9.heap.size)] w0 w9:=hP.addProg hb hr11
 refine kM (zp mg7.mb) r rfl rfl fun r=>kM (zp mg7.mb) r rfl rfl fun r=>?_;obtain ⟨x13,hx13,hD⟩:=aK hD
 refine kE r (lh w9 x5 (hP.mem (i:=1) rfl) 0 hx13) rfl cl28 rfl fun w14 hb r=>?_;have hP:Post No [ac b1 ((af a0)).toArray 23,memK mg7 x5,aF Tryz.prog aj (fu,(D.ek (fu+1) (⟨a0,0,0⟩:Seat) 0)) v10 (rg w6.heap.size w9.heap.size)] w0 w14:=hP.below hb
 obtain ⟨x15,hx15,hD⟩:=aK hD;refine kC r (nU w14 (fu,(D.ek (fu+1) (⟨a0,0,0⟩:Seat) 0)) x5 x13 99 (hP.sep.pk [2,1] rfl rfl) hx15) rfl cl56 rfl ?_;rintro _ w16 ⟨rfl,hq⟩;refine ⟨_,rfl,fun fr r=>?_⟩
 have hP:Post No [ac b1 ((af a0)).toArray 23,memK mg7 x15.2.2.2,aF Tryz.prog aj (fu,(D.ek (fu+1) (⟨a0,0,0⟩:Seat) 0)) v10 (rg w6.heap.size w9.heap.size)] w0 w16:=hP.setN (i:=1) rfl hq;refine kM (.tuple #[(.agg (resC x15.1).toArray),(I x15.2.1),(.bool x15.2.2.1)]) r rfl rfl fun r=>ae (.agg (resC x15.1).toArray) r (fun R=>bC r (vs:=#[(.agg (resC x15.1).toArray),(I x15.2.1),(.bool x15.2.2.1)]) rfl rfl) rfl fun fr r=>ae (I x15.2.1) r (fun R=>bC r (vs:=#[(.agg (resC x15.1).toArray),(I x15.2.1),(.bool x15.2.2.1)]) rfl rfl) rfl fun fr r=>ae (.bool x15.2.2.1) r (fun R=>bC r (vs:=#[(.agg (resC x15.1).toArray),(I x15.2.1),(.bool x15.2.2.1)]) rfl rfl) rfl fun fr r=>?_;refine ar (.cells ((resC (⟨0,0⟩:Res))).toArray 81 (0,0)) r (fun R=>aq tz81) rfl fun fr b17 w18 n19 r=>?_
 have hP:Post No [ac b1 ((af a0)).toArray 23,memK mg7 x15.2.2.2,aF Tryz.prog aj (fu,(D.ek (fu+1) (⟨a0,0,0⟩:Seat) 0)) v10 (rg w6.heap.size w9.heap.size),ac b17 ((resC (⟨0,0⟩:Res))).toArray 81] w0 w18:=hP.new n19;refine aM (.cells ((resC x15.1)).toArray 81 (0,0)) r (fun R=>aX r (o:=0) (v:=(.agg (resC x15.1).toArray)) rfl rfl (hP.cell (i:=3) rfl) ts81 (Nat.le_of_ble_eq_true rfl) rfl rfl) rfl fun fr w21 u22 r=>?_;have hP:Post No [ac b1 ((af a0)).toArray 23,memK mg7 x15.2.2.2,aF Tryz.prog aj (fu,(D.ek (fu+1) (⟨a0,0,0⟩:Seat) 0)) v10 (rg w6.heap.size w9.heap.size),ac b17 ((resC x15.1)).toArray 81] w0 w21:=hP.upd (i:=3) rfl u22
 refine kA (I x15.2.1) r rfl rfl fun r=>kA (.bool x15.2.2.1) r rfl rfl fun r=>wn (wp_seq (wp_seq ?_));have hP:Post No [ac b1 ((af a0)).toArray 23,memK mg7 x15.2.2.2,ac b17 ((resC x15.1)).toArray 81] w0 w21:=hP.pick [0,1,3] rfl rfl
 refine cA (N:=30) (Y:=Bool) (G:=Unit) (fun x γ=>[(0,(.agg (af a0).toArray)),(1,(zp b1)),(2,(.pointer none)),(3,(zp mg7.mb)),(10,(.bool false)),(4,(zp b17)),(6,(.bool x15.2.2.1)),(28,(.bool x))]) (fun x γ w=>Post No [ac b1 ((af a0)).toArray 23,memK mg7 x15.2.2.2,ac b17 ((resC x15.1)).toArray 81] w0 w) hD ?_ ?_
 ·
  rintro y23 RPy23 nxy23 hD;refine wp_region_lit (kM (.bool x15.2.2.1) r rfl rfl fun r=>ae (.bool (!x15.2.2.1)) r (fun R=>y_un r (u:=(.bool x15.2.2.1)) rfl rfl) rfl fun fr r=>kM (.bool (!x15.2.2.1)) r rfl rfl fun r=>?_);refine br (!x15.2.2.1) (fun h24=>?_) (fun h24=>?_)
  ·
   have hD:=(ay h24).symm.trans hD;refine s0 r h24 fun fr r=>s0 r h24 fun fr r=>s0 r h24 fun fr r=>ae (.bool true) r (fun R=>az r (b:=true) (congrArg Value.bool h24) rfl) rfl fun fr r=>wn ?_;exact nxy23 true () _ _ _ hD r (aa rfl (aa rfl (aa rfl (aa rfl (aa rfl (aa rfl (aa rfl (aa rfl aN)))))))) (hP.pick [0,1,2] rfl rfl)
  have hD:=(aw h24).symm.trans hD;refine s1 r h24 (kF 0 r rfl uj rfl fun r=>s1 r h24 (kL (I x15.1.e) r rfl (hP.cell (i:=2) rfl) to35 rfl rfl fun r=>s1 r h24 (kB r rfl rfl rfl rfl rfl fun r=>ae (.bool (x15.1.e !=0)) r (fun R=>az r (b:=false) (congrArg Value.bool h24) rfl) rfl fun fr r=>wn ?_)));exact nxy23 (x15.1.e !=0) () _ _ _ hD r (aa rfl (aa rfl (aa rfl (aa rfl (aa rfl (aa rfl (aa rfl (aa rfl aN)))))))) (hP.pick [0,1,2] rfl rfl)
 rintro x25 γ26 fr w27 g r hP hD;have hP:Post No [ac b1 ((af a0)).toArray 23,memK mg7 x15.2.2.2,ac b17 ((resC x15.1)).toArray 81] w0 w27:=hP;refine wp_cond_split (t:=x25) (r.ev rfl) (fun h28=>?_) (fun h28=>?_)
 ·
  have hD:=(ay h28).symm.trans hD;refine wsr (kA (.pointer none) r rfl rfl fun r=>wn (wp_ret ?_));exact nomatch hD
 have hD:=(aw h28).symm.trans hD;refine wp_skip (wsr (kM (zp mg7.mb) r rfl rfl fun r=>kA (zp mg7.mb) r rfl rfl fun r=>wn (wp_ret ?_)));have hv:x15.2.2.2=res:=Option.some.inj hD
 try dsimp only [Exit.then,Exit.inBlock]
 refine aQ (fn:=Tryz.f62) r (t:=2) rfl (v:=(zp mg7.mb)) rfl ?_;subst hv;exact ⟨mg7,rfl,(hP.pick [1] rfl rfl).done (cL rfl bY)⟩
def D.j4 (fu:Nat) :Option (Bool):=((D.gV fu (⟨2,1,4,1,1,1⟩:Plan)).bind (fun (x7:Mem)=>((D.gi fu x7 0).bind (fun (x15:Cap)=>((D.ia fu (fu,(D.bW (fu+1) (⟨(⟨2,1,4,1,1,1⟩:Plan),0,0⟩:Seat) 0 5)) x7 x15 99).bind (fun (x17:Res × Int × Bool × Mem)=>(Option.bind (bif x17.2.2.1 then (bif (x17.1.e==0) then ((D.ik fu (⟨2,1,4,1,1,1⟩:Plan) x17.2.2.2 0 0).bind (fun (x28:List Int)=>(some ((x28.length:Int)==1)))) else (some false)) else (some false)) (fun (x32:Bool)=>(some x32)))))))))
set_option maxRecDepth 20000 in
set_option maxHeartbeats 20000000 in
theorem qJ {fu:Nat} (w0:World) {res:Bool} (hD:D.j4 fu =some res) :
    Calls Tryz.prog 60 #[] w0 (bi (.bool res) w0):=by
 refine enter Tryz.func60 rfl 35 rfl rfl fun fr r=>?_;have hP:Post No [] w0 w0:=Post.nil w0
 unfold D.j4 at hD
 refine wsr (kA (.bool false) r rfl rfl fun r=>wn (wsr (kU (.agg (af (⟨2,1,4,1,1,1⟩:Plan)).toArray) r (by kernel_rfl) rfl fun r=>?_)));refine ar (.cells ((af (⟨0,0,0,0,0,0⟩:Plan))).toArray 23 (0,0)) r (fun R=>aq tz23) rfl fun fr b1 w2 n3 r=>?_
 have hP:Post No [ac b1 ((af (⟨0,0,0,0,0,0⟩:Plan))).toArray 23] w0 w2:=hP.new n3;refine aM (.cells ((af (⟨2,1,4,1,1,1⟩:Plan))).toArray 23 (0,0)) r (fun R=>aX r (o:=0) (v:=(.agg (af (⟨2,1,4,1,1,1⟩:Plan)).toArray)) rfl rfl (hP.cell (i:=0) rfl) ts23 (Nat.le_of_ble_eq_true rfl) rfl rfl) rfl fun fr w5 u6 r=>?_;have hP:Post No [ac b1 ((af (⟨2,1,4,1,1,1⟩:Plan))).toArray 23] w0 w5:=hP.upd (i:=0) rfl u6
 refine wn (wsr (kG (af (⟨2,1,4,1,1,1⟩:Plan)) 6 r rfl (hP.cell (i:=0) rfl) ta23 rfl rfl fun r=>?_));obtain ⟨x7,hx7,hD⟩:=aK hD
 refine kC r (qL w5 (⟨2,1,4,1,1,1⟩:Plan) hx7) rfl cl62 rfl ?_;rintro _ w8 ⟨mg9,rfl,hq⟩;refine ⟨_,rfl,fun fr r=>?_⟩
 have hP:Post No [ac b1 ((af (⟨2,1,4,1,1,1⟩:Plan))).toArray 23,memK mg9 x7] w0 w8:=hP.add hq;refine kA (zp mg9.mb) r rfl rfl fun r=>wn (wp_seq (wsr (kM (zp mg9.mb) r rfl rfl fun r=>kB r rfl rfl rfl rfl rfl fun r=>wn ?_)));refine wp_cond_split (t:=false) (r.ev rfl) (fun h=>absurd ((rfl:false=_).symm.trans h) (by decide)) (fun _=>wp_skip (wsr (kG (af (⟨2,1,4,1,1,1⟩:Plan)) 6 r rfl (hP.cell (i:=0) rfl) ta23 rfl rfl fun r=>kU (.agg (bg (⟨(⟨2,1,4,1,1,1⟩:Plan),0,0⟩:Seat)).toArray) r (by kernel_rfl) rfl fun r=>?_)))
 refine kD r (rR (F:=No) (n:=fu) (j:=fu+1) (fun _ h=>h.elim) (by omega) (⟨(⟨2,1,4,1,1,1⟩:Plan),0,0⟩:Seat) 0 5) rfl cl66 rfl fun w11 v12 hb hr13 r=>?_;have hP:Post No [ac b1 ((af (⟨2,1,4,1,1,1⟩:Plan))).toArray 23,memK mg9 x7,aF Tryz.prog aj (fu,(D.bW (fu+1) (⟨(⟨2,1,4,1,1,1⟩:Plan),0,0⟩:Seat) 0 5)) v12 (rg w8.heap.size w11.heap.size)] w0 w11:=hP.addProg hb hr13
 refine kM (zp mg9.mb) r rfl rfl fun r=>kM (zp mg9.mb) r rfl rfl fun r=>?_;obtain ⟨x15,hx15,hD⟩:=aK hD
 refine kE r (lh w11 x7 (hP.mem (i:=1) rfl) 0 hx15) rfl cl28 rfl fun w16 hb r=>?_;have hP:Post No [ac b1 ((af (⟨2,1,4,1,1,1⟩:Plan))).toArray 23,memK mg9 x7,aF Tryz.prog aj (fu,(D.bW (fu+1) (⟨(⟨2,1,4,1,1,1⟩:Plan),0,0⟩:Seat) 0 5)) v12 (rg w8.heap.size w11.heap.size)] w0 w16:=hP.below hb
 obtain ⟨x17,hx17,hD⟩:=aK hD;refine kC r (nU w16 (fu,(D.bW (fu+1) (⟨(⟨2,1,4,1,1,1⟩:Plan),0,0⟩:Seat) 0 5)) x7 x15 99 (hP.sep.pk [2,1] rfl rfl) hx17) rfl cl56 rfl ?_;rintro _ w18 ⟨rfl,hq⟩;refine ⟨_,rfl,fun fr r=>?_⟩
 have hP:Post No [ac b1 ((af (⟨2,1,4,1,1,1⟩:Plan))).toArray 23,memK mg9 x17.2.2.2,aF Tryz.prog aj (fu,(D.bW (fu+1) (⟨(⟨2,1,4,1,1,1⟩:Plan),0,0⟩:Seat) 0 5)) v12 (rg w8.heap.size w11.heap.size)] w0 w18:=hP.setN (i:=1) rfl hq;refine kM (.tuple #[(.agg (resC x17.1).toArray),(I x17.2.1),(.bool x17.2.2.1)]) r rfl rfl fun r=>ae (.agg (resC x17.1).toArray) r (fun R=>bC r (vs:=#[(.agg (resC x17.1).toArray),(I x17.2.1),(.bool x17.2.2.1)]) rfl rfl) rfl fun fr r=>ae (I x17.2.1) r (fun R=>bC r (vs:=#[(.agg (resC x17.1).toArray),(I x17.2.1),(.bool x17.2.2.1)]) rfl rfl) rfl fun fr r=>ae (.bool x17.2.2.1) r (fun R=>bC r (vs:=#[(.agg (resC x17.1).toArray),(I x17.2.1),(.bool x17.2.2.1)]) rfl rfl) rfl fun fr r=>?_;refine ar (.cells ((resC (⟨0,0⟩:Res))).toArray 81 (0,0)) r (fun R=>aq tz81) rfl fun fr b19 w20 n21 r=>?_
 have hP:Post No [ac b1 ((af (⟨2,1,4,1,1,1⟩:Plan))).toArray 23,memK mg9 x17.2.2.2,aF Tryz.prog aj (fu,(D.bW (fu+1) (⟨(⟨2,1,4,1,1,1⟩:Plan),0,0⟩:Seat) 0 5)) v12 (rg w8.heap.size w11.heap.size),ac b19 ((resC (⟨0,0⟩:Res))).toArray 81] w0 w20:=hP.new n21;refine aM (.cells ((resC x17.1)).toArray 81 (0,0)) r (fun R=>aX r (o:=0) (v:=(.agg (resC x17.1).toArray)) rfl rfl (hP.cell (i:=3) rfl) ts81 (Nat.le_of_ble_eq_true rfl) rfl rfl) rfl fun fr w23 u24 r=>?_;have hP:Post No [ac b1 ((af (⟨2,1,4,1,1,1⟩:Plan))).toArray 23,memK mg9 x17.2.2.2,aF Tryz.prog aj (fu,(D.bW (fu+1) (⟨(⟨2,1,4,1,1,1⟩:Plan),0,0⟩:Seat) 0 5)) v12 (rg w8.heap.size w11.heap.size),ac b19 ((resC x17.1)).toArray 81] w0 w23:=hP.upd (i:=3) rfl u24
 refine kA (I x17.2.1) r rfl rfl fun r=>kA (.bool x17.2.2.1) r rfl rfl fun r=>wn (wp_seq ?_);have hP:Post No [ac b1 ((af (⟨2,1,4,1,1,1⟩:Plan))).toArray 23,memK mg9 x17.2.2.2,ac b19 ((resC x17.1)).toArray 81] w0 w23:=hP.pick [0,1,3] rfl rfl
 refine cA (N:=35) (Y:=Bool) (G:=Unit) (fun x γ=>[(1,(zp b1)),(2,(zp mg9.mb)),(10,(.bool false)),(3,(zp b19)),(5,(.bool x17.2.2.1)),(0,(.bool x))]) (fun x γ w=>Post No [ac b1 ((af (⟨2,1,4,1,1,1⟩:Plan))).toArray 23,memK mg9 x17.2.2.2,ac b19 ((resC x17.1)).toArray 81] w0 w) hD ?_ ?_
 ·
  rintro y25 RPy25 nxy25 hD;refine wp_region_lit (kM (.bool x17.2.2.1) r rfl rfl fun r=>kM (.bool x17.2.2.1) r rfl rfl fun r=>?_);refine br x17.2.2.1 (fun h26=>?_) (fun h26=>?_)
  ·
   have hD:=(ay h26).symm.trans hD;refine s1 r h26 (kF 0 r rfl uj rfl fun r=>s1 r h26 (kL (I x17.1.e) r rfl (hP.cell (i:=2) rfl) to35 rfl rfl fun r=>s1 r h26 (kB r rfl rfl rfl rfl rfl fun r=>ae (.bool (x17.1.e==0)) r (fun R=>az r (b:=true) (congrArg Value.bool h26) rfl) rfl fun fr r=>kM (.bool (x17.1.e==0)) r rfl rfl fun r=>?_)));refine br (x17.1.e==0) (fun h27=>?_) (fun h27=>?_)
   ·
    have hD:=(ay h27).symm.trans hD;refine s1 r h27 (kG (af (⟨2,1,4,1,1,1⟩:Plan)) 6 r rfl (hP.cell (i:=0) rfl) ta23 rfl rfl fun r=>s1 r h27 (kM (zp mg9.mb) r rfl rfl fun r=>s1 r h27 ?_));obtain ⟨x28,hx28,hD⟩:=aK hD
    refine kC r (rN w23 (⟨2,1,4,1,1,1⟩:Plan) x17.2.2.2 (hP.mem (i:=1) rfl) 0 0 hx28) rfl cl69 rfl ?_;rintro _ w29 ⟨v30,rfl,hq⟩;refine ⟨_,rfl,fun fr r=>?_⟩
    have hP:Post No [ac b1 ((af (⟨2,1,4,1,1,1⟩:Plan))).toArray 23,memK mg9 x17.2.2.2,ac b19 ((resC x17.1)).toArray 81,rowK 40 1 u64 v30 x28] w0 w29:=hP.add hq;refine s1 r h27 (ae (I (x28.length:Int)) r (fun R=>cu r (hP.row (i:=3) rfl).ro is99 rfl) rfl fun fr r=>s1 r h27 (kB r rfl rfl rfl rfl rfl fun r=>ae (.bool ((x28.length:Int)==1)) r (fun R=>az r (b:=true) (congrArg Value.bool h27) rfl) rfl fun fr r=>kA (.bool ((x28.length:Int)==1)) r rfl rfl fun r=>wn ?_));exact nxy25 ((x28.length:Int)==1) () _ _ _ hD r (aa rfl (aa rfl (aa rfl (aa rfl (aa rfl (aa rfl aN)))))) (hP.pick [0,1,2] rfl rfl)
   have hD:=(aw h27).symm.trans hD;refine s0 r h27 fun fr r=>s0 r h27 fun fr r=>s0 r h27 fun fr r=>s0 r h27 fun fr r=>s0 r h27 fun fr r=>ae (.bool false) r (fun R=>az r (b:=false) (congrArg Value.bool h27) rfl) rfl fun fr r=>kA (.bool false) r rfl rfl fun r=>wn ?_;exact nxy25 false () _ _ _ hD r (aa rfl (aa rfl (aa rfl (aa rfl (aa rfl (aa rfl aN)))))) (hP.pick [0,1,2] rfl rfl)
  have hD:=(aw h26).symm.trans hD;refine s0 r h26 fun fr r=>s0 r h26 fun fr r=>s0 r h26 fun fr r=>ae (.bool false) r (fun R=>az r (b:=false) (congrArg Value.bool h26) rfl) rfl fun fr r=>kM (.bool false) r rfl rfl fun r=>s0 r (rfl:false=_) fun fr r=>s0 r (rfl:false=_) fun fr r=>s0 r (rfl:false=_) fun fr r=>s0 r (rfl:false=_) fun fr r=>s0 r (rfl:false=_) fun fr r=>ae (.bool false) r (fun R=>az r (b:=false) (congrArg Value.bool (rfl:false=_)) rfl) rfl fun fr r=>kA (.bool false) r rfl rfl fun r=>wn ?_;exact nxy25 false () _ _ _ hD r (aa rfl (aa rfl (aa rfl (aa rfl (aa rfl (aa rfl aN)))))) (hP.pick [0,1,2] rfl rfl)
 rintro x32 γ33 fr w34 g r hP hD;have hP:Post No [ac b1 ((af (⟨2,1,4,1,1,1⟩:Plan))).toArray 23,memK mg9 x17.2.2.2,ac b19 ((resC x17.1)).toArray 81] w0 w34:=hP;refine wp_ret ?_;have hv:x32=res:=Option.some.inj hD
 try dsimp only [Exit.then,Exit.inBlock]
 refine aQ (fn:=Tryz.f60) r (t:=0) rfl (v:=(.bool x32)) rfl ?_;subst hv;exact ⟨rfl,hP.chg.below⟩
def D.dq (a0:Plan):Bool:=(bif (D.dH a0) then (bif (D.cj a0) then (decide (a0.domains > 0)) else false) else false)
theorem xx (w0:World) 
    (a0:Plan) :
    Calls Tryz.prog 61 #[.agg (af a0).toArray] w0 (bi (.bool (D.dq a0)) w0):=by
 refine enter Tryz.func61 rfl 14 rfl rfl fun fr r=>?_;have hB:=Below.refl w0.heap.size w0
 refine wsr ?_;refine kX 23 (.agg (af a0).toArray) r rfl rfl fun b1 w2 n3 r=>?_;obtain ⟨eb1,zw2,hb1,hB,zB⟩:=n3.all hB
 refine kA (.bool false) r rfl rfl fun r=>wn (wsr (kG (af a0) 6 r rfl hb1 ta23 rfl rfl fun r=>?_));refine kE r (xl w2 a0) rfl CK rfl fun w4 hb r=>?_
 have zw4:=hb.size;have hb1:=keep hb hb1;obtain ⟨hB,zB⟩:=bon hb hB;refine kM (.bool (D.dH a0)) r rfl rfl fun r=>?_;refine br (D.dH a0) (fun h5=>?_) (fun h5=>?_)
 ·
  refine s1 r h5 (kG (af a0) 6 r rfl hb1 ta23 rfl rfl fun r=>s1 r h5 ?_);refine kE r (qH w4 a0) rfl vq rfl fun w6 hb r=>?_
  have zw6:=hb.size;have hb1:=keep hb hb1;obtain ⟨hB,zB⟩:=bon hb hB;refine ae (.bool (D.cj a0)) r (fun R=>az r (b:=true) (congrArg Value.bool h5) rfl) rfl fun fr r=>kM (.bool (D.cj a0)) r rfl rfl fun r=>?_;refine br (D.cj a0) (fun h7=>?_) (fun h7=>?_)
  ·
   refine s1 r h7 (kF 0 r rfl gK rfl fun r=>s1 r h7 (kL (I a0.domains) r rfl hb1 to3 rfl rfl fun r=>s1 r h7 (kB r rfl rfl rfl rfl rfl fun r=>ae (.bool (decide (a0.domains > 0))) r (fun R=>az r (b:=true) (congrArg Value.bool h7) rfl) rfl fun fr r=>kA (.bool (decide (a0.domains > 0))) r rfl rfl fun r=>wn (wp_ret ?_))));have hd:D.dq a0=(decide (a0.domains > 0)):=(ay h5).trans ((ay h7).trans (rfl))
   refine aQ r rfl rfl ?_;rw [hd];exact ⟨rfl,hB⟩
  refine s0 r h7 fun fr r=>s0 r h7 fun fr r=>s0 r h7 fun fr r=>ae (.bool false) r (fun R=>az r (b:=false) (congrArg Value.bool h7) rfl) rfl fun fr r=>kA (.bool false) r rfl rfl fun r=>wn (wp_ret ?_);have hd:D.dq a0=false:=(ay h5).trans ((aw h7).trans (rfl))
  refine aQ r rfl rfl ?_;rw [hd];exact ⟨rfl,hB⟩
 refine s0 r h5 fun fr r=>s0 r h5 fun fr r=>ae (.bool false) r (fun R=>az r (b:=false) (congrArg Value.bool h5) rfl) rfl fun fr r=>kM (.bool false) r rfl rfl fun r=>s0 r (rfl:false=_) fun fr r=>s0 r (rfl:false=_) fun fr r=>s0 r (rfl:false=_) fun fr r=>ae (.bool false) r (fun R=>az r (b:=false) (congrArg Value.bool (rfl:false=_)) rfl) rfl fun fr r=>kA (.bool false) r rfl rfl fun r=>wn (wp_ret ?_);have hd:D.dq a0=false:=(aw h5).trans (rfl)
 refine aQ r rfl rfl ?_;rw [hd];exact ⟨rfl,hB⟩
theorem Ac:D.j4 4000=some true:=by decide +kernel
theorem A8 {p:Plan} (h:D.dq p=true):PF p∧(p.nodes≤40∧p.retire≤40∧p.domains≤6∧p.buckets≤10)∧0<p.domains:=by
  unfold D.dq at h
  cases h1:D.dH p <;> rw [h1] at h
  · cases h
  cases h2:D.cj p <;> rw [h2] at h
  · cases h
  have hp:=s6 h2;exact ⟨hp,Az hp h1,by simpa using h⟩
def sq (a k:Nat):List Int:=(List.range' a k).map fun (q:Nat)=>(q:Int)
theorem tO (a k:Nat):sq a (k+1)=(a:Int)::sq (a+1) k:=by
  unfold sq;rw [List.range'_succ,List.map_cons]
theorem Bk {p:Plan} (hp:PF p) (hfw:p.nodes≤40∧p.retire≤40∧p.domains≤6∧p.buckets≤10) (hdm:0<p.domains) {t:Int} (ht:0≤t∧t<p.threads) (l:List Int) :
    ∃ M st,D.gV 4000 p=some M∧QAt p t M.ws ⟨sq 1 (p.nodes.toNat - 1),[],st⟩ 1 0 0 l∧(∀ q,(st q).mode≠3)∧∀ q,(st q).gen=0:=by
  obtain ⟨M,hM,hL⟩:=Be hp hfw (fu:=4000) (by omega);obtain ⟨z1,z2,z3,z4⟩:=bZ hp;have h4:=haz4 hp hdm;have hn1:=hp.n1;have hl:=hL.len;have hP:=PoolAt.start hp hL ht;have hall:allN p=(0:Int)::sq 1 (p.nodes.toNat - 1):=by
    have:allN p=sq 0 (p.nodes.toNat - 1+1):=by unfold allN sq; rw [show p.nodes.toNat - 1+1=p.nodes.toNat from by omega]
    rw [this,tO]; rfl
  rw [hall] at hP
  obtain ⟨w1,hr1,hl1,hF1,hst1,ho1⟩:=ma hp (t:=0) (k:=1) hP.free (by omega) (by omega) (hP.st 0 (by omega) (by omega)) (by omega) 4000;have hP1:=hP.took hp ht (k:=1) (by omega) hl1 hF1 hst1 ho1;have hfp:∀ q f,fp p q f=D.aJ p+q * 5+2+f:=fun q f=>rfl
  have hin:0≤(0:Int)∧(0:Int)<p.nodes:=by omega
  generalize hv:(w1.set (2:Int).toNat 1).set (3:Int).toNat 1=v
  have hvl:v.length=w1.length:=by rw [←hv]; simp
  have hvr:∀ j,0≤j→rd v j=if j=3 then 1 else if j=2 then 1 else rd w1 j:=fun j hj=>by
    rw [←hv,bE (by omega) (by rw [List.length_set]; omega) hj,bE (by omega) (by omega) hj]
  have hR:Runs (D.ek 4001 ⟨p,0,0⟩ 0) M.ws 7 ⟨0,0⟩ v:=by
    unfold D.ek;rw [at_q hp hdm];unfold D.gT;refine (Runs.bind (g:=fun x=>D.dG (fun x=>D.lC ⟨⟨p,0,0⟩,2,3⟩ x) x) hr1 (m:=2) ?_)
    unfold D.dG;rw [show ((0:Int) !=0)=false from rfl]
    simp only [cond_false]
    unfold D.lC;rw [qword (by omega) (by omega)];refine o9 (n:=1) (by simp only; omega) (by simp only; omega) ?_;unfold D.nV;rw [qword (by omega) (by omega)];refine o9 (n:=0) (by simp only; omega) (by simp only [List.length_set]; omega) ?_;unfold D.nL D.fJ;have:((w1.set (2:Int).toNat (0+1)).set (3:Int).toNat (0+1))=v:=hv;simp only;rw [this];exact .done _ _
  obtain ⟨c,hc⟩:=runR (fu:=4000) (most:=99) (M:=M) hR (by omega) (by omega) (by omega);have hPv:=hP1.beside hp ht (fun j=>j=3∨j=2) (ws':=v) (fun j hj=>.inl (by omega)) hvl fun j hj hne=>by rw [hvr j hj,if_neg fun e=>hne (.inl e),if_neg fun e=>hne (.inr e)]
  refine ⟨⟨v,c⟩,_,?_,⟨hPv,Nat.le_refl _,by omega,fun q q0 q1=>?_,?_,?_,fun q q0 q1=>by omega,?_,fun q q0 q1=>by omega⟩,fun q=>?_,fun q=>?_⟩
  · unfold D.gV
    rw [hM]
    simp only [Option.bind_some,pD]
    rw [hc]
    rfl
  · have e:q=0:=by omega
    subst e;exact ⟨(List.nodup_cons.1 hP.free.nodup).1,List.not_mem_nil⟩
  · show rd v 2=_
    rw [hvr 2 (by omega),if_neg (by omega),if_pos rfl]; rfl
  · show rd v 3=_
    rw [hvr 3 (by omega),if_pos rfl]; rfl
  · show rd v _=0
    rw [hvr _ (by rw [hfp]; omega),if_neg (by rw [hfp]; omega),if_neg (by rw [hfp]; omega),ho1 _ (by rw [hfp]; omega) (by rw [hfp]; unfold sp; omega)]
    exact hP.zero 0 2 (List.mem_cons_self ..) (by omega) (by omega)
  · show (if q=0 then _ else _:State).mode≠3
    split
    · show (1:Int)≠3; omega
    · show (0:Int)≠3; omega
  · show (if q=0 then _ else _:State).gen=0
    split <;> rfl
section
variable {p : Plan} (hp : PF p) (hdm : 0 < p.domains) (hnn : p.nodes ≤ 40) (hrr : p.retire ≤ 40) {t : Int} (ht : 0 ≤ t ∧ t < p.threads) {ws : List Int} {P : Pool} {g : Int} (h : PoolAt p t ws P g) {a z : Int} (ha : 0 ≤ a ∧ a < p.nodes) (hz : 0 ≤ z ∧ z < p.nodes) (hhd : rd ws 2 = a + 1) (htl : rd ws 3 = z + 1)
include hp hdm hnn hrr ht h ha hz hhd htl
theorem sJ (J:Nat) {m:Nat} {r:Res} {ws':List Int} {nx:Int} (hnx:rd ws (fp p a 2)=nx) (hn0:0≤nx∧nx≤1000)
    (hr:Runs (D.eH (J+1) (D.fw (J+1) J) ⟨⟨p,0,t⟩,2,3⟩ (a+1) (z+1) nx) ((ws.set (D.aT p+t * 3+0).toNat (a+1)).set (D.aT p+t * 3+1).toNat nx) m r ws') :
    Runs (D.cM (J+1) ⟨p,0,t⟩ 0) ws (m+7) r ws':=by
  obtain ⟨z1,z2,z3,z4⟩:=bZ hp;have h4:=haz4 hp hdm;have hl:=h.free.len;have hl0:=hl;unfold Len at hl
  have hin:=ha;obtain ⟨q1,q2,q3⟩:=dF hp hin;have hsp:sp p a=D.aJ p+a * 5:=rfl;have hfp:fp p a 2=sp p a+2+2:=rfl;unfold D.cM D.cH;rw [jL hp hdm (by omega),jL hp hdm (by omega)]
  show Runs (D.kw (J+1) (D.fw (J+1) J) ⟨⟨p,0,t⟩,2,3⟩) ws _ _ _
  unfold D.kw;have hg1:=(sr hp hl0 (t:=t) (s:=0) (at_:=2) (sh:=0) (w:=a+1) ht (by omega) (by omega) (by omega) (by omega) (by omega) (by omega) (by omega) hhd J).2 (by rw [show (a+1) / 2 ^ (0:Int).toNat=a+1 from by simp]; omega)
  have e0:(a+1) / 2 ^ (0:Int).toNat=a+1:=by simp
  rw [e0] at hg1
  have hG:Runs (D.gm (J+1) p t 0 2 0) ws 3 (a+1) (ws.set (D.aT p+t * 3+0).toNat (a+1)):=by
    unfold D.gm;refine s9 (by omega) (by omega) ?_;unfold D.lq;rw [hhd];exact hg1
  refine (Runs.bind (g:=fun x=>D.kO (J+1) (D.fw (J+1) J) ⟨⟨p,0,t⟩,2,3⟩ x) hG (m:=m+4) ?_).cast (by omega)
  generalize hu1:ws.set (D.aT p+t * 3+0).toNat (a+1)=u1 at hr ⊢
  have hl1:u1.length=ws.length:=by rw [←hu1,List.length_set]
  have hr1:∀ j,0≤j→j≠D.aT p+t * 3+0→rd u1 j=rd ws j:=fun j hj hne=>by rw [←hu1,bE (by omega) (by omega) hj,if_neg hne]
  unfold D.kO;refine ig (n:=m+3) (by simp only; omega) (by simp only; omega) ?_;simp only;rw [hr1 3 (by omega) (by omega),htl];unfold D.mY;rw [qnode (by omega) (by omega)];rw [show a+1 - 1=a from by omega,eD hp hin (by omega)]
  refine ig (n:=m+2) (by omega) (by omega) ?_;rw [show D.aJ p+a * 5+2+2=fp p a 2 from rfl,hr1 (fp p a 2) (by omega) (by omega),hnx]
  unfold D.mW D.eM;rw [qnode hn0.1 (by omega)];have hs2:=jy hp (ws:=u1) (by unfold Len; omega) ht (s:=1) (n:=nx - 1) (by omega) (by omega);rw [show nx - 1+1=nx from by omega] at hs2
  refine (Runs.bind (g:=fun _=>D.fq (fun _=>D.kq (J+1) (D.fw (J+1) J) ⟨⟨p,0,t⟩,2,3⟩ (a+1) (z+1) nx)) hs2 (m:=m+1) ?_).cast (by omega)
  unfold D.fq D.kq;refine ig (by simp only; omega) (by simp only [List.length_set]; omega) ?_;simp only;rw [bE (by omega) (by omega) (by omega),if_neg (by omega),hr1 2 (by omega) (by omega),hhd];unfold D.iV;rw [show (a+1 !=a+1)=false from by simp]
  exact hr
theorem zM (J:Nat) (he:rd ws (fp p a 2)=0):∃ ws',Runs (D.cM (J+1) ⟨p,0,t⟩ 0) ws 9 ⟨6,0⟩ ws'∧Eq1 ws ws':=by
  obtain ⟨z1,z2,z3,z4⟩:=bZ hp;have hl:=h.free.len;unfold Len at hl
  have hs0:rd ws (D.aT p+t * 3+0)=0:=by have:=h.hz (t * 3+0) (by omega) (by omega); rw [←Int.add_assoc] at this; exact this
  have hs1:rd ws (D.aT p+t * 3+1)=0:=by have:=h.hz (t * 3+1) (by omega) (by omega); rw [←Int.add_assoc] at this; exact this
  refine ⟨(((ws.set (D.aT p+t * 3+0).toNat (a+1)).set (D.aT p+t * 3+1).toNat 0).set (D.aT p+t * 3+1).toNat 0).set (D.aT p+t * 3+0).toNat 0,sJ hp hdm hnn hrr ht h ha hz hhd htl J (nx:=0) he (by omega) (m:=2) ?_,by simp,fun j hj=>?_⟩
  · unfold D.eH
    rw [show ((0:Int)==0)=true from rfl]
    refine tL hp hdm hnn hrr ht (by simp only [List.length_set]; exact hl) ?_;unfold D.kK D.fJ;exact .done _ _
  · rw [bE (by omega) (by simp only [List.length_set]; omega) hj,bE (by omega) (by simp only [List.length_set]; omega) hj,bE (by omega) (by simp only [List.length_set]; omega) hj,bE (by omega) (by omega) hj]
    by_cases e0:j=D.aT p+t * 3+0
    · rw [if_pos e0,e0,hs0]
    · rw [if_neg e0]
      by_cases e1:j=D.aT p+t * 3+1
      · rw [if_pos e1,e1,hs1]
      · rw [if_neg e1,if_neg e1,if_neg e0]
theorem Bf (J:Nat) (hJ:1100<J) (hg:g<900000) {b:Int} (hb:0≤b∧b<p.nodes) (hne:a≠z) (hnx:rd ws (fp p a 2)=b+1) (o1:a ∉ P.fr) (o2:a ∉ P.rt) :
    ∃ (m:Nat) (ws':List Int) (g':Int),m≤3000∧g'≤g+40∧Runs (D.cM (J+1) ⟨p,0,t⟩ 0) ws m ⟨0,rd ws (fp p b 1)⟩ ws'∧
      PoolAt p t ws' ((⟨P.fr,P.rt,fun q=>if q=a then ⟨(P.st a).gen,2,(P.st a).kind⟩ else P.st q⟩:Pool).stash p.retire p.gen a) g'∧
      (∀ j,0<j→(j<D.aT p∨∃ q f:Int,(0≤q∧q<p.nodes)∧q ∉ P.fr∧q ∉ P.rt∧(0≤f∧f<3)∧j=fp p q f)→rd ws' j=if j=2 then b+1 else rd ws j):=by
  obtain ⟨z1,z2,z3,z4⟩:=bZ hp;obtain ⟨p1,p2,p3⟩:=cB hp ht;have h4:=haz4 hp hdm;have hl:=h.free.len;unfold Len at hl
  have hrm:=h.ret.room;have hin:=ha;have hin1:=hb;obtain ⟨q1,q2,q3⟩:=dF hp hin;obtain ⟨y1,y2,y3⟩:=dF hp hin1;have hfp:∀ q f,fp p q f=D.aJ p+q * 5+2+f:=fun q f=>rfl
  have hsp:∀ q,sp p q=D.aJ p+q * 5:=fun q=>rfl
  rw [hsp] at q1 q2 y1 y2
  have hs0:rd ws (D.aT p+t * 3+0)=0:=by have:=h.hz (t * 3+0) (by omega) (by omega); rw [←Int.add_assoc] at this; exact this
  have hs1:rd ws (D.aT p+t * 3+1)=0:=by have:=h.hz (t * 3+1) (by omega) (by omega); rw [←Int.add_assoc] at this; exact this
  generalize hu:(ws.set (D.aT p+t * 3+0).toNat (a+1)).set (D.aT p+t * 3+1).toNat (b+1)=u
  have hul:u.length=ws.length:=by rw [←hu]; simp
  have hur:∀ j,0≤j→j≠D.aT p+t * 3+0→j≠D.aT p+t * 3+1→rd u j=rd ws j:=fun j hj h1 h2=>by
    rw [←hu,bE (by omega) (by rw [List.length_set]; omega) hj,if_neg h2,bE (by omega) (by omega) hj,if_neg h1]
  generalize hv:((u.set (2:Int).toNat (b+1)).set (D.aT p+t * 3+1).toNat 0).set (D.aT p+t * 3+0).toNat 0=v
  have hvl:v.length=ws.length:=by rw [←hv]; simp [hul]
  have hvr:∀ j,0≤j→rd v j=if j=2 then b+1 else rd ws j:=fun j hj=>by
    rw [←hv,bE (by omega) (by simp only [List.length_set]; omega) hj,bE (by omega) (by simp only [List.length_set]; omega) hj,bE (by omega) (by omega) hj]
    by_cases e0:j=D.aT p+t * 3+0
    · rw [if_pos e0,if_neg (by omega),e0,hs0]
    · rw [if_neg e0]
      by_cases e1:j=D.aT p+t * 3+1
      · rw [if_pos e1,if_neg (by omega),e1,hs1]
      · rw [if_neg e1]
        split
        · rfl
        · exact hur j hj e0 e1
  have hPv:PoolAt p t v P g:=h.putc hp ht (a:=2) (by omega) hvl fun j hj hne=>by rw [hvr j hj,if_neg hne]
  obtain ⟨m,ws',g',hm,hg',hr,hP,hl',hk⟩:=zo hp (by omega) ht hPv hg (J+1) (by omega) hin o2 o1;refine ⟨(m+2+1+1)+7,ws',g',by omega,by omega,sJ hp hdm hnn hrr ht h ha hz hhd htl J (nx:=b+1) hnx (by omega) ?_,hP,fun j j0 hj=>?_⟩
  · rw [hu]
    unfold D.eH;rw [show (b+1==0)=false from by simp; omega,show (a+1==z+1)=false from by simp; omega]
    simp only [cond_false]
    rw [qnode (by omega) (by omega),show b+1 - 1=b from by omega,eD hp hin1 (by omega)]
    refine ig (n:=m+2+1) (by omega) (by omega) ?_;rw [show D.aJ p+b * 5+2+1=fp p b 1 from rfl,hur _ (by rw [hfp]; omega) (by rw [hfp]; omega) (by rw [hfp]; omega)]
    unfold D.kz;refine oI (n:=m+2) (by simp only; omega) (by simp only; omega) ?_;simp only;rw [hur 2 (by omega) (by omega) (by omega),hhd,if_pos rfl,show (a+1==a+1)=true from by simp]
    unfold D.iZ;simp only [Bool.not_true,cond_false];refine tL hp hdm hnn hrr ht (by simp only [List.length_set]; omega) ?_;rw [hv];unfold D.ku;simp only;rw [qnode (by omega) (by omega),show a+1 - 1=a from by omega]
    refine (Runs.bind (g:=fun x=>D.mT (rd ws (fp p b 1)) x) hr (m:=0) ?_).cast (by omega)
    exact .done _ _
  · rw [hk j j0 (fun q hq ho=>?_) (fun hbb=>?_) (fun he=>?_),hvr j (by omega)]
    · have hr:0≤q∧q<p.nodes:=by
        rcases hq with hq | hq
        · exact h.free.range q hq
        · have:=h.ret.range q hq; omega
      unfold ofNode at ho
      rcases hj with hj | ⟨q',f,hq',c1,c2,hf,rfl⟩
      · omega
      · rw [hfp] at ho
        have:q=q':=by omega
        subst this;exact hq.elim c1 c2
    · rcases hj with hj | ⟨q',f,hq',c1,c2,hf,rfl⟩
      · omega
      · rw [hfp] at hbb; omega
    · rw [hsp] at he
      rcases hj with hj | ⟨q',f,hq',c1,c2,hf,rfl⟩
      · omega
      · rw [hfp] at he; omega
end
section
variable {p : Plan} (hp : PF p) (hdm : 0 < p.domains) (hnn : p.nodes ≤ 40) {t : Int} (ht : 0 ≤ t ∧ t < p.threads)
include hp hdm hnn ht
theorem Ba {w1:List Int} {P:Pool} {g z q v:Int} (h:PoolAt p t w1 P g) (hz:0≤z∧z<p.nodes) (hq:0≤q∧q<p.nodes) (hzq:z≠q) (hzf:z ∉ P.fr) (hqf:q ∉ P.fr) (htl:rd w1 3=z+1) (hnx:rd w1 (fp p z 2)=0) (J:Nat) :
    ∃ ws',Runs (D.gp (J+1) ⟨⟨p,0,t⟩,2,3⟩ v q) w1 9 ⟨0,0⟩ ws'∧PoolAt p t ws' P g∧ws'.length=w1.length∧
      ∀ j,0≤j→rd ws' j=if j=3 then q+1 else if j=fp p z 2 then q+1 else if j=fp p q 1 then v else rd w1 j:=by
  obtain ⟨z1,z2,z3,z4⟩:=bZ hp;have h4:=haz4 hp hdm;have hl:=h.free.len;unfold Len at hl
  have hfp:∀ q f,fp p q f=D.aJ p+q * 5+2+f:=fun q f=>rfl
  have hs0:rd w1 (D.aT p+t * 3+0)=0:=by have:=h.hz (t * 3+0) (by omega) (by omega); rw [←Int.add_assoc] at this; exact this
  generalize hu2:w1.set (fp p q 1).toNat v=u2
  have hul2:u2.length=w1.length:=by rw [←hu2,List.length_set]
  have hur2:∀ j,0≤j→rd u2 j=if j=fp p q 1 then v else rd w1 j:=fun j hj=>by rw [←hu2,bE (by rw [hfp]; omega) (by rw [hfp]; omega) hj]
  generalize hu3:u2.set (D.aT p+t * 3+0).toNat (z+1)=u3
  have hul3:u3.length=w1.length:=by rw [←hu3,List.length_set,hul2]
  have hur3:∀ j,0≤j→rd u3 j=if j=D.aT p+t * 3+0 then z+1 else rd u2 j:=fun j hj=>by rw [←hu3,bE (by omega) (by omega) hj]
  generalize hu4:u3.set (fp p z 2).toNat (q+1)=u4
  have hul4:u4.length=w1.length:=by rw [←hu4,List.length_set,hul3]
  have hur4:∀ j,0≤j→rd u4 j=if j=fp p z 2 then q+1 else rd u3 j:=fun j hj=>by rw [←hu4,bE (by rw [hfp]; omega) (by rw [hfp]; omega) hj]
  generalize hu5:u4.set (3:Int).toNat (q+1)=u5
  have hul5:u5.length=w1.length:=by rw [←hu5,List.length_set,hul4]
  have hur5:∀ j,0≤j→rd u5 j=if j=3 then q+1 else rd u4 j:=fun j hj=>by rw [←hu5,bE (by omega) (by omega) hj]
  generalize hu6:u5.set (D.aT p+t * 3+0).toNat 0=u6
  have hul6:u6.length=w1.length:=by rw [←hu6,List.length_set,hul5]
  have hur6:∀ j,0≤j→rd u6 j=if j=3 then q+1 else if j=fp p z 2 then q+1 else if j=fp p q 1 then v else rd w1 j:=fun j hj=>by
    rw [←hu6,bE (by omega) (by omega) hj]
    by_cases e:j=D.aT p+t * 3+0
    · rw [if_pos e,if_neg (by omega),if_neg (by rw [hfp]; omega),if_neg (by rw [hfp]; omega),e,hs0]
    · rw [if_neg e,hur5 j hj,hur4 j hj,hur3 j hj,if_neg e,hur2 j hj]
  refine ⟨u6,?_,?_,hul6,hur6⟩
  · unfold D.gp
    simp only
    rw [eD hp hq (by omega)]
    refine o9 (n:=8) (by omega) (by omega) ?_;rw [show D.aJ p+q * 5+2+1=fp p q 1 from rfl,hu2]
    unfold D.nW;show Runs (D.kx (J+1) (D.gZ (J+1) J) ⟨⟨p,0,t⟩,2,3⟩ q) u2 _ _ _
    unfold D.kx;have htl2:rd u2 3=z+1:=by rw [hur2 3 (by omega),if_neg (by rw [hfp]; omega),htl]
    have hl2':Len p u2:=by unfold Len; omega
    have hg1:=(sr hp hl2' (t:=t) (s:=0) (at_:=3) (sh:=0) (w:=z+1) ht (by omega) (by omega) (by omega) (by omega) (by omega) (by omega) (by omega) htl2 J).2 (by rw [show (z+1) / 2 ^ (0:Int).toNat=z+1 from by simp]; omega)
    rw [show (z+1) / 2 ^ (0:Int).toNat=z+1 from by simp,hu3] at hg1
    have hG:Runs (D.gm (J+1) p t 0 3 0) u2 3 (z+1) u3:=by
      unfold D.gm;refine s9 (by omega) (by omega) ?_;unfold D.lq;rw [htl2];exact hg1
    refine (Runs.bind (g:=fun x=>D.kZ (J+1) (D.gZ (J+1) J) ⟨⟨p,0,t⟩,2,3⟩ q x) hG (m:=5) ?_).cast (by omega)
    unfold D.kZ;rw [qnode (by omega) (by omega),show z+1 - 1=z from by omega]
    simp only
    rw [eD hp hz (by omega)]
    have e3:rd u3 (fp p z 2)=0:=by
      rw [hur3 _ (by rw [hfp]; omega),if_neg (by rw [hfp]; omega),hur2 _ (by rw [hfp]; omega),if_neg (by rw [hfp,hfp]; omega),hnx]
    refine ig (n:=4) (by omega) (by omega) ?_;rw [show D.aJ p+z * 5+2+2=fp p z 2 from rfl,e3]
    unfold D.ng;refine ig (n:=3) (by simp only; omega) (by simp only; omega) ?_;simp only;rw [hur3 3 (by omega),if_neg (by omega),htl2];unfold D.gS;rw [show (z+1 !=z+1)=false from by simp,show ((0:Int) !=0)=false from rfl]
    simp only [cond_false]
    rw [qword (by omega) (by omega)]
    refine oI (n:=2) (by rw [hfp]; omega) (by rw [hfp]; omega) ?_;rw [e3,if_pos rfl,show ((0:Int)==0)=true from rfl,hu4]
    unfold D.gQ;simp only [Bool.not_true,cond_false];rw [qword (by omega) (by omega)];refine oI (n:=1) (by omega) (by omega) ?_;have e4:rd u4 3=z+1:=by rw [hur4 3 (by omega),if_neg (by rw [hfp]; omega),hur3 3 (by omega),if_neg (by omega),htl2]
    rw [e4,if_pos rfl,show (z+1==z+1)=true from by simp,hu5]
    unfold D.kp D.eM;have hs6:=jy hp (ws:=u5) (by unfold Len; omega) ht (s:=0) (n:=-1) (by omega) (by omega);rw [show (-1:Int)+1=0 from rfl,hu6] at hs6
    refine (Runs.bind (g:=fun _=>D.fq (fun _=>D.mS)) hs6 (m:=0) ?_).cast (by omega)
    exact .done _ _
  · refine h.beside hp ht (fun j=>j=3∨j=fp p z 2∨j=fp p q 1) (fun j hj=>?_) hul6 (fun j hj hne=>?_)
    · rcases hj with rfl | rfl | rfl
      · exact .inl (by omega)
      · exact .inr ⟨z,2,hz,hzf,by omega,rfl⟩
      · exact .inr ⟨q,1,hq,hqf,by omega,rfl⟩
    · rw [hur6 j hj,if_neg fun e=>hne (.inl e),if_neg fun e=>hne (.inr (.inl e)),if_neg fun e=>hne (.inr (.inr e))]
theorem PoolAt.grantF {ws:List Int} {P:Pool} {g k:Int} (hk:0≤k∧k≤2) (h:PoolAt p t ws P g) (hg:g<900000) (J:Nat) (hJ:1100<J) :
    ∃ (m:Nat) (ws':List Int) (g':Int),m≤70 * P.rt.length+10∧g'≤g+P.rt.length+1∧Runs (D.eU J p t k) ws m (P.grant p.gen k).2 ws'∧PoolAt p t ws' (P.grant p.gen k).1 g'∧((P.grant p.gen k).2.e=0→∀ f,0≤f→f<3→rd ws' (fp p (P.grant p.gen k).2.node f)=0)∧KeptP p t P ws ws':=by
  have hN:=ct hp;have hz:=bZ hp;obtain ⟨p1,p2,p3⟩:=cB hp ht;have hrm:=h.ret.room;have hr2:=hp.r2;obtain ⟨fr,rt,st⟩:=P;cases fr with
  | cons n l=>
    have hn:=h.free.range n (List.mem_cons_self ..);obtain ⟨K,rfl⟩:∃ K,J=K+1:=⟨J - 1,by omega⟩
    obtain ⟨ws',hr,hl,hF,hst,ho⟩:=ma hp (t:=t) h.free (by omega) (by omega) (h.st n hn.1 hn.2) hk K;refine ⟨5,ws',g+1,by omega,by omega,hr,h.took hp ht hk hl hF hst ho,fun _ f f0 f1=>?_,hl,fun j j0 h1 h2=>ho j j0 fun e=>h1 n (.inl (List.mem_cons_self ..)) (by unfold ofNode; unfold sp at e; omega)⟩
    exact (ho _ (by show 0<sp p n+2+f; unfold sp; omega) (by show sp p n+2+f≠sp p n; omega)).trans (h.zero n f (List.mem_cons_self ..) f0 f1)
  | nil=>
    obtain ⟨K,rfl⟩:∃ K,J=K+1:=⟨J - 1,by omega⟩
    obtain ⟨m1,ws1,g1,hm1,hg1,hr1,h1,hk1⟩:=h.scan hp (by omega) ht hg (K+1) hJ;have hnew:∀ {m:Nat} {gr:Grant} {ws':List Int},Runs (T.bind (D.cF (K+1) p) (fun x=>D.cW p k x)) ws1 m gr ws'→Runs (D.eU (K+1) p t k) ws (m1+1+m) gr ws':=fun {m gr ws'} hr=>by
      refine (Runs.bind (g:=fun x=>D.ef (K+1) p k t (fun x=>D.cW p k x) x) (oP hp h.free (by omega) K) (m:=m1+m) ?_).cast (by omega)
      unfold D.ef;rw [show ((-1:Int) !=-1)=false from rfl]
      exact Runs.bind (g:=fun x=>D.jk (K+1) p (fun x=>D.cW p k x) x) hr1 hr
    show ∃ (m:Nat) (ws':List Int) (g':Int),_∧_∧Runs _ ws m (((⟨[],rt,st⟩:Pool).scan p.gen).out k).2 ws'∧PoolAt p t ws' (((⟨[],rt,st⟩:Pool).scan p.gen).out k).1 g'∧((((⟨[],rt,st⟩:Pool).scan p.gen).out k).2.e=0→∀ f,0≤f→f<3→rd ws' (fp p (((⟨[],rt,st⟩:Pool).scan p.gen).out k).2.node f)=0)∧_
    have hfr:∀ n,n∈((⟨[],rt,st⟩:Pool).scan p.gen).fr→n∈rt:=fun n hn=>(lX h.nod hn).resolve_right fun h=>(by cases h)
    have hgl:g1<1000000:=by omega
    generalize hQ:(⟨[],rt,st⟩:Pool).scan p.gen=Q at h1 hfr
    obtain ⟨fr',rt',st'⟩:=Q;cases fr' with
    | nil=>
      exact ⟨m1+1+1,ws1,g1,by omega,by omega,hnew (si hp h1.free hgl K),h1,(fun h=>by cases h),hk1⟩
    | cons n l=>
      have hn:=h1.free.range n (List.mem_cons_self ..);obtain ⟨ws',hr,hl,hF,hst,ho⟩:=su hp h1.free (by omega) hgl (h1.st n hn.1 hn.2) hk K
      refine ⟨m1+1+5,ws',g1+1,by omega,by omega,hnew hr,h1.took hp ht hk hl hF hst ho,fun _ f f0 f1=>?_,hl.trans hk1.1,fun j j0 h2 h3=>(ho j j0 fun e=>?_).trans (hk1.2 j j0 h2 h3)⟩
      · exact (ho _ (by show 0<sp p n+2+f; unfold sp; omega) (by show sp p n+2+f≠sp p n; omega)).trans (h1.zero n f (List.mem_cons_self ..) f0 f1)
      · exact h2 n (.inr (hfr n (List.mem_cons_self ..))) (by unfold ofNode; unfold sp at e; omega)
end
theorem sI {P:Pool} {m n:Int} (hd:P.rt.Nodup) (h:n∈P.fr∨(n∈P.rt∧(D.bB (P.st n) m).mode≠3)):n∈(P.scan m).fr:=by
  unfold Pool.scan;rw [jF m _ _ (List.pairwise_reverse.2 (hd.imp fun h e=>h e.symm))]
  have:∀ (k L:List Int),(n∈L∨(n∈k∧(D.bB (P.st n) m).mode≠3))→n∈k.foldl (fun l n=>if (D.bB (P.st n) m).mode=3 then l else n::l) L:=by
    intro k
    induction k with
    | nil=>exact fun L h=>h.elim id fun h=>by cases h.1
    | cons a k ih=>
      intro L h;refine ih _ ?_;show n∈(if (D.bB (P.st a) m).mode=3 then L else a::L)∨_
      rcases h with h | ⟨h,hm⟩
      · left
        split
        · exact h
        · exact List.mem_cons_of_mem _ h
      · rcases List.mem_cons.1 h with rfl | h
        · left
          rw [if_neg hm]
          exact List.mem_cons_self ..
        · exact .inr ⟨h,hm⟩
  refine this _ _ (h.imp id fun h=>⟨List.mem_reverse.2 h.1,h.2⟩)
theorem tv {P:Pool} {m:Int} (hd:P.rt.Nodup) (q:Int):(P.scan m).st q=if q∈P.rt then D.bB (P.st q) m else P.st q:=by
  unfold Pool.scan;rw [jG _ _ _ (List.pairwise_reverse.2 (hd.imp fun h e=>h e.symm))]
  simp only [List.mem_reverse]
theorem jE:∀ {l k:List Int},l.Nodup→(∀ x,x∈l→x∈k)→l.length≤k.length
  | [],k,_,_=>Nat.zero_le _
  | a::l,k,hn,hs=>by
    obtain ⟨h1,h2⟩:=List.nodup_cons.1 hn;have ha:=hs a (List.mem_cons_self ..);have:=jE (k:=k.erase a) h2 fun x hx=>(List.mem_erase_of_ne (fun e=>h1 (by rw [←e]; exact hx))).2 (hs x (List.mem_cons_of_mem _ hx))
    rw [List.length_erase_of_mem ha] at this
    have:=List.length_pos_of_mem ha;simp only [List.length_cons];omega
structure PartP (N:Int) (P:Pool) (c:List Int):Prop where
  all:∀ q,0≤q→q<N→q∈P.fr∨q∈P.rt∨q∈c∨(P.st q).mode=3
  here:∀ q,q∈P.fr∨q∈P.rt∨q∈c→(P.st q).mode≠3
  fc:∀ q,q∈c→q ∉ P.fr∧q ∉ P.rt
theorem PartP.scan {N:Int} {P:Pool} {c:List Int} (h:PartP N P c) (hn:P.rt.Nodup) (hds:∀ n,n∈P.rt→n ∉ P.fr) (m:Int):PartP N (P.scan m) c:=by
  refine ⟨fun q q0 q1=>?_,fun q hq=>?_,fun q hq=>⟨fun hf=>?_,fun hf=>by rw [p9] at hf; cases hf⟩⟩
  · rw [tv hn]
    rcases h.all q q0 q1 with h1 | h1 | h1 | h1
    · exact .inl (sI hn (.inl h1))
    · by_cases h2:(D.bB (P.st q) m).mode=3
      · right; right; right
        rw [if_pos h1]; exact h2
      · exact .inl (sI hn (.inr ⟨h1,h2⟩))
    · exact .inr (.inr (.inl h1))
    · right; right; right
      by_cases h2:q∈P.rt
      · exact absurd h1 (h.here q (.inr (.inl h2)))
      · rw [if_neg h2]; exact h1
  · rw [tv hn]
    rcases hq with hq | hq | hq
    · rcases oJ hn hq with ⟨h1,h2⟩ | h1
      · rw [if_pos h1]; exact h2
      · rw [if_neg fun h2=>hds q h2 h1]; exact h.here q (.inl h1)
    · rw [p9] at hq; cases hq
    · rw [if_neg (h.fc q hq).2]; exact h.here q (.inr (.inr hq))
  · rcases oJ hn hf with ⟨h1,_⟩ | h1
    · exact (h.fc q hq).2 h1
    · exact (h.fc q hq).1 h1
theorem PartP.count {p:Plan} (hp:PF p) {t:Int} {ws:List Int} {P:Pool} {g:Int} {c:List Int} (h:PartP p.nodes P c) (hP:PoolAt p t ws P g) (hc:c.Nodup) (hcr:∀ q,q∈c→0≤q∧q<p.nodes) :
    P.fr.length+P.rt.length+c.length+((allN p).filter fun q=>(P.st q).mode==3).length=p.nodes.toNat:=by
  have hall:∀ q,q∈allN p↔0≤q∧q<p.nodes:=fun q=>by
    unfold allN;rw [List.mem_map]
    constructor
    · rintro ⟨n,hn,rfl⟩
      have:=List.mem_range'_1.1 hn;omega
    · intro hq
      exact ⟨q.toNat,List.mem_range'_1.2 (by omega),by omega⟩
  have hnod:(allN p).Nodup:=by
    unfold allN;exact List.Pairwise.map _ (fun a b hne e=>hne (by omega)) List.nodup_range'
  have hlen:(allN p).length=p.nodes.toNat:=by unfold allN; simp
  have hL:(P.fr++P.rt++c).Nodup:=by
    refine List.nodup_append.2 ⟨List.nodup_append.2 ⟨hP.free.nodup,hP.nod,fun a ha b hb e=>hP.dis b hb (e ▸ ha)⟩,hc,fun a ha b hb e=>?_⟩
    subst e;obtain ⟨h1,h2⟩:=h.fc a hb;exact (List.mem_append.1 ha).elim h1 h2
  have hmem:∀ q,q∈P.fr++P.rt++c↔q∈(allN p).filter fun q=>!((P.st q).mode==3):=fun q=>by
    rw [List.mem_filter,hall]
    simp only [List.mem_append]
    constructor
    · intro hq
      refine ⟨?_,?_⟩
      · rcases hq with (hq | hq) | hq
        · exact hP.free.range q hq
        · exact hP.ret.range q hq
        · exact hcr q hq
      · have:=h.here q (by rcases hq with (hq | hq) | hq <;> simp [hq])
        simpa using this
    · rintro ⟨hq,hm⟩
      rcases h.all q hq.1 hq.2 with h1 | h1 | h1 | h1
      · exact .inl (.inl h1)
      · exact .inl (.inr h1)
      · exact .inr h1
      · simp [h1] at hm
  have e1:=jE hL fun x hx=>(hmem x).1 hx
  have e2:=jE (hnod.filter _) fun x hx=>(hmem x).2 hx
  have e3:∀ l:List Int,(l.filter fun q=>(P.st q).mode==3).length+(l.filter fun q=>!((P.st q).mode==3)).length=l.length:=by
    intro l
    induction l with
    | nil=>rfl
    | cons a l ih=>
      cases hm:((P.st a).mode==3) <;> simp [List.filter_cons,hm] <;> omega
  have:=e3 (allN p);simp only [List.length_append] at e1 e2
  omega
def Link (p:Plan) (ws:List Int):Int→List Int→Prop
  | a,[]=>rd ws 3=a+1∧rd ws (fp p a 2)=0
  | a,b::r=>rd ws (fp p a 2)=b+1∧Link p ws b r
def lastQ:Int→List Int→Int
  | a,[]=>a
  | _,b::r=>lastQ b r
theorem jv:∀ (r:List Int) (a:Int),lastQ a r∈a::r
  | [],a=>List.mem_cons_self ..
  | b::r,a=>List.mem_cons_of_mem _ (jv r b)
theorem Link.last {p:Plan} {ws:List Int}:∀ {r:List Int} {a:Int},Link p ws a r→rd ws 3=lastQ a r+1∧rd ws (fp p (lastQ a r) 2)=0
  | [],_,h=>h
  | _::_,_,h=>h.2.last
theorem Link.keep {p:Plan} {ws ws':List Int} (h3:rd ws' 3=rd ws 3):∀ {r:List Int} {a:Int},Link p ws a r→(∀ q,q∈a::r→rd ws' (fp p q 2)=rd ws (fp p q 2))→Link p ws' a r
  | [],a,h,hk=>⟨h3.trans h.1,(hk a (List.mem_cons_self ..)).trans h.2⟩
  | b::r,a,h,hk=>⟨(hk a (List.mem_cons_self ..)).trans h.1,h.2.keep h3 fun q hq=>hk q (List.mem_cons_of_mem _ hq)⟩
theorem Link.snoc {p:Plan} {ws ws':List Int} {q:Int} (h3:rd ws' 3=q+1) (hq:rd ws' (fp p q 2)=0):∀ {r:List Int} {a:Int},Link p ws a r→(a::r).Nodup→rd ws' (fp p (lastQ a r) 2)=q+1→
    (∀ x,x∈a::r→x≠lastQ a r→rd ws' (fp p x 2)=rd ws (fp p x 2))→Link p ws' a (r++[q])
  | [],a,h,_,hz,_=>⟨hz,h3,hq⟩
  | b::r,a,h,hn,hz,hk=>by
    obtain ⟨h1,h2⟩:=List.nodup_cons.1 hn;refine ⟨(hk a (List.mem_cons_self ..) fun e=>h1 (e ▸ jv r b)).trans h.1,h.2.snoc h3 hq h2 hz fun x hx hne=>hk x (List.mem_cons_of_mem _ hx) hne⟩
structure CAt (p:Plan) (t:Int) (ws:List Int) (P:Pool) (g:Int) (a:Int) (r:List Int):Prop where
  pool:PoolAt p t ws P g
  part:PartP p.nodes P (a::r)
  nd:(a::r).Nodup
  rg:∀ q,q∈a::r→0≤q∧q<p.nodes
  hd:rd ws 2=a+1
  link:Link p ws a r
section
variable {p : Plan} (hp : PF p) (hdm : 0 < p.domains) (hnn : p.nodes ≤ 40) (hrr : p.retire ≤ 40) {t : Int} (ht : 0 ≤ t ∧ t < p.threads) {ws : List Int} {P : Pool} {g : Int} {a : Int} {r : List Int} (h : CAt p t ws P g a r)
include hp hdm hnn hrr ht h
end
end Go.Proofs.YtfpgnmhcfkikkaaGreat

/- Some of our texts, one behind the other. -/
import Derived.Test.YtfpgnmhcfkikkaaGreatQdM22
import Derived.Test.YtfpgnmhcfkikkaaGreatQdRetires
import Derived.Test.YtfpgnmhcfkikkaaGreatQdMem
set_option linter.all false
/- Ours. -/
namespace Go.Proofs.YtfpgnmhcfkikkaaGreat
open Go.RowKit
section
variable {p : Plan} (hp : PF p) (hdm : 0 < p.domains) (hnn : p.nodes ≤ 40) (hrr : p.retire ≤ 40) {t : Int} (ht : 0 ≤ t ∧ t < p.threads) {ws : List Int} {P : Pool} {g : Int} {a : Int} {r : List Int} (h : CAt p t ws P g a r)
include hp hdm hnn hrr ht h
theorem CAt.deqV (J:Nat) (hJ:1100<J) (hg:g<900000):(r=[]∧∃ (m:Nat) (ws':List Int),m≤3900∧Runs (D.cM (J+1) ⟨p,0,t⟩ 0) ws m ⟨6,0⟩ ws'∧CAt p t ws' P g a [])∨
    ∃ (b:Int) (r':List Int) (m:Nat) (ws':List Int) (g':Int),r=b::r'∧m≤3900∧g'≤g+100∧Runs (D.cM (J+1) ⟨p,0,t⟩ 0) ws m ⟨0,rd ws (fp p b 1)⟩ ws'∧
      CAt p t ws' ((⟨P.fr,P.rt,fun q=>if q=a then ⟨(P.st a).gen,2,(P.st a).kind⟩ else P.st q⟩:Pool).stash p.retire p.gen a) g' b r'∧(∀ q,q∈b::r'→rd ws' (fp p q 1)=rd ws (fp p q 1)):=by
  have ha:=h.rg a (List.mem_cons_self ..);have hlz:=jv r a;have hz:=h.rg _ hlz;obtain ⟨htl,hnx⟩:=h.link.last;cases r with
  | nil=>
    obtain ⟨ws',hr,he⟩:=zM hp hdm hnn hrr ht h.pool ha hz h.hd htl J hnx;exact .inl ⟨rfl,9,ws',by omega,hr,h.pool.same hp ht he,h.part,h.nd,h.rg,by rw [he.2 2 (by omega)]; exact h.hd,h.link.keep (he.2 3 (by omega)) fun q hq=>he.2 _ (by have:=h.rg q hq; obtain ⟨z1,z2,z3,z4⟩:=bZ hp; obtain ⟨x1,x2,x3⟩:=dF hp this; show 0≤sp p q+2+2; omega)⟩
  | cons b r=>
    obtain ⟨n1,n2⟩:=List.nodup_cons.1 h.nd;have hb:=h.rg b (List.mem_cons_of_mem _ (List.mem_cons_self ..));have haz:a≠lastQ a (b::r):=fun e=>n1 (by rw [e]; exact jv r b)
    obtain ⟨o1,o2⟩:=h.part.fc a (List.mem_cons_self ..);obtain ⟨m,ws',g',hm,hg',hr,hP,hk⟩:=Bf hp hdm hnn hrr ht h.pool ha hz h.hd htl J hJ hg hb haz h.link.1 o1 o2;have h4:=haz4 hp hdm;obtain ⟨z1,z2,z3,z4⟩:=bZ hp;have hfr1:∀ q,q∈b::r→rd ws' (fp p q 1)=rd ws (fp p q 1):=fun q hq=>by
      have hqr:=h.rg q (List.mem_cons_of_mem _ hq);obtain ⟨c1,c2⟩:=h.part.fc q (List.mem_cons_of_mem _ hq);obtain ⟨x1,x2,x3⟩:=dF hp hqr;have e:fp p q 1=D.aJ p+q * 5+2+1:=rfl;rw [hk (fp p q 1) (by omega) (.inr ⟨q,1,hqr,c1,c2,by omega,rfl⟩),if_neg (by omega)]
    have hfr:∀ q,q∈b::r→rd ws' (fp p q 2)=rd ws (fp p q 2):=fun q hq=>by
      have hqr:=h.rg q (List.mem_cons_of_mem _ hq);obtain ⟨c1,c2⟩:=h.part.fc q (List.mem_cons_of_mem _ hq);obtain ⟨x1,x2,x3⟩:=dF hp hqr;have e:fp p q 2=D.aJ p+q * 5+2+2:=rfl;rw [hk (fp p q 2) (by omega) (.inr ⟨q,2,hqr,c1,c2,by omega,rfl⟩),if_neg (by omega)]
    refine .inr ⟨b,r,m,ws',g',rfl,by omega,by omega,hr,⟨hP,?_,n2,fun q hq=>h.rg q (List.mem_cons_of_mem _ hq),by rw [hk 2 (by omega) (.inl (by omega)),if_pos rfl],h.link.2.keep (by rw [hk 3 (by omega) (.inl (by omega)),if_neg (by omega)]) hfr⟩,hfr1⟩
    have h2:PartP p.nodes ⟨P.fr,P.rt,fun q=>if q=a then ⟨(P.st a).gen,2,(P.st a).kind⟩ else P.st q⟩ (a::b::r):=by
      refine ⟨fun q q0 q1=>?_,fun q hq=>?_,h.part.fc⟩
      · by_cases e:q=a
        · exact .inr (.inr (.inl (by rw [e]; exact List.mem_cons_self ..)))
        · show _∨_∨_∨(if q=a then _ else P.st q).mode=3
          rw [if_neg e]
          exact h.part.all q q0 q1
      · show (if q=a then _ else P.st q).mode≠3
        by_cases e:q=a
        · rw [if_pos e]; show (2:Int)≠3; omega
        · rw [if_neg e]; exact h.part.here q hq
    have key:∀ Q:Pool,PartP p.nodes Q (a::b::r)→PartP p.nodes ⟨Q.fr,Q.rt++[a],Q.st⟩ (b::r):=fun Q hQ=>by
      refine ⟨fun q q0 q1=>?_,fun q hq=>?_,fun q hq=>?_⟩
      · rcases hQ.all q q0 q1 with h1 | h1 | h1 | h1
        · exact .inl h1
        · exact .inr (.inl (List.mem_append_left _ h1))
        · rcases List.mem_cons.1 h1 with rfl | h1
          · exact .inr (.inl (List.mem_append_right _ (List.mem_singleton.2 rfl)))
          · exact .inr (.inr (.inl h1))
        · exact .inr (.inr (.inr h1))
      · refine hQ.here q ?_
        rcases hq with hq | hq | hq
        · exact .inl hq
        · rcases List.mem_append.1 hq with hq | hq
          · exact .inr (.inl hq)
          · rw [List.mem_singleton.1 hq]; exact .inr (.inr (List.mem_cons_self ..))
        · exact .inr (.inr (List.mem_cons_of_mem _ hq))
      · obtain ⟨c1,c2⟩:=hQ.fc q (List.mem_cons_of_mem _ hq)
        exact ⟨c1,fun hq'=>by
          rcases List.mem_append.1 hq' with hq' | hq'
          · exact c2 hq'
          · exact n1 (List.mem_singleton.1 hq' ▸ hq)⟩
    unfold Pool.stash
    split
    · exact key _ h2
    · exact key _ (h2.scan h.pool.nod h.pool.dis _)
theorem CAt.enqV (J:Nat) (hJ:1100<J) (hg:g<900000) (v:Int):∃ (m:Nat) (ws':List Int) (g':Int),m≤3900∧g'≤g+100∧(∀ q,q∈a::r→rd ws' (fp p q 1)=rd ws (fp p q 1))∧
    (((P.grant p.gen 1).2.node=-1∧Runs (D.bW (J+1) ⟨p,0,t⟩ 0 v) ws m ⟨4,0⟩ ws'∧CAt p t ws' (P.grant p.gen 1).1 g' a r)∨
      (0≤(P.grant p.gen 1).2.node∧Runs (D.bW (J+1) ⟨p,0,t⟩ 0 v) ws m ⟨0,0⟩ ws'∧CAt p t ws' (P.grant p.gen 1).1 g' a (r++[(P.grant p.gen 1).2.node])∧rd ws' (fp p (P.grant p.gen 1).2.node 1)=v)):=by
  have hlz:=jv r a;have hz:=h.rg _ hlz;obtain ⟨htl,hnx⟩:=h.link.last;obtain ⟨zc1,zc2⟩:=h.part.fc _ hlz;have h4:=haz4 hp hdm;obtain ⟨z1,z2,z3,z4⟩:=bZ hp;obtain ⟨p1,p2,p3⟩:=cB hp ht;have hrm:=h.pool.ret.room;have hfp:∀ q f,fp p q f=D.aJ p+q * 5+2+f:=fun q f=>rfl
  obtain ⟨m,w1,g1,hm,hg1,hr,hP1,hZ,hK⟩:=PoolAt.grantF hp hdm hnn ht (k:=1) (by omega) h.pool hg (J+1) (by omega);have hkc:∀ j,0<j→j<D.aT p→rd w1 j=rd ws j:=fun j j0 j1=>hK.2 j j0 (fun q hq ho=>by
    have:0≤q∧q<p.nodes:=by
      rcases hq with hq | hq
      · exact h.pool.free.range q hq
      · exact h.pool.ret.range q hq
    unfold ofNode at ho; omega) (by omega)
  have hkf0:∀ f,0≤f→f<3→∀ q,q∈a::r→rd w1 (fp p q f)=rd ws (fp p q f):=fun f f0 f1 q hq=>by
    have hqr:=h.rg q hq;obtain ⟨c1,c2⟩:=h.part.fc q hq;refine hK.2 _ (by rw [hfp]; omega) (fun q' hq' ho=>?_) (by rw [hfp]; omega)
    have hr':0≤q'∧q'<p.nodes:=by
      rcases hq' with hq' | hq'
      · exact h.pool.free.range q' hq'
      · exact h.pool.ret.range q' hq'
    rw [hfp] at ho
    unfold ofNode at ho
    have:q'=q:=by omega
    subst this;exact hq'.elim c1 c2
  have hkf:=hkf0 2 (by omega) (by omega)
  have hkf1:=hkf0 1 (by omega) (by omega)
  obtain ⟨Q,hQ,hQu,hQd,hQr,hgr⟩:∃ Q:Pool,PartP p.nodes Q (a::r)∧Q.fr.Nodup∧(∀ n,n∈Q.rt→n ∉ Q.fr)∧(∀ n,n∈Q.fr→0≤n∧n<p.nodes)∧P.grant p.gen 1=Q.out 1:=by
    unfold Pool.grant
    split
    · obtain ⟨_,_,_,_,_,_,hS,_⟩:=h.pool.scan hp (by omega) ht hg (J+1) (by omega)
      exact ⟨_,h.part.scan h.pool.nod h.pool.dis p.gen,hS.free.nodup,hS.dis,fun n hn=>hS.free.range n hn,rfl⟩
    · exact ⟨P,h.part,h.pool.free.nodup,h.pool.dis,fun n hn=>h.pool.free.range n hn,rfl⟩
  rw [hgr] at hr hP1 hZ ⊢
  obtain ⟨fr,rt,st⟩:=Q;have hrun:∀ {m':Nat} {res:Res} {ws':List Int} {gr:Grant},Runs (D.eU (J+1) p t 1) ws m gr w1→Runs (D.dG (fun x=>D.gp (J+1) ⟨⟨p,0,t⟩,2,3⟩ v x) gr) w1 m' res ws'→Runs (D.bW (J+1) ⟨p,0,t⟩ 0 v) ws (m+m') res ws':=fun h1 h2=>by
    unfold D.bW;rw [at_q hp hdm];unfold D.gT;exact Runs.bind (g:=fun x=>D.dG (fun x=>D.gp (J+1) ⟨⟨p,0,t⟩,2,3⟩ v x) x) h1 h2
  cases fr with
  | nil=>
    simp only [Pool.out] at hr hP1 ⊢
    refine ⟨m+0,w1,g1,by omega,by omega,hkf1,.inl ⟨by simp,hrun hr ?_,hP1,hQ,h.nd,h.rg,(hkc 2 (by omega) (by omega)).trans h.hd,h.link.keep (hkc 3 (by omega) (by omega)) hkf⟩⟩
    unfold D.dG;exact .done _ _
  | cons q l=>
    simp only [Pool.out] at hr hP1 hZ ⊢
    have hqR:=hQr q (List.mem_cons_self ..);obtain ⟨hql,hln⟩:=List.nodup_cons.1 hQu;have hqc:q ∉ a::r:=fun hq=>(hQ.fc q hq).1 (List.mem_cons_self ..)
    have hzq:lastQ a r≠q:=fun e=>hqc (e ▸ hlz)
    have hzl:lastQ a r ∉ l:=fun hq=>(hQ.fc _ hlz).1 (List.mem_cons_of_mem _ hq)
    obtain ⟨w6,hr6,hP6,hl6,hu6⟩:=Ba hp hdm hnn ht (v:=v) hP1 hz hqR hzq hzl hql ((hkc 3 (by omega) (by omega)).trans htl) ((hkf _ hlz).trans hnx) J;have hval:∀ x,x∈a::r→rd w6 (fp p x 1)=rd ws (fp p x 1):=fun x hx=>by
      have hxr:=h.rg x hx;have hxq:x≠q:=fun e=>hqc (e ▸ hx)
      rw [hu6 _ (by rw [hfp]; omega),if_neg (by rw [hfp]; omega),if_neg (by rw [hfp,hfp]; omega),if_neg (by rw [hfp,hfp]; omega)]
      exact hkf1 x hx
    refine ⟨m+9,w6,g1,by omega,by omega,hval,.inr ⟨hqR.1,hrun hr ?_,⟨hP6,?_,?_,?_,?_,?_⟩,by rw [hu6 _ (by rw [hfp]; omega),if_neg (by rw [hfp]; omega),if_neg (by rw [hfp,hfp]; omega),if_pos rfl]⟩⟩
    · unfold D.dG
      rw [show ((0:Int) !=0)=false from rfl]
      exact hr6
    · refine ⟨fun x x0 x1=>?_,fun x hx=>?_,fun x hx=>?_⟩
      · show x∈l∨x∈rt∨_∨(if x=q then _ else st x).mode=3
        by_cases e:x=q
        · exact .inr (.inr (.inl (by rw [e]; simp)))
        · rw [if_neg e]
          rcases hQ.all x x0 x1 with h1 | h1 | h1 | h1
          · exact .inl ((List.mem_cons.1 h1).resolve_left e)
          · exact .inr (.inl h1)
          · exact .inr (.inr (.inl (by rw [←List.cons_append]; exact List.mem_append_left _ h1)))
          · exact .inr (.inr (.inr h1))
      · show (if x=q then _ else st x).mode≠3
        by_cases e:x=q
        · rw [if_pos e]; show (1:Int)≠3; omega
        · rw [if_neg e]
          refine hQ.here x ?_
          rcases hx with hx | hx | hx
          · exact .inl (List.mem_cons_of_mem _ hx)
          · exact .inr (.inl hx)
          · rw [←List.cons_append] at hx
            rcases List.mem_append.1 hx with hx | hx
            · exact .inr (.inr hx)
            · exact absurd (List.mem_singleton.1 hx) e
      · rw [←List.cons_append] at hx
        rcases List.mem_append.1 hx with hx | hx
        · obtain ⟨c1,c2⟩:=hQ.fc x hx
          exact ⟨fun hq=>c1 (List.mem_cons_of_mem _ hq),c2⟩
        · rw [List.mem_singleton.1 hx]
          exact ⟨hql,fun hq=>hQd q hq (List.mem_cons_self ..)⟩
    · rw [←List.cons_append]
      refine List.nodup_append.2 ⟨h.nd,List.nodup_cons.2 ⟨List.not_mem_nil,List.nodup_nil⟩,fun x hx y hy e=>?_⟩
      rw [List.mem_singleton.1 hy] at e
      exact hqc (e ▸ hx)
    · intro x hx
      rw [←List.cons_append] at hx
      rcases List.mem_append.1 hx with hx | hx
      · exact h.rg x hx
      · rw [List.mem_singleton.1 hx]; exact hqR
    · rw [hu6 2 (by omega),if_neg (by omega),if_neg (by rw [hfp]; omega),if_neg (by rw [hfp]; omega)]
      exact (hkc 2 (by omega) (by omega)).trans h.hd
    · refine h.link.snoc (by rw [hu6 3 (by omega),if_pos rfl]) ?_ h.nd ?_ fun x hx hne=>?_
      · rw [hu6 _ (by rw [hfp]; omega),if_neg (by rw [hfp]; omega),if_neg (by rw [hfp,hfp]; omega),if_neg (by rw [hfp,hfp]; omega)]
        exact hZ trivial 2 (by omega) (by omega)
      · rw [hu6 _ (by rw [hfp]; omega),if_neg (by rw [hfp]; omega),if_pos rfl]
      · have hxr:=h.rg x hx
        rw [hu6 _ (by rw [hfp]; omega),if_neg (by rw [hfp]; omega),if_neg (by rw [hfp,hfp]; omega),if_neg (by rw [hfp,hfp]; omega)]
        exact hkf x hx
end
end Go.Proofs.YtfpgnmhcfkikkaaGreat

/- Ours. -/
set_option maxRecDepth 20000
set_option maxHeartbeats 2000000
namespace Go.Proofs.YtfpgnmhcfkikkaaGreat
open Go.RowKit
theorem is30:isSlice Tryz.prog 30:=by kernel_rfl
theorem sl30:sliceTy Tryz.prog 30 1:=by kernel_rfl
theorem vF:sized Tryz.prog 3 1:=by kernel_rfl
def D.j8 (fu:Nat) (a0:List Int) (a1:List Bool):Option (List Int × List Int):=((appD ([]:List Int) a0).bind (fun (x5:List Int)=>(loopThen (fun (x10:List Int × List Int × Int)=>(bif (decide (x10.2.2≥0)) then ((getI x10.1 x10.2.2).bind (fun (x15:Int)=>(Option.bind (bif (decide (x15≥0)) then (bif (decide (x15<(a1.length:Int))) then ((getI a1 x15).bind (fun (x19:Bool)=>(some x19))) else (some false)) else (some false)) (fun (x20:Bool)=>(bif x20 then (some (Lp.next (x10.1,x10.2.1,(IntKind.i64.wrap (x10.2.2 - 1))))) else ((appD x10.2.1 ([x15])).bind (fun (x28:List Int)=>((getI x10.1 (IntKind.i64.wrap ((x10.1.length:Int) - 1))).bind (fun (x32:Int)=>((getI x10.1 x10.2.2).bind (fun (x33:Int)=>((sliceD (x10.1.set x10.2.2.toNat x32) 0 (IntKind.i64.wrap (((x10.1.set x10.2.2.toNat x32).length:Int) - 1))).bind (fun (x36:List Int)=>(some (Lp.next (x36,x28,(IntKind.i64.wrap (x10.2.2 - 1)))))))))))))))))) else (some (Lp.brk (x10.1,x10.2.1,x10.2.2))))) fu (x5,[],(IntKind.i64.wrap ((a0.length:Int) - 1))) (fun (x37:List Int × List Int × Int)=>(some (x37.1,x37.2.1))))))
set_option maxRecDepth 20000 in
set_option maxHeartbeats 20000000 in
theorem xc {fu:Nat} (w0:World) {a0v:Value} (a0:List Int) (a0h:RoAt 3 1 i64 a0v a0 w0) {a1v:Value} (a1:List Bool) (a1h:RoAt 4 1 ah a1v a1 w0) {res:List Int × List Int} (hD:D.j8 fu a0 a1=some res) :
    Calls Tryz.prog 220 #[a0v,a1v] w0 (fun e w'=>∃ (v0:Value) (v1:Value),e=.returned (.tuple #[v0,v1])∧Done No No [rowK 3 1 i64 v0 res.1,rowK 3 1 i64 v1 res.2] w0 w'):=by
 refine enter Tryz.func220 rfl 58 rfl rfl fun fr r=>?_;have hP:Post No [] w0 w0:=Post.nil w0
 have hP:Post No [roK 3 1 i64 a0v a0] w0 w0:=hP.addRo bm a0h rfl a0h.lt;have hP:Post No [roK 3 1 i64 a0v a0,roK 4 1 ah a1v a1] w0 w0:=hP.addRo (aL rfl bm) a1h rfl a1h.lt;unfold D.j8 at hD
 refine wsr (kA kS r rfl rfl fun r=>kA kS r rfl rfl fun r=>wn (wsr ?_));refine cP (.cells ((([]:List Int)).flatMap i64).toArray 3 (0,0)) 0 r (fun R=>cg r (by kernel_rfl)) rfl fun fr b1 w2 n3 r=>?_
 have hP:Post No [roK 3 1 i64 a0v a0,roK 4 1 ah a1v a1,rowK 3 1 i64 (.slice (some ⟨b1,0,none⟩) 0 0) ([]:List Int)] w0 w2:=hP.newRow n3 (fun _=>rfl) rfl
 refine kM a0v r rfl rfl fun r=>?_;obtain ⟨x5,hx5,hD⟩:=aK hD
 refine dh 3 1 i64 (.slice (some ⟨b1,0,none⟩) 0 0) r (fun R=>dc r rt29 (fun _=>rfl) (fun _=>rfl) (hP.row (i:=2) rfl) (hP.ro (i:=0) rfl) hx5 rfl rfl) rfl fun fr v6 w7 ha8 r=>?_;have hP:Post No [roK 3 1 i64 a0v a0,roK 4 1 ah a1v a1,rowK 3 1 i64 v6 x5] w0 w7:=hP.append (i:=2) rfl ha8
 refine kA v6 r rfl rfl fun r=>wn (wsr (kA kS r rfl rfl fun r=>wn (wp_seq (wsr (kM a0v r rfl rfl fun r=>ae (I (a0.length:Int)) r (fun R=>cu r (hP.ro (i:=0) rfl) is29 rfl) rfl fun fr r=>kB r rfl rfl rfl rfl rfl fun r=>kA (I (W ((a0.length:Int) - 1))) r rfl rfl fun r=>wn ?_)))));have hP:Post No [roK 3 1 i64 a0v a0,roK 4 1 ah a1v a1,rowK 3 1 i64 v6 x5,rowK 3 1 i64 kS ([])] w0 w7:=hP.nilRow 3 1 i64
 refine dA (X:=List Int × List Int × Int) (G:=Value × Value) (x0:=(x5,[],(W ((a0.length:Int) - 1)))) (fun x γ=>[(0,a0v),(1,a1v),(4,kS),(5,kS),(6,γ.1),(7,γ.2),(8,(I x.2.2))]) (fun x γ w=>Post No [roK 3 1 i64 a0v a0,roK 4 1 ah a1v a1,rowK 3 1 i64 γ.1 x.1,rowK 3 1 i64 γ.2 x.2.1] w0 w) (v6,kS) r (aa rfl (aa rfl (aa rfl (aa rfl (aa rfl (aa rfl (aa rfl aN))))))) hP hD ?_ ?_
 ·
  rintro x10 γ11 fr w13 g y12 RPy12 nxy12 bky12 rty12 r hP hD;have hP:Post No [roK 3 1 i64 a0v a0,roK 4 1 ah a1v a1,rowK 3 1 i64 γ11.1 x10.1,rowK 3 1 i64 γ11.2 x10.2.1] w0 w13:=hP;refine wp_seq (wsr (kM (I x10.2.2) r rfl rfl fun r=>kB r rfl rfl rfl rfl rfl fun r=>wn ?_));refine wp_cond_split (t:=(decide (x10.2.2≥0))) (r.ev rfl) (fun h14=>?_) (fun h14=>?_)
  ·
   have hD:=(ay h14).symm.trans hD;refine wp_skip (wp_seq (wp_block (wsr (kM γ11.1 r rfl rfl fun r=>kM (I x10.2.2) r rfl rfl fun r=>?_))));obtain ⟨x15,hx15,hD⟩:=aK hD
   refine ae (.pointer (some ⟨rowB γ11.1,rowO γ11.1+x10.2.2.toNat * 1,none⟩)) r (fun R=>cf r (hP.row (i:=2) rfl).ro hx15 sl29 rfl rfl) rfl fun fr r=>ae (I x15) r (fun R=>cz r (u:=(I x15)) (RoAt.at_ (f:=i64) (x:=x15) (hP.row (i:=2) rfl).ro (fun _=>rfl) hx15) rfl to3) rfl fun fr r=>kA (I x15) r rfl rfl fun r=>wn (wp_seq (wp_seq ?_));refine cA (N:=58) (Y:=Bool) (G:=Unit) (fun x γ=>[(0,a0v),(1,a1v),(4,kS),(5,kS),(6,γ11.1),(7,γ11.2),(8,(I x10.2.2)),(17,(.bool (decide (x10.2.2≥0)))),(9,(I x15)),(37,(.bool x))]) (fun x γ w=>Post No [roK 3 1 i64 a0v a0,roK 4 1 ah a1v a1,rowK 3 1 i64 γ11.1 x10.1,rowK 3 1 i64 γ11.2 x10.2.1] w0 w) hD ?_ ?_
   ·
    rintro y16 RPy16 nxy16 hD;refine wp_region_lit (kM (I x15) r rfl rfl fun r=>kB r rfl rfl rfl rfl rfl fun r=>kM (.bool (decide (x15≥0))) r rfl rfl fun r=>?_);refine br (decide (x15≥0)) (fun h17=>?_) (fun h17=>?_)
    ·
     have hD:=(ay h17).symm.trans hD;refine s1 r h17 (kM (I x15) r rfl rfl fun r=>s1 r h17 (kM a1v r rfl rfl fun r=>s1 r h17 (ae (I (a1.length:Int)) r (fun R=>cu r (hP.ro (i:=1) rfl) is30 rfl) rfl fun fr r=>s1 r h17 (kB r rfl rfl rfl rfl rfl fun r=>ae (.bool (decide (x15<(a1.length:Int)))) r (fun R=>az r (b:=true) (congrArg Value.bool h17) rfl) rfl fun fr r=>kM (.bool (decide (x15<(a1.length:Int)))) r rfl rfl fun r=>?_))));refine br (decide (x15<(a1.length:Int))) (fun h18=>?_) (fun h18=>?_)
     ·
      have hD:=(ay h18).symm.trans hD;refine s1 r h18 (kM a1v r rfl rfl fun r=>s1 r h18 (kM (I x15) r rfl rfl fun r=>s1 r h18 ?_));obtain ⟨x19,hx19,hD⟩:=aK hD
      refine ae (.pointer (some ⟨rowB a1v,rowO a1v+x15.toNat * 1,none⟩)) r (fun R=>cf r (hP.ro (i:=1) rfl) hx19 sl30 rfl rfl) rfl fun fr r=>s1 r h18 (ae (.bool x19) r (fun R=>cz r (u:=(.bool x19)) (RoAt.at_ (f:=ah) (x:=x19) (hP.ro (i:=1) rfl) (fun _=>rfl) hx19) rfl to4) rfl fun fr r=>ae (.bool x19) r (fun R=>az r (b:=true) (congrArg Value.bool h18) rfl) rfl fun fr r=>wn ?_);exact nxy16 x19 () _ _ _ hD r (aa rfl (aa rfl (aa rfl (aa rfl (aa rfl (aa rfl (aa rfl (aa rfl (aa rfl (aa rfl aN)))))))))) (hP.pick [0,1,2,3] rfl rfl)
     have hD:=(aw h18).symm.trans hD;refine s0 r h18 fun fr r=>s0 r h18 fun fr r=>s0 r h18 fun fr r=>s0 r h18 fun fr r=>ae (.bool false) r (fun R=>az r (b:=false) (congrArg Value.bool h18) rfl) rfl fun fr r=>wn ?_;exact nxy16 false () _ _ _ hD r (aa rfl (aa rfl (aa rfl (aa rfl (aa rfl (aa rfl (aa rfl (aa rfl (aa rfl (aa rfl aN)))))))))) (hP.pick [0,1,2,3] rfl rfl)
    have hD:=(aw h17).symm.trans hD;refine s0 r h17 fun fr r=>s0 r h17 fun fr r=>s0 r h17 fun fr r=>s0 r h17 fun fr r=>ae (.bool false) r (fun R=>az r (b:=false) (congrArg Value.bool h17) rfl) rfl fun fr r=>kM (.bool false) r rfl rfl fun r=>s0 r (rfl:false=_) fun fr r=>s0 r (rfl:false=_) fun fr r=>s0 r (rfl:false=_) fun fr r=>s0 r (rfl:false=_) fun fr r=>ae (.bool false) r (fun R=>az r (b:=false) (congrArg Value.bool (rfl:false=_)) rfl) rfl fun fr r=>wn ?_;exact nxy16 false () _ _ _ hD r (aa rfl (aa rfl (aa rfl (aa rfl (aa rfl (aa rfl (aa rfl (aa rfl (aa rfl (aa rfl aN)))))))))) (hP.pick [0,1,2,3] rfl rfl)
   rintro x20 γ21 fr w22 g r hP hD;have hP:Post No [roK 3 1 i64 a0v a0,roK 4 1 ah a1v a1,rowK 3 1 i64 γ11.1 x10.1,rowK 3 1 i64 γ11.2 x10.2.1] w0 w22:=hP;refine wp_cond_split (t:=x20) (r.ev rfl) (fun h23=>?_) (fun h23=>?_)
   ·
    have hD:=(ay h23).symm.trans hD;refine wp_exit ?_;refine wp_region_lit (kM (I x10.2.2) r rfl rfl fun r=>kB r rfl rfl rfl rfl rfl fun r=>kA (I (W (x10.2.2 - 1))) r rfl rfl fun r=>wn ?_);exact nxy12 (x10.1,x10.2.1,(W (x10.2.2 - 1))) (γ11.1,γ11.2) _ _ _ hD r (aa rfl (aa rfl (aa rfl (aa rfl (aa rfl (aa rfl (aa rfl aN))))))) (hP.pick [0,1,2,3] rfl rfl)
   have hD:=(aw h23).symm.trans hD;refine wp_skip (wsr (kM γ11.2 r rfl rfl fun r=>kM (I x15) r rfl rfl fun r=>?_));refine cP (.cells (([x15]).flatMap i64).toArray 3 (0,0)) 1 r (fun R=>cg r (by kernel_rfl)) rfl fun fr b24 w25 n26 r=>?_
   have hP:Post No [roK 3 1 i64 a0v a0,roK 4 1 ah a1v a1,rowK 3 1 i64 γ11.1 x10.1,rowK 3 1 i64 γ11.2 x10.2.1,rowK 3 1 i64 (.slice (some ⟨b24,0,none⟩) 1 1) ([x15])] w0 w25:=hP.newRow n26 (fun _=>rfl) rfl
   obtain ⟨x28,hx28,hD⟩:=aK hD;refine dh 3 1 i64 γ11.2 r (fun R=>dc r rt29 (fun _=>rfl) (fun _=>rfl) (hP.row (i:=3) rfl) (hP.row (i:=4) rfl).ro hx28 rfl rfl) rfl fun fr v29 w30 ha31 r=>?_;have hP:Post No [roK 3 1 i64 a0v a0,roK 4 1 ah a1v a1,rowK 3 1 i64 γ11.1 x10.1,rowK 3 1 i64 v29 x28,rowK 3 1 i64 (.slice (some ⟨b24,0,none⟩) 1 1) ([x15])] w0 w30:=hP.append (i:=3) rfl ha31
   refine kA v29 r rfl rfl fun r=>wn (wsr (kM γ11.1 r rfl rfl fun r=>kM (I x10.2.2) r rfl rfl fun r=>kM γ11.1 r rfl rfl fun r=>kM γ11.1 r rfl rfl fun r=>ae (I (x10.1.length:Int)) r (fun R=>cu r (hP.row (i:=2) rfl).ro is29 rfl) rfl fun fr r=>kB r rfl rfl rfl rfl rfl fun r=>?_));obtain ⟨x32,hx32,hD⟩:=aK hD
   refine ae (.pointer (some ⟨rowB γ11.1,rowO γ11.1+(W ((x10.1.length:Int) - 1)).toNat * 1,none⟩)) r (fun R=>cf r (hP.row (i:=2) rfl).ro hx32 sl29 rfl rfl) rfl fun fr r=>ae (I x32) r (fun R=>cz r (u:=(I x32)) (RoAt.at_ (f:=i64) (x:=x32) (hP.row (i:=2) rfl).ro (fun _=>rfl) hx32) rfl to3) rfl fun fr r=>?_;obtain ⟨x33,hx33,hD⟩:=aK hD
   refine ae (.pointer (some ⟨rowB γ11.1,rowO γ11.1+x10.2.2.toNat * 1,none⟩)) r (fun R=>cf r (hP.row (i:=2) rfl).ro hx33 sl29 rfl rfl) rfl fun fr r=>?_;refine p7 3 i64 γ11.1 (x10.1.set x10.2.2.toNat x32) r (fun R=>oY r (hP.row (i:=2) rfl) hx33 (fun _=>rfl) rfl rfl rfl rfl rfl vF) rfl fun fr w34 ha35 r=>?_
   have hP:Post No [roK 3 1 i64 a0v a0,roK 4 1 ah a1v a1,rowK 3 1 i64 γ11.1 (x10.1.set x10.2.2.toNat x32),rowK 3 1 i64 v29 x28,rowK 3 1 i64 (.slice (some ⟨b24,0,none⟩) 1 1) ([x15])] w0 w34:=hP.append (i:=2) rfl ha35;refine wn ?_;refine wp_region_lit (kM γ11.1 r rfl rfl fun r=>kM γ11.1 r rfl rfl fun r=>ae (I ((x10.1.set x10.2.2.toNat x32).length:Int)) r (fun R=>cu r (hP.row (i:=2) rfl).ro is29 rfl) rfl fun fr r=>kB r rfl rfl rfl rfl rfl fun r=>?_);obtain ⟨x36,hx36,hD⟩:=aK hD
   refine ae (aS 1 γ11.1 (0:Int).toNat (W (((x10.1.set x10.2.2.toNat x32).length:Int) - 1)).toNat) r (fun R=>mD r (hP.row (i:=2) rfl).ro sl29 rfl rfl rfl rfl rfl rfl rfl hx36) rfl fun fr r=>kA (aS 1 γ11.1 (0:Int).toNat (W (((x10.1.set x10.2.2.toNat x32).length:Int) - 1)).toNat) r rfl rfl fun r=>wn ?_;refine wp_region_lit (kM (I x10.2.2) r rfl rfl fun r=>kB r rfl rfl rfl rfl rfl fun r=>kA (I (W (x10.2.2 - 1))) r rfl rfl fun r=>wn ?_)
   have hP:Post No [roK 3 1 i64 a0v a0,roK 4 1 ah a1v a1,rowK 3 1 i64 (aS 1 γ11.1 (0:Int).toNat (W (((x10.1.set x10.2.2.toNat x32).length:Int) - 1)).toNat) x36,rowK 3 1 i64 v29 x28,rowK 3 1 i64 (.slice (some ⟨b24,0,none⟩) 1 1) ([x15])] w0 w34:=hP.narrow (i:=2) rfl (fun _=>rfl) hx36
   exact nxy12 (x36,x28,(W (x10.2.2 - 1))) ((aS 1 γ11.1 (0:Int).toNat (W (((x10.1.set x10.2.2.toNat x32).length:Int) - 1)).toNat),v29) _ _ _ hD r (aa rfl (aa rfl (aa rfl (aa rfl (aa rfl (aa rfl (aa rfl aN))))))) (hP.pick [0,1,2,3] rfl rfl)
  have hD:=(aw h14).symm.trans hD;refine wp_exit ?_;exact bky12 (x10.1,x10.2.1,x10.2.2) (γ11.1,γ11.2) _ _ _ hD r (aa rfl (aa rfl (aa rfl (aa rfl (aa rfl (aa rfl (aa rfl aN))))))) (hP.pick [0,1,2,3] rfl rfl)
 rintro x37 γ38 fr w39 g r hP hD;have hP:Post No [roK 3 1 i64 a0v a0,roK 4 1 ah a1v a1,rowK 3 1 i64 γ38.1 x37.1,rowK 3 1 i64 γ38.2 x37.2.1] w0 w39:=hP;refine wsr (kM γ38.1 r rfl rfl fun r=>kM γ38.2 r rfl rfl fun r=>kA γ38.1 r rfl rfl fun r=>kA γ38.2 r rfl rfl fun r=>wn (wp_ret ?_));have hv:(x37.1,x37.2.1)=res:=Option.some.inj hD
 try dsimp only [Exit.then,Exit.inBlock]
 refine ep (fn:=Tryz.f220) r (t:=4) (t':=5) rfl (v:=γ38.1) (v':=γ38.2) rfl rfl ?_;subst hv;exact ⟨γ38.1,γ38.2,rfl,(hP.pick [2,3] rfl rfl).done (cL rfl (cL rfl bY))⟩
section
variable {L N : List Ck} {Z Y : Nat → Prop} {w w' w0 : World} {i k : Nat} {c e : Ck}
theorem Sep.clearM (h:Sep L w) (hc:c∈L) (he:e∈L):c=e∨c.clear e:=by
  obtain ⟨i,hi⟩:=List.mem_iff_getElem?.1 hc;obtain ⟨j,hj⟩:=List.mem_iff_getElem?.1 he
  by_cases hij:i=j
  · subst hij
    rw [hi] at hj
    exact .inl (Option.some.inj hj)
  · exact .inr (h.clear hi hj hij).1
theorem Post.addRoFrom (h:Post Z L w0 w) (hk:L[k]?=some e) (he:e.own=[]) (hc:c.ok w) (ho:c.own=[]) (hr:∀ b,b∈c.ro→b∈e.ro):Post Z (L++[c]) w0 w:=by
  have hem:e∈L:=List.mem_of_getElem? hk;refine ⟨h.sep.append (N:=[c]) ⟨hc,fun b hb=>?_,fun d hd=>(by cases hd),trivial⟩ fun d hd c' hc'=>?_,h.chg,fun d hd b hb=>?_⟩
  · rcases hb with hb | hb
    · rw [ho] at hb; cases hb
    · exact h.sep.lt hk (.inr (hr b hb))
  · rcases List.mem_singleton.1 hc' with rfl
    refine ⟨fun b hb hb'=>?_,fun b hb=>by rw [ho] at hb; cases hb⟩
    rcases hb' with hb' | hb'
    · rw [ho] at hb'; cases hb'
    · rcases h.sep.clearM hd hem with rfl | hcl
      · rw [he] at hb; cases hb
      · exact hcl b hb (.inr (hr b hb'))
  · rcases List.mem_append.1 hd with hd | hd
    · exact h.mine d hd b hb
    · rcases List.mem_singleton.1 hd with rfl; rw [ho] at hb; cases hb
theorem Post.addY (h:Post Z L w0 w) (h2:Done No Y N w w') (hN:∀ c,c∈N→c.own=[]) (hY:∀ b,Y b→∃ e,e∈L∧e.own=[]∧b∈e.ro):Post Z (L++N) w0 w':=by
  have hb:=h2.chg.below;have hs:=h.sep.below hb;refine ⟨hs.append h2.sep fun d hd c hc=>⟨fun b hb1 hb'=>?_,fun b hb1=>by rw [hN c hc] at hb1; cases hb1⟩,h.chg.trans h2.chg (fun _ _ h=>h.elim),fun d hd b hbd=>?_⟩
  · rcases hb' with hb' | hb'
    · rw [hN c hc] at hb'; cases hb'
    · rcases h2.rest c hc b hb' with h3 | h3
      · obtain ⟨e,heL,heo,her⟩:=hY b h3
        rcases h.sep.clearM hd heL with rfl | hcl
        · rw [heo] at hb1; cases hb1
        · exact hcl b hb1 (.inr her)
      · have:=(h.sep.ok d hd).2 b (.inl hb1)
        omega
  · rcases List.mem_append.1 hd with hd | hd
    · exact h.mine d hd b hbd
    · rw [hN d hd] at hbd; cases hbd
end
section
variable {α : Type} {T : TypeId} {sz : Nat} {f : α → List Value} {v : Value} {xs : List α} {w w' w0 : World} {L N : List Ck} {Z Y : Nat → Prop} {i : Nat} {B : Nat}
def roB (B:Nat) (Y:Nat→Prop) (T:TypeId) (sz:Nat) (f:α→List Value) (v:Value) (xs:List α):Ck:=
  ⟨[],rdBs v,fun w=>RoAt T sz f v xs w∧∀ b,b∈rdBs v→Y b∨B≤b,fun _ _ h _ hr=>⟨hr.1.st fun b hb=>h b (.inr hb),hr.2⟩⟩
theorem Post.rob (h:Post Z L w0 w) (hi:L[i]?=some (roB B Y T sz f v xs)):RoAt T sz f v xs w:=(h.sep.get hi).1
theorem Post.from_ (h:Post Z L w0 w) (hi:L[i]?=some (roB B Y T sz f v xs)):∀ b,b∈rdBs v→Y b∨B≤b:=(h.sep.get hi).2
theorem Post.toB (h:Post No L w0 w) (hi:L[i]?=some (rowK T sz f v xs)):Post No (L.set i (roB w0.heap.size Y T sz f v xs)) w0 w:=by
  have hr:ce T sz f v xs w:=h.sep.get hi;refine ⟨Sep.weakAt (c:=rowK T sz f v xs) (c':=roB w0.heap.size Y T sz f v xs) ⟨hr.ro,fun b hb=>?_⟩ (fun b hb=>?_) (fun b hb=>(by cases hb)) L i h.sep hi,h.chg,fun c hc b hb=>?_⟩
  · exact .inr ((h.mine _ (List.mem_of_getElem? hi) b (sw hr hb)).resolve_left fun h=>h)
  · rcases hb with hb | hb
    · cases hb
    · exact .inl (sw hr hb)
  · rcases List.mem_or_eq_of_mem_set hc with hc | rfl
    · exact h.mine c hc b hb
    · cases hb
theorem Post.setRo {c c':Ck} (h:Post Z L w0 w) (hi:L[i]?=some c) (hc:c'.ok w) (ho:c'.own=[]) (hr:∀ b,b∈c'.ro→b∈c.ro):Post Z (L.set i c') w0 w:=by
  refine ⟨Sep.weakAt (c:=c) (c':=c') hc (fun b hb=>?_) (fun b hb=>by rw [ho] at hb; cases hb) L i h.sep hi,h.chg,fun d hd b hb=>?_⟩
  · rcases hb with hb | hb
    · rw [ho] at hb; cases hb
    · exact .inr (hr b hb)
  · rcases List.mem_or_eq_of_mem_set hd with hd | rfl
    · exact h.mine d hd b hb
    · rw [ho] at hb; cases hb
theorem Post.unB (h:Post Z L w0 w) (hi:L[i]?=some (roB B Y T sz f v xs)):Post Z (L.set i (roK T sz f v xs)) w0 w:=h.setRo hi (h.rob hi) rfl fun _ h=>h
theorem Post.dupB (h:Post Z L w0 w) (hi:L[i]?=some (roB B Y T sz f v xs)):Post Z (L++[roB B Y T sz f v xs]) w0 w:=h.addRoFrom hi rfl (h.sep.get hi) rfl fun _ h=>h
theorem Post.nilB (T:TypeId) (sz:Nat) (f:α→List Value) (h:Post Z L w0 w):Post Z (L++[roB B Y T sz f (.slice none 0 0) []]) w0 w:=by
  have hn:∀ b,¬ (roB B Y T sz f (.slice none 0 0) ([]:List α)).has b:=fun b hb=>by
    rcases hb with hb | hb
    · cases hb
    · cases hb
  refine ⟨h.sep.append (N:=[roB B Y T sz f (.slice none 0 0) []]) ⟨⟨RoAt.nil,fun b hb=>(by cases hb)⟩,fun b hb=>(hn b hb).elim,fun d hd=>(by cases hd),trivial⟩ fun d hd c' hc'=>?_,h.chg,fun d hd b hb=>?_⟩
  · rcases List.mem_singleton.1 hc' with rfl
    exact ⟨fun b _ hb=>hn b hb,fun b hb=>(by cases hb)⟩
  · rcases List.mem_append.1 hd with hd | hd
    · exact h.mine d hd b hb
    · rcases List.mem_singleton.1 hd with rfl; cases hb
theorem Post.argB (h:Post Z L w0 w0) (hr:RoAt T sz f v xs w0) (hn:∀ d,d∈L→d.own=[]) (hY:∀ b,b∈rdBs v→Y b):Post Z (L++[roB w0.heap.size Y T sz f v xs]) w0 w0:=
  h.addRo hn ⟨hr,fun b hb=>.inl (hY b hb)⟩ rfl hr.lt
end
abbrev kI (w:World) (Y:Nat→Prop) (v:Value) (xs:List Int):Ck:=roB w.heap.size Y 3 1 i64 v xs
section
variable {α : Type} {T : TypeId} {sz : Nat} {f : α → List Value} {v : Value} {xs ys : List α} {w w' w0 : World} {L N : List Ck} {Z Y Y' : Nat → Prop} {i : Nat} {B : Nat}
theorem RoAt.eC (hr:RoAt T sz f v xs w):v.cells=#[v]:=by obtain ⟨ad,c,rfl⟩:=hr.len; rfl
theorem RoAt.plain (hr:RoAt T sz f v xs w):plainCell v=true:=by obtain ⟨ad,c,rfl⟩:=hr.len; rfl
theorem rZ {lo hi:Int} (hr:RoAt T sz f v xs w) (h:sliceD xs lo hi=some ys):∀ b,b∈rdBs (aS sz v lo.toNat hi.toNat)→b∈rdBs v:=by
  obtain ⟨⟨h0,h1,h2⟩,hy⟩:=jw h;obtain ⟨ad,c,rfl⟩:=hr.len;intro b hb;simp only [aS] at hb
  cases hn:hi.toNat - lo.toNat with
  | zero=>rw [hn] at hb; split at hb <;> cases ad <;> cases hb
  | succ k=>
    rw [hn] at hb
    obtain ⟨q,hq⟩:∃ q,xs.length=q+1:=⟨xs.length - 1,by omega⟩
    rw [hq]
    cases ad with
    | none=>split at hb <;> cases hb
    | some a=>
      split at hb
      · exact hb
      · rcases List.mem_singleton.1 hb with rfl
        have:∀ k,(a.add k).block=a.block:=fun k=>by unfold Addr.add; split <;> rfl
        exact List.mem_singleton.2 (this _)
theorem Post.cutB {lo hi:Int} (h:Post Z L w0 w) (hi':L[i]?=some (roB B Y T sz f v xs)) (hf:∀ x,(f x).length=sz) (hD:sliceD xs lo hi=some ys):Post Z (L++[roB B Y T sz f (aS sz v lo.toNat hi.toNat) ys]) w0 w:=
  h.addRoFrom hi' rfl ⟨(h.rob hi').slice hf hD,fun b hb=>h.from_ hi' b (rZ (h.rob hi') hD b hb)⟩ rfl fun b hb=>rZ (h.rob hi') hD b hb
def rdOf (vs:List Value) (b:Nat):Prop:=∃ v,v∈vs∧b∈rdBs v
theorem bP {vs:List Value} (h:vs[i]?=some v):∀ b,b∈rdBs v→rdOf vs b:=fun _ hb=>⟨v,List.mem_of_getElem? h,hb⟩
theorem eu {Q:Nat→Prop}:∀ b,rdOf [] b→Q b:=fun _ h=>by obtain ⟨_,h,_⟩:=h; cases h
theorem bN {vs:List Value} {Q:Nat→Prop} (h:∀ b,b∈rdBs v→Q b) (ht:∀ b,rdOf vs b→Q b):∀ b,rdOf (v::vs) b→Q b:=fun b hb=>by
  obtain ⟨u,hu,hb⟩:=hb
  rcases List.mem_cons.1 hu with rfl | hu
  · exact h b hb
  · exact ht b ⟨u,hu,hb⟩
theorem Post.inR (h:Post Z L w0 w) (hi:L[i]?=some (roK T sz f v xs)):∀ b,b∈rdBs v→∃ e,e∈L∧e.own=[]∧b∈e.ro:=fun _ hb=>⟨_,List.mem_of_getElem? hi,rfl,hb⟩
theorem Post.inB (h:Post Z L w0 w) (hi:L[i]?=some (roB B Y T sz f v xs)):∀ b,b∈rdBs v→∃ e,e∈L∧e.own=[]∧b∈e.ro∧(Y b∨B≤b):=fun b hb=>⟨_,List.mem_of_getElem? hi,rfl,hb,h.from_ hi b hb⟩
def Ck.from (B:Nat) (Y:Nat→Prop) (c:Ck):Ck:=⟨c.own,c.ro,fun w=>c.ok w∧∀ b,b∈c.ro→Y b∨B≤b,fun w w' h hs hr=>⟨c.st w w' h hs hr.1,hr.2⟩⟩
theorem tz:∀ {N:List Ck},Sep N w→(∀ c,c∈N→∀ b,b∈c.ro→Y b∨B≤b)→Sep (N.map (Ck.from B Y)) w
  | [],_,_=>trivial
  | c::N,h,hp=>by
    refine ⟨⟨h.1,hp c (List.mem_cons_self ..)⟩,h.2.1,fun d hd=>?_,tz h.2.2.2 fun c hc=>hp c (List.mem_cons_of_mem _ hc)⟩
    obtain ⟨d',hd',rfl⟩:=List.mem_map.1 hd;exact h.2.2.1 d' hd'
theorem Post.addYB (h:Post No L w0 w) (h2:Done No Y' N w w') (hN:∀ c,c∈N→c.own=[]) (hY:∀ b,Y' b→∃ e,e∈L∧e.own=[]∧b∈e.ro∧(Y b∨w0.heap.size≤b)):Post No (L++N.map (Ck.from w0.heap.size Y)) w0 w':=by
  have hp:∀ c,c∈N→∀ b,b∈c.ro→Y b∨w0.heap.size≤b:=fun c hc b hb=>by
    rcases h2.rest c hc b hb with h3 | h3
    · obtain ⟨_,_,_,_,h4⟩:=hY b h3; exact h4
    · exact .inr (Nat.le_trans h.size h3)
  have h3:=h.addY h2 hN fun b hb=>by obtain ⟨e,h4,h5,h6,_⟩:=hY b hb; exact ⟨e,h4,h5,h6⟩
  have hs:Sep (N.map (Ck.from w0.heap.size Y)) w':=tz h2.sep hp
  have hN':∀ c,c∈N.map (Ck.from w0.heap.size Y)→c.own=[]:=fun c hc=>by obtain ⟨d,hd,rfl⟩:=List.mem_map.1 hc; exact hN d hd
  exact h.addY (Y:=Y') ⟨⟨hs,h2.chg,fun c hc b hb=>by rw [hN' c hc] at hb; cases hb⟩,fun c hc b hb=>by obtain ⟨d,hd,rfl⟩:=List.mem_map.1 hc; exact h2.rest d hd b hb⟩ hN' fun b hb=>by obtain ⟨e,h4,h5,h6,_⟩:=hY b hb; exact ⟨e,h4,h5,h6⟩
end
section
variable {P : Program} {a : Act} {w : World} {d : Option Tmp} {ty : TypeId} {pos : String} {aft : Array Edge} {N : Nat} {s : SL}
theorem bK (hfr:Fr a N s) {x y:Operand} {b o n:Nat} {t E:TypeId} {c c':Array Value} {v:Value} {cs:List Value} {R:Value→World→Prop} (hx:lookO s x=.pointer (some ⟨b,o,none⟩)) (hy:lookO s y=v) (hv:v.cells=cs.toArray) (hp:cs.all plainCell=true) (hl:cs.length=n)
    (h:w.heap[b]?=some (.cells c E (0,0))) (ht:sized P t n=true) (hn:o+n≤c.size) (hc:over c o cs=c')
    (hr:∀ w',Upd w w' b (.cells c' E (0,0))→R undef w'):Yields P ⟨d,.store t x y,ty,pos,aft,none⟩ a w R:=by
  refine aX hfr hx hy h (by simpa [hv,hl] using ht) (by simpa [hv,hl] using hn) (by simpa [hv] using hp) (by simpa [hv] using hc) hr
theorem bJ:([]:List Value).all plainCell=true:=rfl
theorem au {v:Value} {vs:List Value} (h:plainCell v=true) (ht:vs.all plainCell=true):(v::vs).all plainCell=true:=by simp [h,ht]
theorem lW {fn:Func} {n:Nat} (h:Fr a n s) {R:Ending→World→Prop} {t t1:Tmp} {ty ty1:TypeId} {b b1:Nat} {c c1:Array Value} {E E1:TypeId} {fz fz1:Nat × Nat} {k k1:Nat} (hf:fn.results=#[.cell t ty,.cell t1 ty1])
    (hv:look s t=.pointer (some ⟨b,0,none⟩)) (hv1:look s t1=.pointer (some ⟨b1,0,none⟩)) (hb:w.heap[b]?=some (.cells c E fz)) (hk:c.size=k) (ht:tyA P ty k=true) (hb1:w.heap[b1]?=some (.cells c1 E1 fz1)) (hk1:c1.size=k1) (ht1:tyA P ty1 k1=true)
    (hR:R (.returned (.tuple #[.agg c,.agg c1])) w):bodyPost P fn R .ret a w:=by
  refine ⟨h.defers,_,?_,hR⟩;subst hk; subst hk1;have hl:(loadVar ty ⟨b,0,none⟩).run P w=.ok (.agg c) w:=by
    have:=gq (P:=P) (t:=ty) (ij hb (o:=0) (n:=c.size) (cs:=c.toList) (by rw [List.drop_zero]; exact List.take_of_length_le (by simp))) (by simpa using ht)
    simpa using this
  have hl1:(loadVar ty1 ⟨b1,0,none⟩).run P w=.ok (.agg c1) w:=by
    have:=gq (P:=P) (t:=ty1) (ij hb1 (o:=0) (n:=c1.size) (cs:=c1.toList) (by rw [List.drop_zero]; exact List.take_of_length_le (by simp))) (by simpa using ht1)
    simpa using this
  simp [results,hf,h.slot,hv,hv1,asAddr,hl,hl1]
end
section
variable {P : Program} {L : List Oper} {Q : Exit → Act → World → Prop} {a : Act} {w : World} {listed : Array Bool}
def wpTail (P:Program) (L:List Oper) (Q:Exit→Act→World→Prop) (listed:Array Bool) (a:Act) (w:World):Prop:=
  ∀ fuel,left L.toArray.size listed≤fuel→wpAny P .any L.toArray Q fuel listed a w
def headL (k n:Nat):Array Bool:=padded (Array.replicate k true) (n - k)
def chainedT (l:List Oper) (k:Nat):Bool:=
  l.zipIdx.all fun (o,i)=>decide (i<k+1)||o.after.toList.any fun e=>Region.binds .any e&&decide (k≤e.on)&&decide (e.on<i)
theorem zi {l:List Oper} {k:Nat} (h:chainedT l k=true) {i:Nat} {o:Oper} (hi:l[i]?=some o) (hk:k<i):∃ e∈o.after,Region.binds .any e=true∧k≤e.on∧e.on<i:=by
  have hm:(o,i)∈l.zipIdx:=by
    rw [List.mem_iff_getElem?]
    exact ⟨i,by simp [hi]⟩
  have h2:=List.all_eq_true.1 h _ hm;simp only [Bool.or_eq_true,decide_eq_true_eq] at h2
  rcases h2 with h2 | h2
  · omega
  · obtain ⟨e,he,h3⟩:=List.any_eq_true.1 h2
    simp only [Bool.and_eq_true,decide_eq_true_eq] at h3
    exact ⟨e,by simpa using he,h3.1.1,h3.1.2,h3.2⟩
def tailOkT (L:List Oper) (k:Nat):Bool:=shapely (L.take k)&&shapely (L.take (k+1))&&waits (L.take (k+1))&&chainedT L k&&decide (k<L.length)&&noGuards (L.take k)
theorem zD {k:Nat} (ht:tailOkT L k=true) {Q':Exit→Act→World→Prop} (hQ:∀ e a w,e≠.normal→Q' e a w→Q e a w) (hN:∀ a w,Q' .normal a w→wpTail P L Q (headL k L.length) a w) :
    ∀ (fuel:Nat) (listed:Array Bool) (a:Act) (w:World),listed.size=k→(∀ i o,L[i]?=some o→i<k→listed.getD i false=true→∀ e∈o.after,listed.getD e.on false=true)→
      wpAny P .any (L.take k).toArray Q' fuel listed a w→∀ fuel2,left L.toArray.size (padded listed (L.length - k))≤fuel2→wpAny P .any L.toArray Q fuel2 (padded listed (L.length - k)) a w:=by
  simp only [tailOkT,Bool.and_eq_true,decide_eq_true_eq] at ht
  obtain ⟨⟨⟨⟨⟨hsk,hs1⟩,hw⟩,hch⟩,hkl⟩,hg⟩:=ht;have htk:∀ i,i<k→(L.take k)[i]?=L[i]?:=fun i hi=>gD hi
  have hsH:∀ i o,L[i]?=some o→i≤k→∀ e∈o.after,Region.binds .any e=true∧e.on<i:=fun i o ho hi=>ju hs1 (by rw [gD (by omega)]; exact ho)
  have hlk:(L.take k).length=k:=by simp; omega
  have fin:∀ (listed:Array Bool) (a:Act) (w:World),listed.size=k→Region.ready .any (L.take k).toArray listed=[]→Q' .normal a w→∀ fuel2,left L.toArray.size (padded listed (L.length - k))≤fuel2→wpAny P .any L.toArray Q fuel2 (padded listed (L.length - k)) a w:=by
    intro listed a w hsz hr hq fuel2 hf2;have hall:=lK hsk (by omega) hr;have he:listed=Array.replicate k true:=by
      apply Array.ext (by simpa using hsz)
      intro i h1 h2;have:=hall i (by omega);simpa [h1] using this
    subst he;exact hN _ _ hq fuel2 hf2
  have low:∀ (listed:Array Bool),listed.size=k→(∀ i o,L[i]?=some o→i<k→listed.getD i false=true→∀ e∈o.after,listed.getD e.on false=true)→∀ j,k≤j→j∈Region.ready .any L.toArray (padded listed (L.length - k))→∀ i,i<k→listed.getD i false=true:=by
    intro listed hsz hcl j hkj hj;obtain ⟨_,o,ho,hall⟩:=mem_ready.1 hj;have ho:L[j]?=some o:=by simpa using ho
    have hjk:j=k:=by
      rcases Nat.lt_or_ge k j with h | h
      · obtain ⟨e,he,hb,h1,h2⟩:=zi hch ho h
        have:=hall e he hb;rw [oL (by omega)] at this
        cases this
      · omega
    subst hjk;have main:∀ d i,i+d+1=j→listed.getD i false=true:=by
      intro d
      induction d using Nat.strongRecOn with
      | _ d ih=>
        intro i hi;obtain ⟨i',o',hlt,ho',e,he,hei⟩:=oW hw (j:=i) (by simp; omega);have hi'l:i'<(L.take (j+1)).length:=(List.getElem?_eq_some_iff.1 ho').1;have hi'k:i'≤j:=by simp at hi'l; omega
        rw [gD (by omega)] at ho'
        rcases Nat.lt_or_ge i' j with h | h
        · have h1:=ih (j - 1 - i') (by omega) i' (by omega)
          have:=hcl i' o' ho' h h1 e he
          rwa [hei] at this
        · have e1:i'=j:=by omega
          subst e1;rw [ho] at ho'
          cases ho'
          have:=hall e he (hsH i' o ho (Nat.le_refl _) e he).1;rw [hei,dw (by omega)] at this
          exact this
    intro i hi;exact main (j - 1 - i) i (by omega)
  intro fuel
  induction fuel with
  | zero=>
    intro listed a w hsz hcl h;exact fin listed a w hsz h.1 h.2
  | succ fuel ih=>
    intro listed a w hsz hcl h
    by_cases hr:Region.ready .any (L.take k).toArray listed=[]
    · exact fin listed a w hsz hr (h.1 hr)
    obtain ⟨j0,hj0⟩:=List.exists_mem_of_ne_nil _ hr;obtain ⟨hj0f,o0,ho0,hall0⟩:=mem_ready.1 hj0;have ho0:(L.take k)[j0]?=some o0:=by simpa using ho0
    have hj0k:j0<k:=by have:=(List.getElem?_eq_some_iff.1 ho0).1; omega
    have hj0n:listed.getD j0 false=false:=by rw [gI (by omega) false true]; exact hj0f
    have hj0L:j0∈Region.ready .any L.toArray (padded listed (L.length - k)):=by
      refine mem_ready.2 ⟨by rw [dw (by omega)]; exact hj0f,o0,by rw [htk j0 hj0k] at ho0; simpa using ho0,fun e he hb=>?_⟩
      have:=hsH j0 o0 (by rw [htk j0 hj0k] at ho0; exact ho0) (by omega) e he
      rw [dw (by omega)]
      exact hall0 e he hb
    intro fuel2 hf2;cases fuel2 with
    | zero=>
      exfalso
      have hlt:j0<L.length:=by omega
      have h1:j0∈(List.range L.toArray.size).filter fun i=>!(padded listed (L.length - k)).getD i true:=List.mem_filter.2 ⟨List.mem_range.2 (by simpa using hlt),by rw [dw (by omega),hj0f]; rfl⟩
      have h2:left L.toArray.size (padded listed (L.length - k))=0:=by omega
      rw [List.eq_nil_of_length_eq_zero h2] at h1
      cases h1
    | succ fuel2=>
      refine ⟨fun hrl=>(by rw [hrl] at hj0L; cases hj0L),fun j hj=>?_⟩
      have hjk:j<k:=by
        rcases Nat.lt_or_ge j k with h | h
        · exact h
        · have:=low listed hsz hcl j h hj j0 hj0k
          rw [hj0n] at this
          cases this
      obtain ⟨hjf,o,ho,hall⟩:=mem_ready.1 hj;have ho:L[j]?=some o:=by simpa using ho
      have hjf':listed.getD j true=false:=by rwa [dw (by omega)] at hjf
      have hall':∀ e∈o.after,Region.binds .any e=true→listed.getD e.on false=true:=fun e he hb=>by
        have:=hsH j o ho (by omega) e he
        have h2:=hall e he hb
        rwa [dw (by omega)] at h2
      have hoH:(L.take k)[j]?=some o:=by rw [htk j hjk]; exact ho
      have hjH:j∈Region.ready .any (L.take k).toArray listed:=mem_ready.2 ⟨hjf',o,by simpa using hoH,hall'⟩
      have hwp:=h.2 j hjH;have hls:=lY (listed:=padded listed (L.length - k)) (n:=L.toArray.size) (i:=j) (by simp; omega) hjf
      have hcl':∀ i o',L[i]?=some o'→i<k→(listed.setIfInBounds j true).getD i false=true→∀ e∈o'.after,(listed.setIfInBounds j true).getD e.on false=true:=by
        intro i o' ho' hik hil e he
        by_cases hij:i=j
        · subst hij
          rw [ho] at ho'
          cases ho'
          exact getD_set_true (hall' e he (hsH i o ho (by omega) e he).1)
        · rw [getD_set_ne false (Ne.symm hij)] at hil
          exact getD_set_true (hcl i o' ho' hik hil e he)
      unfold wpOp at hwp ⊢
      rw [show (L.take k).toArray[j]?=some o from by simpa using hoH] at hwp
      rw [show L.toArray[j]?=some o from by simpa using ho]
      simp only at hwp ⊢
      rw [if_pos (rP hg hoH _ _)] at hwp ⊢
      rcases hwp with hwp | ⟨h1,h2⟩
      · refine .inl (Oper.wp_Q hQ (Oper.wp_mono (fun a' w' h'=>?_) hwp))
        rw [lT (by omega)]
        exact ih (listed.setIfInBounds j true) a' w' (by simpa using hsz) hcl' h' fuel2 (by rw [←lT (by omega)]; omega)
      · exact .inr ⟨h1,h2.imp fun a h=>h.imp fun w h=>hQ _ _ _ (by simp) h⟩
theorem A7 {id:Nat} {k:Nat} (hm:P.follows .mixedOrders=true) (ht:tailOkT L k=true)
    (h:wpAny P .any (L.take k).toArray (fun e a w=>e=.normal∧wpTail P L Q (headL k L.length) a w) (L.take k).toArray.size (Array.replicate (L.take k).toArray.size false) a { w with drawn:=w.drawn+1 }):(Code.region id L.toArray true).wp P Q a w:=by
  refine wp_region_any hm ?_;have hkl:k<L.length:=by simp only [tailOkT,Bool.and_eq_true,decide_eq_true_eq] at ht; exact ht.1.2
  have hlk:(L.take k).length=k:=by simp; omega
  have h2:=zD (Q:=Q) ht (Q':=fun e a w=>e=.normal∧wpTail P L Q (headL k L.length) a w) (fun e a w hne h=>absurd h.1 hne) (fun a w h=>h.2) _ (Array.replicate k false) a { w with drawn:=w.drawn+1 } (by simp) (fun i o _ _ hl=>by rw [eR] at hl; cases hl) (by rw [show (L.take k).toArray.size=k from by simpa using hlk] at h; exact h)
  have e:padded (Array.replicate k false) (L.length - k)=Array.replicate L.toArray.size false:=by
    unfold padded;rw [Array.replicate_append_replicate]
    congr 1
    simp
    omega
  rw [e] at h2
  refine h2 _ ?_;unfold left;exact Nat.le_trans (List.length_filter_le ..) (by simp)
theorem Ae {id:Nat} {N:Nat} {s:SL} (k:Nat) (fl:List (Fact w.heap.size (fun _=>False))) (hm:P.follows .mixedOrders=true) (r:Fr a N s) (hs:(tailOkT L k&&(freely (L.take k) (fun i=>(fact fl i).sh)&&dstsIn N (L.take k)&&okW (L.take k) fl))=true)
    (he:EachF P (L.take k) (fact fl) a { w with drawn:=w.drawn+1 } (L.take k) 0)
    (hl:∀ a' g w',Below w.heap.size w w'→(∀ i,Nat.ble (i+1) (L.take k).length=true→(fact fl i).ok g i w'∧w.heap.size≤(g i).lo∧(g i).lo≤(g i).hi∧(g i).hi≤w'.heap.size)→
      (∀ i j,(!(i==j)&&Nat.ble (i+1) (L.take k).length&&Nat.ble (j+1) (L.take k).length)=true→(g i).hi≤(g j).lo∨(g j).hi≤(g i).lo)→Fr a' N (putsS (L.take k) (fun j=>(g j).v) 0 s)→wpTail P L Q (headL k L.length) a' w') :
    (Code.region id L.toArray true).wp P Q a w:=by
  simp only [Bool.and_eq_true] at hs
  obtain ⟨hs1,hs⟩:=hs;refine A7 hm hs1 (oO (fact fl) (mq hs.2) rfl (fun _ h=>h.elim) hs.1.1 (mo hs.2) he fun g w' h1 h2 h3 h4 h5 h6 h7=>⟨rfl,hl _ g w' ⟨h1,h2,h3,h4,fun b hb=>h5 b hb fun h=>h⟩ (fun i hi=>h6 i (Nat.le_of_ble_eq_true hi)) (fun i j hij=>?_) (r.puts (L.take k) _ 0 hs.1.2)⟩)
  simp only [Bool.and_eq_true,Bool.not_eq_true',beq_eq_false_iff_ne] at hij
  exact h7 i j hij.1.1 (Nat.le_of_ble_eq_true hij.1.2) (Nat.le_of_ble_eq_true hij.2)
theorem pu {j:Nat} {o:Oper} {fuel:Nat} (ho:L[j]?=some o) (hg:o.guard.isNone=true) (hf0:left L.toArray.size listed≤fuel+1) (hj:j∈Region.ready .any L.toArray listed)
    (h:wpList P L.toArray (fun e a w=>e=.normal∧wpTail P L Q (listed.setIfInBounds j true) a w) [o] a w):wpOp P L.toArray Q j (wpAny P .any L.toArray Q fuel (listed.setIfInBounds j true)) a w:=by
  obtain ⟨hjf,_,_,_⟩:=mem_ready.1 hj;have hls:=lY (listed:=listed) (n:=L.toArray.size) (i:=j) (by have:=(List.getElem?_eq_some_iff.1 ho).1; simpa using this) hjf
  have hq:Region.wanted o (yielded L.toArray a.tmps)=true:=by
    cases hc:o.guard with
    | none=>simp [Region.wanted,hc]
    | some g=>rw [hc] at hg; cases hg
  unfold wpOp;rw [show L.toArray[j]?=some o from by simpa using ho]
  unfold wpList at h
  rw [if_pos hq] at h
  simp only
  rw [if_pos hq]
  rcases h with h | ⟨h1,h2⟩
  · refine .inl (Oper.wp_Q (fun e a w hne h=>absurd h.1 hne) (Oper.wp_mono (fun a' w' h'=>?_) h))
    unfold wpList at h'
    exact h'.2 fuel (by omega)
  · exact .inr ⟨h1,h2.imp fun a h=>h.imp fun w h=>absurd h.1 (by simp)⟩
theorem sD {j:Nat} {listed:Array Bool} (h:j∈Region.ready .any L.toArray listed):0<left L.toArray.size listed:=by
  obtain ⟨h0,o,ho,_⟩:=mem_ready.1 h;have hlt:j<L.toArray.size:=(Array.getElem?_eq_some_iff.1 ho).1;exact List.length_pos_of_mem (List.mem_filter.2 ⟨List.mem_range.2 hlt,by simpa using h0⟩)
theorem eW {j:Nat} {o:Oper} (hr:Region.ready .any L.toArray listed=[j]) (ho:L[j]?=some o) (hg:o.guard.isNone=true)
    (h:wpList P L.toArray (fun e a w=>e=.normal∧wpTail P L Q (listed.setIfInBounds j true) a w) [o] a w):wpTail P L Q listed a w:=by
  intro fuel hf;have hj:j∈Region.ready .any L.toArray listed:=by rw [hr]; exact List.mem_cons_self ..
  cases fuel with
  | zero=>have:=sD hj; omega
  | succ fuel=>
    refine ⟨fun he=>(by rw [hr] at he; cases he),fun i hi=>?_⟩
    rw [hr] at hi
    rcases List.mem_singleton.1 hi with rfl
    exact pu ho hg hf hj h
theorem sX {i j:Nat} {o o':Oper} (hr:Region.ready .any L.toArray listed=[i,j]) (ho:L[i]?=some o) (ho':L[j]?=some o') (hg:(o.guard.isNone&&o'.guard.isNone)=true)
    (h:wpList P L.toArray (fun e a w=>e=.normal∧wpTail P L Q (listed.setIfInBounds i true) a w) [o] a w)
    (h':wpList P L.toArray (fun e a w=>e=.normal∧wpTail P L Q (listed.setIfInBounds j true) a w) [o'] a w):wpTail P L Q listed a w:=by
  intro fuel hf;simp only [Bool.and_eq_true] at hg
  have hj:i∈Region.ready .any L.toArray listed:=by rw [hr]; exact List.mem_cons_self ..
  cases fuel with
  | zero=>have:=sD hj; omega
  | succ fuel=>
    refine ⟨fun he=>(by rw [hr] at he; cases he),fun q hq=>?_⟩
    have hq':=hq;rw [hr] at hq
    rcases List.mem_cons.1 hq with rfl | hq
    · exact pu ho hg.1 hf hj h
    · rcases List.mem_singleton.1 hq with rfl
      exact pu ho' hg.2 hf hq' h'
theorem tail_nil (hr:Region.ready .any L.toArray listed=[]) (h:Q .normal a w):wpTail P L Q listed a w:=by
  intro fuel hf;cases fuel with
  | zero=>exact ⟨hr,h⟩
  | succ fuel=>exact ⟨fun _=>h,fun i hi=>(by rw [hr] at hi; cases hi)⟩
end
end Go.Proofs.YtfpgnmhcfkikkaaGreat

/- Some of our texts, one behind the other. -/
import Derived.Test.YtbbipmelhmgmfaaGreatDpM22
import Derived.Test.YtbbipmelhmgmfaaGreatDpM23
import Derived.Test.YtbbipmelhmgmfaaGreatDpM16
import Derived.Test.YtbbipmelhmgmfaaGreatDpMem
import Derived.Test.YtbbipmelhmgmfaaGreatDpM14
set_option linter.all false
set_option maxRecDepth 100000
set_option maxHeartbeats 20000000
/- Ours. -/
namespace Go.Proofs.YtbbipmelhmgmfaaGreat
open Go.RowKit
theorem znT {p:Plan} (hp:PF p) {d k:Int} (hd:0≤d∧d<p.domains) (hk:0≤k∧k≤18446744073709551615):D.zbD p d k=mc p d (k % p.buckets):=by
 have hb1:=hp.b1;have hb2:=hp.b2;have h0:0≤k % p.buckets:=Int.emod_nonneg _ kw
 have h1:k % p.buckets<p.buckets:=Int.emod_lt_of_pos _ kw
 have hbc:p.buckets≤D.za9 p:=by unfold D.za9 maxI; split <;> omega
 unfold D.zbD;rw [zf7.2 hp];simp only [Bool.not_true,cond_false];rw [zbk (x:=p.buckets) kw kw,Int.tmod_eq_emod_of_nonneg hk.1,zaQ (x:=k % p.buckets) kw kw,zny hp,if_pos ⟨hd,h0,kw⟩]
 rfl
def cat (p:Plan) (ws N:List Int):Nat→List Int
 | 0=>[]
 | b+1=>cat p ws N b++bk p ws (b:Int) N
theorem zkC {p:Plan} (hp:PF p) {ws N:List Int}:∀ b:Nat,(cat p ws N b).Perm (N.filter fun q=>decide (rd ws (fp p q 0) % p.buckets<(b:Int)))
 | 0=>by
  have:(N.filter fun q=>decide (rd ws (fp p q 0) % p.buckets<((0:Nat):Int)))=[]:=List.filter_eq_nil_iff.2 fun q _=>by
   have hb1:=hp.b1;have:0≤rd ws (fp p q 0) % p.buckets:=Int.emod_nonneg _ kw
   simp only [decide_eq_true_eq]; omega
  rw [this]
  exact .refl _
 | b+1=>by
  have h1:=zkC hp (ws:=ws) (N:=N) b;have h2:=List.filter_append_perm (fun q=>decide (rd ws (fp p q 0) % p.buckets<(b:Int))) (N.filter fun q=>decide (rd ws (fp p q 0) % p.buckets<((b+1:Nat):Int)))
  rw [List.filter_filter,List.filter_filter] at h2
  have e1:(N.filter fun q=>decide (rd ws (fp p q 0) % p.buckets<(b:Int))&&decide (rd ws (fp p q 0) % p.buckets<((b+1:Nat):Int)))=N.filter fun q=>decide (rd ws (fp p q 0) % p.buckets<(b:Int)):=List.filter_congr fun q _=>by
   rw [Bool.eq_iff_iff]; simp only [Bool.and_eq_true,decide_eq_true_eq]; omega
  have e2:(N.filter fun q=>!decide (rd ws (fp p q 0) % p.buckets<(b:Int))&&decide (rd ws (fp p q 0) % p.buckets<((b+1:Nat):Int)))=bk p ws (b:Int) N:=List.filter_congr fun q _=>by
   unfold inB;rw [Bool.eq_iff_iff]; simp only [Bool.and_eq_true,decide_eq_true_eq,Bool.not_eq_true',decide_eq_false_iff_not,beq_iff_eq]; omega
  rw [e1,e2] at h2
  exact (List.Perm.append_right _ h1).trans h2
theorem zjD {p:Plan} (hp:PF p) (hnn:p.nodes≤1000) {M:Mem} {t g d:Int} {P:Pool} {N:List Int} (h:MapAt p t M.ws P g d N) (hd:0≤d∧d<p.domains) {fu:Nat} (hfu:1001<fu):D.zcc fu p M 0 d=some (ents p M.ws N):=by
 have hb1:=hp.b1;have hb2:=hp.b2;have hn1:=hp.n1;obtain ⟨z1,z2,z3,z4⟩:=zpZ hp;have hlen:=h.ziU hp;have ht1:=hp.t1;have hcl:∀ b,(cat p M.ws N b).length≤N.length:=fun b=>by
  rw [(zkC hp b).length_eq]; exact List.length_filter_le ..
 have hall:(cat p M.ws N p.buckets.toNat).Perm N:=by
  have h1:=zkC hp (ws:=M.ws) (N:=N) p.buckets.toNat;have e:(N.filter fun q=>decide (rd M.ws (fp p q 0) % p.buckets<((p.buckets.toNat:Nat):Int)))=N:=List.filter_eq_self.2 fun q _=>by
   have:rd M.ws (fp p q 0) % p.buckets<p.buckets:=Int.emod_lt_of_pos _ kw
   simp only [decide_eq_true_eq]; omega
  rw [e] at h1
  exact h1
 unfold D.zcc;refine zjo (fun o=>o=some (ents p M.ws N)) (fun (i:Nat) (x:List Entry × Int)=>x=(ents p M.ws (cat p M.ws N i),(i:Int))) p.buckets.toNat fu rfl kw ?_ ?_
 ·rintro i _ hi rfl
  have hb:0≤(i:Int)∧(i:Int)<p.buckets:=kw
  have c1:=zqk hp hd hb;have hbc:p.buckets≤D.za9 p:=by unfold D.za9 maxI; split <;> omega
  have hce:D.zbj p d (i:Int)=mc p d (i:Int):=by rw [zny hp,if_pos ⟨hd,hb.1,kw⟩]; rfl
  have hli:(bk p M.ws (i:Int) N).length≤N.length:=List.length_filter_le ..;simp only;rw [decide_eq_true hb.2,hce,zmS hp hnn h.pool.free.len ⟨kw,kw⟩ (h.link _ hb.1 hb.2) kw hfu]
  simp only [cond_true,Option.bind_some]
  have ha:appD (ents p M.ws (cat p M.ws N i)) (ents p M.ws (bk p M.ws (i:Int) N))=some (ents p M.ws (cat p M.ws N (i+1))):=by
   have:=hcl i;unfold appD;rw [if_pos (by simp only [zm0,ents,List.length_map]; omega)]
   rw [show cat p M.ws N (i+1)=cat p M.ws N i++bk p M.ws (i:Int) N from rfl]
   unfold ents;rw [List.map_append]
  rw [ha]
  simp only [Option.bind_some]
  rw [zaQ (show -1000000≤(i:Int)+1 by omega) kw]
  exact ⟨_,rfl,by simp⟩
 ·rintro _ rfl
  simp only
  rw [show decide (((p.buckets.toNat:Nat):Int)<p.buckets)=false from by simp; omega]
  refine ⟨_,rfl,?_⟩;simp only;have hpm:(ents p M.ws N).Perm (ents p M.ws (cat p M.ws N p.buckets.toNat)):=(List.Perm.map _ hall).symm;have hnd:((ents p M.ws (cat p M.ws N p.buckets.toNat)).map Entry.key).Nodup:=by
   refine ((List.Perm.map Entry.key hpm).nodup_iff).1 ?_;exact List.pairwise_map.2 (h.inc.imp fun h=>kw)
  have hcl':=hcl p.buckets.toNat;have hs:sortD (ents p M.ws (cat p M.ws N p.buckets.toNat))=some (sortK (ents p M.ws (cat p M.ws N p.buckets.toNat))):=by
   unfold sortD;rw [if_pos ⟨by unfold ents; rw [List.length_map]; omega,hnd⟩]
  obtain ⟨e,_⟩:=zjm hs hpm (h.inc.imp fun h=>kw)
  rw [hs,e]
  rfl
theorem MapAt.start {p:Plan} (hp:PF p) {ws:List Int} (h:LaidAt p ws) {t:Int} (ht:0≤t∧t<p.threads) {d:Int} (hd:0≤d∧d<p.domains):MapAt p t ws ⟨allN p,[],fun _=>⟨0,0,0⟩⟩ 0 d []∧Alone p ws:=by
 obtain ⟨z1,z2,z3,z4⟩:=zpZ hp;have hb1:=hp.b1;have hw:∀ b,0≤b→b<p.buckets→rd ws (mc p d b)=0:=fun b b0 b1=>by
  have c1:=zqk hp hd ⟨b0,b1⟩;exact h.zero _ kw (fun m m0 m1=>kw)
 obtain ⟨hA,hal⟩:=LAt.start hp h ht (hw 0 kw kw);exact ⟨⟨hA.pool,hA.own,List.nodup_nil,fun q hq=>(by cases hq),List.Pairwise.nil,fun b b0 b1=>hw b b0 b1⟩,hal⟩
theorem cl90:zpf ar 90:=kz
theorem cl96:zpf ar 96:=kz
theorem cl97:zpf ar 97:=kz
theorem zoQ:zpq ar 101 0 0:=kz
theorem zcH:zpq ar 101 1 1:=kz
theorem zoq:zpq ar 101 2 2:=kz
def D.zb7 (j:Nat) (a0:Seat) (a1:Int) (a2:CallD):T Res:=(bif ((a2.kind.tmod 3)==0) then (D.zfm j a0 a1 a2.k a2.v) else (bif ((a2.kind.tmod 3)==1) then (D.zjg j a0 a1 a2.k) else (D.zjl j a0 a1 a2.k)))
theorem zhn {n:Nat} {F:Nat→Prop} {j:Nat} {w0:World} (hF:∀ b,F b→b<w0.heap.size) (hj:n<j)
    (a0:Seat) (a1:Int) (a2:CallD) :
    Calls ar 49 #[aq (zpJ a0),.int .i64 a1,aq (zpm a2)] w0 (zpj ar zpn n (D.zb7 j a0 a1 a2) F w0):=by
 refine kN Tryz.func49 rfl 31 rfl rfl fun fr r hB=>?_;refine wsr ?_
 refine kX 47 (aq (zpJ a0)) r rfl rfl fun b1 w2 n3 r=>?_;obtain ⟨eb1,zw2,hb1,hB,zB⟩:=n3.all hB
 refine kX 101 (aq (zpm a2)) r rfl rfl fun b4 w5 n6 r=>?_;have hb1:=keep n6.below hb1
 obtain ⟨eb4,zw5,hb4,hB,zB⟩:=n6.all hB;refine za7 (.cells (kq zpn) 41 (0,0)) r (fun R=>za6 tz41) rfl fun fr b7 w8 n9 r=>?_;have hb1:=keep n9.below hb1
 have hb4:=keep n9.below hb4;obtain ⟨eb7,zw8,hb7,hB,zB⟩:=n9.all hB;refine wn (aa (wsr (kF 0 r rfl zoQ rfl fun r=>kL (.int .u8 a2.kind) r rfl hb4 to5 rfl rfl fun r=>kB r rfl rfl rfl rfl rfl fun r=>wn (wp_block (wsr (kB r rfl rfl rfl rfl rfl fun r=>kA (.bool ((a2.kind.tmod 3)==0)) r rfl rfl fun r=>wn ?_))))));refine ae (t:=((a2.kind.tmod 3)==0)) (r.ev rfl) (fun h10=>?_) (fun h10=>?_)
 ·
  refine wsr (kG (zpJ a0) 8 r rfl hb1 ta47 rfl rfl fun r=>kM (I a1) r rfl rfl fun r=>kF 0 r rfl zcH rfl fun r=>kL (U a2.k) r rfl hb4 to34 rfl rfl fun r=>kF 0 r rfl zoq rfl fun r=>kL (U a2.v) r rfl hb4 to34 rfl rfl fun r=>?_);refine kJ r (zjw (j:=j) (F:=No) (n:=n) (fun _ h=>h.elim) kw a0 a1 a2.k a2.v) rfl cl90 rfl fun w11 v12 hb hr13 r=>?_
  have hb:=hb.below;have zw11:=hb.size;have hb1:=keep hb hb1;have hb4:=keep hb hb4;have hb7:=keep hb hb7;obtain ⟨hB,zB⟩:=bon hb hB;refine kP r hr13.shape rfl rfl hb7 ts41 rfl rfl fun w14 u15 r=>?_;have zw14:=u15.size
  have hb1:=u15.keep hb1 kw
  have hb4:=u15.keep hb4 kw
  have hb7:=u15.at_;obtain ⟨hB,zB⟩:=u15.on hB kw
  refine wn (ac ?_);have hd:D.zb7 j a0 a1 a2=(D.zfm j a0 a1 a2.k a2.v):=(zao h10).trans (rfl);have hs:=hr13.shape.cells;refine za5 r rfl rfl hb7 (k:=8) hs.1 ta41 ?_;rw [←hs.2.2,hd];exact zpj.fin (Chg.zpv hB) hr13 u15 (fun _ h=>h.elim) (fun h=>h) kw kw kw
 refine wsr (kB r rfl rfl rfl rfl rfl fun r=>kA (.bool ((a2.kind.tmod 3)==1)) r rfl rfl fun r=>wn ?_);refine ae (t:=((a2.kind.tmod 3)==1)) (r.ev rfl) (fun h16=>?_) (fun h16=>?_)
 ·
  refine wsr (kG (zpJ a0) 8 r rfl hb1 ta47 rfl rfl fun r=>kM (I a1) r rfl rfl fun r=>kF 0 r rfl zcH rfl fun r=>kL (U a2.k) r rfl hb4 to34 rfl rfl fun r=>?_);refine kJ r (zlK (j:=j) (F:=No) (n:=n) (fun _ h=>h.elim) kw a0 a1 a2.k) rfl cl96 rfl fun w17 v18 hb hr19 r=>?_
  have hb:=hb.below;have zw17:=hb.size;have hb1:=keep hb hb1;have hb4:=keep hb hb4;have hb7:=keep hb hb7;obtain ⟨hB,zB⟩:=bon hb hB;refine kP r hr19.shape rfl rfl hb7 ts41 rfl rfl fun w20 u21 r=>?_;have zw20:=u21.size
  have hb1:=u21.keep hb1 kw
  have hb4:=u21.keep hb4 kw
  have hb7:=u21.at_;obtain ⟨hB,zB⟩:=u21.on hB kw
  refine wn (ac ?_);have hd:D.zb7 j a0 a1 a2=(D.zjg j a0 a1 a2.k):=(zaq h10).trans ((zao h16).trans (rfl));have hs:=hr19.shape.cells;refine za5 r rfl rfl hb7 (k:=8) hs.1 ta41 ?_;rw [←hs.2.2,hd];exact zpj.fin (Chg.zpv hB) hr19 u21 (fun _ h=>h.elim) (fun h=>h) kw kw kw
 refine ag (wsr (kG (zpJ a0) 8 r rfl hb1 ta47 rfl rfl fun r=>kM (I a1) r rfl rfl fun r=>kF 0 r rfl zcH rfl fun r=>kL (U a2.k) r rfl hb4 to34 rfl rfl fun r=>?_));refine kJ r (zlU (j:=j) (F:=No) (n:=n) (fun _ h=>h.elim) kw a0 a1 a2.k) rfl cl97 rfl fun w22 v23 hb hr24 r=>?_
 have hb:=hb.below;have zw22:=hb.size;have hb1:=keep hb hb1;have hb4:=keep hb hb4;have hb7:=keep hb hb7;obtain ⟨hB,zB⟩:=bon hb hB;refine kP r hr24.shape rfl rfl hb7 ts41 rfl rfl fun w25 u26 r=>?_;have zw25:=u26.size
 have hb1:=u26.keep hb1 kw
 have hb4:=u26.keep hb4 kw
 have hb7:=u26.at_;obtain ⟨hB,zB⟩:=u26.on hB kw
 refine wn (ac ?_);have hd:D.zb7 j a0 a1 a2=(D.zjl j a0 a1 a2.k):=(zaq h10).trans ((zaq h16).trans (rfl));have hs:=hr24.shape.cells;refine za5 r rfl rfl hb7 (k:=8) hs.1 ta41 ?_;rw [←hs.2.2,hd];exact zpj.fin (Chg.zpv hB) hr24 u26 (fun _ h=>h.elim) (fun h=>h) kw kw kw
abbrev pL0:Plan:=⟨2,1,4,1,2,1⟩
abbrev sL00:Seat:=⟨pL0,0,0⟩
theorem cl47:zpf ar 47:=kz
theorem cl49:zpf ar 49:=kz
theorem zqo:tyA ar 101 3:=kz
def D.zc4 (fu:Nat) :Option (Bool):=((D.zbw fu (⟨2,1,4,1,2,1⟩:Plan)).bind (fun (x7:Mem)=>((D.zcA fu x7 0).bind (fun (x15:Cap)=>((D.zdK fu (fu,(D.zfm (fu+1) (⟨(⟨2,1,4,1,2,1⟩:Plan),0,0⟩:Seat) 0 5 7)) x7 x15 99).bind (fun (x17:Res × Int × Bool × Mem)=>(Option.bind (bif x17.2.2.1 then (bif (x17.1.e==0) then (bif ((D.zbD (⟨2,1,4,1,2,1⟩:Plan) 0 5)==3) then ((D.zcc fu (⟨2,1,4,1,2,1⟩:Plan) x17.2.2.2 0 0).bind (fun (x30:List Entry)=>(some ((x30.length:Int)==1)))) else (some false)) else (some false)) else (some false)) (fun (x34:Bool)=>(some x34)))))))))
theorem zeJ {fu:Nat} (w0:World) {res:Bool} (hD:D.zc4 fu =some res) :
    Calls ar 43 #[] w0 (zpx (.bool res) w0):=by
 refine enter Tryz.func43 rfl 40 rfl rfl fun fr r=>?_;have hP:Post No [] w0 w0:=Post.nil w0
 unfold D.zc4 at hD
 refine wsr (kA (.bool false) r rfl rfl fun r=>wn (wsr (kU (aq (zpg pL0)) r kz rfl fun r=>?_)));refine za7 (.cells ((zpg (⟨0,0,0,0,0,0⟩:Plan))).toArray 23 (0,0)) r (fun R=>za6 tz23) rfl fun fr b1 w2 n3 r=>?_
 have hP:Post No [zpi b1 ((zpg (⟨0,0,0,0,0,0⟩:Plan))).toArray 23] w0 w2:=hP.new n3;refine zaD (.cells ((zpg pL0)).toArray 23 (0,0)) r (fun R=>zax r (o:=0) (v:=(aq (zpg pL0))) rfl rfl (hP.cell (i:=0) rfl) ts23 ak rfl rfl) rfl fun fr w5 u6 r=>?_;have hP:Post No [zpi b1 ((zpg pL0)).toArray 23] w0 w5:=hP.upd (i:=0) rfl u6
 refine wn (wsr (kG (zpg pL0) 6 r rfl (hP.cell (i:=0) rfl) ta23 rfl rfl fun r=>?_));obtain ⟨x7,hx7,hD⟩:=zaj hD
 refine kC r (zdB w5 pL0 hx7) rfl cl14 rfl ?_;rintro _ w8 ⟨mg9,rfl,hq⟩;refine ⟨_,rfl,fun fr r=>?_⟩
 have hP:Post No [_,memK mg9 x7] w0 w8:=hP.add hq;refine kA (zp mg9.mb) r rfl rfl fun r=>wn (aa (wsr (kM (zp mg9.mb) r rfl rfl fun r=>kB r rfl rfl rfl rfl rfl fun r=>wn ?_)));refine ae (t:=false) (r.ev rfl) (fun h=>absurd ((rfl:false=_).symm.trans h) ke) (fun _=>ag (wsr (kG (zpg pL0) 6 r rfl (hP.cell (i:=0) rfl) ta23 rfl rfl fun r=>kU (aq (zpJ sL00)) r kz rfl fun r=>?_)))
 refine kJ r (zjw (F:=No) (n:=fu) (j:=fu+1) (fun _ h=>h.elim) kw sL00 0 5 7) rfl cl90 rfl fun w11 v12 hb hr13 r=>?_;have hP:Post No [_,_,zpT ar zpn (fu,(D.zfm (fu+1) sL00 0 5 7)) v12 (rg w8.heap.size w11.heap.size)] w0 w11:=hP.addProgL hb.below hr13
 refine kM (zp mg9.mb) r rfl rfl fun r=>kM (zp mg9.mb) r rfl rfl fun r=>?_;obtain ⟨x15,hx15,hD⟩:=zaj hD
 refine kE r (zeE w11 x7 (hP.mem (i:=1) rfl) 0 hx15) rfl cl20 rfl fun w16 hb r=>?_;have hP:=hP.below hb
 obtain ⟨x17,hx17,hD⟩:=zaj hD;refine kC r (zgM w16 (fu,(D.zfm (fu+1) sL00 0 5 7)) x7 x15 99 (hP.sep.pk [2,1] rfl rfl) hx17) rfl cl29 rfl ?_;rintro _ w18 ⟨rfl,hq⟩;refine ⟨_,rfl,fun fr r=>?_⟩
 have hP:Post No [zpi b1 ((zpg pL0)).toArray 23,memK mg9 x17.2.2.2] w0 w18:=(Post.frame (A:=[zpi b1 ((zpg pL0)).toArray 23]) (B:=[zpT ar zpn (fu,(D.zfm (fu+1) sL00 0 5 7)) v12 (rg w8.heap.size w11.heap.size),memK mg9 x7]) (hP.pick [0,2,1] rfl rfl) hq (fun b hb=>hb.elim (fun h=>⟨_,List.mem_cons_self ..,h⟩) fun h=>⟨_,List.mem_cons_of_mem _ (List.mem_singleton.2 rfl),h⟩)).pick [0,1] rfl rfl
 refine kM (.tuple #[(aq (resC x17.1)),(I x17.2.1),(.bool x17.2.2.1)]) r rfl rfl fun r=>za0 (aq (resC x17.1)) r (fun R=>zb1 r (vs:=#[(aq (resC x17.1)),(I x17.2.1),(.bool x17.2.2.1)]) rfl rfl) rfl fun fr r=>za0 (I x17.2.1) r (fun R=>zb1 r (vs:=#[(aq (resC x17.1)),(I x17.2.1),(.bool x17.2.2.1)]) rfl rfl) rfl fun fr r=>za0 (.bool x17.2.2.1) r (fun R=>zb1 r (vs:=#[(aq (resC x17.1)),(I x17.2.1),(.bool x17.2.2.1)]) rfl rfl) rfl fun fr r=>?_;refine za7 (.cells ((resC (⟨0,0⟩:Res))).toArray 36 (0,0)) r (fun R=>za6 tz36) rfl fun fr b19 w20 n21 r=>?_
 have hP:Post No [_,_,zpi b19 ((resC (⟨0,0⟩:Res))).toArray 36] w0 w20:=hP.new n21;refine zaD (.cells ((resC x17.1)).toArray 36 (0,0)) r (fun R=>zax r (o:=0) (v:=(aq (resC x17.1))) rfl rfl (hP.cell (i:=2) rfl) ts36 ak rfl rfl) rfl fun fr w23 u24 r=>?_;have hP:Post No [_,_,zpi b19 ((resC x17.1)).toArray 36] w0 w23:=hP.upd (i:=2) rfl u24
 refine kA (I x17.2.1) r rfl rfl fun r=>kA (.bool x17.2.2.1) r rfl rfl fun r=>wn (aa ?_);refine zbs (N:=40) (Y:=Bool) (G:=Unit) (fun x γ=>[(1,(zp b1)),(2,(zp mg9.mb)),(10,(.bool false)),(3,(zp b19)),(5,(.bool x17.2.2.1)),(0,(.bool x))]) (fun x γ w=>Post No [zpi b1 ((zpg pL0)).toArray 23,memK mg9 x17.2.2.2,zpi b19 ((resC x17.1)).toArray 36] w0 w) hD ?_ ?_
 ·
  rintro y25 RPy25 nxy25 hD;refine af (kM (.bool x17.2.2.1) r rfl rfl fun r=>kM (.bool x17.2.2.1) r rfl rfl fun r=>?_);refine zaT x17.2.2.1 (fun h26=>?_) (fun h26=>?_)
  ·
   have hD:=(zao h26).symm.trans hD;refine s1 r h26 (kF 0 r rfl zpb rfl fun r=>s1 r h26 (kL (I x17.1.e) r rfl (hP.cell (i:=2) rfl) to33 rfl rfl fun r=>s1 r h26 (kB r rfl rfl rfl rfl rfl fun r=>za0 (.bool (x17.1.e==0)) r (fun R=>zay r (b:=true) (kb h26) rfl) rfl fun fr r=>kM (.bool (x17.1.e==0)) r rfl rfl fun r=>?_)));refine zaT (x17.1.e==0) (fun h27=>?_) (fun h27=>?_)
   ·
    have hD:=(zao h27).symm.trans hD;refine s1 r h27 (kG (zpg pL0) 6 r rfl (hP.cell (i:=0) rfl) ta23 rfl rfl fun r=>s1 r h27 ?_);refine kE r (zg8 w23 pL0 0 5) rfl cl44 rfl fun w28 hb r=>?_
    have hP:=hP.below hb;refine s1 r h27 (kB r rfl rfl rfl rfl rfl fun r=>za0 (.bool ((D.zbD pL0 0 5)==3)) r (fun R=>zay r (b:=true) (kb h27) rfl) rfl fun fr r=>kM (.bool ((D.zbD pL0 0 5)==3)) r rfl rfl fun r=>?_);refine zaT ((D.zbD pL0 0 5)==3) (fun h29=>?_) (fun h29=>?_)
    ·
     have hD:=(zao h29).symm.trans hD;refine s1 r h29 (kG (zpg pL0) 6 r rfl (hP.cell (i:=0) rfl) ta23 rfl rfl fun r=>s1 r h29 (kM (zp mg9.mb) r rfl rfl fun r=>s1 r h29 ?_));obtain ⟨x30,hx30,hD⟩:=zaj hD
     refine kC r (zft w28 pL0 x17.2.2.2 (hP.mem (i:=1) rfl) 0 0 hx30) rfl cl47 rfl ?_;rintro _ w31 ⟨v32,rfl,hq⟩;refine ⟨_,rfl,fun fr r=>?_⟩
     have hP:Post No [_,_,_,rowK 104 2 zpw v32 x30] w0 w31:=hP.add hq;refine s1 r h29 (za0 (I (x30.length:Int)) r (fun R=>zbN r (hP.row (i:=3) rfl).ro is82 rfl) rfl fun fr r=>s1 r h29 (kB r rfl rfl rfl rfl rfl fun r=>za0 (.bool ((x30.length:Int)==1)) r (fun R=>zay r (b:=true) (kb h29) rfl) rfl fun fr r=>kA (.bool ((x30.length:Int)==1)) r rfl rfl fun r=>wn ?_));exact nxy25 ((x30.length:Int)==1) () _ _ _ hD r (kO (zaa rfl (zaa rfl zaC))) (hP.pick [0,1,2] rfl rfl)
    have hD:=(zaq h29).symm.trans hD;refine s0 r h29 fun fr r=>s0 r h29 fun fr r=>s0 r h29 fun fr r=>s0 r h29 fun fr r=>s0 r h29 fun fr r=>za0 (.bool false) r (fun R=>zay r (b:=false) (kb h29) rfl) rfl fun fr r=>kA (.bool false) r rfl rfl fun r=>wn ?_;exact nxy25 false () _ _ _ hD r (kO (zaa rfl (zaa rfl zaC))) (hP.pick [0,1,2] rfl rfl)
   have hD:=(zaq h27).symm.trans hD;refine s0 r h27 fun fr r=>s0 r h27 fun fr r=>s0 r h27 fun fr r=>za0 (.bool false) r (fun R=>zay r (b:=false) (kb h27) rfl) rfl fun fr r=>kM (.bool false) r rfl rfl fun r=>s0 r (rfl:false=_) fun fr r=>s0 r (rfl:false=_) fun fr r=>s0 r (rfl:false=_) fun fr r=>s0 r (rfl:false=_) fun fr r=>s0 r (rfl:false=_) fun fr r=>za0 (.bool false) r (fun R=>zay r (b:=false) (kb (rfl:false=_)) rfl) rfl fun fr r=>kA (.bool false) r rfl rfl fun r=>wn ?_;exact nxy25 false () _ _ _ hD r (kO (zaa rfl (zaa rfl zaC))) (hP.pick [0,1,2] rfl rfl)
  have hD:=(zaq h26).symm.trans hD;refine s0 r h26 fun fr r=>s0 r h26 fun fr r=>s0 r h26 fun fr r=>za0 (.bool false) r (fun R=>zay r (b:=false) (kb h26) rfl) rfl fun fr r=>kM (.bool false) r rfl rfl fun r=>s0 r (rfl:false=_) fun fr r=>s0 r (rfl:false=_) fun fr r=>s0 r (rfl:false=_) fun fr r=>za0 (.bool false) r (fun R=>zay r (b:=false) (kb (rfl:false=_)) rfl) rfl fun fr r=>kM (.bool false) r rfl rfl fun r=>s0 r (rfl:false=_) fun fr r=>s0 r (rfl:false=_) fun fr r=>s0 r (rfl:false=_) fun fr r=>s0 r (rfl:false=_) fun fr r=>s0 r (rfl:false=_) fun fr r=>za0 (.bool false) r (fun R=>zay r (b:=false) (kb (rfl:false=_)) rfl) rfl fun fr r=>kA (.bool false) r rfl rfl fun r=>wn ?_;exact nxy25 false () _ _ _ hD r (kO (zaa rfl (zaa rfl zaC))) (hP.pick [0,1,2] rfl rfl)
 rintro x34 γ35 fr w36 g r hP hD;have hP:Post No [_,_,_] w0 w36:=hP;refine ac ?_;have hv:x34=res:=Option.some.inj hD
 try dsimp only [Exit.then,Exit.inBlock]
 refine zaH (fn:=Tryz.f43) r (t:=0) rfl (v:=(.bool x34)) rfl ?_;subst hv;exact ⟨rfl,hP.chg.below⟩
def D.zb0 (fu:Nat) (a0:Plan) (a1:Mem) (a2:Int) (a3:CallD):Option (Res × Mem):=((D.zcA fu a1 0).bind (fun (x17:Cap)=>((D.zdK fu (fu,(D.zb7 (fu+1) (⟨a0,0,0⟩:Seat) a2 a3)) a1 x17 100000).bind (fun (x19:Res × Int × Bool × Mem)=>(some (x19.1,x19.2.2.2))))))
theorem zcJ {fu:Nat} (w0:World) (a0:Plan) {a1g:MG} (a1:Mem) (a2:Int) (a3:CallD) (hS:Sep [memK a1g a1] w0) {res:Res × Mem} (hD:D.zb0 fu a0 a1 a2 a3=some res) :
    Calls ar 46 #[aq (zpg a0),zp a1g.mb,.int .i64 a2,aq (zpm a3)] w0 (fun e w'=>e=.returned (aq (resC res.1))∧Done (fun b=>b∈(memK a1g a1).own) No [memK a1g res.2] w0 w'):=by
 refine enter Tryz.func46 rfl 26 rfl rfl fun fr r=>?_;have hP:Post (fun b=>b∈(memK a1g a1).own) [memK a1g a1] w0 w0:=.start hS (by simp [memK])
 unfold D.zb0 at hD
 refine wsr ?_;refine kX 23 (aq (zpg a0)) r rfl rfl fun b1 w2 n3 r=>?_;have hP:Post (fun b=>b∈(memK a1g a1).own) [memK a1g a1,zpi b1 ((zpg a0)).toArray 23] w0 w2:=hP.new n3
 refine kX 101 (aq (zpm a3)) r rfl rfl fun b5 w6 n7 r=>?_;have hP:Post (fun b=>b∈(memK a1g a1).own) [memK a1g a1,zpi b1 ((zpg a0)).toArray 23,zpi b5 ((zpm a3)).toArray 101] w0 w6:=hP.new n7
 refine za7 (.cells ((resC (⟨0,0⟩:Res))).toArray 36 (0,0)) r (fun R=>za6 tz36) rfl fun fr b9 w10 n11 r=>?_;have hP:Post (fun b=>b∈(memK a1g a1).own) [memK a1g a1,zpi b1 ((zpg a0)).toArray 23,zpi b5 ((zpm a3)).toArray 101,zpi b9 ((resC (⟨0,0⟩:Res))).toArray 36] w0 w10:=hP.new n11
 refine wn (wsr (kG (zpg a0) 6 r rfl (hP.cell (i:=1) rfl) ta23 rfl rfl fun r=>kU (aq (zpJ (⟨a0,0,0⟩:Seat))) r kz rfl fun r=>kM (I a2) r rfl rfl fun r=>kG (zpm a3) 3 r rfl (hP.cell (i:=2) rfl) zqo rfl rfl fun r=>?_));refine kJ r (zhn (F:=No) (n:=fu) (j:=fu+1) (fun _ h=>h.elim) kw (⟨a0,0,0⟩:Seat) a2 a3) rfl cl49 rfl fun w13 v14 hb hr15 r=>?_
 have hP:Post (fun b=>b∈(memK a1g a1).own) [memK a1g a1,zpi b1 ((zpg a0)).toArray 23,zpi b5 ((zpm a3)).toArray 101,zpi b9 ((resC (⟨0,0⟩:Res))).toArray 36,zpT ar zpn (fu,(D.zb7 (fu+1) (⟨a0,0,0⟩:Seat) a2 a3)) v14 (rg w10.heap.size w13.heap.size)] w0 w13:=hP.addProgL hb.below hr15
 refine kM (zp a1g.mb) r rfl rfl fun r=>kM (zp a1g.mb) r rfl rfl fun r=>?_;obtain ⟨x17,hx17,hD⟩:=zaj hD
 refine kE r (zeE w13 a1 (hP.mem (i:=0) rfl) 0 hx17) rfl cl20 rfl fun w18 hb r=>?_;have hP:=hP.below hb
 obtain ⟨x19,hx19,hD⟩:=zaj hD;refine kC r (zgM w18 (fu,(D.zb7 (fu+1) (⟨a0,0,0⟩:Seat) a2 a3)) a1 x17 100000 (hP.sep.pk [4,0] rfl rfl) hx19) rfl cl29 rfl ?_;rintro _ w20 ⟨rfl,hq⟩;refine ⟨_,rfl,fun fr r=>?_⟩
 have hP:Post (fun b=>b∈(memK a1g a1).own) [memK a1g x19.2.2.2,zpi b1 ((zpg a0)).toArray 23,zpi b5 ((zpm a3)).toArray 101,zpi b9 ((resC (⟨0,0⟩:Res))).toArray 36] w0 w20:=(Post.frame (A:=[zpi b1 ((zpg a0)).toArray 23,zpi b5 ((zpm a3)).toArray 101,zpi b9 ((resC (⟨0,0⟩:Res))).toArray 36]) (B:=[zpT ar zpn (fu,(D.zb7 (fu+1) (⟨a0,0,0⟩:Seat) a2 a3)) v14 (rg w10.heap.size w13.heap.size),memK a1g a1]) (hP.pick [1,2,3,4,0] rfl rfl) hq (fun b hb=>hb.elim (fun h=>⟨_,List.mem_cons_self ..,h⟩) fun h=>⟨_,List.mem_cons_of_mem _ (List.mem_singleton.2 rfl),h⟩)).pick [3,0,1,2] rfl rfl
 refine kM (.tuple #[(aq (resC x19.1)),(I x19.2.1),(.bool x19.2.2.1)]) r rfl rfl fun r=>za0 (aq (resC x19.1)) r (fun R=>zb1 r (vs:=#[(aq (resC x19.1)),(I x19.2.1),(.bool x19.2.2.1)]) rfl rfl) rfl fun fr r=>za0 (I x19.2.1) r (fun R=>zb1 r (vs:=#[(aq (resC x19.1)),(I x19.2.1),(.bool x19.2.2.1)]) rfl rfl) rfl fun fr r=>za0 (.bool x19.2.2.1) r (fun R=>zb1 r (vs:=#[(aq (resC x19.1)),(I x19.2.1),(.bool x19.2.2.1)]) rfl rfl) rfl fun fr r=>?_;refine za7 (.cells ((resC (⟨0,0⟩:Res))).toArray 36 (0,0)) r (fun R=>za6 tz36) rfl fun fr b21 w22 n23 r=>?_
 have hP:Post (fun b=>b∈(memK a1g a1).own) [memK a1g x19.2.2.2,zpi b1 ((zpg a0)).toArray 23,zpi b5 ((zpm a3)).toArray 101,zpi b9 ((resC (⟨0,0⟩:Res))).toArray 36,zpi b21 ((resC (⟨0,0⟩:Res))).toArray 36] w0 w22:=hP.new n23
 refine zaD (.cells ((resC x19.1)).toArray 36 (0,0)) r (fun R=>zax r (o:=0) (v:=(aq (resC x19.1))) rfl rfl (hP.cell (i:=4) rfl) ts36 ak rfl rfl) rfl fun fr w25 u26 r=>?_;have hP:Post (fun b=>b∈(memK a1g a1).own) [memK a1g x19.2.2.2,zpi b1 ((zpg a0)).toArray 23,zpi b5 ((zpm a3)).toArray 101,zpi b9 ((resC (⟨0,0⟩:Res))).toArray 36,zpi b21 ((resC x19.1)).toArray 36] w0 w25:=hP.upd (i:=4) rfl u26
 refine kA (I x19.2.1) r rfl rfl fun r=>kA (.bool x19.2.2.1) r rfl rfl fun r=>wn (wsr (kG (resC x19.1) 2 r rfl (hP.cell (i:=4) rfl) ta36 rfl rfl fun r=>?_));refine zaD (.cells ((resC x19.1)).toArray 36 (0,0)) r (fun R=>zax r (o:=0) (v:=(aq (resC x19.1))) rfl rfl (hP.cell (i:=3) rfl) ts36 ak rfl rfl) rfl fun fr w27 u28 r=>?_
 have hP:Post (fun b=>b∈(memK a1g a1).own) [memK a1g x19.2.2.2,zpi b1 ((zpg a0)).toArray 23,zpi b5 ((zpm a3)).toArray 101,zpi b9 ((resC x19.1)).toArray 36,zpi b21 ((resC x19.1)).toArray 36] w0 w27:=hP.upd (i:=3) rfl u28
 refine wn (ac ?_);have hv:(x19.1,x19.2.2.2)=res:=Option.some.inj hD
 try dsimp only [Exit.then,Exit.inBlock]
 refine za5 r rfl rfl (hP.cell (i:=3) rfl) (k:=2) rfl ta36 ?_;subst hv;exact ⟨rfl,(hP.pick [0] rfl rfl).done (zbo rfl zc1)⟩
theorem znH {p:Plan} (hp:PF p) {d:Int} (hd:0≤d∧d<p.domains) {c:CallD} (hk:0≤c.k∧c.k≤18446744073709551615) (J:Nat):D.zb7 J (⟨p,0,0⟩:Seat) d c =
  (bif ((c.kind.tmod 3)==0) then D.zhj J ⟨p,0,0⟩ (mc p d (c.k % p.buckets)) c.k c.v else bif ((c.kind.tmod 3)==1) then D.ze7 J J ⟨p,0,0⟩ (mc p d (c.k % p.buckets)) c.k else D.zfZ J ⟨p,0,0⟩ (mc p d (c.k % p.buckets)) c.k):=by
 unfold D.zb7 D.zfm D.zjg D.zjl;rw [znT hp hd hk]
theorem znY:D.zc4 4000=some true:=by decide +kernel
theorem zmy (m:Int):∀ (l:List Int) (P:Pool),P.fr.length≤(l.foldl (Pool.back m) P).fr.length
 | [],_=>Nat.le_refl _
 | n::l,P=>by
  rw [List.foldl_cons]
  exact Nat.le_trans znu (zmy m l _)
theorem zp1 {p:Plan} {P:Pool} {n:Int}:P.fr.length≤(dropP p P n).fr.length:=by
 unfold dropP Pool.stash
 split
 ·exact Nat.le_refl _
 ·exact zmy _ _ ⟨P.fr,[],fun q=>if q=n then ⟨(P.st n).gen,2,(P.st n).kind⟩ else P.st q⟩
theorem zmP {P:Pool} {m k:Int} (h:0<P.fr.length):(P.grant m k).1.fr.length+1=P.fr.length∧∃ n,P.fr.head?=some n∧(P.grant m k).2.node=n:=by
 unfold Pool.grant Pool.out;cases hf:P.fr with
 | nil=>rw [hf] at h; cases h
 | cons n l=>exact ⟨by simp,n,rfl,rfl⟩
def ansE (c:CallD) (E:List Entry):Res:=if c.kind.tmod 3=0 then (if hasE c.k E=true then ⟨7,0⟩ else ⟨0,0⟩) else getE c.k E
def nextE (c:CallD) (E:List Entry):List Entry:=if c.kind.tmod 3=0 then (if hasE c.k E=true then E else insE c.k c.v E) else if c.kind.tmod 3=1 then delE c.k E else E
def MapS (p:Plan) (d:Int) (M:Mem) (E:List Entry) (i:Nat):Prop:=∃ (P:Pool) (g:Int) (N:List Int),MapAt p 0 M.ws P g d N∧Alone p M.ws∧g≤100 * (i:Int)∧ents p M.ws N=E∧p.nodes≤(P.fr.length:Int)+i
section
variable {p : Plan} (hp : PF p) (hfw : p.nodes ≤ 40 ∧ p.retire ≤ 40 ∧ p.domains ≤ 6 ∧ p.buckets ≤ 10) {d : Int} (hd : 0 ≤ d ∧ d < p.domains)
include hp hfw hd
theorem MapS.entries {M:Mem} {E:List Entry} {i:Nat} (h:MapS p d M E i):D.zcc 4000 p M 0 d=some E∧E.length≤40:=by
 obtain ⟨P,g,N,hA,hal,hg,rfl,hfr⟩:=h;have hll:=hA.ziU hp;exact ⟨zjD hp kw hA hd kw,by unfold ents; simp; omega⟩
end
def Moved (p:Plan) (t:Int) (ws:List Int) (P:Pool) (d:Int) (N ws':List Int) (P':Pool) (g':Int) (N':List Int):Prop:=
 ∃ b l1,(0≤b∧b<p.buckets)∧LAt p t ws' P' g' (mc p d b) l1∧KeptL p t P (mc p d b) (bk p ws b N) ws ws'∧(∀ q,q∈P'.fr∨q∈P'.rt→q∈P.fr∨q∈P.rt∨q∈bk p ws b N)∧∀ q,q∈N'→q∈N∨q∈P.fr∨q∈P.rt
theorem ztG {p:Plan} (hp:PF p) {d d2 b b2:Int} (hb:0≤b∧b<p.buckets) (hb2:0≤b2∧b2<p.buckets) (hne:d2≠d):mc p d2 b2≠mc p d b:=by
 have hc:=zg2 hp;have hbc:p.buckets≤D.za9 p:=by unfold D.za9 maxI; split <;> omega
 unfold mc;intro e
 rcases Int.lt_or_gt_of_ne hne with h | h
 ·have h3:(d2+1) * (1+D.za9 p)≤d * (1+D.za9 p):=Int.mul_le_mul_of_nonneg_right kw kw
  rw [Int.add_mul,Int.one_mul] at h3
  omega
 ·have h3:(d+1) * (1+D.za9 p)≤d2 * (1+D.za9 p):=Int.mul_le_mul_of_nonneg_right kw kw
  rw [Int.add_mul,Int.one_mul] at h3
  omega
section
variable {p : Plan} (hp : PF p) (hnn : p.nodes ≤ 1000) {t : Int} (ht : 0 ≤ t ∧ t < p.threads) {ws : List Int} {P : Pool} {g d : Int} {N : List Int} (h : MapAt p t ws P g d N) (hd : 0 ≤ d ∧ d < p.domains)
include hp hnn ht h hd
theorem MapAt.beside {ws':List Int} {P':Pool} {g':Int} {N' N2:List Int} {d2:Int} (hm:Moved p t ws P d N ws' P' g' N') (hd2:0≤d2∧d2<p.domains) (hne:d2≠d) (h2:MapAt p t ws P g d2 N2) (hdis:∀ q,q∈N2→q ∉ N) :
  MapAt p t ws' P' g' d2 N2∧ents p ws' N2=ents p ws N2∧∀ q,q∈N2→q ∉ N':=by
 obtain ⟨b,l1,hb,h1,hK,hsub,hmem⟩:=hm;obtain ⟨z1,z2,z3,z4⟩:=zpZ hp;obtain ⟨r1,r2,r3⟩:=zq2 hp ht;have hfp:∀ q f,fp p q f=D.za2 p+q * 5+2+f:=fun q f=>rfl
 have o1:=h.at_ hp hb;have c1:=zqk hp hd hb;have hk:∀ q f,q∈N2→0≤f→f<3→rd ws' (fp p q f)=rd ws (fp p q f):=fun q f hq f0 f1=>by
  have hqr:=h2.range hp hq;obtain ⟨u1,u2⟩:=h2.out q hq;refine hK.2 _ yak (fun n hn=>?_) yak yak
  have hnr:=o1.range hp hnn ht c1 hn;have hnq:n≠q:=fun e=>by
   subst e
   rcases hn with hn | hn | hn
   ·exact u1 hn
   ·exact u2 hn
   ·exact hdis n hq (zfg.1 hn).1
  unfold zpD; rw [hfp]; omega
 have hbk:∀ b',bk p ws' b' N2=bk p ws b' N2:=fun b'=>zgF fun q hq=>hk q 0 hq kw kw
 have hE:ents p ws' N2=ents p ws N2:=zf3 fun q f hq f0 f1=>hk q f hq f0 kw
 refine ⟨⟨h1.pool,h1.own,h2.nd,fun q hq=>?_,by rw [hE]; exact h2.inc,fun b' h0 h3=>?_⟩,hE,fun q hq hq'=>?_⟩
 ·obtain ⟨u1,u2⟩:=h2.out q hq
  have hq0:∀ x,(q∈P.fr∨q∈P.rt∨q∈bk p ws x N)→False:=fun x hx=>by
   rcases hx with hx | hx | hx
   ·exact u1 hx
   ·exact u2 hx
   ·exact hdis q hq (zfg.1 hx).1
  exact ⟨fun hf=>hq0 b (hsub q (.inl hf)),fun hf=>hq0 b (hsub q (.inr hf))⟩
 ·have c2:=zqk hp hd2 ⟨h0,h3⟩
  rw [hbk]
  exact (h2.link b' h0 h3).keepW (hK.2 _ kw (fun n hn=>by have:=o1.range hp hnn ht c1 hn; unfold zpD; omega) kw (ztG hp hb ⟨h0,h3⟩ hne)) fun q hq=>hk q 2 (zfg.1 hq).1 kw kw
 ·obtain ⟨u1,u2⟩:=h2.out q hq
  rcases hmem q hq' with h | h | h
  ·exact hdis q hq h
  ·exact u1 h
  ·exact u2 h
theorem MapAt.delM (J d':Nat) (hJ:1100<J) (hg:g<900000) (k:Int) (ha:Alone p ws) :
  ∃ (m:Nat) (ws':List Int) (P':Pool) (g':Int) (N':List Int),m≤9 * N.length+70 * P.rt.length+21∧g'≤g+P.rt.length∧Runs (D.ze7 (J+1) (d'+1) ⟨p,0,t⟩ (mc p d (k % p.buckets)) k) ws m (getE k (ents p ws N)) ws'∧MapAt p t ws' P' g' d N'∧Alone p ws'∧Moved p t ws P d N ws' P' g' N'∧ents p ws' N'=delE k (ents p ws N)∧
   ((hasE k (ents p ws N)=false∧ws'=ws∧P'=P∧g'=g∧N'=N)∨(hasE k (ents p ws N)=true∧∃ pre n suf,N=pre++n::suf∧N'=pre++suf∧P'=dropP p P n∧(loE k (ents p ws N)).length=pre.length)):=by
 have hb:=h.bucket hp k;have hA:=h.at_ hp hb;have c1:=zqk hp hd hb;obtain ⟨m,ws',P',g',l',hm,hg',hr,hA',hK,he,hcase⟩:=hA.del hp hnn ht c1 J d' hJ hg k (fun _ n hn=>ha.held (h.pool.ret.range n hn).1)
 have hal':=hA.alone hp hnn ht c1 hK ha;have hl:(bk p ws (k % p.buckets) N).length≤N.length:=List.length_filter_le ..;obtain ⟨q1,q2⟩:=h.part hp k;rw [q2] at hr
 rcases hcase with ⟨hh,rfl,rfl,rfl,rfl⟩ | ⟨hh,pre,n,suf,e',rfl,rfl,hpl⟩
 ·rw [q1] at hh
  exact ⟨m,ws',P',g',N,kw,hg',hr,h,hal',⟨_,_,hb,hA',hK,fun q hq=>hq.imp id .inl,fun q hq=>.inl hq⟩,by unfold delE; rw [if_neg (by rw [hh]; simp)],.inl ⟨hh,rfl,rfl,rfl,rfl⟩⟩
 ·have hhN:hasE k (ents p ws N)=true:=by rw [←q1]; exact hh
  obtain ⟨A,C,e,eA,eC,ebk⟩:=h.cut hp k;obtain ⟨n',C',rfl,hk'⟩:∃ n' C',C=n'::C'∧rd ws (fp p n' 0)=k:=by
   unfold hasE at hhN
   rw [eC] at hhN
   cases C with
   | nil=>cases hhN
   | cons n' C'=>exact ⟨n',C',rfl,by simpa [ents] using hhN⟩
  have hlen:pre.length=(bk p ws (k % p.buckets) A).length:=by
   rw [←hpl,(ebk _).1]; unfold ents; simp
  have hbc:bk p ws (k % p.buckets) (n'::C')=n'::bk p ws (k % p.buckets) C':=by rw [zkN,if_pos (by rw [hk'])]
  have hsplit:pre++n::suf=bk p ws (k % p.buckets) A++n'::bk p ws (k % p.buckets) C':=by rw [←e',e,zgU,hbc]
  obtain ⟨rfl,e2⟩:=List.append_inj hsplit hlen;obtain ⟨rfl,rfl⟩:=List.cons.inj e2;have hAC:∀ q,q∈A++C'→q∈N:=fun q hq=>by
   rw [e]
   rcases List.mem_append.1 hq with hq | hq
   ·exact List.mem_append_left _ hq
   ·exact List.mem_append_right _ (List.mem_cons_of_mem _ hq)
  have hnN:n∈bk p ws (k % p.buckets) N:=by rw [e']; exact List.mem_append_right _ (List.mem_cons_self ..)
  have hsub:∀ q,q∈(dropP p P n).fr∨q∈(dropP p P n).rt→q∈P.fr∨q∈P.rt∨q∈bk p ws (k % p.buckets) N:=fun q hq=>by
   rcases zo5 h.pool.nod hq with h1 | h1 | rfl
   ·exact .inl h1
   ·exact .inr (.inl h1)
   ·exact .inr (.inr hnN)
  have hdE:delE k (ents p ws (bk p ws (k % p.buckets) N))=ents p ws (bk p ws (k % p.buckets) (A++C')):=by
   unfold delE;rw [if_pos hh,(ebk _).1,(ebk _).2,hbc,zgU];unfold ents;rw [List.map_append]
   rfl
  rw [hdE,←zgU] at he
  have k0:=zjj (ws:=ws) he;have hk:=h.keep hp hnn ht hd hb hA' hK hsub k0 hAC;have hbe:∀ b',bk p ws' b' (A++C')=bk p ws b' (A++C'):=fun b'=>zgF fun q hq=>(hk q hq).1
  have hE:ents p ws' (A++C')=delE k (ents p ws N):=by
   rw [zi6 hk]
   unfold delE;rw [if_pos hhN,eA,eC];unfold ents;rw [List.map_append]
   rfl
  refine ⟨m,ws',_,g',A++C',kw,hg',hr,h.make hp hnn ht hd hb hA' hK hsub ?_ (by rw [hE]; exact h.inc.del) (by rw [hbe,zgU]) (fun b' h0 h1 hne=>?_),hal',⟨_,_,hb,hA',hK,hsub,fun q hq=>.inl (hAC q hq)⟩,hE,.inr ⟨hhN,A,n,C',e,rfl,rfl,by rw [eA]; unfold ents; simp⟩⟩
  ·have:=h.nd
   rw [e] at this
   exact this.sublist (List.Sublist.append_left (List.sublist_cons_self ..) _)
  ·rw [hbe,e,zgU,zgU,zkN,if_neg (by rw [hk']; exact fun x=>hne x.symm)]
theorem MapAt.addM (hdm:0<p.domains) (hn40:p.nodes≤40) (ha:Alone p ws) (J:Nat) (hJ:1100<J) (hg:g<900000) (k v:Int) :
    ∃ (m:Nat) (ws':List Int) (P':Pool) (g':Int) (N':List Int) (res:Res),m≤9 * N.length+70 * P.rt.length+30∧g'≤g+P.rt.length+2∧Runs (D.zhj (J+1) ⟨p,0,t⟩ (mc p d (k % p.buckets)) k v) ws m res ws'∧MapAt p t ws' P' g' d N'∧Alone p ws'∧Moved p t ws P d N ws' P' g' N'∧
      (((P.grant p.gen 2).2=⟨-1,0,4⟩∧res=⟨4,0⟩∧P'=(P.grant p.gen 2).1∧N'=N∧ents p ws' N'=ents p ws N)∨
       (∃ (Q:Pool) (n:Int) (fr:List Int),(Q=P∨Q=P.scan p.gen)∧Q.fr=n::fr∧P.grant p.gen 2=Q.out 2∧(P.grant p.gen 2).2.node=n∧
         ((hasE k (ents p ws N)=true∧res=⟨7,0⟩∧P'=(P.grant p.gen 2).1.back p.gen n∧N'=N∧ents p ws' N'=ents p ws N)∨
          (hasE k (ents p ws N)=false∧res=⟨0,0⟩∧P'=(P.grant p.gen 2).1∧ents p ws' N'=insE k v (ents p ws N)∧∃ pre suf,N=pre++suf∧N'=pre++n::suf∧(loE k (ents p ws N)).length=pre.length)))):=by
  have hb:=h.bucket hp k;have hA:=h.at_ hp hb;have c1:=zqk hp hd hb;obtain ⟨m,ws',P',g',l',res,hm,hg',hr,hA',hK,hal',hcase⟩:=hA.add hp hnn ht c1 hdm hn40 ha J hJ hg k v;have hl:(bk p ws (k % p.buckets) N).length≤N.length:=List.length_filter_le ..;obtain ⟨q1,q2⟩:=h.part hp k;have same:∀ {P':Pool},LAt p t ws' P' g' (mc p d (k % p.buckets)) (bk p ws (k % p.buckets) N)→(∀ q,q∈P'.fr∨q∈P'.rt→q∈P.fr∨q∈P.rt∨q∈bk p ws (k % p.buckets) N)→ents p ws' (bk p ws (k % p.buckets) N)=ents p ws (bk p ws (k % p.buckets) N)→
      MapAt p t ws' P' g' d N∧ents p ws' N=ents p ws N:=fun hA' hsub he=>by
    have hk:=h.keep hp hnn ht hd hb hA' hK hsub (zjj he) fun q hq=>hq
    have hE:=zi6 hk;exact ⟨h.make hp hnn ht hd hb hA' hK hsub h.nd (by rw [hE]; exact h.inc) (zgF fun q hq=>(hk q hq).1) (fun b' _ _ _=>zgF fun q hq=>(hk q hq).1),hE⟩
  rcases hcase with ⟨hgr,rfl,rfl,rfl,he⟩ | ⟨Q,n,fr,hQ,hQf,hgo,hgn,hx⟩
  · obtain ⟨hM,hE⟩:=same hA' (fun q hq=>(Pool.zgC h.pool.nod hq).imp id .inl) he
    exact ⟨m,ws',_,g',N,_,kw,hg',hr,hM,hal',⟨_,_,hb,hA',hK,fun q hq=>(Pool.zgC h.pool.nod hq).imp id .inl,fun q hq=>.inl hq⟩,.inl ⟨hgr,rfl,rfl,rfl,hE⟩⟩
  · have hnP:n∈P.fr∨n∈P.rt:=by
      have hnq:n∈Q.fr:=by rw [hQf]; exact List.mem_cons_self ..
      rcases hQ with e | e
      · rw [e] at hnq; exact .inl hnq
      · rw [e] at hnq; exact (zfX h.pool.nod hnq).symm
    rcases hx with ⟨hh,rfl,rfl,rfl,he⟩ | ⟨hh,rfl,rfl,he,pre,suf,e',rfl,hpl⟩
    · have hsub:∀ q,q∈((P.grant p.gen 2).1.back p.gen n).fr∨q∈((P.grant p.gen 2).1.back p.gen n).rt→q∈P.fr∨q∈P.rt∨q∈bk p ws (k % p.buckets) N:=fun q hq=>by
        rcases hq with hq | hq
        · rcases zmv hq with rfl | hq
          · exact hnP.imp id .inl
          · exact (Pool.zgC h.pool.nod (.inl hq)).imp id .inl
        · exact (Pool.zgC h.pool.nod (.inr hq)).imp id .inl
      obtain ⟨hM,hE⟩:=same hA' hsub he;exact ⟨m,ws',_,g',N,_,kw,hg',hr,hM,hal',⟨_,_,hb,hA',hK,hsub,fun q hq=>.inl hq⟩,.inr ⟨Q,n,fr,hQ,hQf,hgo,hgn,.inl ⟨by rw [←q1]; exact hh,rfl,rfl,rfl,hE⟩⟩⟩
    · have hhN:hasE k (ents p ws N)=false:=by rw [←q1]; exact hh
      obtain ⟨A,C,e,eA,eC,ebk⟩:=h.cut hp k;have hlen:pre.length=(bk p ws (k % p.buckets) A).length:=by
        rw [←hpl,(ebk _).1]; unfold ents; simp
      have hsplit:pre++suf=bk p ws (k % p.buckets) A++bk p ws (k % p.buckets) C:=by rw [←e',e,zgU]
      obtain ⟨rfl,rfl⟩:=List.append_inj hsplit hlen;have hi:ents p ws' (bk p ws (k % p.buckets) A++n::bk p ws (k % p.buckets) C)=ents p ws (bk p ws (k % p.buckets) A)++⟨k,v⟩::ents p ws (bk p ws (k % p.buckets) C):=by
        rw [he]; unfold insE; rw [(ebk _).1,(ebk _).2]
      have hi':ents p ws' (bk p ws (k % p.buckets) A)++⟨rd ws' (fp p n 0),rd ws' (fp p n 1)⟩::ents p ws' (bk p ws (k % p.buckets) C)=ents p ws (bk p ws (k % p.buckets) A)++⟨k,v⟩::ents p ws (bk p ws (k % p.buckets) C):=by
        rw [←hi]; unfold ents; rw [List.map_append]; rfl
      obtain ⟨i1,i2⟩:=List.append_inj hi' (by unfold ents; simp);obtain ⟨i3,i4⟩:=List.cons.inj i2;have hkn:rd ws' (fp p n 0)=k:=(Entry.mk.inj i3).1;have hvn:rd ws' (fp p n 1)=v:=(Entry.mk.inj i3).2;have hsub:∀ q,q∈(P.grant p.gen 2).1.fr∨q∈(P.grant p.gen 2).1.rt→q∈P.fr∨q∈P.rt∨q∈bk p ws (k % p.buckets) N:=fun q hq=>(Pool.zgC h.pool.nod hq).imp id .inl
      have k0:∀ q,q∈bk p ws (k % p.buckets) N→rd ws' (fp p q 0)=rd ws (fp p q 0)∧rd ws' (fp p q 1)=rd ws (fp p q 1):=fun q hq=>by
        rw [e'] at hq
        rcases List.mem_append.1 hq with hq | hq
        · exact zjj i1 q hq
        · exact zjj i4 q hq
      have hk:=h.keep hp hnn ht hd hb hA' hK hsub k0 fun q hq=>hq
      have hkA:=fun q (hq:q∈A)=>hk q yaK
      have hkC:=fun q (hq:q∈C)=>hk q (by rw [e]; exact List.mem_append_right _ hq)
      have hnN:n ∉ N:=fun hq=>hnP.elim (h.out n hq).1 (h.out n hq).2
      have hE:ents p ws' (A++n::C)=insE k v (ents p ws N):=by
        unfold insE;rw [eA,eC,←zi6 hkA,←zi6 hkC];unfold ents;rw [List.map_append,List.map_cons,hkn,hvn]
      refine ⟨m,ws',_,g',A++n::C,_,kw,hg',hr,h.make hp hnn ht hd hb hA' hK hsub ?_ (by rw [hE]; exact h.inc.ins hhN) ?_ (fun b' h0 h1 hne=>?_),hal',⟨_,_,hb,hA',hK,hsub,fun q hq=>?_⟩,.inr ⟨Q,n,fr,hQ,hQf,hgo,hgn,.inr ⟨hhN,rfl,rfl,hE,A,C,e,rfl,by rw [eA]; unfold ents; simp⟩⟩⟩
      · exact (List.perm_middle.nodup_iff).2 (List.nodup_cons.2 ⟨by rw [←e]; exact hnN,by rw [←e]; exact h.nd⟩)
      · rw [zgU,zkN,hkn,if_pos rfl,zgF fun q hq=>(hkA q hq).1,zgF fun q hq=>(hkC q hq).1]
      · rw [zgU,zkN,hkn,if_neg fun x=>hne x.symm,zgF fun q hq=>(hkA q hq).1,zgF fun q hq=>(hkC q hq).1,←zgU,←e]
      · rcases List.mem_append.1 hq with hq | hq
        · exact .inl yaK
        · rcases List.mem_cons.1 hq with rfl | hq
          · exact .inr hnP
          · exact .inl (by rw [e]; exact List.mem_append_right _ hq)
end
section
variable {p : Plan} (hp : PF p) (hfw : p.nodes ≤ 40 ∧ p.retire ≤ 40 ∧ p.domains ≤ 6 ∧ p.buckets ≤ 10) {d : Int} (hd : 0 ≤ d ∧ d < p.domains)
include hp hfw hd
theorem runM {M:Mem} {P:Pool} {g:Int} {N:List Int} {i:Nat} (hA:MapAt p 0 M.ws P g d N) (hal:Alone p M.ws) (hg:g≤100 * (i:Int)) (hfr:p.nodes≤(P.fr.length:Int)+i) (hi:(i:Int)<p.nodes) {c:CallD} (hk:0≤c.k∧c.k≤18446744073709551615) :
  ∃ (M':Mem) (P':Pool) (g':Int) (N':List Int),D.zb0 4000 p M d c=some (ansE c (ents p M.ws N),M')∧MapAt p 0 M'.ws P' g' d N'∧Alone p M'.ws∧g'≤100 * ((i+1:Nat):Int)∧p.nodes≤(P'.fr.length:Int)+((i+1:Nat):Int)∧ents p M'.ws N'=nextE c (ents p M.ws N)∧Moved p 0 M.ws P d N M'.ws P' g' N':=by
 have ht1:=hp.t1;have hn1:=hp.n1;have hr2:=hp.r2;have hb1:=hp.b1;have ht:(0:Int)≤0∧0<p.threads:=kw
 have hdm:0<p.domains:=kw
 have hll:=hA.ziU hp;have hcf:=hA.pool.free.count kw
 have hrm:=hA.pool.ret.room;have fin:∀ (m:Nat) (tr:T Res) (r:Res) (ws':List Int) (P':Pool) (g':Int) (N':List Int) (E':List Entry),m≤3200→g'≤g+100→Runs tr M.ws m r ws'→MapAt p 0 ws' P' g' d N'→Alone p ws'→ents p ws' N'=E'→P.fr.length≤P'.fr.length+1→Moved p 0 M.ws P d N ws' P' g' N'→
   ∃ (M':Mem) (P':Pool) (g':Int) (N':List Int),((D.zdK 4000 (4000,tr) M cap0 100000).bind fun (x19:Res × Int × Bool × Mem)=>some (x19.1,x19.2.2.2))=some (r,M')∧MapAt p 0 M'.ws P' g' d N'∧Alone p M'.ws∧g'≤100 * ((i+1:Nat):Int)∧p.nodes≤(P'.fr.length:Int)+((i+1:Nat):Int)∧ents p M'.ws N'=E'∧Moved p 0 M.ws P d N M'.ws P' g' N':=fun m tr r ws' P' g' N' E' hm hg' hr hA' hal' he hf hmv=>by
  obtain ⟨cc,hcc⟩:=runR (fu:=4000) (most:=100000) (M:=M) hr kw kw kw;rw [hcc];exact ⟨⟨ws',cc⟩,P',g',N',rfl,hA',hal',kw,kw,he,hmv⟩
 unfold D.zb0;rw [zok,znH hp hd hk];simp only [Option.bind_some];unfold ansE nextE
 by_cases h0:c.kind.tmod 3=0
 ·rw [show (c.kind.tmod 3==0)=true from by simp [h0],if_pos h0,if_pos h0]
  simp only [cond_true]
  obtain ⟨m,ws',P',g',N',res,hm,hg',hr,hA',hal',hmv,hcase⟩:=hA.addM hp kw ht hd hdm kw hal 4000 kw kw c.k c.v;obtain ⟨hgl,n0,hh0,hgn0⟩:=zmP (P:=P) (m:=p.gen) (k:=2) kw
  rcases hcase with ⟨hgr,rfl,rfl,rfl,he⟩ | ⟨Q,n,fr,hQ,hQf,hgo,hgn,hx⟩
  ·have:0≤n0:=(hA.pool.free.range n0 (List.mem_of_mem_head? hh0)).1
   rw [hgr] at hgn0
   have:(-1:Int)=n0:=hgn0;omega
  ·rcases hx with ⟨hh,rfl,rfl,rfl,he⟩ | ⟨hh,rfl,rfl,he,_⟩
   ·rw [if_pos hh,if_pos hh]
    have:=znu (P:=(P.grant p.gen 2).1) (m:=p.gen) (n:=n);exact fin m _ _ ws' _ g' N' _ kw kw hr hA' hal' he kw hmv
   ·rw [if_neg (by rw [hh]; simp),if_neg (by rw [hh]; simp)]
    exact fin m _ _ ws' _ g' N' _ kw kw hr hA' hal' he kw hmv
 ·rw [show (c.kind.tmod 3==0)=false from by simp [h0],if_neg h0,if_neg h0]
  simp only [cond_false]
  by_cases h1:c.kind.tmod 3=1
  ·rw [show (c.kind.tmod 3==1)=true from by simp [h1],if_pos h1]
   simp only [cond_true]
   obtain ⟨m,ws',P',g',N',hm,hg',hr,hA',hal',hmv,he,hcase⟩:=hA.delM hp kw ht hd 4000 4000 kw kw c.k hal;refine fin m _ _ ws' P' g' N' _ kw kw hr hA' hal' he ?_ hmv
   rcases hcase with ⟨_,_,rfl,_,_⟩ | ⟨_,_,n,_,_,_,rfl,_⟩
   ·omega
   ·have:=zp1 (p:=p) (P:=P) (n:=n); omega
  ·rw [show (c.kind.tmod 3==1)=false from by simp [h1],if_neg h1]
   simp only [cond_false]
   obtain ⟨m,hm,hr⟩:=hA.get hp kw ht hd 4000 kw c.k;exact fin m _ _ M.ws P g N _ kw kw hr hA hal rfl kw ⟨0,_,kw,hA.at_ hp kw,KeptL.refl ..,fun q hq=>hq.imp id .inl,fun q hq=>.inl hq⟩
end
def MapT (p:Plan) (M:Mem) (E:List Entry) (i:Nat):Prop:=∃ (P:Pool) (g:Int) (N0 N1:List Int),MapAt p 0 M.ws P g 0 N0∧MapAt p 0 M.ws P g 1 N1∧(∀ q,q∈N0→q ∉ N1)∧Alone p M.ws∧g≤100 * (i:Int)∧ents p M.ws N0=E∧p.nodes≤(P.fr.length:Int)+i
section
variable {p : Plan} (hp : PF p) (hfw : p.nodes ≤ 40 ∧ p.retire ≤ 40 ∧ p.domains ≤ 6 ∧ p.buckets ≤ 10) (hd : 1 < p.domains)
include hp hfw hd
theorem MapT.start:∃ M,D.zbw 4000 p=some M∧MapT p M [] 0∧MapS p 0 M [] 0:=by
 have ht1:=hp.t1;have hn1:=hp.n1;obtain ⟨M,hM,hL⟩:=zor hp hfw (fu:=4000) kw
 obtain ⟨hA,hal⟩:=MapAt.start hp hL (t:=0) kw (d:=0) kw;obtain ⟨hA1,_⟩:=MapAt.start hp hL (t:=0) kw (d:=1) kw;have hl:p.nodes≤((allN p).length:Int)+((0:Nat):Int):=by unfold allN; simp; omega
 exact ⟨M,hM,⟨_,0,[],[],hA,hA1,(fun q hq=>(by cases hq)),hal,kw,rfl,hl⟩,⟨_,0,[],hA,hal,kw,rfl,hl⟩⟩
theorem MapT.rise {M:Mem} {E:List Entry} {i:Nat} (h:MapT p M E i):Rise E:=by
 obtain ⟨P,g,N0,N1,h0,_,_,_,_,rfl,_⟩:=h;exact h0.inc
theorem MapT.entries {M:Mem} {E:List Entry} {i:Nat} (h:MapT p M E i):D.zcc 4000 p M 0 0=some E∧E.length≤40:=by
 obtain ⟨P,g,N0,N1,h0,_,_,_,_,rfl,_⟩:=h;have hll:=h0.ziU hp;exact ⟨zjD hp kw h0 kw kw,by unfold ents; simp; omega⟩
theorem MapS.runN {M:Mem} {E:List Entry} {i:Nat} (h:MapS p 0 M E i) (hi:(i:Int)<p.nodes) {c:CallD} (hk:0≤c.k∧c.k≤18446744073709551615):∃ M',D.zb0 4000 p M 0 c=some (ansE c E,M')∧MapS p 0 M' (nextE c E) (i+1):=by
 obtain ⟨P,g,N,hA,hal,hg,rfl,hfr⟩:=h;obtain ⟨M',P',g',N',hr,hA',hal',hg',hfr',he,_⟩:=runM hp hfw (d:=0) kw hA hal hg hfr hi hk;exact ⟨M',hr,P',g',N',hA',hal',hg',he,hfr'⟩
theorem MapT.run0 {M:Mem} {E:List Entry} {i:Nat} (h:MapT p M E i) (hi:(i:Int)<p.nodes) {c:CallD} (hk:0≤c.k∧c.k≤18446744073709551615):∃ M',D.zb0 4000 p M 0 c=some (ansE c E,M')∧MapT p M' (nextE c E) (i+1):=by
 have ht1:=hp.t1;obtain ⟨P,g,N0,N1,h0,h1,hdis,hal,hg,rfl,hfr⟩:=h;obtain ⟨M',P',g',N',hr,hA',hal',hg',hfr',he,hmv⟩:=runM hp hfw (d:=0) kw h0 hal hg hfr hi hk
 obtain ⟨h1',_,hd'⟩:=h0.beside hp kw kw kw hmv (d2:=1) kw kw h1 (fun q hq hq'=>hdis q hq' hq)
 exact ⟨M',hr,P',g',N',N1,hA',h1',(fun q hq hq'=>hd' q hq' hq),hal',hg',he,hfr'⟩
theorem MapT.run1 {M:Mem} {E:List Entry} {i:Nat} (h:MapT p M E i) (hi:(i:Int)<p.nodes) {c:CallD} (hk:0≤c.k∧c.k≤18446744073709551615):∃ r M',D.zb0 4000 p M 1 c=some (r,M')∧MapT p M' E (i+1):=by
 have ht1:=hp.t1;obtain ⟨P,g,N0,N1,h0,h1,hdis,hal,hg,rfl,hfr⟩:=h;obtain ⟨M',P',g',N',hr,hA',hal',hg',hfr',he,hmv⟩:=runM hp hfw (d:=1) kw h1 hal hg hfr hi hk
 obtain ⟨h0',hE,hd'⟩:=h1.beside hp kw kw kw hmv (d2:=0) kw kw h0 hdis;exact ⟨_,M',hr,P',g',N0,N',h0',hA',hd',hal',hg',hE,hfr'⟩
end
end Go.Proofs.YtbbipmelhmgmfaaGreat

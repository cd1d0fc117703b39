/- Some of our texts, one behind the other. -/
import Derived.Test.YtbbipmelhmgmfaaGreatDbM22
import Derived.Test.YtbbipmelhmgmfaaGreatDbM23
import Derived.Test.YtbbipmelhmgmfaaGreatDbM16
import Derived.Test.YtbbipmelhmgmfaaGreatDbMem
import Derived.Test.YtbbipmelhmgmfaaGreatDbM14
import Derived.Test.YtbbipmelhmgmfaaGreatDbRetires
import Derived.Test.YtbbipmelhmgmfaaGreatDbOps
import Derived.WalkKit
import Derived.ProofKit
import Derived.OpenShut
import Derived.ShutString
import Derived.ChangeOld
import Derived.Below
import Derived.Carry
import Derived.SizedLaws
import Derived.Deep.Slices
import Derived.Deep.Fields
import Derived.ChangeSame
import Derived.Test.YtbbipmelhmgmfaaGreatRows
set_option linter.all false
set_option maxRecDepth 100000
set_option maxHeartbeats 20000000
/- Ours. -/
namespace Go.Proofs.YtbbipmelhmgmfaaGreat
open Go.RowKit
theorem znJ {p:Plan} (hp:PF p) {d k:Int} (hd:0≤d∧d<p.domains) (hk:0≤k∧k≤18446744073709551615):D.zbC p d k=mc p d (k % p.buckets):=by
 have hb1:=hp.b1;have hb2:=hp.b2;have h0:0≤k % p.buckets:=Int.emod_nonneg _ kw
 have h1:k % p.buckets<p.buckets:=Int.emod_lt_of_pos _ kw
 have hbc:p.buckets≤D.za9 p:=by unfold D.za9 maxI; split <;> omega
 unfold D.zbC;rw [zf2.2 hp];simp only [Bool.not_true,cond_false];rw [zbv (x:=p.buckets) kw kw,Int.tmod_eq_emod_of_nonneg hk.1,zaQ (x:=k % p.buckets) kw kw,znq hp,if_pos ⟨hd,h0,kw⟩]
 rfl
def cat (p:Plan) (ws N:List Int):Nat→List Int
 | 0=>[]
 | b+1=>cat p ws N b++bk p ws (b:Int) N
theorem zkC {p:Plan} (hp:PF p) {ws N:List Int}:∀ b:Nat,(cat p ws N b).Perm (N.filter fun q=>decide (rd ws (fp p q 0) % p.buckets<(b:Int)))
 | 0=>by
  have:(N.filter fun q=>decide (rd ws (fp p q 0) % p.buckets<((0:Nat):Int)))=[]:=List.filter_eq_nil_iff.2 fun q _=>by
   have hb1:=hp.b1;have:0≤rd ws (fp p q 0) % p.buckets:=Int.emod_nonneg _ kw
   simp only [decide_eq_true_eq]; omega
  rw [this]
  exact .refl _
 | b+1=>by
  have h1:=zkC hp (ws:=ws) (N:=N) b;have h2:=List.filter_append_perm (fun q=>decide (rd ws (fp p q 0) % p.buckets<(b:Int))) (N.filter fun q=>decide (rd ws (fp p q 0) % p.buckets<((b+1:Nat):Int)))
  rw [List.filter_filter,List.filter_filter] at h2
  have e1:(N.filter fun q=>decide (rd ws (fp p q 0) % p.buckets<(b:Int))&&decide (rd ws (fp p q 0) % p.buckets<((b+1:Nat):Int)))=N.filter fun q=>decide (rd ws (fp p q 0) % p.buckets<(b:Int)):=List.filter_congr fun q _=>by
   rw [Bool.eq_iff_iff]; simp only [Bool.and_eq_true,decide_eq_true_eq]; omega
  have e2:(N.filter fun q=>!decide (rd ws (fp p q 0) % p.buckets<(b:Int))&&decide (rd ws (fp p q 0) % p.buckets<((b+1:Nat):Int)))=bk p ws (b:Int) N:=List.filter_congr fun q _=>by
   unfold inB;rw [Bool.eq_iff_iff]; simp only [Bool.and_eq_true,decide_eq_true_eq,Bool.not_eq_true',decide_eq_false_iff_not,beq_iff_eq]; omega
  rw [e1,e2] at h2
  exact (List.Perm.append_right _ h1).trans h2
theorem zlM {p:Plan} (hp:PF p) (hnn:p.nodes≤1000) {M:Mem} {t g d:Int} {P:Pool} {N:List Int} (h:MapAt p t M.ws P g d N) (hd:0≤d∧d<p.domains) {fu:Nat} (hfu:1001<fu):D.zcq fu p M 0 d=some (ents p M.ws N):=by
 have hb1:=hp.b1;have hb2:=hp.b2;have hn1:=hp.n1;obtain ⟨z1,z2,z3,z4⟩:=zpR hp;have hlen:=h.zjv hp;have ht1:=hp.t1;have hcl:∀ b,(cat p M.ws N b).length≤N.length:=fun b=>by
  rw [(zkC hp b).length_eq]; exact List.length_filter_le ..
 have hall:(cat p M.ws N p.buckets.toNat).Perm N:=by
  have h1:=zkC hp (ws:=M.ws) (N:=N) p.buckets.toNat;have e:(N.filter fun q=>decide (rd M.ws (fp p q 0) % p.buckets<((p.buckets.toNat:Nat):Int)))=N:=List.filter_eq_self.2 fun q _=>by
   have:rd M.ws (fp p q 0) % p.buckets<p.buckets:=Int.emod_lt_of_pos _ kw
   simp only [decide_eq_true_eq]; omega
  rw [e] at h1
  exact h1
 unfold D.zcq;refine zjj (fun o=>o=some (ents p M.ws N)) (fun (i:Nat) (x:List Entry × Int)=>x=(ents p M.ws (cat p M.ws N i),(i:Int))) p.buckets.toNat fu rfl kw ?_ ?_
 ·rintro i _ hi rfl
  have hb:0≤(i:Int)∧(i:Int)<p.buckets:=kw
  have c1:=zqe hp hd hb;have hbc:p.buckets≤D.za9 p:=by unfold D.za9 maxI; split <;> omega
  have hce:D.zbh p d (i:Int)=mc p d (i:Int):=by rw [znq hp,if_pos ⟨hd,hb.1,kw⟩]; rfl
  have hli:(bk p M.ws (i:Int) N).length≤N.length:=List.length_filter_le ..;simp only;rw [decide_eq_true hb.2,hce,zmO hp hnn h.pool.free.len ⟨kw,kw⟩ (h.link _ hb.1 hb.2) kw hfu]
  simp only [cond_true,Option.bind_some]
  have ha:appD (ents p M.ws (cat p M.ws N i)) (ents p M.ws (bk p M.ws (i:Int) N))=some (ents p M.ws (cat p M.ws N (i+1))):=by
   have:=hcl i;unfold appD;rw [if_pos (by simp only [zlB,ents,List.length_map]; omega)]
   rw [show cat p M.ws N (i+1)=cat p M.ws N i++bk p M.ws (i:Int) N from rfl]
   unfold ents;rw [List.map_append]
  rw [ha]
  simp only [Option.bind_some]
  rw [zaQ (show -1000000≤(i:Int)+1 by omega) kw]
  exact ⟨_,rfl,by simp⟩
 ·rintro _ rfl
  simp only
  rw [show decide (((p.buckets.toNat:Nat):Int)<p.buckets)=false from by simp; omega]
  refine ⟨_,rfl,?_⟩;simp only;have hpm:(ents p M.ws N).Perm (ents p M.ws (cat p M.ws N p.buckets.toNat)):=(List.Perm.map _ hall).symm;have hnd:((ents p M.ws (cat p M.ws N p.buckets.toNat)).map Entry.key).Nodup:=by
   refine ((List.Perm.map Entry.key hpm).nodup_iff).1 ?_;exact List.pairwise_map.2 (h.inc.imp fun h=>kw)
  have hcl':=hcl p.buckets.toNat;have hs:sortD (ents p M.ws (cat p M.ws N p.buckets.toNat))=some (sortK (ents p M.ws (cat p M.ws N p.buckets.toNat))):=by
   unfold sortD;rw [if_pos ⟨by unfold ents; rw [List.length_map]; omega,hnd⟩]
  obtain ⟨e,_⟩:=zji hs hpm (h.inc.imp fun h=>kw)
  rw [hs,e]
  rfl
theorem MapAt.start {p:Plan} (hp:PF p) {ws:List Int} (h:LaidAt p ws) {t:Int} (ht:0≤t∧t<p.threads) {d:Int} (hd:0≤d∧d<p.domains):MapAt p t ws ⟨allN p,[],fun _=>⟨0,0,0⟩⟩ 0 d []∧Alone p ws:=by
 obtain ⟨z1,z2,z3,z4⟩:=zpR hp;have hb1:=hp.b1;have hw:∀ b,0≤b→b<p.buckets→rd ws (mc p d b)=0:=fun b b0 b1=>by
  have c1:=zqe hp hd ⟨b0,b1⟩;exact h.zero _ kw (fun m m0 m1=>kw)
 obtain ⟨hA,hal⟩:=LAt.start hp h ht (hw 0 kw kw);exact ⟨⟨hA.pool,hA.own,List.nodup_nil,fun q hq=>(by cases hq),List.Pairwise.nil,fun b b0 b1=>hw b b0 b1⟩,hal⟩
theorem cl90:zp7 ar 90:=kz
theorem cl96:zp7 ar 96:=kz
theorem cl97:zp7 ar 97:=kz
theorem zon:zph ar 101 0 0:=kz
theorem zlF:zph ar 101 1 1:=kz
theorem zoy:zph ar 101 2 2:=kz
def D.zb7 (j:Nat) (a0:Seat) (a1:Int) (a2:CallD):T Res:=(bif ((a2.kind.tmod 3)==0) then (D.zff j a0 a1 a2.k a2.v) else (bif ((a2.kind.tmod 3)==1) then (D.zjr j a0 a1 a2.k) else (D.zjh j a0 a1 a2.k)))
theorem zhp {n:Nat} {F:Nat→Prop} {j:Nat} {w0:World} (hF:∀ b,F b→b<w0.heap.size) (hj:n<j)
    (a0:Seat) (a1:Int) (a2:CallD) :
    Calls ar 49 #[aq (zpz a0),.int .i64 a1,aq (zpF a2)] w0 (zpa ar zpe n (D.zb7 j a0 a1 a2) F w0):=by
 refine kN Tryz.func49 rfl 31 rfl rfl fun fr r hB=>?_;refine wsr ?_
 refine kX 47 (aq (zpz a0)) r rfl rfl fun b1 w2 n3 r=>?_;obtain ⟨eb1,zw2,hb1,hB,zB⟩:=n3.all hB
 refine kX 101 (aq (zpF a2)) r rfl rfl fun b4 w5 n6 r=>?_;have hb1:=keep n6.below hb1
 obtain ⟨eb4,zw5,hb4,hB,zB⟩:=n6.all hB;refine za7 (.cells (kq zpe) 41 (0,0)) r (fun R=>za6 tz41) rfl fun fr b7 w8 n9 r=>?_;have hb1:=keep n9.below hb1
 have hb4:=keep n9.below hb4;obtain ⟨eb7,zw8,hb7,hB,zB⟩:=n9.all hB;refine wn (aa (wsr (kF 0 r rfl zon rfl fun r=>kL (.int .u8 a2.kind) r rfl hb4 to5 rfl rfl fun r=>kB r rfl rfl rfl rfl rfl fun r=>wn (wp_block (wsr (kB r rfl rfl rfl rfl rfl fun r=>kA (.bool ((a2.kind.tmod 3)==0)) r rfl rfl fun r=>wn ?_))))));refine ae (t:=((a2.kind.tmod 3)==0)) (r.ev rfl) (fun h10=>?_) (fun h10=>?_)
 ·
  refine wsr (kG (zpz a0) 8 r rfl hb1 ta47 rfl rfl fun r=>kM (I a1) r rfl rfl fun r=>kF 0 r rfl zlF rfl fun r=>kL (U a2.k) r rfl hb4 to34 rfl rfl fun r=>kF 0 r rfl zoy rfl fun r=>kL (U a2.v) r rfl hb4 to34 rfl rfl fun r=>?_);refine kJ r (zjS (j:=j) (F:=No) (n:=n) (fun _ h=>h.elim) kw a0 a1 a2.k a2.v) rfl cl90 rfl fun w11 v12 hb hr13 r=>?_
  have hb:=hb.below;have zw11:=hb.size;have hb1:=keep hb hb1;have hb4:=keep hb hb4;have hb7:=keep hb hb7;obtain ⟨hB,zB⟩:=bon hb hB;refine kP r hr13.shape rfl rfl hb7 ts41 rfl rfl fun w14 u15 r=>?_;have zw14:=u15.size
  have hb1:=u15.keep hb1 kw
  have hb4:=u15.keep hb4 kw
  have hb7:=u15.at_;obtain ⟨hB,zB⟩:=u15.on hB kw
  refine wn (ac ?_);have hd:D.zb7 j a0 a1 a2=(D.zff j a0 a1 a2.k a2.v):=(zaq h10).trans (rfl);have hs:=hr13.shape.cells;refine za5 r rfl rfl hb7 (k:=8) hs.1 ta41 ?_;rw [←hs.2.2,hd];exact zpa.fin (Chg.zpl hB) hr13 u15 (fun _ h=>h.elim) (fun h=>h) kw kw kw
 refine wsr (kB r rfl rfl rfl rfl rfl fun r=>kA (.bool ((a2.kind.tmod 3)==1)) r rfl rfl fun r=>wn ?_);refine ae (t:=((a2.kind.tmod 3)==1)) (r.ev rfl) (fun h16=>?_) (fun h16=>?_)
 ·
  refine wsr (kG (zpz a0) 8 r rfl hb1 ta47 rfl rfl fun r=>kM (I a1) r rfl rfl fun r=>kF 0 r rfl zlF rfl fun r=>kL (U a2.k) r rfl hb4 to34 rfl rfl fun r=>?_);refine kJ r (zlI (j:=j) (F:=No) (n:=n) (fun _ h=>h.elim) kw a0 a1 a2.k) rfl cl96 rfl fun w17 v18 hb hr19 r=>?_
  have hb:=hb.below;have zw17:=hb.size;have hb1:=keep hb hb1;have hb4:=keep hb hb4;have hb7:=keep hb hb7;obtain ⟨hB,zB⟩:=bon hb hB;refine kP r hr19.shape rfl rfl hb7 ts41 rfl rfl fun w20 u21 r=>?_;have zw20:=u21.size
  have hb1:=u21.keep hb1 kw
  have hb4:=u21.keep hb4 kw
  have hb7:=u21.at_;obtain ⟨hB,zB⟩:=u21.on hB kw
  refine wn (ac ?_);have hd:D.zb7 j a0 a1 a2=(D.zjr j a0 a1 a2.k):=(zar h10).trans ((zaq h16).trans (rfl));have hs:=hr19.shape.cells;refine za5 r rfl rfl hb7 (k:=8) hs.1 ta41 ?_;rw [←hs.2.2,hd];exact zpa.fin (Chg.zpl hB) hr19 u21 (fun _ h=>h.elim) (fun h=>h) kw kw kw
 refine ag (wsr (kG (zpz a0) 8 r rfl hb1 ta47 rfl rfl fun r=>kM (I a1) r rfl rfl fun r=>kF 0 r rfl zlF rfl fun r=>kL (U a2.k) r rfl hb4 to34 rfl rfl fun r=>?_));refine kJ r (zm5 (j:=j) (F:=No) (n:=n) (fun _ h=>h.elim) kw a0 a1 a2.k) rfl cl97 rfl fun w22 v23 hb hr24 r=>?_
 have hb:=hb.below;have zw22:=hb.size;have hb1:=keep hb hb1;have hb4:=keep hb hb4;have hb7:=keep hb hb7;obtain ⟨hB,zB⟩:=bon hb hB;refine kP r hr24.shape rfl rfl hb7 ts41 rfl rfl fun w25 u26 r=>?_;have zw25:=u26.size
 have hb1:=u26.keep hb1 kw
 have hb4:=u26.keep hb4 kw
 have hb7:=u26.at_;obtain ⟨hB,zB⟩:=u26.on hB kw
 refine wn (ac ?_);have hd:D.zb7 j a0 a1 a2=(D.zjh j a0 a1 a2.k):=(zar h10).trans ((zar h16).trans (rfl));have hs:=hr24.shape.cells;refine za5 r rfl rfl hb7 (k:=8) hs.1 ta41 ?_;rw [←hs.2.2,hd];exact zpa.fin (Chg.zpl hB) hr24 u26 (fun _ h=>h.elim) (fun h=>h) kw kw kw
abbrev pL0:Plan:=⟨2,1,4,1,2,1⟩
abbrev sL00:Seat:=⟨pL0,0,0⟩
theorem cl47:zp7 ar 47:=kz
theorem cl49:zp7 ar 49:=kz
theorem zr5:tyA ar 101 3:=kz
def D.zc5 (fu:Nat) :Option (Bool):=((D.zbt fu (⟨2,1,4,1,2,1⟩:Plan)).bind (fun (x7:Mem)=>((D.zcD fu x7 0).bind (fun (x15:Cap)=>((D.zdC fu (fu,(D.zff (fu+1) (⟨(⟨2,1,4,1,2,1⟩:Plan),0,0⟩:Seat) 0 5 7)) x7 x15 99).bind (fun (x17:Res × Int × Bool × Mem)=>(Option.bind (bif x17.2.2.1 then (bif (x17.1.e==0) then (bif ((D.zbC (⟨2,1,4,1,2,1⟩:Plan) 0 5)==3) then ((D.zcq fu (⟨2,1,4,1,2,1⟩:Plan) x17.2.2.2 0 0).bind (fun (x30:List Entry)=>(some ((x30.length:Int)==1)))) else (some false)) else (some false)) else (some false)) (fun (x34:Bool)=>(some x34)))))))))
theorem zeJ {fu:Nat} (w0:World) {res:Bool} (hD:D.zc5 fu =some res) :
    Calls ar 43 #[] w0 (zpo (.bool res) w0):=by
 refine enter Tryz.func43 rfl 40 rfl rfl fun fr r=>?_;have hP:Post No [] w0 w0:=Post.nil w0
 unfold D.zc5 at hD
 refine wsr (kA (.bool false) r rfl rfl fun r=>wn (wsr (kU (aq (zp8 pL0)) r kz rfl fun r=>?_)));refine za7 (.cells ((zp8 (⟨0,0,0,0,0,0⟩:Plan))).toArray 23 (0,0)) r (fun R=>za6 tz23) rfl fun fr b1 w2 n3 r=>?_
 have hP:Post No [zpb b1 ((zp8 (⟨0,0,0,0,0,0⟩:Plan))).toArray 23] w0 w2:=hP.new n3;refine zaJ (.cells ((zp8 pL0)).toArray 23 (0,0)) r (fun R=>zaB r (o:=0) (v:=(aq (zp8 pL0))) rfl rfl (hP.cell (i:=0) rfl) ts23 ak rfl rfl) rfl fun fr w5 u6 r=>?_;have hP:Post No [zpb b1 ((zp8 pL0)).toArray 23] w0 w5:=hP.upd (i:=0) rfl u6
 refine wn (wsr (kG (zp8 pL0) 6 r rfl (hP.cell (i:=0) rfl) ta23 rfl rfl fun r=>?_));obtain ⟨x7,hx7,hD⟩:=zaj hD
 refine kC r (zdu w5 pL0 hx7) rfl cl14 rfl ?_;rintro _ w8 ⟨mg9,rfl,hq⟩;refine ⟨_,rfl,fun fr r=>?_⟩
 have hP:Post No [_,memK mg9 x7] w0 w8:=hP.add hq;refine kA (zp mg9.mb) r rfl rfl fun r=>wn (aa (wsr (kM (zp mg9.mb) r rfl rfl fun r=>kB r rfl rfl rfl rfl rfl fun r=>wn ?_)));refine ae (t:=false) (r.ev rfl) (fun h=>absurd ((rfl:false=_).symm.trans h) ke) (fun _=>ag (wsr (kG (zp8 pL0) 6 r rfl (hP.cell (i:=0) rfl) ta23 rfl rfl fun r=>kU (aq (zpz sL00)) r kz rfl fun r=>?_)))
 refine kJ r (zjS (F:=No) (n:=fu) (j:=fu+1) (fun _ h=>h.elim) kw sL00 0 5 7) rfl cl90 rfl fun w11 v12 hb hr13 r=>?_;have hP:Post No [_,_,zpL ar zpe (fu,(D.zff (fu+1) sL00 0 5 7)) v12 (rg w8.heap.size w11.heap.size)] w0 w11:=hP.addProgL hb.below hr13
 refine kM (zp mg9.mb) r rfl rfl fun r=>kM (zp mg9.mb) r rfl rfl fun r=>?_;obtain ⟨x15,hx15,hD⟩:=zaj hD
 refine kE r (zeA w11 x7 (hP.mem (i:=1) rfl) 0 hx15) rfl cl20 rfl fun w16 hb r=>?_;have hP:=hP.below hb
 obtain ⟨x17,hx17,hD⟩:=zaj hD;refine kC r (zh3 w16 (fu,(D.zff (fu+1) sL00 0 5 7)) x7 x15 99 (hP.sep.pk [2,1] rfl rfl) hx17) rfl cl29 rfl ?_;rintro _ w18 ⟨rfl,hq⟩;refine ⟨_,rfl,fun fr r=>?_⟩
 have hP:Post No [zpb b1 ((zp8 pL0)).toArray 23,memK mg9 x17.2.2.2] w0 w18:=(Post.frame (A:=[zpb b1 ((zp8 pL0)).toArray 23]) (B:=[zpL ar zpe (fu,(D.zff (fu+1) sL00 0 5 7)) v12 (rg w8.heap.size w11.heap.size),memK mg9 x7]) (hP.pick [0,2,1] rfl rfl) hq (fun b hb=>hb.elim (fun h=>⟨_,List.mem_cons_self ..,h⟩) fun h=>⟨_,List.mem_cons_of_mem _ (List.mem_singleton.2 rfl),h⟩)).pick [0,1] rfl rfl
 refine kM (.tuple #[(aq (resC x17.1)),(I x17.2.1),(.bool x17.2.2.1)]) r rfl rfl fun r=>za0 (aq (resC x17.1)) r (fun R=>zb2 r (vs:=#[(aq (resC x17.1)),(I x17.2.1),(.bool x17.2.2.1)]) rfl rfl) rfl fun fr r=>za0 (I x17.2.1) r (fun R=>zb2 r (vs:=#[(aq (resC x17.1)),(I x17.2.1),(.bool x17.2.2.1)]) rfl rfl) rfl fun fr r=>za0 (.bool x17.2.2.1) r (fun R=>zb2 r (vs:=#[(aq (resC x17.1)),(I x17.2.1),(.bool x17.2.2.1)]) rfl rfl) rfl fun fr r=>?_;refine za7 (.cells ((resC (⟨0,0⟩:Res))).toArray 36 (0,0)) r (fun R=>za6 tz36) rfl fun fr b19 w20 n21 r=>?_
 have hP:Post No [_,_,zpb b19 ((resC (⟨0,0⟩:Res))).toArray 36] w0 w20:=hP.new n21;refine zaJ (.cells ((resC x17.1)).toArray 36 (0,0)) r (fun R=>zaB r (o:=0) (v:=(aq (resC x17.1))) rfl rfl (hP.cell (i:=2) rfl) ts36 ak rfl rfl) rfl fun fr w23 u24 r=>?_;have hP:Post No [_,_,zpb b19 ((resC x17.1)).toArray 36] w0 w23:=hP.upd (i:=2) rfl u24
 refine kA (I x17.2.1) r rfl rfl fun r=>kA (.bool x17.2.2.1) r rfl rfl fun r=>wn (aa ?_);refine zc0 (N:=40) (Y:=Bool) (G:=Unit) (fun x γ=>[(1,(zp b1)),(2,(zp mg9.mb)),(10,(.bool false)),(3,(zp b19)),(5,(.bool x17.2.2.1)),(0,(.bool x))]) (fun x γ w=>Post No [zpb b1 ((zp8 pL0)).toArray 23,memK mg9 x17.2.2.2,zpb b19 ((resC x17.1)).toArray 36] w0 w) hD ?_ ?_
 ·
  rintro y25 RPy25 nxy25 hD;refine af (kM (.bool x17.2.2.1) r rfl rfl fun r=>kM (.bool x17.2.2.1) r rfl rfl fun r=>?_);refine zaY x17.2.2.1 (fun h26=>?_) (fun h26=>?_)
  ·
   have hD:=(zaq h26).symm.trans hD;refine s1 r h26 (kF 0 r rfl zp4 rfl fun r=>s1 r h26 (kL (I x17.1.e) r rfl (hP.cell (i:=2) rfl) to33 rfl rfl fun r=>s1 r h26 (kB r rfl rfl rfl rfl rfl fun r=>za0 (.bool (x17.1.e==0)) r (fun R=>zaG r (b:=true) (kb h26) rfl) rfl fun fr r=>kM (.bool (x17.1.e==0)) r rfl rfl fun r=>?_)));refine zaY (x17.1.e==0) (fun h27=>?_) (fun h27=>?_)
   ·
    have hD:=(zaq h27).symm.trans hD;refine s1 r h27 (kG (zp8 pL0) 6 r rfl (hP.cell (i:=0) rfl) ta23 rfl rfl fun r=>s1 r h27 ?_);refine kE r (zfP w23 pL0 0 5) rfl cl44 rfl fun w28 hb r=>?_
    have hP:=hP.below hb;refine s1 r h27 (kB r rfl rfl rfl rfl rfl fun r=>za0 (.bool ((D.zbC pL0 0 5)==3)) r (fun R=>zaG r (b:=true) (kb h27) rfl) rfl fun fr r=>kM (.bool ((D.zbC pL0 0 5)==3)) r rfl rfl fun r=>?_);refine zaY ((D.zbC pL0 0 5)==3) (fun h29=>?_) (fun h29=>?_)
    ·
     have hD:=(zaq h29).symm.trans hD;refine s1 r h29 (kG (zp8 pL0) 6 r rfl (hP.cell (i:=0) rfl) ta23 rfl rfl fun r=>s1 r h29 (kM (zp mg9.mb) r rfl rfl fun r=>s1 r h29 ?_));obtain ⟨x30,hx30,hD⟩:=zaj hD
     refine kC r (zft w28 pL0 x17.2.2.2 (hP.mem (i:=1) rfl) 0 0 hx30) rfl cl47 rfl ?_;rintro _ w31 ⟨v32,rfl,hq⟩;refine ⟨_,rfl,fun fr r=>?_⟩
     have hP:Post No [_,_,_,rowK 104 2 zpn v32 x30] w0 w31:=hP.add hq;refine s1 r h29 (za0 (I (x30.length:Int)) r (fun R=>zcN r (hP.row (i:=3) rfl).ro is82 rfl) rfl fun fr r=>s1 r h29 (kB r rfl rfl rfl rfl rfl fun r=>za0 (.bool ((x30.length:Int)==1)) r (fun R=>zaG r (b:=true) (kb h29) rfl) rfl fun fr r=>kA (.bool ((x30.length:Int)==1)) r rfl rfl fun r=>wn ?_));exact nxy25 ((x30.length:Int)==1) () _ _ _ hD r (kO (zai rfl (zai rfl zaO))) (hP.pick [0,1,2] rfl rfl)
    have hD:=(zar h29).symm.trans hD;refine s0 r h29 fun fr r=>s0 r h29 fun fr r=>s0 r h29 fun fr r=>s0 r h29 fun fr r=>s0 r h29 fun fr r=>za0 (.bool false) r (fun R=>zaG r (b:=false) (kb h29) rfl) rfl fun fr r=>kA (.bool false) r rfl rfl fun r=>wn ?_;exact nxy25 false () _ _ _ hD r (kO (zai rfl (zai rfl zaO))) (hP.pick [0,1,2] rfl rfl)
   have hD:=(zar h27).symm.trans hD;refine s0 r h27 fun fr r=>s0 r h27 fun fr r=>s0 r h27 fun fr r=>za0 (.bool false) r (fun R=>zaG r (b:=false) (kb h27) rfl) rfl fun fr r=>kM (.bool false) r rfl rfl fun r=>s0 r (rfl:false=_) fun fr r=>s0 r (rfl:false=_) fun fr r=>s0 r (rfl:false=_) fun fr r=>s0 r (rfl:false=_) fun fr r=>s0 r (rfl:false=_) fun fr r=>za0 (.bool false) r (fun R=>zaG r (b:=false) (kb (rfl:false=_)) rfl) rfl fun fr r=>kA (.bool false) r rfl rfl fun r=>wn ?_;exact nxy25 false () _ _ _ hD r (kO (zai rfl (zai rfl zaO))) (hP.pick [0,1,2] rfl rfl)
  have hD:=(zar h26).symm.trans hD;refine s0 r h26 fun fr r=>s0 r h26 fun fr r=>s0 r h26 fun fr r=>za0 (.bool false) r (fun R=>zaG r (b:=false) (kb h26) rfl) rfl fun fr r=>kM (.bool false) r rfl rfl fun r=>s0 r (rfl:false=_) fun fr r=>s0 r (rfl:false=_) fun fr r=>s0 r (rfl:false=_) fun fr r=>za0 (.bool false) r (fun R=>zaG r (b:=false) (kb (rfl:false=_)) rfl) rfl fun fr r=>kM (.bool false) r rfl rfl fun r=>s0 r (rfl:false=_) fun fr r=>s0 r (rfl:false=_) fun fr r=>s0 r (rfl:false=_) fun fr r=>s0 r (rfl:false=_) fun fr r=>s0 r (rfl:false=_) fun fr r=>za0 (.bool false) r (fun R=>zaG r (b:=false) (kb (rfl:false=_)) rfl) rfl fun fr r=>kA (.bool false) r rfl rfl fun r=>wn ?_;exact nxy25 false () _ _ _ hD r (kO (zai rfl (zai rfl zaO))) (hP.pick [0,1,2] rfl rfl)
 rintro x34 γ35 fr w36 g r hP hD;have hP:Post No [_,_,_] w0 w36:=hP;refine ac ?_;have hv:x34=res:=Option.some.inj hD
 try dsimp only [Exit.then,Exit.inBlock]
 refine zaC (fn:=Tryz.f43) r (t:=0) rfl (v:=(.bool x34)) rfl ?_;subst hv;exact ⟨rfl,hP.chg.below⟩
def D.zbY (fu:Nat) (a0:Plan) (a1:Mem) (a2:Int) (a3:CallD):Option (Res × Mem):=((D.zcD fu a1 0).bind (fun (x17:Cap)=>((D.zdC fu (fu,(D.zb7 (fu+1) (⟨a0,0,0⟩:Seat) a2 a3)) a1 x17 100000).bind (fun (x19:Res × Int × Bool × Mem)=>(some (x19.1,x19.2.2.2))))))
theorem zf9 {fu:Nat} (w0:World) (a0:Plan) {a1g:MG} (a1:Mem) (a2:Int) (a3:CallD) (hS:Sep [memK a1g a1] w0) {res:Res × Mem} (hD:D.zbY fu a0 a1 a2 a3=some res) :
    Calls ar 46 #[aq (zp8 a0),zp a1g.mb,.int .i64 a2,aq (zpF a3)] w0 (fun e w'=>e=.returned (aq (resC res.1))∧Done (fun b=>b∈(memK a1g a1).own) No [memK a1g res.2] w0 w'):=by
 refine enter Tryz.func46 rfl 26 rfl rfl fun fr r=>?_;have hP:Post (fun b=>b∈(memK a1g a1).own) [memK a1g a1] w0 w0:=.start hS (by simp [memK])
 unfold D.zbY at hD
 refine wsr ?_;refine kX 23 (aq (zp8 a0)) r rfl rfl fun b1 w2 n3 r=>?_;have hP:Post (fun b=>b∈(memK a1g a1).own) [memK a1g a1,zpb b1 ((zp8 a0)).toArray 23] w0 w2:=hP.new n3
 refine kX 101 (aq (zpF a3)) r rfl rfl fun b5 w6 n7 r=>?_;have hP:Post (fun b=>b∈(memK a1g a1).own) [memK a1g a1,zpb b1 ((zp8 a0)).toArray 23,zpb b5 ((zpF a3)).toArray 101] w0 w6:=hP.new n7
 refine za7 (.cells ((resC (⟨0,0⟩:Res))).toArray 36 (0,0)) r (fun R=>za6 tz36) rfl fun fr b9 w10 n11 r=>?_;have hP:Post (fun b=>b∈(memK a1g a1).own) [memK a1g a1,zpb b1 ((zp8 a0)).toArray 23,zpb b5 ((zpF a3)).toArray 101,zpb b9 ((resC (⟨0,0⟩:Res))).toArray 36] w0 w10:=hP.new n11
 refine wn (wsr (kG (zp8 a0) 6 r rfl (hP.cell (i:=1) rfl) ta23 rfl rfl fun r=>kU (aq (zpz (⟨a0,0,0⟩:Seat))) r kz rfl fun r=>kM (I a2) r rfl rfl fun r=>kG (zpF a3) 3 r rfl (hP.cell (i:=2) rfl) zr5 rfl rfl fun r=>?_));refine kJ r (zhp (F:=No) (n:=fu) (j:=fu+1) (fun _ h=>h.elim) kw (⟨a0,0,0⟩:Seat) a2 a3) rfl cl49 rfl fun w13 v14 hb hr15 r=>?_
 have hP:Post (fun b=>b∈(memK a1g a1).own) [memK a1g a1,zpb b1 ((zp8 a0)).toArray 23,zpb b5 ((zpF a3)).toArray 101,zpb b9 ((resC (⟨0,0⟩:Res))).toArray 36,zpL ar zpe (fu,(D.zb7 (fu+1) (⟨a0,0,0⟩:Seat) a2 a3)) v14 (rg w10.heap.size w13.heap.size)] w0 w13:=hP.addProgL hb.below hr15
 refine kM (zp a1g.mb) r rfl rfl fun r=>kM (zp a1g.mb) r rfl rfl fun r=>?_;obtain ⟨x17,hx17,hD⟩:=zaj hD
 refine kE r (zeA w13 a1 (hP.mem (i:=0) rfl) 0 hx17) rfl cl20 rfl fun w18 hb r=>?_;have hP:=hP.below hb
 obtain ⟨x19,hx19,hD⟩:=zaj hD;refine kC r (zh3 w18 (fu,(D.zb7 (fu+1) (⟨a0,0,0⟩:Seat) a2 a3)) a1 x17 100000 (hP.sep.pk [4,0] rfl rfl) hx19) rfl cl29 rfl ?_;rintro _ w20 ⟨rfl,hq⟩;refine ⟨_,rfl,fun fr r=>?_⟩
 have hP:Post (fun b=>b∈(memK a1g a1).own) [memK a1g x19.2.2.2,zpb b1 ((zp8 a0)).toArray 23,zpb b5 ((zpF a3)).toArray 101,zpb b9 ((resC (⟨0,0⟩:Res))).toArray 36] w0 w20:=(Post.frame (A:=[zpb b1 ((zp8 a0)).toArray 23,zpb b5 ((zpF a3)).toArray 101,zpb b9 ((resC (⟨0,0⟩:Res))).toArray 36]) (B:=[zpL ar zpe (fu,(D.zb7 (fu+1) (⟨a0,0,0⟩:Seat) a2 a3)) v14 (rg w10.heap.size w13.heap.size),memK a1g a1]) (hP.pick [1,2,3,4,0] rfl rfl) hq (fun b hb=>hb.elim (fun h=>⟨_,List.mem_cons_self ..,h⟩) fun h=>⟨_,List.mem_cons_of_mem _ (List.mem_singleton.2 rfl),h⟩)).pick [3,0,1,2] rfl rfl
 refine kM (.tuple #[(aq (resC x19.1)),(I x19.2.1),(.bool x19.2.2.1)]) r rfl rfl fun r=>za0 (aq (resC x19.1)) r (fun R=>zb2 r (vs:=#[(aq (resC x19.1)),(I x19.2.1),(.bool x19.2.2.1)]) rfl rfl) rfl fun fr r=>za0 (I x19.2.1) r (fun R=>zb2 r (vs:=#[(aq (resC x19.1)),(I x19.2.1),(.bool x19.2.2.1)]) rfl rfl) rfl fun fr r=>za0 (.bool x19.2.2.1) r (fun R=>zb2 r (vs:=#[(aq (resC x19.1)),(I x19.2.1),(.bool x19.2.2.1)]) rfl rfl) rfl fun fr r=>?_;refine za7 (.cells ((resC (⟨0,0⟩:Res))).toArray 36 (0,0)) r (fun R=>za6 tz36) rfl fun fr b21 w22 n23 r=>?_
 have hP:Post (fun b=>b∈(memK a1g a1).own) [memK a1g x19.2.2.2,zpb b1 ((zp8 a0)).toArray 23,zpb b5 ((zpF a3)).toArray 101,zpb b9 ((resC (⟨0,0⟩:Res))).toArray 36,zpb b21 ((resC (⟨0,0⟩:Res))).toArray 36] w0 w22:=hP.new n23
 refine zaJ (.cells ((resC x19.1)).toArray 36 (0,0)) r (fun R=>zaB r (o:=0) (v:=(aq (resC x19.1))) rfl rfl (hP.cell (i:=4) rfl) ts36 ak rfl rfl) rfl fun fr w25 u26 r=>?_;have hP:Post (fun b=>b∈(memK a1g a1).own) [memK a1g x19.2.2.2,zpb b1 ((zp8 a0)).toArray 23,zpb b5 ((zpF a3)).toArray 101,zpb b9 ((resC (⟨0,0⟩:Res))).toArray 36,zpb b21 ((resC x19.1)).toArray 36] w0 w25:=hP.upd (i:=4) rfl u26
 refine kA (I x19.2.1) r rfl rfl fun r=>kA (.bool x19.2.2.1) r rfl rfl fun r=>wn (wsr (kG (resC x19.1) 2 r rfl (hP.cell (i:=4) rfl) ta36 rfl rfl fun r=>?_));refine zaJ (.cells ((resC x19.1)).toArray 36 (0,0)) r (fun R=>zaB r (o:=0) (v:=(aq (resC x19.1))) rfl rfl (hP.cell (i:=3) rfl) ts36 ak rfl rfl) rfl fun fr w27 u28 r=>?_
 have hP:Post (fun b=>b∈(memK a1g a1).own) [memK a1g x19.2.2.2,zpb b1 ((zp8 a0)).toArray 23,zpb b5 ((zpF a3)).toArray 101,zpb b9 ((resC x19.1)).toArray 36,zpb b21 ((resC x19.1)).toArray 36] w0 w27:=hP.upd (i:=3) rfl u28
 refine wn (ac ?_);have hv:(x19.1,x19.2.2.2)=res:=Option.some.inj hD
 try dsimp only [Exit.then,Exit.inBlock]
 refine za5 r rfl rfl (hP.cell (i:=3) rfl) (k:=2) rfl ta36 ?_;subst hv;exact ⟨rfl,(hP.pick [0] rfl rfl).done (zbm rfl zbX)⟩
theorem znD {p:Plan} (hp:PF p) {d:Int} (hd:0≤d∧d<p.domains) {c:CallD} (hk:0≤c.k∧c.k≤18446744073709551615) (J:Nat):D.zb7 J (⟨p,0,0⟩:Seat) d c =
  (bif ((c.kind.tmod 3)==0) then D.zhd J ⟨p,0,0⟩ (mc p d (c.k % p.buckets)) c.k c.v else bif ((c.kind.tmod 3)==1) then D.ze4 J J ⟨p,0,0⟩ (mc p d (c.k % p.buckets)) c.k else D.zg0 J ⟨p,0,0⟩ (mc p d (c.k % p.buckets)) c.k):=by
 unfold D.zb7 D.zff D.zjr D.zjh;rw [znJ hp hd hk]
theorem znV:D.zc5 4000=some true:=by decide +kernel
theorem zm6 (m:Int):∀ (l:List Int) (P:Pool),P.fr.length≤(l.foldl (Pool.back m) P).fr.length
 | [],_=>Nat.le_refl _
 | n::l,P=>by
  rw [List.foldl_cons]
  exact Nat.le_trans znm (zm6 m l _)
theorem zom {p:Plan} {P:Pool} {n:Int}:P.fr.length≤(dropP p P n).fr.length:=by
 unfold dropP Pool.stash
 split
 ·exact Nat.le_refl _
 ·exact zm6 _ _ ⟨P.fr,[],fun q=>if q=n then ⟨(P.st n).gen,2,(P.st n).kind⟩ else P.st q⟩
theorem zmG {P:Pool} {m k:Int} (h:0<P.fr.length):(P.grant m k).1.fr.length+1=P.fr.length∧∃ n,P.fr.head?=some n∧(P.grant m k).2.node=n:=by
 unfold Pool.grant Pool.out;cases hf:P.fr with
 | nil=>rw [hf] at h; cases h
 | cons n l=>exact ⟨by simp,n,rfl,rfl⟩
def ansE (c:CallD) (E:List Entry):Res:=if c.kind.tmod 3=0 then (if hasE c.k E=true then ⟨7,0⟩ else ⟨0,0⟩) else getE c.k E
def nextE (c:CallD) (E:List Entry):List Entry:=if c.kind.tmod 3=0 then (if hasE c.k E=true then E else insE c.k c.v E) else if c.kind.tmod 3=1 then delE c.k E else E
def MapS (p:Plan) (d:Int) (M:Mem) (E:List Entry) (i:Nat):Prop:=∃ (P:Pool) (g:Int) (N:List Int),MapAt p 0 M.ws P g d N∧Alone p M.ws∧g≤100 * (i:Int)∧ents p M.ws N=E∧p.nodes≤(P.fr.length:Int)+i
section
variable {p : Plan} (hp : PF p) (hfw : p.nodes ≤ 40 ∧ p.retire ≤ 40 ∧ p.domains ≤ 6 ∧ p.buckets ≤ 10) {d : Int} (hd : 0 ≤ d ∧ d < p.domains)
include hp hfw hd
theorem MapS.start:∃ M,D.zbt 4000 p=some M∧MapS p d M [] 0:=by
 have ht1:=hp.t1;have hn1:=hp.n1;obtain ⟨M,hM,hL⟩:=zos hp hfw (fu:=4000) kw
 obtain ⟨hA,hal⟩:=MapAt.start hp hL (t:=0) kw hd;exact ⟨M,hM,_,0,[],hA,hal,kw,rfl,by unfold allN; simp; omega⟩
theorem MapS.run {M:Mem} {E:List Entry} {i:Nat} (h:MapS p d M E i) (hi:(i:Int)<p.nodes) {c:CallD} (hk:0≤c.k∧c.k≤18446744073709551615):∃ M',D.zbY 4000 p M d c=some (ansE c E,M')∧MapS p d M' (nextE c E) (i+1):=by
 obtain ⟨P,g,N,hA,hal,hg,rfl,hfr⟩:=h;have ht1:=hp.t1;have hn1:=hp.n1;have hr2:=hp.r2;have ht:(0:Int)≤0∧0<p.threads:=kw
 have hdm:0<p.domains:=kw
 have hll:=hA.zjv hp;have hcf:=hA.pool.free.count kw
 have hrm:=hA.pool.ret.room;have fin:∀ (m:Nat) (tr:T Res) (r:Res) (ws':List Int) (P':Pool) (g':Int) (N':List Int) (E':List Entry),m≤3200→g'≤g+100→Runs tr M.ws m r ws'→MapAt p 0 ws' P' g' d N'→Alone p ws'→ents p ws' N'=E'→P.fr.length≤P'.fr.length+1→
   ∃ M',((D.zdC 4000 (4000,tr) M cap0 100000).bind fun (x19:Res × Int × Bool × Mem)=>some (x19.1,x19.2.2.2))=some (r,M')∧MapS p d M' E' (i+1):=fun m tr r ws' P' g' N' E' hm hg' hr hA' hal' he hf=>by
  obtain ⟨cc,hcc⟩:=runR (fu:=4000) (most:=100000) (M:=M) hr kw kw kw;rw [hcc];exact ⟨⟨ws',cc⟩,rfl,P',g',N',hA',hal',kw,he,kw⟩
 unfold D.zbY;rw [zoh,znD hp hd hk];simp only [Option.bind_some];unfold ansE nextE
 by_cases h0:c.kind.tmod 3=0
 ·rw [show (c.kind.tmod 3==0)=true from by simp [h0],if_pos h0,if_pos h0]
  simp only [cond_true]
  obtain ⟨m,ws',P',g',N',res,hm,hg',hr,hA',hal',hcase⟩:=hA.add hp kw ht hd hdm kw hal 4000 kw kw c.k c.v;obtain ⟨hgl,n0,hh0,hgn0⟩:=zmG (P:=P) (m:=p.gen) (k:=2) kw
  rcases hcase with ⟨hgr,rfl,rfl,rfl,he⟩ | ⟨Q,n,fr,hQ,hQf,hgo,hgn,hx⟩
  ·have:0≤n0:=(hA.pool.free.range n0 (List.mem_of_mem_head? hh0)).1
   rw [hgr] at hgn0
   have:(-1:Int)=n0:=hgn0;omega
  ·rcases hx with ⟨hh,rfl,rfl,rfl,he⟩ | ⟨hh,rfl,rfl,he,_⟩
   ·rw [if_pos hh,if_pos hh]
    have:=znm (P:=(P.grant p.gen 2).1) (m:=p.gen) (n:=n);exact fin m _ _ ws' _ g' N' _ kw kw hr hA' hal' he kw
   ·rw [if_neg (by rw [hh]; simp),if_neg (by rw [hh]; simp)]
    exact fin m _ _ ws' _ g' N' _ kw kw hr hA' hal' he kw
 ·rw [show (c.kind.tmod 3==0)=false from by simp [h0],if_neg h0,if_neg h0]
  simp only [cond_false]
  by_cases h1:c.kind.tmod 3=1
  ·rw [show (c.kind.tmod 3==1)=true from by simp [h1],if_pos h1]
   simp only [cond_true]
   obtain ⟨m,ws',P',g',N',hm,hg',hr,hA',hal',he,hcase⟩:=hA.del hp kw ht hd 4000 4000 kw kw c.k hal;refine fin m _ _ ws' P' g' N' _ kw kw hr hA' hal' he ?_
   rcases hcase with ⟨_,_,rfl,_,_⟩ | ⟨_,_,n,_,_,_,rfl,_⟩
   ·omega
   ·have:=zom (p:=p) (P:=P) (n:=n); omega
  ·rw [show (c.kind.tmod 3==1)=false from by simp [h1],if_neg h1]
   simp only [cond_false]
   obtain ⟨m,hm,hr⟩:=hA.get hp kw ht hd 4000 kw c.k;exact fin m _ _ M.ws P g N _ kw kw hr hA hal rfl kw
theorem MapS.entries {M:Mem} {E:List Entry} {i:Nat} (h:MapS p d M E i):D.zcq 4000 p M 0 d=some E∧E.length≤40:=by
 obtain ⟨P,g,N,hA,hal,hg,rfl,hfr⟩:=h;have hll:=hA.zjv hp;exact ⟨zlM hp kw hA hd kw,by unfold ents; simp; omega⟩
end
theorem zsP:ar.eqGuardType ar.depth 104=false:=kz
theorem zoX (x y:Entry) (w:World):(binOp .eql 104 (aq (zpn x)) (aq (zpn y))).run ar w=.ok (.bool (x==y)) w∧(binOp .neq 104 (aq (zpn x)) (aq (zpn y))).run ar w=.ok (.bool (!(x==y))) w:=
 zmY [(.u64,x.key,y.key),(.u64,x.value,y.value)] kz kz kz kz (by cases x; cases y; rw [Bool.eq_iff_iff]; simp)
theorem sl82:sliceTy ar 82 2:=kz
theorem zrQ:tyA ar 104 2:=kz
def D.zcj (fu:Nat) (a0:List Entry) (a1:List Entry):Option (Bool):=(bif ((a0.length:Int) !=(a1.length:Int)) then (some false) else (loopThen (fun (x2:Bool × Int)=>(bif (decide (x2.2<(a0.length:Int))) then ((getI a0 x2.2).bind (fun (x7:Entry)=>((getI a1 x2.2).bind (fun (x8:Entry)=>(bif (!(x7==x8)) then (some (Lp.ret false)) else (some (Lp.next (x2.1,(IntKind.i64.wrap (x2.2+1)))))))))) else (some (Lp.brk (x2.1,x2.2))))) fu (false,0) (fun (x11:Bool × Int)=>(some true))))
theorem zhQ {fu:Nat} (w0:World) {a0v:Value} (a0:List Entry) (a0h:RoAt 104 2 zpn a0v a0 w0) {a1v:Value} (a1:List Entry) (a1h:RoAt 104 2 zpn a1v a1 w0) {res:Bool} (hD:D.zcj fu a0 a1=some res) :
    Calls ar 41 #[a0v,a1v] w0 (zpo (.bool res) w0):=by
 refine enter Tryz.func41 rfl 26 rfl rfl fun fr r=>?_;have hP:Post No [] w0 w0:=Post.nil w0
 have hP:Post No [roK 104 2 zpn a0v a0] w0 w0:=hP.addRo zcr a0h rfl a0h.lt;have hP:Post No [_,roK 104 2 zpn a1v a1] w0 w0:=hP.addRo (zln rfl zcr) a1h rfl a1h.lt;unfold D.zcj at hD
 refine wsr (kA (.bool false) r rfl rfl fun r=>wn (aa (wsr (kM a0v r rfl rfl fun r=>za0 (I (a0.length:Int)) r (fun R=>zcN r (hP.ro (i:=0) rfl) is82 rfl) rfl fun fr r=>kM a1v r rfl rfl fun r=>za0 (I (a1.length:Int)) r (fun R=>zcN r (hP.ro (i:=1) rfl) is82 rfl) rfl fun fr r=>kB r rfl rfl rfl rfl rfl fun r=>wn ?_))));refine ae (t:=((a0.length:Int) !=(a1.length:Int))) (r.ev rfl) (fun h1=>?_) (fun h1=>?_)
 ·
  have hD:=(zaq h1).symm.trans hD;refine wsr (kA (.bool false) r rfl rfl fun r=>wn (ac ?_));have hv:false=res:=Option.some.inj hD
  try dsimp only [Exit.then,Exit.inBlock]
  refine zaC (fn:=Tryz.f41) r (t:=4) rfl (v:=(.bool false)) rfl ?_;subst hv;exact ⟨rfl,hP.chg.below⟩
 have hD:=(zar h1).symm.trans hD;refine ag (aa (wsr (kA (I 0) r rfl rfl fun r=>wn ?_)));refine zdT (X:=Bool × Int) (G:=Unit) (x0:=(false,0)) (fun x γ=>[(0,a0v),(1,a1v),(10,(.bool ((a0.length:Int) !=(a1.length:Int)))),(4,(.bool x.1)),(5,(I x.2))]) (fun x γ w=>Post No [roK 104 2 zpn a0v a0,roK 104 2 zpn a1v a1] w0 w) () r (kO (zai rfl zaO)) hP hD ?_ ?_
 ·
  rintro x2 γ3 fr w5 g y4 RPy4 nxy4 bky4 rty4 r hP hD;have hP:Post No [_,_] w0 w5:=hP;refine aa (wsr (kM (I x2.2) r rfl rfl fun r=>kM a0v r rfl rfl fun r=>za0 (I (a0.length:Int)) r (fun R=>zcN r (hP.ro (i:=0) rfl) is82 rfl) rfl fun fr r=>kB r rfl rfl rfl rfl rfl fun r=>wn ?_));refine ae (t:=(decide (x2.2<(a0.length:Int)))) (r.ev rfl) (fun h6=>?_) (fun h6=>?_)
  ·
   have hD:=(zaq h6).symm.trans hD;refine ag (aa (wp_block (aa ?_)));obtain ⟨x7,hx7,hD⟩:=zaj hD;obtain ⟨x8,hx8,hD⟩:=zaj hD;refine zcZ [.val a0v,.val (I x2.2),.val (.pointer (some ⟨rowB a0v,rowO a0v+x2.2.toNat * 2,none⟩)),.val (aq (zpn x7)),.val a1v,.val (I x2.2),.val (.pointer (some ⟨rowB a1v,rowO a1v+x2.2.toNat * 2,none⟩)),.val (aq (zpn x8)),.val (.bool (!(x7==x8)))] mixed r kz ?_ ?_
   ·
    refine fc r (fun fr1 g w' hb' hd r'=>zap r' rfl bz) ?_;refine fc r (fun fr1 g w' hb' hd r'=>zap r' rfl bz) ?_
    refine fc r (fun fr1 g w' hb' hd r'=>zc8 r' ((hP.below (dr hb')).ro (i:=0) rfl) hx7 sl82 (hd 0 rfl).1 (hd 1 rfl).1 bz) ?_;refine fc r (fun fr1 g w' hb' hd r'=>zds r' (cs:=(zpn x7)) (RoAt.at_ (f:=zpn) (x:=x7) ((hP.below (dr hb')).ro (i:=0) rfl) (fun _=>rfl) hx7) (hd 2 rfl).1 zrQ bz) ?_
    refine fc r (fun fr1 g w' hb' hd r'=>zap r' rfl bz) ?_;refine fc r (fun fr1 g w' hb' hd r'=>zap r' rfl bz) ?_
    refine fc r (fun fr1 g w' hb' hd r'=>zc8 r' ((hP.below (dr hb')).ro (i:=1) rfl) hx8 sl82 (hd 4 rfl).1 (hd 5 rfl).1 bz) ?_;refine fc r (fun fr1 g w' hb' hd r'=>zds r' (cs:=(zpn x8)) (RoAt.at_ (f:=zpn) (x:=x8) ((hP.below (dr hb')).ro (i:=1) rfl) (fun _=>rfl) hx8) (hd 6 rfl).1 zrQ bz) ?_
    refine fc r (fun fr1 g w' hb' hd r'=>zpx r' (hd 3 rfl).1 (hd 7 rfl).1 (run_eqGuard_agg _ _ _ _ _ _ _ zsP) (zoX _ _ _).2 bz) ?_;exact zb3
   intro fr gg w9 hb hΦ hap r;have r:=r.congr (sc ((hΦ 8 rfl).1) (sc ((hΦ 7 rfl).1) (sc ((hΦ 6 rfl).1) (sc ((hΦ 5 rfl).1) (sc ((hΦ 4 rfl).1) (sc ((hΦ 3 rfl).1) (sc ((hΦ 2 rfl).1) (sc ((hΦ 1 rfl).1) (sc ((hΦ 0 rfl).1) rfl)))))))));have hP:=hP.below hb;refine ae (t:=(!(x7==x8))) (r.ev rfl) (fun h10=>?_) (fun h10=>?_)
   ·
    have hD:=(zaq h10).symm.trans hD;refine wsr (kA (.bool false) r rfl rfl fun r=>wn (ac ?_));refine rty4 false _ _ hD fun hD=>?_
    have hv:false=res:=Option.some.inj hD
    try dsimp only [Exit.then,Exit.inBlock]
    refine zaC (fn:=Tryz.f41) r (t:=4) rfl (v:=(.bool false)) rfl ?_;subst hv;exact ⟨rfl,hP.chg.below⟩
   have hD:=(zar h10).symm.trans hD;refine ag ?_;refine af (kM (I x2.2) r rfl rfl fun r=>kB r rfl rfl rfl rfl rfl fun r=>kA (I (W (x2.2+1))) r rfl rfl fun r=>wn ?_);exact nxy4 (x2.1,(W (x2.2+1))) () _ _ _ hD r (kO (zai rfl zaO)) (hP.pick [0,1] rfl rfl)
  have hD:=(zar h6).symm.trans hD;refine wp_exit ?_;exact bky4 (x2.1,x2.2) () _ _ _ hD r (kO (zai rfl zaO)) (hP.pick [0,1] rfl rfl)
 rintro x11 γ12 fr w13 g r hP hD;have hP:Post No [_,_] w0 w13:=hP;refine wsr (kA (.bool true) r rfl rfl fun r=>wn (ac ?_));have hv:true=res:=Option.some.inj hD
 try dsimp only [Exit.then,Exit.inBlock]
 refine zaC (fn:=Tryz.f41) r (t:=4) rfl (v:=(.bool true)) rfl ?_;subst hv;exact ⟨rfl,hP.chg.below⟩
theorem zoY {fu:Nat} {l:List Entry} (h:l.length<fu) (h2:l.length≤900000):D.zcj fu l l=some true:=by
 unfold D.zcj;rw [show ((l.length:Int) !=(l.length:Int))=false from by simp]
 simp only [cond_false]
 refine zjj (fun o=>o=some true) (fun (i:Nat) (x:Bool × Int)=>x.2=(i:Int)) l.length fu rfl h ?_ ?_
 ·rintro i ⟨b,x⟩ hi rfl
  simp only
  rw [show decide ((i:Int)<(l.length:Int))=true from by simp; omega,zmg hi,zaQ (show -1000000≤(i:Int)+1 by omega) kw]
  simp only [cond_true,Option.bind_some]
  rw [show (l[i]==l[i])=true from by simp]
  exact ⟨_,rfl,by simp⟩
 ·rintro ⟨b,x⟩ rfl
  simp only
  rw [show decide ((l.length:Int)<(l.length:Int))=false from by simp]
  exact ⟨_,rfl,by simp⟩
end Go.Proofs.YtbbipmelhmgmfaaGreat

/- Ours. -/
namespace Go.Proofs.YtbbipmelhmgmfaaGreat.Wk
open Go.RowKit
abbrev pL0:Plan:=⟨40,1,4,1,1,1000⟩
theorem cl41:zp7 ar 41:=kz
theorem cl43:zp7 ar 43:=kz
theorem cl46:zp7 ar 46:=kz
theorem eg36:ar.eqGuardType ar.depth 36=false:=kz
theorem zt3 (x y:Res) (w:World):(binOp .eql 36 (aq (resC x)) (aq (resC y))).run ar w=.ok (.bool (x==y)) w∧(binOp .neq 36 (aq (resC x)) (aq (resC y))).run ar w=.ok (.bool (!(x==y))) w:=
 zmY [(.i64,x.e,y.e),(.u64,x.v,y.v)] kz kz kz kz (by cases x; cases y; rw [Bool.eq_iff_iff]; simp)
theorem is98:isSlice ar 98:=kz
theorem sl98:sliceTy ar 98 3:=kz
def D.zbL (fu:Nat) (a0:Int) (a1:List CallD):Option (Bool):=(Option.bind ((D.zc5 fu ).bind (fun (x2:Bool)=>(bif (!x2) then (some true) else (some (decide ((a1.length:Int) > 30)))))) (fun (x5:Bool)=>(bif x5 then ((D.zc5 fu ).bind (fun (x9:Bool)=>(some x9))) else ((some ({ (⟨40,1,4,1,1,1000⟩:Plan) with buckets:=(IntKind.i64.wrap (1+(IntKind.i64.wrap (a0.tmod 10)))) })).bind (fun (x25:Plan)=>((D.zbt fu (⟨40,1,4,1,1,1000⟩:Plan)).bind (fun (x26:Mem)=>((D.zbt fu x25).bind (fun (x29:Mem)=>(loopThen (fun (x33:Bool × Int × Mem × Mem)=>(bif (decide (x33.2.1<(a1.length:Int))) then ((getI a1 x33.2.1).bind (fun (x38:CallD)=>((D.zbY fu (⟨40,1,4,1,1,1000⟩:Plan) x33.2.2.1 0 x38).bind (fun (x39:Res × Mem)=>((getI a1 x33.2.1).bind (fun (x40:CallD)=>((D.zbY fu x25 x33.2.2.2 0 x40).bind (fun (x42:Res × Mem)=>(bif (!(x39.1==x42.1)) then (some (Lp.ret false)) else (some (Lp.next (x33.1,(IntKind.i64.wrap (x33.2.1+1)),x39.2,x42.2)))))))))))) else (some (Lp.brk (x33.1,x33.2.1,x33.2.2.1,x33.2.2.2))))) fu (false,0,x26,x29) (fun (x45:Bool × Int × Mem × Mem)=>((D.zcq fu (⟨40,1,4,1,1,1000⟩:Plan) x45.2.2.1 0 0).bind (fun (x48:List Entry)=>((D.zcq fu x25 x45.2.2.2 0 0).bind (fun (x51:List Entry)=>((D.zcj fu x48 x51).bind (fun (x54:Bool)=>(some x54))))))))))))))))))
theorem zf7 {fu:Nat} (w0:World) (a0:Int) {a1v:Value} (a1:List CallD) (a1h:RoAt 101 3 zpF a1v a1 w0) {res:Bool} (hD:D.zbL fu a0 a1=some res) :
    Calls ar 7 #[.int .u8 a0,a1v] w0 (zpo (.bool res) w0):=by
 refine enter Tryz.func7 rfl 63 rfl rfl fun fr r=>?_;have hP:Post No [] w0 w0:=Post.nil w0
 have hP:Post No [roK 101 3 zpF a1v a1] w0 w0:=hP.addRo zcr a1h rfl a1h.lt;unfold D.zbL at hD
 refine wsr (kA (.bool false) r rfl rfl fun r=>wn (aa (aa ?_)));refine zc0 (N:=63) (Y:=Bool) (G:=Unit) (fun x γ=>[(0,(.int .u8 a0)),(1,a1v),(4,(.bool false)),(16,(.bool x))]) (fun x γ w=>Post No [roK 101 3 zpF a1v a1] w0 w) hD ?_ ?_
 ·
  rintro y1 RPy1 nxy1 hD;refine af ?_;obtain ⟨x2,hx2,hD⟩:=zaj hD;refine kE r (zeJ w0  hx2) rfl cl43 rfl fun w3 hb r=>?_;have hP:=hP.below hb
  refine za0 (.bool (!x2)) r (fun R=>y_un r (u:=(.bool x2)) rfl rfl) rfl fun fr r=>kM (.bool (!x2)) r rfl rfl fun r=>?_;refine zaY (!x2) (fun h4=>?_) (fun h4=>?_)
  ·
   have hD:=(zaq h4).symm.trans hD;refine s0 r h4 fun fr r=>s0 r h4 fun fr r=>s0 r h4 fun fr r=>za0 (.bool true) r (fun R=>zaG r (b:=true) (kb h4) rfl) rfl fun fr r=>wn ?_;exact nxy1 true () _ _ _ hD r (kO zaO) (hP.pick [0] rfl rfl)
  have hD:=(zar h4).symm.trans hD;refine s1 r h4 (kM a1v r rfl rfl fun r=>s1 r h4 (za0 (I (a1.length:Int)) r (fun R=>zcN r (hP.ro (i:=0) rfl) is98 rfl) rfl fun fr r=>s1 r h4 (kB r rfl rfl rfl rfl rfl fun r=>za0 (.bool (decide ((a1.length:Int) > 30))) r (fun R=>zaG r (b:=false) (kb h4) rfl) rfl fun fr r=>wn ?_)));exact nxy1 (decide ((a1.length:Int) > 30)) () _ _ _ hD r (kO zaO) (hP.pick [0] rfl rfl)
 rintro x5 γ6 fr w7 g r hP hD;have hP:Post No [_] w0 w7:=hP;refine ae (t:=x5) (r.ev rfl) (fun h8=>?_) (fun h8=>?_)
 ·
  have hD:=(zaq h8).symm.trans hD;refine wsr ?_;obtain ⟨x9,hx9,hD⟩:=zaj hD;refine kE r (zeJ w7  hx9) rfl cl43 rfl fun w10 hb r=>?_;have hP:=hP.below hb
  refine kA (.bool x9) r rfl rfl fun r=>wn (ac ?_);have hv:x9=res:=Option.some.inj hD
  try dsimp only [Exit.then,Exit.inBlock]
  refine zaC (fn:=Tryz.f7) r (t:=4) rfl (v:=(.bool x9)) rfl ?_;subst hv;exact ⟨rfl,hP.chg.below⟩
 have hD:=(zar h8).symm.trans hD;refine ag (wsr (kU (aq (zp8 pL0)) r kz rfl fun r=>?_))
 refine za7 (.cells ((zp8 (⟨0,0,0,0,0,0⟩:Plan))).toArray 23 (0,0)) r (fun R=>za6 tz23) rfl fun fr b11 w12 n13 r=>?_;have hP:Post No [_,zpb b11 ((zp8 (⟨0,0,0,0,0,0⟩:Plan))).toArray 23] w0 w12:=hP.new n13
 refine zaJ (.cells ((zp8 pL0)).toArray 23 (0,0)) r (fun R=>zaB r (o:=0) (v:=(aq (zp8 pL0))) rfl rfl (hP.cell (i:=1) rfl) ts23 ak rfl rfl) rfl fun fr w15 u16 r=>?_;have hP:Post No [_,zpb b11 ((zp8 pL0)).toArray 23] w0 w15:=hP.upd (i:=1) rfl u16
 refine wn (wsr (kG (zp8 pL0) 6 r rfl (hP.cell (i:=1) rfl) ta23 rfl rfl fun r=>?_));refine za7 (.cells ((zp8 (⟨0,0,0,0,0,0⟩:Plan))).toArray 23 (0,0)) r (fun R=>za6 tz23) rfl fun fr b17 w18 n19 r=>?_
 have hP:Post No [_,_,zpb b17 ((zp8 (⟨0,0,0,0,0,0⟩:Plan))).toArray 23] w0 w18:=hP.new n19;refine zaJ (.cells ((zp8 pL0)).toArray 23 (0,0)) r (fun R=>zaB r (o:=0) (v:=(aq (zp8 pL0))) rfl rfl (hP.cell (i:=2) rfl) ts23 ak rfl rfl) rfl fun fr w21 u22 r=>?_;have hP:Post No [_,_,zpb b17 ((zp8 pL0)).toArray 23] w0 w21:=hP.upd (i:=2) rfl u22
 refine wn (wsr (kM (.int .u8 a0) r rfl rfl fun r=>kB r rfl rfl rfl rfl rfl fun r=>za0 (I (W (a0.tmod 10))) r (fun R=>zb6 r rfl ti5 ti3) rfl fun fr r=>kB r rfl rfl rfl rfl rfl fun r=>kF 0 r rfl zlp rfl fun r=>?_));refine zaJ (.cells ((zp8 ({ pL0 with buckets:=(W (1+(W (a0.tmod 10)))) }))).toArray 23 (0,0)) r (fun R=>zaB r (o:=4) (v:=(I (W (1+(W (a0.tmod 10)))))) rfl rfl (hP.cell (i:=2) rfl) ts3 ak rfl rfl) rfl fun fr w23 u24 r=>?_
 have hP:Post No [_,_,zpb b17 ((zp8 ({ pL0 with buckets:=(W (1+(W (a0.tmod 10)))) }))).toArray 23] w0 w23:=hP.upd (i:=2) rfl u24
 obtain ⟨x25,hx25,hD⟩:=zaj hD;have ex25:=Option.some.inj hx25;rw [ex25] at hP
 refine wn (aa ?_);obtain ⟨x26,hx26,hD⟩:=zaj hD;obtain ⟨x29,hx29,hD⟩:=zaj hD;refine zcZ [.val (aq (zp8 pL0)),.pred (MkP (fun mg27:MG=>(zp mg27.mb)) (fun mg27:MG=>[memK mg27 x26])) (MkP.st _ _),.val (aq (zp8 x25)),.pred (MkP (fun mg30:MG=>(zp mg30.mb)) (fun mg30:MG=>[memK mg30 x29])) (MkP.st _ _),.dep 1 (fun u v=>v=u),.dep 3 (fun u v=>v=u)] mixed r kz ?_ ?_
 ·
  refine fc r (fun fr1 g w' hb' hd r'=>zab r' (cs:=(zp8 pL0)) (n:=6) rfl ((hP.below (dr hb')).cell (i:=1) rfl) ta23 rfl bz) ?_;refine fc r (fun fr1 g w' hb' hd r'=>zaA r' (args:=[(aq (zp8 pL0))]) (lc (hd 0 rfl).1 l0) cl14 ((zdu _ pL0 hx26).mono yas)) ?_
  refine fc r (fun fr1 g w' hb' hd r'=>zab r' (cs:=(zp8 x25)) (n:=6) rfl ((hP.below (dr hb')).cell (i:=2) rfl) ta23 rfl bz) ?_;refine fc r (fun fr1 g w' hb' hd r'=>zaA r' (args:=[(aq (zp8 x25))]) (lc (hd 2 rfl).1 l0) cl14 ((zdu _ x25 hx29).mono yas)) ?_
  refine fc r (fun fr1 g w' hb' hd r'=>zbO r' rfl bz) ?_;refine fc r (fun fr1 g w' hb' hd r'=>zbO r' rfl bz) ?_
  exact zb3
 intro fr gg w32 hb hΦ hap r;obtain ⟨mg27,g1,hs1⟩:=(hΦ 1 rfl).1;obtain ⟨mg30,g3,hs3⟩:=(hΦ 3 rfl).1;have g4:(gg 4).v=(zp mg27.mb):=Eq.trans (show (gg 4).v=(gg 1).v from (hΦ 4 rfl).1) g1
 have g5:(gg 5).v=(zp mg30.mb):=Eq.trans (show (gg 5).v=(gg 3).v from (hΦ 5 rfl).1) g3
 have r:=r.congr (sc g5 (sc g4 (sc g3 (sc ((hΦ 2 rfl).1) (sc g1 (sc ((hΦ 0 rfl).1) rfl))))));have hP:Post No [_,_,zpb b17 ((zp8 x25)).toArray 23,memK mg27 x26,memK mg30 x29] w0 w32:=hP.addL (l:=[([memK mg27 x26],(gg 1).lo,(gg 1).hi),([memK mg30 x29],(gg 3).lo,(gg 3).hi)]) hb ⟨hs1,(hΦ 1 rfl).2.1,(zjO (hap 1 3 rfl) ze3),⟨hs3,(hΦ 3 rfl).2.1,ze3,trivial⟩⟩;refine aa (wsr (kM (zp mg27.mb) r rfl rfl fun r=>kB r rfl rfl rfl rfl rfl fun r=>kM (.bool false) r rfl rfl fun r=>?_));refine s1 r (rfl:false=_) (kM (zp mg30.mb) r rfl rfl fun r=>?_)
 refine s1 r (rfl:false=_) (kB r rfl rfl rfl rfl rfl fun r=>za0 (.bool false) r (fun R=>zaG r (b:=false) (kb (rfl:false=_)) rfl) rfl fun fr r=>wn ?_);refine ae (t:=false) (r.ev rfl) (fun h=>absurd ((rfl:false=_).symm.trans h) ke) (fun _=>ag (aa (wsr (kA (I 0) r rfl rfl fun r=>wn ?_))))
 refine zdT (X:=Bool × Int × Mem × Mem) (G:=Unit) (x0:=(false,0,x26,x29)) (fun x γ=>[(0,(.int .u8 a0)),(1,a1v),(16,(.bool x5)),(5,(zp b11)),(6,(zp b17)),(7,(zp mg27.mb)),(8,(zp mg30.mb)),(34,(.bool false)),(4,(.bool x.1)),(9,(I x.2.1))]) (fun x γ w=>Post No [roK 101 3 zpF a1v a1,zpb b11 ((zp8 pL0)).toArray 23,zpb b17 ((zp8 x25)).toArray 23,memK mg27 x.2.2.1,memK mg30 x.2.2.2] w0 w) () r (kO (kO (zai rfl (zai rfl zaO)))) hP hD ?_ ?_
 ·
  rintro x33 γ34 fr w36 g y35 RPy35 nxy35 bky35 rty35 r hP hD;have hP:Post No [_,_,_,_,_] w0 w36:=hP;refine aa (wsr (kM (I x33.2.1) r rfl rfl fun r=>kM a1v r rfl rfl fun r=>za0 (I (a1.length:Int)) r (fun R=>zcN r (hP.ro (i:=0) rfl) is98 rfl) rfl fun fr r=>kB r rfl rfl rfl rfl rfl fun r=>wn ?_));refine ae (t:=(decide (x33.2.1<(a1.length:Int)))) (r.ev rfl) (fun h37=>?_) (fun h37=>?_)
  ·
   have hD:=(zaq h37).symm.trans hD;refine ag (aa (wp_block (aa ?_)));obtain ⟨x38,hx38,hD⟩:=zaj hD;obtain ⟨x39,hx39,hD⟩:=zaj hD;obtain ⟨x40,hx40,hD⟩:=zaj hD;refine zes 13 (fun b=>b∈mg27.bs) [.val (aq (zp8 pL0)),.val (zp mg27.mb),.val a1v,.val (I x33.2.1),.val (.pointer (some ⟨rowB a1v,rowO a1v+x33.2.1.toNat * 3,none⟩)),.val (aq (zpF x38)),.eff (EffP w36.heap.size (memK mg27 x39.2) (fun _:Unit=>(aq (resC x39.1))) (fun _:Unit=>[])) (EffP.st _ _ _ _),.val (aq (zp8 x25)),.val (zp mg30.mb),.val a1v,.val (I x33.2.1),.val (.pointer (some ⟨rowB a1v,rowO a1v+x33.2.1.toNat * 3,none⟩)),.val (aq (zpF x40))] mixed r (fun b hb=>hP.sep.lt (i:=3) rfl (.inl hb)) kz ?_ ?_
   ·
    refine zbc r rfl kz (fun fr1 g w' hb' hd r'=>?_) ?_
    · exact zab r' (cs:=(zp8 pL0)) (n:=6) rfl ((hP.below (dr hb')).cell (i:=1) rfl) ta23 rfl bz
    refine zbc r rfl kz (fun fr1 g w' hb' hd r'=>?_) ?_
    · exact zap r' (v:=(zp mg27.mb)) rfl bz
    refine zax r rfl (fun fr1 g w' hk' hd r'=>?_) ?_
    · exact zap r' (v:=a1v) rfl bz
    refine zax r rfl (fun fr1 g w' hk' hd r'=>?_) ?_
    · exact zap r' (v:=(I x33.2.1)) rfl bz
    refine zax r rfl (fun fr1 g w' hk' hd r'=>?_) ?_
    · exact zc8 r' (show RoAt 0 _ _ _ _ _ from hP.okK (j:=3) rfl (drK hk') (i:=0) rfl rfl) hx38 sl98 (hd 2 rfl).1 (hd 3 rfl).1 bz
    refine zbc r rfl kz (fun fr1 g w' hb' hd r'=>?_) ?_
    · exact zds r' (cs:=(zpF x38)) (RoAt.at_ (f:=zpF) (x:=x38) ((hP.below (dr hb')).ro (i:=0) rfl) (fun _=>rfl) hx38) (hd 4 rfl).1 zr5 bz
    refine zbc r rfl kz (fun fr1 g w' hb' hd r'=>?_) ?_
    · exact zaA r' (args:=[(aq (zp8 pL0)),(zp mg27.mb),(I 0),(aq (zpF x38))]) (lc (hd 0 rfl).1 (lc (hd 1 rfl).1 (lc rfl (lc (hd 5 rfl).1 l0)))) cl46 ((zf9 _ pL0 x33.2.2.1 0 x38 ((hP.below (dr hb')).sep.pk [3] rfl rfl) hx39).mono (by rintro _ w2 ⟨rfl,hq⟩; exact ⟨_,rfl,hq.chg.kept,EffP.of () hq rfl (fun b hb=>hP.sep.lt (i:=3) rfl hb)⟩))
    refine zax r rfl (fun fr1 g w' hk' hd r'=>?_) ?_
    · exact zab r' (cs:=(zp8 x25)) (n:=6) rfl (hP.cellK (j:=3) rfl (drK hk') (i:=2) rfl rfl) ta23 rfl bz
    refine zax r rfl (fun fr1 g w' hk' hd r'=>?_) ?_
    · exact zap r' (v:=(zp mg30.mb)) rfl bz
    refine zax r rfl (fun fr1 g w' hk' hd r'=>?_) ?_
    · exact zap r' (v:=a1v) rfl bz
    refine zax r rfl (fun fr1 g w' hk' hd r'=>?_) ?_
    · exact zap r' (v:=(I x33.2.1)) rfl bz
    refine zax r rfl (fun fr1 g w' hk' hd r'=>?_) ?_
    · exact zc8 r' (show RoAt 0 _ _ _ _ _ from hP.okK (j:=3) rfl (drK hk') (i:=0) rfl rfl) hx40 sl98 (hd 9 rfl).1 (hd 10 rfl).1 bz
    refine zax r rfl (fun fr1 g w' hk' hd r'=>?_) ?_
    · exact zds r' (cs:=(zpF x40)) (RoAt.at_ (f:=zpF) (x:=x40) (show RoAt 0 _ _ _ _ _ from hP.okK (j:=3) rfl (drK hk') (i:=0) rfl rfl) (fun _=>rfl) hx40) (hd 11 rfl).1 zr5 bz
    exact zb3
   intro fr gg w41 hb hΦ hap r;obtain ⟨⟨⟩,g6,hcE,_,hs6⟩:=(hΦ 6 rfl).1;have r:=r.congr (sc ((hΦ 12 rfl).1) (sc ((hΦ 11 rfl).1) (sc ((hΦ 10 rfl).1) (sc ((hΦ 9 rfl).1) (sc ((hΦ 8 rfl).1) (sc ((hΦ 7 rfl).1) (sc g6 (sc ((hΦ 5 rfl).1) (sc ((hΦ 4 rfl).1) (sc ((hΦ 3 rfl).1) (sc ((hΦ 2 rfl).1) (sc ((hΦ 1 rfl).1) (sc ((hΦ 0 rfl).1) rfl)))))))))))));have hP:Post No [_,_,_,memK mg27 x39.2,_] w0 w41:=hP.effL (i:=3) (l:=[]) rfl hb hcE rfl rfl trivial;obtain ⟨x42,hx42,hD⟩:=zaj hD;refine kC r (zf9 w41 x25 x33.2.2.2 0 x40 (hP.sep.pk [4] rfl rfl) hx42) rfl cl46 rfl ?_;rintro _ w43 ⟨rfl,hq⟩;refine ⟨_,rfl,fun fr r=>?_⟩
   have hP:Post No [_,_,_,_,memK mg30 x42.2] w0 w43:=hP.setN (i:=4) rfl hq;refine kB r rfl rfl (run_eqGuard_agg _ _ _ _ _ _ _ eg36) (zt3 _ _ _).2 rfl fun r=>wn ?_;refine ae (t:=(!(x39.1==x42.1))) (r.ev rfl) (fun h44=>?_) (fun h44=>?_)
   ·
    have hD:=(zaq h44).symm.trans hD;refine wsr (kA (.bool false) r rfl rfl fun r=>wn (ac ?_));refine rty35 false _ _ hD fun hD=>?_
    have hv:false=res:=Option.some.inj hD
    try dsimp only [Exit.then,Exit.inBlock]
    refine zaC (fn:=Tryz.f7) r (t:=4) rfl (v:=(.bool false)) rfl ?_;subst hv;exact ⟨rfl,hP.chg.below⟩
   have hD:=(zar h44).symm.trans hD;refine ag ?_;refine af (kM (I x33.2.1) r rfl rfl fun r=>kB r rfl rfl rfl rfl rfl fun r=>kA (I (W (x33.2.1+1))) r rfl rfl fun r=>wn ?_);exact nxy35 (x33.1,(W (x33.2.1+1)),x39.2,x42.2) () _ _ _ hD r (kO (kO (zai rfl (zai rfl zaO)))) (hP.pick [0,1,2,3,4] rfl rfl)
  have hD:=(zar h37).symm.trans hD;refine wp_exit ?_;exact bky35 (x33.1,x33.2.1,x33.2.2.1,x33.2.2.2) () _ _ _ hD r (kO (kO (zai rfl (zai rfl zaO)))) (hP.pick [0,1,2,3,4] rfl rfl)
 rintro x45 γ46 fr w47 g r hP hD;have hP:Post No [_,_,_,_,_] w0 w47:=hP;refine aa ?_;obtain ⟨x48,hx48,hD⟩:=zaj hD;obtain ⟨x51,hx51,hD⟩:=zaj hD;obtain ⟨x54,hx54,hD⟩:=zaj hD;refine zcZ [.val (aq (zp8 pL0)),.val (zp mg27.mb),.pred (MkP (fun v49:Value=>v49) (fun v49:Value=>[rowK 104 2 zpn v49 x48])) (MkP.st _ _),.val (aq (zp8 x25)),.val (zp mg30.mb),.pred (MkP (fun v52:Value=>v52) (fun v52:Value=>[rowK 104 2 zpn v52 x51])) (MkP.st _ _),.val (.bool x54),.val (.bool x54)] mixed r kz ?_ ?_
 ·
  refine fc r (fun fr1 g w' hb' hd r'=>zab r' (cs:=(zp8 pL0)) (n:=6) rfl ((hP.below (dr hb')).cell (i:=1) rfl) ta23 rfl bz) ?_;refine fc r (fun fr1 g w' hb' hd r'=>zap r' rfl bz) ?_
  refine fc r (fun fr1 g w' hb' hd r'=>zaA r' (args:=[(aq (zp8 pL0)),(zp mg27.mb),(I 0),(I 0)]) (lc (hd 0 rfl).1 (lc (hd 1 rfl).1 (lc rfl (lc rfl l0)))) cl47 ((zft _ pL0 x45.2.2.1 ((hP.below (dr hb')).mem (i:=3) rfl) 0 0 hx48).mono yas)) ?_;refine fc r (fun fr1 g w' hb' hd r'=>zab r' (cs:=(zp8 x25)) (n:=6) rfl ((hP.below (dr hb')).cell (i:=2) rfl) ta23 rfl bz) ?_
  refine fc r (fun fr1 g w' hb' hd r'=>zap r' rfl bz) ?_;refine fc r (fun fr1 g w' hb' hd r'=>zaA r' (args:=[(aq (zp8 x25)),(zp mg30.mb),(I 0),(I 0)]) (lc (hd 3 rfl).1 (lc (hd 4 rfl).1 (lc rfl (lc rfl l0)))) cl47 ((zft _ x25 x45.2.2.2 ((hP.below (dr hb')).mem (i:=4) rfl) 0 0 hx51).mono yas)) ?_
  refine fc r (fun fr1 g w' hb' hd r'=>zaA r' (args:=[(g 2).v,(g 5).v]) (lc rfl (lc rfl l0)) cl41 ((zhQ _ x48 (MkP.row (hd 2 rfl).1) x51 (MkP.row (hd 5 rfl).1) hx54).mono yab)) ?_;refine fc r (fun fr1 g w' hb' hd r'=>zbO r' (hd 6 rfl).1 bz) ?_
  exact zb3
 intro fr gg w55 hb hΦ hap r;obtain ⟨v49,g2,hs2⟩:=(hΦ 2 rfl).1;obtain ⟨v52,g5,hs5⟩:=(hΦ 5 rfl).1;have r:=r.congr (sc ((hΦ 7 rfl).1) (sc ((hΦ 6 rfl).1) (sc g5 (sc ((hΦ 4 rfl).1) (sc ((hΦ 3 rfl).1) (sc g2 (sc ((hΦ 1 rfl).1) (sc ((hΦ 0 rfl).1) rfl))))))));have hP:Post No [_,_,_,_,_,rowK 104 2 zpn v49 x48,rowK 104 2 zpn v52 x51] w0 w55:=hP.addL (l:=[([rowK 104 2 zpn v49 x48],(gg 2).lo,(gg 2).hi),([rowK 104 2 zpn v52 x51],(gg 5).lo,(gg 5).hi)]) hb ⟨hs2,(hΦ 2 rfl).2.1,(zjO (hap 2 5 rfl) ze3),⟨hs5,(hΦ 5 rfl).2.1,ze3,trivial⟩⟩;refine ac ?_;have hv:x54=res:=Option.some.inj hD
 try dsimp only [Exit.then,Exit.inBlock]
 refine zaC (fn:=Tryz.f7) r (t:=4) rfl (v:=(.bool x54)) rfl ?_;subst hv;exact ⟨rfl,hP.chg.below⟩
end Go.Proofs.YtbbipmelhmgmfaaGreat.Wk

/- Ours. -/
namespace Go.Proofs.YtbbipmelhmgmfaaGreat
open Go.RowKit
def pq (b:Int):Plan:=⟨40,1,4,1,b,1000⟩
theorem pqF {b:Int} (h:1≤b∧b≤10):PF (pq b):=by
 have:b=1∨b=2∨b=3∨b=4∨b=5∨b=6∨b=7∨b=8∨b=9∨b=10:=kw
 rcases this with rfl | rfl | rfl | rfl | rfl | rfl | rfl | rfl | rfl | rfl <;> exact zmA (by decide +kernel)
theorem zjd (n:Int) (l:List CallD) (hn:0≤n∧n≤255) (hb:∀ x,x∈l→(0≤x.kind∧x.kind≤255)∧(0≤x.k∧x.k≤18446744073709551615)∧(0≤x.v∧x.v≤18446744073709551615)):∃ fu,Wk.D.zbL fu n l=some true:=by
 refine ⟨4000,?_⟩;unfold Wk.D.zbL;rw [znV];simp only [Option.bind_some,Bool.not_true,cond_false];cases hl:decide ((l.length:Int) > 30)
 case true=>rfl
 simp only [decide_eq_false_iff_not] at hl
 simp only [cond_false]
 have hm:0≤n.tmod 10∧n.tmod 10<10:=by
  rw [Int.tmod_eq_emod_of_nonneg hn.1]
  exact ⟨Int.emod_nonneg _ kw,Int.emod_lt_of_pos _ kw⟩
 obtain ⟨b,hbe,hb1⟩:∃ b,IntKind.i64.wrap (1+IntKind.i64.wrap (n.tmod 10))=b∧1≤b∧b≤10:=by
  refine ⟨_,rfl,?_⟩;rw [zaQ (x:=n.tmod 10) kw kw,zaQ kw kw];omega
 rw [hbe]
 rw [show (⟨40,1,4,1,1,1000⟩:Plan)=pq 1 from rfl,show (⟨40,1,4,1,b,1000⟩:Plan)=pq b from rfl]
 have h1:=pqF (b:=1) kw
 have h2:=pqF hb1;have few:∀ b,1≤b∧b≤10→(pq b).nodes≤40∧(pq b).retire≤40∧(pq b).domains≤6∧(pq b).buckets≤10:=fun b hb=>⟨by show (40:Int)≤40; omega,by show (4:Int)≤40; omega,by show (1:Int)≤6; omega,hb.2⟩
 have hd:∀ b,(0:Int)≤0∧0<(pq b).domains:=fun b=>⟨Int.le_refl _,by show (0:Int)<1; omega⟩
 obtain ⟨M,hM,hS1⟩:=MapS.start h1 (few 1 kw) (hd 1);obtain ⟨O,hO,hS2⟩:=MapS.start h2 (few b hb1) (hd b);rw [hM,hO];simp only [Option.bind_some];refine zjj (fun o=>o=some true) (fun (i:Nat) (x:Bool × Int × Mem × Mem)=>∃ (c:Bool) (M O:Mem) (E:List Entry),x=(c,(i:Int),M,O)∧MapS (pq 1) 0 M E i∧MapS (pq b) 0 O E i) l.length 4000 ⟨false,M,O,[],rfl,hS1,hS2⟩ kw ?_ ?_
 ·rintro i _ hi ⟨c,M,O,E,rfl,hS1,hS2⟩
  simp only
  obtain ⟨-,hkb,-⟩:=hb _ (List.getElem_mem hi);have hn40:∀ b,(pq b).nodes=40:=fun _=>rfl
  obtain ⟨M',hM',hS1'⟩:=hS1.run h1 (few 1 kw) (hd 1) (by rw [hn40]; omega) hkb;obtain ⟨O',hO',hS2'⟩:=hS2.run h2 (few b hb1) (hd b) (by rw [hn40]; omega) hkb;rw [show decide ((i:Int)<(l.length:Int))=true from by simp; omega,zaQ (show -1000000≤(i:Int)+1 by omega) kw,zmg hi]
  simp only [cond_true,Option.bind_some]
  rw [hM']
  simp only [Option.bind_some]
  rw [hO']
  simp only [Option.bind_some]
  rw [show (ansE l[i] E==ansE l[i] E)=true from by simp]
  exact ⟨_,rfl,c,M',O',_,by simp,hS1',hS2'⟩
 ·rintro _ ⟨c,M,O,E,rfl,hS1,hS2⟩
  simp only
  rw [show decide ((l.length:Int)<(l.length:Int))=false from by simp]
  refine ⟨_,rfl,?_⟩;simp only;obtain ⟨e1,e3⟩:=hS1.entries h1 (few 1 kw) (hd 1);obtain ⟨e2,_⟩:=hS2.entries h2 (few b hb1) (hd b);rw [e1];simp only [Option.bind_some];rw [e2];simp only [Option.bind_some];rw [zoY kw kw]
  rfl
end Go.Proofs.YtbbipmelhmgmfaaGreat

/- Ours. -/
namespace Go.Proofs.YtbbipmelhmgmfaaGreat
open Go.ChangeShapes Go.WideShapes Go.RowKit Go.Deep Go.ChangeAt
theorem zs0 {α:Type} {l:List α} (h:l.length=3):∃ x0 x1 x2,l=[x0,x1,x2]:=by
 match l,h with
 | [x0,x1,x2],_=>exact ⟨x0,x1,x2,rfl⟩
theorem laidOut:laidOutB Tryz.prog:=kz
end Go.Proofs.YtbbipmelhmgmfaaGreat

/- Ours. -/
namespace Go.Proofs.YtbbipmelhmgmfaaGreat
open Go.ChangeShapes Go.WideShapes Go.ChangeAt Go.RowKit
def ioN:List Nat:=[104,97,114,110,101,115,115,32,52,55,55,53,50,49,53,100,50,97,49,57,51,99,54,57,101,51,99,52,55,102,55,54,54,49,55,51,101,57,97,53,57,54,99,52,51,56,52,52,48,100,52,50,97,52,53,57,98,102,50,52,51,54,57,53,101,49,101,99,57,101,52,52,32,99,117,116,32,97,116,32,99,117,98,105,99,108,101,47,99,117,98,105,99,108,101,108,97,119,49,55,46,68,111,109,97,105,110,77,97,110,121,32,99,117,98,105,99,108,101,47,99,117,98,105,99,108,101,108,97,119,49,51,46,67,104,101,99,107,65,108,111,110,101,32,99,117,98,105,99,108,101,47,99,117,98,105,99,108,101,108,97,119,49,53,46,76,105,115,116,65,108,111,110,101,32,99,117,98,105,99,108,101,47,99,117,98,105,99,108,101,108,97,119,49,54,46,68,105,99,116,67,101,108,108,115,32,99,117,98,105,99,108,101,47,99,117,98,105,99,108,101,108,97,119,49,54,46,68,105,99,116,66,117,99,107,101,116,115,32,99,117,98,105,99,108,101,47,99,117,98,105,99,108,101,108,97,119,49,54,46,68,105,99,116,65,112,97,114,116,32,99,117,98,105,99,108,101,47,99,117,98,105,99,108,101,108,97,119,49,54,46,68,105,99,116,65,108,111,110,101,32,99,117,98,105,99,108,101,47,99,117,98,105,99,108,101,108,97,119,49,55,46,68,111,109,97,105,110,79,100,100,32,99,117,98,105,99,108,101,47,99,117,98,105,99,108,101,108,97,119,49,50,46,65,108,108,111,99,77,97,110,121]
theorem io1:Tryz.prog.initOrder=String.ofList (ioN.map Char.ofNat):=kz
theorem io2:Tryz.prog.initOrder.toList=ioN.map Char.ofNat:=by rw [io1,String.toList_ofList]
theorem io3:behindMainWord (wordsSigns Tryz.prog.initOrder.toList)=(([99,117,116]:List Nat).map Char.ofNat)::([[97,116],[99,117,98,105,99,108,101,47,99,117,98,105,99,108,101,108,97,119,49,55,46,68,111,109,97,105,110,77,97,110,121],[99,117,98,105,99,108,101,47,99,117,98,105,99,108,101,108,97,119,49,51,46,67,104,101,99,107,65,108,111,110,101],[99,117,98,105,99,108,101,47,99,117,98,105,99,108,101,108,97,119,49,53,46,76,105,115,116,65,108,111,110,101],[99,117,98,105,99,108,101,47,99,117,98,105,99,108,101,108,97,119,49,54,46,68,105,99,116,67,101,108,108,115],[99,117,98,105,99,108,101,47,99,117,98,105,99,108,101,108,97,119,49,54,46,68,105,99,116,66,117,99,107,101,116,115],[99,117,98,105,99,108,101,47,99,117,98,105,99,108,101,108,97,119,49,54,46,68,105,99,116,65,112,97,114,116],[99,117,98,105,99,108,101,47,99,117,98,105,99,108,101,108,97,119,49,54,46,68,105,99,116,65,108,111,110,101],[99,117,98,105,99,108,101,47,99,117,98,105,99,108,101,108,97,119,49,55,46,68,111,109,97,105,110,79,100,100],[99,117,98,105,99,108,101,47,99,117,98,105,99,108,101,108,97,119,49,50,46,65,108,108,111,99,77,97,110,121]]:List (List Nat)).map (List.map Char.ofNat):=by rw [io2]; kernel_rfl
theorem stripG (r:List (List Char)):stripLifts liftWords (([99,117,116].map Char.ofNat)::r)=([],([99,117,116].map Char.ofNat)::r):=by rfl
theorem makeG {P:Program} {r:List (List Char)} (h:behindMainWord (wordsSigns P.initOrder.toList)=([99,117,116].map Char.ofNat)::r):P.make=some .cut:=by
  unfold Program.make;rw [h]
  rfl
theorem liftsG {P:Program} {r:List (List Char)} (h:behindMainWord (wordsSigns P.initOrder.toList)=([99,117,116].map Char.ofNat)::r):P.liftsFinal=false:=by
  unfold Program.liftsFinal Program.headLifts;rw [h,stripG]
  rfl
theorem enterG {P:Program} {r:List (List Char)} (h:behindMainWord (wordsSigns P.initOrder.toList)=([99,117,116].map Char.ofNat)::r) (h1:P.laysLater=false) (h2:P.bearsReflect=false) (h3:P.doorFits []=true):P.mayEnter=true:=by
  unfold Program.mayEnter;rw [h];simp only [stripG,h1,h2,h3]
  rfl
theorem e1:Tryz.prog.laysLater=false:=kz
theorem e2:Tryz.prog.bearsReflect=false:=kz
theorem e3:Tryz.prog.doorFits []=true:=kz
theorem zoE:Tryz.prog.make=some .cut:=makeG io3
theorem znP:Tryz.prog.liftsFinal=false:=liftsG io3
theorem znY:Tryz.prog.mayEnter=true:=enterG io3 e1 e2 e3
theorem zoz:mapsRowed Tryz.prog:=kz
theorem znI:Tryz.prog.stopsHeard=true:=kz
end Go.Proofs.YtbbipmelhmgmfaaGreat

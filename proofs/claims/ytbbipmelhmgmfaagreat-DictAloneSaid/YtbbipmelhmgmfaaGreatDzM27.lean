/- Some of our texts, one behind the other. -/
import Derived.Test.YtbbipmelhmgmfaaGreatDzM26
import Derived.Test.YtbbipmelhmgmfaaGreatDzM24
import Derived.Test.YtbbipmelhmgmfaaGreatDzM16
import Derived.Test.YtbbipmelhmgmfaaGreatDzMem
import Derived.Test.YtbbipmelhmgmfaaGreatDzM15
import Derived.Test.YtbbipmelhmgmfaaGreatDzM22
set_option linter.all false
set_option maxRecDepth 100000
set_option maxHeartbeats 20000000
/- Ours. -/
namespace Go.Proofs.YtbbipmelhmgmfaaGreat
open Go.RowKit
theorem Dp {p:Plan} (hp:PF p) {d k:Int} (hd:0<=d/\d<p.domains) (hk:0<=k/\k<=18446744073709551615):D.dB p d k=mc p d (k % p.buckets):=by
 have hb1:=hp.b1;have hb2:=hp.b2;have h0:0<=k % p.buckets:=Int.emod_nonneg _ O
 have h1:k % p.buckets<p.buckets:=Int.emod_lt_of_pos _ O
 have hbc:p.buckets<=D.bE p:=by unfold D.bE maxI; split <;> omega
 unfold D.dB;rw [lI.2 hp];simp only [Bool.not_true,cond_false];rw [cX (x:=p.buckets) O O,Int.tmod_eq_emod_of_nonneg hk.1,bW (x:=k % p.buckets) O O,wS hp,if_pos ⟨hd,h0,O⟩]
 rfl
def cat (p:Plan) (ws N:List Int):Nat->List Int
 | 0=>[]
 | b+1=>cat p ws N b++bk p ws (b:Int) N
theorem ra {p:Plan} (hp:PF p) {ws N:List Int}:∀ b:Nat,(cat p ws N b).Perm (N.filter fun q=>decide (rd ws (fp p q 0) % p.buckets<(b:Int)))
 | 0=>by
  have:(N.filter fun q=>decide (rd ws (fp p q 0) % p.buckets<((0:Nat):Int)))=[]:=List.filter_eq_nil_iff.2 fun q _=>by
   have hb1:=hp.b1;have:0<=rd ws (fp p q 0) % p.buckets:=Int.emod_nonneg _ O
   simp only [decide_eq_true_eq]; omega
  rw [this]
  exact .refl _
 | b+1=>by
  have h1:=ra hp (ws:=ws) (N:=N) b;have h2:=List.filter_append_perm (fun q=>decide (rd ws (fp p q 0) % p.buckets<(b:Int))) (N.filter fun q=>decide (rd ws (fp p q 0) % p.buckets<((b+1:Nat):Int)))
  rw [List.filter_filter,List.filter_filter] at h2
  have e1:(N.filter fun q=>decide (rd ws (fp p q 0) % p.buckets<(b:Int))&&decide (rd ws (fp p q 0) % p.buckets<((b+1:Nat):Int)))=N.filter fun q=>decide (rd ws (fp p q 0) % p.buckets<(b:Int)):=List.filter_congr fun q _=>by
   rw [Bool.eq_iff_iff]; simp only [Bool.and_eq_true,decide_eq_true_eq]; omega
  have e2:(N.filter fun q=>!decide (rd ws (fp p q 0) % p.buckets<(b:Int))&&decide (rd ws (fp p q 0) % p.buckets<((b+1:Nat):Int)))=bk p ws (b:Int) N:=List.filter_congr fun q _=>by
   unfold inB;rw [Bool.eq_iff_iff]; simp only [Bool.and_eq_true,decide_eq_true_eq,Bool.not_eq_true',decide_eq_false_iff_not,beq_iff_eq]; omega
  rw [e1,e2] at h2
  exact (List.Perm.append_right _ h1).trans h2
theorem CA {p:Plan} (hp:PF p) (hnn:p.nodes<=1000) {M:Mem} {t g d:Int} {P:Pool} {N:List Int} (h:Ko p t M.ws P g d N) (hd:0<=d/\d<p.domains) {fu:Nat} (hfu:1001<fu):D.iK fu p M 0 d=some (IB p M.ws N):=by
 have hb1:=hp.b1;have hb2:=hp.b2;have hn1:=hp.n1;obtain ⟨z1,z2,z3,z4⟩:=cE hp;have hlen:=h.j6 hp;have ht1:=hp.t1;have hcl:∀ b,(cat p M.ws N b).length<=N.length:=fun b=>by
  rw [(ra hp b).length_eq]; exact List.length_filter_le ..
 have hall:(cat p M.ws N p.buckets.toNat).Perm N:=by
  have h1:=ra hp (ws:=M.ws) (N:=N) p.buckets.toNat;have e:(N.filter fun q=>decide (rd M.ws (fp p q 0) % p.buckets<((p.buckets.toNat:Nat):Int)))=N:=List.filter_eq_self.2 fun q _=>by
   have:rd M.ws (fp p q 0) % p.buckets<p.buckets:=Int.emod_lt_of_pos _ O
   simp only [decide_eq_true_eq]; omega
  rw [e] at h1
  exact h1
 unfold D.iK;refine iV (fun o=>o=some (IB p M.ws N)) (fun (i:Nat) (x:List Entry × Int)=>x=(IB p M.ws (cat p M.ws N i),(i:Int))) p.buckets.toNat fu rfl O ?_ ?_
 ·rintro i _ hi rfl
  have hb:0<=(i:Int)/\(i:Int)<p.buckets:=O
  have c1:=je hp hd hb;have hbc:p.buckets<=D.bE p:=by unfold D.bE maxI; split <;> omega
  have hce:D.eO p d (i:Int)=mc p d (i:Int):=by rw [wS hp,if_pos ⟨hd,hb.1,O⟩]; rfl
  have hli:(bk p M.ws (i:Int) N).length<=N.length:=List.length_filter_le ..;simp only;rw [decide_eq_true hb.2,hce,CI hp hnn h.pool.free.len ⟨O,O⟩ (h.link _ hb.1 hb.2) O hfu]
  simp only [cond_true,Option.bind_some]
  have ha:JW (IB p M.ws (cat p M.ws N i)) (IB p M.ws (bk p M.ws (i:Int) N))=some (IB p M.ws (cat p M.ws N (i+1))):=by
   have:=hcl i;unfold JW;rw [if_pos (by simp only [jY,IB,List.length_map]; omega)]
   rw [show cat p M.ws N (i+1)=cat p M.ws N i++bk p M.ws (i:Int) N from rfl]
   unfold IB;rw [List.map_append]
  rw [ha]
  simp only [Option.bind_some]
  rw [bW (show -1000000<=(i:Int)+1 by omega) O]
  exact ⟨_,rfl,by simp⟩
 ·rintro _ rfl
  simp only
  rw [show decide (((p.buckets.toNat:Nat):Int)<p.buckets)=false from by simp; omega]
  refine ⟨_,rfl,?_⟩;simp only;have hpm:(IB p M.ws N).Perm (IB p M.ws (cat p M.ws N p.buckets.toNat)):=(List.Perm.map _ hall).symm;have hnd:((IB p M.ws (cat p M.ws N p.buckets.toNat)).map Entry.key).Nodup:=by
   refine ((List.Perm.map Entry.key hpm).nodup_iff).1 ?_;exact List.pairwise_map.2 (h.inc.imp fun h=>O)
  have hcl':=hcl p.buckets.toNat;have hs:sortD (IB p M.ws (cat p M.ws N p.buckets.toNat))=some (sortK (IB p M.ws (cat p M.ws N p.buckets.toNat))):=by
   unfold sortD;rw [if_pos ⟨by unfold IB; rw [List.length_map]; omega,hnd⟩]
  obtain ⟨e,_⟩:=oC hs hpm (h.inc.imp fun h=>O)
  rw [hs,e]
  rfl
theorem Ko.start {p:Plan} (hp:PF p) {ws:List Int} (h:LaidAt p ws) {t:Int} (ht:0<=t/\t<p.threads) {d:Int} (hd:0<=d/\d<p.domains):Ko p t ws ⟨allN p,[],fun _=>⟨0,0,0⟩⟩ 0 d []/\Alone p ws:=by
 obtain ⟨z1,z2,z3,z4⟩:=cE hp;have hb1:=hp.b1;have hw:∀ b,0<=b->b<p.buckets->rd ws (mc p d b)=0:=fun b b0 b1=>by
  have c1:=je hp hd ⟨b0,b1⟩;exact h.zero _ O (fun m m0 m1=>O)
 obtain ⟨hA,hal⟩:=LAt.start hp h ht (hw 0 O O);exact ⟨⟨hA.pool,hA.own,List.nodup_nil,fun q hq=>(by cases hq),List.Pairwise.nil,fun b b0 b1=>hw b b0 b1⟩,hal⟩
theorem cl90:af B0 90:=kz
theorem cl96:af B0 96:=kz
theorem cl97:af B0 97:=kz
theorem wD:ba B0 101 0 0:=kz
theorem kg:ba B0 101 1 1:=kz
theorem wW:ba B0 101 2 2:=kz
def D.fL (j:Nat) (a0:Je) (a1:Int) (a2:CallD):T IM:=(bif ((a2.kind.tmod 3)==0) then (D.gZ j a0 a1 a2.k a2.v) else (bif ((a2.kind.tmod 3)==1) then (D.oJ j a0 a1 a2.k) else (D.oL j a0 a1 a2.k)))
theorem zS {n:Nat} {F:Nat->Prop} {j:Nat} {w0:World} (hF:∀ b,F b->b<w0.heap.size) (hj:n<j)
    (a0:Je) (a1:Int) (a2:CallD) :
    Calls B0 49 #[z6 (bi a0),.int .i64 a1,z6 (dx a2)] w0 (av B0 aA n (D.fL j a0 a1 a2) F w0):=by
 refine kN Tryz.func49 rfl 31 rfl rfl fun fr r hB=>?_;refine I0 ?_
 refine kX 47 (z6 (bi a0)) r rfl rfl fun b1 w2 n3 r=>?_;obtain ⟨eb1,zw2,hb1,hB,zB⟩:=n3.all hB
 refine kX 101 (z6 (dx a2)) r rfl rfl fun b4 w5 n6 r=>?_;have hb1:=keep n6.below hb1
 obtain ⟨eb4,zw5,Jc,hB,zB⟩:=n6.all hB;refine ah (.cells (kq aA) 41 (0,0)) r (fun R=>ag JD) rfl fun fr b7 w8 n9 r=>?_;have hb1:=keep n9.below hb1
 have Jc:=keep n9.below Jc;obtain ⟨eb7,zw8,JA,hB,zB⟩:=n9.all hB;refine wn (d9 (I0 (kF 0 r rfl wD rfl fun r=>kL (.int .u8 a2.kind) r rfl Jc to5 rfl rfl fun r=>kB r rfl rfl rfl rfl rfl fun r=>wn (wp_block (I0 (kB r rfl rfl rfl rfl rfl fun r=>kA (.bool ((a2.kind.tmod 3)==0)) r rfl rfl fun r=>wn ?_))))));refine q5 (t:=((a2.kind.tmod 3)==0)) (r.ev rfl) (fun JS=>?_) (fun JS=>?_)
 ·
  refine I0 (kG (bi a0) 8 r rfl hb1 La rfl rfl fun r=>kM (I a1) r rfl rfl fun r=>kF 0 r rfl kg rfl fun r=>kL (U a2.k) r rfl Jc Ja rfl rfl fun r=>kF 0 r rfl wW rfl fun r=>kL (U a2.v) r rfl Jc Ja rfl rfl fun r=>?_);refine kJ r (uH (j:=j) (F:=No) (n:=n) (fun _ h=>h.elim) O a0 a1 a2.k a2.v) rfl cl90 rfl fun JV v12 hb KA r=>?_
  have hb:=hb.below;have zw11:=hb.size;have hb1:=keep hb hb1;have Jc:=keep hb Jc;have JA:=keep hb JA;obtain ⟨hB,zB⟩:=IQ hb hB;refine kP r KA.shape rfl rfl JA Ju rfl rfl fun w14 u15 r=>?_;have zw14:=u15.size
  have hb1:=u15.keep hb1 O
  have Jc:=u15.keep Jc O
  have JA:=u15.at_;obtain ⟨hB,zB⟩:=u15.on hB O
  refine wn (q4 ?_);have hd:D.fL j a0 a1 a2=(D.gZ j a0 a1 a2.k a2.v):=(ar JS).trans (rfl);have hs:=KA.shape.cells;refine ak r rfl rfl JA (k:=8) hs.1 Jt ?_;rw [<-hs.2.2,hd];exact av.fin (Jd.aS hB) KA u15 (fun _ h=>h.elim) (fun h=>h) O O O
 refine I0 (kB r rfl rfl rfl rfl rfl fun r=>kA (.bool ((a2.kind.tmod 3)==1)) r rfl rfl fun r=>wn ?_);refine q5 (t:=((a2.kind.tmod 3)==1)) (r.ev rfl) (fun h16=>?_) (fun h16=>?_)
 ·
  refine I0 (kG (bi a0) 8 r rfl hb1 La rfl rfl fun r=>kM (I a1) r rfl rfl fun r=>kF 0 r rfl kg rfl fun r=>kL (U a2.k) r rfl Jc Ja rfl rfl fun r=>?_);refine kJ r (Co (j:=j) (F:=No) (n:=n) (fun _ h=>h.elim) O a0 a1 a2.k) rfl cl96 rfl fun w17 v18 hb KI r=>?_
  have hb:=hb.below;have zw17:=hb.size;have hb1:=keep hb hb1;have Jc:=keep hb Jc;have JA:=keep hb JA;obtain ⟨hB,zB⟩:=IQ hb hB;refine kP r KI.shape rfl rfl JA Ju rfl rfl fun w20 u21 r=>?_;have zw20:=u21.size
  have hb1:=u21.keep hb1 O
  have Jc:=u21.keep Jc O
  have JA:=u21.at_;obtain ⟨hB,zB⟩:=u21.on hB O
  refine wn (q4 ?_);have hd:D.fL j a0 a1 a2=(D.oJ j a0 a1 a2.k):=(ai JS).trans ((ar h16).trans (rfl));have hs:=KI.shape.cells;refine ak r rfl rfl JA (k:=8) hs.1 Jt ?_;rw [<-hs.2.2,hd];exact av.fin (Jd.aS hB) KI u21 (fun _ h=>h.elim) (fun h=>h) O O O
 refine q7 (I0 (kG (bi a0) 8 r rfl hb1 La rfl rfl fun r=>kM (I a1) r rfl rfl fun r=>kF 0 r rfl kg rfl fun r=>kL (U a2.k) r rfl Jc Ja rfl rfl fun r=>?_));refine kJ r (Cr (j:=j) (F:=No) (n:=n) (fun _ h=>h.elim) O a0 a1 a2.k) rfl cl97 rfl fun w22 v23 hb hr24 r=>?_
 have hb:=hb.below;have zw22:=hb.size;have hb1:=keep hb hb1;have Jc:=keep hb Jc;have JA:=keep hb JA;obtain ⟨hB,zB⟩:=IQ hb hB;refine kP r hr24.shape rfl rfl JA Ju rfl rfl fun w25 u26 r=>?_;have zw25:=u26.size
 have hb1:=u26.keep hb1 O
 have Jc:=u26.keep Jc O
 have JA:=u26.at_;obtain ⟨hB,zB⟩:=u26.on hB O
 refine wn (q4 ?_);have hd:D.fL j a0 a1 a2=(D.oL j a0 a1 a2.k):=(ai JS).trans ((ai h16).trans (rfl));have hs:=hr24.shape.cells;refine ak r rfl rfl JA (k:=8) hs.1 Jt ?_;rw [<-hs.2.2,hd];exact av.fin (Jd.aS hB) hr24 u26 (fun _ h=>h.elim) (fun h=>h) O O O
abbrev pL0:Plan:=⟨2,1,4,1,2,1⟩
abbrev sL00:Je:=⟨pL0,0,0⟩
theorem cl47:af B0 47:=kz
theorem cl49:af B0 49:=kz
theorem Hn:tyA B0 101 3:=kz
def D.l5 (fu:Nat) :Option (Bool):=((D.jk fu (⟨2,1,4,1,2,1⟩:Plan)).bind (fun (x7:Mem)=>((D.jp fu x7 0).bind (fun (JP:Cap)=>((D.jz fu (fu,(D.gZ (fu+1) (⟨(⟨2,1,4,1,2,1⟩:Plan),0,0⟩:Je) 0 5 7)) x7 JP 99).bind (fun (K2:IM × Int × Bool × Mem)=>(Option.bind (bif K2.2.2.1 then (bif (K2.1.e==0) then (bif ((D.dB (⟨2,1,4,1,2,1⟩:Plan) 0 5)==3) then ((D.iK fu (⟨2,1,4,1,2,1⟩:Plan) K2.2.2.2 0 0).bind (fun (x30:List Entry)=>(some ((x30.length:Int)==1)))) else (some false)) else (some false)) else (some false)) (fun (x34:Bool)=>(some x34)))))))))
theorem tv {fu:Nat} (w0:World) {res:Bool} (hD:D.l5 fu =some res) :
    Calls B0 43 #[] w0 (bB (.bool res) w0):=by
 refine enter Tryz.func43 rfl 40 rfl rfl fun fr r=>?_;have hP:Post No [] w0 w0:=Post.nil w0
 unfold D.l5 at hD
 refine I0 (kA (.bool false) r rfl rfl fun r=>wn (I0 (kU (z6 (ac pL0)) r kz rfl fun r=>?_)));refine ah (.cells ((ac (⟨0,0,0,0,0,0⟩:Plan))).toArray 23 (0,0)) r (fun R=>ag tz23) rfl fun fr b1 w2 n3 r=>?_
 have hP:Post No [ae b1 ((ac (⟨0,0,0,0,0,0⟩:Plan))).toArray 23] w0 w2:=hP.new n3;refine aM (.cells ((ac pL0)).toArray 23 (0,0)) r (fun R=>bb r (o:=0) (v:=(z6 (ac pL0))) rfl rfl (hP.cell (i:=0) rfl) ts23 u7 rfl rfl) rfl fun fr w5 u6 r=>?_;have hP:Post No [ae b1 ((ac pL0)).toArray 23] w0 w5:=hP.upd (i:=0) rfl u6
 refine wn (I0 (kG (ac pL0) 6 r rfl (hP.cell (i:=0) rfl) IJ rfl rfl fun r=>?_));obtain ⟨x7,hx7,hD⟩:=aG hD
 refine kC r (tz w5 pL0 hx7) rfl cl14 rfl ?_;rintro _ w8 ⟨mg9,rfl,hq⟩;refine ⟨_,rfl,fun fr r=>?_⟩
 have hP:Post No [_,I9 mg9 x7] w0 w8:=hP.add hq;refine kA (zp mg9.mb) r rfl rfl fun r=>wn (d9 (I0 (kM (zp mg9.mb) r rfl rfl fun r=>kB r rfl rfl rfl rfl rfl fun r=>wn ?_)));refine q5 (t:=false) (r.ev rfl) (fun h=>absurd ((rfl:false=_).symm.trans h) ke) (fun _=>q7 (I0 (kG (ac pL0) 6 r rfl (hP.cell (i:=0) rfl) IJ rfl rfl fun r=>kU (z6 (bi sL00)) r kz rfl fun r=>?_)))
 refine kJ r (uH (F:=No) (n:=fu) (j:=fu+1) (fun _ h=>h.elim) O sL00 0 5 7) rfl cl90 rfl fun JV v12 hb KA r=>?_;have hP:Post No [_,_,bY B0 aA (fu,(D.gZ (fu+1) sL00 0 5 7)) v12 (rg w8.heap.size JV.heap.size)] w0 JV:=hP.addProgL hb.below KA
 refine kM (zp mg9.mb) r rfl rfl fun r=>kM (zp mg9.mb) r rfl rfl fun r=>?_;obtain ⟨JP,hx15,hD⟩:=aG hD
 refine kE r (qc JV x7 (hP.mem (i:=1) rfl) 0 hx15) rfl cl20 rfl fun w16 hb r=>?_;have hP:=hP.below hb
 obtain ⟨K2,hx17,hD⟩:=aG hD;refine kC r (tV w16 (fu,(D.gZ (fu+1) sL00 0 5 7)) x7 JP 99 (hP.sep.pk [2,1] rfl rfl) hx17) rfl cl29 rfl ?_;rintro _ w18 ⟨rfl,hq⟩;refine ⟨_,rfl,fun fr r=>?_⟩
 have hP:Post No [ae b1 ((ac pL0)).toArray 23,I9 mg9 K2.2.2.2] w0 w18:=(Post.frame (A:=[ae b1 ((ac pL0)).toArray 23]) (B:=[bY B0 aA (fu,(D.gZ (fu+1) sL00 0 5 7)) v12 (rg w8.heap.size JV.heap.size),I9 mg9 x7]) (hP.pick [0,2,1] rfl rfl) hq (fun b hb=>hb.elim (fun h=>⟨_,List.mem_cons_self ..,h⟩) fun h=>⟨_,List.mem_cons_of_mem _ (List.mem_singleton.2 rfl),h⟩)).pick [0,1] rfl rfl
 refine kM (.tuple #[(z6 (ID K2.1)),(I K2.2.1),(.bool K2.2.2.1)]) r rfl rfl fun r=>aa (z6 (ID K2.1)) r (fun R=>bZ r (vs:=#[(z6 (ID K2.1)),(I K2.2.1),(.bool K2.2.2.1)]) rfl rfl) rfl fun fr r=>aa (I K2.2.1) r (fun R=>bZ r (vs:=#[(z6 (ID K2.1)),(I K2.2.1),(.bool K2.2.2.1)]) rfl rfl) rfl fun fr r=>aa (.bool K2.2.2.1) r (fun R=>bZ r (vs:=#[(z6 (ID K2.1)),(I K2.2.1),(.bool K2.2.2.1)]) rfl rfl) rfl fun fr r=>?_;refine ah (.cells ((ID (⟨0,0⟩:IM))).toArray 36 (0,0)) r (fun R=>ag tz36) rfl fun fr b19 w20 n21 r=>?_
 have hP:Post No [_,_,ae b19 ((ID (⟨0,0⟩:IM))).toArray 36] w0 w20:=hP.new n21;refine aM (.cells ((ID K2.1)).toArray 36 (0,0)) r (fun R=>bb r (o:=0) (v:=(z6 (ID K2.1))) rfl rfl (hP.cell (i:=2) rfl) ts36 u7 rfl rfl) rfl fun fr w23 u24 r=>?_;have hP:Post No [_,_,ae b19 ((ID K2.1)).toArray 36] w0 w23:=hP.upd (i:=2) rfl u24
 refine kA (I K2.2.1) r rfl rfl fun r=>kA (.bool K2.2.2.1) r rfl rfl fun r=>wn (d9 ?_);refine cR (N:=40) (Y:=Bool) (G:=Unit) (fun x γ=>[(1,(zp b1)),(2,(zp mg9.mb)),(10,(.bool false)),(3,(zp b19)),(5,(.bool K2.2.2.1)),(0,(.bool x))]) (fun x γ w=>Post No [ae b1 ((ac pL0)).toArray 23,I9 mg9 K2.2.2.2,ae b19 ((ID K2.1)).toArray 36] w0 w) hD ?_ ?_
 ·
  rintro y25 RPy25 nxy25 hD;refine q6 (kM (.bool K2.2.2.1) r rfl rfl fun r=>kM (.bool K2.2.2.1) r rfl rfl fun r=>?_);refine bG K2.2.2.1 (fun h26=>?_) (fun h26=>?_)
  ·
   have hD:=z7 (ar h26) hD;refine s1 r h26 (kF 0 r rfl EO rfl fun r=>s1 r h26 (kL (I K2.1.e) r rfl (hP.cell (i:=2) rfl) to33 rfl rfl fun r=>s1 r h26 (kB r rfl rfl rfl rfl rfl fun r=>aa (.bool (K2.1.e==0)) r (fun R=>ay r (b:=true) (kb h26) rfl) rfl fun fr r=>kM (.bool (K2.1.e==0)) r rfl rfl fun r=>?_)));refine bG (K2.1.e==0) (fun h27=>?_) (fun h27=>?_)
   ·
    have hD:=z7 (ar h27) hD;refine s1 r h27 (kG (ac pL0) 6 r rfl (hP.cell (i:=0) rfl) IJ rfl rfl fun r=>s1 r h27 ?_);refine kE r (nT w23 pL0 0 5) rfl cl44 rfl fun w28 hb r=>?_
    have hP:=hP.below hb;refine s1 r h27 (kB r rfl rfl rfl rfl rfl fun r=>aa (.bool ((D.dB pL0 0 5)==3)) r (fun R=>ay r (b:=true) (kb h27) rfl) rfl fun fr r=>kM (.bool ((D.dB pL0 0 5)==3)) r rfl rfl fun r=>?_);refine bG ((D.dB pL0 0 5)==3) (fun h29=>?_) (fun h29=>?_)
    ·
     have hD:=z7 (ar h29) hD;refine s1 r h29 (kG (ac pL0) 6 r rfl (hP.cell (i:=0) rfl) IJ rfl rfl fun r=>s1 r h29 (kM (zp mg9.mb) r rfl rfl fun r=>s1 r h29 ?_));obtain ⟨x30,hx30,hD⟩:=aG hD
     refine kC r (ui w28 pL0 K2.2.2.2 (hP.mem (i:=1) rfl) 0 0 hx30) rfl cl47 rfl ?_;rintro _ w31 ⟨v32,rfl,hq⟩;refine ⟨_,rfl,fun fr r=>?_⟩
     have hP:Post No [_,_,_,II 104 2 aI v32 x30] w0 w31:=hP.add hq;refine s1 r h29 (aa (I (x30.length:Int)) r (fun R=>cW r (hP.row (i:=3) rfl).ro is82 rfl) rfl fun fr r=>s1 r h29 (kB r rfl rfl rfl rfl rfl fun r=>aa (.bool ((x30.length:Int)==1)) r (fun R=>ay r (b:=true) (kb h29) rfl) rfl fun fr r=>kA (.bool ((x30.length:Int)==1)) r rfl rfl fun r=>wn ?_));exact nxy25 ((x30.length:Int)==1) () _ _ _ hD r (kO (aq rfl (aq rfl aJ))) (hP.pick [0,1,2] rfl rfl)
    have hD:=z7 (ai h29) hD;refine s0 r h29 fun fr r=>s0 r h29 fun fr r=>s0 r h29 fun fr r=>s0 r h29 fun fr r=>s0 r h29 fun fr r=>aa (.bool false) r (fun R=>ay r (b:=false) (kb h29) rfl) rfl fun fr r=>kA (.bool false) r rfl rfl fun r=>wn ?_;exact nxy25 false () _ _ _ hD r (kO (aq rfl (aq rfl aJ))) (hP.pick [0,1,2] rfl rfl)
   have hD:=z7 (ai h27) hD;refine s0 r h27 fun fr r=>s0 r h27 fun fr r=>s0 r h27 fun fr r=>aa (.bool false) r (fun R=>ay r (b:=false) (kb h27) rfl) rfl fun fr r=>kM (.bool false) r rfl rfl fun r=>s0 r (rfl:false=_) fun fr r=>s0 r (rfl:false=_) fun fr r=>s0 r (rfl:false=_) fun fr r=>s0 r (rfl:false=_) fun fr r=>s0 r (rfl:false=_) fun fr r=>aa (.bool false) r (fun R=>ay r (b:=false) (kb (rfl:false=_)) rfl) rfl fun fr r=>kA (.bool false) r rfl rfl fun r=>wn ?_;exact nxy25 false () _ _ _ hD r (kO (aq rfl (aq rfl aJ))) (hP.pick [0,1,2] rfl rfl)
  have hD:=z7 (ai h26) hD;refine s0 r h26 fun fr r=>s0 r h26 fun fr r=>s0 r h26 fun fr r=>aa (.bool false) r (fun R=>ay r (b:=false) (kb h26) rfl) rfl fun fr r=>kM (.bool false) r rfl rfl fun r=>s0 r (rfl:false=_) fun fr r=>s0 r (rfl:false=_) fun fr r=>s0 r (rfl:false=_) fun fr r=>aa (.bool false) r (fun R=>ay r (b:=false) (kb (rfl:false=_)) rfl) rfl fun fr r=>kM (.bool false) r rfl rfl fun r=>s0 r (rfl:false=_) fun fr r=>s0 r (rfl:false=_) fun fr r=>s0 r (rfl:false=_) fun fr r=>s0 r (rfl:false=_) fun fr r=>s0 r (rfl:false=_) fun fr r=>aa (.bool false) r (fun R=>ay r (b:=false) (kb (rfl:false=_)) rfl) rfl fun fr r=>kA (.bool false) r rfl rfl fun r=>wn ?_;exact nxy25 false () _ _ _ hD r (kO (aq rfl (aq rfl aJ))) (hP.pick [0,1,2] rfl rfl)
 rintro x34 γ35 fr w36 g r hP hD;have hP:Post No [_,_,_] w0 w36:=hP;refine q4 ?_;have hv:x34=res:=Option.some.inj hD
 try dsimp only [Exit.then,Exit.inBlock]
 refine aT (fn:=Tryz.f43) r (t:=0) rfl (v:=(.bool x34)) rfl ?_;subst hv;exact ⟨rfl,hP.KE.below⟩
def D.eD (a0:Plan):Bool:=(bif (D.eM a0) then (bif (D.cM a0) then (decide (a0.domains > 0)) else false) else false)
theorem Am (w0:World) 
    (a0:Plan) :
    Calls B0 48 #[z6 (ac a0)] w0 (bB (.bool (D.eD a0)) w0):=by
 refine kN Tryz.func48 rfl 14 rfl rfl fun fr r hB=>?_;refine I0 ?_
 refine kX 23 (z6 (ac a0)) r rfl rfl fun b1 w2 n3 r=>?_;obtain ⟨eb1,zw2,hb1,hB,zB⟩:=n3.all hB
 refine kA (.bool false) r rfl rfl fun r=>wn (I0 (kG (ac a0) 6 r rfl hb1 IJ rfl rfl fun r=>?_));refine kE r (Al w2 a0) rfl cl57 rfl fun w4 hb r=>?_
 have zw4:=hb.size;have hb1:=keep hb hb1;obtain ⟨hB,zB⟩:=IQ hb hB;refine kM (.bool (D.eM a0)) r rfl rfl fun r=>?_;refine bG (D.eM a0) (fun h5=>?_) (fun h5=>?_)
 ·
  refine s1 r h5 (kG (ac a0) 6 r rfl hb1 IJ rfl rfl fun r=>s1 r h5 ?_);refine kE r (tu w4 a0) rfl cl58 rfl fun w6 hb r=>?_
  have zw6:=hb.size;have hb1:=keep hb hb1;obtain ⟨hB,zB⟩:=IQ hb hB;refine aa (.bool (D.cM a0)) r (fun R=>ay r (b:=true) (kb h5) rfl) rfl fun fr r=>kM (.bool (D.cM a0)) r rfl rfl fun r=>?_;refine bG (D.cM a0) (fun h7=>?_) (fun h7=>?_)
  ·
   refine s1 r h7 (kF 0 r rfl il rfl fun r=>s1 r h7 (kL (I a0.domains) r rfl hb1 IL rfl rfl fun r=>s1 r h7 (kB r rfl rfl rfl rfl rfl fun r=>aa (.bool (decide (a0.domains > 0))) r (fun R=>ay r (b:=true) (kb h7) rfl) rfl fun fr r=>kA (.bool (decide (a0.domains > 0))) r rfl rfl fun r=>wn (q4 ?_))));have hd:D.eD a0=(decide (a0.domains > 0)):=(ar h5).trans ((ar h7).trans (rfl))
   refine aT r rfl rfl ?_;rw [hd];exact ⟨rfl,hB⟩
  refine s0 r h7 fun fr r=>s0 r h7 fun fr r=>s0 r h7 fun fr r=>aa (.bool false) r (fun R=>ay r (b:=false) (kb h7) rfl) rfl fun fr r=>kA (.bool false) r rfl rfl fun r=>wn (q4 ?_);have hd:D.eD a0=false:=(ar h5).trans ((ai h7).trans (rfl))
  refine aT r rfl rfl ?_;rw [hd];exact ⟨rfl,hB⟩
 refine s0 r h5 fun fr r=>s0 r h5 fun fr r=>aa (.bool false) r (fun R=>ay r (b:=false) (kb h5) rfl) rfl fun fr r=>kM (.bool false) r rfl rfl fun r=>s0 r (rfl:false=_) fun fr r=>s0 r (rfl:false=_) fun fr r=>s0 r (rfl:false=_) fun fr r=>aa (.bool false) r (fun R=>ay r (b:=false) (kb (rfl:false=_)) rfl) rfl fun fr r=>kA (.bool false) r rfl rfl fun r=>wn (q4 ?_);have hd:D.eD a0=false:=(ai h5).trans (rfl)
 refine aT r rfl rfl ?_;rw [hd];exact ⟨rfl,hB⟩
section
variable {G : Type} {B : Nat} {Y : Nat -> Prop} {val : G -> Value} {N : G -> List Ck} {w w' w0 : World} {L : List Ck} {Z : Nat -> Prop}
def MkY (B:Nat) (Y:Nat->Prop) (val:G->Value) (N:G->List Ck):Value->Nat->Nat->World->Prop:=fun v lo hi w=>
 ∃ y,v=val y/\JY (N y) w/\(∀ c,c∈N y->c.own=[])/\∀ c,c∈N y->∀ b,b∈c.ro->(Y b/\b<B)\/(lo<=b/\b<hi)
theorem MkY.st (B:Nat) (Y:Nat->Prop) (val:G->Value) (N:G->List Ck):∀ v lo hi w1 w2,MkY B Y val N v lo hi w1->Kept B (fun _=>False) lo hi w1 w2->MkY B Y val N v lo hi w2:=by
 rintro v lo hi w1 w2 ⟨y,e,hs,ho,hr⟩ ⟨_,_,_,hz,hk⟩;refine ⟨y,e,hs.keep hz fun c hc b hb=>?_,ho,hr⟩
 rcases hb with hb | hb
 ·rw [ho c hc] at hb; cases hb
 ·rcases hr c hc b hb with h | h
  ·exact hk b (.inl ⟨h.2,fun h=>h⟩)
  ·exact hk b (.inr h)
theorem MkY.of (y:G) (h:Kv No Y (N y) w w') (ho:∀ c,c∈N y->c.own=[]) (hY:∀ b,Y b->b<B):MkY B Y val N (val y) w.heap.size w'.heap.size w':=
 ⟨y,rfl,h.sep,ho,fun c hc b hb=>(h.rest c hc b hb).elim (fun h1=>.inl ⟨h1,hY b h1⟩) fun h1=>.inr ⟨h1,(h.sep.ok c hc).2 b (.inr hb)⟩⟩
theorem Post.addLY {l:List (List Ck × Nat × Nat)} {N:List Ck} {lo hi:Nat} (h:Post Z L w0 w) (hb:Below w.heap.size w w') (hf:FreshL w.heap.size w' l) (hd:∀ q,q∈l->hi<=q.2.1\/q.2.2<=lo) (hlo:w.heap.size<=lo)
  (hs:JY N w') (ho:∀ c,c∈N->c.own=[]) (hr:∀ c,c∈N->∀ b,b∈c.ro->(Y b/\b<w.heap.size)\/(lo<=b/\b<hi)) (hY:∀ b,Y b->∃ e,e∈L/\e.own=[]/\b∈e.ro) :
  Post Z (L++(l.flatMap fun q=>q.1)++N) w0 w':=by
 have h1:=h.addL hb hf;have hsL:=h.sep.below hb;refine ⟨h1.sep.append hs fun d hd' c hc=>⟨fun b hb1 hb'=>?_,fun b hb1=>by rw [ho c hc] at hb1; cases hb1⟩,h1.KE,fun d hd' b hbd=>?_⟩
 ·rcases hb' with hb' | hb'
  ·rw [ho c hc] at hb'; cases hb'
  ·rcases List.mem_append.1 hd' with hdL | hdl
   ·have hlt:=(h.sep.ok d hdL).2 b (.inl hb1)
    rcases hr c hc b hb' with h3 | h3
    ·obtain ⟨e,heL,heo,her⟩:=hY b h3.1
     rcases h.sep.clearM hdL heL with rfl | hcl
     ·rw [heo] at hb1; cases hb1
     ·exact hcl b hb1 (.inr her)
    ·omega
   ·obtain ⟨q,hq,hdq⟩:=List.mem_flatMap.1 hdl
    have h4:=hf.at_ q hq;have h5:=h4.1.2 d hdq b (.inl hb1)
    rcases hr c hc b hb' with h3 | h3
    ·omega
    ·have:=hd q hq; omega
 ·rcases List.mem_append.1 hd' with hd' | hd'
  ·exact h1.mine d hd' b hbd
  ·rw [ho d hd'] at hbd; cases hbd
theorem tupY {a b u u':Value} (h:Value.tuple #[a,u]=.tuple #[b,u']):a=b:=by
 simp only [Value.tuple.injEq,Array.mk.injEq,List.cons.injEq] at h
 exact h.1
end
end Go.Proofs.YtbbipmelhmgmfaaGreat

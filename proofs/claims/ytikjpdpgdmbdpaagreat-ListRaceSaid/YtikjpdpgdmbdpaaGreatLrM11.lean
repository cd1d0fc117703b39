/- Some of our texts, one behind the other. -/
import Derived.Test.YtikjpdpgdmbdpaaGreatLrM10
import Derived.Test.YtikjpdpgdmbdpaaGreatLrM6
import Derived.Test.YtikjpdpgdmbdpaaGreatLrM3
set_option linter.all false
/- Ours. -/
set_option maxRecDepth 20000
set_option maxHeartbeats 2000000
namespace Go.Proofs.YtikjpdpgdmbdpaaGreat
open Go.RowKit
theorem cl28:ag Tryz.prog 28:=kz
theorem cl78:ag Tryz.prog 78:=kz
theorem cl79:ag Tryz.prog 79:=kz
theorem cl80:ag Tryz.prog 80:=kz
theorem cl81:ag Tryz.prog 81:=kz
def D.gH (fu:Nat) (a0:Plan):Option (Mem):=((D.qa fu ([(D.bG a0)])).bind (fun (x10:Mem × Int)=>(Option.bind (bif (x10.2 !=0) then (some true) else (some false)) (fun (x16:Bool)=>(bif x16 then none else ((D.dR fu x10.1 0).bind (fun (x21:Cap)=>((D.oJ fu (fu,(D.gR (fu+1) a0)) x10.1 x21 (IntKind.i64.wrap (a0.nodes+1))).bind (fun (x22:Unit × Int × Bool × Mem)=>(bif (!x22.2.2.1) then none else (some x22.2.2.2)))))))))))
set_option maxRecDepth 20000 in
set_option maxHeartbeats 20000000 in
theorem rN {fu:Nat} (w0:World) (a0:Plan) {res:Mem} (hD:D.gH fu a0=some res) :
    Calls Tryz.prog 17 #[.agg (ae a0).toArray] w0 (fun e w'=>∃ (g0:MG),e=.returned (zp g0.mb)∧Done No No [memK g0 res] w0 w'):=by
 refine enter Tryz.func17 rfl 37 rfl rfl fun fr r=>?_;have hP:Post No [] w0 w0:=Post.nil w0
 unfold D.gH at hD
 refine wsr ?_;refine kX 23 (.agg (ae a0).toArray) r rfl rfl fun b1 w2 n3 r=>?_;have hP:Post No [aa b1 ((ae a0)).toArray 23] w0 w2:=hP.new n3
 refine kA (.pointer none) r rfl rfl fun r=>wn (wsr (kG (ae a0) 6 r rfl (hP.cell (i:=0) rfl) ta23 rfl rfl fun r=>?_));refine kE r (zK w2 a0) rfl cl79 rfl fun w5 hb r=>?_
 have hP:=hP.below hb;refine mD (.cells (([(D.bG a0)]).flatMap i64).toArray 3 (0,0)) 1 r (fun R=>dM r kz) rfl fun fr b6 w7 n8 r=>?_;have hP:Post No [aa b1 ((ae a0)).toArray 23,rowK 3 1 i64 (.slice (some ⟨b6,0,none⟩) 1 1) ([(D.bG a0)])] w0 w7:=hP.newRow n8 (fun _=>rfl) rfl
 obtain ⟨x10,hx10,hD⟩:=aY hD;refine kC r (BH w7 ([(D.bG a0)]) (hP.row (i:=1) rfl).ro hx10) rfl cl78 rfl ?_;rintro _ w11 ⟨mg12,rfl,hq⟩;refine ⟨_,rfl,fun fr r=>?_⟩
 have hP:Post No [aa b1 ((ae a0)).toArray 23,rowK 3 1 i64 (.slice (some ⟨b6,0,none⟩) 1 1) ([(D.bG a0)]),memK mg12 x10.1] w0 w11:=hP.add hq;refine kM (.tuple #[(zp mg12.mb),(I x10.2)]) r rfl rfl fun r=>ac (zp mg12.mb) r (fun R=>bM r (vs:=#[(zp mg12.mb),(I x10.2)]) rfl rfl) rfl fun fr r=>ac (I x10.2) r (fun R=>bM r (vs:=#[(zp mg12.mb),(I x10.2)]) rfl rfl) rfl fun fr r=>kA (zp mg12.mb) r rfl rfl fun r=>kA (I x10.2) r rfl rfl fun r=>wn (wp_seq (wp_seq ?_));have hP:Post No [aa b1 ((ae a0)).toArray 23,memK mg12 x10.1] w0 w11:=hP.pick [0,2] rfl rfl
 refine cL (N:=37) (Y:=Bool) (G:=Unit) (fun x γ=>[(0,(.agg (ae a0).toArray)),(1,(zp b1)),(2,(.pointer none)),(3,(zp mg12.mb)),(4,(I x10.2)),(20,(.bool x))]) (fun x γ w=>Post No [aa b1 ((ae a0)).toArray 23,memK mg12 x10.1] w0 w) hD ?_ ?_
 ·
  rintro y14 RPy14 nxy14 hD;refine wp_region_lit (kM (I x10.2) r rfl rfl fun r=>kB r rfl rfl rfl rfl rfl fun r=>kM (.bool (x10.2 !=0)) r rfl rfl fun r=>?_);refine bA (x10.2 !=0) (fun h15=>?_) (fun h15=>?_)
  ·
   have hD:=(az h15).symm.trans hD;refine s0 r h15 fun fr r=>s0 r h15 fun fr r=>ac (.bool true) r (fun R=>aw r (b:=true) (congrArg Value.bool h15) rfl) rfl fun fr r=>wn ?_;exact nxy14 true () _ _ _ hD r (kO (aq rfl (aq rfl aN))) (hP.pick [0,1] rfl rfl)
  have hD:=(aB h15).symm.trans hD;refine s1 r h15 (kM (zp mg12.mb) r rfl rfl fun r=>s1 r h15 (kB r rfl rfl rfl rfl rfl fun r=>ac (.bool false) r (fun R=>aw r (b:=false) (congrArg Value.bool h15) rfl) rfl fun fr r=>wn ?_));exact nxy14 false () _ _ _ hD r (kO (aq rfl (aq rfl aN))) (hP.pick [0,1] rfl rfl)
 rintro x16 γ17 fr w18 g r hP hD;have hP:Post No [aa b1 ((ae a0)).toArray 23,memK mg12 x10.1] w0 w18:=hP;refine wp_cond_split (t:=x16) (r.ev rfl) (fun h19=>?_) (fun h19=>?_)
 ·
  have hD:=(az h19).symm.trans hD;refine wsr (kA (.pointer none) r rfl rfl fun r=>wn (wp_ret ?_));exact nomatch hD
 have hD:=(aB h19).symm.trans hD;refine wp_skip (wp_seq ?_);obtain ⟨x21,hx21,hD⟩:=aY hD;obtain ⟨x22,hx22,hD⟩:=aY hD;refine fY mg12.bs [.val (.agg (ae a0).toArray),.pred (PrP Tryz.prog aA (fu,(D.gR (fu+1) a0))) (PrP.st _),.val (zp mg12.mb),.val (zp mg12.mb),.val (.agg (capC x21).toArray),.val (zp b1),.val (I a0.nodes),.val (I (W (a0.nodes+1))),.eff (EffP w18.heap.size (memK mg12 x22.2.2.2) (fun _:Unit=>(.tuple #[(.agg #[]),(I x22.2.1),(.bool x22.2.2.1)])) (fun _:Unit=>[])) (EffP.st _ _ _ _),.val (.tuple #[(.agg #[]),(I x22.2.1),(.bool x22.2.2.1)]),.val (.agg #[]),.val (I x22.2.1),.val (.bool x22.2.2.1),.cell 152 0,.stored 13 #[] 152 0 rfl,.val (I x22.2.1),.val (.bool x22.2.2.1)] mixed r (fun b hb=>hP.sep.lt (i:=1) rfl (.inl hb)) kz ?_ ?_
 ·
  refine aF r rfl (fun fr1 g w' hk' hd r'=>?_) ?_
  · exact aS r' (cs:=(ae a0)) (n:=6) rfl (hP.cellK (j:=1) rfl (drK hk') (i:=0) rfl rfl) ta23 rfl ⟨Below.refl _ _,rfl⟩
  refine bO r rfl kz (fun fr1 g w' hb' hd r'=>?_) ?_
  · exact aJ r' (args:=[(.agg (ae a0).toArray)]) (lc (hd 0 rfl).1 l0) cl81 ((Bc (F:=No) (n:=fu) (j:=fu+1) (fun _ h=>h.elim) kw a0).mono (by rintro _ w2 ⟨y,rfl,hb2,hr2⟩; exact ⟨_,rfl,hb2,BC hr2⟩))
  refine bO r rfl kz (fun fr1 g w' hb' hd r'=>?_) ?_
  · exact ay r' (v:=(zp mg12.mb)) rfl ⟨Below.refl _ _,rfl⟩
  refine aF r rfl (fun fr1 g w' hk' hd r'=>?_) ?_
  · exact ay r' (v:=(zp mg12.mb)) rfl ⟨Below.refl _ _,rfl⟩
  refine bO r rfl kz (fun fr1 g w' hb' hd r'=>?_) ?_
  · exact aJ r' (args:=[(zp mg12.mb),(I 0)]) (lc (hd 3 rfl).1 (lc rfl l0)) cl28 ((ic _ x10.1 ((hP.below (dr hb')).mem (i:=1) rfl) 0 hx21).mono (by rintro _ w2 ⟨rfl,hb2⟩; exact ⟨_,rfl,hb2,rfl⟩))
  refine aF r rfl (fun fr1 g w' hk' hd r'=>?_) ?_
  · exact ax r' (b:=b1) (o:=0) (k:=0) rfl gu ⟨Below.refl _ _,rfl⟩
  refine aF r rfl (fun fr1 g w' hk' hd r'=>?_) ?_
  · exact av r' (v:=(I a0.nodes)) (hd 5 rfl).1 (hP.cellK (j:=1) rfl (drK hk') (i:=0) rfl rfl) to3 rfl ⟨Below.refl _ _,rfl⟩
  refine bO r rfl kz (fun fr1 g w' hb' hd r'=>?_) ?_
  · exact bc r' (u:=(I a0.nodes)) (u':=(I 1)) (v:=(I (W (a0.nodes+1)))) (hd 6 rfl).1 rfl rfl rfl ⟨Below.refl _ _,rfl⟩
  refine bO r rfl kz (fun fr1 g w' hb' hd r'=>?_) ?_
  · exact aJ r' (args:=[(g 1).v,(zp mg12.mb),(.agg (capC x21).toArray),(I (W (a0.nodes+1)))]) (lc rfl (lc (hd 2 rfl).1 (lc (hd 4 rfl).1 (lc (hd 7 rfl).1 l0)))) cl80 ((Ab _ (fu,(D.gR (fu+1) a0)) x10.1 x21 (W (a0.nodes+1)) (Sep.beside (hd 1 rfl).1 ((hP.below (dr hb')).sep.pk [1] rfl rfl) (by intro c hc b hb; simp only [List.mem_cons,List.not_mem_nil,or_false] at hc; rcases hc with rfl; exact hP.sep.lt (i:=1) rfl hb) (hd 1 rfl).2.1) hx22).mono (by rintro _ w2 ⟨rfl,hq⟩; exact ⟨_,rfl,hq.chg.kept,EffP.of () hq rfl (fun b hb=>hP.sep.lt (i:=1) rfl hb)⟩))
  refine aF r rfl (fun fr1 g w' hk' hd r'=>?_) ?_
  · exact ay r' (v:=(.tuple #[(.agg #[]),(I x22.2.1),(.bool x22.2.2.1)])) (EffP.val (hd 8 rfl).1) ⟨Below.refl _ _,rfl⟩
  refine aF r rfl (fun fr1 g w' hk' hd r'=>?_) ?_
  · exact bM r' (vs:=#[(.agg #[]),(I x22.2.1),(.bool x22.2.2.1)]) (hd 9 rfl).1 rfl ⟨Below.refl _ _,rfl⟩
  refine aF r rfl (fun fr1 g w' hk' hd r'=>?_) ?_
  · exact bM r' (vs:=#[(.agg #[]),(I x22.2.1),(.bool x22.2.2.1)]) (hd 9 rfl).1 rfl ⟨Below.refl _ _,rfl⟩
  refine aF r rfl (fun fr1 g w' hk' hd r'=>?_) ?_
  · exact bM r' (vs:=#[(.agg #[]),(I x22.2.1),(.bool x22.2.2.1)]) (hd 9 rfl).1 rfl ⟨Below.refl _ _,rfl⟩
  refine aF r rfl (fun fr1 g w' hk' hd r'=>?_) ?_
  · exact ah wN (fun b w2 n2=>⟨n2.below,b,rfl,n2.eq,_,n2.at_,rfl⟩)
  refine aF r rfl (fun fr1 g w' hk' hd r'=>?_) ?_
  · obtain ⟨hp,_,c,hc,hn⟩:=(hd 13 rfl).1; exact aT r' (o:=0) (c:=c) (v:=(.agg #[])) hp (hd 10 rfl).1 hc wh (by rw [hn]; exact Nat.le_of_ble_eq_true rfl) rfl (eH (hn.trans rfl)) (fun w2 u2=>⟨u2,rfl⟩)
  refine aF r rfl (fun fr1 g w' hk' hd r'=>?_) ?_
  · exact cf r' (v:=(I x22.2.1)) (hd 11 rfl).1 ⟨Below.refl _ _,rfl⟩
  refine aF r rfl (fun fr1 g w' hk' hd r'=>?_) ?_
  · exact cf r' (v:=(.bool x22.2.2.1)) (hd 12 rfl).1 ⟨Below.refl _ _,rfl⟩
  exact cc
 intro fr gg w24 hb hΦ hap r;obtain ⟨v20,hv1⟩:∃ v,v=(gg 1).v:=⟨_,rfl⟩;have g1:(gg 1).v=v20:=hv1.symm;obtain ⟨F25,eF25⟩:∃ F,F=rg (gg 1).lo (gg 1).hi:=⟨_,rfl⟩;have hs1:bP [bE Tryz.prog aA (fu,(D.gR (fu+1) a0)) v20 F25] (gg 1).lo (gg 1).hi w24:=by subst hv1; subst eF25; exact (hΦ 1 rfl).1
 obtain ⟨⟨⟩,g8,hcE,_,hs8⟩:=(hΦ 8 rfl).1;obtain ⟨b23,ee_b23⟩:∃ b,b=(gg 13).lo:=⟨_,rfl⟩;have g13:(gg 13).v=(zp b23):=by rw [ee_b23]; exact (hΦ 13 rfl).1.1
 have H23:w24.heap[b23]?=some (.cells #[] 152 (0,0)):=by rw [ee_b23]; exact (hΦ 14 rfl).1.2
 have hs13:bP [aa b23 #[] 152] (gg 13).lo (gg 13).hi w24:=by subst ee_b23; exact bP.cell (hΦ 13 rfl).1.2.1 H23
 have r:=r.congr (sc ((hΦ 16 rfl).1) (sc ((hΦ 15 rfl).1) (sc g13 (sc ((hΦ 12 rfl).1) (sc ((hΦ 11 rfl).1) (sc ((hΦ 10 rfl).1) (sc ((hΦ 9 rfl).1) (sc g8 (sc ((hΦ 7 rfl).1) (sc ((hΦ 6 rfl).1) (sc ((hΦ 5 rfl).1) (sc ((hΦ 4 rfl).1) (sc ((hΦ 3 rfl).1) (sc ((hΦ 2 rfl).1) (sc g1 (sc ((hΦ 0 rfl).1) rfl))))))))))))))));have hP:Post No [aa b1 ((ae a0)).toArray 23,memK mg12 x22.2.2.2,bE Tryz.prog aA (fu,(D.gR (fu+1) a0)) v20 F25,aa b23 #[] 152] w0 w24:=hP.effL (i:=1) (l:=[([bE Tryz.prog aA (fu,(D.gR (fu+1) a0)) v20 F25],(gg 1).lo,(gg 1).hi),([aa b23 #[] 152],(gg 13).lo,(gg 13).hi)]) rfl hb hcE rfl rfl ⟨hs1,(hΦ 1 rfl).2.1,(iI (hap 1 13 rfl) cS),⟨hs13,(hΦ 13 rfl).2.1,cS,trivial⟩⟩;refine wp_seq (wsr (kM (.bool x22.2.2.1) r rfl rfl fun r=>ac (.bool (!x22.2.2.1)) r (fun R=>y_un r (u:=(.bool x22.2.2.1)) rfl rfl) rfl fun fr r=>wn ?_));refine wp_cond_split (t:=(!x22.2.2.1)) (r.ev rfl) (fun h26=>?_) (fun h26=>?_)
 ·
  have hD:=(az h26).symm.trans hD;refine wsr (kA (.pointer none) r rfl rfl fun r=>wn (wp_ret ?_));exact nomatch hD
 have hD:=(aB h26).symm.trans hD;refine wp_skip (wsr (kM (zp mg12.mb) r rfl rfl fun r=>kA (zp mg12.mb) r rfl rfl fun r=>wn (wp_ret ?_)));have hv:x22.2.2.2=res:=Option.some.inj hD
 try dsimp only [Exit.then,Exit.inBlock]
 refine bg (fn:=Tryz.f17) r (t:=2) rfl (v:=(zp mg12.mb)) rfl ?_;subst hv;exact ⟨mg12,rfl,(hP.pick [1] rfl rfl).done (cP rfl dl)⟩
theorem bq {x:Int} (h0:-9223372036854775808≤x) (h1:x≤9223372036854775807):IntKind.i64.wrap x=x:=by
  simp only [IntKind.wrap]
  simp [IntKind.signed,IntKind.bits]
  omega
structure PF (p:Plan):Prop where
  n1:1≤p.nodes
  n2:p.nodes≤1048576
  t1:1≤p.threads
  t2:p.threads≤16
  d1:0≤p.domains
  d2:p.domains≤64
  b1:1≤p.buckets
  b2:p.buckets≤256
  g1:1≤p.gen
  g2:p.gen≤1073741823
  r1:3 * p.threads+1≤p.retire
  r2:p.retire≤1024
theorem all_nil {α:Type} {P:α→Prop}:(∀ b,b∈([]:List α)→P b)↔True:=⟨fun _=>trivial,fun _ _ hb=>nomatch hb⟩
theorem all_cons {α:Type} {P:α→Prop} {x:α} {l:List α}:(∀ b,b∈x::l→P b)↔P x∧∀ b,b∈l→P b:=List.forall_mem_cons
theorem within_iff {l:List Bound}:D.cm l=true↔∀ b,b∈l→b.least≤b.n∧b.n≤b.most:=by
  unfold D.cm;rw [List.all_eq_true]
  constructor
  · intro h b hb
    have:=h b hb;simp only [Bool.and_eq_true,Bool.not_eq_true',decide_eq_false_iff_not] at this
    omega
  · intro h b hb
    have:=h b hb;simp only [Bool.and_eq_true,Bool.not_eq_true',decide_eq_false_iff_not];omega
theorem p5 {p:Plan}:D.cR p=true↔PF p:=by
  unfold D.cR
  constructor
  · intro h
    cases h1:D.cm [(⟨p.nodes,1,1048576⟩:Bound),⟨p.threads,1,16⟩,⟨p.domains,0,64⟩,⟨p.buckets,1,256⟩,⟨p.gen,1,1073741823⟩]
    · rw [h1] at h; cases h
    · rw [h1] at h
      simp only [cond_true] at h
      have h1:=within_iff.1 h1;have h:=within_iff.1 h;simp only [all_cons,all_nil,and_true] at h1 h
      have hw:IntKind.i64.wrap (IntKind.i64.wrap (3 * p.threads)+1)=3 * p.threads+1:=by
        rw [bq (x:=3 * p.threads) kw kw,bq kw kw]
      rw [hw] at h
      constructor <;> omega
  · intro h
    obtain ⟨n1,n2,t1,t2,d1,d2,b1,b2,g1,g2,r1,r2⟩:=h;have h1:D.cm [(⟨p.nodes,1,1048576⟩:Bound),⟨p.threads,1,16⟩,⟨p.domains,0,64⟩,⟨p.buckets,1,256⟩,⟨p.gen,1,1073741823⟩]=true:=by
      rw [within_iff]
      simp only [all_cons,all_nil,and_true]
      omega
    rw [h1]
    simp only [cond_true]
    have hw:IntKind.i64.wrap (IntKind.i64.wrap (3 * p.threads)+1)=3 * p.threads+1:=by
      rw [bq (x:=3 * p.threads) kw kw,bq kw kw]
    rw [hw,within_iff]
    simp only [all_cons,all_nil,and_true]
    omega
theorem BF {p:Plan} (h:D.rK p=true):PF p:=by
  unfold D.rK at h
  simp only [cond_eq_ite,decide_eq_true_eq,Bool.if_false_left,Bool.if_false_right,Bool.and_eq_true,Bool.not_eq_true',decide_eq_false_iff_not] at h
  obtain ⟨h1,h2,h3,h4,h5,h6,h7,h8,h9,h10,h11,h12⟩:=h;rw [bq kw kw] at h11
  constructor <;> omega
section
variable {p : Plan} (hp : PF p)
include hp
theorem mB:2≤D.bN p∧D.bN p≤256:=by
  obtain ⟨n1,n2,t1,t2,d1,d2,b1,b2,g1,g2,r1,r2⟩:=hp;unfold D.bN maxI
  split <;> omega
theorem fD:0≤p.domains * (1+D.bN p)∧p.domains * (1+D.bN p)≤64 * 257:=by
  have h:=mB hp;obtain ⟨n1,n2,t1,t2,d1,d2,b1,b2,g1,g2,r1,r2⟩:=hp;exact ⟨Int.mul_nonneg d1 kw,Int.mul_le_mul d2 kw kw kw⟩
theorem ri:0≤p.threads * (1+p.retire)∧p.threads * (1+p.retire)≤16 * 1025:=by
  obtain ⟨n1,n2,t1,t2,d1,d2,b1,b2,g1,g2,r1,r2⟩:=hp;exact ⟨Int.mul_nonneg kw kw,Int.mul_le_mul t2 kw kw kw⟩
theorem jH:D.aL p=1+p.domains * (1+D.bN p):=by
  have h:=fD hp;have hc:=mB hp;unfold D.aL;rw [bq (x:=1+D.bN p) kw kw,bq (x:=p.domains * _) kw kw,bq kw kw]
theorem jM:D.cq p=1+p.domains * (1+D.bN p)+p.threads * 3:=by
  have h:=fD hp;have t1:=hp.t1;have t2:=hp.t2;unfold D.cq;rw [jH hp,bq (x:=p.threads * 3) kw kw,bq kw kw]
theorem pI:D.aM p=1+p.domains * (1+D.bN p)+p.threads * 3+p.threads * (1+p.retire):=by
  have h:=fD hp;have h2:=ri hp;have t1:=hp.t1;have t2:=hp.t2;have r1:=hp.r1;have r2:=hp.r2;unfold D.aM;rw [jM hp,bq (x:=1+p.retire) kw kw,bq (x:=p.threads * (1+p.retire)) kw kw,bq kw kw]
theorem cE:1≤D.aM p∧D.aM p≤40000:=by
  have h:=fD hp;have h2:=ri hp;have t1:=hp.t1;have t2:=hp.t2;rw [pI hp];omega
theorem pK {x:Int} {l:List Bound} (h:∀ b,b∈l→b.least≤b.n∧b.n≤b.most):D.bV p x l=x:=by
  unfold D.bV;rw [p5.2 hp,within_iff.2 h]
  rfl
theorem BL {x:Int} {l:List Bound} (h:¬ ∀ b,b∈l→b.least≤b.n∧b.n≤b.most):D.bV p x l=-1:=by
  unfold D.bV;have hw:D.cm l=false:=by
    cases hw:D.cm l
    · rfl
    · exact absurd (within_iff.1 hw) h
  rw [p5.2 hp,hw]
  rfl
theorem eY:D.bG p=D.aM p+p.nodes * 5:=by
  have h:=cE hp;have n1:=hp.n1;have n2:=hp.n2;unfold D.bG;rw [p5.2 hp];simp only [Bool.not_true,cond_false];rw [bq (x:=p.nodes * 5) kw kw,bq kw kw]
theorem iW:D.cU p=0:=by
  unfold D.cU;exact pK hp (by simp)
theorem iP {x y:Int} {l:List Bound} {c:Prop} [Decidable c] (h:(∀ b,b∈l→b.least≤b.n∧b.n≤b.most)↔c) (hx:c→x=y):D.bV p x l=if c then y else -1:=by
  by_cases hc:c
  · rw [if_pos hc,pK hp (h.2 hc),hx hc]
  · rw [if_neg hc,BL hp (fun q=>hc (h.1 q))]
theorem uG (n:Int):D.cH p n=if 0≤n∧n<p.nodes then D.aM p+n * 5 else -1:=by
  have h:=cE hp;have n1:=hp.n1;have n2:=hp.n2;unfold D.cH D.cy;refine iP hp ?_ ?_
  · simp only [all_cons,all_nil,and_true]
    rw [bq kw kw]
    omega
  · intro hc
    rw [bq (x:=n * 5) kw kw,bq kw kw]
theorem uX (n:Int):D.dw p n=if 0≤n∧n<p.nodes then D.aM p+n * 5+1 else -1:=by
  have h:=cE hp;have n1:=hp.n1;have n2:=hp.n2;unfold D.dw D.cy;refine iP hp ?_ ?_
  · simp only [all_cons,all_nil,and_true]
    rw [bq kw kw]
    omega
  · intro hc
    rw [bq (x:=n * 5) kw kw,bq (x:=D.aM p+n * 5) kw kw,bq kw kw]
theorem mC (n f:Int):D.bf p n f=if (0≤n∧n<p.nodes)∧0≤f∧f<3 then D.aM p+n * 5+2+f else -1:=by
  have h:=cE hp;have n1:=hp.n1;have n2:=hp.n2;unfold D.bf D.cy;refine iP hp ?_ ?_
  · simp only [all_cons,all_nil,and_true]
    rw [bq kw kw]
    omega
  · intro hc
    rw [bq (x:=n * 5) kw kw,bq (x:=D.aM p+n * 5) kw kw,bq (x:=D.aM p+n * 5+2) kw kw,bq kw kw]
theorem py (t i:Int):D.eQ p t i=if (0≤t∧t<p.threads)∧0≤i∧i<3 then D.aL p+t * 3+i else -1:=by
  have h:=fD hp;have h1:=jH hp;have t1:=hp.t1;have t2:=hp.t2;unfold D.eQ D.cx;refine iP hp ?_ ?_
  · simp only [all_cons,all_nil,and_true]
    rw [bq kw kw]
    omega
  · intro hc
    rw [bq (x:=t * 3) kw kw,bq (x:=D.aL p+t * 3) kw kw,bq kw kw]
theorem wM {t:Int} (h0:0≤t) (h1:t<p.threads):0≤t * (1+p.retire)∧t * (1+p.retire)≤16 * 1025:=by
  obtain ⟨n1,n2,t1,t2,d1,d2,b1,b2,g1,g2,r1,r2⟩:=hp;exact ⟨Int.mul_nonneg kw kw,Int.mul_le_mul kw kw kw kw⟩
theorem uJ (t:Int):D.dC p t=if 0≤t∧t<p.threads then D.cq p+t * (1+p.retire) else -1:=by
  have h:=fD hp;have h1:=jM hp;have t1:=hp.t1;have t2:=hp.t2;have r1:=hp.r1;have r2:=hp.r2;unfold D.dC D.cx;refine iP hp ?_ ?_
  · simp only [all_cons,all_nil,and_true]
    rw [bq kw kw]
    omega
  · intro hc
    have h2:=wM hp hc.1 hc.2;rw [bq (x:=1+p.retire) kw kw,bq (x:=t * (1+p.retire)) kw kw,bq kw kw]
theorem tD (t i:Int):D.cT p t i=if (0≤t∧t<p.threads)∧0≤i∧i<p.retire then D.cq p+t * (1+p.retire)+1+i else -1:=by
  have h:=fD hp;have h1:=jM hp;have t1:=hp.t1;have t2:=hp.t2;have r1:=hp.r1;have r2:=hp.r2;unfold D.cT D.cx;refine iP hp ?_ ?_
  · simp only [all_cons,all_nil,and_true]
    rw [bq (x:=p.threads - 1) kw kw,bq (x:=p.retire - 1) kw kw]
    omega
  · intro hc
    have h2:=wM hp hc.1.1 hc.1.2;rw [bq (x:=1+p.retire) kw kw,bq (x:=t * (1+p.retire)) kw kw,bq (x:=D.cq p+t * (1+p.retire)) kw kw,
      bq (x:=D.cq p+t * (1+p.retire)+1) kw kw,bq kw kw]
end
theorem uL {X Z:Type} {body:X→Option (Lp X Z)} {f:X→Option Z} {x0:X} (Q:Option Z→Prop) (I:Nat→X→Prop) (n k:Nat) (h0:I 0 x0) (hk:n<k)
    (hs:∀ i x,i<n→I i x→∃ x',body x=some (.next x')∧I (i+1) x') (he:∀ x,I n x→∃ x',body x=some (.brk x')∧Q (f x')):Q (loopThen body k x0 f):=by
  have h:∀ d i x,i+d=n→I i x→∀ k,d<k→Q ((runLoop body k x).bind (afterLoop f)):=by
    intro d
    induction d with
    | zero=>
      intro i x hi hI k hk;obtain ⟨k,rfl⟩:∃ q,k=q+1:=⟨k - 1,kw⟩
      obtain rfl:i=n:=kw
      obtain ⟨x',hb,hf⟩:=he x hI;simp only [runLoop,hb,Option.bind_some,goOn,afterLoop];exact hf
    | succ d ih=>
      intro i x hi hI k hk;obtain ⟨k,rfl⟩:∃ q,k=q+1:=⟨k - 1,kw⟩
      obtain ⟨x',hb,hI'⟩:=hs i x kw hI;simp only [runLoop,hb,Option.bind_some,goOn];exact ih (i+1) x' kw hI' k kw
  exact h n 0 x0 kw h0 k hk
theorem BW {α:Type} {l:List α} {i:Nat} (h:i<l.length):getI l i=some l[i]:=by
  unfold getI;rw [if_pos kw,Int.toNat_natCast,List.getElem?_eq_getElem h]
theorem cN {x:Int} (h0:-1000000≤x) (h1:x≤1000000):IntKind.i64.wrap x=x:=bq kw kw
def ck (op at_ a b x:Int) (ws:List Int):List Int:=
  if op=1 then ws.set at_.toNat a else if op=2 then (if x=a then ws.set at_.toNat b else ws) else if op=3 then ws.set at_.toNat (IntKind.u64.wrap (x+a)) else ws
inductive Runs {R:Type}:T R→List Int→Nat→R→List Int→Prop
  | done (r:R) (ws:List Int):Runs (.done r) ws 0 r ws
  | act {op at_ a b x:Int} {k:Int→T R} {ws ws':List Int} {n:Nat} {r:R} (h1:0≤op∧op≤3) (h2:getI ws at_=some x) (h:Runs (k x) (ck op at_ a b x ws) n r ws'):Runs (.act op at_ a b k) ws (n+1) r ws'
theorem Runs.bind {A B:Type} {t:T A} {g:A→T B} {ws ws' ws'':List Int} {n m:Nat} {a:A} {b:B} (h:Runs t ws n a ws') (h2:Runs (g a) ws' m b ws''):Runs (t.bind g) ws (n+m) b ws'':=by
  induction h with
  | done r ws=>simpa [T.bind] using h2
  | @act op at_ a b x k ws ws' n r h1 h3 _ ih=>
    have:=Runs.act (k:=fun x=>(k x).bind g) h1 h3 (ih h2)
    rw [show n+1+m=n+m+1 from by omega]
    exact this
theorem Runs.cast {R:Type} {t:T R} {ws ws':List Int} {n m:Nat} {r:R} (h:Runs t ws n r ws') (e:n=m):Runs t ws m r ws':=e ▸ h
def cap0:Cap:=⟨0,1⟩
theorem CX (fu:Nat) (M:Mem):D.dR fu M 0=some cap0:=rfl
theorem FL {fu:Nat} {M:Mem} {op at_ a b x:Int} (h1:0≤op∧op≤3) (h2:getI M.ws at_=some x):∃ c,D.fS fu M cap0 ⟨op,at_,a,b⟩=some (x,true,⟨ck op at_ a b x M.ws,c⟩):=by
  obtain ⟨h3,h4,_,_⟩:=fC h2;refine ⟨IntKind.i64.wrap (M.cnt+1),?_⟩;unfold D.fS;have hG:D.lH fu M cap0=some true:=rfl;have hS:D.ik fu M cap0.region=some (M.ws.length:Int):=rfl;simp only [hG,hS,Option.bind_some,Bool.not_true,cond_false];rw [show decide (at_<0)=false from by simp; omega,show decide (at_≥(M.ws.length:Int))=false from by simp; omega,show decide (op<0)=false from by simp; omega,show decide (op > 3)=false from by simp; omega]
  simp only [cond_false,Option.bind_some]
  rw [show zeroI cap0.region=some () from rfl,h2]
  simp only [Option.bind_some]
  by_cases e1:op=1
  · subst e1
    simp [ck,Mem.put]
  rw [show (op==1)=false from by simpa using e1]
  by_cases e2:op=2
  · subst e2
    by_cases e3:x=a
    · subst e3; simp [ck,Mem.put]
    · rw [show (x==a)=false from by simpa using e3]
      simp [ck,e3]
  rw [show (op==2)=false from by simpa using e2]
  by_cases e3:op=3
  · subst e3; simp [ck,Mem.put]
  rw [show (op==3)=false from by simpa using e3]
  simp [ck,e1,e2,e3]
section
variable {R : Type}
def stepG (fu:Nat) (a0:Nat × T R) (a1:Mem) (a2:Cap):Option ((Nat × T R) × Bool × Mem):=(bif a0.2.bd then (some (a0,false,a1)) else ((D.fS fu a1 a2 (T.acc a0.2)).bind (fun (x16:Int × Bool × Mem)=>(bif (!x16.2.1) then (some (a0,false,x16.2.2)) else ((depthI a0.1).bind (fun (x26:Nat)=>(some ((x26,T.next a0.2 x16.1),true,x16.2.2))))))))
def runG (z:R) (fu:Nat) (a0:Nat × T R) (a1:Mem) (a2:Cap) (a3:Int):Option (R × Int × Bool × Mem):=(loopThen (fun (x13:Int × Mem × (Nat × T R))=>(Option.bind (bif (decide (x13.1<a3)) then (some (!x13.2.2.2.bd)) else (some false)) (fun (x19:Bool)=>(bif x19 then ((stepG fu x13.2.2 x13.2.1 a2).bind (fun (x23:(Nat × T R) × Bool × Mem)=>(bif (!x23.2.1) then (some (Lp.brk (x13.1,x23.2.2,x13.2.2))) else (some (Lp.next ((IntKind.i64.wrap (x13.1+1)),x23.2.2,x23.1)))))) else (some (Lp.brk (x13.1,x13.2.1,x13.2.2))))))) fu (0,a1,a0) (fun (x37:Int × Mem × (Nat × T R))=>(some (T.res z x37.2.2.2,x37.1,x37.2.2.2.bd,x37.2.1))))
theorem uO {fu d:Nat} {M:Mem} {op at_ a b x:Int} {k:Int→T R} (h1:0≤op∧op≤3) (h2:getI M.ws at_=some x):∃ c,stepG fu (d+1,.act op at_ a b k) M cap0=some ((d,k x),true,⟨ck op at_ a b x M.ws,c⟩):=by
  obtain ⟨c,hc⟩:=FL (fu:=fu) (a:=a) (b:=b) h1 h2;refine ⟨c,?_⟩;unfold stepG;show ((D.fS fu M cap0 ⟨op,at_,a,b⟩).bind _)=_
  rw [hc]
  rfl
theorem BI {z r:R} {fu:Nat} {most:Int} {ws':List Int} {t:T R} {ws:List Int} {n:Nat} (h:Runs t ws n r ws'):∀ (i:Int) (c:Int) (d q:Nat),0≤i→i+n≤most→most≤1000000→n≤d→n<q→
    ∃ c',loopThen (fun (x13:Int × Mem × (Nat × T R))=>(Option.bind (bif (decide (x13.1<most)) then (some (!x13.2.2.2.bd)) else (some false)) (fun (x19:Bool)=>(bif x19 then ((stepG fu x13.2.2 x13.2.1 cap0).bind (fun (x23:(Nat × T R) × Bool × Mem)=>(bif (!x23.2.1) then (some (Lp.brk (x13.1,x23.2.2,x13.2.2))) else (some (Lp.next ((IntKind.i64.wrap (x13.1+1)),x23.2.2,x23.1)))))) else (some (Lp.brk (x13.1,x13.2.1,x13.2.2))))))) q (i,⟨ws,c⟩,(d,t))
      (fun (x37:Int × Mem × (Nat × T R))=>(some (T.res z x37.2.2.2,x37.1,x37.2.2.2.bd,x37.2.1)))=some (r,i+n,true,⟨ws',c'⟩):=by
  induction h with
  | done r ws=>
    intro i c d q _ _ _ _ hq;obtain ⟨q,rfl⟩:∃ p,q=p+1:=⟨q - 1,kw⟩
    refine ⟨c,?_⟩;have hb:∀ b:Bool,((bif b then some (!(T.done r).bd) else some false):Option Bool)=some false:=fun b=>by cases b <;> rfl
    simp only [loopThen,runLoop,hb,Option.bind_some,cond_false,goOn,afterLoop]
    simp [T.res,T.bd]
  | @act op at_ a b x k ws ws' n r h1 h2 h ih=>
    intro i c d q hi hm hm2 hd hq;obtain ⟨q,rfl⟩:∃ p,q=p+1:=⟨q - 1,kw⟩
    obtain ⟨d,rfl⟩:∃ p,d=p+1:=⟨d - 1,kw⟩
    obtain ⟨c1,hc1⟩:=uO (fu:=fu) (d:=d) (M:=⟨ws,c⟩) (a:=a) (b:=b) (k:=k) h1 h2;obtain ⟨c2,hc2⟩:=ih (i+1) c1 d q kw kw hm2 kw kw;refine ⟨c2,?_⟩;rw [show (i+((n+1:Nat):Int))=i+1+n from kw,←hc2]
    simp only [loopThen,runLoop]
    rw [show decide (i<most)=true from by simp; omega]
    rw [show (!(T.act op at_ a b k).bd)=true from rfl]
    simp only [cond_true,Option.bind_some,hc1,Bool.not_true,cond_false,goOn,cN (show -1000000≤i+1 by omega) kw]
theorem vD {z r:R} {fu d:Nat} {most:Int} {t:T R} {M:Mem} {ws':List Int} {n:Nat} (h:Runs t M.ws n r ws') (hm:(n:Int)≤most) (hm2:most≤1000000) (hd:n≤d) (hf:n<fu):∃ c',runG z fu (d,t) M cap0 most=some (r,(n:Int),true,⟨ws',c'⟩):=by
  obtain ⟨c',hc⟩:=BI (z:=z) (fu:=fu) (most:=most) h 0 M.cnt d fu kw kw hm2 hd hf;refine ⟨c',?_⟩;rw [Int.zero_add] at hc
  exact hc
end
/-! ### Words by their places -/
def rd (ws:List Int) (i:Int):Int:=ws.getD i.toNat 0
theorem gk {ws:List Int} {i:Int} (h0:0≤i) (h1:i<ws.length):getI ws i=some (rd ws i):=by
  unfold getI rd;rw [if_pos h0,List.getD_eq_getElem?_getD,List.getElem?_eq_getElem kw]
  rfl
theorem cn {ws:List Int} {i j v:Int} (h0:0≤i) (h1:i<ws.length) (hj:0≤j):rd (ws.set i.toNat v) j=if j=i then v else rd ws j:=by
  unfold rd;simp only [List.getD_eq_getElem?_getD,List.getElem?_set]
  by_cases h:j=i
  · subst h
    simp [show j.toNat<ws.length from by omega]
  · rw [if_neg kw,if_neg h]
theorem Runs.load {R:Type} {at_:Int} {k:Int→T R} {ws ws':List Int} {n:Nat} {r:R} (h0:0≤at_) (h1:at_<ws.length) (h:Runs (k (rd ws at_)) ws n r ws'):Runs (.act 0 at_ 0 0 k) ws (n+1) r ws':=
  .act kw (gk h0 h1) (by simpa [ck] using h)
theorem Runs.store {R:Type} {at_ w:Int} {k:Int→T R} {ws ws':List Int} {n:Nat} {r:R} (h0:0≤at_) (h1:at_<ws.length) (h:Runs (k (rd ws at_)) (ws.set at_.toNat w) n r ws'):Runs (.act 1 at_ w 0 k) ws (n+1) r ws':=
  .act kw (gk h0 h1) (by simpa [ck] using h)
theorem dq {x:Int} (h0:0≤x) (h1:x<18446744073709551616):IntKind.u64.wrap x=x:=by
  simp only [IntKind.wrap]
  simp [IntKind.signed,IntKind.bits]
  omega
theorem C2 {at_ w:Int} {ws:List Int} (h0:0≤at_) (h1:at_<ws.length):Runs (D.jR at_ w) ws 1 () (ws.set at_.toNat w):=.store h0 h1 (.done _ _)
/-! ### A memory that is laid out -/
structure LaidAt (p:Plan) (ws:List Int):Prop where
  len:(ws.length:Int)=D.bG p
  head:rd ws 0=1
  next:∀ m,0≤m→m<p.nodes→rd ws (D.aM p+m * 5+1)=if m+1=p.nodes then 0 else m+2
  zero:∀ j,0<j→(∀ m,0≤m→m<p.nodes→j≠D.aM p+m * 5+1)→rd ws j=0
inductive Went (R:Type) where
  | over (r:R)
  | bad
  | went (x:Int) (ws:List Int)
section
variable {A B R : Type}
def went (t:T R) (ws:List Int):Went R:=match t with
  | .done r=>.over r
  | .cut=>.bad
  | .act op at_ a b _=>if 0≤op∧op≤3 then (match getI ws at_ with
    | some x=>.went x (ck op at_ a b x ws)
    | none=>.bad) else .bad
theorem jP {t:T R} {ws:List Int} {r:R} (h:went t ws=.over r):t=.done r:=by
  cases t with
  | done r'=>simp only [went,Went.over.injEq] at h; rw [h]
  | cut=>cases h
  | act op at_ a b k=>
    simp only [went] at h
    split at h
    · split at h <;> cases h
    · cases h
theorem iN {t:T R} {ws ws':List Int} {x:Int} (h:went t ws=.went x ws'):∃ op at_ a b k,t=.act op at_ a b k∧(0≤op∧op≤3)∧getI ws at_=some x∧ws'=ck op at_ a b x ws:=by
  cases t with
  | done r'=>cases h
  | cut=>cases h
  | act op at_ a b k=>
    simp only [went] at h
    split at h
    · rename_i h1
      split at h
      · rename_i y h2
        simp only [Went.went.injEq] at h
        obtain ⟨rfl,rfl⟩:=h;exact ⟨op,at_,a,b,k,rfl,h1,h2,rfl⟩
      · cases h
    · cases h
inductive Safe (Q:A→B→List Int→Prop):Nat→T A→T B→List Int→Prop
  | over {n:Nat} {ra:A} {rb:B} {ws:List Int} (h:Q ra rb ws):Safe Q n (.done ra) (.done rb) ws
  | left {n:Nat} {ta:T A} {rb:B} {ws ws':List Int} {x:Int} (h1:went ta ws=.went x ws') (h:Safe Q n (ta.next x) (.done rb) ws'):Safe Q (n+1) ta (.done rb) ws
  | right {n:Nat} {ra:A} {tb:T B} {ws ws':List Int} {x:Int} (h1:went tb ws=.went x ws') (h:Safe Q n (.done ra) (tb.next x) ws'):Safe Q (n+1) (.done ra) tb ws
  | both {n:Nat} {ta:T A} {tb:T B} {ws wa wb:List Int} {x y:Int} (h1:went ta ws=.went x wa) (h2:went tb ws=.went y wb) (h:Safe Q n (ta.next x) tb wa) (h':Safe Q n ta (tb.next y) wb):Safe Q (n+1) ta tb ws
theorem Safe.mono {Q Q':A→B→List Int→Prop} (hQ:∀ a b w,Q a b w→Q' a b w) {n:Nat} {ta:T A} {tb:T B} {ws:List Int} (h:Safe Q n ta tb ws):Safe Q' n ta tb ws:=by
  induction h with
  | over h=>exact .over (hQ _ _ _ h)
  | left h1 _ ih=>exact .left h1 ih
  | right h1 _ ih=>exact .right h1 ih
  | both h1 h2 _ _ ih ih'=>exact .both h1 h2 ih ih'
theorem Runs.pW {t:T R} {ws ws' ws'':List Int} {x:Int} {n:Nat} {r:R} (h:went t ws=.went x ws') (h2:Runs (t.next x) ws' n r ws''):Runs t ws (n+1) r ws'':=by
  obtain ⟨op,at_,a,b,k,rfl,h1,h3,rfl⟩:=iN h;exact .act h1 h3 h2
theorem Safe.runs {Q:A→B→List Int→Prop} {n:Nat} {ta:T A} {tb:T B} {ws:List Int} (h:Safe Q n ta tb ws):∃ (m:Nat) (ra:A) (w1:List Int) (m2:Nat) (rb:B) (w2:List Int),Runs ta ws m ra w1∧Runs tb w1 m2 rb w2∧m+m2≤n∧Q ra rb w2:=by
  induction h with
  | over h=>exact ⟨0,_,_,0,_,_,.done _ _,.done _ _,kw,h⟩
  | left h1 _ ih=>
    obtain ⟨m,ra,w1,m2,rb,w2,r1,r2,hm,hq⟩:=ih;exact ⟨m+1,ra,w1,m2,rb,w2,.pW h1 r1,r2,kw,hq⟩
  | right h1 _ ih=>
    obtain ⟨m,ra,w1,m2,rb,w2,r1,r2,hm,hq⟩:=ih;cases r1 with
    | done=>exact ⟨0,_,_,m2+1,rb,w2,.done _ _,.pW h1 r2,kw,hq⟩
  | both h1 h2 _ _ ih _=>
    obtain ⟨m,ra,w1,m2,rb,w2,r1,r2,hm,hq⟩:=ih;exact ⟨m+1,ra,w1,m2,rb,w2,.pW h1 r1,r2,kw,hq⟩
theorem Safe.stepL {Q:A→B→List Int→Prop} {n:Nat} {ta:T A} {tb:T B} {ws:List Int} (h:Safe Q n ta tb ws):ta.bd=true∨∃ m x ws',n=m+1∧went ta ws=.went x ws'∧Safe Q m (ta.next x) tb ws':=by
  cases h with
  | over h=>exact .inl rfl
  | left h1 h=>exact .inr ⟨_,_,_,rfl,h1,h⟩
  | right h1 h=>exact .inl rfl
  | both h1 h2 h h'=>exact .inr ⟨_,_,_,rfl,h1,h⟩
theorem Safe.stepR {Q:A→B→List Int→Prop} {n:Nat} {ta:T A} {tb:T B} {ws:List Int} (h:Safe Q n ta tb ws):tb.bd=true∨∃ m x ws',n=m+1∧went tb ws=.went x ws'∧Safe Q m ta (tb.next x) ws':=by
  cases h with
  | over h=>exact .inl rfl
  | left h1 h=>exact .inl rfl
  | right h1 h=>exact .inr ⟨_,_,_,rfl,h1,h⟩
  | both h1 h2 h h'=>exact .inr ⟨_,_,_,rfl,h2,h'⟩
/-! ### States looked at, each once -/
def played (t:T R):List Int→T R
  | []=>t
  | x::h=>(played t h).next x
structure RSt where
  ha:List Int
  hb:List Int
  ws:List Int
  deriving DecidableEq
end
def raceG {R:Type} (z:R) (fu:Nat) (a0:Nat × T R) (a1:Nat × T R) (a2:Mem) (a3:List Bool):Option (R × R × Bool × Mem):=(loopThen (fun (x17:Int × (Nat × T R) × (Nat × T R) × Mem)=>(bif (decide (x17.1<(a3.length:Int))) then ((getI a3 x17.1).bind (fun (x22:Bool)=>(Option.bind (bif x22 then ((D.dR fu x17.2.2.2 0).bind (fun (x25:Cap)=>((stepG fu x17.2.1 x17.2.2.2 x25).bind (fun (x26:(Nat × T R) × Bool × Mem)=>(some (x26.2.2,x26.1,x17.2.2.1)))))) else ((D.dR fu x17.2.2.2 0).bind (fun (x34:Cap)=>((stepG fu x17.2.2.1 x17.2.2.2 x34).bind (fun (x35:(Nat × T R) × Bool × Mem)=>(some (x35.2.2,x17.2.1,x35.1))))))) (fun (x43:Mem × (Nat × T R) × (Nat × T R))=>(some (Lp.next ((IntKind.i64.wrap (x17.1+1)),x43.2.1,x43.2.2,x43.1))))))) else (some (Lp.brk (x17.1,x17.2.1,x17.2.2.1,x17.2.2.2))))) fu (0,a0,a1,a2) (fun (x46:Int × (Nat × T R) × (Nat × T R) × Mem)=>((D.dR fu x46.2.2.2 0).bind (fun (x49:Cap)=>((runG z fu x46.2.1 x46.2.2.2 x49 600).bind (fun (x50:R × Int × Bool × Mem)=>((D.dR fu x50.2.2.2 0).bind (fun (x53:Cap)=>((runG z fu x46.2.2.1 x50.2.2.2 x53 600).bind (fun (x54:R × Int × Bool × Mem)=>(Option.bind (bif x50.2.2.1 then (some (x50.1,x54.1,x54.2.2.1)) else (some (x50.1,x54.1,false))) (fun (x61:R × R × Bool)=>(some (x61.1,x61.2.1,x61.2.2,x54.2.2.2))))))))))))))
section
variable {R : Type}
theorem tL {fu d:Nat} {t:T R} {M:Mem} {c:Cap} (h:t.bd=true):stepG fu (d,t) M c=some ((d,t),false,M):=by
  unfold stepG;simp only [h,cond_true]
theorem tS {fu d:Nat} {t:T R} {M:Mem} {x:Int} {ws':List Int} (h:went t M.ws=.went x ws'):∃ c,stepG fu (d+1,t) M cap0=some ((d,t.next x),true,⟨ws',c⟩):=by
  obtain ⟨op,at_,a,b,k,rfl,h1,h2,rfl⟩:=iN h;exact uO h1 h2
theorem uI {z:R} {Q:R→R→List Int→Prop} {n:Nat} {ta tb:T R} {M:Mem} {picks:List Bool} {fu:Nat} (h:Safe Q n ta tb M.ws) (hn:n≤300) (hf:700≤fu) (hp:picks.length≤60) :
    ∃ ra rb M',raceG z fu (fu,ta) (fu,tb) M picks=some (ra,rb,true,M')∧Q ra rb M'.ws:=by
  unfold raceG;simp only [CX,Option.bind_some];refine uL (fun (o:Option (R × R × Bool × Mem))=>∃ (ra rb:R) (M':Mem),o=some (ra,rb,true,M')∧Q ra rb M'.ws) (fun (i:Nat) (x:Int × (Nat × T R) × (Nat × T R) × Mem)=>x.1=(i:Int)∧∃ m,Safe Q m x.2.1.2 x.2.2.1.2 x.2.2.2.ws∧m≤n∧m≤x.2.1.1∧m≤x.2.2.1.1) picks.length fu ⟨rfl,n,h,Nat.le_refl _,(show n≤fu by omega),(show n≤fu by omega)⟩ kw ?_ ?_
  · rintro i ⟨x,⟨da,ta⟩,⟨db,tb⟩,M⟩ hi ⟨rfl,m,hs,hm,hda,hdb⟩
    simp only at hs hda hdb ⊢
    rw [show decide ((i:Int)<(picks.length:Int))=true from by simp; omega,BW hi,cN (show -1000000≤(i:Int)+1 by omega) kw]
    simp only [cond_true,Option.bind_some]
    cases picks[i]
    · simp only [cond_false]
      rcases hs.stepR with hd | ⟨m',y,ws',rfl,hw,hs'⟩
      · rw [tL hd]
        exact ⟨_,rfl,by simp,m,hs,hm,hda,hdb⟩
      · obtain ⟨db,rfl⟩:∃ q,db=q+1:=⟨db - 1,kw⟩
        obtain ⟨c,hc⟩:=tS (fu:=fu) (d:=db) hw;rw [hc];exact ⟨_,rfl,by simp,m',hs',kw,by simp only; omega,by simp only; omega⟩
    · simp only [cond_true]
      rcases hs.stepL with hd | ⟨m',y,ws',rfl,hw,hs'⟩
      · rw [tL hd]
        exact ⟨_,rfl,by simp,m,hs,hm,hda,hdb⟩
      · obtain ⟨da,rfl⟩:∃ q,da=q+1:=⟨da - 1,kw⟩
        obtain ⟨c,hc⟩:=tS (fu:=fu) (d:=da) hw;rw [hc];exact ⟨_,rfl,by simp,m',hs',kw,by simp only; omega,by simp only; omega⟩
  · rintro ⟨x,⟨da,ta⟩,⟨db,tb⟩,M⟩ ⟨rfl,m,hs,hm,hda,hdb⟩
    simp only at hs hda hdb ⊢
    rw [show decide ((picks.length:Int)<(picks.length:Int))=false from by simp]
    refine ⟨_,rfl,?_⟩;simp only;obtain ⟨m1,ra,w1,m2,rb,w2,r1,r2,hmm,hq⟩:=hs.runs;obtain ⟨c1,h1⟩:=vD (z:=z) (fu:=fu) (d:=da) (most:=600) r1 kw kw kw kw;rw [h1];simp only [Option.bind_some,cond_true];obtain ⟨c2,h2⟩:=vD (z:=z) (fu:=fu) (d:=db) (most:=600) (M:=⟨w1,c1⟩) r2 kw kw kw kw;rw [h2];exact ⟨ra,rb,⟨w2,c2⟩,rfl,hq⟩
end
/-! ### The words behind a race, gathered -/
section
variable {A B R : Type}
def insW (l:List (List Int)) (s:List Int):List (List Int):=if l.elem s then l else s::l
inductive Succ where
  | bad
  | fin (ws:List Int)
  | one (s:RSt)
  | two (s t:RSt)
theorem BX {l:List (List Int)} {s t:List Int} (h:t∈l):t∈insW l s:=by
  unfold insW
  split
  · exact h
  · exact List.mem_cons_of_mem _ h
theorem C4 {l:List (List Int)} {s:List Int}:s∈insW l s:=by
  unfold insW
  split
  · rename_i h; simpa using h
  · exact List.mem_cons_self ..
/-! ### All paths, with a word left open -/
end
section
variable {A B R : Type}
def opAt:T R→Int
  | .act _ at_ _ _ _=>at_
  | _=>-1
inductive SafeC (PA PB:Int→Bool) (Q:A→B→List Int→Prop):Nat→T A→T B→List Int→Prop
  | over {n:Nat} {ra:A} {rb:B} {ws:List Int} (h:Q ra rb ws):SafeC PA PB Q n (.done ra) (.done rb) ws
  | left {n:Nat} {ta:T A} {rb:B} {ws ws':List Int} {x:Int} (hc:PB (opAt ta)=false) (h1:went ta ws=.went x ws') (h:SafeC PA PB Q n (ta.next x) (.done rb) ws'):SafeC PA PB Q (n+1) ta (.done rb) ws
  | right {n:Nat} {ra:A} {tb:T B} {ws ws':List Int} {x:Int} (hc:PA (opAt tb)=false) (h1:went tb ws=.went x ws') (h:SafeC PA PB Q n (.done ra) (tb.next x) ws'):SafeC PA PB Q (n+1) (.done ra) tb ws
  | both {n:Nat} {ta:T A} {tb:T B} {ws wa wb:List Int} {x y:Int} (hc:PB (opAt ta)=false) (hc':PA (opAt tb)=false) (h1:went ta ws=.went x wa) (h2:went tb ws=.went y wb) (h:SafeC PA PB Q n (ta.next x) tb wa) (h':SafeC PA PB Q n ta (tb.next y) wb):SafeC PA PB Q (n+1) ta tb ws
variable {PA PB : Int → Bool} {Q : A → B → List Int → Prop}
theorem SafeC.safe {n:Nat} {ta:T A} {tb:T B} {ws:List Int} (h:SafeC PA PB Q n ta tb ws):Safe Q n ta tb ws:=by
  induction h with
  | over h=>exact .over h
  | left _ h1 _ ih=>exact .left h1 ih
  | right _ h1 _ ih=>exact .right h1 ih
  | both _ _ h1 h2 _ _ ih ih'=>exact .both h1 h2 ih ih'
theorem um {op i a b x j:Int} {ws:List Int} (hi:0≤i) (h:i≠j):getI (ck op i a b x ws) j=getI ws j:=by
  have hs:∀ v,getI (ws.set i.toNat v) j=getI ws j:=fun v=>by
    unfold getI
    split
    · exact List.getElem?_set_ne kw
    · rfl
  unfold ck
  repeat (first | split | rfl | exact hs _)
theorem BA {op i a b x op' j a' b' y:Int} {ws:List Int} (hi:0≤i) (hj:0≤j) (h:i≠j):ck op' j a' b' y (ck op i a b x ws)=ck op i a b x (ck op' j a' b' y ws):=by
  have hs:∀ u v,(ws.set i.toNat u).set j.toNat v=(ws.set j.toNat v).set i.toNat u:=fun u v=>List.set_comm _ _ kw
  unfold ck
  repeat (first | split | rfl | exact hs _ _)
theorem tC {ws:List Int} {i x:Int} (h:getI ws i=some x):0≤i:=by
  unfold getI at h
  split at h
  · assumption
  · cases h
theorem swapped {ta:T A} {tb:T B} {ws wa wab:List Int} {x y:Int} (h:opAt ta≠opAt tb) (h1:went ta ws=.went x wa) (h2:went tb wa=.went y wab):∃ wb,went tb ws=.went y wb∧went ta wb=.went x wab:=by
  obtain ⟨op,i,a,b,k,rfl,ho,hg,rfl⟩:=iN h1;obtain ⟨op',j,a',b',k',rfl,ho',hg',rfl⟩:=iN h2;have hij:i≠j:=h;have hi:=tC hg;have hj:=tC hg';rw [um hi hij] at hg'
  refine ⟨ck op' j a' b' y ws,?_,?_⟩
  · simp only [went]
    rw [if_pos ho',hg']
  · simp only [went]
    rw [if_pos ho,um hj (Ne.symm hij),hg]
    simp only
    rw [BA hj hi (Ne.symm hij)]
theorem SafeC.stepR {n:Nat} {ta:T A} {tb:T B} {ws:List Int} (h:SafeC PA PB Q n ta tb ws) (hd:tb.bd=false):∃ m y wb,n=m+1∧PA (opAt tb)=false∧went tb ws=.went y wb∧SafeC PA PB Q m ta (tb.next y) wb:=by
  cases h with
  | over h=>cases hd
  | left hc h1 h=>cases hd
  | right hc h1 h=>exact ⟨_,_,_,rfl,hc,h1,h⟩
  | both hc hc' h1 h2 h h'=>exact ⟨_,_,_,rfl,hc',h2,h'⟩
theorem SafeC.stepL {n:Nat} {ta:T A} {tb:T B} {ws:List Int} (h:SafeC PA PB Q n ta tb ws) (hd:ta.bd=false):∃ m x wa,n=m+1∧PB (opAt ta)=false∧went ta ws=.went x wa∧SafeC PA PB Q m (ta.next x) tb wa:=by
  cases h with
  | over h=>cases hd
  | left hc h1 h=>exact ⟨_,_,_,rfl,hc,h1,h⟩
  | right hc h1 h=>cases hd
  | both hc hc' h1 h2 h h'=>exact ⟨_,_,_,rfl,hc,h1,h⟩
theorem SafeC.first {ta:T A} (hA:PA (opAt ta)=true) (hB:PB (opAt ta)=false) {x:Int}:∀ {n:Nat} {tb:T B} {ws wa:List Int},went ta ws=.went x wa→SafeC PA PB Q n (ta.next x) tb wa→SafeC PA PB Q (n+1) ta tb ws:=by
  intro n
  induction n with
  | zero=>
    intro tb ws wa h1 h;cases hd:tb.bd with
    | true=>
      cases tb with
      | done rb=>exact .left hB h1 h
      | cut=>cases hd
      | act=>cases hd
    | false=>
      obtain ⟨m,y,wb,e,_⟩:=h.stepR hd;cases e
  | succ n ih=>
    intro tb ws wa h1 h;cases hd:tb.bd with
    | true=>
      cases tb with
      | done rb=>exact .left hB h1 h
      | cut=>cases hd
      | act=>cases hd
    | false=>
      obtain ⟨m,y,wab,e,hc,h2,h3⟩:=h.stepR hd;obtain rfl:n=m:=kw
      obtain ⟨wb,g1,g2⟩:=swapped (fun e=>by rw [e,hc] at hA; cases hA) h1 h2
      exact .both hB hc h1 g1 h (ih g2 h3)
theorem SafeC.second {tb:T B} (hB:PB (opAt tb)=true) (hA:PA (opAt tb)=false) {y:Int}:∀ {n:Nat} {ta:T A} {ws wb:List Int},went tb ws=.went y wb→SafeC PA PB Q n ta (tb.next y) wb→SafeC PA PB Q (n+1) ta tb ws:=by
  intro n
  induction n with
  | zero=>
    intro ta ws wb h1 h;cases hd:ta.bd with
    | true=>
      cases ta with
      | done ra=>exact .right hA h1 h
      | cut=>cases hd
      | act=>cases hd
    | false=>
      obtain ⟨m,x,wa,e,_⟩:=h.stepL hd;cases e
  | succ n ih=>
    intro ta ws wb h1 h;cases hd:ta.bd with
    | true=>
      cases ta with
      | done ra=>exact .right hA h1 h
      | cut=>cases hd
      | act=>cases hd
    | false=>
      obtain ⟨m,x,wab,e,hc,h2,h3⟩:=h.stepL hd;obtain rfl:n=m:=kw
      obtain ⟨wa,g1,g2⟩:=swapped (fun e=>by rw [e,hc] at hB; cases hB) h1 h2
      exact .both hc hA g1 h1 (ih g2 h3) h
theorem BR {op i a b x:Int} {ws:List Int}:(ck op i a b x ws).length=ws.length:=by
  unfold ck
  repeat (first | split | rfl | exact List.length_set ..)
theorem mG {t:T R} {ws w:List Int} {x:Int} (h:went t ws=.went x w):w.length=ws.length:=by
  obtain ⟨op,i,a,b,k,rfl,_,_,rfl⟩:=iN h;exact BR
theorem Safe.lenW {m:Nat} {Q:A→B→List Int→Prop} {n:Nat} {ta:T A} {tb:T B} {ws:List Int} (h:Safe Q n ta tb ws) (hl:ws.length=m):Safe (fun a b w=>Q a b w∧w.length=m) n ta tb ws:=by
  induction h with
  | over h=>exact .over ⟨h,hl⟩
  | left h1 _ ih=>exact .left h1 (ih ((mG h1).trans hl))
  | right h1 _ ih=>exact .right h1 (ih ((mG h1).trans hl))
  | both h1 h2 _ _ ih ih'=>exact .both h1 h2 (ih ((mG h1).trans hl)) (ih' ((mG h2).trans hl))
/-! ### Values, computed before they are handed on -/
variable {β : Type}
def forceI (x:Int) (k:Int→β):β:=match x with
  | .ofNat 0=>k 0
  | .ofNat (n+1)=>k (.ofNat (n+1))
  | .negSucc 0=>k (.negSucc 0)
  | .negSucc (n+1)=>k (.negSucc (n+1))
theorem pE (x:Int) (k:Int→β):forceI x k=k x:=by
  unfold forceI
  split <;> rfl
def forceL:List Int→(List Int→β)→β
  | [],k=>k []
  | x::l,k=>forceI x fun x=>forceL l fun l=>k (x::l)
theorem pA:∀ (l:List Int) (k:List Int→β),forceL l k=k l
  | [],_=>rfl
  | x::l,k=>by
    unfold forceL;rw [pE,pA l]
structure St (A B:Type) where
  a:T A
  b:T B
  ha:List Int
  hb:List Int
  ws:List Int
def St.same (x y:St A B):Bool:=x.ha==y.ha&&x.hb==y.hb&&x.ws==y.ws
inductive SuccP (A B:Type) where
  | bad
  | fin (ws:List Int)
  | one (s:St A B)
  | two (s t:St A B)
def St.goL (x:St A B) (y:Int) (w:List Int) (k:St A B→β):β:=forceI y fun y=>forceL w fun w=>k ⟨x.a.next y,x.b,y::x.ha,x.hb,w⟩
def St.goR (x:St A B) (y:Int) (w:List Int) (k:St A B→β):β:=forceI y fun y=>forceL w fun w=>k ⟨x.a,x.b.next y,x.ha,y::x.hb,w⟩
def St.toL (x:St A B) (y:Int) (w:List Int):St A B:=⟨x.a.next y,x.b,y::x.ha,x.hb,w⟩
def St.toR (x:St A B) (y:Int) (w:List Int):St A B:=⟨x.a,x.b.next y,x.ha,y::x.hb,w⟩
theorem St.qq (x:St A B) (y:Int) (w:List Int) (k:St A B→β):x.goL y w k=k (x.toL y w):=by
  unfold St.goL; rw [pE,pA]; rfl
theorem St.qi (x:St A B) (y:Int) (w:List Int) (k:St A B→β):x.goR y w k=k (x.toR y w):=by
  unfold St.goR; rw [pE,pA]; rfl
def succP (PA PB:Int→Bool) (fin:A→B→List Int→Bool) (x:St A B):SuccP A B:=
  match went x.a x.ws,went x.b x.ws with
  | .over ra,.over rb=>bif fin ra rb x.ws then .fin x.ws else .bad
  | .over _,.went y w=>bif PA (opAt x.b) then .bad else x.goR y w .one
  | .went y w,.over _=>bif PB (opAt x.a) then .bad else x.goL y w .one
  | .went y w,.went z w'=>bif PB (opAt x.a)||PA (opAt x.b) then .bad else bif PA (opAt x.a) then x.goL y w .one else bif PB (opAt x.b) then x.goR z w' .one else x.goL y w fun s=>x.goR z w' fun t=>.two s t
  | _,_=>.bad
def insP (l:List (St A B)) (s:St A B):List (St A B):=bif l.any fun y=>y.same s then l else s::l
def levelP (PA PB:Int→Bool) (fin:A→B→List Int→Bool):List (St A B)→List (St A B)→List (List Int)→Option (List (St A B) × List (List Int))
  | [],acc,W=>some (acc,W)
  | s::l,acc,W=>match succP PA PB fin s with
    | .bad=>none
    | .fin ws=>levelP PA PB fin l acc (insW W ws)
    | .one t=>levelP PA PB fin l (insP acc t) W
    | .two t u=>levelP PA PB fin l (insP (insP acc t) u) W
def exploreP (PA PB:Int→Bool) (fin:A→B→List Int→Bool):Nat→List (St A B)→List (List Int)→Option (List (List Int))
  | _,[],W=>some W
  | 0,_::_,_=>none
  | n+1,s::l,W=>match levelP PA PB fin (s::l) [] W with
    | none=>none
    | some (l',W')=>exploreP PA PB fin n l' W'
def St.ok (a:T A) (b:T B) (s:St A B):Prop:=s.a=played a s.ha∧s.b=played b s.hb
theorem St.D9 {a:T A} {b:T B} {s:St A B} (h:s.ok a b) (y:Int) (w:List Int):(s.toL y w).ok a b:=⟨by show s.a.next y=(played a s.ha).next y; rw [h.1],h.2⟩
theorem St.D4 {a:T A} {b:T B} {s:St A B} (h:s.ok a b) (y:Int) (w:List Int):(s.toR y w).ok a b:=⟨h.1,by show s.b.next y=(played b s.hb).next y; rw [h.2]⟩
theorem St.same_eq {a:T A} {b:T B} {s t:St A B} (hs:s.ok a b) (ht:t.ok a b) (h:s.same t=true):s=t:=by
  unfold St.same at h
  simp only [Bool.and_eq_true,beq_iff_eq] at h
  obtain ⟨⟨h1,h2⟩,h3⟩:=h;cases s; cases t;obtain ⟨e1,e2⟩:=hs;obtain ⟨e3,e4⟩:=ht;simp only at h1 h2 h3 e1 e2 e3 e4
  subst h1; subst h2; subst h3;rw [e1,e2,e3,e4]
theorem mE {l:List (St A B)} {s t:St A B} (h:t∈l):t∈insP l s:=by
  unfold insP;cases l.any fun y=>y.same s
  · exact List.mem_cons_of_mem _ h
  · exact h
theorem pG {a:T A} {b:T B} {l:List (St A B)} {s:St A B} (hl:∀ t,t∈l→t.ok a b) (hs:s.ok a b):s∈insP l s:=by
  unfold insP;cases h:l.any fun y=>y.same s
  · exact List.mem_cons_self ..
  · obtain ⟨y,hy,h⟩:=List.any_eq_true.1 h
    rw [←St.same_eq (hl y hy) hs h]
    exact hy
theorem mS {a:T A} {b:T B} {l:List (St A B)} {s:St A B} (hl:∀ t,t∈l→t.ok a b) (hs:s.ok a b):∀ t,t∈insP l s→t.ok a b:=by
  intro t ht;unfold insP at ht
  cases h:l.any fun y=>y.same s
  · rw [h] at ht
    rcases List.mem_cons.1 ht with rfl | ht
    · exact hs
    · exact hl t ht
  · rw [h] at ht
    exact hl t ht
def PIn (l':List (St A B)) (W':List (List Int)):SuccP A B→Prop
  | .bad=>False
  | .fin ws=>ws∈W'
  | .one t=>t∈l'
  | .two t u=>t∈l'∧u∈l'
theorem Cm {a:T A} {b:T B} {fin:A→B→List Int→Bool} {s:St A B} (hs:s.ok a b):(∀ t,succP PA PB fin s=.one t→t.ok a b)∧(∀ t u,succP PA PB fin s=.two t u→t.ok a b∧u.ok a b):=by
  have hb:∀ (c:Bool) (p q:SuccP A B),(bif c then p else q)=p∨(bif c then p else q)=q:=fun c p q=>by cases c <;> simp
  have hL:∀ y w,(s.toL y w).ok a b:=fun y w=>St.D9 hs y w
  have hR:∀ y w,(s.toR y w).ok a b:=fun y w=>St.D4 hs y w
  unfold succP
  constructor
  · intro t h
    split at h
    all_goals (try simp only [St.qq,St.qi] at h)
    · cases hc:fin _ _ _ <;> rw [hc] at h <;> cases h
    · cases hc:PA (opAt s.b) <;> rw [hc] at h <;> cases h; exact hR _ _
    · cases hc:PB (opAt s.a) <;> rw [hc] at h <;> cases h; exact hL _ _
    · cases hc:PB (opAt s.a)||PA (opAt s.b) <;> rw [hc] at h
      · cases hc:PA (opAt s.a) <;> rw [hc] at h
        · cases hc:PB (opAt s.b) <;> rw [hc] at h <;> cases h; exact hR _ _
        · cases h; exact hL _ _
      · cases h
    · cases h
  · intro t u h
    split at h
    all_goals (try simp only [St.qq,St.qi] at h)
    · cases hc:fin _ _ _ <;> rw [hc] at h <;> cases h
    · cases hc:PA (opAt s.b) <;> rw [hc] at h <;> cases h
    · cases hc:PB (opAt s.a) <;> rw [hc] at h <;> cases h
    · cases hc:PB (opAt s.a)||PA (opAt s.b) <;> rw [hc] at h
      · cases hc:PA (opAt s.a) <;> rw [hc] at h
        · cases hc:PB (opAt s.b) <;> rw [hc] at h <;> cases h; exact ⟨hL _ _,hR _ _⟩
        · cases h
      · cases h
    · cases h
theorem jL {a:T A} {b:T B} {fin:A→B→List Int→Bool}:∀ {l acc l':List (St A B)} {W W':List (List Int)},(∀ t,t∈l→t.ok a b)→(∀ t,t∈acc→t.ok a b)→levelP PA PB fin l acc W=some (l',W')→
    (∀ t,t∈l'→t.ok a b)∧(∀ t,t∈acc→t∈l')∧(∀ t,t∈W→t∈W')∧∀ s,s∈l→PIn l' W' (succP PA PB fin s)
  | [],acc,l',W,W',_,ha,h=>by
    simp only [levelP,Option.some.injEq,Prod.mk.injEq] at h
    obtain ⟨rfl,rfl⟩:=h;exact ⟨ha,fun _ h=>h,fun _ h=>h,fun s hs=>by cases hs⟩
  | s::l,acc,l',W,W',hl,ha,h=>by
    have hs:=hl s (List.mem_cons_self ..);have hl':∀ t,t∈l→t.ok a b:=fun t ht=>hl t (List.mem_cons_of_mem _ ht)
    obtain ⟨k1,k2⟩:=Cm (PA:=PA) (PB:=PB) (fin:=fin) hs;unfold levelP at h
    split at h
    · cases h
    · rename_i ws e
      obtain ⟨h0,h1,h2,h3⟩:=jL hl' ha h;refine ⟨h0,h1,fun t ht=>h2 t (BX ht),fun t ht=>?_⟩
      rcases List.mem_cons.1 ht with rfl | ht
      · rw [e]; exact h2 ws C4
      · exact h3 t ht
    · rename_i u e
      have hu:=k1 u e;obtain ⟨h0,h1,h2,h3⟩:=jL hl' (mS ha hu) h;refine ⟨h0,fun t ht=>h1 t (mE ht),h2,fun t ht=>?_⟩
      rcases List.mem_cons.1 ht with rfl | ht
      · rw [e]; exact h1 u (pG ha hu)
      · exact h3 t ht
    · rename_i u v e
      obtain ⟨hu,hv⟩:=k2 u v e;obtain ⟨h0,h1,h2,h3⟩:=jL hl' (mS (mS ha hu) hv) h;refine ⟨h0,fun t ht=>h1 t (mE (mE ht)),h2,fun t ht=>?_⟩
      rcases List.mem_cons.1 ht with rfl | ht
      · rw [e]; exact ⟨h1 u (mE (pG ha hu)),h1 v (pG (mS ha hu) hv)⟩
      · exact h3 t ht
theorem tj {a:T A} {b:T B} {fin:A→B→List Int→Bool}:∀ {n:Nat} {l:List (St A B)} {W W':List (List Int)},(∀ t,t∈l→t.ok a b)→exploreP PA PB fin n l W=some W'→∀ t,t∈W→t∈W'
  | _,[],W,W',_,h,t,ht=>by
    simp only [exploreP,Option.some.injEq] at h
    exact h ▸ ht
  | 0,_::_,_,_,_,h,_,_=>by cases h
  | n+1,s0::l,W,W',hl,h,t,ht=>by
    unfold exploreP at h
    split at h
    · cases h
    · rename_i l' W2 e
      obtain ⟨g0,_,g2,_⟩:=jL hl (fun t ht=>by cases ht) e
      exact tj g0 h t (g2 t ht)
theorem oX {a:T A} {b:T B} {fin:A→B→List Int→Bool}:∀ {n:Nat} {l:List (St A B)} {W W':List (List Int)},(∀ t,t∈l→t.ok a b)→exploreP PA PB fin n l W=some W'→
    ∀ s,s∈l→SafeC PA PB (fun ra rb ws=>fin ra rb ws=true∧ws∈W') n s.a s.b s.ws
  | _,[],_,_,_,_,s,hs=>by cases hs
  | 0,_::_,_,_,_,h,_,_=>by cases h
  | n+1,s0::l,W,W',hl,h,s,hs=>by
    unfold exploreP at h
    split at h
    · cases h
    · rename_i l' W2 e
      obtain ⟨g0,_,_,g3⟩:=jL hl (fun t ht=>by cases ht) e
      have hin:=g3 s hs;have ih:∀ t,t∈l'→SafeC PA PB (fun ra rb ws=>fin ra rb ws=true∧ws∈W') n t.a t.b t.ws:=fun t ht=>oX g0 h t ht
      have hw:∀ t,t∈W2→t∈W':=tj g0 h;unfold succP at hin
      split at hin
      all_goals (try simp only [St.qq,St.qi] at hin)
      · rename_i ra rb e1 e2
        cases hc:fin ra rb s.ws <;> rw [hc] at hin
        · exact hin.elim
        · rw [jP e1,jP e2]
          exact .over ⟨hc,hw _ hin⟩
      · rename_i ra y w e1 e2
        cases hc:PA (opAt s.b) <;> rw [hc] at hin
        · have:=ih _ hin
          simp only [St.toR] at this
          rw [jP e1] at this ⊢
          exact .right hc e2 this
        · exact hin.elim
      · rename_i x w rb e1 e2
        cases hc:PB (opAt s.a) <;> rw [hc] at hin
        · have:=ih _ hin
          simp only [St.toL] at this
          rw [jP e2] at this ⊢
          exact .left hc e1 this
        · exact hin.elim
      · rename_i x w y w' e1 e2
        cases hc:PB (opAt s.a)||PA (opAt s.b) <;> rw [hc] at hin
        · simp only [Bool.or_eq_false_iff] at hc
          cases hp:PA (opAt s.a) <;> rw [hp] at hin
          · cases hq:PB (opAt s.b) <;> rw [hq] at hin
            · exact .both hc.1 hc.2 e1 e2 (ih _ hin.1) (ih _ hin.2)
            · exact .second hq hc.2 e2 (ih _ hin)
          · exact .first hp hc.1 e1 (ih _ hin)
        · exact hin.elim
      · exact hin.elim
end
end Go.Proofs.YtikjpdpgdmbdpaaGreat

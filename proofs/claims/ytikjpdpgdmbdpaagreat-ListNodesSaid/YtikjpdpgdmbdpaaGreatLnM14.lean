/- Some of our texts, one behind the other. -/
import Derived.Test.YtikjpdpgdmbdpaaGreatLnM13
set_option linter.all false
/- Ours. -/
set_option maxRecDepth 20000
set_option maxHeartbeats 2000000
namespace Go.Proofs.YtikjpdpgdmbdpaaGreat
open Go.RowKit
theorem cl28:zpd Tryz.prog 28:=kz
theorem cl78:zpd Tryz.prog 78:=kz
theorem cl79:zpd Tryz.prog 79:=kz
theorem cl80:zpd Tryz.prog 80:=kz
theorem cl81:zpd Tryz.prog 81:=kz
def D.zc2 (fu:Nat) (a0:Plan):Option (Mem):=((D.zkk fu ([(D.zab a0)])).bind (fun (x10:Mem × Int)=>(Option.bind (bif (x10.2 !=0) then (some true) else (some false)) (fun (x16:Bool)=>(bif x16 then none else ((D.zcO fu x10.1 0).bind (fun (x21:Cap)=>((D.zeV fu (fu,(D.zej (fu+1) a0)) x10.1 x21 (IntKind.i64.wrap (a0.nodes+1))).bind (fun (x22:Unit × Int × Bool × Mem)=>(bif (!x22.2.2.1) then none else (some x22.2.2.2)))))))))))
set_option maxRecDepth 20000 in
set_option maxHeartbeats 20000000 in
theorem zfi {fu:Nat} (w0:World) (a0:Plan) {res:Mem} (hD:D.zc2 fu a0=some res) :
    Calls Tryz.prog 17 #[.agg (zpe a0).toArray] w0 (fun e w'=>∃ (g0:MG),e=.returned (zp g0.mb)∧Done No No [memK g0 res] w0 w'):=by
 refine enter Tryz.func17 rfl 37 rfl rfl fun fr r=>?_;have hP:Post No [] w0 w0:=Post.nil w0
 unfold D.zc2 at hD
 refine wsr ?_;refine kX 23 (.agg (zpe a0).toArray) r rfl rfl fun b1 w2 n3 r=>?_;have hP:Post No [zpg b1 ((zpe a0)).toArray 23] w0 w2:=hP.new n3
 refine kA (.pointer none) r rfl rfl fun r=>wn (wsr (kG (zpe a0) 6 r rfl (hP.cell (i:=0) rfl) ta23 rfl rfl fun r=>?_));refine kE r (zjp w2 a0) rfl cl79 rfl fun w5 hb r=>?_
 have hP:=hP.below hb;refine zhp (.cells (([(D.zab a0)]).flatMap i64).toArray 3 (0,0)) 1 r (fun R=>zcp r kz) rfl fun fr b6 w7 n8 r=>?_;have hP:Post No [zpg b1 ((zpe a0)).toArray 23,rowK 3 1 i64 (.slice (some ⟨b6,0,none⟩) 1 1) ([(D.zab a0)])] w0 w7:=hP.newRow n8 (fun _=>rfl) rfl
 obtain ⟨x10,hx10,hD⟩:=zan hD;refine kC r (znj w7 ([(D.zab a0)]) (hP.row (i:=1) rfl).ro hx10) rfl cl78 rfl ?_;rintro _ w11 ⟨mg12,rfl,hq⟩;refine ⟨_,rfl,fun fr r=>?_⟩
 have hP:Post No [zpg b1 ((zpe a0)).toArray 23,rowK 3 1 i64 (.slice (some ⟨b6,0,none⟩) 1 1) ([(D.zab a0)]),memK mg12 x10.1] w0 w11:=hP.add hq;refine kM (.tuple #[(zp mg12.mb),(I x10.2)]) r rfl rfl fun r=>za0 (zp mg12.mb) r (fun R=>zb8 r (vs:=#[(zp mg12.mb),(I x10.2)]) rfl rfl) rfl fun fr r=>za0 (I x10.2) r (fun R=>zb8 r (vs:=#[(zp mg12.mb),(I x10.2)]) rfl rfl) rfl fun fr r=>kA (zp mg12.mb) r rfl rfl fun r=>kA (I x10.2) r rfl rfl fun r=>wn (wp_seq (wp_seq ?_));have hP:Post No [zpg b1 ((zpe a0)).toArray 23,memK mg12 x10.1] w0 w11:=hP.pick [0,2] rfl rfl
 refine zbP (N:=37) (Y:=Bool) (G:=Unit) (fun x γ=>[(0,(.agg (zpe a0).toArray)),(1,(zp b1)),(2,(.pointer none)),(3,(zp mg12.mb)),(4,(I x10.2)),(20,(.bool x))]) (fun x γ w=>Post No [zpg b1 ((zpe a0)).toArray 23,memK mg12 x10.1] w0 w) hD ?_ ?_
 ·
  rintro y14 RPy14 nxy14 hD;refine wp_region_lit (kM (I x10.2) r rfl rfl fun r=>kB r rfl rfl rfl rfl rfl fun r=>kM (.bool (x10.2 !=0)) r rfl rfl fun r=>?_);refine zaD (x10.2 !=0) (fun h15=>?_) (fun h15=>?_)
  ·
   have hD:=(zal h15).symm.trans hD;refine s0 r h15 fun fr r=>s0 r h15 fun fr r=>za0 (.bool true) r (fun R=>zam r (b:=true) (congrArg Value.bool h15) rfl) rfl fun fr r=>wn ?_;exact nxy14 true () _ _ _ hD r (kO (zac rfl (zac rfl zaI))) (hP.pick [0,1] rfl rfl)
  have hD:=(zaf h15).symm.trans hD;refine s1 r h15 (kM (zp mg12.mb) r rfl rfl fun r=>s1 r h15 (kB r rfl rfl rfl rfl rfl fun r=>za0 (.bool false) r (fun R=>zam r (b:=false) (congrArg Value.bool h15) rfl) rfl fun fr r=>wn ?_));exact nxy14 false () _ _ _ hD r (kO (zac rfl (zac rfl zaI))) (hP.pick [0,1] rfl rfl)
 rintro x16 γ17 fr w18 g r hP hD;have hP:Post No [zpg b1 ((zpe a0)).toArray 23,memK mg12 x10.1] w0 w18:=hP;refine wp_cond_split (t:=x16) (r.ev rfl) (fun h19=>?_) (fun h19=>?_)
 ·
  have hD:=(zal h19).symm.trans hD;refine wsr (kA (.pointer none) r rfl rfl fun r=>wn (wp_ret ?_));exact nomatch hD
 have hD:=(zaf h19).symm.trans hD;refine wp_skip (wp_seq ?_);obtain ⟨x21,hx21,hD⟩:=zan hD;obtain ⟨x22,hx22,hD⟩:=zan hD;refine zjI mg12.bs [.val (.agg (zpe a0).toArray),.pred (PrP Tryz.prog zph (fu,(D.zej (fu+1) a0))) (PrP.st _),.val (zp mg12.mb),.val (zp mg12.mb),.val (.agg (capC x21).toArray),.val (zp b1),.val (I a0.nodes),.val (I (W (a0.nodes+1))),.eff (EffP w18.heap.size (memK mg12 x22.2.2.2) (fun _:Unit=>(.tuple #[(.agg #[]),(I x22.2.1),(.bool x22.2.2.1)])) (fun _:Unit=>[])) (EffP.st _ _ _ _),.val (.tuple #[(.agg #[]),(I x22.2.1),(.bool x22.2.2.1)]),.val (.agg #[]),.val (I x22.2.1),.val (.bool x22.2.2.1),.cell 152 0,.stored 13 #[] 152 0 rfl,.val (I x22.2.1),.val (.bool x22.2.2.1)] mixed r (fun b hb=>hP.sep.lt (i:=1) rfl (.inl hb)) kz ?_ ?_
 ·
  refine zau r rfl (fun fr1 g w' hk' hd r'=>?_) ?_
  · exact zag r' (cs:=(zpe a0)) (n:=6) rfl (hP.cellK (j:=1) rfl (drK hk') (i:=0) rfl rfl) ta23 rfl ⟨Below.refl _ _,rfl⟩
  refine zbb r rfl kz (fun fr1 g w' hb' hd r'=>?_) ?_
  · exact zaC r' (args:=[(.agg (zpe a0).toArray)]) (lc (hd 0 rfl).1 l0) cl81 ((zlT (F:=No) (n:=fu) (j:=fu+1) (fun _ h=>h.elim) kw a0).mono (by rintro _ w2 ⟨y,rfl,hb2,hr2⟩; exact ⟨_,rfl,hb2,zn3 hr2⟩))
  refine zbb r rfl kz (fun fr1 g w' hb' hd r'=>?_) ?_
  · exact zav r' (v:=(zp mg12.mb)) rfl ⟨Below.refl _ _,rfl⟩
  refine zau r rfl (fun fr1 g w' hk' hd r'=>?_) ?_
  · exact zav r' (v:=(zp mg12.mb)) rfl ⟨Below.refl _ _,rfl⟩
  refine zbb r rfl kz (fun fr1 g w' hb' hd r'=>?_) ?_
  · exact zaC r' (args:=[(zp mg12.mb),(I 0)]) (lc (hd 3 rfl).1 (lc rfl l0)) cl28 ((zeO _ x10.1 ((hP.below (dr hb')).mem (i:=1) rfl) 0 hx21).mono (by rintro _ w2 ⟨rfl,hb2⟩; exact ⟨_,rfl,hb2,rfl⟩))
  refine zau r rfl (fun fr1 g w' hk' hd r'=>?_) ?_
  · exact za3 r' (b:=b1) (o:=0) (k:=0) rfl zeQ ⟨Below.refl _ _,rfl⟩
  refine zau r rfl (fun fr1 g w' hk' hd r'=>?_) ?_
  · exact za4 r' (v:=(I a0.nodes)) (hd 5 rfl).1 (hP.cellK (j:=1) rfl (drK hk') (i:=0) rfl rfl) to3 rfl ⟨Below.refl _ _,rfl⟩
  refine zbb r rfl kz (fun fr1 g w' hb' hd r'=>?_) ?_
  · exact zpB r' (u:=(I a0.nodes)) (u':=(I 1)) (v:=(I (W (a0.nodes+1)))) (hd 6 rfl).1 rfl rfl rfl ⟨Below.refl _ _,rfl⟩
  refine zbb r rfl kz (fun fr1 g w' hb' hd r'=>?_) ?_
  · exact zaC r' (args:=[(g 1).v,(zp mg12.mb),(.agg (capC x21).toArray),(I (W (a0.nodes+1)))]) (lc rfl (lc (hd 2 rfl).1 (lc (hd 4 rfl).1 (lc (hd 7 rfl).1 l0)))) cl80 ((zjV _ (fu,(D.zej (fu+1) a0)) x10.1 x21 (W (a0.nodes+1)) (Sep.beside (hd 1 rfl).1 ((hP.below (dr hb')).sep.pk [1] rfl rfl) (by intro c hc b hb; simp only [List.mem_cons,List.not_mem_nil,or_false] at hc; rcases hc with rfl; exact hP.sep.lt (i:=1) rfl hb) (hd 1 rfl).2.1) hx22).mono (by rintro _ w2 ⟨rfl,hq⟩; exact ⟨_,rfl,hq.chg.kept,EffP.of () hq rfl (fun b hb=>hP.sep.lt (i:=1) rfl hb)⟩))
  refine zau r rfl (fun fr1 g w' hk' hd r'=>?_) ?_
  · exact zav r' (v:=(.tuple #[(.agg #[]),(I x22.2.1),(.bool x22.2.2.1)])) (EffP.val (hd 8 rfl).1) ⟨Below.refl _ _,rfl⟩
  refine zau r rfl (fun fr1 g w' hk' hd r'=>?_) ?_
  · exact zb8 r' (vs:=#[(.agg #[]),(I x22.2.1),(.bool x22.2.2.1)]) (hd 9 rfl).1 rfl ⟨Below.refl _ _,rfl⟩
  refine zau r rfl (fun fr1 g w' hk' hd r'=>?_) ?_
  · exact zb8 r' (vs:=#[(.agg #[]),(I x22.2.1),(.bool x22.2.2.1)]) (hd 9 rfl).1 rfl ⟨Below.refl _ _,rfl⟩
  refine zau r rfl (fun fr1 g w' hk' hd r'=>?_) ?_
  · exact zb8 r' (vs:=#[(.agg #[]),(I x22.2.1),(.bool x22.2.2.1)]) (hd 9 rfl).1 rfl ⟨Below.refl _ _,rfl⟩
  refine zau r rfl (fun fr1 g w' hk' hd r'=>?_) ?_
  · exact za6 zs8 (fun b w2 n2=>⟨n2.below,b,rfl,n2.eq,_,n2.at_,rfl⟩)
  refine zau r rfl (fun fr1 g w' hk' hd r'=>?_) ?_
  · obtain ⟨hp,_,c,hc,hn⟩:=(hd 13 rfl).1; exact zaN r' (o:=0) (c:=c) (v:=(.agg #[])) hp (hd 10 rfl).1 hc zrO (by rw [hn]; exact Nat.le_of_ble_eq_true rfl) rfl (zj9 (hn.trans rfl)) (fun w2 u2=>⟨u2,rfl⟩)
  refine zau r rfl (fun fr1 g w' hk' hd r'=>?_) ?_
  · exact zbD r' (v:=(I x22.2.1)) (hd 11 rfl).1 ⟨Below.refl _ _,rfl⟩
  refine zau r rfl (fun fr1 g w' hk' hd r'=>?_) ?_
  · exact zbD r' (v:=(.bool x22.2.2.1)) (hd 12 rfl).1 ⟨Below.refl _ _,rfl⟩
  exact zb5
 intro fr gg w24 hb hΦ hap r;obtain ⟨v20,hv1⟩:∃ v,v=(gg 1).v:=⟨_,rfl⟩;have g1:(gg 1).v=v20:=hv1.symm;obtain ⟨F25,eF25⟩:∃ F,F=rg (gg 1).lo (gg 1).hi:=⟨_,rfl⟩;have hs1:Fresh [zpK Tryz.prog zph (fu,(D.zej (fu+1) a0)) v20 F25] (gg 1).lo (gg 1).hi w24:=by subst hv1; subst eF25; exact (hΦ 1 rfl).1
 obtain ⟨⟨⟩,g8,hcE,_,hs8⟩:=(hΦ 8 rfl).1;obtain ⟨b23,ee_b23⟩:∃ b,b=(gg 13).lo:=⟨_,rfl⟩;have g13:(gg 13).v=(zp b23):=by rw [ee_b23]; exact (hΦ 13 rfl).1.1
 have H23:w24.heap[b23]?=some (.cells #[] 152 (0,0)):=by rw [ee_b23]; exact (hΦ 14 rfl).1.2
 have hs13:Fresh [zpg b23 #[] 152] (gg 13).lo (gg 13).hi w24:=by subst ee_b23; exact Fresh.cell (hΦ 13 rfl).1.2.1 H23
 have r:=r.congr (sc ((hΦ 16 rfl).1) (sc ((hΦ 15 rfl).1) (sc g13 (sc ((hΦ 12 rfl).1) (sc ((hΦ 11 rfl).1) (sc ((hΦ 10 rfl).1) (sc ((hΦ 9 rfl).1) (sc g8 (sc ((hΦ 7 rfl).1) (sc ((hΦ 6 rfl).1) (sc ((hΦ 5 rfl).1) (sc ((hΦ 4 rfl).1) (sc ((hΦ 3 rfl).1) (sc ((hΦ 2 rfl).1) (sc g1 (sc ((hΦ 0 rfl).1) rfl))))))))))))))));have hP:Post No [zpg b1 ((zpe a0)).toArray 23,memK mg12 x22.2.2.2,zpK Tryz.prog zph (fu,(D.zej (fu+1) a0)) v20 F25,zpg b23 #[] 152] w0 w24:=hP.effL (i:=1) (l:=[([zpK Tryz.prog zph (fu,(D.zej (fu+1) a0)) v20 F25],(gg 1).lo,(gg 1).hi),([zpg b23 #[] 152],(gg 13).lo,(gg 13).hi)]) rfl hb hcE rfl rfl ⟨hs1,(hΦ 1 rfl).2.1,(zie (hap 1 13 rfl) zep),⟨hs13,(hΦ 13 rfl).2.1,zep,trivial⟩⟩;refine wp_seq (wsr (kM (.bool x22.2.2.1) r rfl rfl fun r=>za0 (.bool (!x22.2.2.1)) r (fun R=>y_un r (u:=(.bool x22.2.2.1)) rfl rfl) rfl fun fr r=>wn ?_));refine wp_cond_split (t:=(!x22.2.2.1)) (r.ev rfl) (fun h26=>?_) (fun h26=>?_)
 ·
  have hD:=(zal h26).symm.trans hD;refine wsr (kA (.pointer none) r rfl rfl fun r=>wn (wp_ret ?_));exact nomatch hD
 have hD:=(zaf h26).symm.trans hD;refine wp_skip (wsr (kM (zp mg12.mb) r rfl rfl fun r=>kA (zp mg12.mb) r rfl rfl fun r=>wn (wp_ret ?_)));have hv:x22.2.2.2=res:=Option.some.inj hD
 try dsimp only [Exit.then,Exit.inBlock]
 refine zay (fn:=Tryz.f17) r (t:=2) rfl (v:=(zp mg12.mb)) rfl ?_;subst hv;exact ⟨mg12,rfl,(hP.pick [1] rfl rfl).done (zbv rfl zc6)⟩
end Go.Proofs.YtikjpdpgdmbdpaaGreat

/- Ours. -/
set_option maxRecDepth 20000
set_option maxHeartbeats 2000000
namespace Go.Proofs.YtikjpdpgdmbdpaaGreat
open Go.RowKit
theorem cl29:zpd Tryz.prog 29:=kz
theorem rt45:rowTy Tryz.prog 45 3 1:=kz
def D.zgU (fu:Nat) (a0:Plan) (a1:Mem) (a2:Int):Option (List Int):=((D.zb1 fu a1 a2 (D.zaT a0)).bind (fun (x5:Int)=>(loopThen (fun (x8:List Int × Int)=>(Option.bind (bif (decide ((x8.1.length:Int)<a0.nodes)) then (bif (decide (x8.2 > 0)) then (some (decide (x8.2≤(IntKind.u64.wrap a0.nodes)))) else (some false)) else (some false)) (fun (x15:Bool)=>(bif x15 then ((appD x8.1 ([(IntKind.i64.wrap ((IntKind.i64.wrap x8.2) - 1))])).bind (fun (x23:List Int)=>((D.zb1 fu a1 a2 (D.zaZ a0 (IntKind.i64.wrap ((IntKind.i64.wrap x8.2) - 1)))).bind (fun (x28:Int)=>(some (Lp.next (x23,x28))))))) else (some (Lp.brk (x8.1,x8.2))))))) fu ([],(D.zaa D.zaO x5)) (fun (x30:List Int × Int)=>(some x30.1)))))
set_option maxRecDepth 20000 in
set_option maxHeartbeats 20000000 in
theorem zmi {fu:Nat} (w0:World) (a0:Plan) {a1g:MG} (a1:Mem) (a1h:MemAt a1g a1 w0) (a2:Int) {res:List Int} (hD:D.zgU fu a0 a1 a2=some res) :
    Calls Tryz.prog 65 #[.agg (zpe a0).toArray,zp a1g.mb,.int .i64 a2] w0 (fun e w'=>∃ (v0:Value),e=.returned v0∧Done No No [rowK 3 1 i64 v0 res] w0 w'):=by
 refine enter Tryz.func65 rfl 47 rfl rfl fun fr r=>?_;have hP:Post No [] w0 w0:=Post.nil w0
 have hP:Post No [memR a1g a1] w0 w0:=hP.addRo zcV a1h rfl a1h.lt;unfold D.zgU at hD
 refine wsr ?_;refine kX 23 (.agg (zpe a0).toArray) r rfl rfl fun b1 w2 n3 r=>?_;have hP:Post No [memR a1g a1,zpg b1 ((zpe a0)).toArray 23] w0 w2:=hP.new n3
 refine kA kS r rfl rfl fun r=>wn (wsr (kA kS r rfl rfl fun r=>wn (wp_seq ?_)));obtain ⟨x5,hx5,hD⟩:=zan hD
 refine zcm [.val (.agg (zpn D.zaO).toArray),.val (zp a1g.mb),.val (I a2),.val (.agg (zpe a0).toArray),.val (I (D.zaT a0)),.val (U x5),.val (U (D.zaa D.zaO x5)),.val (U (D.zaa D.zaO x5))] mixed r kz ?_ ?_
 ·
  refine fc r (fun fr1 g w' hb' hd r'=>zaC r' (args:=[]) (l0) zqK ((zg1 _ ).mono (by rintro _ w2 ⟨rfl,hb2⟩; exact ⟨_,rfl,hb2,rfl⟩))) ?_;refine fc r (fun fr1 g w' hb' hd r'=>zav r' rfl bz) ?_
  refine fc r (fun fr1 g w' hb' hd r'=>zav r' rfl bz) ?_;refine fc r (fun fr1 g w' hb' hd r'=>zag r' (cs:=(zpe a0)) (n:=6) rfl ((hP.below (dr hb')).cell (i:=1) rfl) ta23 rfl bz) ?_
  refine fc r (fun fr1 g w' hb' hd r'=>zaC r' (args:=[(.agg (zpe a0).toArray)]) (lc (hd 3 rfl).1 l0) zql ((zc9 _ a0).mono (by rintro _ w2 ⟨rfl,hb2⟩; exact ⟨_,rfl,hb2,rfl⟩))) ?_;refine fc r (fun fr1 g w' hb' hd r'=>zaC r' (args:=[(zp a1g.mb),(I a2),(I (D.zaT a0))]) (lc (hd 1 rfl).1 (lc (hd 2 rfl).1 (lc (hd 4 rfl).1 l0))) cl29 ((zbf _ a1 ((hP.below (dr hb')).memr (i:=0) rfl) a2 (D.zaT a0) hx5).mono (by rintro _ w2 ⟨rfl,hb2⟩; exact ⟨_,rfl,hb2,rfl⟩))) ?_
  refine fc r (fun fr1 g w' hb' hd r'=>zaC r' (args:=[(.agg (zpn D.zaO).toArray),(U x5)]) (lc (hd 0 rfl).1 (lc (hd 5 rfl).1 l0)) zqj ((zcw _ D.zaO x5).mono (by rintro _ w2 ⟨rfl,hb2⟩; exact ⟨_,rfl,hb2,rfl⟩))) ?_;refine fc r (fun fr1 g w' hb' hd r'=>zbD r' (hd 6 rfl).1 bz) ?_
  exact zb5
 intro fr gg w6 hb hΦ hap r;have r:=r.congr (sc ((hΦ 7 rfl).1) (sc ((hΦ 6 rfl).1) (sc ((hΦ 5 rfl).1) (sc ((hΦ 4 rfl).1) (sc ((hΦ 3 rfl).1) (sc ((hΦ 2 rfl).1) (sc ((hΦ 1 rfl).1) (sc ((hΦ 0 rfl).1) rfl))))))));have hP:=hP.below hb;refine wp_seq ?_;have hP:Post No [memR a1g a1,zpg b1 ((zpe a0)).toArray 23,rowK 3 1 i64 kS ([])] w0 w6:=hP.nilRow 3 1 i64;refine zd7 (X:=List Int × Int) (G:=Value) (x0:=([],(D.zaa D.zaO x5))) (fun x γ=>[(0,(.agg (zpe a0).toArray)),(1,(zp a1g.mb)),(2,(I a2)),(3,(zp b1)),(6,kS),(7,γ),(8,(U x.2))]) (fun x γ w=>Post No [memR a1g a1,zpg b1 ((zpe a0)).toArray 23,rowK 3 1 i64 γ x.1] w0 w) kS r (kO (zac rfl (zac rfl (zac rfl zaI)))) hP hD ?_ ?_
 ·
  rintro x8 γ9 fr w11 g y10 RPy10 nxy10 bky10 rty10 r hP hD;have hP:Post No [memR a1g a1,zpg b1 ((zpe a0)).toArray 23,rowK 3 1 i64 γ9 x8.1] w0 w11:=hP;refine wp_seq (wp_seq ?_);refine zbP (N:=47) (Y:=Bool) (G:=Unit) (fun x γ=>[(0,(.agg (zpe a0).toArray)),(1,(zp a1g.mb)),(2,(I a2)),(3,(zp b1)),(6,kS),(7,γ9),(8,(U x8.2)),(32,(.bool x))]) (fun x γ w=>Post No [memR a1g a1,zpg b1 ((zpe a0)).toArray 23,rowK 3 1 i64 γ9 x8.1] w0 w) hD ?_ ?_
  ·
   rintro y12 RPy12 nxy12 hD;refine wp_region_lit (kM γ9 r rfl rfl fun r=>za0 (I (x8.1.length:Int)) r (fun R=>zcD r (hP.row (i:=2) rfl).ro is45 rfl) rfl fun fr r=>kF 0 r rfl zeQ rfl fun r=>kL (I a0.nodes) r rfl (hP.cell (i:=1) rfl) to3 rfl rfl fun r=>kB r rfl rfl rfl rfl rfl fun r=>kM (.bool (decide ((x8.1.length:Int)<a0.nodes))) r rfl rfl fun r=>?_);refine zaD (decide ((x8.1.length:Int)<a0.nodes)) (fun h13=>?_) (fun h13=>?_)
   ·
    have hD:=(zal h13).symm.trans hD;refine s1 r h13 (kM (U x8.2) r rfl rfl fun r=>s1 r h13 (kB r rfl rfl rfl rfl rfl fun r=>za0 (.bool (decide (x8.2 > 0))) r (fun R=>zam r (b:=true) (congrArg Value.bool h13) rfl) rfl fun fr r=>kM (.bool (decide (x8.2 > 0))) r rfl rfl fun r=>?_));refine zaD (decide (x8.2 > 0)) (fun h14=>?_) (fun h14=>?_)
    ·
     have hD:=(zal h14).symm.trans hD;refine s1 r h14 (kM (U x8.2) r rfl rfl fun r=>s1 r h14 (kF 0 r rfl zeQ rfl fun r=>s1 r h14 (kL (I a0.nodes) r rfl (hP.cell (i:=1) rfl) to3 rfl rfl fun r=>s1 r h14 (za0 (U (V a0.nodes)) r (fun R=>zb3 r rfl ti3 ti36) rfl fun fr r=>s1 r h14 (kB r rfl rfl rfl rfl rfl fun r=>za0 (.bool (decide (x8.2≤(V a0.nodes)))) r (fun R=>zam r (b:=true) (congrArg Value.bool h14) rfl) rfl fun fr r=>wn ?_)))));exact nxy12 (decide (x8.2≤(V a0.nodes))) () _ _ _ hD r (kO (kO zaI)) (hP.pick [0,1,2] rfl rfl)
    have hD:=(zaf h14).symm.trans hD;refine s0 r h14 fun fr r=>s0 r h14 fun fr r=>s0 r h14 fun fr r=>s0 r h14 fun fr r=>s0 r h14 fun fr r=>za0 (.bool false) r (fun R=>zam r (b:=false) (congrArg Value.bool h14) rfl) rfl fun fr r=>wn ?_;exact nxy12 false () _ _ _ hD r (kO (kO zaI)) (hP.pick [0,1,2] rfl rfl)
   have hD:=(zaf h13).symm.trans hD;refine s0 r h13 fun fr r=>s0 r h13 fun fr r=>za0 (.bool false) r (fun R=>zam r (b:=false) (congrArg Value.bool h13) rfl) rfl fun fr r=>kM (.bool false) r rfl rfl fun r=>s0 r (rfl:false=_) fun fr r=>s0 r (rfl:false=_) fun fr r=>s0 r (rfl:false=_) fun fr r=>s0 r (rfl:false=_) fun fr r=>s0 r (rfl:false=_) fun fr r=>za0 (.bool false) r (fun R=>zam r (b:=false) (congrArg Value.bool (rfl:false=_)) rfl) rfl fun fr r=>wn ?_;exact nxy12 false () _ _ _ hD r (kO (kO zaI)) (hP.pick [0,1,2] rfl rfl)
  rintro x15 γ16 fr w17 g r hP hD;have hP:Post No [memR a1g a1,zpg b1 ((zpe a0)).toArray 23,rowK 3 1 i64 γ9 x8.1] w0 w17:=hP;refine wp_cond_split (t:=x15) (r.ev rfl) (fun h18=>?_) (fun h18=>?_)
  ·
   have hD:=(zal h18).symm.trans hD;refine wp_skip (wp_block (wsr (kM (U x8.2) r rfl rfl fun r=>za0 (I (W x8.2)) r (fun R=>zb3 r rfl ti36 ti3) rfl fun fr r=>kB r rfl rfl rfl rfl rfl fun r=>kA (I (W ((W x8.2) - 1))) r rfl rfl fun r=>wn (wsr (kM γ9 r rfl rfl fun r=>kM (I (W ((W x8.2) - 1))) r rfl rfl fun r=>?_)))));refine zhp (.cells (([(W ((W x8.2) - 1))]).flatMap i64).toArray 3 (0,0)) 1 r (fun R=>zcp r kz) rfl fun fr b19 w20 n21 r=>?_
   have hP:Post No [memR a1g a1,zpg b1 ((zpe a0)).toArray 23,rowK 3 1 i64 γ9 x8.1,rowK 3 1 i64 (.slice (some ⟨b19,0,none⟩) 1 1) ([(W ((W x8.2) - 1))])] w0 w20:=hP.newRow n21 (fun _=>rfl) rfl
   obtain ⟨x23,hx23,hD⟩:=zan hD;refine zll 3 1 i64 γ9 r (fun R=>zjE r rt45 (fun _=>rfl) (fun _=>rfl) (hP.row (i:=2) rfl) (hP.row (i:=3) rfl).ro hx23 rfl rfl) rfl fun fr v24 w25 ha26 r=>?_;have hP:Post No [memR a1g a1,zpg b1 ((zpe a0)).toArray 23,rowK 3 1 i64 v24 x23,rowK 3 1 i64 (.slice (some ⟨b19,0,none⟩) 1 1) ([(W ((W x8.2) - 1))])] w0 w25:=hP.append (i:=2) rfl ha26
   refine kA v24 r rfl rfl fun r=>wn ?_;refine wp_region_lit (kM (zp a1g.mb) r rfl rfl fun r=>kM (I a2) r rfl rfl fun r=>kG (zpe a0) 6 r rfl (hP.cell (i:=1) rfl) ta23 rfl rfl fun r=>kM (I (W ((W x8.2) - 1))) r rfl rfl fun r=>?_)
   refine kE r (zcG w25 a0 (W ((W x8.2) - 1))) rfl zqy rfl fun w27 hb r=>?_;have hP:=hP.below hb
   obtain ⟨x28,hx28,hD⟩:=zan hD;refine kE r (zbf w27 a1 (hP.memr (i:=0) rfl) a2 (D.zaZ a0 (W ((W x8.2) - 1))) hx28) rfl cl29 rfl fun w29 hb r=>?_;have hP:=hP.below hb
   refine kA (U x28) r rfl rfl fun r=>wn ?_;exact nxy10 (x23,x28) v24 _ _ _ hD r (kO (zac rfl (zac rfl (zac rfl zaI)))) (hP.pick [0,1,2] rfl rfl)
  have hD:=(zaf h18).symm.trans hD;refine wp_exit ?_;exact bky10 (x8.1,x8.2) γ9 _ _ _ hD r (kO (zac rfl (zac rfl (zac rfl zaI)))) (hP.pick [0,1,2] rfl rfl)
 rintro x30 γ31 fr w32 g r hP hD;have hP:Post No [memR a1g a1,zpg b1 ((zpe a0)).toArray 23,rowK 3 1 i64 γ31 x30.1] w0 w32:=hP;refine wsr (kM γ31 r rfl rfl fun r=>kA γ31 r rfl rfl fun r=>wn (wp_ret ?_));have hv:x30.1=res:=Option.some.inj hD
 try dsimp only [Exit.then,Exit.inBlock]
 refine zay (fn:=Tryz.f65) r (t:=6) rfl (v:=γ31) rfl ?_;subst hv;exact ⟨γ31,rfl,(hP.pick [2] rfl rfl).done (zbv rfl zc6)⟩
end Go.Proofs.YtikjpdpgdmbdpaaGreat

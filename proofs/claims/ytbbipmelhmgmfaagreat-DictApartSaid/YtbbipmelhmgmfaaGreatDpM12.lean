/- Some of our texts, one behind the other. -/
import Derived.Test.YtbbipmelhmgmfaaGreatDpM11
set_option linter.all false
set_option maxRecDepth 100000
set_option maxHeartbeats 20000000
/- Ours. -/
namespace Go.Proofs.YtbbipmelhmgmfaaGreat
open Go.RowKit
theorem cl20:zpf ar 20:=kz
theorem cl59:zpf ar 59:=kz
theorem cl60:zpf ar 60:=kz
theorem cl61:zpf ar 61:=kz
theorem cl62:zpf ar 62:=kz
def D.zbw (fu:Nat) (a0:Plan):Option (Mem):=((D.zjV fu ([(D.zab a0)])).bind (fun (x10:Mem × Int)=>(Option.bind (bif (x10.2 !=0) then (some true) else (some false)) (fun (x16:Bool)=>(bif x16 then none else ((D.zcA fu x10.1 0).bind (fun (x21:Cap)=>((D.zeO fu (fu,(D.zel (fu+1) a0)) x10.1 x21 (IntKind.i64.wrap (a0.nodes+1))).bind (fun (x22:Unit × Int × Bool × Mem)=>(bif (!x22.2.2.1) then none else (some x22.2.2.2)))))))))))
theorem zdB {fu:Nat} (w0:World) (a0:Plan) {res:Mem} (hD:D.zbw fu a0=some res) :
    Calls ar 14 #[aq (zpg a0)] w0 (fun e w'=>∃ (g0:MG),e=.returned (zp g0.mb)∧Done No No [memK g0 res] w0 w'):=by
 refine enter Tryz.func14 rfl 37 rfl rfl fun fr r=>?_;have hP:Post No [] w0 w0:=Post.nil w0
 unfold D.zbw at hD
 refine wsr ?_;refine kX 23 (aq (zpg a0)) r rfl rfl fun b1 w2 n3 r=>?_;have hP:Post No [zpi b1 ((zpg a0)).toArray 23] w0 w2:=hP.new n3
 refine kA (.pointer none) r rfl rfl fun r=>wn (wsr (kG (zpg a0) 6 r rfl (hP.cell (i:=0) rfl) ta23 rfl rfl fun r=>?_));refine kE r (zjf w2 a0) rfl cl60 rfl fun w5 hb r=>?_
 have hP:=hP.below hb;refine zjn (.cells (([(D.zab a0)]).flatMap i64).toArray 3 (0,0)) 1 r (fun R=>zcO r kz) rfl fun fr b6 w7 n8 r=>?_;have hP:Post No [_,rowK 3 1 i64 (.slice (some ⟨b6,0,none⟩) 1 1) ([(D.zab a0)])] w0 w7:=hP.newRow n8 (fun _=>rfl) rfl
 obtain ⟨x10,hx10,hD⟩:=zaj hD;refine kC r (znh w7 ([(D.zab a0)]) (hP.row (i:=1) rfl).ro hx10) rfl cl59 rfl ?_;rintro _ w11 ⟨mg12,rfl,hq⟩;refine ⟨_,rfl,fun fr r=>?_⟩
 have hP:Post No [_,_,memK mg12 x10.1] w0 w11:=hP.add hq;refine kM (.tuple #[(zp mg12.mb),(I x10.2)]) r rfl rfl fun r=>za0 (zp mg12.mb) r (fun R=>zb1 r (vs:=#[(zp mg12.mb),(I x10.2)]) rfl rfl) rfl fun fr r=>za0 (I x10.2) r (fun R=>zb1 r (vs:=#[(zp mg12.mb),(I x10.2)]) rfl rfl) rfl fun fr r=>kA (zp mg12.mb) r rfl rfl fun r=>kA (I x10.2) r rfl rfl fun r=>wn (aa (aa ?_));have hP:Post No [zpi b1 ((zpg a0)).toArray 23,memK mg12 x10.1] w0 w11:=hP.pick [0,2] rfl rfl
 refine zbs (N:=37) (Y:=Bool) (G:=Unit) (fun x γ=>[(0,(aq (zpg a0))),(1,(zp b1)),(2,(.pointer none)),(3,(zp mg12.mb)),(4,(I x10.2)),(20,(.bool x))]) (fun x γ w=>Post No [zpi b1 ((zpg a0)).toArray 23,memK mg12 x10.1] w0 w) hD ?_ ?_
 ·
  rintro y14 RPy14 nxy14 hD;refine af (kM (I x10.2) r rfl rfl fun r=>kB r rfl rfl rfl rfl rfl fun r=>kM (.bool (x10.2 !=0)) r rfl rfl fun r=>?_);refine zaT (x10.2 !=0) (fun h15=>?_) (fun h15=>?_)
  ·
   have hD:=(zao h15).symm.trans hD;refine s0 r h15 fun fr r=>s0 r h15 fun fr r=>za0 (.bool true) r (fun R=>zay r (b:=true) (kb h15) rfl) rfl fun fr r=>wn ?_;exact nxy14 true () _ _ _ hD r (kO (zaa rfl (zaa rfl zaC))) (hP.pick [0,1] rfl rfl)
  have hD:=(zaq h15).symm.trans hD;refine s1 r h15 (kM (zp mg12.mb) r rfl rfl fun r=>s1 r h15 (kB r rfl rfl rfl rfl rfl fun r=>za0 (.bool false) r (fun R=>zay r (b:=false) (kb h15) rfl) rfl fun fr r=>wn ?_));exact nxy14 false () _ _ _ hD r (kO (zaa rfl (zaa rfl zaC))) (hP.pick [0,1] rfl rfl)
 rintro x16 γ17 fr w18 g r hP hD;have hP:Post No [_,_] w0 w18:=hP;refine ae (t:=x16) (r.ev rfl) (fun h19=>?_) (fun h19=>?_)
 ·
  have hD:=(zao h19).symm.trans hD;refine wsr (kA (.pointer none) r rfl rfl fun r=>wn (ac ?_));exact nomatch hD
 have hD:=(zaq h19).symm.trans hD;refine ag (aa ?_);obtain ⟨x21,hx21,hD⟩:=zaj hD;obtain ⟨x22,hx22,hD⟩:=zaj hD;refine zjr mg12.bs [.val (aq (zpg a0)),.pred (PrP ar zpk (fu,(D.zel (fu+1) a0))) (PrP.st _),.val (zp mg12.mb),.val (zp mg12.mb),.val (aq (capC x21)),.val (zp b1),.val (I a0.nodes),.val (I (W (a0.nodes+1))),.eff (EffP w18.heap.size (memK mg12 x22.2.2.2) (fun _:Unit=>(.tuple #[(.agg #[]),(I x22.2.1),(.bool x22.2.2.1)])) (fun _:Unit=>[])) (EffP.st _ _ _ _),.val (.tuple #[(.agg #[]),(I x22.2.1),(.bool x22.2.2.1)]),.val (.agg #[]),.val (I x22.2.1),.val (.bool x22.2.2.1),.cell 128 0,.stored 13 #[] 128 0 rfl,.val (I x22.2.1),.val (.bool x22.2.2.1)] mixed r (fun b hb=>hP.sep.lt (i:=1) rfl (.inl hb)) kz ?_ ?_
 ·
  refine zaK r rfl (fun fr1 g w' hk' hd r'=>?_) ?_
  · exact zac r' (cs:=(zpg a0)) (n:=6) rfl (hP.cellK (j:=1) rfl (drK hk') (i:=0) rfl rfl) ta23 rfl bz
  refine zbe r rfl kz (fun fr1 g w' hb' hd r'=>?_) ?_
  · exact zaF r' (args:=[(aq (zpg a0))]) (lc (hd 0 rfl).1 l0) cl62 ((zlg (F:=No) (n:=fu) (j:=fu+1) (fun _ h=>h.elim) kw a0).mono (by rintro _ w2 ⟨y,rfl,hb2,hr2⟩; exact ⟨_,rfl,hb2,zmQ hr2⟩))
  refine zbe r rfl kz (fun fr1 g w' hb' hd r'=>?_) ?_
  · exact zar r' (v:=(zp mg12.mb)) rfl bz
  refine zaK r rfl (fun fr1 g w' hk' hd r'=>?_) ?_
  · exact zar r' (v:=(zp mg12.mb)) rfl bz
  refine zbe r rfl kz (fun fr1 g w' hb' hd r'=>?_) ?_
  · exact zaF r' (args:=[(zp mg12.mb),(I 0)]) (lc (hd 3 rfl).1 (lc rfl l0)) cl20 ((zeE _ x10.1 ((hP.below (dr hb')).mem (i:=1) rfl) 0 hx21).mono yab)
  refine zaK r rfl (fun fr1 g w' hk' hd r'=>?_) ?_
  · exact za3 r' (b:=b1) (o:=0) (k:=0) rfl ziV bz
  refine zaK r rfl (fun fr1 g w' hk' hd r'=>?_) ?_
  · exact za4 r' (v:=(I a0.nodes)) (hd 5 rfl).1 (hP.cellK (j:=1) rfl (drK hk') (i:=0) rfl rfl) to3 rfl bz
  refine zbe r rfl kz (fun fr1 g w' hb' hd r'=>?_) ?_
  · exact zpG r' (u:=(I a0.nodes)) (u':=(I 1)) (v:=(I (W (a0.nodes+1)))) (hd 6 rfl).1 rfl rfl rfl bz
  refine zbe r rfl kz (fun fr1 g w' hb' hd r'=>?_) ?_
  · exact zaF r' (args:=[(g 1).v,(zp mg12.mb),(aq (capC x21)),(I (W (a0.nodes+1)))]) (lc rfl (lc (hd 2 rfl).1 (lc (hd 4 rfl).1 (lc (hd 7 rfl).1 l0)))) cl61 ((zjx _ (fu,(D.zel (fu+1) a0)) x10.1 x21 (W (a0.nodes+1)) (Sep.beside (hd 1 rfl).1 ((hP.below (dr hb')).sep.pk [1] rfl rfl) (by intro c hc b hb; simp only [List.mem_cons,List.not_mem_nil,or_false] at hc; rcases hc with rfl; exact hP.sep.lt (i:=1) rfl hb) (hd 1 rfl).2.1) hx22).mono (by rintro _ w2 ⟨rfl,hq⟩; exact ⟨_,rfl,hq.chg.kept,EffP.of () hq rfl (fun b hb=>hP.sep.lt (i:=1) rfl hb)⟩))
  refine zaK r rfl (fun fr1 g w' hk' hd r'=>?_) ?_
  · exact zar r' (v:=(.tuple #[(.agg #[]),(I x22.2.1),(.bool x22.2.2.1)])) (EffP.val (hd 8 rfl).1) bz
  refine zaK r rfl (fun fr1 g w' hk' hd r'=>?_) ?_
  · exact zb1 r' (vs:=#[(.agg #[]),(I x22.2.1),(.bool x22.2.2.1)]) (hd 9 rfl).1 rfl bz
  refine zaK r rfl (fun fr1 g w' hk' hd r'=>?_) ?_
  · exact zb1 r' (vs:=#[(.agg #[]),(I x22.2.1),(.bool x22.2.2.1)]) (hd 9 rfl).1 rfl bz
  refine zaK r rfl (fun fr1 g w' hk' hd r'=>?_) ?_
  · exact zb1 r' (vs:=#[(.agg #[]),(I x22.2.1),(.bool x22.2.2.1)]) (hd 9 rfl).1 rfl bz
  refine zaK r rfl (fun fr1 g w' hk' hd r'=>?_) ?_
  · exact za6 zsD (fun b w2 n2=>⟨n2.below,b,rfl,n2.eq,_,n2.at_,rfl⟩)
  refine zaK r rfl (fun fr1 g w' hk' hd r'=>?_) ?_
  · obtain ⟨hp,_,c,hc,hn⟩:=(hd 13 rfl).1; exact zax r' (o:=0) (c:=c) (v:=(.agg #[])) hp (hd 10 rfl).1 hc zse (by rw [hn]; exact Nat.le_of_ble_eq_true rfl) rfl (zkr (hn.trans rfl)) (fun w2 u2=>⟨u2,rfl⟩)
  refine zaK r rfl (fun fr1 g w' hk' hd r'=>?_) ?_
  · exact zbW r' (v:=(I x22.2.1)) (hd 11 rfl).1 bz
  refine zaK r rfl (fun fr1 g w' hk' hd r'=>?_) ?_
  · exact zbW r' (v:=(.bool x22.2.2.1)) (hd 12 rfl).1 bz
  exact zb4
 intro fr gg w24 hb hΦ hap r;obtain ⟨v20,hv1⟩:∃ v,v=(gg 1).v:=⟨_,rfl⟩;have g1:(gg 1).v=v20:=hv1.symm;obtain ⟨F25,eF25⟩:∃ F,F=rg (gg 1).lo (gg 1).hi:=⟨_,rfl⟩;have hs1:Fresh [zpS ar zpk (fu,(D.zel (fu+1) a0)) v20 F25] (gg 1).lo (gg 1).hi w24:=by subst hv1; subst eF25; exact (hΦ 1 rfl).1
 obtain ⟨⟨⟩,g8,hcE,_,hs8⟩:=(hΦ 8 rfl).1;obtain ⟨b23,ee_b23⟩:∃ b,b=(gg 13).lo:=⟨_,rfl⟩;have g13:(gg 13).v=(zp b23):=by rw [ee_b23]; exact (hΦ 13 rfl).1.1
 have H23:w24.heap[b23]?=some (.cells #[] 128 (0,0)):=by rw [ee_b23]; exact (hΦ 14 rfl).1.2
 have hs13:Fresh [zpi b23 #[] 128] (gg 13).lo (gg 13).hi w24:=by subst ee_b23; exact Fresh.cell (hΦ 13 rfl).1.2.1 H23
 have r:=r.congr (sc ((hΦ 16 rfl).1) (sc ((hΦ 15 rfl).1) (sc g13 (sc ((hΦ 12 rfl).1) (sc ((hΦ 11 rfl).1) (sc ((hΦ 10 rfl).1) (sc ((hΦ 9 rfl).1) (sc g8 (sc ((hΦ 7 rfl).1) (sc ((hΦ 6 rfl).1) (sc ((hΦ 5 rfl).1) (sc ((hΦ 4 rfl).1) (sc ((hΦ 3 rfl).1) (sc ((hΦ 2 rfl).1) (sc g1 (sc ((hΦ 0 rfl).1) rfl))))))))))))))));have hP:Post No [_,memK mg12 x22.2.2.2,zpS ar zpk (fu,(D.zel (fu+1) a0)) v20 F25,zpi b23 #[] 128] w0 w24:=hP.effL (i:=1) (l:=[([zpS ar zpk (fu,(D.zel (fu+1) a0)) v20 F25],(gg 1).lo,(gg 1).hi),([zpi b23 #[] 128],(gg 13).lo,(gg 13).hi)]) rfl hb hcE rfl rfl ⟨hs1,(hΦ 1 rfl).2.1,(zlk (hap 1 13 rfl) zeM),⟨hs13,(hΦ 13 rfl).2.1,zeM,trivial⟩⟩;refine aa (wsr (kM (.bool x22.2.2.1) r rfl rfl fun r=>za0 (.bool (!x22.2.2.1)) r (fun R=>y_un r (u:=(.bool x22.2.2.1)) rfl rfl) rfl fun fr r=>wn ?_));refine ae (t:=(!x22.2.2.1)) (r.ev rfl) (fun h26=>?_) (fun h26=>?_)
 ·
  have hD:=(zao h26).symm.trans hD;refine wsr (kA (.pointer none) r rfl rfl fun r=>wn (ac ?_));exact nomatch hD
 have hD:=(zaq h26).symm.trans hD;refine ag (wsr (kM (zp mg12.mb) r rfl rfl fun r=>kA (zp mg12.mb) r rfl rfl fun r=>wn (ac ?_)));have hv:x22.2.2.2=res:=Option.some.inj hD
 try dsimp only [Exit.then,Exit.inBlock]
 refine zaH (fn:=Tryz.f14) r (t:=2) rfl (v:=(zp mg12.mb)) rfl ?_;subst hv;exact ⟨mg12,rfl,(hP.pick [1] rfl rfl).done (zbo rfl zc1)⟩
theorem cl21:zpf ar 21:=kz
end Go.Proofs.YtbbipmelhmgmfaaGreat

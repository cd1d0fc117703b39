/- Some of our texts, one behind the other. -/
import Derived.Test.YtikjpdpgdmbdpaaGreatLnM26
import Derived.Test.YtikjpdpgdmbdpaaGreatLnM24
import Derived.WalkKit
import Derived.ProofKit
import Derived.OpenShut
import Derived.ShutString
import Derived.ChangeOld
import Derived.Below
import Derived.Carry
import Derived.SizedLaws
import Derived.Deep.Slices
import Derived.Deep.Fields
import Derived.ChangeSame
import Derived.Test.YtikjpdpgdmbdpaaGreatRows
import Derived.ChangeSlices
import Derived.Test.YtikjpdpgdmbdpaaGreatLnM7
set_option linter.all false
/- Ours. -/
set_option maxRecDepth 20000
set_option maxHeartbeats 2000000
namespace Go.Proofs.YtikjpdpgdmbdpaaGreat.Wk
open Go.RowKit
theorem cl48:zpd Tryz.prog 48:=kz
theorem cl54:zpd Tryz.prog 54:=kz
theorem cl59:zpd Tryz.prog 59:=kz
theorem cl66:zpd Tryz.prog 66:=kz
theorem zru:isSlice Tryz.prog 115:=kz
theorem ztx:sliceTy Tryz.prog 115 3:=kz
theorem zud:tyA Tryz.prog 120 3:=kz
def D.zc8 (fu:Nat) (a0:Plan) (a1:List CallL):Option (Bool):=(Option.bind ((D.zcg fu ).bind (fun (x6:Bool)=>(bif (!x6) then (some true) else (bif (!(D.zb6 a0)) then (some true) else (some (decide ((a1.length:Int) > 60))))))) (fun (x11:Bool)=>(bif x11 then ((D.zcg fu ).bind (fun (x15:Bool)=>(some x15))) else ((D.zc2 fu a0).bind (fun (x17:Mem)=>(loopThen (fun (x22:Bool × Int × Mem)=>(bif (decide (x22.2.1<(a1.length:Int))) then ((getI a1 x22.2.1).bind (fun (x27:CallL)=>((D.zcO fu x22.2.2 0).bind (fun (x29:Cap)=>((D.zez fu (fu,(D.zbs (fu+1) (⟨a0,0,0⟩:Seat) (D.zax a0 0 0) x27)) x22.2.2 x29 100000).bind (fun (x30:Res × Int × Bool × Mem)=>(loopThen (fun (x32:Int × Int)=>(bif (decide (x32.2<a0.nodes)) then ((D.zb1 fu x30.2.2.2 0 (D.zaF a0 x32.2)).bind (fun (x38:Int)=>(Option.bind (bif ((((D.zaj x38).1).mode)==3) then (some (IntKind.i64.wrap (x32.1+1))) else (some x32.1)) (fun (x49:Int)=>(some (Lp.next (x49,(IntKind.i64.wrap (x32.2+1))))))))) else (some (Lp.brk (x32.1,x32.2))))) fu (0,0) (fun (x52:Int × Int)=>((D.zgU fu a0 x30.2.2.2 0).bind (fun (x55:List Int)=>((D.zfh fu a0 x30.2.2.2 0 0).bind (fun (x58:List Int)=>((D.zdP fu a0 x30.2.2.2 0 (D.zax a0 0 0)).bind (fun (x61:List Entry)=>(bif ((IntKind.i64.wrap ((IntKind.i64.wrap ((IntKind.i64.wrap ((x55.length:Int)+(x58.length:Int)))+(x61.length:Int)))+x52.1)) !=a0.nodes) then (some (Lp.ret false)) else (loopThen (fun (x66:Bool × Int)=>(bif (decide (x66.2<3)) then ((D.zb1 fu x30.2.2.2 0 (D.zb9 a0 0 x66.2)).bind (fun (x72:Int)=>(bif (x72 !=0) then (some (Lp.ret (Lp.ret false))) else (some (Lp.next (x66.1,(IntKind.i64.wrap (x66.2+1)))))))) else (some (Lp.brk (x66.1,x66.2))))) fu (x22.1,0) (fun (x75:Bool × Int)=>(some (Lp.next (x75.1,(IntKind.i64.wrap (x22.2.1+1)),x30.2.2.2)))))))))))))))))))) else (some (Lp.brk (x22.1,x22.2.1,x22.2.2))))) fu (false,0,x17) (fun (x78:Bool × Int × Mem)=>(some true))))))))
set_option maxRecDepth 20000 in
set_option maxHeartbeats 20000000 in
theorem zfI {fu:Nat} (w0:World) (a0:Plan) {a1v:Value} (a1:List CallL) (a1h:RoAt 120 3 zpL a1v a1 w0) {res:Bool} (hD:D.zc8 fu a0 a1=some res) :
    Calls Tryz.prog 12 #[.agg (zpe a0).toArray,a1v] w0 (zpt (.bool res) w0):=by
 refine enter Tryz.func12 rfl 100 rfl rfl fun fr r=>?_;have hP:Post No [] w0 w0:=Post.nil w0
 have hP:Post No [roK 120 3 zpL a1v a1] w0 w0:=hP.addRo zcV a1h rfl a1h.lt;unfold D.zc8 at hD
 refine wsr ?_;refine kX 23 (.agg (zpe a0).toArray) r rfl rfl fun b1 w2 n3 r=>?_;have hP:Post No [roK 120 3 zpL a1v a1,zpg b1 ((zpe a0)).toArray 23] w0 w2:=hP.new n3
 refine kA (.bool false) r rfl rfl fun r=>wn (wp_seq (wp_seq ?_));refine zbP (N:=100) (Y:=Bool) (G:=Unit) (fun x γ=>[(0,(.agg (zpe a0).toArray)),(1,a1v),(2,(zp b1)),(4,(.bool false)),(24,(.bool x))]) (fun x γ w=>Post No [roK 120 3 zpL a1v a1,zpg b1 ((zpe a0)).toArray 23] w0 w) hD ?_ ?_
 ·
  rintro y5 RPy5 nxy5 hD;refine wp_region_lit ?_;obtain ⟨x6,hx6,hD⟩:=zan hD;refine kE r (zeR w2  hx6) rfl cl48 rfl fun w7 hb r=>?_;have hP:=hP.below hb
  refine za0 (.bool (!x6)) r (fun R=>y_un r (u:=(.bool x6)) rfl rfl) rfl fun fr r=>kM (.bool (!x6)) r rfl rfl fun r=>?_;refine zaD (!x6) (fun h8=>?_) (fun h8=>?_)
  ·
   have hD:=(zal h8).symm.trans hD;refine s0 r h8 fun fr r=>s0 r h8 fun fr r=>s0 r h8 fun fr r=>za0 (.bool true) r (fun R=>zam r (b:=true) (congrArg Value.bool h8) rfl) rfl fun fr r=>kM (.bool true) r rfl rfl fun r=>s0 r (rfl:true=_) fun fr r=>s0 r (rfl:true=_) fun fr r=>s0 r (rfl:true=_) fun fr r=>za0 (.bool true) r (fun R=>zam r (b:=true) (congrArg Value.bool (rfl:true=_)) rfl) rfl fun fr r=>wn ?_;exact nxy5 true () _ _ _ hD r (kO (zac rfl zaI)) (hP.pick [0,1] rfl rfl)
  have hD:=(zaf h8).symm.trans hD;refine s1 r h8 (kG (zpe a0) 6 r rfl (hP.cell (i:=1) rfl) ta23 rfl rfl fun r=>s1 r h8 ?_);refine kE r (zif w7 a0) rfl cl54 rfl fun w9 hb r=>?_
  have hP:=hP.below hb;refine s1 r h8 (za0 (.bool (!(D.zb6 a0))) r (fun R=>y_un r (u:=(.bool (D.zb6 a0))) rfl rfl) rfl fun fr r=>za0 (.bool (!(D.zb6 a0))) r (fun R=>zam r (b:=false) (congrArg Value.bool h8) rfl) rfl fun fr r=>kM (.bool (!(D.zb6 a0))) r rfl rfl fun r=>?_);refine zaD (!(D.zb6 a0)) (fun h10=>?_) (fun h10=>?_)
  ·
   have hD:=(zal h10).symm.trans hD;refine s0 r h10 fun fr r=>s0 r h10 fun fr r=>s0 r h10 fun fr r=>za0 (.bool true) r (fun R=>zam r (b:=true) (congrArg Value.bool h10) rfl) rfl fun fr r=>wn ?_;exact nxy5 true () _ _ _ hD r (kO (zac rfl zaI)) (hP.pick [0,1] rfl rfl)
  have hD:=(zaf h10).symm.trans hD;refine s1 r h10 (kM a1v r rfl rfl fun r=>s1 r h10 (za0 (I (a1.length:Int)) r (fun R=>zcD r (hP.ro (i:=0) rfl) zru rfl) rfl fun fr r=>s1 r h10 (kB r rfl rfl rfl rfl rfl fun r=>za0 (.bool (decide ((a1.length:Int) > 60))) r (fun R=>zam r (b:=false) (congrArg Value.bool h10) rfl) rfl fun fr r=>wn ?_)));exact nxy5 (decide ((a1.length:Int) > 60)) () _ _ _ hD r (kO (zac rfl zaI)) (hP.pick [0,1] rfl rfl)
 rintro x11 γ12 fr w13 g r hP hD;have hP:Post No [roK 120 3 zpL a1v a1,zpg b1 ((zpe a0)).toArray 23] w0 w13:=hP;refine wp_cond_split (t:=x11) (r.ev rfl) (fun h14=>?_) (fun h14=>?_)
 ·
  have hD:=(zal h14).symm.trans hD;refine wsr ?_;obtain ⟨x15,hx15,hD⟩:=zan hD;refine kE r (zeR w13  hx15) rfl cl48 rfl fun w16 hb r=>?_;have hP:=hP.below hb
  refine kA (.bool x15) r rfl rfl fun r=>wn (wp_ret ?_);have hv:x15=res:=Option.some.inj hD
  try dsimp only [Exit.then,Exit.inBlock]
  refine zay (fn:=Tryz.f12) r (t:=4) rfl (v:=(.bool x15)) rfl ?_;subst hv;exact ⟨rfl,hP.chg.below⟩
 have hD:=(zaf h14).symm.trans hD;refine wp_skip (wsr (kG (zpe a0) 6 r rfl (hP.cell (i:=1) rfl) ta23 rfl rfl fun r=>?_));obtain ⟨x17,hx17,hD⟩:=zan hD
 refine kC r (zfi w13 a0 hx17) rfl cl17 rfl ?_;rintro _ w18 ⟨mg19,rfl,hq⟩;refine ⟨_,rfl,fun fr r=>?_⟩
 have hP:Post No [roK 120 3 zpL a1v a1,zpg b1 ((zpe a0)).toArray 23,memK mg19 x17] w0 w18:=hP.add hq;refine kA (zp mg19.mb) r rfl rfl fun r=>wn (wp_seq (wsr (kM (zp mg19.mb) r rfl rfl fun r=>kB r rfl rfl rfl rfl rfl fun r=>wn ?_)));refine wp_cond_split (t:=false) (r.ev rfl) (fun h=>absurd ((rfl:false=_).symm.trans h) ke) (fun _=>wp_skip (wsr (kG (zpe a0) 6 r rfl (hP.cell (i:=1) rfl) ta23 rfl rfl fun r=>?_)))
 refine kE r (zeD w18 a0 0 0) rfl cl49 rfl fun w21 hb r=>?_;have hP:=hP.below hb
 refine kA (I (D.zax a0 0 0)) r rfl rfl fun r=>wn (wp_seq (wsr (kA (I 0) r rfl rfl fun r=>wn ?_)));refine zd7 (X:=Bool × Int × Mem) (G:=Unit) (x0:=(false,0,x17)) (fun x γ=>[(0,(.agg (zpe a0).toArray)),(1,a1v),(2,(zp b1)),(24,(.bool x11)),(5,(zp mg19.mb)),(29,(.bool false)),(6,(I (D.zax a0 0 0))),(4,(.bool x.1)),(7,(I x.2.1))]) (fun x γ w=>Post No [roK 120 3 zpL a1v a1,zpg b1 ((zpe a0)).toArray 23,memK mg19 x.2.2] w0 w) () r (kO (kO (zac rfl zaI))) hP hD ?_ ?_
 ·
  rintro x22 γ23 fr w25 g y24 RPy24 nxy24 bky24 rty24 r hP hD;have hP:Post No [roK 120 3 zpL a1v a1,zpg b1 ((zpe a0)).toArray 23,memK mg19 x22.2.2] w0 w25:=hP;refine wp_seq (wsr (kM (I x22.2.1) r rfl rfl fun r=>kM a1v r rfl rfl fun r=>za0 (I (a1.length:Int)) r (fun R=>zcD r (hP.ro (i:=0) rfl) zru rfl) rfl fun fr r=>kB r rfl rfl rfl rfl rfl fun r=>wn ?_));refine wp_cond_split (t:=(decide (x22.2.1<(a1.length:Int)))) (r.ev rfl) (fun h26=>?_) (fun h26=>?_)
  ·
   have hD:=(zal h26).symm.trans hD;refine wp_skip (wp_seq (wp_block (wp_seq ?_)));obtain ⟨x27,hx27,hD⟩:=zan hD;obtain ⟨x29,hx29,hD⟩:=zan hD;obtain ⟨x30,hx30,hD⟩:=zan hD;refine Fc.zmR mg19.bs [.val (.agg (zpe a0).toArray),.val (.agg (zpH (⟨a0,0,0⟩:Seat)).toArray),.val (I (D.zax a0 0 0)),.val a1v,.val (I x22.2.1),.val (.pointer (some ⟨rowB a1v,rowO a1v+x22.2.1.toNat * 3,none⟩)),.val (.agg (zpL x27).toArray),.cons 11 (PrL Tryz.prog zpj (fu,(D.zbs (fu+1) (⟨a0,0,0⟩:Seat) (D.zax a0 0 0) x27))) (PrL.st _),.val (zp mg19.mb),.val (zp mg19.mb),.val (.agg (capC x29).toArray),.effC [7] (EffP w25.heap.size (memK mg19 x30.2.2.2) (fun _:Unit=>(.tuple #[(.agg (resC x30.1).toArray),(I x30.2.1),(.bool x30.2.2.1)])) (fun _:Unit=>[])) (EffP.st _ _ _ _)] mixed r (fun b hb=>hP.sep.lt (i:=2) rfl (.inl hb)) ⟨_,List.mem_cons_self ..⟩ kz ?_ ?_
   ·
    refine Fc.zau r rfl (fun fr1 g w' hk' hd r'=>?_) ?_
    · exact zag r' (cs:=(zpe a0)) (n:=6) rfl (hP.cellK (j:=2) rfl (drK hk') (i:=1) rfl rfl) ta23 rfl ⟨Below.refl _ _,rfl⟩
    refine Fc.zau r rfl (fun fr1 g w' hk' hd r'=>?_) ?_
    · exact zfA r' (v:=(.agg (zpH (⟨a0,0,0⟩:Seat)).toArray)) (bs1 (congrArg (fun z=>(0,z)) (hd 0 rfl).1) kz) ⟨Below.refl _ _,rfl⟩
    refine Fc.zau r rfl (fun fr1 g w' hk' hd r'=>?_) ?_
    · exact zav r' (v:=(I (D.zax a0 0 0))) rfl ⟨Below.refl _ _,rfl⟩
    refine Fc.zau r rfl (fun fr1 g w' hk' hd r'=>?_) ?_
    · exact zav r' (v:=a1v) rfl ⟨Below.refl _ _,rfl⟩
    refine Fc.zau r rfl (fun fr1 g w' hk' hd r'=>?_) ?_
    · exact zav r' (v:=(I x22.2.1)) rfl ⟨Below.refl _ _,rfl⟩
    refine Fc.zau r rfl (fun fr1 g w' hk' hd r'=>?_) ?_
    · exact zd2 r' (show RoAt 0 _ _ _ _ _ from hP.okK (j:=2) rfl (drK hk') (i:=0) rfl rfl) hx27 ztx (hd 3 rfl).1 (hd 4 rfl).1 ⟨Below.refl _ _,rfl⟩
    refine Fc.zau r rfl (fun fr1 g w' hk' hd r'=>?_) ?_
    · exact zg3 r' (cs:=(zpL x27)) (RoAt.at_ (f:=zpL) (x:=x27) (show RoAt 0 _ _ _ _ _ from hP.okK (j:=2) rfl (drK hk') (i:=0) rfl rfl) (fun _=>rfl) hx27) (hd 5 rfl).1 zud ⟨Below.refl _ _,rfl⟩
    refine Fc.zbb r rfl kz (fun fr1 g w' hb' hd r'=>?_) ?_
    · exact zaC r' (args:=[(.agg (zpH (⟨a0,0,0⟩:Seat)).toArray),(I (D.zax a0 0 0)),(.agg (zpL x27).toArray)]) (lc (hd 1 rfl).1 (lc (hd 2 rfl).1 (lc (hd 6 rfl).1 l0))) cl59 ((zhA (F:=No) (n:=fu) (j:=fu+1) (fun _ h=>h.elim) kw (⟨a0,0,0⟩:Seat) (D.zax a0 0 0) x27).mono (by rintro _ w2 ⟨y,rfl,hb2,hr2⟩; exact ⟨_,rfl,hb2.below,zke hr2⟩))
    refine Fc.zbb r rfl kz (fun fr1 g w' hb' hd r'=>?_) ?_
    · exact zav r' (v:=(zp mg19.mb)) rfl ⟨Below.refl _ _,rfl⟩
    refine Fc.zau r rfl (fun fr1 g w' hk' hd r'=>?_) ?_
    · exact zav r' (v:=(zp mg19.mb)) rfl ⟨Below.refl _ _,rfl⟩
    refine Fc.zbb r rfl kz (fun fr1 g w' hb' hd r'=>?_) ?_
    · exact zaC r' (args:=[(zp mg19.mb),(I 0)]) (lc (hd 9 rfl).1 (lc rfl l0)) cl28 ((zeO _ x22.2.2 ((hP.below (dr hb')).mem (i:=2) rfl) 0 hx29).mono (by rintro _ w2 ⟨rfl,hb2⟩; exact ⟨_,rfl,hb2,rfl⟩))
    refine Fc.eachC r rfl kz (fun fr1 g w' h0 hb' hd r'=>?_) ?_
    · exact zaC r' (args:=[(g 7).v,(zp mg19.mb),(.agg (capC x29).toArray),(I 100000)]) (lc rfl (lc (hd 8 rfl).1 (lc (hd 10 rfl).1 (lc rfl l0)))) cl37 ((zhb _ (fu,(D.zbs (fu+1) (⟨a0,0,0⟩:Seat) (D.zax a0 0 0) x27)) x22.2.2 x29 100000 (Sep.beside ((hd 7 rfl).1 h0) ((hP.below (dr hb')).sep.pk [2] rfl rfl) (by intro c hc b hb; simp only [List.mem_cons,List.not_mem_nil,or_false] at hc; rcases hc with rfl; exact hP.sep.lt (i:=2) rfl hb) (hd 7 rfl).2.1) hx30).mono (by rintro _ w2 ⟨rfl,hq⟩; exact ⟨_,rfl,Chg.keptC hq.chg,EffP.ofC hq (fun b hb=>hP.sep.lt (i:=2) rfl hb)⟩))
    exact Fc.zb5
   intro fr gg w31 hb hΦ hap r;obtain ⟨v28,hv7⟩:∃ v,v=(gg 7).v:=⟨_,rfl⟩;have g7:(gg 7).v=v28:=hv7.symm;obtain ⟨⟨⟩,g11,hcE,_,hs11⟩:=(hΦ 11 rfl).1;have r:=r.congr (sc g11 (sc ((hΦ 10 rfl).1) (sc ((hΦ 9 rfl).1) (sc ((hΦ 8 rfl).1) (sc g7 (sc ((hΦ 6 rfl).1) (sc ((hΦ 5 rfl).1) (sc ((hΦ 4 rfl).1) (sc ((hΦ 3 rfl).1) (sc ((hΦ 2 rfl).1) (sc ((hΦ 1 rfl).1) (sc ((hΦ 0 rfl).1) rfl))))))))))));have hP:Post No [roK 120 3 zpL a1v a1,zpg b1 ((zpe a0)).toArray 23,memK mg19 x30.2.2.2] w0 w31:=hP.effL (i:=2) (l:=[]) rfl hb hcE rfl rfl trivial;refine wsr (kA (I 0) r rfl rfl fun r=>wn (wp_seq (wsr (kA (I 0) r rfl rfl fun r=>wn ?_))));refine zd7 (X:=Int × Int) (G:=Unit) (x0:=(0,0)) (fun x γ=>[(0,(.agg (zpe a0).toArray)),(1,a1v),(2,(zp b1)),(24,(.bool x11)),(5,(zp mg19.mb)),(29,(.bool false)),(6,(I (D.zax a0 0 0))),(4,(.bool x22.1)),(7,(I x22.2.1)),(35,(.bool (decide (x22.2.1<(a1.length:Int))))),(8,(I x.1)),(9,(I x.2))]) (fun x γ w=>Post No [roK 120 3 zpL a1v a1,zpg b1 ((zpe a0)).toArray 23,memK mg19 x30.2.2.2] w0 w) () r (kO (kO (kO zaI))) hP hD ?_ ?_
   ·
    rintro x32 γ33 fr w35 g y34 RPy34 nxy34 bky34 rty34 r hP hD;have hP:Post No [roK 120 3 zpL a1v a1,zpg b1 ((zpe a0)).toArray 23,memK mg19 x30.2.2.2] w0 w35:=hP;refine wp_seq (wsr (kM (I x32.2) r rfl rfl fun r=>kF 0 r rfl zeQ rfl fun r=>kL (I a0.nodes) r rfl (hP.cell (i:=1) rfl) to3 rfl rfl fun r=>kB r rfl rfl rfl rfl rfl fun r=>wn ?_));refine wp_cond_split (t:=(decide (x32.2<a0.nodes))) (r.ev rfl) (fun h36=>?_) (fun h36=>?_)
    ·
     have hD:=(zal h36).symm.trans hD;refine wp_skip (wp_seq (wp_block (wsr (kM (zp mg19.mb) r rfl rfl fun r=>kG (zpe a0) 6 r rfl (hP.cell (i:=1) rfl) ta23 rfl rfl fun r=>kM (I x32.2) r rfl rfl fun r=>?_))));refine kE r (zbL w35 a0 x32.2) rfl cl64 rfl fun w37 hb r=>?_
     have hP:=hP.below hb;obtain ⟨x38,hx38,hD⟩:=zan hD;refine kE r (zbf w37 x30.2.2.2 (hP.mem (i:=2) rfl) 0 (D.zaF a0 x32.2) hx38) rfl cl29 rfl fun w39 hb r=>?_;have hP:=hP.below hb
     refine kE r (zf0 w39 x38) rfl cl63 rfl fun w40 hb r=>?_;have hP:=hP.below hb
     refine kM (.tuple #[(.agg (zpo (D.zaj x38).1).toArray),(.bool (D.zaj x38).2)]) r rfl rfl fun r=>za0 (.agg (zpo (D.zaj x38).1).toArray) r (fun R=>zb8 r (vs:=#[(.agg (zpo (D.zaj x38).1).toArray),(.bool (D.zaj x38).2)]) rfl rfl) rfl fun fr r=>za0 (.bool (D.zaj x38).2) r (fun R=>zb8 r (vs:=#[(.agg (zpo (D.zaj x38).1).toArray),(.bool (D.zaj x38).2)]) rfl rfl) rfl fun fr r=>?_;refine za7 (.cells ((zpo (⟨0,0,0⟩:State))).toArray 137 (0,0)) r (fun R=>za6 zq9) rfl fun fr b41 w42 n43 r=>?_
     have hP:Post No [roK 120 3 zpL a1v a1,zpg b1 ((zpe a0)).toArray 23,memK mg19 x30.2.2.2,zpg b41 ((zpo (⟨0,0,0⟩:State))).toArray 137] w0 w42:=hP.new n43;refine zaS (.cells ((zpo ((D.zaj x38).1))).toArray 137 (0,0)) r (fun R=>zaN r (o:=0) (v:=(.agg (zpo (D.zaj x38).1).toArray)) rfl rfl (hP.cell (i:=3) rfl) zq2 (Nat.le_of_ble_eq_true rfl) rfl rfl) rfl fun fr w45 u46 r=>?_;have hP:Post No [roK 120 3 zpL a1v a1,zpg b1 ((zpe a0)).toArray 23,memK mg19 x30.2.2.2,zpg b41 ((zpo ((D.zaj x38).1))).toArray 137] w0 w45:=hP.upd (i:=3) rfl u46
     refine kA (.bool (D.zaj x38).2) r rfl rfl fun r=>wn (wsr (kF 0 r rfl ziU rfl fun r=>kL (I ((D.zaj x38).1).mode) r rfl (hP.cell (i:=3) rfl) to3 rfl rfl fun r=>kB r rfl rfl rfl rfl rfl fun r=>wn ?_));refine zbP (N:=100) (Y:=Int) (G:=Unit) (fun x γ=>[(0,(.agg (zpe a0).toArray)),(1,a1v),(2,(zp b1)),(24,(.bool x11)),(5,(zp mg19.mb)),(29,(.bool false)),(6,(I (D.zax a0 0 0))),(4,(.bool x22.1)),(7,(I x22.2.1)),(35,(.bool (decide (x22.2.1<(a1.length:Int))))),(9,(I x32.2)),(53,(.bool (decide (x32.2<a0.nodes)))),(10,(zp b41)),(67,(.bool ((((D.zaj x38).1).mode)==3))),(8,(I x))]) (fun x γ w=>Post No [roK 120 3 zpL a1v a1,zpg b1 ((zpe a0)).toArray 23,memK mg19 x30.2.2.2,zpg b41 ((zpo ((D.zaj x38).1))).toArray 137] w0 w) hD ?_ ?_
     ·
      rintro y47 RPy47 nxy47 hD;refine wp_cond_split (t:=((((D.zaj x38).1).mode)==3)) (r.ev rfl) (fun h48=>?_) (fun h48=>?_)
      ·
       have hD:=(zal h48).symm.trans hD;refine wp_region_lit (kM (I x32.1) r rfl rfl fun r=>kB r rfl rfl rfl rfl rfl fun r=>kA (I (W (x32.1+1))) r rfl rfl fun r=>wn ?_);exact nxy47 (W (x32.1+1)) () _ _ _ hD r (kO (kO (kO (zac rfl (zac rfl (zac rfl zaI)))))) (hP.pick [0,1,2,3] rfl rfl)
      have hD:=(zaf h48).symm.trans hD;refine wp_skip ?_;exact nxy47 x32.1 () _ _ _ hD r (kO (kO (kO (zac rfl (zac rfl (zac rfl zaI)))))) (hP.pick [0,1,2,3] rfl rfl)
     rintro x49 γ50 fr w51 g r hP hD;have hP:Post No [roK 120 3 zpL a1v a1,zpg b1 ((zpe a0)).toArray 23,memK mg19 x30.2.2.2,zpg b41 ((zpo ((D.zaj x38).1))).toArray 137] w0 w51:=hP;refine wp_region_lit (kM (I x32.2) r rfl rfl fun r=>kB r rfl rfl rfl rfl rfl fun r=>kA (I (W (x32.2+1))) r rfl rfl fun r=>wn ?_);exact nxy34 (x49,(W (x32.2+1))) () _ _ _ hD r (kO (kO (kO zaI))) (hP.pick [0,1,2] rfl rfl)
    have hD:=(zaf h36).symm.trans hD;refine wp_exit ?_;exact bky34 (x32.1,x32.2) () _ _ _ hD r (kO (kO (kO zaI))) (hP.pick [0,1,2] rfl rfl)
   rintro x52 γ53 fr w54 g r hP hD;have hP:Post No [roK 120 3 zpL a1v a1,zpg b1 ((zpe a0)).toArray 23,memK mg19 x30.2.2.2] w0 w54:=hP;refine wp_seq (wp_seq ?_);obtain ⟨x55,hx55,hD⟩:=zan hD;obtain ⟨x58,hx58,hD⟩:=zan hD;obtain ⟨x61,hx61,hD⟩:=zan hD;refine zcm [.val (.agg (zpe a0).toArray),.val (zp mg19.mb),.pred (MkP (fun v56:Value=>v56) (fun v56:Value=>[rowK 3 1 i64 v56 x55])) (MkP.st _ _),.val (I (x55.length:Int)),.val (.agg (zpe a0).toArray),.val (zp mg19.mb),.pred (MkP (fun v59:Value=>v59) (fun v59:Value=>[rowK 3 1 i64 v59 x58])) (MkP.st _ _),.val (I (x58.length:Int)),.val (I (W ((x55.length:Int)+(x58.length:Int)))),.val (.agg (zpe a0).toArray),.val (zp mg19.mb),.val (I (D.zax a0 0 0)),.pred (MkP (fun v62:Value=>v62) (fun v62:Value=>[rowK 110 2 entryC v62 x61])) (MkP.st _ _),.val (I (x61.length:Int)),.val (I (W ((W ((x55.length:Int)+(x58.length:Int)))+(x61.length:Int)))),.val (I x52.1),.val (I (W ((W ((W ((x55.length:Int)+(x58.length:Int)))+(x61.length:Int)))+x52.1))),.val (zp b1),.val (I a0.nodes),.val (.bool ((W ((W ((W ((x55.length:Int)+(x58.length:Int)))+(x61.length:Int)))+x52.1)) !=a0.nodes))] mixed r kz ?_ ?_
   ·
    refine fc r (fun fr1 g w' hb' hd r'=>zag r' (cs:=(zpe a0)) (n:=6) rfl ((hP.below (dr hb')).cell (i:=1) rfl) ta23 rfl bz) ?_;refine fc r (fun fr1 g w' hb' hd r'=>zav r' rfl bz) ?_
    refine fc r (fun fr1 g w' hb' hd r'=>zaC r' (args:=[(.agg (zpe a0).toArray),(zp mg19.mb),(I 0)]) (lc (hd 0 rfl).1 (lc (hd 1 rfl).1 (lc rfl l0))) cl65 ((zmi _ a0 x30.2.2.2 ((hP.below (dr hb')).mem (i:=2) rfl) 0 hx55).mono (by rintro _ w2 ⟨y,rfl,hq⟩; exact ⟨_,rfl,hq.chg.below,MkP.of y hq⟩))) ?_;refine zfY r rfl (fun fr1 g w' hb' hd r'=>?_) ?_
    · obtain ⟨y,hy,hs,_⟩:=(hd 2 rfl).1; exact zcD r' (zpV.ro (hs.get (i:=0) rfl)) is45 hy ⟨Below.refl _ _,rfl⟩
    refine fc r (fun fr1 g w' hb' hd r'=>zag r' (cs:=(zpe a0)) (n:=6) rfl ((hP.below (dr hb')).cell (i:=1) rfl) ta23 rfl bz) ?_;refine fc r (fun fr1 g w' hb' hd r'=>zav r' rfl bz) ?_
    refine fc r (fun fr1 g w' hb' hd r'=>zaC r' (args:=[(.agg (zpe a0).toArray),(zp mg19.mb),(I 0),(I 0)]) (lc (hd 4 rfl).1 (lc (hd 5 rfl).1 (lc rfl (lc rfl l0)))) cl66 ((zle _ a0 x30.2.2.2 ((hP.below (dr hb')).mem (i:=2) rfl) 0 0 hx58).mono (by rintro _ w2 ⟨y,rfl,hq⟩; exact ⟨_,rfl,hq.chg.below,MkP.of y hq⟩))) ?_;refine zfY r rfl (fun fr1 g w' hb' hd r'=>?_) ?_
    · obtain ⟨y,hy,hs,_⟩:=(hd 6 rfl).1; exact zcD r' (zpV.ro (hs.get (i:=0) rfl)) is45 hy ⟨Below.refl _ _,rfl⟩
    refine fc r (fun fr1 g w' hb' hd r'=>zpB r' (hd 3 rfl).1 (hd 7 rfl).1 rfl rfl bz) ?_;refine fc r (fun fr1 g w' hb' hd r'=>zag r' (cs:=(zpe a0)) (n:=6) rfl ((hP.below (dr hb')).cell (i:=1) rfl) ta23 rfl bz) ?_
    refine fc r (fun fr1 g w' hb' hd r'=>zav r' rfl bz) ?_;refine fc r (fun fr1 g w' hb' hd r'=>zav r' rfl bz) ?_
    refine fc r (fun fr1 g w' hb' hd r'=>zaC r' (args:=[(.agg (zpe a0).toArray),(zp mg19.mb),(I 0),(I (D.zax a0 0 0))]) (lc (hd 9 rfl).1 (lc (hd 10 rfl).1 (lc rfl (lc (hd 11 rfl).1 l0)))) cl51 ((zhK _ a0 x30.2.2.2 ((hP.below (dr hb')).mem (i:=2) rfl) 0 (D.zax a0 0 0) hx61).mono (by rintro _ w2 ⟨y,rfl,hq⟩; exact ⟨_,rfl,hq.chg.below,MkP.of y hq⟩))) ?_;refine zfY r rfl (fun fr1 g w' hb' hd r'=>?_) ?_
    · obtain ⟨y,hy,hs,_⟩:=(hd 12 rfl).1; exact zcD r' (zpV.ro (hs.get (i:=0) rfl)) zsf hy ⟨Below.refl _ _,rfl⟩
    refine fc r (fun fr1 g w' hb' hd r'=>zpB r' (hd 8 rfl).1 (hd 13 rfl).1 rfl rfl bz) ?_;refine fc r (fun fr1 g w' hb' hd r'=>zav r' rfl bz) ?_
    refine fc r (fun fr1 g w' hb' hd r'=>zpB r' (hd 14 rfl).1 (hd 15 rfl).1 rfl rfl bz) ?_;refine fc r (fun fr1 g w' hb' hd r'=>za3 r' (b:=b1) (o:=0) rfl zeQ bz) ?_
    refine fc r (fun fr1 g w' hb' hd r'=>za4 r' (hd 17 rfl).1 ((hP.below (dr hb')).cell (i:=1) rfl) to3 rfl bz) ?_;refine fc r (fun fr1 g w' hb' hd r'=>zpB r' (hd 16 rfl).1 (hd 18 rfl).1 rfl rfl bz) ?_
    exact zb5
   intro fr gg w64 hb hΦ hap r;obtain ⟨v56,g2,hs2⟩:=(hΦ 2 rfl).1;obtain ⟨v59,g6,hs6⟩:=(hΦ 6 rfl).1;obtain ⟨v62,g12,hs12⟩:=(hΦ 12 rfl).1;have r:=r.congr (sc ((hΦ 19 rfl).1) (sc ((hΦ 18 rfl).1) (sc ((hΦ 17 rfl).1) (sc ((hΦ 16 rfl).1) (sc ((hΦ 15 rfl).1) (sc ((hΦ 14 rfl).1) (sc ((hΦ 13 rfl).1) (sc g12 (sc ((hΦ 11 rfl).1) (sc ((hΦ 10 rfl).1) (sc ((hΦ 9 rfl).1) (sc ((hΦ 8 rfl).1) (sc ((hΦ 7 rfl).1) (sc g6 (sc ((hΦ 5 rfl).1) (sc ((hΦ 4 rfl).1) (sc ((hΦ 3 rfl).1) (sc g2 (sc ((hΦ 1 rfl).1) (sc ((hΦ 0 rfl).1) rfl))))))))))))))))))));have hP:Post No [roK 120 3 zpL a1v a1,zpg b1 ((zpe a0)).toArray 23,memK mg19 x30.2.2.2,rowK 3 1 i64 v56 x55,rowK 3 1 i64 v59 x58,rowK 110 2 entryC v62 x61] w0 w64:=hP.addL (l:=[([rowK 3 1 i64 v56 x55],(gg 2).lo,(gg 2).hi),([rowK 3 1 i64 v59 x58],(gg 6).lo,(gg 6).hi),([rowK 110 2 entryC v62 x61],(gg 12).lo,(gg 12).hi)]) hb ⟨hs2,(hΦ 2 rfl).2.1,(zie (hap 2 6 rfl) (zie (hap 2 12 rfl) zep)),⟨hs6,(hΦ 6 rfl).2.1,(zie (hap 6 12 rfl) zep),⟨hs12,(hΦ 12 rfl).2.1,zep,trivial⟩⟩⟩;refine wp_cond_split (t:=((W ((W ((W ((x55.length:Int)+(x58.length:Int)))+(x61.length:Int)))+x52.1)) !=a0.nodes)) (r.ev rfl) (fun h65=>?_) (fun h65=>?_)
   ·
    have hD:=(zal h65).symm.trans hD;refine wsr (kA (.bool false) r rfl rfl fun r=>wn (wp_ret ?_));refine rty24 false _ _ hD fun hD=>?_
    have hv:false=res:=Option.some.inj hD
    try dsimp only [Exit.then,Exit.inBlock]
    refine zay (fn:=Tryz.f12) r (t:=4) rfl (v:=(.bool false)) rfl ?_;subst hv;exact ⟨rfl,hP.chg.below⟩
   have hD:=(zaf h65).symm.trans hD;refine wp_skip (wsr (kA (I 0) r rfl rfl fun r=>wn ?_));have hP:Post No [roK 120 3 zpL a1v a1,zpg b1 ((zpe a0)).toArray 23,memK mg19 x30.2.2.2] w0 w64:=hP.pick [0,1,2] rfl rfl
   refine zd7 (X:=Bool × Int) (G:=Unit) (x0:=(x22.1,0)) (fun x γ=>[(0,(.agg (zpe a0).toArray)),(1,a1v),(2,(zp b1)),(24,(.bool x11)),(5,(zp mg19.mb)),(29,(.bool false)),(6,(I (D.zax a0 0 0))),(7,(I x22.2.1)),(35,(.bool (decide (x22.2.1<(a1.length:Int))))),(8,(I x52.1)),(9,(I x52.2)),(89,(.bool ((W ((W ((W ((x55.length:Int)+(x58.length:Int)))+(x61.length:Int)))+x52.1)) !=a0.nodes))),(4,(.bool x.1)),(12,(I x.2))]) (fun x γ w=>Post No [roK 120 3 zpL a1v a1,zpg b1 ((zpe a0)).toArray 23,memK mg19 x30.2.2.2] w0 w) () r (kO (kO (kO (zac rfl (zac rfl zaI))))) hP hD ?_ ?_
   ·
    rintro x66 γ67 fr w69 g y68 RPy68 nxy68 bky68 rty68 r hP hD;have hP:Post No [roK 120 3 zpL a1v a1,zpg b1 ((zpe a0)).toArray 23,memK mg19 x30.2.2.2] w0 w69:=hP;refine wp_seq (wsr (kM (I x66.2) r rfl rfl fun r=>kB r rfl rfl rfl rfl rfl fun r=>wn ?_));refine wp_cond_split (t:=(decide (x66.2<3))) (r.ev rfl) (fun h70=>?_) (fun h70=>?_)
    ·
     have hD:=(zal h70).symm.trans hD;refine wp_skip (wp_seq (wp_block (wsr (kM (zp mg19.mb) r rfl rfl fun r=>kG (zpe a0) 6 r rfl (hP.cell (i:=1) rfl) ta23 rfl rfl fun r=>kM (I x66.2) r rfl rfl fun r=>?_))));refine kE r (ze3 w69 a0 0 x66.2) rfl cl67 rfl fun w71 hb r=>?_
     have hP:=hP.below hb;obtain ⟨x72,hx72,hD⟩:=zan hD;refine kE r (zbf w71 x30.2.2.2 (hP.mem (i:=2) rfl) 0 (D.zb9 a0 0 x66.2) hx72) rfl cl29 rfl fun w73 hb r=>?_;have hP:=hP.below hb
     refine kB r rfl rfl rfl rfl rfl fun r=>wn ?_;refine wp_cond_split (t:=(x72 !=0)) (r.ev rfl) (fun h74=>?_) (fun h74=>?_)
     ·
      have hD:=(zal h74).symm.trans hD;refine wsr (kA (.bool false) r rfl rfl fun r=>wn (wp_ret ?_));refine rty68 (Lp.ret false) _ _ hD fun hD=>?_
      refine rty24 false _ _ hD fun hD=>?_;have hv:false=res:=Option.some.inj hD
      try dsimp only [Exit.then,Exit.inBlock]
      refine zay (fn:=Tryz.f12) r (t:=4) rfl (v:=(.bool false)) rfl ?_;subst hv;exact ⟨rfl,hP.chg.below⟩
     have hD:=(zaf h74).symm.trans hD;refine wp_skip ?_;refine wp_region_lit (kM (I x66.2) r rfl rfl fun r=>kB r rfl rfl rfl rfl rfl fun r=>kA (I (W (x66.2+1))) r rfl rfl fun r=>wn ?_);exact nxy68 (x66.1,(W (x66.2+1))) () _ _ _ hD r (kO (kO (kO (zac rfl (zac rfl zaI))))) (hP.pick [0,1,2] rfl rfl)
    have hD:=(zaf h70).symm.trans hD;refine wp_exit ?_;exact bky68 (x66.1,x66.2) () _ _ _ hD r (kO (kO (kO (zac rfl (zac rfl zaI))))) (hP.pick [0,1,2] rfl rfl)
   rintro x75 γ76 fr w77 g r hP hD;have hP:Post No [roK 120 3 zpL a1v a1,zpg b1 ((zpe a0)).toArray 23,memK mg19 x30.2.2.2] w0 w77:=hP;refine wp_region_lit (kM (I x22.2.1) r rfl rfl fun r=>kB r rfl rfl rfl rfl rfl fun r=>kA (I (W (x22.2.1+1))) r rfl rfl fun r=>wn ?_);exact nxy24 (x75.1,(W (x22.2.1+1)),x30.2.2.2) () _ _ _ hD r (kO (kO (zac rfl zaI))) (hP.pick [0,1,2] rfl rfl)
  have hD:=(zaf h26).symm.trans hD;refine wp_exit ?_;exact bky24 (x22.1,x22.2.1,x22.2.2) () _ _ _ hD r (kO (kO (zac rfl zaI))) (hP.pick [0,1,2] rfl rfl)
 rintro x78 γ79 fr w80 g r hP hD;have hP:Post No [roK 120 3 zpL a1v a1,zpg b1 ((zpe a0)).toArray 23,memK mg19 x78.2.2] w0 w80:=hP;refine wsr (kA (.bool true) r rfl rfl fun r=>wn (wp_ret ?_));have hv:true=res:=Option.some.inj hD
 try dsimp only [Exit.then,Exit.inBlock]
 refine zay (fn:=Tryz.f12) r (t:=4) rfl (v:=(.bool true)) rfl ?_;subst hv;exact ⟨rfl,hP.chg.below⟩
end Go.Proofs.YtikjpdpgdmbdpaaGreat.Wk

/- Ours. -/
namespace Go.Proofs.YtikjpdpgdmbdpaaGreat
open Go.RowKit
/-! ### Where each node is -/
theorem PartP.perm {N:Int} {P:Pool} {c c':List Int} (h:PartP N P c) (hc:∀ q,q∈c'↔q∈c):PartP N P c':=
  ⟨fun q q0 q1=>by rw [hc]; exact h.all q q0 q1,fun q hq=>h.here q (by rw [hc] at hq; exact hq),fun q hq=>h.fc q ((hc q).1 hq)⟩
theorem PartP.take {N:Int} {n k:Int} {fr rt:List Int} {st:Int→State} {c:List Int} (h:PartP N ⟨n::fr,rt,st⟩ c) (hn:n ∉ fr) (hr:n ∉ rt):PartP N ⟨fr,rt,fun q=>if q=n then D.zaV (st n) k else st q⟩ (n::c):=by
  refine ⟨fun q q0 q1=>?_,fun q hq=>?_,fun q hq=>?_⟩
  · show q∈fr∨q∈rt∨_∨(if q=n then _ else st q).mode=3
    by_cases e:q=n
    · exact .inr (.inr (.inl (by rw [e]; exact List.mem_cons_self ..)))
    · rw [if_neg e]
      rcases h.all q q0 q1 with h1 | h1 | h1 | h1
      · exact .inl ((List.mem_cons.1 h1).resolve_left e)
      · exact .inr (.inl h1)
      · exact .inr (.inr (.inl (List.mem_cons_of_mem _ h1)))
      · exact .inr (.inr (.inr h1))
  · show (if q=n then _ else st q).mode≠3
    by_cases e:q=n
    · rw [if_pos e]; show (1:Int)≠3; omega
    · rw [if_neg e]
      refine h.here q ?_
      rcases hq with hq | hq | hq
      · exact .inl (List.mem_cons_of_mem _ hq)
      · exact .inr (.inl hq)
      · exact .inr (.inr ((List.mem_cons.1 hq).resolve_left e))
  · rcases List.mem_cons.1 hq with rfl | hq
    · exact ⟨hn,hr⟩
    · obtain ⟨c1,c2⟩:=h.fc q hq
      exact ⟨fun hf=>c1 (List.mem_cons_of_mem _ hf),c2⟩
theorem PartP.back {N m:Int} {n:Int} {P:Pool} {c:List Int} (h:PartP N P (n::c)) (hc:n ∉ c):PartP N (P.back m n) c:=by
  obtain ⟨o1,o2⟩:=h.fc n (List.mem_cons_self ..)
  by_cases e3:(D.za9 (P.st n) m).mode=3
  · have ef:(P.back m n).fr=P.fr:=if_pos e3
    refine ⟨fun q q0 q1=>?_,fun q hq=>?_,fun q hq=>?_⟩
    · show q∈(P.back m n).fr∨q∈P.rt∨_∨(if q=n then _ else P.st q).mode=3
      rw [ef]
      by_cases e:q=n
      · rw [if_pos e]; exact .inr (.inr (.inr e3))
      · rw [if_neg e]
        rcases h.all q q0 q1 with h1 | h1 | h1 | h1
        · exact .inl h1
        · exact .inr (.inl h1)
        · exact .inr (.inr (.inl ((List.mem_cons.1 h1).resolve_left e)))
        · exact .inr (.inr (.inr h1))
    · rw [ef] at hq
      have e:q≠n:=fun e=>by
        subst e
        rcases hq with hq | hq | hq
        · exact o1 hq
        · exact o2 hq
        · exact hc hq
      show (if q=n then _ else P.st q).mode≠3
      rw [if_neg e]
      exact h.here q (hq.imp id fun h=>h.imp id fun h=>List.mem_cons_of_mem _ h)
    · rw [ef]
      exact h.fc q (List.mem_cons_of_mem _ hq)
  · have ef:(P.back m n).fr=n::P.fr:=if_neg e3
    refine ⟨fun q q0 q1=>?_,fun q hq=>?_,fun q hq=>?_⟩
    · show q∈(P.back m n).fr∨q∈P.rt∨_∨(if q=n then _ else P.st q).mode=3
      rw [ef]
      by_cases e:q=n
      · exact .inl (by rw [e]; exact List.mem_cons_self ..)
      · rw [if_neg e]
        rcases h.all q q0 q1 with h1 | h1 | h1 | h1
        · exact .inl (List.mem_cons_of_mem _ h1)
        · exact .inr (.inl h1)
        · exact .inr (.inr (.inl ((List.mem_cons.1 h1).resolve_left e)))
        · exact .inr (.inr (.inr h1))
    · rw [ef] at hq
      show (if q=n then _ else P.st q).mode≠3
      by_cases e:q=n
      · rw [if_pos e]; exact e3
      · rw [if_neg e]
        refine h.here q ?_
        rcases hq with hq | hq | hq
        · exact .inl ((List.mem_cons.1 hq).resolve_left e)
        · exact .inr (.inl hq)
        · exact .inr (.inr (List.mem_cons_of_mem _ hq))
    · obtain ⟨c1,c2⟩:=h.fc q (List.mem_cons_of_mem _ hq)
      rw [ef]
      exact ⟨fun hf=>by
        rcases List.mem_cons.1 hf with rfl | hf
        · exact hc hq
        · exact c1 hf,c2⟩
theorem PartP.drop {p:Plan} {n:Int} {P:Pool} {c:List Int} (h:PartP p.nodes P (n::c)) (hc:n ∉ c) (hnod:P.rt.Nodup) (hdis:∀ q,q∈P.rt→q ∉ P.fr):PartP p.nodes (dropP p P n) c:=by
  have h2:PartP p.nodes ⟨P.fr,P.rt,fun q=>if q=n then ⟨(P.st n).gen,2,(P.st n).kind⟩ else P.st q⟩ (n::c):=by
    refine ⟨fun q q0 q1=>?_,fun q hq=>?_,h.fc⟩
    · by_cases e:q=n
      · exact .inr (.inr (.inl (by rw [e]; exact List.mem_cons_self ..)))
      · show _∨_∨_∨(if q=n then _ else P.st q).mode=3
        rw [if_neg e]
        exact h.all q q0 q1
    · show (if q=n then _ else P.st q).mode≠3
      by_cases e:q=n
      · rw [if_pos e]; show (2:Int)≠3; omega
      · rw [if_neg e]; exact h.here q hq
  have key:∀ Q:Pool,PartP p.nodes Q (n::c)→PartP p.nodes ⟨Q.fr,Q.rt++[n],Q.st⟩ c:=fun Q hQ=>by
    refine ⟨fun q q0 q1=>?_,fun q hq=>?_,fun q hq=>?_⟩
    · rcases hQ.all q q0 q1 with h1 | h1 | h1 | h1
      · exact .inl h1
      · exact .inr (.inl (List.mem_append_left _ h1))
      · rcases List.mem_cons.1 h1 with rfl | h1
        · exact .inr (.inl (List.mem_append_right _ (List.mem_singleton.2 rfl)))
        · exact .inr (.inr (.inl h1))
      · exact .inr (.inr (.inr h1))
    · refine hQ.here q ?_
      rcases hq with hq | hq | hq
      · exact .inl hq
      · rcases List.mem_append.1 hq with hq | hq
        · exact .inr (.inl hq)
        · rw [List.mem_singleton.1 hq]; exact .inr (.inr (List.mem_cons_self ..))
      · exact .inr (.inr (List.mem_cons_of_mem _ hq))
    · obtain ⟨c1,c2⟩:=hQ.fc q (List.mem_cons_of_mem _ hq)
      exact ⟨c1,fun hq'=>by
        rcases List.mem_append.1 hq' with hq' | hq'
        · exact c2 hq'
        · exact hc (List.mem_singleton.1 hq' ▸ hq)⟩
  unfold dropP Pool.stash
  split
  · exact key _ h2
  · exact key _ (h2.scan hnod hdis _)
def StepL (p:Plan) (ws:List Int) (g:Int) (T:T Res):Prop:=∃ (m:Nat) (res:Res) (ws':List Int) (P':Pool) (g':Int) (l':List Int),m≤3900∧g'≤g+100∧Runs T ws m res ws'∧LAt p 0 ws' P' g' 2 l'∧Alone p ws'∧PartP p.nodes P' l'
section
variable {p : Plan} (hp : PF p) (hnn : p.nodes ≤ 40) (hrr : p.retire ≤ 40) (ht : (0 : Int) ≤ 0 ∧ 0 < p.threads) (hc : (0 : Int) < 2 ∧ 2 < D.za1 p) {ws : List Int} {P : Pool} {g : Int} {l : List Int} (h : LAt p 0 ws P g 2 l) (ha : Alone p ws) (hq : PartP p.nodes P l)
include hp hnn hrr ht hc h ha hq
theorem stepAdd (hdm:0<p.domains) (J:Nat) (hJ:1100<J) (hg:g<900000) (k v:Int):StepL p ws g (D.zeY (J+1) ⟨p,0,0⟩ 2 k v):=by
  obtain ⟨m,ws',P',g',l',res,hm,hg',hr,hA',hK,hal',hcase⟩:=h.add hp kw ht hc hdm hnn ha J hJ hg k v;have hll:=h.zk1 hp kw ht hc;have hrm:=h.pool.ret.room;refine ⟨m,res,ws',P',g',l',kw,kw,hr,hA',hal',?_⟩
  have hPA:=h.pool.toAt ha;have hscan:PartP p.nodes (P.scan p.gen) l:=hq.scan h.pool.nod h.pool.dis _;have hQ:∀ Q:Pool,Q=P∨Q=P.scan p.gen→PartP p.nodes Q l∧Q.fr.Nodup∧∀ n,n∈Q.rt→n ∉ Q.fr:=by
    rintro Q (rfl | rfl)
    · exact ⟨hq,h.pool.free.nodup,h.pool.dis⟩
    · obtain ⟨_,_,_,_,_,_,hS,_⟩:=hPA.scan hp kw ht hg (J+1) kw
      exact ⟨hscan,hS.free.nodup,hS.dis⟩
  rcases hcase with ⟨hgr,_,rfl,rfl,_⟩ | ⟨Q,n,fr,hQe,hQf,hgr,hnd,hcase⟩
  · unfold Pool.grant at hgr ⊢
    split
    · rename_i hfr
      rw [hfr] at hgr
      simp only at hgr
      unfold Pool.out at hgr ⊢
      split
      · exact hscan
      · rename_i hx
        rw [hx] at hgr
        have:(0:Int)=4:=congrArg Grant.e hgr;omega
    · rename_i hfr
      rw [hfr] at hgr
      unfold Pool.out at hgr
      rw [hfr] at hgr
      have:(0:Int)=4:=congrArg Grant.e hgr;omega
  · obtain ⟨h1,h2,h3⟩:=hQ Q hQe
    rw [hgr] at hcase
    obtain ⟨fr0,rt,st⟩:=Q;simp only at hQf
    subst hQf;have hnrt:n ∉ rt:=fun hn=>h3 n hn (List.mem_cons_self ..)
    have hnl:n ∉ l:=fun hn=>(h1.fc n hn).1 (List.mem_cons_self ..)
    have ht1:=h1.take (k:=2) (List.nodup_cons.1 h2).1 hnrt
    rcases hcase with ⟨_,_,rfl,rfl,_⟩ | ⟨_,_,rfl,_,pre,suf,rfl,rfl,_⟩
    · exact ht1.back hnl
    · exact ht1.perm fun q=>by simp only [List.mem_append,List.mem_cons]; constructor <;> (rintro (h | h | h) <;> simp [h])
theorem stepDel (J d:Nat) (hJ:1100<J) (hg:g<900000) (k:Int):StepL p ws g (D.ze1 (J+1) (d+1) ⟨p,0,0⟩ 2 k):=by
  obtain ⟨m,ws',P',g',l',hm,hg',hr,hA',hK,he,hcase⟩:=h.del hp kw ht hc J d hJ hg k fun _ n hn=>ha.held (h.pool.ret.range n hn).1
  have hll:=h.zk1 hp kw ht hc
  have hrm:=h.pool.ret.room;refine ⟨m,_,ws',P',g',l',kw,kw,hr,hA',h.alone hp kw ht hc hK ha,?_⟩
  rcases hcase with ⟨_,_,rfl,_,rfl⟩ | ⟨_,pre,n,suf,rfl,rfl,rfl,_⟩
  · exact hq
  · have hdd:=List.nodup_append.1 h.nd
    refine PartP.drop (hq.perm fun q=>by simp only [List.mem_append,List.mem_cons]; constructor <;> (rintro (h | h | h) <;> simp [h])) (fun hn=>?_) h.pool.nod h.pool.dis
    rcases List.mem_append.1 hn with hn | hn
    · exact hdd.2.2 n hn n (List.mem_cons_self ..) rfl
    · exact (List.nodup_cons.1 hdd.2.1).1 hn
theorem stepGet (J:Nat) (hJ:1100<J) (k:Int):StepL p ws g (D.zgj (J+1) ⟨p,0,0⟩ 2 k):=by
  obtain ⟨m,hm,hr⟩:=h.get hp kw ht hc J hJ k;have hll:=h.zk1 hp kw ht hc;exact ⟨m,_,ws,P,g,l,kw,kw,hr,h,ha,hq⟩
end
theorem zo5 (k:Nat):(List.range' 0 (k+1)).map (fun (q:Nat)=>(q:Int))=(List.range' 0 k).map (fun (q:Nat)=>(q:Int))++[(k:Int)]:=by
  rw [List.range'_1_concat,List.map_append]
  simp
theorem zks (p:Plan) (l:List CallL) (_:-9223372036854775808≤p.nodes∧p.nodes≤9223372036854775807) (_:-9223372036854775808≤p.threads∧p.threads≤9223372036854775807)
    (_:-9223372036854775808≤p.retire∧p.retire≤9223372036854775807) (_:-9223372036854775808≤p.domains∧p.domains≤9223372036854775807) (_:-9223372036854775808≤p.buckets∧p.buckets≤9223372036854775807)
    (_:-9223372036854775808≤p.gen∧p.gen≤9223372036854775807) (hb:∀ x,x∈l→(0≤x.kind∧x.kind≤255)∧(0≤x.k∧x.k≤255)∧(0≤x.v∧x.v≤255)):∃ fu,Wk.D.zc8 fu p l=some true:=by
  refine ⟨4000,?_⟩;unfold Wk.D.zc8;rw [zoB];simp only [Option.bind_some,Bool.not_true,cond_false];cases hfw:D.zb6 p
  case false=>rfl
  simp only [Bool.not_true,cond_false,Option.bind_some]
  cases hl:decide ((l.length:Int) > 60)
  case true=>rfl
  simp only [decide_eq_false_iff_not] at hl
  simp only [cond_false]
  obtain ⟨hp,hfw,hdm⟩:=zo4 hfw;have ht1:=hp.t1;have hn1:=hp.n1;have ht:(0:Int)≤0∧0<p.threads:=kw
  obtain ⟨z1,z2,z3,z4⟩:=zpN hp;have h4:=haz4 hp hdm;have hc:(0:Int)<2∧2<D.za1 p:=kw
  rw [show D.zax p 0 0=2 from zm6 hp hdm (c:=0) kw]
  obtain ⟨M,hM,hL⟩:=zoN hp hfw (fu:=4000) kw;rw [hM];simp only [Option.bind_some];have hw2:rd M.ws 2=0:=hL.zero 2 kw (fun m m0 m1=>kw)
  obtain ⟨hA0,hal0⟩:=LAt.start hp hL ht hw2;have hq0:PartP p.nodes ⟨allN p,[],fun _=>⟨0,0,0⟩⟩ []:=
    ⟨fun q q0 q1=>.inl (List.mem_map.2 ⟨q.toNat,List.mem_range'_1.2 kw,kw⟩),fun q _=>by show (0:Int)≠3; omega,fun q hq=>by cases hq⟩
  refine zia (fun o=>o=some true) (fun (i:Nat) (x:Bool × Int × Mem)=>x.2.1=(i:Int)∧∃ P g k,g≤100 * (i:Int)∧LAt p 0 x.2.2.ws P g 2 k∧Alone p x.2.2.ws∧PartP p.nodes P k) l.length 4000 ⟨rfl,_,0,[],kw,hA0,hal0,hq0⟩ kw ?_ ?_
  · rintro i ⟨b,x,M1⟩ hi ⟨rfl,P,g,k,hg,hA,hal,hq⟩
    simp only at hg hA hal ⊢
    rw [show decide ((i:Int)<(l.length:Int))=true from by simp; omega]
    simp only [cond_true]
    rw [zo6 hi]
    simp only [Option.bind_some,zoc]
    have hop:StepL p M1.ws g (D.zbs (4000+1) ⟨p,0,0⟩ 2 l[i]):=by
      unfold D.zbs;cases (l[i].kind.tmod 3==0) with
      | true=>exact stepAdd hp hfw.1 hfw.2.1 ht hc hA hal hq hdm 4000 kw kw _ _
      | false=>
        cases (l[i].kind.tmod 3==1) with
        | true=>exact stepDel hp hfw.1 hfw.2.1 ht hc hA hal hq 4000 4000 kw kw _
        | false=>exact stepGet hp hfw.1 hfw.2.1 ht hc hA hal hq 4000 kw _
    obtain ⟨m,res,ws',P',g',k',hm,hg',hr,hA',hal',hq'⟩:=hop;obtain ⟨c,hcc⟩:=runR (fu:=4000) (most:=100000) (M:=M1) hr kw kw kw;rw [hcc];simp only [Option.bind_some];have hlen:=hA'.pool.free.len;have hPA':=hA'.pool.toAt hal';have hcnt:=hq'.count hp hPA' hA'.nd hA'.link.range;have hkk:=hA'.zk1 hp kw ht hc;have hfl:=zoE hp (M:=⟨ws',c⟩) hA'.pool.free kw kw kw (fu:=4000) kw;have hrl:=znO hp (M:=⟨ws',c⟩) ht hlen hA'.pool.ret kw (fu:=4000) kw;have hel:=zmW hp kw (M:=⟨ws',c⟩) (fu:=4000) hlen (c:=2) kw hA'.link kw kw;rw [hfl,hrl,hel];simp only [Option.bind_some];have hEl:(ents p ws' k').length=k'.length:=by unfold ents; simp
    obtain ⟨S,hS⟩:∃ S:Nat→List Int,S=fun n=>(List.range' 0 n).map (fun (q:Nat)=>(q:Int)):=⟨_,rfl⟩
    have hSs:∀ n,S (n+1)=S n++[(n:Int)]:=fun n=>by rw [hS]; exact zo5 n
    have hSa:allN p=S p.nodes.toNat:=by rw [hS]; rfl
    have hSl:∀ n,(S n).length=n:=fun n=>by rw [hS]; simp
    have hgone:∀ n:Nat,((S n).filter fun q=>(P'.st q).mode==3).length≤n:=fun n=>Nat.le_trans (List.length_filter_le ..) (by rw [hSl]; omega)
    refine zia (fun (o:Option (Lp (Bool × Int × Mem) Bool))=>∃ x':Bool × Int × Mem,o=some (Lp.next x')∧(x'.2.1=((i+1:Nat):Int)∧∃ P g k,g≤100 * ((i+1:Nat):Int)∧LAt p 0 x'.2.2.ws P g 2 k∧Alone p x'.2.2.ws∧PartP p.nodes P k))
      (fun (n:Nat) (x:Int × Int)=>x.2=(n:Int)∧x.1=(((S n).filter fun q=>(P'.st q).mode==3).length:Int)) p.nodes.toNat 4000 ⟨rfl,by rw [hS]; rfl⟩ kw ?_ ?_
    · rintro n ⟨x,y⟩ hn ⟨rfl,rfl⟩
      simp only
      rw [show decide ((n:Int)<p.nodes)=true from by simp; omega]
      simp only [cond_true]
      have hnR:0≤(n:Int)∧(n:Int)<p.nodes:=kw
      obtain ⟨q1,q2,q3⟩:=zqf hp hnR;have hst:=hA'.pool.st n hnR.1 hnR.2;rw [q3,zhg kw (by simp only; omega)];simp only [Option.bind_some];rw [hst.of];have hg1:=hgone n;have hsn:(((S (n+1)).filter fun q=>(P'.st q).mode==3).length:Int)=(((S n).filter fun q=>(P'.st q).mode==3).length:Int)+(if (P'.st n).mode=3 then 1 else 0):=by
        rw [hSs,List.filter_append,List.length_append]
        by_cases e:(P'.st n).mode=3
        · simp [e]
        · simp [e]
      by_cases e:(P'.st n).mode=3
      · rw [show ((P'.st n).mode==3)=true from by simpa using e]
        simp only [cond_true,Option.bind_some]
        rw [zaL (show -1000000≤(n:Int)+1 by omega) kw,zaL kw kw]
        exact ⟨_,rfl,by simp,by rw [hsn,if_pos e]⟩
      · rw [show ((P'.st n).mode==3)=false from by simpa using e]
        simp only [cond_false,Option.bind_some]
        rw [zaL (show -1000000≤(n:Int)+1 by omega) kw]
        exact ⟨_,rfl,by simp,by rw [hsn,if_neg e]; omega⟩
    · rintro ⟨x,y⟩ ⟨rfl,rfl⟩
      simp only
      rw [show decide ((p.nodes.toNat:Int)<p.nodes)=false from by simp; omega]
      refine ⟨_,rfl,?_⟩;simp only;rw [hSa] at hcnt
      rw [hEl]
      generalize ((S p.nodes.toNat).filter fun q=>(P'.st q).mode==3).length=z at hcnt
      rw [zaL (x:=(P'.fr.length:Int)+(P'.rt.length:Int)) kw kw,zaL (x:=(P'.fr.length:Int)+(P'.rt.length:Int)+(k'.length:Int)) kw kw,zaL kw kw]
      rw [show ((P'.fr.length:Int)+(P'.rt.length:Int)+(k'.length:Int)+(z:Int) !=p.nodes)=false from by simp; omega]
      simp only [cond_false]
      refine zia (fun (o:Option (Lp (Bool × Int × Mem) Bool))=>∃ x':Bool × Int × Mem,o=some (Lp.next x')∧(x'.2.1=((i+1:Nat):Int)∧∃ P g k,g≤100 * ((i+1:Nat):Int)∧LAt p 0 x'.2.2.ws P g 2 k∧Alone p x'.2.2.ws∧PartP p.nodes P k)) (fun (j:Nat) (x:Bool × Int)=>x=(b,(j:Int))) 3 4000 rfl kw ?_ ?_
      · rintro j x hj rfl
        simp only
        rw [show decide ((j:Int)<3)=true from by simp; omega]
        simp only [cond_true]
        have hH:D.zb9 p 0 (j:Int)=D.za1 p+(j:Int):=by rw [zjW hp,if_pos kw]; omega
        unfold Len at hlen
        rw [hH,zhg kw (by simp only; omega)]
        simp only [Option.bind_some]
        rw [hal' (j:Int) kw kw]
        simp only [bne_self_eq_false,cond_false]
        rw [zaL (show -1000000≤(j:Int)+1 by omega) kw]
        exact ⟨_,rfl,by simp⟩
      · rintro x rfl
        refine ⟨_,rfl,?_⟩;simp only;rw [zaL (show -1000000≤(i:Int)+1 by omega) kw]
        exact ⟨_,rfl,by simp,P',g',k',by simp only [Int.natCast_add,Int.natCast_one]; omega,hA',hal',hq'⟩
  · rintro ⟨b,x,M1⟩ ⟨rfl,_⟩
    simp only
    rw [show decide ((l.length:Int)<(l.length:Int))=false from by simp]
    exact ⟨_,rfl,trivial⟩
end Go.Proofs.YtikjpdpgdmbdpaaGreat

/- Ours. -/
namespace Go.Proofs.YtikjpdpgdmbdpaaGreat
open Go.ChangeShapes Go.WideShapes Go.RowKit Go.Deep Go.ChangeAt
section
variable {H : Type} {enc : TypeId × Value → H} {P : Program} {w : World} {base : Nat} {spare : Nat → Bool} {held : Bool}
theorem zm8 {α:Type} {l:List α} {j:Nat} (h:j<l.length):(l.drop j).take 1=[l[j]]:=by
  rw [List.drop_eq_getElem_cons h]
  rfl
theorem zlC {r:Reach} {b0:Nat} {t:TypeId} {fs:Array Go.Field} {v:Value} {d:DataW H} {p:List MemPlace} (ks:List IntKind) (hs:P.underlying t=some (.struct fs)) (hone:oneCellFields P fs=true)
    (hC:P.cellsOf t=fs.size) (hk:fs.toList.map (fun f=>P.underlying f.type)=ks.map fun k=>some (.int k))
    (hv:Value.okWide P w r b0 t v) (h:DataW.Trod enc P w base spare held t v d p) :
    ∃ ns:List Int,v=.agg (List.zipWith Value.int ks ns).toArray∧ns.length=ks.length∧∀ q,q∈List.zip ks ns→(Lit.int q.1 q.2).wf=true:=by
  obtain ⟨cs,rfl,hsz⟩:=okWide_struct hs hv;obtain ⟨fuel,hf⟩:=h;obtain ⟨xs,n,_,hx,hl,hlen,hfs⟩:=DataW.trod_struct hs hf;have hkl:ks.length=fs.size:=by
    have:=congrArg List.length hk;simpa using this.symm
  have hcl:cs.size=fs.size:=hsz.trans hC;have hat:∀ j (hj:j<cs.size),∃ (k:IntKind) (m:Int),ks[j]?=some k∧cs[j]=.int k m∧(Lit.int k m).wf=true:=by
    intro j hj;have hjf:fs[j]?=some fs[j]:=by simp
    obtain ⟨ho,hc⟩:=hone_of hone j _ hjf;have h1:=hfs j _ hjf;rw [ho,hc] at h1
    have hcs:((Value.agg cs).cells.toList.drop j).take 1=[cs[j]]:=by
      have:=zm8 (l:=cs.toList) (j:=j) (by simpa using hj)
      simpa [Value.cells] using this
    rw [hcs] at h1
    have hxs:xs[j]?=some (xs[j]'kw):=by simp
    rw [hxs] at h1
    have hu:(fs.toList.map (fun f=>P.underlying f.type))[j]?=some (P.underlying fs[j].type):=by simp [hjf]
    rw [hk] at hu
    obtain ⟨k,hk1,hk2⟩:∃ k,ks[j]?=some k∧some (.int k)=P.underlying fs[j].type:=by
      simpa using hu
    obtain ⟨m,hm,_,hw⟩:=DataW.trod_int hk2.symm h1;exact ⟨k,m,hk1,by simpa using hm,hw⟩
  refine ⟨cs.toList.map intOf,?_,by simp; omega,?_⟩
  · congr 1
    apply Array.ext_getElem?
    intro j
    rcases Nat.lt_or_ge j cs.size with hj | hj
    · obtain ⟨k,m,h1,h2,_⟩:=hat j hj
      simp [List.getElem?_zipWith,h1,hj,h2,intOf]
    · simp [List.getElem?_zipWith,hj]
  · intro q hq
    obtain ⟨j,hj,he⟩:=List.mem_iff_getElem.1 hq;simp only [List.length_zip,List.length_map,Array.length_toList] at hj
    obtain ⟨k,m,h1,h2,h3⟩:=hat j kw;have hk3:ks[j]'kw=k:=by
      have:=List.getElem?_eq_getElem (l:=ks) (i:=j) kw
      rw [h1] at this
      exact (Option.some.inj this).symm
    simp only [List.getElem_zip,List.getElem_map] at he
    rw [←he]
    simp only [hk3,Array.getElem_toList,h2,intOf]
    exact h3
end
theorem zsk {α:Type} {l:List α} (h:l.length=3):∃ x0 x1 x2,l=[x0,x1,x2]:=by
  match l,h with
  | [x0,x1,x2],_=>exact ⟨x0,x1,x2,rfl⟩
theorem ztP {α:Type} {l:List α} (h:l.length=6):∃ x0 x1 x2 x3 x4 x5,l=[x0,x1,x2,x3,x4,x5]:=by
  match l,h with
  | [x0,x1,x2,x3,x4,x5],_=>exact ⟨x0,x1,x2,x3,x4,x5,rfl⟩
theorem laidOut:laidOutB Tryz.prog:=kz
end Go.Proofs.YtikjpdpgdmbdpaaGreat

/- Ours. -/
namespace Go.Proofs.YtikjpdpgdmbdpaaGreat
open Go.ChangeShapes Go.WideShapes Go.ChangeAt Go.RowKit
def ioN:List Nat:=[104,97,114,110,101,115,115,32,97,54,49,50,49,101,50,52,50,101,50,50,98,54,54,55,98,52,97,55,50,99,51,51,50,57,102,100,99,100,57,97,52,99,53,97,54,97,97,52,57,50,55,54,56,54,55,57,51,98,97,50,48,102,49,53,56,54,55,55,50,99,56,99,32,99,117,116,32,97,116,32,99,117,98,105,99,108,101,47,99,117,98,105,99,108,101,108,97,119,49,50,46,65,108,108,111,99,77,97,110,121,32,99,117,98,105,99,108,101,47,99,117,98,105,99,108,101,108,97,119,49,55,46,68,111,109,97,105,110,77,97,110,121,32,99,117,98,105,99,108,101,47,99,117,98,105,99,108,101,108,97,119,49,51,46,67,104,101,99,107,65,108,111,110,101,32,99,117,98,105,99,108,101,47,99,117,98,105,99,108,101,108,97,119,49,52,46,81,117,101,117,101,77,97,110,121,32,99,117,98,105,99,108,101,47,99,117,98,105,99,108,101,108,97,119,49,53,46,76,105,115,116,75,101,121,115,32,99,117,98,105,99,108,101,47,99,117,98,105,99,108,101,108,97,119,49,53,46,76,105,115,116,82,97,99,101,32,99,117,98,105,99,108,101,47,99,117,98,105,99,108,101,108,97,119,49,53,46,76,105,115,116,65,108,111,110,101,32,99,117,98,105,99,108,101,47,99,117,98,105,99,108,101,108,97,119,49,53,46,76,105,115,116,83,116,97,108,108,115,32,99,117,98,105,99,108,101,47,99,117,98,105,99,108,101,108,97,119,49,53,46,76,105,115,116,77,97,110,121,32,99,117,98,105,99,108,101,47,99,117,98,105,99,108,101,108,97,119,49,53,46,76,105,115,116,78,111,100,101,115,32,99,117,98,105,99,108,101,47,99,117,98,105,99,108,101,108,97,119,49,55,46,68,111,109,97,105,110,79,100,100,32,99,117,98,105,99,108,101,47,99,117,98,105,99,108,101,108,97,119,49,54,46,68,105,99,116,67,101,108,108,115]
theorem io1:Tryz.prog.initOrder=String.ofList (ioN.map Char.ofNat):=kz
theorem io2:Tryz.prog.initOrder.toList=ioN.map Char.ofNat:=by rw [io1,String.toList_ofList]
theorem io3:behindMainWord (wordsSigns Tryz.prog.initOrder.toList)=(([99,117,116]:List Nat).map Char.ofNat)::([[97,116],[99,117,98,105,99,108,101,47,99,117,98,105,99,108,101,108,97,119,49,50,46,65,108,108,111,99,77,97,110,121],[99,117,98,105,99,108,101,47,99,117,98,105,99,108,101,108,97,119,49,55,46,68,111,109,97,105,110,77,97,110,121],[99,117,98,105,99,108,101,47,99,117,98,105,99,108,101,108,97,119,49,51,46,67,104,101,99,107,65,108,111,110,101],[99,117,98,105,99,108,101,47,99,117,98,105,99,108,101,108,97,119,49,52,46,81,117,101,117,101,77,97,110,121],[99,117,98,105,99,108,101,47,99,117,98,105,99,108,101,108,97,119,49,53,46,76,105,115,116,75,101,121,115],[99,117,98,105,99,108,101,47,99,117,98,105,99,108,101,108,97,119,49,53,46,76,105,115,116,82,97,99,101],[99,117,98,105,99,108,101,47,99,117,98,105,99,108,101,108,97,119,49,53,46,76,105,115,116,65,108,111,110,101],[99,117,98,105,99,108,101,47,99,117,98,105,99,108,101,108,97,119,49,53,46,76,105,115,116,83,116,97,108,108,115],[99,117,98,105,99,108,101,47,99,117,98,105,99,108,101,108,97,119,49,53,46,76,105,115,116,77,97,110,121],[99,117,98,105,99,108,101,47,99,117,98,105,99,108,101,108,97,119,49,53,46,76,105,115,116,78,111,100,101,115],[99,117,98,105,99,108,101,47,99,117,98,105,99,108,101,108,97,119,49,55,46,68,111,109,97,105,110,79,100,100],[99,117,98,105,99,108,101,47,99,117,98,105,99,108,101,108,97,119,49,54,46,68,105,99,116,67,101,108,108,115]]:List (List Nat)).map (List.map Char.ofNat):=by rw [io2]; kernel_rfl
theorem stripG (r:List (List Char)):stripLifts liftWords (([99,117,116].map Char.ofNat)::r)=([],([99,117,116].map Char.ofNat)::r):=by rfl
theorem makeG {P:Program} {r:List (List Char)} (h:behindMainWord (wordsSigns P.initOrder.toList)=([99,117,116].map Char.ofNat)::r):P.make=some .cut:=by
  unfold Program.make;rw [h]
  rfl
theorem liftsG {P:Program} {r:List (List Char)} (h:behindMainWord (wordsSigns P.initOrder.toList)=([99,117,116].map Char.ofNat)::r):P.liftsFinal=false:=by
  unfold Program.liftsFinal Program.headLifts;rw [h,stripG]
  rfl
theorem enterG {P:Program} {r:List (List Char)} (h:behindMainWord (wordsSigns P.initOrder.toList)=([99,117,116].map Char.ofNat)::r) (h1:P.laysLater=false) (h2:P.bearsReflect=false) (h3:P.doorFits []=true):P.mayEnter=true:=by
  unfold Program.mayEnter;rw [h];simp only [stripG,h1,h2,h3]
  rfl
theorem e1:Tryz.prog.laysLater=false:=kz
theorem e2:Tryz.prog.bearsReflect=false:=kz
theorem e3:Tryz.prog.doorFits []=true:=kz
theorem zoV:Tryz.prog.make=some .cut:=makeG io3
theorem zo8:Tryz.prog.liftsFinal=false:=liftsG io3
theorem znV:Tryz.prog.mayEnter=true:=enterG io3 e1 e2 e3
theorem zoP:mapsRowed Tryz.prog:=kz
theorem znW:Tryz.prog.stopsHeard=true:=kz
end Go.Proofs.YtikjpdpgdmbdpaaGreat

/- Ours. -/
namespace Go.Proofs.YtikjpdpgdmbdpaaGreat
open Go.ChangeShapes Go.WideShapes Go.RowKit Go.Deep Go.ChangeAt
section
variable {H : Type} {enc : TypeId × Value → H} {P : Program} {w : World} {base : Nat} {spare : Nat → Bool} {held : Bool}
def flatF (P:Program) (k:TypeId→Option (List IntKind)):Nat→List Go.Field→Option (List IntKind)
  | _,[]=>some []
  | off,f::fs=>if f.offset=off then (k f.type).bind fun ks=>if ks.length=P.cellsOf f.type then (flatF P k (off+P.cellsOf f.type) fs).map (ks++·) else none else none
def flatK (P:Program):Nat→TypeId→Option (List IntKind)
  | 0,_=>none
  | n+1,t=>match P.underlying t with
    | some (.int k)=>some [k]
    | some (.struct fs)=>(flatF P (flatK P n) 0 fs.toList).bind fun ks=>if ks.length=P.cellsOf t then some ks else none
    | _=>none
def Ints (ks:List IntKind) (cs:List Value):Prop:=∃ ns:List Int,cs=List.zipWith Value.int ks ns∧ns.length=ks.length∧∀ q,q∈List.zip ks ns→(Lit.int q.1 q.2).wf=true
theorem Ints.append {ks ks':List IntKind} {cs cs':List Value} (h:Ints ks cs) (h':Ints ks' cs'):Ints (ks++ks') (cs++cs'):=by
  obtain ⟨ns,rfl,h2,h3⟩:=h;obtain ⟨ns',rfl,h2',h3'⟩:=h';refine ⟨ns++ns',(List.zipWith_append h2.symm).symm,by simp [h2,h2'],fun q hq=>?_⟩
  rw [List.zip_append h2.symm] at hq
  rcases List.mem_append.1 hq with hq | hq
  · exact h3 q hq
  · exact h3' q hq
theorem zkD {k:TypeId→Option (List IntKind)} {m:Nat} {cs:List Value} (hk:∀ t ks cs x,k t=some ks→DataW.trod enc P w base spare held m t cs=some x→Ints ks cs):∀ (fs:List Go.Field) (off:Nat) (ks:List IntKind),flatF P k off fs=some ks→
    (∀ f,f∈fs→∃ y,DataW.trod enc P w base spare held m f.type ((cs.drop f.offset).take (P.cellsOf f.type))=some y)→Ints ks ((cs.drop off).take ks.length)
  | [],off,ks,h,_=>by
    obtain rfl:=Option.some.inj h;exact ⟨[],by simp,rfl,fun q hq=>by simp at hq⟩
  | f::fs,off,ks,h,hf=>by
    unfold flatF at h
    split at h
    · rename_i ho
      obtain ⟨k1,h1,h⟩:=Option.bind_eq_some_iff.1 h
      split at h
      · rename_i hl
        obtain ⟨k2,h2,rfl⟩:=Option.map_eq_some_iff.1 h;obtain ⟨y,hy⟩:=hf f (List.mem_cons_self ..);have i1:=hk _ _ _ _ h1 hy;have i2:=zkD hk fs _ k2 h2 fun g hg=>hf g (List.mem_cons_of_mem _ hg)
        rw [ho,←hl] at i1
        rw [List.length_append,List.take_add,List.drop_drop,hl]
        rw [hl] at i1
        exact i1.append i2
      · cases h
    · cases h
theorem zm2:∀ (n:Nat) (t:TypeId) (ks:List IntKind) (m:Nat) (cs:List Value) (x:DataW H × List MemPlace),flatK P n t=some ks→DataW.trod enc P w base spare held m t cs=some x→Ints ks cs
  | 0,_,_,_,_,_,h,_=>by cases h
  | n+1,t,ks,m,cs,x,h,hd=>by
    unfold flatK at h
    split at h
    · rename_i k hu
      obtain rfl:=Option.some.inj h;obtain ⟨z,h1,_,h2⟩:=DataW.trod_int hu hd;subst h1;exact ⟨[z],rfl,rfl,fun q hq=>by
        rcases List.mem_singleton.1 hq with rfl
        exact h2⟩
    · rename_i fs hu
      obtain ⟨ks',h1,h2⟩:=Option.bind_eq_some_iff.1 h
      split at h2
      · rename_i hl
        obtain rfl:=Option.some.inj h2;obtain ⟨xs,m',_,hx,hcl,hlen,hfs⟩:=DataW.trod_struct hu hd;have:=zkD (m:=m') (cs:=cs) (fun t ks cs x=>zm2 n t ks m' cs x) fs.toList 0 ks' h1 fun f hf=>by
          obtain ⟨j,hj,he⟩:=List.mem_iff_getElem.1 hf;have hj':fs[j]?=some f:=by rw [←he]; simp
          have h3:=hfs j f hj';have hjs:j<fs.size:=by simpa using hj
          exact ⟨_,h3.trans (List.getElem?_eq_getElem (show j<xs.length by omega))⟩
        rw [List.drop_zero,List.take_of_length_le kw] at this
        exact this
      · cases h2
    · cases h
theorem znw {α:Type} {T:TypeId} {r:Reach} {b0:Nat} {t e:TypeId} {v:Value} {d:DataW H} {p:List MemPlace} {sz:Nat} (f:α→List Value) (Pr:α→Prop) (z:α) (ht:P.underlying t=some (.slice e))
    (hel:∀ m cs x,DataW.trod enc P w base spare held m e cs=some x→∃ y,cs=f y∧Pr y) (hc:P.cellsOf e=sz) (hpos:0<sz) (hfl:∀ x,(f x).length=sz)
    (hv:Value.okWide P w r b0 t v) (h:DataW.Trod enc P w base spare held t v d p):∃ xs:List α,RoAt T sz f v xs w∧∀ x,x∈xs→Pr x:=by
  obtain ⟨a,len,cap,rfl⟩:=okWide_slice ht hv;obtain ⟨fuel,hd⟩:=h
  rcases open_slice ht hd with ⟨h1,_⟩ | ⟨ad,n',c,m,q,D,Pl,h1,_,hnc,_,hm,_,hcell⟩
  · simp only [Value.cells,List.cons.injEq,and_true] at h1
    injection h1 with h1 h2 h3
    subst h1; subst h2; subst h3;exact ⟨[],.inl ⟨_,_,rfl,rfl⟩,fun _ h=>by cases h⟩
  · simp only [Value.cells,List.cons.injEq,and_true] at h1
    injection h1 with h1 h2 h3
    subst h1; subst h2; subst h3;have hlen:len≤m:=by rw [hm]; split <;> omega
    have hI:∀ i,i<len→∃ y:α,w.cells? base (ad.add (i * sz)) sz=some (f y)∧Pr y:=fun i hi=>by
      obtain ⟨cs',h1,h2⟩:=hcell i kw;obtain ⟨y,h3,h4⟩:=hel q cs' _ h2;rw [hc,h3] at h1
      exact ⟨y,h1,h4⟩
    obtain ⟨g,hg⟩:=Classical.axiomOfChoice (r:=fun (i:Nat) (y:α)=>i<len→w.cells? base (ad.add (i * sz)) sz=some (f y)∧Pr y)
      (fun i=>by
        by_cases hi:i<len
        · obtain ⟨y,h⟩:=hI i hi; exact ⟨y,fun _=>h⟩
        · exact ⟨z,fun h=>absurd h hi⟩)
    refine ⟨(List.range len).map fun i=>g i,?_,fun x hx=>?_⟩
    · cases len with
      | zero=>exact .inl ⟨_,_,rfl,rfl⟩
      | succ m0=>
        have hz:∀ i,i<m0+1→∀ j u,(f ((g i)))[j]?=some u→w.cell? ((ad.add (i * sz)).add j)=some u:=fun i hi j u hu=>by
          obtain ⟨h1,_⟩:=hg i hi;obtain ⟨_,h4,h5⟩:=World.cells?_some h1;have hj:j<(f (g i)).length:=(List.getElem?_eq_some_iff.1 hu).1;rw [h5 j kw,hu]
        have h0:=hz 0 kw 0 ((f ((g 0)))[0]'(by rw [hfl]; exact hpos)) (by simp)
        have hadd:(ad.add (0 * sz)).add 0=ad:=by rw [Nat.zero_mul]; rfl
        rw [hadd] at h0
        have hsp:ad.spot=none:=by
          unfold World.cell? at h0
          split at h0
          · split at h0
            · cases h0
            · rename_i h; simpa using h
          · cases h0
        obtain ⟨gB,o,sp⟩:=ad;simp only at hsp
        subst hsp;have hx:∃ cur E fz,w.heap[gB]?=some (.cells cur E fz):=by
          unfold World.cell? at h0
          split at h0
          · rename_i c' E fz hh; exact ⟨c',E,fz,hh⟩
          · cases h0
        obtain ⟨cur,E,fz,hh⟩:=hx;refine .inr ⟨gB,o,cap,cur,E,fz,by simp,?_,hh,?_,by simpa using hnc⟩
        · intro he
          have:=congrArg List.length he;simp at this
        · have hll:((List.range (m0+1)).map fun i=>g i).length=m0+1:=by simp
          apply List.ext_getElem?
          intro q;rw [hll]
          by_cases hq:q<(m0+1) * sz
          · have hi:q / sz<m0+1:=(Nat.div_lt_iff_lt_mul hpos).2 hq
            have hj:q % sz<sz:=Nat.mod_lt _ hpos;have hqq:q / sz * sz+q % sz=q:=by rw [Nat.mul_comm]; exact Nat.div_add_mod q sz
            have h1:=hz (q / sz) hi (q % sz) ((f ((g (q / sz))))[q % sz]'(by rw [hfl]; exact hj)) (by simp)
            rw [Addr.add_lit,Addr.add_lit] at h1
            simp only [World.cell?,hh] at h1
            have h2:=zja hfl ((List.range (m0+1)).map fun i=>g i) (q / sz) (by rw [hll]; exact hi) (q % sz) ((f ((g (q / sz))))[q % sz]'(by rw [hfl]; exact hj)) (by simp)
            rw [hqq] at h2
            rw [h2,List.getElem?_take,if_pos hq,List.getElem?_drop]
            rw [Nat.add_assoc,hqq] at h1
            simpa using h1
          · rw [List.getElem?_take,if_neg hq,List.getElem?_eq_none]
            rw [zdy hfl,hll]
            omega
    · obtain ⟨i,hi,rfl⟩:=List.mem_map.1 hx
      exact (hg i (List.mem_range.1 hi)).2
theorem znh {α:Type} {T:TypeId} {r:Reach} {b0:Nat} {t e:TypeId} {v:Value} {d:DataW H} {p:List MemPlace} (n:Nat) (ks:List IntKind) (f:α→List Value) (dec:List Int→α) (ht:P.underlying t=some (.slice e)) (hk:flatK P n e=some ks)
    (hc:P.cellsOf e=ks.length) (hdec:∀ ns:List Int,ns.length=ks.length→f (dec ns)=List.zipWith Value.int ks ns) (hpos:0<ks.length) (hfl:∀ x,(f x).length=ks.length)
    (hv:Value.okWide P w r b0 t v) (h:DataW.Trod enc P w base spare held t v d p) :
    ∃ xs:List α,RoAt T ks.length f v xs w∧∀ x,x∈xs→∃ ns:List Int,x=dec ns∧ns.length=ks.length∧∀ q,q∈List.zip ks ns→(Lit.int q.1 q.2).wf=true:=
  znw f (fun x=>∃ ns:List Int,x=dec ns∧ns.length=ks.length∧∀ q,q∈List.zip ks ns→(Lit.int q.1 q.2).wf=true) (dec []) ht (fun m cs x hx=>by
    obtain ⟨ns,h1,h2,h3⟩:=zm2 n e ks m cs x hk hx;exact ⟨dec ns,by rw [hdec ns h2]; exact h1,ns,rfl,h2,h3⟩) hc hpos hfl hv h
end
end Go.Proofs.YtikjpdpgdmbdpaaGreat

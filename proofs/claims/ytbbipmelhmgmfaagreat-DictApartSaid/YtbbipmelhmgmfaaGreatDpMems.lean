/- Ours. -/
import Derived.Test.YtbbipmelhmgmfaaGreatDpMem
import Derived.Test.YtbbipmelhmgmfaaGreatDpM4
import Derived.Test.YtbbipmelhmgmfaaGreatDpM6
set_option linter.all false
set_option maxRecDepth 100000
set_option maxHeartbeats 20000000
namespace Go.Proofs.YtbbipmelhmgmfaaGreat
open Go.RowKit
theorem zqH:zpf ar 126:=kz
theorem cl66:zpf ar 66:=kz
theorem cl67:zpf ar 67:=kz
theorem zlR:zpq ar 142 0 0:=kz
theorem znw:zpq ar 142 1 1:=kz
theorem ziJ:zpq ar 145 0 0:=kz
theorem zn3:zpq ar 145 1 1:=kz
theorem zko:zpq ar 38 0 0:=kz
theorem zj2:zpq ar 38 1 1:=kz
theorem zn6:zpq ar 38 2 2:=kz
theorem zp3:zpq ar 38 3 3:=kz
theorem zli:zpq ar 52 0 0:=kz
theorem zpa:zpq ar 52 1 1:=kz
theorem ztv:isSlice ar 143:=kz
theorem is31:isSlice ar 31:=kz
theorem is66:isSlice ar 66:=kz
theorem rt66:rowTy ar 66 34 1:=kz
theorem zpd:rowTy ar 143 139 1:=kz
theorem zrs:sliceTy ar 143 1:=kz
theorem sl31:sliceTy ar 31 1:=kz
theorem sl66:sliceTy ar 66 1:=kz
theorem ta52:tyA ar 52 2:=kz
theorem zrz:tyO ar 139:=kz
theorem zqz:tyO ar 143:=kz
theorem to34:tyO ar 34:=kz
theorem to66:tyO ar 66:=kz
theorem zoO:sized ar 143 1:=kz
theorem ts34:sized ar 34 1:=kz
theorem ts52:sized ar 52 2:=kz
theorem tz34:zeroOf ar 34=some (.int .u64 0):=kz
theorem tz52:zeroOf ar 52=some (aq (capC (⟨0,0⟩:Cap))):=kz
def D.zjV (fu:Nat) (a0:List Int):Option (Mem × Int):=(bif (decide ((a0.length:Int) > 65)) then none else (loopThen (fun (x2:Int × Int × Int)=>(bif (decide (x2.2.2<(a0.length:Int))) then ((getI a0 x2.2.2).bind (fun (x7:Int)=>(Option.bind (bif (decide (x7<0)) then (some true) else (some (decide (x7 > x2.2.1)))) (fun (x10:Bool)=>(bif x10 then none else (some (Lp.next (x2.1,(IntKind.i64.wrap (x2.2.1 - x7)),(IntKind.i64.wrap (x2.2.2+1)))))))))) else (some (Lp.brk (x2.1,x2.2.1,x2.2.2))))) fu (0,16777216,0) (fun (x14:Int × Int × Int)=>((oneI a0).bind (fun (x21:Int)=>(some ((⟨zerosI x21,0⟩:Mem),0)))))))
theorem znh {fu:Nat} (w0:World) {a0v:Value} (a0:List Int) (a0h:RoAt 3 1 i64 a0v a0 w0) {res:Mem × Int} (hD:D.zjV fu a0=some res) :
    Calls ar 59 #[a0v] w0 (fun e w'=>∃ (g0:MG),e=.returned (.tuple #[(zp g0.mb),(.int .i64 res.2)])∧Done No No [memK g0 res.1] w0 w'):=by
 refine enter Tryz.func59 rfl 53 rfl rfl fun fr r=>?_;have hP:Post No [] w0 w0:=Post.nil w0
 have hP:Post No [roK 3 1 i64 a0v a0] w0 w0:=hP.addRo zcM a0h rfl a0h.lt;unfold D.zjV at hD
 refine wsr (kA (.pointer none) r rfl rfl fun r=>kA (I 0) r rfl rfl fun r=>wn (aa (wsr (kM a0v r rfl rfl fun r=>za0 (I (a0.length:Int)) r (fun R=>zbN r (hP.ro (i:=0) rfl) is31 rfl) rfl fun fr r=>kB r rfl rfl rfl rfl rfl fun r=>wn ?_))));refine ae (t:=(decide ((a0.length:Int) > 65))) (r.ev rfl) (fun h1=>?_) (fun h1=>?_)
 ·
  have hD:=(zao h1).symm.trans hD;refine wsr (kA (.pointer none) r rfl rfl fun r=>kA (I 1) r rfl rfl fun r=>wn (ac ?_));exact nomatch hD
 have hD:=(zaq h1).symm.trans hD;refine ag (wsr (kA (I 16777216) r rfl rfl fun r=>wn (aa (wsr (kM a0v r rfl rfl fun r=>za0 (I (a0.length:Int)) r (fun R=>zbN r (hP.ro (i:=0) rfl) is31 rfl) rfl fun fr r=>kM (I 0) r rfl rfl fun r=>wn ?_)))));refine zdZ (X:=Int × Int × Int) (G:=Unit) (x0:=(0,16777216,0)) (fun x γ=>[(0,a0v),(12,(.bool (decide ((a0.length:Int) > 65)))),(13,a0v),(14,(I (a0.length:Int))),(3,(I x.1)),(4,(I x.2.1)),(15,(I x.2.2))]) (fun x γ w=>Post No [roK 3 1 i64 a0v a0] w0 w) () r (kO (zaa rfl (zaa rfl (zaa rfl zaC)))) hP hD ?_ ?_
 ·
  rintro x2 γ3 fr w5 g y4 RPy4 nxy4 bky4 rty4 r hP hD;have hP:Post No [_] w0 w5:=hP;refine wsr (kB r rfl rfl rfl rfl rfl fun r=>wn (aa ?_));refine ae (t:=(decide (x2.2.2<(a0.length:Int)))) (r.ev rfl) (fun h6=>?_) (fun h6=>?_)
  ·
   have hD:=(zao h6).symm.trans hD;refine ag (aa (wp_block (wsr ?_)));obtain ⟨x7,hx7,hD⟩:=zaj hD;refine za0 (.pointer (some ⟨rowB a0v,rowO a0v+x2.2.2.toNat * 1,none⟩)) r (fun R=>zbU r (hP.ro (i:=0) rfl) hx7 sl31 rfl rfl) rfl fun fr r=>za0 (I x7) r (fun R=>zcR r (u:=(I x7)) (RoAt.at_ (f:=i64) (x:=x7) (hP.ro (i:=0) rfl) (fun _=>rfl) hx7) rfl to3) rfl fun fr r=>kA (I x7) r rfl rfl fun r=>wn (aa (aa ?_));refine zbs (N:=53) (Y:=Bool) (G:=Unit) (fun x γ=>[(0,a0v),(12,(.bool (decide ((a0.length:Int) > 65)))),(13,a0v),(14,(I (a0.length:Int))),(3,(I x2.1)),(4,(I x2.2.1)),(15,(I x2.2.2)),(16,(.bool (decide (x2.2.2<(a0.length:Int))))),(6,(I x7)),(25,(.bool x))]) (fun x γ w=>Post No [roK 3 1 i64 a0v a0] w0 w) hD ?_ ?_
   ·
    rintro y8 RPy8 nxy8 hD;refine af (kM (I x7) r rfl rfl fun r=>kB r rfl rfl rfl rfl rfl fun r=>kM (.bool (decide (x7<0))) r rfl rfl fun r=>?_);refine zaT (decide (x7<0)) (fun h9=>?_) (fun h9=>?_)
    ·
     have hD:=(zao h9).symm.trans hD;refine s0 r h9 fun fr r=>s0 r h9 fun fr r=>s0 r h9 fun fr r=>za0 (.bool true) r (fun R=>zay r (b:=true) (kb h9) rfl) rfl fun fr r=>wn ?_;exact nxy8 true () _ _ _ hD r (kO (kO (zaa rfl (zaa rfl zaC)))) (hP.pick [0] rfl rfl)
    have hD:=(zaq h9).symm.trans hD;refine s1 r h9 (kM (I x7) r rfl rfl fun r=>s1 r h9 (kM (I x2.2.1) r rfl rfl fun r=>s1 r h9 (kB r rfl rfl rfl rfl rfl fun r=>za0 (.bool (decide (x7 > x2.2.1))) r (fun R=>zay r (b:=false) (kb h9) rfl) rfl fun fr r=>wn ?_)));exact nxy8 (decide (x7 > x2.2.1)) () _ _ _ hD r (kO (kO (zaa rfl (zaa rfl zaC)))) (hP.pick [0] rfl rfl)
   rintro x10 γ11 fr w12 g r hP hD;have hP:Post No [_] w0 w12:=hP;refine ae (t:=x10) (r.ev rfl) (fun h13=>?_) (fun h13=>?_)
   ·
    have hD:=(zao h13).symm.trans hD;refine wsr (kA (.pointer none) r rfl rfl fun r=>kA (I 1) r rfl rfl fun r=>wn (ac ?_));exact nomatch hD
   have hD:=(zaq h13).symm.trans hD;refine ag ?_;refine af (kM (I x2.2.1) r rfl rfl fun r=>kM (I x7) r rfl rfl fun r=>kB r rfl rfl rfl rfl rfl fun r=>kA (I (W (x2.2.1 - x7))) r rfl rfl fun r=>wn ?_);refine af (kB r rfl rfl rfl rfl rfl fun r=>kM (I (W (x2.2.2+1))) r rfl rfl fun r=>wn ?_)
   exact nxy4 (x2.1,(W (x2.2.1 - x7)),(W (x2.2.2+1))) () _ _ _ hD r (kO (zaa rfl (zaa rfl (zaa rfl zaC)))) (hP.pick [0] rfl rfl)
  have hD:=(zaq h6).symm.trans hD;refine wp_exit ?_;exact bky4 (x2.1,x2.2.1,x2.2.2) () _ _ _ hD r (kO (zaa rfl (zaa rfl (zaa rfl zaC)))) (hP.pick [0] rfl rfl)
 rintro x14 γ15 fr w16 g r hP hD;have hP:Post No [_] w0 w16:=hP;refine wsr (kU (.agg #[.slice none 0 0,.int .i64 0]) r kz rfl fun r=>?_);refine kX 145 (.agg #[.slice none 0 0,.int .i64 0]) r rfl rfl fun b17 w18 n19 r=>?_
 have hP:Post No [_,zpi b17 #[.slice none 0 0,.int .i64 0] 145] w0 w18:=hP.new n19;refine kA (zp b17) r rfl rfl fun r=>wn (aa (wsr (kM a0v r rfl rfl fun r=>za0 (I (a0.length:Int)) r (fun R=>zbN r (hP.ro (i:=0) rfl) is31 rfl) rfl fun fr r=>kM (I 0) r rfl rfl fun r=>wn ?_)));obtain ⟨x21,hx21,hD⟩:=zaj hD
 have hDn:=hD;obtain ⟨rfl,h0n,h1n⟩:=zoJ hx21;refine zdZ (X:=Nat) (G:=MG) (k:=2) (x0:=0) (id:=2) (body:=fun x=>if x=0 then some (.next 1) else some (.brk x)) (f:=fun x=>if x=1 then ((some ((⟨zerosI x21,0⟩:Mem),0))) else none) (fun x γ=>[(7,(zp b17)),(32,a0v),(33,(I (([x21]).length:Int))),(34,(I (x:Int)))]) (fun x γ w=>(x=0∧Post No [roK 3 1 i64 a0v ([x21]),zpi b17 #[.slice none 0 0,.int .i64 0] 145] w0 w)∨(x=1∧γ.mb=b17∧Post No [roK 3 1 i64 a0v ([x21]),memK γ (⟨zerosI x21,0⟩:Mem)] w0 w)) ⟨0,0,0,0,0⟩ r (kO zaC) (.inl ⟨rfl,hP⟩) hDn ?_ ?_
 ·
  rintro x γ fr w22 g y23 RPy23 nxy23 bky23 rty23 r hI hD
  rcases hI with ⟨rfl,hP⟩ | ⟨rfl,hγ,hP⟩
  ·
   refine wsr (kB r rfl rfl rfl rfl rfl fun r=>wn (aa ?_));refine ae (t:=(decide (((0:Nat):Int)<(([x21]).length:Int)))) (r.ev rfl) (fun _=>?_) (fun h=>absurd ((show (decide (((0:Nat):Int)<(([x21]).length:Int)))=true from by simp).symm.trans h) ke)
   refine ag (aa (wp_block (wsr ?_)));obtain ⟨x24,hx24⟩:∃ z,getI ([x21]) ((0:Nat):Int)=some z:=⟨_,rfl⟩;obtain rfl:x21=x24:=Option.some.inj hx24;refine za0 (.pointer (some ⟨rowB a0v,rowO a0v+((0:Nat):Int).toNat * 1,none⟩)) r (fun R=>zbU r (hP.ro (i:=0) rfl) (show getI ([x21]) ((0:Nat):Int)=some x21 from rfl) sl31 rfl rfl) rfl fun fr r=>za0 (I x21) r (fun R=>zcR r (u:=(I x21)) (RoAt.at_ (f:=i64) (x:=x21) (hP.ro (i:=0) rfl) (fun _=>rfl) (show getI ([x21]) ((0:Nat):Int)=some x21 from rfl)) rfl to3) rfl fun fr r=>kA (I x21) r rfl rfl fun r=>wn ?_;refine zjr [b17] [.val (zp b17),.val (zp b17),.val (zp b17),.val (zp b17),.val (.slice none 0 0),.val (I x21),.whole (W6 w22.heap.size x21) (W6.st _ _),.whole (W7 w22.heap.size x21) (W7.st _ _),.whole (W8 w22.heap.size x21) (W8.st _ _),.whole (W9 w22.heap.size x21) (W9.st _ _),.whole (W10 w22.heap.size x21) (W10.st _ _),.val (zp b17),.val (zp b17),.effW (W13 w22.heap.size b17 x21) (W13.st _ _ _)] mixed r (fun b hb=>hP.sep.lt (i:=1) rfl (.inl hb)) kz ?_ ?_
   ·
    refine zaK r rfl (fun fr1 g w' hk' hd r'=>?_) ?_
    · exact zar r' (v:=(zp b17)) rfl bz
    refine zaK r rfl (fun fr1 g w' hk' hd r'=>?_) ?_
    · exact zar r' (v:=(zp b17)) rfl bz
    refine zaK r rfl (fun fr1 g w' hk' hd r'=>?_) ?_
    · exact zbm r' (hd 1 rfl).1 bz
    refine zaK r rfl (fun fr1 g w' hk' hd r'=>?_) ?_
    · exact za3 r' (b:=b17) (o:=0) (k:=0) (hd 2 rfl).1 ziJ bz
    refine zbe r rfl kz (fun fr1 g w' hb' hd r'=>?_) ?_
    · exact za4 r' (v:=.slice none 0 0) (hd 3 rfl).1 ((hP.below (dr hb')).cell (i:=1) rfl) zqz rfl bz
    refine zaK r rfl (fun fr1 g w' hk' hd r'=>?_) ?_
    · exact zar r' (v:=.int .i64 x21) rfl bz
    refine zaK r rfl (fun fr1 g w' hk' hd r'=>?_) ?_
    · exact zm2 r' rt66 tz34 kz (hd 5 rfl).1 (hd 5 rfl).1 h0n h1n (fun wb w2 n2=>⟨n2.below,wb,rfl,n2.at_,by rw [n2.eq]; exact hk'.size⟩)
    refine zaK r rfl (fun fr1 g w' hk' hd r'=>?_) ?_
    · obtain ⟨wb,hv,h1,h2⟩:=(hd 6 rfl).1; exact zgz r' (v:=.agg #[.slice (some ⟨wb,0,none⟩) x21.toNat x21.toNat,.int .u64 1]) (bs2 (congrArg (fun z=>(0,z)) hv) rfl kz) ⟨Below.refl _ _,wb,rfl,h1,h2⟩
    refine zaK r rfl (fun fr1 g w' hk' hd r'=>?_) ?_
    · obtain ⟨wb,hv,h1,h2⟩:=(hd 7 rfl).1; exact zrX r' (v:=.agg #[.slice (some ⟨wb,0,none⟩) x21.toNat x21.toNat,.int .u64 1]) hv (fun rb w2 n2=>⟨n2.below,wb,rb,rfl,keep n2.below h1,n2.at_,h2,by rw [n2.eq]; exact ah h1⟩)
    refine zaK r rfl (fun fr1 g w' hk' hd r'=>?_) ?_
    · obtain ⟨wb,rb,hv,h1,h2,h3,h4⟩:=(hd 8 rfl).1; exact zcO r' (c:=#[zp rb]) (E:=139) (bs1 (congrArg (fun z=>(0,z)) hv) kz) (fun lb w2 n2=>⟨n2.below,wb,rb,lb,rfl,keep n2.below h1,keep n2.below h2,n2.at_,h3,h4,by rw [n2.eq]; exact ah h2⟩)
    refine zaK r rfl (fun fr1 g w' hk' hd r'=>?_) ?_
    · obtain ⟨wb,rb,lb,hv,h1,h2,h3,h4,h5,h6⟩:=(hd 9 rfl).1; exact zm6 r' zpd (hd 4 rfl).1 hv h3 (fun b2 cap cur w2 n2 hc=>⟨n2.below,wb,rb,b2,cap,rfl,keep n2.below h1,keep n2.below h2,⟨cur,n2.at_,hc⟩,h4,h5,by rw [n2.eq]; exact ah h2⟩)
    refine zaK r rfl (fun fr1 g w' hk' hd r'=>?_) ?_
    · exact zbm r' (hd 0 rfl).1 bz
    refine zaK r rfl (fun fr1 g w' hk' hd r'=>?_) ?_
    · exact za3 r' (b:=b17) (o:=0) (k:=0) (hd 11 rfl).1 ziJ bz
    refine zbe r rfl kz (fun fr1 g w' hb' hd r'=>?_) ?_
    ·
     obtain ⟨wb,rb,lb,cap,hv,h1,h2,h3,h4,h5,h6⟩:=(hd 10 rfl).1;have hlt:b17<w22.heap.size:=hP.sep.lt (i:=1) rfl (.inl (List.mem_singleton.2 rfl));refine zax r' (o:=0) (v:=.slice (some ⟨lb,0,none⟩) 1 cap) (c':=#[.slice (some ⟨lb,0,none⟩) 1 cap,.int .i64 0]) (hd 12 rfl).1 hv ((hP.below (dr hb')).cell (i:=1) rfl) zoO ak rfl rfl (fun w2 u2=>⟨u2.kept,rfl,wb,rb,lb,cap,?_,h4,kw,kw⟩)
     obtain ⟨cur,h3a,h3b⟩:=h3;refine ⟨u2.at_,⟨cur,u2.keep h3a (by show lb≠b17; omega),h3b⟩,?_,u2.keep h1 (by show wb≠b17; omega),⟨by show b17≠lb; omega,by show b17≠rb; omega,by show b17≠wb; omega,by show lb≠rb; omega,by show lb≠wb; omega,by show rb≠wb; omega⟩⟩
     have h:=u2.keep h2 (show rb≠b17 by omega)
     simpa [zerosI] using h
    exact zb4
   intro fr gg w25 hb hΦ hap r;obtain ⟨gM,hgM,hP⟩:=hP.made (i:=1) (lo:=0) (hi:=0) rfl hb (hΦ 13 rfl).1;have hP:Post No [_,_] w0 w25:=hP;refine af (kB r rfl rfl rfl rfl rfl fun r=>kM (I (W (((0:Nat):Int)+1))) r rfl rfl fun r=>wn ?_);exact nxy23 1 gM _ _ _ hD r (kO zaC) (.inr ⟨rfl,hgM,hP⟩)
  refine wsr (kB r rfl rfl rfl rfl rfl fun r=>wn (aa ?_));refine ae (t:=(decide (((1:Nat):Int)<(([x21]).length:Int)))) (r.ev rfl) (fun h=>absurd ((show (decide (((1:Nat):Int)<(([x21]).length:Int)))=false from by simp).symm.trans h) ke) (fun _=>?_)
  refine wp_exit ?_;exact bky23 1 γ _ _ _ hD r (kO zaC) (.inr ⟨rfl,hγ,hP⟩)
 rintro x γ fr w26 g r hI hD
 rcases hI with ⟨rfl,_⟩ | ⟨rfl,hγ,hP⟩
 · cases hD
 have hPn:=hP;subst hγ;have hP:Post No [roK 3 1 i64 a0v ([x21]),memK γ (⟨zerosI x21,0⟩:Mem)] w0 w26:=hPn;refine wsr (kM (.pointer (some ⟨γ.mb,0,none⟩)) r rfl rfl fun r=>kA (.pointer (some ⟨γ.mb,0,none⟩)) r rfl rfl fun r=>kA (I 0) r rfl rfl fun r=>wn (ac ?_));have hv:((⟨zerosI x21,0⟩:Mem),0)=res:=Option.some.inj hD
 try dsimp only [Exit.then,Exit.inBlock]
 refine zeR (fn:=Tryz.f59) r (t:=2) (t':=3) rfl (v:=(.pointer (some ⟨γ.mb,0,none⟩))) (v':=(I 0)) rfl rfl ?_;subst hv;exact ⟨γ,rfl,(hP.pick [1] rfl rfl).done (zbo rfl zc1)⟩
def D.zck (fu:Nat) (a0:Mem) (a1:Int):Option (Unit):=(Option.bind (bif (decide (a1<0)) then (some true) else (some (decide (a1≥((1:Nat):Int))))) (fun (x3:Bool)=>(bif x3 then none else ((zeroI a1).bind (fun (x7:Unit)=>(some ()))))))
theorem zdy {fu:Nat} (w0:World) {a0g:MG} (a0:Mem) (a0h:MemAt a0g a0 w0) (a1:Int) {res:Unit} (hD:D.zck fu a0 a1=some res) :
    Calls ar 66 #[zp a0g.mb,.int .i64 a1] w0 (zpx (zp a0g.rb) w0):=by
 refine enter Tryz.func66 rfl 23 rfl rfl fun fr r=>?_;have hP:Post No [] w0 w0:=Post.nil w0
 have hP:Post No [memR a0g a0] w0 w0:=hP.addRo zcM a0h rfl a0h.lt;unfold D.zck at hD
 refine wsr (kA (.pointer none) r rfl rfl fun r=>wn (aa (aa ?_)));refine zbs (N:=23) (Y:=Bool) (G:=Unit) (fun x γ=>[(0,(zp a0g.mb)),(1,(I a1)),(4,(.pointer none)),(15,(.bool x))]) (fun x γ w=>Post No [memR a0g a0] w0 w) hD ?_ ?_
 ·
  rintro y1 RPy1 nxy1 hD;refine af (kM (I a1) r rfl rfl fun r=>kB r rfl rfl rfl rfl rfl fun r=>kM (.bool (decide (a1<0))) r rfl rfl fun r=>?_);refine zaT (decide (a1<0)) (fun h2=>?_) (fun h2=>?_)
  ·
   have hD:=(zao h2).symm.trans hD;refine s0 r h2 fun fr r=>s0 r h2 fun fr r=>s0 r h2 fun fr r=>s0 r h2 fun fr r=>s0 r h2 fun fr r=>s0 r h2 fun fr r=>s0 r h2 fun fr r=>za0 (.bool true) r (fun R=>zay r (b:=true) (kb h2) rfl) rfl fun fr r=>wn ?_;exact nxy1 true () _ _ _ hD r (kO zaC) (hP.pick [0] rfl rfl)
  have hD:=(zaq h2).symm.trans hD;refine s1 r h2 (kM (I a1) r rfl rfl fun r=>s1 r h2 (kM (zp a0g.mb) r rfl rfl fun r=>s1 r h2 (za0 (zp a0g.mb) r (fun R=>zbm r rfl) rfl fun fr r=>s1 r h2 (za0 _ r (fun R=>za3 r (b:=a0g.mb) (o:=0) (k:=0) rfl ziJ) rfl fun fr r=>s1 r h2 (kL (.slice (some ⟨a0g.lb,0,none⟩) 1 a0g.cap) r rfl (hP.memr (i:=0) rfl).hdr zqz rfl rfl fun r=>s1 r h2 (za0 (I ((1:Nat):Int)) r (fun R=>zqC r ztv rfl) rfl fun fr r=>s1 r h2 (kB r rfl rfl rfl rfl rfl fun r=>za0 (.bool (decide (a1≥((1:Nat):Int)))) r (fun R=>zay r (b:=false) (kb h2) rfl) rfl fun fr r=>wn ?_)))))));exact nxy1 (decide (a1≥((1:Nat):Int))) () _ _ _ hD r (kO zaC) (hP.pick [0] rfl rfl)
 rintro x3 γ4 fr w5 g r hP hD;have hP:Post No [_] w0 w5:=hP;refine ae (t:=x3) (r.ev rfl) (fun h6=>?_) (fun h6=>?_)
 ·
  have hD:=(zao h6).symm.trans hD;refine wsr (kA (.pointer none) r rfl rfl fun r=>wn (ac ?_));exact nomatch hD
 have hD:=(zaq h6).symm.trans hD;refine ag (wsr (kM (zp a0g.mb) r rfl rfl fun r=>za0 (zp a0g.mb) r (fun R=>zbm r rfl) rfl fun fr r=>za0 _ r (fun R=>za3 r (b:=a0g.mb) (o:=0) (k:=0) rfl ziJ) rfl fun fr r=>kL (.slice (some ⟨a0g.lb,0,none⟩) 1 a0g.cap) r rfl (hP.memr (i:=0) rfl).hdr zqz rfl rfl fun r=>kM (I a1) r rfl rfl fun r=>?_));obtain ⟨x7,hx7,hD⟩:=zaj hD
 refine za0 (.pointer (some ⟨a0g.lb,0+a1.toNat * 1,none⟩)) r (fun R=>zec r zrs rfl rfl (by have h0:=(zeQ hx7); omega) (by have h0:=(zeQ hx7); omega)) rfl fun fr r=>za0 (zp a0g.rb) r (fun R=>zjW r (hP.memr (i:=0) rfl) rfl (zeQ hx7) zrz) rfl fun fr r=>kA (zp a0g.rb) r rfl rfl fun r=>wn (ac ?_);have hv:()=res:=Option.some.inj hD
 try dsimp only [Exit.then,Exit.inBlock]
 refine zaH (fn:=Tryz.f66) r (t:=4) rfl (v:=(zp a0g.rb)) rfl ?_;subst hv;exact ⟨rfl,hP.chg.below⟩
def D.zcA (fu:Nat) (a0:Mem) (a1:Int):Option (Cap):=((D.zck fu a0 a1).bind (fun (x5:Unit)=>(some (⟨a1,1⟩:Cap))))
theorem zeE {fu:Nat} (w0:World) {a0g:MG} (a0:Mem) (a0h:MemAt a0g a0 w0) (a1:Int) {res:Cap} (hD:D.zcA fu a0 a1=some res) :
    Calls ar 20 #[zp a0g.mb,.int .i64 a1] w0 (zpx (aq (capC res)) w0):=by
 refine enter Tryz.func20 rfl 18 rfl rfl fun fr r=>?_;have hP:Post No [] w0 w0:=Post.nil w0
 have hP:Post No [memR a0g a0] w0 w0:=hP.addRo zcM a0h rfl a0h.lt;unfold D.zcA at hD
 refine wsr ?_;refine za7 (.cells ((capC (⟨0,0⟩:Cap))).toArray 52 (0,0)) r (fun R=>za6 tz52) rfl fun fr b1 w2 n3 r=>?_;have hP:Post No [_,zpi b1 ((capC (⟨0,0⟩:Cap))).toArray 52] w0 w2:=hP.new n3
 refine wn (aa (wsr (kM (zp a0g.mb) r rfl rfl fun r=>kM (I a1) r rfl rfl fun r=>?_)));obtain ⟨x5,hx5,hD⟩:=zaj hD
 refine kE r (zdy w2 a0 (hP.memr (i:=0) rfl) a1 hx5) rfl cl66 rfl fun w6 hb r=>?_;have hP:=hP.below hb
 refine kA (zp a0g.rb) r rfl rfl fun r=>wn (wsr (kM (zp a0g.rb) r rfl rfl fun r=>kB r rfl rfl rfl rfl rfl fun r=>wn ?_));refine ae (t:=true) (r.ev rfl) (fun _=>?_) (fun h=>absurd ((rfl:true=_).symm.trans h) ke)
 refine wsr (kM (I a1) r rfl rfl fun r=>kM (zp a0g.rb) r rfl rfl fun r=>za0 (zp a0g.rb) r (fun R=>zbm r rfl) rfl fun fr r=>za0 _ r (fun R=>za3 r (b:=a0g.rb) (o:=0) (k:=1) rfl znw) rfl fun fr r=>kL (U 1) r rfl (hP.memr (i:=0) rfl).reg to34 rfl rfl fun r=>kU (aq (capC (⟨a1,1⟩:Cap))) r kz rfl fun r=>?_);refine zaD (.cells ((capC (⟨a1,1⟩:Cap))).toArray 52 (0,0)) r (fun R=>zax r (o:=0) (v:=(aq (capC (⟨a1,1⟩:Cap)))) rfl rfl (hP.cell (i:=1) rfl) ts52 ak rfl rfl) rfl fun fr w7 u8 r=>?_
 have hP:Post No [_,zpi b1 ((capC (⟨a1,1⟩:Cap))).toArray 52] w0 w7:=hP.upd (i:=1) rfl u8;refine wn (ac ?_);have hv:(⟨a1,1⟩:Cap)=res:=Option.some.inj hD
 try dsimp only [Exit.then,Exit.inBlock]
 refine za5 r rfl rfl (hP.cell (i:=1) rfl) (k:=2) rfl ta52 ?_;subst hv;exact ⟨rfl,hP.chg.below⟩
def D.zdV (fu:Nat) (a0:Mem) (a1:Cap):Option (Bool):=((D.zck fu a0 a1.region).bind (fun (x5:Unit)=>(some (1==a1.epoch))))
theorem zcn {fu:Nat} (w0:World) {a0g:MG} (a0:Mem) (a0h:MemAt a0g a0 w0) (a1:Cap) {res:Bool} (hD:D.zdV fu a0 a1=some res) :
    Calls ar 126 #[zp a0g.mb,aq (capC a1)] w0 (zpx (.bool res) w0):=by
 refine enter Tryz.func126 rfl 21 rfl rfl fun fr r=>?_;have hP:Post No [] w0 w0:=Post.nil w0
 have hP:Post No [memR a0g a0] w0 w0:=hP.addRo zcM a0h rfl a0h.lt;unfold D.zdV at hD
 refine wsr ?_;refine kX 52 (aq (capC a1)) r rfl rfl fun b1 w2 n3 r=>?_;have hP:Post No [_,zpi b1 ((capC a1)).toArray 52] w0 w2:=hP.new n3
 refine kA (.bool false) r rfl rfl fun r=>wn (wsr (kM (zp a0g.mb) r rfl rfl fun r=>kF 0 r rfl zli rfl fun r=>kL (I a1.region) r rfl (hP.cell (i:=1) rfl) to3 rfl rfl fun r=>?_));obtain ⟨x5,hx5,hD⟩:=zaj hD
 refine kE r (zdy w2 a0 (hP.memr (i:=0) rfl) a1.region hx5) rfl cl66 rfl fun w6 hb r=>?_;have hP:=hP.below hb
 refine kA (zp a0g.rb) r rfl rfl fun r=>wn (aa ?_);refine zda [.val (zp a0g.rb),.val (.bool true),.val (.bool true),.val (zp a0g.rb),.val (zp a0g.rb),.val (.pointer (some ⟨a0g.rb,1,none⟩)),.val (U 1),.val (.pointer (some ⟨b1,1,none⟩)),.val (U a1.epoch),.val (.bool (1==a1.epoch)),.val (.bool (1==a1.epoch)),.val (.bool (1==a1.epoch))] mixed r kz ?_ ?_
 ·
  refine fc r (fun fr1 g w' hb' hd r'=>zar r' rfl bz) ?_;refine fc r (fun fr1 g w' hb' hd r'=>zpG r' (hd 0 rfl).1 rfl rfl rfl bz) ?_
  refine fc r (fun fr1 g w' hb' hd r'=>zar r' (hd 1 rfl).1 bz) ?_;refine zap true r rfl rfl rfl (fun g w' hd=>Eq.trans (show (g 2).v=.bool true from (hd 2 rfl).1) (kb (rfl:true=_))) (fun fr1 g w' hb' hd r'=>?_) ?_
  · exact zar r' (v:=(zp a0g.rb)) rfl bz
  refine zap true r rfl rfl rfl (fun g w' hd=>Eq.trans (show (g 2).v=.bool true from (hd 2 rfl).1) (kb (rfl:true=_))) (fun fr1 g w' hb' hd r'=>?_) ?_
  · exact zbm r' (hd 3 rfl).1 bz
  refine zap true r rfl rfl rfl (fun g w' hd=>Eq.trans (show (g 2).v=.bool true from (hd 2 rfl).1) (kb (rfl:true=_))) (fun fr1 g w' hb' hd r'=>?_) ?_
  · exact za3 r' (b:=a0g.rb) (o:=0) (k:=1) (hd 4 rfl).1 znw bz
  refine zap true r rfl rfl rfl (fun g w' hd=>Eq.trans (show (g 2).v=.bool true from (hd 2 rfl).1) (kb (rfl:true=_))) (fun fr1 g w' hb' hd r'=>?_) ?_
  · exact za4 r' (v:=(U 1)) (hd 5 rfl).1 ((hP.below (dr hb')).memr (i:=0) rfl).reg to34 rfl bz
  refine zap true r rfl rfl rfl (fun g w' hd=>Eq.trans (show (g 2).v=.bool true from (hd 2 rfl).1) (kb (rfl:true=_))) (fun fr1 g w' hb' hd r'=>?_) ?_
  · exact za3 r' (b:=b1) (o:=0) (k:=1) rfl zpa bz
  refine zap true r rfl rfl rfl (fun g w' hd=>Eq.trans (show (g 2).v=.bool true from (hd 2 rfl).1) (kb (rfl:true=_))) (fun fr1 g w' hb' hd r'=>?_) ?_
  · exact za4 r' (v:=(U a1.epoch)) (hd 7 rfl).1 ((hP.below (dr hb')).cell (i:=1) rfl) to34 rfl bz
  refine zap true r rfl rfl rfl (fun g w' hd=>Eq.trans (show (g 2).v=.bool true from (hd 2 rfl).1) (kb (rfl:true=_))) (fun fr1 g w' hb' hd r'=>?_) ?_
  · exact zpG r' (u:=(U 1)) (u':=(U a1.epoch)) (v:=(.bool (1==a1.epoch))) (hd 6 rfl).1 (hd 8 rfl).1 rfl rfl bz
  refine fc r (fun fr1 g w' hb' hd r'=>zay r' (b:=true) (v:=(.bool (1==a1.epoch))) (Eq.trans (show (g 2).v=.bool true from (hd 2 rfl).1) (kb (rfl:true=_))) (hd 9 rfl).1 bz) ?_;refine fc r (fun fr1 g w' hb' hd r'=>zbW r' (hd 10 rfl).1 bz) ?_
  exact zb4
 intro fr gg w7 hb hΦ hap r;have r:=r.congr (sc ((hΦ 11 rfl).1) (sc ((hΦ 10 rfl).1) (sc ((hΦ 9 rfl).1) (sc ((hΦ 8 rfl).1) (sc ((hΦ 7 rfl).1) (sc ((hΦ 6 rfl).1) (sc ((hΦ 5 rfl).1) (sc ((hΦ 4 rfl).1) (sc ((hΦ 3 rfl).1) (sc ((hΦ 2 rfl).1) (sc ((hΦ 1 rfl).1) (sc ((hΦ 0 rfl).1) rfl))))))))))));have hP:=hP.below hb;refine ac ?_;have hv:(1==a1.epoch)=res:=Option.some.inj hD
 try dsimp only [Exit.then,Exit.inBlock]
 refine zaH (fn:=Tryz.f126) r (t:=4) rfl (v:=(.bool (1==a1.epoch))) rfl ?_;subst hv;exact ⟨rfl,hP.chg.below⟩
def D.zci (fu:Nat) (a0:Mem) (a1:Int):Option (Int):=((D.zck fu a0 a1).bind (fun (x1:Unit)=>(some (a0.ws.length:Int))))
theorem zd6 {fu:Nat} (w0:World) {a0g:MG} (a0:Mem) (a0h:MemAt a0g a0 w0) (a1:Int) {res:Int} (hD:D.zci fu a0 a1=some res) :
    Calls ar 67 #[zp a0g.mb,.int .i64 a1] w0 (zpx (.int .i64 res) w0):=by
 refine enter Tryz.func67 rfl 16 rfl rfl fun fr r=>?_;have hP:Post No [] w0 w0:=Post.nil w0
 have hP:Post No [memR a0g a0] w0 w0:=hP.addRo zcM a0h rfl a0h.lt;unfold D.zci at hD
 refine wsr (kA (I 0) r rfl rfl fun r=>wn (aa (wsr (kM (zp a0g.mb) r rfl rfl fun r=>kM (I a1) r rfl rfl fun r=>?_))));obtain ⟨x1,hx1,hD⟩:=zaj hD
 refine kE r (zdy w0 a0 (hP.memr (i:=0) rfl) a1 hx1) rfl cl66 rfl fun w2 hb r=>?_;have hP:=hP.below hb
 refine kA (zp a0g.rb) r rfl rfl fun r=>wn (wsr (kM (zp a0g.rb) r rfl rfl fun r=>kB r rfl rfl rfl rfl rfl fun r=>wn ?_));refine ae (t:=true) (r.ev rfl) (fun _=>?_) (fun h=>absurd ((rfl:true=_).symm.trans h) ke)
 refine wsr (kM (zp a0g.rb) r rfl rfl fun r=>za0 (zp a0g.rb) r (fun R=>zbm r rfl) rfl fun fr r=>za0 _ r (fun R=>za3 r (b:=a0g.rb) (o:=0) (k:=0) rfl zlR) rfl fun fr r=>kL (.slice (some ⟨a0g.wb,0,none⟩) a0.ws.length a0.ws.length) r rfl (hP.memr (i:=0) rfl).reg to66 rfl rfl fun r=>za0 (I (a0.ws.length:Int)) r (fun R=>zqC r is66 rfl) rfl fun fr r=>kA (I (a0.ws.length:Int)) r rfl rfl fun r=>wn (ac ?_));have hv:(a0.ws.length:Int)=res:=Option.some.inj hD
 try dsimp only [Exit.then,Exit.inBlock]
 refine zaH (fn:=Tryz.f67) r (t:=4) rfl (v:=(I (a0.ws.length:Int))) rfl ?_;subst hv;exact ⟨rfl,hP.chg.below⟩
def D.zc2 (fu:Nat) (a0:Mem) (a1:Cap) (a2:Access):Option (Int × Bool × Mem):=(Option.bind ((D.zdV fu a0 a1).bind (fun (x10:Bool)=>(bif (!x10) then (some true) else (bif (decide (a2.at_<0)) then (some true) else ((D.zci fu a0 a1.region).bind (fun (x15:Int)=>(bif (decide (a2.at_≥x15)) then (some true) else (bif (decide (a2.op<0)) then (some true) else (some (decide (a2.op > 3))))))))))) (fun (x21:Bool)=>(bif x21 then (some (0,false,a0)) else ((zeroI a1.region).bind (fun (x25:Unit)=>((getI a0.ws a2.at_).bind (fun (x26:Int)=>(Option.bind (bif (a2.op==1) then (some (Mem.put a0 a2.at_ a2.a)) else (Option.bind (bif (a2.op==2) then (some (x26==a2.a)) else (some false)) (fun (x34:Bool)=>(Option.bind (bif x34 then (some (Mem.put a0 a2.at_ a2.b)) else (Option.bind (bif (a2.op==3) then (some (Mem.put a0 a2.at_ (IntKind.u64.wrap (x26+a2.a)))) else (some a0)) (fun (x46:Mem)=>(some x46)))) (fun (x49:Mem)=>(some x49)))))) (fun (x52:Mem)=>(some (x26,true,({ x52 with cnt:=(IntKind.i64.wrap (x52.cnt+1)) }))))))))))))
theorem zgv {fu:Nat} (w0:World) {a0g:MG} (a0:Mem) (a1:Cap) (a2:Access) (hS:Sep [memK a0g a0] w0) {res:Int × Bool × Mem} (hD:D.zc2 fu a0 a1 a2=some res) :
    Calls ar 65 #[zp a0g.mb,aq (capC a1),aq (zpu a2)] w0 (fun e w'=>e=.returned (.tuple #[(.int .u64 res.1),(.bool res.2.1)])∧Done (fun b=>b∈(memK a0g a0).own) No [memK a0g res.2.2] w0 w'):=by
 refine enter Tryz.func65 rfl 96 rfl rfl fun fr r=>?_;have hP:Post (fun b=>b∈(memK a0g a0).own) [memK a0g a0] w0 w0:=.start hS (by simp [memK])
 unfold D.zc2 at hD
 refine wsr ?_;refine kX 52 (aq (capC a1)) r rfl rfl fun b1 w2 n3 r=>?_;have hP:Post (fun b=>b∈(memK a0g a0).own) [memK a0g a0,zpi b1 ((capC a1)).toArray 52] w0 w2:=hP.new n3
 refine kX 38 (aq (zpu a2)) r rfl rfl fun b5 w6 n7 r=>?_;have hP:Post (fun b=>b∈(memK a0g a0).own) [memK a0g a0,zpi b1 ((capC a1)).toArray 52,zpi b5 ((zpu a2)).toArray 38] w0 w6:=hP.new n7
 refine kA (U 0) r rfl rfl fun r=>kA (.bool false) r rfl rfl fun r=>wn (aa (aa ?_));refine zbs (N:=96) (Y:=Bool) (G:=Unit) (fun x γ=>[(0,(zp a0g.mb)),(1,(aq (capC a1))),(2,(aq (zpu a2))),(4,(zp b1)),(5,(zp b5)),(6,(U 0)),(7,(.bool false)),(37,(.bool x))]) (fun x γ w=>Post (fun b=>b∈(memK a0g a0).own) [memK a0g a0,zpi b1 ((capC a1)).toArray 52,zpi b5 ((zpu a2)).toArray 38] w0 w) hD ?_ ?_
 ·
  rintro y9 RPy9 nxy9 hD;obtain ⟨x10,hx10,hD⟩:=zaj hD;refine zaT (!x10) (fun h11=>?_) (fun h11=>?_)
  ·
   have hD:=(zao h11).symm.trans hD;refine zda [.val (zp a0g.mb),.val (aq (capC a1)),.val (.bool x10),.val (.bool (!x10)),.val (.bool (!x10)),.val undef,.val undef,.val undef,.val (.bool true),.val (.bool true),.val undef,.val undef,.val undef,.val undef,.val undef,.val undef,.val undef,.val (.bool true),.val (.bool true),.val undef,.val undef,.val undef,.val (.bool true),.val (.bool true),.val undef,.val undef,.val undef,.val (.bool true)] mixed r kz ?_ ?_
   ·
    refine fc r (fun fr1 g w' hb' hd r'=>zar r' rfl bz) ?_;refine fc r (fun fr1 g w' hb' hd r'=>zac r' (cs:=(capC a1)) (n:=2) rfl ((hP.below (dr hb')).cell (i:=1) rfl) ta52 rfl bz) ?_
    refine fc r (fun fr1 g w' hb' hd r'=>zaF r' (args:=[(zp a0g.mb),(aq (capC a1))]) (lc (hd 0 rfl).1 (lc (hd 1 rfl).1 l0)) zqH ((zcn _ a0 ((hP.below (dr hb')).mem (i:=0) rfl) a1 hx10).mono yab)) ?_;refine fc r (fun fr1 g w' hb' hd r'=>y_un r' (u:=(.bool x10)) (v:=(.bool (!x10))) (hd 2 rfl).1 rfl bz) ?_
    refine fc r (fun fr1 g w' hb' hd r'=>zar r' (hd 3 rfl).1 bz) ?_;refine zav false (.bool true) r rfl rfl rfl (fun g w' hd=>Eq.trans (show (g 4).v=.bool (!x10) from (hd 4 rfl).1) (kb h11)) yai (fun _ _=>bz) ?_
    refine zav false (.bool true) r rfl rfl rfl (fun g w' hd=>Eq.trans (show (g 4).v=.bool (!x10) from (hd 4 rfl).1) (kb h11)) yai (fun _ _=>bz) ?_;refine zav false (.bool true) r rfl rfl rfl (fun g w' hd=>Eq.trans (show (g 4).v=.bool (!x10) from (hd 4 rfl).1) (kb h11)) yai (fun _ _=>bz) ?_
    refine fc r (fun fr1 g w' hb' hd r'=>zay r' (b:=true) (v:=(.bool true)) (Eq.trans (show (g 4).v=.bool (!x10) from (hd 4 rfl).1) (kb h11)) rfl bz) ?_;refine fc r (fun fr1 g w' hb' hd r'=>zar r' (hd 8 rfl).1 bz) ?_
    refine zav false (.bool true) r rfl rfl rfl (fun g w' hd=>Eq.trans (show (g 9).v=.bool true from (hd 9 rfl).1) (kb (rfl:true=_))) yai (fun _ _=>bz) ?_;refine zav false (.bool true) r rfl rfl rfl (fun g w' hd=>Eq.trans (show (g 9).v=.bool true from (hd 9 rfl).1) (kb (rfl:true=_))) yai (fun _ _=>bz) ?_
    refine zav false (.bool true) r rfl rfl rfl (fun g w' hd=>Eq.trans (show (g 9).v=.bool true from (hd 9 rfl).1) (kb (rfl:true=_))) yai (fun _ _=>bz) ?_;refine zav false (.bool true) r rfl rfl rfl (fun g w' hd=>Eq.trans (show (g 9).v=.bool true from (hd 9 rfl).1) (kb (rfl:true=_))) yai (fun _ _=>bz) ?_
    refine zav false (.bool true) r rfl rfl rfl (fun g w' hd=>Eq.trans (show (g 9).v=.bool true from (hd 9 rfl).1) (kb (rfl:true=_))) yai (fun _ _=>bz) ?_;refine zav false (.bool true) r rfl rfl rfl (fun g w' hd=>Eq.trans (show (g 9).v=.bool true from (hd 9 rfl).1) (kb (rfl:true=_))) yai (fun _ _=>bz) ?_
    refine zav false (.bool true) r rfl rfl rfl (fun g w' hd=>Eq.trans (show (g 9).v=.bool true from (hd 9 rfl).1) (kb (rfl:true=_))) yai (fun _ _=>bz) ?_;refine fc r (fun fr1 g w' hb' hd r'=>zay r' (b:=true) (v:=(.bool true)) (Eq.trans (show (g 9).v=.bool true from (hd 9 rfl).1) (kb (rfl:true=_))) rfl bz) ?_
    refine fc r (fun fr1 g w' hb' hd r'=>zar r' (hd 17 rfl).1 bz) ?_;refine zav false (.bool true) r rfl rfl rfl (fun g w' hd=>Eq.trans (show (g 18).v=.bool true from (hd 18 rfl).1) (kb (rfl:true=_))) yai (fun _ _=>bz) ?_
    refine zav false (.bool true) r rfl rfl rfl (fun g w' hd=>Eq.trans (show (g 18).v=.bool true from (hd 18 rfl).1) (kb (rfl:true=_))) yai (fun _ _=>bz) ?_;refine zav false (.bool true) r rfl rfl rfl (fun g w' hd=>Eq.trans (show (g 18).v=.bool true from (hd 18 rfl).1) (kb (rfl:true=_))) yai (fun _ _=>bz) ?_
    refine fc r (fun fr1 g w' hb' hd r'=>zay r' (b:=true) (v:=(.bool true)) (Eq.trans (show (g 18).v=.bool true from (hd 18 rfl).1) (kb (rfl:true=_))) rfl bz) ?_;refine fc r (fun fr1 g w' hb' hd r'=>zar r' (hd 22 rfl).1 bz) ?_
    refine zav false (.bool true) r rfl rfl rfl (fun g w' hd=>Eq.trans (show (g 23).v=.bool true from (hd 23 rfl).1) (kb (rfl:true=_))) yai (fun _ _=>bz) ?_;refine zav false (.bool true) r rfl rfl rfl (fun g w' hd=>Eq.trans (show (g 23).v=.bool true from (hd 23 rfl).1) (kb (rfl:true=_))) yai (fun _ _=>bz) ?_
    refine zav false (.bool true) r rfl rfl rfl (fun g w' hd=>Eq.trans (show (g 23).v=.bool true from (hd 23 rfl).1) (kb (rfl:true=_))) yai (fun _ _=>bz) ?_;refine fc r (fun fr1 g w' hb' hd r'=>zay r' (b:=true) (v:=(.bool true)) (Eq.trans (show (g 23).v=.bool true from (hd 23 rfl).1) (kb (rfl:true=_))) rfl bz) ?_
    exact zb4
   intro fr gg w12 hb hΦ hap r;have r:=r.congr (sc ((hΦ 27 rfl).1) (sc ((hΦ 26 rfl).1) (sc ((hΦ 25 rfl).1) (sc ((hΦ 24 rfl).1) (sc ((hΦ 23 rfl).1) (sc ((hΦ 22 rfl).1) (sc ((hΦ 21 rfl).1) (sc ((hΦ 20 rfl).1) (sc ((hΦ 19 rfl).1) (sc ((hΦ 18 rfl).1) (sc ((hΦ 17 rfl).1) (sc ((hΦ 16 rfl).1) (sc ((hΦ 15 rfl).1) (sc ((hΦ 14 rfl).1) (sc ((hΦ 13 rfl).1) (sc ((hΦ 12 rfl).1) (sc ((hΦ 11 rfl).1) (sc ((hΦ 10 rfl).1) (sc ((hΦ 9 rfl).1) (sc ((hΦ 8 rfl).1) (sc ((hΦ 7 rfl).1) (sc ((hΦ 6 rfl).1) (sc ((hΦ 5 rfl).1) (sc ((hΦ 4 rfl).1) (sc ((hΦ 3 rfl).1) (sc ((hΦ 2 rfl).1) (sc ((hΦ 1 rfl).1) (sc ((hΦ 0 rfl).1) rfl))))))))))))))))))))))))))));have hP:=hP.below hb;exact nxy9 true () _ _ _ hD r (kO (kO zaC)) (hP.pick [0,1,2] rfl rfl)
  have hD:=(zaq h11).symm.trans hD;refine zaT (decide (a2.at_<0)) (fun h13=>?_) (fun h13=>?_)
  ·
   have hD:=(zao h13).symm.trans hD;refine zda [.val (zp a0g.mb),.val (aq (capC a1)),.val (.bool x10),.val (.bool (!x10)),.val (.bool (!x10)),.val (.pointer (some ⟨b5,1,none⟩)),.val (I a2.at_),.val (.bool (decide (a2.at_<0))),.val (.bool (decide (a2.at_<0))),.val (.bool (decide (a2.at_<0))),.val undef,.val undef,.val undef,.val undef,.val undef,.val undef,.val undef,.val (.bool true),.val (.bool true),.val undef,.val undef,.val undef,.val (.bool true),.val (.bool true),.val undef,.val undef,.val undef,.val (.bool true)] mixed r kz ?_ ?_
   ·
    refine fc r (fun fr1 g w' hb' hd r'=>zar r' rfl bz) ?_;refine fc r (fun fr1 g w' hb' hd r'=>zac r' (cs:=(capC a1)) (n:=2) rfl ((hP.below (dr hb')).cell (i:=1) rfl) ta52 rfl bz) ?_
    refine fc r (fun fr1 g w' hb' hd r'=>zaF r' (args:=[(zp a0g.mb),(aq (capC a1))]) (lc (hd 0 rfl).1 (lc (hd 1 rfl).1 l0)) zqH ((zcn _ a0 ((hP.below (dr hb')).mem (i:=0) rfl) a1 hx10).mono yab)) ?_;refine fc r (fun fr1 g w' hb' hd r'=>y_un r' (u:=(.bool x10)) (v:=(.bool (!x10))) (hd 2 rfl).1 rfl bz) ?_
    refine fc r (fun fr1 g w' hb' hd r'=>zar r' (hd 3 rfl).1 bz) ?_;refine zap false r rfl rfl rfl (fun g w' hd=>Eq.trans (show (g 4).v=.bool (!x10) from (hd 4 rfl).1) (kb h11)) (fun fr1 g w' hb' hd r'=>?_) ?_
    · exact za3 r' (b:=b5) (o:=0) (k:=1) rfl zj2 bz
    refine zap false r rfl rfl rfl (fun g w' hd=>Eq.trans (show (g 4).v=.bool (!x10) from (hd 4 rfl).1) (kb h11)) (fun fr1 g w' hb' hd r'=>?_) ?_
    · exact za4 r' (v:=(I a2.at_)) (hd 5 rfl).1 ((hP.below (dr hb')).cell (i:=2) rfl) to3 rfl bz
    refine zap false r rfl rfl rfl (fun g w' hd=>Eq.trans (show (g 4).v=.bool (!x10) from (hd 4 rfl).1) (kb h11)) (fun fr1 g w' hb' hd r'=>?_) ?_
    · exact zpG r' (u:=(I a2.at_)) (u':=(I 0)) (v:=(.bool (decide (a2.at_<0)))) (hd 6 rfl).1 rfl rfl rfl bz
    refine fc r (fun fr1 g w' hb' hd r'=>zay r' (b:=false) (v:=(.bool (decide (a2.at_<0)))) (Eq.trans (show (g 4).v=.bool (!x10) from (hd 4 rfl).1) (kb h11)) (hd 7 rfl).1 bz) ?_;refine fc r (fun fr1 g w' hb' hd r'=>zar r' (hd 8 rfl).1 bz) ?_
    refine zav false (.bool true) r rfl rfl rfl (fun g w' hd=>Eq.trans (show (g 9).v=.bool (decide (a2.at_<0)) from (hd 9 rfl).1) (kb h13)) yai (fun _ _=>bz) ?_;refine zav false (.bool true) r rfl rfl rfl (fun g w' hd=>Eq.trans (show (g 9).v=.bool (decide (a2.at_<0)) from (hd 9 rfl).1) (kb h13)) yai (fun _ _=>bz) ?_
    refine zav false (.bool true) r rfl rfl rfl (fun g w' hd=>Eq.trans (show (g 9).v=.bool (decide (a2.at_<0)) from (hd 9 rfl).1) (kb h13)) yai (fun _ _=>bz) ?_;refine zav false (.bool true) r rfl rfl rfl (fun g w' hd=>Eq.trans (show (g 9).v=.bool (decide (a2.at_<0)) from (hd 9 rfl).1) (kb h13)) yai (fun _ _=>bz) ?_
    refine zav false (.bool true) r rfl rfl rfl (fun g w' hd=>Eq.trans (show (g 9).v=.bool (decide (a2.at_<0)) from (hd 9 rfl).1) (kb h13)) yai (fun _ _=>bz) ?_;refine zav false (.bool true) r rfl rfl rfl (fun g w' hd=>Eq.trans (show (g 9).v=.bool (decide (a2.at_<0)) from (hd 9 rfl).1) (kb h13)) yai (fun _ _=>bz) ?_
    refine zav false (.bool true) r rfl rfl rfl (fun g w' hd=>Eq.trans (show (g 9).v=.bool (decide (a2.at_<0)) from (hd 9 rfl).1) (kb h13)) yai (fun _ _=>bz) ?_;refine fc r (fun fr1 g w' hb' hd r'=>zay r' (b:=true) (v:=(.bool true)) (Eq.trans (show (g 9).v=.bool (decide (a2.at_<0)) from (hd 9 rfl).1) (kb h13)) rfl bz) ?_
    refine fc r (fun fr1 g w' hb' hd r'=>zar r' (hd 17 rfl).1 bz) ?_;refine zav false (.bool true) r rfl rfl rfl (fun g w' hd=>Eq.trans (show (g 18).v=.bool true from (hd 18 rfl).1) (kb (rfl:true=_))) yai (fun _ _=>bz) ?_
    refine zav false (.bool true) r rfl rfl rfl (fun g w' hd=>Eq.trans (show (g 18).v=.bool true from (hd 18 rfl).1) (kb (rfl:true=_))) yai (fun _ _=>bz) ?_;refine zav false (.bool true) r rfl rfl rfl (fun g w' hd=>Eq.trans (show (g 18).v=.bool true from (hd 18 rfl).1) (kb (rfl:true=_))) yai (fun _ _=>bz) ?_
    refine fc r (fun fr1 g w' hb' hd r'=>zay r' (b:=true) (v:=(.bool true)) (Eq.trans (show (g 18).v=.bool true from (hd 18 rfl).1) (kb (rfl:true=_))) rfl bz) ?_;refine fc r (fun fr1 g w' hb' hd r'=>zar r' (hd 22 rfl).1 bz) ?_
    refine zav false (.bool true) r rfl rfl rfl (fun g w' hd=>Eq.trans (show (g 23).v=.bool true from (hd 23 rfl).1) (kb (rfl:true=_))) yai (fun _ _=>bz) ?_;refine zav false (.bool true) r rfl rfl rfl (fun g w' hd=>Eq.trans (show (g 23).v=.bool true from (hd 23 rfl).1) (kb (rfl:true=_))) yai (fun _ _=>bz) ?_
    refine zav false (.bool true) r rfl rfl rfl (fun g w' hd=>Eq.trans (show (g 23).v=.bool true from (hd 23 rfl).1) (kb (rfl:true=_))) yai (fun _ _=>bz) ?_;refine fc r (fun fr1 g w' hb' hd r'=>zay r' (b:=true) (v:=(.bool true)) (Eq.trans (show (g 23).v=.bool true from (hd 23 rfl).1) (kb (rfl:true=_))) rfl bz) ?_
    exact zb4
   intro fr gg w14 hb hΦ hap r;have r:=r.congr (sc ((hΦ 27 rfl).1) (sc ((hΦ 26 rfl).1) (sc ((hΦ 25 rfl).1) (sc ((hΦ 24 rfl).1) (sc ((hΦ 23 rfl).1) (sc ((hΦ 22 rfl).1) (sc ((hΦ 21 rfl).1) (sc ((hΦ 20 rfl).1) (sc ((hΦ 19 rfl).1) (sc ((hΦ 18 rfl).1) (sc ((hΦ 17 rfl).1) (sc ((hΦ 16 rfl).1) (sc ((hΦ 15 rfl).1) (sc ((hΦ 14 rfl).1) (sc ((hΦ 13 rfl).1) (sc ((hΦ 12 rfl).1) (sc ((hΦ 11 rfl).1) (sc ((hΦ 10 rfl).1) (sc ((hΦ 9 rfl).1) (sc ((hΦ 8 rfl).1) (sc ((hΦ 7 rfl).1) (sc ((hΦ 6 rfl).1) (sc ((hΦ 5 rfl).1) (sc ((hΦ 4 rfl).1) (sc ((hΦ 3 rfl).1) (sc ((hΦ 2 rfl).1) (sc ((hΦ 1 rfl).1) (sc ((hΦ 0 rfl).1) rfl))))))))))))))))))))))))))));have hP:=hP.below hb;exact nxy9 true () _ _ _ hD r (kO (kO zaC)) (hP.pick [0,1,2] rfl rfl)
  have hD:=(zaq h13).symm.trans hD;obtain ⟨x15,hx15,hD⟩:=zaj hD;refine zaT (decide (a2.at_≥x15)) (fun h16=>?_) (fun h16=>?_)
  ·
   have hD:=(zao h16).symm.trans hD;refine zda [.val (zp a0g.mb),.val (aq (capC a1)),.val (.bool x10),.val (.bool (!x10)),.val (.bool (!x10)),.val (.pointer (some ⟨b5,1,none⟩)),.val (I a2.at_),.val (.bool (decide (a2.at_<0))),.val (.bool (decide (a2.at_<0))),.val (.bool (decide (a2.at_<0))),.val (.pointer (some ⟨b5,1,none⟩)),.val (I a2.at_),.val (zp a0g.mb),.val (zp b1),.val (I a1.region),.val (I x15),.val (.bool (decide (a2.at_≥x15))),.val (.bool (decide (a2.at_≥x15))),.val (.bool (decide (a2.at_≥x15))),.val undef,.val undef,.val undef,.val (.bool true),.val (.bool true),.val undef,.val undef,.val undef,.val (.bool true)] mixed r kz ?_ ?_
   ·
    refine fc r (fun fr1 g w' hb' hd r'=>zar r' rfl bz) ?_;refine fc r (fun fr1 g w' hb' hd r'=>zac r' (cs:=(capC a1)) (n:=2) rfl ((hP.below (dr hb')).cell (i:=1) rfl) ta52 rfl bz) ?_
    refine fc r (fun fr1 g w' hb' hd r'=>zaF r' (args:=[(zp a0g.mb),(aq (capC a1))]) (lc (hd 0 rfl).1 (lc (hd 1 rfl).1 l0)) zqH ((zcn _ a0 ((hP.below (dr hb')).mem (i:=0) rfl) a1 hx10).mono yab)) ?_;refine fc r (fun fr1 g w' hb' hd r'=>y_un r' (u:=(.bool x10)) (v:=(.bool (!x10))) (hd 2 rfl).1 rfl bz) ?_
    refine fc r (fun fr1 g w' hb' hd r'=>zar r' (hd 3 rfl).1 bz) ?_;refine zap false r rfl rfl rfl (fun g w' hd=>Eq.trans (show (g 4).v=.bool (!x10) from (hd 4 rfl).1) (kb h11)) (fun fr1 g w' hb' hd r'=>?_) ?_
    · exact za3 r' (b:=b5) (o:=0) (k:=1) rfl zj2 bz
    refine zap false r rfl rfl rfl (fun g w' hd=>Eq.trans (show (g 4).v=.bool (!x10) from (hd 4 rfl).1) (kb h11)) (fun fr1 g w' hb' hd r'=>?_) ?_
    · exact za4 r' (v:=(I a2.at_)) (hd 5 rfl).1 ((hP.below (dr hb')).cell (i:=2) rfl) to3 rfl bz
    refine zap false r rfl rfl rfl (fun g w' hd=>Eq.trans (show (g 4).v=.bool (!x10) from (hd 4 rfl).1) (kb h11)) (fun fr1 g w' hb' hd r'=>?_) ?_
    · exact zpG r' (u:=(I a2.at_)) (u':=(I 0)) (v:=(.bool (decide (a2.at_<0)))) (hd 6 rfl).1 rfl rfl rfl bz
    refine fc r (fun fr1 g w' hb' hd r'=>zay r' (b:=false) (v:=(.bool (decide (a2.at_<0)))) (Eq.trans (show (g 4).v=.bool (!x10) from (hd 4 rfl).1) (kb h11)) (hd 7 rfl).1 bz) ?_;refine fc r (fun fr1 g w' hb' hd r'=>zar r' (hd 8 rfl).1 bz) ?_
    refine zap false r rfl rfl rfl (fun g w' hd=>Eq.trans (show (g 9).v=.bool (decide (a2.at_<0)) from (hd 9 rfl).1) (kb h13)) (fun fr1 g w' hb' hd r'=>?_) ?_
    · exact za3 r' (b:=b5) (o:=0) (k:=1) rfl zj2 bz
    refine zap false r rfl rfl rfl (fun g w' hd=>Eq.trans (show (g 9).v=.bool (decide (a2.at_<0)) from (hd 9 rfl).1) (kb h13)) (fun fr1 g w' hb' hd r'=>?_) ?_
    · exact za4 r' (v:=(I a2.at_)) (hd 10 rfl).1 ((hP.below (dr hb')).cell (i:=2) rfl) to3 rfl bz
    refine zap false r rfl rfl rfl (fun g w' hd=>Eq.trans (show (g 9).v=.bool (decide (a2.at_<0)) from (hd 9 rfl).1) (kb h13)) (fun fr1 g w' hb' hd r'=>?_) ?_
    · exact zar r' (v:=(zp a0g.mb)) rfl bz
    refine zap false r rfl rfl rfl (fun g w' hd=>Eq.trans (show (g 9).v=.bool (decide (a2.at_<0)) from (hd 9 rfl).1) (kb h13)) (fun fr1 g w' hb' hd r'=>?_) ?_
    · exact za3 r' (b:=b1) (o:=0) (k:=0) rfl zli bz
    refine zap false r rfl rfl rfl (fun g w' hd=>Eq.trans (show (g 9).v=.bool (decide (a2.at_<0)) from (hd 9 rfl).1) (kb h13)) (fun fr1 g w' hb' hd r'=>?_) ?_
    · exact za4 r' (v:=(I a1.region)) (hd 13 rfl).1 ((hP.below (dr hb')).cell (i:=1) rfl) to3 rfl bz
    refine zap false r rfl rfl rfl (fun g w' hd=>Eq.trans (show (g 9).v=.bool (decide (a2.at_<0)) from (hd 9 rfl).1) (kb h13)) (fun fr1 g w' hb' hd r'=>?_) ?_
    · exact zaF r' (args:=[(zp a0g.mb),(I a1.region)]) (lc (hd 12 rfl).1 (lc (hd 14 rfl).1 l0)) cl67 ((zd6 _ a0 ((hP.below (dr hb')).mem (i:=0) rfl) a1.region hx15).mono yab)
    refine zap false r rfl rfl rfl (fun g w' hd=>Eq.trans (show (g 9).v=.bool (decide (a2.at_<0)) from (hd 9 rfl).1) (kb h13)) (fun fr1 g w' hb' hd r'=>?_) ?_
    · exact zpG r' (u:=(I a2.at_)) (u':=(I x15)) (v:=(.bool (decide (a2.at_≥x15)))) (hd 11 rfl).1 (hd 15 rfl).1 rfl rfl bz
    refine fc r (fun fr1 g w' hb' hd r'=>zay r' (b:=false) (v:=(.bool (decide (a2.at_≥x15)))) (Eq.trans (show (g 9).v=.bool (decide (a2.at_<0)) from (hd 9 rfl).1) (kb h13)) (hd 16 rfl).1 bz) ?_;refine fc r (fun fr1 g w' hb' hd r'=>zar r' (hd 17 rfl).1 bz) ?_
    refine zav false (.bool true) r rfl rfl rfl (fun g w' hd=>Eq.trans (show (g 18).v=.bool (decide (a2.at_≥x15)) from (hd 18 rfl).1) (kb h16)) yai (fun _ _=>bz) ?_;refine zav false (.bool true) r rfl rfl rfl (fun g w' hd=>Eq.trans (show (g 18).v=.bool (decide (a2.at_≥x15)) from (hd 18 rfl).1) (kb h16)) yai (fun _ _=>bz) ?_
    refine zav false (.bool true) r rfl rfl rfl (fun g w' hd=>Eq.trans (show (g 18).v=.bool (decide (a2.at_≥x15)) from (hd 18 rfl).1) (kb h16)) yai (fun _ _=>bz) ?_;refine fc r (fun fr1 g w' hb' hd r'=>zay r' (b:=true) (v:=(.bool true)) (Eq.trans (show (g 18).v=.bool (decide (a2.at_≥x15)) from (hd 18 rfl).1) (kb h16)) rfl bz) ?_
    refine fc r (fun fr1 g w' hb' hd r'=>zar r' (hd 22 rfl).1 bz) ?_;refine zav false (.bool true) r rfl rfl rfl (fun g w' hd=>Eq.trans (show (g 23).v=.bool true from (hd 23 rfl).1) (kb (rfl:true=_))) yai (fun _ _=>bz) ?_
    refine zav false (.bool true) r rfl rfl rfl (fun g w' hd=>Eq.trans (show (g 23).v=.bool true from (hd 23 rfl).1) (kb (rfl:true=_))) yai (fun _ _=>bz) ?_;refine zav false (.bool true) r rfl rfl rfl (fun g w' hd=>Eq.trans (show (g 23).v=.bool true from (hd 23 rfl).1) (kb (rfl:true=_))) yai (fun _ _=>bz) ?_
    refine fc r (fun fr1 g w' hb' hd r'=>zay r' (b:=true) (v:=(.bool true)) (Eq.trans (show (g 23).v=.bool true from (hd 23 rfl).1) (kb (rfl:true=_))) rfl bz) ?_;exact zb4
   intro fr gg w17 hb hΦ hap r;have r:=r.congr (sc ((hΦ 27 rfl).1) (sc ((hΦ 26 rfl).1) (sc ((hΦ 25 rfl).1) (sc ((hΦ 24 rfl).1) (sc ((hΦ 23 rfl).1) (sc ((hΦ 22 rfl).1) (sc ((hΦ 21 rfl).1) (sc ((hΦ 20 rfl).1) (sc ((hΦ 19 rfl).1) (sc ((hΦ 18 rfl).1) (sc ((hΦ 17 rfl).1) (sc ((hΦ 16 rfl).1) (sc ((hΦ 15 rfl).1) (sc ((hΦ 14 rfl).1) (sc ((hΦ 13 rfl).1) (sc ((hΦ 12 rfl).1) (sc ((hΦ 11 rfl).1) (sc ((hΦ 10 rfl).1) (sc ((hΦ 9 rfl).1) (sc ((hΦ 8 rfl).1) (sc ((hΦ 7 rfl).1) (sc ((hΦ 6 rfl).1) (sc ((hΦ 5 rfl).1) (sc ((hΦ 4 rfl).1) (sc ((hΦ 3 rfl).1) (sc ((hΦ 2 rfl).1) (sc ((hΦ 1 rfl).1) (sc ((hΦ 0 rfl).1) rfl))))))))))))))))))))))))))));have hP:=hP.below hb;exact nxy9 true () _ _ _ hD r (kO (kO zaC)) (hP.pick [0,1,2] rfl rfl)
  have hD:=(zaq h16).symm.trans hD;refine zaT (decide (a2.op<0)) (fun h18=>?_) (fun h18=>?_)
  ·
   have hD:=(zao h18).symm.trans hD;refine zda [.val (zp a0g.mb),.val (aq (capC a1)),.val (.bool x10),.val (.bool (!x10)),.val (.bool (!x10)),.val (.pointer (some ⟨b5,1,none⟩)),.val (I a2.at_),.val (.bool (decide (a2.at_<0))),.val (.bool (decide (a2.at_<0))),.val (.bool (decide (a2.at_<0))),.val (.pointer (some ⟨b5,1,none⟩)),.val (I a2.at_),.val (zp a0g.mb),.val (zp b1),.val (I a1.region),.val (I x15),.val (.bool (decide (a2.at_≥x15))),.val (.bool (decide (a2.at_≥x15))),.val (.bool (decide (a2.at_≥x15))),.val (zp b5),.val (I a2.op),.val (.bool (decide (a2.op<0))),.val (.bool (decide (a2.op<0))),.val (.bool (decide (a2.op<0))),.val undef,.val undef,.val undef,.val (.bool true)] mixed r kz ?_ ?_
   ·
    refine fc r (fun fr1 g w' hb' hd r'=>zar r' rfl bz) ?_;refine fc r (fun fr1 g w' hb' hd r'=>zac r' (cs:=(capC a1)) (n:=2) rfl ((hP.below (dr hb')).cell (i:=1) rfl) ta52 rfl bz) ?_
    refine fc r (fun fr1 g w' hb' hd r'=>zaF r' (args:=[(zp a0g.mb),(aq (capC a1))]) (lc (hd 0 rfl).1 (lc (hd 1 rfl).1 l0)) zqH ((zcn _ a0 ((hP.below (dr hb')).mem (i:=0) rfl) a1 hx10).mono yab)) ?_;refine fc r (fun fr1 g w' hb' hd r'=>y_un r' (u:=(.bool x10)) (v:=(.bool (!x10))) (hd 2 rfl).1 rfl bz) ?_
    refine fc r (fun fr1 g w' hb' hd r'=>zar r' (hd 3 rfl).1 bz) ?_;refine zap false r rfl rfl rfl (fun g w' hd=>Eq.trans (show (g 4).v=.bool (!x10) from (hd 4 rfl).1) (kb h11)) (fun fr1 g w' hb' hd r'=>?_) ?_
    · exact za3 r' (b:=b5) (o:=0) (k:=1) rfl zj2 bz
    refine zap false r rfl rfl rfl (fun g w' hd=>Eq.trans (show (g 4).v=.bool (!x10) from (hd 4 rfl).1) (kb h11)) (fun fr1 g w' hb' hd r'=>?_) ?_
    · exact za4 r' (v:=(I a2.at_)) (hd 5 rfl).1 ((hP.below (dr hb')).cell (i:=2) rfl) to3 rfl bz
    refine zap false r rfl rfl rfl (fun g w' hd=>Eq.trans (show (g 4).v=.bool (!x10) from (hd 4 rfl).1) (kb h11)) (fun fr1 g w' hb' hd r'=>?_) ?_
    · exact zpG r' (u:=(I a2.at_)) (u':=(I 0)) (v:=(.bool (decide (a2.at_<0)))) (hd 6 rfl).1 rfl rfl rfl bz
    refine fc r (fun fr1 g w' hb' hd r'=>zay r' (b:=false) (v:=(.bool (decide (a2.at_<0)))) (Eq.trans (show (g 4).v=.bool (!x10) from (hd 4 rfl).1) (kb h11)) (hd 7 rfl).1 bz) ?_;refine fc r (fun fr1 g w' hb' hd r'=>zar r' (hd 8 rfl).1 bz) ?_
    refine zap false r rfl rfl rfl (fun g w' hd=>Eq.trans (show (g 9).v=.bool (decide (a2.at_<0)) from (hd 9 rfl).1) (kb h13)) (fun fr1 g w' hb' hd r'=>?_) ?_
    · exact za3 r' (b:=b5) (o:=0) (k:=1) rfl zj2 bz
    refine zap false r rfl rfl rfl (fun g w' hd=>Eq.trans (show (g 9).v=.bool (decide (a2.at_<0)) from (hd 9 rfl).1) (kb h13)) (fun fr1 g w' hb' hd r'=>?_) ?_
    · exact za4 r' (v:=(I a2.at_)) (hd 10 rfl).1 ((hP.below (dr hb')).cell (i:=2) rfl) to3 rfl bz
    refine zap false r rfl rfl rfl (fun g w' hd=>Eq.trans (show (g 9).v=.bool (decide (a2.at_<0)) from (hd 9 rfl).1) (kb h13)) (fun fr1 g w' hb' hd r'=>?_) ?_
    · exact zar r' (v:=(zp a0g.mb)) rfl bz
    refine zap false r rfl rfl rfl (fun g w' hd=>Eq.trans (show (g 9).v=.bool (decide (a2.at_<0)) from (hd 9 rfl).1) (kb h13)) (fun fr1 g w' hb' hd r'=>?_) ?_
    · exact za3 r' (b:=b1) (o:=0) (k:=0) rfl zli bz
    refine zap false r rfl rfl rfl (fun g w' hd=>Eq.trans (show (g 9).v=.bool (decide (a2.at_<0)) from (hd 9 rfl).1) (kb h13)) (fun fr1 g w' hb' hd r'=>?_) ?_
    · exact za4 r' (v:=(I a1.region)) (hd 13 rfl).1 ((hP.below (dr hb')).cell (i:=1) rfl) to3 rfl bz
    refine zap false r rfl rfl rfl (fun g w' hd=>Eq.trans (show (g 9).v=.bool (decide (a2.at_<0)) from (hd 9 rfl).1) (kb h13)) (fun fr1 g w' hb' hd r'=>?_) ?_
    · exact zaF r' (args:=[(zp a0g.mb),(I a1.region)]) (lc (hd 12 rfl).1 (lc (hd 14 rfl).1 l0)) cl67 ((zd6 _ a0 ((hP.below (dr hb')).mem (i:=0) rfl) a1.region hx15).mono yab)
    refine zap false r rfl rfl rfl (fun g w' hd=>Eq.trans (show (g 9).v=.bool (decide (a2.at_<0)) from (hd 9 rfl).1) (kb h13)) (fun fr1 g w' hb' hd r'=>?_) ?_
    · exact zpG r' (u:=(I a2.at_)) (u':=(I x15)) (v:=(.bool (decide (a2.at_≥x15)))) (hd 11 rfl).1 (hd 15 rfl).1 rfl rfl bz
    refine fc r (fun fr1 g w' hb' hd r'=>zay r' (b:=false) (v:=(.bool (decide (a2.at_≥x15)))) (Eq.trans (show (g 9).v=.bool (decide (a2.at_<0)) from (hd 9 rfl).1) (kb h13)) (hd 16 rfl).1 bz) ?_;refine fc r (fun fr1 g w' hb' hd r'=>zar r' (hd 17 rfl).1 bz) ?_
    refine zap false r rfl rfl rfl (fun g w' hd=>Eq.trans (show (g 18).v=.bool (decide (a2.at_≥x15)) from (hd 18 rfl).1) (kb h16)) (fun fr1 g w' hb' hd r'=>?_) ?_
    · exact za3 r' (b:=b5) (o:=0) (k:=0) rfl zko bz
    refine zap false r rfl rfl rfl (fun g w' hd=>Eq.trans (show (g 18).v=.bool (decide (a2.at_≥x15)) from (hd 18 rfl).1) (kb h16)) (fun fr1 g w' hb' hd r'=>?_) ?_
    · exact za4 r' (v:=(I a2.op)) (hd 19 rfl).1 ((hP.below (dr hb')).cell (i:=2) rfl) to3 rfl bz
    refine zap false r rfl rfl rfl (fun g w' hd=>Eq.trans (show (g 18).v=.bool (decide (a2.at_≥x15)) from (hd 18 rfl).1) (kb h16)) (fun fr1 g w' hb' hd r'=>?_) ?_
    · exact zpG r' (u:=(I a2.op)) (u':=(I 0)) (v:=(.bool (decide (a2.op<0)))) (hd 20 rfl).1 rfl rfl rfl bz
    refine fc r (fun fr1 g w' hb' hd r'=>zay r' (b:=false) (v:=(.bool (decide (a2.op<0)))) (Eq.trans (show (g 18).v=.bool (decide (a2.at_≥x15)) from (hd 18 rfl).1) (kb h16)) (hd 21 rfl).1 bz) ?_;refine fc r (fun fr1 g w' hb' hd r'=>zar r' (hd 22 rfl).1 bz) ?_
    refine zav false (.bool true) r rfl rfl rfl (fun g w' hd=>Eq.trans (show (g 23).v=.bool (decide (a2.op<0)) from (hd 23 rfl).1) (kb h18)) yai (fun _ _=>bz) ?_;refine zav false (.bool true) r rfl rfl rfl (fun g w' hd=>Eq.trans (show (g 23).v=.bool (decide (a2.op<0)) from (hd 23 rfl).1) (kb h18)) yai (fun _ _=>bz) ?_
    refine zav false (.bool true) r rfl rfl rfl (fun g w' hd=>Eq.trans (show (g 23).v=.bool (decide (a2.op<0)) from (hd 23 rfl).1) (kb h18)) yai (fun _ _=>bz) ?_;refine fc r (fun fr1 g w' hb' hd r'=>zay r' (b:=true) (v:=(.bool true)) (Eq.trans (show (g 23).v=.bool (decide (a2.op<0)) from (hd 23 rfl).1) (kb h18)) rfl bz) ?_
    exact zb4
   intro fr gg w19 hb hΦ hap r;have r:=r.congr (sc ((hΦ 27 rfl).1) (sc ((hΦ 26 rfl).1) (sc ((hΦ 25 rfl).1) (sc ((hΦ 24 rfl).1) (sc ((hΦ 23 rfl).1) (sc ((hΦ 22 rfl).1) (sc ((hΦ 21 rfl).1) (sc ((hΦ 20 rfl).1) (sc ((hΦ 19 rfl).1) (sc ((hΦ 18 rfl).1) (sc ((hΦ 17 rfl).1) (sc ((hΦ 16 rfl).1) (sc ((hΦ 15 rfl).1) (sc ((hΦ 14 rfl).1) (sc ((hΦ 13 rfl).1) (sc ((hΦ 12 rfl).1) (sc ((hΦ 11 rfl).1) (sc ((hΦ 10 rfl).1) (sc ((hΦ 9 rfl).1) (sc ((hΦ 8 rfl).1) (sc ((hΦ 7 rfl).1) (sc ((hΦ 6 rfl).1) (sc ((hΦ 5 rfl).1) (sc ((hΦ 4 rfl).1) (sc ((hΦ 3 rfl).1) (sc ((hΦ 2 rfl).1) (sc ((hΦ 1 rfl).1) (sc ((hΦ 0 rfl).1) rfl))))))))))))))))))))))))))));have hP:=hP.below hb;exact nxy9 true () _ _ _ hD r (kO (kO zaC)) (hP.pick [0,1,2] rfl rfl)
  have hD:=(zaq h18).symm.trans hD;refine zda [.val (zp a0g.mb),.val (aq (capC a1)),.val (.bool x10),.val (.bool (!x10)),.val (.bool (!x10)),.val (.pointer (some ⟨b5,1,none⟩)),.val (I a2.at_),.val (.bool (decide (a2.at_<0))),.val (.bool (decide (a2.at_<0))),.val (.bool (decide (a2.at_<0))),.val (.pointer (some ⟨b5,1,none⟩)),.val (I a2.at_),.val (zp a0g.mb),.val (zp b1),.val (I a1.region),.val (I x15),.val (.bool (decide (a2.at_≥x15))),.val (.bool (decide (a2.at_≥x15))),.val (.bool (decide (a2.at_≥x15))),.val (zp b5),.val (I a2.op),.val (.bool (decide (a2.op<0))),.val (.bool (decide (a2.op<0))),.val (.bool (decide (a2.op<0))),.val (zp b5),.val (I a2.op),.val (.bool (decide (a2.op > 3))),.val (.bool (decide (a2.op > 3)))] mixed r kz ?_ ?_
  ·
   refine fc r (fun fr1 g w' hb' hd r'=>zar r' rfl bz) ?_;refine fc r (fun fr1 g w' hb' hd r'=>zac r' (cs:=(capC a1)) (n:=2) rfl ((hP.below (dr hb')).cell (i:=1) rfl) ta52 rfl bz) ?_
   refine fc r (fun fr1 g w' hb' hd r'=>zaF r' (args:=[(zp a0g.mb),(aq (capC a1))]) (lc (hd 0 rfl).1 (lc (hd 1 rfl).1 l0)) zqH ((zcn _ a0 ((hP.below (dr hb')).mem (i:=0) rfl) a1 hx10).mono yab)) ?_;refine fc r (fun fr1 g w' hb' hd r'=>y_un r' (u:=(.bool x10)) (v:=(.bool (!x10))) (hd 2 rfl).1 rfl bz) ?_
   refine fc r (fun fr1 g w' hb' hd r'=>zar r' (hd 3 rfl).1 bz) ?_;refine zap false r rfl rfl rfl (fun g w' hd=>Eq.trans (show (g 4).v=.bool (!x10) from (hd 4 rfl).1) (kb h11)) (fun fr1 g w' hb' hd r'=>?_) ?_
   · exact za3 r' (b:=b5) (o:=0) (k:=1) rfl zj2 bz
   refine zap false r rfl rfl rfl (fun g w' hd=>Eq.trans (show (g 4).v=.bool (!x10) from (hd 4 rfl).1) (kb h11)) (fun fr1 g w' hb' hd r'=>?_) ?_
   · exact za4 r' (v:=(I a2.at_)) (hd 5 rfl).1 ((hP.below (dr hb')).cell (i:=2) rfl) to3 rfl bz
   refine zap false r rfl rfl rfl (fun g w' hd=>Eq.trans (show (g 4).v=.bool (!x10) from (hd 4 rfl).1) (kb h11)) (fun fr1 g w' hb' hd r'=>?_) ?_
   · exact zpG r' (u:=(I a2.at_)) (u':=(I 0)) (v:=(.bool (decide (a2.at_<0)))) (hd 6 rfl).1 rfl rfl rfl bz
   refine fc r (fun fr1 g w' hb' hd r'=>zay r' (b:=false) (v:=(.bool (decide (a2.at_<0)))) (Eq.trans (show (g 4).v=.bool (!x10) from (hd 4 rfl).1) (kb h11)) (hd 7 rfl).1 bz) ?_;refine fc r (fun fr1 g w' hb' hd r'=>zar r' (hd 8 rfl).1 bz) ?_
   refine zap false r rfl rfl rfl (fun g w' hd=>Eq.trans (show (g 9).v=.bool (decide (a2.at_<0)) from (hd 9 rfl).1) (kb h13)) (fun fr1 g w' hb' hd r'=>?_) ?_
   · exact za3 r' (b:=b5) (o:=0) (k:=1) rfl zj2 bz
   refine zap false r rfl rfl rfl (fun g w' hd=>Eq.trans (show (g 9).v=.bool (decide (a2.at_<0)) from (hd 9 rfl).1) (kb h13)) (fun fr1 g w' hb' hd r'=>?_) ?_
   · exact za4 r' (v:=(I a2.at_)) (hd 10 rfl).1 ((hP.below (dr hb')).cell (i:=2) rfl) to3 rfl bz
   refine zap false r rfl rfl rfl (fun g w' hd=>Eq.trans (show (g 9).v=.bool (decide (a2.at_<0)) from (hd 9 rfl).1) (kb h13)) (fun fr1 g w' hb' hd r'=>?_) ?_
   · exact zar r' (v:=(zp a0g.mb)) rfl bz
   refine zap false r rfl rfl rfl (fun g w' hd=>Eq.trans (show (g 9).v=.bool (decide (a2.at_<0)) from (hd 9 rfl).1) (kb h13)) (fun fr1 g w' hb' hd r'=>?_) ?_
   · exact za3 r' (b:=b1) (o:=0) (k:=0) rfl zli bz
   refine zap false r rfl rfl rfl (fun g w' hd=>Eq.trans (show (g 9).v=.bool (decide (a2.at_<0)) from (hd 9 rfl).1) (kb h13)) (fun fr1 g w' hb' hd r'=>?_) ?_
   · exact za4 r' (v:=(I a1.region)) (hd 13 rfl).1 ((hP.below (dr hb')).cell (i:=1) rfl) to3 rfl bz
   refine zap false r rfl rfl rfl (fun g w' hd=>Eq.trans (show (g 9).v=.bool (decide (a2.at_<0)) from (hd 9 rfl).1) (kb h13)) (fun fr1 g w' hb' hd r'=>?_) ?_
   · exact zaF r' (args:=[(zp a0g.mb),(I a1.region)]) (lc (hd 12 rfl).1 (lc (hd 14 rfl).1 l0)) cl67 ((zd6 _ a0 ((hP.below (dr hb')).mem (i:=0) rfl) a1.region hx15).mono yab)
   refine zap false r rfl rfl rfl (fun g w' hd=>Eq.trans (show (g 9).v=.bool (decide (a2.at_<0)) from (hd 9 rfl).1) (kb h13)) (fun fr1 g w' hb' hd r'=>?_) ?_
   · exact zpG r' (u:=(I a2.at_)) (u':=(I x15)) (v:=(.bool (decide (a2.at_≥x15)))) (hd 11 rfl).1 (hd 15 rfl).1 rfl rfl bz
   refine fc r (fun fr1 g w' hb' hd r'=>zay r' (b:=false) (v:=(.bool (decide (a2.at_≥x15)))) (Eq.trans (show (g 9).v=.bool (decide (a2.at_<0)) from (hd 9 rfl).1) (kb h13)) (hd 16 rfl).1 bz) ?_;refine fc r (fun fr1 g w' hb' hd r'=>zar r' (hd 17 rfl).1 bz) ?_
   refine zap false r rfl rfl rfl (fun g w' hd=>Eq.trans (show (g 18).v=.bool (decide (a2.at_≥x15)) from (hd 18 rfl).1) (kb h16)) (fun fr1 g w' hb' hd r'=>?_) ?_
   · exact za3 r' (b:=b5) (o:=0) (k:=0) rfl zko bz
   refine zap false r rfl rfl rfl (fun g w' hd=>Eq.trans (show (g 18).v=.bool (decide (a2.at_≥x15)) from (hd 18 rfl).1) (kb h16)) (fun fr1 g w' hb' hd r'=>?_) ?_
   · exact za4 r' (v:=(I a2.op)) (hd 19 rfl).1 ((hP.below (dr hb')).cell (i:=2) rfl) to3 rfl bz
   refine zap false r rfl rfl rfl (fun g w' hd=>Eq.trans (show (g 18).v=.bool (decide (a2.at_≥x15)) from (hd 18 rfl).1) (kb h16)) (fun fr1 g w' hb' hd r'=>?_) ?_
   · exact zpG r' (u:=(I a2.op)) (u':=(I 0)) (v:=(.bool (decide (a2.op<0)))) (hd 20 rfl).1 rfl rfl rfl bz
   refine fc r (fun fr1 g w' hb' hd r'=>zay r' (b:=false) (v:=(.bool (decide (a2.op<0)))) (Eq.trans (show (g 18).v=.bool (decide (a2.at_≥x15)) from (hd 18 rfl).1) (kb h16)) (hd 21 rfl).1 bz) ?_;refine fc r (fun fr1 g w' hb' hd r'=>zar r' (hd 22 rfl).1 bz) ?_
   refine zap false r rfl rfl rfl (fun g w' hd=>Eq.trans (show (g 23).v=.bool (decide (a2.op<0)) from (hd 23 rfl).1) (kb h18)) (fun fr1 g w' hb' hd r'=>?_) ?_
   · exact za3 r' (b:=b5) (o:=0) (k:=0) rfl zko bz
   refine zap false r rfl rfl rfl (fun g w' hd=>Eq.trans (show (g 23).v=.bool (decide (a2.op<0)) from (hd 23 rfl).1) (kb h18)) (fun fr1 g w' hb' hd r'=>?_) ?_
   · exact za4 r' (v:=(I a2.op)) (hd 24 rfl).1 ((hP.below (dr hb')).cell (i:=2) rfl) to3 rfl bz
   refine zap false r rfl rfl rfl (fun g w' hd=>Eq.trans (show (g 23).v=.bool (decide (a2.op<0)) from (hd 23 rfl).1) (kb h18)) (fun fr1 g w' hb' hd r'=>?_) ?_
   · exact zpG r' (u:=(I a2.op)) (u':=(I 3)) (v:=(.bool (decide (a2.op > 3)))) (hd 25 rfl).1 rfl rfl rfl bz
   refine fc r (fun fr1 g w' hb' hd r'=>zay r' (b:=false) (v:=(.bool (decide (a2.op > 3)))) (Eq.trans (show (g 23).v=.bool (decide (a2.op<0)) from (hd 23 rfl).1) (kb h18)) (hd 26 rfl).1 bz) ?_;exact zb4
  intro fr gg w20 hb hΦ hap r;have r:=r.congr (sc ((hΦ 27 rfl).1) (sc ((hΦ 26 rfl).1) (sc ((hΦ 25 rfl).1) (sc ((hΦ 24 rfl).1) (sc ((hΦ 23 rfl).1) (sc ((hΦ 22 rfl).1) (sc ((hΦ 21 rfl).1) (sc ((hΦ 20 rfl).1) (sc ((hΦ 19 rfl).1) (sc ((hΦ 18 rfl).1) (sc ((hΦ 17 rfl).1) (sc ((hΦ 16 rfl).1) (sc ((hΦ 15 rfl).1) (sc ((hΦ 14 rfl).1) (sc ((hΦ 13 rfl).1) (sc ((hΦ 12 rfl).1) (sc ((hΦ 11 rfl).1) (sc ((hΦ 10 rfl).1) (sc ((hΦ 9 rfl).1) (sc ((hΦ 8 rfl).1) (sc ((hΦ 7 rfl).1) (sc ((hΦ 6 rfl).1) (sc ((hΦ 5 rfl).1) (sc ((hΦ 4 rfl).1) (sc ((hΦ 3 rfl).1) (sc ((hΦ 2 rfl).1) (sc ((hΦ 1 rfl).1) (sc ((hΦ 0 rfl).1) rfl))))))))))))))))))))))))))));have hP:=hP.below hb;exact nxy9 (decide (a2.op > 3)) () _ _ _ hD r (kO (kO zaC)) (hP.pick [0,1,2] rfl rfl)
 rintro x21 γ22 fr w23 g r hP hD;have hP:Post (fun b=>b∈(memK a0g a0).own) [memK a0g a0,zpi b1 ((capC a1)).toArray 52,zpi b5 ((zpu a2)).toArray 38] w0 w23:=hP
 refine ae (t:=x21) (r.ev rfl) (fun h24=>?_) (fun h24=>?_)
 ·
  have hD:=(zao h24).symm.trans hD;refine wsr (kA (U 0) r rfl rfl fun r=>kA (.bool false) r rfl rfl fun r=>wn (ac ?_));have hv:(0,false,a0)=res:=Option.some.inj hD
  try dsimp only [Exit.then,Exit.inBlock]
  refine zeR (fn:=Tryz.f65) r (t:=6) (t':=7) rfl (v:=(U 0)) (v':=(.bool false)) rfl rfl ?_;subst hv;exact ⟨rfl,(hP.pick [0] rfl rfl).done (zbo rfl zc1)⟩
 have hD:=(zaq h24).symm.trans hD;refine ag (aa ?_);obtain ⟨x25,hx25,hD⟩:=zaj hD;obtain ⟨x26,hx26,hD⟩:=zaj hD;refine zda [.val (zp a0g.mb),.val (zp a0g.mb),.val (zp a0g.mb),.val (.slice (some ⟨a0g.lb,0,none⟩) 1 a0g.cap),.val (zp b1),.val (I a1.region),.val (.pointer (some ⟨a0g.lb,0+a1.region.toNat * 1,none⟩)),.val (zp a0g.rb),.val (zp a0g.rb),.val (zp a0g.rb),.val (.slice (some ⟨a0g.wb,0,none⟩) a0.ws.length a0.ws.length),.val (.pointer (some ⟨b5,1,none⟩)),.val (I a2.at_),.val (.pointer (some ⟨a0g.wb,0+a2.at_.toNat * 1,none⟩)),.val (.pointer (some ⟨a0g.wb,0+a2.at_.toNat * 1,none⟩))] mixed r kz ?_ ?_
 ·
  refine fc r (fun fr1 g w' hb' hd r'=>zar r' rfl bz) ?_;refine fc r (fun fr1 g w' hb' hd r'=>zbm r' (hd 0 rfl).1 bz) ?_
  refine fc r (fun fr1 g w' hb' hd r'=>za3 r' (b:=a0g.mb) (o:=0) (hd 1 rfl).1 ziJ bz) ?_;refine fc r (fun fr1 g w' hb' hd r'=>za4 r' (hd 2 rfl).1 ((hP.below (dr hb')).mem (i:=0) rfl).hdr zqz rfl bz) ?_
  refine fc r (fun fr1 g w' hb' hd r'=>za3 r' (b:=b1) (o:=0) rfl zli bz) ?_;refine fc r (fun fr1 g w' hb' hd r'=>za4 r' (hd 4 rfl).1 ((hP.below (dr hb')).cell (i:=1) rfl) to3 rfl bz) ?_
  refine fc r (fun fr1 g w' hb' hd r'=>zec r' zrs (hd 3 rfl).1 (hd 5 rfl).1 (by have h0:=(zeQ hx25); omega) (by have h0:=(zeQ hx25); omega) bz) ?_;refine fc r (fun fr1 g w' hb' hd r'=>zjW r' ((hP.below (dr hb')).mem (i:=0) rfl) (hd 6 rfl).1 (zeQ hx25) zrz bz) ?_
  refine fc r (fun fr1 g w' hb' hd r'=>zbm r' (hd 7 rfl).1 bz) ?_;refine fc r (fun fr1 g w' hb' hd r'=>za3 r' (b:=a0g.rb) (o:=0) (hd 8 rfl).1 zlR bz) ?_
  refine fc r (fun fr1 g w' hb' hd r'=>za4 r' (hd 9 rfl).1 ((hP.below (dr hb')).mem (i:=0) rfl).reg to66 rfl bz) ?_;refine fc r (fun fr1 g w' hb' hd r'=>za3 r' (b:=b5) (o:=0) rfl zj2 bz) ?_
  refine fc r (fun fr1 g w' hb' hd r'=>za4 r' (hd 11 rfl).1 ((hP.below (dr hb')).cell (i:=2) rfl) to3 rfl bz) ?_;refine fc r (fun fr1 g w' hb' hd r'=>zec r' sl66 (hd 10 rfl).1 (hd 12 rfl).1 (zfT hx26).1 (zfT hx26).2.1 bz) ?_
  refine fc r (fun fr1 g w' hb' hd r'=>zbW r' (hd 13 rfl).1 bz) ?_;exact zb4
 intro fr gg w27 hb hΦ hap r;have r:=r.congr (sc ((hΦ 14 rfl).1) (sc ((hΦ 13 rfl).1) (sc ((hΦ 12 rfl).1) (sc ((hΦ 11 rfl).1) (sc ((hΦ 10 rfl).1) (sc ((hΦ 9 rfl).1) (sc ((hΦ 8 rfl).1) (sc ((hΦ 7 rfl).1) (sc ((hΦ 6 rfl).1) (sc ((hΦ 5 rfl).1) (sc ((hΦ 4 rfl).1) (sc ((hΦ 3 rfl).1) (sc ((hΦ 2 rfl).1) (sc ((hΦ 1 rfl).1) (sc ((hΦ 0 rfl).1) rfl)))))))))))))));have hP:=hP.below hb;refine wsr (kM (.pointer (some ⟨a0g.wb,0+a2.at_.toNat * 1,none⟩)) r rfl rfl fun r=>za0 (.pointer (some ⟨a0g.wb,0+a2.at_.toNat * 1,none⟩)) r (fun R=>zbm r rfl) rfl fun fr r=>za0 (U x26) r (fun R=>zin r (hP.mem (i:=0) rfl) hx26 rfl to34) rfl fun fr r=>kA (U x26) r rfl rfl fun r=>wn (aa (wp_block (wsr (kF 0 r rfl zko rfl fun r=>kL (I a2.op) r rfl (hP.cell (i:=2) rfl) to3 rfl rfl fun r=>kB r rfl rfl rfl rfl rfl fun r=>kA (.bool (a2.op==1)) r rfl rfl fun r=>wn ?_)))));refine zbs (N:=96) (Y:=Mem) (G:=Unit) (fun x γ=>[(0,(zp a0g.mb)),(1,(aq (capC a1))),(2,(aq (zpu a2))),(4,(zp b1)),(5,(zp b5)),(6,(U 0)),(7,(.bool false)),(37,(.bool x21)),(8,(.pointer (some ⟨a0g.wb,0+a2.at_.toNat * 1,none⟩))),(9,(U x26)),(55,(.bool (a2.op==1)))]) (fun x γ w=>Post (fun b=>b∈(memK a0g a0).own) [memK a0g x,zpi b1 ((capC a1)).toArray 52,zpi b5 ((zpu a2)).toArray 38] w0 w) hD ?_ ?_
 ·
  rintro y28 RPy28 nxy28 hD;refine ae (t:=(a2.op==1)) (r.ev rfl) (fun h29=>?_) (fun h29=>?_)
  ·
   have hD:=(zao h29).symm.trans hD;refine af (kM (.pointer (some ⟨a0g.wb,0+a2.at_.toNat * 1,none⟩)) r rfl rfl fun r=>kF 0 r rfl zn6 rfl fun r=>kL (U a2.a) r rfl (hP.cell (i:=2) rfl) to34 rfl rfl fun r=>za0 (.pointer (some ⟨a0g.wb,0+a2.at_.toNat * 1,none⟩)) r (fun R=>zbm r rfl) rfl fun fr r=>?_);refine zaD (.cells ((a0.ws.set a2.at_.toNat a2.a).flatMap u64).toArray 34 (0,0)) r (fun R=>zax r (o:=0+a2.at_.toNat * 1) (v:=(U a2.a)) rfl rfl (hP.mem (i:=0) rfl).wds ts34 (zlF hx26) rfl zhR) rfl fun fr w30 u31 r=>?_
   have hP:Post (fun b=>b∈(memK a0g a0).own) [memK a0g (Mem.put a0 a2.at_ a2.a),zpi b1 ((capC a1)).toArray 52,zpi b5 ((zpu a2)).toArray 38] w0 w30:=hP.memUpd (i:=0) rfl yaI u31 ((hP.mem (i:=0) rfl).setWord yat u31)
   refine wn ?_;exact nxy28 (Mem.put a0 a2.at_ a2.a) () _ _ _ hD r (kO (kO (zaa rfl (zaa rfl (zaa rfl zaC))))) (hP.pick [0,1,2] rfl rfl)
  have hD:=(zaq h29).symm.trans hD;refine aa ?_;refine zbs (N:=96) (Y:=Bool) (G:=Unit) (fun x γ=>[(0,(zp a0g.mb)),(1,(aq (capC a1))),(2,(aq (zpu a2))),(4,(zp b1)),(5,(zp b5)),(6,(U 0)),(7,(.bool false)),(37,(.bool x21)),(8,(.pointer (some ⟨a0g.wb,0+a2.at_.toNat * 1,none⟩))),(9,(U x26)),(55,(.bool (a2.op==1))),(63,(.bool x))]) (fun x γ w=>Post (fun b=>b∈(memK a0g a0).own) [memK a0g a0,zpi b1 ((capC a1)).toArray 52,zpi b5 ((zpu a2)).toArray 38] w0 w) hD ?_ ?_
  ·
   rintro y32 RPy32 nxy32 hD;refine af (kF 0 r rfl zko rfl fun r=>kL (I a2.op) r rfl (hP.cell (i:=2) rfl) to3 rfl rfl fun r=>kB r rfl rfl rfl rfl rfl fun r=>kM (.bool (a2.op==2)) r rfl rfl fun r=>?_);refine zaT (a2.op==2) (fun h33=>?_) (fun h33=>?_)
   ·
    have hD:=(zao h33).symm.trans hD;refine s1 r h33 (kM (U x26) r rfl rfl fun r=>s1 r h33 (kF 0 r rfl zn6 rfl fun r=>s1 r h33 (kL (U a2.a) r rfl (hP.cell (i:=2) rfl) to34 rfl rfl fun r=>s1 r h33 (kB r rfl rfl rfl rfl rfl fun r=>za0 (.bool (x26==a2.a)) r (fun R=>zay r (b:=true) (kb h33) rfl) rfl fun fr r=>kA (.bool (x26==a2.a)) r rfl rfl fun r=>wn ?_))));exact nxy32 (x26==a2.a) () _ _ _ hD r (kO (kO (kO zaC))) (hP.pick [0,1,2] rfl rfl)
   have hD:=(zaq h33).symm.trans hD;refine s0 r h33 fun fr r=>s0 r h33 fun fr r=>s0 r h33 fun fr r=>s0 r h33 fun fr r=>za0 (.bool false) r (fun R=>zay r (b:=false) (kb h33) rfl) rfl fun fr r=>kA (.bool false) r rfl rfl fun r=>wn ?_;exact nxy32 false () _ _ _ hD r (kO (kO (kO zaC))) (hP.pick [0,1,2] rfl rfl)
  rintro x34 γ35 fr w36 g r hP hD;have hP:Post (fun b=>b∈(memK a0g a0).own) [memK a0g a0,zpi b1 ((capC a1)).toArray 52,zpi b5 ((zpu a2)).toArray 38] w0 w36:=hP
  refine zbs (N:=96) (Y:=Mem) (G:=Unit) (fun x γ=>[(0,(zp a0g.mb)),(1,(aq (capC a1))),(2,(aq (zpu a2))),(4,(zp b1)),(5,(zp b5)),(6,(U 0)),(7,(.bool false)),(37,(.bool x21)),(8,(.pointer (some ⟨a0g.wb,0+a2.at_.toNat * 1,none⟩))),(9,(U x26)),(55,(.bool (a2.op==1))),(63,(.bool x34))]) (fun x γ w=>Post (fun b=>b∈(memK a0g a0).own) [memK a0g x,zpi b1 ((capC a1)).toArray 52,zpi b5 ((zpu a2)).toArray 38] w0 w) hD ?_ ?_
  ·
   rintro y37 RPy37 nxy37 hD;refine ae (t:=x34) (r.ev rfl) (fun h38=>?_) (fun h38=>?_)
   ·
    have hD:=(zao h38).symm.trans hD;refine af (kM (.pointer (some ⟨a0g.wb,0+a2.at_.toNat * 1,none⟩)) r rfl rfl fun r=>kF 0 r rfl zp3 rfl fun r=>kL (U a2.b) r rfl (hP.cell (i:=2) rfl) to34 rfl rfl fun r=>za0 (.pointer (some ⟨a0g.wb,0+a2.at_.toNat * 1,none⟩)) r (fun R=>zbm r rfl) rfl fun fr r=>?_);refine zaD (.cells ((a0.ws.set a2.at_.toNat a2.b).flatMap u64).toArray 34 (0,0)) r (fun R=>zax r (o:=0+a2.at_.toNat * 1) (v:=(U a2.b)) rfl rfl (hP.mem (i:=0) rfl).wds ts34 (zlF hx26) rfl zhR) rfl fun fr w39 u40 r=>?_
    have hP:Post (fun b=>b∈(memK a0g a0).own) [memK a0g (Mem.put a0 a2.at_ a2.b),zpi b1 ((capC a1)).toArray 52,zpi b5 ((zpu a2)).toArray 38] w0 w39:=hP.memUpd (i:=0) rfl yaI u40 ((hP.mem (i:=0) rfl).setWord yat u40)
    refine wn ?_;exact nxy37 (Mem.put a0 a2.at_ a2.b) () _ _ _ hD r (kO (kO (kO zaC))) (hP.pick [0,1,2] rfl rfl)
   have hD:=(zaq h38).symm.trans hD;refine wsr (kF 0 r rfl zko rfl fun r=>kL (I a2.op) r rfl (hP.cell (i:=2) rfl) to3 rfl rfl fun r=>kB r rfl rfl rfl rfl rfl fun r=>kA (.bool (a2.op==3)) r rfl rfl fun r=>wn ?_);refine zbs (N:=96) (Y:=Mem) (G:=Unit) (fun x γ=>[(0,(zp a0g.mb)),(1,(aq (capC a1))),(2,(aq (zpu a2))),(4,(zp b1)),(5,(zp b5)),(6,(U 0)),(7,(.bool false)),(37,(.bool x21)),(8,(.pointer (some ⟨a0g.wb,0+a2.at_.toNat * 1,none⟩))),(9,(U x26)),(55,(.bool (a2.op==1))),(63,(.bool x34)),(77,(.bool (a2.op==3)))]) (fun x γ w=>Post (fun b=>b∈(memK a0g a0).own) [memK a0g x,zpi b1 ((capC a1)).toArray 52,zpi b5 ((zpu a2)).toArray 38] w0 w) hD ?_ ?_
   ·
    rintro y41 RPy41 nxy41 hD;refine ae (t:=(a2.op==3)) (r.ev rfl) (fun h42=>?_) (fun h42=>?_)
    ·
     have hD:=(zao h42).symm.trans hD;refine zaB 7 [.val (.pointer (some ⟨a0g.wb,0+a2.at_.toNat * 1,none⟩)),.val (.pointer (some ⟨a0g.wb,0+a2.at_.toNat * 1,none⟩)),.val (U x26),.val (.pointer (some ⟨b5,2,none⟩)),.val (U a2.a),.val (U (V (x26+a2.a))),.val (.pointer (some ⟨a0g.wb,0+a2.at_.toNat * 1,none⟩))] mixed r kz (kV (kV (kV (kV (kV (kV (kV zat))))))) ?_ ?_
     ·
      refine ec r (fun _ u _ b d s=>zar s rfl bz) (ec r (fun _ u _ b d s=>zbm s d.1 bz) (ec r (fun _ u _ b d s=>zin s ((hP.below (dr b)).mem (i:=0) rfl) hx26 d.1 to34 bz) (ec r (fun _ u _ b d s=>za3 s (b:=b5) (o:=0) rfl zn6 bz) (ec r (fun _ u _ b d s=>za4 s d.1 ((hP.below (dr b)).cell (i:=2) rfl) to34 rfl bz) (ec r (fun _ u _ b d s=>zpG s d.1 d.2.1 rfl rfl bz) (ec r (fun _ u _ b d s=>zbm s d.1 bz) ?_))))));exact zaO
     intro fr u w43 hb hΦ hne r;have r:=r.congr (sc (hΦ 6 ke) (sc (hΦ 5 ke) (sc (hΦ 4 ke) (sc (hΦ 3 ke) (sc (hΦ 2 ke) (sc (hΦ 1 ke) (sc (hΦ 0 ke) rfl)))))));have hP:=hP.below hb;refine zaD (.cells ((a0.ws.set a2.at_.toNat (V (x26+a2.a))).flatMap u64).toArray 34 (0,0)) r (fun R=>zax r (o:=0+a2.at_.toNat * 1) (v:=(U (V (x26+a2.a)))) rfl rfl (hP.mem (i:=0) rfl).wds ts34 (zlF hx26) rfl zhR) rfl fun fr w44 u45 r=>?_;have hP:Post (fun b=>b∈(memK a0g a0).own) [memK a0g (Mem.put a0 a2.at_ (V (x26+a2.a))),zpi b1 ((capC a1)).toArray 52,zpi b5 ((zpu a2)).toArray 38] w0 w44:=hP.memUpd (i:=0) rfl yaI u45 ((hP.mem (i:=0) rfl).setWord yat u45)
     refine wn ?_;exact nxy41 (Mem.put a0 a2.at_ (V (x26+a2.a))) () _ _ _ hD r (kO (kO (kO (zaa rfl zaC)))) (hP.pick [0,1,2] rfl rfl)
    have hD:=(zaq h42).symm.trans hD;refine ag ?_;exact nxy41 a0 () _ _ _ hD r (kO (kO (kO (zaa rfl zaC)))) (hP.pick [0,1,2] rfl rfl)
   rintro x46 γ47 fr w48 g r hP hD;have hP:Post (fun b=>b∈(memK a0g a0).own) [memK a0g x46,zpi b1 ((capC a1)).toArray 52,zpi b5 ((zpu a2)).toArray 38] w0 w48:=hP
   exact nxy37 x46 () _ _ _ hD r (kO (kO (kO zaC))) (hP.pick [0,1,2] rfl rfl)
  rintro x49 γ50 fr w51 g r hP hD;have hP:Post (fun b=>b∈(memK a0g a0).own) [memK a0g x49,zpi b1 ((capC a1)).toArray 52,zpi b5 ((zpu a2)).toArray 38] w0 w51:=hP
  exact nxy28 x49 () _ _ _ hD r (kO (kO (zaa rfl (zaa rfl (zaa rfl zaC))))) (hP.pick [0,1,2] rfl rfl)
 rintro x52 γ53 fr w54 g r hP hD;have hP:Post (fun b=>b∈(memK a0g a0).own) [memK a0g x52,zpi b1 ((capC a1)).toArray 52,zpi b5 ((zpu a2)).toArray 38] w0 w54:=hP
 refine wsr (kM (zp a0g.mb) r rfl rfl fun r=>za0 (zp a0g.mb) r (fun R=>zbm r rfl) rfl fun fr r=>za0 _ r (fun R=>za3 r (b:=a0g.mb) (o:=0) (k:=1) rfl zn3) rfl fun fr r=>kL (I x52.cnt) r rfl (hP.mem (i:=0) rfl).hdr to3 rfl rfl fun r=>kB r rfl rfl rfl rfl rfl fun r=>za0 (zp a0g.mb) r (fun R=>zbm r rfl) rfl fun fr r=>za0 _ r (fun R=>za3 r (b:=a0g.mb) (o:=0) (k:=1) rfl zn3) rfl fun fr r=>?_);refine zaD (.cells #[.slice (some ⟨a0g.lb,0,none⟩) 1 a0g.cap,.int .i64 (W (x52.cnt+1))] 145 (0,0)) r (fun R=>zax r (o:=1) (v:=(I (W (x52.cnt+1)))) rfl rfl (hP.mem (i:=0) rfl).hdr ts3 ak rfl rfl) rfl fun fr w55 u56 r=>?_
 have hP:Post (fun b=>b∈(memK a0g a0).own) [memK a0g ({ x52 with cnt:=(W (x52.cnt+1)) }),zpi b1 ((capC a1)).toArray 52,zpi b5 ((zpu a2)).toArray 38] w0 w55:=hP.memUpd (i:=0) rfl yaI u56 ((hP.mem (i:=0) rfl).setCnt u56)
 refine wn (wsr (kM (U x26) r rfl rfl fun r=>kA (U x26) r rfl rfl fun r=>kA (.bool true) r rfl rfl fun r=>wn (ac ?_)));have hv:(x26,true,({ x52 with cnt:=(W (x52.cnt+1)) }))=res:=Option.some.inj hD
 try dsimp only [Exit.then,Exit.inBlock]
 refine zeR (fn:=Tryz.f65) r (t:=6) (t':=7) rfl (v:=(U x26)) (v':=(.bool true)) rfl rfl ?_;subst hv;exact ⟨rfl,(hP.pick [0] rfl rfl).done (zbo rfl zc1)⟩
def D.zbL (fu:Nat) (a0:Mem) (a1:Int) (a2:Int):Option (Int):=(Option.bind (bif (decide (a2<0)) then (some true) else ((D.zci fu a0 a1).bind (fun (x3:Int)=>(some (decide (a2≥x3)))))) (fun (x5:Bool)=>(bif x5 then (some 0) else ((zeroI a1).bind (fun (x9:Unit)=>((getI a0.ws a2).bind (fun (x10:Int)=>(some x10))))))))
theorem zdb {fu:Nat} (w0:World) {a0g:MG} (a0:Mem) (a0h:MemAt a0g a0 w0) (a1:Int) (a2:Int) {res:Int} (hD:D.zbL fu a0 a1 a2=some res) :
    Calls ar 21 #[zp a0g.mb,.int .i64 a1,.int .i64 a2] w0 (zpx (.int .u64 res) w0):=by
 refine enter Tryz.func21 rfl 29 rfl rfl fun fr r=>?_;have hP:Post No [] w0 w0:=Post.nil w0
 have hP:Post No [memR a0g a0] w0 w0:=hP.addRo zcM a0h rfl a0h.lt;unfold D.zbL at hD
 refine wsr (kA (U 0) r rfl rfl fun r=>wn (aa (aa ?_)));refine zbs (N:=29) (Y:=Bool) (G:=Unit) (fun x γ=>[(0,(zp a0g.mb)),(1,(I a1)),(2,(I a2)),(6,(U 0)),(15,(.bool x))]) (fun x γ w=>Post No [memR a0g a0] w0 w) hD ?_ ?_
 ·
  rintro y1 RPy1 nxy1 hD;refine af (kM (I a2) r rfl rfl fun r=>kB r rfl rfl rfl rfl rfl fun r=>kM (.bool (decide (a2<0))) r rfl rfl fun r=>?_);refine zaT (decide (a2<0)) (fun h2=>?_) (fun h2=>?_)
  ·
   have hD:=(zao h2).symm.trans hD;refine s0 r h2 fun fr r=>s0 r h2 fun fr r=>s0 r h2 fun fr r=>s0 r h2 fun fr r=>s0 r h2 fun fr r=>za0 (.bool true) r (fun R=>zay r (b:=true) (kb h2) rfl) rfl fun fr r=>wn ?_;exact nxy1 true () _ _ _ hD r (kO (zaa rfl zaC)) (hP.pick [0] rfl rfl)
  have hD:=(zaq h2).symm.trans hD;refine s1 r h2 (kM (I a2) r rfl rfl fun r=>s1 r h2 (kM (zp a0g.mb) r rfl rfl fun r=>s1 r h2 (kM (I a1) r rfl rfl fun r=>s1 r h2 ?_)));obtain ⟨x3,hx3,hD⟩:=zaj hD
  refine kE r (zd6 w0 a0 (hP.memr (i:=0) rfl) a1 hx3) rfl cl67 rfl fun w4 hb r=>?_;have hP:=hP.below hb
  refine s1 r h2 (kB r rfl rfl rfl rfl rfl fun r=>za0 (.bool (decide (a2≥x3))) r (fun R=>zay r (b:=false) (kb h2) rfl) rfl fun fr r=>wn ?_);exact nxy1 (decide (a2≥x3)) () _ _ _ hD r (kO (zaa rfl zaC)) (hP.pick [0] rfl rfl)
 rintro x5 γ6 fr w7 g r hP hD;have hP:Post No [_] w0 w7:=hP;refine ae (t:=x5) (r.ev rfl) (fun h8=>?_) (fun h8=>?_)
 ·
  have hD:=(zao h8).symm.trans hD;refine wsr (kA (U 0) r rfl rfl fun r=>wn (ac ?_));have hv:0=res:=Option.some.inj hD
  try dsimp only [Exit.then,Exit.inBlock]
  refine zaH (fn:=Tryz.f21) r (t:=6) rfl (v:=(U 0)) rfl ?_;subst hv;exact ⟨rfl,hP.chg.below⟩
 have hD:=(zaq h8).symm.trans hD;refine ag (wsr (kM (zp a0g.mb) r rfl rfl fun r=>za0 (zp a0g.mb) r (fun R=>zbm r rfl) rfl fun fr r=>za0 _ r (fun R=>za3 r (b:=a0g.mb) (o:=0) (k:=0) rfl ziJ) rfl fun fr r=>kL (.slice (some ⟨a0g.lb,0,none⟩) 1 a0g.cap) r rfl (hP.memr (i:=0) rfl).hdr zqz rfl rfl fun r=>kM (I a1) r rfl rfl fun r=>?_));obtain ⟨x9,hx9,hD⟩:=zaj hD
 refine za0 (.pointer (some ⟨a0g.lb,0+a1.toNat * 1,none⟩)) r (fun R=>zec r zrs rfl rfl (by have h0:=(zeQ hx9); omega) (by have h0:=(zeQ hx9); omega)) rfl fun fr r=>za0 (zp a0g.rb) r (fun R=>zjW r (hP.memr (i:=0) rfl) rfl (zeQ hx9) zrz) rfl fun fr r=>za0 (zp a0g.rb) r (fun R=>zbm r rfl) rfl fun fr r=>za0 _ r (fun R=>za3 r (b:=a0g.rb) (o:=0) (k:=0) rfl zlR) rfl fun fr r=>kL (.slice (some ⟨a0g.wb,0,none⟩) a0.ws.length a0.ws.length) r rfl (hP.memr (i:=0) rfl).reg to66 rfl rfl fun r=>kM (I a2) r rfl rfl fun r=>?_;obtain ⟨x10,hx10,hD⟩:=zaj hD
 refine za0 (.pointer (some ⟨a0g.wb,0+a2.toNat * 1,none⟩)) r (fun R=>zec r sl66 rfl rfl (zfT hx10).1 (zfT hx10).2.1) rfl fun fr r=>za0 (U x10) r (fun R=>zin r (hP.memr (i:=0) rfl) hx10 rfl to34) rfl fun fr r=>kA (U x10) r rfl rfl fun r=>wn (ac ?_);have hv:x10=res:=Option.some.inj hD
 try dsimp only [Exit.then,Exit.inBlock]
 refine zaH (fn:=Tryz.f21) r (t:=6) rfl (v:=(U x10)) rfl ?_;subst hv;exact ⟨rfl,hP.chg.below⟩
end Go.Proofs.YtbbipmelhmgmfaaGreat

/- Some of our texts, one behind the other. -/
import Derived.Test.YtbbipmelhmgmfaaGreatDpM24
import Derived.WalkKit
import Derived.ProofKit
import Derived.OpenShut
import Derived.ShutString
import Derived.ChangeOld
import Derived.Below
import Derived.Carry
import Derived.SizedLaws
import Derived.Deep.Slices
import Derived.Deep.Fields
import Derived.ChangeSame
import Derived.Test.YtbbipmelhmgmfaaGreatRows
set_option linter.all false
set_option maxRecDepth 100000
set_option maxHeartbeats 20000000
/- Ours. -/
namespace Go.Proofs.YtbbipmelhmgmfaaGreat.Wk
open Go.RowKit
abbrev pL0:Plan:=⟨40,1,4,2,3,1000⟩
theorem cl43:zpf ar 43:=kz
theorem cl46:zpf ar 46:=kz
theorem ztH:ar.eqGuardType ar.depth 104=false:=kz
theorem eg36:ar.eqGuardType ar.depth 36=false:=kz
theorem zp7 (x y:Entry) (w:World):(binOp .eql 104 (aq (zpw x)) (aq (zpw y))).run ar w=.ok (.bool (x==y)) w∧(binOp .neq 104 (aq (zpw x)) (aq (zpw y))).run ar w=.ok (.bool (!(x==y))) w:=
 znE [(.u64,x.key,y.key),(.u64,x.value,y.value)] kz kz kz kz (by cases x; cases y; rw [Bool.eq_iff_iff]; simp)
theorem zuA (x y:Res) (w:World):(binOp .eql 36 (aq (resC x)) (aq (resC y))).run ar w=.ok (.bool (x==y)) w∧(binOp .neq 36 (aq (resC x)) (aq (resC y))).run ar w=.ok (.bool (!(x==y))) w:=
 znE [(.i64,x.e,y.e),(.u64,x.v,y.v)] kz kz kz kz (by cases x; cases y; rw [Bool.eq_iff_iff]; simp)
theorem zoG:zpq ar 104 0 0:=kz
theorem is98:isSlice ar 98:=kz
theorem sl82:sliceTy ar 82 2:=kz
theorem sl98:sliceTy ar 98 3:=kz
theorem zsh:tyA ar 104 2:=kz
theorem zrv:sized ar 101 3:=kz
theorem zrf:zeroOf ar 101=some (aq (zpm (⟨0,0,0⟩:CallD))):=kz
def D.zbZ (fu:Nat) (a0:List CallD) (a1:List CallD) (a2:Int):Option (Bool):=(Option.bind ((D.zc4 fu ).bind (fun (x2:Bool)=>(bif (!x2) then (some true) else (bif (decide ((a0.length:Int) > 20)) then (some true) else (some (decide ((a1.length:Int) > 20))))))) (fun (x6:Bool)=>(bif x6 then ((D.zc4 fu ).bind (fun (x10:Bool)=>(some x10))) else ((D.zbw fu (⟨40,1,4,2,3,1000⟩:Plan)).bind (fun (x18:Mem)=>((D.zbw fu (⟨40,1,4,2,3,1000⟩:Plan)).bind (fun (x22:Mem)=>(loopThen (fun (x26:Bool × Int × Mem × Mem)=>(Option.bind (bif (decide (x26.2.1<(a0.length:Int))) then (some true) else (some (decide (x26.2.1<(a1.length:Int))))) (fun (x32:Bool)=>(bif x32 then (bif (decide (x26.2.1<(a0.length:Int))) then ((getI a0 x26.2.1).bind (fun (x37:CallD)=>((D.zb0 fu (⟨40,1,4,2,3,1000⟩:Plan) x26.2.2.1 0 ({ x37 with k:=(IntKind.u64.wrap (x37.k - (x37.k.tmod 3))) })).bind (fun (x46:Res × Mem)=>((D.zb0 fu (⟨40,1,4,2,3,1000⟩:Plan) x26.2.2.2 0 ({ x37 with k:=(IntKind.u64.wrap (x37.k - (x37.k.tmod 3))) })).bind (fun (x48:Res × Mem)=>(bif (!(x46.1==x48.1)) then (some (Lp.ret false)) else (Option.bind (bif (decide (x26.2.1<(a1.length:Int))) then ((getI a1 x26.2.1).bind (fun (x53:CallD)=>(Option.bind (bif ((a2.tmod 2)==0) then (some (decide ((({ x53 with k:=(IntKind.u64.wrap (x53.k - (x53.k.tmod 3))) }).k)<9223372036854775808))) else (some false)) (fun (x64:Bool)=>(Option.bind (bif x64 then (some (({ ({ x53 with k:=(IntKind.u64.wrap (x53.k - (x53.k.tmod 3))) }) with k:=(IntKind.u64.wrap ((({ x53 with k:=(IntKind.u64.wrap (x53.k - (x53.k.tmod 3))) }).k)+1)) }),0)) else (some (({ x53 with k:=(IntKind.u64.wrap (x53.k - (x53.k.tmod 3))) }),1))) (fun (x71:CallD × Int)=>((D.zb0 fu (⟨40,1,4,2,3,1000⟩:Plan) x46.2 x71.2 x71.1).bind (fun (x74:Res × Mem)=>(some x74.2))))))))) else (some x46.2)) (fun (x76:Mem)=>(some (Lp.next (x26.1,(IntKind.i64.wrap (x26.2.1+1)),x76,x48.2)))))))))))) else (Option.bind (bif (decide (x26.2.1<(a1.length:Int))) then ((getI a1 x26.2.1).bind (fun (x81:CallD)=>(Option.bind (bif ((a2.tmod 2)==0) then (some (decide ((({ x81 with k:=(IntKind.u64.wrap (x81.k - (x81.k.tmod 3))) }).k)<9223372036854775808))) else (some false)) (fun (x92:Bool)=>(Option.bind (bif x92 then (some (({ ({ x81 with k:=(IntKind.u64.wrap (x81.k - (x81.k.tmod 3))) }) with k:=(IntKind.u64.wrap ((({ x81 with k:=(IntKind.u64.wrap (x81.k - (x81.k.tmod 3))) }).k)+1)) }),0)) else (some (({ x81 with k:=(IntKind.u64.wrap (x81.k - (x81.k.tmod 3))) }),1))) (fun (x99:CallD × Int)=>((D.zb0 fu (⟨40,1,4,2,3,1000⟩:Plan) x26.2.2.1 x99.2 x99.1).bind (fun (x102:Res × Mem)=>(some x102.2))))))))) else (some x26.2.2.1)) (fun (x104:Mem)=>(some (Lp.next (x26.1,(IntKind.i64.wrap (x26.2.1+1)),x104,x26.2.2.2)))))) else (some (Lp.brk (x26.1,x26.2.1,x26.2.2.1,x26.2.2.2))))))) fu (false,0,x18,x22) (fun (x107:Bool × Int × Mem × Mem)=>((D.zcc fu (⟨40,1,4,2,3,1000⟩:Plan) x107.2.2.1 0 0).bind (fun (x110:List Entry)=>((D.zcc fu (⟨40,1,4,2,3,1000⟩:Plan) x107.2.2.2 0 0).bind (fun (x113:List Entry)=>(loopThen (fun (x117:Bool × Int × Int)=>(bif (decide (x117.2.2<(x110.length:Int))) then ((getI x110 x117.2.2).bind (fun (x122:Entry)=>(bif ((x122.key.tmod 3) !=0) then (some (Lp.next (x117.1,x117.2.1,(IntKind.i64.wrap (x117.2.2+1))))) else (Option.bind (bif (decide (x117.2.1≥(x113.length:Int))) then (some true) else ((getI x110 x117.2.2).bind (fun (x127:Entry)=>((getI x113 x117.2.1).bind (fun (x128:Entry)=>(some (!(x127==x128)))))))) (fun (x130:Bool)=>(bif x130 then (some (Lp.ret false)) else (some (Lp.next (x117.1,(IntKind.i64.wrap (x117.2.1+1)),(IntKind.i64.wrap (x117.2.2+1))))))))))) else (some (Lp.brk (x117.1,x117.2.1,x117.2.2))))) fu (x107.1,0,0) (fun (x134:Bool × Int × Int)=>(some (x134.2.1==(x113.length:Int))))))))))))))))))
theorem zfM {fu:Nat} (w0:World) {a0v:Value} (a0:List CallD) (a0h:RoAt 101 3 zpm a0v a0 w0) {a1v:Value} (a1:List CallD) (a1h:RoAt 101 3 zpm a1v a1 w0) (a2:Int) {res:Bool} (hD:D.zbZ fu a0 a1 a2=some res) :
    Calls ar 8 #[a0v,a1v,.int .u8 a2] w0 (zpx (.bool res) w0):=by
 refine enter Tryz.func8 rfl 150 rfl rfl fun fr r=>?_;have hP:Post No [] w0 w0:=Post.nil w0
 have hP:Post No [roK 101 3 zpm a0v a0] w0 w0:=hP.addRo zcM a0h rfl a0h.lt;have hP:Post No [_,roK 101 3 zpm a1v a1] w0 w0:=hP.addRo (zll rfl zcM) a1h rfl a1h.lt;unfold D.zbZ at hD
 refine wsr (kA (.bool false) r rfl rfl fun r=>wn (aa (aa ?_)));refine zbs (N:=150) (Y:=Bool) (G:=Unit) (fun x γ=>[(0,a0v),(1,a1v),(2,(.int .u8 a2)),(6,(.bool false)),(29,(.bool x))]) (fun x γ w=>Post No [roK 101 3 zpm a0v a0,roK 101 3 zpm a1v a1] w0 w) hD ?_ ?_
 ·
  rintro y1 RPy1 nxy1 hD;refine af ?_;obtain ⟨x2,hx2,hD⟩:=zaj hD;refine kE r (zeJ w0  hx2) rfl cl43 rfl fun w3 hb r=>?_;have hP:=hP.below hb
  refine za0 (.bool (!x2)) r (fun R=>y_un r (u:=(.bool x2)) rfl rfl) rfl fun fr r=>kM (.bool (!x2)) r rfl rfl fun r=>?_;refine zaT (!x2) (fun h4=>?_) (fun h4=>?_)
  ·
   have hD:=(zao h4).symm.trans hD;refine s0 r h4 fun fr r=>s0 r h4 fun fr r=>s0 r h4 fun fr r=>za0 (.bool true) r (fun R=>zay r (b:=true) (kb h4) rfl) rfl fun fr r=>kM (.bool true) r rfl rfl fun r=>s0 r (rfl:true=_) fun fr r=>s0 r (rfl:true=_) fun fr r=>s0 r (rfl:true=_) fun fr r=>za0 (.bool true) r (fun R=>zay r (b:=true) (kb (rfl:true=_)) rfl) rfl fun fr r=>wn ?_;exact nxy1 true () _ _ _ hD r (kO (zaa rfl zaC)) (hP.pick [0,1] rfl rfl)
  have hD:=(zaq h4).symm.trans hD;refine s1 r h4 (kM a0v r rfl rfl fun r=>s1 r h4 (za0 (I (a0.length:Int)) r (fun R=>zbN r (hP.ro (i:=0) rfl) is98 rfl) rfl fun fr r=>s1 r h4 (kB r rfl rfl rfl rfl rfl fun r=>za0 (.bool (decide ((a0.length:Int) > 20))) r (fun R=>zay r (b:=false) (kb h4) rfl) rfl fun fr r=>kM (.bool (decide ((a0.length:Int) > 20))) r rfl rfl fun r=>?_)));refine zaT (decide ((a0.length:Int) > 20)) (fun h5=>?_) (fun h5=>?_)
  ·
   have hD:=(zao h5).symm.trans hD;refine s0 r h5 fun fr r=>s0 r h5 fun fr r=>s0 r h5 fun fr r=>za0 (.bool true) r (fun R=>zay r (b:=true) (kb h5) rfl) rfl fun fr r=>wn ?_;exact nxy1 true () _ _ _ hD r (kO (zaa rfl zaC)) (hP.pick [0,1] rfl rfl)
  have hD:=(zaq h5).symm.trans hD;refine s1 r h5 (kM a1v r rfl rfl fun r=>s1 r h5 (za0 (I (a1.length:Int)) r (fun R=>zbN r (hP.ro (i:=1) rfl) is98 rfl) rfl fun fr r=>s1 r h5 (kB r rfl rfl rfl rfl rfl fun r=>za0 (.bool (decide ((a1.length:Int) > 20))) r (fun R=>zay r (b:=false) (kb h5) rfl) rfl fun fr r=>wn ?_)));exact nxy1 (decide ((a1.length:Int) > 20)) () _ _ _ hD r (kO (zaa rfl zaC)) (hP.pick [0,1] rfl rfl)
 rintro x6 γ7 fr w8 g r hP hD;have hP:Post No [_,_] w0 w8:=hP;refine ae (t:=x6) (r.ev rfl) (fun h9=>?_) (fun h9=>?_)
 ·
  have hD:=(zao h9).symm.trans hD;refine wsr ?_;obtain ⟨x10,hx10,hD⟩:=zaj hD;refine kE r (zeJ w8  hx10) rfl cl43 rfl fun w11 hb r=>?_;have hP:=hP.below hb
  refine kA (.bool x10) r rfl rfl fun r=>wn (ac ?_);have hv:x10=res:=Option.some.inj hD
  try dsimp only [Exit.then,Exit.inBlock]
  refine zaH (fn:=Tryz.f8) r (t:=6) rfl (v:=(.bool x10)) rfl ?_;subst hv;exact ⟨rfl,hP.chg.below⟩
 have hD:=(zaq h9).symm.trans hD;refine ag (wsr (kU (aq (zpg pL0)) r kz rfl fun r=>?_))
 refine za7 (.cells ((zpg (⟨0,0,0,0,0,0⟩:Plan))).toArray 23 (0,0)) r (fun R=>za6 tz23) rfl fun fr b12 w13 n14 r=>?_;have hP:Post No [_,_,zpi b12 ((zpg (⟨0,0,0,0,0,0⟩:Plan))).toArray 23] w0 w13:=hP.new n14
 refine zaD (.cells ((zpg pL0)).toArray 23 (0,0)) r (fun R=>zax r (o:=0) (v:=(aq (zpg pL0))) rfl rfl (hP.cell (i:=2) rfl) ts23 ak rfl rfl) rfl fun fr w16 u17 r=>?_;have hP:Post No [_,_,zpi b12 ((zpg pL0)).toArray 23] w0 w16:=hP.upd (i:=2) rfl u17
 refine wn (wsr (kG (zpg pL0) 6 r rfl (hP.cell (i:=2) rfl) ta23 rfl rfl fun r=>?_));obtain ⟨x18,hx18,hD⟩:=zaj hD
 refine kC r (zdB w16 pL0 hx18) rfl cl14 rfl ?_;rintro _ w19 ⟨mg20,rfl,hq⟩;refine ⟨_,rfl,fun fr r=>?_⟩
 have hP:Post No [_,_,_,memK mg20 x18] w0 w19:=hP.add hq;refine kA (zp mg20.mb) r rfl rfl fun r=>wn (wsr (kG (zpg pL0) 6 r rfl (hP.cell (i:=2) rfl) ta23 rfl rfl fun r=>?_));obtain ⟨x22,hx22,hD⟩:=zaj hD
 refine kC r (zdB w19 pL0 hx22) rfl cl14 rfl ?_;rintro _ w23 ⟨mg24,rfl,hq⟩;refine ⟨_,rfl,fun fr r=>?_⟩
 have hP:Post No [_,_,_,_,memK mg24 x22] w0 w23:=hP.add hq;refine kA (zp mg24.mb) r rfl rfl fun r=>wn (aa (wsr (kM (zp mg20.mb) r rfl rfl fun r=>kB r rfl rfl rfl rfl rfl fun r=>kM (.bool false) r rfl rfl fun r=>?_)));refine s1 r (rfl:false=_) (kM (zp mg24.mb) r rfl rfl fun r=>?_)
 refine s1 r (rfl:false=_) (kB r rfl rfl rfl rfl rfl fun r=>za0 (.bool false) r (fun R=>zay r (b:=false) (kb (rfl:false=_)) rfl) rfl fun fr r=>wn ?_);refine ae (t:=false) (r.ev rfl) (fun h=>absurd ((rfl:false=_).symm.trans h) ke) (fun _=>ag (aa (wsr (kA (I 0) r rfl rfl fun r=>wn ?_))))
 refine zdZ (X:=Bool × Int × Mem × Mem) (G:=Unit) (x0:=(false,0,x18,x22)) (fun x γ=>[(0,a0v),(1,a1v),(2,(.int .u8 a2)),(29,(.bool x6)),(7,(zp b12)),(8,(zp mg20.mb)),(9,(zp mg24.mb)),(41,(.bool false)),(6,(.bool x.1)),(10,(I x.2.1))]) (fun x γ w=>Post No [roK 101 3 zpm a0v a0,roK 101 3 zpm a1v a1,zpi b12 ((zpg pL0)).toArray 23,memK mg20 x.2.2.1,memK mg24 x.2.2.2] w0 w) () r (kO (kO (zaa rfl (zaa rfl zaC)))) hP hD ?_ ?_
 ·
  rintro x26 γ27 fr w29 g y28 RPy28 nxy28 bky28 rty28 r hP hD;have hP:Post No [_,_,_,_,_] w0 w29:=hP;refine aa (aa ?_);refine zbs (N:=150) (Y:=Bool) (G:=Unit) (fun x γ=>[(0,a0v),(1,a1v),(2,(.int .u8 a2)),(29,(.bool x6)),(7,(zp b12)),(8,(zp mg20.mb)),(9,(zp mg24.mb)),(41,(.bool false)),(6,(.bool x26.1)),(10,(I x26.2.1)),(51,(.bool x))]) (fun x γ w=>Post No [roK 101 3 zpm a0v a0,roK 101 3 zpm a1v a1,zpi b12 ((zpg pL0)).toArray 23,memK mg20 x26.2.2.1,memK mg24 x26.2.2.2] w0 w) hD ?_ ?_
  ·
   rintro y30 RPy30 nxy30 hD;refine af (kM (I x26.2.1) r rfl rfl fun r=>kM a0v r rfl rfl fun r=>za0 (I (a0.length:Int)) r (fun R=>zbN r (hP.ro (i:=0) rfl) is98 rfl) rfl fun fr r=>kB r rfl rfl rfl rfl rfl fun r=>kM (.bool (decide (x26.2.1<(a0.length:Int)))) r rfl rfl fun r=>?_);refine zaT (decide (x26.2.1<(a0.length:Int))) (fun h31=>?_) (fun h31=>?_)
   ·
    have hD:=(zao h31).symm.trans hD;refine s0 r h31 fun fr r=>s0 r h31 fun fr r=>s0 r h31 fun fr r=>s0 r h31 fun fr r=>za0 (.bool true) r (fun R=>zay r (b:=true) (kb h31) rfl) rfl fun fr r=>wn ?_;exact nxy30 true () _ _ _ hD r (kO (kO (zaa rfl (zaa rfl (zaa rfl zaC))))) (hP.pick [0,1,2,3,4] rfl rfl)
   have hD:=(zaq h31).symm.trans hD;refine s1 r h31 (kM (I x26.2.1) r rfl rfl fun r=>s1 r h31 (kM a1v r rfl rfl fun r=>s1 r h31 (za0 (I (a1.length:Int)) r (fun R=>zbN r (hP.ro (i:=1) rfl) is98 rfl) rfl fun fr r=>s1 r h31 (kB r rfl rfl rfl rfl rfl fun r=>za0 (.bool (decide (x26.2.1<(a1.length:Int)))) r (fun R=>zay r (b:=false) (kb h31) rfl) rfl fun fr r=>wn ?_))));exact nxy30 (decide (x26.2.1<(a1.length:Int))) () _ _ _ hD r (kO (kO (zaa rfl (zaa rfl (zaa rfl zaC))))) (hP.pick [0,1,2,3,4] rfl rfl)
  rintro x32 γ33 fr w34 g r hP hD;have hP:Post No [_,_,_,_,_] w0 w34:=hP;refine ae (t:=x32) (r.ev rfl) (fun h35=>?_) (fun h35=>?_)
  ·
   have hD:=(zao h35).symm.trans hD;refine ag (aa (wp_block (aa (wsr (kM (I x26.2.1) r rfl rfl fun r=>kM a0v r rfl rfl fun r=>za0 (I (a0.length:Int)) r (fun R=>zbN r (hP.ro (i:=0) rfl) is98 rfl) rfl fun fr r=>kB r rfl rfl rfl rfl rfl fun r=>wn ?_)))));refine ae (t:=(decide (x26.2.1<(a0.length:Int)))) (r.ev rfl) (fun h36=>?_) (fun h36=>?_)
   ·
    have hD:=(zao h36).symm.trans hD;refine wsr (kM a0v r rfl rfl fun r=>kM (I x26.2.1) r rfl rfl fun r=>?_);obtain ⟨x37,hx37,hD⟩:=zaj hD
    refine za0 (.pointer (some ⟨rowB a0v,rowO a0v+x26.2.1.toNat * 3,none⟩)) r (fun R=>zbU r (hP.ro (i:=0) rfl) hx37 sl98 rfl rfl) rfl fun fr r=>za0 (aq (zpm x37)) r (fun R=>zcV r (cs:=(zpm x37)) (RoAt.at_ (f:=zpm) (x:=x37) (hP.ro (i:=0) rfl) (fun _=>rfl) hx37) rfl zqo) rfl fun fr r=>?_;refine za7 (.cells ((zpm (⟨0,0,0⟩:CallD))).toArray 101 (0,0)) r (fun R=>za6 zrf) rfl fun fr b38 w39 n40 r=>?_
    have hP:Post No [_,_,_,_,_,zpi b38 ((zpm (⟨0,0,0⟩:CallD))).toArray 101] w0 w39:=hP.new n40;refine zaD (.cells ((zpm x37)).toArray 101 (0,0)) r (fun R=>zax r (o:=0) (v:=(aq (zpm x37))) rfl rfl (hP.cell (i:=5) rfl) zrv ak rfl rfl) rfl fun fr w42 u43 r=>?_;have hP:Post No [_,_,_,_,_,zpi b38 ((zpm x37)).toArray 101] w0 w42:=hP.upd (i:=5) rfl u43
    refine wn (wsr (kF 0 r rfl zcH rfl fun r=>kL (U x37.k) r rfl (hP.cell (i:=5) rfl) to34 rfl rfl fun r=>kF 0 r rfl zcH rfl fun r=>kL (U x37.k) r rfl (hP.cell (i:=5) rfl) to34 rfl rfl fun r=>kB r rfl rfl rfl rfl rfl fun r=>kB r rfl rfl rfl rfl rfl fun r=>kF 0 r rfl zcH rfl fun r=>?_));refine zaD (.cells ((zpm ({ x37 with k:=(V (x37.k - (x37.k.tmod 3))) }))).toArray 101 (0,0)) r (fun R=>zax r (o:=1) (v:=(U (V (x37.k - (x37.k.tmod 3))))) rfl rfl (hP.cell (i:=5) rfl) ts34 ak rfl rfl) rfl fun fr w44 u45 r=>?_
    have hP:Post No [_,_,_,_,_,zpi b38 ((zpm ({ x37 with k:=(V (x37.k - (x37.k.tmod 3))) }))).toArray 101] w0 w44:=hP.upd (i:=5) rfl u45
    refine wn (aa ?_);obtain ⟨x46,hx46,hD⟩:=zaj hD;refine zeq 7 (fun b=>b∈mg20.bs) [.val (aq (zpg pL0)),.val (zp mg20.mb),.val (.agg (zpm ({ x37 with k:=(V (x37.k - (x37.k.tmod 3))) })).toArray),.eff (EffP w44.heap.size (memK mg20 x46.2) (fun _:Unit=>(aq (resC x46.1))) (fun _:Unit=>[])) (EffP.st _ _ _ _),.val (aq (zpg pL0)),.val (zp mg24.mb),.val (.agg (zpm ({ x37 with k:=(V (x37.k - (x37.k.tmod 3))) })).toArray)] mixed r (fun b hb=>hP.sep.lt (i:=3) rfl (.inl hb)) kz ?_ ?_
    ·
     refine zbe r rfl kz (fun fr1 g w' hb' hd r'=>?_) ?_
     · exact zac r' (cs:=(zpg pL0)) (n:=6) rfl ((hP.below (dr hb')).cell (i:=2) rfl) ta23 rfl bz
     refine zbe r rfl kz (fun fr1 g w' hb' hd r'=>?_) ?_
     · exact zar r' (v:=(zp mg20.mb)) rfl bz
     refine zbe r rfl kz (fun fr1 g w' hb' hd r'=>?_) ?_
     · exact zac r' (cs:=(zpm ({ x37 with k:=(V (x37.k - (x37.k.tmod 3))) }))) (n:=3) rfl ((hP.below (dr hb')).cell (i:=5) rfl) zqo rfl bz
     refine zbe r rfl kz (fun fr1 g w' hb' hd r'=>?_) ?_
     · exact zaF r' (args:=[(aq (zpg pL0)),(zp mg20.mb),(I 0),(.agg (zpm ({ x37 with k:=(V (x37.k - (x37.k.tmod 3))) })).toArray)]) (lc (hd 0 rfl).1 (lc (hd 1 rfl).1 (lc rfl (lc (hd 2 rfl).1 l0)))) cl46 ((zcJ _ pL0 x26.2.2.1 0 ({ x37 with k:=(V (x37.k - (x37.k.tmod 3))) }) ((hP.below (dr hb')).sep.pk [3] rfl rfl) hx46).mono (by rintro _ w2 ⟨rfl,hq⟩; exact ⟨_,rfl,hq.chg.kept,EffP.of () hq rfl (fun b hb=>hP.sep.lt (i:=3) rfl hb)⟩))
     refine zaK r rfl (fun fr1 g w' hk' hd r'=>?_) ?_
     · exact zac r' (cs:=(zpg pL0)) (n:=6) rfl (hP.cellK (j:=3) rfl (drK hk') (i:=2) rfl rfl) ta23 rfl bz
     refine zaK r rfl (fun fr1 g w' hk' hd r'=>?_) ?_
     · exact zar r' (v:=(zp mg24.mb)) rfl bz
     refine zaK r rfl (fun fr1 g w' hk' hd r'=>?_) ?_
     · exact zac r' (cs:=(zpm ({ x37 with k:=(V (x37.k - (x37.k.tmod 3))) }))) (n:=3) rfl (hP.cellK (j:=3) rfl (drK hk') (i:=5) rfl rfl) zqo rfl bz
     exact zb4
    intro fr gg w47 hb hΦ hap r;obtain ⟨⟨⟩,g3,hcE,_,hs3⟩:=(hΦ 3 rfl).1;have r:=r.congr (sc ((hΦ 6 rfl).1) (sc ((hΦ 5 rfl).1) (sc ((hΦ 4 rfl).1) (sc g3 (sc ((hΦ 2 rfl).1) (sc ((hΦ 1 rfl).1) (sc ((hΦ 0 rfl).1) rfl)))))));have hP:Post No [_,_,_,memK mg20 x46.2,_,_] w0 w47:=hP.effL (i:=3) (l:=[]) rfl hb hcE rfl rfl trivial
    obtain ⟨x48,hx48,hD⟩:=zaj hD;refine kC r (zcJ w47 pL0 x26.2.2.2 0 ({ x37 with k:=(V (x37.k - (x37.k.tmod 3))) }) (hP.sep.pk [4] rfl rfl) hx48) rfl cl46 rfl ?_
    rintro _ w49 ⟨rfl,hq⟩;refine ⟨_,rfl,fun fr r=>?_⟩
    have hP:Post No [_,_,_,_,memK mg24 x48.2,_] w0 w49:=hP.setN (i:=4) rfl hq
    refine kB r rfl rfl (run_eqGuard_agg _ _ _ _ _ _ _ eg36) (zuA _ _ _).2 rfl fun r=>wn ?_;refine ae (t:=(!(x46.1==x48.1))) (r.ev rfl) (fun h50=>?_) (fun h50=>?_)
    ·
     have hD:=(zao h50).symm.trans hD;refine wsr (kA (.bool false) r rfl rfl fun r=>wn (ac ?_));refine rty28 false _ _ hD fun hD=>?_
     have hv:false=res:=Option.some.inj hD
     try dsimp only [Exit.then,Exit.inBlock]
     refine zaH (fn:=Tryz.f8) r (t:=6) rfl (v:=(.bool false)) rfl ?_;subst hv;exact ⟨rfl,hP.chg.below⟩
    have hD:=(zaq h50).symm.trans hD;refine ag (wsr (kM (I x26.2.1) r rfl rfl fun r=>kM a1v r rfl rfl fun r=>za0 (I (a1.length:Int)) r (fun R=>zbN r (hP.ro (i:=1) rfl) is98 rfl) rfl fun fr r=>kB r rfl rfl rfl rfl rfl fun r=>wn ?_));refine zbs (N:=150) (Y:=Mem) (G:=Unit) (fun x γ=>[(0,a0v),(1,a1v),(2,(.int .u8 a2)),(29,(.bool x6)),(7,(zp b12)),(8,(zp mg20.mb)),(9,(zp mg24.mb)),(41,(.bool false)),(6,(.bool x26.1)),(10,(I x26.2.1)),(51,(.bool x32)),(57,(.bool (decide (x26.2.1<(a0.length:Int))))),(11,(zp b38)),(77,(.bool (!(x46.1==x48.1)))),(81,(.bool (decide (x26.2.1<(a1.length:Int)))))]) (fun x γ w=>Post No [roK 101 3 zpm a0v a0,roK 101 3 zpm a1v a1,zpi b12 ((zpg pL0)).toArray 23,memK mg20 x,memK mg24 x48.2,zpi b38 ((zpm ({ x37 with k:=(V (x37.k - (x37.k.tmod 3))) }))).toArray 101] w0 w) hD ?_ ?_
    ·
     rintro y51 RPy51 nxy51 hD;refine ae (t:=(decide (x26.2.1<(a1.length:Int)))) (r.ev rfl) (fun h52=>?_) (fun h52=>?_)
     ·
      have hD:=(zao h52).symm.trans hD;refine wsr (kM a1v r rfl rfl fun r=>kM (I x26.2.1) r rfl rfl fun r=>?_);obtain ⟨x53,hx53,hD⟩:=zaj hD
      refine za0 (.pointer (some ⟨rowB a1v,rowO a1v+x26.2.1.toNat * 3,none⟩)) r (fun R=>zbU r (hP.ro (i:=1) rfl) hx53 sl98 rfl rfl) rfl fun fr r=>za0 (aq (zpm x53)) r (fun R=>zcV r (cs:=(zpm x53)) (RoAt.at_ (f:=zpm) (x:=x53) (hP.ro (i:=1) rfl) (fun _=>rfl) hx53) rfl zqo) rfl fun fr r=>?_;refine za7 (.cells ((zpm (⟨0,0,0⟩:CallD))).toArray 101 (0,0)) r (fun R=>za6 zrf) rfl fun fr b54 w55 n56 r=>?_
      have hP:Post No [_,_,_,_,_,_,zpi b54 ((zpm (⟨0,0,0⟩:CallD))).toArray 101] w0 w55:=hP.new n56
      refine zaD (.cells ((zpm x53)).toArray 101 (0,0)) r (fun R=>zax r (o:=0) (v:=(aq (zpm x53))) rfl rfl (hP.cell (i:=6) rfl) zrv ak rfl rfl) rfl fun fr w58 u59 r=>?_;have hP:Post No [_,_,_,_,_,_,zpi b54 ((zpm x53)).toArray 101] w0 w58:=hP.upd (i:=6) rfl u59
      refine wn (wsr (kF 0 r rfl zcH rfl fun r=>kL (U x53.k) r rfl (hP.cell (i:=6) rfl) to34 rfl rfl fun r=>kF 0 r rfl zcH rfl fun r=>kL (U x53.k) r rfl (hP.cell (i:=6) rfl) to34 rfl rfl fun r=>kB r rfl rfl rfl rfl rfl fun r=>kB r rfl rfl rfl rfl rfl fun r=>kF 0 r rfl zcH rfl fun r=>?_));refine zaD (.cells ((zpm ({ x53 with k:=(V (x53.k - (x53.k.tmod 3))) }))).toArray 101 (0,0)) r (fun R=>zax r (o:=1) (v:=(U (V (x53.k - (x53.k.tmod 3))))) rfl rfl (hP.cell (i:=6) rfl) ts34 ak rfl rfl) rfl fun fr w60 u61 r=>?_
      have hP:Post No [_,_,_,_,_,_,zpi b54 ((zpm ({ x53 with k:=(V (x53.k - (x53.k.tmod 3))) }))).toArray 101] w0 w60:=hP.upd (i:=6) rfl u61
      refine wn (wsr (kA (I 1) r rfl rfl fun r=>wn (aa (aa ?_))));refine zbs (N:=150) (Y:=Bool) (G:=Unit) (fun x γ=>[(0,a0v),(1,a1v),(2,(.int .u8 a2)),(29,(.bool x6)),(7,(zp b12)),(8,(zp mg20.mb)),(9,(zp mg24.mb)),(41,(.bool false)),(6,(.bool x26.1)),(10,(I x26.2.1)),(51,(.bool x32)),(57,(.bool (decide (x26.2.1<(a0.length:Int))))),(11,(zp b38)),(77,(.bool (!(x46.1==x48.1)))),(81,(.bool (decide (x26.2.1<(a1.length:Int))))),(12,(zp b54)),(13,(I 1)),(100,(.bool x))]) (fun x γ w=>Post No [roK 101 3 zpm a0v a0,roK 101 3 zpm a1v a1,zpi b12 ((zpg pL0)).toArray 23,memK mg20 x46.2,memK mg24 x48.2,zpi b38 ((zpm ({ x37 with k:=(V (x37.k - (x37.k.tmod 3))) }))).toArray 101,zpi b54 ((zpm ({ x53 with k:=(V (x53.k - (x53.k.tmod 3))) }))).toArray 101] w0 w) hD ?_ ?_
      ·
       rintro y62 RPy62 nxy62 hD;refine af (kM (.int .u8 a2) r rfl rfl fun r=>kB r rfl rfl rfl rfl rfl fun r=>kB r rfl rfl rfl rfl rfl fun r=>kM (.bool ((a2.tmod 2)==0)) r rfl rfl fun r=>?_);refine zaT ((a2.tmod 2)==0) (fun h63=>?_) (fun h63=>?_)
       ·
        have hD:=(zao h63).symm.trans hD;refine s1 r h63 (kF 0 r rfl zcH rfl fun r=>s1 r h63 (kL (U ({ x53 with k:=(V (x53.k - (x53.k.tmod 3))) }).k) r rfl (hP.cell (i:=6) rfl) to34 rfl rfl fun r=>s1 r h63 (kB r rfl rfl rfl rfl rfl fun r=>za0 (.bool (decide ((({ x53 with k:=(V (x53.k - (x53.k.tmod 3))) }).k)<9223372036854775808))) r (fun R=>zay r (b:=true) (kb h63) rfl) rfl fun fr r=>wn ?_)));exact nxy62 (decide ((({ x53 with k:=(V (x53.k - (x53.k.tmod 3))) }).k)<9223372036854775808)) () _ _ _ hD r (kO (kO (kO (kO (zaa rfl (zaa rfl zaC)))))) (hP.pick [0,1,2,3,4,5,6] rfl rfl)
       have hD:=(zaq h63).symm.trans hD;refine s0 r h63 fun fr r=>s0 r h63 fun fr r=>s0 r h63 fun fr r=>za0 (.bool false) r (fun R=>zay r (b:=false) (kb h63) rfl) rfl fun fr r=>wn ?_;exact nxy62 false () _ _ _ hD r (kO (kO (kO (kO (zaa rfl (zaa rfl zaC)))))) (hP.pick [0,1,2,3,4,5,6] rfl rfl)
      rintro x64 γ65 fr w66 g r hP hD;have hP:Post No [_,_,_,_,_,_,_] w0 w66:=hP
      refine zbs (N:=150) (Y:=CallD × Int) (G:=Unit) (fun x γ=>[(0,a0v),(1,a1v),(2,(.int .u8 a2)),(29,(.bool x6)),(7,(zp b12)),(8,(zp mg20.mb)),(9,(zp mg24.mb)),(41,(.bool false)),(6,(.bool x26.1)),(10,(I x26.2.1)),(51,(.bool x32)),(57,(.bool (decide (x26.2.1<(a0.length:Int))))),(11,(zp b38)),(77,(.bool (!(x46.1==x48.1)))),(81,(.bool (decide (x26.2.1<(a1.length:Int))))),(12,(zp b54)),(100,(.bool x64)),(13,(I x.2))]) (fun x γ w=>Post No [roK 101 3 zpm a0v a0,roK 101 3 zpm a1v a1,zpi b12 ((zpg pL0)).toArray 23,memK mg20 x46.2,memK mg24 x48.2,zpi b38 ((zpm ({ x37 with k:=(V (x37.k - (x37.k.tmod 3))) }))).toArray 101,zpi b54 ((zpm x.1)).toArray 101] w0 w) hD ?_ ?_
      ·
       rintro y67 RPy67 nxy67 hD;refine ae (t:=x64) (r.ev rfl) (fun h68=>?_) (fun h68=>?_)
       ·
        have hD:=(zao h68).symm.trans hD;refine wsr (kF 0 r rfl zcH rfl fun r=>kL (U ({ x53 with k:=(V (x53.k - (x53.k.tmod 3))) }).k) r rfl (hP.cell (i:=6) rfl) to34 rfl rfl fun r=>kB r rfl rfl rfl rfl rfl fun r=>kF 0 r rfl zcH rfl fun r=>?_);refine zaD (.cells ((zpm ({ ({ x53 with k:=(V (x53.k - (x53.k.tmod 3))) }) with k:=(V ((({ x53 with k:=(V (x53.k - (x53.k.tmod 3))) }).k)+1)) }))).toArray 101 (0,0)) r (fun R=>zax r (o:=1) (v:=(U (V ((({ x53 with k:=(V (x53.k - (x53.k.tmod 3))) }).k)+1)))) rfl rfl (hP.cell (i:=6) rfl) ts34 ak rfl rfl) rfl fun fr w69 u70 r=>?_
        have hP:Post No [_,_,_,_,_,_,zpi b54 ((zpm ({ ({ x53 with k:=(V (x53.k - (x53.k.tmod 3))) }) with k:=(V ((({ x53 with k:=(V (x53.k - (x53.k.tmod 3))) }).k)+1)) }))).toArray 101] w0 w69:=hP.upd (i:=6) rfl u70
        refine wn ?_;refine af (kA (I 0) r rfl rfl fun r=>wn ?_);exact nxy67 (({ ({ x53 with k:=(V (x53.k - (x53.k.tmod 3))) }) with k:=(V ((({ x53 with k:=(V (x53.k - (x53.k.tmod 3))) }).k)+1)) }),0) () _ _ _ hD r (kO (kO (kO (kO (zaa rfl (zaa rfl zaC)))))) (hP.pick [0,1,2,3,4,5,6] rfl rfl)
       have hD:=(zaq h68).symm.trans hD;refine ag ?_;exact nxy67 (({ x53 with k:=(V (x53.k - (x53.k.tmod 3))) }),1) () _ _ _ hD r (kO (kO (kO (kO (zaa rfl (zaa rfl zaC)))))) (hP.pick [0,1,2,3,4,5,6] rfl rfl)
      rintro x71 γ72 fr w73 g r hP hD;have hP:Post No [_,_,_,_,_,_,_] w0 w73:=hP
      refine af (kG (zpg pL0) 6 r rfl (hP.cell (i:=2) rfl) ta23 rfl rfl fun r=>kM (zp mg20.mb) r rfl rfl fun r=>kM (I x71.2) r rfl rfl fun r=>kG (zpm x71.1) 3 r rfl (hP.cell (i:=6) rfl) zqo rfl rfl fun r=>?_);obtain ⟨x74,hx74,hD⟩:=zaj hD
      refine kC r (zcJ w73 pL0 x46.2 x71.2 x71.1 (hP.sep.pk [3] rfl rfl) hx74) rfl cl46 rfl ?_;rintro _ w75 ⟨rfl,hq⟩;refine ⟨_,rfl,fun fr r=>?_⟩
      have hP:Post No [_,_,_,memK mg20 x74.2,_,_,_] w0 w75:=hP.setN (i:=3) rfl hq
      refine wn ?_;exact nxy51 x74.2 () _ _ _ hD r (kO (kO (kO (zaa rfl (zaa rfl (zaa rfl zaC)))))) (hP.pick [0,1,2,3,4,5] rfl rfl)
     have hD:=(zaq h52).symm.trans hD;refine ag ?_;exact nxy51 x46.2 () _ _ _ hD r (kO (kO (kO (zaa rfl (zaa rfl (zaa rfl zaC)))))) (hP.pick [0,1,2,3,4,5] rfl rfl)
    rintro x76 γ77 fr w78 g r hP hD;have hP:Post No [_,_,_,_,_,_] w0 w78:=hP
    refine af (kM (I x26.2.1) r rfl rfl fun r=>kB r rfl rfl rfl rfl rfl fun r=>kA (I (W (x26.2.1+1))) r rfl rfl fun r=>wn ?_);exact nxy28 (x26.1,(W (x26.2.1+1)),x76,x48.2) () _ _ _ hD r (kO (kO (zaa rfl (zaa rfl zaC)))) (hP.pick [0,1,2,3,4] rfl rfl)
   have hD:=(zaq h36).symm.trans hD;refine ag (wsr (kM (I x26.2.1) r rfl rfl fun r=>kM a1v r rfl rfl fun r=>za0 (I (a1.length:Int)) r (fun R=>zbN r (hP.ro (i:=1) rfl) is98 rfl) rfl fun fr r=>kB r rfl rfl rfl rfl rfl fun r=>wn ?_));refine zbs (N:=150) (Y:=Mem) (G:=Unit) (fun x γ=>[(0,a0v),(1,a1v),(2,(.int .u8 a2)),(29,(.bool x6)),(7,(zp b12)),(8,(zp mg20.mb)),(9,(zp mg24.mb)),(41,(.bool false)),(6,(.bool x26.1)),(10,(I x26.2.1)),(51,(.bool x32)),(57,(.bool (decide (x26.2.1<(a0.length:Int))))),(81,(.bool (decide (x26.2.1<(a1.length:Int)))))]) (fun x γ w=>Post No [roK 101 3 zpm a0v a0,roK 101 3 zpm a1v a1,zpi b12 ((zpg pL0)).toArray 23,memK mg20 x,memK mg24 x26.2.2.2] w0 w) hD ?_ ?_
   ·
    rintro y79 RPy79 nxy79 hD;refine ae (t:=(decide (x26.2.1<(a1.length:Int)))) (r.ev rfl) (fun h80=>?_) (fun h80=>?_)
    ·
     have hD:=(zao h80).symm.trans hD;refine wsr (kM a1v r rfl rfl fun r=>kM (I x26.2.1) r rfl rfl fun r=>?_);obtain ⟨x81,hx81,hD⟩:=zaj hD
     refine za0 (.pointer (some ⟨rowB a1v,rowO a1v+x26.2.1.toNat * 3,none⟩)) r (fun R=>zbU r (hP.ro (i:=1) rfl) hx81 sl98 rfl rfl) rfl fun fr r=>za0 (aq (zpm x81)) r (fun R=>zcV r (cs:=(zpm x81)) (RoAt.at_ (f:=zpm) (x:=x81) (hP.ro (i:=1) rfl) (fun _=>rfl) hx81) rfl zqo) rfl fun fr r=>?_;refine za7 (.cells ((zpm (⟨0,0,0⟩:CallD))).toArray 101 (0,0)) r (fun R=>za6 zrf) rfl fun fr b82 w83 n84 r=>?_
     have hP:Post No [_,_,_,memK mg20 x26.2.2.1,memK mg24 x26.2.2.2,zpi b82 ((zpm (⟨0,0,0⟩:CallD))).toArray 101] w0 w83:=hP.new n84;refine zaD (.cells ((zpm x81)).toArray 101 (0,0)) r (fun R=>zax r (o:=0) (v:=(aq (zpm x81))) rfl rfl (hP.cell (i:=5) rfl) zrv ak rfl rfl) rfl fun fr w86 u87 r=>?_;have hP:Post No [_,_,_,_,_,zpi b82 ((zpm x81)).toArray 101] w0 w86:=hP.upd (i:=5) rfl u87
     refine wn (wsr (kF 0 r rfl zcH rfl fun r=>kL (U x81.k) r rfl (hP.cell (i:=5) rfl) to34 rfl rfl fun r=>kF 0 r rfl zcH rfl fun r=>kL (U x81.k) r rfl (hP.cell (i:=5) rfl) to34 rfl rfl fun r=>kB r rfl rfl rfl rfl rfl fun r=>kB r rfl rfl rfl rfl rfl fun r=>kF 0 r rfl zcH rfl fun r=>?_));refine zaD (.cells ((zpm ({ x81 with k:=(V (x81.k - (x81.k.tmod 3))) }))).toArray 101 (0,0)) r (fun R=>zax r (o:=1) (v:=(U (V (x81.k - (x81.k.tmod 3))))) rfl rfl (hP.cell (i:=5) rfl) ts34 ak rfl rfl) rfl fun fr w88 u89 r=>?_
     have hP:Post No [_,_,_,_,_,zpi b82 ((zpm ({ x81 with k:=(V (x81.k - (x81.k.tmod 3))) }))).toArray 101] w0 w88:=hP.upd (i:=5) rfl u89
     refine wn (wsr (kA (I 1) r rfl rfl fun r=>wn (aa (aa ?_))));refine zbs (N:=150) (Y:=Bool) (G:=Unit) (fun x γ=>[(0,a0v),(1,a1v),(2,(.int .u8 a2)),(29,(.bool x6)),(7,(zp b12)),(8,(zp mg20.mb)),(9,(zp mg24.mb)),(41,(.bool false)),(6,(.bool x26.1)),(10,(I x26.2.1)),(51,(.bool x32)),(57,(.bool (decide (x26.2.1<(a0.length:Int))))),(81,(.bool (decide (x26.2.1<(a1.length:Int))))),(12,(zp b82)),(13,(I 1)),(100,(.bool x))]) (fun x γ w=>Post No [roK 101 3 zpm a0v a0,roK 101 3 zpm a1v a1,zpi b12 ((zpg pL0)).toArray 23,memK mg20 x26.2.2.1,memK mg24 x26.2.2.2,zpi b82 ((zpm ({ x81 with k:=(V (x81.k - (x81.k.tmod 3))) }))).toArray 101] w0 w) hD ?_ ?_
     ·
      rintro y90 RPy90 nxy90 hD;refine af (kM (.int .u8 a2) r rfl rfl fun r=>kB r rfl rfl rfl rfl rfl fun r=>kB r rfl rfl rfl rfl rfl fun r=>kM (.bool ((a2.tmod 2)==0)) r rfl rfl fun r=>?_);refine zaT ((a2.tmod 2)==0) (fun h91=>?_) (fun h91=>?_)
      ·
       have hD:=(zao h91).symm.trans hD;refine s1 r h91 (kF 0 r rfl zcH rfl fun r=>s1 r h91 (kL (U ({ x81 with k:=(V (x81.k - (x81.k.tmod 3))) }).k) r rfl (hP.cell (i:=5) rfl) to34 rfl rfl fun r=>s1 r h91 (kB r rfl rfl rfl rfl rfl fun r=>za0 (.bool (decide ((({ x81 with k:=(V (x81.k - (x81.k.tmod 3))) }).k)<9223372036854775808))) r (fun R=>zay r (b:=true) (kb h91) rfl) rfl fun fr r=>wn ?_)));exact nxy90 (decide ((({ x81 with k:=(V (x81.k - (x81.k.tmod 3))) }).k)<9223372036854775808)) () _ _ _ hD r (kO (kO (kO (kO zaC)))) (hP.pick [0,1,2,3,4,5] rfl rfl)
      have hD:=(zaq h91).symm.trans hD;refine s0 r h91 fun fr r=>s0 r h91 fun fr r=>s0 r h91 fun fr r=>za0 (.bool false) r (fun R=>zay r (b:=false) (kb h91) rfl) rfl fun fr r=>wn ?_;exact nxy90 false () _ _ _ hD r (kO (kO (kO (kO zaC)))) (hP.pick [0,1,2,3,4,5] rfl rfl)
     rintro x92 γ93 fr w94 g r hP hD;have hP:Post No [_,_,_,_,_,_] w0 w94:=hP
     refine zbs (N:=150) (Y:=CallD × Int) (G:=Unit) (fun x γ=>[(0,a0v),(1,a1v),(2,(.int .u8 a2)),(29,(.bool x6)),(7,(zp b12)),(8,(zp mg20.mb)),(9,(zp mg24.mb)),(41,(.bool false)),(6,(.bool x26.1)),(10,(I x26.2.1)),(51,(.bool x32)),(57,(.bool (decide (x26.2.1<(a0.length:Int))))),(81,(.bool (decide (x26.2.1<(a1.length:Int))))),(12,(zp b82)),(100,(.bool x92)),(13,(I x.2))]) (fun x γ w=>Post No [roK 101 3 zpm a0v a0,roK 101 3 zpm a1v a1,zpi b12 ((zpg pL0)).toArray 23,memK mg20 x26.2.2.1,memK mg24 x26.2.2.2,zpi b82 ((zpm x.1)).toArray 101] w0 w) hD ?_ ?_
     ·
      rintro y95 RPy95 nxy95 hD;refine ae (t:=x92) (r.ev rfl) (fun h96=>?_) (fun h96=>?_)
      ·
       have hD:=(zao h96).symm.trans hD;refine wsr (kF 0 r rfl zcH rfl fun r=>kL (U ({ x81 with k:=(V (x81.k - (x81.k.tmod 3))) }).k) r rfl (hP.cell (i:=5) rfl) to34 rfl rfl fun r=>kB r rfl rfl rfl rfl rfl fun r=>kF 0 r rfl zcH rfl fun r=>?_);refine zaD (.cells ((zpm ({ ({ x81 with k:=(V (x81.k - (x81.k.tmod 3))) }) with k:=(V ((({ x81 with k:=(V (x81.k - (x81.k.tmod 3))) }).k)+1)) }))).toArray 101 (0,0)) r (fun R=>zax r (o:=1) (v:=(U (V ((({ x81 with k:=(V (x81.k - (x81.k.tmod 3))) }).k)+1)))) rfl rfl (hP.cell (i:=5) rfl) ts34 ak rfl rfl) rfl fun fr w97 u98 r=>?_
       have hP:Post No [_,_,_,_,_,zpi b82 ((zpm ({ ({ x81 with k:=(V (x81.k - (x81.k.tmod 3))) }) with k:=(V ((({ x81 with k:=(V (x81.k - (x81.k.tmod 3))) }).k)+1)) }))).toArray 101] w0 w97:=hP.upd (i:=5) rfl u98
       refine wn ?_;refine af (kA (I 0) r rfl rfl fun r=>wn ?_);exact nxy95 (({ ({ x81 with k:=(V (x81.k - (x81.k.tmod 3))) }) with k:=(V ((({ x81 with k:=(V (x81.k - (x81.k.tmod 3))) }).k)+1)) }),0) () _ _ _ hD r (kO (kO (kO (kO zaC)))) (hP.pick [0,1,2,3,4,5] rfl rfl)
      have hD:=(zaq h96).symm.trans hD;refine ag ?_;exact nxy95 (({ x81 with k:=(V (x81.k - (x81.k.tmod 3))) }),1) () _ _ _ hD r (kO (kO (kO (kO zaC)))) (hP.pick [0,1,2,3,4,5] rfl rfl)
     rintro x99 γ100 fr w101 g r hP hD;have hP:Post No [_,_,_,_,_,_] w0 w101:=hP;refine af (kG (zpg pL0) 6 r rfl (hP.cell (i:=2) rfl) ta23 rfl rfl fun r=>kM (zp mg20.mb) r rfl rfl fun r=>kM (I x99.2) r rfl rfl fun r=>kG (zpm x99.1) 3 r rfl (hP.cell (i:=5) rfl) zqo rfl rfl fun r=>?_);obtain ⟨x102,hx102,hD⟩:=zaj hD
     refine kC r (zcJ w101 pL0 x26.2.2.1 x99.2 x99.1 (hP.sep.pk [3] rfl rfl) hx102) rfl cl46 rfl ?_;rintro _ w103 ⟨rfl,hq⟩;refine ⟨_,rfl,fun fr r=>?_⟩
     have hP:Post No [_,_,_,memK mg20 x102.2,_,_] w0 w103:=hP.setN (i:=3) rfl hq;refine wn ?_;exact nxy79 x102.2 () _ _ _ hD r (kO (kO (kO (zaa rfl zaC)))) (hP.pick [0,1,2,3,4] rfl rfl)
    have hD:=(zaq h80).symm.trans hD;refine ag ?_;exact nxy79 x26.2.2.1 () _ _ _ hD r (kO (kO (kO (zaa rfl zaC)))) (hP.pick [0,1,2,3,4] rfl rfl)
   rintro x104 γ105 fr w106 g r hP hD;have hP:Post No [_,_,_,_,_] w0 w106:=hP;refine af (kM (I x26.2.1) r rfl rfl fun r=>kB r rfl rfl rfl rfl rfl fun r=>kA (I (W (x26.2.1+1))) r rfl rfl fun r=>wn ?_);exact nxy28 (x26.1,(W (x26.2.1+1)),x104,x26.2.2.2) () _ _ _ hD r (kO (kO (zaa rfl (zaa rfl zaC)))) (hP.pick [0,1,2,3,4] rfl rfl)
  have hD:=(zaq h35).symm.trans hD;refine wp_exit ?_;exact bky28 (x26.1,x26.2.1,x26.2.2.1,x26.2.2.2) () _ _ _ hD r (kO (kO (zaa rfl (zaa rfl zaC)))) (hP.pick [0,1,2,3,4] rfl rfl)
 rintro x107 γ108 fr w109 g r hP hD;have hP:Post No [_,_,_,_,_] w0 w109:=hP;refine aa ?_;obtain ⟨x110,hx110,hD⟩:=zaj hD;obtain ⟨x113,hx113,hD⟩:=zaj hD;refine zda [.val (aq (zpg pL0)),.val (zp mg20.mb),.pred (MkP (fun v111:Value=>v111) (fun v111:Value=>[rowK 104 2 zpw v111 x110])) (MkP.st _ _),.val (aq (zpg pL0)),.val (zp mg24.mb),.pred (MkP (fun v114:Value=>v114) (fun v114:Value=>[rowK 104 2 zpw v114 x113])) (MkP.st _ _),.dep 2 (fun u v=>v=u),.dep 5 (fun u v=>v=u)] mixed r kz ?_ ?_
 ·
  refine fc r (fun fr1 g w' hb' hd r'=>zac r' (cs:=(zpg pL0)) (n:=6) rfl ((hP.below (dr hb')).cell (i:=2) rfl) ta23 rfl bz) ?_;refine fc r (fun fr1 g w' hb' hd r'=>zar r' rfl bz) ?_
  refine fc r (fun fr1 g w' hb' hd r'=>zaF r' (args:=[(aq (zpg pL0)),(zp mg20.mb),(I 0),(I 0)]) (lc (hd 0 rfl).1 (lc (hd 1 rfl).1 (lc rfl (lc rfl l0)))) cl47 ((zft _ pL0 x107.2.2.1 ((hP.below (dr hb')).mem (i:=3) rfl) 0 0 hx110).mono yaA)) ?_;refine fc r (fun fr1 g w' hb' hd r'=>zac r' (cs:=(zpg pL0)) (n:=6) rfl ((hP.below (dr hb')).cell (i:=2) rfl) ta23 rfl bz) ?_
  refine fc r (fun fr1 g w' hb' hd r'=>zar r' rfl bz) ?_;refine fc r (fun fr1 g w' hb' hd r'=>zaF r' (args:=[(aq (zpg pL0)),(zp mg24.mb),(I 0),(I 0)]) (lc (hd 3 rfl).1 (lc (hd 4 rfl).1 (lc rfl (lc rfl l0)))) cl47 ((zft _ pL0 x107.2.2.2 ((hP.below (dr hb')).mem (i:=4) rfl) 0 0 hx113).mono yaA)) ?_
  refine fc r (fun fr1 g w' hb' hd r'=>zbW r' rfl bz) ?_;refine fc r (fun fr1 g w' hb' hd r'=>zbW r' rfl bz) ?_
  exact zb4
 intro fr gg w116 hb hΦ hap r;obtain ⟨v111,g2,hs2⟩:=(hΦ 2 rfl).1;obtain ⟨v114,g5,hs5⟩:=(hΦ 5 rfl).1;have g6:(gg 6).v=v111:=Eq.trans (show (gg 6).v=(gg 2).v from (hΦ 6 rfl).1) g2
 have g7:(gg 7).v=v114:=Eq.trans (show (gg 7).v=(gg 5).v from (hΦ 7 rfl).1) g5
 have r:=r.congr (sc g7 (sc g6 (sc g5 (sc ((hΦ 4 rfl).1) (sc ((hΦ 3 rfl).1) (sc g2 (sc ((hΦ 1 rfl).1) (sc ((hΦ 0 rfl).1) rfl))))))));have hP:Post No [_,_,_,_,_,rowK 104 2 zpw v111 x110,rowK 104 2 zpw v114 x113] w0 w116:=hP.addL (l:=[([rowK 104 2 zpw v111 x110],(gg 2).lo,(gg 2).hi),([rowK 104 2 zpw v114 x113],(gg 5).lo,(gg 5).hi)]) hb ⟨hs2,(hΦ 2 rfl).2.1,(zlk (hap 2 5 rfl) zeM),⟨hs5,(hΦ 5 rfl).2.1,zeM,trivial⟩⟩;refine wsr (kA (I 0) r rfl rfl fun r=>wn (aa (wsr (kA (I 0) r rfl rfl fun r=>wn ?_))));refine zdZ (X:=Bool × Int × Int) (G:=Unit) (x0:=(x107.1,0,0)) (fun x γ=>[(0,a0v),(1,a1v),(2,(.int .u8 a2)),(29,(.bool x6)),(7,(zp b12)),(8,(zp mg20.mb)),(9,(zp mg24.mb)),(41,(.bool false)),(10,(I x107.2.1)),(14,v111),(15,v114),(6,(.bool x.1)),(16,(I x.2.1)),(17,(I x.2.2))]) (fun x γ w=>Post No [roK 101 3 zpm a0v a0,roK 101 3 zpm a1v a1,zpi b12 ((zpg pL0)).toArray 23,memK mg20 x107.2.2.1,memK mg24 x107.2.2.2,rowK 104 2 zpw v111 x110,rowK 104 2 zpw v114 x113] w0 w) () r (kO (kO (kO (zaa rfl (zaa rfl zaC))))) hP hD ?_ ?_
 ·
  rintro x117 γ118 fr w120 g y119 RPy119 nxy119 bky119 rty119 r hP hD;have hP:Post No [_,_,_,_,_,_,_] w0 w120:=hP;refine aa (wsr (kM (I x117.2.2) r rfl rfl fun r=>kM v111 r rfl rfl fun r=>za0 (I (x110.length:Int)) r (fun R=>zbN r (hP.row (i:=5) rfl).ro is82 rfl) rfl fun fr r=>kB r rfl rfl rfl rfl rfl fun r=>wn ?_));refine ae (t:=(decide (x117.2.2<(x110.length:Int)))) (r.ev rfl) (fun h121=>?_) (fun h121=>?_)
  ·
   have hD:=(zao h121).symm.trans hD;refine ag (aa (wp_block (aa (wsr (kM v111 r rfl rfl fun r=>kM (I x117.2.2) r rfl rfl fun r=>?_)))));obtain ⟨x122,hx122,hD⟩:=zaj hD
   refine za0 (.pointer (some ⟨rowB v111,rowO v111+x117.2.2.toNat * 2,none⟩)) r (fun R=>zbU r (hP.row (i:=5) rfl).ro hx122 sl82 rfl rfl) rfl fun fr r=>za0 _ r (fun R=>za3 r (b:=rowB v111) (o:=rowO v111+x117.2.2.toNat * 2) (k:=0) rfl zoG) rfl fun fr r=>za0 (U x122.key) r (fun R=>zcR r (u:=(U x122.key)) ((RoAt.at_ (f:=zpw) (x:=x122) (hP.row (i:=5) rfl).ro (fun _=>rfl) hx122).part 0 1) rfl to34) rfl fun fr r=>kB r rfl rfl rfl rfl rfl fun r=>kB r rfl rfl rfl rfl rfl fun r=>wn ?_;refine ae (t:=((x122.key.tmod 3) !=0)) (r.ev rfl) (fun h123=>?_) (fun h123=>?_)
   ·
    have hD:=(zao h123).symm.trans hD;refine wp_exit ?_;refine af (kM (I x117.2.2) r rfl rfl fun r=>kB r rfl rfl rfl rfl rfl fun r=>kA (I (W (x117.2.2+1))) r rfl rfl fun r=>wn ?_);exact nxy119 (x117.1,x117.2.1,(W (x117.2.2+1))) () _ _ _ hD r (kO (kO (kO (zaa rfl (zaa rfl zaC))))) (hP.pick [0,1,2,3,4,5,6] rfl rfl)
   have hD:=(zaq h123).symm.trans hD;refine ag (aa (aa ?_));refine zbs (N:=150) (Y:=Bool) (G:=Unit) (fun x γ=>[(0,a0v),(1,a1v),(2,(.int .u8 a2)),(29,(.bool x6)),(7,(zp b12)),(8,(zp mg20.mb)),(9,(zp mg24.mb)),(41,(.bool false)),(10,(I x107.2.1)),(14,v111),(15,v114),(6,(.bool x117.1)),(16,(I x117.2.1)),(17,(I x117.2.2)),(119,(.bool (decide (x117.2.2<(x110.length:Int))))),(128,(.bool ((x122.key.tmod 3) !=0))),(143,(.bool x))]) (fun x γ w=>Post No [roK 101 3 zpm a0v a0,roK 101 3 zpm a1v a1,zpi b12 ((zpg pL0)).toArray 23,memK mg20 x107.2.2.1,memK mg24 x107.2.2.2,rowK 104 2 zpw v111 x110,rowK 104 2 zpw v114 x113] w0 w) hD ?_ ?_
   ·
    rintro y124 RPy124 nxy124 hD;refine zaT (decide (x117.2.1≥(x113.length:Int))) (fun h125=>?_) (fun h125=>?_)
    ·
     have hD:=(zao h125).symm.trans hD;refine zda [.val (I x117.2.1),.val v114,.val (I (x113.length:Int)),.val (.bool (decide (x117.2.1≥(x113.length:Int)))),.val (.bool (decide (x117.2.1≥(x113.length:Int)))),.val undef,.val undef,.val undef,.val undef,.val undef,.val undef,.val undef,.val undef,.val undef,.val (.bool true)] mixed r kz ?_ ?_
     ·
      refine fc r (fun fr1 g w' hb' hd r'=>zar r' rfl bz) ?_;refine fc r (fun fr1 g w' hb' hd r'=>zar r' rfl bz) ?_
      refine fc r (fun fr1 g w' hb' hd r'=>zbN r' ((hP.below (dr hb')).row (i:=6) rfl).ro is82 (hd 1 rfl).1 bz) ?_;refine fc r (fun fr1 g w' hb' hd r'=>zpG r' (hd 0 rfl).1 (hd 2 rfl).1 rfl rfl bz) ?_
      refine fc r (fun fr1 g w' hb' hd r'=>zar r' (hd 3 rfl).1 bz) ?_;refine zav false (.bool true) r rfl rfl rfl (fun g w' hd=>Eq.trans (show (g 4).v=.bool (decide (x117.2.1≥(x113.length:Int))) from (hd 4 rfl).1) (kb h125)) yai (fun _ _=>bz) ?_
      refine zav false (.bool true) r rfl rfl rfl (fun g w' hd=>Eq.trans (show (g 4).v=.bool (decide (x117.2.1≥(x113.length:Int))) from (hd 4 rfl).1) (kb h125)) yai (fun _ _=>bz) ?_;refine zav false (.bool true) r rfl rfl rfl (fun g w' hd=>Eq.trans (show (g 4).v=.bool (decide (x117.2.1≥(x113.length:Int))) from (hd 4 rfl).1) (kb h125)) yai (fun _ _=>bz) ?_
      refine zav false (.bool true) r rfl rfl rfl (fun g w' hd=>Eq.trans (show (g 4).v=.bool (decide (x117.2.1≥(x113.length:Int))) from (hd 4 rfl).1) (kb h125)) yai (fun _ _=>bz) ?_;refine zav false (.bool true) r rfl rfl rfl (fun g w' hd=>Eq.trans (show (g 4).v=.bool (decide (x117.2.1≥(x113.length:Int))) from (hd 4 rfl).1) (kb h125)) yai (fun _ _=>bz) ?_
      refine zav false (.bool true) r rfl rfl rfl (fun g w' hd=>Eq.trans (show (g 4).v=.bool (decide (x117.2.1≥(x113.length:Int))) from (hd 4 rfl).1) (kb h125)) yai (fun _ _=>bz) ?_;refine zav false (.bool true) r rfl rfl rfl (fun g w' hd=>Eq.trans (show (g 4).v=.bool (decide (x117.2.1≥(x113.length:Int))) from (hd 4 rfl).1) (kb h125)) yai (fun _ _=>bz) ?_
      refine zav false (.bool true) r rfl rfl rfl (fun g w' hd=>Eq.trans (show (g 4).v=.bool (decide (x117.2.1≥(x113.length:Int))) from (hd 4 rfl).1) (kb h125)) yai (fun _ _=>bz) ?_;refine zav false (.bool true) r rfl rfl rfl (fun g w' hd=>Eq.trans (show (g 4).v=.bool (decide (x117.2.1≥(x113.length:Int))) from (hd 4 rfl).1) (kb h125)) yai (fun _ _=>bz) ?_
      refine fc r (fun fr1 g w' hb' hd r'=>zay r' (b:=true) (v:=(.bool true)) (Eq.trans (show (g 4).v=.bool (decide (x117.2.1≥(x113.length:Int))) from (hd 4 rfl).1) (kb h125)) rfl bz) ?_;exact zb4
     intro fr gg w126 hb hΦ hap r;have r:=r.congr (sc ((hΦ 14 rfl).1) (sc ((hΦ 13 rfl).1) (sc ((hΦ 12 rfl).1) (sc ((hΦ 11 rfl).1) (sc ((hΦ 10 rfl).1) (sc ((hΦ 9 rfl).1) (sc ((hΦ 8 rfl).1) (sc ((hΦ 7 rfl).1) (sc ((hΦ 6 rfl).1) (sc ((hΦ 5 rfl).1) (sc ((hΦ 4 rfl).1) (sc ((hΦ 3 rfl).1) (sc ((hΦ 2 rfl).1) (sc ((hΦ 1 rfl).1) (sc ((hΦ 0 rfl).1) rfl)))))))))))))));have hP:=hP.below hb;exact nxy124 true () _ _ _ hD r (kO (kO (kO (kO (zaa rfl zaC))))) (hP.pick [0,1,2,3,4,5,6] rfl rfl)
    have hD:=(zaq h125).symm.trans hD;obtain ⟨x127,hx127,hD⟩:=zaj hD;obtain ⟨x128,hx128,hD⟩:=zaj hD;refine zda [.val (I x117.2.1),.val v114,.val (I (x113.length:Int)),.val (.bool (decide (x117.2.1≥(x113.length:Int)))),.val (.bool (decide (x117.2.1≥(x113.length:Int)))),.val v111,.val (I x117.2.2),.val (.pointer (some ⟨rowB v111,rowO v111+x117.2.2.toNat * 2,none⟩)),.val (aq (zpw x127)),.val v114,.val (I x117.2.1),.val (.pointer (some ⟨rowB v114,rowO v114+x117.2.1.toNat * 2,none⟩)),.val (aq (zpw x128)),.val (.bool (!(x127==x128))),.val (.bool (!(x127==x128)))] mixed r kz ?_ ?_
    ·
     refine fc r (fun fr1 g w' hb' hd r'=>zar r' rfl bz) ?_;refine fc r (fun fr1 g w' hb' hd r'=>zar r' rfl bz) ?_
     refine fc r (fun fr1 g w' hb' hd r'=>zbN r' ((hP.below (dr hb')).row (i:=6) rfl).ro is82 (hd 1 rfl).1 bz) ?_;refine fc r (fun fr1 g w' hb' hd r'=>zpG r' (hd 0 rfl).1 (hd 2 rfl).1 rfl rfl bz) ?_
     refine fc r (fun fr1 g w' hb' hd r'=>zar r' (hd 3 rfl).1 bz) ?_;refine zap false r rfl rfl rfl (fun g w' hd=>Eq.trans (show (g 4).v=.bool (decide (x117.2.1≥(x113.length:Int))) from (hd 4 rfl).1) (kb h125)) (fun fr1 g w' hb' hd r'=>?_) ?_
     · exact zar r' (v:=v111) rfl bz
     refine zap false r rfl rfl rfl (fun g w' hd=>Eq.trans (show (g 4).v=.bool (decide (x117.2.1≥(x113.length:Int))) from (hd 4 rfl).1) (kb h125)) (fun fr1 g w' hb' hd r'=>?_) ?_
     · exact zar r' (v:=(I x117.2.2)) rfl bz
     refine zap false r rfl rfl rfl (fun g w' hd=>Eq.trans (show (g 4).v=.bool (decide (x117.2.1≥(x113.length:Int))) from (hd 4 rfl).1) (kb h125)) (fun fr1 g w' hb' hd r'=>?_) ?_
     · exact zbU r' ((hP.below (dr hb')).row (i:=5) rfl).ro hx127 sl82 (hd 5 rfl).1 (hd 6 rfl).1 bz
     refine zap false r rfl rfl rfl (fun g w' hd=>Eq.trans (show (g 4).v=.bool (decide (x117.2.1≥(x113.length:Int))) from (hd 4 rfl).1) (kb h125)) (fun fr1 g w' hb' hd r'=>?_) ?_
     · exact zcV r' (cs:=(zpw x127)) (RoAt.at_ (f:=zpw) (x:=x127) ((hP.below (dr hb')).row (i:=5) rfl).ro (fun _=>rfl) hx127) (hd 7 rfl).1 zsh bz
     refine zap false r rfl rfl rfl (fun g w' hd=>Eq.trans (show (g 4).v=.bool (decide (x117.2.1≥(x113.length:Int))) from (hd 4 rfl).1) (kb h125)) (fun fr1 g w' hb' hd r'=>?_) ?_
     · exact zar r' (v:=v114) rfl bz
     refine zap false r rfl rfl rfl (fun g w' hd=>Eq.trans (show (g 4).v=.bool (decide (x117.2.1≥(x113.length:Int))) from (hd 4 rfl).1) (kb h125)) (fun fr1 g w' hb' hd r'=>?_) ?_
     · exact zar r' (v:=(I x117.2.1)) rfl bz
     refine zap false r rfl rfl rfl (fun g w' hd=>Eq.trans (show (g 4).v=.bool (decide (x117.2.1≥(x113.length:Int))) from (hd 4 rfl).1) (kb h125)) (fun fr1 g w' hb' hd r'=>?_) ?_
     · exact zbU r' ((hP.below (dr hb')).row (i:=6) rfl).ro hx128 sl82 (hd 9 rfl).1 (hd 10 rfl).1 bz
     refine zap false r rfl rfl rfl (fun g w' hd=>Eq.trans (show (g 4).v=.bool (decide (x117.2.1≥(x113.length:Int))) from (hd 4 rfl).1) (kb h125)) (fun fr1 g w' hb' hd r'=>?_) ?_
     · exact zcV r' (cs:=(zpw x128)) (RoAt.at_ (f:=zpw) (x:=x128) ((hP.below (dr hb')).row (i:=6) rfl).ro (fun _=>rfl) hx128) (hd 11 rfl).1 zsh bz
     refine zap false r rfl rfl rfl (fun g w' hd=>Eq.trans (show (g 4).v=.bool (decide (x117.2.1≥(x113.length:Int))) from (hd 4 rfl).1) (kb h125)) (fun fr1 g w' hb' hd r'=>?_) ?_
     · exact zpG r' (u:=(aq (zpw x127))) (u':=(aq (zpw x128))) (v:=(.bool (!(x127==x128)))) (hd 8 rfl).1 (hd 12 rfl).1 (run_eqGuard_agg _ _ _ _ _ _ _ ztH) (zp7 _ _ _).2 bz
     refine fc r (fun fr1 g w' hb' hd r'=>zay r' (b:=false) (v:=(.bool (!(x127==x128)))) (Eq.trans (show (g 4).v=.bool (decide (x117.2.1≥(x113.length:Int))) from (hd 4 rfl).1) (kb h125)) (hd 13 rfl).1 bz) ?_;exact zb4
    intro fr gg w129 hb hΦ hap r;have r:=r.congr (sc ((hΦ 14 rfl).1) (sc ((hΦ 13 rfl).1) (sc ((hΦ 12 rfl).1) (sc ((hΦ 11 rfl).1) (sc ((hΦ 10 rfl).1) (sc ((hΦ 9 rfl).1) (sc ((hΦ 8 rfl).1) (sc ((hΦ 7 rfl).1) (sc ((hΦ 6 rfl).1) (sc ((hΦ 5 rfl).1) (sc ((hΦ 4 rfl).1) (sc ((hΦ 3 rfl).1) (sc ((hΦ 2 rfl).1) (sc ((hΦ 1 rfl).1) (sc ((hΦ 0 rfl).1) rfl)))))))))))))));have hP:=hP.below hb;exact nxy124 (!(x127==x128)) () _ _ _ hD r (kO (kO (kO (kO (zaa rfl zaC))))) (hP.pick [0,1,2,3,4,5,6] rfl rfl)
   rintro x130 γ131 fr w132 g r hP hD;have hP:Post No [_,_,_,_,_,_,_] w0 w132:=hP;refine ae (t:=x130) (r.ev rfl) (fun h133=>?_) (fun h133=>?_)
   ·
    have hD:=(zao h133).symm.trans hD;refine wsr (kA (.bool false) r rfl rfl fun r=>wn (ac ?_));refine rty119 false _ _ hD fun hD=>?_
    have hv:false=res:=Option.some.inj hD
    try dsimp only [Exit.then,Exit.inBlock]
    refine zaH (fn:=Tryz.f8) r (t:=6) rfl (v:=(.bool false)) rfl ?_;subst hv;exact ⟨rfl,hP.chg.below⟩
   have hD:=(zaq h133).symm.trans hD;refine ag ?_;refine af (kM (I x117.2.1) r rfl rfl fun r=>kB r rfl rfl rfl rfl rfl fun r=>kA (I (W (x117.2.1+1))) r rfl rfl fun r=>wn ?_);refine af (kM (I x117.2.2) r rfl rfl fun r=>kB r rfl rfl rfl rfl rfl fun r=>kA (I (W (x117.2.2+1))) r rfl rfl fun r=>wn ?_)
   exact nxy119 (x117.1,(W (x117.2.1+1)),(W (x117.2.2+1))) () _ _ _ hD r (kO (kO (kO (zaa rfl (zaa rfl zaC))))) (hP.pick [0,1,2,3,4,5,6] rfl rfl)
  have hD:=(zaq h121).symm.trans hD;refine wp_exit ?_;exact bky119 (x117.1,x117.2.1,x117.2.2) () _ _ _ hD r (kO (kO (kO (zaa rfl (zaa rfl zaC))))) (hP.pick [0,1,2,3,4,5,6] rfl rfl)
 rintro x134 γ135 fr w136 g r hP hD;have hP:Post No [_,_,_,_,_,_,_] w0 w136:=hP;refine wsr (kM (I x134.2.1) r rfl rfl fun r=>kM v114 r rfl rfl fun r=>za0 (I (x113.length:Int)) r (fun R=>zbN r (hP.row (i:=6) rfl).ro is82 rfl) rfl fun fr r=>kB r rfl rfl rfl rfl rfl fun r=>kA (.bool (x134.2.1==(x113.length:Int))) r rfl rfl fun r=>wn (ac ?_));have hv:(x134.2.1==(x113.length:Int))=res:=Option.some.inj hD
 try dsimp only [Exit.then,Exit.inBlock]
 refine zaH (fn:=Tryz.f8) r (t:=6) rfl (v:=(.bool (x134.2.1==(x113.length:Int)))) rfl ?_;subst hv;exact ⟨rfl,hP.chg.below⟩
end Go.Proofs.YtbbipmelhmgmfaaGreat.Wk

/- Ours. -/
namespace Go.Proofs.YtbbipmelhmgmfaaGreat
open Go.RowKit
/-! ### The entries whose keys are of the first cell -/
def f3 (E:List Entry):List Entry:=E.filter fun (e:Entry)=>e.key.tmod 3==0
theorem zj1 {A C:List Entry}:f3 (A++C)=f3 A++f3 C:=List.filter_append ..
theorem zr2 {e:Entry} {C:List Entry} (h:e.key.tmod 3=0):f3 (e::C)=e::f3 C:=by
 unfold f3; rw [List.filter_cons_of_pos (by simp [h])]
theorem znf {e:Entry} {C:List Entry} (h:e.key.tmod 3≠0):f3 (e::C)=f3 C:=by
 unfold f3; rw [List.filter_cons_of_neg (by simp [h])]
theorem zoI {E:List Entry} (h:Rise E):Rise (f3 E):=h.sub List.filter_sublist
theorem zmx {k:Int} {E:List Entry} (h:Rise E):loE k (f3 E)=f3 (loE k E)∧hiE k (f3 E)=f3 (hiE k E):=by
 have hs:=Rise.split (k:=k) (E:=E);have e:f3 E=f3 (loE k E)++f3 (hiE k E):=by rw [←zj1,←hs]
 rw [e]
 refine cutE (fun x hx=>zqZ (List.mem_filter.1 hx).1) (fun x hx=>?_);have hm:x∈f3 (hiE k E):=List.mem_of_mem_head? hx
 exact h.zrm (List.mem_filter.1 hm).1
theorem znl {k:Int} {E:List Entry} (h:Rise E) (hk:k.tmod 3=0):hasE k (f3 E)=hasE k E∧getE k (f3 E)=getE k E:=
 zlw (zoI h) h fun v=>⟨fun hm=>(List.mem_filter.1 hm).1,fun hm=>List.mem_filter.2 ⟨hm,by simp [hk]⟩⟩
theorem zof {k v:Int} {E:List Entry} (h:Rise E):f3 (insE k v E)=if k.tmod 3=0 then insE k v (f3 E) else f3 E:=by
 have hs:=Rise.split (k:=k) (E:=E);unfold insE;rw [zj1,(zmx h).1,(zmx h).2]
 split
 ·rename_i hk; rw [zr2 (e:=⟨k,v⟩) hk]
 ·rename_i hk
  rw [znf (e:=⟨k,v⟩) hk,←zj1,←hs]
theorem zoi {k:Int} {E:List Entry} (h:Rise E):f3 (delE k E)=if k.tmod 3=0 then delE k (f3 E) else f3 E:=by
 have hs:=Rise.split (k:=k) (E:=E);cases hh:hasE k E with
 | false=>
  have e1:delE k E=E:=by unfold delE; rw [if_neg (by rw [hh]; simp)]
  rw [e1]
  split
  ·rename_i hk
   unfold delE;rw [if_neg (by rw [(znl h hk).1,hh]; simp)]
  ·rfl
 | true=>
  obtain ⟨e,r,hx,he⟩:∃ e r,hiE k E=e::r∧e.key=k:=by
   unfold hasE at hh
   cases hx:hiE k E with
   | nil=>rw [hx] at hh; cases hh
   | cons e r=>rw [hx] at hh; exact ⟨e,r,rfl,by simpa using hh⟩
  have e1:delE k E=loE k E++r:=by unfold delE; rw [if_pos hh,hx]; rfl
  rw [e1,zj1]
  split
  ·rename_i hk
   unfold delE;rw [if_pos (by rw [(znl h hk).1,hh]),(zmx h).1,(zmx h).2,hx,zr2 (by rw [he]; exact hk)]
   rfl
  ·rename_i hk
   have:f3 E=f3 (loE k E)++f3 (hiE k E):=by rw [←zj1,←hs]
   rw [this,hx,znf (by rw [he]; exact hk)]
theorem zo3 {c:CallD} {E:List Entry} (h:Rise E) (hk:c.k.tmod 3=0):ansE c (f3 E)=ansE c E∧nextE c (f3 E)=f3 (nextE c E):=by
 obtain ⟨h1,h2⟩:=znl h hk;unfold ansE nextE;rw [h1,h2];refine ⟨rfl,?_⟩
 split
 ·split
  ·rfl
  ·rw [zof h,if_pos hk]
 ·split
  ·rw [zoi h,if_pos hk]
  ·rfl
theorem znW {c:CallD} {E:List Entry} (h:Rise E) (hk:c.k.tmod 3≠0):f3 (nextE c E)=f3 E:=by
 unfold nextE
 split
 ·split
  ·rfl
  ·rw [zof h,if_neg hk]
 ·split
  ·rw [zoi h,if_neg hk]
  ·rfl
theorem MapT.more {p:Plan} {M:Mem} {E:List Entry} {i j:Nat} (h:MapT p M E i) (hij:i≤j):MapT p M E j:=by
 obtain ⟨P,g,N0,N1,h0,h1,hd,hal,hg,he,hf⟩:=h;exact ⟨P,g,N0,N1,h0,h1,hd,hal,kw,he,kw⟩
theorem MapS.more {p:Plan} {d:Int} {M:Mem} {E:List Entry} {i j:Nat} (h:MapS p d M E i) (hij:i≤j):MapS p d M E j:=by
 obtain ⟨P,g,N,h0,hal,hg,he,hf⟩:=h;exact ⟨P,g,N,h0,hal,kw,he,kw⟩
theorem zlf {E A C:List Entry} {x:Entry} {n:Nat} (h:E=A++x::C) (hn:A.length=n):getI E (n:Int)=some x:=by
 subst h hn;rw [zkG yat];simp
def p3:Plan:=⟨40,1,4,2,3,1000⟩
theorem p3F:PF p3:=zmR (by decide +kernel)
theorem zqi:p3.nodes≤40∧p3.retire≤40∧p3.domains≤6∧p3.buckets≤10:=⟨by show (40:Int)≤40; omega,by show (4:Int)≤40; omega,by show (2:Int)≤6; omega,by show (3:Int)≤10; omega⟩
theorem p3d:1<p3.domains:=by show (1:Int)<2; omega
theorem z3 {k:Int} (h:0≤k∧k≤18446744073709551615):∃ z,IntKind.u64.wrap (k - k.tmod 3)=z∧(0≤z∧z≤18446744073709551615)∧z.tmod 3=0:=by
 have h1:k.tmod 3=k % 3:=Int.tmod_eq_emod_of_nonneg h.1;refine ⟨k - k % 3,?_,kw,?_⟩
 ·rw [h1,zbk kw kw]
 ·rw [Int.tmod_eq_emod_of_nonneg kw]; omega
theorem second {l:List CallD} (hb:∀ x,x∈l→(0≤x.kind∧x.kind≤255)∧(0≤x.k∧x.k≤18446744073709551615)∧(0≤x.v∧x.v≤18446744073709551615)) (a2:Int) {M:Mem} {E:List Entry} {i j:Nat} (h:MapT p3 M E j) (hj:j<40) :
  ∃ M' E',(bif (decide ((i:Int)<(l.length:Int))) then ((getI l (i:Int)).bind (fun (x53:CallD)=>(Option.bind (bif ((a2.tmod 2)==0) then (some (decide ((({ x53 with k:=(IntKind.u64.wrap (x53.k - (x53.k.tmod 3))) }:CallD).k)<9223372036854775808))) else (some false)) (fun (x64:Bool)=>(Option.bind (bif x64 then (some (({ ({ x53 with k:=(IntKind.u64.wrap (x53.k - (x53.k.tmod 3))) }:CallD) with k:=(IntKind.u64.wrap ((({ x53 with k:=(IntKind.u64.wrap (x53.k - (x53.k.tmod 3))) }:CallD).k)+1)) }:CallD),(0:Int))) else (some (({ x53 with k:=(IntKind.u64.wrap (x53.k - (x53.k.tmod 3))) }:CallD),1))) (fun (x71:CallD × Int)=>((D.zb0 4000 p3 M x71.2 x71.1).bind (fun (x74:Res × Mem)=>(some x74.2))))))))) else (some M))=some M'∧MapT p3 M' E' (j+1)∧f3 E'=f3 E:=by
 by_cases hi:(i:Int)<(l.length:Int)
 ·have hi':i<l.length:=by omega
  obtain ⟨-,hk,-⟩:=hb _ (List.getElem_mem hi');rw [decide_eq_true hi,zkG hi'];simp only [cond_true,Option.bind_some]
  generalize l[i]=c at hk ⊢
  obtain ⟨z,hz,hz1,hz2⟩:=z3 hk;rw [hz];have hn:p3.nodes=40:=rfl;have hoth:∃ M' E',((D.zb0 4000 p3 M 1 ({ c with k:=z }:CallD)).bind fun (x74:Res × Mem)=>some x74.2)=some M'∧MapT p3 M' E' (j+1)∧f3 E'=f3 E:=by
   obtain ⟨r,M',hr,hT⟩:=h.run1 p3F zqi p3d (by rw [hn]; omega) (c:={ c with k:=z }) hz1
   rw [hr]
   exact ⟨M',E,rfl,hT,rfl⟩
  cases h2:(a2.tmod 2==0)
  ·simp only [cond_false,Option.bind_some]
   exact hoth
  ·simp only [cond_true,Option.bind_some]
   by_cases hlt:z<9223372036854775808
   ·rw [decide_eq_true hlt]
    simp only [cond_true,Option.bind_some]
    rw [zbk (x:=z+1) kw kw]
    obtain ⟨M',hr,hT⟩:=h.run0 p3F zqi p3d (by rw [hn]; omega) (c:={ c with k:=z+1 }) (by show 0≤z+1∧z+1≤18446744073709551615; omega)
    rw [hr]
    refine ⟨M',_,rfl,hT,znW (h.rise p3F zqi p3d) ?_⟩;show (z+1).tmod 3≠0
    rw [Int.tmod_eq_emod_of_nonneg kw] at hz2 ⊢
    omega
   ·rw [decide_eq_false hlt]
    simp only [cond_false,Option.bind_some]
    exact hoth
 ·rw [decide_eq_false hi]
  exact ⟨M,E,rfl,h.more kw,rfl⟩
theorem zk8 (l k:List CallD) (n:Int) (hl:∀ x,x∈l→(0≤x.kind∧x.kind≤255)∧(0≤x.k∧x.k≤18446744073709551615)∧(0≤x.v∧x.v≤18446744073709551615)) (hk:∀ x,x∈k→(0≤x.kind∧x.kind≤255)∧(0≤x.k∧x.k≤18446744073709551615)∧(0≤x.v∧x.v≤18446744073709551615)) (_:0≤n∧n≤255) :
  ∃ fu,Wk.D.zbZ fu l k n=some true:=by
 refine ⟨4000,?_⟩;unfold Wk.D.zbZ;rw [znY];simp only [Option.bind_some,Bool.not_true,cond_false];cases hl1:decide ((l.length:Int) > 20)
 case true=>rfl
 simp only [decide_eq_false_iff_not] at hl1
 simp only [cond_false,Option.bind_some]
 cases hk1:decide ((k.length:Int) > 20)
 case true=>rfl
 simp only [decide_eq_false_iff_not] at hk1
 simp only [cond_false]
 rw [show (⟨40,1,4,2,3,1000⟩:Plan)=p3 from rfl]
 obtain ⟨M,hM,hT,hS⟩:=MapT.start p3F zqi p3d;rw [hM];simp only [Option.bind_some];have hn:p3.nodes=40:=rfl;refine zjo (fun o=>o=some true) (fun (i:Nat) (x:Bool × Int × Mem × Mem)=>∃ (c:Bool) (M O:Mem) (E:List Entry),x=(c,(i:Int),M,O)∧MapT p3 M E (2 * i)∧MapS p3 0 O (f3 E) i) (max l.length k.length) 4000 ⟨false,M,M,[],rfl,hT,hS⟩ kw ?_ ?_
 ·rintro i _ hi ⟨c,M,O,E,rfl,hT,hS⟩
  simp only
  have hi20:i<20:=kw
  have hx32:(bif decide ((i:Int)<(l.length:Int)) then some true else some (decide ((i:Int)<(k.length:Int))))=some true:=by
   by_cases h1:(i:Int)<(l.length:Int)
   ·rw [decide_eq_true h1]; rfl
   ·rw [decide_eq_false h1,decide_eq_true (show (i:Int)<(k.length:Int) by omega)]; rfl
  rw [hx32]
  simp only [Option.bind_some,cond_true]
  rw [zaQ (show -1000000≤(i:Int)+1 by omega) kw]
  by_cases h1:(i:Int)<(l.length:Int)
  ·have h1':i<l.length:=by omega
   obtain ⟨-,hkb,-⟩:=hl _ (List.getElem_mem h1');rw [decide_eq_true h1,zkG h1'];simp only [cond_true,Option.bind_some]
   generalize l[i]=cl at hkb ⊢
   obtain ⟨z,hz,hz1,hz2⟩:=z3 hkb;rw [hz];obtain ⟨M1,hr1,hT1⟩:=hT.run0 p3F zqi p3d (by rw [hn]; omega) (c:={ cl with k:=z }) hz1
   obtain ⟨O1,hr2,hS1⟩:=hS.runN p3F zqi p3d (by rw [hn]; omega) (c:={ cl with k:=z }) hz1
   obtain ⟨ea,en⟩:=zo3 (c:={ cl with k:=z }) (hT.rise p3F zqi p3d) hz2
   rw [hr1]
   simp only [Option.bind_some]
   rw [hr2]
   simp only [Option.bind_some]
   rw [ea,show (ansE { cl with k:=z } E==ansE { cl with k:=z } E)=true from by simp]
   simp only [Bool.not_true,cond_false]
   obtain ⟨M2,E2,hr3,hT2,he2⟩:=second hk n (i:=i) hT1 kw;rw [hr3];refine ⟨_,rfl,c,M2,O1,E2,by simp,hT2.more kw,?_⟩
   rw [he2,←en]
   exact hS1
  ·rw [decide_eq_false h1]
   simp only [cond_false]
   obtain ⟨M2,E2,hr3,hT2,he2⟩:=second hk n (i:=i) hT kw;rw [hr3];refine ⟨_,rfl,c,M2,O,E2,by simp,hT2.more kw,?_⟩
   rw [he2]
   exact hS.more kw
 ·rintro _ ⟨c,M,O,E,rfl,hT,hS⟩
  simp only
  have hx32:(bif decide (((max l.length k.length:Nat):Int)<(l.length:Int)) then some true else some (decide (((max l.length k.length:Nat):Int)<(k.length:Int))))=some false:=by
   rw [decide_eq_false (show ¬ ((max l.length k.length:Nat):Int)<(l.length:Int) by omega),decide_eq_false (show ¬ ((max l.length k.length:Nat):Int)<(k.length:Int) by omega)]; rfl
  rw [hx32]
  refine ⟨_,rfl,?_⟩;simp only;obtain ⟨e1,e3⟩:=hT.entries p3F zqi p3d;obtain ⟨e2,e4⟩:=hS.entries p3F zqi (by show (0:Int)≤0∧(0:Int)<2; omega)
  rw [e1]
  simp only [Option.bind_some]
  rw [e2]
  simp only [Option.bind_some]
  refine zjo (fun o=>o=some true) (fun (i:Nat) (x:Bool × Int × Int)=>∃ A C,E=A++C∧A.length=i∧x=(c,((f3 A).length:Int),(i:Int))) E.length 4000 ⟨[],E,rfl,rfl,rfl⟩ kw ?_ ?_
  ·rintro i _ hi ⟨A,C,e,hA,rfl⟩
   obtain ⟨x,C',rfl⟩:∃ x C',C=x::C':=by
    cases C with
    | nil=>rw [e] at hi; simp at hi; omega
    | cons x C'=>exact ⟨x,C',rfl⟩
   simp only
   have hF:f3 E=f3 A++f3 (x::C'):=by rw [e,zj1]
   have hla:(f3 A).length≤A.length:=List.length_filter_le ..;rw [show decide ((i:Int)<(E.length:Int))=true from by simp; omega,zlf e hA,zaQ (show -1000000≤(i:Int)+1 by omega) kw]
   simp only [cond_true,Option.bind_some]
   by_cases hx:x.key.tmod 3=0
   ·rw [show (x.key.tmod 3 !=0)=false from by simp [hx]]
    simp only [cond_false]
    rw [zr2 hx] at hF
    have hlen:=congrArg List.length hF;simp only [List.length_append,List.length_cons] at hlen
    rw [show decide (((f3 A).length:Int)≥((f3 E).length:Int))=false from by rw [decide_eq_false_iff_not]; omega,zlf hF rfl,zaQ (show -1000000≤((f3 A).length:Int)+1 by omega) kw]
    simp only [cond_false,Option.bind_some]
    rw [show (x==x)=true from by simp]
    exact ⟨_,rfl,A++[x],C',by rw [e]; simp,by simp [hA],by rw [zj1,zr2 hx]; simp [f3]⟩
   ·rw [show (x.key.tmod 3 !=0)=true from by simp [hx]]
    exact ⟨_,rfl,A++[x],C',by rw [e]; simp,by simp [hA],by rw [zj1,znf hx]; simp [f3]⟩
  ·rintro _ ⟨A,C,e,hA,rfl⟩
   have hC:C=[]:=by
    have:=congrArg List.length e;rw [List.length_append] at this
    exact List.length_eq_zero_iff.1 kw
   subst hC;rw [List.append_nil] at e
   subst e;simp only;rw [show decide ((E.length:Int)<(E.length:Int))=false from by simp]
   exact ⟨_,rfl,by simp⟩
end Go.Proofs.YtbbipmelhmgmfaaGreat

/- Ours. -/
namespace Go.Proofs.YtbbipmelhmgmfaaGreat
open Go.ChangeShapes Go.WideShapes Go.RowKit Go.Deep Go.ChangeAt
theorem zr3 {α:Type} {l:List α} (h:l.length=3):∃ x0 x1 x2,l=[x0,x1,x2]:=by
 match l,h with
 | [x0,x1,x2],_=>exact ⟨x0,x1,x2,rfl⟩
theorem laidOut:laidOutB Tryz.prog:=kz
end Go.Proofs.YtbbipmelhmgmfaaGreat

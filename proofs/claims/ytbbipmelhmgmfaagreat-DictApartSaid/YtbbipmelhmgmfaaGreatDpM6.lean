/- Some of our texts, one behind the other. -/
import Derived.Test.YtbbipmelhmgmfaaGreatDpM4
import Derived.Test.YtbbipmelhmgmfaaGreatDpM5
set_option linter.all false
set_option maxRecDepth 100000
set_option maxHeartbeats 20000000
/- Ours. -/
namespace Go.Proofs.YtbbipmelhmgmfaaGreat
open Go.RowKit
theorem zgD:zpq ar 190 0 0:=kz
theorem zjM:zpq ar 190 1 1:=kz
theorem zlI:zpq ar 190 2 2:=kz
theorem zq9:tyA ar 190 3:=kz
theorem zqd:sized ar 190 3:=kz
theorem ts3:sized ar 3 1:=kz
theorem zqj:zeroOf ar 190=some (aq (zps (⟨0,0,0⟩:State))):=kz
def D.zaU (a0:State) (a1:Int):State:=(⟨a0.gen,1,a1⟩:State)
theorem zif (w0:World) 
    (a0:State) (a1:Int) :
    Calls ar 272 #[aq (zps a0),.int .i64 a1] w0 (zpx (aq (zps (D.zaU a0 a1))) w0):=by
 refine kN Tryz.func272 rfl 9 rfl rfl fun fr r hB=>?_;refine wsr ?_
 refine kX 190 (aq (zps a0)) r rfl rfl fun b1 w2 n3 r=>?_;obtain ⟨eb1,zw2,hb1,hB,zB⟩:=n3.all hB
 refine za7 (.cells ((zps (⟨0,0,0⟩:State))).toArray 190 (0,0)) r (fun R=>za6 zqj) rfl fun fr b4 w5 n6 r=>?_;have hb1:=keep n6.below hb1
 obtain ⟨eb4,zw5,hb4,hB,zB⟩:=n6.all hB;refine wn (wsr (kF 0 r rfl zgD rfl fun r=>kL (I a0.gen) r rfl hb1 to3 rfl rfl fun r=>kM (I a1) r rfl rfl fun r=>kU (aq (zps (⟨a0.gen,1,a1⟩:State))) r kz rfl fun r=>?_));refine zaD (.cells ((zps (⟨a0.gen,1,a1⟩:State))).toArray 190 (0,0)) r (fun R=>zax r (o:=0) (v:=(aq (zps (⟨a0.gen,1,a1⟩:State)))) rfl rfl hb4 zqd ak rfl rfl) rfl fun fr w7 u8 r=>?_
 have zw7:=u8.size;have hb1:=u8.keep hb1 kw
 have hb4:=u8.at_;obtain ⟨hB,zB⟩:=u8.on hB kw
 refine wn (ac ?_);refine za5 r rfl rfl hb4 (k:=3) rfl zq9 ?_;exact ⟨rfl,hB⟩
def D.zag (a0:State) (a1:Int):State:=(bif (decide (a0.gen≥a1)) then (⟨a0.gen,3,0⟩:State) else (⟨(IntKind.i64.wrap (a0.gen+1)),0,0⟩:State))
theorem zhJ (w0:World) 
    (a0:State) (a1:Int) :
    Calls ar 308 #[aq (zps a0),.int .i64 a1] w0 (zpx (aq (zps (D.zag a0 a1))) w0):=by
 refine kN Tryz.func308 rfl 16 rfl rfl fun fr r hB=>?_;refine wsr ?_
 refine kX 190 (aq (zps a0)) r rfl rfl fun b1 w2 n3 r=>?_;obtain ⟨eb1,zw2,hb1,hB,zB⟩:=n3.all hB
 refine za7 (.cells ((zps (⟨0,0,0⟩:State))).toArray 190 (0,0)) r (fun R=>za6 zqj) rfl fun fr b4 w5 n6 r=>?_;have hb1:=keep n6.below hb1
 obtain ⟨eb4,zw5,hb4,hB,zB⟩:=n6.all hB;refine wn (aa (wsr (kF 0 r rfl zgD rfl fun r=>kL (I a0.gen) r rfl hb1 to3 rfl rfl fun r=>kM (I a1) r rfl rfl fun r=>kB r rfl rfl rfl rfl rfl fun r=>wn ?_)));refine ae (t:=(decide (a0.gen≥a1))) (r.ev rfl) (fun h7=>?_) (fun h7=>?_)
 ·
  refine wsr (kF 0 r rfl zgD rfl fun r=>kL (I a0.gen) r rfl hb1 to3 rfl rfl fun r=>kU (aq (zps (⟨a0.gen,3,0⟩:State))) r kz rfl fun r=>?_);refine zaD (.cells ((zps (⟨a0.gen,3,0⟩:State))).toArray 190 (0,0)) r (fun R=>zax r (o:=0) (v:=(aq (zps (⟨a0.gen,3,0⟩:State)))) rfl rfl hb4 zqd ak rfl rfl) rfl fun fr w8 u9 r=>?_
  have zw8:=u9.size;have hb1:=u9.keep hb1 kw
  have hb4:=u9.at_;obtain ⟨hB,zB⟩:=u9.on hB kw
  refine wn (ac ?_);have hd:D.zag a0 a1=(⟨a0.gen,3,0⟩:State):=(zao h7).trans (rfl);refine za5 r rfl rfl hb4 (k:=3) rfl zq9 ?_;rw [hd];exact ⟨rfl,hB⟩
 refine ag (wsr (kF 0 r rfl zgD rfl fun r=>kL (I a0.gen) r rfl hb1 to3 rfl rfl fun r=>kB r rfl rfl rfl rfl rfl fun r=>kU (.agg (zps (⟨(W (a0.gen+1)),0,0⟩:State)).toArray) r kz rfl fun r=>?_));refine zaD (.cells ((zps (⟨(W (a0.gen+1)),0,0⟩:State))).toArray 190 (0,0)) r (fun R=>zax r (o:=0) (v:=(.agg (zps (⟨(W (a0.gen+1)),0,0⟩:State)).toArray)) rfl rfl hb4 zqd ak rfl rfl) rfl fun fr w10 u11 r=>?_
 have zw10:=u11.size;have hb1:=u11.keep hb1 kw
 have hb4:=u11.at_;obtain ⟨hB,zB⟩:=u11.on hB kw
 refine wn (ac ?_);have hd:D.zag a0 a1=(⟨(W (a0.gen+1)),0,0⟩:State):=(zaq h7).trans (rfl);refine za5 r rfl rfl hb4 (k:=3) rfl zq9 ?_;rw [hd];exact ⟨rfl,hB⟩
def D.zbl (a0:State):State:=({ a0 with mode:=2 })
theorem zhu (w0:World) 
    (a0:State) :
    Calls ar 138 #[aq (zps a0)] w0 (zpx (aq (zps (D.zbl a0))) w0):=by
 refine kN Tryz.func138 rfl 5 rfl rfl fun fr r hB=>?_;refine wsr ?_
 refine kX 190 (aq (zps a0)) r rfl rfl fun b1 w2 n3 r=>?_;obtain ⟨eb1,zw2,hb1,hB,zB⟩:=n3.all hB
 refine za7 (.cells ((zps (⟨0,0,0⟩:State))).toArray 190 (0,0)) r (fun R=>za6 zqj) rfl fun fr b4 w5 n6 r=>?_;have hb1:=keep n6.below hb1
 obtain ⟨eb4,zw5,hb4,hB,zB⟩:=n6.all hB;refine wn (wsr (kF 0 r rfl zjM rfl fun r=>?_));refine zaD (.cells ((zps ({ a0 with mode:=2 }))).toArray 190 (0,0)) r (fun R=>zax r (o:=1) (v:=(I 2)) rfl rfl hb1 ts3 ak rfl rfl) rfl fun fr w7 u8 r=>?_
 have zw7:=u8.size;have hb4:=u8.keep hb4 kw
 have hb1:=u8.at_;obtain ⟨hB,zB⟩:=u8.on hB kw
 refine wn (wsr (kG (zps ({ a0 with mode:=2 })) 3 r rfl hb1 zq9 rfl rfl fun r=>?_))
 refine zaD (.cells ((zps ({ a0 with mode:=2 }))).toArray 190 (0,0)) r (fun R=>zax r (o:=0) (v:=(aq (zps ({ a0 with mode:=2 })))) rfl rfl hb4 zqd ak rfl rfl) rfl fun fr w9 u10 r=>?_
 have zw9:=u10.size;have hb1:=u10.keep hb1 kw
 have hb4:=u10.at_;obtain ⟨hB,zB⟩:=u10.on hB kw
 refine wn (ac ?_);refine za5 r rfl rfl hb4 (k:=3) rfl zq9 ?_;exact ⟨rfl,hB⟩
def D.zaw (a0:State):Bool:=(bif (decide (a0.gen≥0)) then (bif (decide (a0.gen≤1073741823)) then (bif (decide (a0.mode≥0)) then (bif (decide (a0.mode≤3)) then (bif (decide (a0.kind≥0)) then (decide (a0.kind≤2)) else false) else false) else false) else false) else false)
theorem zeK (w0:World) 
    (a0:State) :
    Calls ar 198 #[aq (zps a0)] w0 (zpx (.bool (D.zaw a0)) w0):=by
 refine kN Tryz.func198 rfl 31 rfl rfl fun fr r hB=>?_;refine wsr ?_
 refine kX 190 (aq (zps a0)) r rfl rfl fun b1 w2 n3 r=>?_;obtain ⟨eb1,zw2,hb1,hB,zB⟩:=n3.all hB
 refine kA (.bool false) r rfl rfl fun r=>wn (wsr (kF 0 r rfl zgD rfl fun r=>kL (I a0.gen) r rfl hb1 to3 rfl rfl fun r=>kB r rfl rfl rfl rfl rfl fun r=>kM (.bool (decide (a0.gen≥0))) r rfl rfl fun r=>?_));refine zaT (decide (a0.gen≥0)) (fun h4=>?_) (fun h4=>?_)
 ·
  refine s1 r h4 (kF 0 r rfl zgD rfl fun r=>s1 r h4 (kL (I a0.gen) r rfl hb1 to3 rfl rfl fun r=>s1 r h4 (kB r rfl rfl rfl rfl rfl fun r=>za0 (.bool (decide (a0.gen≤1073741823))) r (fun R=>zay r (b:=true) (kb h4) rfl) rfl fun fr r=>kM (.bool (decide (a0.gen≤1073741823))) r rfl rfl fun r=>?_)));refine zaT (decide (a0.gen≤1073741823)) (fun h5=>?_) (fun h5=>?_)
  ·
   refine s1 r h5 (kF 0 r rfl zjM rfl fun r=>s1 r h5 (kL (I a0.mode) r rfl hb1 to3 rfl rfl fun r=>s1 r h5 (kB r rfl rfl rfl rfl rfl fun r=>za0 (.bool (decide (a0.mode≥0))) r (fun R=>zay r (b:=true) (kb h5) rfl) rfl fun fr r=>kM (.bool (decide (a0.mode≥0))) r rfl rfl fun r=>?_)));refine zaT (decide (a0.mode≥0)) (fun h6=>?_) (fun h6=>?_)
   ·
    refine s1 r h6 (kF 0 r rfl zjM rfl fun r=>s1 r h6 (kL (I a0.mode) r rfl hb1 to3 rfl rfl fun r=>s1 r h6 (kB r rfl rfl rfl rfl rfl fun r=>za0 (.bool (decide (a0.mode≤3))) r (fun R=>zay r (b:=true) (kb h6) rfl) rfl fun fr r=>kM (.bool (decide (a0.mode≤3))) r rfl rfl fun r=>?_)));refine zaT (decide (a0.mode≤3)) (fun h7=>?_) (fun h7=>?_)
    ·
     refine s1 r h7 (kF 0 r rfl zlI rfl fun r=>s1 r h7 (kL (I a0.kind) r rfl hb1 to3 rfl rfl fun r=>s1 r h7 (kB r rfl rfl rfl rfl rfl fun r=>za0 (.bool (decide (a0.kind≥0))) r (fun R=>zay r (b:=true) (kb h7) rfl) rfl fun fr r=>kM (.bool (decide (a0.kind≥0))) r rfl rfl fun r=>?_)));refine zaT (decide (a0.kind≥0)) (fun h8=>?_) (fun h8=>?_)
     ·
      refine s1 r h8 (kF 0 r rfl zlI rfl fun r=>s1 r h8 (kL (I a0.kind) r rfl hb1 to3 rfl rfl fun r=>s1 r h8 (kB r rfl rfl rfl rfl rfl fun r=>za0 (.bool (decide (a0.kind≤2))) r (fun R=>zay r (b:=true) (kb h8) rfl) rfl fun fr r=>kA (.bool (decide (a0.kind≤2))) r rfl rfl fun r=>wn (ac ?_))));have hd:D.zaw a0=(decide (a0.kind≤2)):=(zao h4).trans ((zao h5).trans ((zao h6).trans ((zao h7).trans ((zao h8).trans (rfl)))))
      refine zaH r rfl rfl ?_;rw [hd];exact ⟨rfl,hB⟩
     refine s0 r h8 fun fr r=>s0 r h8 fun fr r=>s0 r h8 fun fr r=>za0 (.bool false) r (fun R=>zay r (b:=false) (kb h8) rfl) rfl fun fr r=>kA (.bool false) r rfl rfl fun r=>wn (ac ?_);have hd:D.zaw a0=false:=(zao h4).trans ((zao h5).trans ((zao h6).trans ((zao h7).trans ((zaq h8).trans (rfl)))))
     refine zaH r rfl rfl ?_;rw [hd];exact ⟨rfl,hB⟩
    refine s0 r h7 fun fr r=>s0 r h7 fun fr r=>s0 r h7 fun fr r=>za0 (.bool false) r (fun R=>zay r (b:=false) (kb h7) rfl) rfl fun fr r=>kM (.bool false) r rfl rfl fun r=>s0 r (rfl:false=_) fun fr r=>s0 r (rfl:false=_) fun fr r=>s0 r (rfl:false=_) fun fr r=>za0 (.bool false) r (fun R=>zay r (b:=false) (kb (rfl:false=_)) rfl) rfl fun fr r=>kA (.bool false) r rfl rfl fun r=>wn (ac ?_);have hd:D.zaw a0=false:=(zao h4).trans ((zao h5).trans ((zao h6).trans ((zaq h7).trans (rfl))))
    refine zaH r rfl rfl ?_;rw [hd];exact ⟨rfl,hB⟩
   refine s0 r h6 fun fr r=>s0 r h6 fun fr r=>s0 r h6 fun fr r=>za0 (.bool false) r (fun R=>zay r (b:=false) (kb h6) rfl) rfl fun fr r=>kM (.bool false) r rfl rfl fun r=>s0 r (rfl:false=_) fun fr r=>s0 r (rfl:false=_) fun fr r=>s0 r (rfl:false=_) fun fr r=>za0 (.bool false) r (fun R=>zay r (b:=false) (kb (rfl:false=_)) rfl) rfl fun fr r=>kM (.bool false) r rfl rfl fun r=>s0 r (rfl:false=_) fun fr r=>s0 r (rfl:false=_) fun fr r=>s0 r (rfl:false=_) fun fr r=>za0 (.bool false) r (fun R=>zay r (b:=false) (kb (rfl:false=_)) rfl) rfl fun fr r=>kA (.bool false) r rfl rfl fun r=>wn (ac ?_);have hd:D.zaw a0=false:=(zao h4).trans ((zao h5).trans ((zaq h6).trans (rfl)))
   refine zaH r rfl rfl ?_;rw [hd];exact ⟨rfl,hB⟩
  refine s0 r h5 fun fr r=>s0 r h5 fun fr r=>s0 r h5 fun fr r=>za0 (.bool false) r (fun R=>zay r (b:=false) (kb h5) rfl) rfl fun fr r=>kM (.bool false) r rfl rfl fun r=>s0 r (rfl:false=_) fun fr r=>s0 r (rfl:false=_) fun fr r=>s0 r (rfl:false=_) fun fr r=>za0 (.bool false) r (fun R=>zay r (b:=false) (kb (rfl:false=_)) rfl) rfl fun fr r=>kM (.bool false) r rfl rfl fun r=>s0 r (rfl:false=_) fun fr r=>s0 r (rfl:false=_) fun fr r=>s0 r (rfl:false=_) fun fr r=>za0 (.bool false) r (fun R=>zay r (b:=false) (kb (rfl:false=_)) rfl) rfl fun fr r=>kM (.bool false) r rfl rfl fun r=>s0 r (rfl:false=_) fun fr r=>s0 r (rfl:false=_) fun fr r=>s0 r (rfl:false=_) fun fr r=>za0 (.bool false) r (fun R=>zay r (b:=false) (kb (rfl:false=_)) rfl) rfl fun fr r=>kA (.bool false) r rfl rfl fun r=>wn (ac ?_);have hd:D.zaw a0=false:=(zao h4).trans ((zaq h5).trans (rfl))
  refine zaH r rfl rfl ?_;rw [hd];exact ⟨rfl,hB⟩
 refine s0 r h4 fun fr r=>s0 r h4 fun fr r=>s0 r h4 fun fr r=>za0 (.bool false) r (fun R=>zay r (b:=false) (kb h4) rfl) rfl fun fr r=>kM (.bool false) r rfl rfl fun r=>s0 r (rfl:false=_) fun fr r=>s0 r (rfl:false=_) fun fr r=>s0 r (rfl:false=_) fun fr r=>za0 (.bool false) r (fun R=>zay r (b:=false) (kb (rfl:false=_)) rfl) rfl fun fr r=>kM (.bool false) r rfl rfl fun r=>s0 r (rfl:false=_) fun fr r=>s0 r (rfl:false=_) fun fr r=>s0 r (rfl:false=_) fun fr r=>za0 (.bool false) r (fun R=>zay r (b:=false) (kb (rfl:false=_)) rfl) rfl fun fr r=>kM (.bool false) r rfl rfl fun r=>s0 r (rfl:false=_) fun fr r=>s0 r (rfl:false=_) fun fr r=>s0 r (rfl:false=_) fun fr r=>za0 (.bool false) r (fun R=>zay r (b:=false) (kb (rfl:false=_)) rfl) rfl fun fr r=>kM (.bool false) r rfl rfl fun r=>s0 r (rfl:false=_) fun fr r=>s0 r (rfl:false=_) fun fr r=>s0 r (rfl:false=_) fun fr r=>za0 (.bool false) r (fun R=>zay r (b:=false) (kb (rfl:false=_)) rfl) rfl fun fr r=>kA (.bool false) r rfl rfl fun r=>wn (ac ?_);have hd:D.zaw a0=false:=(zaq h4).trans (rfl)
 refine zaH r rfl rfl ?_;rw [hd];exact ⟨rfl,hB⟩
end Go.Proofs.YtbbipmelhmgmfaaGreat

/- Ours. -/
namespace Go.Proofs.YtbbipmelhmgmfaaGreat.St
open Go.RowKit
theorem zs8:arrTy ar 244 3 2:=kz
theorem zqy:zpf ar 191:=kz
theorem zrN:zpf ar 196:=kz
theorem zsQ:zpf ar 197:=kz
theorem zst:zpf ar 198:=kz
theorem zue:zpf ar 217:=kz
theorem zrH:zpf ar 288:=kz
theorem zqS:zpf ar 296:=kz
theorem zqM:isSlice ar 248:=kz
theorem is66:isSlice ar 66:=kz
theorem rt66:rowTy ar 66 34 1:=kz
theorem zry:sliceTy ar 248 2:=kz
theorem sl66:sliceTy ar 66 1:=kz
theorem zuE:tyA ar 244 6:=kz
theorem ti3:intTy ar 3 .i64:=kz
theorem ti34:intTy ar 34 .u64:=kz
theorem to34:tyO ar 34:=kz
theorem zqt:sized ar 241 2:=kz
theorem zra:sized ar 244 6:=kz
theorem zqs:zeroOf ar 241=some (aq (zpr (⟨0,0⟩:Field))):=kz
theorem zrB:zeroOf ar 244=some (aq (zcL (⟨(⟨0,0⟩:Field),(⟨0,0⟩:Field),(⟨0,0⟩:Field)⟩:Arr3F))):=kz
def D.zfe (fu:Nat) :Option (Arr3F):=(some (⟨(⟨0,30⟩:Field),(⟨30,2⟩:Field),(⟨32,2⟩:Field)⟩:Arr3F))
theorem zhx {fu:Nat} (w0:World) {res:Arr3F} (hD:D.zfe fu =some res) :
    Calls ar 196 #[] w0 (zpx (aq (zcL res)) w0):=by
 refine enter Tryz.func196 rfl 5 rfl rfl fun fr r=>?_;have hP:Post No [] w0 w0:=Post.nil w0
 unfold D.zfe at hD
 refine wsr ?_;refine za7 (.cells ((zcL (⟨(⟨0,0⟩:Field),(⟨0,0⟩:Field),(⟨0,0⟩:Field)⟩:Arr3F))).toArray 244 (0,0)) r (fun R=>za6 zrB) rfl fun fr b1 w2 n3 r=>?_;have hP:Post No [zpi b1 ((zcL (⟨(⟨0,0⟩:Field),(⟨0,0⟩:Field),(⟨0,0⟩:Field)⟩:Arr3F))).toArray 244] w0 w2:=hP.new n3
 refine wn (wsr (kU (aq (zpr (⟨0,30⟩:Field))) r kz rfl fun r=>kU (aq (zpr (⟨30,2⟩:Field))) r kz rfl fun r=>kU (aq (zpr (⟨32,2⟩:Field))) r kz rfl fun r=>kU (aq (zcL (⟨(⟨0,30⟩:Field),(⟨30,2⟩:Field),(⟨32,2⟩:Field)⟩:Arr3F))) r kz rfl fun r=>?_));refine zaD (.cells ((zcL (⟨(⟨0,30⟩:Field),(⟨30,2⟩:Field),(⟨32,2⟩:Field)⟩:Arr3F))).toArray 244 (0,0)) r (fun R=>zax r (o:=0) (v:=(aq (zcL (⟨(⟨0,30⟩:Field),(⟨30,2⟩:Field),(⟨32,2⟩:Field)⟩:Arr3F)))) rfl rfl (hP.cell (i:=0) rfl) zra ak rfl rfl) rfl fun fr w5 u6 r=>?_
 have hP:Post No [zpi b1 ((zcL (⟨(⟨0,30⟩:Field),(⟨30,2⟩:Field),(⟨32,2⟩:Field)⟩:Arr3F))).toArray 244] w0 w5:=hP.upd (i:=0) rfl u6;refine wn (ac ?_);have hv:(⟨(⟨0,30⟩:Field),(⟨30,2⟩:Field),(⟨32,2⟩:Field)⟩:Arr3F)=res:=Option.some.inj hD
 try dsimp only [Exit.then,Exit.inBlock]
 refine za5 r rfl rfl (hP.cell (i:=0) rfl) (k:=6) rfl zuE ?_;subst hv;exact ⟨rfl,hP.chg.below⟩
def D.zes (fu:Nat) (a0:List Field):Option (Bool):=(loopThen (fun (x1:Bool × Int × Int)=>(bif (decide (x1.2.2<(a0.length:Int))) then ((getI a0 x1.2.2).bind (fun (x6:Field)=>(Option.bind (bif (!(D.zae x6)) then (some true) else (some ((zbb .u64 x1.2.1 (D.zam x6)) !=0))) (fun (x17:Bool)=>(bif x17 then (some (Lp.ret false)) else (some (Lp.next (x1.1,(zdf .u64 x1.2.1 (D.zam x6)),(IntKind.i64.wrap (x1.2.2+1)))))))))) else (some (Lp.brk (x1.1,x1.2.1,x1.2.2))))) fu (false,0,0) (fun (x22:Bool × Int × Int)=>(some true)))
theorem zhF {fu:Nat} (w0:World) {a0v:Value} (a0:List Field) (a0h:RoAt 241 2 zpr a0v a0 w0) {res:Bool} (hD:D.zes fu a0=some res) :
    Calls ar 288 #[a0v] w0 (zpx (.bool res) w0):=by
 refine enter Tryz.func288 rfl 27 rfl rfl fun fr r=>?_;have hP:Post No [] w0 w0:=Post.nil w0
 have hP:Post No [roK 241 2 zpr a0v a0] w0 w0:=hP.addRo zcM a0h rfl a0h.lt;unfold D.zes at hD
 refine wsr (kA (.bool false) r rfl rfl fun r=>wn (wsr (kA (U 0) r rfl rfl fun r=>wn (aa (wsr (kM a0v r rfl rfl fun r=>za0 (I (a0.length:Int)) r (fun R=>zbN r (hP.ro (i:=0) rfl) zqM rfl) rfl fun fr r=>kM (I 0) r rfl rfl fun r=>wn ?_))))));refine zdZ (X:=Bool × Int × Int) (G:=Unit) (x0:=(false,0,0)) (fun x γ=>[(0,a0v),(6,a0v),(7,(I (a0.length:Int))),(2,(.bool x.1)),(3,(U x.2.1)),(8,(I x.2.2))]) (fun x γ w=>Post No [roK 241 2 zpr a0v a0] w0 w) () r (kO (zaa rfl (zaa rfl zaC))) hP hD ?_ ?_
 ·
  rintro x1 γ2 fr w4 g y3 RPy3 nxy3 bky3 rty3 r hP hD;have hP:Post No [_] w0 w4:=hP;refine wsr (kB r rfl rfl rfl rfl rfl fun r=>wn (aa ?_));refine ae (t:=(decide (x1.2.2<(a0.length:Int)))) (r.ev rfl) (fun h5=>?_) (fun h5=>?_)
  ·
   have hD:=(zao h5).symm.trans hD;refine ag (aa (wp_block (wsr ?_)));obtain ⟨x6,hx6,hD⟩:=zaj hD;refine za0 (.pointer (some ⟨rowB a0v,rowO a0v+x1.2.2.toNat * 2,none⟩)) r (fun R=>zbU r (hP.ro (i:=0) rfl) hx6 zry rfl rfl) rfl fun fr r=>za0 (aq (zpr x6)) r (fun R=>zcV r (cs:=(zpr x6)) (RoAt.at_ (f:=zpr) (x:=x6) (hP.ro (i:=0) rfl) (fun _=>rfl) hx6) rfl zq3) rfl fun fr r=>?_;refine za7 (.cells ((zpr (⟨0,0⟩:Field))).toArray 241 (0,0)) r (fun R=>za6 zqs) rfl fun fr b7 w8 n9 r=>?_
   have hP:Post No [_,zpi b7 ((zpr (⟨0,0⟩:Field))).toArray 241] w0 w8:=hP.new n9;refine zaD (.cells ((zpr x6)).toArray 241 (0,0)) r (fun R=>zax r (o:=0) (v:=(aq (zpr x6))) rfl rfl (hP.cell (i:=1) rfl) zqt ak rfl rfl) rfl fun fr w11 u12 r=>?_;have hP:Post No [_,zpi b7 ((zpr x6)).toArray 241] w0 w11:=hP.upd (i:=1) rfl u12
   refine wn (aa (aa ?_));refine zbs (N:=27) (Y:=Bool) (G:=Unit) (fun x γ=>[(0,a0v),(6,a0v),(7,(I (a0.length:Int))),(2,(.bool x1.1)),(3,(U x1.2.1)),(8,(I x1.2.2)),(9,(.bool (decide (x1.2.2<(a0.length:Int))))),(5,(zp b7)),(21,(.bool x))]) (fun x γ w=>Post No [roK 241 2 zpr a0v a0,zpi b7 ((zpr x6)).toArray 241] w0 w) hD ?_ ?_
   ·
    rintro y13 RPy13 nxy13 hD;refine af (kG (zpr x6) 2 r rfl (hP.cell (i:=1) rfl) zq3 rfl rfl fun r=>?_);refine kE r (zbS w11 x6) rfl zqK rfl fun w14 hb r=>?_
    have hP:=hP.below hb;refine za0 (.bool (!(D.zae x6))) r (fun R=>y_un r (u:=(.bool (D.zae x6))) rfl rfl) rfl fun fr r=>kM (.bool (!(D.zae x6))) r rfl rfl fun r=>?_;refine zaT (!(D.zae x6)) (fun h15=>?_) (fun h15=>?_)
    ·
     have hD:=(zao h15).symm.trans hD;refine s0 r h15 fun fr r=>s0 r h15 fun fr r=>s0 r h15 fun fr r=>s0 r h15 fun fr r=>s0 r h15 fun fr r=>za0 (.bool true) r (fun R=>zay r (b:=true) (kb h15) rfl) rfl fun fr r=>wn ?_;exact nxy13 true () _ _ _ hD r (kO (kO (zaa rfl zaC))) (hP.pick [0,1] rfl rfl)
    have hD:=(zaq h15).symm.trans hD;refine s1 r h15 (kM (U x1.2.1) r rfl rfl fun r=>s1 r h15 (kG (zpr x6) 2 r rfl (hP.cell (i:=1) rfl) zq3 rfl rfl fun r=>s1 r h15 ?_));refine kE r (zcN w14 x6) rfl zr0 rfl fun w16 hb r=>?_
    have hP:=hP.below hb;refine s1 r h15 (kB r rfl rfl rfl rfl rfl fun r=>s1 r h15 (kB r rfl rfl rfl rfl rfl fun r=>za0 (.bool ((zbb .u64 x1.2.1 (D.zam x6)) !=0)) r (fun R=>zay r (b:=false) (kb h15) rfl) rfl fun fr r=>wn ?_));exact nxy13 ((zbb .u64 x1.2.1 (D.zam x6)) !=0) () _ _ _ hD r (kO (kO (zaa rfl zaC))) (hP.pick [0,1] rfl rfl)
   rintro x17 γ18 fr w19 g r hP hD;have hP:Post No [_,_] w0 w19:=hP;refine ae (t:=x17) (r.ev rfl) (fun h20=>?_) (fun h20=>?_)
   ·
    have hD:=(zao h20).symm.trans hD;refine wsr (kA (.bool false) r rfl rfl fun r=>wn (ac ?_));refine rty3 false _ _ hD fun hD=>?_
    have hv:false=res:=Option.some.inj hD
    try dsimp only [Exit.then,Exit.inBlock]
    refine zaH (fn:=Tryz.f288) r (t:=2) rfl (v:=(.bool false)) rfl ?_;subst hv;exact ⟨rfl,hP.chg.below⟩
   have hD:=(zaq h20).symm.trans hD;refine ag ?_;refine af (kM (U x1.2.1) r rfl rfl fun r=>kG (zpr x6) 2 r rfl (hP.cell (i:=1) rfl) zq3 rfl rfl fun r=>?_);refine kE r (zcN w19 x6) rfl zr0 rfl fun w21 hb r=>?_
   have hP:=hP.below hb;refine kB r rfl rfl rfl rfl rfl fun r=>kA (U (zdf .u64 x1.2.1 (D.zam x6))) r rfl rfl fun r=>wn ?_;refine af (kB r rfl rfl rfl rfl rfl fun r=>kM (I (W (x1.2.2+1))) r rfl rfl fun r=>wn ?_)
   exact nxy3 (x1.1,(zdf .u64 x1.2.1 (D.zam x6)),(W (x1.2.2+1))) () _ _ _ hD r (kO (zaa rfl (zaa rfl zaC))) (hP.pick [0] rfl rfl)
  have hD:=(zaq h5).symm.trans hD;refine wp_exit ?_;exact bky3 (x1.1,x1.2.1,x1.2.2) () _ _ _ hD r (kO (zaa rfl (zaa rfl zaC))) (hP.pick [0] rfl rfl)
 rintro x22 γ23 fr w24 g r hP hD;have hP:Post No [_] w0 w24:=hP;refine wsr (kA (.bool true) r rfl rfl fun r=>wn (ac ?_));have hv:true=res:=Option.some.inj hD
 try dsimp only [Exit.then,Exit.inBlock]
 refine zaH (fn:=Tryz.f288) r (t:=2) rfl (v:=(.bool true)) rfl ?_;subst hv;exact ⟨rfl,hP.chg.below⟩
def D.zdz (fu:Nat) (a0:List Field) (a1:Int):Option (List Int × Int):=((D.zes fu a0).bind (fun (x1:Bool)=>(bif (!x1) then (some ([],1)) else (loopThen (fun (x6:List Int × Int × Int)=>(bif (decide (x6.2.2<(a0.length:Int))) then ((getI a0 x6.2.2).bind (fun (x11:Field)=>((appD x6.1 ([(D.zad x11 a1)])).bind (fun (x23:List Int)=>(some (Lp.next (x23,(zaP .u64 x6.2.1 (D.zam x11)),(IntKind.i64.wrap (x6.2.2+1))))))))) else (some (Lp.brk (x6.1,x6.2.1,x6.2.2))))) fu ([],a1,0) (fun (x28:List Int × Int × Int)=>(bif (x28.2.1 !=0) then (some ([],10)) else (some (x28.1,0))))))))
theorem zkO {fu:Nat} (w0:World) {a0v:Value} (a0:List Field) (a0h:RoAt 241 2 zpr a0v a0 w0) (a1:Int) {res:List Int × Int} (hD:D.zdz fu a0 a1=some res) :
    Calls ar 197 #[a0v,.int .u64 a1] w0 (fun e w'=>∃ (v0:Value),e=.returned (.tuple #[v0,(.int .i64 res.2)])∧Done No No [rowK 34 1 u64 v0 res.1] w0 w'):=by
 refine enter Tryz.func197 rfl 34 rfl rfl fun fr r=>?_;have hP:Post No [] w0 w0:=Post.nil w0
 have hP:Post No [roK 241 2 zpr a0v a0] w0 w0:=hP.addRo zcM a0h rfl a0h.lt;unfold D.zdz at hD
 refine wsr (kA kS r rfl rfl fun r=>kA (I 0) r rfl rfl fun r=>wn (aa (wsr (kM a0v r rfl rfl fun r=>?_))));obtain ⟨x1,hx1,hD⟩:=zaj hD
 refine kE r (zhF w0 a0 (hP.ro (i:=0) rfl) hx1) rfl zrH rfl fun w2 hb r=>?_;have hP:=hP.below hb
 refine za0 (.bool (!x1)) r (fun R=>y_un r (u:=(.bool x1)) rfl rfl) rfl fun fr r=>wn ?_;refine ae (t:=(!x1)) (r.ev rfl) (fun h3=>?_) (fun h3=>?_)
 ·
  have hD:=(zao h3).symm.trans hD;refine wsr (kA kS r rfl rfl fun r=>kA (I 1) r rfl rfl fun r=>wn (ac ?_));have hP:Post No [_,rowK 34 1 u64 kS ([])] w0 w2:=hP.nilRow 34 1 u64
  have hv:([],1)=res:=Option.some.inj hD
  try dsimp only [Exit.then,Exit.inBlock]
  refine zeR (fn:=Tryz.f197) r (t:=4) (t':=5) rfl (v:=kS) (v':=(I 1)) rfl rfl ?_;subst hv;exact ⟨kS,rfl,(hP.pick [1] rfl rfl).done (zbo rfl zc1)⟩
 have hD:=(zaq h3).symm.trans hD;refine ag (wsr (kA kS r rfl rfl fun r=>wn (wsr (kM (U a1) r rfl rfl fun r=>kA (U a1) r rfl rfl fun r=>wn (aa (wsr (kM a0v r rfl rfl fun r=>za0 (I (a0.length:Int)) r (fun R=>zbN r (hP.ro (i:=0) rfl) zqM rfl) rfl fun fr r=>kM (I 0) r rfl rfl fun r=>wn ?_)))))));have hP:Post No [_,_] w0 w2:=hP.nilRow 34 1 u64
 refine zdZ (X:=List Int × Int × Int) (G:=Value) (x0:=([],a1,0)) (fun x γ=>[(0,a0v),(1,(U a1)),(4,kS),(5,(I 0)),(12,(.bool (!x1))),(14,a0v),(15,(I (a0.length:Int))),(6,γ),(7,(U x.2.1)),(16,(I x.2.2))]) (fun x γ w=>Post No [roK 241 2 zpr a0v a0,rowK 34 1 u64 γ x.1] w0 w) kS r (kO (kO (zaa rfl (zaa rfl zaC)))) hP hD ?_ ?_
 ·
  rintro x6 γ7 fr w9 g y8 RPy8 nxy8 bky8 rty8 r hP hD;have hP:Post No [_,_] w0 w9:=hP;refine wsr (kB r rfl rfl rfl rfl rfl fun r=>wn (aa ?_));refine ae (t:=(decide (x6.2.2<(a0.length:Int)))) (r.ev rfl) (fun h10=>?_) (fun h10=>?_)
  ·
   have hD:=(zao h10).symm.trans hD;refine ag (aa (wp_block (wsr ?_)));obtain ⟨x11,hx11,hD⟩:=zaj hD;refine za0 (.pointer (some ⟨rowB a0v,rowO a0v+x6.2.2.toNat * 2,none⟩)) r (fun R=>zbU r (hP.ro (i:=0) rfl) hx11 zry rfl rfl) rfl fun fr r=>za0 (aq (zpr x11)) r (fun R=>zcV r (cs:=(zpr x11)) (RoAt.at_ (f:=zpr) (x:=x11) (hP.ro (i:=0) rfl) (fun _=>rfl) hx11) rfl zq3) rfl fun fr r=>?_;refine za7 (.cells ((zpr (⟨0,0⟩:Field))).toArray 241 (0,0)) r (fun R=>za6 zqs) rfl fun fr b12 w13 n14 r=>?_
   have hP:Post No [_,_,zpi b12 ((zpr (⟨0,0⟩:Field))).toArray 241] w0 w13:=hP.new n14;refine zaD (.cells ((zpr x11)).toArray 241 (0,0)) r (fun R=>zax r (o:=0) (v:=(aq (zpr x11))) rfl rfl (hP.cell (i:=2) rfl) zqt ak rfl rfl) rfl fun fr w16 u17 r=>?_;have hP:Post No [_,_,zpi b12 ((zpr x11)).toArray 241] w0 w16:=hP.upd (i:=2) rfl u17
   refine wn (wsr (kM γ7 r rfl rfl fun r=>kG (zpr x11) 2 r rfl (hP.cell (i:=2) rfl) zq3 rfl rfl fun r=>kM (U a1) r rfl rfl fun r=>?_));refine kE r (zd4 w16 x11 a1) rfl zqy rfl fun w18 hb r=>?_
   have hP:=hP.below hb;refine zjn (.cells (([(D.zad x11 a1)]).flatMap u64).toArray 34 (0,0)) 1 r (fun R=>zcO r kz) rfl fun fr b19 w20 n21 r=>?_;have hP:Post No [_,_,_,rowK 34 1 u64 (.slice (some ⟨b19,0,none⟩) 1 1) ([(D.zad x11 a1)])] w0 w20:=hP.newRow n21 (fun _=>rfl) rfl
   obtain ⟨x23,hx23,hD⟩:=zaj hD;refine zm3 34 1 u64 γ7 r (fun R=>zkK r rt66 (fun _=>rfl) (fun _=>rfl) (hP.row (i:=1) rfl) (hP.row (i:=3) rfl).ro hx23 rfl rfl) rfl fun fr v24 w25 ha26 r=>?_;have hP:Post No [_,rowK 34 1 u64 v24 x23,_,_] w0 w25:=hP.append (i:=1) rfl ha26
   refine kA v24 r rfl rfl fun r=>wn ?_;refine af (kM (U x6.2.1) r rfl rfl fun r=>kG (zpr x11) 2 r rfl (hP.cell (i:=2) rfl) zq3 rfl rfl fun r=>?_)
   refine kE r (zcN w25 x11) rfl zr0 rfl fun w27 hb r=>?_;have hP:=hP.below hb
   refine kB r rfl rfl rfl rfl rfl fun r=>kA (U (zaP .u64 x6.2.1 (D.zam x11))) r rfl rfl fun r=>wn ?_;refine af (kB r rfl rfl rfl rfl rfl fun r=>kM (I (W (x6.2.2+1))) r rfl rfl fun r=>wn ?_)
   exact nxy8 (x23,(zaP .u64 x6.2.1 (D.zam x11)),(W (x6.2.2+1))) v24 _ _ _ hD r (kO (kO (zaa rfl (zaa rfl zaC)))) (hP.pick [0,1] rfl rfl)
  have hD:=(zaq h10).symm.trans hD;refine wp_exit ?_;exact bky8 (x6.1,x6.2.1,x6.2.2) γ7 _ _ _ hD r (kO (kO (zaa rfl (zaa rfl zaC)))) (hP.pick [0,1] rfl rfl)
 rintro x28 γ29 fr w30 g r hP hD;have hP:Post No [_,_] w0 w30:=hP;refine aa (wsr (kM (U x28.2.1) r rfl rfl fun r=>kB r rfl rfl rfl rfl rfl fun r=>wn ?_));refine ae (t:=(x28.2.1 !=0)) (r.ev rfl) (fun h31=>?_) (fun h31=>?_)
 ·
  have hD:=(zao h31).symm.trans hD;refine wsr (kA kS r rfl rfl fun r=>kA (I 10) r rfl rfl fun r=>wn (ac ?_));have hP:Post No [_,_,rowK 34 1 u64 kS ([])] w0 w30:=hP.nilRow 34 1 u64
  have hv:([],10)=res:=Option.some.inj hD
  try dsimp only [Exit.then,Exit.inBlock]
  refine zeR (fn:=Tryz.f197) r (t:=4) (t':=5) rfl (v:=kS) (v':=(I 10)) rfl rfl ?_;subst hv;exact ⟨kS,rfl,(hP.pick [2] rfl rfl).done (zbo rfl zc1)⟩
 have hD:=(zaq h31).symm.trans hD;refine ag (wsr (kM γ29 r rfl rfl fun r=>kA γ29 r rfl rfl fun r=>kA (I 0) r rfl rfl fun r=>wn (ac ?_)));have hv:(x28.1,0)=res:=Option.some.inj hD
 try dsimp only [Exit.then,Exit.inBlock]
 refine zeR (fn:=Tryz.f197) r (t:=4) (t':=5) rfl (v:=γ29) (v':=(I 0)) rfl rfl ?_;subst hv;exact ⟨γ29,rfl,(hP.pick [1] rfl rfl).done (zbo rfl zc1)⟩
def D.zan (fu:Nat) (a0:Int):Option (State × Bool):=((D.zfe fu ).bind (fun (x5:Arr3F)=>((D.zdz fu ([x5.f0,x5.f1,x5.f2]) a0).bind (fun (x13:List Int × Int)=>(bif (x13.2 !=0) then (some ((⟨0,0,0⟩:State),false)) else ((getI x13.1 0).bind (fun (x20:Int)=>((getI x13.1 1).bind (fun (x21:Int)=>((getI x13.1 2).bind (fun (x22:Int)=>(bif (!(D.zaw (⟨(IntKind.i64.wrap x20),(IntKind.i64.wrap x21),(IntKind.i64.wrap x22)⟩:State))) then (some ((⟨0,0,0⟩:State),false)) else (some ((⟨(IntKind.i64.wrap x20),(IntKind.i64.wrap x21),(IntKind.i64.wrap x22)⟩:State),true))))))))))))))
theorem zfI {fu:Nat} (w0:World) (a0:Int) {res:State × Bool} (hD:D.zan fu a0=some res) :
    Calls ar 111 #[.int .u64 a0] w0 (zpx (.tuple #[(aq (zps res.1)),(.bool res.2)]) w0):=by
 refine enter Tryz.func111 rfl 36 rfl rfl fun fr r=>?_;have hP:Post No [] w0 w0:=Post.nil w0
 unfold D.zan at hD
 refine wsr ?_;refine za7 (.cells ((zps (⟨0,0,0⟩:State))).toArray 190 (0,0)) r (fun R=>za6 zqj) rfl fun fr b1 w2 n3 r=>?_;have hP:Post No [zpi b1 ((zps (⟨0,0,0⟩:State))).toArray 190] w0 w2:=hP.new n3
 refine kA (.bool false) r rfl rfl fun r=>wn (wsr ?_);obtain ⟨x5,hx5,hD⟩:=zaj hD
 refine kE r (zhx w2  hx5) rfl zrN rfl fun w6 hb r=>?_;have hP:=hP.below hb
 refine za7 (.cells ((zcL (⟨(⟨0,0⟩:Field),(⟨0,0⟩:Field),(⟨0,0⟩:Field)⟩:Arr3F))).toArray 244 (0,0)) r (fun R=>za6 zrB) rfl fun fr b7 w8 n9 r=>?_;have hP:Post No [_,zpi b7 ((zcL (⟨(⟨0,0⟩:Field),(⟨0,0⟩:Field),(⟨0,0⟩:Field)⟩:Arr3F))).toArray 244] w0 w8:=hP.new n9
 refine zaD (.cells ((zcL x5)).toArray 244 (0,0)) r (fun R=>zax r (o:=0) (v:=(aq (zcL x5))) rfl rfl (hP.cell (i:=1) rfl) zra ak rfl rfl) rfl fun fr w11 u12 r=>?_;have hP:Post No [_,zpi b7 ((zcL x5)).toArray 244] w0 w11:=hP.upd (i:=1) rfl u12
 refine wn (wsr (za0 (.slice (some ⟨b7,0,none⟩) 3 3) r (fun R=>zs9 r zs8 rfl) rfl fun fr r=>kM (U a0) r rfl rfl fun r=>?_));obtain ⟨x13,hx13,hD⟩:=zaj hD
 refine kC r (zkO w11 ([x5.f0,x5.f1,x5.f2]) (RoAt.ofCell (hP.cell (i:=1) rfl) rfl (List.cons_ne_nil _ _) rfl) a0 hx13) rfl zsQ rfl ?_;rintro _ w14 ⟨v15,rfl,hq⟩;refine ⟨_,rfl,fun fr r=>?_⟩
 have hP:Post No [_,_,rowK 34 1 u64 v15 x13.1] w0 w14:=hP.add hq;refine kM (.tuple #[v15,(I x13.2)]) r rfl rfl fun r=>za0 v15 r (fun R=>zb1 r (vs:=#[v15,(I x13.2)]) rfl rfl) rfl fun fr r=>za0 (I x13.2) r (fun R=>zb1 r (vs:=#[v15,(I x13.2)]) rfl rfl) rfl fun fr r=>kA v15 r rfl rfl fun r=>kA (I x13.2) r rfl rfl fun r=>wn (aa (wsr (kM (I x13.2) r rfl rfl fun r=>kB r rfl rfl rfl rfl rfl fun r=>wn ?_)));refine ae (t:=(x13.2 !=0)) (r.ev rfl) (fun h17=>?_) (fun h17=>?_)
 ·
  have hD:=(zao h17).symm.trans hD;refine wsr (kU (aq (zps (⟨0,0,0⟩:State))) r kz rfl fun r=>?_)
  refine zaD (.cells ((zps (⟨0,0,0⟩:State))).toArray 190 (0,0)) r (fun R=>zax r (o:=0) (v:=(aq (zps (⟨0,0,0⟩:State)))) rfl rfl (hP.cell (i:=0) rfl) zqd ak rfl rfl) rfl fun fr w18 u19 r=>?_;have hP:Post No [_,_,_] w0 w18:=hP.upd (i:=0) rfl u19
  refine kA (.bool false) r rfl rfl fun r=>wn (ac ?_);have hv:((⟨0,0,0⟩:State),false)=res:=Option.some.inj hD
  try dsimp only [Exit.then,Exit.inBlock]
  refine zc9 (fn:=Tryz.f111) r rfl rfl (v':=(.bool false)) rfl (hP.cell (i:=0) rfl) (k:=3) rfl zq9 ?_;subst hv;exact ⟨rfl,hP.chg.below⟩
 have hD:=(zaq h17).symm.trans hD;refine ag (aa ?_);obtain ⟨x20,hx20,hD⟩:=zaj hD;obtain ⟨x21,hx21,hD⟩:=zaj hD;obtain ⟨x22,hx22,hD⟩:=zaj hD;refine zda [.val v15,.val (.pointer (some ⟨rowB v15,rowO v15+(0:Int).toNat * 1,none⟩)),.val (U x20),.val (I (W x20)),.val v15,.val (.pointer (some ⟨rowB v15,rowO v15+(1:Int).toNat * 1,none⟩)),.val (U x21),.val (I (W x21)),.val v15,.val (.pointer (some ⟨rowB v15,rowO v15+(2:Int).toNat * 1,none⟩)),.val (U x22),.val (I (W x22)),.val (aq (zps (⟨(W x20),(W x21),(W x22)⟩:State))),.cell 190 3,.stored 13 ((zps (⟨(W x20),(W x21),(W x22)⟩:State))).toArray 190 3 rfl] mixed r kz ?_ ?_
 ·
  refine fc r (fun fr1 g w' hb' hd r'=>zar r' rfl bz) ?_;refine fc r (fun fr1 g w' hb' hd r'=>zbU r' ((hP.below (dr hb')).row (i:=2) rfl).ro hx20 sl66 (hd 0 rfl).1 rfl bz) ?_
  refine fc r (fun fr1 g w' hb' hd r'=>zcR r' (u:=(U x20)) (RoAt.at_ (f:=u64) (x:=x20) ((hP.below (dr hb')).row (i:=2) rfl).ro (fun _=>rfl) hx20) (hd 1 rfl).1 to34 bz) ?_;refine fc r (fun fr1 g w' hb' hd r'=>zb9 r' (n:=x20) (hd 2 rfl).1 ti34 ti3 bz) ?_
  refine fc r (fun fr1 g w' hb' hd r'=>zar r' rfl bz) ?_;refine fc r (fun fr1 g w' hb' hd r'=>zbU r' ((hP.below (dr hb')).row (i:=2) rfl).ro hx21 sl66 (hd 4 rfl).1 rfl bz) ?_
  refine fc r (fun fr1 g w' hb' hd r'=>zcR r' (u:=(U x21)) (RoAt.at_ (f:=u64) (x:=x21) ((hP.below (dr hb')).row (i:=2) rfl).ro (fun _=>rfl) hx21) (hd 5 rfl).1 to34 bz) ?_;refine fc r (fun fr1 g w' hb' hd r'=>zb9 r' (n:=x21) (hd 6 rfl).1 ti34 ti3 bz) ?_
  refine fc r (fun fr1 g w' hb' hd r'=>zar r' rfl bz) ?_;refine fc r (fun fr1 g w' hb' hd r'=>zbU r' ((hP.below (dr hb')).row (i:=2) rfl).ro hx22 sl66 (hd 8 rfl).1 rfl bz) ?_
  refine fc r (fun fr1 g w' hb' hd r'=>zcR r' (u:=(U x22)) (RoAt.at_ (f:=u64) (x:=x22) ((hP.below (dr hb')).row (i:=2) rfl).ro (fun _=>rfl) hx22) (hd 9 rfl).1 to34 bz) ?_;refine fc r (fun fr1 g w' hb' hd r'=>zb9 r' (n:=x22) (hd 10 rfl).1 ti34 ti3 bz) ?_
  refine fc r (fun fr1 g w' hb' hd r'=>zgz r' (v:=(aq (zps (⟨(W x20),(W x21),(W x22)⟩:State)))) (bs3 (congrArg (fun z=>(0,z)) (hd 3 rfl).1) (congrArg (fun z=>(1,z)) (hd 7 rfl).1) (congrArg (fun z=>(2,z)) (hd 11 rfl).1) kz) bz) ?_;refine fc r (fun fr1 g w' hb' hd r'=>za6 zqj (fun b w2 n2=>⟨n2.below,b,rfl,n2.eq,_,n2.at_,rfl⟩)) ?_
  refine zkn r rfl (fun fr1 g w' hb' hd r'=>?_) ?_
  · obtain ⟨hp,_,c,hc,hn⟩:=(hd 13 rfl).1; exact zax r' (o:=0) (c:=c) (v:=(aq (zps (⟨(W x20),(W x21),(W x22)⟩:State)))) hp (hd 12 rfl).1 hc zqd (by rw [hn]; exact Nat.le_of_ble_eq_true rfl) rfl (zkr (hn.trans rfl)) (fun w2 u2=>⟨u2,rfl⟩)
  exact zb4
 intro fr gg w24 hb hΦ hap r;obtain ⟨b23,ee_b23⟩:∃ b,b=(gg 13).lo:=⟨_,rfl⟩;have g13:(gg 13).v=(zp b23):=by rw [ee_b23]; exact (hΦ 13 rfl).1.1
 have H23:w24.heap[b23]?=some (.cells ((zps (⟨(W x20),(W x21),(W x22)⟩:State))).toArray 190 (0,0)):=by rw [ee_b23]; exact (hΦ 14 rfl).1.2
 have hs13:Fresh [zpi b23 ((zps (⟨(W x20),(W x21),(W x22)⟩:State))).toArray 190] (gg 13).lo (gg 13).hi w24:=by subst ee_b23; exact Fresh.cell (hΦ 13 rfl).1.2.1 H23
 have r:=r.congr (sc g13 (sc ((hΦ 12 rfl).1) (sc ((hΦ 11 rfl).1) (sc ((hΦ 10 rfl).1) (sc ((hΦ 9 rfl).1) (sc ((hΦ 8 rfl).1) (sc ((hΦ 7 rfl).1) (sc ((hΦ 6 rfl).1) (sc ((hΦ 5 rfl).1) (sc ((hΦ 4 rfl).1) (sc ((hΦ 3 rfl).1) (sc ((hΦ 2 rfl).1) (sc ((hΦ 1 rfl).1) (sc ((hΦ 0 rfl).1) rfl))))))))))))));have hP:Post No [_,_,_,zpi b23 ((zps (⟨(W x20),(W x21),(W x22)⟩:State))).toArray 190] w0 w24:=hP.addL (l:=[([zpi b23 ((zps (⟨(W x20),(W x21),(W x22)⟩:State))).toArray 190],(gg 13).lo,(gg 13).hi)]) hb ⟨hs13,(hΦ 13 rfl).2.1,zeM,trivial⟩;refine aa (wsr (kG (zps (⟨(W x20),(W x21),(W x22)⟩:State)) 3 r rfl (hP.cell (i:=3) rfl) zq9 rfl rfl fun r=>?_));refine kE r (zeK w24 (⟨(W x20),(W x21),(W x22)⟩:State)) rfl zst rfl fun w25 hb r=>?_
 have hP:=hP.below hb;refine za0 (.bool (!(D.zaw (⟨(W x20),(W x21),(W x22)⟩:State)))) r (fun R=>y_un r (u:=(.bool (D.zaw (⟨(W x20),(W x21),(W x22)⟩:State)))) rfl rfl) rfl fun fr r=>wn ?_;refine ae (t:=(!(D.zaw (⟨(W x20),(W x21),(W x22)⟩:State)))) (r.ev rfl) (fun h26=>?_) (fun h26=>?_)
 ·
  have hD:=(zao h26).symm.trans hD;refine wsr (kU (aq (zps (⟨0,0,0⟩:State))) r kz rfl fun r=>?_)
  refine zaD (.cells ((zps (⟨0,0,0⟩:State))).toArray 190 (0,0)) r (fun R=>zax r (o:=0) (v:=(aq (zps (⟨0,0,0⟩:State)))) rfl rfl (hP.cell (i:=0) rfl) zqd ak rfl rfl) rfl fun fr w27 u28 r=>?_;have hP:Post No [_,_,_,_] w0 w27:=hP.upd (i:=0) rfl u28
  refine kA (.bool false) r rfl rfl fun r=>wn (ac ?_);have hv:((⟨0,0,0⟩:State),false)=res:=Option.some.inj hD
  try dsimp only [Exit.then,Exit.inBlock]
  refine zc9 (fn:=Tryz.f111) r rfl rfl (v':=(.bool false)) rfl (hP.cell (i:=0) rfl) (k:=3) rfl zq9 ?_;subst hv;exact ⟨rfl,hP.chg.below⟩
 have hD:=(zaq h26).symm.trans hD;refine ag (wsr (kG (zps (⟨(W x20),(W x21),(W x22)⟩:State)) 3 r rfl (hP.cell (i:=3) rfl) zq9 rfl rfl fun r=>?_));refine zaD (.cells ((zps (⟨(W x20),(W x21),(W x22)⟩:State))).toArray 190 (0,0)) r (fun R=>zax r (o:=0) (v:=(aq (zps (⟨(W x20),(W x21),(W x22)⟩:State)))) rfl rfl (hP.cell (i:=0) rfl) zqd ak rfl rfl) rfl fun fr w29 u30 r=>?_
 have hP:Post No [zpi b1 ((zps (⟨(W x20),(W x21),(W x22)⟩:State))).toArray 190,_,_,_] w0 w29:=hP.upd (i:=0) rfl u30;refine kA (.bool true) r rfl rfl fun r=>wn (ac ?_);have hv:((⟨(W x20),(W x21),(W x22)⟩:State),true)=res:=Option.some.inj hD
 try dsimp only [Exit.then,Exit.inBlock]
 refine zc9 (fn:=Tryz.f111) r rfl rfl (v':=(.bool true)) rfl (hP.cell (i:=0) rfl) (k:=3) rfl zq9 ?_;subst hv;exact ⟨rfl,hP.chg.below⟩
def D.zed (fu:Nat) (a0:List Field) (a1:List Int):Option (Int × Int):=(Option.bind ((D.zes fu a0).bind (fun (x2:Bool)=>(bif (!x2) then (some true) else (some ((a0.length:Int) !=(a1.length:Int)))))) (fun (x5:Bool)=>(bif x5 then (some (0,1)) else (loopThen (fun (x9:Int × Int × Int × Int)=>(bif (decide (x9.2.2.2<(a0.length:Int))) then ((getI a0 x9.2.2.2).bind (fun (x14:Field)=>((getI a1 x9.2.2.2).bind (fun (x21:Int)=>(bif (decide (x21 > (D.zah x14))) then (some (Lp.ret (0,1))) else ((getI a1 x9.2.2.2).bind (fun (x24:Int)=>(some (Lp.next (x9.1,x9.2.1,(D.zaA x14 x9.2.2.1 x24),(IntKind.i64.wrap (x9.2.2.2+1)))))))))))) else (some (Lp.brk (x9.1,x9.2.1,x9.2.2.1,x9.2.2.2))))) fu (0,0,0,0) (fun (x26:Int × Int × Int × Int)=>(some (x26.2.2.1,0)))))))
theorem zlD {fu:Nat} (w0:World) {a0v:Value} (a0:List Field) (a0h:RoAt 241 2 zpr a0v a0 w0) {a1v:Value} (a1:List Int) (a1h:RoAt 34 1 u64 a1v a1 w0) {res:Int × Int} (hD:D.zed fu a0 a1=some res) :
    Calls ar 217 #[a0v,a1v] w0 (zpx (.tuple #[(.int .u64 res.1),(.int .i64 res.2)]) w0):=by
 refine enter Tryz.func217 rfl 42 rfl rfl fun fr r=>?_;have hP:Post No [] w0 w0:=Post.nil w0
 have hP:Post No [roK 241 2 zpr a0v a0] w0 w0:=hP.addRo zcM a0h rfl a0h.lt;have hP:Post No [_,roK 34 1 u64 a1v a1] w0 w0:=hP.addRo (zll rfl zcM) a1h rfl a1h.lt;unfold D.zed at hD
 refine wsr (kA (U 0) r rfl rfl fun r=>kA (I 0) r rfl rfl fun r=>wn (aa (aa ?_)));refine zbs (N:=42) (Y:=Bool) (G:=Unit) (fun x γ=>[(0,a0v),(1,a1v),(4,(U 0)),(5,(I 0)),(18,(.bool x))]) (fun x γ w=>Post No [roK 241 2 zpr a0v a0,roK 34 1 u64 a1v a1] w0 w) hD ?_ ?_
 ·
  rintro y1 RPy1 nxy1 hD;refine af (kM a0v r rfl rfl fun r=>?_);obtain ⟨x2,hx2,hD⟩:=zaj hD
  refine kE r (zhF w0 a0 (hP.ro (i:=0) rfl) hx2) rfl zrH rfl fun w3 hb r=>?_;have hP:=hP.below hb
  refine za0 (.bool (!x2)) r (fun R=>y_un r (u:=(.bool x2)) rfl rfl) rfl fun fr r=>kM (.bool (!x2)) r rfl rfl fun r=>?_;refine zaT (!x2) (fun h4=>?_) (fun h4=>?_)
  ·
   have hD:=(zao h4).symm.trans hD;refine s0 r h4 fun fr r=>s0 r h4 fun fr r=>s0 r h4 fun fr r=>s0 r h4 fun fr r=>s0 r h4 fun fr r=>za0 (.bool true) r (fun R=>zay r (b:=true) (kb h4) rfl) rfl fun fr r=>wn ?_;exact nxy1 true () _ _ _ hD r (kO (zaa rfl zaC)) (hP.pick [0,1] rfl rfl)
  have hD:=(zaq h4).symm.trans hD;refine s1 r h4 (kM a0v r rfl rfl fun r=>s1 r h4 (za0 (I (a0.length:Int)) r (fun R=>zbN r (hP.ro (i:=0) rfl) zqM rfl) rfl fun fr r=>s1 r h4 (kM a1v r rfl rfl fun r=>s1 r h4 (za0 (I (a1.length:Int)) r (fun R=>zbN r (hP.ro (i:=1) rfl) is66 rfl) rfl fun fr r=>s1 r h4 (kB r rfl rfl rfl rfl rfl fun r=>za0 (.bool ((a0.length:Int) !=(a1.length:Int))) r (fun R=>zay r (b:=false) (kb h4) rfl) rfl fun fr r=>wn ?_)))));exact nxy1 ((a0.length:Int) !=(a1.length:Int)) () _ _ _ hD r (kO (zaa rfl zaC)) (hP.pick [0,1] rfl rfl)
 rintro x5 γ6 fr w7 g r hP hD;have hP:Post No [_,_] w0 w7:=hP;refine ae (t:=x5) (r.ev rfl) (fun h8=>?_) (fun h8=>?_)
 ·
  have hD:=(zao h8).symm.trans hD;refine wsr (kA (U 0) r rfl rfl fun r=>kA (I 1) r rfl rfl fun r=>wn (ac ?_));have hv:(0,1)=res:=Option.some.inj hD
  try dsimp only [Exit.then,Exit.inBlock]
  refine zeR (fn:=Tryz.f217) r (t:=4) (t':=5) rfl (v:=(U 0)) (v':=(I 1)) rfl rfl ?_;subst hv;exact ⟨rfl,hP.chg.below⟩
 have hD:=(zaq h8).symm.trans hD;refine ag (wsr (kA (U 0) r rfl rfl fun r=>wn (aa (wsr (kM a0v r rfl rfl fun r=>za0 (I (a0.length:Int)) r (fun R=>zbN r (hP.ro (i:=0) rfl) zqM rfl) rfl fun fr r=>kM (I 0) r rfl rfl fun r=>wn ?_)))));refine zdZ (X:=Int × Int × Int × Int) (G:=Unit) (x0:=(0,0,0,0)) (fun x γ=>[(0,a0v),(1,a1v),(18,(.bool x5)),(19,a0v),(20,(I (a0.length:Int))),(4,(U x.1)),(5,(I x.2.1)),(6,(U x.2.2.1)),(21,(I x.2.2.2))]) (fun x γ w=>Post No [roK 241 2 zpr a0v a0,roK 34 1 u64 a1v a1] w0 w) () r (kO (kO (zaa rfl zaC))) hP hD ?_ ?_
 ·
  rintro x9 γ10 fr w12 g y11 RPy11 nxy11 bky11 rty11 r hP hD;have hP:Post No [_,_] w0 w12:=hP;refine wsr (kB r rfl rfl rfl rfl rfl fun r=>wn (aa ?_));refine ae (t:=(decide (x9.2.2.2<(a0.length:Int)))) (r.ev rfl) (fun h13=>?_) (fun h13=>?_)
  ·
   have hD:=(zao h13).symm.trans hD;refine ag (aa (wp_block (wsr (kM (I x9.2.2.2) r rfl rfl fun r=>?_))));obtain ⟨x14,hx14,hD⟩:=zaj hD
   refine za0 (.pointer (some ⟨rowB a0v,rowO a0v+x9.2.2.2.toNat * 2,none⟩)) r (fun R=>zbU r (hP.ro (i:=0) rfl) hx14 zry rfl rfl) rfl fun fr r=>za0 (aq (zpr x14)) r (fun R=>zcV r (cs:=(zpr x14)) (RoAt.at_ (f:=zpr) (x:=x14) (hP.ro (i:=0) rfl) (fun _=>rfl) hx14) rfl zq3) rfl fun fr r=>?_;refine za7 (.cells ((zpr (⟨0,0⟩:Field))).toArray 241 (0,0)) r (fun R=>za6 zqs) rfl fun fr b15 w16 n17 r=>?_
   have hP:Post No [_,_,zpi b15 ((zpr (⟨0,0⟩:Field))).toArray 241] w0 w16:=hP.new n17;refine kA (I x9.2.2.2) r rfl rfl fun r=>?_;refine zaD (.cells ((zpr x14)).toArray 241 (0,0)) r (fun R=>zax r (o:=0) (v:=(aq (zpr x14))) rfl rfl (hP.cell (i:=2) rfl) zqt ak rfl rfl) rfl fun fr w19 u20 r=>?_
   have hP:Post No [_,_,zpi b15 ((zpr x14)).toArray 241] w0 w19:=hP.upd (i:=2) rfl u20;refine wn (aa (aa ?_));obtain ⟨x21,hx21,hD⟩:=zaj hD;refine zda [.val a1v,.val (I x9.2.2.2),.val (.pointer (some ⟨rowB a1v,rowO a1v+x9.2.2.2.toNat * 1,none⟩)),.val (U x21),.val (aq (zpr x14)),.val (U (D.zah x14)),.val (.bool (decide (x21 > (D.zah x14))))] mixed r kz ?_ ?_
   ·
    refine fc r (fun fr1 g w' hb' hd r'=>zar r' rfl bz) ?_;refine fc r (fun fr1 g w' hb' hd r'=>zar r' rfl bz) ?_
    refine fc r (fun fr1 g w' hb' hd r'=>zbU r' ((hP.below (dr hb')).ro (i:=1) rfl) hx21 sl66 (hd 0 rfl).1 (hd 1 rfl).1 bz) ?_;refine fc r (fun fr1 g w' hb' hd r'=>zcR r' (u:=(U x21)) (RoAt.at_ (f:=u64) (x:=x21) ((hP.below (dr hb')).ro (i:=1) rfl) (fun _=>rfl) hx21) (hd 2 rfl).1 to34 bz) ?_
    refine fc r (fun fr1 g w' hb' hd r'=>zac r' (cs:=(zpr x14)) (n:=2) rfl ((hP.below (dr hb')).cell (i:=2) rfl) zq3 rfl bz) ?_;refine fc r (fun fr1 g w' hb' hd r'=>zaF r' (args:=[(aq (zpr x14))]) (lc (hd 4 rfl).1 l0) zqR ((zcK _ x14).mono yab)) ?_
    refine fc r (fun fr1 g w' hb' hd r'=>zpG r' (hd 3 rfl).1 (hd 5 rfl).1 rfl rfl bz) ?_;exact zb4
   intro fr gg w22 hb hΦ hap r;have r:=r.congr (sc ((hΦ 6 rfl).1) (sc ((hΦ 5 rfl).1) (sc ((hΦ 4 rfl).1) (sc ((hΦ 3 rfl).1) (sc ((hΦ 2 rfl).1) (sc ((hΦ 1 rfl).1) (sc ((hΦ 0 rfl).1) rfl)))))));have hP:=hP.below hb;refine ae (t:=(decide (x21 > (D.zah x14)))) (r.ev rfl) (fun h23=>?_) (fun h23=>?_)
   ·
    have hD:=(zao h23).symm.trans hD;refine wsr (kA (U 0) r rfl rfl fun r=>kA (I 1) r rfl rfl fun r=>wn (ac ?_));refine rty11 (0,1) _ _ hD fun hD=>?_
    have hv:(0,1)=res:=Option.some.inj hD
    try dsimp only [Exit.then,Exit.inBlock]
    refine zeR (fn:=Tryz.f217) r (t:=4) (t':=5) rfl (v:=(U 0)) (v':=(I 1)) rfl rfl ?_;subst hv;exact ⟨rfl,hP.chg.below⟩
   have hD:=(zaq h23).symm.trans hD;refine ag ?_;obtain ⟨x24,hx24,hD⟩:=zaj hD;refine zaB 7 [.val (aq (zpr x14)),.val (U x9.2.2.1),.val a1v,.val (I x9.2.2.2),.val (.pointer (some ⟨rowB a1v,rowO a1v+x9.2.2.2.toNat * 1,none⟩)),.val (U x24),.val (U (D.zaA x14 x9.2.2.1 x24))] mixed r kz (kV (kV (kV (kV (kV (kV (kV zat))))))) ?_ ?_
   ·
    refine ec r (fun _ u _ b d s=>zac s (cs:=(zpr x14)) (n:=2) rfl ((hP.below (dr b)).cell (i:=2) rfl) zq3 rfl bz) (ec r (fun _ u _ b d s=>zar s rfl bz) (ec r (fun _ u _ b d s=>zar s rfl bz) (ec r (fun _ u _ b d s=>zar s rfl bz) (ec r (fun _ u _ b d s=>zbU s ((hP.below (dr b)).ro (i:=1) rfl) hx24 sl66 d.1 d.2.1 bz) (ec r (fun fr1 u w' hb' hd r'=>zcR r' (u:=(U x24)) (RoAt.at_ (f:=u64) (x:=x24) ((hP.below (dr hb')).ro (i:=1) rfl) (fun _=>rfl) hx24) hd.1 to34 bz) (ec r (fun fr1 u w' hb' hd r'=>zaF r' (args:=[(aq (zpr x14)),(U x9.2.2.1),(U x24)]) (lc hd.1 (lc hd.2.1 (lc hd.2.2.1 l0))) zqS ((zei _ x14 x9.2.2.1 x24).mono yab)) ?_))))));exact zaO
   intro fr u w25 hb hΦ hne r;have r:=r.congr (sc (hΦ 6 ke) (sc (hΦ 5 ke) (sc (hΦ 4 ke) (sc (hΦ 3 ke) (sc (hΦ 2 ke) (sc (hΦ 1 ke) (sc (hΦ 0 ke) rfl)))))));have hP:=hP.below hb;refine kA (U (D.zaA x14 x9.2.2.1 x24)) r rfl rfl fun r=>wn ?_;refine af (kB r rfl rfl rfl rfl rfl fun r=>kM (I (W (x9.2.2.2+1))) r rfl rfl fun r=>wn ?_)
   exact nxy11 (x9.1,x9.2.1,(D.zaA x14 x9.2.2.1 x24),(W (x9.2.2.2+1))) () _ _ _ hD r (kO (kO (zaa rfl zaC))) (hP.pick [0,1] rfl rfl)
  have hD:=(zaq h13).symm.trans hD;refine wp_exit ?_;exact bky11 (x9.1,x9.2.1,x9.2.2.1,x9.2.2.2) () _ _ _ hD r (kO (kO (zaa rfl zaC))) (hP.pick [0,1] rfl rfl)
 rintro x26 γ27 fr w28 g r hP hD;have hP:Post No [_,_] w0 w28:=hP;refine wsr (kM (U x26.2.2.1) r rfl rfl fun r=>kA (U x26.2.2.1) r rfl rfl fun r=>kA (I 0) r rfl rfl fun r=>wn (ac ?_));have hv:(x26.2.2.1,0)=res:=Option.some.inj hD
 try dsimp only [Exit.then,Exit.inBlock]
 refine zeR (fn:=Tryz.f217) r (t:=4) (t':=5) rfl (v:=(U x26.2.2.1)) (v':=(I 0)) rfl rfl ?_;subst hv;exact ⟨rfl,hP.chg.below⟩
def D.zak (fu:Nat) (a0:State):Option (Int):=(bif (!(D.zaw a0)) then (some 0) else ((D.zfe fu ).bind (fun (x7:Arr3F)=>((D.zed fu ([x7.f0,x7.f1,x7.f2]) ([(IntKind.u64.wrap a0.gen),(IntKind.u64.wrap a0.mode),(IntKind.u64.wrap a0.kind)])).bind (fun (x17:Int × Int)=>(some x17.1))))))
theorem zc6 {fu:Nat} (w0:World) (a0:State) {res:Int} (hD:D.zak fu a0=some res) :
    Calls ar 137 #[aq (zps a0)] w0 (zpx (.int .u64 res) w0):=by
 refine enter Tryz.func137 rfl 26 rfl rfl fun fr r=>?_;have hP:Post No [] w0 w0:=Post.nil w0
 unfold D.zak at hD
 refine wsr ?_;refine kX 190 (aq (zps a0)) r rfl rfl fun b1 w2 n3 r=>?_;have hP:Post No [zpi b1 ((zps a0)).toArray 190] w0 w2:=hP.new n3
 refine kA (U 0) r rfl rfl fun r=>wn (aa (wsr (kG (zps a0) 3 r rfl (hP.cell (i:=0) rfl) zq9 rfl rfl fun r=>?_)));refine kE r (zeK w2 a0) rfl zst rfl fun w5 hb r=>?_
 have hP:=hP.below hb;refine za0 (.bool (!(D.zaw a0))) r (fun R=>y_un r (u:=(.bool (D.zaw a0))) rfl rfl) rfl fun fr r=>wn ?_;refine ae (t:=(!(D.zaw a0))) (r.ev rfl) (fun h6=>?_) (fun h6=>?_)
 ·
  have hD:=(zao h6).symm.trans hD;refine wsr (kA (U 0) r rfl rfl fun r=>wn (ac ?_));have hv:0=res:=Option.some.inj hD
  try dsimp only [Exit.then,Exit.inBlock]
  refine zaH (fn:=Tryz.f137) r (t:=2) rfl (v:=(U 0)) rfl ?_;subst hv;exact ⟨rfl,hP.chg.below⟩
 have hD:=(zaq h6).symm.trans hD;refine ag (wsr ?_);obtain ⟨x7,hx7,hD⟩:=zaj hD;refine kE r (zhx w5  hx7) rfl zrN rfl fun w8 hb r=>?_;have hP:=hP.below hb
 refine za7 (.cells ((zcL (⟨(⟨0,0⟩:Field),(⟨0,0⟩:Field),(⟨0,0⟩:Field)⟩:Arr3F))).toArray 244 (0,0)) r (fun R=>za6 zrB) rfl fun fr b9 w10 n11 r=>?_;have hP:Post No [_,zpi b9 ((zcL (⟨(⟨0,0⟩:Field),(⟨0,0⟩:Field),(⟨0,0⟩:Field)⟩:Arr3F))).toArray 244] w0 w10:=hP.new n11
 refine zaD (.cells ((zcL x7)).toArray 244 (0,0)) r (fun R=>zax r (o:=0) (v:=(aq (zcL x7))) rfl rfl (hP.cell (i:=1) rfl) zra ak rfl rfl) rfl fun fr w13 u14 r=>?_;have hP:Post No [_,zpi b9 ((zcL x7)).toArray 244] w0 w13:=hP.upd (i:=1) rfl u14
 refine wn (aa ?_);obtain ⟨x17,hx17,hD⟩:=zaj hD;refine zda [.val (.slice (some ⟨b9,0,none⟩) 3 3),.val (zp b1),.val (I a0.gen),.val (U (V a0.gen)),.val (.pointer (some ⟨b1,1,none⟩)),.val (I a0.mode),.val (U (V a0.mode)),.val (.pointer (some ⟨b1,2,none⟩)),.val (I a0.kind),.val (U (V a0.kind)),.pred (MkP (fun v:Value=>v) (fun v:Value=>[rowK 34 1 u64 v ([(V a0.gen),(V a0.mode),(V a0.kind)])])) (MkP.st _ _),.val (.tuple #[(U x17.1),(I x17.2)]),.val (.tuple #[(U x17.1),(I x17.2)]),.val (U x17.1),.val (I x17.2),.val (U x17.1),.val (I x17.2)] mixed r kz ?_ ?_
 ·
  refine fc r (fun fr1 g w' hb' hd r'=>zs9 r' zs8 rfl bz) ?_;refine fc r (fun fr1 g w' hb' hd r'=>za3 r' (b:=b1) (o:=0) rfl zgD bz) ?_
  refine fc r (fun fr1 g w' hb' hd r'=>za4 r' (hd 1 rfl).1 ((hP.below (dr hb')).cell (i:=0) rfl) to3 rfl bz) ?_;refine fc r (fun fr1 g w' hb' hd r'=>zb9 r' (n:=a0.gen) (hd 2 rfl).1 ti3 ti34 bz) ?_
  refine fc r (fun fr1 g w' hb' hd r'=>za3 r' (b:=b1) (o:=0) rfl zjM bz) ?_;refine fc r (fun fr1 g w' hb' hd r'=>za4 r' (hd 4 rfl).1 ((hP.below (dr hb')).cell (i:=0) rfl) to3 rfl bz) ?_
  refine fc r (fun fr1 g w' hb' hd r'=>zb9 r' (n:=a0.mode) (hd 5 rfl).1 ti3 ti34 bz) ?_;refine fc r (fun fr1 g w' hb' hd r'=>za3 r' (b:=b1) (o:=0) rfl zlI bz) ?_
  refine fc r (fun fr1 g w' hb' hd r'=>za4 r' (hd 7 rfl).1 ((hP.below (dr hb')).cell (i:=0) rfl) to3 rfl bz) ?_;refine fc r (fun fr1 g w' hb' hd r'=>zb9 r' (n:=a0.kind) (hd 8 rfl).1 ti3 ti34 bz) ?_
  refine fc r (fun fr1 g w' hb' hd r'=>zcO r' (c:=(([(V a0.gen),(V a0.mode),(V a0.kind)]).flatMap u64).toArray) (E:=34) (bs3 (congrArg (fun z=>(0,z)) (hd 3 rfl).1) (congrArg (fun z=>(1,z)) (hd 6 rfl).1) (congrArg (fun z=>(2,z)) (hd 9 rfl).1) kz) (fun b w2 n2=>⟨n2.below,MkP.newRow n2 (fun _=>rfl) rfl⟩)) ?_;refine fc r (fun fr1 g w' hb' hd r'=>zaF r' (args:=[(.slice (some ⟨b9,0,none⟩) 3 3),(g 10).v]) (lc (hd 0 rfl).1 (lc rfl l0)) zue ((zlD _ ([x7.f0,x7.f1,x7.f2]) (RoAt.ofCell ((hP.below (dr hb')).cell (i:=1) rfl) rfl (List.cons_ne_nil _ _) rfl) ([(V a0.gen),(V a0.mode),(V a0.kind)]) (MkP.row (hd 10 rfl).1) hx17).mono yab)) ?_
  refine fc r (fun fr1 g w' hb' hd r'=>zar r' (hd 11 rfl).1 bz) ?_;refine fc r (fun fr1 g w' hb' hd r'=>zb1 r' (vs:=#[(U x17.1),(I x17.2)]) (hd 12 rfl).1 rfl bz) ?_
  refine fc r (fun fr1 g w' hb' hd r'=>zb1 r' (vs:=#[(U x17.1),(I x17.2)]) (hd 12 rfl).1 rfl bz) ?_;refine fc r (fun fr1 g w' hb' hd r'=>zbW r' (hd 13 rfl).1 bz) ?_
  refine fc r (fun fr1 g w' hb' hd r'=>zbW r' (hd 14 rfl).1 bz) ?_;exact zb4
 intro fr gg w18 hb hΦ hap r;obtain ⟨v15,g10,hs10⟩:=(hΦ 10 rfl).1;have r:=r.congr (sc ((hΦ 16 rfl).1) (sc ((hΦ 15 rfl).1) (sc ((hΦ 14 rfl).1) (sc ((hΦ 13 rfl).1) (sc ((hΦ 12 rfl).1) (sc ((hΦ 11 rfl).1) (sc g10 (sc ((hΦ 9 rfl).1) (sc ((hΦ 8 rfl).1) (sc ((hΦ 7 rfl).1) (sc ((hΦ 6 rfl).1) (sc ((hΦ 5 rfl).1) (sc ((hΦ 4 rfl).1) (sc ((hΦ 3 rfl).1) (sc ((hΦ 2 rfl).1) (sc ((hΦ 1 rfl).1) (sc ((hΦ 0 rfl).1) rfl)))))))))))))))));have hP:Post No [_,_,rowK 34 1 u64 v15 ([(V a0.gen),(V a0.mode),(V a0.kind)])] w0 w18:=hP.addL (l:=[([rowK 34 1 u64 v15 ([(V a0.gen),(V a0.mode),(V a0.kind)])],(gg 10).lo,(gg 10).hi)]) hb ⟨hs10,(hΦ 10 rfl).2.1,zeM,trivial⟩;refine wsr (kM (U x17.1) r rfl rfl fun r=>kA (U x17.1) r rfl rfl fun r=>wn (ac ?_));have hv:x17.1=res:=Option.some.inj hD
 try dsimp only [Exit.then,Exit.inBlock]
 refine zaH (fn:=Tryz.f137) r (t:=2) rfl (v:=(U x17.1)) rfl ?_;subst hv;exact ⟨rfl,hP.chg.below⟩
end Go.Proofs.YtbbipmelhmgmfaaGreat.St

/- Ours. -/
namespace Go.Proofs.YtbbipmelhmgmfaaGreat
open Go.RowKit
def fGen:Field:=⟨0,30⟩
def fMode:Field:=⟨30,2⟩
def fKind:Field:=⟨32,2⟩
theorem zkj:St.D.zes 10 [fGen,fMode,fKind]=some true:=by decide +kernel
theorem zlB (w:Int):St.D.zdz 10 [fGen,fMode,fKind] w=bif (zaP .u64 (zaP .u64 (zaP .u64 w (D.zam fGen)) (D.zam fMode)) (D.zam fKind) !=0) then some ([],10)
  else some ([D.zad fGen w,D.zad fMode w,D.zad fKind w],0):=by
 unfold St.D.zdz;rw [zkj]
 rfl
theorem zmh (a b c:Int):St.D.zed 10 [fGen,fMode,fKind] [a,b,c]=bif (decide (a > D.zah fGen)) then some (0,1) else bif (decide (b > D.zah fMode)) then some (0,1) else bif (decide (c > D.zah fKind)) then some (0,1)
  else some (D.zaA fKind (D.zaA fMode (D.zaA fGen 0 a) b) c,0):=by
 unfold St.D.zed;rw [zkj];have w1:IntKind.i64.wrap ((0:Int)+1)=1:=rfl;have w2:IntKind.i64.wrap ((1:Int)+1)=2:=rfl;have w3:IntKind.i64.wrap ((2:Int)+1)=3:=rfl;have g0:∀ {α:Type} (x y z:α),getI [x,y,z] 0=some x:=fun _ _ _=>rfl
 have g1:∀ {α:Type} (x y z:α),getI [x,y,z] 1=some y:=fun _ _ _=>rfl
 have g2:∀ {α:Type} (x y z:α),getI [x,y,z] 2=some z:=fun _ _ _=>rfl
 have l3:∀ {α:Type} (x y z:α),(([x,y,z]:List α).length:Int)=3:=fun _ _ _=>rfl
 cases h1:decide (a > D.zah fGen) <;> cases h2:decide (b > D.zah fMode) <;> cases h3:decide (c > D.zah fKind) <;>
  simp only [loopThen,runLoop,goOn,afterLoop,w1,w2,w3,g0,g1,g2,l3,h1,h2,h3,Option.bind_some,cond_true,cond_false,Bool.not_true,bne_self_eq_false,show decide ((0:Int)<3)=true from rfl,show decide ((1:Int)<3)=true from rfl,show decide ((2:Int)<3)=true from rfl,show decide ((3:Int)<3)=false from rfl]
def D.zak (s:State):Int:=(St.D.zak 10 s).getD 0
def D.zan (w:Int):State × Bool:=(St.D.zan 10 w).getD (⟨0,0,0⟩,false)
theorem znK (s:State):∃ r,St.D.zak 10 s=some r:=by
 unfold St.D.zak;cases (!(D.zaw s))
 ·show ∃ r,(((St.D.zed 10 [fGen,fMode,fKind] [IntKind.u64.wrap s.gen,IntKind.u64.wrap s.mode,IntKind.u64.wrap s.kind]).bind (fun (x17:Int × Int)=>(some x17.1))))=some r
  rw [zmh]
  generalize decide (IntKind.u64.wrap s.gen > D.zah fGen)=b1
  generalize decide (IntKind.u64.wrap s.mode > D.zah fMode)=b2
  generalize decide (IntKind.u64.wrap s.kind > D.zah fKind)=b3
  cases b1 <;> cases b2 <;> cases b3 <;> exact ⟨_,rfl⟩
 ·exact ⟨_,rfl⟩
theorem zoY (w:Int):∃ r,St.D.zan 10 w=some r:=by
 unfold St.D.zan;show ∃ r,(St.D.zdz 10 [fGen,fMode,fKind] w).bind _=some r
 rw [zlB]
 generalize (zaP .u64 (zaP .u64 (zaP .u64 w (D.zam fGen)) (D.zam fMode)) (D.zam fKind) !=0)=b
 cases b
 ·show ∃ r,(bif (!(D.zaw (⟨(IntKind.i64.wrap (D.zad fGen w)),(IntKind.i64.wrap (D.zad fMode w)),(IntKind.i64.wrap (D.zad fKind w))⟩:State))) then _ else _)=some r
  generalize (!(D.zaw (⟨(IntKind.i64.wrap (D.zad fGen w)),(IntKind.i64.wrap (D.zad fMode w)),(IntKind.i64.wrap (D.zad fKind w))⟩:State)))=b
  cases b <;> exact ⟨_,rfl⟩
 ·exact ⟨_,rfl⟩
theorem zc6 (w0:World) (a0:State):Calls ar 137 #[aq (zps a0)] w0 (zpx (.int .u64 (D.zak a0)) w0):=by
 obtain ⟨r,hr⟩:=znK a0;unfold D.zak;rw [hr];exact St.zc6 w0 a0 hr
theorem zfI (w0:World) (a0:Int):Calls ar 111 #[.int .u64 a0] w0 (zpx (.tuple #[(aq (zps (D.zan a0).1)),(.bool (D.zan a0).2)]) w0):=by
 obtain ⟨r,hr⟩:=zoY a0;unfold D.zan;rw [hr];exact St.zfI w0 a0 hr
end Go.Proofs.YtbbipmelhmgmfaaGreat

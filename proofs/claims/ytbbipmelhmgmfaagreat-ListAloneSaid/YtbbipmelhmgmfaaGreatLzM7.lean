/- Some of our texts, one behind the other. -/
import Derived.Test.YtbbipmelhmgmfaaGreatLzM6
set_option linter.all false
set_option maxRecDepth 100000
set_option maxHeartbeats 20000000
/- Ours. -/
namespace Go.Proofs.YtbbipmelhmgmfaaGreat.St
open Go.RowKit
theorem xp:arrTy y6 244 3 2:=kz
theorem m8:af y6 191:=kz
theorem xT:af y6 196:=kz
theorem Ex:af y6 197:=kz
theorem wJ:af y6 198:=kz
theorem FC:af y6 217:=kz
theorem wK:af y6 288:=kz
theorem oP:af y6 296:=kz
theorem oJ:isSlice y6 248:=kz
theorem is66:isSlice y6 66:=kz
theorem rt66:rowTy y6 66 34 1:=kz
theorem rS:sliceTy y6 248 2:=kz
theorem sl66:sliceTy y6 66 1:=kz
theorem Fk:tyA y6 244 6:=kz
theorem ti3:intTy y6 3 .i64:=kz
theorem ti34:intTy y6 34 .u64:=kz
theorem to34:tyO y6 34:=kz
theorem jU:sized y6 241 2:=kz
theorem rz:sized y6 244 6:=kz
theorem jS:zeroOf y6 241=some (u7 (aS (⟨0,0⟩:Field))):=kz
theorem rQ:zeroOf y6 244=some (u7 (dz (⟨(⟨0,0⟩:Field),(⟨0,0⟩:Field),(⟨0,0⟩:Field)⟩:Arr3F))):=kz
def D.nF (fu:Nat) :Option (Arr3F):=(some (⟨(⟨0,30⟩:Field),(⟨30,2⟩:Field),(⟨32,2⟩:Field)⟩:Arr3F))
theorem tD {fu:Nat} (w0:World) {res:Arr3F} (hD:D.nF fu =some res) :
    Calls y6 196 #[] w0 (bB (u7 (dz res)) w0):=by
 refine enter Tryz.func196 rfl 5 rfl rfl fun fr r=>?_;have hP:Post No [] w0 w0:=Post.nil w0
 unfold D.nF at hD
 refine wsr ?_;refine ah (.cells ((dz (⟨(⟨0,0⟩:Field),(⟨0,0⟩:Field),(⟨0,0⟩:Field)⟩:Arr3F))).toArray 244 (0,0)) r (fun R=>ag rQ) rfl fun fr b1 w2 n3 r=>?_;have hP:Post No [ac b1 ((dz (⟨(⟨0,0⟩:Field),(⟨0,0⟩:Field),(⟨0,0⟩:Field)⟩:Arr3F))).toArray 244] w0 w2:=hP.new n3
 refine wn (wsr (kU (u7 (aS (⟨0,30⟩:Field))) r kz rfl fun r=>kU (u7 (aS (⟨30,2⟩:Field))) r kz rfl fun r=>kU (u7 (aS (⟨32,2⟩:Field))) r kz rfl fun r=>kU (u7 (dz (⟨(⟨0,30⟩:Field),(⟨30,2⟩:Field),(⟨32,2⟩:Field)⟩:Arr3F))) r kz rfl fun r=>?_));refine aJ (.cells ((dz (⟨(⟨0,30⟩:Field),(⟨30,2⟩:Field),(⟨32,2⟩:Field)⟩:Arr3F))).toArray 244 (0,0)) r (fun R=>bb r (o:=0) (v:=(u7 (dz (⟨(⟨0,30⟩:Field),(⟨30,2⟩:Field),(⟨32,2⟩:Field)⟩:Arr3F)))) rfl rfl (hP.cell (i:=0) rfl) rz r9 rfl rfl) rfl fun fr w5 u6 r=>?_
 have hP:Post No [ac b1 ((dz (⟨(⟨0,30⟩:Field),(⟨30,2⟩:Field),(⟨32,2⟩:Field)⟩:Arr3F))).toArray 244] w0 w5:=hP.upd (i:=0) rfl u6;refine wn (d9 ?_);have hv:(⟨(⟨0,30⟩:Field),(⟨30,2⟩:Field),(⟨32,2⟩:Field)⟩:Arr3F)=res:=Option.some.inj hD
 try dsimp only [Exit.then,Exit.inBlock]
 refine ak r rfl rfl (hP.cell (i:=0) rfl) (k:=6) rfl Fk ?_;subst hv;exact ⟨rfl,hP.chg.below⟩
def D.lj (fu:Nat) (a0:List Field):Option (Bool):=(loopThen (fun (x1:Bool × Int × Int)=>(bif (decide (x1.2.2<(a0.length:Int))) then ((getI a0 x1.2.2).bind (fun (x6:Field)=>(Option.bind (bif (!(D.cd x6)) then (some true) else (some ((cL .u64 x1.2.1 (D.cw x6)) !=0))) (fun (x17:Bool)=>(bif x17 then (some (Lp.ret false)) else (some (Lp.next (x1.1,(dQ .u64 x1.2.1 (D.cw x6)),(IntKind.i64.wrap (x1.2.2+1)))))))))) else (some (Lp.brk (x1.1,x1.2.1,x1.2.2))))) fu (false,0,0) (fun (x22:Bool × Int × Int)=>(some true)))
theorem tK {fu:Nat} (w0:World) {a0v:Value} (a0:List Field) (a0h:RoAt 241 2 aS a0v a0 w0) {res:Bool} (hD:D.lj fu a0=some res) :
    Calls y6 288 #[a0v] w0 (bB (.bool res) w0):=by
 refine enter Tryz.func288 rfl 27 rfl rfl fun fr r=>?_;have hP:Post No [] w0 w0:=Post.nil w0
 have hP:Post No [roK 241 2 aS a0v a0] w0 w0:=hP.addRo bi a0h rfl a0h.lt;unfold D.lj at hD
 refine wsr (kA (.bool false) r rfl rfl fun r=>wn (wsr (kA (U 0) r rfl rfl fun r=>wn (a9 (wsr (kM a0v r rfl rfl fun r=>aa (I (a0.length:Int)) r (fun R=>cV r (hP.ro (i:=0) rfl) oJ rfl) rfl fun fr r=>kM (I 0) r rfl rfl fun r=>wn ?_))))));refine ee (X:=Bool × Int × Int) (G:=Unit) (x0:=(false,0,0)) (fun x γ=>[(0,a0v),(6,a0v),(7,(I (a0.length:Int))),(2,(.bool x.1)),(3,(U x.2.1)),(8,(I x.2.2))]) (fun x γ w=>Post No [roK 241 2 aS a0v a0] w0 w) () r (kO (au rfl (au rfl aI))) hP hD ?_ ?_
 ·
  rintro x1 γ2 fr w4 g y3 RPy3 nxy3 bky3 rty3 r hP hD;have hP:Post No [_] w0 w4:=hP;refine wsr (kB r rfl rfl rfl rfl rfl fun r=>wn (a9 ?_));refine q4 (t:=(decide (x1.2.2<(a0.length:Int)))) (r.ev rfl) (fun h5=>?_) (fun h5=>?_)
  ·
   have hD:=(ar h5).symm.trans hD;refine q6 (a9 (wp_block (wsr ?_)));obtain ⟨x6,hx6,hD⟩:=aH hD;refine aa (.pointer (some ⟨rowB a0v,rowO a0v+x1.2.2.toNat * 2,none⟩)) r (fun R=>cy r (hP.ro (i:=0) rfl) hx6 rS rfl rfl) rfl fun fr r=>aa (u7 (aS x6)) r (fun R=>jr r (cs:=(aS x6)) (RoAt.at_ (f:=aS) (x:=x6) (hP.ro (i:=0) rfl) (fun _=>rfl) hx6) rfl dh) rfl fun fr r=>?_;refine ah (.cells ((aS (⟨0,0⟩:Field))).toArray 241 (0,0)) r (fun R=>ag jS) rfl fun fr b7 w8 n9 r=>?_
   have hP:Post No [_,ac b7 ((aS (⟨0,0⟩:Field))).toArray 241] w0 w8:=hP.new n9;refine aJ (.cells ((aS x6)).toArray 241 (0,0)) r (fun R=>bb r (o:=0) (v:=(u7 (aS x6))) rfl rfl (hP.cell (i:=1) rfl) jU r9 rfl rfl) rfl fun fr w11 u12 r=>?_;have hP:Post No [_,ac b7 ((aS x6)).toArray 241] w0 w11:=hP.upd (i:=1) rfl u12
   refine wn (a9 (a9 ?_));refine cQ (N:=27) (Y:=Bool) (G:=Unit) (fun x γ=>[(0,a0v),(6,a0v),(7,(I (a0.length:Int))),(2,(.bool x1.1)),(3,(U x1.2.1)),(8,(I x1.2.2)),(9,(.bool (decide (x1.2.2<(a0.length:Int))))),(5,(zp b7)),(21,(.bool x))]) (fun x γ w=>Post No [roK 241 2 aS a0v a0,ac b7 ((aS x6)).toArray 241] w0 w) hD ?_ ?_
   ·
    rintro y13 RPy13 nxy13 hD;refine q5 (kG (aS x6) 2 r rfl (hP.cell (i:=1) rfl) dh rfl rfl fun r=>?_);refine kE r (kh w11 x6) rfl mo rfl fun w14 hb r=>?_
    have hP:=hP.below hb;refine aa (.bool (!(D.cd x6))) r (fun R=>y_un r (u:=(.bool (D.cd x6))) rfl rfl) rfl fun fr r=>kM (.bool (!(D.cd x6))) r rfl rfl fun r=>?_;refine bE (!(D.cd x6)) (fun h15=>?_) (fun h15=>?_)
    ·
     have hD:=(ar h15).symm.trans hD;refine s0 r h15 fun fr r=>s0 r h15 fun fr r=>s0 r h15 fun fr r=>s0 r h15 fun fr r=>s0 r h15 fun fr r=>aa (.bool true) r (fun R=>ax r (b:=true) (kb h15) rfl) rfl fun fr r=>wn ?_;exact nxy13 true () _ _ _ hD r (kO (kO (au rfl aI))) (hP.pick [0,1] rfl rfl)
    have hD:=(ai h15).symm.trans hD;refine s1 r h15 (kM (U x1.2.1) r rfl rfl fun r=>s1 r h15 (kG (aS x6) 2 r rfl (hP.cell (i:=1) rfl) dh rfl rfl fun r=>s1 r h15 ?_));refine kE r (mF w14 x6) rfl oK rfl fun w16 hb r=>?_
    have hP:=hP.below hb;refine s1 r h15 (kB r rfl rfl rfl rfl rfl fun r=>s1 r h15 (kB r rfl rfl rfl rfl rfl fun r=>aa (.bool ((cL .u64 x1.2.1 (D.cw x6)) !=0)) r (fun R=>ax r (b:=false) (kb h15) rfl) rfl fun fr r=>wn ?_));exact nxy13 ((cL .u64 x1.2.1 (D.cw x6)) !=0) () _ _ _ hD r (kO (kO (au rfl aI))) (hP.pick [0,1] rfl rfl)
   rintro x17 γ18 fr w19 g r hP hD;have hP:Post No [_,_] w0 w19:=hP;refine q4 (t:=x17) (r.ev rfl) (fun h20=>?_) (fun h20=>?_)
   ·
    have hD:=(ar h20).symm.trans hD;refine wsr (kA (.bool false) r rfl rfl fun r=>wn (d9 ?_));refine rty3 false _ _ hD fun hD=>?_
    have hv:false=res:=Option.some.inj hD
    try dsimp only [Exit.then,Exit.inBlock]
    refine aU (fn:=Tryz.f288) r (t:=2) rfl (v:=(.bool false)) rfl ?_;subst hv;exact ⟨rfl,hP.chg.below⟩
   have hD:=(ai h20).symm.trans hD;refine q6 ?_;refine q5 (kM (U x1.2.1) r rfl rfl fun r=>kG (aS x6) 2 r rfl (hP.cell (i:=1) rfl) dh rfl rfl fun r=>?_);refine kE r (mF w19 x6) rfl oK rfl fun w21 hb r=>?_
   have hP:=hP.below hb;refine kB r rfl rfl rfl rfl rfl fun r=>kA (U (dQ .u64 x1.2.1 (D.cw x6))) r rfl rfl fun r=>wn ?_;refine q5 (kB r rfl rfl rfl rfl rfl fun r=>kM (I (W (x1.2.2+1))) r rfl rfl fun r=>wn ?_)
   exact nxy3 (x1.1,(dQ .u64 x1.2.1 (D.cw x6)),(W (x1.2.2+1))) () _ _ _ hD r (kO (au rfl (au rfl aI))) (hP.pick [0] rfl rfl)
  have hD:=(ai h5).symm.trans hD;refine wp_exit ?_;exact bky3 (x1.1,x1.2.1,x1.2.2) () _ _ _ hD r (kO (au rfl (au rfl aI))) (hP.pick [0] rfl rfl)
 rintro x22 γ23 fr w24 g r hP hD;have hP:Post No [_] w0 w24:=hP;refine wsr (kA (.bool true) r rfl rfl fun r=>wn (d9 ?_));have hv:true=res:=Option.some.inj hD
 try dsimp only [Exit.then,Exit.inBlock]
 refine aU (fn:=Tryz.f288) r (t:=2) rfl (v:=(.bool true)) rfl ?_;subst hv;exact ⟨rfl,hP.chg.below⟩
def D.iG (fu:Nat) (a0:List Field) (a1:Int):Option (List Int × Int):=((D.lj fu a0).bind (fun (x1:Bool)=>(bif (!x1) then (some ([],1)) else (loopThen (fun (x6:List Int × Int × Int)=>(bif (decide (x6.2.2<(a0.length:Int))) then ((getI a0 x6.2.2).bind (fun (x11:Field)=>((appD x6.1 ([(D.bJ x11 a1)])).bind (fun (x23:List Int)=>(some (Lp.next (x23,(cG .u64 x6.2.1 (D.cw x11)),(IntKind.i64.wrap (x6.2.2+1))))))))) else (some (Lp.brk (x6.1,x6.2.1,x6.2.2))))) fu ([],a1,0) (fun (x28:List Int × Int × Int)=>(bif (x28.2.1 !=0) then (some ([],10)) else (some (x28.1,0))))))))
theorem Bu {fu:Nat} (w0:World) {a0v:Value} (a0:List Field) (a0h:RoAt 241 2 aS a0v a0 w0) (a1:Int) {res:List Int × Int} (hD:D.iG fu a0 a1=some res) :
    Calls y6 197 #[a0v,.int .u64 a1] w0 (fun e w'=>∃ (v0:Value),e=.returned (.tuple #[v0,(.int .i64 res.2)])∧Done No No [rowK 34 1 u64 v0 res.1] w0 w'):=by
 refine enter Tryz.func197 rfl 34 rfl rfl fun fr r=>?_;have hP:Post No [] w0 w0:=Post.nil w0
 have hP:Post No [roK 241 2 aS a0v a0] w0 w0:=hP.addRo bi a0h rfl a0h.lt;unfold D.iG at hD
 refine wsr (kA kS r rfl rfl fun r=>kA (I 0) r rfl rfl fun r=>wn (a9 (wsr (kM a0v r rfl rfl fun r=>?_))));obtain ⟨x1,hx1,hD⟩:=aH hD
 refine kE r (tK w0 a0 (hP.ro (i:=0) rfl) hx1) rfl wK rfl fun w2 hb r=>?_;have hP:=hP.below hb
 refine aa (.bool (!x1)) r (fun R=>y_un r (u:=(.bool x1)) rfl rfl) rfl fun fr r=>wn ?_;refine q4 (t:=(!x1)) (r.ev rfl) (fun h3=>?_) (fun h3=>?_)
 ·
  have hD:=(ar h3).symm.trans hD;refine wsr (kA kS r rfl rfl fun r=>kA (I 1) r rfl rfl fun r=>wn (d9 ?_));have hP:Post No [_,rowK 34 1 u64 kS ([])] w0 w2:=hP.nilRow 34 1 u64
  have hv:([],1)=res:=Option.some.inj hD
  try dsimp only [Exit.then,Exit.inBlock]
  refine fw (fn:=Tryz.f197) r (t:=4) (t':=5) rfl (v:=kS) (v':=(I 1)) rfl rfl ?_;subst hv;exact ⟨kS,rfl,(hP.pick [1] rfl rfl).done (dc rfl cH)⟩
 have hD:=(ai h3).symm.trans hD;refine q6 (wsr (kA kS r rfl rfl fun r=>wn (wsr (kM (U a1) r rfl rfl fun r=>kA (U a1) r rfl rfl fun r=>wn (a9 (wsr (kM a0v r rfl rfl fun r=>aa (I (a0.length:Int)) r (fun R=>cV r (hP.ro (i:=0) rfl) oJ rfl) rfl fun fr r=>kM (I 0) r rfl rfl fun r=>wn ?_)))))));have hP:Post No [_,_] w0 w2:=hP.nilRow 34 1 u64
 refine ee (X:=List Int × Int × Int) (G:=Value) (x0:=([],a1,0)) (fun x γ=>[(0,a0v),(1,(U a1)),(4,kS),(5,(I 0)),(12,(.bool (!x1))),(14,a0v),(15,(I (a0.length:Int))),(6,γ),(7,(U x.2.1)),(16,(I x.2.2))]) (fun x γ w=>Post No [roK 241 2 aS a0v a0,rowK 34 1 u64 γ x.1] w0 w) kS r (kO (kO (au rfl (au rfl aI)))) hP hD ?_ ?_
 ·
  rintro x6 γ7 fr w9 g y8 RPy8 nxy8 bky8 rty8 r hP hD;have hP:Post No [_,_] w0 w9:=hP;refine wsr (kB r rfl rfl rfl rfl rfl fun r=>wn (a9 ?_));refine q4 (t:=(decide (x6.2.2<(a0.length:Int)))) (r.ev rfl) (fun h10=>?_) (fun h10=>?_)
  ·
   have hD:=(ar h10).symm.trans hD;refine q6 (a9 (wp_block (wsr ?_)));obtain ⟨x11,hx11,hD⟩:=aH hD;refine aa (.pointer (some ⟨rowB a0v,rowO a0v+x6.2.2.toNat * 2,none⟩)) r (fun R=>cy r (hP.ro (i:=0) rfl) hx11 rS rfl rfl) rfl fun fr r=>aa (u7 (aS x11)) r (fun R=>jr r (cs:=(aS x11)) (RoAt.at_ (f:=aS) (x:=x11) (hP.ro (i:=0) rfl) (fun _=>rfl) hx11) rfl dh) rfl fun fr r=>?_;refine ah (.cells ((aS (⟨0,0⟩:Field))).toArray 241 (0,0)) r (fun R=>ag jS) rfl fun fr b12 w13 n14 r=>?_
   have hP:Post No [_,_,ac b12 ((aS (⟨0,0⟩:Field))).toArray 241] w0 w13:=hP.new n14;refine aJ (.cells ((aS x11)).toArray 241 (0,0)) r (fun R=>bb r (o:=0) (v:=(u7 (aS x11))) rfl rfl (hP.cell (i:=2) rfl) jU r9 rfl rfl) rfl fun fr w16 u17 r=>?_;have hP:Post No [_,_,ac b12 ((aS x11)).toArray 241] w0 w16:=hP.upd (i:=2) rfl u17
   refine wn (wsr (kM γ7 r rfl rfl fun r=>kG (aS x11) 2 r rfl (hP.cell (i:=2) rfl) dh rfl rfl fun r=>kM (U a1) r rfl rfl fun r=>?_));refine kE r (mK w16 x11 a1) rfl m8 rfl fun w18 hb r=>?_
   have hP:=hP.below hb;refine eE (.cells (([(D.bJ x11 a1)]).flatMap u64).toArray 34 (0,0)) 1 r (fun R=>cI r kz) rfl fun fr b19 w20 n21 r=>?_;have hP:Post No [_,_,_,rowK 34 1 u64 (.slice (some ⟨b19,0,none⟩) 1 1) ([(D.bJ x11 a1)])] w0 w20:=hP.newRow n21 (fun _=>rfl) rfl
   obtain ⟨x23,hx23,hD⟩:=aH hD;refine dT 34 1 u64 γ7 r (fun R=>dP r rt66 (fun _=>rfl) (fun _=>rfl) (hP.row (i:=1) rfl) (hP.row (i:=3) rfl).ro hx23 rfl rfl) rfl fun fr v24 w25 ha26 r=>?_;have hP:Post No [_,rowK 34 1 u64 v24 x23,_,_] w0 w25:=hP.append (i:=1) rfl ha26
   refine kA v24 r rfl rfl fun r=>wn ?_;refine q5 (kM (U x6.2.1) r rfl rfl fun r=>kG (aS x11) 2 r rfl (hP.cell (i:=2) rfl) dh rfl rfl fun r=>?_)
   refine kE r (mF w25 x11) rfl oK rfl fun w27 hb r=>?_;have hP:=hP.below hb
   refine kB r rfl rfl rfl rfl rfl fun r=>kA (U (cG .u64 x6.2.1 (D.cw x11))) r rfl rfl fun r=>wn ?_;refine q5 (kB r rfl rfl rfl rfl rfl fun r=>kM (I (W (x6.2.2+1))) r rfl rfl fun r=>wn ?_)
   exact nxy8 (x23,(cG .u64 x6.2.1 (D.cw x11)),(W (x6.2.2+1))) v24 _ _ _ hD r (kO (kO (au rfl (au rfl aI)))) (hP.pick [0,1] rfl rfl)
  have hD:=(ai h10).symm.trans hD;refine wp_exit ?_;exact bky8 (x6.1,x6.2.1,x6.2.2) γ7 _ _ _ hD r (kO (kO (au rfl (au rfl aI)))) (hP.pick [0,1] rfl rfl)
 rintro x28 γ29 fr w30 g r hP hD;have hP:Post No [_,_] w0 w30:=hP;refine a9 (wsr (kM (U x28.2.1) r rfl rfl fun r=>kB r rfl rfl rfl rfl rfl fun r=>wn ?_));refine q4 (t:=(x28.2.1 !=0)) (r.ev rfl) (fun h31=>?_) (fun h31=>?_)
 ·
  have hD:=(ar h31).symm.trans hD;refine wsr (kA kS r rfl rfl fun r=>kA (I 10) r rfl rfl fun r=>wn (d9 ?_));have hP:Post No [_,_,rowK 34 1 u64 kS ([])] w0 w30:=hP.nilRow 34 1 u64
  have hv:([],10)=res:=Option.some.inj hD
  try dsimp only [Exit.then,Exit.inBlock]
  refine fw (fn:=Tryz.f197) r (t:=4) (t':=5) rfl (v:=kS) (v':=(I 10)) rfl rfl ?_;subst hv;exact ⟨kS,rfl,(hP.pick [2] rfl rfl).done (dc rfl cH)⟩
 have hD:=(ai h31).symm.trans hD;refine q6 (wsr (kM γ29 r rfl rfl fun r=>kA γ29 r rfl rfl fun r=>kA (I 0) r rfl rfl fun r=>wn (d9 ?_)));have hv:(x28.1,0)=res:=Option.some.inj hD
 try dsimp only [Exit.then,Exit.inBlock]
 refine fw (fn:=Tryz.f197) r (t:=4) (t':=5) rfl (v:=γ29) (v':=(I 0)) rfl rfl ?_;subst hv;exact ⟨γ29,rfl,(hP.pick [1] rfl rfl).done (dc rfl cH)⟩
def D.aV (fu:Nat) (a0:Int):Option (State × Bool):=((D.nF fu ).bind (fun (x5:Arr3F)=>((D.iG fu ([x5.f0,x5.f1,x5.f2]) a0).bind (fun (x13:List Int × Int)=>(bif (x13.2 !=0) then (some ((⟨0,0,0⟩:State),false)) else ((getI x13.1 0).bind (fun (x20:Int)=>((getI x13.1 1).bind (fun (x21:Int)=>((getI x13.1 2).bind (fun (x22:Int)=>(bif (!(D.db (⟨(IntKind.i64.wrap x20),(IntKind.i64.wrap x21),(IntKind.i64.wrap x22)⟩:State))) then (some ((⟨0,0,0⟩:State),false)) else (some ((⟨(IntKind.i64.wrap x20),(IntKind.i64.wrap x21),(IntKind.i64.wrap x22)⟩:State),true))))))))))))))
theorem lu {fu:Nat} (w0:World) (a0:Int) {res:State × Bool} (hD:D.aV fu a0=some res) :
    Calls y6 111 #[.int .u64 a0] w0 (bB (.tuple #[(u7 (aR res.1)),(.bool res.2)]) w0):=by
 refine enter Tryz.func111 rfl 36 rfl rfl fun fr r=>?_;have hP:Post No [] w0 w0:=Post.nil w0
 unfold D.aV at hD
 refine wsr ?_;refine ah (.cells ((aR (⟨0,0,0⟩:State))).toArray 190 (0,0)) r (fun R=>ag gb) rfl fun fr b1 w2 n3 r=>?_;have hP:Post No [ac b1 ((aR (⟨0,0,0⟩:State))).toArray 190] w0 w2:=hP.new n3
 refine kA (.bool false) r rfl rfl fun r=>wn (wsr ?_);obtain ⟨x5,hx5,hD⟩:=aH hD
 refine kE r (tD w2  hx5) rfl xT rfl fun w6 hb r=>?_;have hP:=hP.below hb
 refine ah (.cells ((dz (⟨(⟨0,0⟩:Field),(⟨0,0⟩:Field),(⟨0,0⟩:Field)⟩:Arr3F))).toArray 244 (0,0)) r (fun R=>ag rQ) rfl fun fr b7 w8 n9 r=>?_;have hP:Post No [_,ac b7 ((dz (⟨(⟨0,0⟩:Field),(⟨0,0⟩:Field),(⟨0,0⟩:Field)⟩:Arr3F))).toArray 244] w0 w8:=hP.new n9
 refine aJ (.cells ((dz x5)).toArray 244 (0,0)) r (fun R=>bb r (o:=0) (v:=(u7 (dz x5))) rfl rfl (hP.cell (i:=1) rfl) rz r9 rfl rfl) rfl fun fr w11 u12 r=>?_;have hP:Post No [_,ac b7 ((dz x5)).toArray 244] w0 w11:=hP.upd (i:=1) rfl u12
 refine wn (wsr (aa (.slice (some ⟨b7,0,none⟩) 3 3) r (fun R=>xW r xp rfl) rfl fun fr r=>kM (U a0) r rfl rfl fun r=>?_));obtain ⟨x13,hx13,hD⟩:=aH hD
 refine kC r (Bu w11 ([x5.f0,x5.f1,x5.f2]) (RoAt.ofCell (hP.cell (i:=1) rfl) rfl (List.cons_ne_nil _ _) rfl) a0 hx13) rfl Ex rfl ?_;rintro _ w14 ⟨v15,rfl,hq⟩;refine ⟨_,rfl,fun fr r=>?_⟩
 have hP:Post No [_,_,rowK 34 1 u64 v15 x13.1] w0 w14:=hP.add hq;refine kM (.tuple #[v15,(I x13.2)]) r rfl rfl fun r=>aa v15 r (fun R=>bX r (vs:=#[v15,(I x13.2)]) rfl rfl) rfl fun fr r=>aa (I x13.2) r (fun R=>bX r (vs:=#[v15,(I x13.2)]) rfl rfl) rfl fun fr r=>kA v15 r rfl rfl fun r=>kA (I x13.2) r rfl rfl fun r=>wn (a9 (wsr (kM (I x13.2) r rfl rfl fun r=>kB r rfl rfl rfl rfl rfl fun r=>wn ?_)));refine q4 (t:=(x13.2 !=0)) (r.ev rfl) (fun h17=>?_) (fun h17=>?_)
 ·
  have hD:=(ar h17).symm.trans hD;refine wsr (kU (u7 (aR (⟨0,0,0⟩:State))) r kz rfl fun r=>?_)
  refine aJ (.cells ((aR (⟨0,0,0⟩:State))).toArray 190 (0,0)) r (fun R=>bb r (o:=0) (v:=(u7 (aR (⟨0,0,0⟩:State)))) rfl rfl (hP.cell (i:=0) rfl) eP r9 rfl rfl) rfl fun fr w18 u19 r=>?_;have hP:Post No [_,_,_] w0 w18:=hP.upd (i:=0) rfl u19
  refine kA (.bool false) r rfl rfl fun r=>wn (d9 ?_);have hv:((⟨0,0,0⟩:State),false)=res:=Option.some.inj hD
  try dsimp only [Exit.then,Exit.inBlock]
  refine fL (fn:=Tryz.f111) r rfl rfl (v':=(.bool false)) rfl (hP.cell (i:=0) rfl) (k:=3) rfl dV ?_;subst hv;exact ⟨rfl,hP.chg.below⟩
 have hD:=(ai h17).symm.trans hD;refine q6 (a9 ?_);obtain ⟨x20,hx20,hD⟩:=aH hD;obtain ⟨x21,hx21,hD⟩:=aH hD;obtain ⟨x22,hx22,hD⟩:=aH hD;refine df [.val v15,.val (.pointer (some ⟨rowB v15,rowO v15+(0:Int).toNat * 1,none⟩)),.val (U x20),.val (I (W x20)),.val v15,.val (.pointer (some ⟨rowB v15,rowO v15+(1:Int).toNat * 1,none⟩)),.val (U x21),.val (I (W x21)),.val v15,.val (.pointer (some ⟨rowB v15,rowO v15+(2:Int).toNat * 1,none⟩)),.val (U x22),.val (I (W x22)),.val (u7 (aR (⟨(W x20),(W x21),(W x22)⟩:State))),.cell 190 3,.stored 13 ((aR (⟨(W x20),(W x21),(W x22)⟩:State))).toArray 190 3 rfl] mixed r kz ?_ ?_
 ·
  refine fc r (fun fr1 g w' hb' hd r'=>ay r' rfl bz) ?_;refine fc r (fun fr1 g w' hb' hd r'=>cy r' ((hP.below (dr hb')).row (i:=2) rfl).ro hx20 sl66 (hd 0 rfl).1 rfl bz) ?_
  refine fc r (fun fr1 g w' hb' hd r'=>cW r' (u:=(U x20)) (RoAt.at_ (f:=u64) (x:=x20) ((hP.below (dr hb')).row (i:=2) rfl).ro (fun _=>rfl) hx20) (hd 1 rfl).1 to34 bz) ?_;refine fc r (fun fr1 g w' hb' hd r'=>cK r' (n:=x20) (hd 2 rfl).1 ti34 ti3 bz) ?_
  refine fc r (fun fr1 g w' hb' hd r'=>ay r' rfl bz) ?_;refine fc r (fun fr1 g w' hb' hd r'=>cy r' ((hP.below (dr hb')).row (i:=2) rfl).ro hx21 sl66 (hd 4 rfl).1 rfl bz) ?_
  refine fc r (fun fr1 g w' hb' hd r'=>cW r' (u:=(U x21)) (RoAt.at_ (f:=u64) (x:=x21) ((hP.below (dr hb')).row (i:=2) rfl).ro (fun _=>rfl) hx21) (hd 5 rfl).1 to34 bz) ?_;refine fc r (fun fr1 g w' hb' hd r'=>cK r' (n:=x21) (hd 6 rfl).1 ti34 ti3 bz) ?_
  refine fc r (fun fr1 g w' hb' hd r'=>ay r' rfl bz) ?_;refine fc r (fun fr1 g w' hb' hd r'=>cy r' ((hP.below (dr hb')).row (i:=2) rfl).ro hx22 sl66 (hd 8 rfl).1 rfl bz) ?_
  refine fc r (fun fr1 g w' hb' hd r'=>cW r' (u:=(U x22)) (RoAt.at_ (f:=u64) (x:=x22) ((hP.below (dr hb')).row (i:=2) rfl).ro (fun _=>rfl) hx22) (hd 9 rfl).1 to34 bz) ?_;refine fc r (fun fr1 g w' hb' hd r'=>cK r' (n:=x22) (hd 10 rfl).1 ti34 ti3 bz) ?_
  refine fc r (fun fr1 g w' hb' hd r'=>eF r' (v:=(u7 (aR (⟨(W x20),(W x21),(W x22)⟩:State)))) (bs3 (congrArg (fun z=>(0,z)) (hd 3 rfl).1) (congrArg (fun z=>(1,z)) (hd 7 rfl).1) (congrArg (fun z=>(2,z)) (hd 11 rfl).1) kz) bz) ?_;refine fc r (fun fr1 g w' hb' hd r'=>ag gb (fun b w2 n2=>⟨n2.below,b,rfl,n2.eq,_,n2.at_,rfl⟩)) ?_
  refine nU r rfl (fun fr1 g w' hb' hd r'=>?_) ?_
  · obtain ⟨hp,_,c,hc,hn⟩:=(hd 13 rfl).1; exact bb r' (o:=0) (c:=c) (v:=(u7 (aR (⟨(W x20),(W x21),(W x22)⟩:State)))) hp (hd 12 rfl).1 hc eP yaD rfl (lq (hn.trans rfl)) (fun w2 u2=>⟨u2,rfl⟩)
  exact bS
 intro fr gg w24 hb hΦ hap r;obtain ⟨b23,ee_b23⟩:∃ b,b=(gg 13).lo:=⟨_,rfl⟩;have g13:(gg 13).v=(zp b23):=by rw [ee_b23]; exact (hΦ 13 rfl).1.1
 have H23:w24.heap[b23]?=some (.cells ((aR (⟨(W x20),(W x21),(W x22)⟩:State))).toArray 190 (0,0)):=by rw [ee_b23]; exact (hΦ 14 rfl).1.2
 have hs13:Fresh [ac b23 ((aR (⟨(W x20),(W x21),(W x22)⟩:State))).toArray 190] (gg 13).lo (gg 13).hi w24:=by subst ee_b23; exact Fresh.cell (hΦ 13 rfl).1.2.1 H23
 have r:=r.congr (sc g13 (sc ((hΦ 12 rfl).1) (sc ((hΦ 11 rfl).1) (sc ((hΦ 10 rfl).1) (sc ((hΦ 9 rfl).1) (sc ((hΦ 8 rfl).1) (sc ((hΦ 7 rfl).1) (sc ((hΦ 6 rfl).1) (sc ((hΦ 5 rfl).1) (sc ((hΦ 4 rfl).1) (sc ((hΦ 3 rfl).1) (sc ((hΦ 2 rfl).1) (sc ((hΦ 1 rfl).1) (sc ((hΦ 0 rfl).1) rfl))))))))))))));have hP:Post No [_,_,_,ac b23 ((aR (⟨(W x20),(W x21),(W x22)⟩:State))).toArray 190] w0 w24:=hP.addL (l:=[([ac b23 ((aR (⟨(W x20),(W x21),(W x22)⟩:State))).toArray 190],(gg 13).lo,(gg 13).hi)]) hb ⟨hs13,(hΦ 13 rfl).2.1,dO,trivial⟩;refine a9 (wsr (kG (aR (⟨(W x20),(W x21),(W x22)⟩:State)) 3 r rfl (hP.cell (i:=3) rfl) dV rfl rfl fun r=>?_));refine kE r (sH w24 (⟨(W x20),(W x21),(W x22)⟩:State)) rfl wJ rfl fun w25 hb r=>?_
 have hP:=hP.below hb;refine aa (.bool (!(D.db (⟨(W x20),(W x21),(W x22)⟩:State)))) r (fun R=>y_un r (u:=(.bool (D.db (⟨(W x20),(W x21),(W x22)⟩:State)))) rfl rfl) rfl fun fr r=>wn ?_;refine q4 (t:=(!(D.db (⟨(W x20),(W x21),(W x22)⟩:State)))) (r.ev rfl) (fun h26=>?_) (fun h26=>?_)
 ·
  have hD:=(ar h26).symm.trans hD;refine wsr (kU (u7 (aR (⟨0,0,0⟩:State))) r kz rfl fun r=>?_)
  refine aJ (.cells ((aR (⟨0,0,0⟩:State))).toArray 190 (0,0)) r (fun R=>bb r (o:=0) (v:=(u7 (aR (⟨0,0,0⟩:State)))) rfl rfl (hP.cell (i:=0) rfl) eP r9 rfl rfl) rfl fun fr w27 u28 r=>?_;have hP:Post No [_,_,_,_] w0 w27:=hP.upd (i:=0) rfl u28
  refine kA (.bool false) r rfl rfl fun r=>wn (d9 ?_);have hv:((⟨0,0,0⟩:State),false)=res:=Option.some.inj hD
  try dsimp only [Exit.then,Exit.inBlock]
  refine fL (fn:=Tryz.f111) r rfl rfl (v':=(.bool false)) rfl (hP.cell (i:=0) rfl) (k:=3) rfl dV ?_;subst hv;exact ⟨rfl,hP.chg.below⟩
 have hD:=(ai h26).symm.trans hD;refine q6 (wsr (kG (aR (⟨(W x20),(W x21),(W x22)⟩:State)) 3 r rfl (hP.cell (i:=3) rfl) dV rfl rfl fun r=>?_));refine aJ (.cells ((aR (⟨(W x20),(W x21),(W x22)⟩:State))).toArray 190 (0,0)) r (fun R=>bb r (o:=0) (v:=(u7 (aR (⟨(W x20),(W x21),(W x22)⟩:State)))) rfl rfl (hP.cell (i:=0) rfl) eP r9 rfl rfl) rfl fun fr w29 u30 r=>?_
 have hP:Post No [ac b1 ((aR (⟨(W x20),(W x21),(W x22)⟩:State))).toArray 190,_,_,_] w0 w29:=hP.upd (i:=0) rfl u30;refine kA (.bool true) r rfl rfl fun r=>wn (d9 ?_);have hv:((⟨(W x20),(W x21),(W x22)⟩:State),true)=res:=Option.some.inj hD
 try dsimp only [Exit.then,Exit.inBlock]
 refine fL (fn:=Tryz.f111) r rfl rfl (v':=(.bool true)) rfl (hP.cell (i:=0) rfl) (k:=3) rfl dV ?_;subst hv;exact ⟨rfl,hP.chg.below⟩
def D.iL (fu:Nat) (a0:List Field) (a1:List Int):Option (Int × Int):=(Option.bind ((D.lj fu a0).bind (fun (x2:Bool)=>(bif (!x2) then (some true) else (some ((a0.length:Int) !=(a1.length:Int)))))) (fun (x5:Bool)=>(bif x5 then (some (0,1)) else (loopThen (fun (x9:Int × Int × Int × Int)=>(bif (decide (x9.2.2.2<(a0.length:Int))) then ((getI a0 x9.2.2.2).bind (fun (x14:Field)=>((getI a1 x9.2.2.2).bind (fun (x21:Int)=>(bif (decide (x21 > (D.bT x14))) then (some (Lp.ret (0,1))) else ((getI a1 x9.2.2.2).bind (fun (x24:Int)=>(some (Lp.next (x9.1,x9.2.1,(D.cU x14 x9.2.2.1 x24),(IntKind.i64.wrap (x9.2.2.2+1)))))))))))) else (some (Lp.brk (x9.1,x9.2.1,x9.2.2.1,x9.2.2.2))))) fu (0,0,0,0) (fun (x26:Int × Int × Int × Int)=>(some (x26.2.2.1,0)))))))
theorem Bw {fu:Nat} (w0:World) {a0v:Value} (a0:List Field) (a0h:RoAt 241 2 aS a0v a0 w0) {a1v:Value} (a1:List Int) (a1h:RoAt 34 1 u64 a1v a1 w0) {res:Int × Int} (hD:D.iL fu a0 a1=some res) :
    Calls y6 217 #[a0v,a1v] w0 (bB (.tuple #[(.int .u64 res.1),(.int .i64 res.2)]) w0):=by
 refine enter Tryz.func217 rfl 42 rfl rfl fun fr r=>?_;have hP:Post No [] w0 w0:=Post.nil w0
 have hP:Post No [roK 241 2 aS a0v a0] w0 w0:=hP.addRo bi a0h rfl a0h.lt;have hP:Post No [_,roK 34 1 u64 a1v a1] w0 w0:=hP.addRo (aB rfl bi) a1h rfl a1h.lt;unfold D.iL at hD
 refine wsr (kA (U 0) r rfl rfl fun r=>kA (I 0) r rfl rfl fun r=>wn (a9 (a9 ?_)));refine cQ (N:=42) (Y:=Bool) (G:=Unit) (fun x γ=>[(0,a0v),(1,a1v),(4,(U 0)),(5,(I 0)),(18,(.bool x))]) (fun x γ w=>Post No [roK 241 2 aS a0v a0,roK 34 1 u64 a1v a1] w0 w) hD ?_ ?_
 ·
  rintro y1 RPy1 nxy1 hD;refine q5 (kM a0v r rfl rfl fun r=>?_);obtain ⟨x2,hx2,hD⟩:=aH hD
  refine kE r (tK w0 a0 (hP.ro (i:=0) rfl) hx2) rfl wK rfl fun w3 hb r=>?_;have hP:=hP.below hb
  refine aa (.bool (!x2)) r (fun R=>y_un r (u:=(.bool x2)) rfl rfl) rfl fun fr r=>kM (.bool (!x2)) r rfl rfl fun r=>?_;refine bE (!x2) (fun h4=>?_) (fun h4=>?_)
  ·
   have hD:=(ar h4).symm.trans hD;refine s0 r h4 fun fr r=>s0 r h4 fun fr r=>s0 r h4 fun fr r=>s0 r h4 fun fr r=>s0 r h4 fun fr r=>aa (.bool true) r (fun R=>ax r (b:=true) (kb h4) rfl) rfl fun fr r=>wn ?_;exact nxy1 true () _ _ _ hD r (kO (au rfl aI)) (hP.pick [0,1] rfl rfl)
  have hD:=(ai h4).symm.trans hD;refine s1 r h4 (kM a0v r rfl rfl fun r=>s1 r h4 (aa (I (a0.length:Int)) r (fun R=>cV r (hP.ro (i:=0) rfl) oJ rfl) rfl fun fr r=>s1 r h4 (kM a1v r rfl rfl fun r=>s1 r h4 (aa (I (a1.length:Int)) r (fun R=>cV r (hP.ro (i:=1) rfl) is66 rfl) rfl fun fr r=>s1 r h4 (kB r rfl rfl rfl rfl rfl fun r=>aa (.bool ((a0.length:Int) !=(a1.length:Int))) r (fun R=>ax r (b:=false) (kb h4) rfl) rfl fun fr r=>wn ?_)))));exact nxy1 ((a0.length:Int) !=(a1.length:Int)) () _ _ _ hD r (kO (au rfl aI)) (hP.pick [0,1] rfl rfl)
 rintro x5 γ6 fr w7 g r hP hD;have hP:Post No [_,_] w0 w7:=hP;refine q4 (t:=x5) (r.ev rfl) (fun h8=>?_) (fun h8=>?_)
 ·
  have hD:=(ar h8).symm.trans hD;refine wsr (kA (U 0) r rfl rfl fun r=>kA (I 1) r rfl rfl fun r=>wn (d9 ?_));have hv:(0,1)=res:=Option.some.inj hD
  try dsimp only [Exit.then,Exit.inBlock]
  refine fw (fn:=Tryz.f217) r (t:=4) (t':=5) rfl (v:=(U 0)) (v':=(I 1)) rfl rfl ?_;subst hv;exact ⟨rfl,hP.chg.below⟩
 have hD:=(ai h8).symm.trans hD;refine q6 (wsr (kA (U 0) r rfl rfl fun r=>wn (a9 (wsr (kM a0v r rfl rfl fun r=>aa (I (a0.length:Int)) r (fun R=>cV r (hP.ro (i:=0) rfl) oJ rfl) rfl fun fr r=>kM (I 0) r rfl rfl fun r=>wn ?_)))));refine ee (X:=Int × Int × Int × Int) (G:=Unit) (x0:=(0,0,0,0)) (fun x γ=>[(0,a0v),(1,a1v),(18,(.bool x5)),(19,a0v),(20,(I (a0.length:Int))),(4,(U x.1)),(5,(I x.2.1)),(6,(U x.2.2.1)),(21,(I x.2.2.2))]) (fun x γ w=>Post No [roK 241 2 aS a0v a0,roK 34 1 u64 a1v a1] w0 w) () r (kO (kO (au rfl aI))) hP hD ?_ ?_
 ·
  rintro x9 γ10 fr w12 g y11 RPy11 nxy11 bky11 rty11 r hP hD;have hP:Post No [_,_] w0 w12:=hP;refine wsr (kB r rfl rfl rfl rfl rfl fun r=>wn (a9 ?_));refine q4 (t:=(decide (x9.2.2.2<(a0.length:Int)))) (r.ev rfl) (fun h13=>?_) (fun h13=>?_)
  ·
   have hD:=(ar h13).symm.trans hD;refine q6 (a9 (wp_block (wsr (kM (I x9.2.2.2) r rfl rfl fun r=>?_))));obtain ⟨x14,hx14,hD⟩:=aH hD
   refine aa (.pointer (some ⟨rowB a0v,rowO a0v+x9.2.2.2.toNat * 2,none⟩)) r (fun R=>cy r (hP.ro (i:=0) rfl) hx14 rS rfl rfl) rfl fun fr r=>aa (u7 (aS x14)) r (fun R=>jr r (cs:=(aS x14)) (RoAt.at_ (f:=aS) (x:=x14) (hP.ro (i:=0) rfl) (fun _=>rfl) hx14) rfl dh) rfl fun fr r=>?_;refine ah (.cells ((aS (⟨0,0⟩:Field))).toArray 241 (0,0)) r (fun R=>ag jS) rfl fun fr b15 w16 n17 r=>?_
   have hP:Post No [_,_,ac b15 ((aS (⟨0,0⟩:Field))).toArray 241] w0 w16:=hP.new n17;refine kA (I x9.2.2.2) r rfl rfl fun r=>?_;refine aJ (.cells ((aS x14)).toArray 241 (0,0)) r (fun R=>bb r (o:=0) (v:=(u7 (aS x14))) rfl rfl (hP.cell (i:=2) rfl) jU r9 rfl rfl) rfl fun fr w19 u20 r=>?_
   have hP:Post No [_,_,ac b15 ((aS x14)).toArray 241] w0 w19:=hP.upd (i:=2) rfl u20;refine wn (a9 (a9 ?_));obtain ⟨x21,hx21,hD⟩:=aH hD;refine df [.val a1v,.val (I x9.2.2.2),.val (.pointer (some ⟨rowB a1v,rowO a1v+x9.2.2.2.toNat * 1,none⟩)),.val (U x21),.val (u7 (aS x14)),.val (U (D.bT x14)),.val (.bool (decide (x21 > (D.bT x14))))] mixed r kz ?_ ?_
   ·
    refine fc r (fun fr1 g w' hb' hd r'=>ay r' rfl bz) ?_;refine fc r (fun fr1 g w' hb' hd r'=>ay r' rfl bz) ?_
    refine fc r (fun fr1 g w' hb' hd r'=>cy r' ((hP.below (dr hb')).ro (i:=1) rfl) hx21 sl66 (hd 0 rfl).1 (hd 1 rfl).1 bz) ?_;refine fc r (fun fr1 g w' hb' hd r'=>cW r' (u:=(U x21)) (RoAt.at_ (f:=u64) (x:=x21) ((hP.below (dr hb')).ro (i:=1) rfl) (fun _=>rfl) hx21) (hd 2 rfl).1 to34 bz) ?_
    refine fc r (fun fr1 g w' hb' hd r'=>aX r' (cs:=(aS x14)) (n:=2) rfl ((hP.below (dr hb')).cell (i:=2) rfl) dh rfl bz) ?_;refine fc r (fun fr1 g w' hb' hd r'=>aP r' (args:=[(u7 (aS x14))]) (lc (hd 4 rfl).1 l0) oV ((mG _ x14).mono yab)) ?_
    refine fc r (fun fr1 g w' hb' hd r'=>bd r' (hd 3 rfl).1 (hd 5 rfl).1 rfl rfl bz) ?_;exact bS
   intro fr gg w22 hb hΦ hap r;have r:=r.congr (sc ((hΦ 6 rfl).1) (sc ((hΦ 5 rfl).1) (sc ((hΦ 4 rfl).1) (sc ((hΦ 3 rfl).1) (sc ((hΦ 2 rfl).1) (sc ((hΦ 1 rfl).1) (sc ((hΦ 0 rfl).1) rfl)))))));have hP:=hP.below hb;refine q4 (t:=(decide (x21 > (D.bT x14)))) (r.ev rfl) (fun h23=>?_) (fun h23=>?_)
   ·
    have hD:=(ar h23).symm.trans hD;refine wsr (kA (U 0) r rfl rfl fun r=>kA (I 1) r rfl rfl fun r=>wn (d9 ?_));refine rty11 (0,1) _ _ hD fun hD=>?_
    have hv:(0,1)=res:=Option.some.inj hD
    try dsimp only [Exit.then,Exit.inBlock]
    refine fw (fn:=Tryz.f217) r (t:=4) (t':=5) rfl (v:=(U 0)) (v':=(I 1)) rfl rfl ?_;subst hv;exact ⟨rfl,hP.chg.below⟩
   have hD:=(ai h23).symm.trans hD;refine q6 ?_;obtain ⟨x24,hx24,hD⟩:=aH hD;refine bN 7 [.val (u7 (aS x14)),.val (U x9.2.2.1),.val a1v,.val (I x9.2.2.2),.val (.pointer (some ⟨rowB a1v,rowO a1v+x9.2.2.2.toNat * 1,none⟩)),.val (U x24),.val (U (D.cU x14 x9.2.2.1 x24))] mixed r kz (kV (kV (kV (kV (kV (kV (kV bM))))))) ?_ ?_
   ·
    refine ec r (fun _ u _ b d s=>aX s (cs:=(aS x14)) (n:=2) rfl ((hP.below (dr b)).cell (i:=2) rfl) dh rfl bz) (ec r (fun _ u _ b d s=>ay s rfl bz) (ec r (fun _ u _ b d s=>ay s rfl bz) (ec r (fun _ u _ b d s=>ay s rfl bz) (ec r (fun _ u _ b d s=>cy s ((hP.below (dr b)).ro (i:=1) rfl) hx24 sl66 d.1 d.2.1 bz) (ec r (fun fr1 u w' hb' hd r'=>cW r' (u:=(U x24)) (RoAt.at_ (f:=u64) (x:=x24) ((hP.below (dr hb')).ro (i:=1) rfl) (fun _=>rfl) hx24) hd.1 to34 bz) (ec r (fun fr1 u w' hb' hd r'=>aP r' (args:=[(u7 (aS x14)),(U x9.2.2.1),(U x24)]) (lc hd.1 (lc hd.2.1 (lc hd.2.2.1 l0))) oP ((pB _ x14 x9.2.2.1 x24).mono yab)) ?_))))));exact bO
   intro fr u w25 hb hΦ hne r;have r:=r.congr (sc (hΦ 6 ke) (sc (hΦ 5 ke) (sc (hΦ 4 ke) (sc (hΦ 3 ke) (sc (hΦ 2 ke) (sc (hΦ 1 ke) (sc (hΦ 0 ke) rfl)))))));have hP:=hP.below hb;refine kA (U (D.cU x14 x9.2.2.1 x24)) r rfl rfl fun r=>wn ?_;refine q5 (kB r rfl rfl rfl rfl rfl fun r=>kM (I (W (x9.2.2.2+1))) r rfl rfl fun r=>wn ?_)
   exact nxy11 (x9.1,x9.2.1,(D.cU x14 x9.2.2.1 x24),(W (x9.2.2.2+1))) () _ _ _ hD r (kO (kO (au rfl aI))) (hP.pick [0,1] rfl rfl)
  have hD:=(ai h13).symm.trans hD;refine wp_exit ?_;exact bky11 (x9.1,x9.2.1,x9.2.2.1,x9.2.2.2) () _ _ _ hD r (kO (kO (au rfl aI))) (hP.pick [0,1] rfl rfl)
 rintro x26 γ27 fr w28 g r hP hD;have hP:Post No [_,_] w0 w28:=hP;refine wsr (kM (U x26.2.2.1) r rfl rfl fun r=>kA (U x26.2.2.1) r rfl rfl fun r=>kA (I 0) r rfl rfl fun r=>wn (d9 ?_));have hv:(x26.2.2.1,0)=res:=Option.some.inj hD
 try dsimp only [Exit.then,Exit.inBlock]
 refine fw (fn:=Tryz.f217) r (t:=4) (t':=5) rfl (v:=(U x26.2.2.1)) (v':=(I 0)) rfl rfl ?_;subst hv;exact ⟨rfl,hP.chg.below⟩
def D.cn (fu:Nat) (a0:State):Option (Int):=(bif (!(D.db a0)) then (some 0) else ((D.nF fu ).bind (fun (x7:Arr3F)=>((D.iL fu ([x7.f0,x7.f1,x7.f2]) ([(IntKind.u64.wrap a0.gen),(IntKind.u64.wrap a0.mode),(IntKind.u64.wrap a0.kind)])).bind (fun (x17:Int × Int)=>(some x17.1))))))
theorem ko {fu:Nat} (w0:World) (a0:State) {res:Int} (hD:D.cn fu a0=some res) :
    Calls y6 137 #[u7 (aR a0)] w0 (bB (.int .u64 res) w0):=by
 refine enter Tryz.func137 rfl 26 rfl rfl fun fr r=>?_;have hP:Post No [] w0 w0:=Post.nil w0
 unfold D.cn at hD
 refine wsr ?_;refine kX 190 (u7 (aR a0)) r rfl rfl fun b1 w2 n3 r=>?_;have hP:Post No [ac b1 ((aR a0)).toArray 190] w0 w2:=hP.new n3
 refine kA (U 0) r rfl rfl fun r=>wn (a9 (wsr (kG (aR a0) 3 r rfl (hP.cell (i:=0) rfl) dV rfl rfl fun r=>?_)));refine kE r (sH w2 a0) rfl wJ rfl fun w5 hb r=>?_
 have hP:=hP.below hb;refine aa (.bool (!(D.db a0))) r (fun R=>y_un r (u:=(.bool (D.db a0))) rfl rfl) rfl fun fr r=>wn ?_;refine q4 (t:=(!(D.db a0))) (r.ev rfl) (fun h6=>?_) (fun h6=>?_)
 ·
  have hD:=(ar h6).symm.trans hD;refine wsr (kA (U 0) r rfl rfl fun r=>wn (d9 ?_));have hv:0=res:=Option.some.inj hD
  try dsimp only [Exit.then,Exit.inBlock]
  refine aU (fn:=Tryz.f137) r (t:=2) rfl (v:=(U 0)) rfl ?_;subst hv;exact ⟨rfl,hP.chg.below⟩
 have hD:=(ai h6).symm.trans hD;refine q6 (wsr ?_);obtain ⟨x7,hx7,hD⟩:=aH hD;refine kE r (tD w5  hx7) rfl xT rfl fun w8 hb r=>?_;have hP:=hP.below hb
 refine ah (.cells ((dz (⟨(⟨0,0⟩:Field),(⟨0,0⟩:Field),(⟨0,0⟩:Field)⟩:Arr3F))).toArray 244 (0,0)) r (fun R=>ag rQ) rfl fun fr b9 w10 n11 r=>?_;have hP:Post No [_,ac b9 ((dz (⟨(⟨0,0⟩:Field),(⟨0,0⟩:Field),(⟨0,0⟩:Field)⟩:Arr3F))).toArray 244] w0 w10:=hP.new n11
 refine aJ (.cells ((dz x7)).toArray 244 (0,0)) r (fun R=>bb r (o:=0) (v:=(u7 (dz x7))) rfl rfl (hP.cell (i:=1) rfl) rz r9 rfl rfl) rfl fun fr w13 u14 r=>?_;have hP:Post No [_,ac b9 ((dz x7)).toArray 244] w0 w13:=hP.upd (i:=1) rfl u14
 refine wn (a9 ?_);obtain ⟨x17,hx17,hD⟩:=aH hD;refine df [.val (.slice (some ⟨b9,0,none⟩) 3 3),.val (zp b1),.val (I a0.gen),.val (U (V a0.gen)),.val (.pointer (some ⟨b1,1,none⟩)),.val (I a0.mode),.val (U (V a0.mode)),.val (.pointer (some ⟨b1,2,none⟩)),.val (I a0.kind),.val (U (V a0.kind)),.pred (MkP (fun v:Value=>v) (fun v:Value=>[rowK 34 1 u64 v ([(V a0.gen),(V a0.mode),(V a0.kind)])])) (MkP.st _ _),.val (.tuple #[(U x17.1),(I x17.2)]),.val (.tuple #[(U x17.1),(I x17.2)]),.val (U x17.1),.val (I x17.2),.val (U x17.1),.val (I x17.2)] mixed r kz ?_ ?_
 ·
  refine fc r (fun fr1 g w' hb' hd r'=>xW r' xp rfl bz) ?_;refine fc r (fun fr1 g w' hb' hd r'=>az r' (b:=b1) (o:=0) rfl gY bz) ?_
  refine fc r (fun fr1 g w' hb' hd r'=>av r' (hd 1 rfl).1 ((hP.below (dr hb')).cell (i:=0) rfl) to3 rfl bz) ?_;refine fc r (fun fr1 g w' hb' hd r'=>cK r' (n:=a0.gen) (hd 2 rfl).1 ti3 ti34 bz) ?_
  refine fc r (fun fr1 g w' hb' hd r'=>az r' (b:=b1) (o:=0) rfl lK bz) ?_;refine fc r (fun fr1 g w' hb' hd r'=>av r' (hd 4 rfl).1 ((hP.below (dr hb')).cell (i:=0) rfl) to3 rfl bz) ?_
  refine fc r (fun fr1 g w' hb' hd r'=>cK r' (n:=a0.mode) (hd 5 rfl).1 ti3 ti34 bz) ?_;refine fc r (fun fr1 g w' hb' hd r'=>az r' (b:=b1) (o:=0) rfl ra bz) ?_
  refine fc r (fun fr1 g w' hb' hd r'=>av r' (hd 7 rfl).1 ((hP.below (dr hb')).cell (i:=0) rfl) to3 rfl bz) ?_;refine fc r (fun fr1 g w' hb' hd r'=>cK r' (n:=a0.kind) (hd 8 rfl).1 ti3 ti34 bz) ?_
  refine fc r (fun fr1 g w' hb' hd r'=>cI r' (c:=(([(V a0.gen),(V a0.mode),(V a0.kind)]).flatMap u64).toArray) (E:=34) (bs3 (congrArg (fun z=>(0,z)) (hd 3 rfl).1) (congrArg (fun z=>(1,z)) (hd 6 rfl).1) (congrArg (fun z=>(2,z)) (hd 9 rfl).1) kz) (fun b w2 n2=>⟨n2.below,MkP.newRow n2 (fun _=>rfl) rfl⟩)) ?_;refine fc r (fun fr1 g w' hb' hd r'=>aP r' (args:=[(.slice (some ⟨b9,0,none⟩) 3 3),(g 10).v]) (lc (hd 0 rfl).1 (lc rfl l0)) FC ((Bw _ ([x7.f0,x7.f1,x7.f2]) (RoAt.ofCell ((hP.below (dr hb')).cell (i:=1) rfl) rfl (List.cons_ne_nil _ _) rfl) ([(V a0.gen),(V a0.mode),(V a0.kind)]) (MkP.row (hd 10 rfl).1) hx17).mono yab)) ?_
  refine fc r (fun fr1 g w' hb' hd r'=>ay r' (hd 11 rfl).1 bz) ?_;refine fc r (fun fr1 g w' hb' hd r'=>bX r' (vs:=#[(U x17.1),(I x17.2)]) (hd 12 rfl).1 rfl bz) ?_
  refine fc r (fun fr1 g w' hb' hd r'=>bX r' (vs:=#[(U x17.1),(I x17.2)]) (hd 12 rfl).1 rfl bz) ?_;refine fc r (fun fr1 g w' hb' hd r'=>cF r' (hd 13 rfl).1 bz) ?_
  refine fc r (fun fr1 g w' hb' hd r'=>cF r' (hd 14 rfl).1 bz) ?_;exact bS
 intro fr gg w18 hb hΦ hap r;obtain ⟨v15,g10,hs10⟩:=(hΦ 10 rfl).1;have r:=r.congr (sc ((hΦ 16 rfl).1) (sc ((hΦ 15 rfl).1) (sc ((hΦ 14 rfl).1) (sc ((hΦ 13 rfl).1) (sc ((hΦ 12 rfl).1) (sc ((hΦ 11 rfl).1) (sc g10 (sc ((hΦ 9 rfl).1) (sc ((hΦ 8 rfl).1) (sc ((hΦ 7 rfl).1) (sc ((hΦ 6 rfl).1) (sc ((hΦ 5 rfl).1) (sc ((hΦ 4 rfl).1) (sc ((hΦ 3 rfl).1) (sc ((hΦ 2 rfl).1) (sc ((hΦ 1 rfl).1) (sc ((hΦ 0 rfl).1) rfl)))))))))))))))));have hP:Post No [_,_,rowK 34 1 u64 v15 ([(V a0.gen),(V a0.mode),(V a0.kind)])] w0 w18:=hP.addL (l:=[([rowK 34 1 u64 v15 ([(V a0.gen),(V a0.mode),(V a0.kind)])],(gg 10).lo,(gg 10).hi)]) hb ⟨hs10,(hΦ 10 rfl).2.1,dO,trivial⟩;refine wsr (kM (U x17.1) r rfl rfl fun r=>kA (U x17.1) r rfl rfl fun r=>wn (d9 ?_));have hv:x17.1=res:=Option.some.inj hD
 try dsimp only [Exit.then,Exit.inBlock]
 refine aU (fn:=Tryz.f137) r (t:=2) rfl (v:=(U x17.1)) rfl ?_;subst hv;exact ⟨rfl,hP.chg.below⟩
end Go.Proofs.YtbbipmelhmgmfaaGreat.St

/- Ours. -/
namespace Go.Proofs.YtbbipmelhmgmfaaGreat
open Go.RowKit
def fGen:Field:=⟨0,30⟩
def fMode:Field:=⟨30,2⟩
def fKind:Field:=⟨32,2⟩
theorem ui:St.D.lj 10 [fGen,fMode,fKind]=some true:=by decide +kernel
theorem uC (w:Int):St.D.iG 10 [fGen,fMode,fKind] w=bif (cG .u64 (cG .u64 (cG .u64 w (D.cw fGen)) (D.cw fMode)) (D.cw fKind) !=0) then some ([],10)
  else some ([D.bJ fGen w,D.bJ fMode w,D.bJ fKind w],0):=by
 unfold St.D.iG;rw [ui]
 rfl
theorem uW (a b c:Int):St.D.iL 10 [fGen,fMode,fKind] [a,b,c]=bif (decide (a > D.bT fGen)) then some (0,1) else bif (decide (b > D.bT fMode)) then some (0,1) else bif (decide (c > D.bT fKind)) then some (0,1)
  else some (D.cU fKind (D.cU fMode (D.cU fGen 0 a) b) c,0):=by
 unfold St.D.iL;rw [ui];have w1:IntKind.i64.wrap ((0:Int)+1)=1:=rfl;have w2:IntKind.i64.wrap ((1:Int)+1)=2:=rfl;have w3:IntKind.i64.wrap ((2:Int)+1)=3:=rfl;have g0:∀ {α:Type} (x y z:α),getI [x,y,z] 0=some x:=fun _ _ _=>rfl
 have g1:∀ {α:Type} (x y z:α),getI [x,y,z] 1=some y:=fun _ _ _=>rfl
 have g2:∀ {α:Type} (x y z:α),getI [x,y,z] 2=some z:=fun _ _ _=>rfl
 have l3:∀ {α:Type} (x y z:α),(([x,y,z]:List α).length:Int)=3:=fun _ _ _=>rfl
 cases h1:decide (a > D.bT fGen) <;> cases h2:decide (b > D.bT fMode) <;> cases h3:decide (c > D.bT fKind) <;>
  simp only [loopThen,runLoop,goOn,afterLoop,w1,w2,w3,g0,g1,g2,l3,h1,h2,h3,Option.bind_some,cond_true,cond_false,Bool.not_true,bne_self_eq_false,show decide ((0:Int)<3)=true from rfl,show decide ((1:Int)<3)=true from rfl,show decide ((2:Int)<3)=true from rfl,show decide ((3:Int)<3)=false from rfl]
def D.cn (s:State):Int:=(St.D.cn 10 s).getD 0
def D.aV (w:Int):State × Bool:=(St.D.aV 10 w).getD (⟨0,0,0⟩,false)
theorem Cw (s:State):∃ r,St.D.cn 10 s=some r:=by
 unfold St.D.cn;cases (!(D.db s))
 ·show ∃ r,(((St.D.iL 10 [fGen,fMode,fKind] [IntKind.u64.wrap s.gen,IntKind.u64.wrap s.mode,IntKind.u64.wrap s.kind]).bind (fun (x17:Int × Int)=>(some x17.1))))=some r
  rw [uW]
  generalize decide (IntKind.u64.wrap s.gen > D.bT fGen)=b1
  generalize decide (IntKind.u64.wrap s.mode > D.bT fMode)=b2
  generalize decide (IntKind.u64.wrap s.kind > D.bT fKind)=b3
  cases b1 <;> cases b2 <;> cases b3 <;> exact ⟨_,rfl⟩
 ·exact ⟨_,rfl⟩
theorem Dk (w:Int):∃ r,St.D.aV 10 w=some r:=by
 unfold St.D.aV;show ∃ r,(St.D.iG 10 [fGen,fMode,fKind] w).bind _=some r
 rw [uC]
 generalize (cG .u64 (cG .u64 (cG .u64 w (D.cw fGen)) (D.cw fMode)) (D.cw fKind) !=0)=b
 cases b
 ·show ∃ r,(bif (!(D.db (⟨(IntKind.i64.wrap (D.bJ fGen w)),(IntKind.i64.wrap (D.bJ fMode w)),(IntKind.i64.wrap (D.bJ fKind w))⟩:State))) then _ else _)=some r
  generalize (!(D.db (⟨(IntKind.i64.wrap (D.bJ fGen w)),(IntKind.i64.wrap (D.bJ fMode w)),(IntKind.i64.wrap (D.bJ fKind w))⟩:State)))=b
  cases b <;> exact ⟨_,rfl⟩
 ·exact ⟨_,rfl⟩
theorem ko (w0:World) (a0:State):Calls y6 137 #[u7 (aR a0)] w0 (bB (.int .u64 (D.cn a0)) w0):=by
 obtain ⟨r,hr⟩:=Cw a0;unfold D.cn;rw [hr];exact St.ko w0 a0 hr
theorem lu (w0:World) (a0:Int):Calls y6 111 #[.int .u64 a0] w0 (bB (.tuple #[(u7 (aR (D.aV a0).1)),(.bool (D.aV a0).2)]) w0):=by
 obtain ⟨r,hr⟩:=Dk a0;unfold D.aV;rw [hr];exact St.lu w0 a0 hr
end Go.Proofs.YtbbipmelhmgmfaaGreat

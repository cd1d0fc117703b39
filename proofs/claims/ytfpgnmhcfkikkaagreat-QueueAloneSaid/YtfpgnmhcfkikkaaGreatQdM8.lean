/- Some of our texts, one behind the other. -/
import Derived.Test.YtfpgnmhcfkikkaaGreatQdM7
set_option linter.all false
/- Ours. -/
set_option maxRecDepth 20000
set_option maxHeartbeats 2000000
namespace Go.Proofs.YtfpgnmhcfkikkaaGreat.St
open Go.RowKit
theorem uB:arrTy Tryz.prog 218 3 2:=by kernel_rfl
theorem vk:ak Tryz.prog 123:=by kernel_rfl
theorem uO:ak Tryz.prog 124:=by kernel_rfl
theorem DK:ak Tryz.prog 125:=by kernel_rfl
theorem km:ak Tryz.prog 134:=by kernel_rfl
theorem Dy:ak Tryz.prog 188:=by kernel_rfl
theorem vE:ak Tryz.prog 223:=by kernel_rfl
theorem mP:ak Tryz.prog 225:=by kernel_rfl
theorem mR:isSlice Tryz.prog 222:=by kernel_rfl
theorem is99:isSlice Tryz.prog 99:=by kernel_rfl
theorem rt99:rowTy Tryz.prog 99 40 1:=by kernel_rfl
theorem qc:sliceTy Tryz.prog 222 2:=by kernel_rfl
theorem sl99:sliceTy Tryz.prog 99 1:=by kernel_rfl
theorem Da:tyA Tryz.prog 218 6:=by kernel_rfl
theorem ti3:intTy Tryz.prog 3 .i64:=by kernel_rfl
theorem ti40:intTy Tryz.prog 40 .u64:=by kernel_rfl
theorem to40:tyO Tryz.prog 40:=by kernel_rfl
theorem iR:sized Tryz.prog 217 2:=by kernel_rfl
theorem qf:sized Tryz.prog 218 6:=by kernel_rfl
theorem iQ:zeroOf Tryz.prog 217=some (.agg (aC (⟨0,0⟩:Field)).toArray):=by kernel_rfl
theorem qm:zeroOf Tryz.prog 218=some (.agg (cn (⟨(⟨0,0⟩:Field),(⟨0,0⟩:Field),(⟨0,0⟩:Field)⟩:Arr3F)).toArray):=by kernel_rfl
def D.lD (fu:Nat) :Option (Arr3F):=(some (⟨(⟨0,30⟩:Field),(⟨30,2⟩:Field),(⟨32,2⟩:Field)⟩:Arr3F))
set_option maxRecDepth 20000 in
set_option maxHeartbeats 20000000 in
theorem rr {fu:Nat} (w0:World) {res:Arr3F} (hD:D.lD fu =some res) :
    Calls Tryz.prog 124 #[] w0 (bi (.agg (cn res).toArray) w0):=by
 refine enter Tryz.func124 rfl 5 rfl rfl fun fr r=>?_;have hP:Post No [] w0 w0:=Post.nil w0
 unfold D.lD at hD
 refine wsr ?_;refine ar (.cells ((cn (⟨(⟨0,0⟩:Field),(⟨0,0⟩:Field),(⟨0,0⟩:Field)⟩:Arr3F))).toArray 218 (0,0)) r (fun R=>aq qm) rfl fun fr b1 w2 n3 r=>?_;have hP:Post No [ac b1 ((cn (⟨(⟨0,0⟩:Field),(⟨0,0⟩:Field),(⟨0,0⟩:Field)⟩:Arr3F))).toArray 218] w0 w2:=hP.new n3
 refine wn (wsr (kU (.agg (aC (⟨0,30⟩:Field)).toArray) r (by kernel_rfl) rfl fun r=>kU (.agg (aC (⟨30,2⟩:Field)).toArray) r (by kernel_rfl) rfl fun r=>kU (.agg (aC (⟨32,2⟩:Field)).toArray) r (by kernel_rfl) rfl fun r=>kU (.agg (cn (⟨(⟨0,30⟩:Field),(⟨30,2⟩:Field),(⟨32,2⟩:Field)⟩:Arr3F)).toArray) r (by kernel_rfl) rfl fun r=>?_));refine aM (.cells ((cn (⟨(⟨0,30⟩:Field),(⟨30,2⟩:Field),(⟨32,2⟩:Field)⟩:Arr3F))).toArray 218 (0,0)) r (fun R=>aX r (o:=0) (v:=(.agg (cn (⟨(⟨0,30⟩:Field),(⟨30,2⟩:Field),(⟨32,2⟩:Field)⟩:Arr3F)).toArray)) rfl rfl (hP.cell (i:=0) rfl) qf (Nat.le_of_ble_eq_true rfl) rfl rfl) rfl fun fr w5 u6 r=>?_
 have hP:Post No [ac b1 ((cn (⟨(⟨0,30⟩:Field),(⟨30,2⟩:Field),(⟨32,2⟩:Field)⟩:Arr3F))).toArray 218] w0 w5:=hP.upd (i:=0) rfl u6;refine wn (wp_ret ?_);have hv:(⟨(⟨0,30⟩:Field),(⟨30,2⟩:Field),(⟨32,2⟩:Field)⟩:Arr3F)=res:=Option.some.inj hD
 try dsimp only [Exit.then,Exit.inBlock]
 refine aH r rfl rfl (hP.cell (i:=0) rfl) (k:=6) rfl Da ?_;subst hv;exact ⟨rfl,hP.chg.below⟩
def D.jp (fu:Nat) (a0:List Field):Option (Bool):=(loopThen (fun (x1:Bool × Int × Int)=>(bif (decide (x1.2.2<(a0.length:Int))) then ((getI a0 x1.2.2).bind (fun (x6:Field)=>(Option.bind (bif (!(D.bI x6)) then (some true) else (some ((cG .u64 x1.2.1 (D.bU x6)) !=0))) (fun (x17:Bool)=>(bif x17 then (some (Lp.ret false)) else (some (Lp.next (x1.1,(dT .u64 x1.2.1 (D.bU x6)),(IntKind.i64.wrap (x1.2.2+1)))))))))) else (some (Lp.brk (x1.1,x1.2.1,x1.2.2))))) fu (false,0,0) (fun (x22:Bool × Int × Int)=>(some true)))
set_option maxRecDepth 20000 in
set_option maxHeartbeats 20000000 in
theorem rz {fu:Nat} (w0:World) {a0v:Value} (a0:List Field) (a0h:RoAt 217 2 aC a0v a0 w0) {res:Bool} (hD:D.jp fu a0=some res) :
    Calls Tryz.prog 223 #[a0v] w0 (bi (.bool res) w0):=by
 refine enter Tryz.func223 rfl 27 rfl rfl fun fr r=>?_;have hP:Post No [] w0 w0:=Post.nil w0
 have hP:Post No [roK 217 2 aC a0v a0] w0 w0:=hP.addRo bm a0h rfl a0h.lt;unfold D.jp at hD
 refine wsr (kA (.bool false) r rfl rfl fun r=>wn (wsr (kA (U 0) r rfl rfl fun r=>wn (wp_seq (wsr (kM a0v r rfl rfl fun r=>ae (I (a0.length:Int)) r (fun R=>cu r (hP.ro (i:=0) rfl) mR rfl) rfl fun fr r=>kM (I 0) r rfl rfl fun r=>wn ?_))))));refine dA (X:=Bool × Int × Int) (G:=Unit) (x0:=(false,0,0)) (fun x γ=>[(0,a0v),(6,a0v),(7,(I (a0.length:Int))),(2,(.bool x.1)),(3,(U x.2.1)),(8,(I x.2.2))]) (fun x γ w=>Post No [roK 217 2 aC a0v a0] w0 w) () r (aa rfl (aa rfl (aa rfl (aa rfl (aa rfl (aa rfl aN)))))) hP hD ?_ ?_
 ·
  rintro x1 γ2 fr w4 g y3 RPy3 nxy3 bky3 rty3 r hP hD;have hP:Post No [roK 217 2 aC a0v a0] w0 w4:=hP;refine wsr (kB r rfl rfl rfl rfl rfl fun r=>wn (wp_seq ?_));refine wp_cond_split (t:=(decide (x1.2.2<(a0.length:Int)))) (r.ev rfl) (fun h5=>?_) (fun h5=>?_)
  ·
   have hD:=(ay h5).symm.trans hD;refine wp_skip (wp_seq (wp_block (wsr ?_)));obtain ⟨x6,hx6,hD⟩:=aK hD;refine ae (.pointer (some ⟨rowB a0v,rowO a0v+x1.2.2.toNat * 2,none⟩)) r (fun R=>cf r (hP.ro (i:=0) rfl) hx6 qc rfl rfl) rfl fun fr r=>ae (.agg (aC x6).toArray) r (fun R=>om r (cs:=(aC x6)) (RoAt.at_ (f:=aC) (x:=x6) (hP.ro (i:=0) rfl) (fun _=>rfl) hx6) rfl cI) rfl fun fr r=>?_;refine ar (.cells ((aC (⟨0,0⟩:Field))).toArray 217 (0,0)) r (fun R=>aq iQ) rfl fun fr b7 w8 n9 r=>?_
   have hP:Post No [roK 217 2 aC a0v a0,ac b7 ((aC (⟨0,0⟩:Field))).toArray 217] w0 w8:=hP.new n9;refine aM (.cells ((aC x6)).toArray 217 (0,0)) r (fun R=>aX r (o:=0) (v:=(.agg (aC x6).toArray)) rfl rfl (hP.cell (i:=1) rfl) iR (Nat.le_of_ble_eq_true rfl) rfl rfl) rfl fun fr w11 u12 r=>?_;have hP:Post No [roK 217 2 aC a0v a0,ac b7 ((aC x6)).toArray 217] w0 w11:=hP.upd (i:=1) rfl u12
   refine wn (wp_seq (wp_seq ?_));refine cA (N:=27) (Y:=Bool) (G:=Unit) (fun x γ=>[(0,a0v),(6,a0v),(7,(I (a0.length:Int))),(2,(.bool x1.1)),(3,(U x1.2.1)),(8,(I x1.2.2)),(9,(.bool (decide (x1.2.2<(a0.length:Int))))),(5,(zp b7)),(21,(.bool x))]) (fun x γ w=>Post No [roK 217 2 aC a0v a0,ac b7 ((aC x6)).toArray 217] w0 w) hD ?_ ?_
   ·
    rintro y13 RPy13 nxy13 hD;refine wp_region_lit (kG (aC x6) 2 r rfl (hP.cell (i:=1) rfl) cI rfl rfl fun r=>?_);refine kE r (j3 w11 x6) rfl kh rfl fun w14 hb r=>?_
    have hP:Post No [roK 217 2 aC a0v a0,ac b7 ((aC x6)).toArray 217] w0 w14:=hP.below hb;refine ae (.bool (!(D.bI x6))) r (fun R=>y_un r (u:=(.bool (D.bI x6))) rfl rfl) rfl fun fr r=>kM (.bool (!(D.bI x6))) r rfl rfl fun r=>?_;refine br (!(D.bI x6)) (fun h15=>?_) (fun h15=>?_)
    ·
     have hD:=(ay h15).symm.trans hD;refine s0 r h15 fun fr r=>s0 r h15 fun fr r=>s0 r h15 fun fr r=>s0 r h15 fun fr r=>s0 r h15 fun fr r=>ae (.bool true) r (fun R=>az r (b:=true) (congrArg Value.bool h15) rfl) rfl fun fr r=>wn ?_;exact nxy13 true () _ _ _ hD r (aa rfl (aa rfl (aa rfl (aa rfl (aa rfl (aa rfl (aa rfl (aa rfl (aa rfl aN))))))))) (hP.pick [0,1] rfl rfl)
    have hD:=(aw h15).symm.trans hD;refine s1 r h15 (kM (U x1.2.1) r rfl rfl fun r=>s1 r h15 (kG (aC x6) 2 r rfl (hP.cell (i:=1) rfl) cI rfl rfl fun r=>s1 r h15 ?_));refine kE r (kT w14 x6) rfl mA rfl fun w16 hb r=>?_
    have hP:Post No [roK 217 2 aC a0v a0,ac b7 ((aC x6)).toArray 217] w0 w16:=hP.below hb;refine s1 r h15 (kB r rfl rfl rfl rfl rfl fun r=>s1 r h15 (kB r rfl rfl rfl rfl rfl fun r=>ae (.bool ((cG .u64 x1.2.1 (D.bU x6)) !=0)) r (fun R=>az r (b:=false) (congrArg Value.bool h15) rfl) rfl fun fr r=>wn ?_));exact nxy13 ((cG .u64 x1.2.1 (D.bU x6)) !=0) () _ _ _ hD r (aa rfl (aa rfl (aa rfl (aa rfl (aa rfl (aa rfl (aa rfl (aa rfl (aa rfl aN))))))))) (hP.pick [0,1] rfl rfl)
   rintro x17 γ18 fr w19 g r hP hD;have hP:Post No [roK 217 2 aC a0v a0,ac b7 ((aC x6)).toArray 217] w0 w19:=hP;refine wp_cond_split (t:=x17) (r.ev rfl) (fun h20=>?_) (fun h20=>?_)
   ·
    have hD:=(ay h20).symm.trans hD;refine wsr (kA (.bool false) r rfl rfl fun r=>wn (wp_ret ?_));refine rty3 false _ _ hD fun hD=>?_
    have hv:false=res:=Option.some.inj hD
    try dsimp only [Exit.then,Exit.inBlock]
    refine aQ (fn:=Tryz.f223) r (t:=2) rfl (v:=(.bool false)) rfl ?_;subst hv;exact ⟨rfl,hP.chg.below⟩
   have hD:=(aw h20).symm.trans hD;refine wp_skip ?_;refine wp_region_lit (kM (U x1.2.1) r rfl rfl fun r=>kG (aC x6) 2 r rfl (hP.cell (i:=1) rfl) cI rfl rfl fun r=>?_);refine kE r (kT w19 x6) rfl mA rfl fun w21 hb r=>?_
   have hP:Post No [roK 217 2 aC a0v a0,ac b7 ((aC x6)).toArray 217] w0 w21:=hP.below hb;refine kB r rfl rfl rfl rfl rfl fun r=>kA (U (dT .u64 x1.2.1 (D.bU x6))) r rfl rfl fun r=>wn ?_;refine wp_region_lit (kB r rfl rfl rfl rfl rfl fun r=>kM (I (W (x1.2.2+1))) r rfl rfl fun r=>wn ?_)
   exact nxy3 (x1.1,(dT .u64 x1.2.1 (D.bU x6)),(W (x1.2.2+1))) () _ _ _ hD r (aa rfl (aa rfl (aa rfl (aa rfl (aa rfl (aa rfl aN)))))) (hP.pick [0] rfl rfl)
  have hD:=(aw h5).symm.trans hD;refine wp_exit ?_;exact bky3 (x1.1,x1.2.1,x1.2.2) () _ _ _ hD r (aa rfl (aa rfl (aa rfl (aa rfl (aa rfl (aa rfl aN)))))) (hP.pick [0] rfl rfl)
 rintro x22 γ23 fr w24 g r hP hD;have hP:Post No [roK 217 2 aC a0v a0] w0 w24:=hP;refine wsr (kA (.bool true) r rfl rfl fun r=>wn (wp_ret ?_));have hv:true=res:=Option.some.inj hD
 try dsimp only [Exit.then,Exit.inBlock]
 refine aQ (fn:=Tryz.f223) r (t:=2) rfl (v:=(.bool true)) rfl ?_;subst hv;exact ⟨rfl,hP.chg.below⟩
def D.gz (fu:Nat) (a0:List Field) (a1:List Int):Option (Int × Int):=(Option.bind ((D.jp fu a0).bind (fun (x2:Bool)=>(bif (!x2) then (some true) else (some ((a0.length:Int) !=(a1.length:Int)))))) (fun (x5:Bool)=>(bif x5 then (some (0,1)) else (loopThen (fun (x9:Int × Int × Int × Int)=>(bif (decide (x9.2.2.2<(a0.length:Int))) then ((getI a0 x9.2.2.2).bind (fun (x14:Field)=>((getI a1 x9.2.2.2).bind (fun (x21:Int)=>(bif (decide (x21 > (D.bH x14))) then (some (Lp.ret (0,1))) else ((getI a1 x9.2.2.2).bind (fun (x24:Int)=>(some (Lp.next (x9.1,x9.2.1,(D.co x14 x9.2.2.1 x24),(IntKind.i64.wrap (x9.2.2.2+1)))))))))))) else (some (Lp.brk (x9.1,x9.2.1,x9.2.2.1,x9.2.2.2))))) fu (0,0,0,0) (fun (x26:Int × Int × Int × Int)=>(some (x26.2.2.1,0)))))))
set_option maxRecDepth 20000 in
set_option maxHeartbeats 20000000 in
theorem yV {fu:Nat} (w0:World) {a0v:Value} (a0:List Field) (a0h:RoAt 217 2 aC a0v a0 w0) {a1v:Value} (a1:List Int) (a1h:RoAt 40 1 u64 a1v a1 w0) {res:Int × Int} (hD:D.gz fu a0 a1=some res) :
    Calls Tryz.prog 125 #[a0v,a1v] w0 (bi (.tuple #[(.int .u64 res.1),(.int .i64 res.2)]) w0):=by
 refine enter Tryz.func125 rfl 42 rfl rfl fun fr r=>?_;have hP:Post No [] w0 w0:=Post.nil w0
 have hP:Post No [roK 217 2 aC a0v a0] w0 w0:=hP.addRo bm a0h rfl a0h.lt;have hP:Post No [roK 217 2 aC a0v a0,roK 40 1 u64 a1v a1] w0 w0:=hP.addRo (aL rfl bm) a1h rfl a1h.lt;unfold D.gz at hD
 refine wsr (kA (U 0) r rfl rfl fun r=>kA (I 0) r rfl rfl fun r=>wn (wp_seq (wp_seq ?_)));refine cA (N:=42) (Y:=Bool) (G:=Unit) (fun x γ=>[(0,a0v),(1,a1v),(4,(U 0)),(5,(I 0)),(18,(.bool x))]) (fun x γ w=>Post No [roK 217 2 aC a0v a0,roK 40 1 u64 a1v a1] w0 w) hD ?_ ?_
 ·
  rintro y1 RPy1 nxy1 hD;refine wp_region_lit (kM a0v r rfl rfl fun r=>?_);obtain ⟨x2,hx2,hD⟩:=aK hD
  refine kE r (rz w0 a0 (hP.ro (i:=0) rfl) hx2) rfl vE rfl fun w3 hb r=>?_;have hP:Post No [roK 217 2 aC a0v a0,roK 40 1 u64 a1v a1] w0 w3:=hP.below hb
  refine ae (.bool (!x2)) r (fun R=>y_un r (u:=(.bool x2)) rfl rfl) rfl fun fr r=>kM (.bool (!x2)) r rfl rfl fun r=>?_;refine br (!x2) (fun h4=>?_) (fun h4=>?_)
  ·
   have hD:=(ay h4).symm.trans hD;refine s0 r h4 fun fr r=>s0 r h4 fun fr r=>s0 r h4 fun fr r=>s0 r h4 fun fr r=>s0 r h4 fun fr r=>ae (.bool true) r (fun R=>az r (b:=true) (congrArg Value.bool h4) rfl) rfl fun fr r=>wn ?_;exact nxy1 true () _ _ _ hD r (aa rfl (aa rfl (aa rfl (aa rfl (aa rfl aN))))) (hP.pick [0,1] rfl rfl)
  have hD:=(aw h4).symm.trans hD;refine s1 r h4 (kM a0v r rfl rfl fun r=>s1 r h4 (ae (I (a0.length:Int)) r (fun R=>cu r (hP.ro (i:=0) rfl) mR rfl) rfl fun fr r=>s1 r h4 (kM a1v r rfl rfl fun r=>s1 r h4 (ae (I (a1.length:Int)) r (fun R=>cu r (hP.ro (i:=1) rfl) is99 rfl) rfl fun fr r=>s1 r h4 (kB r rfl rfl rfl rfl rfl fun r=>ae (.bool ((a0.length:Int) !=(a1.length:Int))) r (fun R=>az r (b:=false) (congrArg Value.bool h4) rfl) rfl fun fr r=>wn ?_)))));exact nxy1 ((a0.length:Int) !=(a1.length:Int)) () _ _ _ hD r (aa rfl (aa rfl (aa rfl (aa rfl (aa rfl aN))))) (hP.pick [0,1] rfl rfl)
 rintro x5 γ6 fr w7 g r hP hD;have hP:Post No [roK 217 2 aC a0v a0,roK 40 1 u64 a1v a1] w0 w7:=hP;refine wp_cond_split (t:=x5) (r.ev rfl) (fun h8=>?_) (fun h8=>?_)
 ·
  have hD:=(ay h8).symm.trans hD;refine wsr (kA (U 0) r rfl rfl fun r=>kA (I 1) r rfl rfl fun r=>wn (wp_ret ?_));have hv:(0,1)=res:=Option.some.inj hD
  try dsimp only [Exit.then,Exit.inBlock]
  refine ep (fn:=Tryz.f125) r (t:=4) (t':=5) rfl (v:=(U 0)) (v':=(I 1)) rfl rfl ?_;subst hv;exact ⟨rfl,hP.chg.below⟩
 have hD:=(aw h8).symm.trans hD;refine wp_skip (wsr (kA (U 0) r rfl rfl fun r=>wn (wp_seq (wsr (kM a0v r rfl rfl fun r=>ae (I (a0.length:Int)) r (fun R=>cu r (hP.ro (i:=0) rfl) mR rfl) rfl fun fr r=>kM (I 0) r rfl rfl fun r=>wn ?_)))));refine dA (X:=Int × Int × Int × Int) (G:=Unit) (x0:=(0,0,0,0)) (fun x γ=>[(0,a0v),(1,a1v),(18,(.bool x5)),(19,a0v),(20,(I (a0.length:Int))),(4,(U x.1)),(5,(I x.2.1)),(6,(U x.2.2.1)),(21,(I x.2.2.2))]) (fun x γ w=>Post No [roK 217 2 aC a0v a0,roK 40 1 u64 a1v a1] w0 w) () r (aa rfl (aa rfl (aa rfl (aa rfl (aa rfl (aa rfl (aa rfl (aa rfl (aa rfl aN))))))))) hP hD ?_ ?_
 ·
  rintro x9 γ10 fr w12 g y11 RPy11 nxy11 bky11 rty11 r hP hD;have hP:Post No [roK 217 2 aC a0v a0,roK 40 1 u64 a1v a1] w0 w12:=hP;refine wsr (kB r rfl rfl rfl rfl rfl fun r=>wn (wp_seq ?_));refine wp_cond_split (t:=(decide (x9.2.2.2<(a0.length:Int)))) (r.ev rfl) (fun h13=>?_) (fun h13=>?_)
  ·
   have hD:=(ay h13).symm.trans hD;refine wp_skip (wp_seq (wp_block (wsr (kM (I x9.2.2.2) r rfl rfl fun r=>?_))));obtain ⟨x14,hx14,hD⟩:=aK hD
   refine ae (.pointer (some ⟨rowB a0v,rowO a0v+x9.2.2.2.toNat * 2,none⟩)) r (fun R=>cf r (hP.ro (i:=0) rfl) hx14 qc rfl rfl) rfl fun fr r=>ae (.agg (aC x14).toArray) r (fun R=>om r (cs:=(aC x14)) (RoAt.at_ (f:=aC) (x:=x14) (hP.ro (i:=0) rfl) (fun _=>rfl) hx14) rfl cI) rfl fun fr r=>?_;refine ar (.cells ((aC (⟨0,0⟩:Field))).toArray 217 (0,0)) r (fun R=>aq iQ) rfl fun fr b15 w16 n17 r=>?_
   have hP:Post No [roK 217 2 aC a0v a0,roK 40 1 u64 a1v a1,ac b15 ((aC (⟨0,0⟩:Field))).toArray 217] w0 w16:=hP.new n17;refine kA (I x9.2.2.2) r rfl rfl fun r=>?_;refine aM (.cells ((aC x14)).toArray 217 (0,0)) r (fun R=>aX r (o:=0) (v:=(.agg (aC x14).toArray)) rfl rfl (hP.cell (i:=2) rfl) iR (Nat.le_of_ble_eq_true rfl) rfl rfl) rfl fun fr w19 u20 r=>?_
   have hP:Post No [roK 217 2 aC a0v a0,roK 40 1 u64 a1v a1,ac b15 ((aC x14)).toArray 217] w0 w19:=hP.upd (i:=2) rfl u20;refine wn (wp_seq (wp_seq ?_));obtain ⟨x21,hx21,hD⟩:=aK hD;refine cY [.val a1v,.val (I x9.2.2.2),.val (.pointer (some ⟨rowB a1v,rowO a1v+x9.2.2.2.toNat * 1,none⟩)),.val (U x21),.val (.agg (aC x14).toArray),.val (U (D.bH x14)),.val (.bool (decide (x21 > (D.bH x14))))] mixed r (by kernel_rfl) ?_ ?_
   ·
    refine fc r (fun fr1 g w' hb' hd r'=>aD r' rfl bz) ?_;refine fc r (fun fr1 g w' hb' hd r'=>aD r' rfl bz) ?_
    refine fc r (fun fr1 g w' hb' hd r'=>cf r' ((hP.below (dr hb')).ro (i:=1) rfl) hx21 sl99 (hd 0 rfl).1 (hd 1 rfl).1 bz) ?_;refine fc r (fun fr1 g w' hb' hd r'=>cz r' (u:=(U x21)) (RoAt.at_ (f:=u64) (x:=x21) ((hP.below (dr hb')).ro (i:=1) rfl) (fun _=>rfl) hx21) (hd 2 rfl).1 to40 bz) ?_
    refine fc r (fun fr1 g w' hb' hd r'=>aU r' (cs:=(aC x14)) (n:=2) rfl ((hP.below (dr hb')).cell (i:=2) rfl) cI rfl bz) ?_;refine fc r (fun fr1 g w' hb' hd r'=>aP r' (args:=[(.agg (aC x14).toArray)]) (lc (hd 4 rfl).1 l0) mQ ((kQ _ x14).mono (by rintro _ w2 ⟨rfl,hb2⟩; exact ⟨_,rfl,hb2,rfl⟩))) ?_
    refine fc r (fun fr1 g w' hb' hd r'=>aY r' (hd 3 rfl).1 (hd 5 rfl).1 rfl rfl bz) ?_;exact ck
   intro fr gg w22 hb hΦ hap r;have r:=r.congr (sc ((hΦ 6 rfl).1) (sc ((hΦ 5 rfl).1) (sc ((hΦ 4 rfl).1) (sc ((hΦ 3 rfl).1) (sc ((hΦ 2 rfl).1) (sc ((hΦ 1 rfl).1) (sc ((hΦ 0 rfl).1) rfl)))))));have hP:Post No [roK 217 2 aC a0v a0,roK 40 1 u64 a1v a1,ac b15 ((aC x14)).toArray 217] w0 w22:=hP.below hb;refine wp_cond_split (t:=(decide (x21 > (D.bH x14)))) (r.ev rfl) (fun h23=>?_) (fun h23=>?_)
   ·
    have hD:=(ay h23).symm.trans hD;refine wsr (kA (U 0) r rfl rfl fun r=>kA (I 1) r rfl rfl fun r=>wn (wp_ret ?_));refine rty11 (0,1) _ _ hD fun hD=>?_
    have hv:(0,1)=res:=Option.some.inj hD
    try dsimp only [Exit.then,Exit.inBlock]
    refine ep (fn:=Tryz.f125) r (t:=4) (t':=5) rfl (v:=(U 0)) (v':=(I 1)) rfl rfl ?_;subst hv;exact ⟨rfl,hP.chg.below⟩
   have hD:=(aw h23).symm.trans hD;refine wp_skip ?_;obtain ⟨x24,hx24,hD⟩:=aK hD;refine bw 7 [.val (.agg (aC x14).toArray),.val (U x9.2.2.1),.val a1v,.val (I x9.2.2.2),.val (.pointer (some ⟨rowB a1v,rowO a1v+x9.2.2.2.toNat * 1,none⟩)),.val (U x24),.val (U (D.co x14 x9.2.2.1 x24))] mixed r (by kernel_rfl) (ag (by exact trivial) (ag (by exact trivial) (ag (by exact trivial) (ag (by exact trivial) (ag (by exact trivial) (ag (by exact trivial) (ag (by exact trivial) bv))))))) ?_ ?_
   ·
    refine ec r (fun _ u _ b d s=>aU s (cs:=(aC x14)) (n:=2) rfl ((hP.below (dr b)).cell (i:=2) rfl) cI rfl bz) (ec r (fun _ u _ b d s=>aD s rfl bz) (ec r (fun _ u _ b d s=>aD s rfl bz) (ec r (fun _ u _ b d s=>aD s rfl bz) (ec r (fun _ u _ b d s=>cf s ((hP.below (dr b)).ro (i:=1) rfl) hx24 sl99 d.1 d.2.1 bz) (ec r (fun fr1 u w' hb' hd r'=>cz r' (u:=(U x24)) (RoAt.at_ (f:=u64) (x:=x24) ((hP.below (dr hb')).ro (i:=1) rfl) (fun _=>rfl) hx24) hd.1 to40 bz) (ec r (fun fr1 u w' hb' hd r'=>aP r' (args:=[(.agg (aC x14).toArray),(U x9.2.2.1),(U x24)]) (lc hd.1 (lc hd.2.1 (lc hd.2.2.1 l0))) mP ((nD _ x14 x9.2.2.1 x24).mono (by rintro _ w2 ⟨rfl,hb2⟩; exact ⟨_,rfl,hb2,rfl⟩))) ?_))))));exact bA
   intro fr u w25 hb hΦ hne r;have r:=r.congr (sc (hΦ 6 (by decide)) (sc (hΦ 5 (by decide)) (sc (hΦ 4 (by decide)) (sc (hΦ 3 (by decide)) (sc (hΦ 2 (by decide)) (sc (hΦ 1 (by decide)) (sc (hΦ 0 (by decide)) rfl)))))));have hP:Post No [roK 217 2 aC a0v a0,roK 40 1 u64 a1v a1,ac b15 ((aC x14)).toArray 217] w0 w25:=hP.below hb;refine kA (U (D.co x14 x9.2.2.1 x24)) r rfl rfl fun r=>wn ?_;refine wp_region_lit (kB r rfl rfl rfl rfl rfl fun r=>kM (I (W (x9.2.2.2+1))) r rfl rfl fun r=>wn ?_)
   exact nxy11 (x9.1,x9.2.1,(D.co x14 x9.2.2.1 x24),(W (x9.2.2.2+1))) () _ _ _ hD r (aa rfl (aa rfl (aa rfl (aa rfl (aa rfl (aa rfl (aa rfl (aa rfl (aa rfl aN))))))))) (hP.pick [0,1] rfl rfl)
  have hD:=(aw h13).symm.trans hD;refine wp_exit ?_;exact bky11 (x9.1,x9.2.1,x9.2.2.1,x9.2.2.2) () _ _ _ hD r (aa rfl (aa rfl (aa rfl (aa rfl (aa rfl (aa rfl (aa rfl (aa rfl (aa rfl aN))))))))) (hP.pick [0,1] rfl rfl)
 rintro x26 γ27 fr w28 g r hP hD;have hP:Post No [roK 217 2 aC a0v a0,roK 40 1 u64 a1v a1] w0 w28:=hP;refine wsr (kM (U x26.2.2.1) r rfl rfl fun r=>kA (U x26.2.2.1) r rfl rfl fun r=>kA (I 0) r rfl rfl fun r=>wn (wp_ret ?_));have hv:(x26.2.2.1,0)=res:=Option.some.inj hD
 try dsimp only [Exit.then,Exit.inBlock]
 refine ep (fn:=Tryz.f125) r (t:=4) (t':=5) rfl (v:=(U x26.2.2.1)) (v':=(I 0)) rfl rfl ?_;subst hv;exact ⟨rfl,hP.chg.below⟩
def D.bR (fu:Nat) (a0:State):Option (Int):=(bif (!(D.cC a0)) then (some 0) else ((D.lD fu ).bind (fun (x7:Arr3F)=>((D.gz fu ([x7.f0,x7.f1,x7.f2]) ([(IntKind.u64.wrap a0.gen),(IntKind.u64.wrap a0.mode),(IntKind.u64.wrap a0.kind)])).bind (fun (x17:Int × Int)=>(some x17.1))))))
set_option maxRecDepth 20000 in
set_option maxHeartbeats 20000000 in
theorem j5 {fu:Nat} (w0:World) (a0:State) {res:Int} (hD:D.bR fu a0=some res) :
    Calls Tryz.prog 32 #[.agg (aI a0).toArray] w0 (bi (.int .u64 res) w0):=by
 refine enter Tryz.func32 rfl 26 rfl rfl fun fr r=>?_;have hP:Post No [] w0 w0:=Post.nil w0
 unfold D.bR at hD
 refine wsr ?_;refine kX 55 (.agg (aI a0).toArray) r rfl rfl fun b1 w2 n3 r=>?_;have hP:Post No [ac b1 ((aI a0)).toArray 55] w0 w2:=hP.new n3
 refine kA (U 0) r rfl rfl fun r=>wn (wp_seq (wsr (kG (aI a0) 3 r rfl (hP.cell (i:=0) rfl) ta55 rfl rfl fun r=>?_)));refine kE r (qI w2 a0) rfl vk rfl fun w5 hb r=>?_
 have hP:Post No [ac b1 ((aI a0)).toArray 55] w0 w5:=hP.below hb;refine ae (.bool (!(D.cC a0))) r (fun R=>y_un r (u:=(.bool (D.cC a0))) rfl rfl) rfl fun fr r=>wn ?_;refine wp_cond_split (t:=(!(D.cC a0))) (r.ev rfl) (fun h6=>?_) (fun h6=>?_)
 ·
  have hD:=(ay h6).symm.trans hD;refine wsr (kA (U 0) r rfl rfl fun r=>wn (wp_ret ?_));have hv:0=res:=Option.some.inj hD
  try dsimp only [Exit.then,Exit.inBlock]
  refine aQ (fn:=Tryz.f32) r (t:=2) rfl (v:=(U 0)) rfl ?_;subst hv;exact ⟨rfl,hP.chg.below⟩
 have hD:=(aw h6).symm.trans hD;refine wp_skip (wsr ?_);obtain ⟨x7,hx7,hD⟩:=aK hD;refine kE r (rr w5  hx7) rfl uO rfl fun w8 hb r=>?_;have hP:Post No [ac b1 ((aI a0)).toArray 55] w0 w8:=hP.below hb
 refine ar (.cells ((cn (⟨(⟨0,0⟩:Field),(⟨0,0⟩:Field),(⟨0,0⟩:Field)⟩:Arr3F))).toArray 218 (0,0)) r (fun R=>aq qm) rfl fun fr b9 w10 n11 r=>?_;have hP:Post No [ac b1 ((aI a0)).toArray 55,ac b9 ((cn (⟨(⟨0,0⟩:Field),(⟨0,0⟩:Field),(⟨0,0⟩:Field)⟩:Arr3F))).toArray 218] w0 w10:=hP.new n11
 refine aM (.cells ((cn x7)).toArray 218 (0,0)) r (fun R=>aX r (o:=0) (v:=(.agg (cn x7).toArray)) rfl rfl (hP.cell (i:=1) rfl) qf (Nat.le_of_ble_eq_true rfl) rfl rfl) rfl fun fr w13 u14 r=>?_;have hP:Post No [ac b1 ((aI a0)).toArray 55,ac b9 ((cn x7)).toArray 218] w0 w13:=hP.upd (i:=1) rfl u14
 refine wn (wp_seq ?_);obtain ⟨x17,hx17,hD⟩:=aK hD;refine cY [.val (.slice (some ⟨b9,0,none⟩) 3 3),.val (zp b1),.val (I a0.gen),.val (U (V a0.gen)),.val (.pointer (some ⟨b1,1,none⟩)),.val (I a0.mode),.val (U (V a0.mode)),.val (.pointer (some ⟨b1,2,none⟩)),.val (I a0.kind),.val (U (V a0.kind)),.pred (MkP (fun v:Value=>v) (fun v:Value=>[rowK 40 1 u64 v ([(V a0.gen),(V a0.mode),(V a0.kind)])])) (MkP.st _ _),.val (.tuple #[(U x17.1),(I x17.2)]),.val (.tuple #[(U x17.1),(I x17.2)]),.val (U x17.1),.val (I x17.2),.val (U x17.1),.val (I x17.2)] mixed r (by kernel_rfl) ?_ ?_
 ·
  refine fc r (fun fr1 g w' hb' hd r'=>uX r' uB rfl bz) ?_;refine fc r (fun fr1 g w' hb' hd r'=>aG r' (b:=b1) (o:=0) rfl fO bz) ?_
  refine fc r (fun fr1 g w' hb' hd r'=>aB r' (hd 1 rfl).1 ((hP.below (dr hb')).cell (i:=0) rfl) to3 rfl bz) ?_;refine fc r (fun fr1 g w' hb' hd r'=>cr r' (n:=a0.gen) (hd 2 rfl).1 ti3 ti40 bz) ?_
  refine fc r (fun fr1 g w' hb' hd r'=>aG r' (b:=b1) (o:=0) rfl jR bz) ?_;refine fc r (fun fr1 g w' hb' hd r'=>aB r' (hd 4 rfl).1 ((hP.below (dr hb')).cell (i:=0) rfl) to3 rfl bz) ?_
  refine fc r (fun fr1 g w' hb' hd r'=>cr r' (n:=a0.mode) (hd 5 rfl).1 ti3 ti40 bz) ?_;refine fc r (fun fr1 g w' hb' hd r'=>aG r' (b:=b1) (o:=0) rfl pG bz) ?_
  refine fc r (fun fr1 g w' hb' hd r'=>aB r' (hd 7 rfl).1 ((hP.below (dr hb')).cell (i:=0) rfl) to3 rfl bz) ?_;refine fc r (fun fr1 g w' hb' hd r'=>cr r' (n:=a0.kind) (hd 8 rfl).1 ti3 ti40 bz) ?_
  refine fc r (fun fr1 g w' hb' hd r'=>cg r' (c:=(([(V a0.gen),(V a0.mode),(V a0.kind)]).flatMap u64).toArray) (E:=40) (bs3 (congrArg (fun z=>(0,z)) (hd 3 rfl).1) (congrArg (fun z=>(1,z)) (hd 6 rfl).1) (congrArg (fun z=>(2,z)) (hd 9 rfl).1) (by kernel_rfl)) (fun b w2 n2=>⟨n2.below,MkP.newRow n2 (fun _=>rfl) rfl⟩)) ?_;refine fc r (fun fr1 g w' hb' hd r'=>aP r' (args:=[(.slice (some ⟨b9,0,none⟩) 3 3),(g 10).v]) (lc (hd 0 rfl).1 (lc rfl l0)) DK ((yV _ ([x7.f0,x7.f1,x7.f2]) (RoAt.ofCell ((hP.below (dr hb')).cell (i:=1) rfl) rfl (List.cons_ne_nil _ _) rfl) ([(V a0.gen),(V a0.mode),(V a0.kind)]) (MkP.row (hd 10 rfl).1) hx17).mono (by rintro _ w2 ⟨rfl,hb2⟩; exact ⟨_,rfl,hb2,rfl⟩))) ?_
  refine fc r (fun fr1 g w' hb' hd r'=>aD r' (hd 11 rfl).1 bz) ?_;refine fc r (fun fr1 g w' hb' hd r'=>bC r' (vs:=#[(U x17.1),(I x17.2)]) (hd 12 rfl).1 rfl bz) ?_
  refine fc r (fun fr1 g w' hb' hd r'=>bC r' (vs:=#[(U x17.1),(I x17.2)]) (hd 12 rfl).1 rfl bz) ?_;refine fc r (fun fr1 g w' hb' hd r'=>cv r' (hd 13 rfl).1 bz) ?_
  refine fc r (fun fr1 g w' hb' hd r'=>cv r' (hd 14 rfl).1 bz) ?_;exact ck
 intro fr gg w18 hb hΦ hap r;obtain ⟨v15,g10,hs10⟩:=(hΦ 10 rfl).1;have r:=r.congr (sc ((hΦ 16 rfl).1) (sc ((hΦ 15 rfl).1) (sc ((hΦ 14 rfl).1) (sc ((hΦ 13 rfl).1) (sc ((hΦ 12 rfl).1) (sc ((hΦ 11 rfl).1) (sc g10 (sc ((hΦ 9 rfl).1) (sc ((hΦ 8 rfl).1) (sc ((hΦ 7 rfl).1) (sc ((hΦ 6 rfl).1) (sc ((hΦ 5 rfl).1) (sc ((hΦ 4 rfl).1) (sc ((hΦ 3 rfl).1) (sc ((hΦ 2 rfl).1) (sc ((hΦ 1 rfl).1) (sc ((hΦ 0 rfl).1) rfl)))))))))))))))));have hP:Post No [ac b1 ((aI a0)).toArray 55,ac b9 ((cn x7)).toArray 218,rowK 40 1 u64 v15 ([(V a0.gen),(V a0.mode),(V a0.kind)])] w0 w18:=hP.addL (l:=[([rowK 40 1 u64 v15 ([(V a0.gen),(V a0.mode),(V a0.kind)])],(gg 10).lo,(gg 10).hi)]) hb ⟨hs10,(hΦ 10 rfl).2.1,dJ,trivial⟩;refine wsr (kM (U x17.1) r rfl rfl fun r=>kA (U x17.1) r rfl rfl fun r=>wn (wp_ret ?_));have hv:x17.1=res:=Option.some.inj hD
 try dsimp only [Exit.then,Exit.inBlock]
 refine aQ (fn:=Tryz.f32) r (t:=2) rfl (v:=(U x17.1)) rfl ?_;subst hv;exact ⟨rfl,hP.chg.below⟩
def D.fG (fu:Nat) (a0:List Field) (a1:Int):Option (List Int × Int):=((D.jp fu a0).bind (fun (x1:Bool)=>(bif (!x1) then (some ([],1)) else (loopThen (fun (x6:List Int × Int × Int)=>(bif (decide (x6.2.2<(a0.length:Int))) then ((getI a0 x6.2.2).bind (fun (x11:Field)=>((appD x6.1 ([(D.bu x11 a1)])).bind (fun (x23:List Int)=>(some (Lp.next (x23,(cy .u64 x6.2.1 (D.bU x11)),(IntKind.i64.wrap (x6.2.2+1))))))))) else (some (Lp.brk (x6.1,x6.2.1,x6.2.2))))) fu ([],a1,0) (fun (x28:List Int × Int × Int)=>(bif (x28.2.1 !=0) then (some ([],10)) else (some (x28.1,0))))))))
set_option maxRecDepth 20000 in
set_option maxHeartbeats 20000000 in
theorem yP {fu:Nat} (w0:World) {a0v:Value} (a0:List Field) (a0h:RoAt 217 2 aC a0v a0 w0) (a1:Int) {res:List Int × Int} (hD:D.fG fu a0 a1=some res) :
    Calls Tryz.prog 188 #[a0v,.int .u64 a1] w0 (fun e w'=>∃ (v0:Value),e=.returned (.tuple #[v0,(.int .i64 res.2)])∧Done No No [rowK 40 1 u64 v0 res.1] w0 w'):=by
 refine enter Tryz.func188 rfl 34 rfl rfl fun fr r=>?_;have hP:Post No [] w0 w0:=Post.nil w0
 have hP:Post No [roK 217 2 aC a0v a0] w0 w0:=hP.addRo bm a0h rfl a0h.lt;unfold D.fG at hD
 refine wsr (kA kS r rfl rfl fun r=>kA (I 0) r rfl rfl fun r=>wn (wp_seq (wsr (kM a0v r rfl rfl fun r=>?_))));obtain ⟨x1,hx1,hD⟩:=aK hD
 refine kE r (rz w0 a0 (hP.ro (i:=0) rfl) hx1) rfl vE rfl fun w2 hb r=>?_;have hP:Post No [roK 217 2 aC a0v a0] w0 w2:=hP.below hb
 refine ae (.bool (!x1)) r (fun R=>y_un r (u:=(.bool x1)) rfl rfl) rfl fun fr r=>wn ?_;refine wp_cond_split (t:=(!x1)) (r.ev rfl) (fun h3=>?_) (fun h3=>?_)
 ·
  have hD:=(ay h3).symm.trans hD;refine wsr (kA kS r rfl rfl fun r=>kA (I 1) r rfl rfl fun r=>wn (wp_ret ?_));have hP:Post No [roK 217 2 aC a0v a0,rowK 40 1 u64 kS ([])] w0 w2:=hP.nilRow 40 1 u64
  have hv:([],1)=res:=Option.some.inj hD
  try dsimp only [Exit.then,Exit.inBlock]
  refine ep (fn:=Tryz.f188) r (t:=4) (t':=5) rfl (v:=kS) (v':=(I 1)) rfl rfl ?_;subst hv;exact ⟨kS,rfl,(hP.pick [1] rfl rfl).done (cL rfl bY)⟩
 have hD:=(aw h3).symm.trans hD;refine wp_skip (wsr (kA kS r rfl rfl fun r=>wn (wsr (kM (U a1) r rfl rfl fun r=>kA (U a1) r rfl rfl fun r=>wn (wp_seq (wsr (kM a0v r rfl rfl fun r=>ae (I (a0.length:Int)) r (fun R=>cu r (hP.ro (i:=0) rfl) mR rfl) rfl fun fr r=>kM (I 0) r rfl rfl fun r=>wn ?_)))))));have hP:Post No [roK 217 2 aC a0v a0,rowK 40 1 u64 kS ([])] w0 w2:=hP.nilRow 40 1 u64
 refine dA (X:=List Int × Int × Int) (G:=Value) (x0:=([],a1,0)) (fun x γ=>[(0,a0v),(1,(U a1)),(4,kS),(5,(I 0)),(12,(.bool (!x1))),(14,a0v),(15,(I (a0.length:Int))),(6,γ),(7,(U x.2.1)),(16,(I x.2.2))]) (fun x γ w=>Post No [roK 217 2 aC a0v a0,rowK 40 1 u64 γ x.1] w0 w) kS r (aa rfl (aa rfl (aa rfl (aa rfl (aa rfl (aa rfl (aa rfl (aa rfl (aa rfl (aa rfl aN)))))))))) hP hD ?_ ?_
 ·
  rintro x6 γ7 fr w9 g y8 RPy8 nxy8 bky8 rty8 r hP hD;have hP:Post No [roK 217 2 aC a0v a0,rowK 40 1 u64 γ7 x6.1] w0 w9:=hP;refine wsr (kB r rfl rfl rfl rfl rfl fun r=>wn (wp_seq ?_));refine wp_cond_split (t:=(decide (x6.2.2<(a0.length:Int)))) (r.ev rfl) (fun h10=>?_) (fun h10=>?_)
  ·
   have hD:=(ay h10).symm.trans hD;refine wp_skip (wp_seq (wp_block (wsr ?_)));obtain ⟨x11,hx11,hD⟩:=aK hD;refine ae (.pointer (some ⟨rowB a0v,rowO a0v+x6.2.2.toNat * 2,none⟩)) r (fun R=>cf r (hP.ro (i:=0) rfl) hx11 qc rfl rfl) rfl fun fr r=>ae (.agg (aC x11).toArray) r (fun R=>om r (cs:=(aC x11)) (RoAt.at_ (f:=aC) (x:=x11) (hP.ro (i:=0) rfl) (fun _=>rfl) hx11) rfl cI) rfl fun fr r=>?_;refine ar (.cells ((aC (⟨0,0⟩:Field))).toArray 217 (0,0)) r (fun R=>aq iQ) rfl fun fr b12 w13 n14 r=>?_
   have hP:Post No [roK 217 2 aC a0v a0,rowK 40 1 u64 γ7 x6.1,ac b12 ((aC (⟨0,0⟩:Field))).toArray 217] w0 w13:=hP.new n14;refine aM (.cells ((aC x11)).toArray 217 (0,0)) r (fun R=>aX r (o:=0) (v:=(.agg (aC x11).toArray)) rfl rfl (hP.cell (i:=2) rfl) iR (Nat.le_of_ble_eq_true rfl) rfl rfl) rfl fun fr w16 u17 r=>?_;have hP:Post No [roK 217 2 aC a0v a0,rowK 40 1 u64 γ7 x6.1,ac b12 ((aC x11)).toArray 217] w0 w16:=hP.upd (i:=2) rfl u17
   refine wn (wsr (kM γ7 r rfl rfl fun r=>kG (aC x11) 2 r rfl (hP.cell (i:=2) rfl) cI rfl rfl fun r=>kM (U a1) r rfl rfl fun r=>?_));refine kE r (l4 w16 x11 a1) rfl km rfl fun w18 hb r=>?_
   have hP:Post No [roK 217 2 aC a0v a0,rowK 40 1 u64 γ7 x6.1,ac b12 ((aC x11)).toArray 217] w0 w18:=hP.below hb;refine cP (.cells (([(D.bu x11 a1)]).flatMap u64).toArray 40 (0,0)) 1 r (fun R=>cg r (by kernel_rfl)) rfl fun fr b19 w20 n21 r=>?_;have hP:Post No [roK 217 2 aC a0v a0,rowK 40 1 u64 γ7 x6.1,ac b12 ((aC x11)).toArray 217,rowK 40 1 u64 (.slice (some ⟨b19,0,none⟩) 1 1) ([(D.bu x11 a1)])] w0 w20:=hP.newRow n21 (fun _=>rfl) rfl
   obtain ⟨x23,hx23,hD⟩:=aK hD;refine dh 40 1 u64 γ7 r (fun R=>dc r rt99 (fun _=>rfl) (fun _=>rfl) (hP.row (i:=1) rfl) (hP.row (i:=3) rfl).ro hx23 rfl rfl) rfl fun fr v24 w25 ha26 r=>?_;have hP:Post No [roK 217 2 aC a0v a0,rowK 40 1 u64 v24 x23,ac b12 ((aC x11)).toArray 217,rowK 40 1 u64 (.slice (some ⟨b19,0,none⟩) 1 1) ([(D.bu x11 a1)])] w0 w25:=hP.append (i:=1) rfl ha26
   refine kA v24 r rfl rfl fun r=>wn ?_;refine wp_region_lit (kM (U x6.2.1) r rfl rfl fun r=>kG (aC x11) 2 r rfl (hP.cell (i:=2) rfl) cI rfl rfl fun r=>?_)
   refine kE r (kT w25 x11) rfl mA rfl fun w27 hb r=>?_;have hP:Post No [roK 217 2 aC a0v a0,rowK 40 1 u64 v24 x23,ac b12 ((aC x11)).toArray 217,rowK 40 1 u64 (.slice (some ⟨b19,0,none⟩) 1 1) ([(D.bu x11 a1)])] w0 w27:=hP.below hb
   refine kB r rfl rfl rfl rfl rfl fun r=>kA (U (cy .u64 x6.2.1 (D.bU x11))) r rfl rfl fun r=>wn ?_;refine wp_region_lit (kB r rfl rfl rfl rfl rfl fun r=>kM (I (W (x6.2.2+1))) r rfl rfl fun r=>wn ?_)
   exact nxy8 (x23,(cy .u64 x6.2.1 (D.bU x11)),(W (x6.2.2+1))) v24 _ _ _ hD r (aa rfl (aa rfl (aa rfl (aa rfl (aa rfl (aa rfl (aa rfl (aa rfl (aa rfl (aa rfl aN)))))))))) (hP.pick [0,1] rfl rfl)
  have hD:=(aw h10).symm.trans hD;refine wp_exit ?_;exact bky8 (x6.1,x6.2.1,x6.2.2) γ7 _ _ _ hD r (aa rfl (aa rfl (aa rfl (aa rfl (aa rfl (aa rfl (aa rfl (aa rfl (aa rfl (aa rfl aN)))))))))) (hP.pick [0,1] rfl rfl)
 rintro x28 γ29 fr w30 g r hP hD;have hP:Post No [roK 217 2 aC a0v a0,rowK 40 1 u64 γ29 x28.1] w0 w30:=hP;refine wp_seq (wsr (kM (U x28.2.1) r rfl rfl fun r=>kB r rfl rfl rfl rfl rfl fun r=>wn ?_));refine wp_cond_split (t:=(x28.2.1 !=0)) (r.ev rfl) (fun h31=>?_) (fun h31=>?_)
 ·
  have hD:=(ay h31).symm.trans hD;refine wsr (kA kS r rfl rfl fun r=>kA (I 10) r rfl rfl fun r=>wn (wp_ret ?_));have hP:Post No [roK 217 2 aC a0v a0,rowK 40 1 u64 γ29 x28.1,rowK 40 1 u64 kS ([])] w0 w30:=hP.nilRow 40 1 u64
  have hv:([],10)=res:=Option.some.inj hD
  try dsimp only [Exit.then,Exit.inBlock]
  refine ep (fn:=Tryz.f188) r (t:=4) (t':=5) rfl (v:=kS) (v':=(I 10)) rfl rfl ?_;subst hv;exact ⟨kS,rfl,(hP.pick [2] rfl rfl).done (cL rfl bY)⟩
 have hD:=(aw h31).symm.trans hD;refine wp_skip (wsr (kM γ29 r rfl rfl fun r=>kA γ29 r rfl rfl fun r=>kA (I 0) r rfl rfl fun r=>wn (wp_ret ?_)));have hv:(x28.1,0)=res:=Option.some.inj hD
 try dsimp only [Exit.then,Exit.inBlock]
 refine ep (fn:=Tryz.f188) r (t:=4) (t':=5) rfl (v:=γ29) (v':=(I 0)) rfl rfl ?_;subst hv;exact ⟨γ29,rfl,(hP.pick [1] rfl rfl).done (cL rfl bY)⟩
def D.aR (fu:Nat) (a0:Int):Option (State × Bool):=((D.lD fu ).bind (fun (x5:Arr3F)=>((D.fG fu ([x5.f0,x5.f1,x5.f2]) a0).bind (fun (x13:List Int × Int)=>(bif (x13.2 !=0) then (some ((⟨0,0,0⟩:State),false)) else ((getI x13.1 0).bind (fun (x20:Int)=>((getI x13.1 1).bind (fun (x21:Int)=>((getI x13.1 2).bind (fun (x22:Int)=>(bif (!(D.cC (⟨(IntKind.i64.wrap x20),(IntKind.i64.wrap x21),(IntKind.i64.wrap x22)⟩:State))) then (some ((⟨0,0,0⟩:State),false)) else (some ((⟨(IntKind.i64.wrap x20),(IntKind.i64.wrap x21),(IntKind.i64.wrap x22)⟩:State),true))))))))))))))
set_option maxRecDepth 20000 in
set_option maxHeartbeats 20000000 in
theorem js {fu:Nat} (w0:World) (a0:Int) {res:State × Bool} (hD:D.aR fu a0=some res) :
    Calls Tryz.prog 87 #[.int .u64 a0] w0 (bi (.tuple #[(.agg (aI res.1).toArray),(.bool res.2)]) w0):=by
 refine enter Tryz.func87 rfl 36 rfl rfl fun fr r=>?_;have hP:Post No [] w0 w0:=Post.nil w0
 unfold D.aR at hD
 refine wsr ?_;refine ar (.cells ((aI (⟨0,0,0⟩:State))).toArray 55 (0,0)) r (fun R=>aq tz55) rfl fun fr b1 w2 n3 r=>?_;have hP:Post No [ac b1 ((aI (⟨0,0,0⟩:State))).toArray 55] w0 w2:=hP.new n3
 refine kA (.bool false) r rfl rfl fun r=>wn (wsr ?_);obtain ⟨x5,hx5,hD⟩:=aK hD
 refine kE r (rr w2  hx5) rfl uO rfl fun w6 hb r=>?_;have hP:Post No [ac b1 ((aI (⟨0,0,0⟩:State))).toArray 55] w0 w6:=hP.below hb
 refine ar (.cells ((cn (⟨(⟨0,0⟩:Field),(⟨0,0⟩:Field),(⟨0,0⟩:Field)⟩:Arr3F))).toArray 218 (0,0)) r (fun R=>aq qm) rfl fun fr b7 w8 n9 r=>?_;have hP:Post No [ac b1 ((aI (⟨0,0,0⟩:State))).toArray 55,ac b7 ((cn (⟨(⟨0,0⟩:Field),(⟨0,0⟩:Field),(⟨0,0⟩:Field)⟩:Arr3F))).toArray 218] w0 w8:=hP.new n9
 refine aM (.cells ((cn x5)).toArray 218 (0,0)) r (fun R=>aX r (o:=0) (v:=(.agg (cn x5).toArray)) rfl rfl (hP.cell (i:=1) rfl) qf (Nat.le_of_ble_eq_true rfl) rfl rfl) rfl fun fr w11 u12 r=>?_;have hP:Post No [ac b1 ((aI (⟨0,0,0⟩:State))).toArray 55,ac b7 ((cn x5)).toArray 218] w0 w11:=hP.upd (i:=1) rfl u12
 refine wn (wsr (ae (.slice (some ⟨b7,0,none⟩) 3 3) r (fun R=>uX r uB rfl) rfl fun fr r=>kM (U a0) r rfl rfl fun r=>?_));obtain ⟨x13,hx13,hD⟩:=aK hD
 refine kC r (yP w11 ([x5.f0,x5.f1,x5.f2]) (RoAt.ofCell (hP.cell (i:=1) rfl) rfl (List.cons_ne_nil _ _) rfl) a0 hx13) rfl Dy rfl ?_;rintro _ w14 ⟨v15,rfl,hq⟩;refine ⟨_,rfl,fun fr r=>?_⟩
 have hP:Post No [ac b1 ((aI (⟨0,0,0⟩:State))).toArray 55,ac b7 ((cn x5)).toArray 218,rowK 40 1 u64 v15 x13.1] w0 w14:=hP.add hq;refine kM (.tuple #[v15,(I x13.2)]) r rfl rfl fun r=>ae v15 r (fun R=>bC r (vs:=#[v15,(I x13.2)]) rfl rfl) rfl fun fr r=>ae (I x13.2) r (fun R=>bC r (vs:=#[v15,(I x13.2)]) rfl rfl) rfl fun fr r=>kA v15 r rfl rfl fun r=>kA (I x13.2) r rfl rfl fun r=>wn (wp_seq (wsr (kM (I x13.2) r rfl rfl fun r=>kB r rfl rfl rfl rfl rfl fun r=>wn ?_)));refine wp_cond_split (t:=(x13.2 !=0)) (r.ev rfl) (fun h17=>?_) (fun h17=>?_)
 ·
  have hD:=(ay h17).symm.trans hD;refine wsr (kU (.agg (aI (⟨0,0,0⟩:State)).toArray) r (by kernel_rfl) rfl fun r=>?_)
  refine aM (.cells ((aI (⟨0,0,0⟩:State))).toArray 55 (0,0)) r (fun R=>aX r (o:=0) (v:=(.agg (aI (⟨0,0,0⟩:State)).toArray)) rfl rfl (hP.cell (i:=0) rfl) ts55 (Nat.le_of_ble_eq_true rfl) rfl rfl) rfl fun fr w18 u19 r=>?_;have hP:Post No [ac b1 ((aI (⟨0,0,0⟩:State))).toArray 55,ac b7 ((cn x5)).toArray 218,rowK 40 1 u64 v15 x13.1] w0 w18:=hP.upd (i:=0) rfl u19
  refine kA (.bool false) r rfl rfl fun r=>wn (wp_ret ?_);have hv:((⟨0,0,0⟩:State),false)=res:=Option.some.inj hD
  try dsimp only [Exit.then,Exit.inBlock]
  refine dR (fn:=Tryz.f87) r rfl rfl (v':=(.bool false)) rfl (hP.cell (i:=0) rfl) (k:=3) rfl ta55 ?_;subst hv;exact ⟨rfl,hP.chg.below⟩
 have hD:=(aw h17).symm.trans hD;refine wp_skip (wp_seq ?_);obtain ⟨x20,hx20,hD⟩:=aK hD;obtain ⟨x21,hx21,hD⟩:=aK hD;obtain ⟨x22,hx22,hD⟩:=aK hD;refine cY [.val v15,.val (.pointer (some ⟨rowB v15,rowO v15+(0:Int).toNat * 1,none⟩)),.val (U x20),.val (I (W x20)),.val v15,.val (.pointer (some ⟨rowB v15,rowO v15+(1:Int).toNat * 1,none⟩)),.val (U x21),.val (I (W x21)),.val v15,.val (.pointer (some ⟨rowB v15,rowO v15+(2:Int).toNat * 1,none⟩)),.val (U x22),.val (I (W x22)),.val (.agg (aI (⟨(W x20),(W x21),(W x22)⟩:State)).toArray),.cell 55 3,.stored 13 ((aI (⟨(W x20),(W x21),(W x22)⟩:State))).toArray 55 3 rfl] mixed r (by kernel_rfl) ?_ ?_
 ·
  refine fc r (fun fr1 g w' hb' hd r'=>aD r' rfl bz) ?_;refine fc r (fun fr1 g w' hb' hd r'=>cf r' ((hP.below (dr hb')).row (i:=2) rfl).ro hx20 sl99 (hd 0 rfl).1 rfl bz) ?_
  refine fc r (fun fr1 g w' hb' hd r'=>cz r' (u:=(U x20)) (RoAt.at_ (f:=u64) (x:=x20) ((hP.below (dr hb')).row (i:=2) rfl).ro (fun _=>rfl) hx20) (hd 1 rfl).1 to40 bz) ?_;refine fc r (fun fr1 g w' hb' hd r'=>cr r' (n:=x20) (hd 2 rfl).1 ti40 ti3 bz) ?_
  refine fc r (fun fr1 g w' hb' hd r'=>aD r' rfl bz) ?_;refine fc r (fun fr1 g w' hb' hd r'=>cf r' ((hP.below (dr hb')).row (i:=2) rfl).ro hx21 sl99 (hd 4 rfl).1 rfl bz) ?_
  refine fc r (fun fr1 g w' hb' hd r'=>cz r' (u:=(U x21)) (RoAt.at_ (f:=u64) (x:=x21) ((hP.below (dr hb')).row (i:=2) rfl).ro (fun _=>rfl) hx21) (hd 5 rfl).1 to40 bz) ?_;refine fc r (fun fr1 g w' hb' hd r'=>cr r' (n:=x21) (hd 6 rfl).1 ti40 ti3 bz) ?_
  refine fc r (fun fr1 g w' hb' hd r'=>aD r' rfl bz) ?_;refine fc r (fun fr1 g w' hb' hd r'=>cf r' ((hP.below (dr hb')).row (i:=2) rfl).ro hx22 sl99 (hd 8 rfl).1 rfl bz) ?_
  refine fc r (fun fr1 g w' hb' hd r'=>cz r' (u:=(U x22)) (RoAt.at_ (f:=u64) (x:=x22) ((hP.below (dr hb')).row (i:=2) rfl).ro (fun _=>rfl) hx22) (hd 9 rfl).1 to40 bz) ?_;refine fc r (fun fr1 g w' hb' hd r'=>cr r' (n:=x22) (hd 10 rfl).1 ti40 ti3 bz) ?_
  refine fc r (fun fr1 g w' hb' hd r'=>eZ r' (v:=(.agg (aI (⟨(W x20),(W x21),(W x22)⟩:State)).toArray)) (bs3 (congrArg (fun z=>(0,z)) (hd 3 rfl).1) (congrArg (fun z=>(1,z)) (hd 7 rfl).1) (congrArg (fun z=>(2,z)) (hd 11 rfl).1) (by kernel_rfl)) bz) ?_;refine fc r (fun fr1 g w' hb' hd r'=>aq tz55 (fun b w2 n2=>⟨n2.below,b,rfl,n2.eq,_,n2.at_,rfl⟩)) ?_
  refine lO r rfl (fun fr1 g w' hb' hd r'=>?_) ?_
  · obtain ⟨hp,_,c,hc,hn⟩:=(hd 13 rfl).1; exact aX r' (o:=0) (c:=c) (v:=(.agg (aI (⟨(W x20),(W x21),(W x22)⟩:State)).toArray)) hp (hd 12 rfl).1 hc ts55 (by rw [hn]; exact Nat.le_of_ble_eq_true rfl) rfl (lL (hn.trans rfl)) (fun w2 u2=>⟨u2,rfl⟩)
  exact ck
 intro fr gg w24 hb hΦ hap r;obtain ⟨b23,ee_b23⟩:∃ b,b=(gg 13).lo:=⟨_,rfl⟩;have g13:(gg 13).v=(zp b23):=by rw [ee_b23]; exact (hΦ 13 rfl).1.1
 have H23:w24.heap[b23]?=some (.cells ((aI (⟨(W x20),(W x21),(W x22)⟩:State))).toArray 55 (0,0)):=by rw [ee_b23]; exact (hΦ 14 rfl).1.2
 have hs13:Fresh [ac b23 ((aI (⟨(W x20),(W x21),(W x22)⟩:State))).toArray 55] (gg 13).lo (gg 13).hi w24:=by subst ee_b23; exact Fresh.cell (hΦ 13 rfl).1.2.1 H23
 have r:=r.congr (sc g13 (sc ((hΦ 12 rfl).1) (sc ((hΦ 11 rfl).1) (sc ((hΦ 10 rfl).1) (sc ((hΦ 9 rfl).1) (sc ((hΦ 8 rfl).1) (sc ((hΦ 7 rfl).1) (sc ((hΦ 6 rfl).1) (sc ((hΦ 5 rfl).1) (sc ((hΦ 4 rfl).1) (sc ((hΦ 3 rfl).1) (sc ((hΦ 2 rfl).1) (sc ((hΦ 1 rfl).1) (sc ((hΦ 0 rfl).1) rfl))))))))))))));have hP:Post No [ac b1 ((aI (⟨0,0,0⟩:State))).toArray 55,ac b7 ((cn x5)).toArray 218,rowK 40 1 u64 v15 x13.1,ac b23 ((aI (⟨(W x20),(W x21),(W x22)⟩:State))).toArray 55] w0 w24:=hP.addL (l:=[([ac b23 ((aI (⟨(W x20),(W x21),(W x22)⟩:State))).toArray 55],(gg 13).lo,(gg 13).hi)]) hb ⟨hs13,(hΦ 13 rfl).2.1,dJ,trivial⟩;refine wp_seq (wsr (kG (aI (⟨(W x20),(W x21),(W x22)⟩:State)) 3 r rfl (hP.cell (i:=3) rfl) ta55 rfl rfl fun r=>?_));refine kE r (qI w24 (⟨(W x20),(W x21),(W x22)⟩:State)) rfl vk rfl fun w25 hb r=>?_
 have hP:Post No [ac b1 ((aI (⟨0,0,0⟩:State))).toArray 55,ac b7 ((cn x5)).toArray 218,rowK 40 1 u64 v15 x13.1,ac b23 ((aI (⟨(W x20),(W x21),(W x22)⟩:State))).toArray 55] w0 w25:=hP.below hb;refine ae (.bool (!(D.cC (⟨(W x20),(W x21),(W x22)⟩:State)))) r (fun R=>y_un r (u:=(.bool (D.cC (⟨(W x20),(W x21),(W x22)⟩:State)))) rfl rfl) rfl fun fr r=>wn ?_;refine wp_cond_split (t:=(!(D.cC (⟨(W x20),(W x21),(W x22)⟩:State)))) (r.ev rfl) (fun h26=>?_) (fun h26=>?_)
 ·
  have hD:=(ay h26).symm.trans hD;refine wsr (kU (.agg (aI (⟨0,0,0⟩:State)).toArray) r (by kernel_rfl) rfl fun r=>?_)
  refine aM (.cells ((aI (⟨0,0,0⟩:State))).toArray 55 (0,0)) r (fun R=>aX r (o:=0) (v:=(.agg (aI (⟨0,0,0⟩:State)).toArray)) rfl rfl (hP.cell (i:=0) rfl) ts55 (Nat.le_of_ble_eq_true rfl) rfl rfl) rfl fun fr w27 u28 r=>?_;have hP:Post No [ac b1 ((aI (⟨0,0,0⟩:State))).toArray 55,ac b7 ((cn x5)).toArray 218,rowK 40 1 u64 v15 x13.1,ac b23 ((aI (⟨(W x20),(W x21),(W x22)⟩:State))).toArray 55] w0 w27:=hP.upd (i:=0) rfl u28
  refine kA (.bool false) r rfl rfl fun r=>wn (wp_ret ?_);have hv:((⟨0,0,0⟩:State),false)=res:=Option.some.inj hD
  try dsimp only [Exit.then,Exit.inBlock]
  refine dR (fn:=Tryz.f87) r rfl rfl (v':=(.bool false)) rfl (hP.cell (i:=0) rfl) (k:=3) rfl ta55 ?_;subst hv;exact ⟨rfl,hP.chg.below⟩
 have hD:=(aw h26).symm.trans hD;refine wp_skip (wsr (kG (aI (⟨(W x20),(W x21),(W x22)⟩:State)) 3 r rfl (hP.cell (i:=3) rfl) ta55 rfl rfl fun r=>?_));refine aM (.cells ((aI (⟨(W x20),(W x21),(W x22)⟩:State))).toArray 55 (0,0)) r (fun R=>aX r (o:=0) (v:=(.agg (aI (⟨(W x20),(W x21),(W x22)⟩:State)).toArray)) rfl rfl (hP.cell (i:=0) rfl) ts55 (Nat.le_of_ble_eq_true rfl) rfl rfl) rfl fun fr w29 u30 r=>?_
 have hP:Post No [ac b1 ((aI (⟨(W x20),(W x21),(W x22)⟩:State))).toArray 55,ac b7 ((cn x5)).toArray 218,rowK 40 1 u64 v15 x13.1,ac b23 ((aI (⟨(W x20),(W x21),(W x22)⟩:State))).toArray 55] w0 w29:=hP.upd (i:=0) rfl u30;refine kA (.bool true) r rfl rfl fun r=>wn (wp_ret ?_);have hv:((⟨(W x20),(W x21),(W x22)⟩:State),true)=res:=Option.some.inj hD
 try dsimp only [Exit.then,Exit.inBlock]
 refine dR (fn:=Tryz.f87) r rfl rfl (v':=(.bool true)) rfl (hP.cell (i:=0) rfl) (k:=3) rfl ta55 ?_;subst hv;exact ⟨rfl,hP.chg.below⟩
end Go.Proofs.YtfpgnmhcfkikkaaGreat.St

/- Ours. -/
namespace Go.Proofs.YtfpgnmhcfkikkaaGreat
open Go.RowKit
def fGen:Field:=⟨0,30⟩
def fMode:Field:=⟨30,2⟩
def fKind:Field:=⟨32,2⟩
theorem sj:St.D.jp 10 [fGen,fMode,fKind]=some true:=by decide +kernel
theorem sB (w:Int):St.D.fG 10 [fGen,fMode,fKind] w=bif (cy .u64 (cy .u64 (cy .u64 w (D.bU fGen)) (D.bU fMode)) (D.bU fKind) !=0) then some ([],10)
    else some ([D.bu fGen w,D.bu fMode w,D.bu fKind w],0):=by
  unfold St.D.fG;rw [sj]
  rfl
theorem sV (a b c:Int):St.D.gz 10 [fGen,fMode,fKind] [a,b,c]=bif (decide (a > D.bH fGen)) then some (0,1) else bif (decide (b > D.bH fMode)) then some (0,1) else bif (decide (c > D.bH fKind)) then some (0,1)
    else some (D.co fKind (D.co fMode (D.co fGen 0 a) b) c,0):=by
  unfold St.D.gz;rw [sj];have w1:IntKind.i64.wrap ((0:Int)+1)=1:=rfl;have w2:IntKind.i64.wrap ((1:Int)+1)=2:=rfl;have w3:IntKind.i64.wrap ((2:Int)+1)=3:=rfl;have g0:∀ {α:Type} (x y z:α),getI [x,y,z] 0=some x:=fun _ _ _=>rfl
  have g1:∀ {α:Type} (x y z:α),getI [x,y,z] 1=some y:=fun _ _ _=>rfl
  have g2:∀ {α:Type} (x y z:α),getI [x,y,z] 2=some z:=fun _ _ _=>rfl
  have l3:∀ {α:Type} (x y z:α),(([x,y,z]:List α).length:Int)=3:=fun _ _ _=>rfl
  cases h1:decide (a > D.bH fGen) <;> cases h2:decide (b > D.bH fMode) <;> cases h3:decide (c > D.bH fKind) <;>
    simp only [loopThen,runLoop,goOn,afterLoop,w1,w2,w3,g0,g1,g2,l3,h1,h2,h3,Option.bind_some,cond_true,cond_false,Bool.not_true,bne_self_eq_false,show decide ((0:Int)<3)=true from rfl,show decide ((1:Int)<3)=true from rfl,show decide ((2:Int)<3)=true from rfl,show decide ((3:Int)<3)=false from rfl]
def D.bR (s:State):Int:=(St.D.bR 10 s).getD 0
def D.aR (w:Int):State × Bool:=(St.D.aR 10 w).getD (⟨0,0,0⟩,false)
theorem zZ (s:State):∃ r,St.D.bR 10 s=some r:=by
  unfold St.D.bR;cases (!(D.cC s))
  · show ∃ r,(((St.D.gz 10 [fGen,fMode,fKind] [IntKind.u64.wrap s.gen,IntKind.u64.wrap s.mode,IntKind.u64.wrap s.kind]).bind (fun (x17:Int × Int)=>(some x17.1))))=some r
    rw [sV]
    generalize decide (IntKind.u64.wrap s.gen > D.bH fGen)=b1
    generalize decide (IntKind.u64.wrap s.mode > D.bH fMode)=b2
    generalize decide (IntKind.u64.wrap s.kind > D.bH fKind)=b3
    cases b1 <;> cases b2 <;> cases b3 <;> exact ⟨_,rfl⟩
  · exact ⟨_,rfl⟩
theorem Ay (w:Int):∃ r,St.D.aR 10 w=some r:=by
  unfold St.D.aR;show ∃ r,(St.D.fG 10 [fGen,fMode,fKind] w).bind _=some r
  rw [sB]
  generalize (cy .u64 (cy .u64 (cy .u64 w (D.bU fGen)) (D.bU fMode)) (D.bU fKind) !=0)=b
  cases b
  · show ∃ r,(bif (!(D.cC (⟨(IntKind.i64.wrap (D.bu fGen w)),(IntKind.i64.wrap (D.bu fMode w)),(IntKind.i64.wrap (D.bu fKind w))⟩:State))) then _ else _)=some r
    generalize (!(D.cC (⟨(IntKind.i64.wrap (D.bu fGen w)),(IntKind.i64.wrap (D.bu fMode w)),(IntKind.i64.wrap (D.bu fKind w))⟩:State)))=b
    cases b <;> exact ⟨_,rfl⟩
  · exact ⟨_,rfl⟩
theorem j5 (w0:World) (a0:State):Calls Tryz.prog 32 #[.agg (aI a0).toArray] w0 (bi (.int .u64 (D.bR a0)) w0):=by
  obtain ⟨r,hr⟩:=zZ a0;unfold D.bR;rw [hr];exact St.j5 w0 a0 hr
theorem js (w0:World) (a0:Int):Calls Tryz.prog 87 #[.int .u64 a0] w0 (bi (.tuple #[(.agg (aI (D.aR a0).1).toArray),(.bool (D.aR a0).2)]) w0):=by
  obtain ⟨r,hr⟩:=Ay a0;unfold D.aR;rw [hr];exact St.js w0 a0 hr
end Go.Proofs.YtfpgnmhcfkikkaaGreat

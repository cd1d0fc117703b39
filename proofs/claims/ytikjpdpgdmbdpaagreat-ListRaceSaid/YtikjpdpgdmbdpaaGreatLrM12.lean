/- Some of our texts, one behind the other. -/
import Derived.Test.YtikjpdpgdmbdpaaGreatLrM7
import Derived.Test.YtikjpdpgdmbdpaaGreatLrM4
import Derived.Test.YtikjpdpgdmbdpaaGreatLrMems
import Derived.Test.YtikjpdpgdmbdpaaGreatLrM11
set_option linter.all false
/- Ours. -/
set_option maxRecDepth 20000
set_option maxHeartbeats 2000000
namespace Go.Proofs.YtikjpdpgdmbdpaaGreat
open Go.RowKit
theorem gi:aZ Tryz.prog 137 0 0:=kz
theorem kg:aZ Tryz.prog 137 1 1:=kz
theorem qc:aZ Tryz.prog 137 2 2:=kz
theorem dG:tyA Tryz.prog 137 3:=kz
theorem ep:sized Tryz.prog 137 3:=kz
theorem fG:zeroOf Tryz.prog 137=some (.agg (aH (⟨0,0,0⟩:State)).toArray):=kz
def D.du (a0:State) (a1:Int):State:=(⟨a0.gen,1,a1⟩:State)
theorem za (w0:World) 
    (a0:State) (a1:Int) :
    Calls Tryz.prog 251 #[.agg (aH a0).toArray,.int .i64 a1] w0 (bw (.agg (aH (D.du a0 a1)).toArray) w0):=by
 refine kN Tryz.func251 rfl 9 rfl rfl fun fr r hB=>?_;refine wsr ?_
 refine kX 137 (.agg (aH a0).toArray) r rfl rfl fun b1 w2 n3 r=>?_;obtain ⟨eb1,zw2,hb1,hB,zB⟩:=n3.all hB
 refine ai (.cells ((aH (⟨0,0,0⟩:State))).toArray 137 (0,0)) r (fun R=>ah fG) rfl fun fr b4 w5 n6 r=>?_;have hb1:=keep n6.below hb1
 obtain ⟨eb4,zw5,hb4,hB,zB⟩:=n6.all hB;refine wn (wsr (kF 0 r rfl gi rfl fun r=>kL (I a0.gen) r rfl hb1 to3 rfl rfl fun r=>kM (I a1) r rfl rfl fun r=>kU (.agg (aH (⟨a0.gen,1,a1⟩:State)).toArray) r kz rfl fun r=>?_));refine bh (.cells ((aH (⟨a0.gen,1,a1⟩:State))).toArray 137 (0,0)) r (fun R=>aT r (o:=0) (v:=(.agg (aH (⟨a0.gen,1,a1⟩:State)).toArray)) rfl rfl hb4 ep (Nat.le_of_ble_eq_true rfl) rfl rfl) rfl fun fr w7 u8 r=>?_
 have zw7:=u8.size;have hb1:=u8.keep hb1 kw
 have hb4:=u8.at_;obtain ⟨hB,zB⟩:=u8.on hB kw
 refine wn (wp_ret ?_);refine ar r rfl rfl hb4 (k:=3) rfl dG ?_;exact ⟨rfl,hB⟩
def D.bv (a0:State) (a1:Int):State:=(bif (decide (a0.gen≥a1)) then (⟨a0.gen,3,0⟩:State) else (⟨(IntKind.i64.wrap (a0.gen+1)),0,0⟩:State))
theorem yR (w0:World) 
    (a0:State) (a1:Int) :
    Calls Tryz.prog 311 #[.agg (aH a0).toArray,.int .i64 a1] w0 (bw (.agg (aH (D.bv a0 a1)).toArray) w0):=by
 refine kN Tryz.func311 rfl 16 rfl rfl fun fr r hB=>?_;refine wsr ?_
 refine kX 137 (.agg (aH a0).toArray) r rfl rfl fun b1 w2 n3 r=>?_;obtain ⟨eb1,zw2,hb1,hB,zB⟩:=n3.all hB
 refine ai (.cells ((aH (⟨0,0,0⟩:State))).toArray 137 (0,0)) r (fun R=>ah fG) rfl fun fr b4 w5 n6 r=>?_;have hb1:=keep n6.below hb1
 obtain ⟨eb4,zw5,hb4,hB,zB⟩:=n6.all hB;refine wn (wp_seq (wsr (kF 0 r rfl gi rfl fun r=>kL (I a0.gen) r rfl hb1 to3 rfl rfl fun r=>kM (I a1) r rfl rfl fun r=>kB r rfl rfl rfl rfl rfl fun r=>wn ?_)));refine wp_cond_split (t:=(decide (a0.gen≥a1))) (r.ev rfl) (fun h7=>?_) (fun h7=>?_)
 ·
  refine wsr (kF 0 r rfl gi rfl fun r=>kL (I a0.gen) r rfl hb1 to3 rfl rfl fun r=>kU (.agg (aH (⟨a0.gen,3,0⟩:State)).toArray) r kz rfl fun r=>?_);refine bh (.cells ((aH (⟨a0.gen,3,0⟩:State))).toArray 137 (0,0)) r (fun R=>aT r (o:=0) (v:=(.agg (aH (⟨a0.gen,3,0⟩:State)).toArray)) rfl rfl hb4 ep (Nat.le_of_ble_eq_true rfl) rfl rfl) rfl fun fr w8 u9 r=>?_
  have zw8:=u9.size;have hb1:=u9.keep hb1 kw
  have hb4:=u9.at_;obtain ⟨hB,zB⟩:=u9.on hB kw
  refine wn (wp_ret ?_);have hd:D.bv a0 a1=(⟨a0.gen,3,0⟩:State):=(az h7).trans (rfl);refine ar r rfl rfl hb4 (k:=3) rfl dG ?_;rw [hd];exact ⟨rfl,hB⟩
 refine wp_skip (wsr (kF 0 r rfl gi rfl fun r=>kL (I a0.gen) r rfl hb1 to3 rfl rfl fun r=>kB r rfl rfl rfl rfl rfl fun r=>kU (.agg (aH (⟨(W (a0.gen+1)),0,0⟩:State)).toArray) r kz rfl fun r=>?_));refine bh (.cells ((aH (⟨(W (a0.gen+1)),0,0⟩:State))).toArray 137 (0,0)) r (fun R=>aT r (o:=0) (v:=(.agg (aH (⟨(W (a0.gen+1)),0,0⟩:State)).toArray)) rfl rfl hb4 ep (Nat.le_of_ble_eq_true rfl) rfl rfl) rfl fun fr w10 u11 r=>?_
 have zw10:=u11.size;have hb1:=u11.keep hb1 kw
 have hb4:=u11.at_;obtain ⟨hB,zB⟩:=u11.on hB kw
 refine wn (wp_ret ?_);have hd:D.bv a0 a1=(⟨(W (a0.gen+1)),0,0⟩:State):=(aB h7).trans (rfl);refine ar r rfl rfl hb4 (k:=3) rfl dG ?_;rw [hd];exact ⟨rfl,hB⟩
def D.fL (a0:State):State:=({ a0 with mode:=2 })
theorem yC (w0:World) 
    (a0:State) :
    Calls Tryz.prog 167 #[.agg (aH a0).toArray] w0 (bw (.agg (aH (D.fL a0)).toArray) w0):=by
 refine kN Tryz.func167 rfl 5 rfl rfl fun fr r hB=>?_;refine wsr ?_
 refine kX 137 (.agg (aH a0).toArray) r rfl rfl fun b1 w2 n3 r=>?_;obtain ⟨eb1,zw2,hb1,hB,zB⟩:=n3.all hB
 refine ai (.cells ((aH (⟨0,0,0⟩:State))).toArray 137 (0,0)) r (fun R=>ah fG) rfl fun fr b4 w5 n6 r=>?_;have hb1:=keep n6.below hb1
 obtain ⟨eb4,zw5,hb4,hB,zB⟩:=n6.all hB;refine wn (wsr (kF 0 r rfl kg rfl fun r=>?_));refine bh (.cells ((aH ({ a0 with mode:=2 }))).toArray 137 (0,0)) r (fun R=>aT r (o:=1) (v:=(I 2)) rfl rfl hb1 ts3 (Nat.le_of_ble_eq_true rfl) rfl rfl) rfl fun fr w7 u8 r=>?_
 have zw7:=u8.size;have hb4:=u8.keep hb4 kw
 have hb1:=u8.at_;obtain ⟨hB,zB⟩:=u8.on hB kw
 refine wn (wsr (kG (aH ({ a0 with mode:=2 })) 3 r rfl hb1 dG rfl rfl fun r=>?_))
 refine bh (.cells ((aH ({ a0 with mode:=2 }))).toArray 137 (0,0)) r (fun R=>aT r (o:=0) (v:=(.agg (aH ({ a0 with mode:=2 })).toArray)) rfl rfl hb4 ep (Nat.le_of_ble_eq_true rfl) rfl rfl) rfl fun fr w9 u10 r=>?_
 have zw9:=u10.size;have hb1:=u10.keep hb1 kw
 have hb4:=u10.at_;obtain ⟨hB,zB⟩:=u10.on hB kw
 refine wn (wp_ret ?_);refine ar r rfl rfl hb4 (k:=3) rfl dG ?_;exact ⟨rfl,hB⟩
def D.cM (a0:State):Bool:=(bif (decide (a0.gen≥0)) then (bif (decide (a0.gen≤1073741823)) then (bif (decide (a0.mode≥0)) then (bif (decide (a0.mode≤3)) then (bif (decide (a0.kind≥0)) then (decide (a0.kind≤2)) else false) else false) else false) else false) else false)
theorem rJ (w0:World) 
    (a0:State) :
    Calls Tryz.prog 137 #[.agg (aH a0).toArray] w0 (bw (.bool (D.cM a0)) w0):=by
 refine kN Tryz.func137 rfl 31 rfl rfl fun fr r hB=>?_;refine wsr ?_
 refine kX 137 (.agg (aH a0).toArray) r rfl rfl fun b1 w2 n3 r=>?_;obtain ⟨eb1,zw2,hb1,hB,zB⟩:=n3.all hB
 refine kA (.bool false) r rfl rfl fun r=>wn (wsr (kF 0 r rfl gi rfl fun r=>kL (I a0.gen) r rfl hb1 to3 rfl rfl fun r=>kB r rfl rfl rfl rfl rfl fun r=>kM (.bool (decide (a0.gen≥0))) r rfl rfl fun r=>?_));refine bA (decide (a0.gen≥0)) (fun h4=>?_) (fun h4=>?_)
 ·
  refine s1 r h4 (kF 0 r rfl gi rfl fun r=>s1 r h4 (kL (I a0.gen) r rfl hb1 to3 rfl rfl fun r=>s1 r h4 (kB r rfl rfl rfl rfl rfl fun r=>ac (.bool (decide (a0.gen≤1073741823))) r (fun R=>aw r (b:=true) (congrArg Value.bool h4) rfl) rfl fun fr r=>kM (.bool (decide (a0.gen≤1073741823))) r rfl rfl fun r=>?_)));refine bA (decide (a0.gen≤1073741823)) (fun h5=>?_) (fun h5=>?_)
  ·
   refine s1 r h5 (kF 0 r rfl kg rfl fun r=>s1 r h5 (kL (I a0.mode) r rfl hb1 to3 rfl rfl fun r=>s1 r h5 (kB r rfl rfl rfl rfl rfl fun r=>ac (.bool (decide (a0.mode≥0))) r (fun R=>aw r (b:=true) (congrArg Value.bool h5) rfl) rfl fun fr r=>kM (.bool (decide (a0.mode≥0))) r rfl rfl fun r=>?_)));refine bA (decide (a0.mode≥0)) (fun h6=>?_) (fun h6=>?_)
   ·
    refine s1 r h6 (kF 0 r rfl kg rfl fun r=>s1 r h6 (kL (I a0.mode) r rfl hb1 to3 rfl rfl fun r=>s1 r h6 (kB r rfl rfl rfl rfl rfl fun r=>ac (.bool (decide (a0.mode≤3))) r (fun R=>aw r (b:=true) (congrArg Value.bool h6) rfl) rfl fun fr r=>kM (.bool (decide (a0.mode≤3))) r rfl rfl fun r=>?_)));refine bA (decide (a0.mode≤3)) (fun h7=>?_) (fun h7=>?_)
    ·
     refine s1 r h7 (kF 0 r rfl qc rfl fun r=>s1 r h7 (kL (I a0.kind) r rfl hb1 to3 rfl rfl fun r=>s1 r h7 (kB r rfl rfl rfl rfl rfl fun r=>ac (.bool (decide (a0.kind≥0))) r (fun R=>aw r (b:=true) (congrArg Value.bool h7) rfl) rfl fun fr r=>kM (.bool (decide (a0.kind≥0))) r rfl rfl fun r=>?_)));refine bA (decide (a0.kind≥0)) (fun h8=>?_) (fun h8=>?_)
     ·
      refine s1 r h8 (kF 0 r rfl qc rfl fun r=>s1 r h8 (kL (I a0.kind) r rfl hb1 to3 rfl rfl fun r=>s1 r h8 (kB r rfl rfl rfl rfl rfl fun r=>ac (.bool (decide (a0.kind≤2))) r (fun R=>aw r (b:=true) (congrArg Value.bool h8) rfl) rfl fun fr r=>kA (.bool (decide (a0.kind≤2))) r rfl rfl fun r=>wn (wp_ret ?_))));have hd:D.cM a0=(decide (a0.kind≤2)):=(az h4).trans ((az h5).trans ((az h6).trans ((az h7).trans ((az h8).trans (rfl)))))
      refine bg r rfl rfl ?_;rw [hd];exact ⟨rfl,hB⟩
     refine s0 r h8 fun fr r=>s0 r h8 fun fr r=>s0 r h8 fun fr r=>ac (.bool false) r (fun R=>aw r (b:=false) (congrArg Value.bool h8) rfl) rfl fun fr r=>kA (.bool false) r rfl rfl fun r=>wn (wp_ret ?_);have hd:D.cM a0=false:=(az h4).trans ((az h5).trans ((az h6).trans ((az h7).trans ((aB h8).trans (rfl)))))
     refine bg r rfl rfl ?_;rw [hd];exact ⟨rfl,hB⟩
    refine s0 r h7 fun fr r=>s0 r h7 fun fr r=>s0 r h7 fun fr r=>ac (.bool false) r (fun R=>aw r (b:=false) (congrArg Value.bool h7) rfl) rfl fun fr r=>kM (.bool false) r rfl rfl fun r=>s0 r (rfl:false=_) fun fr r=>s0 r (rfl:false=_) fun fr r=>s0 r (rfl:false=_) fun fr r=>ac (.bool false) r (fun R=>aw r (b:=false) (congrArg Value.bool (rfl:false=_)) rfl) rfl fun fr r=>kA (.bool false) r rfl rfl fun r=>wn (wp_ret ?_);have hd:D.cM a0=false:=(az h4).trans ((az h5).trans ((az h6).trans ((aB h7).trans (rfl))))
    refine bg r rfl rfl ?_;rw [hd];exact ⟨rfl,hB⟩
   refine s0 r h6 fun fr r=>s0 r h6 fun fr r=>s0 r h6 fun fr r=>ac (.bool false) r (fun R=>aw r (b:=false) (congrArg Value.bool h6) rfl) rfl fun fr r=>kM (.bool false) r rfl rfl fun r=>s0 r (rfl:false=_) fun fr r=>s0 r (rfl:false=_) fun fr r=>s0 r (rfl:false=_) fun fr r=>ac (.bool false) r (fun R=>aw r (b:=false) (congrArg Value.bool (rfl:false=_)) rfl) rfl fun fr r=>kM (.bool false) r rfl rfl fun r=>s0 r (rfl:false=_) fun fr r=>s0 r (rfl:false=_) fun fr r=>s0 r (rfl:false=_) fun fr r=>ac (.bool false) r (fun R=>aw r (b:=false) (congrArg Value.bool (rfl:false=_)) rfl) rfl fun fr r=>kA (.bool false) r rfl rfl fun r=>wn (wp_ret ?_);have hd:D.cM a0=false:=(az h4).trans ((az h5).trans ((aB h6).trans (rfl)))
   refine bg r rfl rfl ?_;rw [hd];exact ⟨rfl,hB⟩
  refine s0 r h5 fun fr r=>s0 r h5 fun fr r=>s0 r h5 fun fr r=>ac (.bool false) r (fun R=>aw r (b:=false) (congrArg Value.bool h5) rfl) rfl fun fr r=>kM (.bool false) r rfl rfl fun r=>s0 r (rfl:false=_) fun fr r=>s0 r (rfl:false=_) fun fr r=>s0 r (rfl:false=_) fun fr r=>ac (.bool false) r (fun R=>aw r (b:=false) (congrArg Value.bool (rfl:false=_)) rfl) rfl fun fr r=>kM (.bool false) r rfl rfl fun r=>s0 r (rfl:false=_) fun fr r=>s0 r (rfl:false=_) fun fr r=>s0 r (rfl:false=_) fun fr r=>ac (.bool false) r (fun R=>aw r (b:=false) (congrArg Value.bool (rfl:false=_)) rfl) rfl fun fr r=>kM (.bool false) r rfl rfl fun r=>s0 r (rfl:false=_) fun fr r=>s0 r (rfl:false=_) fun fr r=>s0 r (rfl:false=_) fun fr r=>ac (.bool false) r (fun R=>aw r (b:=false) (congrArg Value.bool (rfl:false=_)) rfl) rfl fun fr r=>kA (.bool false) r rfl rfl fun r=>wn (wp_ret ?_);have hd:D.cM a0=false:=(az h4).trans ((aB h5).trans (rfl))
  refine bg r rfl rfl ?_;rw [hd];exact ⟨rfl,hB⟩
 refine s0 r h4 fun fr r=>s0 r h4 fun fr r=>s0 r h4 fun fr r=>ac (.bool false) r (fun R=>aw r (b:=false) (congrArg Value.bool h4) rfl) rfl fun fr r=>kM (.bool false) r rfl rfl fun r=>s0 r (rfl:false=_) fun fr r=>s0 r (rfl:false=_) fun fr r=>s0 r (rfl:false=_) fun fr r=>ac (.bool false) r (fun R=>aw r (b:=false) (congrArg Value.bool (rfl:false=_)) rfl) rfl fun fr r=>kM (.bool false) r rfl rfl fun r=>s0 r (rfl:false=_) fun fr r=>s0 r (rfl:false=_) fun fr r=>s0 r (rfl:false=_) fun fr r=>ac (.bool false) r (fun R=>aw r (b:=false) (congrArg Value.bool (rfl:false=_)) rfl) rfl fun fr r=>kM (.bool false) r rfl rfl fun r=>s0 r (rfl:false=_) fun fr r=>s0 r (rfl:false=_) fun fr r=>s0 r (rfl:false=_) fun fr r=>ac (.bool false) r (fun R=>aw r (b:=false) (congrArg Value.bool (rfl:false=_)) rfl) rfl fun fr r=>kM (.bool false) r rfl rfl fun r=>s0 r (rfl:false=_) fun fr r=>s0 r (rfl:false=_) fun fr r=>s0 r (rfl:false=_) fun fr r=>ac (.bool false) r (fun R=>aw r (b:=false) (congrArg Value.bool (rfl:false=_)) rfl) rfl fun fr r=>kA (.bool false) r rfl rfl fun r=>wn (wp_ret ?_);have hd:D.cM a0=false:=(aB h4).trans (rfl)
 refine bg r rfl rfl ?_;rw [hd];exact ⟨rfl,hB⟩
end Go.Proofs.YtikjpdpgdmbdpaaGreat

/- Ours. -/
set_option maxRecDepth 20000
set_option maxHeartbeats 2000000
namespace Go.Proofs.YtikjpdpgdmbdpaaGreat.St
open Go.RowKit
theorem wA:arrTy Tryz.prog 220 3 2:=kz
theorem vX:ag Tryz.prog 135:=kz
theorem EM:ag Tryz.prog 136:=kz
theorem wu:ag Tryz.prog 137:=kz
theorem kv:ag Tryz.prog 141:=kz
theorem vW:ag Tryz.prog 233:=kz
theorem Eo:ag Tryz.prog 269:=kz
theorem nB:ag Tryz.prog 332:=kz
theorem nC:isSlice Tryz.prog 224:=kz
theorem is81:isSlice Tryz.prog 81:=kz
theorem rt81:rowTy Tryz.prog 81 36 1:=kz
theorem qG:sliceTy Tryz.prog 224 2:=kz
theorem sl81:sliceTy Tryz.prog 81 1:=kz
theorem EC:tyA Tryz.prog 220 6:=kz
theorem ti3:intTy Tryz.prog 3 .i64:=kz
theorem ti36:intTy Tryz.prog 36 .u64:=kz
theorem to36:tyO Tryz.prog 36:=kz
theorem j6:sized Tryz.prog 219 2:=kz
theorem qM:sized Tryz.prog 220 6:=kz
theorem j7:zeroOf Tryz.prog 219=some (.agg (aD (⟨0,0⟩:Field)).toArray):=kz
theorem qD:zeroOf Tryz.prog 220=some (.agg (cF (⟨(⟨0,0⟩:Field),(⟨0,0⟩:Field),(⟨0,0⟩:Field)⟩:Arr3F)).toArray):=kz
def D.lX (fu:Nat) :Option (Arr3F):=(some (⟨(⟨0,30⟩:Field),(⟨30,2⟩:Field),(⟨32,2⟩:Field)⟩:Arr3F))
set_option maxRecDepth 20000 in
set_option maxHeartbeats 20000000 in
theorem sG {fu:Nat} (w0:World) {res:Arr3F} (hD:D.lX fu =some res) :
    Calls Tryz.prog 135 #[] w0 (bw (.agg (cF res).toArray) w0):=by
 refine enter Tryz.func135 rfl 5 rfl rfl fun fr r=>?_;have hP:Post No [] w0 w0:=Post.nil w0
 unfold D.lX at hD
 refine wsr ?_;refine ai (.cells ((cF (⟨(⟨0,0⟩:Field),(⟨0,0⟩:Field),(⟨0,0⟩:Field)⟩:Arr3F))).toArray 220 (0,0)) r (fun R=>ah qD) rfl fun fr b1 w2 n3 r=>?_;have hP:Post No [aa b1 ((cF (⟨(⟨0,0⟩:Field),(⟨0,0⟩:Field),(⟨0,0⟩:Field)⟩:Arr3F))).toArray 220] w0 w2:=hP.new n3
 refine wn (wsr (kU (.agg (aD (⟨0,30⟩:Field)).toArray) r kz rfl fun r=>kU (.agg (aD (⟨30,2⟩:Field)).toArray) r kz rfl fun r=>kU (.agg (aD (⟨32,2⟩:Field)).toArray) r kz rfl fun r=>kU (.agg (cF (⟨(⟨0,30⟩:Field),(⟨30,2⟩:Field),(⟨32,2⟩:Field)⟩:Arr3F)).toArray) r kz rfl fun r=>?_));refine bh (.cells ((cF (⟨(⟨0,30⟩:Field),(⟨30,2⟩:Field),(⟨32,2⟩:Field)⟩:Arr3F))).toArray 220 (0,0)) r (fun R=>aT r (o:=0) (v:=(.agg (cF (⟨(⟨0,30⟩:Field),(⟨30,2⟩:Field),(⟨32,2⟩:Field)⟩:Arr3F)).toArray)) rfl rfl (hP.cell (i:=0) rfl) qM (Nat.le_of_ble_eq_true rfl) rfl rfl) rfl fun fr w5 u6 r=>?_
 have hP:Post No [aa b1 ((cF (⟨(⟨0,30⟩:Field),(⟨30,2⟩:Field),(⟨32,2⟩:Field)⟩:Arr3F))).toArray 220] w0 w5:=hP.upd (i:=0) rfl u6;refine wn (wp_ret ?_);have hv:(⟨(⟨0,30⟩:Field),(⟨30,2⟩:Field),(⟨32,2⟩:Field)⟩:Arr3F)=res:=Option.some.inj hD
 try dsimp only [Exit.then,Exit.inBlock]
 refine ar r rfl rfl (hP.cell (i:=0) rfl) (k:=6) rfl EC ?_;subst hv;exact ⟨rfl,hP.chg.below⟩
def D.jz (fu:Nat) (a0:List Field):Option (Bool):=(loopThen (fun (x1:Bool × Int × Int)=>(bif (decide (x1.2.2<(a0.length:Int))) then ((getI a0 x1.2.2).bind (fun (x6:Field)=>(Option.bind (bif (!(D.bR x6)) then (some true) else (some ((cw .u64 x1.2.1 (D.ce x6)) !=0))) (fun (x17:Bool)=>(bif x17 then (some (Lp.ret false)) else (some (Lp.next (x1.1,(dO .u64 x1.2.1 (D.ce x6)),(IntKind.i64.wrap (x1.2.2+1)))))))))) else (some (Lp.brk (x1.1,x1.2.1,x1.2.2))))) fu (false,0,0) (fun (x22:Bool × Int × Int)=>(some true)))
set_option maxRecDepth 20000 in
set_option maxHeartbeats 20000000 in
theorem sF {fu:Nat} (w0:World) {a0v:Value} (a0:List Field) (a0h:RoAt 219 2 aD a0v a0 w0) {res:Bool} (hD:D.jz fu a0=some res) :
    Calls Tryz.prog 233 #[a0v] w0 (bw (.bool res) w0):=by
 refine enter Tryz.func233 rfl 27 rfl rfl fun fr r=>?_;have hP:Post No [] w0 w0:=Post.nil w0
 have hP:Post No [roK 219 2 aD a0v a0] w0 w0:=hP.addRo dV a0h rfl a0h.lt;unfold D.jz at hD
 refine wsr (kA (.bool false) r rfl rfl fun r=>wn (wsr (kA (U 0) r rfl rfl fun r=>wn (wp_seq (wsr (kM a0v r rfl rfl fun r=>ac (I (a0.length:Int)) r (fun R=>dz r (hP.ro (i:=0) rfl) nC rfl) rfl fun fr r=>kM (I 0) r rfl rfl fun r=>wn ?_))))));refine fA (X:=Bool × Int × Int) (G:=Unit) (x0:=(false,0,0)) (fun x γ=>[(0,a0v),(6,a0v),(7,(I (a0.length:Int))),(2,(.bool x.1)),(3,(U x.2.1)),(8,(I x.2.2))]) (fun x γ w=>Post No [roK 219 2 aD a0v a0] w0 w) () r (kO (aq rfl (aq rfl aN))) hP hD ?_ ?_
 ·
  rintro x1 γ2 fr w4 g y3 RPy3 nxy3 bky3 rty3 r hP hD;have hP:Post No [roK 219 2 aD a0v a0] w0 w4:=hP;refine wsr (kB r rfl rfl rfl rfl rfl fun r=>wn (wp_seq ?_));refine wp_cond_split (t:=(decide (x1.2.2<(a0.length:Int)))) (r.ev rfl) (fun h5=>?_) (fun h5=>?_)
  ·
   have hD:=(az h5).symm.trans hD;refine wp_skip (wp_seq (wp_block (wsr ?_)));obtain ⟨x6,hx6,hD⟩:=aY hD;refine ac (.pointer (some ⟨rowB a0v,rowO a0v+x1.2.2.toNat * 2,none⟩)) r (fun R=>cO r (hP.ro (i:=0) rfl) hx6 qG rfl rfl) rfl fun fr r=>ac (.agg (aD x6).toArray) r (fun R=>oT r (cs:=(aD x6)) (RoAt.at_ (f:=aD) (x:=x6) (hP.ro (i:=0) rfl) (fun _=>rfl) hx6) rfl cQ) rfl fun fr r=>?_;refine ai (.cells ((aD (⟨0,0⟩:Field))).toArray 219 (0,0)) r (fun R=>ah j7) rfl fun fr b7 w8 n9 r=>?_
   have hP:Post No [roK 219 2 aD a0v a0,aa b7 ((aD (⟨0,0⟩:Field))).toArray 219] w0 w8:=hP.new n9;refine bh (.cells ((aD x6)).toArray 219 (0,0)) r (fun R=>aT r (o:=0) (v:=(.agg (aD x6).toArray)) rfl rfl (hP.cell (i:=1) rfl) j6 (Nat.le_of_ble_eq_true rfl) rfl rfl) rfl fun fr w11 u12 r=>?_;have hP:Post No [roK 219 2 aD a0v a0,aa b7 ((aD x6)).toArray 219] w0 w11:=hP.upd (i:=1) rfl u12
   refine wn (wp_seq (wp_seq ?_));refine cL (N:=27) (Y:=Bool) (G:=Unit) (fun x γ=>[(0,a0v),(6,a0v),(7,(I (a0.length:Int))),(2,(.bool x1.1)),(3,(U x1.2.1)),(8,(I x1.2.2)),(9,(.bool (decide (x1.2.2<(a0.length:Int))))),(5,(zp b7)),(21,(.bool x))]) (fun x γ w=>Post No [roK 219 2 aD a0v a0,aa b7 ((aD x6)).toArray 219] w0 w) hD ?_ ?_
   ·
    rintro y13 RPy13 nxy13 hD;refine wp_region_lit (kG (aD x6) 2 r rfl (hP.cell (i:=1) rfl) cQ rfl rfl fun r=>?_);refine kE r (j9 w11 x6) rfl kx rfl fun w14 hb r=>?_
    have hP:=hP.below hb;refine ac (.bool (!(D.bR x6))) r (fun R=>y_un r (u:=(.bool (D.bR x6))) rfl rfl) rfl fun fr r=>kM (.bool (!(D.bR x6))) r rfl rfl fun r=>?_;refine bA (!(D.bR x6)) (fun h15=>?_) (fun h15=>?_)
    ·
     have hD:=(az h15).symm.trans hD;refine s0 r h15 fun fr r=>s0 r h15 fun fr r=>s0 r h15 fun fr r=>s0 r h15 fun fr r=>s0 r h15 fun fr r=>ac (.bool true) r (fun R=>aw r (b:=true) (congrArg Value.bool h15) rfl) rfl fun fr r=>wn ?_;exact nxy13 true () _ _ _ hD r (kO (kO (aq rfl aN))) (hP.pick [0,1] rfl rfl)
    have hD:=(aB h15).symm.trans hD;refine s1 r h15 (kM (U x1.2.1) r rfl rfl fun r=>s1 r h15 (kG (aD x6) 2 r rfl (hP.cell (i:=1) rfl) cQ rfl rfl fun r=>s1 r h15 ?_));refine kE r (l9 w14 x6) rfl nA rfl fun w16 hb r=>?_
    have hP:=hP.below hb;refine s1 r h15 (kB r rfl rfl rfl rfl rfl fun r=>s1 r h15 (kB r rfl rfl rfl rfl rfl fun r=>ac (.bool ((cw .u64 x1.2.1 (D.ce x6)) !=0)) r (fun R=>aw r (b:=false) (congrArg Value.bool h15) rfl) rfl fun fr r=>wn ?_));exact nxy13 ((cw .u64 x1.2.1 (D.ce x6)) !=0) () _ _ _ hD r (kO (kO (aq rfl aN))) (hP.pick [0,1] rfl rfl)
   rintro x17 γ18 fr w19 g r hP hD;have hP:Post No [roK 219 2 aD a0v a0,aa b7 ((aD x6)).toArray 219] w0 w19:=hP;refine wp_cond_split (t:=x17) (r.ev rfl) (fun h20=>?_) (fun h20=>?_)
   ·
    have hD:=(az h20).symm.trans hD;refine wsr (kA (.bool false) r rfl rfl fun r=>wn (wp_ret ?_));refine rty3 false _ _ hD fun hD=>?_
    have hv:false=res:=Option.some.inj hD
    try dsimp only [Exit.then,Exit.inBlock]
    refine bg (fn:=Tryz.f233) r (t:=2) rfl (v:=(.bool false)) rfl ?_;subst hv;exact ⟨rfl,hP.chg.below⟩
   have hD:=(aB h20).symm.trans hD;refine wp_skip ?_;refine wp_region_lit (kM (U x1.2.1) r rfl rfl fun r=>kG (aD x6) 2 r rfl (hP.cell (i:=1) rfl) cQ rfl rfl fun r=>?_);refine kE r (l9 w19 x6) rfl nA rfl fun w21 hb r=>?_
   have hP:=hP.below hb;refine kB r rfl rfl rfl rfl rfl fun r=>kA (U (dO .u64 x1.2.1 (D.ce x6))) r rfl rfl fun r=>wn ?_;refine wp_region_lit (kB r rfl rfl rfl rfl rfl fun r=>kM (I (W (x1.2.2+1))) r rfl rfl fun r=>wn ?_)
   exact nxy3 (x1.1,(dO .u64 x1.2.1 (D.ce x6)),(W (x1.2.2+1))) () _ _ _ hD r (kO (aq rfl (aq rfl aN))) (hP.pick [0] rfl rfl)
  have hD:=(aB h5).symm.trans hD;refine wp_exit ?_;exact bky3 (x1.1,x1.2.1,x1.2.2) () _ _ _ hD r (kO (aq rfl (aq rfl aN))) (hP.pick [0] rfl rfl)
 rintro x22 γ23 fr w24 g r hP hD;have hP:Post No [roK 219 2 aD a0v a0] w0 w24:=hP;refine wsr (kA (.bool true) r rfl rfl fun r=>wn (wp_ret ?_));have hv:true=res:=Option.some.inj hD
 try dsimp only [Exit.then,Exit.inBlock]
 refine bg (fn:=Tryz.f233) r (t:=2) rfl (v:=(.bool true)) rfl ?_;subst hv;exact ⟨rfl,hP.chg.below⟩
def D.fW (fu:Nat) (a0:List Field) (a1:Int):Option (List Int × Int):=((D.jz fu a0).bind (fun (x1:Bool)=>(bif (!x1) then (some ([],1)) else (loopThen (fun (x6:List Int × Int × Int)=>(bif (decide (x6.2.2<(a0.length:Int))) then ((getI a0 x6.2.2).bind (fun (x11:Field)=>((appD x6.1 ([(D.bB x11 a1)])).bind (fun (x23:List Int)=>(some (Lp.next (x23,(ct .u64 x6.2.1 (D.ce x11)),(IntKind.i64.wrap (x6.2.2+1))))))))) else (some (Lp.brk (x6.1,x6.2.1,x6.2.2))))) fu ([],a1,0) (fun (x28:List Int × Int × Int)=>(bif (x28.2.1 !=0) then (some ([],10)) else (some (x28.1,0))))))))
set_option maxRecDepth 20000 in
set_option maxHeartbeats 20000000 in
theorem AG {fu:Nat} (w0:World) {a0v:Value} (a0:List Field) (a0h:RoAt 219 2 aD a0v a0 w0) (a1:Int) {res:List Int × Int} (hD:D.fW fu a0 a1=some res) :
    Calls Tryz.prog 136 #[a0v,.int .u64 a1] w0 (fun e w'=>∃ (v0:Value),e=.returned (.tuple #[v0,(.int .i64 res.2)])∧Done No No [rowK 36 1 u64 v0 res.1] w0 w'):=by
 refine enter Tryz.func136 rfl 34 rfl rfl fun fr r=>?_;have hP:Post No [] w0 w0:=Post.nil w0
 have hP:Post No [roK 219 2 aD a0v a0] w0 w0:=hP.addRo dV a0h rfl a0h.lt;unfold D.fW at hD
 refine wsr (kA kS r rfl rfl fun r=>kA (I 0) r rfl rfl fun r=>wn (wp_seq (wsr (kM a0v r rfl rfl fun r=>?_))));obtain ⟨x1,hx1,hD⟩:=aY hD
 refine kE r (sF w0 a0 (hP.ro (i:=0) rfl) hx1) rfl vW rfl fun w2 hb r=>?_;have hP:=hP.below hb
 refine ac (.bool (!x1)) r (fun R=>y_un r (u:=(.bool x1)) rfl rfl) rfl fun fr r=>wn ?_;refine wp_cond_split (t:=(!x1)) (r.ev rfl) (fun h3=>?_) (fun h3=>?_)
 ·
  have hD:=(az h3).symm.trans hD;refine wsr (kA kS r rfl rfl fun r=>kA (I 1) r rfl rfl fun r=>wn (wp_ret ?_));have hP:Post No [roK 219 2 aD a0v a0,rowK 36 1 u64 kS ([])] w0 w2:=hP.nilRow 36 1 u64
  have hv:([],1)=res:=Option.some.inj hD
  try dsimp only [Exit.then,Exit.inBlock]
  refine fB (fn:=Tryz.f136) r (t:=4) (t':=5) rfl (v:=kS) (v':=(I 1)) rfl rfl ?_;subst hv;exact ⟨kS,rfl,(hP.pick [1] rfl rfl).done (cP rfl dl)⟩
 have hD:=(aB h3).symm.trans hD;refine wp_skip (wsr (kA kS r rfl rfl fun r=>wn (wsr (kM (U a1) r rfl rfl fun r=>kA (U a1) r rfl rfl fun r=>wn (wp_seq (wsr (kM a0v r rfl rfl fun r=>ac (I (a0.length:Int)) r (fun R=>dz r (hP.ro (i:=0) rfl) nC rfl) rfl fun fr r=>kM (I 0) r rfl rfl fun r=>wn ?_)))))));have hP:Post No [roK 219 2 aD a0v a0,rowK 36 1 u64 kS ([])] w0 w2:=hP.nilRow 36 1 u64
 refine fA (X:=List Int × Int × Int) (G:=Value) (x0:=([],a1,0)) (fun x γ=>[(0,a0v),(1,(U a1)),(4,kS),(5,(I 0)),(12,(.bool (!x1))),(14,a0v),(15,(I (a0.length:Int))),(6,γ),(7,(U x.2.1)),(16,(I x.2.2))]) (fun x γ w=>Post No [roK 219 2 aD a0v a0,rowK 36 1 u64 γ x.1] w0 w) kS r (kO (kO (aq rfl (aq rfl aN)))) hP hD ?_ ?_
 ·
  rintro x6 γ7 fr w9 g y8 RPy8 nxy8 bky8 rty8 r hP hD;have hP:Post No [roK 219 2 aD a0v a0,rowK 36 1 u64 γ7 x6.1] w0 w9:=hP;refine wsr (kB r rfl rfl rfl rfl rfl fun r=>wn (wp_seq ?_));refine wp_cond_split (t:=(decide (x6.2.2<(a0.length:Int)))) (r.ev rfl) (fun h10=>?_) (fun h10=>?_)
  ·
   have hD:=(az h10).symm.trans hD;refine wp_skip (wp_seq (wp_block (wsr ?_)));obtain ⟨x11,hx11,hD⟩:=aY hD;refine ac (.pointer (some ⟨rowB a0v,rowO a0v+x6.2.2.toNat * 2,none⟩)) r (fun R=>cO r (hP.ro (i:=0) rfl) hx11 qG rfl rfl) rfl fun fr r=>ac (.agg (aD x11).toArray) r (fun R=>oT r (cs:=(aD x11)) (RoAt.at_ (f:=aD) (x:=x11) (hP.ro (i:=0) rfl) (fun _=>rfl) hx11) rfl cQ) rfl fun fr r=>?_;refine ai (.cells ((aD (⟨0,0⟩:Field))).toArray 219 (0,0)) r (fun R=>ah j7) rfl fun fr b12 w13 n14 r=>?_
   have hP:Post No [roK 219 2 aD a0v a0,rowK 36 1 u64 γ7 x6.1,aa b12 ((aD (⟨0,0⟩:Field))).toArray 219] w0 w13:=hP.new n14;refine bh (.cells ((aD x11)).toArray 219 (0,0)) r (fun R=>aT r (o:=0) (v:=(.agg (aD x11).toArray)) rfl rfl (hP.cell (i:=2) rfl) j6 (Nat.le_of_ble_eq_true rfl) rfl rfl) rfl fun fr w16 u17 r=>?_;have hP:Post No [roK 219 2 aD a0v a0,rowK 36 1 u64 γ7 x6.1,aa b12 ((aD x11)).toArray 219] w0 w16:=hP.upd (i:=2) rfl u17
   refine wn (wsr (kM γ7 r rfl rfl fun r=>kG (aD x11) 2 r rfl (hP.cell (i:=2) rfl) cQ rfl rfl fun r=>kM (U a1) r rfl rfl fun r=>?_));refine kE r (lm w16 x11 a1) rfl kv rfl fun w18 hb r=>?_
   have hP:=hP.below hb;refine mD (.cells (([(D.bB x11 a1)]).flatMap u64).toArray 36 (0,0)) 1 r (fun R=>dM r kz) rfl fun fr b19 w20 n21 r=>?_;have hP:Post No [roK 219 2 aD a0v a0,rowK 36 1 u64 γ7 x6.1,aa b12 ((aD x11)).toArray 219,rowK 36 1 u64 (.slice (some ⟨b19,0,none⟩) 1 1) ([(D.bB x11 a1)])] w0 w20:=hP.newRow n21 (fun _=>rfl) rfl
   obtain ⟨x23,hx23,hD⟩:=aY hD;refine vh 36 1 u64 γ7 r (fun R=>uF r rt81 (fun _=>rfl) (fun _=>rfl) (hP.row (i:=1) rfl) (hP.row (i:=3) rfl).ro hx23 rfl rfl) rfl fun fr v24 w25 ha26 r=>?_;have hP:Post No [roK 219 2 aD a0v a0,rowK 36 1 u64 v24 x23,aa b12 ((aD x11)).toArray 219,rowK 36 1 u64 (.slice (some ⟨b19,0,none⟩) 1 1) ([(D.bB x11 a1)])] w0 w25:=hP.append (i:=1) rfl ha26
   refine kA v24 r rfl rfl fun r=>wn ?_;refine wp_region_lit (kM (U x6.2.1) r rfl rfl fun r=>kG (aD x11) 2 r rfl (hP.cell (i:=2) rfl) cQ rfl rfl fun r=>?_)
   refine kE r (l9 w25 x11) rfl nA rfl fun w27 hb r=>?_;have hP:=hP.below hb
   refine kB r rfl rfl rfl rfl rfl fun r=>kA (U (ct .u64 x6.2.1 (D.ce x11))) r rfl rfl fun r=>wn ?_;refine wp_region_lit (kB r rfl rfl rfl rfl rfl fun r=>kM (I (W (x6.2.2+1))) r rfl rfl fun r=>wn ?_)
   exact nxy8 (x23,(ct .u64 x6.2.1 (D.ce x11)),(W (x6.2.2+1))) v24 _ _ _ hD r (kO (kO (aq rfl (aq rfl aN)))) (hP.pick [0,1] rfl rfl)
  have hD:=(aB h10).symm.trans hD;refine wp_exit ?_;exact bky8 (x6.1,x6.2.1,x6.2.2) γ7 _ _ _ hD r (kO (kO (aq rfl (aq rfl aN)))) (hP.pick [0,1] rfl rfl)
 rintro x28 γ29 fr w30 g r hP hD;have hP:Post No [roK 219 2 aD a0v a0,rowK 36 1 u64 γ29 x28.1] w0 w30:=hP;refine wp_seq (wsr (kM (U x28.2.1) r rfl rfl fun r=>kB r rfl rfl rfl rfl rfl fun r=>wn ?_));refine wp_cond_split (t:=(x28.2.1 !=0)) (r.ev rfl) (fun h31=>?_) (fun h31=>?_)
 ·
  have hD:=(az h31).symm.trans hD;refine wsr (kA kS r rfl rfl fun r=>kA (I 10) r rfl rfl fun r=>wn (wp_ret ?_));have hP:Post No [roK 219 2 aD a0v a0,rowK 36 1 u64 γ29 x28.1,rowK 36 1 u64 kS ([])] w0 w30:=hP.nilRow 36 1 u64
  have hv:([],10)=res:=Option.some.inj hD
  try dsimp only [Exit.then,Exit.inBlock]
  refine fB (fn:=Tryz.f136) r (t:=4) (t':=5) rfl (v:=kS) (v':=(I 10)) rfl rfl ?_;subst hv;exact ⟨kS,rfl,(hP.pick [2] rfl rfl).done (cP rfl dl)⟩
 have hD:=(aB h31).symm.trans hD;refine wp_skip (wsr (kM γ29 r rfl rfl fun r=>kA γ29 r rfl rfl fun r=>kA (I 0) r rfl rfl fun r=>wn (wp_ret ?_)));have hv:(x28.1,0)=res:=Option.some.inj hD
 try dsimp only [Exit.then,Exit.inBlock]
 refine fB (fn:=Tryz.f136) r (t:=4) (t':=5) rfl (v:=γ29) (v':=(I 0)) rfl rfl ?_;subst hv;exact ⟨γ29,rfl,(hP.pick [1] rfl rfl).done (cP rfl dl)⟩
def D.aQ (fu:Nat) (a0:Int):Option (State × Bool):=((D.lX fu ).bind (fun (x5:Arr3F)=>((D.fW fu ([x5.f0,x5.f1,x5.f2]) a0).bind (fun (x13:List Int × Int)=>(bif (x13.2 !=0) then (some ((⟨0,0,0⟩:State),false)) else ((getI x13.1 0).bind (fun (x20:Int)=>((getI x13.1 1).bind (fun (x21:Int)=>((getI x13.1 2).bind (fun (x22:Int)=>(bif (!(D.cM (⟨(IntKind.i64.wrap x20),(IntKind.i64.wrap x21),(IntKind.i64.wrap x22)⟩:State))) then (some ((⟨0,0,0⟩:State),false)) else (some ((⟨(IntKind.i64.wrap x20),(IntKind.i64.wrap x21),(IntKind.i64.wrap x22)⟩:State),true))))))))))))))
set_option maxRecDepth 20000 in
set_option maxHeartbeats 20000000 in
theorem jJ {fu:Nat} (w0:World) (a0:Int) {res:State × Bool} (hD:D.aQ fu a0=some res) :
    Calls Tryz.prog 63 #[.int .u64 a0] w0 (bw (.tuple #[(.agg (aH res.1).toArray),(.bool res.2)]) w0):=by
 refine enter Tryz.func63 rfl 36 rfl rfl fun fr r=>?_;have hP:Post No [] w0 w0:=Post.nil w0
 unfold D.aQ at hD
 refine wsr ?_;refine ai (.cells ((aH (⟨0,0,0⟩:State))).toArray 137 (0,0)) r (fun R=>ah fG) rfl fun fr b1 w2 n3 r=>?_;have hP:Post No [aa b1 ((aH (⟨0,0,0⟩:State))).toArray 137] w0 w2:=hP.new n3
 refine kA (.bool false) r rfl rfl fun r=>wn (wsr ?_);obtain ⟨x5,hx5,hD⟩:=aY hD
 refine kE r (sG w2  hx5) rfl vX rfl fun w6 hb r=>?_;have hP:=hP.below hb
 refine ai (.cells ((cF (⟨(⟨0,0⟩:Field),(⟨0,0⟩:Field),(⟨0,0⟩:Field)⟩:Arr3F))).toArray 220 (0,0)) r (fun R=>ah qD) rfl fun fr b7 w8 n9 r=>?_;have hP:Post No [aa b1 ((aH (⟨0,0,0⟩:State))).toArray 137,aa b7 ((cF (⟨(⟨0,0⟩:Field),(⟨0,0⟩:Field),(⟨0,0⟩:Field)⟩:Arr3F))).toArray 220] w0 w8:=hP.new n9
 refine bh (.cells ((cF x5)).toArray 220 (0,0)) r (fun R=>aT r (o:=0) (v:=(.agg (cF x5).toArray)) rfl rfl (hP.cell (i:=1) rfl) qM (Nat.le_of_ble_eq_true rfl) rfl rfl) rfl fun fr w11 u12 r=>?_;have hP:Post No [aa b1 ((aH (⟨0,0,0⟩:State))).toArray 137,aa b7 ((cF x5)).toArray 220] w0 w11:=hP.upd (i:=1) rfl u12
 refine wn (wsr (ac (.slice (some ⟨b7,0,none⟩) 3 3) r (fun R=>wJ r wA rfl) rfl fun fr r=>kM (U a0) r rfl rfl fun r=>?_));obtain ⟨x13,hx13,hD⟩:=aY hD
 refine kC r (AG w11 ([x5.f0,x5.f1,x5.f2]) (RoAt.ofCell (hP.cell (i:=1) rfl) rfl (List.cons_ne_nil _ _) rfl) a0 hx13) rfl EM rfl ?_;rintro _ w14 ⟨v15,rfl,hq⟩;refine ⟨_,rfl,fun fr r=>?_⟩
 have hP:Post No [aa b1 ((aH (⟨0,0,0⟩:State))).toArray 137,aa b7 ((cF x5)).toArray 220,rowK 36 1 u64 v15 x13.1] w0 w14:=hP.add hq;refine kM (.tuple #[v15,(I x13.2)]) r rfl rfl fun r=>ac v15 r (fun R=>bM r (vs:=#[v15,(I x13.2)]) rfl rfl) rfl fun fr r=>ac (I x13.2) r (fun R=>bM r (vs:=#[v15,(I x13.2)]) rfl rfl) rfl fun fr r=>kA v15 r rfl rfl fun r=>kA (I x13.2) r rfl rfl fun r=>wn (wp_seq (wsr (kM (I x13.2) r rfl rfl fun r=>kB r rfl rfl rfl rfl rfl fun r=>wn ?_)));refine wp_cond_split (t:=(x13.2 !=0)) (r.ev rfl) (fun h17=>?_) (fun h17=>?_)
 ·
  have hD:=(az h17).symm.trans hD;refine wsr (kU (.agg (aH (⟨0,0,0⟩:State)).toArray) r kz rfl fun r=>?_)
  refine bh (.cells ((aH (⟨0,0,0⟩:State))).toArray 137 (0,0)) r (fun R=>aT r (o:=0) (v:=(.agg (aH (⟨0,0,0⟩:State)).toArray)) rfl rfl (hP.cell (i:=0) rfl) ep (Nat.le_of_ble_eq_true rfl) rfl rfl) rfl fun fr w18 u19 r=>?_;have hP:Post No [aa b1 ((aH (⟨0,0,0⟩:State))).toArray 137,aa b7 ((cF x5)).toArray 220,rowK 36 1 u64 v15 x13.1] w0 w18:=hP.upd (i:=0) rfl u19
  refine kA (.bool false) r rfl rfl fun r=>wn (wp_ret ?_);have hv:((⟨0,0,0⟩:State),false)=res:=Option.some.inj hD
  try dsimp only [Exit.then,Exit.inBlock]
  refine fk (fn:=Tryz.f63) r rfl rfl (v':=(.bool false)) rfl (hP.cell (i:=0) rfl) (k:=3) rfl dG ?_;subst hv;exact ⟨rfl,hP.chg.below⟩
 have hD:=(aB h17).symm.trans hD;refine wp_skip (wp_seq ?_);obtain ⟨x20,hx20,hD⟩:=aY hD;obtain ⟨x21,hx21,hD⟩:=aY hD;obtain ⟨x22,hx22,hD⟩:=aY hD;refine dL [.val v15,.val (.pointer (some ⟨rowB v15,rowO v15+(0:Int).toNat * 1,none⟩)),.val (U x20),.val (I (W x20)),.val v15,.val (.pointer (some ⟨rowB v15,rowO v15+(1:Int).toNat * 1,none⟩)),.val (U x21),.val (I (W x21)),.val v15,.val (.pointer (some ⟨rowB v15,rowO v15+(2:Int).toNat * 1,none⟩)),.val (U x22),.val (I (W x22)),.val (.agg (aH (⟨(W x20),(W x21),(W x22)⟩:State)).toArray),.cell 137 3,.stored 13 ((aH (⟨(W x20),(W x21),(W x22)⟩:State))).toArray 137 3 rfl] mixed r kz ?_ ?_
 ·
  refine fc r (fun fr1 g w' hb' hd r'=>ay r' rfl bz) ?_;refine fc r (fun fr1 g w' hb' hd r'=>cO r' ((hP.below (dr hb')).row (i:=2) rfl).ro hx20 sl81 (hd 0 rfl).1 rfl bz) ?_
  refine fc r (fun fr1 g w' hb' hd r'=>dg r' (u:=(U x20)) (RoAt.at_ (f:=u64) (x:=x20) ((hP.below (dr hb')).row (i:=2) rfl).ro (fun _=>rfl) hx20) (hd 1 rfl).1 to36 bz) ?_;refine fc r (fun fr1 g w' hb' hd r'=>cK r' (n:=x20) (hd 2 rfl).1 ti36 ti3 bz) ?_
  refine fc r (fun fr1 g w' hb' hd r'=>ay r' rfl bz) ?_;refine fc r (fun fr1 g w' hb' hd r'=>cO r' ((hP.below (dr hb')).row (i:=2) rfl).ro hx21 sl81 (hd 4 rfl).1 rfl bz) ?_
  refine fc r (fun fr1 g w' hb' hd r'=>dg r' (u:=(U x21)) (RoAt.at_ (f:=u64) (x:=x21) ((hP.below (dr hb')).row (i:=2) rfl).ro (fun _=>rfl) hx21) (hd 5 rfl).1 to36 bz) ?_;refine fc r (fun fr1 g w' hb' hd r'=>cK r' (n:=x21) (hd 6 rfl).1 ti36 ti3 bz) ?_
  refine fc r (fun fr1 g w' hb' hd r'=>ay r' rfl bz) ?_;refine fc r (fun fr1 g w' hb' hd r'=>cO r' ((hP.below (dr hb')).row (i:=2) rfl).ro hx22 sl81 (hd 8 rfl).1 rfl bz) ?_
  refine fc r (fun fr1 g w' hb' hd r'=>dg r' (u:=(U x22)) (RoAt.at_ (f:=u64) (x:=x22) ((hP.below (dr hb')).row (i:=2) rfl).ro (fun _=>rfl) hx22) (hd 9 rfl).1 to36 bz) ?_;refine fc r (fun fr1 g w' hb' hd r'=>cK r' (n:=x22) (hd 10 rfl).1 ti36 ti3 bz) ?_
  refine fc r (fun fr1 g w' hb' hd r'=>eL r' (v:=(.agg (aH (⟨(W x20),(W x21),(W x22)⟩:State)).toArray)) (bs3 (congrArg (fun z=>(0,z)) (hd 3 rfl).1) (congrArg (fun z=>(1,z)) (hd 7 rfl).1) (congrArg (fun z=>(2,z)) (hd 11 rfl).1) kz) bz) ?_;refine fc r (fun fr1 g w' hb' hd r'=>ah fG (fun b w2 n2=>⟨n2.below,b,rfl,n2.eq,_,n2.at_,rfl⟩)) ?_
  refine mg r rfl (fun fr1 g w' hb' hd r'=>?_) ?_
  · obtain ⟨hp,_,c,hc,hn⟩:=(hd 13 rfl).1; exact aT r' (o:=0) (c:=c) (v:=(.agg (aH (⟨(W x20),(W x21),(W x22)⟩:State)).toArray)) hp (hd 12 rfl).1 hc ep (by rw [hn]; exact Nat.le_of_ble_eq_true rfl) rfl (eH (hn.trans rfl)) (fun w2 u2=>⟨u2,rfl⟩)
  exact cc
 intro fr gg w24 hb hΦ hap r;obtain ⟨b23,ee_b23⟩:∃ b,b=(gg 13).lo:=⟨_,rfl⟩;have g13:(gg 13).v=(zp b23):=by rw [ee_b23]; exact (hΦ 13 rfl).1.1
 have H23:w24.heap[b23]?=some (.cells ((aH (⟨(W x20),(W x21),(W x22)⟩:State))).toArray 137 (0,0)):=by rw [ee_b23]; exact (hΦ 14 rfl).1.2
 have hs13:bP [aa b23 ((aH (⟨(W x20),(W x21),(W x22)⟩:State))).toArray 137] (gg 13).lo (gg 13).hi w24:=by subst ee_b23; exact bP.cell (hΦ 13 rfl).1.2.1 H23
 have r:=r.congr (sc g13 (sc ((hΦ 12 rfl).1) (sc ((hΦ 11 rfl).1) (sc ((hΦ 10 rfl).1) (sc ((hΦ 9 rfl).1) (sc ((hΦ 8 rfl).1) (sc ((hΦ 7 rfl).1) (sc ((hΦ 6 rfl).1) (sc ((hΦ 5 rfl).1) (sc ((hΦ 4 rfl).1) (sc ((hΦ 3 rfl).1) (sc ((hΦ 2 rfl).1) (sc ((hΦ 1 rfl).1) (sc ((hΦ 0 rfl).1) rfl))))))))))))));have hP:Post No [aa b1 ((aH (⟨0,0,0⟩:State))).toArray 137,aa b7 ((cF x5)).toArray 220,rowK 36 1 u64 v15 x13.1,aa b23 ((aH (⟨(W x20),(W x21),(W x22)⟩:State))).toArray 137] w0 w24:=hP.addL (l:=[([aa b23 ((aH (⟨(W x20),(W x21),(W x22)⟩:State))).toArray 137],(gg 13).lo,(gg 13).hi)]) hb ⟨hs13,(hΦ 13 rfl).2.1,cS,trivial⟩;refine wp_seq (wsr (kG (aH (⟨(W x20),(W x21),(W x22)⟩:State)) 3 r rfl (hP.cell (i:=3) rfl) dG rfl rfl fun r=>?_));refine kE r (rJ w24 (⟨(W x20),(W x21),(W x22)⟩:State)) rfl wu rfl fun w25 hb r=>?_
 have hP:=hP.below hb;refine ac (.bool (!(D.cM (⟨(W x20),(W x21),(W x22)⟩:State)))) r (fun R=>y_un r (u:=(.bool (D.cM (⟨(W x20),(W x21),(W x22)⟩:State)))) rfl rfl) rfl fun fr r=>wn ?_;refine wp_cond_split (t:=(!(D.cM (⟨(W x20),(W x21),(W x22)⟩:State)))) (r.ev rfl) (fun h26=>?_) (fun h26=>?_)
 ·
  have hD:=(az h26).symm.trans hD;refine wsr (kU (.agg (aH (⟨0,0,0⟩:State)).toArray) r kz rfl fun r=>?_)
  refine bh (.cells ((aH (⟨0,0,0⟩:State))).toArray 137 (0,0)) r (fun R=>aT r (o:=0) (v:=(.agg (aH (⟨0,0,0⟩:State)).toArray)) rfl rfl (hP.cell (i:=0) rfl) ep (Nat.le_of_ble_eq_true rfl) rfl rfl) rfl fun fr w27 u28 r=>?_;have hP:Post No [aa b1 ((aH (⟨0,0,0⟩:State))).toArray 137,aa b7 ((cF x5)).toArray 220,rowK 36 1 u64 v15 x13.1,aa b23 ((aH (⟨(W x20),(W x21),(W x22)⟩:State))).toArray 137] w0 w27:=hP.upd (i:=0) rfl u28
  refine kA (.bool false) r rfl rfl fun r=>wn (wp_ret ?_);have hv:((⟨0,0,0⟩:State),false)=res:=Option.some.inj hD
  try dsimp only [Exit.then,Exit.inBlock]
  refine fk (fn:=Tryz.f63) r rfl rfl (v':=(.bool false)) rfl (hP.cell (i:=0) rfl) (k:=3) rfl dG ?_;subst hv;exact ⟨rfl,hP.chg.below⟩
 have hD:=(aB h26).symm.trans hD;refine wp_skip (wsr (kG (aH (⟨(W x20),(W x21),(W x22)⟩:State)) 3 r rfl (hP.cell (i:=3) rfl) dG rfl rfl fun r=>?_));refine bh (.cells ((aH (⟨(W x20),(W x21),(W x22)⟩:State))).toArray 137 (0,0)) r (fun R=>aT r (o:=0) (v:=(.agg (aH (⟨(W x20),(W x21),(W x22)⟩:State)).toArray)) rfl rfl (hP.cell (i:=0) rfl) ep (Nat.le_of_ble_eq_true rfl) rfl rfl) rfl fun fr w29 u30 r=>?_
 have hP:Post No [aa b1 ((aH (⟨(W x20),(W x21),(W x22)⟩:State))).toArray 137,aa b7 ((cF x5)).toArray 220,rowK 36 1 u64 v15 x13.1,aa b23 ((aH (⟨(W x20),(W x21),(W x22)⟩:State))).toArray 137] w0 w29:=hP.upd (i:=0) rfl u30;refine kA (.bool true) r rfl rfl fun r=>wn (wp_ret ?_);have hv:((⟨(W x20),(W x21),(W x22)⟩:State),true)=res:=Option.some.inj hD
 try dsimp only [Exit.then,Exit.inBlock]
 refine fk (fn:=Tryz.f63) r rfl rfl (v':=(.bool true)) rfl (hP.cell (i:=0) rfl) (k:=3) rfl dG ?_;subst hv;exact ⟨rfl,hP.chg.below⟩
def D.gU (fu:Nat) (a0:List Field) (a1:List Int):Option (Int × Int):=(Option.bind ((D.jz fu a0).bind (fun (x2:Bool)=>(bif (!x2) then (some true) else (some ((a0.length:Int) !=(a1.length:Int)))))) (fun (x5:Bool)=>(bif x5 then (some (0,1)) else (loopThen (fun (x9:Int × Int × Int × Int)=>(bif (decide (x9.2.2.2<(a0.length:Int))) then ((getI a0 x9.2.2.2).bind (fun (x14:Field)=>((getI a1 x9.2.2.2).bind (fun (x21:Int)=>(bif (decide (x21 > (D.bQ x14))) then (some (Lp.ret (0,1))) else ((getI a1 x9.2.2.2).bind (fun (x24:Int)=>(some (Lp.next (x9.1,x9.2.1,(D.cD x14 x9.2.2.1 x24),(IntKind.i64.wrap (x9.2.2.2+1)))))))))))) else (some (Lp.brk (x9.1,x9.2.1,x9.2.2.1,x9.2.2.2))))) fu (0,0,0,0) (fun (x26:Int × Int × Int × Int)=>(some (x26.2.2.1,0)))))))
set_option maxRecDepth 20000 in
set_option maxHeartbeats 20000000 in
theorem Bb {fu:Nat} (w0:World) {a0v:Value} (a0:List Field) (a0h:RoAt 219 2 aD a0v a0 w0) {a1v:Value} (a1:List Int) (a1h:RoAt 36 1 u64 a1v a1 w0) {res:Int × Int} (hD:D.gU fu a0 a1=some res) :
    Calls Tryz.prog 269 #[a0v,a1v] w0 (bw (.tuple #[(.int .u64 res.1),(.int .i64 res.2)]) w0):=by
 refine enter Tryz.func269 rfl 42 rfl rfl fun fr r=>?_;have hP:Post No [] w0 w0:=Post.nil w0
 have hP:Post No [roK 219 2 aD a0v a0] w0 w0:=hP.addRo dV a0h rfl a0h.lt;have hP:Post No [roK 219 2 aD a0v a0,roK 36 1 u64 a1v a1] w0 w0:=hP.addRo (ur rfl dV) a1h rfl a1h.lt;unfold D.gU at hD
 refine wsr (kA (U 0) r rfl rfl fun r=>kA (I 0) r rfl rfl fun r=>wn (wp_seq (wp_seq ?_)));refine cL (N:=42) (Y:=Bool) (G:=Unit) (fun x γ=>[(0,a0v),(1,a1v),(4,(U 0)),(5,(I 0)),(18,(.bool x))]) (fun x γ w=>Post No [roK 219 2 aD a0v a0,roK 36 1 u64 a1v a1] w0 w) hD ?_ ?_
 ·
  rintro y1 RPy1 nxy1 hD;refine wp_region_lit (kM a0v r rfl rfl fun r=>?_);obtain ⟨x2,hx2,hD⟩:=aY hD
  refine kE r (sF w0 a0 (hP.ro (i:=0) rfl) hx2) rfl vW rfl fun w3 hb r=>?_;have hP:=hP.below hb
  refine ac (.bool (!x2)) r (fun R=>y_un r (u:=(.bool x2)) rfl rfl) rfl fun fr r=>kM (.bool (!x2)) r rfl rfl fun r=>?_;refine bA (!x2) (fun h4=>?_) (fun h4=>?_)
  ·
   have hD:=(az h4).symm.trans hD;refine s0 r h4 fun fr r=>s0 r h4 fun fr r=>s0 r h4 fun fr r=>s0 r h4 fun fr r=>s0 r h4 fun fr r=>ac (.bool true) r (fun R=>aw r (b:=true) (congrArg Value.bool h4) rfl) rfl fun fr r=>wn ?_;exact nxy1 true () _ _ _ hD r (kO (aq rfl aN)) (hP.pick [0,1] rfl rfl)
  have hD:=(aB h4).symm.trans hD;refine s1 r h4 (kM a0v r rfl rfl fun r=>s1 r h4 (ac (I (a0.length:Int)) r (fun R=>dz r (hP.ro (i:=0) rfl) nC rfl) rfl fun fr r=>s1 r h4 (kM a1v r rfl rfl fun r=>s1 r h4 (ac (I (a1.length:Int)) r (fun R=>dz r (hP.ro (i:=1) rfl) is81 rfl) rfl fun fr r=>s1 r h4 (kB r rfl rfl rfl rfl rfl fun r=>ac (.bool ((a0.length:Int) !=(a1.length:Int))) r (fun R=>aw r (b:=false) (congrArg Value.bool h4) rfl) rfl fun fr r=>wn ?_)))));exact nxy1 ((a0.length:Int) !=(a1.length:Int)) () _ _ _ hD r (kO (aq rfl aN)) (hP.pick [0,1] rfl rfl)
 rintro x5 γ6 fr w7 g r hP hD;have hP:Post No [roK 219 2 aD a0v a0,roK 36 1 u64 a1v a1] w0 w7:=hP;refine wp_cond_split (t:=x5) (r.ev rfl) (fun h8=>?_) (fun h8=>?_)
 ·
  have hD:=(az h8).symm.trans hD;refine wsr (kA (U 0) r rfl rfl fun r=>kA (I 1) r rfl rfl fun r=>wn (wp_ret ?_));have hv:(0,1)=res:=Option.some.inj hD
  try dsimp only [Exit.then,Exit.inBlock]
  refine fB (fn:=Tryz.f269) r (t:=4) (t':=5) rfl (v:=(U 0)) (v':=(I 1)) rfl rfl ?_;subst hv;exact ⟨rfl,hP.chg.below⟩
 have hD:=(aB h8).symm.trans hD;refine wp_skip (wsr (kA (U 0) r rfl rfl fun r=>wn (wp_seq (wsr (kM a0v r rfl rfl fun r=>ac (I (a0.length:Int)) r (fun R=>dz r (hP.ro (i:=0) rfl) nC rfl) rfl fun fr r=>kM (I 0) r rfl rfl fun r=>wn ?_)))));refine fA (X:=Int × Int × Int × Int) (G:=Unit) (x0:=(0,0,0,0)) (fun x γ=>[(0,a0v),(1,a1v),(18,(.bool x5)),(19,a0v),(20,(I (a0.length:Int))),(4,(U x.1)),(5,(I x.2.1)),(6,(U x.2.2.1)),(21,(I x.2.2.2))]) (fun x γ w=>Post No [roK 219 2 aD a0v a0,roK 36 1 u64 a1v a1] w0 w) () r (kO (kO (aq rfl aN))) hP hD ?_ ?_
 ·
  rintro x9 γ10 fr w12 g y11 RPy11 nxy11 bky11 rty11 r hP hD;have hP:Post No [roK 219 2 aD a0v a0,roK 36 1 u64 a1v a1] w0 w12:=hP;refine wsr (kB r rfl rfl rfl rfl rfl fun r=>wn (wp_seq ?_));refine wp_cond_split (t:=(decide (x9.2.2.2<(a0.length:Int)))) (r.ev rfl) (fun h13=>?_) (fun h13=>?_)
  ·
   have hD:=(az h13).symm.trans hD;refine wp_skip (wp_seq (wp_block (wsr (kM (I x9.2.2.2) r rfl rfl fun r=>?_))));obtain ⟨x14,hx14,hD⟩:=aY hD
   refine ac (.pointer (some ⟨rowB a0v,rowO a0v+x9.2.2.2.toNat * 2,none⟩)) r (fun R=>cO r (hP.ro (i:=0) rfl) hx14 qG rfl rfl) rfl fun fr r=>ac (.agg (aD x14).toArray) r (fun R=>oT r (cs:=(aD x14)) (RoAt.at_ (f:=aD) (x:=x14) (hP.ro (i:=0) rfl) (fun _=>rfl) hx14) rfl cQ) rfl fun fr r=>?_;refine ai (.cells ((aD (⟨0,0⟩:Field))).toArray 219 (0,0)) r (fun R=>ah j7) rfl fun fr b15 w16 n17 r=>?_
   have hP:Post No [roK 219 2 aD a0v a0,roK 36 1 u64 a1v a1,aa b15 ((aD (⟨0,0⟩:Field))).toArray 219] w0 w16:=hP.new n17;refine kA (I x9.2.2.2) r rfl rfl fun r=>?_;refine bh (.cells ((aD x14)).toArray 219 (0,0)) r (fun R=>aT r (o:=0) (v:=(.agg (aD x14).toArray)) rfl rfl (hP.cell (i:=2) rfl) j6 (Nat.le_of_ble_eq_true rfl) rfl rfl) rfl fun fr w19 u20 r=>?_
   have hP:Post No [roK 219 2 aD a0v a0,roK 36 1 u64 a1v a1,aa b15 ((aD x14)).toArray 219] w0 w19:=hP.upd (i:=2) rfl u20;refine wn (wp_seq (wp_seq ?_));obtain ⟨x21,hx21,hD⟩:=aY hD;refine dL [.val a1v,.val (I x9.2.2.2),.val (.pointer (some ⟨rowB a1v,rowO a1v+x9.2.2.2.toNat * 1,none⟩)),.val (U x21),.val (.agg (aD x14).toArray),.val (U (D.bQ x14)),.val (.bool (decide (x21 > (D.bQ x14))))] mixed r kz ?_ ?_
   ·
    refine fc r (fun fr1 g w' hb' hd r'=>ay r' rfl bz) ?_;refine fc r (fun fr1 g w' hb' hd r'=>ay r' rfl bz) ?_
    refine fc r (fun fr1 g w' hb' hd r'=>cO r' ((hP.below (dr hb')).ro (i:=1) rfl) hx21 sl81 (hd 0 rfl).1 (hd 1 rfl).1 bz) ?_;refine fc r (fun fr1 g w' hb' hd r'=>dg r' (u:=(U x21)) (RoAt.at_ (f:=u64) (x:=x21) ((hP.below (dr hb')).ro (i:=1) rfl) (fun _=>rfl) hx21) (hd 2 rfl).1 to36 bz) ?_
    refine fc r (fun fr1 g w' hb' hd r'=>aS r' (cs:=(aD x14)) (n:=2) rfl ((hP.below (dr hb')).cell (i:=2) rfl) cQ rfl bz) ?_;refine fc r (fun fr1 g w' hb' hd r'=>aJ r' (args:=[(.agg (aD x14).toArray)]) (lc (hd 4 rfl).1 l0) nz ((ld _ x14).mono (by rintro _ w2 ⟨rfl,hb2⟩; exact ⟨_,rfl,hb2,rfl⟩))) ?_
    refine fc r (fun fr1 g w' hb' hd r'=>bc r' (hd 3 rfl).1 (hd 5 rfl).1 rfl rfl bz) ?_;exact cc
   intro fr gg w22 hb hΦ hap r;have r:=r.congr (sc ((hΦ 6 rfl).1) (sc ((hΦ 5 rfl).1) (sc ((hΦ 4 rfl).1) (sc ((hΦ 3 rfl).1) (sc ((hΦ 2 rfl).1) (sc ((hΦ 1 rfl).1) (sc ((hΦ 0 rfl).1) rfl)))))));have hP:=hP.below hb;refine wp_cond_split (t:=(decide (x21 > (D.bQ x14)))) (r.ev rfl) (fun h23=>?_) (fun h23=>?_)
   ·
    have hD:=(az h23).symm.trans hD;refine wsr (kA (U 0) r rfl rfl fun r=>kA (I 1) r rfl rfl fun r=>wn (wp_ret ?_));refine rty11 (0,1) _ _ hD fun hD=>?_
    have hv:(0,1)=res:=Option.some.inj hD
    try dsimp only [Exit.then,Exit.inBlock]
    refine fB (fn:=Tryz.f269) r (t:=4) (t':=5) rfl (v:=(U 0)) (v':=(I 1)) rfl rfl ?_;subst hv;exact ⟨rfl,hP.chg.below⟩
   have hD:=(aB h23).symm.trans hD;refine wp_skip ?_;obtain ⟨x24,hx24,hD⟩:=aY hD;refine bI 7 [.val (.agg (aD x14).toArray),.val (U x9.2.2.1),.val a1v,.val (I x9.2.2.2),.val (.pointer (some ⟨rowB a1v,rowO a1v+x9.2.2.2.toNat * 1,none⟩)),.val (U x24),.val (U (D.cD x14 x9.2.2.1 x24))] mixed r kz (kV (kV (kV (kV (kV (kV (kV bH))))))) ?_ ?_
   ·
    refine ec r (fun _ u _ b d s=>aS s (cs:=(aD x14)) (n:=2) rfl ((hP.below (dr b)).cell (i:=2) rfl) cQ rfl bz) (ec r (fun _ u _ b d s=>ay s rfl bz) (ec r (fun _ u _ b d s=>ay s rfl bz) (ec r (fun _ u _ b d s=>ay s rfl bz) (ec r (fun _ u _ b d s=>cO s ((hP.below (dr b)).ro (i:=1) rfl) hx24 sl81 d.1 d.2.1 bz) (ec r (fun fr1 u w' hb' hd r'=>dg r' (u:=(U x24)) (RoAt.at_ (f:=u64) (x:=x24) ((hP.below (dr hb')).ro (i:=1) rfl) (fun _=>rfl) hx24) hd.1 to36 bz) (ec r (fun fr1 u w' hb' hd r'=>aJ r' (args:=[(.agg (aD x14).toArray),(U x9.2.2.1),(U x24)]) (lc hd.1 (lc hd.2.1 (lc hd.2.2.1 l0))) nB ((nZ _ x14 x9.2.2.1 x24).mono (by rintro _ w2 ⟨rfl,hb2⟩; exact ⟨_,rfl,hb2,rfl⟩))) ?_))))));exact bJ
   intro fr u w25 hb hΦ hne r;have r:=r.congr (sc (hΦ 6 ke) (sc (hΦ 5 ke) (sc (hΦ 4 ke) (sc (hΦ 3 ke) (sc (hΦ 2 ke) (sc (hΦ 1 ke) (sc (hΦ 0 ke) rfl)))))));have hP:=hP.below hb;refine kA (U (D.cD x14 x9.2.2.1 x24)) r rfl rfl fun r=>wn ?_;refine wp_region_lit (kB r rfl rfl rfl rfl rfl fun r=>kM (I (W (x9.2.2.2+1))) r rfl rfl fun r=>wn ?_)
   exact nxy11 (x9.1,x9.2.1,(D.cD x14 x9.2.2.1 x24),(W (x9.2.2.2+1))) () _ _ _ hD r (kO (kO (aq rfl aN))) (hP.pick [0,1] rfl rfl)
  have hD:=(aB h13).symm.trans hD;refine wp_exit ?_;exact bky11 (x9.1,x9.2.1,x9.2.2.1,x9.2.2.2) () _ _ _ hD r (kO (kO (aq rfl aN))) (hP.pick [0,1] rfl rfl)
 rintro x26 γ27 fr w28 g r hP hD;have hP:Post No [roK 219 2 aD a0v a0,roK 36 1 u64 a1v a1] w0 w28:=hP;refine wsr (kM (U x26.2.2.1) r rfl rfl fun r=>kA (U x26.2.2.1) r rfl rfl fun r=>kA (I 0) r rfl rfl fun r=>wn (wp_ret ?_));have hv:(x26.2.2.1,0)=res:=Option.some.inj hD
 try dsimp only [Exit.then,Exit.inBlock]
 refine fB (fn:=Tryz.f269) r (t:=4) (t':=5) rfl (v:=(U x26.2.2.1)) (v':=(I 0)) rfl rfl ?_;subst hv;exact ⟨rfl,hP.chg.below⟩
def D.cg (fu:Nat) (a0:State):Option (Int):=(bif (!(D.cM a0)) then (some 0) else ((D.lX fu ).bind (fun (x7:Arr3F)=>((D.gU fu ([x7.f0,x7.f1,x7.f2]) ([(IntKind.u64.wrap a0.gen),(IntKind.u64.wrap a0.mode),(IntKind.u64.wrap a0.kind)])).bind (fun (x17:Int × Int)=>(some x17.1))))))
set_option maxRecDepth 20000 in
set_option maxHeartbeats 20000000 in
theorem jb {fu:Nat} (w0:World) (a0:State) {res:Int} (hD:D.cg fu a0=some res) :
    Calls Tryz.prog 168 #[.agg (aH a0).toArray] w0 (bw (.int .u64 res) w0):=by
 refine enter Tryz.func168 rfl 26 rfl rfl fun fr r=>?_;have hP:Post No [] w0 w0:=Post.nil w0
 unfold D.cg at hD
 refine wsr ?_;refine kX 137 (.agg (aH a0).toArray) r rfl rfl fun b1 w2 n3 r=>?_;have hP:Post No [aa b1 ((aH a0)).toArray 137] w0 w2:=hP.new n3
 refine kA (U 0) r rfl rfl fun r=>wn (wp_seq (wsr (kG (aH a0) 3 r rfl (hP.cell (i:=0) rfl) dG rfl rfl fun r=>?_)));refine kE r (rJ w2 a0) rfl wu rfl fun w5 hb r=>?_
 have hP:=hP.below hb;refine ac (.bool (!(D.cM a0))) r (fun R=>y_un r (u:=(.bool (D.cM a0))) rfl rfl) rfl fun fr r=>wn ?_;refine wp_cond_split (t:=(!(D.cM a0))) (r.ev rfl) (fun h6=>?_) (fun h6=>?_)
 ·
  have hD:=(az h6).symm.trans hD;refine wsr (kA (U 0) r rfl rfl fun r=>wn (wp_ret ?_));have hv:0=res:=Option.some.inj hD
  try dsimp only [Exit.then,Exit.inBlock]
  refine bg (fn:=Tryz.f168) r (t:=2) rfl (v:=(U 0)) rfl ?_;subst hv;exact ⟨rfl,hP.chg.below⟩
 have hD:=(aB h6).symm.trans hD;refine wp_skip (wsr ?_);obtain ⟨x7,hx7,hD⟩:=aY hD;refine kE r (sG w5  hx7) rfl vX rfl fun w8 hb r=>?_;have hP:=hP.below hb
 refine ai (.cells ((cF (⟨(⟨0,0⟩:Field),(⟨0,0⟩:Field),(⟨0,0⟩:Field)⟩:Arr3F))).toArray 220 (0,0)) r (fun R=>ah qD) rfl fun fr b9 w10 n11 r=>?_;have hP:Post No [aa b1 ((aH a0)).toArray 137,aa b9 ((cF (⟨(⟨0,0⟩:Field),(⟨0,0⟩:Field),(⟨0,0⟩:Field)⟩:Arr3F))).toArray 220] w0 w10:=hP.new n11
 refine bh (.cells ((cF x7)).toArray 220 (0,0)) r (fun R=>aT r (o:=0) (v:=(.agg (cF x7).toArray)) rfl rfl (hP.cell (i:=1) rfl) qM (Nat.le_of_ble_eq_true rfl) rfl rfl) rfl fun fr w13 u14 r=>?_;have hP:Post No [aa b1 ((aH a0)).toArray 137,aa b9 ((cF x7)).toArray 220] w0 w13:=hP.upd (i:=1) rfl u14
 refine wn (wp_seq ?_);obtain ⟨x17,hx17,hD⟩:=aY hD;refine dL [.val (.slice (some ⟨b9,0,none⟩) 3 3),.val (zp b1),.val (I a0.gen),.val (U (V a0.gen)),.val (.pointer (some ⟨b1,1,none⟩)),.val (I a0.mode),.val (U (V a0.mode)),.val (.pointer (some ⟨b1,2,none⟩)),.val (I a0.kind),.val (U (V a0.kind)),.pred (MkP (fun v:Value=>v) (fun v:Value=>[rowK 36 1 u64 v ([(V a0.gen),(V a0.mode),(V a0.kind)])])) (MkP.st _ _),.val (.tuple #[(U x17.1),(I x17.2)]),.val (.tuple #[(U x17.1),(I x17.2)]),.val (U x17.1),.val (I x17.2),.val (U x17.1),.val (I x17.2)] mixed r kz ?_ ?_
 ·
  refine fc r (fun fr1 g w' hb' hd r'=>wJ r' wA rfl bz) ?_;refine fc r (fun fr1 g w' hb' hd r'=>ax r' (b:=b1) (o:=0) rfl gi bz) ?_
  refine fc r (fun fr1 g w' hb' hd r'=>av r' (hd 1 rfl).1 ((hP.below (dr hb')).cell (i:=0) rfl) to3 rfl bz) ?_;refine fc r (fun fr1 g w' hb' hd r'=>cK r' (n:=a0.gen) (hd 2 rfl).1 ti3 ti36 bz) ?_
  refine fc r (fun fr1 g w' hb' hd r'=>ax r' (b:=b1) (o:=0) rfl kg bz) ?_;refine fc r (fun fr1 g w' hb' hd r'=>av r' (hd 4 rfl).1 ((hP.below (dr hb')).cell (i:=0) rfl) to3 rfl bz) ?_
  refine fc r (fun fr1 g w' hb' hd r'=>cK r' (n:=a0.mode) (hd 5 rfl).1 ti3 ti36 bz) ?_;refine fc r (fun fr1 g w' hb' hd r'=>ax r' (b:=b1) (o:=0) rfl qc bz) ?_
  refine fc r (fun fr1 g w' hb' hd r'=>av r' (hd 7 rfl).1 ((hP.below (dr hb')).cell (i:=0) rfl) to3 rfl bz) ?_;refine fc r (fun fr1 g w' hb' hd r'=>cK r' (n:=a0.kind) (hd 8 rfl).1 ti3 ti36 bz) ?_
  refine fc r (fun fr1 g w' hb' hd r'=>dM r' (c:=(([(V a0.gen),(V a0.mode),(V a0.kind)]).flatMap u64).toArray) (E:=36) (bs3 (congrArg (fun z=>(0,z)) (hd 3 rfl).1) (congrArg (fun z=>(1,z)) (hd 6 rfl).1) (congrArg (fun z=>(2,z)) (hd 9 rfl).1) kz) (fun b w2 n2=>⟨n2.below,MkP.newRow n2 (fun _=>rfl) rfl⟩)) ?_;refine fc r (fun fr1 g w' hb' hd r'=>aJ r' (args:=[(.slice (some ⟨b9,0,none⟩) 3 3),(g 10).v]) (lc (hd 0 rfl).1 (lc rfl l0)) Eo ((Bb _ ([x7.f0,x7.f1,x7.f2]) (RoAt.ofCell ((hP.below (dr hb')).cell (i:=1) rfl) rfl (List.cons_ne_nil _ _) rfl) ([(V a0.gen),(V a0.mode),(V a0.kind)]) (MkP.row (hd 10 rfl).1) hx17).mono (by rintro _ w2 ⟨rfl,hb2⟩; exact ⟨_,rfl,hb2,rfl⟩))) ?_
  refine fc r (fun fr1 g w' hb' hd r'=>ay r' (hd 11 rfl).1 bz) ?_;refine fc r (fun fr1 g w' hb' hd r'=>bM r' (vs:=#[(U x17.1),(I x17.2)]) (hd 12 rfl).1 rfl bz) ?_
  refine fc r (fun fr1 g w' hb' hd r'=>bM r' (vs:=#[(U x17.1),(I x17.2)]) (hd 12 rfl).1 rfl bz) ?_;refine fc r (fun fr1 g w' hb' hd r'=>cf r' (hd 13 rfl).1 bz) ?_
  refine fc r (fun fr1 g w' hb' hd r'=>cf r' (hd 14 rfl).1 bz) ?_;exact cc
 intro fr gg w18 hb hΦ hap r;obtain ⟨v15,g10,hs10⟩:=(hΦ 10 rfl).1;have r:=r.congr (sc ((hΦ 16 rfl).1) (sc ((hΦ 15 rfl).1) (sc ((hΦ 14 rfl).1) (sc ((hΦ 13 rfl).1) (sc ((hΦ 12 rfl).1) (sc ((hΦ 11 rfl).1) (sc g10 (sc ((hΦ 9 rfl).1) (sc ((hΦ 8 rfl).1) (sc ((hΦ 7 rfl).1) (sc ((hΦ 6 rfl).1) (sc ((hΦ 5 rfl).1) (sc ((hΦ 4 rfl).1) (sc ((hΦ 3 rfl).1) (sc ((hΦ 2 rfl).1) (sc ((hΦ 1 rfl).1) (sc ((hΦ 0 rfl).1) rfl)))))))))))))))));have hP:Post No [aa b1 ((aH a0)).toArray 137,aa b9 ((cF x7)).toArray 220,rowK 36 1 u64 v15 ([(V a0.gen),(V a0.mode),(V a0.kind)])] w0 w18:=hP.addL (l:=[([rowK 36 1 u64 v15 ([(V a0.gen),(V a0.mode),(V a0.kind)])],(gg 10).lo,(gg 10).hi)]) hb ⟨hs10,(hΦ 10 rfl).2.1,cS,trivial⟩;refine wsr (kM (U x17.1) r rfl rfl fun r=>kA (U x17.1) r rfl rfl fun r=>wn (wp_ret ?_));have hv:x17.1=res:=Option.some.inj hD
 try dsimp only [Exit.then,Exit.inBlock]
 refine bg (fn:=Tryz.f168) r (t:=2) rfl (v:=(U x17.1)) rfl ?_;subst hv;exact ⟨rfl,hP.chg.below⟩
end Go.Proofs.YtikjpdpgdmbdpaaGreat.St

/- Ours. -/
namespace Go.Proofs.YtikjpdpgdmbdpaaGreat
open Go.RowKit
def fGen:Field:=⟨0,30⟩
def fMode:Field:=⟨30,2⟩
def fKind:Field:=⟨32,2⟩
theorem tH:St.D.jz 10 [fGen,fMode,fKind]=some true:=by decide +kernel
theorem uh (w:Int):St.D.fW 10 [fGen,fMode,fKind] w=bif (ct .u64 (ct .u64 (ct .u64 w (D.ce fGen)) (D.ce fMode)) (D.ce fKind) !=0) then some ([],10)
    else some ([D.bB fGen w,D.bB fMode w,D.bB fKind w],0):=by
  unfold St.D.fW;rw [tH]
  rfl
theorem uz (a b c:Int):St.D.gU 10 [fGen,fMode,fKind] [a,b,c]=bif (decide (a > D.bQ fGen)) then some (0,1) else bif (decide (b > D.bQ fMode)) then some (0,1) else bif (decide (c > D.bQ fKind)) then some (0,1)
    else some (D.cD fKind (D.cD fMode (D.cD fGen 0 a) b) c,0):=by
  unfold St.D.gU;rw [tH];have w1:IntKind.i64.wrap ((0:Int)+1)=1:=rfl;have w2:IntKind.i64.wrap ((1:Int)+1)=2:=rfl;have w3:IntKind.i64.wrap ((2:Int)+1)=3:=rfl;have g0:∀ {α:Type} (x y z:α),getI [x,y,z] 0=some x:=fun _ _ _=>rfl
  have g1:∀ {α:Type} (x y z:α),getI [x,y,z] 1=some y:=fun _ _ _=>rfl
  have g2:∀ {α:Type} (x y z:α),getI [x,y,z] 2=some z:=fun _ _ _=>rfl
  have l3:∀ {α:Type} (x y z:α),(([x,y,z]:List α).length:Int)=3:=fun _ _ _=>rfl
  cases h1:decide (a > D.bQ fGen) <;> cases h2:decide (b > D.bQ fMode) <;> cases h3:decide (c > D.bQ fKind) <;>
    simp only [loopThen,runLoop,goOn,afterLoop,w1,w2,w3,g0,g1,g2,l3,h1,h2,h3,Option.bind_some,cond_true,cond_false,Bool.not_true,bne_self_eq_false,show decide ((0:Int)<3)=true from rfl,show decide ((1:Int)<3)=true from rfl,show decide ((2:Int)<3)=true from rfl,show decide ((3:Int)<3)=false from rfl]
def D.cg (s:State):Int:=(St.D.cg 10 s).getD 0
def D.aQ (w:Int):State × Bool:=(St.D.aQ 10 w).getD (⟨0,0,0⟩,false)
theorem BS (s:State):∃ r,St.D.cg 10 s=some r:=by
  unfold St.D.cg;cases (!(D.cM s))
  · show ∃ r,(((St.D.gU 10 [fGen,fMode,fKind] [IntKind.u64.wrap s.gen,IntKind.u64.wrap s.mode,IntKind.u64.wrap s.kind]).bind (fun (x17:Int × Int)=>(some x17.1))))=some r
    rw [uz]
    generalize decide (IntKind.u64.wrap s.gen > D.bQ fGen)=b1
    generalize decide (IntKind.u64.wrap s.mode > D.bQ fMode)=b2
    generalize decide (IntKind.u64.wrap s.kind > D.bQ fKind)=b3
    cases b1 <;> cases b2 <;> cases b3 <;> exact ⟨_,rfl⟩
  · exact ⟨_,rfl⟩
theorem CH (w:Int):∃ r,St.D.aQ 10 w=some r:=by
  unfold St.D.aQ;show ∃ r,(St.D.fW 10 [fGen,fMode,fKind] w).bind _=some r
  rw [uh]
  generalize (ct .u64 (ct .u64 (ct .u64 w (D.ce fGen)) (D.ce fMode)) (D.ce fKind) !=0)=b
  cases b
  · show ∃ r,(bif (!(D.cM (⟨(IntKind.i64.wrap (D.bB fGen w)),(IntKind.i64.wrap (D.bB fMode w)),(IntKind.i64.wrap (D.bB fKind w))⟩:State))) then _ else _)=some r
    generalize (!(D.cM (⟨(IntKind.i64.wrap (D.bB fGen w)),(IntKind.i64.wrap (D.bB fMode w)),(IntKind.i64.wrap (D.bB fKind w))⟩:State)))=b
    cases b <;> exact ⟨_,rfl⟩
  · exact ⟨_,rfl⟩
theorem jb (w0:World) (a0:State):Calls Tryz.prog 168 #[.agg (aH a0).toArray] w0 (bw (.int .u64 (D.cg a0)) w0):=by
  obtain ⟨r,hr⟩:=BS a0;unfold D.cg;rw [hr];exact St.jb w0 a0 hr
theorem jJ (w0:World) (a0:Int):Calls Tryz.prog 63 #[.int .u64 a0] w0 (bw (.tuple #[(.agg (aH (D.aQ a0).1).toArray),(.bool (D.aQ a0).2)]) w0):=by
  obtain ⟨r,hr⟩:=CH a0;unfold D.aQ;rw [hr];exact St.jJ w0 a0 hr
end Go.Proofs.YtikjpdpgdmbdpaaGreat

/- Ours. -/
set_option maxRecDepth 20000
set_option maxHeartbeats 2000000
namespace Go.Proofs.YtikjpdpgdmbdpaaGreat
open Go.RowKit
theorem cl29:ag Tryz.prog 29:=kz
end Go.Proofs.YtikjpdpgdmbdpaaGreat

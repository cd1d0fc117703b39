/- Ours. -/
import Derived.Test.YtikjpdpgdmbdpaaGreatLrM22
import Derived.Test.YtikjpdpgdmbdpaaGreatLrLRuns
import Derived.Test.YtikjpdpgdmbdpaaGreatLrM15
import Derived.Test.YtikjpdpgdmbdpaaGreatLrM16
set_option linter.all false
set_option maxRecDepth 20000
set_option maxHeartbeats 2000000
namespace Go.Proofs.YtikjpdpgdmbdpaaGreat
open Go.RowKit
abbrev pL0:Plan:=⟨2,1,4,1,1,1⟩
abbrev sL00:Seat:=⟨pL0,0,0⟩
theorem cl51:ag Tryz.prog 51:=kz
theorem kK:isSlice Tryz.prog 107:=kz
theorem is31:isSlice Tryz.prog 31:=kz
theorem DI:rowTy Tryz.prog 107 110 2:=kz
theorem sl31:sliceTy Tryz.prog 31 1:=kz
def D.dS (fu:Nat) (a0:Plan) (a1:Mem) (a2:Int) (a3:Int):Option (List Entry):=((D.fO fu a1 a2 a3).bind (fun (x5:Int)=>(loopThen (fun (x8:List Entry × Int × Int)=>(Option.bind (bif (decide (x8.2.2<a0.nodes)) then (some (decide ((D.aV x8.2.1)≥0))) else (some false)) (fun (x15:Bool)=>(bif x15 then ((D.fO fu a1 a2 (D.bf a0 (D.aV x8.2.1) 2)).bind (fun (x21:Int)=>(Option.bind (bif ((cw .u64 x21 1)==0) then ((D.fO fu a1 a2 (D.bf a0 (D.aV x8.2.1) 0)).bind (fun (x25:Int)=>((D.fO fu a1 a2 (D.bf a0 (D.aV x8.2.1) 1)).bind (fun (x26:Int)=>((appD x8.1 ([(⟨x25,x26⟩:Entry)])).bind (fun (x30:List Entry)=>(some x30))))))) else (some x8.1)) (fun (x34:List Entry)=>(some (Lp.next (x34,x21,(IntKind.i64.wrap (x8.2.2+1))))))))) else (some (Lp.brk (x8.1,x8.2.1,x8.2.2))))))) fu ([],x5,0) (fun (x37:List Entry × Int × Int)=>(some x37.1)))))
set_option maxRecDepth 20000 in
set_option maxHeartbeats 20000000 in
theorem jq {fu:Nat} (w0:World) (a0:Plan) {a1g:MG} (a1:Mem) (a1h:MemAt a1g a1 w0) (a2:Int) (a3:Int) {res:List Entry} (hD:D.dS fu a0 a1 a2 a3=some res) :
    Calls Tryz.prog 51 #[.agg (ae a0).toArray,zp a1g.mb,.int .i64 a2,.int .i64 a3] w0 (fun e w'=>∃ (v0:Value),e=.returned v0∧Done No No [rowK 110 2 bD v0 res] w0 w'):=by
 refine enter Tryz.func51 rfl 56 rfl rfl fun fr r=>?_;have hP:Post No [] w0 w0:=Post.nil w0
 have hP:Post No [memR a1g a1] w0 w0:=hP.addRo dV a1h rfl a1h.lt;unfold D.dS at hD
 refine wsr ?_;refine kX 23 (.agg (ae a0).toArray) r rfl rfl fun b1 w2 n3 r=>?_;have hP:Post No [memR a1g a1,aa b1 ((ae a0)).toArray 23] w0 w2:=hP.new n3
 refine kA kS r rfl rfl fun r=>wn (wsr (kA kS r rfl rfl fun r=>wn (wsr (kM (zp a1g.mb) r rfl rfl fun r=>kM (I a2) r rfl rfl fun r=>kM (I a3) r rfl rfl fun r=>?_))));obtain ⟨x5,hx5,hD⟩:=aY hD
 refine kE r (li w2 a1 (hP.memr (i:=0) rfl) a2 a3 hx5) rfl cl29 rfl fun w6 hb r=>?_;have hP:=hP.below hb
 refine kA (U x5) r rfl rfl fun r=>wn (wp_seq (wsr (kA (I 0) r rfl rfl fun r=>wn ?_)));have hP:Post No [memR a1g a1,aa b1 ((ae a0)).toArray 23,rowK 110 2 bD kS ([])] w0 w6:=hP.nilRow 110 2 bD
 refine fA (X:=List Entry × Int × Int) (G:=Value) (x0:=([],x5,0)) (fun x γ=>[(0,(.agg (ae a0).toArray)),(1,(zp a1g.mb)),(2,(I a2)),(3,(I a3)),(4,(zp b1)),(8,kS),(9,γ),(10,(U x.2.1)),(11,(I x.2.2))]) (fun x γ w=>Post No [memR a1g a1,aa b1 ((ae a0)).toArray 23,rowK 110 2 bD γ x.1] w0 w) kS r (kO (kO (aq rfl aN))) hP hD ?_ ?_
 ·
  rintro x8 γ9 fr w11 g y10 RPy10 nxy10 bky10 rty10 r hP hD;have hP:Post No [memR a1g a1,aa b1 ((ae a0)).toArray 23,rowK 110 2 bD γ9 x8.1] w0 w11:=hP;refine wp_seq (wp_seq ?_);refine cL (N:=56) (Y:=Bool) (G:=Unit) (fun x γ=>[(0,(.agg (ae a0).toArray)),(1,(zp a1g.mb)),(2,(I a2)),(3,(I a3)),(4,(zp b1)),(8,kS),(9,γ9),(10,(U x8.2.1)),(11,(I x8.2.2)),(25,(.bool x))]) (fun x γ w=>Post No [memR a1g a1,aa b1 ((ae a0)).toArray 23,rowK 110 2 bD γ9 x8.1] w0 w) hD ?_ ?_
  ·
   rintro y12 RPy12 nxy12 hD;refine wp_region_lit (kM (I x8.2.2) r rfl rfl fun r=>kF 0 r rfl gu rfl fun r=>kL (I a0.nodes) r rfl (hP.cell (i:=1) rfl) to3 rfl rfl fun r=>kB r rfl rfl rfl rfl rfl fun r=>kM (.bool (decide (x8.2.2<a0.nodes))) r rfl rfl fun r=>?_);refine bA (decide (x8.2.2<a0.nodes)) (fun h13=>?_) (fun h13=>?_)
   ·
    have hD:=(az h13).symm.trans hD;refine s1 r h13 (kM (U x8.2.1) r rfl rfl fun r=>s1 r h13 ?_);refine kE r (fU w11 x8.2.1) rfl gA rfl fun w14 hb r=>?_
    have hP:=hP.below hb;refine s1 r h13 (kB r rfl rfl rfl rfl rfl fun r=>ac (.bool (decide ((D.aV x8.2.1)≥0))) r (fun R=>aw r (b:=true) (congrArg Value.bool h13) rfl) rfl fun fr r=>wn ?_);exact nxy12 (decide ((D.aV x8.2.1)≥0)) () _ _ _ hD r (kO (kO (aq rfl (aq rfl aN)))) (hP.pick [0,1,2] rfl rfl)
   have hD:=(aB h13).symm.trans hD;refine s0 r h13 fun fr r=>s0 r h13 fun fr r=>s0 r h13 fun fr r=>ac (.bool false) r (fun R=>aw r (b:=false) (congrArg Value.bool h13) rfl) rfl fun fr r=>wn ?_;exact nxy12 false () _ _ _ hD r (kO (kO (aq rfl (aq rfl aN)))) (hP.pick [0,1,2] rfl rfl)
  rintro x15 γ16 fr w17 g r hP hD;have hP:Post No [memR a1g a1,aa b1 ((ae a0)).toArray 23,rowK 110 2 bD γ9 x8.1] w0 w17:=hP;refine wp_cond_split (t:=x15) (r.ev rfl) (fun h18=>?_) (fun h18=>?_)
  ·
   have hD:=(az h18).symm.trans hD;refine wp_skip (wp_seq (wp_block (wsr (kM (U x8.2.1) r rfl rfl fun r=>?_))));refine kE r (fU w17 x8.2.1) rfl gA rfl fun w19 hb r=>?_
   have hP:=hP.below hb;refine kA (I (D.aV x8.2.1)) r rfl rfl fun r=>wn (wsr (kM (zp a1g.mb) r rfl rfl fun r=>kM (I a2) r rfl rfl fun r=>kG (ae a0) 6 r rfl (hP.cell (i:=1) rfl) ta23 rfl rfl fun r=>kM (I (D.aV x8.2.1)) r rfl rfl fun r=>?_));refine kE r (dZ w19 a0 (D.aV x8.2.1) 2) rfl cl85 rfl fun w20 hb r=>?_
   have hP:=hP.below hb;obtain ⟨x21,hx21,hD⟩:=aY hD;refine kE r (li w20 a1 (hP.memr (i:=0) rfl) a2 (D.bf a0 (D.aV x8.2.1) 2) hx21) rfl cl29 rfl fun w22 hb r=>?_;have hP:=hP.below hb
   refine kA (U x21) r rfl rfl fun r=>wn (wsr (kM (U x21) r rfl rfl fun r=>kB r rfl rfl rfl rfl rfl fun r=>kB r rfl rfl rfl rfl rfl fun r=>wn ?_));refine cL (N:=56) (Y:=List Entry) (G:=Value) (fun x γ=>[(0,(.agg (ae a0).toArray)),(1,(zp a1g.mb)),(2,(I a2)),(3,(I a3)),(4,(zp b1)),(8,kS),(10,(U x21)),(11,(I x8.2.2)),(25,(.bool x15)),(12,(I (D.aV x8.2.1))),(38,(.bool ((cw .u64 x21 1)==0))),(9,γ)]) (fun x γ w=>Post No [memR a1g a1,aa b1 ((ae a0)).toArray 23,rowK 110 2 bD γ x] w0 w) hD ?_ ?_
   ·
    rintro y23 RPy23 nxy23 hD;refine wp_cond_split (t:=((cw .u64 x21 1)==0)) (r.ev rfl) (fun h24=>?_) (fun h24=>?_)
    ·
     have hD:=(az h24).symm.trans hD;obtain ⟨x25,hx25,hD⟩:=aY hD;obtain ⟨x26,hx26,hD⟩:=aY hD;refine C3 15 [.val γ9,.val (zp a1g.mb),.val (I a2),.val (.agg (ae a0).toArray),.val (I (D.aV x8.2.1)),.val (I (D.bf a0 (D.aV x8.2.1) 0)),.val (U x25),.val (zp a1g.mb),.val (I a2),.val (.agg (ae a0).toArray),.val (I (D.aV x8.2.1)),.val (I (D.bf a0 (D.aV x8.2.1) 1)),.val (U x26),.val (.agg (bD (⟨x25,x26⟩:Entry)).toArray),.pred (MkP (fun v:Value=>v) (fun v:Value=>[rowK 110 2 bD v ([(⟨x25,x26⟩:Entry)])])) (MkP.st _ _)] mixed r kz ?_ ?_
     ·
      refine fc r (fun fr1 g w' hb' hd r'=>ay r' rfl bz) ?_;refine fc r (fun fr1 g w' hb' hd r'=>ay r' rfl bz) ?_
      refine fc r (fun fr1 g w' hb' hd r'=>ay r' rfl bz) ?_;refine fc r (fun fr1 g w' hb' hd r'=>aS r' (cs:=(ae a0)) (n:=6) rfl ((hP.below (dr hb')).cell (i:=1) rfl) ta23 rfl bz) ?_
      refine fc r (fun fr1 g w' hb' hd r'=>ay r' rfl bz) ?_;refine fc r (fun fr1 g w' hb' hd r'=>aJ r' (args:=[(.agg (ae a0).toArray),(I (D.aV x8.2.1)),(I 0)]) (lc (hd 3 rfl).1 (lc (hd 4 rfl).1 (lc rfl l0))) cl85 ((dZ _ a0 (D.aV x8.2.1) 0).mono (by rintro _ w2 ⟨rfl,hb2⟩; exact ⟨_,rfl,hb2,rfl⟩))) ?_
      refine fc r (fun fr1 g w' hb' hd r'=>aJ r' (args:=[(zp a1g.mb),(I a2),(I (D.bf a0 (D.aV x8.2.1) 0))]) (lc (hd 1 rfl).1 (lc (hd 2 rfl).1 (lc (hd 5 rfl).1 l0))) cl29 ((li _ a1 ((hP.below (dr hb')).memr (i:=0) rfl) a2 (D.bf a0 (D.aV x8.2.1) 0) hx25).mono (by rintro _ w2 ⟨rfl,hb2⟩; exact ⟨_,rfl,hb2,rfl⟩))) ?_;refine fc r (fun fr1 g w' hb' hd r'=>ay r' rfl bz) ?_
      refine fc r (fun fr1 g w' hb' hd r'=>ay r' rfl bz) ?_;refine fc r (fun fr1 g w' hb' hd r'=>aS r' (cs:=(ae a0)) (n:=6) rfl ((hP.below (dr hb')).cell (i:=1) rfl) ta23 rfl bz) ?_
      refine fc r (fun fr1 g w' hb' hd r'=>ay r' rfl bz) ?_;refine fc r (fun fr1 g w' hb' hd r'=>aJ r' (args:=[(.agg (ae a0).toArray),(I (D.aV x8.2.1)),(I 1)]) (lc (hd 9 rfl).1 (lc (hd 10 rfl).1 (lc rfl l0))) cl85 ((dZ _ a0 (D.aV x8.2.1) 1).mono (by rintro _ w2 ⟨rfl,hb2⟩; exact ⟨_,rfl,hb2,rfl⟩))) ?_
      refine fc r (fun fr1 g w' hb' hd r'=>aJ r' (args:=[(zp a1g.mb),(I a2),(I (D.bf a0 (D.aV x8.2.1) 1))]) (lc (hd 7 rfl).1 (lc (hd 8 rfl).1 (lc (hd 11 rfl).1 l0))) cl29 ((li _ a1 ((hP.below (dr hb')).memr (i:=0) rfl) a2 (D.bf a0 (D.aV x8.2.1) 1) hx26).mono (by rintro _ w2 ⟨rfl,hb2⟩; exact ⟨_,rfl,hb2,rfl⟩))) ?_;refine fc r (fun fr1 g w' hb' hd r'=>eL r' (v:=(.agg (bD (⟨x25,x26⟩:Entry)).toArray)) (bs2 (congrArg (fun z=>(0,z)) (hd 6 rfl).1) (congrArg (fun z=>(1,z)) (hd 12 rfl).1) kz) bz) ?_
      refine fc r (fun fr1 g w' hb' hd r'=>dM r' (c:=(([(⟨x25,x26⟩:Entry)]).flatMap bD).toArray) (E:=110) (bs1 (congrArg (fun z=>(0,z)) (hd 13 rfl).1) kz) (fun b w2 n2=>⟨n2.below,MkP.newRow n2 (fun _=>rfl) rfl⟩)) ?_;exact cc
     intro fr gg w29 hb hΦ hap r;obtain ⟨v27,g14,hs14⟩:=(hΦ 14 rfl).1;have r:=r.congr (sc g14 (sc ((hΦ 13 rfl).1) (sc ((hΦ 12 rfl).1) (sc ((hΦ 11 rfl).1) (sc ((hΦ 10 rfl).1) (sc ((hΦ 9 rfl).1) (sc ((hΦ 8 rfl).1) (sc ((hΦ 7 rfl).1) (sc ((hΦ 6 rfl).1) (sc ((hΦ 5 rfl).1) (sc ((hΦ 4 rfl).1) (sc ((hΦ 3 rfl).1) (sc ((hΦ 2 rfl).1) (sc ((hΦ 1 rfl).1) (sc ((hΦ 0 rfl).1) rfl)))))))))))))));have hP:Post No [memR a1g a1,aa b1 ((ae a0)).toArray 23,rowK 110 2 bD γ9 x8.1,rowK 110 2 bD v27 ([(⟨x25,x26⟩:Entry)])] w0 w29:=hP.addL (l:=[([rowK 110 2 bD v27 ([(⟨x25,x26⟩:Entry)])],(gg 14).lo,(gg 14).hi)]) hb ⟨hs14,(hΦ 14 rfl).2.1,cS,trivial⟩;obtain ⟨x30,hx30,hD⟩:=aY hD;refine vh 110 2 bD γ9 r (fun R=>uF r DI (fun _=>rfl) (fun _=>rfl) (hP.row (i:=2) rfl) (hP.row (i:=3) rfl).ro hx30 rfl rfl) rfl fun fr v31 w32 ha33 r=>?_;have hP:Post No [memR a1g a1,aa b1 ((ae a0)).toArray 23,rowK 110 2 bD v31 x30,rowK 110 2 bD v27 ([(⟨x25,x26⟩:Entry)])] w0 w32:=hP.append (i:=2) rfl ha33
     refine kA v31 r rfl rfl fun r=>wn ?_;exact nxy23 x30 v31 _ _ _ hD r (kO (kO (kO aN))) (hP.pick [0,1,2] rfl rfl)
    have hD:=(aB h24).symm.trans hD;refine wp_skip ?_;exact nxy23 x8.1 γ9 _ _ _ hD r (kO (kO (kO aN))) (hP.pick [0,1,2] rfl rfl)
   rintro x34 γ35 fr w36 g r hP hD;have hP:Post No [memR a1g a1,aa b1 ((ae a0)).toArray 23,rowK 110 2 bD γ35 x34] w0 w36:=hP;refine wp_region_lit (kM (I x8.2.2) r rfl rfl fun r=>kB r rfl rfl rfl rfl rfl fun r=>kA (I (W (x8.2.2+1))) r rfl rfl fun r=>wn ?_);exact nxy10 (x34,x21,(W (x8.2.2+1))) γ35 _ _ _ hD r (kO (kO (aq rfl aN))) (hP.pick [0,1,2] rfl rfl)
  have hD:=(aB h18).symm.trans hD;refine wp_exit ?_;exact bky10 (x8.1,x8.2.1,x8.2.2) γ9 _ _ _ hD r (kO (kO (aq rfl aN))) (hP.pick [0,1,2] rfl rfl)
 rintro x37 γ38 fr w39 g r hP hD;have hP:Post No [memR a1g a1,aa b1 ((ae a0)).toArray 23,rowK 110 2 bD γ38 x37.1] w0 w39:=hP;refine wsr (kM γ38 r rfl rfl fun r=>kA γ38 r rfl rfl fun r=>wn (wp_ret ?_));have hv:x37.1=res:=Option.some.inj hD
 try dsimp only [Exit.then,Exit.inBlock]
 refine bg (fn:=Tryz.f51) r (t:=8) rfl (v:=γ38) rfl ?_;subst hv;exact ⟨γ38,rfl,(hP.pick [2] rfl rfl).done (cP rfl dl)⟩
def D.jc (fu:Nat) :Option (Bool):=((D.gH fu (⟨2,1,4,1,1,1⟩:Plan)).bind (fun (x7:Mem)=>((D.dR fu x7 0).bind (fun (x12:Cap)=>((D.jC fu (fu,(D.dm (fu+1) (⟨(⟨2,1,4,1,1,1⟩:Plan),0,0⟩:Seat) (D.bn (⟨2,1,4,1,1,1⟩:Plan) 0 0) 5 7)) x7 x12 99).bind (fun (x13:Res × Int × Bool × Mem)=>(Option.bind (bif x13.2.2.1 then (bif (x13.1.e==0) then ((D.dS fu (⟨2,1,4,1,1,1⟩:Plan) x13.2.2.2 0 (D.bn (⟨2,1,4,1,1,1⟩:Plan) 0 0)).bind (fun (x19:List Entry)=>(some ((x19.length:Int)==1)))) else (some false)) else (some false)) (fun (x25:Bool)=>(some x25)))))))))
set_option maxRecDepth 20000 in
set_option maxHeartbeats 20000000 in
theorem rI {fu:Nat} (w0:World) {res:Bool} (hD:D.jc fu =some res) :
    Calls Tryz.prog 48 #[] w0 (bw (.bool res) w0):=by
 refine enter Tryz.func48 rfl 39 rfl rfl fun fr r=>?_;have hP:Post No [] w0 w0:=Post.nil w0
 unfold D.jc at hD
 refine wsr (kA (.bool false) r rfl rfl fun r=>wn (wsr (kU (.agg (ae pL0).toArray) r kz rfl fun r=>?_)));refine ai (.cells ((ae (⟨0,0,0,0,0,0⟩:Plan))).toArray 23 (0,0)) r (fun R=>ah tz23) rfl fun fr b1 w2 n3 r=>?_
 have hP:Post No [aa b1 ((ae (⟨0,0,0,0,0,0⟩:Plan))).toArray 23] w0 w2:=hP.new n3;refine bh (.cells ((ae pL0)).toArray 23 (0,0)) r (fun R=>aT r (o:=0) (v:=(.agg (ae pL0).toArray)) rfl rfl (hP.cell (i:=0) rfl) ts23 (Nat.le_of_ble_eq_true rfl) rfl rfl) rfl fun fr w5 u6 r=>?_;have hP:Post No [aa b1 ((ae pL0)).toArray 23] w0 w5:=hP.upd (i:=0) rfl u6
 refine wn (wsr (kG (ae pL0) 6 r rfl (hP.cell (i:=0) rfl) ta23 rfl rfl fun r=>?_));obtain ⟨x7,hx7,hD⟩:=aY hD
 refine kC r (rN w5 pL0 hx7) rfl cl17 rfl ?_;rintro _ w8 ⟨mg9,rfl,hq⟩;refine ⟨_,rfl,fun fr r=>?_⟩
 have hP:Post No [aa b1 ((ae pL0)).toArray 23,memK mg9 x7] w0 w8:=hP.add hq;refine kA (zp mg9.mb) r rfl rfl fun r=>wn (wp_seq (wsr (kM (zp mg9.mb) r rfl rfl fun r=>kB r rfl rfl rfl rfl rfl fun r=>wn ?_)));refine wp_cond_split (t:=false) (r.ev rfl) (fun h=>absurd ((rfl:false=_).symm.trans h) ke) (fun _=>wp_skip (wp_seq ?_))
 obtain ⟨x12,hx12,hD⟩:=aY hD;obtain ⟨x13,hx13,hD⟩:=aY hD;refine Fc.pL mg9.bs [.val (.agg (ae pL0).toArray),.val (.agg (aG sL00).toArray),.val (.agg (ae pL0).toArray),.val (I (D.bn pL0 0 0)),.cons 8 (PrL Tryz.prog aj (fu,(D.dm (fu+1) sL00 (D.bn pL0 0 0) 5 7))) (PrL.st _),.val (zp mg9.mb),.val (zp mg9.mb),.val (.agg (capC x12).toArray),.effC [4] (EffP w8.heap.size (memK mg9 x13.2.2.2) (fun _:Unit=>(.tuple #[(.agg (resC x13.1).toArray),(I x13.2.1),(.bool x13.2.2.1)])) (fun _:Unit=>[])) (EffP.st _ _ _ _),.val (.tuple #[(.agg (resC x13.1).toArray),(I x13.2.1),(.bool x13.2.2.1)]),.val (.agg (resC x13.1).toArray),.val (I x13.2.1),.val (.bool x13.2.2.1),.cell 54 2,.stored 13 ((resC x13.1)).toArray 54 2 rfl,.val (I x13.2.1),.val (.bool x13.2.2.1)] mixed r (fun b hb=>hP.sep.lt (i:=1) rfl (.inl hb)) ⟨_,List.mem_cons_self ..⟩ kz ?_ ?_
 ·
  refine Fc.aF r rfl (fun fr1 g w' hk' hd r'=>?_) ?_
  · exact aS r' (cs:=(ae pL0)) (n:=6) rfl (hP.cellK (j:=1) rfl (drK hk') (i:=0) rfl rfl) ta23 rfl ⟨Below.refl _ _,rfl⟩
  refine Fc.aF r rfl (fun fr1 g w' hk' hd r'=>?_) ?_
  · exact eL r' (v:=(.agg (aG sL00).toArray)) (bs1 (congrArg (fun z=>(0,z)) (hd 0 rfl).1) kz) ⟨Below.refl _ _,rfl⟩
  refine Fc.aF r rfl (fun fr1 g w' hk' hd r'=>?_) ?_
  · exact aS r' (cs:=(ae pL0)) (n:=6) rfl (hP.cellK (j:=1) rfl (drK hk') (i:=0) rfl rfl) ta23 rfl ⟨Below.refl _ _,rfl⟩
  refine Fc.aF r rfl (fun fr1 g w' hk' hd r'=>?_) ?_
  · exact aJ r' (args:=[(.agg (ae pL0).toArray),(I 0),(I 0)]) (lc (hd 2 rfl).1 (lc rfl (lc rfl l0))) cl49 ((o9 _ pL0 0 0).mono (by rintro _ w2 ⟨rfl,hb2⟩; exact ⟨_,rfl,hb2,rfl⟩))
  refine Fc.bO r rfl kz (fun fr1 g w' hb' hd r'=>?_) ?_
  · exact aJ r' (args:=[(.agg (aG sL00).toArray),(I (D.bn pL0 0 0)),(U 5),(U 7)]) (lc (hd 1 rfl).1 (lc (hd 3 rfl).1 (lc rfl (lc rfl l0)))) cl50 ((oY (F:=No) (n:=fu) (j:=fu+1) (fun _ h=>h.elim) kw sL00 (D.bn pL0 0 0) 5 7).mono (by rintro _ w2 ⟨y,rfl,hb2,hr2⟩; exact ⟨_,rfl,hb2.below,jE hr2⟩))
  refine Fc.bO r rfl kz (fun fr1 g w' hb' hd r'=>?_) ?_
  · exact ay r' (v:=(zp mg9.mb)) rfl ⟨Below.refl _ _,rfl⟩
  refine Fc.aF r rfl (fun fr1 g w' hk' hd r'=>?_) ?_
  · exact ay r' (v:=(zp mg9.mb)) rfl ⟨Below.refl _ _,rfl⟩
  refine Fc.bO r rfl kz (fun fr1 g w' hb' hd r'=>?_) ?_
  · exact aJ r' (args:=[(zp mg9.mb),(I 0)]) (lc (hd 6 rfl).1 (lc rfl l0)) cl28 ((ic _ x7 ((hP.below (dr hb')).mem (i:=1) rfl) 0 hx12).mono (by rintro _ w2 ⟨rfl,hb2⟩; exact ⟨_,rfl,hb2,rfl⟩))
  refine Fc.eachC r rfl kz (fun fr1 g w' h0 hb' hd r'=>?_) ?_
  · exact aJ r' (args:=[(g 4).v,(zp mg9.mb),(.agg (capC x12).toArray),(I 99)]) (lc rfl (lc (hd 5 rfl).1 (lc (hd 7 rfl).1 (lc rfl l0)))) cl37 ((oo _ (fu,(D.dm (fu+1) sL00 (D.bn pL0 0 0) 5 7)) x7 x12 99 (Sep.beside ((hd 4 rfl).1 h0) ((hP.below (dr hb')).sep.pk [1] rfl rfl) (by intro c hc b hb; simp only [List.mem_cons,List.not_mem_nil,or_false] at hc; rcases hc with rfl; exact hP.sep.lt (i:=1) rfl hb) (hd 4 rfl).2.1) hx13).mono (by rintro _ w2 ⟨rfl,hq⟩; exact ⟨_,rfl,Chg.keptC hq.chg,EffP.ofC hq (fun b hb=>hP.sep.lt (i:=1) rfl hb)⟩))
  refine Fc.aF r rfl (fun fr1 g w' hk' hd r'=>?_) ?_
  · exact ay r' (v:=(.tuple #[(.agg (resC x13.1).toArray),(I x13.2.1),(.bool x13.2.2.1)])) (EffP.val (hd 8 rfl).1) ⟨Below.refl _ _,rfl⟩
  refine Fc.aF r rfl (fun fr1 g w' hk' hd r'=>?_) ?_
  · exact bM r' (vs:=#[(.agg (resC x13.1).toArray),(I x13.2.1),(.bool x13.2.2.1)]) (hd 9 rfl).1 rfl ⟨Below.refl _ _,rfl⟩
  refine Fc.aF r rfl (fun fr1 g w' hk' hd r'=>?_) ?_
  · exact bM r' (vs:=#[(.agg (resC x13.1).toArray),(I x13.2.1),(.bool x13.2.2.1)]) (hd 9 rfl).1 rfl ⟨Below.refl _ _,rfl⟩
  refine Fc.aF r rfl (fun fr1 g w' hk' hd r'=>?_) ?_
  · exact bM r' (vs:=#[(.agg (resC x13.1).toArray),(I x13.2.1),(.bool x13.2.2.1)]) (hd 9 rfl).1 rfl ⟨Below.refl _ _,rfl⟩
  refine Fc.aF r rfl (fun fr1 g w' hk' hd r'=>?_) ?_
  · exact ah tz54 (fun b w2 n2=>⟨n2.below,b,rfl,n2.eq,_,n2.at_,rfl⟩)
  refine Fc.aF r rfl (fun fr1 g w' hk' hd r'=>?_) ?_
  · obtain ⟨hp,_,c,hc,hn⟩:=(hd 13 rfl).1; exact aT r' (o:=0) (c:=c) (v:=(.agg (resC x13.1).toArray)) hp (hd 10 rfl).1 hc ts54 (by rw [hn]; exact Nat.le_of_ble_eq_true rfl) rfl (eH (hn.trans rfl)) (fun w2 u2=>⟨u2,rfl⟩)
  refine Fc.aF r rfl (fun fr1 g w' hk' hd r'=>?_) ?_
  · exact cf r' (v:=(I x13.2.1)) (hd 11 rfl).1 ⟨Below.refl _ _,rfl⟩
  refine Fc.aF r rfl (fun fr1 g w' hk' hd r'=>?_) ?_
  · exact cf r' (v:=(.bool x13.2.2.1)) (hd 12 rfl).1 ⟨Below.refl _ _,rfl⟩
  exact Fc.cc
 intro fr gg w15 hb hΦ hap r;obtain ⟨v11,hv4⟩:∃ v,v=(gg 4).v:=⟨_,rfl⟩;have g4:(gg 4).v=v11:=hv4.symm;obtain ⟨⟨⟩,g8,hcE,_,hs8⟩:=(hΦ 8 rfl).1;obtain ⟨b14,ee_b14⟩:∃ b,b=(gg 13).lo:=⟨_,rfl⟩;have g13:(gg 13).v=(zp b14):=by rw [ee_b14]; exact (hΦ 13 rfl).1.1
 have H14:w15.heap[b14]?=some (.cells ((resC x13.1)).toArray 54 (0,0)):=by rw [ee_b14]; exact (hΦ 14 rfl).1.2
 have hs13:bP [aa b14 ((resC x13.1)).toArray 54] (gg 13).lo (gg 13).hi w15:=by subst ee_b14; exact bP.cell (hΦ 13 rfl).1.2.1 H14
 have r:=r.congr (sc ((hΦ 16 rfl).1) (sc ((hΦ 15 rfl).1) (sc g13 (sc ((hΦ 12 rfl).1) (sc ((hΦ 11 rfl).1) (sc ((hΦ 10 rfl).1) (sc ((hΦ 9 rfl).1) (sc g8 (sc ((hΦ 7 rfl).1) (sc ((hΦ 6 rfl).1) (sc ((hΦ 5 rfl).1) (sc g4 (sc ((hΦ 3 rfl).1) (sc ((hΦ 2 rfl).1) (sc ((hΦ 1 rfl).1) (sc ((hΦ 0 rfl).1) rfl))))))))))))))));have hP:Post No [aa b1 ((ae pL0)).toArray 23,memK mg9 x13.2.2.2,aa b14 ((resC x13.1)).toArray 54] w0 w15:=hP.effL (i:=1) (l:=[([aa b14 ((resC x13.1)).toArray 54],(gg 13).lo,(gg 13).hi)]) rfl hb hcE rfl rfl ⟨hs13,(hΦ 13 rfl).2.1,cS,trivial⟩;refine wp_seq ?_;refine cL (N:=39) (Y:=Bool) (G:=Unit) (fun x γ=>[(1,(zp b1)),(2,(zp mg9.mb)),(10,(.bool false)),(3,(zp b14)),(5,(.bool x13.2.2.1)),(0,(.bool x))]) (fun x γ w=>Post No [aa b1 ((ae pL0)).toArray 23,memK mg9 x13.2.2.2,aa b14 ((resC x13.1)).toArray 54] w0 w) hD ?_ ?_
 ·
  rintro y16 RPy16 nxy16 hD;refine bA x13.2.2.1 (fun h17=>?_) (fun h17=>?_)
  ·
   have hD:=(az h17).symm.trans hD;refine bA (x13.1.e==0) (fun h18=>?_) (fun h18=>?_)
   ·
    have hD:=(az h18).symm.trans hD;obtain ⟨x19,hx19,hD⟩:=aY hD;refine dL [.val (.bool x13.2.2.1),.val (.bool x13.2.2.1),.val (zp b14),.val (I x13.1.e),.val (.bool (x13.1.e==0)),.val (.bool (x13.1.e==0)),.val (.bool (x13.1.e==0)),.val (.agg (ae pL0).toArray),.val (zp mg9.mb),.val (.agg (ae pL0).toArray),.val (I (D.bn pL0 0 0)),.pred (MkP (fun v20:Value=>v20) (fun v20:Value=>[rowK 110 2 bD v20 x19])) (MkP.st _ _),.val (I (x19.length:Int)),.val (.bool ((x19.length:Int)==1)),.val (.bool ((x19.length:Int)==1)),.val (.bool ((x19.length:Int)==1))] mixed r kz ?_ ?_
    ·
     refine fc r (fun fr1 g w' hb' hd r'=>ay r' rfl bz) ?_;refine fc r (fun fr1 g w' hb' hd r'=>ay r' (hd 0 rfl).1 bz) ?_
     refine bm true r rfl rfl rfl (fun g w' hd=>Eq.trans (show (g 1).v=.bool x13.2.2.1 from (hd 1 rfl).1) (congrArg Value.bool h17)) (fun fr1 g w' hb' hd r'=>?_) ?_
     · exact ax r' (b:=b14) (o:=0) (k:=0) rfl vJ ⟨Below.refl _ _,rfl⟩
     refine bm true r rfl rfl rfl (fun g w' hd=>Eq.trans (show (g 1).v=.bool x13.2.2.1 from (hd 1 rfl).1) (congrArg Value.bool h17)) (fun fr1 g w' hb' hd r'=>?_) ?_
     · exact av r' (v:=(I x13.1.e)) (hd 2 rfl).1 ((hP.below (dr hb')).cell (i:=2) rfl) to33 rfl ⟨Below.refl _ _,rfl⟩
     refine bm true r rfl rfl rfl (fun g w' hd=>Eq.trans (show (g 1).v=.bool x13.2.2.1 from (hd 1 rfl).1) (congrArg Value.bool h17)) (fun fr1 g w' hb' hd r'=>?_) ?_
     · exact bc r' (u:=(I x13.1.e)) (u':=(I 0)) (v:=(.bool (x13.1.e==0))) (hd 3 rfl).1 rfl rfl rfl ⟨Below.refl _ _,rfl⟩
     refine fc r (fun fr1 g w' hb' hd r'=>aw r' (b:=true) (v:=(.bool (x13.1.e==0))) (Eq.trans (show (g 1).v=.bool x13.2.2.1 from (hd 1 rfl).1) (congrArg Value.bool h17)) (hd 4 rfl).1 bz) ?_;refine fc r (fun fr1 g w' hb' hd r'=>ay r' (hd 5 rfl).1 bz) ?_
     refine bm true r rfl rfl rfl (fun g w' hd=>Eq.trans (show (g 6).v=.bool (x13.1.e==0) from (hd 6 rfl).1) (congrArg Value.bool h18)) (fun fr1 g w' hb' hd r'=>?_) ?_
     · exact aS r' (cs:=(ae pL0)) (n:=6) rfl ((hP.below (dr hb')).cell (i:=0) rfl) ta23 rfl ⟨Below.refl _ _,rfl⟩
     refine bm true r rfl rfl rfl (fun g w' hd=>Eq.trans (show (g 6).v=.bool (x13.1.e==0) from (hd 6 rfl).1) (congrArg Value.bool h18)) (fun fr1 g w' hb' hd r'=>?_) ?_
     · exact ay r' (v:=(zp mg9.mb)) rfl ⟨Below.refl _ _,rfl⟩
     refine bm true r rfl rfl rfl (fun g w' hd=>Eq.trans (show (g 6).v=.bool (x13.1.e==0) from (hd 6 rfl).1) (congrArg Value.bool h18)) (fun fr1 g w' hb' hd r'=>?_) ?_
     · exact aS r' (cs:=(ae pL0)) (n:=6) rfl ((hP.below (dr hb')).cell (i:=0) rfl) ta23 rfl ⟨Below.refl _ _,rfl⟩
     refine bm true r rfl rfl rfl (fun g w' hd=>Eq.trans (show (g 6).v=.bool (x13.1.e==0) from (hd 6 rfl).1) (congrArg Value.bool h18)) (fun fr1 g w' hb' hd r'=>?_) ?_
     · exact aJ r' (args:=[(.agg (ae pL0).toArray),(I 0),(I 0)]) (lc (hd 9 rfl).1 (lc rfl (lc rfl l0))) cl49 ((o9 _ pL0 0 0).mono (by rintro _ w2 ⟨rfl,hb2⟩; exact ⟨_,rfl,hb2,rfl⟩))
     refine bm true r rfl rfl rfl (fun g w' hd=>Eq.trans (show (g 6).v=.bool (x13.1.e==0) from (hd 6 rfl).1) (congrArg Value.bool h18)) (fun fr1 g w' hb' hd r'=>?_) ?_
     · exact aJ r' (args:=[(.agg (ae pL0).toArray),(zp mg9.mb),(I 0),(I (D.bn pL0 0 0))]) (lc (hd 7 rfl).1 (lc (hd 8 rfl).1 (lc rfl (lc (hd 10 rfl).1 l0)))) cl51 ((jq _ pL0 x13.2.2.2 ((hP.below (dr hb')).mem (i:=1) rfl) 0 (D.bn pL0 0 0) hx19).mono (by rintro _ w2 ⟨y,rfl,hq⟩; exact ⟨_,rfl,hq.chg.below,MkP.of y hq⟩))
     refine bm true r rfl rfl rfl (fun g w' hd=>Eq.trans (show (g 6).v=.bool (x13.1.e==0) from (hd 6 rfl).1) (congrArg Value.bool h18)) (fun fr1 g w' hb' hd r'=>?_) ?_
     · obtain ⟨y,hy,hs,_⟩:=(hd 11 rfl).1; exact dz r' (RowAt.ro (hs.get (i:=0) rfl)) kK hy ⟨Below.refl _ _,rfl⟩
     refine bm true r rfl rfl rfl (fun g w' hd=>Eq.trans (show (g 6).v=.bool (x13.1.e==0) from (hd 6 rfl).1) (congrArg Value.bool h18)) (fun fr1 g w' hb' hd r'=>?_) ?_
     · exact bc r' (u:=(I (x19.length:Int))) (u':=(I 1)) (v:=(.bool ((x19.length:Int)==1))) (hd 12 rfl).1 rfl rfl rfl ⟨Below.refl _ _,rfl⟩
     refine fc r (fun fr1 g w' hb' hd r'=>aw r' (b:=true) (v:=(.bool ((x19.length:Int)==1))) (Eq.trans (show (g 6).v=.bool (x13.1.e==0) from (hd 6 rfl).1) (congrArg Value.bool h18)) (hd 13 rfl).1 bz) ?_;refine fc r (fun fr1 g w' hb' hd r'=>cf r' (hd 14 rfl).1 bz) ?_
     exact cc
    intro fr gg w22 hb hΦ hap r;obtain ⟨v20,g11,hs11⟩:=(hΦ 11 rfl).1;have r:=r.congr (sc ((hΦ 15 rfl).1) (sc ((hΦ 14 rfl).1) (sc ((hΦ 13 rfl).1) (sc ((hΦ 12 rfl).1) (sc g11 (sc ((hΦ 10 rfl).1) (sc ((hΦ 9 rfl).1) (sc ((hΦ 8 rfl).1) (sc ((hΦ 7 rfl).1) (sc ((hΦ 6 rfl).1) (sc ((hΦ 5 rfl).1) (sc ((hΦ 4 rfl).1) (sc ((hΦ 3 rfl).1) (sc ((hΦ 2 rfl).1) (sc ((hΦ 1 rfl).1) (sc ((hΦ 0 rfl).1) rfl))))))))))))))));have hP:Post No [aa b1 ((ae pL0)).toArray 23,memK mg9 x13.2.2.2,aa b14 ((resC x13.1)).toArray 54,rowK 110 2 bD v20 x19] w0 w22:=hP.addL (l:=[([rowK 110 2 bD v20 x19],(gg 11).lo,(gg 11).hi)]) hb ⟨hs11,(hΦ 11 rfl).2.1,cS,trivial⟩;exact nxy16 ((x19.length:Int)==1) () _ _ _ hD r (kO (aq rfl (aq rfl aN))) (hP.pick [0,1,2] rfl rfl)
   have hD:=(aB h18).symm.trans hD;refine dL [.val (.bool x13.2.2.1),.val (.bool x13.2.2.1),.val (zp b14),.val (I x13.1.e),.val (.bool (x13.1.e==0)),.val (.bool (x13.1.e==0)),.val (.bool (x13.1.e==0)),.val undef,.val undef,.val undef,.val undef,.val undef,.val undef,.val undef,.val (.bool false),.val (.bool false)] mixed r kz ?_ ?_
   ·
    refine fc r (fun fr1 g w' hb' hd r'=>ay r' rfl bz) ?_;refine fc r (fun fr1 g w' hb' hd r'=>ay r' (hd 0 rfl).1 bz) ?_
    refine bm true r rfl rfl rfl (fun g w' hd=>Eq.trans (show (g 1).v=.bool x13.2.2.1 from (hd 1 rfl).1) (congrArg Value.bool h17)) (fun fr1 g w' hb' hd r'=>?_) ?_
    · exact ax r' (b:=b14) (o:=0) (k:=0) rfl vJ ⟨Below.refl _ _,rfl⟩
    refine bm true r rfl rfl rfl (fun g w' hd=>Eq.trans (show (g 1).v=.bool x13.2.2.1 from (hd 1 rfl).1) (congrArg Value.bool h17)) (fun fr1 g w' hb' hd r'=>?_) ?_
    · exact av r' (v:=(I x13.1.e)) (hd 2 rfl).1 ((hP.below (dr hb')).cell (i:=2) rfl) to33 rfl ⟨Below.refl _ _,rfl⟩
    refine bm true r rfl rfl rfl (fun g w' hd=>Eq.trans (show (g 1).v=.bool x13.2.2.1 from (hd 1 rfl).1) (congrArg Value.bool h17)) (fun fr1 g w' hb' hd r'=>?_) ?_
    · exact bc r' (u:=(I x13.1.e)) (u':=(I 0)) (v:=(.bool (x13.1.e==0))) (hd 3 rfl).1 rfl rfl rfl ⟨Below.refl _ _,rfl⟩
    refine fc r (fun fr1 g w' hb' hd r'=>aw r' (b:=true) (v:=(.bool (x13.1.e==0))) (Eq.trans (show (g 1).v=.bool x13.2.2.1 from (hd 1 rfl).1) (congrArg Value.bool h17)) (hd 4 rfl).1 bz) ?_;refine fc r (fun fr1 g w' hb' hd r'=>ay r' (hd 5 rfl).1 bz) ?_
    refine br true (.bool false) r rfl rfl rfl (fun g w' hd=>Eq.trans (show (g 6).v=.bool (x13.1.e==0) from (hd 6 rfl).1) (congrArg Value.bool h18)) (by simp [aI]) (fun _ _=>⟨Below.refl _ _,rfl⟩) ?_;refine br true (.bool false) r rfl rfl rfl (fun g w' hd=>Eq.trans (show (g 6).v=.bool (x13.1.e==0) from (hd 6 rfl).1) (congrArg Value.bool h18)) (by simp [aI]) (fun _ _=>⟨Below.refl _ _,rfl⟩) ?_
    refine br true (.bool false) r rfl rfl rfl (fun g w' hd=>Eq.trans (show (g 6).v=.bool (x13.1.e==0) from (hd 6 rfl).1) (congrArg Value.bool h18)) (by simp [aI]) (fun _ _=>⟨Below.refl _ _,rfl⟩) ?_;refine br true (.bool false) r rfl rfl rfl (fun g w' hd=>Eq.trans (show (g 6).v=.bool (x13.1.e==0) from (hd 6 rfl).1) (congrArg Value.bool h18)) (by simp [aI]) (fun _ _=>⟨Below.refl _ _,rfl⟩) ?_
    refine br true (.bool false) r rfl rfl rfl (fun g w' hd=>Eq.trans (show (g 6).v=.bool (x13.1.e==0) from (hd 6 rfl).1) (congrArg Value.bool h18)) (by simp [aI]) (fun _ _=>⟨Below.refl _ _,rfl⟩) ?_;refine br true (.bool false) r rfl rfl rfl (fun g w' hd=>Eq.trans (show (g 6).v=.bool (x13.1.e==0) from (hd 6 rfl).1) (congrArg Value.bool h18)) (by simp [aI]) (fun _ _=>⟨Below.refl _ _,rfl⟩) ?_
    refine br true (.bool false) r rfl rfl rfl (fun g w' hd=>Eq.trans (show (g 6).v=.bool (x13.1.e==0) from (hd 6 rfl).1) (congrArg Value.bool h18)) (by simp [aI]) (fun _ _=>⟨Below.refl _ _,rfl⟩) ?_;refine fc r (fun fr1 g w' hb' hd r'=>aw r' (b:=false) (v:=(.bool false)) (Eq.trans (show (g 6).v=.bool (x13.1.e==0) from (hd 6 rfl).1) (congrArg Value.bool h18)) rfl bz) ?_
    refine fc r (fun fr1 g w' hb' hd r'=>cf r' (hd 14 rfl).1 bz) ?_;exact cc
   intro fr gg w23 hb hΦ hap r;have r:=r.congr (sc ((hΦ 15 rfl).1) (sc ((hΦ 14 rfl).1) (sc ((hΦ 13 rfl).1) (sc ((hΦ 12 rfl).1) (sc ((hΦ 11 rfl).1) (sc ((hΦ 10 rfl).1) (sc ((hΦ 9 rfl).1) (sc ((hΦ 8 rfl).1) (sc ((hΦ 7 rfl).1) (sc ((hΦ 6 rfl).1) (sc ((hΦ 5 rfl).1) (sc ((hΦ 4 rfl).1) (sc ((hΦ 3 rfl).1) (sc ((hΦ 2 rfl).1) (sc ((hΦ 1 rfl).1) (sc ((hΦ 0 rfl).1) rfl))))))))))))))));have hP:=hP.below hb;exact nxy16 false () _ _ _ hD r (kO (aq rfl (aq rfl aN))) (hP.pick [0,1,2] rfl rfl)
  have hD:=(aB h17).symm.trans hD;refine dL [.val (.bool x13.2.2.1),.val (.bool x13.2.2.1),.val undef,.val undef,.val undef,.val (.bool false),.val (.bool false),.val undef,.val undef,.val undef,.val undef,.val undef,.val undef,.val undef,.val (.bool false),.val (.bool false)] mixed r kz ?_ ?_
  ·
   refine fc r (fun fr1 g w' hb' hd r'=>ay r' rfl bz) ?_;refine fc r (fun fr1 g w' hb' hd r'=>ay r' (hd 0 rfl).1 bz) ?_
   refine br true (.bool false) r rfl rfl rfl (fun g w' hd=>Eq.trans (show (g 1).v=.bool x13.2.2.1 from (hd 1 rfl).1) (congrArg Value.bool h17)) (by simp [aI]) (fun _ _=>⟨Below.refl _ _,rfl⟩) ?_;refine br true (.bool false) r rfl rfl rfl (fun g w' hd=>Eq.trans (show (g 1).v=.bool x13.2.2.1 from (hd 1 rfl).1) (congrArg Value.bool h17)) (by simp [aI]) (fun _ _=>⟨Below.refl _ _,rfl⟩) ?_
   refine br true (.bool false) r rfl rfl rfl (fun g w' hd=>Eq.trans (show (g 1).v=.bool x13.2.2.1 from (hd 1 rfl).1) (congrArg Value.bool h17)) (by simp [aI]) (fun _ _=>⟨Below.refl _ _,rfl⟩) ?_;refine fc r (fun fr1 g w' hb' hd r'=>aw r' (b:=false) (v:=(.bool false)) (Eq.trans (show (g 1).v=.bool x13.2.2.1 from (hd 1 rfl).1) (congrArg Value.bool h17)) rfl bz) ?_
   refine fc r (fun fr1 g w' hb' hd r'=>ay r' (hd 5 rfl).1 bz) ?_;refine br true (.bool false) r rfl rfl rfl (fun g w' hd=>Eq.trans (show (g 6).v=.bool false from (hd 6 rfl).1) (congrArg Value.bool (rfl:false=_))) (by simp [aI]) (fun _ _=>⟨Below.refl _ _,rfl⟩) ?_
   refine br true (.bool false) r rfl rfl rfl (fun g w' hd=>Eq.trans (show (g 6).v=.bool false from (hd 6 rfl).1) (congrArg Value.bool (rfl:false=_))) (by simp [aI]) (fun _ _=>⟨Below.refl _ _,rfl⟩) ?_;refine br true (.bool false) r rfl rfl rfl (fun g w' hd=>Eq.trans (show (g 6).v=.bool false from (hd 6 rfl).1) (congrArg Value.bool (rfl:false=_))) (by simp [aI]) (fun _ _=>⟨Below.refl _ _,rfl⟩) ?_
   refine br true (.bool false) r rfl rfl rfl (fun g w' hd=>Eq.trans (show (g 6).v=.bool false from (hd 6 rfl).1) (congrArg Value.bool (rfl:false=_))) (by simp [aI]) (fun _ _=>⟨Below.refl _ _,rfl⟩) ?_;refine br true (.bool false) r rfl rfl rfl (fun g w' hd=>Eq.trans (show (g 6).v=.bool false from (hd 6 rfl).1) (congrArg Value.bool (rfl:false=_))) (by simp [aI]) (fun _ _=>⟨Below.refl _ _,rfl⟩) ?_
   refine br true (.bool false) r rfl rfl rfl (fun g w' hd=>Eq.trans (show (g 6).v=.bool false from (hd 6 rfl).1) (congrArg Value.bool (rfl:false=_))) (by simp [aI]) (fun _ _=>⟨Below.refl _ _,rfl⟩) ?_;refine br true (.bool false) r rfl rfl rfl (fun g w' hd=>Eq.trans (show (g 6).v=.bool false from (hd 6 rfl).1) (congrArg Value.bool (rfl:false=_))) (by simp [aI]) (fun _ _=>⟨Below.refl _ _,rfl⟩) ?_
   refine fc r (fun fr1 g w' hb' hd r'=>aw r' (b:=false) (v:=(.bool false)) (Eq.trans (show (g 6).v=.bool false from (hd 6 rfl).1) (congrArg Value.bool (rfl:false=_))) rfl bz) ?_;refine fc r (fun fr1 g w' hb' hd r'=>cf r' (hd 14 rfl).1 bz) ?_
   exact cc
  intro fr gg w24 hb hΦ hap r;have r:=r.congr (sc ((hΦ 15 rfl).1) (sc ((hΦ 14 rfl).1) (sc ((hΦ 13 rfl).1) (sc ((hΦ 12 rfl).1) (sc ((hΦ 11 rfl).1) (sc ((hΦ 10 rfl).1) (sc ((hΦ 9 rfl).1) (sc ((hΦ 8 rfl).1) (sc ((hΦ 7 rfl).1) (sc ((hΦ 6 rfl).1) (sc ((hΦ 5 rfl).1) (sc ((hΦ 4 rfl).1) (sc ((hΦ 3 rfl).1) (sc ((hΦ 2 rfl).1) (sc ((hΦ 1 rfl).1) (sc ((hΦ 0 rfl).1) rfl))))))))))))))));have hP:=hP.below hb;exact nxy16 false () _ _ _ hD r (kO (aq rfl (aq rfl aN))) (hP.pick [0,1,2] rfl rfl)
 rintro x25 γ26 fr w27 g r hP hD;have hP:Post No [aa b1 ((ae pL0)).toArray 23,memK mg9 x13.2.2.2,aa b14 ((resC x13.1)).toArray 54] w0 w27:=hP;refine wp_ret ?_;have hv:x25=res:=Option.some.inj hD
 try dsimp only [Exit.then,Exit.inBlock]
 refine bg (fn:=Tryz.f48) r (t:=0) rfl (v:=(.bool x25)) rfl ?_;subst hv;exact ⟨rfl,hP.chg.below⟩
def D.jf (fu:Nat) (a0:Nat × T Res) (a1:Nat × T Res) (a2:Mem) (a3:List Bool):Option (Res × Res × Bool × Mem):=(loopThen (fun (x17:Int × (Nat × T Res) × (Nat × T Res) × Mem)=>(bif (decide (x17.1<(a3.length:Int))) then ((getI a3 x17.1).bind (fun (x22:Bool)=>(Option.bind (bif x22 then ((D.dR fu x17.2.2.2 0).bind (fun (x25:Cap)=>((D.jd fu x17.2.1 x17.2.2.2 x25).bind (fun (x26:(Nat × T Res) × Bool × Mem)=>(some (x26.2.2,x26.1,x17.2.2.1)))))) else ((D.dR fu x17.2.2.2 0).bind (fun (x34:Cap)=>((D.jd fu x17.2.2.1 x17.2.2.2 x34).bind (fun (x35:(Nat × T Res) × Bool × Mem)=>(some (x35.2.2,x17.2.1,x35.1))))))) (fun (x43:Mem × (Nat × T Res) × (Nat × T Res))=>(some (Lp.next ((IntKind.i64.wrap (x17.1+1)),x43.2.1,x43.2.2,x43.1))))))) else (some (Lp.brk (x17.1,x17.2.1,x17.2.2.1,x17.2.2.2))))) fu (0,a0,a1,a2) (fun (x46:Int × (Nat × T Res) × (Nat × T Res) × Mem)=>((D.dR fu x46.2.2.2 0).bind (fun (x49:Cap)=>((D.jC fu x46.2.1 x46.2.2.2 x49 600).bind (fun (x50:Res × Int × Bool × Mem)=>((D.dR fu x50.2.2.2 0).bind (fun (x53:Cap)=>((D.jC fu x46.2.2.1 x50.2.2.2 x53 600).bind (fun (x54:Res × Int × Bool × Mem)=>(Option.bind (bif x50.2.2.1 then (some (x50.1,x54.1,x54.2.2.1)) else (some (x50.1,x54.1,false))) (fun (x61:Res × Res × Bool)=>(some (x61.1,x61.2.1,x61.2.2,x54.2.2.2))))))))))))))
set_option maxRecDepth 20000 in
set_option maxHeartbeats 20000000 in
theorem rH {fu:Nat} (w0:World) {a0v:Value} {a0F:List Nat} (a0:Nat × T Res) {a1v:Value} {a1F:List Nat} (a1:Nat × T Res) {a2g:MG} (a2:Mem) {a3v:Value} (a3:List Bool) (hS:Sep [aW Tryz.prog aj a0 a0v a0F,aW Tryz.prog aj a1 a1v a1F,memK a2g a2,roK 4 1 aP a3v a3] w0) {res:Res × Res × Bool × Mem} (hD:D.jf fu a0 a1 a2 a3=some res) :
    Calls Tryz.prog 53 #[a0v,a1v,zp a2g.mb,a3v] w0 (fun e w'=>e=.returned (.tuple #[(.agg (resC res.1).toArray),(.agg (resC res.2.1).toArray),(.bool res.2.2.1)])∧Done (fun b=>b∈a0F∨b∈a1F∨b∈(memK a2g a2).own) No [memK a2g res.2.2.2] w0 w'):=by
 refine enter Tryz.func53 rfl 74 rfl rfl fun fr r=>?_;have hP:Post (fun b=>b∈a0F∨b∈a1F∨b∈(memK a2g a2).own) [aW Tryz.prog aj a0 a0v a0F,aW Tryz.prog aj a1 a1v a1F,memK a2g a2,roK 4 1 aP a3v a3] w0 w0:=.start hS (by intro c hc b hb; rcases List.mem_cons.1 hc with rfl | hc; exact .inl hb; rcases List.mem_cons.1 hc with rfl | hc; exact .inr (.inl hb); rcases List.mem_cons.1 hc with rfl | hc; exact .inr (.inr hb); rcases List.mem_singleton.1 hc with rfl; cases hb)
 unfold D.jf at hD
 refine wsr ?_;refine kX 57 a0v r rfl rfl fun b1 w2 n3 r=>?_;have hP:Post (fun b=>b∈a0F∨b∈a1F∨b∈(memK a2g a2).own) [aW Tryz.prog aj a0 a0v a0F,aW Tryz.prog aj a1 a1v a1F,memK a2g a2,roK 4 1 aP a3v a3,aa b1 a0v.cells 57] w0 w2:=hP.new n3
 refine kX 57 a1v r rfl rfl fun b5 w6 n7 r=>?_;have hP:Post (fun b=>b∈a0F∨b∈a1F∨b∈(memK a2g a2).own) [aW Tryz.prog aj a0 a0v a0F,aW Tryz.prog aj a1 a1v a1F,memK a2g a2,roK 4 1 aP a3v a3,aa b1 a0v.cells 57,aa b5 a1v.cells 57] w0 w6:=hP.new n7
 refine ai (.cells ((resC (⟨0,0⟩:Res))).toArray 54 (0,0)) r (fun R=>ah tz54) rfl fun fr b9 w10 n11 r=>?_;have hP:Post (fun b=>b∈a0F∨b∈a1F∨b∈(memK a2g a2).own) [aW Tryz.prog aj a0 a0v a0F,aW Tryz.prog aj a1 a1v a1F,memK a2g a2,roK 4 1 aP a3v a3,aa b1 a0v.cells 57,aa b5 a1v.cells 57,aa b9 ((resC (⟨0,0⟩:Res))).toArray 54] w0 w10:=hP.new n11
 refine ai (.cells ((resC (⟨0,0⟩:Res))).toArray 54 (0,0)) r (fun R=>ah tz54) rfl fun fr b13 w14 n15 r=>?_;have hP:Post (fun b=>b∈a0F∨b∈a1F∨b∈(memK a2g a2).own) [aW Tryz.prog aj a0 a0v a0F,aW Tryz.prog aj a1 a1v a1F,memK a2g a2,roK 4 1 aP a3v a3,aa b1 a0v.cells 57,aa b5 a1v.cells 57,aa b9 ((resC (⟨0,0⟩:Res))).toArray 54,aa b13 ((resC (⟨0,0⟩:Res))).toArray 54] w0 w14:=hP.new n15
 refine kA (.bool false) r rfl rfl fun r=>wn (wp_seq (wsr (kA (I 0) r rfl rfl fun r=>wn ?_)));refine fA (X:=Int × (Nat × T Res) × (Nat × T Res) × Mem) (G:=Value × List Nat × Value × List Nat) (x0:=(0,a0,a1,a2)) (fun x γ=>[(0,a0v),(1,a1v),(2,(zp a2g.mb)),(3,a3v),(4,(zp b1)),(5,(zp b5)),(8,(zp b9)),(9,(zp b13)),(10,(.bool false)),(11,(I x.1))]) (fun x γ w=>Post (fun b=>b∈a0F∨b∈a1F∨b∈(memK a2g a2).own) [aW Tryz.prog aj x.2.1 γ.1 γ.2.1,aW Tryz.prog aj x.2.2.1 γ.2.2.1 γ.2.2.2,memK a2g x.2.2.2,roK 4 1 aP a3v a3,aa b1 γ.1.cells 57,aa b5 γ.2.2.1.cells 57,aa b9 ((resC (⟨0,0⟩:Res))).toArray 54,aa b13 ((resC (⟨0,0⟩:Res))).toArray 54] w0 w) (a0v,a0F,a1v,a1F) r (kO (kO (aq rfl (aq rfl aN)))) hP hD ?_ ?_
 ·
  rintro x17 γ18 fr w20 g y19 RPy19 nxy19 bky19 rty19 r hP hD;have hP:Post (fun b=>b∈a0F∨b∈a1F∨b∈(memK a2g a2).own) [aW Tryz.prog aj x17.2.1 γ18.1 γ18.2.1,aW Tryz.prog aj x17.2.2.1 γ18.2.2.1 γ18.2.2.2,memK a2g x17.2.2.2,roK 4 1 aP a3v a3,aa b1 γ18.1.cells 57,aa b5 γ18.2.2.1.cells 57,aa b9 ((resC (⟨0,0⟩:Res))).toArray 54,aa b13 ((resC (⟨0,0⟩:Res))).toArray 54] w0 w20:=hP
  refine wp_seq (wsr (kM (I x17.1) r rfl rfl fun r=>kM a3v r rfl rfl fun r=>ac (I (a3.length:Int)) r (fun R=>dz r (hP.ro (i:=3) rfl) is31 rfl) rfl fun fr r=>kB r rfl rfl rfl rfl rfl fun r=>wn ?_));refine wp_cond_split (t:=(decide (x17.1<(a3.length:Int)))) (r.ev rfl) (fun h21=>?_) (fun h21=>?_)
  ·
   have hD:=(az h21).symm.trans hD;refine wp_skip (wp_seq (wp_block (wsr (kM a3v r rfl rfl fun r=>kM (I x17.1) r rfl rfl fun r=>?_))));obtain ⟨x22,hx22,hD⟩:=aY hD
   refine ac (.pointer (some ⟨rowB a3v,rowO a3v+x17.1.toNat * 1,none⟩)) r (fun R=>cO r (hP.ro (i:=3) rfl) hx22 sl31 rfl rfl) rfl fun fr r=>ac (.bool x22) r (fun R=>dg r (u:=(.bool x22)) (RoAt.at_ (f:=aP) (x:=x22) (hP.ro (i:=3) rfl) (fun _=>rfl) hx22) rfl to4) rfl fun fr r=>wn ?_;refine cL (N:=74) (Y:=Mem × (Nat × T Res) × (Nat × T Res)) (G:=Value × List Nat × Value × List Nat) (fun x γ=>[(0,a0v),(1,a1v),(2,(zp a2g.mb)),(3,a3v),(4,(zp b1)),(5,(zp b5)),(8,(zp b9)),(9,(zp b13)),(10,(.bool false)),(11,(I x17.1)),(25,(.bool (decide (x17.1<(a3.length:Int))))),(31,(.bool x22))]) (fun x γ w=>Post (fun b=>b∈a0F∨b∈a1F∨b∈(memK a2g a2).own) [aW Tryz.prog aj x.2.1 γ.1 γ.2.1,aW Tryz.prog aj x.2.2 γ.2.2.1 γ.2.2.2,memK a2g x.1,roK 4 1 aP a3v a3,aa b1 γ.1.cells 57,aa b5 γ.2.2.1.cells 57,aa b9 ((resC (⟨0,0⟩:Res))).toArray 54,aa b13 ((resC (⟨0,0⟩:Res))).toArray 54] w0 w) hD ?_ ?_
   ·
    rintro y23 RPy23 nxy23 hD;refine wp_cond_split (t:=x22) (r.ev rfl) (fun h24=>?_) (fun h24=>?_)
    ·
     have hD:=(az h24).symm.trans hD;refine wp_seq ?_;obtain ⟨x25,hx25,hD⟩:=aY hD;obtain ⟨x26,hx26,hD⟩:=aY hD;have hsh:=(hP.progz (i:=0) rfl).shape.cells.1;refine fY (γ18.2.1++a2g.bs) [.val γ18.1,.val (zp a2g.mb),.val (zp a2g.mb),.val (.agg (capC x25).toArray),.eff (EffRL Tryz.prog aj w20.heap.size γ18.2.1 (memK a2g x26.2.2) x26.1 (.bool x26.2.1)) EffRL.st,.dep 4 (fun u v=>v=u∧∃ y,v=.tuple #[y,(.bool x26.2.1)]∧Shape aj y),.dep 5 (fun u v=>Shape aj v∧u=.tuple #[v,(.bool x26.2.1)]),.val (.bool x26.2.1),.cell 57 8,.storedD 8 6 (fun v=>v.cells) 57 8,.val (.bool x26.2.1)] mixed r (hP.ltA (k:=0) (i:=2) rfl rfl) kz ?_ ?_
     ·
      refine bO r rfl kz (fun fr1 g w' hb' hd r'=>?_) ?_
      · exact dP r' ((hP.below (dr hb')).progz (i:=0) rfl).shape rfl ((hP.below (dr hb')).cell (i:=4) rfl) ta57 ⟨Below.refl _ _,rfl⟩
      refine bO r rfl kz (fun fr1 g w' hb' hd r'=>?_) ?_
      · exact ay r' (v:=(zp a2g.mb)) rfl ⟨Below.refl _ _,rfl⟩
      refine aF r rfl (fun fr1 g w' hk' hd r'=>?_) ?_
      · exact ay r' (v:=(zp a2g.mb)) rfl ⟨Below.refl _ _,rfl⟩
      refine bO r rfl kz (fun fr1 g w' hb' hd r'=>?_) ?_
      · exact aJ r' (args:=[(zp a2g.mb),(I 0)]) (lc (hd 2 rfl).1 (lc rfl l0)) cl28 ((ic _ x17.2.2.2 ((hP.below (dr hb')).mem (i:=2) rfl) 0 hx25).mono (by rintro _ w2 ⟨rfl,hb2⟩; exact ⟨_,rfl,hb2,rfl⟩))
      refine bO r rfl kz (fun fr1 g w' hb' hd r'=>?_) ?_
      · exact aJ r' (args:=[γ18.1,(zp a2g.mb),(.agg (capC x25).toArray)]) (lc (hd 0 rfl).1 (lc (hd 1 rfl).1 (lc (hd 3 rfl).1 l0))) cl27 ((nL _ x17.2.1 x17.2.2.2 x25 ((hP.below (dr hb')).sep.pk [0,2] rfl rfl) hx26).mono (by rintro _ w2 ⟨y,F,rfl,hq,_⟩; exact ⟨_,rfl,Chg.keptA hq.chg,EffRL.of hq rfl (fun b hb=>hP.sep.lt (i:=2) rfl hb) (fun b hb=>hP.sep.lt (i:=0) rfl (.inl hb))⟩))
      refine aF r rfl (fun fr1 g w' hk' hd r'=>?_) ?_
      · obtain ⟨y,F,hv,_,_,_,hr,_⟩:=(hd 4 rfl).1; exact ay r' (v:=(g 4).v) rfl ⟨Below.refl _ _,rfl,y,hv,hr.shape⟩
      refine aF r rfl (fun fr1 g w' hk' hd r'=>?_) ?_
      · obtain ⟨_,y,hv,hs⟩:=(hd 5 rfl).1; exact bM r' (vs:=#[y,(.bool x26.2.1)]) hv rfl ⟨Below.refl _ _,hs,hv⟩
      refine aF r rfl (fun fr1 g w' hk' hd r'=>?_) ?_
      · obtain ⟨_,y,hv,hs⟩:=(hd 5 rfl).1; exact bM r' (vs:=#[y,(.bool x26.2.1)]) hv rfl ⟨Below.refl _ _,rfl⟩
      refine aF r rfl (fun fr1 g w' hk' hd r'=>?_) ?_
      · exact ah tz57 (fun b w2 n2=>⟨n2.below,b,rfl,n2.eq,_,n2.at_,rfl⟩)
      refine aF r rfl (fun fr1 g w' hk' hd r'=>?_) ?_
      · obtain ⟨hp,_,c,hc,hn⟩:=(hd 8 rfl).1; obtain ⟨hs,_⟩:=(hd 6 rfl).1; exact pM r' hs hp rfl hc ts57 hn (fun w2 u2=>⟨u2,rfl,hs.cells.1⟩)
      refine aF r rfl (fun fr1 g w' hk' hd r'=>?_) ?_
      · exact cf r' (v:=(.bool x26.2.1)) (hd 7 rfl).1 ⟨Below.refl _ _,rfl⟩
      exact cc
     intro fr gg w31 hb hΦ hap r;obtain ⟨v27,F28,g4,hcE,_,_,hrE,hFE⟩:=(hΦ 4 rfl).1;have g5:=(hΦ 5 rfl).1.1.trans g4;have g6:(gg 6).v=v27:=vU ((hΦ 6 rfl).1.2.symm.trans g5);obtain ⟨b30,ee_b30⟩:∃ b,b=(gg 8).lo:=⟨_,rfl⟩;have g8:(gg 8).v=(zp b30):=by rw [ee_b30]; exact (hΦ 8 rfl).1.1
     have H30:w31.heap[b30]?=some (.cells v27.cells 57 (0,0)):=by rw [ee_b30,←g6]; exact (hΦ 9 rfl).1.2
     have hs8:bP [aa b30 v27.cells 57] (gg 8).lo (gg 8).hi w31:=by subst ee_b30; exact bP.cell (hΦ 8 rfl).1.2.1 H30
     have r:=r.congr (sc ((hΦ 10 rfl).1) (sc g8 (sc ((hΦ 7 rfl).1) (sc g6 (sc g5 (sc g4 (sc ((hΦ 3 rfl).1) (sc ((hΦ 2 rfl).1) (sc ((hΦ 1 rfl).1) (sc ((hΦ 0 rfl).1) rfl))))))))));have hP:Post (fun b=>b∈a0F∨b∈a1F∨b∈(memK a2g a2).own) [aW Tryz.prog aj x26.1 v27 F28,aW Tryz.prog aj x17.2.2.1 γ18.2.2.1 γ18.2.2.2,memK a2g x26.2.2,roK 4 1 aP a3v a3,aa b1 γ18.1.cells 57,aa b5 γ18.2.2.1.cells 57,aa b9 ((resC (⟨0,0⟩:Res))).toArray 54,aa b13 ((resC (⟨0,0⟩:Res))).toArray 54,aa b30 v27.cells 57] w0 w31:=(Post.effRL (A:=[aW Tryz.prog aj x17.2.2.1 γ18.2.2.1 γ18.2.2.2,roK 4 1 aP a3v a3,aa b1 γ18.1.cells 57,aa b5 γ18.2.2.1.cells 57,aa b9 ((resC (⟨0,0⟩:Res))).toArray 54,aa b13 ((resC (⟨0,0⟩:Res))).toArray 54]) (l:=[([aa b30 v27.cells 57],(gg 8).lo,(gg 8).hi)]) (hP.pick [1,3,4,5,6,7,0,2] rfl rfl) hb hcE rfl rfl rfl hrE hFE (hΦ 4 rfl).2.1 (hΦ 4 rfl).2.2.2 ⟨hs8,(hΦ 8 rfl).2.1,cS,trivial⟩ (iI (hap 4 8 rfl) cS)).pick [6,0,7,1,2,3,4,5,8] rfl rfl
     refine wp_region_lit (ac v27 r (fun R=>dP r (hP.progz (i:=0) rfl).shape rfl (hP.cell (i:=8) rfl) ta57) rfl fun fr r=>?_);refine kP r (hP.progz (i:=0) rfl).shape rfl rfl (hP.cell (i:=4) rfl) ts57 (by have h:=hsh; simpa using h) rfl fun w32 u33 r=>?_
     have hP:Post (fun b=>b∈a0F∨b∈a1F∨b∈(memK a2g a2).own) [aW Tryz.prog aj x26.1 v27 F28,aW Tryz.prog aj x17.2.2.1 γ18.2.2.1 γ18.2.2.2,memK a2g x26.2.2,roK 4 1 aP a3v a3,aa b1 v27.cells 57,aa b5 γ18.2.2.1.cells 57,aa b9 ((resC (⟨0,0⟩:Res))).toArray 54,aa b13 ((resC (⟨0,0⟩:Res))).toArray 54,aa b30 v27.cells 57] w0 w32:=hP.upd (i:=4) rfl u33
     refine wn ?_;exact nxy23 (x26.2.2,x26.1,x17.2.2.1) (v27,F28,γ18.2.2.1,γ18.2.2.2) _ _ _ hD r (kO (kO (kO aN))) (hP.pick [0,1,2,3,4,5,6,7] rfl rfl)
    have hD:=(aB h24).symm.trans hD;refine wp_seq ?_;obtain ⟨x34,hx34,hD⟩:=aY hD;obtain ⟨x35,hx35,hD⟩:=aY hD;have hsh:=(hP.progz (i:=1) rfl).shape.cells.1;refine fY (γ18.2.2.2++a2g.bs) [.val γ18.2.2.1,.val (zp a2g.mb),.val (zp a2g.mb),.val (.agg (capC x34).toArray),.eff (EffRL Tryz.prog aj w20.heap.size γ18.2.2.2 (memK a2g x35.2.2) x35.1 (.bool x35.2.1)) EffRL.st,.dep 4 (fun u v=>v=u∧∃ y,v=.tuple #[y,(.bool x35.2.1)]∧Shape aj y),.dep 5 (fun u v=>Shape aj v∧u=.tuple #[v,(.bool x35.2.1)]),.val (.bool x35.2.1),.cell 57 8,.storedD 8 6 (fun v=>v.cells) 57 8,.val (.bool x35.2.1)] mixed r (hP.ltA (k:=1) (i:=2) rfl rfl) kz ?_ ?_
    ·
     refine bO r rfl kz (fun fr1 g w' hb' hd r'=>?_) ?_
     · exact dP r' ((hP.below (dr hb')).progz (i:=1) rfl).shape rfl ((hP.below (dr hb')).cell (i:=5) rfl) ta57 ⟨Below.refl _ _,rfl⟩
     refine bO r rfl kz (fun fr1 g w' hb' hd r'=>?_) ?_
     · exact ay r' (v:=(zp a2g.mb)) rfl ⟨Below.refl _ _,rfl⟩
     refine aF r rfl (fun fr1 g w' hk' hd r'=>?_) ?_
     · exact ay r' (v:=(zp a2g.mb)) rfl ⟨Below.refl _ _,rfl⟩
     refine bO r rfl kz (fun fr1 g w' hb' hd r'=>?_) ?_
     · exact aJ r' (args:=[(zp a2g.mb),(I 0)]) (lc (hd 2 rfl).1 (lc rfl l0)) cl28 ((ic _ x17.2.2.2 ((hP.below (dr hb')).mem (i:=2) rfl) 0 hx34).mono (by rintro _ w2 ⟨rfl,hb2⟩; exact ⟨_,rfl,hb2,rfl⟩))
     refine bO r rfl kz (fun fr1 g w' hb' hd r'=>?_) ?_
     · exact aJ r' (args:=[γ18.2.2.1,(zp a2g.mb),(.agg (capC x34).toArray)]) (lc (hd 0 rfl).1 (lc (hd 1 rfl).1 (lc (hd 3 rfl).1 l0))) cl27 ((nL _ x17.2.2.1 x17.2.2.2 x34 ((hP.below (dr hb')).sep.pk [1,2] rfl rfl) hx35).mono (by rintro _ w2 ⟨y,F,rfl,hq,_⟩; exact ⟨_,rfl,Chg.keptA hq.chg,EffRL.of hq rfl (fun b hb=>hP.sep.lt (i:=2) rfl hb) (fun b hb=>hP.sep.lt (i:=1) rfl (.inl hb))⟩))
     refine aF r rfl (fun fr1 g w' hk' hd r'=>?_) ?_
     · obtain ⟨y,F,hv,_,_,_,hr,_⟩:=(hd 4 rfl).1; exact ay r' (v:=(g 4).v) rfl ⟨Below.refl _ _,rfl,y,hv,hr.shape⟩
     refine aF r rfl (fun fr1 g w' hk' hd r'=>?_) ?_
     · obtain ⟨_,y,hv,hs⟩:=(hd 5 rfl).1; exact bM r' (vs:=#[y,(.bool x35.2.1)]) hv rfl ⟨Below.refl _ _,hs,hv⟩
     refine aF r rfl (fun fr1 g w' hk' hd r'=>?_) ?_
     · obtain ⟨_,y,hv,hs⟩:=(hd 5 rfl).1; exact bM r' (vs:=#[y,(.bool x35.2.1)]) hv rfl ⟨Below.refl _ _,rfl⟩
     refine aF r rfl (fun fr1 g w' hk' hd r'=>?_) ?_
     · exact ah tz57 (fun b w2 n2=>⟨n2.below,b,rfl,n2.eq,_,n2.at_,rfl⟩)
     refine aF r rfl (fun fr1 g w' hk' hd r'=>?_) ?_
     · obtain ⟨hp,_,c,hc,hn⟩:=(hd 8 rfl).1; obtain ⟨hs,_⟩:=(hd 6 rfl).1; exact pM r' hs hp rfl hc ts57 hn (fun w2 u2=>⟨u2,rfl,hs.cells.1⟩)
     refine aF r rfl (fun fr1 g w' hk' hd r'=>?_) ?_
     · exact cf r' (v:=(.bool x35.2.1)) (hd 7 rfl).1 ⟨Below.refl _ _,rfl⟩
     exact cc
    intro fr gg w40 hb hΦ hap r;obtain ⟨v36,F37,g4,hcE,_,_,hrE,hFE⟩:=(hΦ 4 rfl).1;have g5:=(hΦ 5 rfl).1.1.trans g4;have g6:(gg 6).v=v36:=vU ((hΦ 6 rfl).1.2.symm.trans g5);obtain ⟨b39,ee_b39⟩:∃ b,b=(gg 8).lo:=⟨_,rfl⟩;have g8:(gg 8).v=(zp b39):=by rw [ee_b39]; exact (hΦ 8 rfl).1.1
    have H39:w40.heap[b39]?=some (.cells v36.cells 57 (0,0)):=by rw [ee_b39,←g6]; exact (hΦ 9 rfl).1.2
    have hs8:bP [aa b39 v36.cells 57] (gg 8).lo (gg 8).hi w40:=by subst ee_b39; exact bP.cell (hΦ 8 rfl).1.2.1 H39
    have r:=r.congr (sc ((hΦ 10 rfl).1) (sc g8 (sc ((hΦ 7 rfl).1) (sc g6 (sc g5 (sc g4 (sc ((hΦ 3 rfl).1) (sc ((hΦ 2 rfl).1) (sc ((hΦ 1 rfl).1) (sc ((hΦ 0 rfl).1) rfl))))))))));have hP:Post (fun b=>b∈a0F∨b∈a1F∨b∈(memK a2g a2).own) [aW Tryz.prog aj x17.2.1 γ18.1 γ18.2.1,aW Tryz.prog aj x35.1 v36 F37,memK a2g x35.2.2,roK 4 1 aP a3v a3,aa b1 γ18.1.cells 57,aa b5 γ18.2.2.1.cells 57,aa b9 ((resC (⟨0,0⟩:Res))).toArray 54,aa b13 ((resC (⟨0,0⟩:Res))).toArray 54,aa b39 v36.cells 57] w0 w40:=(Post.effRL (A:=[aW Tryz.prog aj x17.2.1 γ18.1 γ18.2.1,roK 4 1 aP a3v a3,aa b1 γ18.1.cells 57,aa b5 γ18.2.2.1.cells 57,aa b9 ((resC (⟨0,0⟩:Res))).toArray 54,aa b13 ((resC (⟨0,0⟩:Res))).toArray 54]) (l:=[([aa b39 v36.cells 57],(gg 8).lo,(gg 8).hi)]) (hP.pick [0,3,4,5,6,7,1,2] rfl rfl) hb hcE rfl rfl rfl hrE hFE (hΦ 4 rfl).2.1 (hΦ 4 rfl).2.2.2 ⟨hs8,(hΦ 8 rfl).2.1,cS,trivial⟩ (iI (hap 4 8 rfl) cS)).pick [0,6,7,1,2,3,4,5,8] rfl rfl
    refine wp_region_lit (ac v36 r (fun R=>dP r (hP.progz (i:=1) rfl).shape rfl (hP.cell (i:=8) rfl) ta57) rfl fun fr r=>?_);refine kP r (hP.progz (i:=1) rfl).shape rfl rfl (hP.cell (i:=5) rfl) ts57 (by have h:=hsh; simpa using h) rfl fun w41 u42 r=>?_
    have hP:Post (fun b=>b∈a0F∨b∈a1F∨b∈(memK a2g a2).own) [aW Tryz.prog aj x17.2.1 γ18.1 γ18.2.1,aW Tryz.prog aj x35.1 v36 F37,memK a2g x35.2.2,roK 4 1 aP a3v a3,aa b1 γ18.1.cells 57,aa b5 v36.cells 57,aa b9 ((resC (⟨0,0⟩:Res))).toArray 54,aa b13 ((resC (⟨0,0⟩:Res))).toArray 54,aa b39 v36.cells 57] w0 w41:=hP.upd (i:=5) rfl u42
    refine wn ?_;exact nxy23 (x35.2.2,x17.2.1,x35.1) (γ18.1,γ18.2.1,v36,F37) _ _ _ hD r (kO (kO (kO aN))) (hP.pick [0,1,2,3,4,5,6,7] rfl rfl)
   rintro x43 γ44 fr w45 g r hP hD;have hP:Post (fun b=>b∈a0F∨b∈a1F∨b∈(memK a2g a2).own) [aW Tryz.prog aj x43.2.1 γ44.1 γ44.2.1,aW Tryz.prog aj x43.2.2 γ44.2.2.1 γ44.2.2.2,memK a2g x43.1,roK 4 1 aP a3v a3,aa b1 γ44.1.cells 57,aa b5 γ44.2.2.1.cells 57,aa b9 ((resC (⟨0,0⟩:Res))).toArray 54,aa b13 ((resC (⟨0,0⟩:Res))).toArray 54] w0 w45:=hP
   refine wp_region_lit (kM (I x17.1) r rfl rfl fun r=>kB r rfl rfl rfl rfl rfl fun r=>kA (I (W (x17.1+1))) r rfl rfl fun r=>wn ?_);exact nxy19 ((W (x17.1+1)),x43.2.1,x43.2.2,x43.1) (γ44.1,γ44.2.1,γ44.2.2.1,γ44.2.2.2) _ _ _ hD r (kO (kO (aq rfl (aq rfl aN)))) (hP.pick [0,1,2,3,4,5,6,7] rfl rfl)
  have hD:=(aB h21).symm.trans hD;refine wp_exit ?_;exact bky19 (x17.1,x17.2.1,x17.2.2.1,x17.2.2.2) (γ18.1,γ18.2.1,γ18.2.2.1,γ18.2.2.2) _ _ _ hD r (kO (kO (aq rfl (aq rfl aN)))) (hP.pick [0,1,2,3,4,5,6,7] rfl rfl)
 rintro x46 γ47 fr w48 g r hP hD;have hP:Post (fun b=>b∈a0F∨b∈a1F∨b∈(memK a2g a2).own) [aW Tryz.prog aj x46.2.1 γ47.1 γ47.2.1,aW Tryz.prog aj x46.2.2.1 γ47.2.2.1 γ47.2.2.2,memK a2g x46.2.2.2,roK 4 1 aP a3v a3,aa b1 γ47.1.cells 57,aa b5 γ47.2.2.1.cells 57,aa b9 ((resC (⟨0,0⟩:Res))).toArray 54,aa b13 ((resC (⟨0,0⟩:Res))).toArray 54] w0 w48:=hP
 refine wp_seq ?_;obtain ⟨x49,hx49,hD⟩:=aY hD;obtain ⟨x50,hx50,hD⟩:=aY hD;refine fY (γ47.2.1++a2g.bs) [.val γ47.1,.val (zp a2g.mb),.val (zp a2g.mb),.val (.agg (capC x49).toArray),.eff (EffP w48.heap.size (memK a2g x50.2.2.2) (fun _:Unit=>(.tuple #[(.agg (resC x50.1).toArray),(I x50.2.1),(.bool x50.2.2.1)])) (fun _:Unit=>[])) (EffP.st _ _ _ _),.val (.tuple #[(.agg (resC x50.1).toArray),(I x50.2.1),(.bool x50.2.2.1)]),.val (.agg (resC x50.1).toArray),.val (I x50.2.1),.val (.bool x50.2.2.1),.cell 54 2,.stored 9 ((resC x50.1)).toArray 54 2 rfl,.val (I x50.2.1),.val (.bool x50.2.2.1)] mixed r (hP.ltA (k:=0) (i:=2) rfl rfl) kz ?_ ?_
 ·
  refine bO r rfl kz (fun fr1 g w' hb' hd r'=>?_) ?_
  · exact dP r' ((hP.below (dr hb')).progz (i:=0) rfl).shape rfl ((hP.below (dr hb')).cell (i:=4) rfl) ta57 ⟨Below.refl _ _,rfl⟩
  refine bO r rfl kz (fun fr1 g w' hb' hd r'=>?_) ?_
  · exact ay r' (v:=(zp a2g.mb)) rfl ⟨Below.refl _ _,rfl⟩
  refine aF r rfl (fun fr1 g w' hk' hd r'=>?_) ?_
  · exact ay r' (v:=(zp a2g.mb)) rfl ⟨Below.refl _ _,rfl⟩
  refine bO r rfl kz (fun fr1 g w' hb' hd r'=>?_) ?_
  · exact aJ r' (args:=[(zp a2g.mb),(I 0)]) (lc (hd 2 rfl).1 (lc rfl l0)) cl28 ((ic _ x46.2.2.2 ((hP.below (dr hb')).mem (i:=2) rfl) 0 hx49).mono (by rintro _ w2 ⟨rfl,hb2⟩; exact ⟨_,rfl,hb2,rfl⟩))
  refine bO r rfl kz (fun fr1 g w' hb' hd r'=>?_) ?_
  · exact aJ r' (args:=[γ47.1,(zp a2g.mb),(.agg (capC x49).toArray),(I 600)]) (lc (hd 0 rfl).1 (lc (hd 1 rfl).1 (lc (hd 3 rfl).1 (lc rfl l0)))) cl37 ((oo _ x46.2.1 x46.2.2.2 x49 600 ((hP.below (dr hb')).sep.pk [0,2] rfl rfl) hx50).mono (by rintro _ w2 ⟨rfl,hq⟩; exact ⟨_,rfl,Chg.keptA hq.chg,EffP.ofC hq (fun b hb=>hP.sep.lt (i:=2) rfl hb)⟩))
  refine aF r rfl (fun fr1 g w' hk' hd r'=>?_) ?_
  · exact ay r' (v:=(.tuple #[(.agg (resC x50.1).toArray),(I x50.2.1),(.bool x50.2.2.1)])) (EffP.val (hd 4 rfl).1) ⟨Below.refl _ _,rfl⟩
  refine aF r rfl (fun fr1 g w' hk' hd r'=>?_) ?_
  · exact bM r' (vs:=#[(.agg (resC x50.1).toArray),(I x50.2.1),(.bool x50.2.2.1)]) (hd 5 rfl).1 rfl ⟨Below.refl _ _,rfl⟩
  refine aF r rfl (fun fr1 g w' hk' hd r'=>?_) ?_
  · exact bM r' (vs:=#[(.agg (resC x50.1).toArray),(I x50.2.1),(.bool x50.2.2.1)]) (hd 5 rfl).1 rfl ⟨Below.refl _ _,rfl⟩
  refine aF r rfl (fun fr1 g w' hk' hd r'=>?_) ?_
  · exact bM r' (vs:=#[(.agg (resC x50.1).toArray),(I x50.2.1),(.bool x50.2.2.1)]) (hd 5 rfl).1 rfl ⟨Below.refl _ _,rfl⟩
  refine aF r rfl (fun fr1 g w' hk' hd r'=>?_) ?_
  · exact ah tz54 (fun b w2 n2=>⟨n2.below,b,rfl,n2.eq,_,n2.at_,rfl⟩)
  refine aF r rfl (fun fr1 g w' hk' hd r'=>?_) ?_
  · obtain ⟨hp,_,c,hc,hn⟩:=(hd 9 rfl).1; exact aT r' (o:=0) (c:=c) (v:=(.agg (resC x50.1).toArray)) hp (hd 6 rfl).1 hc ts54 (by rw [hn]; exact Nat.le_of_ble_eq_true rfl) rfl (eH (hn.trans rfl)) (fun w2 u2=>⟨u2,rfl⟩)
  refine aF r rfl (fun fr1 g w' hk' hd r'=>?_) ?_
  · exact cf r' (v:=(I x50.2.1)) (hd 7 rfl).1 ⟨Below.refl _ _,rfl⟩
  refine aF r rfl (fun fr1 g w' hk' hd r'=>?_) ?_
  · exact cf r' (v:=(.bool x50.2.2.1)) (hd 8 rfl).1 ⟨Below.refl _ _,rfl⟩
  exact cc
 intro fr gg w52 hb hΦ hap r;obtain ⟨⟨⟩,g4,hcE,_,hs4⟩:=(hΦ 4 rfl).1;obtain ⟨b51,ee_b51⟩:∃ b,b=(gg 9).lo:=⟨_,rfl⟩;have g9:(gg 9).v=(zp b51):=by rw [ee_b51]; exact (hΦ 9 rfl).1.1
 have H51:w52.heap[b51]?=some (.cells ((resC x50.1)).toArray 54 (0,0)):=by rw [ee_b51]; exact (hΦ 10 rfl).1.2
 have hs9:bP [aa b51 ((resC x50.1)).toArray 54] (gg 9).lo (gg 9).hi w52:=by subst ee_b51; exact bP.cell (hΦ 9 rfl).1.2.1 H51
 have r:=r.congr (sc ((hΦ 12 rfl).1) (sc ((hΦ 11 rfl).1) (sc g9 (sc ((hΦ 8 rfl).1) (sc ((hΦ 7 rfl).1) (sc ((hΦ 6 rfl).1) (sc ((hΦ 5 rfl).1) (sc g4 (sc ((hΦ 3 rfl).1) (sc ((hΦ 2 rfl).1) (sc ((hΦ 1 rfl).1) (sc ((hΦ 0 rfl).1) rfl))))))))))));have hP:Post (fun b=>b∈a0F∨b∈a1F∨b∈(memK a2g a2).own) [deadK γ47.2.1,aW Tryz.prog aj x46.2.2.1 γ47.2.2.1 γ47.2.2.2,memK a2g x50.2.2.2,roK 4 1 aP a3v a3,aa b1 γ47.1.cells 57,aa b5 γ47.2.2.1.cells 57,aa b9 ((resC (⟨0,0⟩:Res))).toArray 54,aa b13 ((resC (⟨0,0⟩:Res))).toArray 54,aa b51 ((resC x50.1)).toArray 54] w0 w52:=(Post.effLL (A:=[aW Tryz.prog aj x46.2.2.1 γ47.2.2.1 γ47.2.2.2,roK 4 1 aP a3v a3,aa b1 γ47.1.cells 57,aa b5 γ47.2.2.1.cells 57,aa b9 ((resC (⟨0,0⟩:Res))).toArray 54,aa b13 ((resC (⟨0,0⟩:Res))).toArray 54]) (l:=[([aa b51 ((resC x50.1)).toArray 54],(gg 9).lo,(gg 9).hi)]) (hP.pick [1,3,4,5,6,7,0,2] rfl rfl) hb hcE rfl rfl rfl ⟨hs9,(hΦ 9 rfl).2.1,cS,trivial⟩).pick [6,0,7,1,2,3,4,5,8] rfl rfl
 refine wp_seq ?_;obtain ⟨x53,hx53,hD⟩:=aY hD;obtain ⟨x54,hx54,hD⟩:=aY hD;refine fY (γ47.2.2.2++a2g.bs) [.val γ47.2.2.1,.val (zp a2g.mb),.val (zp a2g.mb),.val (.agg (capC x53).toArray),.eff (EffP w52.heap.size (memK a2g x54.2.2.2) (fun _:Unit=>(.tuple #[(.agg (resC x54.1).toArray),(I x54.2.1),(.bool x54.2.2.1)])) (fun _:Unit=>[])) (EffP.st _ _ _ _),.val (.tuple #[(.agg (resC x54.1).toArray),(I x54.2.1),(.bool x54.2.2.1)]),.val (.agg (resC x54.1).toArray),.val (I x54.2.1),.val (.bool x54.2.2.1),.cell 54 2,.stored 9 ((resC x54.1)).toArray 54 2 rfl,.val (I x54.2.1),.val (.bool x54.2.2.1)] mixed r (hP.ltA (k:=1) (i:=2) rfl rfl) kz ?_ ?_
 ·
  refine bO r rfl kz (fun fr1 g w' hb' hd r'=>?_) ?_
  · exact dP r' ((hP.below (dr hb')).progz (i:=1) rfl).shape rfl ((hP.below (dr hb')).cell (i:=5) rfl) ta57 ⟨Below.refl _ _,rfl⟩
  refine bO r rfl kz (fun fr1 g w' hb' hd r'=>?_) ?_
  · exact ay r' (v:=(zp a2g.mb)) rfl ⟨Below.refl _ _,rfl⟩
  refine aF r rfl (fun fr1 g w' hk' hd r'=>?_) ?_
  · exact ay r' (v:=(zp a2g.mb)) rfl ⟨Below.refl _ _,rfl⟩
  refine bO r rfl kz (fun fr1 g w' hb' hd r'=>?_) ?_
  · exact aJ r' (args:=[(zp a2g.mb),(I 0)]) (lc (hd 2 rfl).1 (lc rfl l0)) cl28 ((ic _ x50.2.2.2 ((hP.below (dr hb')).mem (i:=2) rfl) 0 hx53).mono (by rintro _ w2 ⟨rfl,hb2⟩; exact ⟨_,rfl,hb2,rfl⟩))
  refine bO r rfl kz (fun fr1 g w' hb' hd r'=>?_) ?_
  · exact aJ r' (args:=[γ47.2.2.1,(zp a2g.mb),(.agg (capC x53).toArray),(I 600)]) (lc (hd 0 rfl).1 (lc (hd 1 rfl).1 (lc (hd 3 rfl).1 (lc rfl l0)))) cl37 ((oo _ x46.2.2.1 x50.2.2.2 x53 600 ((hP.below (dr hb')).sep.pk [1,2] rfl rfl) hx54).mono (by rintro _ w2 ⟨rfl,hq⟩; exact ⟨_,rfl,Chg.keptA hq.chg,EffP.ofC hq (fun b hb=>hP.sep.lt (i:=2) rfl hb)⟩))
  refine aF r rfl (fun fr1 g w' hk' hd r'=>?_) ?_
  · exact ay r' (v:=(.tuple #[(.agg (resC x54.1).toArray),(I x54.2.1),(.bool x54.2.2.1)])) (EffP.val (hd 4 rfl).1) ⟨Below.refl _ _,rfl⟩
  refine aF r rfl (fun fr1 g w' hk' hd r'=>?_) ?_
  · exact bM r' (vs:=#[(.agg (resC x54.1).toArray),(I x54.2.1),(.bool x54.2.2.1)]) (hd 5 rfl).1 rfl ⟨Below.refl _ _,rfl⟩
  refine aF r rfl (fun fr1 g w' hk' hd r'=>?_) ?_
  · exact bM r' (vs:=#[(.agg (resC x54.1).toArray),(I x54.2.1),(.bool x54.2.2.1)]) (hd 5 rfl).1 rfl ⟨Below.refl _ _,rfl⟩
  refine aF r rfl (fun fr1 g w' hk' hd r'=>?_) ?_
  · exact bM r' (vs:=#[(.agg (resC x54.1).toArray),(I x54.2.1),(.bool x54.2.2.1)]) (hd 5 rfl).1 rfl ⟨Below.refl _ _,rfl⟩
  refine aF r rfl (fun fr1 g w' hk' hd r'=>?_) ?_
  · exact ah tz54 (fun b w2 n2=>⟨n2.below,b,rfl,n2.eq,_,n2.at_,rfl⟩)
  refine aF r rfl (fun fr1 g w' hk' hd r'=>?_) ?_
  · obtain ⟨hp,_,c,hc,hn⟩:=(hd 9 rfl).1; exact aT r' (o:=0) (c:=c) (v:=(.agg (resC x54.1).toArray)) hp (hd 6 rfl).1 hc ts54 (by rw [hn]; exact Nat.le_of_ble_eq_true rfl) rfl (eH (hn.trans rfl)) (fun w2 u2=>⟨u2,rfl⟩)
  refine aF r rfl (fun fr1 g w' hk' hd r'=>?_) ?_
  · exact cf r' (v:=(I x54.2.1)) (hd 7 rfl).1 ⟨Below.refl _ _,rfl⟩
  refine aF r rfl (fun fr1 g w' hk' hd r'=>?_) ?_
  · exact cf r' (v:=(.bool x54.2.2.1)) (hd 8 rfl).1 ⟨Below.refl _ _,rfl⟩
  exact cc
 intro fr gg w56 hb hΦ hap r;obtain ⟨⟨⟩,g4,hcE,_,hs4⟩:=(hΦ 4 rfl).1;obtain ⟨b55,ee_b55⟩:∃ b,b=(gg 9).lo:=⟨_,rfl⟩;have g9:(gg 9).v=(zp b55):=by rw [ee_b55]; exact (hΦ 9 rfl).1.1
 have H55:w56.heap[b55]?=some (.cells ((resC x54.1)).toArray 54 (0,0)):=by rw [ee_b55]; exact (hΦ 10 rfl).1.2
 have hs9:bP [aa b55 ((resC x54.1)).toArray 54] (gg 9).lo (gg 9).hi w56:=by subst ee_b55; exact bP.cell (hΦ 9 rfl).1.2.1 H55
 have r:=r.congr (sc ((hΦ 12 rfl).1) (sc ((hΦ 11 rfl).1) (sc g9 (sc ((hΦ 8 rfl).1) (sc ((hΦ 7 rfl).1) (sc ((hΦ 6 rfl).1) (sc ((hΦ 5 rfl).1) (sc g4 (sc ((hΦ 3 rfl).1) (sc ((hΦ 2 rfl).1) (sc ((hΦ 1 rfl).1) (sc ((hΦ 0 rfl).1) rfl))))))))))));have hP:Post (fun b=>b∈a0F∨b∈a1F∨b∈(memK a2g a2).own) [deadK γ47.2.1,deadK γ47.2.2.2,memK a2g x54.2.2.2,roK 4 1 aP a3v a3,aa b1 γ47.1.cells 57,aa b5 γ47.2.2.1.cells 57,aa b9 ((resC (⟨0,0⟩:Res))).toArray 54,aa b13 ((resC (⟨0,0⟩:Res))).toArray 54,aa b51 ((resC x50.1)).toArray 54,aa b55 ((resC x54.1)).toArray 54] w0 w56:=(Post.effLL (A:=[deadK γ47.2.1,roK 4 1 aP a3v a3,aa b1 γ47.1.cells 57,aa b5 γ47.2.2.1.cells 57,aa b9 ((resC (⟨0,0⟩:Res))).toArray 54,aa b13 ((resC (⟨0,0⟩:Res))).toArray 54,aa b51 ((resC x50.1)).toArray 54]) (l:=[([aa b55 ((resC x54.1)).toArray 54],(gg 9).lo,(gg 9).hi)]) (hP.pick [0,3,4,5,6,7,8,1,2] rfl rfl) hb hcE rfl rfl rfl ⟨hs9,(hΦ 9 rfl).2.1,cS,trivial⟩).pick [0,7,8,1,2,3,4,5,6,9] rfl rfl
 refine wp_seq ?_;refine cL (N:=74) (Y:=Res × Res × Bool) (G:=Unit) (fun x γ=>[(0,a0v),(1,a1v),(2,(zp a2g.mb)),(3,a3v),(4,(zp b1)),(5,(zp b5)),(8,(zp b9)),(9,(zp b13)),(11,(I x46.1)),(16,(zp b51)),(18,(.bool x50.2.2.1)),(19,(zp b55)),(21,(.bool x54.2.2.1)),(10,(.bool x.2.2))]) (fun x γ w=>Post (fun b=>b∈a0F∨b∈a1F∨b∈(memK a2g a2).own) [deadK γ47.2.1,deadK γ47.2.2.2,memK a2g x54.2.2.2,roK 4 1 aP a3v a3,aa b1 γ47.1.cells 57,aa b5 γ47.2.2.1.cells 57,aa b9 ((resC x.1)).toArray 54,aa b13 ((resC x.2.1)).toArray 54,aa b51 ((resC x50.1)).toArray 54,aa b55 ((resC x54.1)).toArray 54] w0 w) hD ?_ ?_
 ·
  rintro y57 RPy57 nxy57 hD;refine bA x50.2.2.1 (fun h58=>?_) (fun h58=>?_)
  ·
   have hD:=(az h58).symm.trans hD;refine uH [b9,b13] [.val (.agg (resC x50.1).toArray),.val (.agg (resC x54.1).toArray),.val (.bool x50.2.2.1),.val (.bool x50.2.2.1),.val (.bool x54.2.2.1),.val (.bool x54.2.2.1),.put 0 ((resC x50.1)).toArray 54,.put 1 ((resC x54.1)).toArray 54,.val (.bool x54.2.2.1)] mixed r (hP.lt2 (i1:=6) (i2:=7) rfl rfl) (nd2 (hP.cne (i1:=6) (i2:=7) rfl rfl rfl)) kz ?_ ?_
   ·
    refine ek r rfl rfl (fun fr1 g w' hk' hd r'=>?_) ?_
    · exact aS r' (cs:=(resC x50.1)) (n:=2) rfl (hP.cellP (i1:=6) (i2:=7) rfl rfl (drK hk') (i:=8) rfl rfl rfl) ta54 rfl ⟨Below.refl _ _,rfl⟩
    refine ek r rfl rfl (fun fr1 g w' hk' hd r'=>?_) ?_
    · exact aS r' (cs:=(resC x54.1)) (n:=2) rfl (hP.cellP (i1:=6) (i2:=7) rfl rfl (drK hk') (i:=9) rfl rfl rfl) ta54 rfl ⟨Below.refl _ _,rfl⟩
    refine ek r rfl rfl (fun fr1 g w' hk' hd r'=>?_) ?_
    · exact ay r' (v:=(.bool x50.2.2.1)) rfl ⟨Below.refl _ _,rfl⟩
    refine ek r rfl rfl (fun fr1 g w' hk' hd r'=>?_) ?_
    · exact ay r' (v:=(.bool x50.2.2.1)) (hd 2 rfl) ⟨Below.refl _ _,rfl⟩
    refine Bq true r rfl rfl rfl rfl (fun g hd=>Eq.trans (show g 3=.bool x50.2.2.1 from hd 3 rfl) (congrArg Value.bool h58)) (fun fr1 g w' hk' hd r'=>?_) ?_
    · exact ay r' (v:=(.bool x54.2.2.1)) rfl ⟨Below.refl _ _,rfl⟩
    refine ek r rfl rfl (fun fr1 g w' hk' hd r'=>?_) ?_
    · exact aw r' (b:=true) (v:=(.bool x54.2.2.1)) (Eq.trans (show g 3=.bool x50.2.2.1 from (hd 3 rfl)) (congrArg Value.bool h58)) (hd 4 rfl) ⟨Below.refl _ _,rfl⟩
    refine mh (k:=0) (b:=b9) r rfl rfl rfl (fun fr1 g w' hk' hd r' hu=>?_) ?_
    · exact aT r' (o:=0) (v:=(.agg (resC x50.1).toArray)) rfl (hd 0 rfl) (hu.trans (hP.cell (i:=6) rfl)) ts54 (Nat.le_of_ble_eq_true rfl) rfl rfl (fun w2 u2=>⟨u2,rfl⟩)
    refine mh (k:=1) (b:=b13) r rfl rfl rfl (fun fr1 g w' hk' hd r' hu=>?_) ?_
    · exact aT r' (o:=0) (v:=(.agg (resC x54.1).toArray)) rfl (hd 1 rfl) (hu.trans (hP.cell (i:=7) rfl)) ts54 (Nat.le_of_ble_eq_true rfl) rfl rfl (fun w2 u2=>⟨u2,rfl⟩)
    refine ek r rfl rfl (fun fr1 g w' hk' hd r'=>?_) ?_
    · exact cf r' (v:=(.bool x54.2.2.1)) (hd 5 rfl) ⟨Below.refl _ _,rfl⟩
    exact uq
   intro fr gg w59 hb hΦ hpt r;have g0:gg 0=(.agg (resC x50.1).toArray):=hΦ 0 rfl;have g1:gg 1=(.agg (resC x54.1).toArray):=hΦ 1 rfl;have g2:gg 2=(.bool x50.2.2.1):=hΦ 2 rfl;have g3:gg 3=(.bool x50.2.2.1):=hΦ 3 rfl;have g4:gg 4=(.bool x54.2.2.1):=hΦ 4 rfl;have g5:gg 5=(.bool x54.2.2.1):=hΦ 5 rfl;have g8:gg 8=(.bool x54.2.2.1):=hΦ 8 rfl;have r:=r.congr (sc g8 (sc g5 (sc g4 (sc g3 (sc g2 (sc g1 (sc g0 rfl)))))));have hP:Post (fun b=>b∈a0F∨b∈a1F∨b∈(memK a2g a2).own) [deadK γ47.2.1,deadK γ47.2.2.2,memK a2g x54.2.2.2,roK 4 1 aP a3v a3,aa b1 γ47.1.cells 57,aa b5 γ47.2.2.1.cells 57,aa b9 ((resC x50.1)).toArray 54,aa b13 ((resC x54.1)).toArray 54,aa b51 ((resC x50.1)).toArray 54,aa b55 ((resC x54.1)).toArray 54] w0 w59:=hP.put2 (i1:=6) (i2:=7) rfl rfl rfl hb (hpt 6 _ _ _ _ rfl rfl rfl) (hpt 7 _ _ _ _ rfl rfl rfl)
   exact nxy57 (x50.1,x54.1,x54.2.2.1) () _ _ _ hD r (kO (kO (kO (aq rfl (aq rfl aN))))) (hP.pick [0,1,2,3,4,5,6,7,8,9] rfl rfl)
  have hD:=(aB h58).symm.trans hD;refine uH [b9,b13] [.val (.agg (resC x50.1).toArray),.val (.agg (resC x54.1).toArray),.val (.bool x50.2.2.1),.val (.bool x50.2.2.1),.val undef,.val (.bool false),.put 0 ((resC x50.1)).toArray 54,.put 1 ((resC x54.1)).toArray 54,.val (.bool false)] mixed r (hP.lt2 (i1:=6) (i2:=7) rfl rfl) (nd2 (hP.cne (i1:=6) (i2:=7) rfl rfl rfl)) kz ?_ ?_
  ·
   refine ek r rfl rfl (fun fr1 g w' hk' hd r'=>?_) ?_
   · exact aS r' (cs:=(resC x50.1)) (n:=2) rfl (hP.cellP (i1:=6) (i2:=7) rfl rfl (drK hk') (i:=8) rfl rfl rfl) ta54 rfl ⟨Below.refl _ _,rfl⟩
   refine ek r rfl rfl (fun fr1 g w' hk' hd r'=>?_) ?_
   · exact aS r' (cs:=(resC x54.1)) (n:=2) rfl (hP.cellP (i1:=6) (i2:=7) rfl rfl (drK hk') (i:=9) rfl rfl rfl) ta54 rfl ⟨Below.refl _ _,rfl⟩
   refine ek r rfl rfl (fun fr1 g w' hk' hd r'=>?_) ?_
   · exact ay r' (v:=(.bool x50.2.2.1)) rfl ⟨Below.refl _ _,rfl⟩
   refine ek r rfl rfl (fun fr1 g w' hk' hd r'=>?_) ?_
   · exact ay r' (v:=(.bool x50.2.2.1)) (hd 2 rfl) ⟨Below.refl _ _,rfl⟩
   refine Bz true (.bool false) r rfl rfl rfl rfl (fun g hd=>Eq.trans (show g 3=.bool x50.2.2.1 from hd 3 rfl) (congrArg Value.bool h58)) (by simp [aI]) ?_;refine ek r rfl rfl (fun fr1 g w' hk' hd r'=>?_) ?_
   · exact aw r' (b:=false) (v:=(.bool false)) (Eq.trans (show g 3=.bool x50.2.2.1 from (hd 3 rfl)) (congrArg Value.bool h58)) rfl ⟨Below.refl _ _,rfl⟩
   refine mh (k:=0) (b:=b9) r rfl rfl rfl (fun fr1 g w' hk' hd r' hu=>?_) ?_
   · exact aT r' (o:=0) (v:=(.agg (resC x50.1).toArray)) rfl (hd 0 rfl) (hu.trans (hP.cell (i:=6) rfl)) ts54 (Nat.le_of_ble_eq_true rfl) rfl rfl (fun w2 u2=>⟨u2,rfl⟩)
   refine mh (k:=1) (b:=b13) r rfl rfl rfl (fun fr1 g w' hk' hd r' hu=>?_) ?_
   · exact aT r' (o:=0) (v:=(.agg (resC x54.1).toArray)) rfl (hd 1 rfl) (hu.trans (hP.cell (i:=7) rfl)) ts54 (Nat.le_of_ble_eq_true rfl) rfl rfl (fun w2 u2=>⟨u2,rfl⟩)
   refine ek r rfl rfl (fun fr1 g w' hk' hd r'=>?_) ?_
   · exact cf r' (v:=(.bool false)) (hd 5 rfl) ⟨Below.refl _ _,rfl⟩
   exact uq
  intro fr gg w60 hb hΦ hpt r;have g0:gg 0=(.agg (resC x50.1).toArray):=hΦ 0 rfl;have g1:gg 1=(.agg (resC x54.1).toArray):=hΦ 1 rfl;have g2:gg 2=(.bool x50.2.2.1):=hΦ 2 rfl;have g3:gg 3=(.bool x50.2.2.1):=hΦ 3 rfl;have g4:gg 4=undef:=hΦ 4 rfl;have g5:gg 5=(.bool false):=hΦ 5 rfl;have g8:gg 8=(.bool false):=hΦ 8 rfl;have r:=r.congr (sc g8 (sc g5 (sc g4 (sc g3 (sc g2 (sc g1 (sc g0 rfl)))))));have hP:Post (fun b=>b∈a0F∨b∈a1F∨b∈(memK a2g a2).own) [deadK γ47.2.1,deadK γ47.2.2.2,memK a2g x54.2.2.2,roK 4 1 aP a3v a3,aa b1 γ47.1.cells 57,aa b5 γ47.2.2.1.cells 57,aa b9 ((resC x50.1)).toArray 54,aa b13 ((resC x54.1)).toArray 54,aa b51 ((resC x50.1)).toArray 54,aa b55 ((resC x54.1)).toArray 54] w0 w60:=hP.put2 (i1:=6) (i2:=7) rfl rfl rfl hb (hpt 6 _ _ _ _ rfl rfl rfl) (hpt 7 _ _ _ _ rfl rfl rfl)
  exact nxy57 (x50.1,x54.1,false) () _ _ _ hD r (kO (kO (kO (aq rfl (aq rfl aN))))) (hP.pick [0,1,2,3,4,5,6,7,8,9] rfl rfl)
 rintro x61 γ62 fr w63 g r hP hD;have hP:Post (fun b=>b∈a0F∨b∈a1F∨b∈(memK a2g a2).own) [deadK γ47.2.1,deadK γ47.2.2.2,memK a2g x54.2.2.2,roK 4 1 aP a3v a3,aa b1 γ47.1.cells 57,aa b5 γ47.2.2.1.cells 57,aa b9 ((resC x61.1)).toArray 54,aa b13 ((resC x61.2.1)).toArray 54,aa b51 ((resC x50.1)).toArray 54,aa b55 ((resC x54.1)).toArray 54] w0 w63:=hP
 refine wp_ret ?_;have hv:(x61.1,x61.2.1,x61.2.2,x54.2.2.2)=res:=Option.some.inj hD
 try dsimp only [Exit.then,Exit.inBlock]
 refine AJ (fn:=Tryz.f53) r rfl rfl rfl (v2:=(.bool x61.2.2)) rfl (hP.cell (i:=6) rfl) (k:=2) rfl ta54 (hP.cell (i:=7) rfl) (k1:=2) rfl ta54 ?_;subst hv;exact ⟨rfl,(hP.pick [2] rfl rfl).done (cP rfl dl)⟩
end Go.Proofs.YtikjpdpgdmbdpaaGreat

/- Ours. -/
import Derived.Test.YtikjpdpgdmbdpaaGreatLrM4
set_option linter.all false
set_option maxRecDepth 20000
set_option maxHeartbeats 2000000
namespace Go.Proofs.YtikjpdpgdmbdpaaGreat
open Go.RowKit
theorem kI:ag Tryz.prog 171:=kz
theorem cl92:ag Tryz.prog 92:=kz
theorem cl93:ag Tryz.prog 93:=kz
theorem qe:aZ Tryz.prog 176 0 0:=kz
theorem vB:aZ Tryz.prog 176 1 1:=kz
theorem iR:aZ Tryz.prog 179 0 0:=kz
theorem uV:aZ Tryz.prog 179 1 1:=kz
theorem iZ:aZ Tryz.prog 38 0 0:=kz
theorem gx:aZ Tryz.prog 38 1 1:=kz
theorem ql:aZ Tryz.prog 38 2 2:=kz
theorem CW:aZ Tryz.prog 38 3 3:=kz
theorem km:aZ Tryz.prog 68 0 0:=kz
theorem D7:aZ Tryz.prog 68 1 1:=kz
theorem FH:isSlice Tryz.prog 177:=kz
theorem is45:isSlice Tryz.prog 45:=kz
theorem is81:isSlice Tryz.prog 81:=kz
theorem mixed:Tryz.prog.follows .mixedOrders=true:=kz
theorem rt81:rowTy Tryz.prog 81 36 1:=kz
theorem CV:rowTy Tryz.prog 177 173 1:=kz
theorem qV:sliceTy Tryz.prog 177 1:=kz
theorem sl45:sliceTy Tryz.prog 45 1:=kz
theorem sl81:sliceTy Tryz.prog 81 1:=kz
theorem ta68:tyA Tryz.prog 68 2:=kz
theorem qA:tyO Tryz.prog 173:=kz
theorem kn:tyO Tryz.prog 177:=kz
theorem to3:tyO Tryz.prog 3:=kz
theorem to36:tyO Tryz.prog 36:=kz
theorem to81:tyO Tryz.prog 81:=kz
theorem CG:sized Tryz.prog 177 1:=kz
theorem ts3:sized Tryz.prog 3 1:=kz
theorem ts36:sized Tryz.prog 36 1:=kz
theorem ts68:sized Tryz.prog 68 2:=kz
theorem tz36:zeroOf Tryz.prog 36=some (.int .u64 0):=kz
theorem tz68:zeroOf Tryz.prog 68=some (.agg (capC (⟨0,0⟩:Cap)).toArray):=kz
def D.qa (fu:Nat) (a0:List Int):Option (Mem × Int):=(bif (decide ((a0.length:Int) > 65)) then none else (loopThen (fun (x2:Int × Int × Int)=>(bif (decide (x2.2.2<(a0.length:Int))) then ((getI a0 x2.2.2).bind (fun (x7:Int)=>(Option.bind (bif (decide (x7<0)) then (some true) else (some (decide (x7 > x2.2.1)))) (fun (x10:Bool)=>(bif x10 then none else (some (Lp.next (x2.1,(IntKind.i64.wrap (x2.2.1 - x7)),(IntKind.i64.wrap (x2.2.2+1)))))))))) else (some (Lp.brk (x2.1,x2.2.1,x2.2.2))))) fu (0,16777216,0) (fun (x14:Int × Int × Int)=>((oneI a0).bind (fun (x21:Int)=>(some ((⟨zerosI x21,0⟩:Mem),0)))))))
set_option maxRecDepth 20000 in
set_option maxHeartbeats 20000000 in
theorem BH {fu:Nat} (w0:World) {a0v:Value} (a0:List Int) (a0h:RoAt 3 1 i64 a0v a0 w0) {res:Mem × Int} (hD:D.qa fu a0=some res) :
    Calls Tryz.prog 78 #[a0v] w0 (fun e w'=>∃ (g0:MG),e=.returned (.tuple #[(zp g0.mb),(.int .i64 res.2)])∧Done No No [memK g0 res.1] w0 w'):=by
 refine enter Tryz.func78 rfl 53 rfl rfl fun fr r=>?_;have hP:Post No [] w0 w0:=Post.nil w0
 have hP:Post No [roK 3 1 i64 a0v a0] w0 w0:=hP.addRo dV a0h rfl a0h.lt;unfold D.qa at hD
 refine wsr (kA (.pointer none) r rfl rfl fun r=>kA (I 0) r rfl rfl fun r=>wn (wp_seq (wsr (kM a0v r rfl rfl fun r=>ac (I (a0.length:Int)) r (fun R=>dz r (hP.ro (i:=0) rfl) is45 rfl) rfl fun fr r=>kB r rfl rfl rfl rfl rfl fun r=>wn ?_))));refine wp_cond_split (t:=(decide ((a0.length:Int) > 65))) (r.ev rfl) (fun h1=>?_) (fun h1=>?_)
 ·
  have hD:=(az h1).symm.trans hD;refine wsr (kA (.pointer none) r rfl rfl fun r=>kA (I 1) r rfl rfl fun r=>wn (wp_ret ?_));exact nomatch hD
 have hD:=(aB h1).symm.trans hD;refine wp_skip (wsr (kA (I 16777216) r rfl rfl fun r=>wn (wp_seq (wsr (kM a0v r rfl rfl fun r=>ac (I (a0.length:Int)) r (fun R=>dz r (hP.ro (i:=0) rfl) is45 rfl) rfl fun fr r=>kM (I 0) r rfl rfl fun r=>wn ?_)))));refine fA (X:=Int × Int × Int) (G:=Unit) (x0:=(0,16777216,0)) (fun x γ=>[(0,a0v),(12,(.bool (decide ((a0.length:Int) > 65)))),(13,a0v),(14,(I (a0.length:Int))),(3,(I x.1)),(4,(I x.2.1)),(15,(I x.2.2))]) (fun x γ w=>Post No [roK 3 1 i64 a0v a0] w0 w) () r (kO (aq rfl (aq rfl (aq rfl aN)))) hP hD ?_ ?_
 ·
  rintro x2 γ3 fr w5 g y4 RPy4 nxy4 bky4 rty4 r hP hD;have hP:Post No [roK 3 1 i64 a0v a0] w0 w5:=hP;refine wsr (kB r rfl rfl rfl rfl rfl fun r=>wn (wp_seq ?_));refine wp_cond_split (t:=(decide (x2.2.2<(a0.length:Int)))) (r.ev rfl) (fun h6=>?_) (fun h6=>?_)
  ·
   have hD:=(az h6).symm.trans hD;refine wp_skip (wp_seq (wp_block (wsr ?_)));obtain ⟨x7,hx7,hD⟩:=aY hD;refine ac (.pointer (some ⟨rowB a0v,rowO a0v+x2.2.2.toNat * 1,none⟩)) r (fun R=>cO r (hP.ro (i:=0) rfl) hx7 sl45 rfl rfl) rfl fun fr r=>ac (I x7) r (fun R=>dg r (u:=(I x7)) (RoAt.at_ (f:=i64) (x:=x7) (hP.ro (i:=0) rfl) (fun _=>rfl) hx7) rfl to3) rfl fun fr r=>kA (I x7) r rfl rfl fun r=>wn (wp_seq (wp_seq ?_));refine cL (N:=53) (Y:=Bool) (G:=Unit) (fun x γ=>[(0,a0v),(12,(.bool (decide ((a0.length:Int) > 65)))),(13,a0v),(14,(I (a0.length:Int))),(3,(I x2.1)),(4,(I x2.2.1)),(15,(I x2.2.2)),(16,(.bool (decide (x2.2.2<(a0.length:Int))))),(6,(I x7)),(25,(.bool x))]) (fun x γ w=>Post No [roK 3 1 i64 a0v a0] w0 w) hD ?_ ?_
   ·
    rintro y8 RPy8 nxy8 hD;refine wp_region_lit (kM (I x7) r rfl rfl fun r=>kB r rfl rfl rfl rfl rfl fun r=>kM (.bool (decide (x7<0))) r rfl rfl fun r=>?_);refine bA (decide (x7<0)) (fun h9=>?_) (fun h9=>?_)
    ·
     have hD:=(az h9).symm.trans hD;refine s0 r h9 fun fr r=>s0 r h9 fun fr r=>s0 r h9 fun fr r=>ac (.bool true) r (fun R=>aw r (b:=true) (congrArg Value.bool h9) rfl) rfl fun fr r=>wn ?_;exact nxy8 true () _ _ _ hD r (kO (kO (aq rfl (aq rfl aN)))) (hP.pick [0] rfl rfl)
    have hD:=(aB h9).symm.trans hD;refine s1 r h9 (kM (I x7) r rfl rfl fun r=>s1 r h9 (kM (I x2.2.1) r rfl rfl fun r=>s1 r h9 (kB r rfl rfl rfl rfl rfl fun r=>ac (.bool (decide (x7 > x2.2.1))) r (fun R=>aw r (b:=false) (congrArg Value.bool h9) rfl) rfl fun fr r=>wn ?_)));exact nxy8 (decide (x7 > x2.2.1)) () _ _ _ hD r (kO (kO (aq rfl (aq rfl aN)))) (hP.pick [0] rfl rfl)
   rintro x10 γ11 fr w12 g r hP hD;have hP:Post No [roK 3 1 i64 a0v a0] w0 w12:=hP;refine wp_cond_split (t:=x10) (r.ev rfl) (fun h13=>?_) (fun h13=>?_)
   ·
    have hD:=(az h13).symm.trans hD;refine wsr (kA (.pointer none) r rfl rfl fun r=>kA (I 1) r rfl rfl fun r=>wn (wp_ret ?_));exact nomatch hD
   have hD:=(aB h13).symm.trans hD;refine wp_skip ?_;refine wp_region_lit (kM (I x2.2.1) r rfl rfl fun r=>kM (I x7) r rfl rfl fun r=>kB r rfl rfl rfl rfl rfl fun r=>kA (I (W (x2.2.1 - x7))) r rfl rfl fun r=>wn ?_);refine wp_region_lit (kB r rfl rfl rfl rfl rfl fun r=>kM (I (W (x2.2.2+1))) r rfl rfl fun r=>wn ?_)
   exact nxy4 (x2.1,(W (x2.2.1 - x7)),(W (x2.2.2+1))) () _ _ _ hD r (kO (aq rfl (aq rfl (aq rfl aN)))) (hP.pick [0] rfl rfl)
  have hD:=(aB h6).symm.trans hD;refine wp_exit ?_;exact bky4 (x2.1,x2.2.1,x2.2.2) () _ _ _ hD r (kO (aq rfl (aq rfl (aq rfl aN)))) (hP.pick [0] rfl rfl)
 rintro x14 γ15 fr w16 g r hP hD;have hP:Post No [roK 3 1 i64 a0v a0] w0 w16:=hP;refine wsr (kU (.agg #[.slice none 0 0,.int .i64 0]) r kz rfl fun r=>?_);refine kX 179 (.agg #[.slice none 0 0,.int .i64 0]) r rfl rfl fun b17 w18 n19 r=>?_
 have hP:Post No [roK 3 1 i64 a0v a0,aa b17 #[.slice none 0 0,.int .i64 0] 179] w0 w18:=hP.new n19;refine kA (zp b17) r rfl rfl fun r=>wn (wp_seq (wsr (kM a0v r rfl rfl fun r=>ac (I (a0.length:Int)) r (fun R=>dz r (hP.ro (i:=0) rfl) is45 rfl) rfl fun fr r=>kM (I 0) r rfl rfl fun r=>wn ?_)));obtain ⟨x21,hx21,hD⟩:=aY hD
 have hDn:=hD;obtain ⟨rfl,h0n,h1n⟩:=CO hx21;refine fA (X:=Nat) (G:=MG) (k:=2) (x0:=0) (id:=2) (body:=fun x=>if x=0 then some (.next 1) else some (.brk x)) (f:=fun x=>if x=1 then ((some ((⟨zerosI x21,0⟩:Mem),0))) else none) (fun x γ=>[(7,(zp b17)),(32,a0v),(33,(I (([x21]).length:Int))),(34,(I (x:Int)))]) (fun x γ w=>(x=0∧Post No [roK 3 1 i64 a0v ([x21]),aa b17 #[.slice none 0 0,.int .i64 0] 179] w0 w)∨(x=1∧γ.mb=b17∧Post No [roK 3 1 i64 a0v ([x21]),memK γ (⟨zerosI x21,0⟩:Mem)] w0 w)) ⟨0,0,0,0,0⟩ r (kO aN) (.inl ⟨rfl,hP⟩) hDn ?_ ?_
 ·
  rintro x γ fr w22 g y23 RPy23 nxy23 bky23 rty23 r hI hD
  rcases hI with ⟨rfl,hP⟩ | ⟨rfl,hγ,hP⟩
  ·
   refine wsr (kB r rfl rfl rfl rfl rfl fun r=>wn (wp_seq ?_));refine wp_cond_split (t:=(decide (((0:Nat):Int)<(([x21]).length:Int)))) (r.ev rfl) (fun _=>?_) (fun h=>absurd ((show (decide (((0:Nat):Int)<(([x21]).length:Int)))=true from by simp).symm.trans h) ke)
   refine wp_skip (wp_seq (wp_block (wsr ?_)));obtain ⟨x24,hx24⟩:∃ z,getI ([x21]) ((0:Nat):Int)=some z:=⟨_,rfl⟩;obtain rfl:x21=x24:=Option.some.inj hx24;refine ac (.pointer (some ⟨rowB a0v,rowO a0v+((0:Nat):Int).toNat * 1,none⟩)) r (fun R=>cO r (hP.ro (i:=0) rfl) (show getI ([x21]) ((0:Nat):Int)=some x21 from rfl) sl45 rfl rfl) rfl fun fr r=>ac (I x21) r (fun R=>dg r (u:=(I x21)) (RoAt.at_ (f:=i64) (x:=x21) (hP.ro (i:=0) rfl) (fun _=>rfl) (show getI ([x21]) ((0:Nat):Int)=some x21 from rfl)) rfl to3) rfl fun fr r=>kA (I x21) r rfl rfl fun r=>wn ?_;refine fY [b17] [.val (zp b17),.val (zp b17),.val (zp b17),.val (zp b17),.val (.slice none 0 0),.val (I x21),.whole (W6 w22.heap.size x21) (W6.st _ _),.whole (W7 w22.heap.size x21) (W7.st _ _),.whole (W8 w22.heap.size x21) (W8.st _ _),.whole (W9 w22.heap.size x21) (W9.st _ _),.whole (W10 w22.heap.size x21) (W10.st _ _),.val (zp b17),.val (zp b17),.effW (W13 w22.heap.size b17 x21) (W13.st _ _ _)] mixed r (fun b hb=>hP.sep.lt (i:=1) rfl (.inl hb)) kz ?_ ?_
   ·
    refine aF r rfl (fun fr1 g w' hk' hd r'=>?_) ?_
    · exact ay r' (v:=(zp b17)) rfl ⟨Below.refl _ _,rfl⟩
    refine aF r rfl (fun fr1 g w' hk' hd r'=>?_) ?_
    · exact ay r' (v:=(zp b17)) rfl ⟨Below.refl _ _,rfl⟩
    refine aF r rfl (fun fr1 g w' hk' hd r'=>?_) ?_
    · exact cW r' (hd 1 rfl).1 ⟨Below.refl _ _,rfl⟩
    refine aF r rfl (fun fr1 g w' hk' hd r'=>?_) ?_
    · exact ax r' (b:=b17) (o:=0) (k:=0) (hd 2 rfl).1 iR ⟨Below.refl _ _,rfl⟩
    refine bO r rfl kz (fun fr1 g w' hb' hd r'=>?_) ?_
    · exact av r' (v:=.slice none 0 0) (hd 3 rfl).1 ((hP.below (dr hb')).cell (i:=1) rfl) kn rfl ⟨Below.refl _ _,rfl⟩
    refine aF r rfl (fun fr1 g w' hk' hd r'=>?_) ?_
    · exact ay r' (v:=.int .i64 x21) rfl ⟨Below.refl _ _,rfl⟩
    refine aF r rfl (fun fr1 g w' hk' hd r'=>?_) ?_
    · exact Bi r' rt81 tz36 kz (hd 5 rfl).1 (hd 5 rfl).1 h0n h1n (fun wb w2 n2=>⟨n2.below,wb,rfl,n2.at_,by rw [n2.eq]; exact hk'.size⟩)
    refine aF r rfl (fun fr1 g w' hk' hd r'=>?_) ?_
    · obtain ⟨wb,hv,h1,h2⟩:=(hd 6 rfl).1; exact eL r' (v:=.agg #[.slice (some ⟨wb,0,none⟩) x21.toNat x21.toNat,.int .u64 1]) (bs2 (congrArg (fun z=>(0,z)) hv) rfl kz) ⟨Below.refl _ _,wb,rfl,h1,h2⟩
    refine aF r rfl (fun fr1 g w' hk' hd r'=>?_) ?_
    · obtain ⟨wb,hv,h1,h2⟩:=(hd 7 rfl).1; exact wj r' (v:=.agg #[.slice (some ⟨wb,0,none⟩) x21.toNat x21.toNat,.int .u64 1]) hv (fun rb w2 n2=>⟨n2.below,wb,rb,rfl,keep n2.below h1,n2.at_,h2,by rw [n2.eq]; exact lt_of_block h1⟩)
    refine aF r rfl (fun fr1 g w' hk' hd r'=>?_) ?_
    · obtain ⟨wb,rb,hv,h1,h2,h3,h4⟩:=(hd 8 rfl).1; exact dM r' (c:=#[zp rb]) (E:=173) (bs1 (congrArg (fun z=>(0,z)) hv) kz) (fun lb w2 n2=>⟨n2.below,wb,rb,lb,rfl,keep n2.below h1,keep n2.below h2,n2.at_,h3,h4,by rw [n2.eq]; exact lt_of_block h2⟩)
    refine aF r rfl (fun fr1 g w' hk' hd r'=>?_) ?_
    · obtain ⟨wb,rb,lb,hv,h1,h2,h3,h4,h5,h6⟩:=(hd 9 rfl).1; exact Bm r' CV (hd 4 rfl).1 hv h3 (fun b2 cap cur w2 n2 hc=>⟨n2.below,wb,rb,b2,cap,rfl,keep n2.below h1,keep n2.below h2,⟨cur,n2.at_,hc⟩,h4,h5,by rw [n2.eq]; exact lt_of_block h2⟩)
    refine aF r rfl (fun fr1 g w' hk' hd r'=>?_) ?_
    · exact cW r' (hd 0 rfl).1 ⟨Below.refl _ _,rfl⟩
    refine aF r rfl (fun fr1 g w' hk' hd r'=>?_) ?_
    · exact ax r' (b:=b17) (o:=0) (k:=0) (hd 11 rfl).1 iR ⟨Below.refl _ _,rfl⟩
    refine bO r rfl kz (fun fr1 g w' hb' hd r'=>?_) ?_
    ·
     obtain ⟨wb,rb,lb,cap,hv,h1,h2,h3,h4,h5,h6⟩:=(hd 10 rfl).1;have hlt:b17<w22.heap.size:=hP.sep.lt (i:=1) rfl (.inl (List.mem_singleton.2 rfl));refine aT r' (o:=0) (v:=.slice (some ⟨lb,0,none⟩) 1 cap) (c':=#[.slice (some ⟨lb,0,none⟩) 1 cap,.int .i64 0]) (hd 12 rfl).1 hv ((hP.below (dr hb')).cell (i:=1) rfl) CG (Nat.le_of_ble_eq_true rfl) rfl rfl (fun w2 u2=>⟨u2.kept,rfl,wb,rb,lb,cap,?_,h4,kw,kw⟩)
     obtain ⟨cur,h3a,h3b⟩:=h3;refine ⟨u2.at_,⟨cur,u2.keep h3a (by show lb≠b17; omega),h3b⟩,?_,u2.keep h1 (by show wb≠b17; omega),⟨by show b17≠lb; omega,by show b17≠rb; omega,by show b17≠wb; omega,by show lb≠rb; omega,by show lb≠wb; omega,by show rb≠wb; omega⟩⟩
     have h:=u2.keep h2 (show rb≠b17 by omega)
     simpa [zerosI] using h
    exact cc
   intro fr gg w25 hb hΦ hap r;obtain ⟨gM,hgM,hP⟩:=hP.made (i:=1) (lo:=0) (hi:=0) rfl hb (hΦ 13 rfl).1;have hP:Post No [roK 3 1 i64 a0v ([x21]),memK gM (⟨zerosI x21,0⟩:Mem)] w0 w25:=hP;refine wp_region_lit (kB r rfl rfl rfl rfl rfl fun r=>kM (I (W (((0:Nat):Int)+1))) r rfl rfl fun r=>wn ?_);exact nxy23 1 gM _ _ _ hD r (kO aN) (.inr ⟨rfl,hgM,hP⟩)
  refine wsr (kB r rfl rfl rfl rfl rfl fun r=>wn (wp_seq ?_));refine wp_cond_split (t:=(decide (((1:Nat):Int)<(([x21]).length:Int)))) (r.ev rfl) (fun h=>absurd ((show (decide (((1:Nat):Int)<(([x21]).length:Int)))=false from by simp).symm.trans h) ke) (fun _=>?_)
  refine wp_exit ?_;exact bky23 1 γ _ _ _ hD r (kO aN) (.inr ⟨rfl,hγ,hP⟩)
 rintro x γ fr w26 g r hI hD
 rcases hI with ⟨rfl,_⟩ | ⟨rfl,hγ,hP⟩
 · cases hD
 have hPn:=hP;subst hγ;have hP:Post No [roK 3 1 i64 a0v ([x21]),memK γ (⟨zerosI x21,0⟩:Mem)] w0 w26:=hPn;refine wsr (kM (.pointer (some ⟨γ.mb,0,none⟩)) r rfl rfl fun r=>kA (.pointer (some ⟨γ.mb,0,none⟩)) r rfl rfl fun r=>kA (I 0) r rfl rfl fun r=>wn (wp_ret ?_));have hv:((⟨zerosI x21,0⟩:Mem),0)=res:=Option.some.inj hD
 try dsimp only [Exit.then,Exit.inBlock]
 refine fB (fn:=Tryz.f78) r (t:=2) (t':=3) rfl (v:=(.pointer (some ⟨γ.mb,0,none⟩))) (v':=(I 0)) rfl rfl ?_;subst hv;exact ⟨γ,rfl,(hP.pick [1] rfl rfl).done (cP rfl dl)⟩
def D.jh (fu:Nat) (a0:Mem) (a1:Int):Option (Unit):=(Option.bind (bif (decide (a1<0)) then (some true) else (some (decide (a1≥((1:Nat):Int))))) (fun (x3:Bool)=>(bif x3 then none else ((zeroI a1).bind (fun (x7:Unit)=>(some ()))))))
set_option maxRecDepth 20000 in
set_option maxHeartbeats 20000000 in
theorem nN {fu:Nat} (w0:World) {a0g:MG} (a0:Mem) (a0h:MemAt a0g a0 w0) (a1:Int) {res:Unit} (hD:D.jh fu a0 a1=some res) :
    Calls Tryz.prog 92 #[zp a0g.mb,.int .i64 a1] w0 (bw (zp a0g.rb) w0):=by
 refine enter Tryz.func92 rfl 23 rfl rfl fun fr r=>?_;have hP:Post No [] w0 w0:=Post.nil w0
 have hP:Post No [memR a0g a0] w0 w0:=hP.addRo dV a0h rfl a0h.lt;unfold D.jh at hD
 refine wsr (kA (.pointer none) r rfl rfl fun r=>wn (wp_seq (wp_seq ?_)));refine cL (N:=23) (Y:=Bool) (G:=Unit) (fun x γ=>[(0,(zp a0g.mb)),(1,(I a1)),(4,(.pointer none)),(15,(.bool x))]) (fun x γ w=>Post No [memR a0g a0] w0 w) hD ?_ ?_
 ·
  rintro y1 RPy1 nxy1 hD;refine wp_region_lit (kM (I a1) r rfl rfl fun r=>kB r rfl rfl rfl rfl rfl fun r=>kM (.bool (decide (a1<0))) r rfl rfl fun r=>?_);refine bA (decide (a1<0)) (fun h2=>?_) (fun h2=>?_)
  ·
   have hD:=(az h2).symm.trans hD;refine s0 r h2 fun fr r=>s0 r h2 fun fr r=>s0 r h2 fun fr r=>s0 r h2 fun fr r=>s0 r h2 fun fr r=>s0 r h2 fun fr r=>s0 r h2 fun fr r=>ac (.bool true) r (fun R=>aw r (b:=true) (congrArg Value.bool h2) rfl) rfl fun fr r=>wn ?_;exact nxy1 true () _ _ _ hD r (kO aN) (hP.pick [0] rfl rfl)
  have hD:=(aB h2).symm.trans hD;refine s1 r h2 (kM (I a1) r rfl rfl fun r=>s1 r h2 (kM (zp a0g.mb) r rfl rfl fun r=>s1 r h2 (ac (zp a0g.mb) r (fun R=>cW r rfl) rfl fun fr r=>s1 r h2 (ac _ r (fun R=>ax r (b:=a0g.mb) (o:=0) (k:=0) rfl iR) rfl fun fr r=>s1 r h2 (kL (.slice (some ⟨a0g.lb,0,none⟩) 1 a0g.cap) r rfl (hP.memr (i:=0) rfl).hdr kn rfl rfl fun r=>s1 r h2 (ac (I ((1:Nat):Int)) r (fun R=>ko r FH rfl) rfl fun fr r=>s1 r h2 (kB r rfl rfl rfl rfl rfl fun r=>ac (.bool (decide (a1≥((1:Nat):Int)))) r (fun R=>aw r (b:=false) (congrArg Value.bool h2) rfl) rfl fun fr r=>wn ?_)))))));exact nxy1 (decide (a1≥((1:Nat):Int))) () _ _ _ hD r (kO aN) (hP.pick [0] rfl rfl)
 rintro x3 γ4 fr w5 g r hP hD;have hP:Post No [memR a0g a0] w0 w5:=hP;refine wp_cond_split (t:=x3) (r.ev rfl) (fun h6=>?_) (fun h6=>?_)
 ·
  have hD:=(az h6).symm.trans hD;refine wsr (kA (.pointer none) r rfl rfl fun r=>wn (wp_ret ?_));exact nomatch hD
 have hD:=(aB h6).symm.trans hD;refine wp_skip (wsr (kM (zp a0g.mb) r rfl rfl fun r=>ac (zp a0g.mb) r (fun R=>cW r rfl) rfl fun fr r=>ac _ r (fun R=>ax r (b:=a0g.mb) (o:=0) (k:=0) rfl iR) rfl fun fr r=>kL (.slice (some ⟨a0g.lb,0,none⟩) 1 a0g.cap) r rfl (hP.memr (i:=0) rfl).hdr kn rfl rfl fun r=>kM (I a1) r rfl rfl fun r=>?_));obtain ⟨x7,hx7,hD⟩:=aY hD
 refine ac (.pointer (some ⟨a0g.lb,0+a1.toNat * 1,none⟩)) r (fun R=>iB r qV rfl rfl (by have h0:=(fw hx7); omega) (by have h0:=(fw hx7); omega)) rfl fun fr r=>ac (zp a0g.rb) r (fun R=>pB r (hP.memr (i:=0) rfl) rfl (fw hx7) qA) rfl fun fr r=>kA (zp a0g.rb) r rfl rfl fun r=>wn (wp_ret ?_);have hv:()=res:=Option.some.inj hD
 try dsimp only [Exit.then,Exit.inBlock]
 refine bg (fn:=Tryz.f92) r (t:=4) rfl (v:=(zp a0g.rb)) rfl ?_;subst hv;exact ⟨rfl,hP.chg.below⟩
def D.dR (fu:Nat) (a0:Mem) (a1:Int):Option (Cap):=((D.jh fu a0 a1).bind (fun (x5:Unit)=>(some (⟨a1,1⟩:Cap))))
set_option maxRecDepth 20000 in
set_option maxHeartbeats 20000000 in
theorem ic {fu:Nat} (w0:World) {a0g:MG} (a0:Mem) (a0h:MemAt a0g a0 w0) (a1:Int) {res:Cap} (hD:D.dR fu a0 a1=some res) :
    Calls Tryz.prog 28 #[zp a0g.mb,.int .i64 a1] w0 (bw (.agg (capC res).toArray) w0):=by
 refine enter Tryz.func28 rfl 18 rfl rfl fun fr r=>?_;have hP:Post No [] w0 w0:=Post.nil w0
 have hP:Post No [memR a0g a0] w0 w0:=hP.addRo dV a0h rfl a0h.lt;unfold D.dR at hD
 refine wsr ?_;refine ai (.cells ((capC (⟨0,0⟩:Cap))).toArray 68 (0,0)) r (fun R=>ah tz68) rfl fun fr b1 w2 n3 r=>?_;have hP:Post No [memR a0g a0,aa b1 ((capC (⟨0,0⟩:Cap))).toArray 68] w0 w2:=hP.new n3
 refine wn (wp_seq (wsr (kM (zp a0g.mb) r rfl rfl fun r=>kM (I a1) r rfl rfl fun r=>?_)));obtain ⟨x5,hx5,hD⟩:=aY hD
 refine kE r (nN w2 a0 (hP.memr (i:=0) rfl) a1 hx5) rfl cl92 rfl fun w6 hb r=>?_;have hP:=hP.below hb
 refine kA (zp a0g.rb) r rfl rfl fun r=>wn (wsr (kM (zp a0g.rb) r rfl rfl fun r=>kB r rfl rfl rfl rfl rfl fun r=>wn ?_));refine wp_cond_split (t:=true) (r.ev rfl) (fun _=>?_) (fun h=>absurd ((rfl:true=_).symm.trans h) ke)
 refine wsr (kM (I a1) r rfl rfl fun r=>kM (zp a0g.rb) r rfl rfl fun r=>ac (zp a0g.rb) r (fun R=>cW r rfl) rfl fun fr r=>ac _ r (fun R=>ax r (b:=a0g.rb) (o:=0) (k:=1) rfl vB) rfl fun fr r=>kL (U 1) r rfl (hP.memr (i:=0) rfl).reg to36 rfl rfl fun r=>kU (.agg (capC (⟨a1,1⟩:Cap)).toArray) r kz rfl fun r=>?_);refine bh (.cells ((capC (⟨a1,1⟩:Cap))).toArray 68 (0,0)) r (fun R=>aT r (o:=0) (v:=(.agg (capC (⟨a1,1⟩:Cap)).toArray)) rfl rfl (hP.cell (i:=1) rfl) ts68 (Nat.le_of_ble_eq_true rfl) rfl rfl) rfl fun fr w7 u8 r=>?_
 have hP:Post No [memR a0g a0,aa b1 ((capC (⟨a1,1⟩:Cap))).toArray 68] w0 w7:=hP.upd (i:=1) rfl u8;refine wn (wp_ret ?_);have hv:(⟨a1,1⟩:Cap)=res:=Option.some.inj hD
 try dsimp only [Exit.then,Exit.inBlock]
 refine ar r rfl rfl (hP.cell (i:=1) rfl) (k:=2) rfl ta68 ?_;subst hv;exact ⟨rfl,hP.chg.below⟩
def D.lH (fu:Nat) (a0:Mem) (a1:Cap):Option (Bool):=((D.jh fu a0 a1.region).bind (fun (x5:Unit)=>(some (1==a1.epoch))))
set_option maxRecDepth 20000 in
set_option maxHeartbeats 20000000 in
theorem jg {fu:Nat} (w0:World) {a0g:MG} (a0:Mem) (a0h:MemAt a0g a0 w0) (a1:Cap) {res:Bool} (hD:D.lH fu a0 a1=some res) :
    Calls Tryz.prog 171 #[zp a0g.mb,.agg (capC a1).toArray] w0 (bw (.bool res) w0):=by
 refine enter Tryz.func171 rfl 21 rfl rfl fun fr r=>?_;have hP:Post No [] w0 w0:=Post.nil w0
 have hP:Post No [memR a0g a0] w0 w0:=hP.addRo dV a0h rfl a0h.lt;unfold D.lH at hD
 refine wsr ?_;refine kX 68 (.agg (capC a1).toArray) r rfl rfl fun b1 w2 n3 r=>?_;have hP:Post No [memR a0g a0,aa b1 ((capC a1)).toArray 68] w0 w2:=hP.new n3
 refine kA (.bool false) r rfl rfl fun r=>wn (wsr (kM (zp a0g.mb) r rfl rfl fun r=>kF 0 r rfl km rfl fun r=>kL (I a1.region) r rfl (hP.cell (i:=1) rfl) to3 rfl rfl fun r=>?_));obtain ⟨x5,hx5,hD⟩:=aY hD
 refine kE r (nN w2 a0 (hP.memr (i:=0) rfl) a1.region hx5) rfl cl92 rfl fun w6 hb r=>?_;have hP:=hP.below hb
 refine kA (zp a0g.rb) r rfl rfl fun r=>wn (wp_seq ?_);refine dL [.val (zp a0g.rb),.val (.bool true),.val (.bool true),.val (zp a0g.rb),.val (zp a0g.rb),.val (.pointer (some ⟨a0g.rb,1,none⟩)),.val (U 1),.val (.pointer (some ⟨b1,1,none⟩)),.val (U a1.epoch),.val (.bool (1==a1.epoch)),.val (.bool (1==a1.epoch)),.val (.bool (1==a1.epoch))] mixed r kz ?_ ?_
 ·
  refine fc r (fun fr1 g w' hb' hd r'=>ay r' rfl bz) ?_;refine fc r (fun fr1 g w' hb' hd r'=>bc r' (hd 0 rfl).1 rfl rfl rfl bz) ?_
  refine fc r (fun fr1 g w' hb' hd r'=>ay r' (hd 1 rfl).1 bz) ?_;refine bm true r rfl rfl rfl (fun g w' hd=>Eq.trans (show (g 2).v=.bool true from (hd 2 rfl).1) (congrArg Value.bool (rfl:true=_))) (fun fr1 g w' hb' hd r'=>?_) ?_
  · exact ay r' (v:=(zp a0g.rb)) rfl ⟨Below.refl _ _,rfl⟩
  refine bm true r rfl rfl rfl (fun g w' hd=>Eq.trans (show (g 2).v=.bool true from (hd 2 rfl).1) (congrArg Value.bool (rfl:true=_))) (fun fr1 g w' hb' hd r'=>?_) ?_
  · exact cW r' (hd 3 rfl).1 ⟨Below.refl _ _,rfl⟩
  refine bm true r rfl rfl rfl (fun g w' hd=>Eq.trans (show (g 2).v=.bool true from (hd 2 rfl).1) (congrArg Value.bool (rfl:true=_))) (fun fr1 g w' hb' hd r'=>?_) ?_
  · exact ax r' (b:=a0g.rb) (o:=0) (k:=1) (hd 4 rfl).1 vB ⟨Below.refl _ _,rfl⟩
  refine bm true r rfl rfl rfl (fun g w' hd=>Eq.trans (show (g 2).v=.bool true from (hd 2 rfl).1) (congrArg Value.bool (rfl:true=_))) (fun fr1 g w' hb' hd r'=>?_) ?_
  · exact av r' (v:=(U 1)) (hd 5 rfl).1 ((hP.below (dr hb')).memr (i:=0) rfl).reg to36 rfl ⟨Below.refl _ _,rfl⟩
  refine bm true r rfl rfl rfl (fun g w' hd=>Eq.trans (show (g 2).v=.bool true from (hd 2 rfl).1) (congrArg Value.bool (rfl:true=_))) (fun fr1 g w' hb' hd r'=>?_) ?_
  · exact ax r' (b:=b1) (o:=0) (k:=1) rfl D7 ⟨Below.refl _ _,rfl⟩
  refine bm true r rfl rfl rfl (fun g w' hd=>Eq.trans (show (g 2).v=.bool true from (hd 2 rfl).1) (congrArg Value.bool (rfl:true=_))) (fun fr1 g w' hb' hd r'=>?_) ?_
  · exact av r' (v:=(U a1.epoch)) (hd 7 rfl).1 ((hP.below (dr hb')).cell (i:=1) rfl) to36 rfl ⟨Below.refl _ _,rfl⟩
  refine bm true r rfl rfl rfl (fun g w' hd=>Eq.trans (show (g 2).v=.bool true from (hd 2 rfl).1) (congrArg Value.bool (rfl:true=_))) (fun fr1 g w' hb' hd r'=>?_) ?_
  · exact bc r' (u:=(U 1)) (u':=(U a1.epoch)) (v:=(.bool (1==a1.epoch))) (hd 6 rfl).1 (hd 8 rfl).1 rfl rfl ⟨Below.refl _ _,rfl⟩
  refine fc r (fun fr1 g w' hb' hd r'=>aw r' (b:=true) (v:=(.bool (1==a1.epoch))) (Eq.trans (show (g 2).v=.bool true from (hd 2 rfl).1) (congrArg Value.bool (rfl:true=_))) (hd 9 rfl).1 bz) ?_;refine fc r (fun fr1 g w' hb' hd r'=>cf r' (hd 10 rfl).1 bz) ?_
  exact cc
 intro fr gg w7 hb hΦ hap r;have r:=r.congr (sc ((hΦ 11 rfl).1) (sc ((hΦ 10 rfl).1) (sc ((hΦ 9 rfl).1) (sc ((hΦ 8 rfl).1) (sc ((hΦ 7 rfl).1) (sc ((hΦ 6 rfl).1) (sc ((hΦ 5 rfl).1) (sc ((hΦ 4 rfl).1) (sc ((hΦ 3 rfl).1) (sc ((hΦ 2 rfl).1) (sc ((hΦ 1 rfl).1) (sc ((hΦ 0 rfl).1) rfl))))))))))));have hP:=hP.below hb;refine wp_ret ?_;have hv:(1==a1.epoch)=res:=Option.some.inj hD
 try dsimp only [Exit.then,Exit.inBlock]
 refine bg (fn:=Tryz.f171) r (t:=4) rfl (v:=(.bool (1==a1.epoch))) rfl ?_;subst hv;exact ⟨rfl,hP.chg.below⟩
def D.ik (fu:Nat) (a0:Mem) (a1:Int):Option (Int):=((D.jh fu a0 a1).bind (fun (x1:Unit)=>(some (a0.ws.length:Int))))
set_option maxRecDepth 20000 in
set_option maxHeartbeats 20000000 in
theorem ll {fu:Nat} (w0:World) {a0g:MG} (a0:Mem) (a0h:MemAt a0g a0 w0) (a1:Int) {res:Int} (hD:D.ik fu a0 a1=some res) :
    Calls Tryz.prog 93 #[zp a0g.mb,.int .i64 a1] w0 (bw (.int .i64 res) w0):=by
 refine enter Tryz.func93 rfl 16 rfl rfl fun fr r=>?_;have hP:Post No [] w0 w0:=Post.nil w0
 have hP:Post No [memR a0g a0] w0 w0:=hP.addRo dV a0h rfl a0h.lt;unfold D.ik at hD
 refine wsr (kA (I 0) r rfl rfl fun r=>wn (wp_seq (wsr (kM (zp a0g.mb) r rfl rfl fun r=>kM (I a1) r rfl rfl fun r=>?_))));obtain ⟨x1,hx1,hD⟩:=aY hD
 refine kE r (nN w0 a0 (hP.memr (i:=0) rfl) a1 hx1) rfl cl92 rfl fun w2 hb r=>?_;have hP:=hP.below hb
 refine kA (zp a0g.rb) r rfl rfl fun r=>wn (wsr (kM (zp a0g.rb) r rfl rfl fun r=>kB r rfl rfl rfl rfl rfl fun r=>wn ?_));refine wp_cond_split (t:=true) (r.ev rfl) (fun _=>?_) (fun h=>absurd ((rfl:true=_).symm.trans h) ke)
 refine wsr (kM (zp a0g.rb) r rfl rfl fun r=>ac (zp a0g.rb) r (fun R=>cW r rfl) rfl fun fr r=>ac _ r (fun R=>ax r (b:=a0g.rb) (o:=0) (k:=0) rfl qe) rfl fun fr r=>kL (.slice (some ⟨a0g.wb,0,none⟩) a0.ws.length a0.ws.length) r rfl (hP.memr (i:=0) rfl).reg to81 rfl rfl fun r=>ac (I (a0.ws.length:Int)) r (fun R=>ko r is81 rfl) rfl fun fr r=>kA (I (a0.ws.length:Int)) r rfl rfl fun r=>wn (wp_ret ?_));have hv:(a0.ws.length:Int)=res:=Option.some.inj hD
 try dsimp only [Exit.then,Exit.inBlock]
 refine bg (fn:=Tryz.f93) r (t:=4) rfl (v:=(I (a0.ws.length:Int))) rfl ?_;subst hv;exact ⟨rfl,hP.chg.below⟩
def D.fS (fu:Nat) (a0:Mem) (a1:Cap) (a2:Access):Option (Int × Bool × Mem):=(Option.bind ((D.lH fu a0 a1).bind (fun (x10:Bool)=>(bif (!x10) then (some true) else (bif (decide (a2.at_<0)) then (some true) else ((D.ik fu a0 a1.region).bind (fun (x15:Int)=>(bif (decide (a2.at_≥x15)) then (some true) else (bif (decide (a2.op<0)) then (some true) else (some (decide (a2.op > 3))))))))))) (fun (x21:Bool)=>(bif x21 then (some (0,false,a0)) else ((zeroI a1.region).bind (fun (x25:Unit)=>((getI a0.ws a2.at_).bind (fun (x26:Int)=>(Option.bind (bif (a2.op==1) then (some (Mem.put a0 a2.at_ a2.a)) else (Option.bind (bif (a2.op==2) then (some (x26==a2.a)) else (some false)) (fun (x34:Bool)=>(Option.bind (bif x34 then (some (Mem.put a0 a2.at_ a2.b)) else (Option.bind (bif (a2.op==3) then (some (Mem.put a0 a2.at_ (IntKind.u64.wrap (x26+a2.a)))) else (some a0)) (fun (x46:Mem)=>(some x46)))) (fun (x49:Mem)=>(some x49)))))) (fun (x52:Mem)=>(some (x26,true,({ x52 with cnt:=(IntKind.i64.wrap (x52.cnt+1)) }))))))))))))
set_option maxRecDepth 20000 in
set_option maxHeartbeats 20000000 in
theorem su {fu:Nat} (w0:World) {a0g:MG} (a0:Mem) (a1:Cap) (a2:Access) (hS:Sep [memK a0g a0] w0) {res:Int × Bool × Mem} (hD:D.fS fu a0 a1 a2=some res) :
    Calls Tryz.prog 86 #[zp a0g.mb,.agg (capC a1).toArray,.agg (ba a2).toArray] w0 (fun e w'=>e=.returned (.tuple #[(.int .u64 res.1),(.bool res.2.1)])∧Done (fun b=>b∈(memK a0g a0).own) No [memK a0g res.2.2] w0 w'):=by
 refine enter Tryz.func86 rfl 96 rfl rfl fun fr r=>?_;have hP:Post (fun b=>b∈(memK a0g a0).own) [memK a0g a0] w0 w0:=.start hS (by simp [memK])
 unfold D.fS at hD
 refine wsr ?_;refine kX 68 (.agg (capC a1).toArray) r rfl rfl fun b1 w2 n3 r=>?_;have hP:Post (fun b=>b∈(memK a0g a0).own) [memK a0g a0,aa b1 ((capC a1)).toArray 68] w0 w2:=hP.new n3
 refine kX 38 (.agg (ba a2).toArray) r rfl rfl fun b5 w6 n7 r=>?_;have hP:Post (fun b=>b∈(memK a0g a0).own) [memK a0g a0,aa b1 ((capC a1)).toArray 68,aa b5 ((ba a2)).toArray 38] w0 w6:=hP.new n7
 refine kA (U 0) r rfl rfl fun r=>kA (.bool false) r rfl rfl fun r=>wn (wp_seq (wp_seq ?_));refine cL (N:=96) (Y:=Bool) (G:=Unit) (fun x γ=>[(0,(zp a0g.mb)),(1,(.agg (capC a1).toArray)),(2,(.agg (ba a2).toArray)),(4,(zp b1)),(5,(zp b5)),(6,(U 0)),(7,(.bool false)),(37,(.bool x))]) (fun x γ w=>Post (fun b=>b∈(memK a0g a0).own) [memK a0g a0,aa b1 ((capC a1)).toArray 68,aa b5 ((ba a2)).toArray 38] w0 w) hD ?_ ?_
 ·
  rintro y9 RPy9 nxy9 hD;obtain ⟨x10,hx10,hD⟩:=aY hD;refine bA (!x10) (fun h11=>?_) (fun h11=>?_)
  ·
   have hD:=(az h11).symm.trans hD;refine dL [.val (zp a0g.mb),.val (.agg (capC a1).toArray),.val (.bool x10),.val (.bool (!x10)),.val (.bool (!x10)),.val undef,.val undef,.val undef,.val (.bool true),.val (.bool true),.val undef,.val undef,.val undef,.val undef,.val undef,.val undef,.val undef,.val (.bool true),.val (.bool true),.val undef,.val undef,.val undef,.val (.bool true),.val (.bool true),.val undef,.val undef,.val undef,.val (.bool true)] mixed r kz ?_ ?_
   ·
    refine fc r (fun fr1 g w' hb' hd r'=>ay r' rfl bz) ?_;refine fc r (fun fr1 g w' hb' hd r'=>aS r' (cs:=(capC a1)) (n:=2) rfl ((hP.below (dr hb')).cell (i:=1) rfl) ta68 rfl bz) ?_
    refine fc r (fun fr1 g w' hb' hd r'=>aJ r' (args:=[(zp a0g.mb),(.agg (capC a1).toArray)]) (lc (hd 0 rfl).1 (lc (hd 1 rfl).1 l0)) kI ((jg _ a0 ((hP.below (dr hb')).mem (i:=0) rfl) a1 hx10).mono (by rintro _ w2 ⟨rfl,hb2⟩; exact ⟨_,rfl,hb2,rfl⟩))) ?_;refine fc r (fun fr1 g w' hb' hd r'=>y_un r' (u:=(.bool x10)) (v:=(.bool (!x10))) (hd 2 rfl).1 rfl bz) ?_
    refine fc r (fun fr1 g w' hb' hd r'=>ay r' (hd 3 rfl).1 bz) ?_;refine br false (.bool true) r rfl rfl rfl (fun g w' hd=>Eq.trans (show (g 4).v=.bool (!x10) from (hd 4 rfl).1) (congrArg Value.bool h11)) (by simp [aI]) (fun _ _=>⟨Below.refl _ _,rfl⟩) ?_
    refine br false (.bool true) r rfl rfl rfl (fun g w' hd=>Eq.trans (show (g 4).v=.bool (!x10) from (hd 4 rfl).1) (congrArg Value.bool h11)) (by simp [aI]) (fun _ _=>⟨Below.refl _ _,rfl⟩) ?_;refine br false (.bool true) r rfl rfl rfl (fun g w' hd=>Eq.trans (show (g 4).v=.bool (!x10) from (hd 4 rfl).1) (congrArg Value.bool h11)) (by simp [aI]) (fun _ _=>⟨Below.refl _ _,rfl⟩) ?_
    refine fc r (fun fr1 g w' hb' hd r'=>aw r' (b:=true) (v:=(.bool true)) (Eq.trans (show (g 4).v=.bool (!x10) from (hd 4 rfl).1) (congrArg Value.bool h11)) rfl bz) ?_;refine fc r (fun fr1 g w' hb' hd r'=>ay r' (hd 8 rfl).1 bz) ?_
    refine br false (.bool true) r rfl rfl rfl (fun g w' hd=>Eq.trans (show (g 9).v=.bool true from (hd 9 rfl).1) (congrArg Value.bool (rfl:true=_))) (by simp [aI]) (fun _ _=>⟨Below.refl _ _,rfl⟩) ?_;refine br false (.bool true) r rfl rfl rfl (fun g w' hd=>Eq.trans (show (g 9).v=.bool true from (hd 9 rfl).1) (congrArg Value.bool (rfl:true=_))) (by simp [aI]) (fun _ _=>⟨Below.refl _ _,rfl⟩) ?_
    refine br false (.bool true) r rfl rfl rfl (fun g w' hd=>Eq.trans (show (g 9).v=.bool true from (hd 9 rfl).1) (congrArg Value.bool (rfl:true=_))) (by simp [aI]) (fun _ _=>⟨Below.refl _ _,rfl⟩) ?_;refine br false (.bool true) r rfl rfl rfl (fun g w' hd=>Eq.trans (show (g 9).v=.bool true from (hd 9 rfl).1) (congrArg Value.bool (rfl:true=_))) (by simp [aI]) (fun _ _=>⟨Below.refl _ _,rfl⟩) ?_
    refine br false (.bool true) r rfl rfl rfl (fun g w' hd=>Eq.trans (show (g 9).v=.bool true from (hd 9 rfl).1) (congrArg Value.bool (rfl:true=_))) (by simp [aI]) (fun _ _=>⟨Below.refl _ _,rfl⟩) ?_;refine br false (.bool true) r rfl rfl rfl (fun g w' hd=>Eq.trans (show (g 9).v=.bool true from (hd 9 rfl).1) (congrArg Value.bool (rfl:true=_))) (by simp [aI]) (fun _ _=>⟨Below.refl _ _,rfl⟩) ?_
    refine br false (.bool true) r rfl rfl rfl (fun g w' hd=>Eq.trans (show (g 9).v=.bool true from (hd 9 rfl).1) (congrArg Value.bool (rfl:true=_))) (by simp [aI]) (fun _ _=>⟨Below.refl _ _,rfl⟩) ?_;refine fc r (fun fr1 g w' hb' hd r'=>aw r' (b:=true) (v:=(.bool true)) (Eq.trans (show (g 9).v=.bool true from (hd 9 rfl).1) (congrArg Value.bool (rfl:true=_))) rfl bz) ?_
    refine fc r (fun fr1 g w' hb' hd r'=>ay r' (hd 17 rfl).1 bz) ?_;refine br false (.bool true) r rfl rfl rfl (fun g w' hd=>Eq.trans (show (g 18).v=.bool true from (hd 18 rfl).1) (congrArg Value.bool (rfl:true=_))) (by simp [aI]) (fun _ _=>⟨Below.refl _ _,rfl⟩) ?_
    refine br false (.bool true) r rfl rfl rfl (fun g w' hd=>Eq.trans (show (g 18).v=.bool true from (hd 18 rfl).1) (congrArg Value.bool (rfl:true=_))) (by simp [aI]) (fun _ _=>⟨Below.refl _ _,rfl⟩) ?_;refine br false (.bool true) r rfl rfl rfl (fun g w' hd=>Eq.trans (show (g 18).v=.bool true from (hd 18 rfl).1) (congrArg Value.bool (rfl:true=_))) (by simp [aI]) (fun _ _=>⟨Below.refl _ _,rfl⟩) ?_
    refine fc r (fun fr1 g w' hb' hd r'=>aw r' (b:=true) (v:=(.bool true)) (Eq.trans (show (g 18).v=.bool true from (hd 18 rfl).1) (congrArg Value.bool (rfl:true=_))) rfl bz) ?_;refine fc r (fun fr1 g w' hb' hd r'=>ay r' (hd 22 rfl).1 bz) ?_
    refine br false (.bool true) r rfl rfl rfl (fun g w' hd=>Eq.trans (show (g 23).v=.bool true from (hd 23 rfl).1) (congrArg Value.bool (rfl:true=_))) (by simp [aI]) (fun _ _=>⟨Below.refl _ _,rfl⟩) ?_;refine br false (.bool true) r rfl rfl rfl (fun g w' hd=>Eq.trans (show (g 23).v=.bool true from (hd 23 rfl).1) (congrArg Value.bool (rfl:true=_))) (by simp [aI]) (fun _ _=>⟨Below.refl _ _,rfl⟩) ?_
    refine br false (.bool true) r rfl rfl rfl (fun g w' hd=>Eq.trans (show (g 23).v=.bool true from (hd 23 rfl).1) (congrArg Value.bool (rfl:true=_))) (by simp [aI]) (fun _ _=>⟨Below.refl _ _,rfl⟩) ?_;refine fc r (fun fr1 g w' hb' hd r'=>aw r' (b:=true) (v:=(.bool true)) (Eq.trans (show (g 23).v=.bool true from (hd 23 rfl).1) (congrArg Value.bool (rfl:true=_))) rfl bz) ?_
    exact cc
   intro fr gg w12 hb hΦ hap r;have r:=r.congr (sc ((hΦ 27 rfl).1) (sc ((hΦ 26 rfl).1) (sc ((hΦ 25 rfl).1) (sc ((hΦ 24 rfl).1) (sc ((hΦ 23 rfl).1) (sc ((hΦ 22 rfl).1) (sc ((hΦ 21 rfl).1) (sc ((hΦ 20 rfl).1) (sc ((hΦ 19 rfl).1) (sc ((hΦ 18 rfl).1) (sc ((hΦ 17 rfl).1) (sc ((hΦ 16 rfl).1) (sc ((hΦ 15 rfl).1) (sc ((hΦ 14 rfl).1) (sc ((hΦ 13 rfl).1) (sc ((hΦ 12 rfl).1) (sc ((hΦ 11 rfl).1) (sc ((hΦ 10 rfl).1) (sc ((hΦ 9 rfl).1) (sc ((hΦ 8 rfl).1) (sc ((hΦ 7 rfl).1) (sc ((hΦ 6 rfl).1) (sc ((hΦ 5 rfl).1) (sc ((hΦ 4 rfl).1) (sc ((hΦ 3 rfl).1) (sc ((hΦ 2 rfl).1) (sc ((hΦ 1 rfl).1) (sc ((hΦ 0 rfl).1) rfl))))))))))))))))))))))))))));have hP:=hP.below hb;exact nxy9 true () _ _ _ hD r (kO (kO aN)) (hP.pick [0,1,2] rfl rfl)
  have hD:=(aB h11).symm.trans hD;refine bA (decide (a2.at_<0)) (fun h13=>?_) (fun h13=>?_)
  ·
   have hD:=(az h13).symm.trans hD;refine dL [.val (zp a0g.mb),.val (.agg (capC a1).toArray),.val (.bool x10),.val (.bool (!x10)),.val (.bool (!x10)),.val (.pointer (some ⟨b5,1,none⟩)),.val (I a2.at_),.val (.bool (decide (a2.at_<0))),.val (.bool (decide (a2.at_<0))),.val (.bool (decide (a2.at_<0))),.val undef,.val undef,.val undef,.val undef,.val undef,.val undef,.val undef,.val (.bool true),.val (.bool true),.val undef,.val undef,.val undef,.val (.bool true),.val (.bool true),.val undef,.val undef,.val undef,.val (.bool true)] mixed r kz ?_ ?_
   ·
    refine fc r (fun fr1 g w' hb' hd r'=>ay r' rfl bz) ?_;refine fc r (fun fr1 g w' hb' hd r'=>aS r' (cs:=(capC a1)) (n:=2) rfl ((hP.below (dr hb')).cell (i:=1) rfl) ta68 rfl bz) ?_
    refine fc r (fun fr1 g w' hb' hd r'=>aJ r' (args:=[(zp a0g.mb),(.agg (capC a1).toArray)]) (lc (hd 0 rfl).1 (lc (hd 1 rfl).1 l0)) kI ((jg _ a0 ((hP.below (dr hb')).mem (i:=0) rfl) a1 hx10).mono (by rintro _ w2 ⟨rfl,hb2⟩; exact ⟨_,rfl,hb2,rfl⟩))) ?_;refine fc r (fun fr1 g w' hb' hd r'=>y_un r' (u:=(.bool x10)) (v:=(.bool (!x10))) (hd 2 rfl).1 rfl bz) ?_
    refine fc r (fun fr1 g w' hb' hd r'=>ay r' (hd 3 rfl).1 bz) ?_;refine bm false r rfl rfl rfl (fun g w' hd=>Eq.trans (show (g 4).v=.bool (!x10) from (hd 4 rfl).1) (congrArg Value.bool h11)) (fun fr1 g w' hb' hd r'=>?_) ?_
    · exact ax r' (b:=b5) (o:=0) (k:=1) rfl gx ⟨Below.refl _ _,rfl⟩
    refine bm false r rfl rfl rfl (fun g w' hd=>Eq.trans (show (g 4).v=.bool (!x10) from (hd 4 rfl).1) (congrArg Value.bool h11)) (fun fr1 g w' hb' hd r'=>?_) ?_
    · exact av r' (v:=(I a2.at_)) (hd 5 rfl).1 ((hP.below (dr hb')).cell (i:=2) rfl) to3 rfl ⟨Below.refl _ _,rfl⟩
    refine bm false r rfl rfl rfl (fun g w' hd=>Eq.trans (show (g 4).v=.bool (!x10) from (hd 4 rfl).1) (congrArg Value.bool h11)) (fun fr1 g w' hb' hd r'=>?_) ?_
    · exact bc r' (u:=(I a2.at_)) (u':=(I 0)) (v:=(.bool (decide (a2.at_<0)))) (hd 6 rfl).1 rfl rfl rfl ⟨Below.refl _ _,rfl⟩
    refine fc r (fun fr1 g w' hb' hd r'=>aw r' (b:=false) (v:=(.bool (decide (a2.at_<0)))) (Eq.trans (show (g 4).v=.bool (!x10) from (hd 4 rfl).1) (congrArg Value.bool h11)) (hd 7 rfl).1 bz) ?_;refine fc r (fun fr1 g w' hb' hd r'=>ay r' (hd 8 rfl).1 bz) ?_
    refine br false (.bool true) r rfl rfl rfl (fun g w' hd=>Eq.trans (show (g 9).v=.bool (decide (a2.at_<0)) from (hd 9 rfl).1) (congrArg Value.bool h13)) (by simp [aI]) (fun _ _=>⟨Below.refl _ _,rfl⟩) ?_;refine br false (.bool true) r rfl rfl rfl (fun g w' hd=>Eq.trans (show (g 9).v=.bool (decide (a2.at_<0)) from (hd 9 rfl).1) (congrArg Value.bool h13)) (by simp [aI]) (fun _ _=>⟨Below.refl _ _,rfl⟩) ?_
    refine br false (.bool true) r rfl rfl rfl (fun g w' hd=>Eq.trans (show (g 9).v=.bool (decide (a2.at_<0)) from (hd 9 rfl).1) (congrArg Value.bool h13)) (by simp [aI]) (fun _ _=>⟨Below.refl _ _,rfl⟩) ?_;refine br false (.bool true) r rfl rfl rfl (fun g w' hd=>Eq.trans (show (g 9).v=.bool (decide (a2.at_<0)) from (hd 9 rfl).1) (congrArg Value.bool h13)) (by simp [aI]) (fun _ _=>⟨Below.refl _ _,rfl⟩) ?_
    refine br false (.bool true) r rfl rfl rfl (fun g w' hd=>Eq.trans (show (g 9).v=.bool (decide (a2.at_<0)) from (hd 9 rfl).1) (congrArg Value.bool h13)) (by simp [aI]) (fun _ _=>⟨Below.refl _ _,rfl⟩) ?_;refine br false (.bool true) r rfl rfl rfl (fun g w' hd=>Eq.trans (show (g 9).v=.bool (decide (a2.at_<0)) from (hd 9 rfl).1) (congrArg Value.bool h13)) (by simp [aI]) (fun _ _=>⟨Below.refl _ _,rfl⟩) ?_
    refine br false (.bool true) r rfl rfl rfl (fun g w' hd=>Eq.trans (show (g 9).v=.bool (decide (a2.at_<0)) from (hd 9 rfl).1) (congrArg Value.bool h13)) (by simp [aI]) (fun _ _=>⟨Below.refl _ _,rfl⟩) ?_;refine fc r (fun fr1 g w' hb' hd r'=>aw r' (b:=true) (v:=(.bool true)) (Eq.trans (show (g 9).v=.bool (decide (a2.at_<0)) from (hd 9 rfl).1) (congrArg Value.bool h13)) rfl bz) ?_
    refine fc r (fun fr1 g w' hb' hd r'=>ay r' (hd 17 rfl).1 bz) ?_;refine br false (.bool true) r rfl rfl rfl (fun g w' hd=>Eq.trans (show (g 18).v=.bool true from (hd 18 rfl).1) (congrArg Value.bool (rfl:true=_))) (by simp [aI]) (fun _ _=>⟨Below.refl _ _,rfl⟩) ?_
    refine br false (.bool true) r rfl rfl rfl (fun g w' hd=>Eq.trans (show (g 18).v=.bool true from (hd 18 rfl).1) (congrArg Value.bool (rfl:true=_))) (by simp [aI]) (fun _ _=>⟨Below.refl _ _,rfl⟩) ?_;refine br false (.bool true) r rfl rfl rfl (fun g w' hd=>Eq.trans (show (g 18).v=.bool true from (hd 18 rfl).1) (congrArg Value.bool (rfl:true=_))) (by simp [aI]) (fun _ _=>⟨Below.refl _ _,rfl⟩) ?_
    refine fc r (fun fr1 g w' hb' hd r'=>aw r' (b:=true) (v:=(.bool true)) (Eq.trans (show (g 18).v=.bool true from (hd 18 rfl).1) (congrArg Value.bool (rfl:true=_))) rfl bz) ?_;refine fc r (fun fr1 g w' hb' hd r'=>ay r' (hd 22 rfl).1 bz) ?_
    refine br false (.bool true) r rfl rfl rfl (fun g w' hd=>Eq.trans (show (g 23).v=.bool true from (hd 23 rfl).1) (congrArg Value.bool (rfl:true=_))) (by simp [aI]) (fun _ _=>⟨Below.refl _ _,rfl⟩) ?_;refine br false (.bool true) r rfl rfl rfl (fun g w' hd=>Eq.trans (show (g 23).v=.bool true from (hd 23 rfl).1) (congrArg Value.bool (rfl:true=_))) (by simp [aI]) (fun _ _=>⟨Below.refl _ _,rfl⟩) ?_
    refine br false (.bool true) r rfl rfl rfl (fun g w' hd=>Eq.trans (show (g 23).v=.bool true from (hd 23 rfl).1) (congrArg Value.bool (rfl:true=_))) (by simp [aI]) (fun _ _=>⟨Below.refl _ _,rfl⟩) ?_;refine fc r (fun fr1 g w' hb' hd r'=>aw r' (b:=true) (v:=(.bool true)) (Eq.trans (show (g 23).v=.bool true from (hd 23 rfl).1) (congrArg Value.bool (rfl:true=_))) rfl bz) ?_
    exact cc
   intro fr gg w14 hb hΦ hap r;have r:=r.congr (sc ((hΦ 27 rfl).1) (sc ((hΦ 26 rfl).1) (sc ((hΦ 25 rfl).1) (sc ((hΦ 24 rfl).1) (sc ((hΦ 23 rfl).1) (sc ((hΦ 22 rfl).1) (sc ((hΦ 21 rfl).1) (sc ((hΦ 20 rfl).1) (sc ((hΦ 19 rfl).1) (sc ((hΦ 18 rfl).1) (sc ((hΦ 17 rfl).1) (sc ((hΦ 16 rfl).1) (sc ((hΦ 15 rfl).1) (sc ((hΦ 14 rfl).1) (sc ((hΦ 13 rfl).1) (sc ((hΦ 12 rfl).1) (sc ((hΦ 11 rfl).1) (sc ((hΦ 10 rfl).1) (sc ((hΦ 9 rfl).1) (sc ((hΦ 8 rfl).1) (sc ((hΦ 7 rfl).1) (sc ((hΦ 6 rfl).1) (sc ((hΦ 5 rfl).1) (sc ((hΦ 4 rfl).1) (sc ((hΦ 3 rfl).1) (sc ((hΦ 2 rfl).1) (sc ((hΦ 1 rfl).1) (sc ((hΦ 0 rfl).1) rfl))))))))))))))))))))))))))));have hP:=hP.below hb;exact nxy9 true () _ _ _ hD r (kO (kO aN)) (hP.pick [0,1,2] rfl rfl)
  have hD:=(aB h13).symm.trans hD;obtain ⟨x15,hx15,hD⟩:=aY hD;refine bA (decide (a2.at_≥x15)) (fun h16=>?_) (fun h16=>?_)
  ·
   have hD:=(az h16).symm.trans hD;refine dL [.val (zp a0g.mb),.val (.agg (capC a1).toArray),.val (.bool x10),.val (.bool (!x10)),.val (.bool (!x10)),.val (.pointer (some ⟨b5,1,none⟩)),.val (I a2.at_),.val (.bool (decide (a2.at_<0))),.val (.bool (decide (a2.at_<0))),.val (.bool (decide (a2.at_<0))),.val (.pointer (some ⟨b5,1,none⟩)),.val (I a2.at_),.val (zp a0g.mb),.val (zp b1),.val (I a1.region),.val (I x15),.val (.bool (decide (a2.at_≥x15))),.val (.bool (decide (a2.at_≥x15))),.val (.bool (decide (a2.at_≥x15))),.val undef,.val undef,.val undef,.val (.bool true),.val (.bool true),.val undef,.val undef,.val undef,.val (.bool true)] mixed r kz ?_ ?_
   ·
    refine fc r (fun fr1 g w' hb' hd r'=>ay r' rfl bz) ?_;refine fc r (fun fr1 g w' hb' hd r'=>aS r' (cs:=(capC a1)) (n:=2) rfl ((hP.below (dr hb')).cell (i:=1) rfl) ta68 rfl bz) ?_
    refine fc r (fun fr1 g w' hb' hd r'=>aJ r' (args:=[(zp a0g.mb),(.agg (capC a1).toArray)]) (lc (hd 0 rfl).1 (lc (hd 1 rfl).1 l0)) kI ((jg _ a0 ((hP.below (dr hb')).mem (i:=0) rfl) a1 hx10).mono (by rintro _ w2 ⟨rfl,hb2⟩; exact ⟨_,rfl,hb2,rfl⟩))) ?_;refine fc r (fun fr1 g w' hb' hd r'=>y_un r' (u:=(.bool x10)) (v:=(.bool (!x10))) (hd 2 rfl).1 rfl bz) ?_
    refine fc r (fun fr1 g w' hb' hd r'=>ay r' (hd 3 rfl).1 bz) ?_;refine bm false r rfl rfl rfl (fun g w' hd=>Eq.trans (show (g 4).v=.bool (!x10) from (hd 4 rfl).1) (congrArg Value.bool h11)) (fun fr1 g w' hb' hd r'=>?_) ?_
    · exact ax r' (b:=b5) (o:=0) (k:=1) rfl gx ⟨Below.refl _ _,rfl⟩
    refine bm false r rfl rfl rfl (fun g w' hd=>Eq.trans (show (g 4).v=.bool (!x10) from (hd 4 rfl).1) (congrArg Value.bool h11)) (fun fr1 g w' hb' hd r'=>?_) ?_
    · exact av r' (v:=(I a2.at_)) (hd 5 rfl).1 ((hP.below (dr hb')).cell (i:=2) rfl) to3 rfl ⟨Below.refl _ _,rfl⟩
    refine bm false r rfl rfl rfl (fun g w' hd=>Eq.trans (show (g 4).v=.bool (!x10) from (hd 4 rfl).1) (congrArg Value.bool h11)) (fun fr1 g w' hb' hd r'=>?_) ?_
    · exact bc r' (u:=(I a2.at_)) (u':=(I 0)) (v:=(.bool (decide (a2.at_<0)))) (hd 6 rfl).1 rfl rfl rfl ⟨Below.refl _ _,rfl⟩
    refine fc r (fun fr1 g w' hb' hd r'=>aw r' (b:=false) (v:=(.bool (decide (a2.at_<0)))) (Eq.trans (show (g 4).v=.bool (!x10) from (hd 4 rfl).1) (congrArg Value.bool h11)) (hd 7 rfl).1 bz) ?_;refine fc r (fun fr1 g w' hb' hd r'=>ay r' (hd 8 rfl).1 bz) ?_
    refine bm false r rfl rfl rfl (fun g w' hd=>Eq.trans (show (g 9).v=.bool (decide (a2.at_<0)) from (hd 9 rfl).1) (congrArg Value.bool h13)) (fun fr1 g w' hb' hd r'=>?_) ?_
    · exact ax r' (b:=b5) (o:=0) (k:=1) rfl gx ⟨Below.refl _ _,rfl⟩
    refine bm false r rfl rfl rfl (fun g w' hd=>Eq.trans (show (g 9).v=.bool (decide (a2.at_<0)) from (hd 9 rfl).1) (congrArg Value.bool h13)) (fun fr1 g w' hb' hd r'=>?_) ?_
    · exact av r' (v:=(I a2.at_)) (hd 10 rfl).1 ((hP.below (dr hb')).cell (i:=2) rfl) to3 rfl ⟨Below.refl _ _,rfl⟩
    refine bm false r rfl rfl rfl (fun g w' hd=>Eq.trans (show (g 9).v=.bool (decide (a2.at_<0)) from (hd 9 rfl).1) (congrArg Value.bool h13)) (fun fr1 g w' hb' hd r'=>?_) ?_
    · exact ay r' (v:=(zp a0g.mb)) rfl ⟨Below.refl _ _,rfl⟩
    refine bm false r rfl rfl rfl (fun g w' hd=>Eq.trans (show (g 9).v=.bool (decide (a2.at_<0)) from (hd 9 rfl).1) (congrArg Value.bool h13)) (fun fr1 g w' hb' hd r'=>?_) ?_
    · exact ax r' (b:=b1) (o:=0) (k:=0) rfl km ⟨Below.refl _ _,rfl⟩
    refine bm false r rfl rfl rfl (fun g w' hd=>Eq.trans (show (g 9).v=.bool (decide (a2.at_<0)) from (hd 9 rfl).1) (congrArg Value.bool h13)) (fun fr1 g w' hb' hd r'=>?_) ?_
    · exact av r' (v:=(I a1.region)) (hd 13 rfl).1 ((hP.below (dr hb')).cell (i:=1) rfl) to3 rfl ⟨Below.refl _ _,rfl⟩
    refine bm false r rfl rfl rfl (fun g w' hd=>Eq.trans (show (g 9).v=.bool (decide (a2.at_<0)) from (hd 9 rfl).1) (congrArg Value.bool h13)) (fun fr1 g w' hb' hd r'=>?_) ?_
    · exact aJ r' (args:=[(zp a0g.mb),(I a1.region)]) (lc (hd 12 rfl).1 (lc (hd 14 rfl).1 l0)) cl93 ((ll _ a0 ((hP.below (dr hb')).mem (i:=0) rfl) a1.region hx15).mono (by rintro _ w2 ⟨rfl,hb2⟩; exact ⟨_,rfl,hb2,rfl⟩))
    refine bm false r rfl rfl rfl (fun g w' hd=>Eq.trans (show (g 9).v=.bool (decide (a2.at_<0)) from (hd 9 rfl).1) (congrArg Value.bool h13)) (fun fr1 g w' hb' hd r'=>?_) ?_
    · exact bc r' (u:=(I a2.at_)) (u':=(I x15)) (v:=(.bool (decide (a2.at_≥x15)))) (hd 11 rfl).1 (hd 15 rfl).1 rfl rfl ⟨Below.refl _ _,rfl⟩
    refine fc r (fun fr1 g w' hb' hd r'=>aw r' (b:=false) (v:=(.bool (decide (a2.at_≥x15)))) (Eq.trans (show (g 9).v=.bool (decide (a2.at_<0)) from (hd 9 rfl).1) (congrArg Value.bool h13)) (hd 16 rfl).1 bz) ?_;refine fc r (fun fr1 g w' hb' hd r'=>ay r' (hd 17 rfl).1 bz) ?_
    refine br false (.bool true) r rfl rfl rfl (fun g w' hd=>Eq.trans (show (g 18).v=.bool (decide (a2.at_≥x15)) from (hd 18 rfl).1) (congrArg Value.bool h16)) (by simp [aI]) (fun _ _=>⟨Below.refl _ _,rfl⟩) ?_;refine br false (.bool true) r rfl rfl rfl (fun g w' hd=>Eq.trans (show (g 18).v=.bool (decide (a2.at_≥x15)) from (hd 18 rfl).1) (congrArg Value.bool h16)) (by simp [aI]) (fun _ _=>⟨Below.refl _ _,rfl⟩) ?_
    refine br false (.bool true) r rfl rfl rfl (fun g w' hd=>Eq.trans (show (g 18).v=.bool (decide (a2.at_≥x15)) from (hd 18 rfl).1) (congrArg Value.bool h16)) (by simp [aI]) (fun _ _=>⟨Below.refl _ _,rfl⟩) ?_;refine fc r (fun fr1 g w' hb' hd r'=>aw r' (b:=true) (v:=(.bool true)) (Eq.trans (show (g 18).v=.bool (decide (a2.at_≥x15)) from (hd 18 rfl).1) (congrArg Value.bool h16)) rfl bz) ?_
    refine fc r (fun fr1 g w' hb' hd r'=>ay r' (hd 22 rfl).1 bz) ?_;refine br false (.bool true) r rfl rfl rfl (fun g w' hd=>Eq.trans (show (g 23).v=.bool true from (hd 23 rfl).1) (congrArg Value.bool (rfl:true=_))) (by simp [aI]) (fun _ _=>⟨Below.refl _ _,rfl⟩) ?_
    refine br false (.bool true) r rfl rfl rfl (fun g w' hd=>Eq.trans (show (g 23).v=.bool true from (hd 23 rfl).1) (congrArg Value.bool (rfl:true=_))) (by simp [aI]) (fun _ _=>⟨Below.refl _ _,rfl⟩) ?_;refine br false (.bool true) r rfl rfl rfl (fun g w' hd=>Eq.trans (show (g 23).v=.bool true from (hd 23 rfl).1) (congrArg Value.bool (rfl:true=_))) (by simp [aI]) (fun _ _=>⟨Below.refl _ _,rfl⟩) ?_
    refine fc r (fun fr1 g w' hb' hd r'=>aw r' (b:=true) (v:=(.bool true)) (Eq.trans (show (g 23).v=.bool true from (hd 23 rfl).1) (congrArg Value.bool (rfl:true=_))) rfl bz) ?_;exact cc
   intro fr gg w17 hb hΦ hap r;have r:=r.congr (sc ((hΦ 27 rfl).1) (sc ((hΦ 26 rfl).1) (sc ((hΦ 25 rfl).1) (sc ((hΦ 24 rfl).1) (sc ((hΦ 23 rfl).1) (sc ((hΦ 22 rfl).1) (sc ((hΦ 21 rfl).1) (sc ((hΦ 20 rfl).1) (sc ((hΦ 19 rfl).1) (sc ((hΦ 18 rfl).1) (sc ((hΦ 17 rfl).1) (sc ((hΦ 16 rfl).1) (sc ((hΦ 15 rfl).1) (sc ((hΦ 14 rfl).1) (sc ((hΦ 13 rfl).1) (sc ((hΦ 12 rfl).1) (sc ((hΦ 11 rfl).1) (sc ((hΦ 10 rfl).1) (sc ((hΦ 9 rfl).1) (sc ((hΦ 8 rfl).1) (sc ((hΦ 7 rfl).1) (sc ((hΦ 6 rfl).1) (sc ((hΦ 5 rfl).1) (sc ((hΦ 4 rfl).1) (sc ((hΦ 3 rfl).1) (sc ((hΦ 2 rfl).1) (sc ((hΦ 1 rfl).1) (sc ((hΦ 0 rfl).1) rfl))))))))))))))))))))))))))));have hP:=hP.below hb;exact nxy9 true () _ _ _ hD r (kO (kO aN)) (hP.pick [0,1,2] rfl rfl)
  have hD:=(aB h16).symm.trans hD;refine bA (decide (a2.op<0)) (fun h18=>?_) (fun h18=>?_)
  ·
   have hD:=(az h18).symm.trans hD;refine dL [.val (zp a0g.mb),.val (.agg (capC a1).toArray),.val (.bool x10),.val (.bool (!x10)),.val (.bool (!x10)),.val (.pointer (some ⟨b5,1,none⟩)),.val (I a2.at_),.val (.bool (decide (a2.at_<0))),.val (.bool (decide (a2.at_<0))),.val (.bool (decide (a2.at_<0))),.val (.pointer (some ⟨b5,1,none⟩)),.val (I a2.at_),.val (zp a0g.mb),.val (zp b1),.val (I a1.region),.val (I x15),.val (.bool (decide (a2.at_≥x15))),.val (.bool (decide (a2.at_≥x15))),.val (.bool (decide (a2.at_≥x15))),.val (zp b5),.val (I a2.op),.val (.bool (decide (a2.op<0))),.val (.bool (decide (a2.op<0))),.val (.bool (decide (a2.op<0))),.val undef,.val undef,.val undef,.val (.bool true)] mixed r kz ?_ ?_
   ·
    refine fc r (fun fr1 g w' hb' hd r'=>ay r' rfl bz) ?_;refine fc r (fun fr1 g w' hb' hd r'=>aS r' (cs:=(capC a1)) (n:=2) rfl ((hP.below (dr hb')).cell (i:=1) rfl) ta68 rfl bz) ?_
    refine fc r (fun fr1 g w' hb' hd r'=>aJ r' (args:=[(zp a0g.mb),(.agg (capC a1).toArray)]) (lc (hd 0 rfl).1 (lc (hd 1 rfl).1 l0)) kI ((jg _ a0 ((hP.below (dr hb')).mem (i:=0) rfl) a1 hx10).mono (by rintro _ w2 ⟨rfl,hb2⟩; exact ⟨_,rfl,hb2,rfl⟩))) ?_;refine fc r (fun fr1 g w' hb' hd r'=>y_un r' (u:=(.bool x10)) (v:=(.bool (!x10))) (hd 2 rfl).1 rfl bz) ?_
    refine fc r (fun fr1 g w' hb' hd r'=>ay r' (hd 3 rfl).1 bz) ?_;refine bm false r rfl rfl rfl (fun g w' hd=>Eq.trans (show (g 4).v=.bool (!x10) from (hd 4 rfl).1) (congrArg Value.bool h11)) (fun fr1 g w' hb' hd r'=>?_) ?_
    · exact ax r' (b:=b5) (o:=0) (k:=1) rfl gx ⟨Below.refl _ _,rfl⟩
    refine bm false r rfl rfl rfl (fun g w' hd=>Eq.trans (show (g 4).v=.bool (!x10) from (hd 4 rfl).1) (congrArg Value.bool h11)) (fun fr1 g w' hb' hd r'=>?_) ?_
    · exact av r' (v:=(I a2.at_)) (hd 5 rfl).1 ((hP.below (dr hb')).cell (i:=2) rfl) to3 rfl ⟨Below.refl _ _,rfl⟩
    refine bm false r rfl rfl rfl (fun g w' hd=>Eq.trans (show (g 4).v=.bool (!x10) from (hd 4 rfl).1) (congrArg Value.bool h11)) (fun fr1 g w' hb' hd r'=>?_) ?_
    · exact bc r' (u:=(I a2.at_)) (u':=(I 0)) (v:=(.bool (decide (a2.at_<0)))) (hd 6 rfl).1 rfl rfl rfl ⟨Below.refl _ _,rfl⟩
    refine fc r (fun fr1 g w' hb' hd r'=>aw r' (b:=false) (v:=(.bool (decide (a2.at_<0)))) (Eq.trans (show (g 4).v=.bool (!x10) from (hd 4 rfl).1) (congrArg Value.bool h11)) (hd 7 rfl).1 bz) ?_;refine fc r (fun fr1 g w' hb' hd r'=>ay r' (hd 8 rfl).1 bz) ?_
    refine bm false r rfl rfl rfl (fun g w' hd=>Eq.trans (show (g 9).v=.bool (decide (a2.at_<0)) from (hd 9 rfl).1) (congrArg Value.bool h13)) (fun fr1 g w' hb' hd r'=>?_) ?_
    · exact ax r' (b:=b5) (o:=0) (k:=1) rfl gx ⟨Below.refl _ _,rfl⟩
    refine bm false r rfl rfl rfl (fun g w' hd=>Eq.trans (show (g 9).v=.bool (decide (a2.at_<0)) from (hd 9 rfl).1) (congrArg Value.bool h13)) (fun fr1 g w' hb' hd r'=>?_) ?_
    · exact av r' (v:=(I a2.at_)) (hd 10 rfl).1 ((hP.below (dr hb')).cell (i:=2) rfl) to3 rfl ⟨Below.refl _ _,rfl⟩
    refine bm false r rfl rfl rfl (fun g w' hd=>Eq.trans (show (g 9).v=.bool (decide (a2.at_<0)) from (hd 9 rfl).1) (congrArg Value.bool h13)) (fun fr1 g w' hb' hd r'=>?_) ?_
    · exact ay r' (v:=(zp a0g.mb)) rfl ⟨Below.refl _ _,rfl⟩
    refine bm false r rfl rfl rfl (fun g w' hd=>Eq.trans (show (g 9).v=.bool (decide (a2.at_<0)) from (hd 9 rfl).1) (congrArg Value.bool h13)) (fun fr1 g w' hb' hd r'=>?_) ?_
    · exact ax r' (b:=b1) (o:=0) (k:=0) rfl km ⟨Below.refl _ _,rfl⟩
    refine bm false r rfl rfl rfl (fun g w' hd=>Eq.trans (show (g 9).v=.bool (decide (a2.at_<0)) from (hd 9 rfl).1) (congrArg Value.bool h13)) (fun fr1 g w' hb' hd r'=>?_) ?_
    · exact av r' (v:=(I a1.region)) (hd 13 rfl).1 ((hP.below (dr hb')).cell (i:=1) rfl) to3 rfl ⟨Below.refl _ _,rfl⟩
    refine bm false r rfl rfl rfl (fun g w' hd=>Eq.trans (show (g 9).v=.bool (decide (a2.at_<0)) from (hd 9 rfl).1) (congrArg Value.bool h13)) (fun fr1 g w' hb' hd r'=>?_) ?_
    · exact aJ r' (args:=[(zp a0g.mb),(I a1.region)]) (lc (hd 12 rfl).1 (lc (hd 14 rfl).1 l0)) cl93 ((ll _ a0 ((hP.below (dr hb')).mem (i:=0) rfl) a1.region hx15).mono (by rintro _ w2 ⟨rfl,hb2⟩; exact ⟨_,rfl,hb2,rfl⟩))
    refine bm false r rfl rfl rfl (fun g w' hd=>Eq.trans (show (g 9).v=.bool (decide (a2.at_<0)) from (hd 9 rfl).1) (congrArg Value.bool h13)) (fun fr1 g w' hb' hd r'=>?_) ?_
    · exact bc r' (u:=(I a2.at_)) (u':=(I x15)) (v:=(.bool (decide (a2.at_≥x15)))) (hd 11 rfl).1 (hd 15 rfl).1 rfl rfl ⟨Below.refl _ _,rfl⟩
    refine fc r (fun fr1 g w' hb' hd r'=>aw r' (b:=false) (v:=(.bool (decide (a2.at_≥x15)))) (Eq.trans (show (g 9).v=.bool (decide (a2.at_<0)) from (hd 9 rfl).1) (congrArg Value.bool h13)) (hd 16 rfl).1 bz) ?_;refine fc r (fun fr1 g w' hb' hd r'=>ay r' (hd 17 rfl).1 bz) ?_
    refine bm false r rfl rfl rfl (fun g w' hd=>Eq.trans (show (g 18).v=.bool (decide (a2.at_≥x15)) from (hd 18 rfl).1) (congrArg Value.bool h16)) (fun fr1 g w' hb' hd r'=>?_) ?_
    · exact ax r' (b:=b5) (o:=0) (k:=0) rfl iZ ⟨Below.refl _ _,rfl⟩
    refine bm false r rfl rfl rfl (fun g w' hd=>Eq.trans (show (g 18).v=.bool (decide (a2.at_≥x15)) from (hd 18 rfl).1) (congrArg Value.bool h16)) (fun fr1 g w' hb' hd r'=>?_) ?_
    · exact av r' (v:=(I a2.op)) (hd 19 rfl).1 ((hP.below (dr hb')).cell (i:=2) rfl) to3 rfl ⟨Below.refl _ _,rfl⟩
    refine bm false r rfl rfl rfl (fun g w' hd=>Eq.trans (show (g 18).v=.bool (decide (a2.at_≥x15)) from (hd 18 rfl).1) (congrArg Value.bool h16)) (fun fr1 g w' hb' hd r'=>?_) ?_
    · exact bc r' (u:=(I a2.op)) (u':=(I 0)) (v:=(.bool (decide (a2.op<0)))) (hd 20 rfl).1 rfl rfl rfl ⟨Below.refl _ _,rfl⟩
    refine fc r (fun fr1 g w' hb' hd r'=>aw r' (b:=false) (v:=(.bool (decide (a2.op<0)))) (Eq.trans (show (g 18).v=.bool (decide (a2.at_≥x15)) from (hd 18 rfl).1) (congrArg Value.bool h16)) (hd 21 rfl).1 bz) ?_;refine fc r (fun fr1 g w' hb' hd r'=>ay r' (hd 22 rfl).1 bz) ?_
    refine br false (.bool true) r rfl rfl rfl (fun g w' hd=>Eq.trans (show (g 23).v=.bool (decide (a2.op<0)) from (hd 23 rfl).1) (congrArg Value.bool h18)) (by simp [aI]) (fun _ _=>⟨Below.refl _ _,rfl⟩) ?_;refine br false (.bool true) r rfl rfl rfl (fun g w' hd=>Eq.trans (show (g 23).v=.bool (decide (a2.op<0)) from (hd 23 rfl).1) (congrArg Value.bool h18)) (by simp [aI]) (fun _ _=>⟨Below.refl _ _,rfl⟩) ?_
    refine br false (.bool true) r rfl rfl rfl (fun g w' hd=>Eq.trans (show (g 23).v=.bool (decide (a2.op<0)) from (hd 23 rfl).1) (congrArg Value.bool h18)) (by simp [aI]) (fun _ _=>⟨Below.refl _ _,rfl⟩) ?_;refine fc r (fun fr1 g w' hb' hd r'=>aw r' (b:=true) (v:=(.bool true)) (Eq.trans (show (g 23).v=.bool (decide (a2.op<0)) from (hd 23 rfl).1) (congrArg Value.bool h18)) rfl bz) ?_
    exact cc
   intro fr gg w19 hb hΦ hap r;have r:=r.congr (sc ((hΦ 27 rfl).1) (sc ((hΦ 26 rfl).1) (sc ((hΦ 25 rfl).1) (sc ((hΦ 24 rfl).1) (sc ((hΦ 23 rfl).1) (sc ((hΦ 22 rfl).1) (sc ((hΦ 21 rfl).1) (sc ((hΦ 20 rfl).1) (sc ((hΦ 19 rfl).1) (sc ((hΦ 18 rfl).1) (sc ((hΦ 17 rfl).1) (sc ((hΦ 16 rfl).1) (sc ((hΦ 15 rfl).1) (sc ((hΦ 14 rfl).1) (sc ((hΦ 13 rfl).1) (sc ((hΦ 12 rfl).1) (sc ((hΦ 11 rfl).1) (sc ((hΦ 10 rfl).1) (sc ((hΦ 9 rfl).1) (sc ((hΦ 8 rfl).1) (sc ((hΦ 7 rfl).1) (sc ((hΦ 6 rfl).1) (sc ((hΦ 5 rfl).1) (sc ((hΦ 4 rfl).1) (sc ((hΦ 3 rfl).1) (sc ((hΦ 2 rfl).1) (sc ((hΦ 1 rfl).1) (sc ((hΦ 0 rfl).1) rfl))))))))))))))))))))))))))));have hP:=hP.below hb;exact nxy9 true () _ _ _ hD r (kO (kO aN)) (hP.pick [0,1,2] rfl rfl)
  have hD:=(aB h18).symm.trans hD;refine dL [.val (zp a0g.mb),.val (.agg (capC a1).toArray),.val (.bool x10),.val (.bool (!x10)),.val (.bool (!x10)),.val (.pointer (some ⟨b5,1,none⟩)),.val (I a2.at_),.val (.bool (decide (a2.at_<0))),.val (.bool (decide (a2.at_<0))),.val (.bool (decide (a2.at_<0))),.val (.pointer (some ⟨b5,1,none⟩)),.val (I a2.at_),.val (zp a0g.mb),.val (zp b1),.val (I a1.region),.val (I x15),.val (.bool (decide (a2.at_≥x15))),.val (.bool (decide (a2.at_≥x15))),.val (.bool (decide (a2.at_≥x15))),.val (zp b5),.val (I a2.op),.val (.bool (decide (a2.op<0))),.val (.bool (decide (a2.op<0))),.val (.bool (decide (a2.op<0))),.val (zp b5),.val (I a2.op),.val (.bool (decide (a2.op > 3))),.val (.bool (decide (a2.op > 3)))] mixed r kz ?_ ?_
  ·
   refine fc r (fun fr1 g w' hb' hd r'=>ay r' rfl bz) ?_;refine fc r (fun fr1 g w' hb' hd r'=>aS r' (cs:=(capC a1)) (n:=2) rfl ((hP.below (dr hb')).cell (i:=1) rfl) ta68 rfl bz) ?_
   refine fc r (fun fr1 g w' hb' hd r'=>aJ r' (args:=[(zp a0g.mb),(.agg (capC a1).toArray)]) (lc (hd 0 rfl).1 (lc (hd 1 rfl).1 l0)) kI ((jg _ a0 ((hP.below (dr hb')).mem (i:=0) rfl) a1 hx10).mono (by rintro _ w2 ⟨rfl,hb2⟩; exact ⟨_,rfl,hb2,rfl⟩))) ?_;refine fc r (fun fr1 g w' hb' hd r'=>y_un r' (u:=(.bool x10)) (v:=(.bool (!x10))) (hd 2 rfl).1 rfl bz) ?_
   refine fc r (fun fr1 g w' hb' hd r'=>ay r' (hd 3 rfl).1 bz) ?_;refine bm false r rfl rfl rfl (fun g w' hd=>Eq.trans (show (g 4).v=.bool (!x10) from (hd 4 rfl).1) (congrArg Value.bool h11)) (fun fr1 g w' hb' hd r'=>?_) ?_
   · exact ax r' (b:=b5) (o:=0) (k:=1) rfl gx ⟨Below.refl _ _,rfl⟩
   refine bm false r rfl rfl rfl (fun g w' hd=>Eq.trans (show (g 4).v=.bool (!x10) from (hd 4 rfl).1) (congrArg Value.bool h11)) (fun fr1 g w' hb' hd r'=>?_) ?_
   · exact av r' (v:=(I a2.at_)) (hd 5 rfl).1 ((hP.below (dr hb')).cell (i:=2) rfl) to3 rfl ⟨Below.refl _ _,rfl⟩
   refine bm false r rfl rfl rfl (fun g w' hd=>Eq.trans (show (g 4).v=.bool (!x10) from (hd 4 rfl).1) (congrArg Value.bool h11)) (fun fr1 g w' hb' hd r'=>?_) ?_
   · exact bc r' (u:=(I a2.at_)) (u':=(I 0)) (v:=(.bool (decide (a2.at_<0)))) (hd 6 rfl).1 rfl rfl rfl ⟨Below.refl _ _,rfl⟩
   refine fc r (fun fr1 g w' hb' hd r'=>aw r' (b:=false) (v:=(.bool (decide (a2.at_<0)))) (Eq.trans (show (g 4).v=.bool (!x10) from (hd 4 rfl).1) (congrArg Value.bool h11)) (hd 7 rfl).1 bz) ?_;refine fc r (fun fr1 g w' hb' hd r'=>ay r' (hd 8 rfl).1 bz) ?_
   refine bm false r rfl rfl rfl (fun g w' hd=>Eq.trans (show (g 9).v=.bool (decide (a2.at_<0)) from (hd 9 rfl).1) (congrArg Value.bool h13)) (fun fr1 g w' hb' hd r'=>?_) ?_
   · exact ax r' (b:=b5) (o:=0) (k:=1) rfl gx ⟨Below.refl _ _,rfl⟩
   refine bm false r rfl rfl rfl (fun g w' hd=>Eq.trans (show (g 9).v=.bool (decide (a2.at_<0)) from (hd 9 rfl).1) (congrArg Value.bool h13)) (fun fr1 g w' hb' hd r'=>?_) ?_
   · exact av r' (v:=(I a2.at_)) (hd 10 rfl).1 ((hP.below (dr hb')).cell (i:=2) rfl) to3 rfl ⟨Below.refl _ _,rfl⟩
   refine bm false r rfl rfl rfl (fun g w' hd=>Eq.trans (show (g 9).v=.bool (decide (a2.at_<0)) from (hd 9 rfl).1) (congrArg Value.bool h13)) (fun fr1 g w' hb' hd r'=>?_) ?_
   · exact ay r' (v:=(zp a0g.mb)) rfl ⟨Below.refl _ _,rfl⟩
   refine bm false r rfl rfl rfl (fun g w' hd=>Eq.trans (show (g 9).v=.bool (decide (a2.at_<0)) from (hd 9 rfl).1) (congrArg Value.bool h13)) (fun fr1 g w' hb' hd r'=>?_) ?_
   · exact ax r' (b:=b1) (o:=0) (k:=0) rfl km ⟨Below.refl _ _,rfl⟩
   refine bm false r rfl rfl rfl (fun g w' hd=>Eq.trans (show (g 9).v=.bool (decide (a2.at_<0)) from (hd 9 rfl).1) (congrArg Value.bool h13)) (fun fr1 g w' hb' hd r'=>?_) ?_
   · exact av r' (v:=(I a1.region)) (hd 13 rfl).1 ((hP.below (dr hb')).cell (i:=1) rfl) to3 rfl ⟨Below.refl _ _,rfl⟩
   refine bm false r rfl rfl rfl (fun g w' hd=>Eq.trans (show (g 9).v=.bool (decide (a2.at_<0)) from (hd 9 rfl).1) (congrArg Value.bool h13)) (fun fr1 g w' hb' hd r'=>?_) ?_
   · exact aJ r' (args:=[(zp a0g.mb),(I a1.region)]) (lc (hd 12 rfl).1 (lc (hd 14 rfl).1 l0)) cl93 ((ll _ a0 ((hP.below (dr hb')).mem (i:=0) rfl) a1.region hx15).mono (by rintro _ w2 ⟨rfl,hb2⟩; exact ⟨_,rfl,hb2,rfl⟩))
   refine bm false r rfl rfl rfl (fun g w' hd=>Eq.trans (show (g 9).v=.bool (decide (a2.at_<0)) from (hd 9 rfl).1) (congrArg Value.bool h13)) (fun fr1 g w' hb' hd r'=>?_) ?_
   · exact bc r' (u:=(I a2.at_)) (u':=(I x15)) (v:=(.bool (decide (a2.at_≥x15)))) (hd 11 rfl).1 (hd 15 rfl).1 rfl rfl ⟨Below.refl _ _,rfl⟩
   refine fc r (fun fr1 g w' hb' hd r'=>aw r' (b:=false) (v:=(.bool (decide (a2.at_≥x15)))) (Eq.trans (show (g 9).v=.bool (decide (a2.at_<0)) from (hd 9 rfl).1) (congrArg Value.bool h13)) (hd 16 rfl).1 bz) ?_;refine fc r (fun fr1 g w' hb' hd r'=>ay r' (hd 17 rfl).1 bz) ?_
   refine bm false r rfl rfl rfl (fun g w' hd=>Eq.trans (show (g 18).v=.bool (decide (a2.at_≥x15)) from (hd 18 rfl).1) (congrArg Value.bool h16)) (fun fr1 g w' hb' hd r'=>?_) ?_
   · exact ax r' (b:=b5) (o:=0) (k:=0) rfl iZ ⟨Below.refl _ _,rfl⟩
   refine bm false r rfl rfl rfl (fun g w' hd=>Eq.trans (show (g 18).v=.bool (decide (a2.at_≥x15)) from (hd 18 rfl).1) (congrArg Value.bool h16)) (fun fr1 g w' hb' hd r'=>?_) ?_
   · exact av r' (v:=(I a2.op)) (hd 19 rfl).1 ((hP.below (dr hb')).cell (i:=2) rfl) to3 rfl ⟨Below.refl _ _,rfl⟩
   refine bm false r rfl rfl rfl (fun g w' hd=>Eq.trans (show (g 18).v=.bool (decide (a2.at_≥x15)) from (hd 18 rfl).1) (congrArg Value.bool h16)) (fun fr1 g w' hb' hd r'=>?_) ?_
   · exact bc r' (u:=(I a2.op)) (u':=(I 0)) (v:=(.bool (decide (a2.op<0)))) (hd 20 rfl).1 rfl rfl rfl ⟨Below.refl _ _,rfl⟩
   refine fc r (fun fr1 g w' hb' hd r'=>aw r' (b:=false) (v:=(.bool (decide (a2.op<0)))) (Eq.trans (show (g 18).v=.bool (decide (a2.at_≥x15)) from (hd 18 rfl).1) (congrArg Value.bool h16)) (hd 21 rfl).1 bz) ?_;refine fc r (fun fr1 g w' hb' hd r'=>ay r' (hd 22 rfl).1 bz) ?_
   refine bm false r rfl rfl rfl (fun g w' hd=>Eq.trans (show (g 23).v=.bool (decide (a2.op<0)) from (hd 23 rfl).1) (congrArg Value.bool h18)) (fun fr1 g w' hb' hd r'=>?_) ?_
   · exact ax r' (b:=b5) (o:=0) (k:=0) rfl iZ ⟨Below.refl _ _,rfl⟩
   refine bm false r rfl rfl rfl (fun g w' hd=>Eq.trans (show (g 23).v=.bool (decide (a2.op<0)) from (hd 23 rfl).1) (congrArg Value.bool h18)) (fun fr1 g w' hb' hd r'=>?_) ?_
   · exact av r' (v:=(I a2.op)) (hd 24 rfl).1 ((hP.below (dr hb')).cell (i:=2) rfl) to3 rfl ⟨Below.refl _ _,rfl⟩
   refine bm false r rfl rfl rfl (fun g w' hd=>Eq.trans (show (g 23).v=.bool (decide (a2.op<0)) from (hd 23 rfl).1) (congrArg Value.bool h18)) (fun fr1 g w' hb' hd r'=>?_) ?_
   · exact bc r' (u:=(I a2.op)) (u':=(I 3)) (v:=(.bool (decide (a2.op > 3)))) (hd 25 rfl).1 rfl rfl rfl ⟨Below.refl _ _,rfl⟩
   refine fc r (fun fr1 g w' hb' hd r'=>aw r' (b:=false) (v:=(.bool (decide (a2.op > 3)))) (Eq.trans (show (g 23).v=.bool (decide (a2.op<0)) from (hd 23 rfl).1) (congrArg Value.bool h18)) (hd 26 rfl).1 bz) ?_;exact cc
  intro fr gg w20 hb hΦ hap r;have r:=r.congr (sc ((hΦ 27 rfl).1) (sc ((hΦ 26 rfl).1) (sc ((hΦ 25 rfl).1) (sc ((hΦ 24 rfl).1) (sc ((hΦ 23 rfl).1) (sc ((hΦ 22 rfl).1) (sc ((hΦ 21 rfl).1) (sc ((hΦ 20 rfl).1) (sc ((hΦ 19 rfl).1) (sc ((hΦ 18 rfl).1) (sc ((hΦ 17 rfl).1) (sc ((hΦ 16 rfl).1) (sc ((hΦ 15 rfl).1) (sc ((hΦ 14 rfl).1) (sc ((hΦ 13 rfl).1) (sc ((hΦ 12 rfl).1) (sc ((hΦ 11 rfl).1) (sc ((hΦ 10 rfl).1) (sc ((hΦ 9 rfl).1) (sc ((hΦ 8 rfl).1) (sc ((hΦ 7 rfl).1) (sc ((hΦ 6 rfl).1) (sc ((hΦ 5 rfl).1) (sc ((hΦ 4 rfl).1) (sc ((hΦ 3 rfl).1) (sc ((hΦ 2 rfl).1) (sc ((hΦ 1 rfl).1) (sc ((hΦ 0 rfl).1) rfl))))))))))))))))))))))))))));have hP:=hP.below hb;exact nxy9 (decide (a2.op > 3)) () _ _ _ hD r (kO (kO aN)) (hP.pick [0,1,2] rfl rfl)
 rintro x21 γ22 fr w23 g r hP hD;have hP:Post (fun b=>b∈(memK a0g a0).own) [memK a0g a0,aa b1 ((capC a1)).toArray 68,aa b5 ((ba a2)).toArray 38] w0 w23:=hP
 refine wp_cond_split (t:=x21) (r.ev rfl) (fun h24=>?_) (fun h24=>?_)
 ·
  have hD:=(az h24).symm.trans hD;refine wsr (kA (U 0) r rfl rfl fun r=>kA (.bool false) r rfl rfl fun r=>wn (wp_ret ?_));have hv:(0,false,a0)=res:=Option.some.inj hD
  try dsimp only [Exit.then,Exit.inBlock]
  refine fB (fn:=Tryz.f86) r (t:=6) (t':=7) rfl (v:=(U 0)) (v':=(.bool false)) rfl rfl ?_;subst hv;exact ⟨rfl,(hP.pick [0] rfl rfl).done (cP rfl dl)⟩
 have hD:=(aB h24).symm.trans hD;refine wp_skip (wp_seq ?_);obtain ⟨x25,hx25,hD⟩:=aY hD;obtain ⟨x26,hx26,hD⟩:=aY hD;refine dL [.val (zp a0g.mb),.val (zp a0g.mb),.val (zp a0g.mb),.val (.slice (some ⟨a0g.lb,0,none⟩) 1 a0g.cap),.val (zp b1),.val (I a1.region),.val (.pointer (some ⟨a0g.lb,0+a1.region.toNat * 1,none⟩)),.val (zp a0g.rb),.val (zp a0g.rb),.val (zp a0g.rb),.val (.slice (some ⟨a0g.wb,0,none⟩) a0.ws.length a0.ws.length),.val (.pointer (some ⟨b5,1,none⟩)),.val (I a2.at_),.val (.pointer (some ⟨a0g.wb,0+a2.at_.toNat * 1,none⟩)),.val (.pointer (some ⟨a0g.wb,0+a2.at_.toNat * 1,none⟩))] mixed r kz ?_ ?_
 ·
  refine fc r (fun fr1 g w' hb' hd r'=>ay r' rfl bz) ?_;refine fc r (fun fr1 g w' hb' hd r'=>cW r' (hd 0 rfl).1 bz) ?_
  refine fc r (fun fr1 g w' hb' hd r'=>ax r' (b:=a0g.mb) (o:=0) (hd 1 rfl).1 iR bz) ?_;refine fc r (fun fr1 g w' hb' hd r'=>av r' (hd 2 rfl).1 ((hP.below (dr hb')).mem (i:=0) rfl).hdr kn rfl bz) ?_
  refine fc r (fun fr1 g w' hb' hd r'=>ax r' (b:=b1) (o:=0) rfl km bz) ?_;refine fc r (fun fr1 g w' hb' hd r'=>av r' (hd 4 rfl).1 ((hP.below (dr hb')).cell (i:=1) rfl) to3 rfl bz) ?_
  refine fc r (fun fr1 g w' hb' hd r'=>iB r' qV (hd 3 rfl).1 (hd 5 rfl).1 (by have h0:=(fw hx25); omega) (by have h0:=(fw hx25); omega) bz) ?_;refine fc r (fun fr1 g w' hb' hd r'=>pB r' ((hP.below (dr hb')).mem (i:=0) rfl) (hd 6 rfl).1 (fw hx25) qA bz) ?_
  refine fc r (fun fr1 g w' hb' hd r'=>cW r' (hd 7 rfl).1 bz) ?_;refine fc r (fun fr1 g w' hb' hd r'=>ax r' (b:=a0g.rb) (o:=0) (hd 8 rfl).1 qe bz) ?_
  refine fc r (fun fr1 g w' hb' hd r'=>av r' (hd 9 rfl).1 ((hP.below (dr hb')).mem (i:=0) rfl).reg to81 rfl bz) ?_;refine fc r (fun fr1 g w' hb' hd r'=>ax r' (b:=b5) (o:=0) rfl gx bz) ?_
  refine fc r (fun fr1 g w' hb' hd r'=>av r' (hd 11 rfl).1 ((hP.below (dr hb')).cell (i:=2) rfl) to3 rfl bz) ?_;refine fc r (fun fr1 g w' hb' hd r'=>iB r' sl81 (hd 10 rfl).1 (hd 12 rfl).1 (fC hx26).1 (fC hx26).2.1 bz) ?_
  refine fc r (fun fr1 g w' hb' hd r'=>cf r' (hd 13 rfl).1 bz) ?_;exact cc
 intro fr gg w27 hb hΦ hap r;have r:=r.congr (sc ((hΦ 14 rfl).1) (sc ((hΦ 13 rfl).1) (sc ((hΦ 12 rfl).1) (sc ((hΦ 11 rfl).1) (sc ((hΦ 10 rfl).1) (sc ((hΦ 9 rfl).1) (sc ((hΦ 8 rfl).1) (sc ((hΦ 7 rfl).1) (sc ((hΦ 6 rfl).1) (sc ((hΦ 5 rfl).1) (sc ((hΦ 4 rfl).1) (sc ((hΦ 3 rfl).1) (sc ((hΦ 2 rfl).1) (sc ((hΦ 1 rfl).1) (sc ((hΦ 0 rfl).1) rfl)))))))))))))));have hP:=hP.below hb;refine wsr (kM (.pointer (some ⟨a0g.wb,0+a2.at_.toNat * 1,none⟩)) r rfl rfl fun r=>ac (.pointer (some ⟨a0g.wb,0+a2.at_.toNat * 1,none⟩)) r (fun R=>cW r rfl) rfl fun fr r=>ac (U x26) r (fun R=>pg r (hP.mem (i:=0) rfl) hx26 rfl to36) rfl fun fr r=>kA (U x26) r rfl rfl fun r=>wn (wp_seq (wp_block (wsr (kF 0 r rfl iZ rfl fun r=>kL (I a2.op) r rfl (hP.cell (i:=2) rfl) to3 rfl rfl fun r=>kB r rfl rfl rfl rfl rfl fun r=>kA (.bool (a2.op==1)) r rfl rfl fun r=>wn ?_)))));refine cL (N:=96) (Y:=Mem) (G:=Unit) (fun x γ=>[(0,(zp a0g.mb)),(1,(.agg (capC a1).toArray)),(2,(.agg (ba a2).toArray)),(4,(zp b1)),(5,(zp b5)),(6,(U 0)),(7,(.bool false)),(37,(.bool x21)),(8,(.pointer (some ⟨a0g.wb,0+a2.at_.toNat * 1,none⟩))),(9,(U x26)),(55,(.bool (a2.op==1)))]) (fun x γ w=>Post (fun b=>b∈(memK a0g a0).own) [memK a0g x,aa b1 ((capC a1)).toArray 68,aa b5 ((ba a2)).toArray 38] w0 w) hD ?_ ?_
 ·
  rintro y28 RPy28 nxy28 hD;refine wp_cond_split (t:=(a2.op==1)) (r.ev rfl) (fun h29=>?_) (fun h29=>?_)
  ·
   have hD:=(az h29).symm.trans hD;refine wp_region_lit (kM (.pointer (some ⟨a0g.wb,0+a2.at_.toNat * 1,none⟩)) r rfl rfl fun r=>kF 0 r rfl ql rfl fun r=>kL (U a2.a) r rfl (hP.cell (i:=2) rfl) to36 rfl rfl fun r=>ac (.pointer (some ⟨a0g.wb,0+a2.at_.toNat * 1,none⟩)) r (fun R=>cW r rfl) rfl fun fr r=>?_);refine bh (.cells ((a0.ws.set a2.at_.toNat a2.a).flatMap u64).toArray 36 (0,0)) r (fun R=>aT r (o:=0+a2.at_.toNat * 1) (v:=(U a2.a)) rfl rfl (hP.mem (i:=0) rfl).wds ts36 (pX hx26) rfl oZ) rfl fun fr w30 u31 r=>?_
   have hP:Post (fun b=>b∈(memK a0g a0).own) [memK a0g (Mem.put a0 a2.at_ a2.a),aa b1 ((capC a1)).toArray 68,aa b5 ((ba a2)).toArray 38] w0 w30:=hP.memUpd (i:=0) rfl (by simp [MG.bs]) u31 ((hP.mem (i:=0) rfl).setWord (by simp) u31)
   refine wn ?_;exact nxy28 (Mem.put a0 a2.at_ a2.a) () _ _ _ hD r (kO (kO (aq rfl (aq rfl (aq rfl aN))))) (hP.pick [0,1,2] rfl rfl)
  have hD:=(aB h29).symm.trans hD;refine wp_seq ?_;refine cL (N:=96) (Y:=Bool) (G:=Unit) (fun x γ=>[(0,(zp a0g.mb)),(1,(.agg (capC a1).toArray)),(2,(.agg (ba a2).toArray)),(4,(zp b1)),(5,(zp b5)),(6,(U 0)),(7,(.bool false)),(37,(.bool x21)),(8,(.pointer (some ⟨a0g.wb,0+a2.at_.toNat * 1,none⟩))),(9,(U x26)),(55,(.bool (a2.op==1))),(63,(.bool x))]) (fun x γ w=>Post (fun b=>b∈(memK a0g a0).own) [memK a0g a0,aa b1 ((capC a1)).toArray 68,aa b5 ((ba a2)).toArray 38] w0 w) hD ?_ ?_
  ·
   rintro y32 RPy32 nxy32 hD;refine wp_region_lit (kF 0 r rfl iZ rfl fun r=>kL (I a2.op) r rfl (hP.cell (i:=2) rfl) to3 rfl rfl fun r=>kB r rfl rfl rfl rfl rfl fun r=>kM (.bool (a2.op==2)) r rfl rfl fun r=>?_);refine bA (a2.op==2) (fun h33=>?_) (fun h33=>?_)
   ·
    have hD:=(az h33).symm.trans hD;refine s1 r h33 (kM (U x26) r rfl rfl fun r=>s1 r h33 (kF 0 r rfl ql rfl fun r=>s1 r h33 (kL (U a2.a) r rfl (hP.cell (i:=2) rfl) to36 rfl rfl fun r=>s1 r h33 (kB r rfl rfl rfl rfl rfl fun r=>ac (.bool (x26==a2.a)) r (fun R=>aw r (b:=true) (congrArg Value.bool h33) rfl) rfl fun fr r=>kA (.bool (x26==a2.a)) r rfl rfl fun r=>wn ?_))));exact nxy32 (x26==a2.a) () _ _ _ hD r (kO (kO (kO aN))) (hP.pick [0,1,2] rfl rfl)
   have hD:=(aB h33).symm.trans hD;refine s0 r h33 fun fr r=>s0 r h33 fun fr r=>s0 r h33 fun fr r=>s0 r h33 fun fr r=>ac (.bool false) r (fun R=>aw r (b:=false) (congrArg Value.bool h33) rfl) rfl fun fr r=>kA (.bool false) r rfl rfl fun r=>wn ?_;exact nxy32 false () _ _ _ hD r (kO (kO (kO aN))) (hP.pick [0,1,2] rfl rfl)
  rintro x34 γ35 fr w36 g r hP hD;have hP:Post (fun b=>b∈(memK a0g a0).own) [memK a0g a0,aa b1 ((capC a1)).toArray 68,aa b5 ((ba a2)).toArray 38] w0 w36:=hP
  refine cL (N:=96) (Y:=Mem) (G:=Unit) (fun x γ=>[(0,(zp a0g.mb)),(1,(.agg (capC a1).toArray)),(2,(.agg (ba a2).toArray)),(4,(zp b1)),(5,(zp b5)),(6,(U 0)),(7,(.bool false)),(37,(.bool x21)),(8,(.pointer (some ⟨a0g.wb,0+a2.at_.toNat * 1,none⟩))),(9,(U x26)),(55,(.bool (a2.op==1))),(63,(.bool x34))]) (fun x γ w=>Post (fun b=>b∈(memK a0g a0).own) [memK a0g x,aa b1 ((capC a1)).toArray 68,aa b5 ((ba a2)).toArray 38] w0 w) hD ?_ ?_
  ·
   rintro y37 RPy37 nxy37 hD;refine wp_cond_split (t:=x34) (r.ev rfl) (fun h38=>?_) (fun h38=>?_)
   ·
    have hD:=(az h38).symm.trans hD;refine wp_region_lit (kM (.pointer (some ⟨a0g.wb,0+a2.at_.toNat * 1,none⟩)) r rfl rfl fun r=>kF 0 r rfl CW rfl fun r=>kL (U a2.b) r rfl (hP.cell (i:=2) rfl) to36 rfl rfl fun r=>ac (.pointer (some ⟨a0g.wb,0+a2.at_.toNat * 1,none⟩)) r (fun R=>cW r rfl) rfl fun fr r=>?_);refine bh (.cells ((a0.ws.set a2.at_.toNat a2.b).flatMap u64).toArray 36 (0,0)) r (fun R=>aT r (o:=0+a2.at_.toNat * 1) (v:=(U a2.b)) rfl rfl (hP.mem (i:=0) rfl).wds ts36 (pX hx26) rfl oZ) rfl fun fr w39 u40 r=>?_
    have hP:Post (fun b=>b∈(memK a0g a0).own) [memK a0g (Mem.put a0 a2.at_ a2.b),aa b1 ((capC a1)).toArray 68,aa b5 ((ba a2)).toArray 38] w0 w39:=hP.memUpd (i:=0) rfl (by simp [MG.bs]) u40 ((hP.mem (i:=0) rfl).setWord (by simp) u40)
    refine wn ?_;exact nxy37 (Mem.put a0 a2.at_ a2.b) () _ _ _ hD r (kO (kO (kO aN))) (hP.pick [0,1,2] rfl rfl)
   have hD:=(aB h38).symm.trans hD;refine wsr (kF 0 r rfl iZ rfl fun r=>kL (I a2.op) r rfl (hP.cell (i:=2) rfl) to3 rfl rfl fun r=>kB r rfl rfl rfl rfl rfl fun r=>kA (.bool (a2.op==3)) r rfl rfl fun r=>wn ?_);refine cL (N:=96) (Y:=Mem) (G:=Unit) (fun x γ=>[(0,(zp a0g.mb)),(1,(.agg (capC a1).toArray)),(2,(.agg (ba a2).toArray)),(4,(zp b1)),(5,(zp b5)),(6,(U 0)),(7,(.bool false)),(37,(.bool x21)),(8,(.pointer (some ⟨a0g.wb,0+a2.at_.toNat * 1,none⟩))),(9,(U x26)),(55,(.bool (a2.op==1))),(63,(.bool x34)),(77,(.bool (a2.op==3)))]) (fun x γ w=>Post (fun b=>b∈(memK a0g a0).own) [memK a0g x,aa b1 ((capC a1)).toArray 68,aa b5 ((ba a2)).toArray 38] w0 w) hD ?_ ?_
   ·
    rintro y41 RPy41 nxy41 hD;refine wp_cond_split (t:=(a2.op==3)) (r.ev rfl) (fun h42=>?_) (fun h42=>?_)
    ·
     have hD:=(az h42).symm.trans hD;refine bI 7 [.val (.pointer (some ⟨a0g.wb,0+a2.at_.toNat * 1,none⟩)),.val (.pointer (some ⟨a0g.wb,0+a2.at_.toNat * 1,none⟩)),.val (U x26),.val (.pointer (some ⟨b5,2,none⟩)),.val (U a2.a),.val (U (V (x26+a2.a))),.val (.pointer (some ⟨a0g.wb,0+a2.at_.toNat * 1,none⟩))] mixed r kz (kV (kV (kV (kV (kV (kV (kV bH))))))) ?_ ?_
     ·
      refine ec r (fun _ u _ b d s=>ay s rfl bz) (ec r (fun _ u _ b d s=>cW s d.1 bz) (ec r (fun _ u _ b d s=>pg s ((hP.below (dr b)).mem (i:=0) rfl) hx26 d.1 to36 bz) (ec r (fun _ u _ b d s=>ax s (b:=b5) (o:=0) rfl ql bz) (ec r (fun _ u _ b d s=>av s d.1 ((hP.below (dr b)).cell (i:=2) rfl) to36 rfl bz) (ec r (fun _ u _ b d s=>bc s d.1 d.2.1 rfl rfl bz) (ec r (fun _ u _ b d s=>cW s d.1 bz) ?_))))));exact bJ
     intro fr u w43 hb hΦ hne r;have r:=r.congr (sc (hΦ 6 ke) (sc (hΦ 5 ke) (sc (hΦ 4 ke) (sc (hΦ 3 ke) (sc (hΦ 2 ke) (sc (hΦ 1 ke) (sc (hΦ 0 ke) rfl)))))));have hP:=hP.below hb;refine bh (.cells ((a0.ws.set a2.at_.toNat (V (x26+a2.a))).flatMap u64).toArray 36 (0,0)) r (fun R=>aT r (o:=0+a2.at_.toNat * 1) (v:=(U (V (x26+a2.a)))) rfl rfl (hP.mem (i:=0) rfl).wds ts36 (pX hx26) rfl oZ) rfl fun fr w44 u45 r=>?_;have hP:Post (fun b=>b∈(memK a0g a0).own) [memK a0g (Mem.put a0 a2.at_ (V (x26+a2.a))),aa b1 ((capC a1)).toArray 68,aa b5 ((ba a2)).toArray 38] w0 w44:=hP.memUpd (i:=0) rfl (by simp [MG.bs]) u45 ((hP.mem (i:=0) rfl).setWord (by simp) u45)
     refine wn ?_;exact nxy41 (Mem.put a0 a2.at_ (V (x26+a2.a))) () _ _ _ hD r (kO (kO (kO (aq rfl aN)))) (hP.pick [0,1,2] rfl rfl)
    have hD:=(aB h42).symm.trans hD;refine wp_skip ?_;exact nxy41 a0 () _ _ _ hD r (kO (kO (kO (aq rfl aN)))) (hP.pick [0,1,2] rfl rfl)
   rintro x46 γ47 fr w48 g r hP hD;have hP:Post (fun b=>b∈(memK a0g a0).own) [memK a0g x46,aa b1 ((capC a1)).toArray 68,aa b5 ((ba a2)).toArray 38] w0 w48:=hP
   exact nxy37 x46 () _ _ _ hD r (kO (kO (kO aN))) (hP.pick [0,1,2] rfl rfl)
  rintro x49 γ50 fr w51 g r hP hD;have hP:Post (fun b=>b∈(memK a0g a0).own) [memK a0g x49,aa b1 ((capC a1)).toArray 68,aa b5 ((ba a2)).toArray 38] w0 w51:=hP
  exact nxy28 x49 () _ _ _ hD r (kO (kO (aq rfl (aq rfl (aq rfl aN))))) (hP.pick [0,1,2] rfl rfl)
 rintro x52 γ53 fr w54 g r hP hD;have hP:Post (fun b=>b∈(memK a0g a0).own) [memK a0g x52,aa b1 ((capC a1)).toArray 68,aa b5 ((ba a2)).toArray 38] w0 w54:=hP
 refine wsr (kM (zp a0g.mb) r rfl rfl fun r=>ac (zp a0g.mb) r (fun R=>cW r rfl) rfl fun fr r=>ac _ r (fun R=>ax r (b:=a0g.mb) (o:=0) (k:=1) rfl uV) rfl fun fr r=>kL (I x52.cnt) r rfl (hP.mem (i:=0) rfl).hdr to3 rfl rfl fun r=>kB r rfl rfl rfl rfl rfl fun r=>ac (zp a0g.mb) r (fun R=>cW r rfl) rfl fun fr r=>ac _ r (fun R=>ax r (b:=a0g.mb) (o:=0) (k:=1) rfl uV) rfl fun fr r=>?_);refine bh (.cells #[.slice (some ⟨a0g.lb,0,none⟩) 1 a0g.cap,.int .i64 (W (x52.cnt+1))] 179 (0,0)) r (fun R=>aT r (o:=1) (v:=(I (W (x52.cnt+1)))) rfl rfl (hP.mem (i:=0) rfl).hdr ts3 (Nat.le_of_ble_eq_true rfl) rfl rfl) rfl fun fr w55 u56 r=>?_
 have hP:Post (fun b=>b∈(memK a0g a0).own) [memK a0g ({ x52 with cnt:=(W (x52.cnt+1)) }),aa b1 ((capC a1)).toArray 68,aa b5 ((ba a2)).toArray 38] w0 w55:=hP.memUpd (i:=0) rfl (by simp [MG.bs]) u56 ((hP.mem (i:=0) rfl).setCnt u56)
 refine wn (wsr (kM (U x26) r rfl rfl fun r=>kA (U x26) r rfl rfl fun r=>kA (.bool true) r rfl rfl fun r=>wn (wp_ret ?_)));have hv:(x26,true,({ x52 with cnt:=(W (x52.cnt+1)) }))=res:=Option.some.inj hD
 try dsimp only [Exit.then,Exit.inBlock]
 refine fB (fn:=Tryz.f86) r (t:=6) (t':=7) rfl (v:=(U x26)) (v':=(.bool true)) rfl rfl ?_;subst hv;exact ⟨rfl,(hP.pick [0] rfl rfl).done (cP rfl dl)⟩
def D.fO (fu:Nat) (a0:Mem) (a1:Int) (a2:Int):Option (Int):=(Option.bind (bif (decide (a2<0)) then (some true) else ((D.ik fu a0 a1).bind (fun (x3:Int)=>(some (decide (a2≥x3)))))) (fun (x5:Bool)=>(bif x5 then (some 0) else ((zeroI a1).bind (fun (x9:Unit)=>((getI a0.ws a2).bind (fun (x10:Int)=>(some x10))))))))
set_option maxRecDepth 20000 in
set_option maxHeartbeats 20000000 in
theorem li {fu:Nat} (w0:World) {a0g:MG} (a0:Mem) (a0h:MemAt a0g a0 w0) (a1:Int) (a2:Int) {res:Int} (hD:D.fO fu a0 a1 a2=some res) :
    Calls Tryz.prog 29 #[zp a0g.mb,.int .i64 a1,.int .i64 a2] w0 (bw (.int .u64 res) w0):=by
 refine enter Tryz.func29 rfl 29 rfl rfl fun fr r=>?_;have hP:Post No [] w0 w0:=Post.nil w0
 have hP:Post No [memR a0g a0] w0 w0:=hP.addRo dV a0h rfl a0h.lt;unfold D.fO at hD
 refine wsr (kA (U 0) r rfl rfl fun r=>wn (wp_seq (wp_seq ?_)));refine cL (N:=29) (Y:=Bool) (G:=Unit) (fun x γ=>[(0,(zp a0g.mb)),(1,(I a1)),(2,(I a2)),(6,(U 0)),(15,(.bool x))]) (fun x γ w=>Post No [memR a0g a0] w0 w) hD ?_ ?_
 ·
  rintro y1 RPy1 nxy1 hD;refine wp_region_lit (kM (I a2) r rfl rfl fun r=>kB r rfl rfl rfl rfl rfl fun r=>kM (.bool (decide (a2<0))) r rfl rfl fun r=>?_);refine bA (decide (a2<0)) (fun h2=>?_) (fun h2=>?_)
  ·
   have hD:=(az h2).symm.trans hD;refine s0 r h2 fun fr r=>s0 r h2 fun fr r=>s0 r h2 fun fr r=>s0 r h2 fun fr r=>s0 r h2 fun fr r=>ac (.bool true) r (fun R=>aw r (b:=true) (congrArg Value.bool h2) rfl) rfl fun fr r=>wn ?_;exact nxy1 true () _ _ _ hD r (kO (aq rfl aN)) (hP.pick [0] rfl rfl)
  have hD:=(aB h2).symm.trans hD;refine s1 r h2 (kM (I a2) r rfl rfl fun r=>s1 r h2 (kM (zp a0g.mb) r rfl rfl fun r=>s1 r h2 (kM (I a1) r rfl rfl fun r=>s1 r h2 ?_)));obtain ⟨x3,hx3,hD⟩:=aY hD
  refine kE r (ll w0 a0 (hP.memr (i:=0) rfl) a1 hx3) rfl cl93 rfl fun w4 hb r=>?_;have hP:=hP.below hb
  refine s1 r h2 (kB r rfl rfl rfl rfl rfl fun r=>ac (.bool (decide (a2≥x3))) r (fun R=>aw r (b:=false) (congrArg Value.bool h2) rfl) rfl fun fr r=>wn ?_);exact nxy1 (decide (a2≥x3)) () _ _ _ hD r (kO (aq rfl aN)) (hP.pick [0] rfl rfl)
 rintro x5 γ6 fr w7 g r hP hD;have hP:Post No [memR a0g a0] w0 w7:=hP;refine wp_cond_split (t:=x5) (r.ev rfl) (fun h8=>?_) (fun h8=>?_)
 ·
  have hD:=(az h8).symm.trans hD;refine wsr (kA (U 0) r rfl rfl fun r=>wn (wp_ret ?_));have hv:0=res:=Option.some.inj hD
  try dsimp only [Exit.then,Exit.inBlock]
  refine bg (fn:=Tryz.f29) r (t:=6) rfl (v:=(U 0)) rfl ?_;subst hv;exact ⟨rfl,hP.chg.below⟩
 have hD:=(aB h8).symm.trans hD;refine wp_skip (wsr (kM (zp a0g.mb) r rfl rfl fun r=>ac (zp a0g.mb) r (fun R=>cW r rfl) rfl fun fr r=>ac _ r (fun R=>ax r (b:=a0g.mb) (o:=0) (k:=0) rfl iR) rfl fun fr r=>kL (.slice (some ⟨a0g.lb,0,none⟩) 1 a0g.cap) r rfl (hP.memr (i:=0) rfl).hdr kn rfl rfl fun r=>kM (I a1) r rfl rfl fun r=>?_));obtain ⟨x9,hx9,hD⟩:=aY hD
 refine ac (.pointer (some ⟨a0g.lb,0+a1.toNat * 1,none⟩)) r (fun R=>iB r qV rfl rfl (by have h0:=(fw hx9); omega) (by have h0:=(fw hx9); omega)) rfl fun fr r=>ac (zp a0g.rb) r (fun R=>pB r (hP.memr (i:=0) rfl) rfl (fw hx9) qA) rfl fun fr r=>ac (zp a0g.rb) r (fun R=>cW r rfl) rfl fun fr r=>ac _ r (fun R=>ax r (b:=a0g.rb) (o:=0) (k:=0) rfl qe) rfl fun fr r=>kL (.slice (some ⟨a0g.wb,0,none⟩) a0.ws.length a0.ws.length) r rfl (hP.memr (i:=0) rfl).reg to81 rfl rfl fun r=>kM (I a2) r rfl rfl fun r=>?_;obtain ⟨x10,hx10,hD⟩:=aY hD
 refine ac (.pointer (some ⟨a0g.wb,0+a2.toNat * 1,none⟩)) r (fun R=>iB r sl81 rfl rfl (fC hx10).1 (fC hx10).2.1) rfl fun fr r=>ac (U x10) r (fun R=>pg r (hP.memr (i:=0) rfl) hx10 rfl to36) rfl fun fr r=>kA (U x10) r rfl rfl fun r=>wn (wp_ret ?_);have hv:x10=res:=Option.some.inj hD
 try dsimp only [Exit.then,Exit.inBlock]
 refine bg (fn:=Tryz.f29) r (t:=6) rfl (v:=(U x10)) rfl ?_;subst hv;exact ⟨rfl,hP.chg.below⟩
end Go.Proofs.YtikjpdpgdmbdpaaGreat

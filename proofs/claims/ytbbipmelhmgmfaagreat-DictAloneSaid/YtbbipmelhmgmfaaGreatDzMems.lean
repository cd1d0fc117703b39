/- Ours. -/
import Derived.Test.YtbbipmelhmgmfaaGreatDzMem
import Derived.Test.YtbbipmelhmgmfaaGreatDzPlans
import Derived.Test.YtbbipmelhmgmfaaGreatDzM7
set_option linter.all false
set_option maxRecDepth 100000
set_option maxHeartbeats 20000000
namespace Go.Proofs.YtbbipmelhmgmfaaGreat
open Go.RowKit
theorem mo:af B0 126:=kz
theorem cl66:af B0 66:=kz
theorem cl67:af B0 67:=kz
theorem rL:ba B0 142 0 0:=kz
theorem wH:ba B0 142 1 1:=kz
theorem jZ:ba B0 145 0 0:=kz
theorem wI:ba B0 145 1 1:=kz
theorem ko:ba B0 38 0 0:=kz
theorem ik:ba B0 38 1 1:=kz
theorem rR:ba B0 38 2 2:=kz
theorem EI:ba B0 38 3 3:=kz
theorem ma:ba B0 52 0 0:=kz
theorem EJ:ba B0 52 1 1:=kz
theorem FX:isSlice B0 143:=kz
theorem is31:isSlice B0 31:=kz
theorem is66:isSlice B0 66:=kz
theorem rt66:rowTy B0 66 34 1:=kz
theorem EG:rowTy B0 143 139 1:=kz
theorem rU:sliceTy B0 143 1:=kz
theorem sl31:sliceTy B0 31 1:=kz
theorem sl66:sliceTy B0 66 1:=kz
theorem ta52:tyA B0 52 2:=kz
theorem sn:tyO B0 139:=kz
theorem mE:tyO B0 143:=kz
theorem Ja:tyO B0 34:=kz
theorem to66:tyO B0 66:=kz
theorem Eu:sized B0 143 1:=kz
theorem ts34:sized B0 34 1:=kz
theorem ts52:sized B0 52 2:=kz
theorem tz34:zeroOf B0 34=some (.int .u64 0):=kz
theorem tz52:zeroOf B0 52=some (z6 (IV (⟨0,0⟩:Cap))):=kz
def D.m4 (fu:Nat) (a0:List Int):Option (Mem × Int):=(bif (decide ((a0.length:Int) > 65)) then none else (loopThen (fun (x2:Int × Int × Int)=>(bif (decide (x2.2.2<(a0.length:Int))) then ((Jj a0 x2.2.2).bind (fun (x7:Int)=>(Option.bind (bif (decide (x7<0)) then (some true) else (some (decide (x7 > x2.2.1)))) (fun (Jn:Bool)=>(bif Jn then none else (some (Lp.next (x2.1,(IntKind.i64.wrap (x2.2.1 - x7)),(IntKind.i64.wrap (x2.2.2+1)))))))))) else (some (Lp.brk (x2.1,x2.2.1,x2.2.2))))) fu (0,16777216,0) (fun (x14:Int × Int × Int)=>((oneI a0).bind (fun (Jh:Int)=>(some ((⟨zerosI Jh,0⟩:Mem),0)))))))
theorem CY {fu:Nat} (w0:World) {Ji:Value} (a0:List Int) (a0h:I1 3 1 i64 Ji a0 w0) {res:Mem × Int} (hD:D.m4 fu a0=some res) :
    Calls B0 59 #[Ji] w0 (fun e w'=>∃ (g0:MG),e=.returned (.tuple #[(zp g0.mb),(.int .i64 res.2)])/\Kv No No [I9 g0 res.1] w0 w'):=by
 refine enter Tryz.func59 rfl 53 rfl rfl fun fr r=>?_;have hP:Post No [] w0 w0:=Post.nil w0
 have hP:Post No [IZ 3 1 i64 Ji a0] w0 w0:=hP.addRo bg a0h rfl a0h.lt;unfold D.m4 at hD
 refine I0 (kA (.pointer none) r rfl rfl fun r=>kA (I 0) r rfl rfl fun r=>wn (d9 (I0 (kM Ji r rfl rfl fun r=>aa (I (a0.length:Int)) r (fun R=>cW r (hP.ro (i:=0) rfl) is31 rfl) rfl fun fr r=>kB r rfl rfl rfl rfl rfl fun r=>wn ?_))));refine q5 (t:=(decide ((a0.length:Int) > 65))) (r.ev rfl) (fun h1=>?_) (fun h1=>?_)
 ·
  have hD:=z7 (ar h1) hD;refine I0 (kA (.pointer none) r rfl rfl fun r=>kA (I 1) r rfl rfl fun r=>wn (q4 ?_));exact nomatch hD
 have hD:=z7 (ai h1) hD;refine q7 (I0 (kA (I 16777216) r rfl rfl fun r=>wn (d9 (I0 (kM Ji r rfl rfl fun r=>aa (I (a0.length:Int)) r (fun R=>cW r (hP.ro (i:=0) rfl) is31 rfl) rfl fun fr r=>kM (I 0) r rfl rfl fun r=>wn ?_)))));refine dV (X:=Int × Int × Int) (G:=Unit) (x0:=(0,16777216,0)) (fun x γ=>[(0,Ji),(12,(.bool (decide ((a0.length:Int) > 65)))),(13,Ji),(14,(I (a0.length:Int))),(3,(I x.1)),(4,(I x.2.1)),(15,(I x.2.2))]) (fun x γ w=>Post No [IZ 3 1 i64 Ji a0] w0 w) () r (kO (aq rfl (aq rfl (aq rfl aJ)))) hP hD ?_ ?_
 ·
  rintro x2 γ3 fr w5 g y4 RPy4 nxy4 bky4 rty4 r hP hD;have hP:Post No [_] w0 w5:=hP;refine I0 (kB r rfl rfl rfl rfl rfl fun r=>wn (d9 ?_));refine q5 (t:=(decide (x2.2.2<(a0.length:Int)))) (r.ev rfl) (fun h6=>?_) (fun h6=>?_)
  ·
   have hD:=z7 (ar h6) hD;refine q7 (d9 (wp_block (I0 ?_)));obtain ⟨x7,hx7,hD⟩:=aG hD;refine aa (.pointer (some ⟨J1 Ji,J2 Ji+x2.2.2.toNat * 1,none⟩)) r (fun R=>cu r (hP.ro (i:=0) rfl) hx7 sl31 rfl rfl) rfl fun fr r=>aa (I x7) r (fun R=>cP r (u:=(I x7)) (I1.at_ (f:=i64) (x:=x7) (hP.ro (i:=0) rfl) (fun _=>rfl) hx7) rfl IL) rfl fun fr r=>kA (I x7) r rfl rfl fun r=>wn (d9 (d9 ?_));refine cR (N:=53) (Y:=Bool) (G:=Unit) (fun x γ=>[(0,Ji),(12,(.bool (decide ((a0.length:Int) > 65)))),(13,Ji),(14,(I (a0.length:Int))),(3,(I x2.1)),(4,(I x2.2.1)),(15,(I x2.2.2)),(16,(.bool (decide (x2.2.2<(a0.length:Int))))),(6,(I x7)),(25,(.bool x))]) (fun x γ w=>Post No [IZ 3 1 i64 Ji a0] w0 w) hD ?_ ?_
   ·
    rintro y8 RPy8 nxy8 hD;refine q6 (kM (I x7) r rfl rfl fun r=>kB r rfl rfl rfl rfl rfl fun r=>kM (.bool (decide (x7<0))) r rfl rfl fun r=>?_);refine bG (decide (x7<0)) (fun h9=>?_) (fun h9=>?_)
    ·
     have hD:=z7 (ar h9) hD;refine s0 r h9 fun fr r=>s0 r h9 fun fr r=>s0 r h9 fun fr r=>aa (.bool true) r (fun R=>ay r (b:=true) (kb h9) rfl) rfl fun fr r=>wn ?_;exact nxy8 true () _ _ _ hD r (kO (kO (aq rfl (aq rfl aJ)))) (hP.pick [0] rfl rfl)
    have hD:=z7 (ai h9) hD;refine s1 r h9 (kM (I x7) r rfl rfl fun r=>s1 r h9 (kM (I x2.2.1) r rfl rfl fun r=>s1 r h9 (kB r rfl rfl rfl rfl rfl fun r=>aa (.bool (decide (x7 > x2.2.1))) r (fun R=>ay r (b:=false) (kb h9) rfl) rfl fun fr r=>wn ?_)));exact nxy8 (decide (x7 > x2.2.1)) () _ _ _ hD r (kO (kO (aq rfl (aq rfl aJ)))) (hP.pick [0] rfl rfl)
   rintro Jn γ11 fr w12 g r hP hD;have hP:Post No [_] w0 w12:=hP;refine q5 (t:=Jn) (r.ev rfl) (fun J6=>?_) (fun J6=>?_)
   ·
    have hD:=z7 (ar J6) hD;refine I0 (kA (.pointer none) r rfl rfl fun r=>kA (I 1) r rfl rfl fun r=>wn (q4 ?_));exact nomatch hD
   have hD:=z7 (ai J6) hD;refine q7 ?_;refine q6 (kM (I x2.2.1) r rfl rfl fun r=>kM (I x7) r rfl rfl fun r=>kB r rfl rfl rfl rfl rfl fun r=>kA (I (W (x2.2.1 - x7))) r rfl rfl fun r=>wn ?_);refine q6 (kB r rfl rfl rfl rfl rfl fun r=>kM (I (W (x2.2.2+1))) r rfl rfl fun r=>wn ?_)
   exact nxy4 (x2.1,(W (x2.2.1 - x7)),(W (x2.2.2+1))) () _ _ _ hD r (kO (aq rfl (aq rfl (aq rfl aJ)))) (hP.pick [0] rfl rfl)
  have hD:=z7 (ai h6) hD;refine wp_exit ?_;exact bky4 (x2.1,x2.2.1,x2.2.2) () _ _ _ hD r (kO (aq rfl (aq rfl (aq rfl aJ)))) (hP.pick [0] rfl rfl)
 rintro x14 γ15 fr w16 g r hP hD;have hP:Post No [_] w0 w16:=hP;refine I0 (kU (.agg #[.slice none 0 0,.int .i64 0]) r kz rfl fun r=>?_);refine kX 145 (.agg #[.slice none 0 0,.int .i64 0]) r rfl rfl fun b17 w18 n19 r=>?_
 have hP:Post No [_,ae b17 #[.slice none 0 0,.int .i64 0] 145] w0 w18:=hP.new n19;refine kA (zp b17) r rfl rfl fun r=>wn (d9 (I0 (kM Ji r rfl rfl fun r=>aa (I (a0.length:Int)) r (fun R=>cW r (hP.ro (i:=0) rfl) is31 rfl) rfl fun fr r=>kM (I 0) r rfl rfl fun r=>wn ?_)));obtain ⟨Jh,hx21,hD⟩:=aG hD
 have hDn:=hD;obtain ⟨rfl,h0n,h1n⟩:=Ez hx21;refine dV (X:=Nat) (G:=MG) (k:=2) (x0:=0) (id:=2) (body:=fun x=>if x=0 then some (.next 1) else some (.brk x)) (f:=fun x=>if x=1 then ((some ((⟨zerosI Jh,0⟩:Mem),0))) else none) (fun x γ=>[(7,(zp b17)),(32,Ji),(33,(I (([Jh]).length:Int))),(34,(I (x:Int)))]) (fun x γ w=>(x=0/\Post No [IZ 3 1 i64 Ji ([Jh]),ae b17 #[.slice none 0 0,.int .i64 0] 145] w0 w)\/(x=1/\γ.mb=b17/\Post No [IZ 3 1 i64 Ji ([Jh]),I9 γ (⟨zerosI Jh,0⟩:Mem)] w0 w)) ⟨0,0,0,0,0⟩ r (kO aJ) (.inl ⟨rfl,hP⟩) hDn ?_ ?_
 ·
  rintro x γ fr w22 g y23 RPy23 nxy23 bky23 rty23 r hI hD
  rcases hI with ⟨rfl,hP⟩ | ⟨rfl,hγ,hP⟩
  ·
   refine I0 (kB r rfl rfl rfl rfl rfl fun r=>wn (d9 ?_));refine q5 (t:=(decide (((0:Nat):Int)<(([Jh]).length:Int)))) (r.ev rfl) (fun _=>?_) (fun h=>absurd ((show (decide (((0:Nat):Int)<(([Jh]).length:Int)))=true from by simp).symm.trans h) ke)
   refine q7 (d9 (wp_block (I0 ?_)));obtain ⟨x24,hx24⟩:∃ z,Jj ([Jh]) ((0:Nat):Int)=some z:=⟨_,rfl⟩;obtain rfl:Jh=x24:=Option.some.inj hx24;refine aa (.pointer (some ⟨J1 Ji,J2 Ji+((0:Nat):Int).toNat * 1,none⟩)) r (fun R=>cu r (hP.ro (i:=0) rfl) (show Jj ([Jh]) ((0:Nat):Int)=some Jh from rfl) sl31 rfl rfl) rfl fun fr r=>aa (I Jh) r (fun R=>cP r (u:=(I Jh)) (I1.at_ (f:=i64) (x:=Jh) (hP.ro (i:=0) rfl) (fun _=>rfl) (show Jj ([Jh]) ((0:Nat):Int)=some Jh from rfl)) rfl IL) rfl fun fr r=>kA (I Jh) r rfl rfl fun r=>wn ?_;refine jQ [b17] [.val (zp b17),.val (zp b17),.val (zp b17),.val (zp b17),.val (.slice none 0 0),.val (I Jh),.whole (W6 w22.heap.size Jh) (W6.st _ _),.whole (W7 w22.heap.size Jh) (W7.st _ _),.whole (W8 w22.heap.size Jh) (W8.st _ _),.whole (W9 w22.heap.size Jh) (W9.st _ _),.whole (W10 w22.heap.size Jh) (W10.st _ _),.val (zp b17),.val (zp b17),.effW (W13 w22.heap.size b17 Jh) (W13.st _ _ _)] mixed r (fun b hb=>hP.sep.lt (i:=1) rfl (.inl hb)) kz ?_ ?_
   ·
    refine aW r rfl (fun I2 g w' hk' hd r'=>?_) ?_
    · exact aw r' (v:=(zp b17)) rfl bz
    refine aW r rfl (fun I2 g w' hk' hd r'=>?_) ?_
    · exact aw r' (v:=(zp b17)) rfl bz
    refine aW r rfl (fun I2 g w' hk' hd r'=>?_) ?_
    · exact dz r' (hd 1 rfl).1 bz
    refine aW r rfl (fun I2 g w' hk' hd r'=>?_) ?_
    · exact az r' (b:=b17) (o:=0) (k:=0) (hd 2 rfl).1 jZ bz
    refine cI r rfl kz (fun I2 g w' hb' hd r'=>?_) ?_
    · exact ax r' (v:=.slice none 0 0) (hd 3 rfl).1 ((hP.z8 hb').cell (i:=1) rfl) mE rfl bz
    refine aW r rfl (fun I2 g w' hk' hd r'=>?_) ?_
    · exact aw r' (v:=.int .i64 Jh) rfl bz
    refine aW r rfl (fun I2 g w' hk' hd r'=>?_) ?_
    · exact Cw r' rt66 tz34 kz (hd 5 rfl).1 (hd 5 rfl).1 h0n h1n (fun wb w2 n2=>⟨n2.below,wb,rfl,n2.at_,by rw [n2.eq]; exact hk'.size⟩)
    refine aW r rfl (fun I2 g w' hk' hd r'=>?_) ?_
    · obtain ⟨wb,hv,h1,h2⟩:=(hd 6 rfl).1; exact eQ r' (v:=.agg #[.slice (some ⟨wb,0,none⟩) Jh.toNat Jh.toNat,.int .u64 1]) (bs2 (congrArg (fun z=>(0,z)) hv) rfl kz) ⟨Below.refl _ _,wb,rfl,h1,h2⟩
    refine aW r rfl (fun I2 g w' hk' hd r'=>?_) ?_
    · obtain ⟨wb,hv,h1,h2⟩:=(hd 7 rfl).1; exact xP r' (v:=.agg #[.slice (some ⟨wb,0,none⟩) Jh.toNat Jh.toNat,.int .u64 1]) hv (fun rb w2 n2=>⟨n2.below,wb,rb,rfl,keep n2.below h1,n2.at_,h2,by rw [n2.eq]; exact q8 h1⟩)
    refine aW r rfl (fun I2 g w' hk' hd r'=>?_) ?_
    · obtain ⟨wb,rb,hv,h1,h2,h3,h4⟩:=(hd 8 rfl).1; exact cJ r' (c:=#[zp rb]) (E:=139) (bs1 (congrArg (fun z=>(0,z)) hv) kz) (fun lb w2 n2=>⟨n2.below,wb,rb,lb,rfl,keep n2.below h1,keep n2.below h2,n2.at_,h3,h4,by rw [n2.eq]; exact q8 h2⟩)
    refine aW r rfl (fun I2 g w' hk' hd r'=>?_) ?_
    · obtain ⟨wb,rb,lb,hv,h1,h2,h3,h4,h5,h6⟩:=(hd 9 rfl).1; exact CC r' EG (hd 4 rfl).1 hv h3 (fun b2 cap cur w2 n2 hc=>⟨n2.below,wb,rb,b2,cap,rfl,keep n2.below h1,keep n2.below h2,⟨cur,n2.at_,hc⟩,h4,h5,by rw [n2.eq]; exact q8 h2⟩)
    refine aW r rfl (fun I2 g w' hk' hd r'=>?_) ?_
    · exact dz r' (hd 0 rfl).1 bz
    refine aW r rfl (fun I2 g w' hk' hd r'=>?_) ?_
    · exact az r' (b:=b17) (o:=0) (k:=0) (hd 11 rfl).1 jZ bz
    refine cI r rfl kz (fun I2 g w' hb' hd r'=>?_) ?_
    ·
     obtain ⟨wb,rb,lb,cap,hv,h1,h2,h3,h4,h5,h6⟩:=(hd 10 rfl).1;have hlt:b17<w22.heap.size:=hP.sep.lt (i:=1) rfl (.inl (List.mem_singleton.2 rfl));refine bb r' (o:=0) (v:=.slice (some ⟨lb,0,none⟩) 1 cap) (c':=#[.slice (some ⟨lb,0,none⟩) 1 cap,.int .i64 0]) (hd 12 rfl).1 hv ((hP.z8 hb').cell (i:=1) rfl) Eu u7 rfl rfl (fun w2 u2=>⟨u2.kept,rfl,wb,rb,lb,cap,?_,h4,O,O⟩)
     obtain ⟨cur,h3a,h3b⟩:=h3;refine ⟨u2.at_,⟨cur,u2.keep h3a (by show lb≠b17; omega),h3b⟩,?_,u2.keep h1 (by show wb≠b17; omega),⟨by show b17≠lb; omega,by show b17≠rb; omega,by show b17≠wb; omega,by show lb≠rb; omega,by show lb≠wb; omega,by show rb≠wb; omega⟩⟩
     have h:=u2.keep h2 (show rb≠b17 by omega)
     simpa [zerosI] using h
    exact bU
   intro fr gg w25 hb Iz hap r;obtain ⟨gM,hgM,hP⟩:=hP.made (i:=1) (lo:=0) (hi:=0) rfl hb (Iz 13 rfl).1;have hP:Post No [_,_] w0 w25:=hP;refine q6 (kB r rfl rfl rfl rfl rfl fun r=>kM (I (W (((0:Nat):Int)+1))) r rfl rfl fun r=>wn ?_);exact nxy23 1 gM _ _ _ hD r (kO aJ) (.inr ⟨rfl,hgM,hP⟩)
  refine I0 (kB r rfl rfl rfl rfl rfl fun r=>wn (d9 ?_));refine q5 (t:=(decide (((1:Nat):Int)<(([Jh]).length:Int)))) (r.ev rfl) (fun h=>absurd ((show (decide (((1:Nat):Int)<(([Jh]).length:Int)))=false from by simp).symm.trans h) ke) (fun _=>?_)
  refine wp_exit ?_;exact bky23 1 γ _ _ _ hD r (kO aJ) (.inr ⟨rfl,hγ,hP⟩)
 rintro x γ fr w26 g r hI hD
 rcases hI with ⟨rfl,_⟩ | ⟨rfl,hγ,hP⟩
 · cases hD
 have hPn:=hP;subst hγ;have hP:Post No [IZ 3 1 i64 Ji ([Jh]),I9 γ (⟨zerosI Jh,0⟩:Mem)] w0 w26:=hPn;refine I0 (kM (.pointer (some ⟨γ.mb,0,none⟩)) r rfl rfl fun r=>kA (.pointer (some ⟨γ.mb,0,none⟩)) r rfl rfl fun r=>kA (I 0) r rfl rfl fun r=>wn (q4 ?_));have hv:((⟨zerosI Jh,0⟩:Mem),0)=res:=Option.some.inj hD
 try dsimp only [Exit.then,Exit.inBlock]
 refine fE (fn:=Tryz.f59) r (t:=2) (t':=3) rfl (v:=(.pointer (some ⟨γ.mb,0,none⟩))) (v':=(I 0)) rfl rfl ?_;subst hv;exact ⟨γ,rfl,(hP.pick [1] rfl rfl).done (dg rfl cG)⟩
def D.l9 (fu:Nat) (a0:Mem) (a1:Int):Option (Unit):=(Option.bind (bif (decide (a1<0)) then (some true) else (some (decide (a1>=((1:Nat):Int))))) (fun (x3:Bool)=>(bif x3 then none else ((zeroI a1).bind (fun (x7:Unit)=>(some ()))))))
theorem pK {fu:Nat} (w0:World) {Jg:MG} (a0:Mem) (a0h:JX Jg a0 w0) (a1:Int) {res:Unit} (hD:D.l9 fu a0 a1=some res) :
    Calls B0 66 #[zp Jg.mb,.int .i64 a1] w0 (bB (zp Jg.rb) w0):=by
 refine enter Tryz.func66 rfl 23 rfl rfl fun fr r=>?_;have hP:Post No [] w0 w0:=Post.nil w0
 have hP:Post No [memR Jg a0] w0 w0:=hP.addRo bg a0h rfl a0h.lt;unfold D.l9 at hD
 refine I0 (kA (.pointer none) r rfl rfl fun r=>wn (d9 (d9 ?_)));refine cR (N:=23) (Y:=Bool) (G:=Unit) (fun x γ=>[(0,(zp Jg.mb)),(1,(I a1)),(4,(.pointer none)),(15,(.bool x))]) (fun x γ w=>Post No [memR Jg a0] w0 w) hD ?_ ?_
 ·
  rintro y1 RPy1 nxy1 hD;refine q6 (kM (I a1) r rfl rfl fun r=>kB r rfl rfl rfl rfl rfl fun r=>kM (.bool (decide (a1<0))) r rfl rfl fun r=>?_);refine bG (decide (a1<0)) (fun h2=>?_) (fun h2=>?_)
  ·
   have hD:=z7 (ar h2) hD;refine s0 r h2 fun fr r=>s0 r h2 fun fr r=>s0 r h2 fun fr r=>s0 r h2 fun fr r=>s0 r h2 fun fr r=>s0 r h2 fun fr r=>s0 r h2 fun fr r=>aa (.bool true) r (fun R=>ay r (b:=true) (kb h2) rfl) rfl fun fr r=>wn ?_;exact nxy1 true () _ _ _ hD r (kO aJ) (hP.pick [0] rfl rfl)
  have hD:=z7 (ai h2) hD;refine s1 r h2 (kM (I a1) r rfl rfl fun r=>s1 r h2 (kM (zp Jg.mb) r rfl rfl fun r=>s1 r h2 (aa (zp Jg.mb) r (fun R=>dz r rfl) rfl fun fr r=>s1 r h2 (aa _ r (fun R=>az r (b:=Jg.mb) (o:=0) (k:=0) rfl jZ) rfl fun fr r=>s1 r h2 (kL (.slice (some ⟨Jg.lb,0,none⟩) 1 Jg.cap) r rfl (hP.Le (i:=0) rfl).hdr mE rfl rfl fun r=>s1 r h2 (aa (I ((1:Nat):Int)) r (fun R=>mB r FX rfl) rfl fun fr r=>s1 r h2 (kB r rfl rfl rfl rfl rfl fun r=>aa (.bool (decide (a1>=((1:Nat):Int)))) r (fun R=>ay r (b:=false) (kb h2) rfl) rfl fun fr r=>wn ?_)))))));exact nxy1 (decide (a1>=((1:Nat):Int))) () _ _ _ hD r (kO aJ) (hP.pick [0] rfl rfl)
 rintro x3 γ4 fr w5 g r hP hD;have hP:Post No [_] w0 w5:=hP;refine q5 (t:=x3) (r.ev rfl) (fun h6=>?_) (fun h6=>?_)
 ·
  have hD:=z7 (ar h6) hD;refine I0 (kA (.pointer none) r rfl rfl fun r=>wn (q4 ?_));exact nomatch hD
 have hD:=z7 (ai h6) hD;refine q7 (I0 (kM (zp Jg.mb) r rfl rfl fun r=>aa (zp Jg.mb) r (fun R=>dz r rfl) rfl fun fr r=>aa _ r (fun R=>az r (b:=Jg.mb) (o:=0) (k:=0) rfl jZ) rfl fun fr r=>kL (.slice (some ⟨Jg.lb,0,none⟩) 1 Jg.cap) r rfl (hP.Le (i:=0) rfl).hdr mE rfl rfl fun r=>kM (I a1) r rfl rfl fun r=>?_));obtain ⟨x7,hx7,hD⟩:=aG hD
 refine aa (.pointer (some ⟨Jg.lb,0+a1.toNat * 1,none⟩)) r (fun R=>jC r rU rfl rfl (by have h0:=(gj hx7); omega) (by have h0:=(gj hx7); omega)) rfl fun fr r=>aa (zp Jg.rb) r (fun R=>qV r (hP.Le (i:=0) rfl) rfl (gj hx7) sn) rfl fun fr r=>kA (zp Jg.rb) r rfl rfl fun r=>wn (q4 ?_);have hv:()=res:=Option.some.inj hD
 try dsimp only [Exit.then,Exit.inBlock]
 refine aT (fn:=Tryz.f66) r (t:=4) rfl (v:=(zp Jg.rb)) rfl ?_;subst hv;exact ⟨rfl,hP.KE.below⟩
def D.jp (fu:Nat) (a0:Mem) (a1:Int):Option (Cap):=((D.l9 fu a0 a1).bind (fun (x5:Unit)=>(some (⟨a1,1⟩:Cap))))
theorem qc {fu:Nat} (w0:World) {Jg:MG} (a0:Mem) (a0h:JX Jg a0 w0) (a1:Int) {res:Cap} (hD:D.jp fu a0 a1=some res) :
    Calls B0 20 #[zp Jg.mb,.int .i64 a1] w0 (bB (z6 (IV res)) w0):=by
 refine enter Tryz.func20 rfl 18 rfl rfl fun fr r=>?_;have hP:Post No [] w0 w0:=Post.nil w0
 have hP:Post No [memR Jg a0] w0 w0:=hP.addRo bg a0h rfl a0h.lt;unfold D.jp at hD
 refine I0 ?_;refine ah (.cells ((IV (⟨0,0⟩:Cap))).toArray 52 (0,0)) r (fun R=>ag tz52) rfl fun fr b1 w2 n3 r=>?_;have hP:Post No [_,ae b1 ((IV (⟨0,0⟩:Cap))).toArray 52] w0 w2:=hP.new n3
 refine wn (d9 (I0 (kM (zp Jg.mb) r rfl rfl fun r=>kM (I a1) r rfl rfl fun r=>?_)));obtain ⟨x5,hx5,hD⟩:=aG hD
 refine kE r (pK w2 a0 (hP.Le (i:=0) rfl) a1 hx5) rfl cl66 rfl fun w6 hb r=>?_;have hP:=hP.below hb
 refine kA (zp Jg.rb) r rfl rfl fun r=>wn (I0 (kM (zp Jg.rb) r rfl rfl fun r=>kB r rfl rfl rfl rfl rfl fun r=>wn ?_));refine q5 (t:=true) (r.ev rfl) (fun _=>?_) (fun h=>absurd ((rfl:true=_).symm.trans h) ke)
 refine I0 (kM (I a1) r rfl rfl fun r=>kM (zp Jg.rb) r rfl rfl fun r=>aa (zp Jg.rb) r (fun R=>dz r rfl) rfl fun fr r=>aa _ r (fun R=>az r (b:=Jg.rb) (o:=0) (k:=1) rfl wH) rfl fun fr r=>kL (U 1) r rfl (hP.Le (i:=0) rfl).reg Ja rfl rfl fun r=>kU (z6 (IV (⟨a1,1⟩:Cap))) r kz rfl fun r=>?_);refine aM (.cells ((IV (⟨a1,1⟩:Cap))).toArray 52 (0,0)) r (fun R=>bb r (o:=0) (v:=(z6 (IV (⟨a1,1⟩:Cap)))) rfl rfl (hP.cell (i:=1) rfl) ts52 u7 rfl rfl) rfl fun fr w7 u8 r=>?_
 have hP:Post No [_,ae b1 ((IV (⟨a1,1⟩:Cap))).toArray 52] w0 w7:=hP.upd (i:=1) rfl u8;refine wn (q4 ?_);have hv:(⟨a1,1⟩:Cap)=res:=Option.some.inj hD
 try dsimp only [Exit.then,Exit.inBlock]
 refine ak r rfl rfl (hP.cell (i:=1) rfl) (k:=2) rfl ta52 ?_;subst hv;exact ⟨rfl,hP.KE.below⟩
def D.nC (fu:Nat) (a0:Mem) (a1:Cap):Option (Bool):=((D.l9 fu a0 a1.region).bind (fun (x5:Unit)=>(some (1==a1.epoch))))
theorem l8 {fu:Nat} (w0:World) {Jg:MG} (a0:Mem) (a0h:JX Jg a0 w0) (a1:Cap) {res:Bool} (hD:D.nC fu a0 a1=some res) :
    Calls B0 126 #[zp Jg.mb,z6 (IV a1)] w0 (bB (.bool res) w0):=by
 refine enter Tryz.func126 rfl 21 rfl rfl fun fr r=>?_;have hP:Post No [] w0 w0:=Post.nil w0
 have hP:Post No [memR Jg a0] w0 w0:=hP.addRo bg a0h rfl a0h.lt;unfold D.nC at hD
 refine I0 ?_;refine kX 52 (z6 (IV a1)) r rfl rfl fun b1 w2 n3 r=>?_;have hP:Post No [_,ae b1 ((IV a1)).toArray 52] w0 w2:=hP.new n3
 refine kA (.bool false) r rfl rfl fun r=>wn (I0 (kM (zp Jg.mb) r rfl rfl fun r=>kF 0 r rfl ma rfl fun r=>kL (I a1.region) r rfl (hP.cell (i:=1) rfl) IL rfl rfl fun r=>?_));obtain ⟨x5,hx5,hD⟩:=aG hD
 refine kE r (pK w2 a0 (hP.Le (i:=0) rfl) a1.region hx5) rfl cl66 rfl fun w6 hb r=>?_;have hP:=hP.below hb
 refine kA (zp Jg.rb) r rfl rfl fun r=>wn (d9 ?_);refine dl [.val (zp Jg.rb),.val (.bool true),.val (.bool true),.val (zp Jg.rb),.val (zp Jg.rb),.val (.pointer (some ⟨Jg.rb,1,none⟩)),.val (U 1),.val (.pointer (some ⟨b1,1,none⟩)),.val (U a1.epoch),.val (.bool (1==a1.epoch)),.val (.bool (1==a1.epoch)),.val (.bool (1==a1.epoch))] mixed r kz ?_ ?_
 ·
  refine fc r (fun I2 g w' hb' hd r'=>aw r' rfl bz) ?_;refine fc r (fun I2 g w' hb' hd r'=>bd r' (hd 0 rfl).1 rfl rfl rfl bz) ?_
  refine fc r (fun I2 g w' hb' hd r'=>aw r' (hd 1 rfl).1 bz) ?_;refine bp true r rfl rfl rfl (fun g w' hd=>Eq.trans (hd 2 rfl).1 (kb (rfl:true=_))) (fun I2 g w' hb' hd r'=>?_) ?_
  · exact aw r' (v:=(zp Jg.rb)) rfl bz
  refine bp true r rfl rfl rfl (fun g w' hd=>Eq.trans (hd 2 rfl).1 (kb (rfl:true=_))) (fun I2 g w' hb' hd r'=>?_) ?_
  · exact dz r' (hd 3 rfl).1 bz
  refine bp true r rfl rfl rfl (fun g w' hd=>Eq.trans (hd 2 rfl).1 (kb (rfl:true=_))) (fun I2 g w' hb' hd r'=>?_) ?_
  · exact az r' (b:=Jg.rb) (o:=0) (k:=1) (hd 4 rfl).1 wH bz
  refine bp true r rfl rfl rfl (fun g w' hd=>Eq.trans (hd 2 rfl).1 (kb (rfl:true=_))) (fun I2 g w' hb' hd r'=>?_) ?_
  · exact ax r' (v:=(U 1)) (hd 5 rfl).1 ((hP.z8 hb').Le (i:=0) rfl).reg Ja rfl bz
  refine bp true r rfl rfl rfl (fun g w' hd=>Eq.trans (hd 2 rfl).1 (kb (rfl:true=_))) (fun I2 g w' hb' hd r'=>?_) ?_
  · exact az r' (b:=b1) (o:=0) (k:=1) rfl EJ bz
  refine bp true r rfl rfl rfl (fun g w' hd=>Eq.trans (hd 2 rfl).1 (kb (rfl:true=_))) (fun I2 g w' hb' hd r'=>?_) ?_
  · exact ax r' (v:=(U a1.epoch)) (hd 7 rfl).1 ((hP.z8 hb').cell (i:=1) rfl) Ja rfl bz
  refine bp true r rfl rfl rfl (fun g w' hd=>Eq.trans (hd 2 rfl).1 (kb (rfl:true=_))) (fun I2 g w' hb' hd r'=>?_) ?_
  · exact bd r' (u:=(U 1)) (u':=(U a1.epoch)) (v:=(.bool (1==a1.epoch))) (hd 6 rfl).1 (hd 8 rfl).1 rfl rfl bz
  refine fc r (fun I2 g w' hb' hd r'=>ay r' (b:=true) (v:=(.bool (1==a1.epoch))) (Eq.trans (show (g 2).v=.bool true from (hd 2 rfl).1) (kb (rfl:true=_))) (hd 9 rfl).1 bz) ?_;refine fc r (fun I2 g w' hb' hd r'=>cZ r' (hd 10 rfl).1 bz) ?_
  exact bU
 intro fr gg w7 hb Iz hap r;have r:=r.congr (sc ((Iz 11 rfl).1) (sc ((Iz 10 rfl).1) (sc ((Iz 9 rfl).1) (sc ((Iz 8 rfl).1) (sc ((Iz 7 rfl).1) (sc ((Iz 6 rfl).1) (sc ((Iz 5 rfl).1) (sc ((Iz 4 rfl).1) (sc ((Iz 3 rfl).1) (sc ((Iz 2 rfl).1) (sc ((Iz 1 rfl).1) (sc ((Iz 0 rfl).1) rfl))))))))))));have hP:=hP.below hb;refine q4 ?_;have hv:(1==a1.epoch)=res:=Option.some.inj hD
 try dsimp only [Exit.then,Exit.inBlock]
 refine aT (fn:=Tryz.f126) r (t:=4) rfl (v:=(.bool (1==a1.epoch))) rfl ?_;subst hv;exact ⟨rfl,hP.KE.below⟩
def D.jl (fu:Nat) (a0:Mem) (a1:Int):Option (Int):=((D.l9 fu a0 a1).bind (fun (x1:Unit)=>(some (a0.ws.length:Int))))
theorem mW {fu:Nat} (w0:World) {Jg:MG} (a0:Mem) (a0h:JX Jg a0 w0) (a1:Int) {res:Int} (hD:D.jl fu a0 a1=some res) :
    Calls B0 67 #[zp Jg.mb,.int .i64 a1] w0 (bB (.int .i64 res) w0):=by
 refine enter Tryz.func67 rfl 16 rfl rfl fun fr r=>?_;have hP:Post No [] w0 w0:=Post.nil w0
 have hP:Post No [memR Jg a0] w0 w0:=hP.addRo bg a0h rfl a0h.lt;unfold D.jl at hD
 refine I0 (kA (I 0) r rfl rfl fun r=>wn (d9 (I0 (kM (zp Jg.mb) r rfl rfl fun r=>kM (I a1) r rfl rfl fun r=>?_))));obtain ⟨x1,hx1,hD⟩:=aG hD
 refine kE r (pK w0 a0 (hP.Le (i:=0) rfl) a1 hx1) rfl cl66 rfl fun w2 hb r=>?_;have hP:=hP.below hb
 refine kA (zp Jg.rb) r rfl rfl fun r=>wn (I0 (kM (zp Jg.rb) r rfl rfl fun r=>kB r rfl rfl rfl rfl rfl fun r=>wn ?_));refine q5 (t:=true) (r.ev rfl) (fun _=>?_) (fun h=>absurd ((rfl:true=_).symm.trans h) ke)
 refine I0 (kM (zp Jg.rb) r rfl rfl fun r=>aa (zp Jg.rb) r (fun R=>dz r rfl) rfl fun fr r=>aa _ r (fun R=>az r (b:=Jg.rb) (o:=0) (k:=0) rfl rL) rfl fun fr r=>kL (.slice (some ⟨Jg.wb,0,none⟩) a0.ws.length a0.ws.length) r rfl (hP.Le (i:=0) rfl).reg to66 rfl rfl fun r=>aa (I (a0.ws.length:Int)) r (fun R=>mB r is66 rfl) rfl fun fr r=>kA (I (a0.ws.length:Int)) r rfl rfl fun r=>wn (q4 ?_));have hv:(a0.ws.length:Int)=res:=Option.some.inj hD
 try dsimp only [Exit.then,Exit.inBlock]
 refine aT (fn:=Tryz.f67) r (t:=4) rfl (v:=(I (a0.ws.length:Int))) rfl ?_;subst hv;exact ⟨rfl,hP.KE.below⟩
def D.gL (fu:Nat) (a0:Mem) (a1:Cap) (a2:Access):Option (Int × Bool × Mem):=(Option.bind ((D.nC fu a0 a1).bind (fun (Jn:Bool)=>(bif (!Jn) then (some true) else (bif (decide (a2.at_<0)) then (some true) else ((D.jl fu a0 a1.region).bind (fun (JP:Int)=>(bif (decide (a2.at_>=JP)) then (some true) else (bif (decide (a2.op<0)) then (some true) else (some (decide (a2.op > 3))))))))))) (fun (Jh:Bool)=>(bif Jh then (some (0,false,a0)) else ((zeroI a1.region).bind (fun (x25:Unit)=>((Jj a0.ws a2.at_).bind (fun (Ky:Int)=>(Option.bind (bif (a2.op==1) then (some (Mem.put a0 a2.at_ a2.a)) else (Option.bind (bif (a2.op==2) then (some (Ky==a2.a)) else (some false)) (fun (x34:Bool)=>(Option.bind (bif x34 then (some (Mem.put a0 a2.at_ a2.b)) else (Option.bind (bif (a2.op==3) then (some (Mem.put a0 a2.at_ (IntKind.u64.wrap (Ky+a2.a)))) else (some a0)) (fun (x46:Mem)=>(some x46)))) (fun (K5:Mem)=>(some K5)))))) (fun (x52:Mem)=>(some (Ky,true,({ x52 with cnt:=(IntKind.i64.wrap (x52.cnt+1)) }))))))))))))
theorem tW {fu:Nat} (w0:World) {Jg:MG} (a0:Mem) (a1:Cap) (a2:Access) (hS:JY [I9 Jg a0] w0) {res:Int × Bool × Mem} (hD:D.gL fu a0 a1 a2=some res) :
    Calls B0 65 #[zp Jg.mb,z6 (IV a1),z6 (bh a2)] w0 (fun e w'=>e=.returned (.tuple #[(.int .u64 res.1),(.bool res.2.1)])/\Kv (fun b=>b∈(I9 Jg a0).own) No [I9 Jg res.2.2] w0 w'):=by
 refine enter Tryz.func65 rfl 96 rfl rfl fun fr r=>?_;have hP:Post (fun b=>b∈(I9 Jg a0).own) [I9 Jg a0] w0 w0:=.start hS (by simp [I9])
 unfold D.gL at hD
 refine I0 ?_;refine kX 52 (z6 (IV a1)) r rfl rfl fun b1 w2 n3 r=>?_;have hP:Post (fun b=>b∈(I9 Jg a0).own) [I9 Jg a0,ae b1 ((IV a1)).toArray 52] w0 w2:=hP.new n3
 refine kX 38 (z6 (bh a2)) r rfl rfl fun b5 w6 n7 r=>?_;have hP:Post (fun b=>b∈(I9 Jg a0).own) [I9 Jg a0,ae b1 ((IV a1)).toArray 52,ae b5 ((bh a2)).toArray 38] w0 w6:=hP.new n7
 refine kA (U 0) r rfl rfl fun r=>kA (.bool false) r rfl rfl fun r=>wn (d9 (d9 ?_));refine cR (N:=96) (Y:=Bool) (G:=Unit) (fun x γ=>[(0,(zp Jg.mb)),(1,(z6 (IV a1))),(2,(z6 (bh a2))),(4,(zp b1)),(5,(zp b5)),(6,(U 0)),(7,(.bool false)),(37,(.bool x))]) (fun x γ w=>Post (fun b=>b∈(I9 Jg a0).own) [I9 Jg a0,ae b1 ((IV a1)).toArray 52,ae b5 ((bh a2)).toArray 38] w0 w) hD ?_ ?_
 ·
  rintro y9 RPy9 nxy9 hD;obtain ⟨Jn,hx10,hD⟩:=aG hD;refine bG (!Jn) (fun h11=>?_) (fun h11=>?_)
  ·
   have hD:=z7 (ar h11) hD;refine dl [.val (zp Jg.mb),.val (z6 (IV a1)),.val (.bool Jn),.val (.bool (!Jn)),.val (.bool (!Jn)),.val undef,.val undef,.val undef,.val (.bool true),.val (.bool true),.val undef,.val undef,.val undef,.val undef,.val undef,.val undef,.val undef,.val (.bool true),.val (.bool true),.val undef,.val undef,.val undef,.val (.bool true),.val (.bool true),.val undef,.val undef,.val undef,.val (.bool true)] mixed r kz ?_ ?_
   ·
    refine fc r (fun I2 g w' hb' hd r'=>aw r' rfl bz) ?_;refine fc r (fun I2 g w' hb' hd r'=>aU r' (cs:=(IV a1)) (n:=2) rfl ((hP.z8 hb').cell (i:=1) rfl) ta52 rfl bz) ?_
    refine fc r (fun I2 g w' hb' hd r'=>aN r' (args:=[(zp Jg.mb),(z6 (IV a1))]) (lc (hd 0 rfl).1 (lc (hd 1 rfl).1 l0)) mo ((l8 _ a0 ((hP.z8 hb').mem (i:=0) rfl) a1 hx10).mono JL)) ?_;refine fc r (fun I2 g w' hb' hd r'=>JQ r' (u:=(.bool Jn)) (v:=(.bool (!Jn))) (hd 2 rfl).1 rfl bz) ?_
    refine fc r (fun I2 g w' hb' hd r'=>aw r' (hd 3 rfl).1 bz) ?_;refine bD false (.bool true) r rfl rfl rfl (fun g w' hd=>Eq.trans (hd 4 rfl).1 (kb h11)) KD (fun _ _=>bz) ?_
    refine bD false (.bool true) r rfl rfl rfl (fun g w' hd=>Eq.trans (hd 4 rfl).1 (kb h11)) KD (fun _ _=>bz) ?_;refine bD false (.bool true) r rfl rfl rfl (fun g w' hd=>Eq.trans (hd 4 rfl).1 (kb h11)) KD (fun _ _=>bz) ?_
    refine fc r (fun I2 g w' hb' hd r'=>ay r' (b:=true) (v:=(.bool true)) (Eq.trans (show (g 4).v=.bool (!Jn) from (hd 4 rfl).1) (kb h11)) rfl bz) ?_;refine fc r (fun I2 g w' hb' hd r'=>aw r' (hd 8 rfl).1 bz) ?_
    refine bD false (.bool true) r rfl rfl rfl (fun g w' hd=>Eq.trans (hd 9 rfl).1 (kb (rfl:true=_))) KD (fun _ _=>bz) ?_;refine bD false (.bool true) r rfl rfl rfl (fun g w' hd=>Eq.trans (hd 9 rfl).1 (kb (rfl:true=_))) KD (fun _ _=>bz) ?_
    refine bD false (.bool true) r rfl rfl rfl (fun g w' hd=>Eq.trans (hd 9 rfl).1 (kb (rfl:true=_))) KD (fun _ _=>bz) ?_;refine bD false (.bool true) r rfl rfl rfl (fun g w' hd=>Eq.trans (hd 9 rfl).1 (kb (rfl:true=_))) KD (fun _ _=>bz) ?_
    refine bD false (.bool true) r rfl rfl rfl (fun g w' hd=>Eq.trans (hd 9 rfl).1 (kb (rfl:true=_))) KD (fun _ _=>bz) ?_;refine bD false (.bool true) r rfl rfl rfl (fun g w' hd=>Eq.trans (hd 9 rfl).1 (kb (rfl:true=_))) KD (fun _ _=>bz) ?_
    refine bD false (.bool true) r rfl rfl rfl (fun g w' hd=>Eq.trans (hd 9 rfl).1 (kb (rfl:true=_))) KD (fun _ _=>bz) ?_;refine fc r (fun I2 g w' hb' hd r'=>ay r' (b:=true) (v:=(.bool true)) (Eq.trans (show (g 9).v=.bool true from (hd 9 rfl).1) (kb (rfl:true=_))) rfl bz) ?_
    refine fc r (fun I2 g w' hb' hd r'=>aw r' (hd 17 rfl).1 bz) ?_;refine bD false (.bool true) r rfl rfl rfl (fun g w' hd=>Eq.trans (hd 18 rfl).1 (kb (rfl:true=_))) KD (fun _ _=>bz) ?_
    refine bD false (.bool true) r rfl rfl rfl (fun g w' hd=>Eq.trans (hd 18 rfl).1 (kb (rfl:true=_))) KD (fun _ _=>bz) ?_;refine bD false (.bool true) r rfl rfl rfl (fun g w' hd=>Eq.trans (hd 18 rfl).1 (kb (rfl:true=_))) KD (fun _ _=>bz) ?_
    refine fc r (fun I2 g w' hb' hd r'=>ay r' (b:=true) (v:=(.bool true)) (Eq.trans (show (g 18).v=.bool true from (hd 18 rfl).1) (kb (rfl:true=_))) rfl bz) ?_;refine fc r (fun I2 g w' hb' hd r'=>aw r' (hd 22 rfl).1 bz) ?_
    refine bD false (.bool true) r rfl rfl rfl (fun g w' hd=>Eq.trans (hd 23 rfl).1 (kb (rfl:true=_))) KD (fun _ _=>bz) ?_;refine bD false (.bool true) r rfl rfl rfl (fun g w' hd=>Eq.trans (hd 23 rfl).1 (kb (rfl:true=_))) KD (fun _ _=>bz) ?_
    refine bD false (.bool true) r rfl rfl rfl (fun g w' hd=>Eq.trans (hd 23 rfl).1 (kb (rfl:true=_))) KD (fun _ _=>bz) ?_;refine fc r (fun I2 g w' hb' hd r'=>ay r' (b:=true) (v:=(.bool true)) (Eq.trans (show (g 23).v=.bool true from (hd 23 rfl).1) (kb (rfl:true=_))) rfl bz) ?_
    exact bU
   intro fr gg w12 hb Iz hap r;have r:=r.congr (sc ((Iz 27 rfl).1) (sc ((Iz 26 rfl).1) (sc ((Iz 25 rfl).1) (sc ((Iz 24 rfl).1) (sc ((Iz 23 rfl).1) (sc ((Iz 22 rfl).1) (sc ((Iz 21 rfl).1) (sc ((Iz 20 rfl).1) (sc ((Iz 19 rfl).1) (sc ((Iz 18 rfl).1) (sc ((Iz 17 rfl).1) (sc ((Iz 16 rfl).1) (sc ((Iz 15 rfl).1) (sc ((Iz 14 rfl).1) (sc ((Iz 13 rfl).1) (sc ((Iz 12 rfl).1) (sc ((Iz 11 rfl).1) (sc ((Iz 10 rfl).1) (sc ((Iz 9 rfl).1) (sc ((Iz 8 rfl).1) (sc ((Iz 7 rfl).1) (sc ((Iz 6 rfl).1) (sc ((Iz 5 rfl).1) (sc ((Iz 4 rfl).1) (sc ((Iz 3 rfl).1) (sc ((Iz 2 rfl).1) (sc ((Iz 1 rfl).1) (sc ((Iz 0 rfl).1) rfl))))))))))))))))))))))))))));have hP:=hP.below hb;exact nxy9 true () _ _ _ hD r (kO (kO aJ)) (hP.pick [0,1,2] rfl rfl)
  have hD:=z7 (ai h11) hD;refine bG (decide (a2.at_<0)) (fun J6=>?_) (fun J6=>?_)
  ·
   have hD:=z7 (ar J6) hD;refine dl [.val (zp Jg.mb),.val (z6 (IV a1)),.val (.bool Jn),.val (.bool (!Jn)),.val (.bool (!Jn)),.val (.pointer (some ⟨b5,1,none⟩)),.val (I a2.at_),.val (.bool (decide (a2.at_<0))),.val (.bool (decide (a2.at_<0))),.val (.bool (decide (a2.at_<0))),.val undef,.val undef,.val undef,.val undef,.val undef,.val undef,.val undef,.val (.bool true),.val (.bool true),.val undef,.val undef,.val undef,.val (.bool true),.val (.bool true),.val undef,.val undef,.val undef,.val (.bool true)] mixed r kz ?_ ?_
   ·
    refine fc r (fun I2 g w' hb' hd r'=>aw r' rfl bz) ?_;refine fc r (fun I2 g w' hb' hd r'=>aU r' (cs:=(IV a1)) (n:=2) rfl ((hP.z8 hb').cell (i:=1) rfl) ta52 rfl bz) ?_
    refine fc r (fun I2 g w' hb' hd r'=>aN r' (args:=[(zp Jg.mb),(z6 (IV a1))]) (lc (hd 0 rfl).1 (lc (hd 1 rfl).1 l0)) mo ((l8 _ a0 ((hP.z8 hb').mem (i:=0) rfl) a1 hx10).mono JL)) ?_;refine fc r (fun I2 g w' hb' hd r'=>JQ r' (u:=(.bool Jn)) (v:=(.bool (!Jn))) (hd 2 rfl).1 rfl bz) ?_
    refine fc r (fun I2 g w' hb' hd r'=>aw r' (hd 3 rfl).1 bz) ?_;refine bp false r rfl rfl rfl (fun g w' hd=>Eq.trans (hd 4 rfl).1 (kb h11)) (fun I2 g w' hb' hd r'=>?_) ?_
    · exact az r' (b:=b5) (o:=0) (k:=1) rfl ik bz
    refine bp false r rfl rfl rfl (fun g w' hd=>Eq.trans (hd 4 rfl).1 (kb h11)) (fun I2 g w' hb' hd r'=>?_) ?_
    · exact ax r' (v:=(I a2.at_)) (hd 5 rfl).1 ((hP.z8 hb').cell (i:=2) rfl) IL rfl bz
    refine bp false r rfl rfl rfl (fun g w' hd=>Eq.trans (hd 4 rfl).1 (kb h11)) (fun I2 g w' hb' hd r'=>?_) ?_
    · exact bd r' (u:=(I a2.at_)) (u':=(I 0)) (v:=(.bool (decide (a2.at_<0)))) (hd 6 rfl).1 rfl rfl rfl bz
    refine fc r (fun I2 g w' hb' hd r'=>ay r' (b:=false) (v:=(.bool (decide (a2.at_<0)))) (Eq.trans (show (g 4).v=.bool (!Jn) from (hd 4 rfl).1) (kb h11)) (hd 7 rfl).1 bz) ?_;refine fc r (fun I2 g w' hb' hd r'=>aw r' (hd 8 rfl).1 bz) ?_
    refine bD false (.bool true) r rfl rfl rfl (fun g w' hd=>Eq.trans (hd 9 rfl).1 (kb J6)) KD (fun _ _=>bz) ?_;refine bD false (.bool true) r rfl rfl rfl (fun g w' hd=>Eq.trans (hd 9 rfl).1 (kb J6)) KD (fun _ _=>bz) ?_
    refine bD false (.bool true) r rfl rfl rfl (fun g w' hd=>Eq.trans (hd 9 rfl).1 (kb J6)) KD (fun _ _=>bz) ?_;refine bD false (.bool true) r rfl rfl rfl (fun g w' hd=>Eq.trans (hd 9 rfl).1 (kb J6)) KD (fun _ _=>bz) ?_
    refine bD false (.bool true) r rfl rfl rfl (fun g w' hd=>Eq.trans (hd 9 rfl).1 (kb J6)) KD (fun _ _=>bz) ?_;refine bD false (.bool true) r rfl rfl rfl (fun g w' hd=>Eq.trans (hd 9 rfl).1 (kb J6)) KD (fun _ _=>bz) ?_
    refine bD false (.bool true) r rfl rfl rfl (fun g w' hd=>Eq.trans (hd 9 rfl).1 (kb J6)) KD (fun _ _=>bz) ?_;refine fc r (fun I2 g w' hb' hd r'=>ay r' (b:=true) (v:=(.bool true)) (Eq.trans (show (g 9).v=.bool (decide (a2.at_<0)) from (hd 9 rfl).1) (kb J6)) rfl bz) ?_
    refine fc r (fun I2 g w' hb' hd r'=>aw r' (hd 17 rfl).1 bz) ?_;refine bD false (.bool true) r rfl rfl rfl (fun g w' hd=>Eq.trans (hd 18 rfl).1 (kb (rfl:true=_))) KD (fun _ _=>bz) ?_
    refine bD false (.bool true) r rfl rfl rfl (fun g w' hd=>Eq.trans (hd 18 rfl).1 (kb (rfl:true=_))) KD (fun _ _=>bz) ?_;refine bD false (.bool true) r rfl rfl rfl (fun g w' hd=>Eq.trans (hd 18 rfl).1 (kb (rfl:true=_))) KD (fun _ _=>bz) ?_
    refine fc r (fun I2 g w' hb' hd r'=>ay r' (b:=true) (v:=(.bool true)) (Eq.trans (show (g 18).v=.bool true from (hd 18 rfl).1) (kb (rfl:true=_))) rfl bz) ?_;refine fc r (fun I2 g w' hb' hd r'=>aw r' (hd 22 rfl).1 bz) ?_
    refine bD false (.bool true) r rfl rfl rfl (fun g w' hd=>Eq.trans (hd 23 rfl).1 (kb (rfl:true=_))) KD (fun _ _=>bz) ?_;refine bD false (.bool true) r rfl rfl rfl (fun g w' hd=>Eq.trans (hd 23 rfl).1 (kb (rfl:true=_))) KD (fun _ _=>bz) ?_
    refine bD false (.bool true) r rfl rfl rfl (fun g w' hd=>Eq.trans (hd 23 rfl).1 (kb (rfl:true=_))) KD (fun _ _=>bz) ?_;refine fc r (fun I2 g w' hb' hd r'=>ay r' (b:=true) (v:=(.bool true)) (Eq.trans (show (g 23).v=.bool true from (hd 23 rfl).1) (kb (rfl:true=_))) rfl bz) ?_
    exact bU
   intro fr gg w14 hb Iz hap r;have r:=r.congr (sc ((Iz 27 rfl).1) (sc ((Iz 26 rfl).1) (sc ((Iz 25 rfl).1) (sc ((Iz 24 rfl).1) (sc ((Iz 23 rfl).1) (sc ((Iz 22 rfl).1) (sc ((Iz 21 rfl).1) (sc ((Iz 20 rfl).1) (sc ((Iz 19 rfl).1) (sc ((Iz 18 rfl).1) (sc ((Iz 17 rfl).1) (sc ((Iz 16 rfl).1) (sc ((Iz 15 rfl).1) (sc ((Iz 14 rfl).1) (sc ((Iz 13 rfl).1) (sc ((Iz 12 rfl).1) (sc ((Iz 11 rfl).1) (sc ((Iz 10 rfl).1) (sc ((Iz 9 rfl).1) (sc ((Iz 8 rfl).1) (sc ((Iz 7 rfl).1) (sc ((Iz 6 rfl).1) (sc ((Iz 5 rfl).1) (sc ((Iz 4 rfl).1) (sc ((Iz 3 rfl).1) (sc ((Iz 2 rfl).1) (sc ((Iz 1 rfl).1) (sc ((Iz 0 rfl).1) rfl))))))))))))))))))))))))))));have hP:=hP.below hb;exact nxy9 true () _ _ _ hD r (kO (kO aJ)) (hP.pick [0,1,2] rfl rfl)
  have hD:=z7 (ai J6) hD;obtain ⟨JP,hx15,hD⟩:=aG hD;refine bG (decide (a2.at_>=JP)) (fun h16=>?_) (fun h16=>?_)
  ·
   have hD:=z7 (ar h16) hD;refine dl [.val (zp Jg.mb),.val (z6 (IV a1)),.val (.bool Jn),.val (.bool (!Jn)),.val (.bool (!Jn)),.val (.pointer (some ⟨b5,1,none⟩)),.val (I a2.at_),.val (.bool (decide (a2.at_<0))),.val (.bool (decide (a2.at_<0))),.val (.bool (decide (a2.at_<0))),.val (.pointer (some ⟨b5,1,none⟩)),.val (I a2.at_),.val (zp Jg.mb),.val (zp b1),.val (I a1.region),.val (I JP),.val (.bool (decide (a2.at_>=JP))),.val (.bool (decide (a2.at_>=JP))),.val (.bool (decide (a2.at_>=JP))),.val undef,.val undef,.val undef,.val (.bool true),.val (.bool true),.val undef,.val undef,.val undef,.val (.bool true)] mixed r kz ?_ ?_
   ·
    refine fc r (fun I2 g w' hb' hd r'=>aw r' rfl bz) ?_;refine fc r (fun I2 g w' hb' hd r'=>aU r' (cs:=(IV a1)) (n:=2) rfl ((hP.z8 hb').cell (i:=1) rfl) ta52 rfl bz) ?_
    refine fc r (fun I2 g w' hb' hd r'=>aN r' (args:=[(zp Jg.mb),(z6 (IV a1))]) (lc (hd 0 rfl).1 (lc (hd 1 rfl).1 l0)) mo ((l8 _ a0 ((hP.z8 hb').mem (i:=0) rfl) a1 hx10).mono JL)) ?_;refine fc r (fun I2 g w' hb' hd r'=>JQ r' (u:=(.bool Jn)) (v:=(.bool (!Jn))) (hd 2 rfl).1 rfl bz) ?_
    refine fc r (fun I2 g w' hb' hd r'=>aw r' (hd 3 rfl).1 bz) ?_;refine bp false r rfl rfl rfl (fun g w' hd=>Eq.trans (hd 4 rfl).1 (kb h11)) (fun I2 g w' hb' hd r'=>?_) ?_
    · exact az r' (b:=b5) (o:=0) (k:=1) rfl ik bz
    refine bp false r rfl rfl rfl (fun g w' hd=>Eq.trans (hd 4 rfl).1 (kb h11)) (fun I2 g w' hb' hd r'=>?_) ?_
    · exact ax r' (v:=(I a2.at_)) (hd 5 rfl).1 ((hP.z8 hb').cell (i:=2) rfl) IL rfl bz
    refine bp false r rfl rfl rfl (fun g w' hd=>Eq.trans (hd 4 rfl).1 (kb h11)) (fun I2 g w' hb' hd r'=>?_) ?_
    · exact bd r' (u:=(I a2.at_)) (u':=(I 0)) (v:=(.bool (decide (a2.at_<0)))) (hd 6 rfl).1 rfl rfl rfl bz
    refine fc r (fun I2 g w' hb' hd r'=>ay r' (b:=false) (v:=(.bool (decide (a2.at_<0)))) (Eq.trans (show (g 4).v=.bool (!Jn) from (hd 4 rfl).1) (kb h11)) (hd 7 rfl).1 bz) ?_;refine fc r (fun I2 g w' hb' hd r'=>aw r' (hd 8 rfl).1 bz) ?_
    refine bp false r rfl rfl rfl (fun g w' hd=>Eq.trans (hd 9 rfl).1 (kb J6)) (fun I2 g w' hb' hd r'=>?_) ?_
    · exact az r' (b:=b5) (o:=0) (k:=1) rfl ik bz
    refine bp false r rfl rfl rfl (fun g w' hd=>Eq.trans (hd 9 rfl).1 (kb J6)) (fun I2 g w' hb' hd r'=>?_) ?_
    · exact ax r' (v:=(I a2.at_)) (hd 10 rfl).1 ((hP.z8 hb').cell (i:=2) rfl) IL rfl bz
    refine bp false r rfl rfl rfl (fun g w' hd=>Eq.trans (hd 9 rfl).1 (kb J6)) (fun I2 g w' hb' hd r'=>?_) ?_
    · exact aw r' (v:=(zp Jg.mb)) rfl bz
    refine bp false r rfl rfl rfl (fun g w' hd=>Eq.trans (hd 9 rfl).1 (kb J6)) (fun I2 g w' hb' hd r'=>?_) ?_
    · exact az r' (b:=b1) (o:=0) (k:=0) rfl ma bz
    refine bp false r rfl rfl rfl (fun g w' hd=>Eq.trans (hd 9 rfl).1 (kb J6)) (fun I2 g w' hb' hd r'=>?_) ?_
    · exact ax r' (v:=(I a1.region)) (hd 13 rfl).1 ((hP.z8 hb').cell (i:=1) rfl) IL rfl bz
    refine bp false r rfl rfl rfl (fun g w' hd=>Eq.trans (hd 9 rfl).1 (kb J6)) (fun I2 g w' hb' hd r'=>?_) ?_
    · exact aN r' (args:=[(zp Jg.mb),(I a1.region)]) (lc (hd 12 rfl).1 (lc (hd 14 rfl).1 l0)) cl67 ((mW _ a0 ((hP.z8 hb').mem (i:=0) rfl) a1.region hx15).mono JL)
    refine bp false r rfl rfl rfl (fun g w' hd=>Eq.trans (hd 9 rfl).1 (kb J6)) (fun I2 g w' hb' hd r'=>?_) ?_
    · exact bd r' (u:=(I a2.at_)) (u':=(I JP)) (v:=(.bool (decide (a2.at_>=JP)))) (hd 11 rfl).1 (hd 15 rfl).1 rfl rfl bz
    refine fc r (fun I2 g w' hb' hd r'=>ay r' (b:=false) (v:=(.bool (decide (a2.at_>=JP)))) (Eq.trans (show (g 9).v=.bool (decide (a2.at_<0)) from (hd 9 rfl).1) (kb J6)) (hd 16 rfl).1 bz) ?_;refine fc r (fun I2 g w' hb' hd r'=>aw r' (hd 17 rfl).1 bz) ?_
    refine bD false (.bool true) r rfl rfl rfl (fun g w' hd=>Eq.trans (hd 18 rfl).1 (kb h16)) KD (fun _ _=>bz) ?_;refine bD false (.bool true) r rfl rfl rfl (fun g w' hd=>Eq.trans (hd 18 rfl).1 (kb h16)) KD (fun _ _=>bz) ?_
    refine bD false (.bool true) r rfl rfl rfl (fun g w' hd=>Eq.trans (hd 18 rfl).1 (kb h16)) KD (fun _ _=>bz) ?_;refine fc r (fun I2 g w' hb' hd r'=>ay r' (b:=true) (v:=(.bool true)) (Eq.trans (show (g 18).v=.bool (decide (a2.at_>=JP)) from (hd 18 rfl).1) (kb h16)) rfl bz) ?_
    refine fc r (fun I2 g w' hb' hd r'=>aw r' (hd 22 rfl).1 bz) ?_;refine bD false (.bool true) r rfl rfl rfl (fun g w' hd=>Eq.trans (hd 23 rfl).1 (kb (rfl:true=_))) KD (fun _ _=>bz) ?_
    refine bD false (.bool true) r rfl rfl rfl (fun g w' hd=>Eq.trans (hd 23 rfl).1 (kb (rfl:true=_))) KD (fun _ _=>bz) ?_;refine bD false (.bool true) r rfl rfl rfl (fun g w' hd=>Eq.trans (hd 23 rfl).1 (kb (rfl:true=_))) KD (fun _ _=>bz) ?_
    refine fc r (fun I2 g w' hb' hd r'=>ay r' (b:=true) (v:=(.bool true)) (Eq.trans (show (g 23).v=.bool true from (hd 23 rfl).1) (kb (rfl:true=_))) rfl bz) ?_;exact bU
   intro fr gg w17 hb Iz hap r;have r:=r.congr (sc ((Iz 27 rfl).1) (sc ((Iz 26 rfl).1) (sc ((Iz 25 rfl).1) (sc ((Iz 24 rfl).1) (sc ((Iz 23 rfl).1) (sc ((Iz 22 rfl).1) (sc ((Iz 21 rfl).1) (sc ((Iz 20 rfl).1) (sc ((Iz 19 rfl).1) (sc ((Iz 18 rfl).1) (sc ((Iz 17 rfl).1) (sc ((Iz 16 rfl).1) (sc ((Iz 15 rfl).1) (sc ((Iz 14 rfl).1) (sc ((Iz 13 rfl).1) (sc ((Iz 12 rfl).1) (sc ((Iz 11 rfl).1) (sc ((Iz 10 rfl).1) (sc ((Iz 9 rfl).1) (sc ((Iz 8 rfl).1) (sc ((Iz 7 rfl).1) (sc ((Iz 6 rfl).1) (sc ((Iz 5 rfl).1) (sc ((Iz 4 rfl).1) (sc ((Iz 3 rfl).1) (sc ((Iz 2 rfl).1) (sc ((Iz 1 rfl).1) (sc ((Iz 0 rfl).1) rfl))))))))))))))))))))))))))));have hP:=hP.below hb;exact nxy9 true () _ _ _ hD r (kO (kO aJ)) (hP.pick [0,1,2] rfl rfl)
  have hD:=z7 (ai h16) hD;refine bG (decide (a2.op<0)) (fun K4=>?_) (fun K4=>?_)
  ·
   have hD:=z7 (ar K4) hD;refine dl [.val (zp Jg.mb),.val (z6 (IV a1)),.val (.bool Jn),.val (.bool (!Jn)),.val (.bool (!Jn)),.val (.pointer (some ⟨b5,1,none⟩)),.val (I a2.at_),.val (.bool (decide (a2.at_<0))),.val (.bool (decide (a2.at_<0))),.val (.bool (decide (a2.at_<0))),.val (.pointer (some ⟨b5,1,none⟩)),.val (I a2.at_),.val (zp Jg.mb),.val (zp b1),.val (I a1.region),.val (I JP),.val (.bool (decide (a2.at_>=JP))),.val (.bool (decide (a2.at_>=JP))),.val (.bool (decide (a2.at_>=JP))),.val (zp b5),.val (I a2.op),.val (.bool (decide (a2.op<0))),.val (.bool (decide (a2.op<0))),.val (.bool (decide (a2.op<0))),.val undef,.val undef,.val undef,.val (.bool true)] mixed r kz ?_ ?_
   ·
    refine fc r (fun I2 g w' hb' hd r'=>aw r' rfl bz) ?_;refine fc r (fun I2 g w' hb' hd r'=>aU r' (cs:=(IV a1)) (n:=2) rfl ((hP.z8 hb').cell (i:=1) rfl) ta52 rfl bz) ?_
    refine fc r (fun I2 g w' hb' hd r'=>aN r' (args:=[(zp Jg.mb),(z6 (IV a1))]) (lc (hd 0 rfl).1 (lc (hd 1 rfl).1 l0)) mo ((l8 _ a0 ((hP.z8 hb').mem (i:=0) rfl) a1 hx10).mono JL)) ?_;refine fc r (fun I2 g w' hb' hd r'=>JQ r' (u:=(.bool Jn)) (v:=(.bool (!Jn))) (hd 2 rfl).1 rfl bz) ?_
    refine fc r (fun I2 g w' hb' hd r'=>aw r' (hd 3 rfl).1 bz) ?_;refine bp false r rfl rfl rfl (fun g w' hd=>Eq.trans (hd 4 rfl).1 (kb h11)) (fun I2 g w' hb' hd r'=>?_) ?_
    · exact az r' (b:=b5) (o:=0) (k:=1) rfl ik bz
    refine bp false r rfl rfl rfl (fun g w' hd=>Eq.trans (hd 4 rfl).1 (kb h11)) (fun I2 g w' hb' hd r'=>?_) ?_
    · exact ax r' (v:=(I a2.at_)) (hd 5 rfl).1 ((hP.z8 hb').cell (i:=2) rfl) IL rfl bz
    refine bp false r rfl rfl rfl (fun g w' hd=>Eq.trans (hd 4 rfl).1 (kb h11)) (fun I2 g w' hb' hd r'=>?_) ?_
    · exact bd r' (u:=(I a2.at_)) (u':=(I 0)) (v:=(.bool (decide (a2.at_<0)))) (hd 6 rfl).1 rfl rfl rfl bz
    refine fc r (fun I2 g w' hb' hd r'=>ay r' (b:=false) (v:=(.bool (decide (a2.at_<0)))) (Eq.trans (show (g 4).v=.bool (!Jn) from (hd 4 rfl).1) (kb h11)) (hd 7 rfl).1 bz) ?_;refine fc r (fun I2 g w' hb' hd r'=>aw r' (hd 8 rfl).1 bz) ?_
    refine bp false r rfl rfl rfl (fun g w' hd=>Eq.trans (hd 9 rfl).1 (kb J6)) (fun I2 g w' hb' hd r'=>?_) ?_
    · exact az r' (b:=b5) (o:=0) (k:=1) rfl ik bz
    refine bp false r rfl rfl rfl (fun g w' hd=>Eq.trans (hd 9 rfl).1 (kb J6)) (fun I2 g w' hb' hd r'=>?_) ?_
    · exact ax r' (v:=(I a2.at_)) (hd 10 rfl).1 ((hP.z8 hb').cell (i:=2) rfl) IL rfl bz
    refine bp false r rfl rfl rfl (fun g w' hd=>Eq.trans (hd 9 rfl).1 (kb J6)) (fun I2 g w' hb' hd r'=>?_) ?_
    · exact aw r' (v:=(zp Jg.mb)) rfl bz
    refine bp false r rfl rfl rfl (fun g w' hd=>Eq.trans (hd 9 rfl).1 (kb J6)) (fun I2 g w' hb' hd r'=>?_) ?_
    · exact az r' (b:=b1) (o:=0) (k:=0) rfl ma bz
    refine bp false r rfl rfl rfl (fun g w' hd=>Eq.trans (hd 9 rfl).1 (kb J6)) (fun I2 g w' hb' hd r'=>?_) ?_
    · exact ax r' (v:=(I a1.region)) (hd 13 rfl).1 ((hP.z8 hb').cell (i:=1) rfl) IL rfl bz
    refine bp false r rfl rfl rfl (fun g w' hd=>Eq.trans (hd 9 rfl).1 (kb J6)) (fun I2 g w' hb' hd r'=>?_) ?_
    · exact aN r' (args:=[(zp Jg.mb),(I a1.region)]) (lc (hd 12 rfl).1 (lc (hd 14 rfl).1 l0)) cl67 ((mW _ a0 ((hP.z8 hb').mem (i:=0) rfl) a1.region hx15).mono JL)
    refine bp false r rfl rfl rfl (fun g w' hd=>Eq.trans (hd 9 rfl).1 (kb J6)) (fun I2 g w' hb' hd r'=>?_) ?_
    · exact bd r' (u:=(I a2.at_)) (u':=(I JP)) (v:=(.bool (decide (a2.at_>=JP)))) (hd 11 rfl).1 (hd 15 rfl).1 rfl rfl bz
    refine fc r (fun I2 g w' hb' hd r'=>ay r' (b:=false) (v:=(.bool (decide (a2.at_>=JP)))) (Eq.trans (show (g 9).v=.bool (decide (a2.at_<0)) from (hd 9 rfl).1) (kb J6)) (hd 16 rfl).1 bz) ?_;refine fc r (fun I2 g w' hb' hd r'=>aw r' (hd 17 rfl).1 bz) ?_
    refine bp false r rfl rfl rfl (fun g w' hd=>Eq.trans (hd 18 rfl).1 (kb h16)) (fun I2 g w' hb' hd r'=>?_) ?_
    · exact az r' (b:=b5) (o:=0) (k:=0) rfl ko bz
    refine bp false r rfl rfl rfl (fun g w' hd=>Eq.trans (hd 18 rfl).1 (kb h16)) (fun I2 g w' hb' hd r'=>?_) ?_
    · exact ax r' (v:=(I a2.op)) (hd 19 rfl).1 ((hP.z8 hb').cell (i:=2) rfl) IL rfl bz
    refine bp false r rfl rfl rfl (fun g w' hd=>Eq.trans (hd 18 rfl).1 (kb h16)) (fun I2 g w' hb' hd r'=>?_) ?_
    · exact bd r' (u:=(I a2.op)) (u':=(I 0)) (v:=(.bool (decide (a2.op<0)))) (hd 20 rfl).1 rfl rfl rfl bz
    refine fc r (fun I2 g w' hb' hd r'=>ay r' (b:=false) (v:=(.bool (decide (a2.op<0)))) (Eq.trans (show (g 18).v=.bool (decide (a2.at_>=JP)) from (hd 18 rfl).1) (kb h16)) (hd 21 rfl).1 bz) ?_;refine fc r (fun I2 g w' hb' hd r'=>aw r' (hd 22 rfl).1 bz) ?_
    refine bD false (.bool true) r rfl rfl rfl (fun g w' hd=>Eq.trans (hd 23 rfl).1 (kb K4)) KD (fun _ _=>bz) ?_;refine bD false (.bool true) r rfl rfl rfl (fun g w' hd=>Eq.trans (hd 23 rfl).1 (kb K4)) KD (fun _ _=>bz) ?_
    refine bD false (.bool true) r rfl rfl rfl (fun g w' hd=>Eq.trans (hd 23 rfl).1 (kb K4)) KD (fun _ _=>bz) ?_;refine fc r (fun I2 g w' hb' hd r'=>ay r' (b:=true) (v:=(.bool true)) (Eq.trans (show (g 23).v=.bool (decide (a2.op<0)) from (hd 23 rfl).1) (kb K4)) rfl bz) ?_
    exact bU
   intro fr gg w19 hb Iz hap r;have r:=r.congr (sc ((Iz 27 rfl).1) (sc ((Iz 26 rfl).1) (sc ((Iz 25 rfl).1) (sc ((Iz 24 rfl).1) (sc ((Iz 23 rfl).1) (sc ((Iz 22 rfl).1) (sc ((Iz 21 rfl).1) (sc ((Iz 20 rfl).1) (sc ((Iz 19 rfl).1) (sc ((Iz 18 rfl).1) (sc ((Iz 17 rfl).1) (sc ((Iz 16 rfl).1) (sc ((Iz 15 rfl).1) (sc ((Iz 14 rfl).1) (sc ((Iz 13 rfl).1) (sc ((Iz 12 rfl).1) (sc ((Iz 11 rfl).1) (sc ((Iz 10 rfl).1) (sc ((Iz 9 rfl).1) (sc ((Iz 8 rfl).1) (sc ((Iz 7 rfl).1) (sc ((Iz 6 rfl).1) (sc ((Iz 5 rfl).1) (sc ((Iz 4 rfl).1) (sc ((Iz 3 rfl).1) (sc ((Iz 2 rfl).1) (sc ((Iz 1 rfl).1) (sc ((Iz 0 rfl).1) rfl))))))))))))))))))))))))))));have hP:=hP.below hb;exact nxy9 true () _ _ _ hD r (kO (kO aJ)) (hP.pick [0,1,2] rfl rfl)
  have hD:=z7 (ai K4) hD;refine dl [.val (zp Jg.mb),.val (z6 (IV a1)),.val (.bool Jn),.val (.bool (!Jn)),.val (.bool (!Jn)),.val (.pointer (some ⟨b5,1,none⟩)),.val (I a2.at_),.val (.bool (decide (a2.at_<0))),.val (.bool (decide (a2.at_<0))),.val (.bool (decide (a2.at_<0))),.val (.pointer (some ⟨b5,1,none⟩)),.val (I a2.at_),.val (zp Jg.mb),.val (zp b1),.val (I a1.region),.val (I JP),.val (.bool (decide (a2.at_>=JP))),.val (.bool (decide (a2.at_>=JP))),.val (.bool (decide (a2.at_>=JP))),.val (zp b5),.val (I a2.op),.val (.bool (decide (a2.op<0))),.val (.bool (decide (a2.op<0))),.val (.bool (decide (a2.op<0))),.val (zp b5),.val (I a2.op),.val (.bool (decide (a2.op > 3))),.val (.bool (decide (a2.op > 3)))] mixed r kz ?_ ?_
  ·
   refine fc r (fun I2 g w' hb' hd r'=>aw r' rfl bz) ?_;refine fc r (fun I2 g w' hb' hd r'=>aU r' (cs:=(IV a1)) (n:=2) rfl ((hP.z8 hb').cell (i:=1) rfl) ta52 rfl bz) ?_
   refine fc r (fun I2 g w' hb' hd r'=>aN r' (args:=[(zp Jg.mb),(z6 (IV a1))]) (lc (hd 0 rfl).1 (lc (hd 1 rfl).1 l0)) mo ((l8 _ a0 ((hP.z8 hb').mem (i:=0) rfl) a1 hx10).mono JL)) ?_;refine fc r (fun I2 g w' hb' hd r'=>JQ r' (u:=(.bool Jn)) (v:=(.bool (!Jn))) (hd 2 rfl).1 rfl bz) ?_
   refine fc r (fun I2 g w' hb' hd r'=>aw r' (hd 3 rfl).1 bz) ?_;refine bp false r rfl rfl rfl (fun g w' hd=>Eq.trans (hd 4 rfl).1 (kb h11)) (fun I2 g w' hb' hd r'=>?_) ?_
   · exact az r' (b:=b5) (o:=0) (k:=1) rfl ik bz
   refine bp false r rfl rfl rfl (fun g w' hd=>Eq.trans (hd 4 rfl).1 (kb h11)) (fun I2 g w' hb' hd r'=>?_) ?_
   · exact ax r' (v:=(I a2.at_)) (hd 5 rfl).1 ((hP.z8 hb').cell (i:=2) rfl) IL rfl bz
   refine bp false r rfl rfl rfl (fun g w' hd=>Eq.trans (hd 4 rfl).1 (kb h11)) (fun I2 g w' hb' hd r'=>?_) ?_
   · exact bd r' (u:=(I a2.at_)) (u':=(I 0)) (v:=(.bool (decide (a2.at_<0)))) (hd 6 rfl).1 rfl rfl rfl bz
   refine fc r (fun I2 g w' hb' hd r'=>ay r' (b:=false) (v:=(.bool (decide (a2.at_<0)))) (Eq.trans (show (g 4).v=.bool (!Jn) from (hd 4 rfl).1) (kb h11)) (hd 7 rfl).1 bz) ?_;refine fc r (fun I2 g w' hb' hd r'=>aw r' (hd 8 rfl).1 bz) ?_
   refine bp false r rfl rfl rfl (fun g w' hd=>Eq.trans (hd 9 rfl).1 (kb J6)) (fun I2 g w' hb' hd r'=>?_) ?_
   · exact az r' (b:=b5) (o:=0) (k:=1) rfl ik bz
   refine bp false r rfl rfl rfl (fun g w' hd=>Eq.trans (hd 9 rfl).1 (kb J6)) (fun I2 g w' hb' hd r'=>?_) ?_
   · exact ax r' (v:=(I a2.at_)) (hd 10 rfl).1 ((hP.z8 hb').cell (i:=2) rfl) IL rfl bz
   refine bp false r rfl rfl rfl (fun g w' hd=>Eq.trans (hd 9 rfl).1 (kb J6)) (fun I2 g w' hb' hd r'=>?_) ?_
   · exact aw r' (v:=(zp Jg.mb)) rfl bz
   refine bp false r rfl rfl rfl (fun g w' hd=>Eq.trans (hd 9 rfl).1 (kb J6)) (fun I2 g w' hb' hd r'=>?_) ?_
   · exact az r' (b:=b1) (o:=0) (k:=0) rfl ma bz
   refine bp false r rfl rfl rfl (fun g w' hd=>Eq.trans (hd 9 rfl).1 (kb J6)) (fun I2 g w' hb' hd r'=>?_) ?_
   · exact ax r' (v:=(I a1.region)) (hd 13 rfl).1 ((hP.z8 hb').cell (i:=1) rfl) IL rfl bz
   refine bp false r rfl rfl rfl (fun g w' hd=>Eq.trans (hd 9 rfl).1 (kb J6)) (fun I2 g w' hb' hd r'=>?_) ?_
   · exact aN r' (args:=[(zp Jg.mb),(I a1.region)]) (lc (hd 12 rfl).1 (lc (hd 14 rfl).1 l0)) cl67 ((mW _ a0 ((hP.z8 hb').mem (i:=0) rfl) a1.region hx15).mono JL)
   refine bp false r rfl rfl rfl (fun g w' hd=>Eq.trans (hd 9 rfl).1 (kb J6)) (fun I2 g w' hb' hd r'=>?_) ?_
   · exact bd r' (u:=(I a2.at_)) (u':=(I JP)) (v:=(.bool (decide (a2.at_>=JP)))) (hd 11 rfl).1 (hd 15 rfl).1 rfl rfl bz
   refine fc r (fun I2 g w' hb' hd r'=>ay r' (b:=false) (v:=(.bool (decide (a2.at_>=JP)))) (Eq.trans (show (g 9).v=.bool (decide (a2.at_<0)) from (hd 9 rfl).1) (kb J6)) (hd 16 rfl).1 bz) ?_;refine fc r (fun I2 g w' hb' hd r'=>aw r' (hd 17 rfl).1 bz) ?_
   refine bp false r rfl rfl rfl (fun g w' hd=>Eq.trans (hd 18 rfl).1 (kb h16)) (fun I2 g w' hb' hd r'=>?_) ?_
   · exact az r' (b:=b5) (o:=0) (k:=0) rfl ko bz
   refine bp false r rfl rfl rfl (fun g w' hd=>Eq.trans (hd 18 rfl).1 (kb h16)) (fun I2 g w' hb' hd r'=>?_) ?_
   · exact ax r' (v:=(I a2.op)) (hd 19 rfl).1 ((hP.z8 hb').cell (i:=2) rfl) IL rfl bz
   refine bp false r rfl rfl rfl (fun g w' hd=>Eq.trans (hd 18 rfl).1 (kb h16)) (fun I2 g w' hb' hd r'=>?_) ?_
   · exact bd r' (u:=(I a2.op)) (u':=(I 0)) (v:=(.bool (decide (a2.op<0)))) (hd 20 rfl).1 rfl rfl rfl bz
   refine fc r (fun I2 g w' hb' hd r'=>ay r' (b:=false) (v:=(.bool (decide (a2.op<0)))) (Eq.trans (show (g 18).v=.bool (decide (a2.at_>=JP)) from (hd 18 rfl).1) (kb h16)) (hd 21 rfl).1 bz) ?_;refine fc r (fun I2 g w' hb' hd r'=>aw r' (hd 22 rfl).1 bz) ?_
   refine bp false r rfl rfl rfl (fun g w' hd=>Eq.trans (hd 23 rfl).1 (kb K4)) (fun I2 g w' hb' hd r'=>?_) ?_
   · exact az r' (b:=b5) (o:=0) (k:=0) rfl ko bz
   refine bp false r rfl rfl rfl (fun g w' hd=>Eq.trans (hd 23 rfl).1 (kb K4)) (fun I2 g w' hb' hd r'=>?_) ?_
   · exact ax r' (v:=(I a2.op)) (hd 24 rfl).1 ((hP.z8 hb').cell (i:=2) rfl) IL rfl bz
   refine bp false r rfl rfl rfl (fun g w' hd=>Eq.trans (hd 23 rfl).1 (kb K4)) (fun I2 g w' hb' hd r'=>?_) ?_
   · exact bd r' (u:=(I a2.op)) (u':=(I 3)) (v:=(.bool (decide (a2.op > 3)))) (hd 25 rfl).1 rfl rfl rfl bz
   refine fc r (fun I2 g w' hb' hd r'=>ay r' (b:=false) (v:=(.bool (decide (a2.op > 3)))) (Eq.trans (show (g 23).v=.bool (decide (a2.op<0)) from (hd 23 rfl).1) (kb K4)) (hd 26 rfl).1 bz) ?_;exact bU
  intro fr gg w20 hb Iz hap r;have r:=r.congr (sc ((Iz 27 rfl).1) (sc ((Iz 26 rfl).1) (sc ((Iz 25 rfl).1) (sc ((Iz 24 rfl).1) (sc ((Iz 23 rfl).1) (sc ((Iz 22 rfl).1) (sc ((Iz 21 rfl).1) (sc ((Iz 20 rfl).1) (sc ((Iz 19 rfl).1) (sc ((Iz 18 rfl).1) (sc ((Iz 17 rfl).1) (sc ((Iz 16 rfl).1) (sc ((Iz 15 rfl).1) (sc ((Iz 14 rfl).1) (sc ((Iz 13 rfl).1) (sc ((Iz 12 rfl).1) (sc ((Iz 11 rfl).1) (sc ((Iz 10 rfl).1) (sc ((Iz 9 rfl).1) (sc ((Iz 8 rfl).1) (sc ((Iz 7 rfl).1) (sc ((Iz 6 rfl).1) (sc ((Iz 5 rfl).1) (sc ((Iz 4 rfl).1) (sc ((Iz 3 rfl).1) (sc ((Iz 2 rfl).1) (sc ((Iz 1 rfl).1) (sc ((Iz 0 rfl).1) rfl))))))))))))))))))))))))))));have hP:=hP.below hb;exact nxy9 (decide (a2.op > 3)) () _ _ _ hD r (kO (kO aJ)) (hP.pick [0,1,2] rfl rfl)
 rintro Jh γ22 fr w23 g r hP hD;have hP:Post (fun b=>b∈(I9 Jg a0).own) [I9 Jg a0,ae b1 ((IV a1)).toArray 52,ae b5 ((bh a2)).toArray 38] w0 w23:=hP
 refine q5 (t:=Jh) (r.ev rfl) (fun h24=>?_) (fun h24=>?_)
 ·
  have hD:=z7 (ar h24) hD;refine I0 (kA (U 0) r rfl rfl fun r=>kA (.bool false) r rfl rfl fun r=>wn (q4 ?_));have hv:(0,false,a0)=res:=Option.some.inj hD
  try dsimp only [Exit.then,Exit.inBlock]
  refine fE (fn:=Tryz.f65) r (t:=6) (t':=7) rfl (v:=(U 0)) (v':=(.bool false)) rfl rfl ?_;subst hv;exact ⟨rfl,(hP.pick [0] rfl rfl).done (dg rfl cG)⟩
 have hD:=z7 (ai h24) hD;refine q7 (d9 ?_);obtain ⟨x25,hx25,hD⟩:=aG hD;obtain ⟨Ky,hx26,hD⟩:=aG hD;refine dl [.val (zp Jg.mb),.val (zp Jg.mb),.val (zp Jg.mb),.val (.slice (some ⟨Jg.lb,0,none⟩) 1 Jg.cap),.val (zp b1),.val (I a1.region),.val (.pointer (some ⟨Jg.lb,0+a1.region.toNat * 1,none⟩)),.val (zp Jg.rb),.val (zp Jg.rb),.val (zp Jg.rb),.val (.slice (some ⟨Jg.wb,0,none⟩) a0.ws.length a0.ws.length),.val (.pointer (some ⟨b5,1,none⟩)),.val (I a2.at_),.val (.pointer (some ⟨Jg.wb,0+a2.at_.toNat * 1,none⟩)),.val (.pointer (some ⟨Jg.wb,0+a2.at_.toNat * 1,none⟩))] mixed r kz ?_ ?_
 ·
  refine fc r (fun I2 g w' hb' hd r'=>aw r' rfl bz) ?_;refine fc r (fun I2 g w' hb' hd r'=>dz r' (hd 0 rfl).1 bz) ?_
  refine fc r (fun I2 g w' hb' hd r'=>az r' (b:=Jg.mb) (o:=0) (hd 1 rfl).1 jZ bz) ?_;refine fc r (fun I2 g w' hb' hd r'=>ax r' (hd 2 rfl).1 ((hP.z8 hb').mem (i:=0) rfl).hdr mE rfl bz) ?_
  refine fc r (fun I2 g w' hb' hd r'=>az r' (b:=b1) (o:=0) rfl ma bz) ?_;refine fc r (fun I2 g w' hb' hd r'=>ax r' (hd 4 rfl).1 ((hP.z8 hb').cell (i:=1) rfl) IL rfl bz) ?_
  refine fc r (fun I2 g w' hb' hd r'=>jC r' rU (hd 3 rfl).1 (hd 5 rfl).1 (by have h0:=(gj hx25); omega) (by have h0:=(gj hx25); omega) bz) ?_;refine fc r (fun I2 g w' hb' hd r'=>qV r' ((hP.z8 hb').mem (i:=0) rfl) (hd 6 rfl).1 (gj hx25) sn bz) ?_
  refine fc r (fun I2 g w' hb' hd r'=>dz r' (hd 7 rfl).1 bz) ?_;refine fc r (fun I2 g w' hb' hd r'=>az r' (b:=Jg.rb) (o:=0) (hd 8 rfl).1 rL bz) ?_
  refine fc r (fun I2 g w' hb' hd r'=>ax r' (hd 9 rfl).1 ((hP.z8 hb').mem (i:=0) rfl).reg to66 rfl bz) ?_;refine fc r (fun I2 g w' hb' hd r'=>az r' (b:=b5) (o:=0) rfl ik bz) ?_
  refine fc r (fun I2 g w' hb' hd r'=>ax r' (hd 11 rfl).1 ((hP.z8 hb').cell (i:=2) rfl) IL rfl bz) ?_;refine fc r (fun I2 g w' hb' hd r'=>jC r' sl66 (hd 10 rfl).1 (hd 12 rfl).1 (fF hx26).1 (fF hx26).2.1 bz) ?_
  refine fc r (fun I2 g w' hb' hd r'=>cZ r' (hd 13 rfl).1 bz) ?_;exact bU
 intro fr gg w27 hb Iz hap r;have r:=r.congr (sc ((Iz 14 rfl).1) (sc ((Iz 13 rfl).1) (sc ((Iz 12 rfl).1) (sc ((Iz 11 rfl).1) (sc ((Iz 10 rfl).1) (sc ((Iz 9 rfl).1) (sc ((Iz 8 rfl).1) (sc ((Iz 7 rfl).1) (sc ((Iz 6 rfl).1) (sc ((Iz 5 rfl).1) (sc ((Iz 4 rfl).1) (sc ((Iz 3 rfl).1) (sc ((Iz 2 rfl).1) (sc ((Iz 1 rfl).1) (sc ((Iz 0 rfl).1) rfl)))))))))))))));have hP:=hP.below hb;refine I0 (kM (.pointer (some ⟨Jg.wb,0+a2.at_.toNat * 1,none⟩)) r rfl rfl fun r=>aa (.pointer (some ⟨Jg.wb,0+a2.at_.toNat * 1,none⟩)) r (fun R=>dz r rfl) rfl fun fr r=>aa (U Ky) r (fun R=>qR r (hP.mem (i:=0) rfl) hx26 rfl Ja) rfl fun fr r=>kA (U Ky) r rfl rfl fun r=>wn (d9 (wp_block (I0 (kF 0 r rfl ko rfl fun r=>kL (I a2.op) r rfl (hP.cell (i:=2) rfl) IL rfl rfl fun r=>kB r rfl rfl rfl rfl rfl fun r=>kA (.bool (a2.op==1)) r rfl rfl fun r=>wn ?_)))));refine cR (N:=96) (Y:=Mem) (G:=Unit) (fun x γ=>[(0,(zp Jg.mb)),(1,(z6 (IV a1))),(2,(z6 (bh a2))),(4,(zp b1)),(5,(zp b5)),(6,(U 0)),(7,(.bool false)),(37,(.bool Jh)),(8,(.pointer (some ⟨Jg.wb,0+a2.at_.toNat * 1,none⟩))),(9,(U Ky)),(55,(.bool (a2.op==1)))]) (fun x γ w=>Post (fun b=>b∈(I9 Jg a0).own) [I9 Jg x,ae b1 ((IV a1)).toArray 52,ae b5 ((bh a2)).toArray 38] w0 w) hD ?_ ?_
 ·
  rintro y28 RPy28 nxy28 hD;refine q5 (t:=(a2.op==1)) (r.ev rfl) (fun h29=>?_) (fun h29=>?_)
  ·
   have hD:=z7 (ar h29) hD;refine q6 (kM (.pointer (some ⟨Jg.wb,0+a2.at_.toNat * 1,none⟩)) r rfl rfl fun r=>kF 0 r rfl rR rfl fun r=>kL (U a2.a) r rfl (hP.cell (i:=2) rfl) Ja rfl rfl fun r=>aa (.pointer (some ⟨Jg.wb,0+a2.at_.toNat * 1,none⟩)) r (fun R=>dz r rfl) rfl fun fr r=>?_);refine aM (.cells ((a0.ws.set a2.at_.toNat a2.a).flatMap u64).toArray 34 (0,0)) r (fun R=>bb r (o:=0+a2.at_.toNat * 1) (v:=(U a2.a)) rfl rfl (hP.mem (i:=0) rfl).wds ts34 (rz hx26) rfl qG) rfl fun fr w30 u31 r=>?_
   have hP:Post (fun b=>b∈(I9 Jg a0).own) [I9 Jg (Mem.put a0 a2.at_ a2.a),ae b1 ((IV a1)).toArray 52,ae b5 ((bh a2)).toArray 38] w0 w30:=hP.memUpd (i:=0) rfl yaK u31 ((hP.mem (i:=0) rfl).setWord yas u31)
   refine wn ?_;exact nxy28 (Mem.put a0 a2.at_ a2.a) () _ _ _ hD r (kO (kO (aq rfl (aq rfl (aq rfl aJ))))) (hP.pick [0,1,2] rfl rfl)
  have hD:=z7 (ai h29) hD;refine d9 ?_;refine cR (N:=96) (Y:=Bool) (G:=Unit) (fun x γ=>[(0,(zp Jg.mb)),(1,(z6 (IV a1))),(2,(z6 (bh a2))),(4,(zp b1)),(5,(zp b5)),(6,(U 0)),(7,(.bool false)),(37,(.bool Jh)),(8,(.pointer (some ⟨Jg.wb,0+a2.at_.toNat * 1,none⟩))),(9,(U Ky)),(55,(.bool (a2.op==1))),(63,(.bool x))]) (fun x γ w=>Post (fun b=>b∈(I9 Jg a0).own) [I9 Jg a0,ae b1 ((IV a1)).toArray 52,ae b5 ((bh a2)).toArray 38] w0 w) hD ?_ ?_
  ·
   rintro y32 RPy32 nxy32 hD;refine q6 (kF 0 r rfl ko rfl fun r=>kL (I a2.op) r rfl (hP.cell (i:=2) rfl) IL rfl rfl fun r=>kB r rfl rfl rfl rfl rfl fun r=>kM (.bool (a2.op==2)) r rfl rfl fun r=>?_);refine bG (a2.op==2) (fun h33=>?_) (fun h33=>?_)
   ·
    have hD:=z7 (ar h33) hD;refine s1 r h33 (kM (U Ky) r rfl rfl fun r=>s1 r h33 (kF 0 r rfl rR rfl fun r=>s1 r h33 (kL (U a2.a) r rfl (hP.cell (i:=2) rfl) Ja rfl rfl fun r=>s1 r h33 (kB r rfl rfl rfl rfl rfl fun r=>aa (.bool (Ky==a2.a)) r (fun R=>ay r (b:=true) (kb h33) rfl) rfl fun fr r=>kA (.bool (Ky==a2.a)) r rfl rfl fun r=>wn ?_))));exact nxy32 (Ky==a2.a) () _ _ _ hD r (kO (kO (kO aJ))) (hP.pick [0,1,2] rfl rfl)
   have hD:=z7 (ai h33) hD;refine s0 r h33 fun fr r=>s0 r h33 fun fr r=>s0 r h33 fun fr r=>s0 r h33 fun fr r=>aa (.bool false) r (fun R=>ay r (b:=false) (kb h33) rfl) rfl fun fr r=>kA (.bool false) r rfl rfl fun r=>wn ?_;exact nxy32 false () _ _ _ hD r (kO (kO (kO aJ))) (hP.pick [0,1,2] rfl rfl)
  rintro x34 γ35 fr w36 g r hP hD;have hP:Post (fun b=>b∈(I9 Jg a0).own) [I9 Jg a0,ae b1 ((IV a1)).toArray 52,ae b5 ((bh a2)).toArray 38] w0 w36:=hP
  refine cR (N:=96) (Y:=Mem) (G:=Unit) (fun x γ=>[(0,(zp Jg.mb)),(1,(z6 (IV a1))),(2,(z6 (bh a2))),(4,(zp b1)),(5,(zp b5)),(6,(U 0)),(7,(.bool false)),(37,(.bool Jh)),(8,(.pointer (some ⟨Jg.wb,0+a2.at_.toNat * 1,none⟩))),(9,(U Ky)),(55,(.bool (a2.op==1))),(63,(.bool x34))]) (fun x γ w=>Post (fun b=>b∈(I9 Jg a0).own) [I9 Jg x,ae b1 ((IV a1)).toArray 52,ae b5 ((bh a2)).toArray 38] w0 w) hD ?_ ?_
  ·
   rintro y37 RPy37 nxy37 hD;refine q5 (t:=x34) (r.ev rfl) (fun h38=>?_) (fun h38=>?_)
   ·
    have hD:=z7 (ar h38) hD;refine q6 (kM (.pointer (some ⟨Jg.wb,0+a2.at_.toNat * 1,none⟩)) r rfl rfl fun r=>kF 0 r rfl EI rfl fun r=>kL (U a2.b) r rfl (hP.cell (i:=2) rfl) Ja rfl rfl fun r=>aa (.pointer (some ⟨Jg.wb,0+a2.at_.toNat * 1,none⟩)) r (fun R=>dz r rfl) rfl fun fr r=>?_);refine aM (.cells ((a0.ws.set a2.at_.toNat a2.b).flatMap u64).toArray 34 (0,0)) r (fun R=>bb r (o:=0+a2.at_.toNat * 1) (v:=(U a2.b)) rfl rfl (hP.mem (i:=0) rfl).wds ts34 (rz hx26) rfl qG) rfl fun fr w39 u40 r=>?_
    have hP:Post (fun b=>b∈(I9 Jg a0).own) [I9 Jg (Mem.put a0 a2.at_ a2.b),ae b1 ((IV a1)).toArray 52,ae b5 ((bh a2)).toArray 38] w0 w39:=hP.memUpd (i:=0) rfl yaK u40 ((hP.mem (i:=0) rfl).setWord yas u40)
    refine wn ?_;exact nxy37 (Mem.put a0 a2.at_ a2.b) () _ _ _ hD r (kO (kO (kO aJ))) (hP.pick [0,1,2] rfl rfl)
   have hD:=z7 (ai h38) hD;refine I0 (kF 0 r rfl ko rfl fun r=>kL (I a2.op) r rfl (hP.cell (i:=2) rfl) IL rfl rfl fun r=>kB r rfl rfl rfl rfl rfl fun r=>kA (.bool (a2.op==3)) r rfl rfl fun r=>wn ?_);refine cR (N:=96) (Y:=Mem) (G:=Unit) (fun x γ=>[(0,(zp Jg.mb)),(1,(z6 (IV a1))),(2,(z6 (bh a2))),(4,(zp b1)),(5,(zp b5)),(6,(U 0)),(7,(.bool false)),(37,(.bool Jh)),(8,(.pointer (some ⟨Jg.wb,0+a2.at_.toNat * 1,none⟩))),(9,(U Ky)),(55,(.bool (a2.op==1))),(63,(.bool x34)),(77,(.bool (a2.op==3)))]) (fun x γ w=>Post (fun b=>b∈(I9 Jg a0).own) [I9 Jg x,ae b1 ((IV a1)).toArray 52,ae b5 ((bh a2)).toArray 38] w0 w) hD ?_ ?_
   ·
    rintro y41 RPy41 nxy41 hD;refine q5 (t:=(a2.op==3)) (r.ev rfl) (fun h42=>?_) (fun h42=>?_)
    ·
     have hD:=z7 (ar h42) hD;refine bI 7 [.val (.pointer (some ⟨Jg.wb,0+a2.at_.toNat * 1,none⟩)),.val (.pointer (some ⟨Jg.wb,0+a2.at_.toNat * 1,none⟩)),.val (U Ky),.val (.pointer (some ⟨b5,2,none⟩)),.val (U a2.a),.val (U (V (Ky+a2.a))),.val (.pointer (some ⟨Jg.wb,0+a2.at_.toNat * 1,none⟩))] mixed r kz (kV (kV (kV (kV (kV (kV (kV bH))))))) ?_ ?_
     ·
      refine ec r (fun _ u _ b d s=>aw s rfl bz) (ec r (fun _ u _ b d s=>dz s d.1 bz) (ec r (fun _ u _ b d s=>qR s ((hP.below (dr b)).mem (i:=0) rfl) hx26 d.1 Ja bz) (ec r (fun _ u _ b d s=>az s (b:=b5) (o:=0) rfl rR bz) (ec r (fun _ u _ b d s=>ax s d.1 ((hP.below (dr b)).cell (i:=2) rfl) Ja rfl bz) (ec r (fun _ u _ b d s=>bd s d.1 d.2.1 rfl rfl bz) (ec r (fun _ u _ b d s=>dz s d.1 bz) ?_))))));exact bJ
     intro fr u w43 hb Iz hne r;have r:=r.congr (sc (Iz 6 ke) (sc (Iz 5 ke) (sc (Iz 4 ke) (sc (Iz 3 ke) (sc (Iz 2 ke) (sc (Iz 1 ke) (sc (Iz 0 ke) rfl)))))));have hP:=hP.below hb;refine aM (.cells ((a0.ws.set a2.at_.toNat (V (Ky+a2.a))).flatMap u64).toArray 34 (0,0)) r (fun R=>bb r (o:=0+a2.at_.toNat * 1) (v:=(U (V (Ky+a2.a)))) rfl rfl (hP.mem (i:=0) rfl).wds ts34 (rz hx26) rfl qG) rfl fun fr w44 u45 r=>?_;have hP:Post (fun b=>b∈(I9 Jg a0).own) [I9 Jg (Mem.put a0 a2.at_ (V (Ky+a2.a))),ae b1 ((IV a1)).toArray 52,ae b5 ((bh a2)).toArray 38] w0 w44:=hP.memUpd (i:=0) rfl yaK u45 ((hP.mem (i:=0) rfl).setWord yas u45)
     refine wn ?_;exact nxy41 (Mem.put a0 a2.at_ (V (Ky+a2.a))) () _ _ _ hD r (kO (kO (kO (aq rfl aJ)))) (hP.pick [0,1,2] rfl rfl)
    have hD:=z7 (ai h42) hD;refine q7 ?_;exact nxy41 a0 () _ _ _ hD r (kO (kO (kO (aq rfl aJ)))) (hP.pick [0,1,2] rfl rfl)
   rintro x46 γ47 fr w48 g r hP hD;have hP:Post (fun b=>b∈(I9 Jg a0).own) [I9 Jg x46,ae b1 ((IV a1)).toArray 52,ae b5 ((bh a2)).toArray 38] w0 w48:=hP
   exact nxy37 x46 () _ _ _ hD r (kO (kO (kO aJ))) (hP.pick [0,1,2] rfl rfl)
  rintro K5 γ50 fr w51 g r hP hD;have hP:Post (fun b=>b∈(I9 Jg a0).own) [I9 Jg K5,ae b1 ((IV a1)).toArray 52,ae b5 ((bh a2)).toArray 38] w0 w51:=hP
  exact nxy28 K5 () _ _ _ hD r (kO (kO (aq rfl (aq rfl (aq rfl aJ))))) (hP.pick [0,1,2] rfl rfl)
 rintro x52 γ53 fr w54 g r hP hD;have hP:Post (fun b=>b∈(I9 Jg a0).own) [I9 Jg x52,ae b1 ((IV a1)).toArray 52,ae b5 ((bh a2)).toArray 38] w0 w54:=hP
 refine I0 (kM (zp Jg.mb) r rfl rfl fun r=>aa (zp Jg.mb) r (fun R=>dz r rfl) rfl fun fr r=>aa _ r (fun R=>az r (b:=Jg.mb) (o:=0) (k:=1) rfl wI) rfl fun fr r=>kL (I x52.cnt) r rfl (hP.mem (i:=0) rfl).hdr IL rfl rfl fun r=>kB r rfl rfl rfl rfl rfl fun r=>aa (zp Jg.mb) r (fun R=>dz r rfl) rfl fun fr r=>aa _ r (fun R=>az r (b:=Jg.mb) (o:=0) (k:=1) rfl wI) rfl fun fr r=>?_);refine aM (.cells #[.slice (some ⟨Jg.lb,0,none⟩) 1 Jg.cap,.int .i64 (W (x52.cnt+1))] 145 (0,0)) r (fun R=>bb r (o:=1) (v:=(I (W (x52.cnt+1)))) rfl rfl (hP.mem (i:=0) rfl).hdr ts3 u7 rfl rfl) rfl fun fr w55 u56 r=>?_
 have hP:Post (fun b=>b∈(I9 Jg a0).own) [I9 Jg ({ x52 with cnt:=(W (x52.cnt+1)) }),ae b1 ((IV a1)).toArray 52,ae b5 ((bh a2)).toArray 38] w0 w55:=hP.memUpd (i:=0) rfl yaK u56 ((hP.mem (i:=0) rfl).setCnt u56)
 refine wn (I0 (kM (U Ky) r rfl rfl fun r=>kA (U Ky) r rfl rfl fun r=>kA (.bool true) r rfl rfl fun r=>wn (q4 ?_)));have hv:(Ky,true,({ x52 with cnt:=(W (x52.cnt+1)) }))=res:=Option.some.inj hD
 try dsimp only [Exit.then,Exit.inBlock]
 refine fE (fn:=Tryz.f65) r (t:=6) (t':=7) rfl (v:=(U Ky)) (v':=(.bool true)) rfl rfl ?_;subst hv;exact ⟨rfl,(hP.pick [0] rfl rfl).done (dg rfl cG)⟩
def D.gJ (fu:Nat) (a0:Mem) (a1:Int) (a2:Int):Option (Int):=(Option.bind (bif (decide (a2<0)) then (some true) else ((D.jl fu a0 a1).bind (fun (x3:Int)=>(some (decide (a2>=x3)))))) (fun (x5:Bool)=>(bif x5 then (some 0) else ((zeroI a1).bind (fun (x9:Unit)=>((Jj a0.ws a2).bind (fun (Jn:Int)=>(some Jn))))))))
theorem mR {fu:Nat} (w0:World) {Jg:MG} (a0:Mem) (a0h:JX Jg a0 w0) (a1:Int) (a2:Int) {res:Int} (hD:D.gJ fu a0 a1 a2=some res) :
    Calls B0 21 #[zp Jg.mb,.int .i64 a1,.int .i64 a2] w0 (bB (.int .u64 res) w0):=by
 refine enter Tryz.func21 rfl 29 rfl rfl fun fr r=>?_;have hP:Post No [] w0 w0:=Post.nil w0
 have hP:Post No [memR Jg a0] w0 w0:=hP.addRo bg a0h rfl a0h.lt;unfold D.gJ at hD
 refine I0 (kA (U 0) r rfl rfl fun r=>wn (d9 (d9 ?_)));refine cR (N:=29) (Y:=Bool) (G:=Unit) (fun x γ=>[(0,(zp Jg.mb)),(1,(I a1)),(2,(I a2)),(6,(U 0)),(15,(.bool x))]) (fun x γ w=>Post No [memR Jg a0] w0 w) hD ?_ ?_
 ·
  rintro y1 RPy1 nxy1 hD;refine q6 (kM (I a2) r rfl rfl fun r=>kB r rfl rfl rfl rfl rfl fun r=>kM (.bool (decide (a2<0))) r rfl rfl fun r=>?_);refine bG (decide (a2<0)) (fun h2=>?_) (fun h2=>?_)
  ·
   have hD:=z7 (ar h2) hD;refine s0 r h2 fun fr r=>s0 r h2 fun fr r=>s0 r h2 fun fr r=>s0 r h2 fun fr r=>s0 r h2 fun fr r=>aa (.bool true) r (fun R=>ay r (b:=true) (kb h2) rfl) rfl fun fr r=>wn ?_;exact nxy1 true () _ _ _ hD r (kO (aq rfl aJ)) (hP.pick [0] rfl rfl)
  have hD:=z7 (ai h2) hD;refine s1 r h2 (kM (I a2) r rfl rfl fun r=>s1 r h2 (kM (zp Jg.mb) r rfl rfl fun r=>s1 r h2 (kM (I a1) r rfl rfl fun r=>s1 r h2 ?_)));obtain ⟨x3,hx3,hD⟩:=aG hD
  refine kE r (mW w0 a0 (hP.Le (i:=0) rfl) a1 hx3) rfl cl67 rfl fun w4 hb r=>?_;have hP:=hP.below hb
  refine s1 r h2 (kB r rfl rfl rfl rfl rfl fun r=>aa (.bool (decide (a2>=x3))) r (fun R=>ay r (b:=false) (kb h2) rfl) rfl fun fr r=>wn ?_);exact nxy1 (decide (a2>=x3)) () _ _ _ hD r (kO (aq rfl aJ)) (hP.pick [0] rfl rfl)
 rintro x5 γ6 fr w7 g r hP hD;have hP:Post No [_] w0 w7:=hP;refine q5 (t:=x5) (r.ev rfl) (fun h8=>?_) (fun h8=>?_)
 ·
  have hD:=z7 (ar h8) hD;refine I0 (kA (U 0) r rfl rfl fun r=>wn (q4 ?_));have hv:0=res:=Option.some.inj hD
  try dsimp only [Exit.then,Exit.inBlock]
  refine aT (fn:=Tryz.f21) r (t:=6) rfl (v:=(U 0)) rfl ?_;subst hv;exact ⟨rfl,hP.KE.below⟩
 have hD:=z7 (ai h8) hD;refine q7 (I0 (kM (zp Jg.mb) r rfl rfl fun r=>aa (zp Jg.mb) r (fun R=>dz r rfl) rfl fun fr r=>aa _ r (fun R=>az r (b:=Jg.mb) (o:=0) (k:=0) rfl jZ) rfl fun fr r=>kL (.slice (some ⟨Jg.lb,0,none⟩) 1 Jg.cap) r rfl (hP.Le (i:=0) rfl).hdr mE rfl rfl fun r=>kM (I a1) r rfl rfl fun r=>?_));obtain ⟨x9,hx9,hD⟩:=aG hD
 refine aa (.pointer (some ⟨Jg.lb,0+a1.toNat * 1,none⟩)) r (fun R=>jC r rU rfl rfl (by have h0:=(gj hx9); omega) (by have h0:=(gj hx9); omega)) rfl fun fr r=>aa (zp Jg.rb) r (fun R=>qV r (hP.Le (i:=0) rfl) rfl (gj hx9) sn) rfl fun fr r=>aa (zp Jg.rb) r (fun R=>dz r rfl) rfl fun fr r=>aa _ r (fun R=>az r (b:=Jg.rb) (o:=0) (k:=0) rfl rL) rfl fun fr r=>kL (.slice (some ⟨Jg.wb,0,none⟩) a0.ws.length a0.ws.length) r rfl (hP.Le (i:=0) rfl).reg to66 rfl rfl fun r=>kM (I a2) r rfl rfl fun r=>?_;obtain ⟨Jn,hx10,hD⟩:=aG hD
 refine aa (.pointer (some ⟨Jg.wb,0+a2.toNat * 1,none⟩)) r (fun R=>jC r sl66 rfl rfl (fF hx10).1 (fF hx10).2.1) rfl fun fr r=>aa (U Jn) r (fun R=>qR r (hP.Le (i:=0) rfl) hx10 rfl Ja) rfl fun fr r=>kA (U Jn) r rfl rfl fun r=>wn (q4 ?_);have hv:Jn=res:=Option.some.inj hD
 try dsimp only [Exit.then,Exit.inBlock]
 refine aT (fn:=Tryz.f21) r (t:=6) rfl (v:=(U Jn)) rfl ?_;subst hv;exact ⟨rfl,hP.KE.below⟩
end Go.Proofs.YtbbipmelhmgmfaaGreat

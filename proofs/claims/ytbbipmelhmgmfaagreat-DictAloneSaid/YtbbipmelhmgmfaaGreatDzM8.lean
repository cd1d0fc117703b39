/- Some of our texts, one behind the other. -/
import Derived.Test.YtbbipmelhmgmfaaGreatDzM7
set_option linter.all false
set_option maxRecDepth 100000
set_option maxHeartbeats 20000000
/- Ours. -/
namespace Go.Proofs.YtbbipmelhmgmfaaGreat.St
open Go.RowKit
theorem xM:arrTy B0 244 3 2:=kz
theorem mC:af B0 191:=kz
theorem xD:af B0 196:=kz
theorem FZ:af B0 197:=kz
theorem yQ:af B0 198:=kz
theorem GY:af B0 217:=kz
theorem xS:af B0 288:=kz
theorem pF:af B0 296:=kz
theorem p6:isSlice B0 248:=kz
theorem is66:isSlice B0 66:=kz
theorem rt66:rowTy B0 66 34 1:=kz
theorem sw:sliceTy B0 248 2:=kz
theorem sl66:sliceTy B0 66 1:=kz
theorem Hp:tyA B0 244 6:=kz
theorem ti3:intTy B0 3 .i64:=kz
theorem KO:intTy B0 34 .u64:=kz
theorem Ja:tyO B0 34:=kz
theorem kv:sized B0 241 2:=kz
theorem sq:sized B0 244 6:=kz
theorem ky:zeroOf B0 241=some (z6 (aR (⟨0,0⟩:Field))):=kz
theorem sm:zeroOf B0 244=some (z6 (dE (⟨(⟨0,0⟩:Field),(⟨0,0⟩:Field),(⟨0,0⟩:Field)⟩:Arr3F))):=kz
def D.nM (fu:Nat) :Option (Arr3F):=(some (⟨(⟨0,30⟩:Field),(⟨30,2⟩:Field),(⟨32,2⟩:Field)⟩:Arr3F))
theorem uk {fu:Nat} (w0:World) {res:Arr3F} (hD:D.nM fu =some res) :
    Calls B0 196 #[] w0 (bB (z6 (dE res)) w0):=by
 refine enter Tryz.func196 rfl 5 rfl rfl fun fr r=>?_;have hP:Post No [] w0 w0:=Post.nil w0
 unfold D.nM at hD
 refine I0 ?_;refine ah (.cells ((dE (⟨(⟨0,0⟩:Field),(⟨0,0⟩:Field),(⟨0,0⟩:Field)⟩:Arr3F))).toArray 244 (0,0)) r (fun R=>ag sm) rfl fun fr b1 w2 n3 r=>?_;have hP:Post No [ae b1 ((dE (⟨(⟨0,0⟩:Field),(⟨0,0⟩:Field),(⟨0,0⟩:Field)⟩:Arr3F))).toArray 244] w0 w2:=hP.new n3
 refine wn (I0 (kU (z6 (aR (⟨0,30⟩:Field))) r kz rfl fun r=>kU (z6 (aR (⟨30,2⟩:Field))) r kz rfl fun r=>kU (z6 (aR (⟨32,2⟩:Field))) r kz rfl fun r=>kU (z6 (dE (⟨(⟨0,30⟩:Field),(⟨30,2⟩:Field),(⟨32,2⟩:Field)⟩:Arr3F))) r kz rfl fun r=>?_));refine aM (.cells ((dE (⟨(⟨0,30⟩:Field),(⟨30,2⟩:Field),(⟨32,2⟩:Field)⟩:Arr3F))).toArray 244 (0,0)) r (fun R=>bb r (o:=0) (v:=(z6 (dE (⟨(⟨0,30⟩:Field),(⟨30,2⟩:Field),(⟨32,2⟩:Field)⟩:Arr3F)))) rfl rfl (hP.cell (i:=0) rfl) sq u7 rfl rfl) rfl fun fr w5 u6 r=>?_
 have hP:Post No [ae b1 ((dE (⟨(⟨0,30⟩:Field),(⟨30,2⟩:Field),(⟨32,2⟩:Field)⟩:Arr3F))).toArray 244] w0 w5:=hP.upd (i:=0) rfl u6;refine wn (q4 ?_);have hv:(⟨(⟨0,30⟩:Field),(⟨30,2⟩:Field),(⟨32,2⟩:Field)⟩:Arr3F)=res:=Option.some.inj hD
 try dsimp only [Exit.then,Exit.inBlock]
 refine ak r rfl rfl (hP.cell (i:=0) rfl) (k:=6) rfl Hp ?_;subst hv;exact ⟨rfl,hP.KE.below⟩
def D.lF (fu:Nat) (a0:List Field):Option (Bool):=(loopThen (fun (x1:Bool × Int × Int)=>(bif (decide (x1.2.2<(a0.length:Int))) then ((Jj a0 x1.2.2).bind (fun (x6:Field)=>(Option.bind (bif (!(D.cf x6)) then (some true) else (some ((cL .u64 x1.2.1 (D.cz x6)) !=0))) (fun (K2:Bool)=>(bif K2 then (some (Lp.ret false)) else (some (Lp.next (x1.1,(dS .u64 x1.2.1 (D.cz x6)),(IntKind.i64.wrap (x1.2.2+1)))))))))) else (some (Lp.brk (x1.1,x1.2.1,x1.2.2))))) fu (false,0,0) (fun (Kb:Bool × Int × Int)=>(some true)))
theorem uj {fu:Nat} (w0:World) {Ji:Value} (a0:List Field) (a0h:I1 241 2 aR Ji a0 w0) {res:Bool} (hD:D.lF fu a0=some res) :
    Calls B0 288 #[Ji] w0 (bB (.bool res) w0):=by
 refine enter Tryz.func288 rfl 27 rfl rfl fun fr r=>?_;have hP:Post No [] w0 w0:=Post.nil w0
 have hP:Post No [IZ 241 2 aR Ji a0] w0 w0:=hP.addRo bg a0h rfl a0h.lt;unfold D.lF at hD
 refine I0 (kA (.bool false) r rfl rfl fun r=>wn (I0 (kA (U 0) r rfl rfl fun r=>wn (d9 (I0 (kM Ji r rfl rfl fun r=>aa (I (a0.length:Int)) r (fun R=>cW r (hP.ro (i:=0) rfl) p6 rfl) rfl fun fr r=>kM (I 0) r rfl rfl fun r=>wn ?_))))));refine dV (X:=Bool × Int × Int) (G:=Unit) (x0:=(false,0,0)) (fun x γ=>[(0,Ji),(6,Ji),(7,(I (a0.length:Int))),(2,(.bool x.1)),(3,(U x.2.1)),(8,(I x.2.2))]) (fun x γ w=>Post No [IZ 241 2 aR Ji a0] w0 w) () r (kO (aq rfl (aq rfl aJ))) hP hD ?_ ?_
 ·
  rintro x1 γ2 fr w4 g y3 RPy3 nxy3 bky3 rty3 r hP hD;have hP:Post No [_] w0 w4:=hP;refine I0 (kB r rfl rfl rfl rfl rfl fun r=>wn (d9 ?_));refine q5 (t:=(decide (x1.2.2<(a0.length:Int)))) (r.ev rfl) (fun h5=>?_) (fun h5=>?_)
  ·
   have hD:=z7 (ar h5) hD;refine q7 (d9 (wp_block (I0 ?_)));obtain ⟨x6,hx6,hD⟩:=aG hD;refine aa (.pointer (some ⟨J1 Ji,J2 Ji+x1.2.2.toNat * 2,none⟩)) r (fun R=>cu r (hP.ro (i:=0) rfl) hx6 sw rfl rfl) rfl fun fr r=>aa (z6 (aR x6)) r (fun R=>jD r (cs:=(aR x6)) (I1.at_ (f:=aR) (x:=x6) (hP.ro (i:=0) rfl) (fun _=>rfl) hx6) rfl dn) rfl fun fr r=>?_;refine ah (.cells ((aR (⟨0,0⟩:Field))).toArray 241 (0,0)) r (fun R=>ag ky) rfl fun fr b7 w8 n9 r=>?_
   have hP:Post No [_,ae b7 ((aR (⟨0,0⟩:Field))).toArray 241] w0 w8:=hP.new n9;refine aM (.cells ((aR x6)).toArray 241 (0,0)) r (fun R=>bb r (o:=0) (v:=(z6 (aR x6))) rfl rfl (hP.cell (i:=1) rfl) kv u7 rfl rfl) rfl fun fr JV JH r=>?_;have hP:Post No [_,ae b7 ((aR x6)).toArray 241] w0 JV:=hP.upd (i:=1) rfl JH
   refine wn (d9 (d9 ?_));refine cR (N:=27) (Y:=Bool) (G:=Unit) (fun x γ=>[(0,Ji),(6,Ji),(7,(I (a0.length:Int))),(2,(.bool x1.1)),(3,(U x1.2.1)),(8,(I x1.2.2)),(9,(.bool (decide (x1.2.2<(a0.length:Int))))),(5,(zp b7)),(21,(.bool x))]) (fun x γ w=>Post No [IZ 241 2 aR Ji a0,ae b7 ((aR x6)).toArray 241] w0 w) hD ?_ ?_
   ·
    rintro y13 RPy13 nxy13 hD;refine q6 (kG (aR x6) 2 r rfl (hP.cell (i:=1) rfl) dn rfl rfl fun r=>?_);refine kE r (kZ JV x6) rfl mh rfl fun w14 hb r=>?_
    have hP:=hP.below hb;refine aa (.bool (!(D.cf x6))) r (fun R=>JQ r (u:=(.bool (D.cf x6))) rfl rfl) rfl fun fr r=>kM (.bool (!(D.cf x6))) r rfl rfl fun r=>?_;refine bG (!(D.cf x6)) (fun h15=>?_) (fun h15=>?_)
    ·
     have hD:=z7 (ar h15) hD;refine s0 r h15 fun fr r=>s0 r h15 fun fr r=>s0 r h15 fun fr r=>s0 r h15 fun fr r=>s0 r h15 fun fr r=>aa (.bool true) r (fun R=>ay r (b:=true) (kb h15) rfl) rfl fun fr r=>wn ?_;exact nxy13 true () _ _ _ hD r (kO (kO (aq rfl aJ))) (hP.pick [0,1] rfl rfl)
    have hD:=z7 (ai h15) hD;refine s1 r h15 (kM (U x1.2.1) r rfl rfl fun r=>s1 r h15 (kG (aR x6) 2 r rfl (hP.cell (i:=1) rfl) dn rfl rfl fun r=>s1 r h15 ?_));refine kE r (mQ w14 x6) rfl px rfl fun w16 hb r=>?_
    have hP:=hP.below hb;refine s1 r h15 (kB r rfl rfl rfl rfl rfl fun r=>s1 r h15 (kB r rfl rfl rfl rfl rfl fun r=>aa (.bool ((cL .u64 x1.2.1 (D.cz x6)) !=0)) r (fun R=>ay r (b:=false) (kb h15) rfl) rfl fun fr r=>wn ?_));exact nxy13 ((cL .u64 x1.2.1 (D.cz x6)) !=0) () _ _ _ hD r (kO (kO (aq rfl aJ))) (hP.pick [0,1] rfl rfl)
   rintro K2 γ18 fr w19 g r hP hD;have hP:Post No [_,_] w0 w19:=hP;refine q5 (t:=K2) (r.ev rfl) (fun h20=>?_) (fun h20=>?_)
   ·
    have hD:=z7 (ar h20) hD;refine I0 (kA (.bool false) r rfl rfl fun r=>wn (q4 ?_));refine rty3 false _ _ hD fun hD=>?_
    have hv:false=res:=Option.some.inj hD
    try dsimp only [Exit.then,Exit.inBlock]
    refine aT (fn:=Tryz.f288) r (t:=2) rfl (v:=(.bool false)) rfl ?_;subst hv;exact ⟨rfl,hP.KE.below⟩
   have hD:=z7 (ai h20) hD;refine q7 ?_;refine q6 (kM (U x1.2.1) r rfl rfl fun r=>kG (aR x6) 2 r rfl (hP.cell (i:=1) rfl) dn rfl rfl fun r=>?_);refine kE r (mQ w19 x6) rfl px rfl fun w21 hb r=>?_
   have hP:=hP.below hb;refine kB r rfl rfl rfl rfl rfl fun r=>kA (U (dS .u64 x1.2.1 (D.cz x6))) r rfl rfl fun r=>wn ?_;refine q6 (kB r rfl rfl rfl rfl rfl fun r=>kM (I (W (x1.2.2+1))) r rfl rfl fun r=>wn ?_)
   exact nxy3 (x1.1,(dS .u64 x1.2.1 (D.cz x6)),(W (x1.2.2+1))) () _ _ _ hD r (kO (aq rfl (aq rfl aJ))) (hP.pick [0] rfl rfl)
  have hD:=z7 (ai h5) hD;refine wp_exit ?_;exact bky3 (x1.1,x1.2.1,x1.2.2) () _ _ _ hD r (kO (aq rfl (aq rfl aJ))) (hP.pick [0] rfl rfl)
 rintro Kb γ23 fr w24 g r hP hD;have hP:Post No [_] w0 w24:=hP;refine I0 (kA (.bool true) r rfl rfl fun r=>wn (q4 ?_));have hv:true=res:=Option.some.inj hD
 try dsimp only [Exit.then,Exit.inBlock]
 refine aT (fn:=Tryz.f288) r (t:=2) rfl (v:=(.bool true)) rfl ?_;subst hv;exact ⟨rfl,hP.KE.below⟩
def D.iO (fu:Nat) (a0:List Field) (a1:Int):Option (List Int × Int):=((D.lF fu a0).bind (fun (x1:Bool)=>(bif (!x1) then (some ([],1)) else (loopThen (fun (x6:List Int × Int × Int)=>(bif (decide (x6.2.2<(a0.length:Int))) then ((Jj a0 x6.2.2).bind (fun (JI:Field)=>((JW x6.1 ([(D.bN JI a1)])).bind (fun (JE:List Int)=>(some (Lp.next (JE,(cH .u64 x6.2.1 (D.cz JI)),(IntKind.i64.wrap (x6.2.2+1))))))))) else (some (Lp.brk (x6.1,x6.2.1,x6.2.2))))) fu ([],a1,0) (fun (x28:List Int × Int × Int)=>(bif (x28.2.1 !=0) then (some ([],10)) else (some (x28.1,0))))))))
theorem C0 {fu:Nat} (w0:World) {Ji:Value} (a0:List Field) (a0h:I1 241 2 aR Ji a0 w0) (a1:Int) {res:List Int × Int} (hD:D.iO fu a0 a1=some res) :
    Calls B0 197 #[Ji,.int .u64 a1] w0 (fun e w'=>∃ (v0:Value),e=.returned (.tuple #[v0,(.int .i64 res.2)])/\Kv No No [II 34 1 u64 v0 res.1] w0 w'):=by
 refine enter Tryz.func197 rfl 34 rfl rfl fun fr r=>?_;have hP:Post No [] w0 w0:=Post.nil w0
 have hP:Post No [IZ 241 2 aR Ji a0] w0 w0:=hP.addRo bg a0h rfl a0h.lt;unfold D.iO at hD
 refine I0 (kA kS r rfl rfl fun r=>kA (I 0) r rfl rfl fun r=>wn (d9 (I0 (kM Ji r rfl rfl fun r=>?_))));obtain ⟨x1,hx1,hD⟩:=aG hD
 refine kE r (uj w0 a0 (hP.ro (i:=0) rfl) hx1) rfl xS rfl fun w2 hb r=>?_;have hP:=hP.below hb
 refine aa (.bool (!x1)) r (fun R=>JQ r (u:=(.bool x1)) rfl rfl) rfl fun fr r=>wn ?_;refine q5 (t:=(!x1)) (r.ev rfl) (fun h3=>?_) (fun h3=>?_)
 ·
  have hD:=z7 (ar h3) hD;refine I0 (kA kS r rfl rfl fun r=>kA (I 1) r rfl rfl fun r=>wn (q4 ?_));have hP:Post No [_,II 34 1 u64 kS ([])] w0 w2:=hP.nilRow 34 1 u64
  have hv:([],1)=res:=Option.some.inj hD
  try dsimp only [Exit.then,Exit.inBlock]
  refine fE (fn:=Tryz.f197) r (t:=4) (t':=5) rfl (v:=kS) (v':=(I 1)) rfl rfl ?_;subst hv;exact ⟨kS,rfl,(hP.pick [1] rfl rfl).done (dg rfl cG)⟩
 have hD:=z7 (ai h3) hD;refine q7 (I0 (kA kS r rfl rfl fun r=>wn (I0 (kM (U a1) r rfl rfl fun r=>kA (U a1) r rfl rfl fun r=>wn (d9 (I0 (kM Ji r rfl rfl fun r=>aa (I (a0.length:Int)) r (fun R=>cW r (hP.ro (i:=0) rfl) p6 rfl) rfl fun fr r=>kM (I 0) r rfl rfl fun r=>wn ?_)))))));have hP:Post No [_,_] w0 w2:=hP.nilRow 34 1 u64
 refine dV (X:=List Int × Int × Int) (G:=Value) (x0:=([],a1,0)) (fun x γ=>[(0,Ji),(1,(U a1)),(4,kS),(5,(I 0)),(12,(.bool (!x1))),(14,Ji),(15,(I (a0.length:Int))),(6,γ),(7,(U x.2.1)),(16,(I x.2.2))]) (fun x γ w=>Post No [IZ 241 2 aR Ji a0,II 34 1 u64 γ x.1] w0 w) kS r (kO (kO (aq rfl (aq rfl aJ)))) hP hD ?_ ?_
 ·
  rintro x6 γ7 fr w9 g y8 RPy8 nxy8 bky8 rty8 r hP hD;have hP:Post No [_,_] w0 w9:=hP;refine I0 (kB r rfl rfl rfl rfl rfl fun r=>wn (d9 ?_));refine q5 (t:=(decide (x6.2.2<(a0.length:Int)))) (r.ev rfl) (fun JS=>?_) (fun JS=>?_)
  ·
   have hD:=z7 (ar JS) hD;refine q7 (d9 (wp_block (I0 ?_)));obtain ⟨JI,hx11,hD⟩:=aG hD;refine aa (.pointer (some ⟨J1 Ji,J2 Ji+x6.2.2.toNat * 2,none⟩)) r (fun R=>cu r (hP.ro (i:=0) rfl) hx11 sw rfl rfl) rfl fun fr r=>aa (z6 (aR JI)) r (fun R=>jD r (cs:=(aR JI)) (I1.at_ (f:=aR) (x:=JI) (hP.ro (i:=0) rfl) (fun _=>rfl) hx11) rfl dn) rfl fun fr r=>?_;refine ah (.cells ((aR (⟨0,0⟩:Field))).toArray 241 (0,0)) r (fun R=>ag ky) rfl fun fr b12 Kc n14 r=>?_
   have hP:Post No [_,_,ae b12 ((aR (⟨0,0⟩:Field))).toArray 241] w0 Kc:=hP.new n14;refine aM (.cells ((aR JI)).toArray 241 (0,0)) r (fun R=>bb r (o:=0) (v:=(z6 (aR JI))) rfl rfl (hP.cell (i:=2) rfl) kv u7 rfl rfl) rfl fun fr w16 K3 r=>?_;have hP:Post No [_,_,ae b12 ((aR JI)).toArray 241] w0 w16:=hP.upd (i:=2) rfl K3
   refine wn (I0 (kM γ7 r rfl rfl fun r=>kG (aR JI) 2 r rfl (hP.cell (i:=2) rfl) dn rfl rfl fun r=>kM (U a1) r rfl rfl fun r=>?_));refine kE r (mY w16 JI a1) rfl mC rfl fun w18 hb r=>?_
   have hP:=hP.below hb;refine eH (.cells (([(D.bN JI a1)]).flatMap u64).toArray 34 (0,0)) 1 r (fun R=>cJ r kz) rfl fun fr b19 w20 n21 r=>?_;have hP:Post No [_,_,_,II 34 1 u64 (.slice (some ⟨b19,0,none⟩) 1 1) ([(D.bN JI a1)])] w0 w20:=hP.newRow n21 (fun _=>rfl) rfl
   obtain ⟨JE,hx23,hD⟩:=aG hD;refine dR 34 1 u64 γ7 r (fun R=>dN r rt66 (fun _=>rfl) (fun _=>rfl) (hP.row (i:=1) rfl) (hP.row (i:=3) rfl).ro hx23 rfl rfl) rfl fun fr KH w25 ha26 r=>?_;have hP:Post No [_,II 34 1 u64 KH JE,_,_] w0 w25:=hP.append (i:=1) rfl ha26
   refine kA KH r rfl rfl fun r=>wn ?_;refine q6 (kM (U x6.2.1) r rfl rfl fun r=>kG (aR JI) 2 r rfl (hP.cell (i:=2) rfl) dn rfl rfl fun r=>?_)
   refine kE r (mQ w25 JI) rfl px rfl fun w27 hb r=>?_;have hP:=hP.below hb
   refine kB r rfl rfl rfl rfl rfl fun r=>kA (U (cH .u64 x6.2.1 (D.cz JI))) r rfl rfl fun r=>wn ?_;refine q6 (kB r rfl rfl rfl rfl rfl fun r=>kM (I (W (x6.2.2+1))) r rfl rfl fun r=>wn ?_)
   exact nxy8 (JE,(cH .u64 x6.2.1 (D.cz JI)),(W (x6.2.2+1))) KH _ _ _ hD r (kO (kO (aq rfl (aq rfl aJ)))) (hP.pick [0,1] rfl rfl)
  have hD:=z7 (ai JS) hD;refine wp_exit ?_;exact bky8 (x6.1,x6.2.1,x6.2.2) γ7 _ _ _ hD r (kO (kO (aq rfl (aq rfl aJ)))) (hP.pick [0,1] rfl rfl)
 rintro x28 γ29 fr w30 g r hP hD;have hP:Post No [_,_] w0 w30:=hP;refine d9 (I0 (kM (U x28.2.1) r rfl rfl fun r=>kB r rfl rfl rfl rfl rfl fun r=>wn ?_));refine q5 (t:=(x28.2.1 !=0)) (r.ev rfl) (fun h31=>?_) (fun h31=>?_)
 ·
  have hD:=z7 (ar h31) hD;refine I0 (kA kS r rfl rfl fun r=>kA (I 10) r rfl rfl fun r=>wn (q4 ?_));have hP:Post No [_,_,II 34 1 u64 kS ([])] w0 w30:=hP.nilRow 34 1 u64
  have hv:([],10)=res:=Option.some.inj hD
  try dsimp only [Exit.then,Exit.inBlock]
  refine fE (fn:=Tryz.f197) r (t:=4) (t':=5) rfl (v:=kS) (v':=(I 10)) rfl rfl ?_;subst hv;exact ⟨kS,rfl,(hP.pick [2] rfl rfl).done (dg rfl cG)⟩
 have hD:=z7 (ai h31) hD;refine q7 (I0 (kM γ29 r rfl rfl fun r=>kA γ29 r rfl rfl fun r=>kA (I 0) r rfl rfl fun r=>wn (q4 ?_)));have hv:(x28.1,0)=res:=Option.some.inj hD
 try dsimp only [Exit.then,Exit.inBlock]
 refine fE (fn:=Tryz.f197) r (t:=4) (t':=5) rfl (v:=γ29) (v':=(I 0)) rfl rfl ?_;subst hv;exact ⟨γ29,rfl,(hP.pick [1] rfl rfl).done (dg rfl cG)⟩
def D.aV (fu:Nat) (a0:Int):Option (State × Bool):=((D.nM fu ).bind (fun (x5:Arr3F)=>((D.iO fu ([x5.f0,x5.f1,x5.f2]) a0).bind (fun (IC:List Int × Int)=>(bif (IC.2 !=0) then (some ((⟨0,0,0⟩:State),false)) else ((Jj IC.1 0).bind (fun (x20:Int)=>((Jj IC.1 1).bind (fun (Jh:Int)=>((Jj IC.1 2).bind (fun (Kb:Int)=>(bif (!(D.dh (⟨(IntKind.i64.wrap x20),(IntKind.i64.wrap Jh),(IntKind.i64.wrap Kb)⟩:State))) then (some ((⟨0,0,0⟩:State),false)) else (some ((⟨(IntKind.i64.wrap x20),(IntKind.i64.wrap Jh),(IntKind.i64.wrap Kb)⟩:State),true))))))))))))))
theorem lM {fu:Nat} (w0:World) (a0:Int) {res:State × Bool} (hD:D.aV fu a0=some res) :
    Calls B0 111 #[.int .u64 a0] w0 (bB (.tuple #[(z6 (aQ res.1)),(.bool res.2)]) w0):=by
 refine enter Tryz.func111 rfl 36 rfl rfl fun fr r=>?_;have hP:Post No [] w0 w0:=Post.nil w0
 unfold D.aV at hD
 refine I0 ?_;refine ah (.cells ((aQ (⟨0,0,0⟩:State))).toArray 190 (0,0)) r (fun R=>ag gu) rfl fun fr b1 w2 n3 r=>?_;have hP:Post No [ae b1 ((aQ (⟨0,0,0⟩:State))).toArray 190] w0 w2:=hP.new n3
 refine kA (.bool false) r rfl rfl fun r=>wn (I0 ?_);obtain ⟨x5,hx5,hD⟩:=aG hD
 refine kE r (uk w2  hx5) rfl xD rfl fun w6 hb r=>?_;have hP:=hP.below hb
 refine ah (.cells ((dE (⟨(⟨0,0⟩:Field),(⟨0,0⟩:Field),(⟨0,0⟩:Field)⟩:Arr3F))).toArray 244 (0,0)) r (fun R=>ag sm) rfl fun fr b7 w8 n9 r=>?_;have hP:Post No [_,ae b7 ((dE (⟨(⟨0,0⟩:Field),(⟨0,0⟩:Field),(⟨0,0⟩:Field)⟩:Arr3F))).toArray 244] w0 w8:=hP.new n9
 refine aM (.cells ((dE x5)).toArray 244 (0,0)) r (fun R=>bb r (o:=0) (v:=(z6 (dE x5))) rfl rfl (hP.cell (i:=1) rfl) sq u7 rfl rfl) rfl fun fr JV JH r=>?_;have hP:Post No [_,ae b7 ((dE x5)).toArray 244] w0 JV:=hP.upd (i:=1) rfl JH
 refine wn (I0 (aa (.slice (some ⟨b7,0,none⟩) 3 3) r (fun R=>yf r xM rfl) rfl fun fr r=>kM (U a0) r rfl rfl fun r=>?_));obtain ⟨IC,hx13,hD⟩:=aG hD
 refine kC r (C0 JV ([x5.f0,x5.f1,x5.f2]) (I1.ofCell (hP.cell (i:=1) rfl) rfl (List.cons_ne_nil _ _) rfl) a0 hx13) rfl FZ rfl ?_;rintro _ w14 ⟨JF,rfl,hq⟩;refine ⟨_,rfl,fun fr r=>?_⟩
 have hP:Post No [_,_,II 34 1 u64 JF IC.1] w0 w14:=hP.add hq;refine kM (.tuple #[JF,(I IC.2)]) r rfl rfl fun r=>aa JF r (fun R=>bZ r (vs:=#[JF,(I IC.2)]) rfl rfl) rfl fun fr r=>aa (I IC.2) r (fun R=>bZ r (vs:=#[JF,(I IC.2)]) rfl rfl) rfl fun fr r=>kA JF r rfl rfl fun r=>kA (I IC.2) r rfl rfl fun r=>wn (d9 (I0 (kM (I IC.2) r rfl rfl fun r=>kB r rfl rfl rfl rfl rfl fun r=>wn ?_)));refine q5 (t:=(IC.2 !=0)) (r.ev rfl) (fun h17=>?_) (fun h17=>?_)
 ·
  have hD:=z7 (ar h17) hD;refine I0 (kU (z6 (aQ (⟨0,0,0⟩:State))) r kz rfl fun r=>?_)
  refine aM (.cells ((aQ (⟨0,0,0⟩:State))).toArray 190 (0,0)) r (fun R=>bb r (o:=0) (v:=(z6 (aQ (⟨0,0,0⟩:State)))) rfl rfl (hP.cell (i:=0) rfl) eS u7 rfl rfl) rfl fun fr w18 u19 r=>?_;have hP:Post No [_,_,_] w0 w18:=hP.upd (i:=0) rfl u19
  refine kA (.bool false) r rfl rfl fun r=>wn (q4 ?_);have hv:((⟨0,0,0⟩:State),false)=res:=Option.some.inj hD
  try dsimp only [Exit.then,Exit.inBlock]
  refine fT (fn:=Tryz.f111) r rfl rfl (v':=(.bool false)) rfl (hP.cell (i:=0) rfl) (k:=3) rfl dY ?_;subst hv;exact ⟨rfl,hP.KE.below⟩
 have hD:=z7 (ai h17) hD;refine q7 (d9 ?_);obtain ⟨x20,hx20,hD⟩:=aG hD;obtain ⟨Jh,hx21,hD⟩:=aG hD;obtain ⟨Kb,hx22,hD⟩:=aG hD;refine dl [.val JF,.val (.pointer (some ⟨J1 JF,J2 JF+(0:Int).toNat * 1,none⟩)),.val (U x20),.val (I (W x20)),.val JF,.val (.pointer (some ⟨J1 JF,J2 JF+(1:Int).toNat * 1,none⟩)),.val (U Jh),.val (I (W Jh)),.val JF,.val (.pointer (some ⟨J1 JF,J2 JF+(2:Int).toNat * 1,none⟩)),.val (U Kb),.val (I (W Kb)),.val (z6 (aQ (⟨(W x20),(W Jh),(W Kb)⟩:State))),.cell 190 3,.stored 13 ((aQ (⟨(W x20),(W Jh),(W Kb)⟩:State))).toArray 190 3 rfl] mixed r kz ?_ ?_
 ·
  refine fc r (fun I2 g w' hb' hd r'=>aw r' rfl bz) ?_;refine fc r (fun I2 g w' hb' hd r'=>cu r' ((hP.z8 hb').row (i:=2) rfl).ro hx20 sl66 (hd 0 rfl).1 rfl bz) ?_
  refine fc r (fun I2 g w' hb' hd r'=>cP r' (u:=(U x20)) (I1.at_ (f:=u64) (x:=x20) ((hP.z8 hb').row (i:=2) rfl).ro (fun _=>rfl) hx20) (hd 1 rfl).1 Ja bz) ?_;refine fc r (fun I2 g w' hb' hd r'=>cV r' (n:=x20) (hd 2 rfl).1 KO ti3 bz) ?_
  refine fc r (fun I2 g w' hb' hd r'=>aw r' rfl bz) ?_;refine fc r (fun I2 g w' hb' hd r'=>cu r' ((hP.z8 hb').row (i:=2) rfl).ro hx21 sl66 (hd 4 rfl).1 rfl bz) ?_
  refine fc r (fun I2 g w' hb' hd r'=>cP r' (u:=(U Jh)) (I1.at_ (f:=u64) (x:=Jh) ((hP.z8 hb').row (i:=2) rfl).ro (fun _=>rfl) hx21) (hd 5 rfl).1 Ja bz) ?_;refine fc r (fun I2 g w' hb' hd r'=>cV r' (n:=Jh) (hd 6 rfl).1 KO ti3 bz) ?_
  refine fc r (fun I2 g w' hb' hd r'=>aw r' rfl bz) ?_;refine fc r (fun I2 g w' hb' hd r'=>cu r' ((hP.z8 hb').row (i:=2) rfl).ro hx22 sl66 (hd 8 rfl).1 rfl bz) ?_
  refine fc r (fun I2 g w' hb' hd r'=>cP r' (u:=(U Kb)) (I1.at_ (f:=u64) (x:=Kb) ((hP.z8 hb').row (i:=2) rfl).ro (fun _=>rfl) hx22) (hd 9 rfl).1 Ja bz) ?_;refine fc r (fun I2 g w' hb' hd r'=>cV r' (n:=Kb) (hd 10 rfl).1 KO ti3 bz) ?_
  refine fc r (fun I2 g w' hb' hd r'=>eQ r' (v:=(z6 (aQ (⟨(W x20),(W Jh),(W Kb)⟩:State)))) (bs3 (congrArg (fun z=>(0,z)) (hd 3 rfl).1) (congrArg (fun z=>(1,z)) (hd 7 rfl).1) (congrArg (fun z=>(2,z)) (hd 11 rfl).1) kz) bz) ?_;refine fc r (fun I2 g w' hb' hd r'=>ag gu (fun b w2 n2=>⟨n2.below,b,rfl,n2.eq,_,n2.at_,rfl⟩)) ?_
  refine dT r rfl (fun I2 g w' hb' hd r'=>?_) ?_
  · obtain ⟨hp,_,c,hc,hn⟩:=(hd 13 rfl).1; exact bb r' (o:=0) (c:=c) (v:=(z6 (aQ (⟨(W x20),(W Jh),(W Kb)⟩:State)))) hp (hd 12 rfl).1 hc eS yar rfl (fX (hn.trans rfl)) (fun w2 u2=>⟨u2,rfl⟩)
  exact bU
 intro fr gg w24 hb Iz hap r;obtain ⟨b23,ee_b23⟩:∃ b,b=(gg 13).lo:=⟨_,rfl⟩;have g13:(gg 13).v=(zp b23):=by rw [ee_b23]; exact (Iz 13 rfl).1.1
 have H23:w24.heap[b23]?=some (.cells ((aQ (⟨(W x20),(W Jh),(W Kb)⟩:State))).toArray 190 (0,0)):=by rw [ee_b23]; exact (Iz 14 rfl).1.2
 have hs13:cy [ae b23 ((aQ (⟨(W x20),(W Jh),(W Kb)⟩:State))).toArray 190] (gg 13).lo (gg 13).hi w24:=by subst ee_b23; exact cy.cell (Iz 13 rfl).1.2.1 H23
 have r:=r.congr (sc g13 (sc ((Iz 12 rfl).1) (sc ((Iz 11 rfl).1) (sc ((Iz 10 rfl).1) (sc ((Iz 9 rfl).1) (sc ((Iz 8 rfl).1) (sc ((Iz 7 rfl).1) (sc ((Iz 6 rfl).1) (sc ((Iz 5 rfl).1) (sc ((Iz 4 rfl).1) (sc ((Iz 3 rfl).1) (sc ((Iz 2 rfl).1) (sc ((Iz 1 rfl).1) (sc ((Iz 0 rfl).1) rfl))))))))))))));have hP:Post No [_,_,_,ae b23 ((aQ (⟨(W x20),(W Jh),(W Kb)⟩:State))).toArray 190] w0 w24:=hP.addL (l:=[([ae b23 ((aQ (⟨(W x20),(W Jh),(W Kb)⟩:State))).toArray 190],(gg 13).lo,(gg 13).hi)]) hb ⟨hs13,(Iz 13 rfl).2.1,da,trivial⟩;refine d9 (I0 (kG (aQ (⟨(W x20),(W Jh),(W Kb)⟩:State)) 3 r rfl (hP.cell (i:=3) rfl) dY rfl rfl fun r=>?_));refine kE r (tw w24 (⟨(W x20),(W Jh),(W Kb)⟩:State)) rfl yQ rfl fun w25 hb r=>?_
 have hP:=hP.below hb;refine aa (.bool (!(D.dh (⟨(W x20),(W Jh),(W Kb)⟩:State)))) r (fun R=>JQ r (u:=(.bool (D.dh (⟨(W x20),(W Jh),(W Kb)⟩:State)))) rfl rfl) rfl fun fr r=>wn ?_;refine q5 (t:=(!(D.dh (⟨(W x20),(W Jh),(W Kb)⟩:State)))) (r.ev rfl) (fun h26=>?_) (fun h26=>?_)
 ·
  have hD:=z7 (ar h26) hD;refine I0 (kU (z6 (aQ (⟨0,0,0⟩:State))) r kz rfl fun r=>?_)
  refine aM (.cells ((aQ (⟨0,0,0⟩:State))).toArray 190 (0,0)) r (fun R=>bb r (o:=0) (v:=(z6 (aQ (⟨0,0,0⟩:State)))) rfl rfl (hP.cell (i:=0) rfl) eS u7 rfl rfl) rfl fun fr w27 u28 r=>?_;have hP:Post No [_,_,_,_] w0 w27:=hP.upd (i:=0) rfl u28
  refine kA (.bool false) r rfl rfl fun r=>wn (q4 ?_);have hv:((⟨0,0,0⟩:State),false)=res:=Option.some.inj hD
  try dsimp only [Exit.then,Exit.inBlock]
  refine fT (fn:=Tryz.f111) r rfl rfl (v':=(.bool false)) rfl (hP.cell (i:=0) rfl) (k:=3) rfl dY ?_;subst hv;exact ⟨rfl,hP.KE.below⟩
 have hD:=z7 (ai h26) hD;refine q7 (I0 (kG (aQ (⟨(W x20),(W Jh),(W Kb)⟩:State)) 3 r rfl (hP.cell (i:=3) rfl) dY rfl rfl fun r=>?_));refine aM (.cells ((aQ (⟨(W x20),(W Jh),(W Kb)⟩:State))).toArray 190 (0,0)) r (fun R=>bb r (o:=0) (v:=(z6 (aQ (⟨(W x20),(W Jh),(W Kb)⟩:State)))) rfl rfl (hP.cell (i:=0) rfl) eS u7 rfl rfl) rfl fun fr w29 u30 r=>?_
 have hP:Post No [ae b1 ((aQ (⟨(W x20),(W Jh),(W Kb)⟩:State))).toArray 190,_,_,_] w0 w29:=hP.upd (i:=0) rfl u30;refine kA (.bool true) r rfl rfl fun r=>wn (q4 ?_);have hv:((⟨(W x20),(W Jh),(W Kb)⟩:State),true)=res:=Option.some.inj hD
 try dsimp only [Exit.then,Exit.inBlock]
 refine fT (fn:=Tryz.f111) r rfl rfl (v':=(.bool true)) rfl (hP.cell (i:=0) rfl) (k:=3) rfl dY ?_;subst hv;exact ⟨rfl,hP.KE.below⟩
def D.iR (fu:Nat) (a0:List Field) (a1:List Int):Option (Int × Int):=(Option.bind ((D.lF fu a0).bind (fun (x2:Bool)=>(bif (!x2) then (some true) else (some ((a0.length:Int) !=(a1.length:Int)))))) (fun (x5:Bool)=>(bif x5 then (some (0,1)) else (loopThen (fun (x9:Int × Int × Int × Int)=>(bif (decide (x9.2.2.2<(a0.length:Int))) then ((Jj a0 x9.2.2.2).bind (fun (x14:Field)=>((Jj a1 x9.2.2.2).bind (fun (Jh:Int)=>(bif (decide (Jh > (D.bV x14))) then (some (Lp.ret (0,1))) else ((Jj a1 x9.2.2.2).bind (fun (x24:Int)=>(some (Lp.next (x9.1,x9.2.1,(D.cU x14 x9.2.2.1 x24),(IntKind.i64.wrap (x9.2.2.2+1)))))))))))) else (some (Lp.brk (x9.1,x9.2.1,x9.2.2.1,x9.2.2.2))))) fu (0,0,0,0) (fun (Ky:Int × Int × Int × Int)=>(some (Ky.2.2.1,0)))))))
theorem Cc {fu:Nat} (w0:World) {Ji:Value} (a0:List Field) (a0h:I1 241 2 aR Ji a0 w0) {JM:Value} (a1:List Int) (a1h:I1 34 1 u64 JM a1 w0) {res:Int × Int} (hD:D.iR fu a0 a1=some res) :
    Calls B0 217 #[Ji,JM] w0 (bB (.tuple #[(.int .u64 res.1),(.int .i64 res.2)]) w0):=by
 refine enter Tryz.func217 rfl 42 rfl rfl fun fr r=>?_;have hP:Post No [] w0 w0:=Post.nil w0
 have hP:Post No [IZ 241 2 aR Ji a0] w0 w0:=hP.addRo bg a0h rfl a0h.lt;have hP:Post No [_,IZ 34 1 u64 JM a1] w0 w0:=hP.addRo (aB rfl bg) a1h rfl a1h.lt;unfold D.iR at hD
 refine I0 (kA (U 0) r rfl rfl fun r=>kA (I 0) r rfl rfl fun r=>wn (d9 (d9 ?_)));refine cR (N:=42) (Y:=Bool) (G:=Unit) (fun x γ=>[(0,Ji),(1,JM),(4,(U 0)),(5,(I 0)),(18,(.bool x))]) (fun x γ w=>Post No [IZ 241 2 aR Ji a0,IZ 34 1 u64 JM a1] w0 w) hD ?_ ?_
 ·
  rintro y1 RPy1 nxy1 hD;refine q6 (kM Ji r rfl rfl fun r=>?_);obtain ⟨x2,hx2,hD⟩:=aG hD
  refine kE r (uj w0 a0 (hP.ro (i:=0) rfl) hx2) rfl xS rfl fun w3 hb r=>?_;have hP:=hP.below hb
  refine aa (.bool (!x2)) r (fun R=>JQ r (u:=(.bool x2)) rfl rfl) rfl fun fr r=>kM (.bool (!x2)) r rfl rfl fun r=>?_;refine bG (!x2) (fun h4=>?_) (fun h4=>?_)
  ·
   have hD:=z7 (ar h4) hD;refine s0 r h4 fun fr r=>s0 r h4 fun fr r=>s0 r h4 fun fr r=>s0 r h4 fun fr r=>s0 r h4 fun fr r=>aa (.bool true) r (fun R=>ay r (b:=true) (kb h4) rfl) rfl fun fr r=>wn ?_;exact nxy1 true () _ _ _ hD r (kO (aq rfl aJ)) (hP.pick [0,1] rfl rfl)
  have hD:=z7 (ai h4) hD;refine s1 r h4 (kM Ji r rfl rfl fun r=>s1 r h4 (aa (I (a0.length:Int)) r (fun R=>cW r (hP.ro (i:=0) rfl) p6 rfl) rfl fun fr r=>s1 r h4 (kM JM r rfl rfl fun r=>s1 r h4 (aa (I (a1.length:Int)) r (fun R=>cW r (hP.ro (i:=1) rfl) is66 rfl) rfl fun fr r=>s1 r h4 (kB r rfl rfl rfl rfl rfl fun r=>aa (.bool ((a0.length:Int) !=(a1.length:Int))) r (fun R=>ay r (b:=false) (kb h4) rfl) rfl fun fr r=>wn ?_)))));exact nxy1 ((a0.length:Int) !=(a1.length:Int)) () _ _ _ hD r (kO (aq rfl aJ)) (hP.pick [0,1] rfl rfl)
 rintro x5 γ6 fr w7 g r hP hD;have hP:Post No [_,_] w0 w7:=hP;refine q5 (t:=x5) (r.ev rfl) (fun h8=>?_) (fun h8=>?_)
 ·
  have hD:=z7 (ar h8) hD;refine I0 (kA (U 0) r rfl rfl fun r=>kA (I 1) r rfl rfl fun r=>wn (q4 ?_));have hv:(0,1)=res:=Option.some.inj hD
  try dsimp only [Exit.then,Exit.inBlock]
  refine fE (fn:=Tryz.f217) r (t:=4) (t':=5) rfl (v:=(U 0)) (v':=(I 1)) rfl rfl ?_;subst hv;exact ⟨rfl,hP.KE.below⟩
 have hD:=z7 (ai h8) hD;refine q7 (I0 (kA (U 0) r rfl rfl fun r=>wn (d9 (I0 (kM Ji r rfl rfl fun r=>aa (I (a0.length:Int)) r (fun R=>cW r (hP.ro (i:=0) rfl) p6 rfl) rfl fun fr r=>kM (I 0) r rfl rfl fun r=>wn ?_)))));refine dV (X:=Int × Int × Int × Int) (G:=Unit) (x0:=(0,0,0,0)) (fun x γ=>[(0,Ji),(1,JM),(18,(.bool x5)),(19,Ji),(20,(I (a0.length:Int))),(4,(U x.1)),(5,(I x.2.1)),(6,(U x.2.2.1)),(21,(I x.2.2.2))]) (fun x γ w=>Post No [IZ 241 2 aR Ji a0,IZ 34 1 u64 JM a1] w0 w) () r (kO (kO (aq rfl aJ))) hP hD ?_ ?_
 ·
  rintro x9 γ10 fr w12 g y11 RPy11 nxy11 bky11 rty11 r hP hD;have hP:Post No [_,_] w0 w12:=hP;refine I0 (kB r rfl rfl rfl rfl rfl fun r=>wn (d9 ?_));refine q5 (t:=(decide (x9.2.2.2<(a0.length:Int)))) (r.ev rfl) (fun J6=>?_) (fun J6=>?_)
  ·
   have hD:=z7 (ar J6) hD;refine q7 (d9 (wp_block (I0 (kM (I x9.2.2.2) r rfl rfl fun r=>?_))));obtain ⟨x14,hx14,hD⟩:=aG hD
   refine aa (.pointer (some ⟨J1 Ji,J2 Ji+x9.2.2.2.toNat * 2,none⟩)) r (fun R=>cu r (hP.ro (i:=0) rfl) hx14 sw rfl rfl) rfl fun fr r=>aa (z6 (aR x14)) r (fun R=>jD r (cs:=(aR x14)) (I1.at_ (f:=aR) (x:=x14) (hP.ro (i:=0) rfl) (fun _=>rfl) hx14) rfl dn) rfl fun fr r=>?_;refine ah (.cells ((aR (⟨0,0⟩:Field))).toArray 241 (0,0)) r (fun R=>ag ky) rfl fun fr b15 w16 n17 r=>?_
   have hP:Post No [_,_,ae b15 ((aR (⟨0,0⟩:Field))).toArray 241] w0 w16:=hP.new n17;refine kA (I x9.2.2.2) r rfl rfl fun r=>?_;refine aM (.cells ((aR x14)).toArray 241 (0,0)) r (fun R=>bb r (o:=0) (v:=(z6 (aR x14))) rfl rfl (hP.cell (i:=2) rfl) kv u7 rfl rfl) rfl fun fr w19 u20 r=>?_
   have hP:Post No [_,_,ae b15 ((aR x14)).toArray 241] w0 w19:=hP.upd (i:=2) rfl u20;refine wn (d9 (d9 ?_));obtain ⟨Jh,hx21,hD⟩:=aG hD;refine dl [.val JM,.val (I x9.2.2.2),.val (.pointer (some ⟨J1 JM,J2 JM+x9.2.2.2.toNat * 1,none⟩)),.val (U Jh),.val (z6 (aR x14)),.val (U (D.bV x14)),.val (.bool (decide (Jh > (D.bV x14))))] mixed r kz ?_ ?_
   ·
    refine fc r (fun I2 g w' hb' hd r'=>aw r' rfl bz) ?_;refine fc r (fun I2 g w' hb' hd r'=>aw r' rfl bz) ?_
    refine fc r (fun I2 g w' hb' hd r'=>cu r' ((hP.z8 hb').ro (i:=1) rfl) hx21 sl66 (hd 0 rfl).1 (hd 1 rfl).1 bz) ?_;refine fc r (fun I2 g w' hb' hd r'=>cP r' (u:=(U Jh)) (I1.at_ (f:=u64) (x:=Jh) ((hP.z8 hb').ro (i:=1) rfl) (fun _=>rfl) hx21) (hd 2 rfl).1 Ja bz) ?_
    refine fc r (fun I2 g w' hb' hd r'=>aU r' (cs:=(aR x14)) (n:=2) rfl ((hP.z8 hb').cell (i:=2) rfl) dn rfl bz) ?_;refine fc r (fun I2 g w' hb' hd r'=>aN r' (args:=[(z6 (aR x14))]) (lc (hd 4 rfl).1 l0) py ((mP _ x14).mono JL)) ?_
    refine fc r (fun I2 g w' hb' hd r'=>bd r' (hd 3 rfl).1 (hd 5 rfl).1 rfl rfl bz) ?_;exact bU
   intro fr gg w22 hb Iz hap r;have r:=r.congr (sc ((Iz 6 rfl).1) (sc ((Iz 5 rfl).1) (sc ((Iz 4 rfl).1) (sc ((Iz 3 rfl).1) (sc ((Iz 2 rfl).1) (sc ((Iz 1 rfl).1) (sc ((Iz 0 rfl).1) rfl)))))));have hP:=hP.below hb;refine q5 (t:=(decide (Jh > (D.bV x14)))) (r.ev rfl) (fun h23=>?_) (fun h23=>?_)
   ·
    have hD:=z7 (ar h23) hD;refine I0 (kA (U 0) r rfl rfl fun r=>kA (I 1) r rfl rfl fun r=>wn (q4 ?_));refine rty11 (0,1) _ _ hD fun hD=>?_
    have hv:(0,1)=res:=Option.some.inj hD
    try dsimp only [Exit.then,Exit.inBlock]
    refine fE (fn:=Tryz.f217) r (t:=4) (t':=5) rfl (v:=(U 0)) (v':=(I 1)) rfl rfl ?_;subst hv;exact ⟨rfl,hP.KE.below⟩
   have hD:=z7 (ai h23) hD;refine q7 ?_;obtain ⟨x24,hx24,hD⟩:=aG hD;refine bI 7 [.val (z6 (aR x14)),.val (U x9.2.2.1),.val JM,.val (I x9.2.2.2),.val (.pointer (some ⟨J1 JM,J2 JM+x9.2.2.2.toNat * 1,none⟩)),.val (U x24),.val (U (D.cU x14 x9.2.2.1 x24))] mixed r kz (kV (kV (kV (kV (kV (kV (kV bH))))))) ?_ ?_
   ·
    refine ec r (fun _ u _ b d s=>aU s (cs:=(aR x14)) (n:=2) rfl ((hP.below (dr b)).cell (i:=2) rfl) dn rfl bz) (ec r (fun _ u _ b d s=>aw s rfl bz) (ec r (fun _ u _ b d s=>aw s rfl bz) (ec r (fun _ u _ b d s=>aw s rfl bz) (ec r (fun _ u _ b d s=>cu s ((hP.below (dr b)).ro (i:=1) rfl) hx24 sl66 d.1 d.2.1 bz) (ec r (fun I2 u w' hb' hd r'=>cP r' (u:=(U x24)) (I1.at_ (f:=u64) (x:=x24) ((hP.z8 hb').ro (i:=1) rfl) (fun _=>rfl) hx24) hd.1 Ja bz) (ec r (fun I2 u w' hb' hd r'=>aN r' (args:=[(z6 (aR x14)),(U x9.2.2.1),(U x24)]) (lc hd.1 (lc hd.2.1 (lc hd.2.2.1 l0))) pF ((pU _ x14 x9.2.2.1 x24).mono JL)) ?_))))));exact bJ
   intro fr u w25 hb Iz hne r;have r:=r.congr (sc (Iz 6 ke) (sc (Iz 5 ke) (sc (Iz 4 ke) (sc (Iz 3 ke) (sc (Iz 2 ke) (sc (Iz 1 ke) (sc (Iz 0 ke) rfl)))))));have hP:=hP.below hb;refine kA (U (D.cU x14 x9.2.2.1 x24)) r rfl rfl fun r=>wn ?_;refine q6 (kB r rfl rfl rfl rfl rfl fun r=>kM (I (W (x9.2.2.2+1))) r rfl rfl fun r=>wn ?_)
   exact nxy11 (x9.1,x9.2.1,(D.cU x14 x9.2.2.1 x24),(W (x9.2.2.2+1))) () _ _ _ hD r (kO (kO (aq rfl aJ))) (hP.pick [0,1] rfl rfl)
  have hD:=z7 (ai J6) hD;refine wp_exit ?_;exact bky11 (x9.1,x9.2.1,x9.2.2.1,x9.2.2.2) () _ _ _ hD r (kO (kO (aq rfl aJ))) (hP.pick [0,1] rfl rfl)
 rintro Ky γ27 fr w28 g r hP hD;have hP:Post No [_,_] w0 w28:=hP;refine I0 (kM (U Ky.2.2.1) r rfl rfl fun r=>kA (U Ky.2.2.1) r rfl rfl fun r=>kA (I 0) r rfl rfl fun r=>wn (q4 ?_));have hv:(Ky.2.2.1,0)=res:=Option.some.inj hD
 try dsimp only [Exit.then,Exit.inBlock]
 refine fE (fn:=Tryz.f217) r (t:=4) (t':=5) rfl (v:=(U Ky.2.2.1)) (v':=(I 0)) rfl rfl ?_;subst hv;exact ⟨rfl,hP.KE.below⟩
def D.cq (fu:Nat) (a0:State):Option (Int):=(bif (!(D.dh a0)) then (some 0) else ((D.nM fu ).bind (fun (x7:Arr3F)=>((D.iR fu ([x7.f0,x7.f1,x7.f2]) ([(IntKind.u64.wrap a0.IP),(IntKind.u64.wrap a0.mode),(IntKind.u64.wrap a0.kind)])).bind (fun (K2:Int × Int)=>(some K2.1))))))
theorem l4 {fu:Nat} (w0:World) (a0:State) {res:Int} (hD:D.cq fu a0=some res) :
    Calls B0 137 #[z6 (aQ a0)] w0 (bB (.int .u64 res) w0):=by
 refine enter Tryz.func137 rfl 26 rfl rfl fun fr r=>?_;have hP:Post No [] w0 w0:=Post.nil w0
 unfold D.cq at hD
 refine I0 ?_;refine kX 190 (z6 (aQ a0)) r rfl rfl fun b1 w2 n3 r=>?_;have hP:Post No [ae b1 ((aQ a0)).toArray 190] w0 w2:=hP.new n3
 refine kA (U 0) r rfl rfl fun r=>wn (d9 (I0 (kG (aQ a0) 3 r rfl (hP.cell (i:=0) rfl) dY rfl rfl fun r=>?_)));refine kE r (tw w2 a0) rfl yQ rfl fun w5 hb r=>?_
 have hP:=hP.below hb;refine aa (.bool (!(D.dh a0))) r (fun R=>JQ r (u:=(.bool (D.dh a0))) rfl rfl) rfl fun fr r=>wn ?_;refine q5 (t:=(!(D.dh a0))) (r.ev rfl) (fun h6=>?_) (fun h6=>?_)
 ·
  have hD:=z7 (ar h6) hD;refine I0 (kA (U 0) r rfl rfl fun r=>wn (q4 ?_));have hv:0=res:=Option.some.inj hD
  try dsimp only [Exit.then,Exit.inBlock]
  refine aT (fn:=Tryz.f137) r (t:=2) rfl (v:=(U 0)) rfl ?_;subst hv;exact ⟨rfl,hP.KE.below⟩
 have hD:=z7 (ai h6) hD;refine q7 (I0 ?_);obtain ⟨x7,hx7,hD⟩:=aG hD;refine kE r (uk w5  hx7) rfl xD rfl fun w8 hb r=>?_;have hP:=hP.below hb
 refine ah (.cells ((dE (⟨(⟨0,0⟩:Field),(⟨0,0⟩:Field),(⟨0,0⟩:Field)⟩:Arr3F))).toArray 244 (0,0)) r (fun R=>ag sm) rfl fun fr b9 J8 n11 r=>?_;have hP:Post No [_,ae b9 ((dE (⟨(⟨0,0⟩:Field),(⟨0,0⟩:Field),(⟨0,0⟩:Field)⟩:Arr3F))).toArray 244] w0 J8:=hP.new n11
 refine aM (.cells ((dE x7)).toArray 244 (0,0)) r (fun R=>bb r (o:=0) (v:=(z6 (dE x7))) rfl rfl (hP.cell (i:=1) rfl) sq u7 rfl rfl) rfl fun fr Kc Kr r=>?_;have hP:Post No [_,ae b9 ((dE x7)).toArray 244] w0 Kc:=hP.upd (i:=1) rfl Kr
 refine wn (d9 ?_);obtain ⟨K2,hx17,hD⟩:=aG hD;refine dl [.val (.slice (some ⟨b9,0,none⟩) 3 3),.val (zp b1),.val (I a0.IP),.val (U (V a0.IP)),.val (.pointer (some ⟨b1,1,none⟩)),.val (I a0.mode),.val (U (V a0.mode)),.val (.pointer (some ⟨b1,2,none⟩)),.val (I a0.kind),.val (U (V a0.kind)),.pred (MkP (fun v:Value=>v) (fun v:Value=>[II 34 1 u64 v ([(V a0.IP),(V a0.mode),(V a0.kind)])])) (MkP.st _ _),.val (.tuple #[(U K2.1),(I K2.2)]),.val (.tuple #[(U K2.1),(I K2.2)]),.val (U K2.1),.val (I K2.2),.val (U K2.1),.val (I K2.2)] mixed r kz ?_ ?_
 ·
  refine fc r (fun I2 g w' hb' hd r'=>yf r' xM rfl bz) ?_;refine fc r (fun I2 g w' hb' hd r'=>az r' (b:=b1) (o:=0) rfl ig bz) ?_
  refine fc r (fun I2 g w' hb' hd r'=>ax r' (hd 1 rfl).1 ((hP.z8 hb').cell (i:=0) rfl) IL rfl bz) ?_;refine fc r (fun I2 g w' hb' hd r'=>cV r' (n:=a0.IP) (hd 2 rfl).1 ti3 KO bz) ?_
  refine fc r (fun I2 g w' hb' hd r'=>az r' (b:=b1) (o:=0) rfl lX bz) ?_;refine fc r (fun I2 g w' hb' hd r'=>ax r' (hd 4 rfl).1 ((hP.z8 hb').cell (i:=0) rfl) IL rfl bz) ?_
  refine fc r (fun I2 g w' hb' hd r'=>cV r' (n:=a0.mode) (hd 5 rfl).1 ti3 KO bz) ?_;refine fc r (fun I2 g w' hb' hd r'=>az r' (b:=b1) (o:=0) rfl rF bz) ?_
  refine fc r (fun I2 g w' hb' hd r'=>ax r' (hd 7 rfl).1 ((hP.z8 hb').cell (i:=0) rfl) IL rfl bz) ?_;refine fc r (fun I2 g w' hb' hd r'=>cV r' (n:=a0.kind) (hd 8 rfl).1 ti3 KO bz) ?_
  refine fc r (fun I2 g w' hb' hd r'=>cJ r' (c:=(([(V a0.IP),(V a0.mode),(V a0.kind)]).flatMap u64).toArray) (E:=34) (bs3 (congrArg (fun z=>(0,z)) (hd 3 rfl).1) (congrArg (fun z=>(1,z)) (hd 6 rfl).1) (congrArg (fun z=>(2,z)) (hd 9 rfl).1) kz) (fun b w2 n2=>⟨n2.below,MkP.newRow n2 (fun _=>rfl) rfl⟩)) ?_;refine fc r (fun I2 g w' hb' hd r'=>aN r' (args:=[(.slice (some ⟨b9,0,none⟩) 3 3),(g 10).v]) (lc (hd 0 rfl).1 (lc rfl l0)) GY ((Cc _ ([x7.f0,x7.f1,x7.f2]) (I1.ofCell ((hP.z8 hb').cell (i:=1) rfl) rfl (List.cons_ne_nil _ _) rfl) ([(V a0.IP),(V a0.mode),(V a0.kind)]) (MkP.row (hd 10 rfl).1) hx17).mono JL)) ?_
  refine fc r (fun I2 g w' hb' hd r'=>aw r' (hd 11 rfl).1 bz) ?_;refine fc r (fun I2 g w' hb' hd r'=>bZ r' (vs:=#[(U K2.1),(I K2.2)]) (hd 12 rfl).1 rfl bz) ?_
  refine fc r (fun I2 g w' hb' hd r'=>bZ r' (vs:=#[(U K2.1),(I K2.2)]) (hd 12 rfl).1 rfl bz) ?_;refine fc r (fun I2 g w' hb' hd r'=>cZ r' (hd 13 rfl).1 bz) ?_
  refine fc r (fun I2 g w' hb' hd r'=>cZ r' (hd 14 rfl).1 bz) ?_;exact bU
 intro fr gg w18 hb Iz hap r;obtain ⟨JF,g10,hs10⟩:=(Iz 10 rfl).1;have r:=r.congr (sc ((Iz 16 rfl).1) (sc ((Iz 15 rfl).1) (sc ((Iz 14 rfl).1) (sc ((Iz 13 rfl).1) (sc ((Iz 12 rfl).1) (sc ((Iz 11 rfl).1) (sc g10 (sc ((Iz 9 rfl).1) (sc ((Iz 8 rfl).1) (sc ((Iz 7 rfl).1) (sc ((Iz 6 rfl).1) (sc ((Iz 5 rfl).1) (sc ((Iz 4 rfl).1) (sc ((Iz 3 rfl).1) (sc ((Iz 2 rfl).1) (sc ((Iz 1 rfl).1) (sc ((Iz 0 rfl).1) rfl)))))))))))))))));have hP:Post No [_,_,II 34 1 u64 JF ([(V a0.IP),(V a0.mode),(V a0.kind)])] w0 w18:=hP.addL (l:=[([II 34 1 u64 JF ([(V a0.IP),(V a0.mode),(V a0.kind)])],(gg 10).lo,(gg 10).hi)]) hb ⟨hs10,(Iz 10 rfl).2.1,da,trivial⟩;refine I0 (kM (U K2.1) r rfl rfl fun r=>kA (U K2.1) r rfl rfl fun r=>wn (q4 ?_));have hv:K2.1=res:=Option.some.inj hD
 try dsimp only [Exit.then,Exit.inBlock]
 refine aT (fn:=Tryz.f137) r (t:=2) rfl (v:=(U K2.1)) rfl ?_;subst hv;exact ⟨rfl,hP.KE.below⟩
end Go.Proofs.YtbbipmelhmgmfaaGreat.St

/- Ours. -/
namespace Go.Proofs.YtbbipmelhmgmfaaGreat
open Go.RowKit
def KR:Field:=⟨0,30⟩
def Kw:Field:=⟨30,2⟩
def Kx:Field:=⟨32,2⟩
theorem vh:St.D.lF 10 [KR,Kw,Kx]=some true:=by decide +kernel
theorem vH (w:Int):St.D.iO 10 [KR,Kw,Kx] w=bif (cH .u64 (cH .u64 (cH .u64 w (D.cz KR)) (D.cz Kw)) (D.cz Kx) !=0) then some ([],10)
  else some ([D.bN KR w,D.bN Kw w,D.bN Kx w],0):=by
 unfold St.D.iO;rw [vh]
 rfl
theorem vO (a b c:Int):St.D.iR 10 [KR,Kw,Kx] [a,b,c]=bif (decide (a > D.bV KR)) then some (0,1) else bif (decide (b > D.bV Kw)) then some (0,1) else bif (decide (c > D.bV Kx)) then some (0,1)
  else some (D.cU Kx (D.cU Kw (D.cU KR 0 a) b) c,0):=by
 unfold St.D.iR;rw [vh];have w1:IntKind.i64.wrap ((0:Int)+1)=1:=rfl;have w2:IntKind.i64.wrap ((1:Int)+1)=2:=rfl;have w3:IntKind.i64.wrap ((2:Int)+1)=3:=rfl;have g0:∀ {α:Type} (x y z:α),Jj [x,y,z] 0=some x:=fun _ _ _=>rfl
 have g1:∀ {α:Type} (x y z:α),Jj [x,y,z] 1=some y:=fun _ _ _=>rfl
 have g2:∀ {α:Type} (x y z:α),Jj [x,y,z] 2=some z:=fun _ _ _=>rfl
 have l3:∀ {α:Type} (x y z:α),(([x,y,z]:List α).length:Int)=3:=fun _ _ _=>rfl
 cases h1:decide (a > D.bV KR) <;> cases h2:decide (b > D.bV Kw) <;> cases h3:decide (c > D.bV Kx) <;>
  simp only [loopThen,runLoop,goOn,afterLoop,w1,w2,w3,g0,g1,g2,l3,h1,h2,h3,Option.bind_some,cond_true,cond_false,Bool.not_true,bne_self_eq_false,show decide ((0:Int)<3)=true from rfl,show decide ((1:Int)<3)=true from rfl,show decide ((2:Int)<3)=true from rfl,show decide ((3:Int)<3)=false from rfl]
def D.cq (s:State):Int:=(St.D.cq 10 s).getD 0
def D.aV (w:Int):State × Bool:=(St.D.aV 10 w).getD (⟨0,0,0⟩,false)
theorem D7 (s:State):∃ r,St.D.cq 10 s=some r:=by
 unfold St.D.cq;cases (!(D.dh s))
 ·show ∃ r,(((St.D.iR 10 [KR,Kw,Kx] [IntKind.u64.wrap s.IP,IntKind.u64.wrap s.mode,IntKind.u64.wrap s.kind]).bind (fun (K2:Int × Int)=>(some K2.1))))=some r
  rw [vO]
  generalize decide (IntKind.u64.wrap s.IP > D.bV KR)=b1
  generalize decide (IntKind.u64.wrap s.mode > D.bV Kw)=b2
  generalize decide (IntKind.u64.wrap s.kind > D.bV Kx)=b3
  cases b1 <;> cases b2 <;> cases b3 <;> exact ⟨_,rfl⟩
 ·exact ⟨_,rfl⟩
theorem EB (w:Int):∃ r,St.D.aV 10 w=some r:=by
 unfold St.D.aV;show ∃ r,(St.D.iO 10 [KR,Kw,Kx] w).bind _=some r
 rw [vH]
 generalize (cH .u64 (cH .u64 (cH .u64 w (D.cz KR)) (D.cz Kw)) (D.cz Kx) !=0)=b
 cases b
 ·show ∃ r,(bif (!(D.dh (⟨(IntKind.i64.wrap (D.bN KR w)),(IntKind.i64.wrap (D.bN Kw w)),(IntKind.i64.wrap (D.bN Kx w))⟩:State))) then _ else _)=some r
  generalize (!(D.dh (⟨(IntKind.i64.wrap (D.bN KR w)),(IntKind.i64.wrap (D.bN Kw w)),(IntKind.i64.wrap (D.bN Kx w))⟩:State)))=b
  cases b <;> exact ⟨_,rfl⟩
 ·exact ⟨_,rfl⟩
theorem l4 (w0:World) (a0:State):Calls B0 137 #[z6 (aQ a0)] w0 (bB (.int .u64 (D.cq a0)) w0):=by
 obtain ⟨r,hr⟩:=D7 a0;unfold D.cq;rw [hr];exact St.l4 w0 a0 hr
theorem lM (w0:World) (a0:Int):Calls B0 111 #[.int .u64 a0] w0 (bB (.tuple #[(z6 (aQ (D.aV a0).1)),(.bool (D.aV a0).2)]) w0):=by
 obtain ⟨r,hr⟩:=EB a0;unfold D.aV;rw [hr];exact St.lM w0 a0 hr
end Go.Proofs.YtbbipmelhmgmfaaGreat

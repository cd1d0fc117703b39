/- Ours. -/
import Derived.Test.YtbbipmelhmgmfaaGreatDzM4
import Derived.Test.YtbbipmelhmgmfaaGreatRows
set_option linter.all false
set_option maxRecDepth 100000
set_option maxHeartbeats 20000000
namespace Go.Proofs.YtbbipmelhmgmfaaGreat
open Go.RowKit
theorem pu:af B0 114:=kz
theorem pD:af B0 127:=kz
theorem sx:af B0 166:=kz
theorem s6:af B0 199:=kz
theorem rX:af B0 287:=kz
theorem xW:af B0 290:=kz
theorem cl58:af B0 58:=kz
theorem cl68:af B0 68:=kz
theorem cl69:af B0 69:=kz
theorem cl70:af B0 70:=kz
theorem cl91:af B0 91:=kz
theorem eR:ba B0 23 0 0:=kz
theorem gp:ba B0 23 1 1:=kz
theorem fa:ba B0 23 2 2:=kz
theorem il:ba B0 23 3 3:=kz
theorem j7:ba B0 23 4 4:=kz
theorem m8:ba B0 23 5 5:=kz
theorem mixed:B0.follows .mixedOrders=true:=kz
theorem s9:tyA B0 148 3:=kz
theorem IJ:tyA B0 23 6:=kz
theorem IL:tyO B0 3:=kz
theorem rV:sized B0 148 3:=kz
theorem si:zeroOf B0 148=some (z6 (bS (⟨0,0,0⟩:IG))):=kz
def D.cY (a0:Plan):Bool:=(bif (D.cC ([(⟨a0.nodes,1,1048576⟩:IG),(⟨a0.threads,1,16⟩:IG),(⟨a0.domains,0,64⟩:IG),(⟨a0.buckets,1,256⟩:IG),(⟨a0.IP,1,1073741823⟩:IG)])) then (D.cC ([(⟨a0.retire,(IntKind.i64.wrap ((IntKind.i64.wrap (3 * a0.threads))+1)),1024⟩:IG)])) else false)
theorem mO (w0:World) 
    (a0:Plan) :
    Calls B0 91 #[z6 (ac a0)] w0 (bB (.bool (D.cY a0)) w0):=by
 refine kN Tryz.func91 rfl 31 rfl rfl fun fr r hB=>?_;refine I0 ?_
 refine kX 23 (z6 (ac a0)) r rfl rfl fun b1 w2 n3 r=>?_;obtain ⟨E1,Z2,H1,hB,zB⟩:=n3.all hB
 refine kA (.bool false) r rfl rfl fun r=>wn (I0 (kF 0 r rfl eR rfl fun r=>kL (I a0.nodes) r rfl H1 IL rfl rfl fun r=>kU (z6 (bS (⟨a0.nodes,1,1048576⟩:IG))) r kz rfl fun r=>kF 0 r rfl gp rfl fun r=>kL (I a0.threads) r rfl H1 IL rfl rfl fun r=>kU (z6 (bS (⟨a0.threads,1,16⟩:IG))) r kz rfl fun r=>kF 0 r rfl il rfl fun r=>kL (I a0.domains) r rfl H1 IL rfl rfl fun r=>kU (z6 (bS (⟨a0.domains,0,64⟩:IG))) r kz rfl fun r=>kF 0 r rfl j7 rfl fun r=>kL (I a0.buckets) r rfl H1 IL rfl rfl fun r=>kU (z6 (bS (⟨a0.buckets,1,256⟩:IG))) r kz rfl fun r=>kF 0 r rfl m8 rfl fun r=>kL (I a0.IP) r rfl H1 IL rfl rfl fun r=>kU (z6 (bS (⟨a0.IP,1,1073741823⟩:IG))) r kz rfl fun r=>?_));refine eH (.cells ((boundsC [(⟨a0.nodes,1,1048576⟩:IG),(⟨a0.threads,1,16⟩:IG),(⟨a0.domains,0,64⟩:IG),(⟨a0.buckets,1,256⟩:IG),(⟨a0.IP,1,1073741823⟩:IG)])).toArray 148 (0,0)) 5 r (fun R=>cJ r kz) rfl fun fr b4 w5 n6 r=>?_
 have H1:=keep n6.below H1;obtain ⟨E4,Z5,H4,hB,zB⟩:=n6.all hB;refine kE r (qp w5 ([(⟨a0.nodes,1,1048576⟩:IG),(⟨a0.threads,1,16⟩:IG),(⟨a0.domains,0,64⟩:IG),(⟨a0.buckets,1,256⟩:IG),(⟨a0.IP,1,1073741823⟩:IG)]) H4 yak) rfl pD rfl fun w7 hb r=>?_
 have Z7:=hb.size;have H1:=keep hb H1;have H4:=keep hb H4;obtain ⟨hB,zB⟩:=IQ hb hB;refine kM (.bool (D.cC ([(⟨a0.nodes,1,1048576⟩:IG),(⟨a0.threads,1,16⟩:IG),(⟨a0.domains,0,64⟩:IG),(⟨a0.buckets,1,256⟩:IG),(⟨a0.IP,1,1073741823⟩:IG)]))) r rfl rfl fun r=>?_;refine bG (D.cC ([(⟨a0.nodes,1,1048576⟩:IG),(⟨a0.threads,1,16⟩:IG),(⟨a0.domains,0,64⟩:IG),(⟨a0.buckets,1,256⟩:IG),(⟨a0.IP,1,1073741823⟩:IG)])) (fun h8=>?_) (fun h8=>?_)
 ·
  refine s1 r h8 (kF 0 r rfl fa rfl fun r=>s1 r h8 (kL (I a0.retire) r rfl H1 IL rfl rfl fun r=>s1 r h8 (kF 0 r rfl gp rfl fun r=>s1 r h8 (kL (I a0.threads) r rfl H1 IL rfl rfl fun r=>s1 r h8 (kB r rfl rfl rfl rfl rfl fun r=>s1 r h8 (kB r rfl rfl rfl rfl rfl fun r=>s1 r h8 (kU (.agg (bS (⟨a0.retire,(W ((W (3 * a0.threads))+1)),1024⟩:IG)).toArray) r kz rfl fun r=>s1 r h8 ?_)))))));refine eH (.cells ((boundsC [(⟨a0.retire,(W ((W (3 * a0.threads))+1)),1024⟩:IG)])).toArray 148 (0,0)) 1 r (fun R=>cJ r kz) rfl fun fr b9 J8 n11 r=>?_
  have H1:=keep n11.below H1;have H4:=keep n11.below H4;obtain ⟨E9,Z10,H9,hB,zB⟩:=n11.all hB;refine s1 r h8 ?_;refine kE r (qp J8 ([(⟨a0.retire,(W ((W (3 * a0.threads))+1)),1024⟩:IG)]) H9 yak) rfl pD rfl fun w12 hb r=>?_
  have Z12:=hb.size;have H1:=keep hb H1;have H4:=keep hb H4;have H9:=keep hb H9;obtain ⟨hB,zB⟩:=IQ hb hB;refine aa (.bool (D.cC ([(⟨a0.retire,(W ((W (3 * a0.threads))+1)),1024⟩:IG)]))) r (fun R=>ay r (b:=true) (kb h8) rfl) rfl fun fr r=>kA (.bool (D.cC ([(⟨a0.retire,(W ((W (3 * a0.threads))+1)),1024⟩:IG)]))) r rfl rfl fun r=>wn (q4 ?_);have hd:D.cY a0=(D.cC ([(⟨a0.retire,(W ((W (3 * a0.threads))+1)),1024⟩:IG)])):=(ar h8).trans (rfl)
  refine aT r rfl rfl ?_;rw [hd];exact ⟨rfl,hB⟩
 refine s0 r h8 fun fr r=>s0 r h8 fun fr r=>s0 r h8 fun fr r=>s0 r h8 fun fr r=>s0 r h8 fun fr r=>s0 r h8 fun fr r=>s0 r h8 fun fr r=>s0 r h8 fun fr r=>s0 r h8 fun fr r=>aa (.bool false) r (fun R=>ay r (b:=false) (kb h8) rfl) rfl fun fr r=>kA (.bool false) r rfl rfl fun r=>wn (q4 ?_);have hd:D.cY a0=false:=(ai h8).trans (rfl)
 refine aT r rfl rfl ?_;rw [hd];exact ⟨rfl,hB⟩
def D.bE (a0:Plan):Int:=(maxI 2 a0.buckets)
theorem pS (w0:World) 
    (a0:Plan) :
    Calls B0 69 #[z6 (ac a0)] w0 (bB (.int .i64 (D.bE a0)) w0):=by
 refine kN Tryz.func69 rfl 6 rfl rfl fun fr r hB=>?_;refine I0 ?_
 refine kX 23 (z6 (ac a0)) r rfl rfl fun b1 w2 n3 r=>?_;obtain ⟨E1,Z2,H1,hB,zB⟩:=n3.all hB
 refine kA (I 0) r rfl rfl fun r=>wn (I0 (kF 0 r rfl j7 rfl fun r=>kL (I a0.buckets) r rfl H1 IL rfl rfl fun r=>aa (I (maxI 2 a0.buckets)) r (fun R=>Gx r (m:=2) (n:=a0.buckets) rfl rfl) rfl fun fr r=>kA (I (maxI 2 a0.buckets)) r rfl rfl fun r=>wn (q4 ?_)));refine aT r rfl rfl ?_
 exact ⟨rfl,hB⟩
def D.aL (a0:Plan):Int:=(IntKind.i64.wrap (1+(IntKind.i64.wrap (a0.domains * (IntKind.i64.wrap (1+(D.bE a0)))))))
theorem tA (w0:World) 
    (a0:Plan) :
    Calls B0 290 #[z6 (ac a0)] w0 (bB (.int .i64 (D.aL a0)) w0):=by
 refine kN Tryz.func290 rfl 10 rfl rfl fun fr r hB=>?_;refine I0 ?_
 refine kX 23 (z6 (ac a0)) r rfl rfl fun b1 w2 n3 r=>?_;obtain ⟨E1,Z2,H1,hB,zB⟩:=n3.all hB
 refine kA (I 0) r rfl rfl fun r=>wn (d9 ?_);refine bI 7 [.val (.pointer (some ⟨b1,3,none⟩)),.val (I a0.domains),.val (z6 (ac a0)),.val (I (D.bE a0)),.val (I (W (1+(D.bE a0)))),.val (I (W (a0.domains * (W (1+(D.bE a0)))))),.val (I (W (1+(W (a0.domains * (W (1+(D.bE a0))))))))] mixed r kz (kV (kV (kV (kV (kV (kV (kV bH))))))) ?_ ?_
 ·
  refine ec r (fun _ u _ b d s=>az s (b:=b1) (o:=0) rfl il bz) (ec r (fun _ u _ b d s=>ax s d.1 (keep b H1) IL rfl bz) (ec r (fun _ u _ b d s=>aU s (cs:=(ac a0)) (n:=6) rfl (keep b H1) IJ rfl bz) (ec r (fun I2 u w' hb' hd r'=>aN r' (args:=[(z6 (ac a0))]) (lc hd.1 l0) cl69 ((pS _ a0).mono JL)) (ec r (fun _ u _ b d s=>bd s rfl d.1 rfl rfl bz) (ec r (fun _ u _ b d s=>bd s d.1 d.2.1 rfl rfl bz) (ec r (fun _ u _ b d s=>bd s rfl d.1 rfl rfl bz) ?_))))));exact bJ
 intro fr u w4 hb Iz hne r;have r:=r.congr (sc (Iz 6 ke) (sc (Iz 5 ke) (sc (Iz 4 ke) (sc (Iz 3 ke) (sc (Iz 2 ke) (sc (Iz 1 ke) (sc (Iz 0 ke) rfl)))))));have Z4:=hb.size;have H1:=keep hb H1;obtain ⟨hB,zB⟩:=IQ hb hB;refine kA (I (W (1+(W (a0.domains * (W (1+(D.bE a0)))))))) r rfl rfl fun r=>wn (q4 ?_);refine aT r rfl rfl ?_
 exact ⟨rfl,hB⟩
def D.cF (a0:Plan):Int:=(IntKind.i64.wrap ((D.aL a0)+(IntKind.i64.wrap (a0.threads * 3))))
theorem pR (w0:World) 
    (a0:Plan) :
    Calls B0 199 #[z6 (ac a0)] w0 (bB (.int .i64 (D.cF a0)) w0):=by
 refine kN Tryz.func199 rfl 9 rfl rfl fun fr r hB=>?_;refine I0 ?_
 refine kX 23 (z6 (ac a0)) r rfl rfl fun b1 w2 n3 r=>?_;obtain ⟨E1,Z2,H1,hB,zB⟩:=n3.all hB
 refine kA (I 0) r rfl rfl fun r=>wn (d9 ?_);refine bI 6 [.val (z6 (ac a0)),.val (I (D.aL a0)),.val (.pointer (some ⟨b1,1,none⟩)),.val (I a0.threads),.val (I (W (a0.threads * 3))),.val (I (W ((D.aL a0)+(W (a0.threads * 3)))))] mixed r kz (kV (kV (kV (kV (kV (kV bH)))))) ?_ ?_
 ·
  refine ec r (fun _ u _ b d s=>aU s (cs:=(ac a0)) (n:=6) rfl (keep b H1) IJ rfl bz) (ec r (fun I2 u w' hb' hd r'=>aN r' (args:=[(z6 (ac a0))]) (lc hd.1 l0) xW ((tA _ a0).mono JL)) (ec r (fun _ u _ b d s=>az s (b:=b1) (o:=0) rfl gp bz) (ec r (fun _ u _ b d s=>ax s d.1 (keep b H1) IL rfl bz) (ec r (fun _ u _ b d s=>bd s d.1 rfl rfl rfl bz) (ec r (fun _ u _ b d s=>bd s d.1 d.2.1 rfl rfl bz) ?_)))));exact bJ
 intro fr u w4 hb Iz hne r;have r:=r.congr (sc (Iz 5 ke) (sc (Iz 4 ke) (sc (Iz 3 ke) (sc (Iz 2 ke) (sc (Iz 1 ke) (sc (Iz 0 ke) rfl))))));have Z4:=hb.size;have H1:=keep hb H1;obtain ⟨hB,zB⟩:=IQ hb hB;refine kA (I (W ((D.aL a0)+(W (a0.threads * 3))))) r rfl rfl fun r=>wn (q4 ?_);refine aT r rfl rfl ?_
 exact ⟨rfl,hB⟩
def D.aO (a0:Plan):Int:=(IntKind.i64.wrap ((D.cF a0)+(IntKind.i64.wrap (a0.threads * (IntKind.i64.wrap (1+a0.retire))))))
theorem mT (w0:World) 
    (a0:Plan) :
    Calls B0 114 #[z6 (ac a0)] w0 (bB (.int .i64 (D.aO a0)) w0):=by
 refine kN Tryz.func114 rfl 12 rfl rfl fun fr r hB=>?_;refine I0 ?_
 refine kX 23 (z6 (ac a0)) r rfl rfl fun b1 w2 n3 r=>?_;obtain ⟨E1,Z2,H1,hB,zB⟩:=n3.all hB
 refine kA (I 0) r rfl rfl fun r=>wn (d9 ?_);refine bI 9 [.val (z6 (ac a0)),.val (I (D.cF a0)),.val (.pointer (some ⟨b1,1,none⟩)),.val (I a0.threads),.val (.pointer (some ⟨b1,2,none⟩)),.val (I a0.retire),.val (I (W (1+a0.retire))),.val (I (W (a0.threads * (W (1+a0.retire))))),.val (I (W ((D.cF a0)+(W (a0.threads * (W (1+a0.retire)))))))] mixed r kz (kV (kV (kV (kV (kV (kV (kV (kV (kV bH))))))))) ?_ ?_
 ·
  refine ec r (fun _ u _ b d s=>aU s (cs:=(ac a0)) (n:=6) rfl (keep b H1) IJ rfl bz) (ec r (fun I2 u w' hb' hd r'=>aN r' (args:=[(z6 (ac a0))]) (lc hd.1 l0) s6 ((pR _ a0).mono JL)) (ec r (fun _ u _ b d s=>az s (b:=b1) (o:=0) rfl gp bz) (ec r (fun _ u _ b d s=>ax s d.1 (keep b H1) IL rfl bz) (ec r (fun _ u _ b d s=>az s (b:=b1) (o:=0) rfl fa bz) (ec r (fun _ u _ b d s=>ax s d.1 (keep b H1) IL rfl bz) (ec r (fun _ u _ b d s=>bd s rfl d.1 rfl rfl bz) (ec r (fun _ u _ b d s=>bd s d.1 d.2.1 rfl rfl bz) (ec r (fun _ u _ b d s=>bd s d.1 d.2.1 rfl rfl bz) ?_))))))));exact bJ
 intro fr u w4 hb Iz hne r;have r:=r.congr (sc (Iz 8 ke) (sc (Iz 7 ke) (sc (Iz 6 ke) (sc (Iz 5 ke) (sc (Iz 4 ke) (sc (Iz 3 ke) (sc (Iz 2 ke) (sc (Iz 1 ke) (sc (Iz 0 ke) rfl)))))))));have Z4:=hb.size;have H1:=keep hb H1;obtain ⟨hB,zB⟩:=IQ hb hB;refine kA (I (W ((D.cF a0)+(W (a0.threads * (W (1+a0.retire))))))) r rfl rfl fun r=>wn (q4 ?_);refine aT r rfl rfl ?_
 exact ⟨rfl,hB⟩
def D.bF (a0:Plan):Int:=(bif (!(D.cY a0)) then 0 else (IntKind.i64.wrap ((D.aO a0)+(IntKind.i64.wrap (a0.nodes * 5)))))
theorem Bg (w0:World) 
    (a0:Plan) :
    Calls B0 60 #[z6 (ac a0)] w0 (bB (.int .i64 (D.bF a0)) w0):=by
 refine kN Tryz.func60 rfl 12 rfl rfl fun fr r hB=>?_;refine I0 ?_
 refine kX 23 (z6 (ac a0)) r rfl rfl fun b1 w2 n3 r=>?_;obtain ⟨E1,Z2,H1,hB,zB⟩:=n3.all hB
 refine kA (I 0) r rfl rfl fun r=>wn (d9 (I0 (kG (ac a0) 6 r rfl H1 IJ rfl rfl fun r=>?_)));refine kE r (mO w2 a0) rfl cl91 rfl fun w4 hb r=>?_
 have Z4:=hb.size;have H1:=keep hb H1;obtain ⟨hB,zB⟩:=IQ hb hB;refine aa (.bool (!(D.cY a0))) r (fun R=>JQ r (u:=(.bool (D.cY a0))) rfl rfl) rfl fun fr r=>wn ?_;refine q5 (t:=(!(D.cY a0))) (r.ev rfl) (fun h5=>?_) (fun h5=>?_)
 ·
  refine I0 (kA (I 0) r rfl rfl fun r=>wn (q4 ?_));have hd:D.bF a0=0:=(ar h5).trans (rfl)
  refine aT r rfl rfl ?_;rw [hd];exact ⟨rfl,hB⟩
 refine q7 (d9 ?_);refine bI 6 [.val (z6 (ac a0)),.val (I (D.aO a0)),.val (zp b1),.val (I a0.nodes),.val (I (W (a0.nodes * 5))),.val (I (W ((D.aO a0)+(W (a0.nodes * 5)))))] mixed r kz (kV (kV (kV (kV (kV (kV bH)))))) ?_ ?_
 ·
  refine ec r (fun _ u _ b d s=>aU s (cs:=(ac a0)) (n:=6) rfl (keep b H1) IJ rfl bz) (ec r (fun I2 u w' hb' hd r'=>aN r' (args:=[(z6 (ac a0))]) (lc hd.1 l0) pu ((mT _ a0).mono JL)) (ec r (fun _ u _ b d s=>az s (b:=b1) (o:=0) rfl eR bz) (ec r (fun _ u _ b d s=>ax s d.1 (keep b H1) IL rfl bz) (ec r (fun _ u _ b d s=>bd s d.1 rfl rfl rfl bz) (ec r (fun _ u _ b d s=>bd s d.1 d.2.1 rfl rfl bz) ?_)))));exact bJ
 intro fr u w6 hb Iz hne r;have r:=r.congr (sc (Iz 5 ke) (sc (Iz 4 ke) (sc (Iz 3 ke) (sc (Iz 2 ke) (sc (Iz 1 ke) (sc (Iz 0 ke) rfl))))));have Z6:=hb.size;have H1:=keep hb H1;obtain ⟨hB,zB⟩:=IQ hb hB;refine kA (I (W ((D.aO a0)+(W (a0.nodes * 5))))) r rfl rfl fun r=>wn (q4 ?_);have hd:D.bF a0=(W ((D.aO a0)+(W (a0.nodes * 5)))):=(ai h5).trans (rfl)
 refine aT r rfl rfl ?_;rw [hd];exact ⟨rfl,hB⟩
def D.cg (a0:Plan) (a1:Int) (a2:List IG):Int:=(bif (!(D.cY a0)) then (-1) else (bif (!(D.cC a2)) then (-1) else a1))
theorem iF (w0:World) 
    (a0:Plan) (a1:Int) (a2:List IG) {a2b:Nat} (a2h:w0.heap[a2b]?=some (.cells ((boundsC a2)).toArray 148 (0,0))) (pre0:a2.length<=8) :
    Calls B0 68 #[z6 (ac a0),.int .i64 a1,.slice (some ⟨a2b,0,none⟩) a2.length a2.length] w0 (bB (.int .i64 (D.cg a0 a1 a2)) w0):=by
 refine kN Tryz.func68 rfl 16 rfl rfl fun fr r hB=>?_;have la2b:=q8 a2h
 refine I0 ?_;refine kX 23 (z6 (ac a0)) r rfl rfl fun b1 w2 n3 r=>?_;have a2h:=keep n3.below a2h
 obtain ⟨E1,Z2,H1,hB,zB⟩:=n3.all hB;refine kA (I 0) r rfl rfl fun r=>wn (d9 (I0 (kG (ac a0) 6 r rfl H1 IJ rfl rfl fun r=>?_)));refine kE r (mO w2 a0) rfl cl91 rfl fun w4 hb r=>?_
 have Z4:=hb.size;have a2h:=keep hb a2h;have H1:=keep hb H1;obtain ⟨hB,zB⟩:=IQ hb hB;refine aa (.bool (!(D.cY a0))) r (fun R=>JQ r (u:=(.bool (D.cY a0))) rfl rfl) rfl fun fr r=>kM (.bool (!(D.cY a0))) r rfl rfl fun r=>?_;refine bG (!(D.cY a0)) (fun h5=>?_) (fun h5=>?_)
 ·
  refine s0 r h5 fun fr r=>s0 r h5 fun fr r=>s0 r h5 fun fr r=>aa (.bool true) r (fun R=>ay r (b:=true) (kb h5) rfl) rfl fun fr r=>wn ?_;refine q5 (t:=true) (r.ev rfl) (fun _=>?_) (fun h=>absurd ((rfl:true=_).symm.trans h) ke)
  refine I0 (kA (I (-1)) r rfl rfl fun r=>wn (q4 ?_));have hd:D.cg a0 a1 a2=(-1):=(ar h5).trans (rfl)
  refine aT r rfl rfl ?_;rw [hd];exact ⟨rfl,hB⟩
 refine s1 r h5 (kM (.slice (some ⟨a2b,0,none⟩) a2.length a2.length) r rfl rfl fun r=>s1 r h5 ?_);refine kE r (qp w4 a2 a2h yak) rfl pD rfl fun w6 hb r=>?_
 have Z6:=hb.size;have a2h:=keep hb a2h;have H1:=keep hb H1;obtain ⟨hB,zB⟩:=IQ hb hB;refine s1 r h5 (aa (.bool (!(D.cC a2))) r (fun R=>JQ r (u:=(.bool (D.cC a2))) rfl rfl) rfl fun fr r=>aa (.bool (!(D.cC a2))) r (fun R=>ay r (b:=false) (kb h5) rfl) rfl fun fr r=>wn ?_);refine q5 (t:=(!(D.cC a2))) (r.ev rfl) (fun h7=>?_) (fun h7=>?_)
 ·
  refine I0 (kA (I (-1)) r rfl rfl fun r=>wn (q4 ?_));have hd:D.cg a0 a1 a2=(-1):=(ai h5).trans ((ar h7).trans (rfl))
  refine aT r rfl rfl ?_;rw [hd];exact ⟨rfl,hB⟩
 refine q7 (I0 (kM (I a1) r rfl rfl fun r=>kA (I a1) r rfl rfl fun r=>wn (q4 ?_)));have hd:D.cg a0 a1 a2=a1:=(ai h5).trans ((ai h7).trans (rfl))
 refine aT r rfl rfl ?_;rw [hd];exact ⟨rfl,hB⟩
theorem zO (w0:World) 
    (a0:Plan) (a1:Int) :
    Calls B0 68 #[z6 (ac a0),.int .i64 a1,.slice none 0 0] w0 (bB (.int .i64 (D.cg a0 a1 ([]))) w0):=by
 refine kN Tryz.func68 rfl 16 rfl rfl fun fr r hB=>?_;refine I0 ?_
 refine kX 23 (z6 (ac a0)) r rfl rfl fun b1 w2 n3 r=>?_;obtain ⟨E1,Z2,H1,hB,zB⟩:=n3.all hB
 refine kA (I 0) r rfl rfl fun r=>wn (d9 (I0 (kG (ac a0) 6 r rfl H1 IJ rfl rfl fun r=>?_)));refine kE r (mO w2 a0) rfl cl91 rfl fun w4 hb r=>?_
 have Z4:=hb.size;have H1:=keep hb H1;obtain ⟨hB,zB⟩:=IQ hb hB;refine aa (.bool (!(D.cY a0))) r (fun R=>JQ r (u:=(.bool (D.cY a0))) rfl rfl) rfl fun fr r=>kM (.bool (!(D.cY a0))) r rfl rfl fun r=>?_;refine bG (!(D.cY a0)) (fun h5=>?_) (fun h5=>?_)
 ·
  refine s0 r h5 fun fr r=>s0 r h5 fun fr r=>s0 r h5 fun fr r=>aa (.bool true) r (fun R=>ay r (b:=true) (kb h5) rfl) rfl fun fr r=>wn ?_;refine q5 (t:=true) (r.ev rfl) (fun _=>?_) (fun h=>absurd ((rfl:true=_).symm.trans h) ke)
  refine I0 (kA (I (-1)) r rfl rfl fun r=>wn (q4 ?_));have hd:D.cg a0 a1 []=(-1):=(ar h5).trans (rfl)
  refine aT r rfl rfl ?_;rw [hd];exact ⟨rfl,hB⟩
 refine s1 r h5 (kM (.slice none 0 0) r rfl rfl fun r=>s1 r h5 ?_);refine kE r (AP w4 ) rfl pD rfl fun w6 hb r=>?_
 have Z6:=hb.size;have H1:=keep hb H1;obtain ⟨hB,zB⟩:=IQ hb hB;refine s1 r h5 (aa (.bool (!(D.cC ([])))) r (fun R=>JQ r (u:=(.bool (D.cC ([])))) rfl rfl) rfl fun fr r=>aa (.bool (!(D.cC ([])))) r (fun R=>ay r (b:=false) (kb h5) rfl) rfl fun fr r=>wn ?_);refine q5 (t:=(!(D.cC ([])))) (r.ev rfl) (fun h7=>?_) (fun h7=>?_)
 ·
  refine I0 (kA (I (-1)) r rfl rfl fun r=>wn (q4 ?_));have hd:D.cg a0 a1 []=(-1):=(ai h5).trans ((ar h7).trans (rfl))
  refine aT r rfl rfl ?_;rw [hd];exact ⟨rfl,hB⟩
 refine q7 (I0 (kM (I a1) r rfl rfl fun r=>kA (I a1) r rfl rfl fun r=>wn (q4 ?_)));have hd:D.cg a0 a1 []=a1:=(ai h5).trans ((ai h7).trans (rfl))
 refine aT r rfl rfl ?_;rw [hd];exact ⟨rfl,hB⟩
def D.dK (a0:Plan):Int:=(D.cg a0 0 ([]))
theorem lf (w0:World) 
    (a0:Plan) :
    Calls B0 192 #[z6 (ac a0)] w0 (bB (.int .i64 (D.dK a0)) w0):=by
 refine kN Tryz.func192 rfl 5 rfl rfl fun fr r hB=>?_;refine I0 ?_
 refine kX 23 (z6 (ac a0)) r rfl rfl fun b1 w2 n3 r=>?_;obtain ⟨E1,Z2,H1,hB,zB⟩:=n3.all hB
 refine kA (I 0) r rfl rfl fun r=>wn (I0 (kG (ac a0) 6 r rfl H1 IJ rfl rfl fun r=>?_));refine kE r (zO w2 a0 0) rfl cl68 rfl fun w4 hb r=>?_
 have Z4:=hb.size;have H1:=keep hb H1;obtain ⟨hB,zB⟩:=IQ hb hB;refine kA (I (D.cg a0 0 ([]))) r rfl rfl fun r=>wn (q4 ?_);refine aT r rfl rfl ?_
 exact ⟨rfl,hB⟩
def D.cO (a0:Plan) (a1:Int):IG:=(⟨a1,0,(IntKind.i64.wrap (a0.nodes - 1))⟩:IG)
theorem pX (w0:World) 
    (a0:Plan) (a1:Int) :
    Calls B0 166 #[z6 (ac a0),.int .i64 a1] w0 (bB (z6 (bS (D.cO a0 a1))) w0):=by
 refine kN Tryz.func166 rfl 10 rfl rfl fun fr r hB=>?_;refine I0 ?_
 refine kX 23 (z6 (ac a0)) r rfl rfl fun b1 w2 n3 r=>?_;obtain ⟨E1,Z2,H1,hB,zB⟩:=n3.all hB
 refine ah (.cells ((bS (⟨0,0,0⟩:IG))).toArray 148 (0,0)) r (fun R=>ag si) rfl fun fr b4 w5 n6 r=>?_;have H1:=keep n6.below H1
 obtain ⟨E4,Z5,H4,hB,zB⟩:=n6.all hB;refine wn (I0 (kM (I a1) r rfl rfl fun r=>kF 0 r rfl eR rfl fun r=>kL (I a0.nodes) r rfl H1 IL rfl rfl fun r=>kB r rfl rfl rfl rfl rfl fun r=>kU (.agg (bS (⟨a1,0,(W (a0.nodes - 1))⟩:IG)).toArray) r kz rfl fun r=>?_));refine aM (.cells ((bS (⟨a1,0,(W (a0.nodes - 1))⟩:IG))).toArray 148 (0,0)) r (fun R=>bb r (o:=0) (v:=(.agg (bS (⟨a1,0,(W (a0.nodes - 1))⟩:IG)).toArray)) rfl rfl H4 rV u7 rfl rfl) rfl fun fr w7 u8 r=>?_
 have Z7:=u8.size;have H1:=u8.keep H1 O
 have H4:=u8.at_;obtain ⟨hB,zB⟩:=u8.on hB O
 refine wn (q4 ?_);refine ak r rfl rfl H4 (k:=3) rfl s9 ?_;exact ⟨rfl,hB⟩
def D.dQ (a0:Plan) (a1:Int):Int:=(D.cg a0 (IntKind.i64.wrap ((IntKind.i64.wrap ((D.aO a0)+(IntKind.i64.wrap (a1 * 5))))+1)) ([(D.cO a0 a1)]))
theorem nu (w0:World) 
    (a0:Plan) (a1:Int) :
    Calls B0 193 #[z6 (ac a0),.int .i64 a1] w0 (bB (.int .i64 (D.dQ a0 a1)) w0):=by
 refine kN Tryz.func193 rfl 17 rfl rfl fun fr r hB=>?_;refine I0 ?_
 refine kX 23 (z6 (ac a0)) r rfl rfl fun b1 w2 n3 r=>?_;obtain ⟨E1,Z2,H1,hB,zB⟩:=n3.all hB
 refine kA (I 0) r rfl rfl fun r=>wn (d9 ?_);refine bI 12 [.val (z6 (ac a0)),.val (z6 (ac a0)),.val (I (D.aO a0)),.val (I a1),.val (I (W (a1 * 5))),.val (I (W ((D.aO a0)+(W (a1 * 5))))),.val (I (W ((W ((D.aO a0)+(W (a1 * 5))))+1))),.val (z6 (ac a0)),.val (I a1),.val (z6 (bS (D.cO a0 a1))),.slice w2.heap.size (.cells ((boundsC [(D.cO a0 a1)])).toArray 148 (0,0)) 1,.val (I (D.cg a0 (W ((W ((D.aO a0)+(W (a1 * 5))))+1)) ([(D.cO a0 a1)])))] mixed r kz (kV (kV (kV (kV (kV (kV (kV (kV (kV (kV (ct (Nat.le_refl _) (kV bH)))))))))))) ?_ ?_
 ·
  refine ec r (fun _ u _ b d s=>aU s (cs:=(ac a0)) (n:=6) rfl (keep b H1) IJ rfl bz) (ec r (fun _ u _ b d s=>aU s (cs:=(ac a0)) (n:=6) rfl (keep b H1) IJ rfl bz) (ec r (fun I2 u w' hb' hd r'=>aN r' (args:=[(z6 (ac a0))]) (lc hd.1 l0) pu ((mT _ a0).mono JL)) (ec r (fun _ u _ b d s=>aw s rfl bz) (ec r (fun _ u _ b d s=>bd s d.1 rfl rfl rfl bz) (ec r (fun _ u _ b d s=>bd s d.1 d.2.1 rfl rfl bz) (ec r (fun _ u _ b d s=>bd s d.1 rfl rfl rfl bz) (ec r (fun _ u _ b d s=>aU s (cs:=(ac a0)) (n:=6) rfl (keep b H1) IJ rfl bz) (ec r (fun _ u _ b d s=>aw s rfl bz) (ec r (fun I2 u w' hb' hd r'=>aN r' (args:=[(z6 (ac a0)),(I a1)]) (lc hd.1 (lc hd.2.1 l0)) sx ((pX _ a0 a1).mono JL)) (ec r (fun I2 u w' hb' hd r'=>cJ r' (c:=((boundsC [(D.cO a0 a1)])).toArray) (E:=148) (bs1 (congrArg (fun z=>(0,z)) hd.1) kz) (fun b w2 n2=>⟨n2.below,b,rfl,Nat.le_of_eq n2.eq.symm,n2.at_⟩)) ?_))))))))));refine dA r rfl (fun I2 u w' hb' hd r'=>?_) ?_
  · obtain ⟨d0,d1,d2,d3,_⟩:=hd; obtain ⟨q2,hq2,_,Jz⟩:=d2; exact aN r' (args:=[(z6 (ac a0)),(I (W ((W ((D.aO a0)+(W (a1 * 5))))+1))),(.slice (some ⟨q2,0,none⟩) 1 1)]) (lc d0 (lc d1 (lc hq2 l0))) cl68 ((iF _ a0 (W ((W ((D.aO a0)+(W (a1 * 5))))+1)) ([(D.cO a0 a1)]) Jz yak).mono JL)
  exact bJ
 intro fr u w4 hb Iz hne r;obtain ⟨b5,g10,E5,H5⟩:=Iz 10 ke;have l_b5:=q8 H5;have r:=r.congr (sc (Iz 11 ke) (sc g10 (sc (Iz 9 ke) (sc (Iz 8 ke) (sc (Iz 7 ke) (sc (Iz 6 ke) (sc (Iz 5 ke) (sc (Iz 4 ke) (sc (Iz 3 ke) (sc (Iz 2 ke) (sc (Iz 1 ke) (sc (Iz 0 ke) rfl))))))))))));have Z4:=hb.size;have H1:=keep hb H1;obtain ⟨hB,zB⟩:=IQ hb hB;refine kA (I (D.cg a0 (W ((W ((D.aO a0)+(W (a1 * 5))))+1)) ([(D.cO a0 a1)]))) r rfl rfl fun r=>wn (q4 ?_);refine aT r rfl rfl ?_
 exact ⟨rfl,hB⟩
def D.fM (a0:Plan) (a1:Int):IG:=(⟨a1,0,(IntKind.i64.wrap (a0.domains - 1))⟩:IG)
theorem Aw (w0:World) 
    (a0:Plan) (a1:Int) :
    Calls B0 70 #[z6 (ac a0),.int .i64 a1] w0 (bB (z6 (bS (D.fM a0 a1))) w0):=by
 refine kN Tryz.func70 rfl 10 rfl rfl fun fr r hB=>?_;refine I0 ?_
 refine kX 23 (z6 (ac a0)) r rfl rfl fun b1 w2 n3 r=>?_;obtain ⟨E1,Z2,H1,hB,zB⟩:=n3.all hB
 refine ah (.cells ((bS (⟨0,0,0⟩:IG))).toArray 148 (0,0)) r (fun R=>ag si) rfl fun fr b4 w5 n6 r=>?_;have H1:=keep n6.below H1
 obtain ⟨E4,Z5,H4,hB,zB⟩:=n6.all hB;refine wn (I0 (kM (I a1) r rfl rfl fun r=>kF 0 r rfl il rfl fun r=>kL (I a0.domains) r rfl H1 IL rfl rfl fun r=>kB r rfl rfl rfl rfl rfl fun r=>kU (.agg (bS (⟨a1,0,(W (a0.domains - 1))⟩:IG)).toArray) r kz rfl fun r=>?_));refine aM (.cells ((bS (⟨a1,0,(W (a0.domains - 1))⟩:IG))).toArray 148 (0,0)) r (fun R=>bb r (o:=0) (v:=(.agg (bS (⟨a1,0,(W (a0.domains - 1))⟩:IG)).toArray)) rfl rfl H4 rV u7 rfl rfl) rfl fun fr w7 u8 r=>?_
 have Z7:=u8.size;have H1:=u8.keep H1 O
 have H4:=u8.at_;obtain ⟨hB,zB⟩:=u8.on hB O
 refine wn (q4 ?_);refine ak r rfl rfl H4 (k:=3) rfl s9 ?_;exact ⟨rfl,hB⟩
def D.eO (a0:Plan) (a1:Int) (a2:Int):Int:=(D.cg a0 (IntKind.i64.wrap ((IntKind.i64.wrap (2+(IntKind.i64.wrap (a1 * (IntKind.i64.wrap (1+(D.bE a0)))))))+a2)) ([(D.fM a0 a1),(⟨a2,0,(IntKind.i64.wrap ((D.bE a0) - 1))⟩:IG)]))
theorem tS (w0:World) 
    (a0:Plan) (a1:Int) (a2:Int) :
    Calls B0 36 #[z6 (ac a0),.int .i64 a1,.int .i64 a2] w0 (bB (.int .i64 (D.eO a0 a1 a2)) w0):=by
 refine kN Tryz.func36 rfl 26 rfl rfl fun fr r hB=>?_;refine I0 ?_
 refine kX 23 (z6 (ac a0)) r rfl rfl fun b1 w2 n3 r=>?_;obtain ⟨E1,Z2,H1,hB,zB⟩:=n3.all hB
 refine kA (I 0) r rfl rfl fun r=>wn (d9 ?_);refine bI 19 [.val (z6 (ac a0)),.val (I a1),.val (z6 (ac a0)),.val (I (D.bE a0)),.val (I (W (1+(D.bE a0)))),.val (I (W (a1 * (W (1+(D.bE a0)))))),.val (I (W (2+(W (a1 * (W (1+(D.bE a0)))))))),.val (I a2),.val (I (W ((W (2+(W (a1 * (W (1+(D.bE a0)))))))+a2))),.val (z6 (ac a0)),.val (I a1),.val (z6 (bS (D.fM a0 a1))),.val (I a2),.val (z6 (ac a0)),.val (I (D.bE a0)),.val (I (W ((D.bE a0) - 1))),.val (.agg (bS (⟨a2,0,(W ((D.bE a0) - 1))⟩:IG)).toArray),.slice w2.heap.size (.cells ((boundsC [(D.fM a0 a1),(⟨a2,0,(W ((D.bE a0) - 1))⟩:IG)])).toArray 148 (0,0)) 2,.val (I (D.cg a0 (W ((W (2+(W (a1 * (W (1+(D.bE a0)))))))+a2)) ([(D.fM a0 a1),(⟨a2,0,(W ((D.bE a0) - 1))⟩:IG)])))] mixed r kz (kV (kV (kV (kV (kV (kV (kV (kV (kV (kV (kV (kV (kV (kV (kV (kV (kV (ct (Nat.le_refl _) (kV bH))))))))))))))))))) ?_ ?_
 ·
  refine ec r (fun _ u _ b d s=>aU s (cs:=(ac a0)) (n:=6) rfl (keep b H1) IJ rfl bz) (ec r (fun _ u _ b d s=>aw s rfl bz) (ec r (fun _ u _ b d s=>aU s (cs:=(ac a0)) (n:=6) rfl (keep b H1) IJ rfl bz) (ec r (fun I2 u w' hb' hd r'=>aN r' (args:=[(z6 (ac a0))]) (lc hd.1 l0) cl69 ((pS _ a0).mono JL)) (ec r (fun _ u _ b d s=>bd s rfl d.1 rfl rfl bz) (ec r (fun _ u _ b d s=>bd s d.1 d.2.1 rfl rfl bz) (ec r (fun _ u _ b d s=>bd s rfl d.1 rfl rfl bz) (ec r (fun _ u _ b d s=>aw s rfl bz) (ec r (fun _ u _ b d s=>bd s d.1 d.2.1 rfl rfl bz) (ec r (fun _ u _ b d s=>aU s (cs:=(ac a0)) (n:=6) rfl (keep b H1) IJ rfl bz) (ec r (fun _ u _ b d s=>aw s rfl bz) (ec r (fun I2 u w' hb' hd r'=>aN r' (args:=[(z6 (ac a0)),(I a1)]) (lc hd.1 (lc hd.2.1 l0)) cl70 ((Aw _ a0 a1).mono JL)) (ec r (fun _ u _ b d s=>aw s rfl bz) (ec r (fun _ u _ b d s=>aU s (cs:=(ac a0)) (n:=6) rfl (keep b H1) IJ rfl bz) (ec r (fun I2 u w' hb' hd r'=>aN r' (args:=[(z6 (ac a0))]) (lc hd.1 l0) cl69 ((pS _ a0).mono JL)) (ec r (fun _ u _ b d s=>bd s d.1 rfl rfl rfl bz) (ec r (fun I2 u w' hb' hd r'=>eQ r' (v:=(.agg (bS (⟨a2,0,(W ((D.bE a0) - 1))⟩:IG)).toArray)) (bs3 (congrArg (fun z=>(0,z)) hd.1) (rfl) (congrArg (fun z=>(2,z)) hd.2.1) kz) bz) (ec r (fun I2 u w' hb' hd r'=>cJ r' (c:=((boundsC [(D.fM a0 a1),(⟨a2,0,(W ((D.bE a0) - 1))⟩:IG)])).toArray) (E:=148) (bs2 (congrArg (fun z=>(0,z)) hd.1) (congrArg (fun z=>(1,z)) hd.2.1) kz) (fun b w2 n2=>⟨n2.below,b,rfl,Nat.le_of_eq n2.eq.symm,n2.at_⟩)) ?_)))))))))))))))))
  refine dA r rfl (fun I2 u w' hb' hd r'=>?_) ?_
  · obtain ⟨d0,d1,d2,d3,_⟩:=hd; obtain ⟨q2,hq2,_,Jz⟩:=d2; exact aN r' (args:=[(z6 (ac a0)),(I (W ((W (2+(W (a1 * (W (1+(D.bE a0)))))))+a2))),(.slice (some ⟨q2,0,none⟩) 2 2)]) (lc d0 (lc d1 (lc hq2 l0))) cl68 ((iF _ a0 (W ((W (2+(W (a1 * (W (1+(D.bE a0)))))))+a2)) ([(D.fM a0 a1),(⟨a2,0,(W ((D.bE a0) - 1))⟩:IG)]) Jz yak).mono JL)
  exact bJ
 intro fr u w4 hb Iz hne r;obtain ⟨b5,g17,E5,H5⟩:=Iz 17 ke;have l_b5:=q8 H5;have r:=r.congr (sc (Iz 18 ke) (sc g17 (sc (Iz 16 ke) (sc (Iz 15 ke) (sc (Iz 14 ke) (sc (Iz 13 ke) (sc (Iz 12 ke) (sc (Iz 11 ke) (sc (Iz 10 ke) (sc (Iz 9 ke) (sc (Iz 8 ke) (sc (Iz 7 ke) (sc (Iz 6 ke) (sc (Iz 5 ke) (sc (Iz 4 ke) (sc (Iz 3 ke) (sc (Iz 2 ke) (sc (Iz 1 ke) (sc (Iz 0 ke) rfl)))))))))))))))))));have Z4:=hb.size;have H1:=keep hb H1;obtain ⟨hB,zB⟩:=IQ hb hB;refine kA (I (D.cg a0 (W ((W (2+(W (a1 * (W (1+(D.bE a0)))))))+a2)) ([(D.fM a0 a1),(⟨a2,0,(W ((D.bE a0) - 1))⟩:IG)]))) r rfl rfl fun r=>wn (q4 ?_);refine aT r rfl rfl ?_
 exact ⟨rfl,hB⟩
def D.dc (a0:Plan) (a1:Int):Int:=(D.cg a0 (IntKind.i64.wrap ((D.aO a0)+(IntKind.i64.wrap (a1 * 5)))) ([(D.cO a0 a1)]))
theorem ji (w0:World) 
    (a0:Plan) (a1:Int) :
    Calls B0 112 #[z6 (ac a0),.int .i64 a1] w0 (bB (.int .i64 (D.dc a0 a1)) w0):=by
 refine kN Tryz.func112 rfl 16 rfl rfl fun fr r hB=>?_;refine I0 ?_
 refine kX 23 (z6 (ac a0)) r rfl rfl fun b1 w2 n3 r=>?_;obtain ⟨E1,Z2,H1,hB,zB⟩:=n3.all hB
 refine kA (I 0) r rfl rfl fun r=>wn (d9 ?_);refine bI 11 [.val (z6 (ac a0)),.val (z6 (ac a0)),.val (I (D.aO a0)),.val (I a1),.val (I (W (a1 * 5))),.val (I (W ((D.aO a0)+(W (a1 * 5))))),.val (z6 (ac a0)),.val (I a1),.val (z6 (bS (D.cO a0 a1))),.slice w2.heap.size (.cells ((boundsC [(D.cO a0 a1)])).toArray 148 (0,0)) 1,.val (I (D.cg a0 (W ((D.aO a0)+(W (a1 * 5)))) ([(D.cO a0 a1)])))] mixed r kz (kV (kV (kV (kV (kV (kV (kV (kV (kV (ct (Nat.le_refl _) (kV bH))))))))))) ?_ ?_
 ·
  refine ec r (fun _ u _ b d s=>aU s (cs:=(ac a0)) (n:=6) rfl (keep b H1) IJ rfl bz) (ec r (fun _ u _ b d s=>aU s (cs:=(ac a0)) (n:=6) rfl (keep b H1) IJ rfl bz) (ec r (fun I2 u w' hb' hd r'=>aN r' (args:=[(z6 (ac a0))]) (lc hd.1 l0) pu ((mT _ a0).mono JL)) (ec r (fun _ u _ b d s=>aw s rfl bz) (ec r (fun _ u _ b d s=>bd s d.1 rfl rfl rfl bz) (ec r (fun _ u _ b d s=>bd s d.1 d.2.1 rfl rfl bz) (ec r (fun _ u _ b d s=>aU s (cs:=(ac a0)) (n:=6) rfl (keep b H1) IJ rfl bz) (ec r (fun _ u _ b d s=>aw s rfl bz) (ec r (fun I2 u w' hb' hd r'=>aN r' (args:=[(z6 (ac a0)),(I a1)]) (lc hd.1 (lc hd.2.1 l0)) sx ((pX _ a0 a1).mono JL)) (ec r (fun I2 u w' hb' hd r'=>cJ r' (c:=((boundsC [(D.cO a0 a1)])).toArray) (E:=148) (bs1 (congrArg (fun z=>(0,z)) hd.1) kz) (fun b w2 n2=>⟨n2.below,b,rfl,Nat.le_of_eq n2.eq.symm,n2.at_⟩)) ?_)))))))));refine dA r rfl (fun I2 u w' hb' hd r'=>?_) ?_
  · obtain ⟨d0,d1,d2,d3,_⟩:=hd; obtain ⟨q2,hq2,_,Jz⟩:=d2; exact aN r' (args:=[(z6 (ac a0)),(I (W ((D.aO a0)+(W (a1 * 5))))),(.slice (some ⟨q2,0,none⟩) 1 1)]) (lc d0 (lc d1 (lc hq2 l0))) cl68 ((iF _ a0 (W ((D.aO a0)+(W (a1 * 5)))) ([(D.cO a0 a1)]) Jz yak).mono JL)
  exact bJ
 intro fr u w4 hb Iz hne r;obtain ⟨b5,g9,E5,H5⟩:=Iz 9 ke;have l_b5:=q8 H5;have r:=r.congr (sc (Iz 10 ke) (sc g9 (sc (Iz 8 ke) (sc (Iz 7 ke) (sc (Iz 6 ke) (sc (Iz 5 ke) (sc (Iz 4 ke) (sc (Iz 3 ke) (sc (Iz 2 ke) (sc (Iz 1 ke) (sc (Iz 0 ke) rfl)))))))))));have Z4:=hb.size;have H1:=keep hb H1;obtain ⟨hB,zB⟩:=IQ hb hB;refine kA (I (D.cg a0 (W ((D.aO a0)+(W (a1 * 5)))) ([(D.cO a0 a1)]))) r rfl rfl fun r=>wn (q4 ?_);refine aT r rfl rfl ?_
 exact ⟨rfl,hB⟩
def D.cN (a0:Plan) (a1:Int):IG:=(⟨a1,0,(IntKind.i64.wrap (a0.threads - 1))⟩:IG)
theorem pN (w0:World) 
    (a0:Plan) (a1:Int) :
    Calls B0 287 #[z6 (ac a0),.int .i64 a1] w0 (bB (z6 (bS (D.cN a0 a1))) w0):=by
 refine kN Tryz.func287 rfl 10 rfl rfl fun fr r hB=>?_;refine I0 ?_
 refine kX 23 (z6 (ac a0)) r rfl rfl fun b1 w2 n3 r=>?_;obtain ⟨E1,Z2,H1,hB,zB⟩:=n3.all hB
 refine ah (.cells ((bS (⟨0,0,0⟩:IG))).toArray 148 (0,0)) r (fun R=>ag si) rfl fun fr b4 w5 n6 r=>?_;have H1:=keep n6.below H1
 obtain ⟨E4,Z5,H4,hB,zB⟩:=n6.all hB;refine wn (I0 (kM (I a1) r rfl rfl fun r=>kF 0 r rfl gp rfl fun r=>kL (I a0.threads) r rfl H1 IL rfl rfl fun r=>kB r rfl rfl rfl rfl rfl fun r=>kU (.agg (bS (⟨a1,0,(W (a0.threads - 1))⟩:IG)).toArray) r kz rfl fun r=>?_));refine aM (.cells ((bS (⟨a1,0,(W (a0.threads - 1))⟩:IG))).toArray 148 (0,0)) r (fun R=>bb r (o:=0) (v:=(.agg (bS (⟨a1,0,(W (a0.threads - 1))⟩:IG)).toArray)) rfl rfl H4 rV u7 rfl rfl) rfl fun fr w7 u8 r=>?_
 have Z7:=u8.size;have H1:=u8.keep H1 O
 have H4:=u8.at_;obtain ⟨hB,zB⟩:=u8.on hB O
 refine wn (q4 ?_);refine ak r rfl rfl H4 (k:=3) rfl s9 ?_;exact ⟨rfl,hB⟩
def D.dZ (a0:Plan) (a1:Int):Int:=(D.cg a0 (IntKind.i64.wrap ((D.cF a0)+(IntKind.i64.wrap (a1 * (IntKind.i64.wrap (1+a0.retire)))))) ([(D.cN a0 a1)]))
theorem mS (w0:World) 
    (a0:Plan) (a1:Int) :
    Calls B0 194 #[z6 (ac a0),.int .i64 a1] w0 (bB (.int .i64 (D.dZ a0 a1)) w0):=by
 refine kN Tryz.func194 rfl 19 rfl rfl fun fr r hB=>?_;refine I0 ?_
 refine kX 23 (z6 (ac a0)) r rfl rfl fun b1 w2 n3 r=>?_;obtain ⟨E1,Z2,H1,hB,zB⟩:=n3.all hB
 refine kA (I 0) r rfl rfl fun r=>wn (d9 ?_);refine bI 14 [.val (z6 (ac a0)),.val (z6 (ac a0)),.val (I (D.cF a0)),.val (I a1),.val (.pointer (some ⟨b1,2,none⟩)),.val (I a0.retire),.val (I (W (1+a0.retire))),.val (I (W (a1 * (W (1+a0.retire))))),.val (I (W ((D.cF a0)+(W (a1 * (W (1+a0.retire))))))),.val (z6 (ac a0)),.val (I a1),.val (z6 (bS (D.cN a0 a1))),.slice w2.heap.size (.cells ((boundsC [(D.cN a0 a1)])).toArray 148 (0,0)) 1,.val (I (D.cg a0 (W ((D.cF a0)+(W (a1 * (W (1+a0.retire)))))) ([(D.cN a0 a1)])))] mixed r kz (kV (kV (kV (kV (kV (kV (kV (kV (kV (kV (kV (kV (ct (Nat.le_refl _) (kV bH)))))))))))))) ?_ ?_
 ·
  refine ec r (fun _ u _ b d s=>aU s (cs:=(ac a0)) (n:=6) rfl (keep b H1) IJ rfl bz) (ec r (fun _ u _ b d s=>aU s (cs:=(ac a0)) (n:=6) rfl (keep b H1) IJ rfl bz) (ec r (fun I2 u w' hb' hd r'=>aN r' (args:=[(z6 (ac a0))]) (lc hd.1 l0) s6 ((pR _ a0).mono JL)) (ec r (fun _ u _ b d s=>aw s rfl bz) (ec r (fun _ u _ b d s=>az s (b:=b1) (o:=0) rfl fa bz) (ec r (fun _ u _ b d s=>ax s d.1 (keep b H1) IL rfl bz) (ec r (fun _ u _ b d s=>bd s rfl d.1 rfl rfl bz) (ec r (fun _ u _ b d s=>bd s d.1 d.2.1 rfl rfl bz) (ec r (fun _ u _ b d s=>bd s d.1 d.2.1 rfl rfl bz) (ec r (fun _ u _ b d s=>aU s (cs:=(ac a0)) (n:=6) rfl (keep b H1) IJ rfl bz) (ec r (fun _ u _ b d s=>aw s rfl bz) (ec r (fun I2 u w' hb' hd r'=>aN r' (args:=[(z6 (ac a0)),(I a1)]) (lc hd.1 (lc hd.2.1 l0)) rX ((pN _ a0 a1).mono JL)) (ec r (fun I2 u w' hb' hd r'=>cJ r' (c:=((boundsC [(D.cN a0 a1)])).toArray) (E:=148) (bs1 (congrArg (fun z=>(0,z)) hd.1) kz) (fun b w2 n2=>⟨n2.below,b,rfl,Nat.le_of_eq n2.eq.symm,n2.at_⟩)) ?_))))))))))));refine dA r rfl (fun I2 u w' hb' hd r'=>?_) ?_
  · obtain ⟨d0,d1,d2,d3,_⟩:=hd; obtain ⟨q2,hq2,_,Jz⟩:=d2; exact aN r' (args:=[(z6 (ac a0)),(I (W ((D.cF a0)+(W (a1 * (W (1+a0.retire))))))),(.slice (some ⟨q2,0,none⟩) 1 1)]) (lc d0 (lc d1 (lc hq2 l0))) cl68 ((iF _ a0 (W ((D.cF a0)+(W (a1 * (W (1+a0.retire)))))) ([(D.cN a0 a1)]) Jz yak).mono JL)
  exact bJ
 intro fr u w4 hb Iz hne r;obtain ⟨b5,g12,E5,H5⟩:=Iz 12 ke;have l_b5:=q8 H5;have r:=r.congr (sc (Iz 13 ke) (sc g12 (sc (Iz 11 ke) (sc (Iz 10 ke) (sc (Iz 9 ke) (sc (Iz 8 ke) (sc (Iz 7 ke) (sc (Iz 6 ke) (sc (Iz 5 ke) (sc (Iz 4 ke) (sc (Iz 3 ke) (sc (Iz 2 ke) (sc (Iz 1 ke) (sc (Iz 0 ke) rfl))))))))))))));have Z4:=hb.size;have H1:=keep hb H1;obtain ⟨hB,zB⟩:=IQ hb hB;refine kA (I (D.cg a0 (W ((D.cF a0)+(W (a1 * (W (1+a0.retire)))))) ([(D.cN a0 a1)]))) r rfl rfl fun r=>wn (q4 ?_);refine aT r rfl rfl ?_
 exact ⟨rfl,hB⟩
def D.dI (a0:Plan) (a1:Int) (a2:Int):Int:=(D.cg a0 (IntKind.i64.wrap ((IntKind.i64.wrap ((IntKind.i64.wrap ((D.cF a0)+(IntKind.i64.wrap (a1 * (IntKind.i64.wrap (1+a0.retire))))))+1))+a2)) ([(D.cN a0 a1),(⟨a2,0,(IntKind.i64.wrap (a0.retire - 1))⟩:IG)]))
theorem mN (w0:World) 
    (a0:Plan) (a1:Int) (a2:Int) :
    Calls B0 195 #[z6 (ac a0),.int .i64 a1,.int .i64 a2] w0 (bB (.int .i64 (D.dI a0 a1 a2)) w0):=by
 refine kN Tryz.func195 rfl 29 rfl rfl fun fr r hB=>?_;refine I0 ?_
 refine kX 23 (z6 (ac a0)) r rfl rfl fun b1 w2 n3 r=>?_;obtain ⟨E1,Z2,H1,hB,zB⟩:=n3.all hB
 refine kA (I 0) r rfl rfl fun r=>wn (d9 ?_);refine bI 22 [.val (z6 (ac a0)),.val (z6 (ac a0)),.val (I (D.cF a0)),.val (I a1),.val (.pointer (some ⟨b1,2,none⟩)),.val (I a0.retire),.val (I (W (1+a0.retire))),.val (I (W (a1 * (W (1+a0.retire))))),.val (I (W ((D.cF a0)+(W (a1 * (W (1+a0.retire))))))),.val (I (W ((W ((D.cF a0)+(W (a1 * (W (1+a0.retire))))))+1))),.val (I a2),.val (I (W ((W ((W ((D.cF a0)+(W (a1 * (W (1+a0.retire))))))+1))+a2))),.val (z6 (ac a0)),.val (I a1),.val (z6 (bS (D.cN a0 a1))),.val (I a2),.val (.pointer (some ⟨b1,2,none⟩)),.val (I a0.retire),.val (I (W (a0.retire - 1))),.val (.agg (bS (⟨a2,0,(W (a0.retire - 1))⟩:IG)).toArray),.slice w2.heap.size (.cells ((boundsC [(D.cN a0 a1),(⟨a2,0,(W (a0.retire - 1))⟩:IG)])).toArray 148 (0,0)) 2,.val (I (D.cg a0 (W ((W ((W ((D.cF a0)+(W (a1 * (W (1+a0.retire))))))+1))+a2)) ([(D.cN a0 a1),(⟨a2,0,(W (a0.retire - 1))⟩:IG)])))] mixed r kz (kV (kV (kV (kV (kV (kV (kV (kV (kV (kV (kV (kV (kV (kV (kV (kV (kV (kV (kV (kV (ct (Nat.le_refl _) (kV bH)))))))))))))))))))))) ?_ ?_
 ·
  refine ec r (fun _ u _ b d s=>aU s (cs:=(ac a0)) (n:=6) rfl (keep b H1) IJ rfl bz) (ec r (fun _ u _ b d s=>aU s (cs:=(ac a0)) (n:=6) rfl (keep b H1) IJ rfl bz) (ec r (fun I2 u w' hb' hd r'=>aN r' (args:=[(z6 (ac a0))]) (lc hd.1 l0) s6 ((pR _ a0).mono JL)) (ec r (fun _ u _ b d s=>aw s rfl bz) (ec r (fun _ u _ b d s=>az s (b:=b1) (o:=0) rfl fa bz) (ec r (fun _ u _ b d s=>ax s d.1 (keep b H1) IL rfl bz) (ec r (fun _ u _ b d s=>bd s rfl d.1 rfl rfl bz) (ec r (fun _ u _ b d s=>bd s d.1 d.2.1 rfl rfl bz) (ec r (fun _ u _ b d s=>bd s d.1 d.2.1 rfl rfl bz) (ec r (fun _ u _ b d s=>bd s d.1 rfl rfl rfl bz) (ec r (fun _ u _ b d s=>aw s rfl bz) (ec r (fun _ u _ b d s=>bd s d.1 d.2.1 rfl rfl bz) (ec r (fun _ u _ b d s=>aU s (cs:=(ac a0)) (n:=6) rfl (keep b H1) IJ rfl bz) (ec r (fun _ u _ b d s=>aw s rfl bz) (ec r (fun I2 u w' hb' hd r'=>aN r' (args:=[(z6 (ac a0)),(I a1)]) (lc hd.1 (lc hd.2.1 l0)) rX ((pN _ a0 a1).mono JL)) (ec r (fun _ u _ b d s=>aw s rfl bz) (ec r (fun _ u _ b d s=>az s (b:=b1) (o:=0) rfl fa bz) (ec r (fun _ u _ b d s=>ax s d.1 (keep b H1) IL rfl bz) (ec r (fun _ u _ b d s=>bd s d.1 rfl rfl rfl bz) (ec r (fun I2 u w' hb' hd r'=>eQ r' (v:=(.agg (bS (⟨a2,0,(W (a0.retire - 1))⟩:IG)).toArray)) (bs3 (congrArg (fun z=>(0,z)) hd.1) (rfl) (congrArg (fun z=>(2,z)) hd.2.1) kz) bz) (ec r (fun I2 u w' hb' hd r'=>cJ r' (c:=((boundsC [(D.cN a0 a1),(⟨a2,0,(W (a0.retire - 1))⟩:IG)])).toArray) (E:=148) (bs2 (congrArg (fun z=>(0,z)) hd.1) (congrArg (fun z=>(1,z)) hd.2.1) kz) (fun b w2 n2=>⟨n2.below,b,rfl,Nat.le_of_eq n2.eq.symm,n2.at_⟩)) ?_))))))))))))))))))))
  refine dA r rfl (fun I2 u w' hb' hd r'=>?_) ?_
  · obtain ⟨d0,d1,d2,d3,_⟩:=hd; obtain ⟨q2,hq2,_,Jz⟩:=d2; exact aN r' (args:=[(z6 (ac a0)),(I (W ((W ((W ((D.cF a0)+(W (a1 * (W (1+a0.retire))))))+1))+a2))),(.slice (some ⟨q2,0,none⟩) 2 2)]) (lc d0 (lc d1 (lc hq2 l0))) cl68 ((iF _ a0 (W ((W ((W ((D.cF a0)+(W (a1 * (W (1+a0.retire))))))+1))+a2)) ([(D.cN a0 a1),(⟨a2,0,(W (a0.retire - 1))⟩:IG)]) Jz yak).mono JL)
  exact bJ
 intro fr u w4 hb Iz hne r;obtain ⟨b5,g20,E5,H5⟩:=Iz 20 ke;have l_b5:=q8 H5;have r:=r.congr (sc (Iz 21 ke) (sc g20 (sc (Iz 19 ke) (sc (Iz 18 ke) (sc (Iz 17 ke) (sc (Iz 16 ke) (sc (Iz 15 ke) (sc (Iz 14 ke) (sc (Iz 13 ke) (sc (Iz 12 ke) (sc (Iz 11 ke) (sc (Iz 10 ke) (sc (Iz 9 ke) (sc (Iz 8 ke) (sc (Iz 7 ke) (sc (Iz 6 ke) (sc (Iz 5 ke) (sc (Iz 4 ke) (sc (Iz 3 ke) (sc (Iz 2 ke) (sc (Iz 1 ke) (sc (Iz 0 ke) rfl))))))))))))))))))))));have Z4:=hb.size;have H1:=keep hb H1;obtain ⟨hB,zB⟩:=IQ hb hB;refine kA (I (D.cg a0 (W ((W ((W ((D.cF a0)+(W (a1 * (W (1+a0.retire))))))+1))+a2)) ([(D.cN a0 a1),(⟨a2,0,(W (a0.retire - 1))⟩:IG)]))) r rfl rfl fun r=>wn (q4 ?_);refine aT r rfl rfl ?_
 exact ⟨rfl,hB⟩
def D.fO (a0:Plan) (a1:Int) (a2:Int):Int:=(D.cg a0 (IntKind.i64.wrap ((IntKind.i64.wrap ((D.aL a0)+(IntKind.i64.wrap (a1 * 3))))+a2)) ([(D.cN a0 a1),(⟨a2,0,2⟩:IG)]))
theorem tC (w0:World) 
    (a0:Plan) (a1:Int) (a2:Int) :
    Calls B0 302 #[z6 (ac a0),.int .i64 a1,.int .i64 a2] w0 (bB (.int .i64 (D.fO a0 a1 a2)) w0):=by
 refine kN Tryz.func302 rfl 22 rfl rfl fun fr r hB=>?_;refine I0 ?_
 refine kX 23 (z6 (ac a0)) r rfl rfl fun b1 w2 n3 r=>?_;obtain ⟨E1,Z2,H1,hB,zB⟩:=n3.all hB
 refine kA (I 0) r rfl rfl fun r=>wn (d9 ?_);refine bI 15 [.val (z6 (ac a0)),.val (z6 (ac a0)),.val (I (D.aL a0)),.val (I a1),.val (I (W (a1 * 3))),.val (I (W ((D.aL a0)+(W (a1 * 3))))),.val (I a2),.val (I (W ((W ((D.aL a0)+(W (a1 * 3))))+a2))),.val (z6 (ac a0)),.val (I a1),.val (z6 (bS (D.cN a0 a1))),.val (I a2),.val (z6 (bS (⟨a2,0,2⟩:IG))),.slice w2.heap.size (.cells ((boundsC [(D.cN a0 a1),(⟨a2,0,2⟩:IG)])).toArray 148 (0,0)) 2,.val (I (D.cg a0 (W ((W ((D.aL a0)+(W (a1 * 3))))+a2)) ([(D.cN a0 a1),(⟨a2,0,2⟩:IG)])))] mixed r kz (kV (kV (kV (kV (kV (kV (kV (kV (kV (kV (kV (kV (kV (ct (Nat.le_refl _) (kV bH))))))))))))))) ?_ ?_
 ·
  refine ec r (fun _ u _ b d s=>aU s (cs:=(ac a0)) (n:=6) rfl (keep b H1) IJ rfl bz) (ec r (fun _ u _ b d s=>aU s (cs:=(ac a0)) (n:=6) rfl (keep b H1) IJ rfl bz) (ec r (fun I2 u w' hb' hd r'=>aN r' (args:=[(z6 (ac a0))]) (lc hd.1 l0) xW ((tA _ a0).mono JL)) (ec r (fun _ u _ b d s=>aw s rfl bz) (ec r (fun _ u _ b d s=>bd s d.1 rfl rfl rfl bz) (ec r (fun _ u _ b d s=>bd s d.1 d.2.1 rfl rfl bz) (ec r (fun _ u _ b d s=>aw s rfl bz) (ec r (fun _ u _ b d s=>bd s d.1 d.2.1 rfl rfl bz) (ec r (fun _ u _ b d s=>aU s (cs:=(ac a0)) (n:=6) rfl (keep b H1) IJ rfl bz) (ec r (fun _ u _ b d s=>aw s rfl bz) (ec r (fun I2 u w' hb' hd r'=>aN r' (args:=[(z6 (ac a0)),(I a1)]) (lc hd.1 (lc hd.2.1 l0)) rX ((pN _ a0 a1).mono JL)) (ec r (fun _ u _ b d s=>aw s rfl bz) (ec r (fun I2 u w' hb' hd r'=>eQ r' (v:=(z6 (bS (⟨a2,0,2⟩:IG)))) (bs3 (congrArg (fun z=>(0,z)) hd.1) (rfl) (rfl) kz) bz) (ec r (fun I2 u w' hb' hd r'=>cJ r' (c:=((boundsC [(D.cN a0 a1),(⟨a2,0,2⟩:IG)])).toArray) (E:=148) (bs2 (congrArg (fun z=>(0,z)) hd.1) (congrArg (fun z=>(1,z)) hd.2.1) kz) (fun b w2 n2=>⟨n2.below,b,rfl,Nat.le_of_eq n2.eq.symm,n2.at_⟩)) ?_)))))))))))));refine dA r rfl (fun I2 u w' hb' hd r'=>?_) ?_
  · obtain ⟨d0,d1,d2,d3,_⟩:=hd; obtain ⟨q2,hq2,_,Jz⟩:=d2; exact aN r' (args:=[(z6 (ac a0)),(I (W ((W ((D.aL a0)+(W (a1 * 3))))+a2))),(.slice (some ⟨q2,0,none⟩) 2 2)]) (lc d0 (lc d1 (lc hq2 l0))) cl68 ((iF _ a0 (W ((W ((D.aL a0)+(W (a1 * 3))))+a2)) ([(D.cN a0 a1),(⟨a2,0,2⟩:IG)]) Jz yak).mono JL)
  exact bJ
 intro fr u w4 hb Iz hne r;obtain ⟨b5,g13,E5,H5⟩:=Iz 13 ke;have l_b5:=q8 H5;have r:=r.congr (sc (Iz 14 ke) (sc g13 (sc (Iz 12 ke) (sc (Iz 11 ke) (sc (Iz 10 ke) (sc (Iz 9 ke) (sc (Iz 8 ke) (sc (Iz 7 ke) (sc (Iz 6 ke) (sc (Iz 5 ke) (sc (Iz 4 ke) (sc (Iz 3 ke) (sc (Iz 2 ke) (sc (Iz 1 ke) (sc (Iz 0 ke) rfl)))))))))))))));have Z4:=hb.size;have H1:=keep hb H1;obtain ⟨hB,zB⟩:=IQ hb hB;refine kA (I (D.cg a0 (W ((W ((D.aL a0)+(W (a1 * 3))))+a2)) ([(D.cN a0 a1),(⟨a2,0,2⟩:IG)]))) r rfl rfl fun r=>wn (q4 ?_);refine aT r rfl rfl ?_
 exact ⟨rfl,hB⟩
def D.bo (a0:Plan) (a1:Int) (a2:Int):Int:=(D.cg a0 (IntKind.i64.wrap ((IntKind.i64.wrap ((IntKind.i64.wrap ((D.aO a0)+(IntKind.i64.wrap (a1 * 5))))+2))+a2)) ([(D.cO a0 a1),(⟨a2,0,2⟩:IG)]))
theorem eB (w0:World) 
    (a0:Plan) (a1:Int) (a2:Int) :
    Calls B0 89 #[z6 (ac a0),.int .i64 a1,.int .i64 a2] w0 (bB (.int .i64 (D.bo a0 a1 a2)) w0):=by
 refine kN Tryz.func89 rfl 23 rfl rfl fun fr r hB=>?_;refine I0 ?_
 refine kX 23 (z6 (ac a0)) r rfl rfl fun b1 w2 n3 r=>?_;obtain ⟨E1,Z2,H1,hB,zB⟩:=n3.all hB
 refine kA (I 0) r rfl rfl fun r=>wn (d9 ?_);refine bI 16 [.val (z6 (ac a0)),.val (z6 (ac a0)),.val (I (D.aO a0)),.val (I a1),.val (I (W (a1 * 5))),.val (I (W ((D.aO a0)+(W (a1 * 5))))),.val (I (W ((W ((D.aO a0)+(W (a1 * 5))))+2))),.val (I a2),.val (I (W ((W ((W ((D.aO a0)+(W (a1 * 5))))+2))+a2))),.val (z6 (ac a0)),.val (I a1),.val (z6 (bS (D.cO a0 a1))),.val (I a2),.val (z6 (bS (⟨a2,0,2⟩:IG))),.slice w2.heap.size (.cells ((boundsC [(D.cO a0 a1),(⟨a2,0,2⟩:IG)])).toArray 148 (0,0)) 2,.val (I (D.cg a0 (W ((W ((W ((D.aO a0)+(W (a1 * 5))))+2))+a2)) ([(D.cO a0 a1),(⟨a2,0,2⟩:IG)])))] mixed r kz (kV (kV (kV (kV (kV (kV (kV (kV (kV (kV (kV (kV (kV (kV (ct (Nat.le_refl _) (kV bH)))))))))))))))) ?_ ?_
 ·
  refine ec r (fun _ u _ b d s=>aU s (cs:=(ac a0)) (n:=6) rfl (keep b H1) IJ rfl bz) (ec r (fun _ u _ b d s=>aU s (cs:=(ac a0)) (n:=6) rfl (keep b H1) IJ rfl bz) (ec r (fun I2 u w' hb' hd r'=>aN r' (args:=[(z6 (ac a0))]) (lc hd.1 l0) pu ((mT _ a0).mono JL)) (ec r (fun _ u _ b d s=>aw s rfl bz) (ec r (fun _ u _ b d s=>bd s d.1 rfl rfl rfl bz) (ec r (fun _ u _ b d s=>bd s d.1 d.2.1 rfl rfl bz) (ec r (fun _ u _ b d s=>bd s d.1 rfl rfl rfl bz) (ec r (fun _ u _ b d s=>aw s rfl bz) (ec r (fun _ u _ b d s=>bd s d.1 d.2.1 rfl rfl bz) (ec r (fun _ u _ b d s=>aU s (cs:=(ac a0)) (n:=6) rfl (keep b H1) IJ rfl bz) (ec r (fun _ u _ b d s=>aw s rfl bz) (ec r (fun I2 u w' hb' hd r'=>aN r' (args:=[(z6 (ac a0)),(I a1)]) (lc hd.1 (lc hd.2.1 l0)) sx ((pX _ a0 a1).mono JL)) (ec r (fun _ u _ b d s=>aw s rfl bz) (ec r (fun I2 u w' hb' hd r'=>eQ r' (v:=(z6 (bS (⟨a2,0,2⟩:IG)))) (bs3 (congrArg (fun z=>(0,z)) hd.1) (rfl) (rfl) kz) bz) (ec r (fun I2 u w' hb' hd r'=>cJ r' (c:=((boundsC [(D.cO a0 a1),(⟨a2,0,2⟩:IG)])).toArray) (E:=148) (bs2 (congrArg (fun z=>(0,z)) hd.1) (congrArg (fun z=>(1,z)) hd.2.1) kz) (fun b w2 n2=>⟨n2.below,b,rfl,Nat.le_of_eq n2.eq.symm,n2.at_⟩)) ?_))))))))))))));refine dA r rfl (fun I2 u w' hb' hd r'=>?_) ?_
  · obtain ⟨d0,d1,d2,d3,_⟩:=hd; obtain ⟨q2,hq2,_,Jz⟩:=d2; exact aN r' (args:=[(z6 (ac a0)),(I (W ((W ((W ((D.aO a0)+(W (a1 * 5))))+2))+a2))),(.slice (some ⟨q2,0,none⟩) 2 2)]) (lc d0 (lc d1 (lc hq2 l0))) cl68 ((iF _ a0 (W ((W ((W ((D.aO a0)+(W (a1 * 5))))+2))+a2)) ([(D.cO a0 a1),(⟨a2,0,2⟩:IG)]) Jz yak).mono JL)
  exact bJ
 intro fr u w4 hb Iz hne r;obtain ⟨b5,g14,E5,H5⟩:=Iz 14 ke;have l_b5:=q8 H5;have r:=r.congr (sc (Iz 15 ke) (sc g14 (sc (Iz 13 ke) (sc (Iz 12 ke) (sc (Iz 11 ke) (sc (Iz 10 ke) (sc (Iz 9 ke) (sc (Iz 8 ke) (sc (Iz 7 ke) (sc (Iz 6 ke) (sc (Iz 5 ke) (sc (Iz 4 ke) (sc (Iz 3 ke) (sc (Iz 2 ke) (sc (Iz 1 ke) (sc (Iz 0 ke) rfl))))))))))))))));have Z4:=hb.size;have H1:=keep hb H1;obtain ⟨hB,zB⟩:=IQ hb hB;refine kA (I (D.cg a0 (W ((W ((W ((D.aO a0)+(W (a1 * 5))))+2))+a2)) ([(D.cO a0 a1),(⟨a2,0,2⟩:IG)]))) r rfl rfl fun r=>wn (q4 ?_);refine aT r rfl rfl ?_
 exact ⟨rfl,hB⟩
def D.cM (a0:Plan):Bool:=(bif (decide (a0.nodes<1)) then false else (bif (decide (a0.nodes > 1048576)) then false else (bif (decide (a0.threads<1)) then false else (bif (decide (a0.threads > 16)) then false else (bif (decide (a0.domains<0)) then false else (bif (decide (a0.domains > 64)) then false else (bif (decide (a0.buckets>=1)) then (bif (decide (a0.buckets<=256)) then (bif (decide (a0.IP>=1)) then (bif (decide (a0.IP<=1073741823)) then (bif (decide (a0.retire > (IntKind.i64.wrap (3 * a0.threads)))) then (decide (a0.retire<=1024)) else false) else false) else false) else false) else false)))))))
theorem tu (w0:World) 
    (a0:Plan) :
    Calls B0 58 #[z6 (ac a0)] w0 (bB (.bool (D.cM a0)) w0):=by
 refine kN Tryz.func58 rfl 62 rfl rfl fun fr r hB=>?_;refine I0 ?_
 refine kX 23 (z6 (ac a0)) r rfl rfl fun b1 w2 n3 r=>?_;obtain ⟨E1,Z2,H1,hB,zB⟩:=n3.all hB
 refine kA (.bool false) r rfl rfl fun r=>wn (d9 (I0 (kF 0 r rfl eR rfl fun r=>kL (I a0.nodes) r rfl H1 IL rfl rfl fun r=>kB r rfl rfl rfl rfl rfl fun r=>kM (.bool (decide (a0.nodes<1))) r rfl rfl fun r=>?_)));refine bG (decide (a0.nodes<1)) (fun h4=>?_) (fun h4=>?_)
 ·
  refine s0 r h4 fun fr r=>s0 r h4 fun fr r=>s0 r h4 fun fr r=>aa (.bool true) r (fun R=>ay r (b:=true) (kb h4) rfl) rfl fun fr r=>kM (.bool true) r rfl rfl fun r=>s0 r (rfl:true=_) fun fr r=>s0 r (rfl:true=_) fun fr r=>s0 r (rfl:true=_) fun fr r=>aa (.bool true) r (fun R=>ay r (b:=true) (kb (rfl:true=_)) rfl) rfl fun fr r=>kM (.bool true) r rfl rfl fun r=>s0 r (rfl:true=_) fun fr r=>s0 r (rfl:true=_) fun fr r=>s0 r (rfl:true=_) fun fr r=>aa (.bool true) r (fun R=>ay r (b:=true) (kb (rfl:true=_)) rfl) rfl fun fr r=>kM (.bool true) r rfl rfl fun r=>s0 r (rfl:true=_) fun fr r=>s0 r (rfl:true=_) fun fr r=>s0 r (rfl:true=_) fun fr r=>aa (.bool true) r (fun R=>ay r (b:=true) (kb (rfl:true=_)) rfl) rfl fun fr r=>kM (.bool true) r rfl rfl fun r=>s0 r (rfl:true=_) fun fr r=>s0 r (rfl:true=_) fun fr r=>s0 r (rfl:true=_) fun fr r=>aa (.bool true) r (fun R=>ay r (b:=true) (kb (rfl:true=_)) rfl) rfl fun fr r=>wn ?_;refine q5 (t:=true) (r.ev rfl) (fun _=>?_) (fun h=>absurd ((rfl:true=_).symm.trans h) ke)
  refine I0 (kA (.bool false) r rfl rfl fun r=>wn (q4 ?_));have hd:D.cM a0=false:=(ar h4).trans (rfl)
  refine aT r rfl rfl ?_;rw [hd];exact ⟨rfl,hB⟩
 refine s1 r h4 (kF 0 r rfl eR rfl fun r=>s1 r h4 (kL (I a0.nodes) r rfl H1 IL rfl rfl fun r=>s1 r h4 (kB r rfl rfl rfl rfl rfl fun r=>aa (.bool (decide (a0.nodes > 1048576))) r (fun R=>ay r (b:=false) (kb h4) rfl) rfl fun fr r=>kM (.bool (decide (a0.nodes > 1048576))) r rfl rfl fun r=>?_)));refine bG (decide (a0.nodes > 1048576)) (fun h5=>?_) (fun h5=>?_)
 ·
  refine s0 r h5 fun fr r=>s0 r h5 fun fr r=>s0 r h5 fun fr r=>aa (.bool true) r (fun R=>ay r (b:=true) (kb h5) rfl) rfl fun fr r=>kM (.bool true) r rfl rfl fun r=>s0 r (rfl:true=_) fun fr r=>s0 r (rfl:true=_) fun fr r=>s0 r (rfl:true=_) fun fr r=>aa (.bool true) r (fun R=>ay r (b:=true) (kb (rfl:true=_)) rfl) rfl fun fr r=>kM (.bool true) r rfl rfl fun r=>s0 r (rfl:true=_) fun fr r=>s0 r (rfl:true=_) fun fr r=>s0 r (rfl:true=_) fun fr r=>aa (.bool true) r (fun R=>ay r (b:=true) (kb (rfl:true=_)) rfl) rfl fun fr r=>kM (.bool true) r rfl rfl fun r=>s0 r (rfl:true=_) fun fr r=>s0 r (rfl:true=_) fun fr r=>s0 r (rfl:true=_) fun fr r=>aa (.bool true) r (fun R=>ay r (b:=true) (kb (rfl:true=_)) rfl) rfl fun fr r=>wn ?_;refine q5 (t:=true) (r.ev rfl) (fun _=>?_) (fun h=>absurd ((rfl:true=_).symm.trans h) ke)
  refine I0 (kA (.bool false) r rfl rfl fun r=>wn (q4 ?_));have hd:D.cM a0=false:=(ai h4).trans ((ar h5).trans (rfl))
  refine aT r rfl rfl ?_;rw [hd];exact ⟨rfl,hB⟩
 refine s1 r h5 (kF 0 r rfl gp rfl fun r=>s1 r h5 (kL (I a0.threads) r rfl H1 IL rfl rfl fun r=>s1 r h5 (kB r rfl rfl rfl rfl rfl fun r=>aa (.bool (decide (a0.threads<1))) r (fun R=>ay r (b:=false) (kb h5) rfl) rfl fun fr r=>kM (.bool (decide (a0.threads<1))) r rfl rfl fun r=>?_)));refine bG (decide (a0.threads<1)) (fun h6=>?_) (fun h6=>?_)
 ·
  refine s0 r h6 fun fr r=>s0 r h6 fun fr r=>s0 r h6 fun fr r=>aa (.bool true) r (fun R=>ay r (b:=true) (kb h6) rfl) rfl fun fr r=>kM (.bool true) r rfl rfl fun r=>s0 r (rfl:true=_) fun fr r=>s0 r (rfl:true=_) fun fr r=>s0 r (rfl:true=_) fun fr r=>aa (.bool true) r (fun R=>ay r (b:=true) (kb (rfl:true=_)) rfl) rfl fun fr r=>kM (.bool true) r rfl rfl fun r=>s0 r (rfl:true=_) fun fr r=>s0 r (rfl:true=_) fun fr r=>s0 r (rfl:true=_) fun fr r=>aa (.bool true) r (fun R=>ay r (b:=true) (kb (rfl:true=_)) rfl) rfl fun fr r=>wn ?_;refine q5 (t:=true) (r.ev rfl) (fun _=>?_) (fun h=>absurd ((rfl:true=_).symm.trans h) ke)
  refine I0 (kA (.bool false) r rfl rfl fun r=>wn (q4 ?_));have hd:D.cM a0=false:=(ai h4).trans ((ai h5).trans ((ar h6).trans (rfl)))
  refine aT r rfl rfl ?_;rw [hd];exact ⟨rfl,hB⟩
 refine s1 r h6 (kF 0 r rfl gp rfl fun r=>s1 r h6 (kL (I a0.threads) r rfl H1 IL rfl rfl fun r=>s1 r h6 (kB r rfl rfl rfl rfl rfl fun r=>aa (.bool (decide (a0.threads > 16))) r (fun R=>ay r (b:=false) (kb h6) rfl) rfl fun fr r=>kM (.bool (decide (a0.threads > 16))) r rfl rfl fun r=>?_)));refine bG (decide (a0.threads > 16)) (fun h7=>?_) (fun h7=>?_)
 ·
  refine s0 r h7 fun fr r=>s0 r h7 fun fr r=>s0 r h7 fun fr r=>aa (.bool true) r (fun R=>ay r (b:=true) (kb h7) rfl) rfl fun fr r=>kM (.bool true) r rfl rfl fun r=>s0 r (rfl:true=_) fun fr r=>s0 r (rfl:true=_) fun fr r=>s0 r (rfl:true=_) fun fr r=>aa (.bool true) r (fun R=>ay r (b:=true) (kb (rfl:true=_)) rfl) rfl fun fr r=>wn ?_;refine q5 (t:=true) (r.ev rfl) (fun _=>?_) (fun h=>absurd ((rfl:true=_).symm.trans h) ke)
  refine I0 (kA (.bool false) r rfl rfl fun r=>wn (q4 ?_));have hd:D.cM a0=false:=(ai h4).trans ((ai h5).trans ((ai h6).trans ((ar h7).trans (rfl))))
  refine aT r rfl rfl ?_;rw [hd];exact ⟨rfl,hB⟩
 refine s1 r h7 (kF 0 r rfl il rfl fun r=>s1 r h7 (kL (I a0.domains) r rfl H1 IL rfl rfl fun r=>s1 r h7 (kB r rfl rfl rfl rfl rfl fun r=>aa (.bool (decide (a0.domains<0))) r (fun R=>ay r (b:=false) (kb h7) rfl) rfl fun fr r=>kM (.bool (decide (a0.domains<0))) r rfl rfl fun r=>?_)));refine bG (decide (a0.domains<0)) (fun h8=>?_) (fun h8=>?_)
 ·
  refine s0 r h8 fun fr r=>s0 r h8 fun fr r=>s0 r h8 fun fr r=>aa (.bool true) r (fun R=>ay r (b:=true) (kb h8) rfl) rfl fun fr r=>wn ?_;refine q5 (t:=true) (r.ev rfl) (fun _=>?_) (fun h=>absurd ((rfl:true=_).symm.trans h) ke)
  refine I0 (kA (.bool false) r rfl rfl fun r=>wn (q4 ?_));have hd:D.cM a0=false:=(ai h4).trans ((ai h5).trans ((ai h6).trans ((ai h7).trans ((ar h8).trans (rfl)))))
  refine aT r rfl rfl ?_;rw [hd];exact ⟨rfl,hB⟩
 refine s1 r h8 (kF 0 r rfl il rfl fun r=>s1 r h8 (kL (I a0.domains) r rfl H1 IL rfl rfl fun r=>s1 r h8 (kB r rfl rfl rfl rfl rfl fun r=>aa (.bool (decide (a0.domains > 64))) r (fun R=>ay r (b:=false) (kb h8) rfl) rfl fun fr r=>wn ?_)));refine q5 (t:=(decide (a0.domains > 64))) (r.ev rfl) (fun h9=>?_) (fun h9=>?_)
 ·
  refine I0 (kA (.bool false) r rfl rfl fun r=>wn (q4 ?_));have hd:D.cM a0=false:=(ai h4).trans ((ai h5).trans ((ai h6).trans ((ai h7).trans ((ai h8).trans ((ar h9).trans (rfl))))))
  refine aT r rfl rfl ?_;rw [hd];exact ⟨rfl,hB⟩
 refine q7 (I0 (kF 0 r rfl j7 rfl fun r=>kL (I a0.buckets) r rfl H1 IL rfl rfl fun r=>kB r rfl rfl rfl rfl rfl fun r=>kM (.bool (decide (a0.buckets>=1))) r rfl rfl fun r=>?_));refine bG (decide (a0.buckets>=1)) (fun JS=>?_) (fun JS=>?_)
 ·
  refine s1 r JS (kF 0 r rfl j7 rfl fun r=>s1 r JS (kL (I a0.buckets) r rfl H1 IL rfl rfl fun r=>s1 r JS (kB r rfl rfl rfl rfl rfl fun r=>aa (.bool (decide (a0.buckets<=256))) r (fun R=>ay r (b:=true) (kb JS) rfl) rfl fun fr r=>kM (.bool (decide (a0.buckets<=256))) r rfl rfl fun r=>?_)));refine bG (decide (a0.buckets<=256)) (fun h11=>?_) (fun h11=>?_)
  ·
   refine s1 r h11 (kF 0 r rfl m8 rfl fun r=>s1 r h11 (kL (I a0.IP) r rfl H1 IL rfl rfl fun r=>s1 r h11 (kB r rfl rfl rfl rfl rfl fun r=>aa (.bool (decide (a0.IP>=1))) r (fun R=>ay r (b:=true) (kb h11) rfl) rfl fun fr r=>kM (.bool (decide (a0.IP>=1))) r rfl rfl fun r=>?_)));refine bG (decide (a0.IP>=1)) (fun h12=>?_) (fun h12=>?_)
   ·
    refine s1 r h12 (kF 0 r rfl m8 rfl fun r=>s1 r h12 (kL (I a0.IP) r rfl H1 IL rfl rfl fun r=>s1 r h12 (kB r rfl rfl rfl rfl rfl fun r=>aa (.bool (decide (a0.IP<=1073741823))) r (fun R=>ay r (b:=true) (kb h12) rfl) rfl fun fr r=>kM (.bool (decide (a0.IP<=1073741823))) r rfl rfl fun r=>?_)));refine bG (decide (a0.IP<=1073741823)) (fun J6=>?_) (fun J6=>?_)
    ·
     refine s1 r J6 (kF 0 r rfl fa rfl fun r=>s1 r J6 (kL (I a0.retire) r rfl H1 IL rfl rfl fun r=>s1 r J6 (kF 0 r rfl gp rfl fun r=>s1 r J6 (kL (I a0.threads) r rfl H1 IL rfl rfl fun r=>s1 r J6 (kB r rfl rfl rfl rfl rfl fun r=>s1 r J6 (kB r rfl rfl rfl rfl rfl fun r=>aa (.bool (decide (a0.retire > (W (3 * a0.threads))))) r (fun R=>ay r (b:=true) (kb J6) rfl) rfl fun fr r=>kM (.bool (decide (a0.retire > (W (3 * a0.threads))))) r rfl rfl fun r=>?_))))));refine bG (decide (a0.retire > (W (3 * a0.threads)))) (fun h14=>?_) (fun h14=>?_)
     ·
      refine s1 r h14 (kF 0 r rfl fa rfl fun r=>s1 r h14 (kL (I a0.retire) r rfl H1 IL rfl rfl fun r=>s1 r h14 (kB r rfl rfl rfl rfl rfl fun r=>aa (.bool (decide (a0.retire<=1024))) r (fun R=>ay r (b:=true) (kb h14) rfl) rfl fun fr r=>kA (.bool (decide (a0.retire<=1024))) r rfl rfl fun r=>wn (q4 ?_))));have hd:D.cM a0=(decide (a0.retire<=1024)):=(ai h4).trans ((ai h5).trans ((ai h6).trans ((ai h7).trans ((ai h8).trans ((ai h9).trans ((ar JS).trans ((ar h11).trans ((ar h12).trans ((ar J6).trans ((ar h14).trans (rfl)))))))))))
      refine aT r rfl rfl ?_;rw [hd];exact ⟨rfl,hB⟩
     refine s0 r h14 fun fr r=>s0 r h14 fun fr r=>s0 r h14 fun fr r=>aa (.bool false) r (fun R=>ay r (b:=false) (kb h14) rfl) rfl fun fr r=>kA (.bool false) r rfl rfl fun r=>wn (q4 ?_);have hd:D.cM a0=false:=(ai h4).trans ((ai h5).trans ((ai h6).trans ((ai h7).trans ((ai h8).trans ((ai h9).trans ((ar JS).trans ((ar h11).trans ((ar h12).trans ((ar J6).trans ((ai h14).trans (rfl)))))))))))
     refine aT r rfl rfl ?_;rw [hd];exact ⟨rfl,hB⟩
    refine s0 r J6 fun fr r=>s0 r J6 fun fr r=>s0 r J6 fun fr r=>s0 r J6 fun fr r=>s0 r J6 fun fr r=>s0 r J6 fun fr r=>aa (.bool false) r (fun R=>ay r (b:=false) (kb J6) rfl) rfl fun fr r=>kM (.bool false) r rfl rfl fun r=>s0 r (rfl:false=_) fun fr r=>s0 r (rfl:false=_) fun fr r=>s0 r (rfl:false=_) fun fr r=>aa (.bool false) r (fun R=>ay r (b:=false) (kb (rfl:false=_)) rfl) rfl fun fr r=>kA (.bool false) r rfl rfl fun r=>wn (q4 ?_);have hd:D.cM a0=false:=(ai h4).trans ((ai h5).trans ((ai h6).trans ((ai h7).trans ((ai h8).trans ((ai h9).trans ((ar JS).trans ((ar h11).trans ((ar h12).trans ((ai J6).trans (rfl))))))))))
    refine aT r rfl rfl ?_;rw [hd];exact ⟨rfl,hB⟩
   refine s0 r h12 fun fr r=>s0 r h12 fun fr r=>s0 r h12 fun fr r=>aa (.bool false) r (fun R=>ay r (b:=false) (kb h12) rfl) rfl fun fr r=>kM (.bool false) r rfl rfl fun r=>s0 r (rfl:false=_) fun fr r=>s0 r (rfl:false=_) fun fr r=>s0 r (rfl:false=_) fun fr r=>s0 r (rfl:false=_) fun fr r=>s0 r (rfl:false=_) fun fr r=>s0 r (rfl:false=_) fun fr r=>aa (.bool false) r (fun R=>ay r (b:=false) (kb (rfl:false=_)) rfl) rfl fun fr r=>kM (.bool false) r rfl rfl fun r=>s0 r (rfl:false=_) fun fr r=>s0 r (rfl:false=_) fun fr r=>s0 r (rfl:false=_) fun fr r=>aa (.bool false) r (fun R=>ay r (b:=false) (kb (rfl:false=_)) rfl) rfl fun fr r=>kA (.bool false) r rfl rfl fun r=>wn (q4 ?_);have hd:D.cM a0=false:=(ai h4).trans ((ai h5).trans ((ai h6).trans ((ai h7).trans ((ai h8).trans ((ai h9).trans ((ar JS).trans ((ar h11).trans ((ai h12).trans (rfl)))))))))
   refine aT r rfl rfl ?_;rw [hd];exact ⟨rfl,hB⟩
  refine s0 r h11 fun fr r=>s0 r h11 fun fr r=>s0 r h11 fun fr r=>aa (.bool false) r (fun R=>ay r (b:=false) (kb h11) rfl) rfl fun fr r=>kM (.bool false) r rfl rfl fun r=>s0 r (rfl:false=_) fun fr r=>s0 r (rfl:false=_) fun fr r=>s0 r (rfl:false=_) fun fr r=>aa (.bool false) r (fun R=>ay r (b:=false) (kb (rfl:false=_)) rfl) rfl fun fr r=>kM (.bool false) r rfl rfl fun r=>s0 r (rfl:false=_) fun fr r=>s0 r (rfl:false=_) fun fr r=>s0 r (rfl:false=_) fun fr r=>s0 r (rfl:false=_) fun fr r=>s0 r (rfl:false=_) fun fr r=>s0 r (rfl:false=_) fun fr r=>aa (.bool false) r (fun R=>ay r (b:=false) (kb (rfl:false=_)) rfl) rfl fun fr r=>kM (.bool false) r rfl rfl fun r=>s0 r (rfl:false=_) fun fr r=>s0 r (rfl:false=_) fun fr r=>s0 r (rfl:false=_) fun fr r=>aa (.bool false) r (fun R=>ay r (b:=false) (kb (rfl:false=_)) rfl) rfl fun fr r=>kA (.bool false) r rfl rfl fun r=>wn (q4 ?_);have hd:D.cM a0=false:=(ai h4).trans ((ai h5).trans ((ai h6).trans ((ai h7).trans ((ai h8).trans ((ai h9).trans ((ar JS).trans ((ai h11).trans (rfl))))))))
  refine aT r rfl rfl ?_;rw [hd];exact ⟨rfl,hB⟩
 refine s0 r JS fun fr r=>s0 r JS fun fr r=>s0 r JS fun fr r=>aa (.bool false) r (fun R=>ay r (b:=false) (kb JS) rfl) rfl fun fr r=>kM (.bool false) r rfl rfl fun r=>s0 r (rfl:false=_) fun fr r=>s0 r (rfl:false=_) fun fr r=>s0 r (rfl:false=_) fun fr r=>aa (.bool false) r (fun R=>ay r (b:=false) (kb (rfl:false=_)) rfl) rfl fun fr r=>kM (.bool false) r rfl rfl fun r=>s0 r (rfl:false=_) fun fr r=>s0 r (rfl:false=_) fun fr r=>s0 r (rfl:false=_) fun fr r=>aa (.bool false) r (fun R=>ay r (b:=false) (kb (rfl:false=_)) rfl) rfl fun fr r=>kM (.bool false) r rfl rfl fun r=>s0 r (rfl:false=_) fun fr r=>s0 r (rfl:false=_) fun fr r=>s0 r (rfl:false=_) fun fr r=>s0 r (rfl:false=_) fun fr r=>s0 r (rfl:false=_) fun fr r=>s0 r (rfl:false=_) fun fr r=>aa (.bool false) r (fun R=>ay r (b:=false) (kb (rfl:false=_)) rfl) rfl fun fr r=>kM (.bool false) r rfl rfl fun r=>s0 r (rfl:false=_) fun fr r=>s0 r (rfl:false=_) fun fr r=>s0 r (rfl:false=_) fun fr r=>aa (.bool false) r (fun R=>ay r (b:=false) (kb (rfl:false=_)) rfl) rfl fun fr r=>kA (.bool false) r rfl rfl fun r=>wn (q4 ?_);have hd:D.cM a0=false:=(ai h4).trans ((ai h5).trans ((ai h6).trans ((ai h7).trans ((ai h8).trans ((ai h9).trans ((ai JS).trans (rfl)))))))
 refine aT r rfl rfl ?_;rw [hd];exact ⟨rfl,hB⟩
def D.eM (a0:Plan):Bool:=(bif (!(D.cM a0)) then true else (bif (decide (a0.nodes<=40)) then (bif (decide (a0.retire<=40)) then (bif (decide (a0.domains<=6)) then (decide (a0.buckets<=10)) else false) else false) else false))
theorem Al (w0:World) 
    (a0:Plan) :
    Calls B0 57 #[z6 (ac a0)] w0 (bB (.bool (D.eM a0)) w0):=by
 refine kN Tryz.func57 rfl 26 rfl rfl fun fr r hB=>?_;refine I0 ?_
 refine kX 23 (z6 (ac a0)) r rfl rfl fun b1 w2 n3 r=>?_;obtain ⟨E1,Z2,H1,hB,zB⟩:=n3.all hB
 refine kA (.bool false) r rfl rfl fun r=>wn (I0 (kG (ac a0) 6 r rfl H1 IJ rfl rfl fun r=>?_));refine kE r (tu w2 a0) rfl cl58 rfl fun w4 hb r=>?_
 have Z4:=hb.size;have H1:=keep hb H1;obtain ⟨hB,zB⟩:=IQ hb hB;refine aa (.bool (!(D.cM a0))) r (fun R=>JQ r (u:=(.bool (D.cM a0))) rfl rfl) rfl fun fr r=>kM (.bool (!(D.cM a0))) r rfl rfl fun r=>?_;refine bG (!(D.cM a0)) (fun h5=>?_) (fun h5=>?_)
 ·
  refine s0 r h5 fun fr r=>s0 r h5 fun fr r=>s0 r h5 fun fr r=>s0 r h5 fun fr r=>?_;refine dU r rfl rfl rfl (v:=undef) rfl yaE fun fr r=>?_
  refine dU r rfl rfl rfl (v:=undef) rfl yaE fun fr r=>?_;refine dU r rfl rfl rfl (v:=undef) rfl yaE fun fr r=>s0 r h5 fun fr r=>s0 r h5 fun fr r=>?_
  refine dU r rfl rfl rfl (v:=undef) rfl yaE fun fr r=>?_;refine dU r rfl rfl rfl (v:=undef) rfl yaE fun fr r=>?_
  refine dU r rfl rfl rfl (v:=undef) rfl yaE fun fr r=>s0 r h5 fun fr r=>s0 r h5 fun fr r=>?_;refine dU r rfl rfl rfl (v:=undef) rfl yaE fun fr r=>?_
  refine dU r rfl rfl rfl (v:=undef) rfl yaE fun fr r=>?_;refine dU r rfl rfl rfl (v:=undef) rfl yaE fun fr r=>s0 r h5 fun fr r=>aa (.bool true) r (fun R=>ay r (b:=true) (kb h5) rfl) rfl fun fr r=>kA (.bool true) r rfl rfl fun r=>wn (q4 ?_)
  have hd:D.eM a0=true:=(ar h5).trans (rfl);refine aT r rfl rfl ?_;rw [hd];exact ⟨rfl,hB⟩
 refine s1 r h5 (kF 0 r rfl eR rfl fun r=>s1 r h5 (kL (I a0.nodes) r rfl H1 IL rfl rfl fun r=>s1 r h5 (kB r rfl rfl rfl rfl rfl fun r=>s1 r h5 (kM (.bool (decide (a0.nodes<=40))) r rfl rfl fun r=>?_))));refine bG (decide (a0.nodes<=40)) (fun h6=>?_) (fun h6=>?_)
 ·
  refine s1 r h6 (kF 0 r rfl fa rfl fun r=>s1 r h6 (kL (I a0.retire) r rfl H1 IL rfl rfl fun r=>s1 r h6 (kB r rfl rfl rfl rfl rfl fun r=>s1 r h5 (aa (.bool (decide (a0.retire<=40))) r (fun R=>ay r (b:=true) (kb h6) rfl) rfl fun fr r=>s1 r h5 (kM (.bool (decide (a0.retire<=40))) r rfl rfl fun r=>?_)))));refine bG (decide (a0.retire<=40)) (fun h7=>?_) (fun h7=>?_)
  ·
   refine s1 r h7 (kF 0 r rfl il rfl fun r=>s1 r h7 (kL (I a0.domains) r rfl H1 IL rfl rfl fun r=>s1 r h7 (kB r rfl rfl rfl rfl rfl fun r=>s1 r h5 (aa (.bool (decide (a0.domains<=6))) r (fun R=>ay r (b:=true) (kb h7) rfl) rfl fun fr r=>s1 r h5 (kM (.bool (decide (a0.domains<=6))) r rfl rfl fun r=>?_)))));refine bG (decide (a0.domains<=6)) (fun h8=>?_) (fun h8=>?_)
   ·
    refine s1 r h8 (kF 0 r rfl j7 rfl fun r=>s1 r h8 (kL (I a0.buckets) r rfl H1 IL rfl rfl fun r=>s1 r h8 (kB r rfl rfl rfl rfl rfl fun r=>s1 r h5 (aa (.bool (decide (a0.buckets<=10))) r (fun R=>ay r (b:=true) (kb h8) rfl) rfl fun fr r=>aa (.bool (decide (a0.buckets<=10))) r (fun R=>ay r (b:=false) (kb h5) rfl) rfl fun fr r=>kA (.bool (decide (a0.buckets<=10))) r rfl rfl fun r=>wn (q4 ?_)))));have hd:D.eM a0=(decide (a0.buckets<=10)):=(ai h5).trans ((ar h6).trans ((ar h7).trans ((ar h8).trans (rfl))))
    refine aT r rfl rfl ?_;rw [hd];exact ⟨rfl,hB⟩
   refine s0 r h8 fun fr r=>s0 r h8 fun fr r=>s0 r h8 fun fr r=>s1 r h5 (aa (.bool false) r (fun R=>ay r (b:=false) (kb h8) rfl) rfl fun fr r=>aa (.bool false) r (fun R=>ay r (b:=false) (kb h5) rfl) rfl fun fr r=>kA (.bool false) r rfl rfl fun r=>wn (q4 ?_));have hd:D.eM a0=false:=(ai h5).trans ((ar h6).trans ((ar h7).trans ((ai h8).trans (rfl))))
   refine aT r rfl rfl ?_;rw [hd];exact ⟨rfl,hB⟩
  refine s0 r h7 fun fr r=>s0 r h7 fun fr r=>s0 r h7 fun fr r=>s1 r h5 (aa (.bool false) r (fun R=>ay r (b:=false) (kb h7) rfl) rfl fun fr r=>s1 r h5 (kM (.bool false) r rfl rfl fun r=>s0 r (rfl:false=_) fun fr r=>s0 r (rfl:false=_) fun fr r=>s0 r (rfl:false=_) fun fr r=>s1 r h5 (aa (.bool false) r (fun R=>ay r (b:=false) (kb (rfl:false=_)) rfl) rfl fun fr r=>aa (.bool false) r (fun R=>ay r (b:=false) (kb h5) rfl) rfl fun fr r=>kA (.bool false) r rfl rfl fun r=>wn (q4 ?_))));have hd:D.eM a0=false:=(ai h5).trans ((ar h6).trans ((ai h7).trans (rfl)))
  refine aT r rfl rfl ?_;rw [hd];exact ⟨rfl,hB⟩
 refine s0 r h6 fun fr r=>s0 r h6 fun fr r=>s0 r h6 fun fr r=>s1 r h5 (aa (.bool false) r (fun R=>ay r (b:=false) (kb h6) rfl) rfl fun fr r=>s1 r h5 (kM (.bool false) r rfl rfl fun r=>s0 r (rfl:false=_) fun fr r=>s0 r (rfl:false=_) fun fr r=>s0 r (rfl:false=_) fun fr r=>s1 r h5 (aa (.bool false) r (fun R=>ay r (b:=false) (kb (rfl:false=_)) rfl) rfl fun fr r=>s1 r h5 (kM (.bool false) r rfl rfl fun r=>s0 r (rfl:false=_) fun fr r=>s0 r (rfl:false=_) fun fr r=>s0 r (rfl:false=_) fun fr r=>s1 r h5 (aa (.bool false) r (fun R=>ay r (b:=false) (kb (rfl:false=_)) rfl) rfl fun fr r=>aa (.bool false) r (fun R=>ay r (b:=false) (kb h5) rfl) rfl fun fr r=>kA (.bool false) r rfl rfl fun r=>wn (q4 ?_))))));have hd:D.eM a0=false:=(ai h5).trans ((ai h6).trans (rfl))
 refine aT r rfl rfl ?_;rw [hd];exact ⟨rfl,hB⟩
end Go.Proofs.YtbbipmelhmgmfaaGreat

/- Ours. -/
import Derived.Test.YtbbipmelhmgmfaaGreatLzM3
import Derived.Test.YtbbipmelhmgmfaaGreatRows
set_option linter.all false
set_option maxRecDepth 100000
set_option maxHeartbeats 20000000
namespace Go.Proofs.YtbbipmelhmgmfaaGreat
open Go.RowKit
theorem oO:af y6 114:=kz
theorem oM:af y6 127:=kz
theorem rI:af y6 166:=kz
theorem rM:af y6 199:=kz
theorem rY:af y6 287:=kz
theorem wM:af y6 290:=kz
theorem cl58:af y6 58:=kz
theorem cl68:af y6 68:=kz
theorem cl69:af y6 69:=kz
theorem cl70:af y6 70:=kz
theorem cl91:af y6 91:=kz
theorem eO:ba y6 23 0 0:=kz
theorem fX:ba y6 23 1 1:=kz
theorem eW:ba y6 23 2 2:=kz
theorem hO:ba y6 23 3 3:=kz
theorem lX:ba y6 23 4 4:=kz
theorem lV:ba y6 23 5 5:=kz
theorem mixed:y6.follows .mixedOrders=true:=kz
theorem rF:tyA y6 148 3:=kz
theorem ta23:tyA y6 23 6:=kz
theorem to3:tyO y6 3:=kz
theorem ry:sized y6 148 3:=kz
theorem rv:zeroOf y6 148=some (u7 (bQ (⟨0,0,0⟩:Bound))):=kz
def D.dn (a0:Plan):Bool:=(bif (D.cC ([(⟨a0.nodes,1,1048576⟩:Bound),(⟨a0.threads,1,16⟩:Bound),(⟨a0.domains,0,64⟩:Bound),(⟨a0.buckets,1,256⟩:Bound),(⟨a0.gen,1,1073741823⟩:Bound)])) then (D.cC ([(⟨a0.retire,(IntKind.i64.wrap ((IntKind.i64.wrap (3 * a0.threads))+1)),1024⟩:Bound)])) else false)
theorem pd (w0:World) 
    (a0:Plan) :
    Calls y6 91 #[u7 (ae a0)] w0 (bB (.bool (D.dn a0)) w0):=by
 refine kN Tryz.func91 rfl 31 rfl rfl fun fr r hB=>?_;refine wsr ?_
 refine kX 23 (u7 (ae a0)) r rfl rfl fun b1 w2 n3 r=>?_;obtain ⟨E1,Z2,H1,hB,zB⟩:=n3.all hB
 refine kA (.bool false) r rfl rfl fun r=>wn (wsr (kF 0 r rfl eO rfl fun r=>kL (I a0.nodes) r rfl H1 to3 rfl rfl fun r=>kU (u7 (bQ (⟨a0.nodes,1,1048576⟩:Bound))) r kz rfl fun r=>kF 0 r rfl fX rfl fun r=>kL (I a0.threads) r rfl H1 to3 rfl rfl fun r=>kU (u7 (bQ (⟨a0.threads,1,16⟩:Bound))) r kz rfl fun r=>kF 0 r rfl hO rfl fun r=>kL (I a0.domains) r rfl H1 to3 rfl rfl fun r=>kU (u7 (bQ (⟨a0.domains,0,64⟩:Bound))) r kz rfl fun r=>kF 0 r rfl lX rfl fun r=>kL (I a0.buckets) r rfl H1 to3 rfl rfl fun r=>kU (u7 (bQ (⟨a0.buckets,1,256⟩:Bound))) r kz rfl fun r=>kF 0 r rfl lV rfl fun r=>kL (I a0.gen) r rfl H1 to3 rfl rfl fun r=>kU (u7 (bQ (⟨a0.gen,1,1073741823⟩:Bound))) r kz rfl fun r=>?_));refine eE (.cells ((boundsC [(⟨a0.nodes,1,1048576⟩:Bound),(⟨a0.threads,1,16⟩:Bound),(⟨a0.domains,0,64⟩:Bound),(⟨a0.buckets,1,256⟩:Bound),(⟨a0.gen,1,1073741823⟩:Bound)])).toArray 148 (0,0)) 5 r (fun R=>cI r kz) rfl fun fr b4 w5 n6 r=>?_
 have H1:=keep n6.below H1;obtain ⟨E4,Z5,H4,hB,zB⟩:=n6.all hB;refine kE r (pW w5 ([(⟨a0.nodes,1,1048576⟩:Bound),(⟨a0.threads,1,16⟩:Bound),(⟨a0.domains,0,64⟩:Bound),(⟨a0.buckets,1,256⟩:Bound),(⟨a0.gen,1,1073741823⟩:Bound)]) H4 yak) rfl oM rfl fun w7 hb r=>?_
 have Z7:=hb.size;have H1:=keep hb H1;have H4:=keep hb H4;obtain ⟨hB,zB⟩:=bon hb hB;refine kM (.bool (D.cC ([(⟨a0.nodes,1,1048576⟩:Bound),(⟨a0.threads,1,16⟩:Bound),(⟨a0.domains,0,64⟩:Bound),(⟨a0.buckets,1,256⟩:Bound),(⟨a0.gen,1,1073741823⟩:Bound)]))) r rfl rfl fun r=>?_;refine bE (D.cC ([(⟨a0.nodes,1,1048576⟩:Bound),(⟨a0.threads,1,16⟩:Bound),(⟨a0.domains,0,64⟩:Bound),(⟨a0.buckets,1,256⟩:Bound),(⟨a0.gen,1,1073741823⟩:Bound)])) (fun h8=>?_) (fun h8=>?_)
 ·
  refine s1 r h8 (kF 0 r rfl eW rfl fun r=>s1 r h8 (kL (I a0.retire) r rfl H1 to3 rfl rfl fun r=>s1 r h8 (kF 0 r rfl fX rfl fun r=>s1 r h8 (kL (I a0.threads) r rfl H1 to3 rfl rfl fun r=>s1 r h8 (kB r rfl rfl rfl rfl rfl fun r=>s1 r h8 (kB r rfl rfl rfl rfl rfl fun r=>s1 r h8 (kU (.agg (bQ (⟨a0.retire,(W ((W (3 * a0.threads))+1)),1024⟩:Bound)).toArray) r kz rfl fun r=>s1 r h8 ?_)))))));refine eE (.cells ((boundsC [(⟨a0.retire,(W ((W (3 * a0.threads))+1)),1024⟩:Bound)])).toArray 148 (0,0)) 1 r (fun R=>cI r kz) rfl fun fr b9 w10 n11 r=>?_
  have H1:=keep n11.below H1;have H4:=keep n11.below H4;obtain ⟨E9,Z10,H9,hB,zB⟩:=n11.all hB;refine s1 r h8 ?_;refine kE r (pW w10 ([(⟨a0.retire,(W ((W (3 * a0.threads))+1)),1024⟩:Bound)]) H9 yak) rfl oM rfl fun w12 hb r=>?_
  have Z12:=hb.size;have H1:=keep hb H1;have H4:=keep hb H4;have H9:=keep hb H9;obtain ⟨hB,zB⟩:=bon hb hB;refine aa (.bool (D.cC ([(⟨a0.retire,(W ((W (3 * a0.threads))+1)),1024⟩:Bound)]))) r (fun R=>ax r (b:=true) (kb h8) rfl) rfl fun fr r=>kA (.bool (D.cC ([(⟨a0.retire,(W ((W (3 * a0.threads))+1)),1024⟩:Bound)]))) r rfl rfl fun r=>wn (d9 ?_);have hd:D.dn a0=(D.cC ([(⟨a0.retire,(W ((W (3 * a0.threads))+1)),1024⟩:Bound)])):=(ar h8).trans (rfl)
  refine aU r rfl rfl ?_;rw [hd];exact ⟨rfl,hB⟩
 refine s0 r h8 fun fr r=>s0 r h8 fun fr r=>s0 r h8 fun fr r=>s0 r h8 fun fr r=>s0 r h8 fun fr r=>s0 r h8 fun fr r=>s0 r h8 fun fr r=>s0 r h8 fun fr r=>s0 r h8 fun fr r=>aa (.bool false) r (fun R=>ax r (b:=false) (kb h8) rfl) rfl fun fr r=>kA (.bool false) r rfl rfl fun r=>wn (d9 ?_);have hd:D.dn a0=false:=(ai h8).trans (rfl)
 refine aU r rfl rfl ?_;rw [hd];exact ⟨rfl,hB⟩
def D.bG (a0:Plan):Int:=(maxI 2 a0.buckets)
theorem py (w0:World) 
    (a0:Plan) :
    Calls y6 69 #[u7 (ae a0)] w0 (bB (.int .i64 (D.bG a0)) w0):=by
 refine kN Tryz.func69 rfl 6 rfl rfl fun fr r hB=>?_;refine wsr ?_
 refine kX 23 (u7 (ae a0)) r rfl rfl fun b1 w2 n3 r=>?_;obtain ⟨E1,Z2,H1,hB,zB⟩:=n3.all hB
 refine kA (I 0) r rfl rfl fun r=>wn (wsr (kF 0 r rfl lX rfl fun r=>kL (I a0.buckets) r rfl H1 to3 rfl rfl fun r=>aa (I (maxI 2 a0.buckets)) r (fun R=>EN r (m:=2) (n:=a0.buckets) rfl rfl) rfl fun fr r=>kA (I (maxI 2 a0.buckets)) r rfl rfl fun r=>wn (d9 ?_)));refine aU r rfl rfl ?_
 exact ⟨rfl,hB⟩
def D.aL (a0:Plan):Int:=(IntKind.i64.wrap (1+(IntKind.i64.wrap (a0.domains * (IntKind.i64.wrap (1+(D.bG a0)))))))
theorem sI (w0:World) 
    (a0:Plan) :
    Calls y6 290 #[u7 (ae a0)] w0 (bB (.int .i64 (D.aL a0)) w0):=by
 refine kN Tryz.func290 rfl 10 rfl rfl fun fr r hB=>?_;refine wsr ?_
 refine kX 23 (u7 (ae a0)) r rfl rfl fun b1 w2 n3 r=>?_;obtain ⟨E1,Z2,H1,hB,zB⟩:=n3.all hB
 refine kA (I 0) r rfl rfl fun r=>wn (a9 ?_);refine bN 7 [.val (.pointer (some ⟨b1,3,none⟩)),.val (I a0.domains),.val (u7 (ae a0)),.val (I (D.bG a0)),.val (I (W (1+(D.bG a0)))),.val (I (W (a0.domains * (W (1+(D.bG a0)))))),.val (I (W (1+(W (a0.domains * (W (1+(D.bG a0))))))))] mixed r kz (kV (kV (kV (kV (kV (kV (kV bM))))))) ?_ ?_
 ·
  refine ec r (fun _ u _ b d s=>az s (b:=b1) (o:=0) rfl hO bz) (ec r (fun _ u _ b d s=>av s d.1 (keep b H1) to3 rfl bz) (ec r (fun _ u _ b d s=>aX s (cs:=(ae a0)) (n:=6) rfl (keep b H1) ta23 rfl bz) (ec r (fun fr1 u w' hb' hd r'=>aP r' (args:=[(u7 (ae a0))]) (lc hd.1 l0) cl69 ((py _ a0).mono yab)) (ec r (fun _ u _ b d s=>bd s rfl d.1 rfl rfl bz) (ec r (fun _ u _ b d s=>bd s d.1 d.2.1 rfl rfl bz) (ec r (fun _ u _ b d s=>bd s rfl d.1 rfl rfl bz) ?_))))));exact bO
 intro fr u w4 hb hΦ hne r;have r:=r.congr (sc (hΦ 6 ke) (sc (hΦ 5 ke) (sc (hΦ 4 ke) (sc (hΦ 3 ke) (sc (hΦ 2 ke) (sc (hΦ 1 ke) (sc (hΦ 0 ke) rfl)))))));have Z4:=hb.size;have H1:=keep hb H1;obtain ⟨hB,zB⟩:=bon hb hB;refine kA (I (W (1+(W (a0.domains * (W (1+(D.bG a0)))))))) r rfl rfl fun r=>wn (d9 ?_);refine aU r rfl rfl ?_
 exact ⟨rfl,hB⟩
def D.cE (a0:Plan):Int:=(IntKind.i64.wrap ((D.aL a0)+(IntKind.i64.wrap (a0.threads * 3))))
theorem pu (w0:World) 
    (a0:Plan) :
    Calls y6 199 #[u7 (ae a0)] w0 (bB (.int .i64 (D.cE a0)) w0):=by
 refine kN Tryz.func199 rfl 9 rfl rfl fun fr r hB=>?_;refine wsr ?_
 refine kX 23 (u7 (ae a0)) r rfl rfl fun b1 w2 n3 r=>?_;obtain ⟨E1,Z2,H1,hB,zB⟩:=n3.all hB
 refine kA (I 0) r rfl rfl fun r=>wn (a9 ?_);refine bN 6 [.val (u7 (ae a0)),.val (I (D.aL a0)),.val (.pointer (some ⟨b1,1,none⟩)),.val (I a0.threads),.val (I (W (a0.threads * 3))),.val (I (W ((D.aL a0)+(W (a0.threads * 3)))))] mixed r kz (kV (kV (kV (kV (kV (kV bM)))))) ?_ ?_
 ·
  refine ec r (fun _ u _ b d s=>aX s (cs:=(ae a0)) (n:=6) rfl (keep b H1) ta23 rfl bz) (ec r (fun fr1 u w' hb' hd r'=>aP r' (args:=[(u7 (ae a0))]) (lc hd.1 l0) wM ((sI _ a0).mono yab)) (ec r (fun _ u _ b d s=>az s (b:=b1) (o:=0) rfl fX bz) (ec r (fun _ u _ b d s=>av s d.1 (keep b H1) to3 rfl bz) (ec r (fun _ u _ b d s=>bd s d.1 rfl rfl rfl bz) (ec r (fun _ u _ b d s=>bd s d.1 d.2.1 rfl rfl bz) ?_)))));exact bO
 intro fr u w4 hb hΦ hne r;have r:=r.congr (sc (hΦ 5 ke) (sc (hΦ 4 ke) (sc (hΦ 3 ke) (sc (hΦ 2 ke) (sc (hΦ 1 ke) (sc (hΦ 0 ke) rfl))))));have Z4:=hb.size;have H1:=keep hb H1;obtain ⟨hB,zB⟩:=bon hb hB;refine kA (I (W ((D.aL a0)+(W (a0.threads * 3))))) r rfl rfl fun r=>wn (d9 ?_);refine aU r rfl rfl ?_
 exact ⟨rfl,hB⟩
def D.aN (a0:Plan):Int:=(IntKind.i64.wrap ((D.cE a0)+(IntKind.i64.wrap (a0.threads * (IntKind.i64.wrap (1+a0.retire))))))
theorem mJ (w0:World) 
    (a0:Plan) :
    Calls y6 114 #[u7 (ae a0)] w0 (bB (.int .i64 (D.aN a0)) w0):=by
 refine kN Tryz.func114 rfl 12 rfl rfl fun fr r hB=>?_;refine wsr ?_
 refine kX 23 (u7 (ae a0)) r rfl rfl fun b1 w2 n3 r=>?_;obtain ⟨E1,Z2,H1,hB,zB⟩:=n3.all hB
 refine kA (I 0) r rfl rfl fun r=>wn (a9 ?_);refine bN 9 [.val (u7 (ae a0)),.val (I (D.cE a0)),.val (.pointer (some ⟨b1,1,none⟩)),.val (I a0.threads),.val (.pointer (some ⟨b1,2,none⟩)),.val (I a0.retire),.val (I (W (1+a0.retire))),.val (I (W (a0.threads * (W (1+a0.retire))))),.val (I (W ((D.cE a0)+(W (a0.threads * (W (1+a0.retire)))))))] mixed r kz (kV (kV (kV (kV (kV (kV (kV (kV (kV bM))))))))) ?_ ?_
 ·
  refine ec r (fun _ u _ b d s=>aX s (cs:=(ae a0)) (n:=6) rfl (keep b H1) ta23 rfl bz) (ec r (fun fr1 u w' hb' hd r'=>aP r' (args:=[(u7 (ae a0))]) (lc hd.1 l0) rM ((pu _ a0).mono yab)) (ec r (fun _ u _ b d s=>az s (b:=b1) (o:=0) rfl fX bz) (ec r (fun _ u _ b d s=>av s d.1 (keep b H1) to3 rfl bz) (ec r (fun _ u _ b d s=>az s (b:=b1) (o:=0) rfl eW bz) (ec r (fun _ u _ b d s=>av s d.1 (keep b H1) to3 rfl bz) (ec r (fun _ u _ b d s=>bd s rfl d.1 rfl rfl bz) (ec r (fun _ u _ b d s=>bd s d.1 d.2.1 rfl rfl bz) (ec r (fun _ u _ b d s=>bd s d.1 d.2.1 rfl rfl bz) ?_))))))));exact bO
 intro fr u w4 hb hΦ hne r;have r:=r.congr (sc (hΦ 8 ke) (sc (hΦ 7 ke) (sc (hΦ 6 ke) (sc (hΦ 5 ke) (sc (hΦ 4 ke) (sc (hΦ 3 ke) (sc (hΦ 2 ke) (sc (hΦ 1 ke) (sc (hΦ 0 ke) rfl)))))))));have Z4:=hb.size;have H1:=keep hb H1;obtain ⟨hB,zB⟩:=bon hb hB;refine kA (I (W ((D.cE a0)+(W (a0.threads * (W (1+a0.retire))))))) r rfl rfl fun r=>wn (d9 ?_);refine aU r rfl rfl ?_
 exact ⟨rfl,hB⟩
def D.bD (a0:Plan):Int:=(bif (!(D.dn a0)) then 0 else (IntKind.i64.wrap ((D.aN a0)+(IntKind.i64.wrap (a0.nodes * 5)))))
theorem Ag (w0:World) 
    (a0:Plan) :
    Calls y6 60 #[u7 (ae a0)] w0 (bB (.int .i64 (D.bD a0)) w0):=by
 refine kN Tryz.func60 rfl 12 rfl rfl fun fr r hB=>?_;refine wsr ?_
 refine kX 23 (u7 (ae a0)) r rfl rfl fun b1 w2 n3 r=>?_;obtain ⟨E1,Z2,H1,hB,zB⟩:=n3.all hB
 refine kA (I 0) r rfl rfl fun r=>wn (a9 (wsr (kG (ae a0) 6 r rfl H1 ta23 rfl rfl fun r=>?_)));refine kE r (pd w2 a0) rfl cl91 rfl fun w4 hb r=>?_
 have Z4:=hb.size;have H1:=keep hb H1;obtain ⟨hB,zB⟩:=bon hb hB;refine aa (.bool (!(D.dn a0))) r (fun R=>y_un r (u:=(.bool (D.dn a0))) rfl rfl) rfl fun fr r=>wn ?_;refine q4 (t:=(!(D.dn a0))) (r.ev rfl) (fun h5=>?_) (fun h5=>?_)
 ·
  refine wsr (kA (I 0) r rfl rfl fun r=>wn (d9 ?_));have hd:D.bD a0=0:=(ar h5).trans (rfl)
  refine aU r rfl rfl ?_;rw [hd];exact ⟨rfl,hB⟩
 refine q6 (a9 ?_);refine bN 6 [.val (u7 (ae a0)),.val (I (D.aN a0)),.val (zp b1),.val (I a0.nodes),.val (I (W (a0.nodes * 5))),.val (I (W ((D.aN a0)+(W (a0.nodes * 5)))))] mixed r kz (kV (kV (kV (kV (kV (kV bM)))))) ?_ ?_
 ·
  refine ec r (fun _ u _ b d s=>aX s (cs:=(ae a0)) (n:=6) rfl (keep b H1) ta23 rfl bz) (ec r (fun fr1 u w' hb' hd r'=>aP r' (args:=[(u7 (ae a0))]) (lc hd.1 l0) oO ((mJ _ a0).mono yab)) (ec r (fun _ u _ b d s=>az s (b:=b1) (o:=0) rfl eO bz) (ec r (fun _ u _ b d s=>av s d.1 (keep b H1) to3 rfl bz) (ec r (fun _ u _ b d s=>bd s d.1 rfl rfl rfl bz) (ec r (fun _ u _ b d s=>bd s d.1 d.2.1 rfl rfl bz) ?_)))));exact bO
 intro fr u w6 hb hΦ hne r;have r:=r.congr (sc (hΦ 5 ke) (sc (hΦ 4 ke) (sc (hΦ 3 ke) (sc (hΦ 2 ke) (sc (hΦ 1 ke) (sc (hΦ 0 ke) rfl))))));have Z6:=hb.size;have H1:=keep hb H1;obtain ⟨hB,zB⟩:=bon hb hB;refine kA (I (W ((D.aN a0)+(W (a0.nodes * 5))))) r rfl rfl fun r=>wn (d9 ?_);have hd:D.bD a0=(W ((D.aN a0)+(W (a0.nodes * 5)))):=(ai h5).trans (rfl)
 refine aU r rfl rfl ?_;rw [hd];exact ⟨rfl,hB⟩
def D.ce (a0:Plan) (a1:Int) (a2:List Bound):Int:=(bif (!(D.dn a0)) then (-1) else (bif (!(D.cC a2)) then (-1) else a1))
theorem iq (w0:World) 
    (a0:Plan) (a1:Int) (a2:List Bound) {a2b:Nat} (a2h:w0.heap[a2b]?=some (.cells ((boundsC a2)).toArray 148 (0,0))) (pre0:a2.length≤8) :
    Calls y6 68 #[u7 (ae a0),.int .i64 a1,.slice (some ⟨a2b,0,none⟩) a2.length a2.length] w0 (bB (.int .i64 (D.ce a0 a1 a2)) w0):=by
 refine kN Tryz.func68 rfl 16 rfl rfl fun fr r hB=>?_;have la2b:=q7 a2h
 refine wsr ?_;refine kX 23 (u7 (ae a0)) r rfl rfl fun b1 w2 n3 r=>?_;have a2h:=keep n3.below a2h
 obtain ⟨E1,Z2,H1,hB,zB⟩:=n3.all hB;refine kA (I 0) r rfl rfl fun r=>wn (a9 (wsr (kG (ae a0) 6 r rfl H1 ta23 rfl rfl fun r=>?_)));refine kE r (pd w2 a0) rfl cl91 rfl fun w4 hb r=>?_
 have Z4:=hb.size;have a2h:=keep hb a2h;have H1:=keep hb H1;obtain ⟨hB,zB⟩:=bon hb hB;refine aa (.bool (!(D.dn a0))) r (fun R=>y_un r (u:=(.bool (D.dn a0))) rfl rfl) rfl fun fr r=>kM (.bool (!(D.dn a0))) r rfl rfl fun r=>?_;refine bE (!(D.dn a0)) (fun h5=>?_) (fun h5=>?_)
 ·
  refine s0 r h5 fun fr r=>s0 r h5 fun fr r=>s0 r h5 fun fr r=>aa (.bool true) r (fun R=>ax r (b:=true) (kb h5) rfl) rfl fun fr r=>wn ?_;refine q4 (t:=true) (r.ev rfl) (fun _=>?_) (fun h=>absurd ((rfl:true=_).symm.trans h) ke)
  refine wsr (kA (I (-1)) r rfl rfl fun r=>wn (d9 ?_));have hd:D.ce a0 a1 a2=(-1):=(ar h5).trans (rfl)
  refine aU r rfl rfl ?_;rw [hd];exact ⟨rfl,hB⟩
 refine s1 r h5 (kM (.slice (some ⟨a2b,0,none⟩) a2.length a2.length) r rfl rfl fun r=>s1 r h5 ?_);refine kE r (pW w4 a2 a2h yak) rfl oM rfl fun w6 hb r=>?_
 have Z6:=hb.size;have a2h:=keep hb a2h;have H1:=keep hb H1;obtain ⟨hB,zB⟩:=bon hb hB;refine s1 r h5 (aa (.bool (!(D.cC a2))) r (fun R=>y_un r (u:=(.bool (D.cC a2))) rfl rfl) rfl fun fr r=>aa (.bool (!(D.cC a2))) r (fun R=>ax r (b:=false) (kb h5) rfl) rfl fun fr r=>wn ?_);refine q4 (t:=(!(D.cC a2))) (r.ev rfl) (fun h7=>?_) (fun h7=>?_)
 ·
  refine wsr (kA (I (-1)) r rfl rfl fun r=>wn (d9 ?_));have hd:D.ce a0 a1 a2=(-1):=(ai h5).trans ((ar h7).trans (rfl))
  refine aU r rfl rfl ?_;rw [hd];exact ⟨rfl,hB⟩
 refine q6 (wsr (kM (I a1) r rfl rfl fun r=>kA (I a1) r rfl rfl fun r=>wn (d9 ?_)));have hd:D.ce a0 a1 a2=a1:=(ai h5).trans ((ai h7).trans (rfl))
 refine aU r rfl rfl ?_;rw [hd];exact ⟨rfl,hB⟩
theorem yU (w0:World) 
    (a0:Plan) (a1:Int) :
    Calls y6 68 #[u7 (ae a0),.int .i64 a1,.slice none 0 0] w0 (bB (.int .i64 (D.ce a0 a1 ([]))) w0):=by
 refine kN Tryz.func68 rfl 16 rfl rfl fun fr r hB=>?_;refine wsr ?_
 refine kX 23 (u7 (ae a0)) r rfl rfl fun b1 w2 n3 r=>?_;obtain ⟨E1,Z2,H1,hB,zB⟩:=n3.all hB
 refine kA (I 0) r rfl rfl fun r=>wn (a9 (wsr (kG (ae a0) 6 r rfl H1 ta23 rfl rfl fun r=>?_)));refine kE r (pd w2 a0) rfl cl91 rfl fun w4 hb r=>?_
 have Z4:=hb.size;have H1:=keep hb H1;obtain ⟨hB,zB⟩:=bon hb hB;refine aa (.bool (!(D.dn a0))) r (fun R=>y_un r (u:=(.bool (D.dn a0))) rfl rfl) rfl fun fr r=>kM (.bool (!(D.dn a0))) r rfl rfl fun r=>?_;refine bE (!(D.dn a0)) (fun h5=>?_) (fun h5=>?_)
 ·
  refine s0 r h5 fun fr r=>s0 r h5 fun fr r=>s0 r h5 fun fr r=>aa (.bool true) r (fun R=>ax r (b:=true) (kb h5) rfl) rfl fun fr r=>wn ?_;refine q4 (t:=true) (r.ev rfl) (fun _=>?_) (fun h=>absurd ((rfl:true=_).symm.trans h) ke)
  refine wsr (kA (I (-1)) r rfl rfl fun r=>wn (d9 ?_));have hd:D.ce a0 a1 []=(-1):=(ar h5).trans (rfl)
  refine aU r rfl rfl ?_;rw [hd];exact ⟨rfl,hB⟩
 refine s1 r h5 (kM (.slice none 0 0) r rfl rfl fun r=>s1 r h5 ?_);refine kE r (A7 w4 ) rfl oM rfl fun w6 hb r=>?_
 have Z6:=hb.size;have H1:=keep hb H1;obtain ⟨hB,zB⟩:=bon hb hB;refine s1 r h5 (aa (.bool (!(D.cC ([])))) r (fun R=>y_un r (u:=(.bool (D.cC ([])))) rfl rfl) rfl fun fr r=>aa (.bool (!(D.cC ([])))) r (fun R=>ax r (b:=false) (kb h5) rfl) rfl fun fr r=>wn ?_);refine q4 (t:=(!(D.cC ([])))) (r.ev rfl) (fun h7=>?_) (fun h7=>?_)
 ·
  refine wsr (kA (I (-1)) r rfl rfl fun r=>wn (d9 ?_));have hd:D.ce a0 a1 []=(-1):=(ai h5).trans ((ar h7).trans (rfl))
  refine aU r rfl rfl ?_;rw [hd];exact ⟨rfl,hB⟩
 refine q6 (wsr (kM (I a1) r rfl rfl fun r=>kA (I a1) r rfl rfl fun r=>wn (d9 ?_)));have hd:D.ce a0 a1 []=a1:=(ai h5).trans ((ai h7).trans (rfl))
 refine aU r rfl rfl ?_;rw [hd];exact ⟨rfl,hB⟩
def D.dF (a0:Plan):Int:=(D.ce a0 0 ([]))
theorem kv (w0:World) 
    (a0:Plan) :
    Calls y6 192 #[u7 (ae a0)] w0 (bB (.int .i64 (D.dF a0)) w0):=by
 refine kN Tryz.func192 rfl 5 rfl rfl fun fr r hB=>?_;refine wsr ?_
 refine kX 23 (u7 (ae a0)) r rfl rfl fun b1 w2 n3 r=>?_;obtain ⟨E1,Z2,H1,hB,zB⟩:=n3.all hB
 refine kA (I 0) r rfl rfl fun r=>wn (wsr (kG (ae a0) 6 r rfl H1 ta23 rfl rfl fun r=>?_));refine kE r (yU w2 a0 0) rfl cl68 rfl fun w4 hb r=>?_
 have Z4:=hb.size;have H1:=keep hb H1;obtain ⟨hB,zB⟩:=bon hb hB;refine kA (I (D.ce a0 0 ([]))) r rfl rfl fun r=>wn (d9 ?_);refine aU r rfl rfl ?_
 exact ⟨rfl,hB⟩
def D.cP (a0:Plan) (a1:Int):Bound:=(⟨a1,0,(IntKind.i64.wrap (a0.nodes - 1))⟩:Bound)
theorem pM (w0:World) 
    (a0:Plan) (a1:Int) :
    Calls y6 166 #[u7 (ae a0),.int .i64 a1] w0 (bB (u7 (bQ (D.cP a0 a1))) w0):=by
 refine kN Tryz.func166 rfl 10 rfl rfl fun fr r hB=>?_;refine wsr ?_
 refine kX 23 (u7 (ae a0)) r rfl rfl fun b1 w2 n3 r=>?_;obtain ⟨E1,Z2,H1,hB,zB⟩:=n3.all hB
 refine ah (.cells ((bQ (⟨0,0,0⟩:Bound))).toArray 148 (0,0)) r (fun R=>ag rv) rfl fun fr b4 w5 n6 r=>?_;have H1:=keep n6.below H1
 obtain ⟨E4,Z5,H4,hB,zB⟩:=n6.all hB;refine wn (wsr (kM (I a1) r rfl rfl fun r=>kF 0 r rfl eO rfl fun r=>kL (I a0.nodes) r rfl H1 to3 rfl rfl fun r=>kB r rfl rfl rfl rfl rfl fun r=>kU (.agg (bQ (⟨a1,0,(W (a0.nodes - 1))⟩:Bound)).toArray) r kz rfl fun r=>?_));refine aJ (.cells ((bQ (⟨a1,0,(W (a0.nodes - 1))⟩:Bound))).toArray 148 (0,0)) r (fun R=>bb r (o:=0) (v:=(.agg (bQ (⟨a1,0,(W (a0.nodes - 1))⟩:Bound)).toArray)) rfl rfl H4 ry r9 rfl rfl) rfl fun fr w7 u8 r=>?_
 have Z7:=u8.size;have H1:=u8.keep H1 kw
 have H4:=u8.at_;obtain ⟨hB,zB⟩:=u8.on hB kw
 refine wn (d9 ?_);refine ak r rfl rfl H4 (k:=3) rfl rF ?_;exact ⟨rfl,hB⟩
def D.dN (a0:Plan) (a1:Int):Int:=(D.ce a0 (IntKind.i64.wrap ((IntKind.i64.wrap ((D.aN a0)+(IntKind.i64.wrap (a1 * 5))))+1)) ([(D.cP a0 a1)]))
theorem mX (w0:World) 
    (a0:Plan) (a1:Int) :
    Calls y6 193 #[u7 (ae a0),.int .i64 a1] w0 (bB (.int .i64 (D.dN a0 a1)) w0):=by
 refine kN Tryz.func193 rfl 17 rfl rfl fun fr r hB=>?_;refine wsr ?_
 refine kX 23 (u7 (ae a0)) r rfl rfl fun b1 w2 n3 r=>?_;obtain ⟨E1,Z2,H1,hB,zB⟩:=n3.all hB
 refine kA (I 0) r rfl rfl fun r=>wn (a9 ?_);refine bN 12 [.val (u7 (ae a0)),.val (u7 (ae a0)),.val (I (D.aN a0)),.val (I a1),.val (I (W (a1 * 5))),.val (I (W ((D.aN a0)+(W (a1 * 5))))),.val (I (W ((W ((D.aN a0)+(W (a1 * 5))))+1))),.val (u7 (ae a0)),.val (I a1),.val (u7 (bQ (D.cP a0 a1))),.slice w2.heap.size (.cells ((boundsC [(D.cP a0 a1)])).toArray 148 (0,0)) 1,.val (I (D.ce a0 (W ((W ((D.aN a0)+(W (a1 * 5))))+1)) ([(D.cP a0 a1)])))] mixed r kz (kV (kV (kV (kV (kV (kV (kV (kV (kV (kV (cr (Nat.le_refl _) (kV bM)))))))))))) ?_ ?_
 ·
  refine ec r (fun _ u _ b d s=>aX s (cs:=(ae a0)) (n:=6) rfl (keep b H1) ta23 rfl bz) (ec r (fun _ u _ b d s=>aX s (cs:=(ae a0)) (n:=6) rfl (keep b H1) ta23 rfl bz) (ec r (fun fr1 u w' hb' hd r'=>aP r' (args:=[(u7 (ae a0))]) (lc hd.1 l0) oO ((mJ _ a0).mono yab)) (ec r (fun _ u _ b d s=>ay s rfl bz) (ec r (fun _ u _ b d s=>bd s d.1 rfl rfl rfl bz) (ec r (fun _ u _ b d s=>bd s d.1 d.2.1 rfl rfl bz) (ec r (fun _ u _ b d s=>bd s d.1 rfl rfl rfl bz) (ec r (fun _ u _ b d s=>aX s (cs:=(ae a0)) (n:=6) rfl (keep b H1) ta23 rfl bz) (ec r (fun _ u _ b d s=>ay s rfl bz) (ec r (fun fr1 u w' hb' hd r'=>aP r' (args:=[(u7 (ae a0)),(I a1)]) (lc hd.1 (lc hd.2.1 l0)) rI ((pM _ a0 a1).mono yab)) (ec r (fun fr1 u w' hb' hd r'=>cI r' (c:=((boundsC [(D.cP a0 a1)])).toArray) (E:=148) (bs1 (congrArg (fun z=>(0,z)) hd.1) kz) (fun b w2 n2=>⟨n2.below,b,rfl,Nat.le_of_eq n2.eq.symm,n2.at_⟩)) ?_))))))))));refine dq r rfl (fun fr1 u w' hb' hd r'=>?_) ?_
  · obtain ⟨d0,d1,d2,d3,_⟩:=hd; obtain ⟨q2,hq2,_,hr2⟩:=d2; exact aP r' (args:=[(u7 (ae a0)),(I (W ((W ((D.aN a0)+(W (a1 * 5))))+1))),(.slice (some ⟨q2,0,none⟩) 1 1)]) (lc d0 (lc d1 (lc hq2 l0))) cl68 ((iq _ a0 (W ((W ((D.aN a0)+(W (a1 * 5))))+1)) ([(D.cP a0 a1)]) hr2 yak).mono yab)
  exact bO
 intro fr u w4 hb hΦ hne r;obtain ⟨b5,g10,E5,H5⟩:=hΦ 10 ke;have l_b5:=q7 H5;have r:=r.congr (sc (hΦ 11 ke) (sc g10 (sc (hΦ 9 ke) (sc (hΦ 8 ke) (sc (hΦ 7 ke) (sc (hΦ 6 ke) (sc (hΦ 5 ke) (sc (hΦ 4 ke) (sc (hΦ 3 ke) (sc (hΦ 2 ke) (sc (hΦ 1 ke) (sc (hΦ 0 ke) rfl))))))))))));have Z4:=hb.size;have H1:=keep hb H1;obtain ⟨hB,zB⟩:=bon hb hB;refine kA (I (D.ce a0 (W ((W ((D.aN a0)+(W (a1 * 5))))+1)) ([(D.cP a0 a1)]))) r rfl rfl fun r=>wn (d9 ?_);refine aU r rfl rfl ?_
 exact ⟨rfl,hB⟩
def D.fG (a0:Plan) (a1:Int):Bound:=(⟨a1,0,(IntKind.i64.wrap (a0.domains - 1))⟩:Bound)
theorem zI (w0:World) 
    (a0:Plan) (a1:Int) :
    Calls y6 70 #[u7 (ae a0),.int .i64 a1] w0 (bB (u7 (bQ (D.fG a0 a1))) w0):=by
 refine kN Tryz.func70 rfl 10 rfl rfl fun fr r hB=>?_;refine wsr ?_
 refine kX 23 (u7 (ae a0)) r rfl rfl fun b1 w2 n3 r=>?_;obtain ⟨E1,Z2,H1,hB,zB⟩:=n3.all hB
 refine ah (.cells ((bQ (⟨0,0,0⟩:Bound))).toArray 148 (0,0)) r (fun R=>ag rv) rfl fun fr b4 w5 n6 r=>?_;have H1:=keep n6.below H1
 obtain ⟨E4,Z5,H4,hB,zB⟩:=n6.all hB;refine wn (wsr (kM (I a1) r rfl rfl fun r=>kF 0 r rfl hO rfl fun r=>kL (I a0.domains) r rfl H1 to3 rfl rfl fun r=>kB r rfl rfl rfl rfl rfl fun r=>kU (.agg (bQ (⟨a1,0,(W (a0.domains - 1))⟩:Bound)).toArray) r kz rfl fun r=>?_));refine aJ (.cells ((bQ (⟨a1,0,(W (a0.domains - 1))⟩:Bound))).toArray 148 (0,0)) r (fun R=>bb r (o:=0) (v:=(.agg (bQ (⟨a1,0,(W (a0.domains - 1))⟩:Bound)).toArray)) rfl rfl H4 ry r9 rfl rfl) rfl fun fr w7 u8 r=>?_
 have Z7:=u8.size;have H1:=u8.keep H1 kw
 have H4:=u8.at_;obtain ⟨hB,zB⟩:=u8.on hB kw
 refine wn (d9 ?_);refine ak r rfl rfl H4 (k:=3) rfl rF ?_;exact ⟨rfl,hB⟩
def D.cB (a0:Plan) (a1:Int) (a2:Int):Int:=(D.ce a0 (IntKind.i64.wrap ((IntKind.i64.wrap (2+(IntKind.i64.wrap (a1 * (IntKind.i64.wrap (1+(D.bG a0)))))))+a2)) ([(D.fG a0 a1),(⟨a2,0,(IntKind.i64.wrap ((D.bG a0) - 1))⟩:Bound)]))
theorem pK (w0:World) 
    (a0:Plan) (a1:Int) (a2:Int) :
    Calls y6 36 #[u7 (ae a0),.int .i64 a1,.int .i64 a2] w0 (bB (.int .i64 (D.cB a0 a1 a2)) w0):=by
 refine kN Tryz.func36 rfl 26 rfl rfl fun fr r hB=>?_;refine wsr ?_
 refine kX 23 (u7 (ae a0)) r rfl rfl fun b1 w2 n3 r=>?_;obtain ⟨E1,Z2,H1,hB,zB⟩:=n3.all hB
 refine kA (I 0) r rfl rfl fun r=>wn (a9 ?_);refine bN 19 [.val (u7 (ae a0)),.val (I a1),.val (u7 (ae a0)),.val (I (D.bG a0)),.val (I (W (1+(D.bG a0)))),.val (I (W (a1 * (W (1+(D.bG a0)))))),.val (I (W (2+(W (a1 * (W (1+(D.bG a0)))))))),.val (I a2),.val (I (W ((W (2+(W (a1 * (W (1+(D.bG a0)))))))+a2))),.val (u7 (ae a0)),.val (I a1),.val (u7 (bQ (D.fG a0 a1))),.val (I a2),.val (u7 (ae a0)),.val (I (D.bG a0)),.val (I (W ((D.bG a0) - 1))),.val (.agg (bQ (⟨a2,0,(W ((D.bG a0) - 1))⟩:Bound)).toArray),.slice w2.heap.size (.cells ((boundsC [(D.fG a0 a1),(⟨a2,0,(W ((D.bG a0) - 1))⟩:Bound)])).toArray 148 (0,0)) 2,.val (I (D.ce a0 (W ((W (2+(W (a1 * (W (1+(D.bG a0)))))))+a2)) ([(D.fG a0 a1),(⟨a2,0,(W ((D.bG a0) - 1))⟩:Bound)])))] mixed r kz (kV (kV (kV (kV (kV (kV (kV (kV (kV (kV (kV (kV (kV (kV (kV (kV (kV (cr (Nat.le_refl _) (kV bM))))))))))))))))))) ?_ ?_
 ·
  refine ec r (fun _ u _ b d s=>aX s (cs:=(ae a0)) (n:=6) rfl (keep b H1) ta23 rfl bz) (ec r (fun _ u _ b d s=>ay s rfl bz) (ec r (fun _ u _ b d s=>aX s (cs:=(ae a0)) (n:=6) rfl (keep b H1) ta23 rfl bz) (ec r (fun fr1 u w' hb' hd r'=>aP r' (args:=[(u7 (ae a0))]) (lc hd.1 l0) cl69 ((py _ a0).mono yab)) (ec r (fun _ u _ b d s=>bd s rfl d.1 rfl rfl bz) (ec r (fun _ u _ b d s=>bd s d.1 d.2.1 rfl rfl bz) (ec r (fun _ u _ b d s=>bd s rfl d.1 rfl rfl bz) (ec r (fun _ u _ b d s=>ay s rfl bz) (ec r (fun _ u _ b d s=>bd s d.1 d.2.1 rfl rfl bz) (ec r (fun _ u _ b d s=>aX s (cs:=(ae a0)) (n:=6) rfl (keep b H1) ta23 rfl bz) (ec r (fun _ u _ b d s=>ay s rfl bz) (ec r (fun fr1 u w' hb' hd r'=>aP r' (args:=[(u7 (ae a0)),(I a1)]) (lc hd.1 (lc hd.2.1 l0)) cl70 ((zI _ a0 a1).mono yab)) (ec r (fun _ u _ b d s=>ay s rfl bz) (ec r (fun _ u _ b d s=>aX s (cs:=(ae a0)) (n:=6) rfl (keep b H1) ta23 rfl bz) (ec r (fun fr1 u w' hb' hd r'=>aP r' (args:=[(u7 (ae a0))]) (lc hd.1 l0) cl69 ((py _ a0).mono yab)) (ec r (fun _ u _ b d s=>bd s d.1 rfl rfl rfl bz) (ec r (fun fr1 u w' hb' hd r'=>eF r' (v:=(.agg (bQ (⟨a2,0,(W ((D.bG a0) - 1))⟩:Bound)).toArray)) (bs3 (congrArg (fun z=>(0,z)) hd.1) (rfl) (congrArg (fun z=>(2,z)) hd.2.1) kz) bz) (ec r (fun fr1 u w' hb' hd r'=>cI r' (c:=((boundsC [(D.fG a0 a1),(⟨a2,0,(W ((D.bG a0) - 1))⟩:Bound)])).toArray) (E:=148) (bs2 (congrArg (fun z=>(0,z)) hd.1) (congrArg (fun z=>(1,z)) hd.2.1) kz) (fun b w2 n2=>⟨n2.below,b,rfl,Nat.le_of_eq n2.eq.symm,n2.at_⟩)) ?_)))))))))))))))))
  refine dq r rfl (fun fr1 u w' hb' hd r'=>?_) ?_
  · obtain ⟨d0,d1,d2,d3,_⟩:=hd; obtain ⟨q2,hq2,_,hr2⟩:=d2; exact aP r' (args:=[(u7 (ae a0)),(I (W ((W (2+(W (a1 * (W (1+(D.bG a0)))))))+a2))),(.slice (some ⟨q2,0,none⟩) 2 2)]) (lc d0 (lc d1 (lc hq2 l0))) cl68 ((iq _ a0 (W ((W (2+(W (a1 * (W (1+(D.bG a0)))))))+a2)) ([(D.fG a0 a1),(⟨a2,0,(W ((D.bG a0) - 1))⟩:Bound)]) hr2 yak).mono yab)
  exact bO
 intro fr u w4 hb hΦ hne r;obtain ⟨b5,g17,E5,H5⟩:=hΦ 17 ke;have l_b5:=q7 H5;have r:=r.congr (sc (hΦ 18 ke) (sc g17 (sc (hΦ 16 ke) (sc (hΦ 15 ke) (sc (hΦ 14 ke) (sc (hΦ 13 ke) (sc (hΦ 12 ke) (sc (hΦ 11 ke) (sc (hΦ 10 ke) (sc (hΦ 9 ke) (sc (hΦ 8 ke) (sc (hΦ 7 ke) (sc (hΦ 6 ke) (sc (hΦ 5 ke) (sc (hΦ 4 ke) (sc (hΦ 3 ke) (sc (hΦ 2 ke) (sc (hΦ 1 ke) (sc (hΦ 0 ke) rfl)))))))))))))))))));have Z4:=hb.size;have H1:=keep hb H1;obtain ⟨hB,zB⟩:=bon hb hB;refine kA (I (D.ce a0 (W ((W (2+(W (a1 * (W (1+(D.bG a0)))))))+a2)) ([(D.fG a0 a1),(⟨a2,0,(W ((D.bG a0) - 1))⟩:Bound)]))) r rfl rfl fun r=>wn (d9 ?_);refine aU r rfl rfl ?_
 exact ⟨rfl,hB⟩
def D.cY (a0:Plan) (a1:Int):Int:=(D.ce a0 (IntKind.i64.wrap ((D.aN a0)+(IntKind.i64.wrap (a1 * 5)))) ([(D.cP a0 a1)]))
theorem j8 (w0:World) 
    (a0:Plan) (a1:Int) :
    Calls y6 112 #[u7 (ae a0),.int .i64 a1] w0 (bB (.int .i64 (D.cY a0 a1)) w0):=by
 refine kN Tryz.func112 rfl 16 rfl rfl fun fr r hB=>?_;refine wsr ?_
 refine kX 23 (u7 (ae a0)) r rfl rfl fun b1 w2 n3 r=>?_;obtain ⟨E1,Z2,H1,hB,zB⟩:=n3.all hB
 refine kA (I 0) r rfl rfl fun r=>wn (a9 ?_);refine bN 11 [.val (u7 (ae a0)),.val (u7 (ae a0)),.val (I (D.aN a0)),.val (I a1),.val (I (W (a1 * 5))),.val (I (W ((D.aN a0)+(W (a1 * 5))))),.val (u7 (ae a0)),.val (I a1),.val (u7 (bQ (D.cP a0 a1))),.slice w2.heap.size (.cells ((boundsC [(D.cP a0 a1)])).toArray 148 (0,0)) 1,.val (I (D.ce a0 (W ((D.aN a0)+(W (a1 * 5)))) ([(D.cP a0 a1)])))] mixed r kz (kV (kV (kV (kV (kV (kV (kV (kV (kV (cr (Nat.le_refl _) (kV bM))))))))))) ?_ ?_
 ·
  refine ec r (fun _ u _ b d s=>aX s (cs:=(ae a0)) (n:=6) rfl (keep b H1) ta23 rfl bz) (ec r (fun _ u _ b d s=>aX s (cs:=(ae a0)) (n:=6) rfl (keep b H1) ta23 rfl bz) (ec r (fun fr1 u w' hb' hd r'=>aP r' (args:=[(u7 (ae a0))]) (lc hd.1 l0) oO ((mJ _ a0).mono yab)) (ec r (fun _ u _ b d s=>ay s rfl bz) (ec r (fun _ u _ b d s=>bd s d.1 rfl rfl rfl bz) (ec r (fun _ u _ b d s=>bd s d.1 d.2.1 rfl rfl bz) (ec r (fun _ u _ b d s=>aX s (cs:=(ae a0)) (n:=6) rfl (keep b H1) ta23 rfl bz) (ec r (fun _ u _ b d s=>ay s rfl bz) (ec r (fun fr1 u w' hb' hd r'=>aP r' (args:=[(u7 (ae a0)),(I a1)]) (lc hd.1 (lc hd.2.1 l0)) rI ((pM _ a0 a1).mono yab)) (ec r (fun fr1 u w' hb' hd r'=>cI r' (c:=((boundsC [(D.cP a0 a1)])).toArray) (E:=148) (bs1 (congrArg (fun z=>(0,z)) hd.1) kz) (fun b w2 n2=>⟨n2.below,b,rfl,Nat.le_of_eq n2.eq.symm,n2.at_⟩)) ?_)))))))));refine dq r rfl (fun fr1 u w' hb' hd r'=>?_) ?_
  · obtain ⟨d0,d1,d2,d3,_⟩:=hd; obtain ⟨q2,hq2,_,hr2⟩:=d2; exact aP r' (args:=[(u7 (ae a0)),(I (W ((D.aN a0)+(W (a1 * 5))))),(.slice (some ⟨q2,0,none⟩) 1 1)]) (lc d0 (lc d1 (lc hq2 l0))) cl68 ((iq _ a0 (W ((D.aN a0)+(W (a1 * 5)))) ([(D.cP a0 a1)]) hr2 yak).mono yab)
  exact bO
 intro fr u w4 hb hΦ hne r;obtain ⟨b5,g9,E5,H5⟩:=hΦ 9 ke;have l_b5:=q7 H5;have r:=r.congr (sc (hΦ 10 ke) (sc g9 (sc (hΦ 8 ke) (sc (hΦ 7 ke) (sc (hΦ 6 ke) (sc (hΦ 5 ke) (sc (hΦ 4 ke) (sc (hΦ 3 ke) (sc (hΦ 2 ke) (sc (hΦ 1 ke) (sc (hΦ 0 ke) rfl)))))))))));have Z4:=hb.size;have H1:=keep hb H1;obtain ⟨hB,zB⟩:=bon hb hB;refine kA (I (D.ce a0 (W ((D.aN a0)+(W (a1 * 5)))) ([(D.cP a0 a1)]))) r rfl rfl fun r=>wn (d9 ?_);refine aU r rfl rfl ?_
 exact ⟨rfl,hB⟩
def D.cO (a0:Plan) (a1:Int):Bound:=(⟨a1,0,(IntKind.i64.wrap (a0.threads - 1))⟩:Bound)
theorem px (w0:World) 
    (a0:Plan) (a1:Int) :
    Calls y6 287 #[u7 (ae a0),.int .i64 a1] w0 (bB (u7 (bQ (D.cO a0 a1))) w0):=by
 refine kN Tryz.func287 rfl 10 rfl rfl fun fr r hB=>?_;refine wsr ?_
 refine kX 23 (u7 (ae a0)) r rfl rfl fun b1 w2 n3 r=>?_;obtain ⟨E1,Z2,H1,hB,zB⟩:=n3.all hB
 refine ah (.cells ((bQ (⟨0,0,0⟩:Bound))).toArray 148 (0,0)) r (fun R=>ag rv) rfl fun fr b4 w5 n6 r=>?_;have H1:=keep n6.below H1
 obtain ⟨E4,Z5,H4,hB,zB⟩:=n6.all hB;refine wn (wsr (kM (I a1) r rfl rfl fun r=>kF 0 r rfl fX rfl fun r=>kL (I a0.threads) r rfl H1 to3 rfl rfl fun r=>kB r rfl rfl rfl rfl rfl fun r=>kU (.agg (bQ (⟨a1,0,(W (a0.threads - 1))⟩:Bound)).toArray) r kz rfl fun r=>?_));refine aJ (.cells ((bQ (⟨a1,0,(W (a0.threads - 1))⟩:Bound))).toArray 148 (0,0)) r (fun R=>bb r (o:=0) (v:=(.agg (bQ (⟨a1,0,(W (a0.threads - 1))⟩:Bound)).toArray)) rfl rfl H4 ry r9 rfl rfl) rfl fun fr w7 u8 r=>?_
 have Z7:=u8.size;have H1:=u8.keep H1 kw
 have H4:=u8.at_;obtain ⟨hB,zB⟩:=u8.on hB kw
 refine wn (d9 ?_);refine ak r rfl rfl H4 (k:=3) rfl rF ?_;exact ⟨rfl,hB⟩
def D.dW (a0:Plan) (a1:Int):Int:=(D.ce a0 (IntKind.i64.wrap ((D.cE a0)+(IntKind.i64.wrap (a1 * (IntKind.i64.wrap (1+a0.retire)))))) ([(D.cO a0 a1)]))
theorem mL (w0:World) 
    (a0:Plan) (a1:Int) :
    Calls y6 194 #[u7 (ae a0),.int .i64 a1] w0 (bB (.int .i64 (D.dW a0 a1)) w0):=by
 refine kN Tryz.func194 rfl 19 rfl rfl fun fr r hB=>?_;refine wsr ?_
 refine kX 23 (u7 (ae a0)) r rfl rfl fun b1 w2 n3 r=>?_;obtain ⟨E1,Z2,H1,hB,zB⟩:=n3.all hB
 refine kA (I 0) r rfl rfl fun r=>wn (a9 ?_);refine bN 14 [.val (u7 (ae a0)),.val (u7 (ae a0)),.val (I (D.cE a0)),.val (I a1),.val (.pointer (some ⟨b1,2,none⟩)),.val (I a0.retire),.val (I (W (1+a0.retire))),.val (I (W (a1 * (W (1+a0.retire))))),.val (I (W ((D.cE a0)+(W (a1 * (W (1+a0.retire))))))),.val (u7 (ae a0)),.val (I a1),.val (u7 (bQ (D.cO a0 a1))),.slice w2.heap.size (.cells ((boundsC [(D.cO a0 a1)])).toArray 148 (0,0)) 1,.val (I (D.ce a0 (W ((D.cE a0)+(W (a1 * (W (1+a0.retire)))))) ([(D.cO a0 a1)])))] mixed r kz (kV (kV (kV (kV (kV (kV (kV (kV (kV (kV (kV (kV (cr (Nat.le_refl _) (kV bM)))))))))))))) ?_ ?_
 ·
  refine ec r (fun _ u _ b d s=>aX s (cs:=(ae a0)) (n:=6) rfl (keep b H1) ta23 rfl bz) (ec r (fun _ u _ b d s=>aX s (cs:=(ae a0)) (n:=6) rfl (keep b H1) ta23 rfl bz) (ec r (fun fr1 u w' hb' hd r'=>aP r' (args:=[(u7 (ae a0))]) (lc hd.1 l0) rM ((pu _ a0).mono yab)) (ec r (fun _ u _ b d s=>ay s rfl bz) (ec r (fun _ u _ b d s=>az s (b:=b1) (o:=0) rfl eW bz) (ec r (fun _ u _ b d s=>av s d.1 (keep b H1) to3 rfl bz) (ec r (fun _ u _ b d s=>bd s rfl d.1 rfl rfl bz) (ec r (fun _ u _ b d s=>bd s d.1 d.2.1 rfl rfl bz) (ec r (fun _ u _ b d s=>bd s d.1 d.2.1 rfl rfl bz) (ec r (fun _ u _ b d s=>aX s (cs:=(ae a0)) (n:=6) rfl (keep b H1) ta23 rfl bz) (ec r (fun _ u _ b d s=>ay s rfl bz) (ec r (fun fr1 u w' hb' hd r'=>aP r' (args:=[(u7 (ae a0)),(I a1)]) (lc hd.1 (lc hd.2.1 l0)) rY ((px _ a0 a1).mono yab)) (ec r (fun fr1 u w' hb' hd r'=>cI r' (c:=((boundsC [(D.cO a0 a1)])).toArray) (E:=148) (bs1 (congrArg (fun z=>(0,z)) hd.1) kz) (fun b w2 n2=>⟨n2.below,b,rfl,Nat.le_of_eq n2.eq.symm,n2.at_⟩)) ?_))))))))))));refine dq r rfl (fun fr1 u w' hb' hd r'=>?_) ?_
  · obtain ⟨d0,d1,d2,d3,_⟩:=hd; obtain ⟨q2,hq2,_,hr2⟩:=d2; exact aP r' (args:=[(u7 (ae a0)),(I (W ((D.cE a0)+(W (a1 * (W (1+a0.retire))))))),(.slice (some ⟨q2,0,none⟩) 1 1)]) (lc d0 (lc d1 (lc hq2 l0))) cl68 ((iq _ a0 (W ((D.cE a0)+(W (a1 * (W (1+a0.retire)))))) ([(D.cO a0 a1)]) hr2 yak).mono yab)
  exact bO
 intro fr u w4 hb hΦ hne r;obtain ⟨b5,g12,E5,H5⟩:=hΦ 12 ke;have l_b5:=q7 H5;have r:=r.congr (sc (hΦ 13 ke) (sc g12 (sc (hΦ 11 ke) (sc (hΦ 10 ke) (sc (hΦ 9 ke) (sc (hΦ 8 ke) (sc (hΦ 7 ke) (sc (hΦ 6 ke) (sc (hΦ 5 ke) (sc (hΦ 4 ke) (sc (hΦ 3 ke) (sc (hΦ 2 ke) (sc (hΦ 1 ke) (sc (hΦ 0 ke) rfl))))))))))))));have Z4:=hb.size;have H1:=keep hb H1;obtain ⟨hB,zB⟩:=bon hb hB;refine kA (I (D.ce a0 (W ((D.cE a0)+(W (a1 * (W (1+a0.retire)))))) ([(D.cO a0 a1)]))) r rfl rfl fun r=>wn (d9 ?_);refine aU r rfl rfl ?_
 exact ⟨rfl,hB⟩
def D.dD (a0:Plan) (a1:Int) (a2:Int):Int:=(D.ce a0 (IntKind.i64.wrap ((IntKind.i64.wrap ((IntKind.i64.wrap ((D.cE a0)+(IntKind.i64.wrap (a1 * (IntKind.i64.wrap (1+a0.retire))))))+1))+a2)) ([(D.cO a0 a1),(⟨a2,0,(IntKind.i64.wrap (a0.retire - 1))⟩:Bound)]))
theorem mE (w0:World) 
    (a0:Plan) (a1:Int) (a2:Int) :
    Calls y6 195 #[u7 (ae a0),.int .i64 a1,.int .i64 a2] w0 (bB (.int .i64 (D.dD a0 a1 a2)) w0):=by
 refine kN Tryz.func195 rfl 29 rfl rfl fun fr r hB=>?_;refine wsr ?_
 refine kX 23 (u7 (ae a0)) r rfl rfl fun b1 w2 n3 r=>?_;obtain ⟨E1,Z2,H1,hB,zB⟩:=n3.all hB
 refine kA (I 0) r rfl rfl fun r=>wn (a9 ?_);refine bN 22 [.val (u7 (ae a0)),.val (u7 (ae a0)),.val (I (D.cE a0)),.val (I a1),.val (.pointer (some ⟨b1,2,none⟩)),.val (I a0.retire),.val (I (W (1+a0.retire))),.val (I (W (a1 * (W (1+a0.retire))))),.val (I (W ((D.cE a0)+(W (a1 * (W (1+a0.retire))))))),.val (I (W ((W ((D.cE a0)+(W (a1 * (W (1+a0.retire))))))+1))),.val (I a2),.val (I (W ((W ((W ((D.cE a0)+(W (a1 * (W (1+a0.retire))))))+1))+a2))),.val (u7 (ae a0)),.val (I a1),.val (u7 (bQ (D.cO a0 a1))),.val (I a2),.val (.pointer (some ⟨b1,2,none⟩)),.val (I a0.retire),.val (I (W (a0.retire - 1))),.val (.agg (bQ (⟨a2,0,(W (a0.retire - 1))⟩:Bound)).toArray),.slice w2.heap.size (.cells ((boundsC [(D.cO a0 a1),(⟨a2,0,(W (a0.retire - 1))⟩:Bound)])).toArray 148 (0,0)) 2,.val (I (D.ce a0 (W ((W ((W ((D.cE a0)+(W (a1 * (W (1+a0.retire))))))+1))+a2)) ([(D.cO a0 a1),(⟨a2,0,(W (a0.retire - 1))⟩:Bound)])))] mixed r kz (kV (kV (kV (kV (kV (kV (kV (kV (kV (kV (kV (kV (kV (kV (kV (kV (kV (kV (kV (kV (cr (Nat.le_refl _) (kV bM)))))))))))))))))))))) ?_ ?_
 ·
  refine ec r (fun _ u _ b d s=>aX s (cs:=(ae a0)) (n:=6) rfl (keep b H1) ta23 rfl bz) (ec r (fun _ u _ b d s=>aX s (cs:=(ae a0)) (n:=6) rfl (keep b H1) ta23 rfl bz) (ec r (fun fr1 u w' hb' hd r'=>aP r' (args:=[(u7 (ae a0))]) (lc hd.1 l0) rM ((pu _ a0).mono yab)) (ec r (fun _ u _ b d s=>ay s rfl bz) (ec r (fun _ u _ b d s=>az s (b:=b1) (o:=0) rfl eW bz) (ec r (fun _ u _ b d s=>av s d.1 (keep b H1) to3 rfl bz) (ec r (fun _ u _ b d s=>bd s rfl d.1 rfl rfl bz) (ec r (fun _ u _ b d s=>bd s d.1 d.2.1 rfl rfl bz) (ec r (fun _ u _ b d s=>bd s d.1 d.2.1 rfl rfl bz) (ec r (fun _ u _ b d s=>bd s d.1 rfl rfl rfl bz) (ec r (fun _ u _ b d s=>ay s rfl bz) (ec r (fun _ u _ b d s=>bd s d.1 d.2.1 rfl rfl bz) (ec r (fun _ u _ b d s=>aX s (cs:=(ae a0)) (n:=6) rfl (keep b H1) ta23 rfl bz) (ec r (fun _ u _ b d s=>ay s rfl bz) (ec r (fun fr1 u w' hb' hd r'=>aP r' (args:=[(u7 (ae a0)),(I a1)]) (lc hd.1 (lc hd.2.1 l0)) rY ((px _ a0 a1).mono yab)) (ec r (fun _ u _ b d s=>ay s rfl bz) (ec r (fun _ u _ b d s=>az s (b:=b1) (o:=0) rfl eW bz) (ec r (fun _ u _ b d s=>av s d.1 (keep b H1) to3 rfl bz) (ec r (fun _ u _ b d s=>bd s d.1 rfl rfl rfl bz) (ec r (fun fr1 u w' hb' hd r'=>eF r' (v:=(.agg (bQ (⟨a2,0,(W (a0.retire - 1))⟩:Bound)).toArray)) (bs3 (congrArg (fun z=>(0,z)) hd.1) (rfl) (congrArg (fun z=>(2,z)) hd.2.1) kz) bz) (ec r (fun fr1 u w' hb' hd r'=>cI r' (c:=((boundsC [(D.cO a0 a1),(⟨a2,0,(W (a0.retire - 1))⟩:Bound)])).toArray) (E:=148) (bs2 (congrArg (fun z=>(0,z)) hd.1) (congrArg (fun z=>(1,z)) hd.2.1) kz) (fun b w2 n2=>⟨n2.below,b,rfl,Nat.le_of_eq n2.eq.symm,n2.at_⟩)) ?_))))))))))))))))))))
  refine dq r rfl (fun fr1 u w' hb' hd r'=>?_) ?_
  · obtain ⟨d0,d1,d2,d3,_⟩:=hd; obtain ⟨q2,hq2,_,hr2⟩:=d2; exact aP r' (args:=[(u7 (ae a0)),(I (W ((W ((W ((D.cE a0)+(W (a1 * (W (1+a0.retire))))))+1))+a2))),(.slice (some ⟨q2,0,none⟩) 2 2)]) (lc d0 (lc d1 (lc hq2 l0))) cl68 ((iq _ a0 (W ((W ((W ((D.cE a0)+(W (a1 * (W (1+a0.retire))))))+1))+a2)) ([(D.cO a0 a1),(⟨a2,0,(W (a0.retire - 1))⟩:Bound)]) hr2 yak).mono yab)
  exact bO
 intro fr u w4 hb hΦ hne r;obtain ⟨b5,g20,E5,H5⟩:=hΦ 20 ke;have l_b5:=q7 H5;have r:=r.congr (sc (hΦ 21 ke) (sc g20 (sc (hΦ 19 ke) (sc (hΦ 18 ke) (sc (hΦ 17 ke) (sc (hΦ 16 ke) (sc (hΦ 15 ke) (sc (hΦ 14 ke) (sc (hΦ 13 ke) (sc (hΦ 12 ke) (sc (hΦ 11 ke) (sc (hΦ 10 ke) (sc (hΦ 9 ke) (sc (hΦ 8 ke) (sc (hΦ 7 ke) (sc (hΦ 6 ke) (sc (hΦ 5 ke) (sc (hΦ 4 ke) (sc (hΦ 3 ke) (sc (hΦ 2 ke) (sc (hΦ 1 ke) (sc (hΦ 0 ke) rfl))))))))))))))))))))));have Z4:=hb.size;have H1:=keep hb H1;obtain ⟨hB,zB⟩:=bon hb hB;refine kA (I (D.ce a0 (W ((W ((W ((D.cE a0)+(W (a1 * (W (1+a0.retire))))))+1))+a2)) ([(D.cO a0 a1),(⟨a2,0,(W (a0.retire - 1))⟩:Bound)]))) r rfl rfl fun r=>wn (d9 ?_);refine aU r rfl rfl ?_
 exact ⟨rfl,hB⟩
def D.fH (a0:Plan) (a1:Int) (a2:Int):Int:=(D.ce a0 (IntKind.i64.wrap ((IntKind.i64.wrap ((D.aL a0)+(IntKind.i64.wrap (a1 * 3))))+a2)) ([(D.cO a0 a1),(⟨a2,0,2⟩:Bound)]))
theorem sP (w0:World) 
    (a0:Plan) (a1:Int) (a2:Int) :
    Calls y6 302 #[u7 (ae a0),.int .i64 a1,.int .i64 a2] w0 (bB (.int .i64 (D.fH a0 a1 a2)) w0):=by
 refine kN Tryz.func302 rfl 22 rfl rfl fun fr r hB=>?_;refine wsr ?_
 refine kX 23 (u7 (ae a0)) r rfl rfl fun b1 w2 n3 r=>?_;obtain ⟨E1,Z2,H1,hB,zB⟩:=n3.all hB
 refine kA (I 0) r rfl rfl fun r=>wn (a9 ?_);refine bN 15 [.val (u7 (ae a0)),.val (u7 (ae a0)),.val (I (D.aL a0)),.val (I a1),.val (I (W (a1 * 3))),.val (I (W ((D.aL a0)+(W (a1 * 3))))),.val (I a2),.val (I (W ((W ((D.aL a0)+(W (a1 * 3))))+a2))),.val (u7 (ae a0)),.val (I a1),.val (u7 (bQ (D.cO a0 a1))),.val (I a2),.val (u7 (bQ (⟨a2,0,2⟩:Bound))),.slice w2.heap.size (.cells ((boundsC [(D.cO a0 a1),(⟨a2,0,2⟩:Bound)])).toArray 148 (0,0)) 2,.val (I (D.ce a0 (W ((W ((D.aL a0)+(W (a1 * 3))))+a2)) ([(D.cO a0 a1),(⟨a2,0,2⟩:Bound)])))] mixed r kz (kV (kV (kV (kV (kV (kV (kV (kV (kV (kV (kV (kV (kV (cr (Nat.le_refl _) (kV bM))))))))))))))) ?_ ?_
 ·
  refine ec r (fun _ u _ b d s=>aX s (cs:=(ae a0)) (n:=6) rfl (keep b H1) ta23 rfl bz) (ec r (fun _ u _ b d s=>aX s (cs:=(ae a0)) (n:=6) rfl (keep b H1) ta23 rfl bz) (ec r (fun fr1 u w' hb' hd r'=>aP r' (args:=[(u7 (ae a0))]) (lc hd.1 l0) wM ((sI _ a0).mono yab)) (ec r (fun _ u _ b d s=>ay s rfl bz) (ec r (fun _ u _ b d s=>bd s d.1 rfl rfl rfl bz) (ec r (fun _ u _ b d s=>bd s d.1 d.2.1 rfl rfl bz) (ec r (fun _ u _ b d s=>ay s rfl bz) (ec r (fun _ u _ b d s=>bd s d.1 d.2.1 rfl rfl bz) (ec r (fun _ u _ b d s=>aX s (cs:=(ae a0)) (n:=6) rfl (keep b H1) ta23 rfl bz) (ec r (fun _ u _ b d s=>ay s rfl bz) (ec r (fun fr1 u w' hb' hd r'=>aP r' (args:=[(u7 (ae a0)),(I a1)]) (lc hd.1 (lc hd.2.1 l0)) rY ((px _ a0 a1).mono yab)) (ec r (fun _ u _ b d s=>ay s rfl bz) (ec r (fun fr1 u w' hb' hd r'=>eF r' (v:=(u7 (bQ (⟨a2,0,2⟩:Bound)))) (bs3 (congrArg (fun z=>(0,z)) hd.1) (rfl) (rfl) kz) bz) (ec r (fun fr1 u w' hb' hd r'=>cI r' (c:=((boundsC [(D.cO a0 a1),(⟨a2,0,2⟩:Bound)])).toArray) (E:=148) (bs2 (congrArg (fun z=>(0,z)) hd.1) (congrArg (fun z=>(1,z)) hd.2.1) kz) (fun b w2 n2=>⟨n2.below,b,rfl,Nat.le_of_eq n2.eq.symm,n2.at_⟩)) ?_)))))))))))));refine dq r rfl (fun fr1 u w' hb' hd r'=>?_) ?_
  · obtain ⟨d0,d1,d2,d3,_⟩:=hd; obtain ⟨q2,hq2,_,hr2⟩:=d2; exact aP r' (args:=[(u7 (ae a0)),(I (W ((W ((D.aL a0)+(W (a1 * 3))))+a2))),(.slice (some ⟨q2,0,none⟩) 2 2)]) (lc d0 (lc d1 (lc hq2 l0))) cl68 ((iq _ a0 (W ((W ((D.aL a0)+(W (a1 * 3))))+a2)) ([(D.cO a0 a1),(⟨a2,0,2⟩:Bound)]) hr2 yak).mono yab)
  exact bO
 intro fr u w4 hb hΦ hne r;obtain ⟨b5,g13,E5,H5⟩:=hΦ 13 ke;have l_b5:=q7 H5;have r:=r.congr (sc (hΦ 14 ke) (sc g13 (sc (hΦ 12 ke) (sc (hΦ 11 ke) (sc (hΦ 10 ke) (sc (hΦ 9 ke) (sc (hΦ 8 ke) (sc (hΦ 7 ke) (sc (hΦ 6 ke) (sc (hΦ 5 ke) (sc (hΦ 4 ke) (sc (hΦ 3 ke) (sc (hΦ 2 ke) (sc (hΦ 1 ke) (sc (hΦ 0 ke) rfl)))))))))))))));have Z4:=hb.size;have H1:=keep hb H1;obtain ⟨hB,zB⟩:=bon hb hB;refine kA (I (D.ce a0 (W ((W ((D.aL a0)+(W (a1 * 3))))+a2)) ([(D.cO a0 a1),(⟨a2,0,2⟩:Bound)]))) r rfl rfl fun r=>wn (d9 ?_);refine aU r rfl rfl ?_
 exact ⟨rfl,hB⟩
def D.bo (a0:Plan) (a1:Int) (a2:Int):Int:=(D.ce a0 (IntKind.i64.wrap ((IntKind.i64.wrap ((IntKind.i64.wrap ((D.aN a0)+(IntKind.i64.wrap (a1 * 5))))+2))+a2)) ([(D.cP a0 a1),(⟨a2,0,2⟩:Bound)]))
theorem eu (w0:World) 
    (a0:Plan) (a1:Int) (a2:Int) :
    Calls y6 89 #[u7 (ae a0),.int .i64 a1,.int .i64 a2] w0 (bB (.int .i64 (D.bo a0 a1 a2)) w0):=by
 refine kN Tryz.func89 rfl 23 rfl rfl fun fr r hB=>?_;refine wsr ?_
 refine kX 23 (u7 (ae a0)) r rfl rfl fun b1 w2 n3 r=>?_;obtain ⟨E1,Z2,H1,hB,zB⟩:=n3.all hB
 refine kA (I 0) r rfl rfl fun r=>wn (a9 ?_);refine bN 16 [.val (u7 (ae a0)),.val (u7 (ae a0)),.val (I (D.aN a0)),.val (I a1),.val (I (W (a1 * 5))),.val (I (W ((D.aN a0)+(W (a1 * 5))))),.val (I (W ((W ((D.aN a0)+(W (a1 * 5))))+2))),.val (I a2),.val (I (W ((W ((W ((D.aN a0)+(W (a1 * 5))))+2))+a2))),.val (u7 (ae a0)),.val (I a1),.val (u7 (bQ (D.cP a0 a1))),.val (I a2),.val (u7 (bQ (⟨a2,0,2⟩:Bound))),.slice w2.heap.size (.cells ((boundsC [(D.cP a0 a1),(⟨a2,0,2⟩:Bound)])).toArray 148 (0,0)) 2,.val (I (D.ce a0 (W ((W ((W ((D.aN a0)+(W (a1 * 5))))+2))+a2)) ([(D.cP a0 a1),(⟨a2,0,2⟩:Bound)])))] mixed r kz (kV (kV (kV (kV (kV (kV (kV (kV (kV (kV (kV (kV (kV (kV (cr (Nat.le_refl _) (kV bM)))))))))))))))) ?_ ?_
 ·
  refine ec r (fun _ u _ b d s=>aX s (cs:=(ae a0)) (n:=6) rfl (keep b H1) ta23 rfl bz) (ec r (fun _ u _ b d s=>aX s (cs:=(ae a0)) (n:=6) rfl (keep b H1) ta23 rfl bz) (ec r (fun fr1 u w' hb' hd r'=>aP r' (args:=[(u7 (ae a0))]) (lc hd.1 l0) oO ((mJ _ a0).mono yab)) (ec r (fun _ u _ b d s=>ay s rfl bz) (ec r (fun _ u _ b d s=>bd s d.1 rfl rfl rfl bz) (ec r (fun _ u _ b d s=>bd s d.1 d.2.1 rfl rfl bz) (ec r (fun _ u _ b d s=>bd s d.1 rfl rfl rfl bz) (ec r (fun _ u _ b d s=>ay s rfl bz) (ec r (fun _ u _ b d s=>bd s d.1 d.2.1 rfl rfl bz) (ec r (fun _ u _ b d s=>aX s (cs:=(ae a0)) (n:=6) rfl (keep b H1) ta23 rfl bz) (ec r (fun _ u _ b d s=>ay s rfl bz) (ec r (fun fr1 u w' hb' hd r'=>aP r' (args:=[(u7 (ae a0)),(I a1)]) (lc hd.1 (lc hd.2.1 l0)) rI ((pM _ a0 a1).mono yab)) (ec r (fun _ u _ b d s=>ay s rfl bz) (ec r (fun fr1 u w' hb' hd r'=>eF r' (v:=(u7 (bQ (⟨a2,0,2⟩:Bound)))) (bs3 (congrArg (fun z=>(0,z)) hd.1) (rfl) (rfl) kz) bz) (ec r (fun fr1 u w' hb' hd r'=>cI r' (c:=((boundsC [(D.cP a0 a1),(⟨a2,0,2⟩:Bound)])).toArray) (E:=148) (bs2 (congrArg (fun z=>(0,z)) hd.1) (congrArg (fun z=>(1,z)) hd.2.1) kz) (fun b w2 n2=>⟨n2.below,b,rfl,Nat.le_of_eq n2.eq.symm,n2.at_⟩)) ?_))))))))))))));refine dq r rfl (fun fr1 u w' hb' hd r'=>?_) ?_
  · obtain ⟨d0,d1,d2,d3,_⟩:=hd; obtain ⟨q2,hq2,_,hr2⟩:=d2; exact aP r' (args:=[(u7 (ae a0)),(I (W ((W ((W ((D.aN a0)+(W (a1 * 5))))+2))+a2))),(.slice (some ⟨q2,0,none⟩) 2 2)]) (lc d0 (lc d1 (lc hq2 l0))) cl68 ((iq _ a0 (W ((W ((W ((D.aN a0)+(W (a1 * 5))))+2))+a2)) ([(D.cP a0 a1),(⟨a2,0,2⟩:Bound)]) hr2 yak).mono yab)
  exact bO
 intro fr u w4 hb hΦ hne r;obtain ⟨b5,g14,E5,H5⟩:=hΦ 14 ke;have l_b5:=q7 H5;have r:=r.congr (sc (hΦ 15 ke) (sc g14 (sc (hΦ 13 ke) (sc (hΦ 12 ke) (sc (hΦ 11 ke) (sc (hΦ 10 ke) (sc (hΦ 9 ke) (sc (hΦ 8 ke) (sc (hΦ 7 ke) (sc (hΦ 6 ke) (sc (hΦ 5 ke) (sc (hΦ 4 ke) (sc (hΦ 3 ke) (sc (hΦ 2 ke) (sc (hΦ 1 ke) (sc (hΦ 0 ke) rfl))))))))))))))));have Z4:=hb.size;have H1:=keep hb H1;obtain ⟨hB,zB⟩:=bon hb hB;refine kA (I (D.ce a0 (W ((W ((W ((D.aN a0)+(W (a1 * 5))))+2))+a2)) ([(D.cP a0 a1),(⟨a2,0,2⟩:Bound)]))) r rfl rfl fun r=>wn (d9 ?_);refine aU r rfl rfl ?_
 exact ⟨rfl,hB⟩
def D.cN (a0:Plan):Bool:=(bif (decide (a0.nodes<1)) then false else (bif (decide (a0.nodes > 1048576)) then false else (bif (decide (a0.threads<1)) then false else (bif (decide (a0.threads > 16)) then false else (bif (decide (a0.domains<0)) then false else (bif (decide (a0.domains > 64)) then false else (bif (decide (a0.buckets≥1)) then (bif (decide (a0.buckets≤256)) then (bif (decide (a0.gen≥1)) then (bif (decide (a0.gen≤1073741823)) then (bif (decide (a0.retire > (IntKind.i64.wrap (3 * a0.threads)))) then (decide (a0.retire≤1024)) else false) else false) else false) else false) else false)))))))
theorem sF (w0:World) 
    (a0:Plan) :
    Calls y6 58 #[u7 (ae a0)] w0 (bB (.bool (D.cN a0)) w0):=by
 refine kN Tryz.func58 rfl 62 rfl rfl fun fr r hB=>?_;refine wsr ?_
 refine kX 23 (u7 (ae a0)) r rfl rfl fun b1 w2 n3 r=>?_;obtain ⟨E1,Z2,H1,hB,zB⟩:=n3.all hB
 refine kA (.bool false) r rfl rfl fun r=>wn (a9 (wsr (kF 0 r rfl eO rfl fun r=>kL (I a0.nodes) r rfl H1 to3 rfl rfl fun r=>kB r rfl rfl rfl rfl rfl fun r=>kM (.bool (decide (a0.nodes<1))) r rfl rfl fun r=>?_)));refine bE (decide (a0.nodes<1)) (fun h4=>?_) (fun h4=>?_)
 ·
  refine s0 r h4 fun fr r=>s0 r h4 fun fr r=>s0 r h4 fun fr r=>aa (.bool true) r (fun R=>ax r (b:=true) (kb h4) rfl) rfl fun fr r=>kM (.bool true) r rfl rfl fun r=>s0 r (rfl:true=_) fun fr r=>s0 r (rfl:true=_) fun fr r=>s0 r (rfl:true=_) fun fr r=>aa (.bool true) r (fun R=>ax r (b:=true) (kb (rfl:true=_)) rfl) rfl fun fr r=>kM (.bool true) r rfl rfl fun r=>s0 r (rfl:true=_) fun fr r=>s0 r (rfl:true=_) fun fr r=>s0 r (rfl:true=_) fun fr r=>aa (.bool true) r (fun R=>ax r (b:=true) (kb (rfl:true=_)) rfl) rfl fun fr r=>kM (.bool true) r rfl rfl fun r=>s0 r (rfl:true=_) fun fr r=>s0 r (rfl:true=_) fun fr r=>s0 r (rfl:true=_) fun fr r=>aa (.bool true) r (fun R=>ax r (b:=true) (kb (rfl:true=_)) rfl) rfl fun fr r=>kM (.bool true) r rfl rfl fun r=>s0 r (rfl:true=_) fun fr r=>s0 r (rfl:true=_) fun fr r=>s0 r (rfl:true=_) fun fr r=>aa (.bool true) r (fun R=>ax r (b:=true) (kb (rfl:true=_)) rfl) rfl fun fr r=>wn ?_;refine q4 (t:=true) (r.ev rfl) (fun _=>?_) (fun h=>absurd ((rfl:true=_).symm.trans h) ke)
  refine wsr (kA (.bool false) r rfl rfl fun r=>wn (d9 ?_));have hd:D.cN a0=false:=(ar h4).trans (rfl)
  refine aU r rfl rfl ?_;rw [hd];exact ⟨rfl,hB⟩
 refine s1 r h4 (kF 0 r rfl eO rfl fun r=>s1 r h4 (kL (I a0.nodes) r rfl H1 to3 rfl rfl fun r=>s1 r h4 (kB r rfl rfl rfl rfl rfl fun r=>aa (.bool (decide (a0.nodes > 1048576))) r (fun R=>ax r (b:=false) (kb h4) rfl) rfl fun fr r=>kM (.bool (decide (a0.nodes > 1048576))) r rfl rfl fun r=>?_)));refine bE (decide (a0.nodes > 1048576)) (fun h5=>?_) (fun h5=>?_)
 ·
  refine s0 r h5 fun fr r=>s0 r h5 fun fr r=>s0 r h5 fun fr r=>aa (.bool true) r (fun R=>ax r (b:=true) (kb h5) rfl) rfl fun fr r=>kM (.bool true) r rfl rfl fun r=>s0 r (rfl:true=_) fun fr r=>s0 r (rfl:true=_) fun fr r=>s0 r (rfl:true=_) fun fr r=>aa (.bool true) r (fun R=>ax r (b:=true) (kb (rfl:true=_)) rfl) rfl fun fr r=>kM (.bool true) r rfl rfl fun r=>s0 r (rfl:true=_) fun fr r=>s0 r (rfl:true=_) fun fr r=>s0 r (rfl:true=_) fun fr r=>aa (.bool true) r (fun R=>ax r (b:=true) (kb (rfl:true=_)) rfl) rfl fun fr r=>kM (.bool true) r rfl rfl fun r=>s0 r (rfl:true=_) fun fr r=>s0 r (rfl:true=_) fun fr r=>s0 r (rfl:true=_) fun fr r=>aa (.bool true) r (fun R=>ax r (b:=true) (kb (rfl:true=_)) rfl) rfl fun fr r=>wn ?_;refine q4 (t:=true) (r.ev rfl) (fun _=>?_) (fun h=>absurd ((rfl:true=_).symm.trans h) ke)
  refine wsr (kA (.bool false) r rfl rfl fun r=>wn (d9 ?_));have hd:D.cN a0=false:=(ai h4).trans ((ar h5).trans (rfl))
  refine aU r rfl rfl ?_;rw [hd];exact ⟨rfl,hB⟩
 refine s1 r h5 (kF 0 r rfl fX rfl fun r=>s1 r h5 (kL (I a0.threads) r rfl H1 to3 rfl rfl fun r=>s1 r h5 (kB r rfl rfl rfl rfl rfl fun r=>aa (.bool (decide (a0.threads<1))) r (fun R=>ax r (b:=false) (kb h5) rfl) rfl fun fr r=>kM (.bool (decide (a0.threads<1))) r rfl rfl fun r=>?_)));refine bE (decide (a0.threads<1)) (fun h6=>?_) (fun h6=>?_)
 ·
  refine s0 r h6 fun fr r=>s0 r h6 fun fr r=>s0 r h6 fun fr r=>aa (.bool true) r (fun R=>ax r (b:=true) (kb h6) rfl) rfl fun fr r=>kM (.bool true) r rfl rfl fun r=>s0 r (rfl:true=_) fun fr r=>s0 r (rfl:true=_) fun fr r=>s0 r (rfl:true=_) fun fr r=>aa (.bool true) r (fun R=>ax r (b:=true) (kb (rfl:true=_)) rfl) rfl fun fr r=>kM (.bool true) r rfl rfl fun r=>s0 r (rfl:true=_) fun fr r=>s0 r (rfl:true=_) fun fr r=>s0 r (rfl:true=_) fun fr r=>aa (.bool true) r (fun R=>ax r (b:=true) (kb (rfl:true=_)) rfl) rfl fun fr r=>wn ?_;refine q4 (t:=true) (r.ev rfl) (fun _=>?_) (fun h=>absurd ((rfl:true=_).symm.trans h) ke)
  refine wsr (kA (.bool false) r rfl rfl fun r=>wn (d9 ?_));have hd:D.cN a0=false:=(ai h4).trans ((ai h5).trans ((ar h6).trans (rfl)))
  refine aU r rfl rfl ?_;rw [hd];exact ⟨rfl,hB⟩
 refine s1 r h6 (kF 0 r rfl fX rfl fun r=>s1 r h6 (kL (I a0.threads) r rfl H1 to3 rfl rfl fun r=>s1 r h6 (kB r rfl rfl rfl rfl rfl fun r=>aa (.bool (decide (a0.threads > 16))) r (fun R=>ax r (b:=false) (kb h6) rfl) rfl fun fr r=>kM (.bool (decide (a0.threads > 16))) r rfl rfl fun r=>?_)));refine bE (decide (a0.threads > 16)) (fun h7=>?_) (fun h7=>?_)
 ·
  refine s0 r h7 fun fr r=>s0 r h7 fun fr r=>s0 r h7 fun fr r=>aa (.bool true) r (fun R=>ax r (b:=true) (kb h7) rfl) rfl fun fr r=>kM (.bool true) r rfl rfl fun r=>s0 r (rfl:true=_) fun fr r=>s0 r (rfl:true=_) fun fr r=>s0 r (rfl:true=_) fun fr r=>aa (.bool true) r (fun R=>ax r (b:=true) (kb (rfl:true=_)) rfl) rfl fun fr r=>wn ?_;refine q4 (t:=true) (r.ev rfl) (fun _=>?_) (fun h=>absurd ((rfl:true=_).symm.trans h) ke)
  refine wsr (kA (.bool false) r rfl rfl fun r=>wn (d9 ?_));have hd:D.cN a0=false:=(ai h4).trans ((ai h5).trans ((ai h6).trans ((ar h7).trans (rfl))))
  refine aU r rfl rfl ?_;rw [hd];exact ⟨rfl,hB⟩
 refine s1 r h7 (kF 0 r rfl hO rfl fun r=>s1 r h7 (kL (I a0.domains) r rfl H1 to3 rfl rfl fun r=>s1 r h7 (kB r rfl rfl rfl rfl rfl fun r=>aa (.bool (decide (a0.domains<0))) r (fun R=>ax r (b:=false) (kb h7) rfl) rfl fun fr r=>kM (.bool (decide (a0.domains<0))) r rfl rfl fun r=>?_)));refine bE (decide (a0.domains<0)) (fun h8=>?_) (fun h8=>?_)
 ·
  refine s0 r h8 fun fr r=>s0 r h8 fun fr r=>s0 r h8 fun fr r=>aa (.bool true) r (fun R=>ax r (b:=true) (kb h8) rfl) rfl fun fr r=>wn ?_;refine q4 (t:=true) (r.ev rfl) (fun _=>?_) (fun h=>absurd ((rfl:true=_).symm.trans h) ke)
  refine wsr (kA (.bool false) r rfl rfl fun r=>wn (d9 ?_));have hd:D.cN a0=false:=(ai h4).trans ((ai h5).trans ((ai h6).trans ((ai h7).trans ((ar h8).trans (rfl)))))
  refine aU r rfl rfl ?_;rw [hd];exact ⟨rfl,hB⟩
 refine s1 r h8 (kF 0 r rfl hO rfl fun r=>s1 r h8 (kL (I a0.domains) r rfl H1 to3 rfl rfl fun r=>s1 r h8 (kB r rfl rfl rfl rfl rfl fun r=>aa (.bool (decide (a0.domains > 64))) r (fun R=>ax r (b:=false) (kb h8) rfl) rfl fun fr r=>wn ?_)));refine q4 (t:=(decide (a0.domains > 64))) (r.ev rfl) (fun h9=>?_) (fun h9=>?_)
 ·
  refine wsr (kA (.bool false) r rfl rfl fun r=>wn (d9 ?_));have hd:D.cN a0=false:=(ai h4).trans ((ai h5).trans ((ai h6).trans ((ai h7).trans ((ai h8).trans ((ar h9).trans (rfl))))))
  refine aU r rfl rfl ?_;rw [hd];exact ⟨rfl,hB⟩
 refine q6 (wsr (kF 0 r rfl lX rfl fun r=>kL (I a0.buckets) r rfl H1 to3 rfl rfl fun r=>kB r rfl rfl rfl rfl rfl fun r=>kM (.bool (decide (a0.buckets≥1))) r rfl rfl fun r=>?_));refine bE (decide (a0.buckets≥1)) (fun h10=>?_) (fun h10=>?_)
 ·
  refine s1 r h10 (kF 0 r rfl lX rfl fun r=>s1 r h10 (kL (I a0.buckets) r rfl H1 to3 rfl rfl fun r=>s1 r h10 (kB r rfl rfl rfl rfl rfl fun r=>aa (.bool (decide (a0.buckets≤256))) r (fun R=>ax r (b:=true) (kb h10) rfl) rfl fun fr r=>kM (.bool (decide (a0.buckets≤256))) r rfl rfl fun r=>?_)));refine bE (decide (a0.buckets≤256)) (fun h11=>?_) (fun h11=>?_)
  ·
   refine s1 r h11 (kF 0 r rfl lV rfl fun r=>s1 r h11 (kL (I a0.gen) r rfl H1 to3 rfl rfl fun r=>s1 r h11 (kB r rfl rfl rfl rfl rfl fun r=>aa (.bool (decide (a0.gen≥1))) r (fun R=>ax r (b:=true) (kb h11) rfl) rfl fun fr r=>kM (.bool (decide (a0.gen≥1))) r rfl rfl fun r=>?_)));refine bE (decide (a0.gen≥1)) (fun h12=>?_) (fun h12=>?_)
   ·
    refine s1 r h12 (kF 0 r rfl lV rfl fun r=>s1 r h12 (kL (I a0.gen) r rfl H1 to3 rfl rfl fun r=>s1 r h12 (kB r rfl rfl rfl rfl rfl fun r=>aa (.bool (decide (a0.gen≤1073741823))) r (fun R=>ax r (b:=true) (kb h12) rfl) rfl fun fr r=>kM (.bool (decide (a0.gen≤1073741823))) r rfl rfl fun r=>?_)));refine bE (decide (a0.gen≤1073741823)) (fun h13=>?_) (fun h13=>?_)
    ·
     refine s1 r h13 (kF 0 r rfl eW rfl fun r=>s1 r h13 (kL (I a0.retire) r rfl H1 to3 rfl rfl fun r=>s1 r h13 (kF 0 r rfl fX rfl fun r=>s1 r h13 (kL (I a0.threads) r rfl H1 to3 rfl rfl fun r=>s1 r h13 (kB r rfl rfl rfl rfl rfl fun r=>s1 r h13 (kB r rfl rfl rfl rfl rfl fun r=>aa (.bool (decide (a0.retire > (W (3 * a0.threads))))) r (fun R=>ax r (b:=true) (kb h13) rfl) rfl fun fr r=>kM (.bool (decide (a0.retire > (W (3 * a0.threads))))) r rfl rfl fun r=>?_))))));refine bE (decide (a0.retire > (W (3 * a0.threads)))) (fun h14=>?_) (fun h14=>?_)
     ·
      refine s1 r h14 (kF 0 r rfl eW rfl fun r=>s1 r h14 (kL (I a0.retire) r rfl H1 to3 rfl rfl fun r=>s1 r h14 (kB r rfl rfl rfl rfl rfl fun r=>aa (.bool (decide (a0.retire≤1024))) r (fun R=>ax r (b:=true) (kb h14) rfl) rfl fun fr r=>kA (.bool (decide (a0.retire≤1024))) r rfl rfl fun r=>wn (d9 ?_))));have hd:D.cN a0=(decide (a0.retire≤1024)):=(ai h4).trans ((ai h5).trans ((ai h6).trans ((ai h7).trans ((ai h8).trans ((ai h9).trans ((ar h10).trans ((ar h11).trans ((ar h12).trans ((ar h13).trans ((ar h14).trans (rfl)))))))))))
      refine aU r rfl rfl ?_;rw [hd];exact ⟨rfl,hB⟩
     refine s0 r h14 fun fr r=>s0 r h14 fun fr r=>s0 r h14 fun fr r=>aa (.bool false) r (fun R=>ax r (b:=false) (kb h14) rfl) rfl fun fr r=>kA (.bool false) r rfl rfl fun r=>wn (d9 ?_);have hd:D.cN a0=false:=(ai h4).trans ((ai h5).trans ((ai h6).trans ((ai h7).trans ((ai h8).trans ((ai h9).trans ((ar h10).trans ((ar h11).trans ((ar h12).trans ((ar h13).trans ((ai h14).trans (rfl)))))))))))
     refine aU r rfl rfl ?_;rw [hd];exact ⟨rfl,hB⟩
    refine s0 r h13 fun fr r=>s0 r h13 fun fr r=>s0 r h13 fun fr r=>s0 r h13 fun fr r=>s0 r h13 fun fr r=>s0 r h13 fun fr r=>aa (.bool false) r (fun R=>ax r (b:=false) (kb h13) rfl) rfl fun fr r=>kM (.bool false) r rfl rfl fun r=>s0 r (rfl:false=_) fun fr r=>s0 r (rfl:false=_) fun fr r=>s0 r (rfl:false=_) fun fr r=>aa (.bool false) r (fun R=>ax r (b:=false) (kb (rfl:false=_)) rfl) rfl fun fr r=>kA (.bool false) r rfl rfl fun r=>wn (d9 ?_);have hd:D.cN a0=false:=(ai h4).trans ((ai h5).trans ((ai h6).trans ((ai h7).trans ((ai h8).trans ((ai h9).trans ((ar h10).trans ((ar h11).trans ((ar h12).trans ((ai h13).trans (rfl))))))))))
    refine aU r rfl rfl ?_;rw [hd];exact ⟨rfl,hB⟩
   refine s0 r h12 fun fr r=>s0 r h12 fun fr r=>s0 r h12 fun fr r=>aa (.bool false) r (fun R=>ax r (b:=false) (kb h12) rfl) rfl fun fr r=>kM (.bool false) r rfl rfl fun r=>s0 r (rfl:false=_) fun fr r=>s0 r (rfl:false=_) fun fr r=>s0 r (rfl:false=_) fun fr r=>s0 r (rfl:false=_) fun fr r=>s0 r (rfl:false=_) fun fr r=>s0 r (rfl:false=_) fun fr r=>aa (.bool false) r (fun R=>ax r (b:=false) (kb (rfl:false=_)) rfl) rfl fun fr r=>kM (.bool false) r rfl rfl fun r=>s0 r (rfl:false=_) fun fr r=>s0 r (rfl:false=_) fun fr r=>s0 r (rfl:false=_) fun fr r=>aa (.bool false) r (fun R=>ax r (b:=false) (kb (rfl:false=_)) rfl) rfl fun fr r=>kA (.bool false) r rfl rfl fun r=>wn (d9 ?_);have hd:D.cN a0=false:=(ai h4).trans ((ai h5).trans ((ai h6).trans ((ai h7).trans ((ai h8).trans ((ai h9).trans ((ar h10).trans ((ar h11).trans ((ai h12).trans (rfl)))))))))
   refine aU r rfl rfl ?_;rw [hd];exact ⟨rfl,hB⟩
  refine s0 r h11 fun fr r=>s0 r h11 fun fr r=>s0 r h11 fun fr r=>aa (.bool false) r (fun R=>ax r (b:=false) (kb h11) rfl) rfl fun fr r=>kM (.bool false) r rfl rfl fun r=>s0 r (rfl:false=_) fun fr r=>s0 r (rfl:false=_) fun fr r=>s0 r (rfl:false=_) fun fr r=>aa (.bool false) r (fun R=>ax r (b:=false) (kb (rfl:false=_)) rfl) rfl fun fr r=>kM (.bool false) r rfl rfl fun r=>s0 r (rfl:false=_) fun fr r=>s0 r (rfl:false=_) fun fr r=>s0 r (rfl:false=_) fun fr r=>s0 r (rfl:false=_) fun fr r=>s0 r (rfl:false=_) fun fr r=>s0 r (rfl:false=_) fun fr r=>aa (.bool false) r (fun R=>ax r (b:=false) (kb (rfl:false=_)) rfl) rfl fun fr r=>kM (.bool false) r rfl rfl fun r=>s0 r (rfl:false=_) fun fr r=>s0 r (rfl:false=_) fun fr r=>s0 r (rfl:false=_) fun fr r=>aa (.bool false) r (fun R=>ax r (b:=false) (kb (rfl:false=_)) rfl) rfl fun fr r=>kA (.bool false) r rfl rfl fun r=>wn (d9 ?_);have hd:D.cN a0=false:=(ai h4).trans ((ai h5).trans ((ai h6).trans ((ai h7).trans ((ai h8).trans ((ai h9).trans ((ar h10).trans ((ai h11).trans (rfl))))))))
  refine aU r rfl rfl ?_;rw [hd];exact ⟨rfl,hB⟩
 refine s0 r h10 fun fr r=>s0 r h10 fun fr r=>s0 r h10 fun fr r=>aa (.bool false) r (fun R=>ax r (b:=false) (kb h10) rfl) rfl fun fr r=>kM (.bool false) r rfl rfl fun r=>s0 r (rfl:false=_) fun fr r=>s0 r (rfl:false=_) fun fr r=>s0 r (rfl:false=_) fun fr r=>aa (.bool false) r (fun R=>ax r (b:=false) (kb (rfl:false=_)) rfl) rfl fun fr r=>kM (.bool false) r rfl rfl fun r=>s0 r (rfl:false=_) fun fr r=>s0 r (rfl:false=_) fun fr r=>s0 r (rfl:false=_) fun fr r=>aa (.bool false) r (fun R=>ax r (b:=false) (kb (rfl:false=_)) rfl) rfl fun fr r=>kM (.bool false) r rfl rfl fun r=>s0 r (rfl:false=_) fun fr r=>s0 r (rfl:false=_) fun fr r=>s0 r (rfl:false=_) fun fr r=>s0 r (rfl:false=_) fun fr r=>s0 r (rfl:false=_) fun fr r=>s0 r (rfl:false=_) fun fr r=>aa (.bool false) r (fun R=>ax r (b:=false) (kb (rfl:false=_)) rfl) rfl fun fr r=>kM (.bool false) r rfl rfl fun r=>s0 r (rfl:false=_) fun fr r=>s0 r (rfl:false=_) fun fr r=>s0 r (rfl:false=_) fun fr r=>aa (.bool false) r (fun R=>ax r (b:=false) (kb (rfl:false=_)) rfl) rfl fun fr r=>kA (.bool false) r rfl rfl fun r=>wn (d9 ?_);have hd:D.cN a0=false:=(ai h4).trans ((ai h5).trans ((ai h6).trans ((ai h7).trans ((ai h8).trans ((ai h9).trans ((ai h10).trans (rfl)))))))
 refine aU r rfl rfl ?_;rw [hd];exact ⟨rfl,hB⟩
def D.eK (a0:Plan):Bool:=(bif (!(D.cN a0)) then true else (bif (decide (a0.nodes≤40)) then (bif (decide (a0.retire≤40)) then (bif (decide (a0.domains≤6)) then (decide (a0.buckets≤10)) else false) else false) else false))
theorem zU (w0:World) 
    (a0:Plan) :
    Calls y6 57 #[u7 (ae a0)] w0 (bB (.bool (D.eK a0)) w0):=by
 refine kN Tryz.func57 rfl 26 rfl rfl fun fr r hB=>?_;refine wsr ?_
 refine kX 23 (u7 (ae a0)) r rfl rfl fun b1 w2 n3 r=>?_;obtain ⟨E1,Z2,H1,hB,zB⟩:=n3.all hB
 refine kA (.bool false) r rfl rfl fun r=>wn (wsr (kG (ae a0) 6 r rfl H1 ta23 rfl rfl fun r=>?_));refine kE r (sF w2 a0) rfl cl58 rfl fun w4 hb r=>?_
 have Z4:=hb.size;have H1:=keep hb H1;obtain ⟨hB,zB⟩:=bon hb hB;refine aa (.bool (!(D.cN a0))) r (fun R=>y_un r (u:=(.bool (D.cN a0))) rfl rfl) rfl fun fr r=>kM (.bool (!(D.cN a0))) r rfl rfl fun r=>?_;refine bE (!(D.cN a0)) (fun h5=>?_) (fun h5=>?_)
 ·
  refine s0 r h5 fun fr r=>s0 r h5 fun fr r=>s0 r h5 fun fr r=>s0 r h5 fun fr r=>?_;refine dR r rfl rfl rfl (v:=undef) rfl yaG fun fr r=>?_
  refine dR r rfl rfl rfl (v:=undef) rfl yaG fun fr r=>?_;refine dR r rfl rfl rfl (v:=undef) rfl yaG fun fr r=>s0 r h5 fun fr r=>s0 r h5 fun fr r=>?_
  refine dR r rfl rfl rfl (v:=undef) rfl yaG fun fr r=>?_;refine dR r rfl rfl rfl (v:=undef) rfl yaG fun fr r=>?_
  refine dR r rfl rfl rfl (v:=undef) rfl yaG fun fr r=>s0 r h5 fun fr r=>s0 r h5 fun fr r=>?_;refine dR r rfl rfl rfl (v:=undef) rfl yaG fun fr r=>?_
  refine dR r rfl rfl rfl (v:=undef) rfl yaG fun fr r=>?_;refine dR r rfl rfl rfl (v:=undef) rfl yaG fun fr r=>s0 r h5 fun fr r=>aa (.bool true) r (fun R=>ax r (b:=true) (kb h5) rfl) rfl fun fr r=>kA (.bool true) r rfl rfl fun r=>wn (d9 ?_)
  have hd:D.eK a0=true:=(ar h5).trans (rfl);refine aU r rfl rfl ?_;rw [hd];exact ⟨rfl,hB⟩
 refine s1 r h5 (kF 0 r rfl eO rfl fun r=>s1 r h5 (kL (I a0.nodes) r rfl H1 to3 rfl rfl fun r=>s1 r h5 (kB r rfl rfl rfl rfl rfl fun r=>s1 r h5 (kM (.bool (decide (a0.nodes≤40))) r rfl rfl fun r=>?_))));refine bE (decide (a0.nodes≤40)) (fun h6=>?_) (fun h6=>?_)
 ·
  refine s1 r h6 (kF 0 r rfl eW rfl fun r=>s1 r h6 (kL (I a0.retire) r rfl H1 to3 rfl rfl fun r=>s1 r h6 (kB r rfl rfl rfl rfl rfl fun r=>s1 r h5 (aa (.bool (decide (a0.retire≤40))) r (fun R=>ax r (b:=true) (kb h6) rfl) rfl fun fr r=>s1 r h5 (kM (.bool (decide (a0.retire≤40))) r rfl rfl fun r=>?_)))));refine bE (decide (a0.retire≤40)) (fun h7=>?_) (fun h7=>?_)
  ·
   refine s1 r h7 (kF 0 r rfl hO rfl fun r=>s1 r h7 (kL (I a0.domains) r rfl H1 to3 rfl rfl fun r=>s1 r h7 (kB r rfl rfl rfl rfl rfl fun r=>s1 r h5 (aa (.bool (decide (a0.domains≤6))) r (fun R=>ax r (b:=true) (kb h7) rfl) rfl fun fr r=>s1 r h5 (kM (.bool (decide (a0.domains≤6))) r rfl rfl fun r=>?_)))));refine bE (decide (a0.domains≤6)) (fun h8=>?_) (fun h8=>?_)
   ·
    refine s1 r h8 (kF 0 r rfl lX rfl fun r=>s1 r h8 (kL (I a0.buckets) r rfl H1 to3 rfl rfl fun r=>s1 r h8 (kB r rfl rfl rfl rfl rfl fun r=>s1 r h5 (aa (.bool (decide (a0.buckets≤10))) r (fun R=>ax r (b:=true) (kb h8) rfl) rfl fun fr r=>aa (.bool (decide (a0.buckets≤10))) r (fun R=>ax r (b:=false) (kb h5) rfl) rfl fun fr r=>kA (.bool (decide (a0.buckets≤10))) r rfl rfl fun r=>wn (d9 ?_)))));have hd:D.eK a0=(decide (a0.buckets≤10)):=(ai h5).trans ((ar h6).trans ((ar h7).trans ((ar h8).trans (rfl))))
    refine aU r rfl rfl ?_;rw [hd];exact ⟨rfl,hB⟩
   refine s0 r h8 fun fr r=>s0 r h8 fun fr r=>s0 r h8 fun fr r=>s1 r h5 (aa (.bool false) r (fun R=>ax r (b:=false) (kb h8) rfl) rfl fun fr r=>aa (.bool false) r (fun R=>ax r (b:=false) (kb h5) rfl) rfl fun fr r=>kA (.bool false) r rfl rfl fun r=>wn (d9 ?_));have hd:D.eK a0=false:=(ai h5).trans ((ar h6).trans ((ar h7).trans ((ai h8).trans (rfl))))
   refine aU r rfl rfl ?_;rw [hd];exact ⟨rfl,hB⟩
  refine s0 r h7 fun fr r=>s0 r h7 fun fr r=>s0 r h7 fun fr r=>s1 r h5 (aa (.bool false) r (fun R=>ax r (b:=false) (kb h7) rfl) rfl fun fr r=>s1 r h5 (kM (.bool false) r rfl rfl fun r=>s0 r (rfl:false=_) fun fr r=>s0 r (rfl:false=_) fun fr r=>s0 r (rfl:false=_) fun fr r=>s1 r h5 (aa (.bool false) r (fun R=>ax r (b:=false) (kb (rfl:false=_)) rfl) rfl fun fr r=>aa (.bool false) r (fun R=>ax r (b:=false) (kb h5) rfl) rfl fun fr r=>kA (.bool false) r rfl rfl fun r=>wn (d9 ?_))));have hd:D.eK a0=false:=(ai h5).trans ((ar h6).trans ((ai h7).trans (rfl)))
  refine aU r rfl rfl ?_;rw [hd];exact ⟨rfl,hB⟩
 refine s0 r h6 fun fr r=>s0 r h6 fun fr r=>s0 r h6 fun fr r=>s1 r h5 (aa (.bool false) r (fun R=>ax r (b:=false) (kb h6) rfl) rfl fun fr r=>s1 r h5 (kM (.bool false) r rfl rfl fun r=>s0 r (rfl:false=_) fun fr r=>s0 r (rfl:false=_) fun fr r=>s0 r (rfl:false=_) fun fr r=>s1 r h5 (aa (.bool false) r (fun R=>ax r (b:=false) (kb (rfl:false=_)) rfl) rfl fun fr r=>s1 r h5 (kM (.bool false) r rfl rfl fun r=>s0 r (rfl:false=_) fun fr r=>s0 r (rfl:false=_) fun fr r=>s0 r (rfl:false=_) fun fr r=>s1 r h5 (aa (.bool false) r (fun R=>ax r (b:=false) (kb (rfl:false=_)) rfl) rfl fun fr r=>aa (.bool false) r (fun R=>ax r (b:=false) (kb h5) rfl) rfl fun fr r=>kA (.bool false) r rfl rfl fun r=>wn (d9 ?_))))));have hd:D.eK a0=false:=(ai h5).trans ((ai h6).trans (rfl))
 refine aU r rfl rfl ?_;rw [hd];exact ⟨rfl,hB⟩
end Go.Proofs.YtbbipmelhmgmfaaGreat

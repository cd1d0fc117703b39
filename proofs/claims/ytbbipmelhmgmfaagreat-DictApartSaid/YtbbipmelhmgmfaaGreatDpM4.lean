/- Some of our texts, one behind the other. -/
import Derived.Test.YtbbipmelhmgmfaaGreatDpM3
import Derived.Test.YtbbipmelhmgmfaaGreatRows
set_option linter.all false
set_option maxRecDepth 100000
set_option maxHeartbeats 20000000
/- Ours. -/
namespace Go.Proofs.YtbbipmelhmgmfaaGreat
open Go.RowKit
theorem zqT:zpf ar 114:=kz
theorem zqX:zpf ar 127:=kz
theorem zro:zpf ar 166:=kz
theorem zrj:zpf ar 199:=kz
theorem zrk:zpf ar 287:=kz
theorem zrE:zpf ar 290:=kz
theorem cl68:zpf ar 68:=kz
theorem cl69:zpf ar 69:=kz
theorem cl70:zpf ar 70:=kz
theorem cl91:zpf ar 91:=kz
theorem ziV:zpq ar 23 0 0:=kz
theorem zkw:zpq ar 23 1 1:=kz
theorem zjI:zpq ar 23 2 2:=kz
theorem zns:zpq ar 23 3 3:=kz
theorem zmq:zpq ar 23 4 4:=kz
theorem zob:zpq ar 23 5 5:=kz
theorem mixed:ar.follows .mixedOrders=true:=kz
theorem zrg:tyA ar 148 3:=kz
theorem ta23:tyA ar 23 6:=kz
theorem to3:tyO ar 3:=kz
theorem zrn:sized ar 148 3:=kz
theorem zrp:zeroOf ar 148=some (aq (zpL (⟨0,0,0⟩:Bound))):=kz
def D.zaz (a0:Plan):Bool:=(bif (D.zaL ([(⟨a0.nodes,1,1048576⟩:Bound),(⟨a0.threads,1,16⟩:Bound),(⟨a0.domains,0,64⟩:Bound),(⟨a0.buckets,1,256⟩:Bound),(⟨a0.gen,1,1073741823⟩:Bound)])) then (D.zaL ([(⟨a0.retire,(IntKind.i64.wrap ((IntKind.i64.wrap (3 * a0.threads))+1)),1024⟩:Bound)])) else false)
theorem zcI (w0:World) 
    (a0:Plan) :
    Calls ar 91 #[aq (zpg a0)] w0 (zpx (.bool (D.zaz a0)) w0):=by
 refine kN Tryz.func91 rfl 31 rfl rfl fun fr r hB=>?_;refine wsr ?_
 refine kX 23 (aq (zpg a0)) r rfl rfl fun b1 w2 n3 r=>?_;obtain ⟨E1,Z2,H1,hB,zB⟩:=n3.all hB
 refine kA (.bool false) r rfl rfl fun r=>wn (wsr (kF 0 r rfl ziV rfl fun r=>kL (I a0.nodes) r rfl H1 to3 rfl rfl fun r=>kU (aq (zpL (⟨a0.nodes,1,1048576⟩:Bound))) r kz rfl fun r=>kF 0 r rfl zkw rfl fun r=>kL (I a0.threads) r rfl H1 to3 rfl rfl fun r=>kU (aq (zpL (⟨a0.threads,1,16⟩:Bound))) r kz rfl fun r=>kF 0 r rfl zns rfl fun r=>kL (I a0.domains) r rfl H1 to3 rfl rfl fun r=>kU (aq (zpL (⟨a0.domains,0,64⟩:Bound))) r kz rfl fun r=>kF 0 r rfl zmq rfl fun r=>kL (I a0.buckets) r rfl H1 to3 rfl rfl fun r=>kU (aq (zpL (⟨a0.buckets,1,256⟩:Bound))) r kz rfl fun r=>kF 0 r rfl zob rfl fun r=>kL (I a0.gen) r rfl H1 to3 rfl rfl fun r=>kU (aq (zpL (⟨a0.gen,1,1073741823⟩:Bound))) r kz rfl fun r=>?_));refine zjn (.cells ((boundsC [(⟨a0.nodes,1,1048576⟩:Bound),(⟨a0.threads,1,16⟩:Bound),(⟨a0.domains,0,64⟩:Bound),(⟨a0.buckets,1,256⟩:Bound),(⟨a0.gen,1,1073741823⟩:Bound)])).toArray 148 (0,0)) 5 r (fun R=>zcO r kz) rfl fun fr b4 w5 n6 r=>?_
 have H1:=keep n6.below H1;obtain ⟨E4,Z5,H4,hB,zB⟩:=n6.all hB;refine kE r (zfU w5 ([(⟨a0.nodes,1,1048576⟩:Bound),(⟨a0.threads,1,16⟩:Bound),(⟨a0.domains,0,64⟩:Bound),(⟨a0.buckets,1,256⟩:Bound),(⟨a0.gen,1,1073741823⟩:Bound)]) H4 yal) rfl zqX rfl fun w7 hb r=>?_
 have Z7:=hb.size;have H1:=keep hb H1;have H4:=keep hb H4;obtain ⟨hB,zB⟩:=bon hb hB;refine kM (.bool (D.zaL ([(⟨a0.nodes,1,1048576⟩:Bound),(⟨a0.threads,1,16⟩:Bound),(⟨a0.domains,0,64⟩:Bound),(⟨a0.buckets,1,256⟩:Bound),(⟨a0.gen,1,1073741823⟩:Bound)]))) r rfl rfl fun r=>?_;refine zaT (D.zaL ([(⟨a0.nodes,1,1048576⟩:Bound),(⟨a0.threads,1,16⟩:Bound),(⟨a0.domains,0,64⟩:Bound),(⟨a0.buckets,1,256⟩:Bound),(⟨a0.gen,1,1073741823⟩:Bound)])) (fun h8=>?_) (fun h8=>?_)
 ·
  refine s1 r h8 (kF 0 r rfl zjI rfl fun r=>s1 r h8 (kL (I a0.retire) r rfl H1 to3 rfl rfl fun r=>s1 r h8 (kF 0 r rfl zkw rfl fun r=>s1 r h8 (kL (I a0.threads) r rfl H1 to3 rfl rfl fun r=>s1 r h8 (kB r rfl rfl rfl rfl rfl fun r=>s1 r h8 (kB r rfl rfl rfl rfl rfl fun r=>s1 r h8 (kU (.agg (zpL (⟨a0.retire,(W ((W (3 * a0.threads))+1)),1024⟩:Bound)).toArray) r kz rfl fun r=>s1 r h8 ?_)))))));refine zjn (.cells ((boundsC [(⟨a0.retire,(W ((W (3 * a0.threads))+1)),1024⟩:Bound)])).toArray 148 (0,0)) 1 r (fun R=>zcO r kz) rfl fun fr b9 w10 n11 r=>?_
  have H1:=keep n11.below H1;have H4:=keep n11.below H4;obtain ⟨E9,Z10,H9,hB,zB⟩:=n11.all hB;refine s1 r h8 ?_;refine kE r (zfU w10 ([(⟨a0.retire,(W ((W (3 * a0.threads))+1)),1024⟩:Bound)]) H9 yal) rfl zqX rfl fun w12 hb r=>?_
  have Z12:=hb.size;have H1:=keep hb H1;have H4:=keep hb H4;have H9:=keep hb H9;obtain ⟨hB,zB⟩:=bon hb hB;refine za0 (.bool (D.zaL ([(⟨a0.retire,(W ((W (3 * a0.threads))+1)),1024⟩:Bound)]))) r (fun R=>zay r (b:=true) (kb h8) rfl) rfl fun fr r=>kA (.bool (D.zaL ([(⟨a0.retire,(W ((W (3 * a0.threads))+1)),1024⟩:Bound)]))) r rfl rfl fun r=>wn (ac ?_);have hd:D.zaz a0=(D.zaL ([(⟨a0.retire,(W ((W (3 * a0.threads))+1)),1024⟩:Bound)])):=(zao h8).trans (rfl)
  refine zaH r rfl rfl ?_;rw [hd];exact ⟨rfl,hB⟩
 refine s0 r h8 fun fr r=>s0 r h8 fun fr r=>s0 r h8 fun fr r=>s0 r h8 fun fr r=>s0 r h8 fun fr r=>s0 r h8 fun fr r=>s0 r h8 fun fr r=>s0 r h8 fun fr r=>s0 r h8 fun fr r=>za0 (.bool false) r (fun R=>zay r (b:=false) (kb h8) rfl) rfl fun fr r=>kA (.bool false) r rfl rfl fun r=>wn (ac ?_);have hd:D.zaz a0=false:=(zaq h8).trans (rfl)
 refine zaH r rfl rfl ?_;rw [hd];exact ⟨rfl,hB⟩
def D.za9 (a0:Plan):Int:=(maxI 2 a0.buckets)
theorem zef (w0:World) 
    (a0:Plan) :
    Calls ar 69 #[aq (zpg a0)] w0 (zpx (.int .i64 (D.za9 a0)) w0):=by
 refine kN Tryz.func69 rfl 6 rfl rfl fun fr r hB=>?_;refine wsr ?_
 refine kX 23 (aq (zpg a0)) r rfl rfl fun b1 w2 n3 r=>?_;obtain ⟨E1,Z2,H1,hB,zB⟩:=n3.all hB
 refine kA (I 0) r rfl rfl fun r=>wn (wsr (kF 0 r rfl zmq rfl fun r=>kL (I a0.buckets) r rfl H1 to3 rfl rfl fun r=>za0 (I (maxI 2 a0.buckets)) r (fun R=>ztN r (m:=2) (n:=a0.buckets) rfl rfl) rfl fun fr r=>kA (I (maxI 2 a0.buckets)) r rfl rfl fun r=>wn (ac ?_)));refine zaH r rfl rfl ?_
 exact ⟨rfl,hB⟩
def D.za1 (a0:Plan):Int:=(IntKind.i64.wrap (1+(IntKind.i64.wrap (a0.domains * (IntKind.i64.wrap (1+(D.za9 a0)))))))
theorem zf8 (w0:World) 
    (a0:Plan) :
    Calls ar 290 #[aq (zpg a0)] w0 (zpx (.int .i64 (D.za1 a0)) w0):=by
 refine kN Tryz.func290 rfl 10 rfl rfl fun fr r hB=>?_;refine wsr ?_
 refine kX 23 (aq (zpg a0)) r rfl rfl fun b1 w2 n3 r=>?_;obtain ⟨E1,Z2,H1,hB,zB⟩:=n3.all hB
 refine kA (I 0) r rfl rfl fun r=>wn (aa ?_);refine zaB 7 [.val (.pointer (some ⟨b1,3,none⟩)),.val (I a0.domains),.val (aq (zpg a0)),.val (I (D.za9 a0)),.val (I (W (1+(D.za9 a0)))),.val (I (W (a0.domains * (W (1+(D.za9 a0)))))),.val (I (W (1+(W (a0.domains * (W (1+(D.za9 a0))))))))] mixed r kz (kV (kV (kV (kV (kV (kV (kV zat))))))) ?_ ?_
 ·
  refine ec r (fun _ u _ b d s=>za3 s (b:=b1) (o:=0) rfl zns bz) (ec r (fun _ u _ b d s=>za4 s d.1 (keep b H1) to3 rfl bz) (ec r (fun _ u _ b d s=>zac s (cs:=(zpg a0)) (n:=6) rfl (keep b H1) ta23 rfl bz) (ec r (fun fr1 u w' hb' hd r'=>zaF r' (args:=[(aq (zpg a0))]) (lc hd.1 l0) cl69 ((zef _ a0).mono yab)) (ec r (fun _ u _ b d s=>zpG s rfl d.1 rfl rfl bz) (ec r (fun _ u _ b d s=>zpG s d.1 d.2.1 rfl rfl bz) (ec r (fun _ u _ b d s=>zpG s rfl d.1 rfl rfl bz) ?_))))));exact zaO
 intro fr u w4 hb hΦ hne r;have r:=r.congr (sc (hΦ 6 ke) (sc (hΦ 5 ke) (sc (hΦ 4 ke) (sc (hΦ 3 ke) (sc (hΦ 2 ke) (sc (hΦ 1 ke) (sc (hΦ 0 ke) rfl)))))));have Z4:=hb.size;have H1:=keep hb H1;obtain ⟨hB,zB⟩:=bon hb hB;refine kA (I (W (1+(W (a0.domains * (W (1+(D.za9 a0)))))))) r rfl rfl fun r=>wn (ac ?_);refine zaH r rfl rfl ?_
 exact ⟨rfl,hB⟩
def D.zas (a0:Plan):Int:=(IntKind.i64.wrap ((D.za1 a0)+(IntKind.i64.wrap (a0.threads * 3))))
theorem zdS (w0:World) 
    (a0:Plan) :
    Calls ar 199 #[aq (zpg a0)] w0 (zpx (.int .i64 (D.zas a0)) w0):=by
 refine kN Tryz.func199 rfl 9 rfl rfl fun fr r hB=>?_;refine wsr ?_
 refine kX 23 (aq (zpg a0)) r rfl rfl fun b1 w2 n3 r=>?_;obtain ⟨E1,Z2,H1,hB,zB⟩:=n3.all hB
 refine kA (I 0) r rfl rfl fun r=>wn (aa ?_);refine zaB 6 [.val (aq (zpg a0)),.val (I (D.za1 a0)),.val (.pointer (some ⟨b1,1,none⟩)),.val (I a0.threads),.val (I (W (a0.threads * 3))),.val (I (W ((D.za1 a0)+(W (a0.threads * 3)))))] mixed r kz (kV (kV (kV (kV (kV (kV zat)))))) ?_ ?_
 ·
  refine ec r (fun _ u _ b d s=>zac s (cs:=(zpg a0)) (n:=6) rfl (keep b H1) ta23 rfl bz) (ec r (fun fr1 u w' hb' hd r'=>zaF r' (args:=[(aq (zpg a0))]) (lc hd.1 l0) zrE ((zf8 _ a0).mono yab)) (ec r (fun _ u _ b d s=>za3 s (b:=b1) (o:=0) rfl zkw bz) (ec r (fun _ u _ b d s=>za4 s d.1 (keep b H1) to3 rfl bz) (ec r (fun _ u _ b d s=>zpG s d.1 rfl rfl rfl bz) (ec r (fun _ u _ b d s=>zpG s d.1 d.2.1 rfl rfl bz) ?_)))));exact zaO
 intro fr u w4 hb hΦ hne r;have r:=r.congr (sc (hΦ 5 ke) (sc (hΦ 4 ke) (sc (hΦ 3 ke) (sc (hΦ 2 ke) (sc (hΦ 1 ke) (sc (hΦ 0 ke) rfl))))));have Z4:=hb.size;have H1:=keep hb H1;obtain ⟨hB,zB⟩:=bon hb hB;refine kA (I (W ((D.za1 a0)+(W (a0.threads * 3))))) r rfl rfl fun r=>wn (ac ?_);refine zaH r rfl rfl ?_
 exact ⟨rfl,hB⟩
def D.za2 (a0:Plan):Int:=(IntKind.i64.wrap ((D.zas a0)+(IntKind.i64.wrap (a0.threads * (IntKind.i64.wrap (1+a0.retire))))))
theorem zd7 (w0:World) 
    (a0:Plan) :
    Calls ar 114 #[aq (zpg a0)] w0 (zpx (.int .i64 (D.za2 a0)) w0):=by
 refine kN Tryz.func114 rfl 12 rfl rfl fun fr r hB=>?_;refine wsr ?_
 refine kX 23 (aq (zpg a0)) r rfl rfl fun b1 w2 n3 r=>?_;obtain ⟨E1,Z2,H1,hB,zB⟩:=n3.all hB
 refine kA (I 0) r rfl rfl fun r=>wn (aa ?_);refine zaB 9 [.val (aq (zpg a0)),.val (I (D.zas a0)),.val (.pointer (some ⟨b1,1,none⟩)),.val (I a0.threads),.val (.pointer (some ⟨b1,2,none⟩)),.val (I a0.retire),.val (I (W (1+a0.retire))),.val (I (W (a0.threads * (W (1+a0.retire))))),.val (I (W ((D.zas a0)+(W (a0.threads * (W (1+a0.retire)))))))] mixed r kz (kV (kV (kV (kV (kV (kV (kV (kV (kV zat))))))))) ?_ ?_
 ·
  refine ec r (fun _ u _ b d s=>zac s (cs:=(zpg a0)) (n:=6) rfl (keep b H1) ta23 rfl bz) (ec r (fun fr1 u w' hb' hd r'=>zaF r' (args:=[(aq (zpg a0))]) (lc hd.1 l0) zrj ((zdS _ a0).mono yab)) (ec r (fun _ u _ b d s=>za3 s (b:=b1) (o:=0) rfl zkw bz) (ec r (fun _ u _ b d s=>za4 s d.1 (keep b H1) to3 rfl bz) (ec r (fun _ u _ b d s=>za3 s (b:=b1) (o:=0) rfl zjI bz) (ec r (fun _ u _ b d s=>za4 s d.1 (keep b H1) to3 rfl bz) (ec r (fun _ u _ b d s=>zpG s rfl d.1 rfl rfl bz) (ec r (fun _ u _ b d s=>zpG s d.1 d.2.1 rfl rfl bz) (ec r (fun _ u _ b d s=>zpG s d.1 d.2.1 rfl rfl bz) ?_))))))));exact zaO
 intro fr u w4 hb hΦ hne r;have r:=r.congr (sc (hΦ 8 ke) (sc (hΦ 7 ke) (sc (hΦ 6 ke) (sc (hΦ 5 ke) (sc (hΦ 4 ke) (sc (hΦ 3 ke) (sc (hΦ 2 ke) (sc (hΦ 1 ke) (sc (hΦ 0 ke) rfl)))))))));have Z4:=hb.size;have H1:=keep hb H1;obtain ⟨hB,zB⟩:=bon hb hB;refine kA (I (W ((D.zas a0)+(W (a0.threads * (W (1+a0.retire))))))) r rfl rfl fun r=>wn (ac ?_);refine zaH r rfl rfl ?_
 exact ⟨rfl,hB⟩
def D.zab (a0:Plan):Int:=(bif (!(D.zaz a0)) then 0 else (IntKind.i64.wrap ((D.za2 a0)+(IntKind.i64.wrap (a0.nodes * 5)))))
theorem zjf (w0:World) 
    (a0:Plan) :
    Calls ar 60 #[aq (zpg a0)] w0 (zpx (.int .i64 (D.zab a0)) w0):=by
 refine kN Tryz.func60 rfl 12 rfl rfl fun fr r hB=>?_;refine wsr ?_
 refine kX 23 (aq (zpg a0)) r rfl rfl fun b1 w2 n3 r=>?_;obtain ⟨E1,Z2,H1,hB,zB⟩:=n3.all hB
 refine kA (I 0) r rfl rfl fun r=>wn (aa (wsr (kG (zpg a0) 6 r rfl H1 ta23 rfl rfl fun r=>?_)));refine kE r (zcI w2 a0) rfl cl91 rfl fun w4 hb r=>?_
 have Z4:=hb.size;have H1:=keep hb H1;obtain ⟨hB,zB⟩:=bon hb hB;refine za0 (.bool (!(D.zaz a0))) r (fun R=>y_un r (u:=(.bool (D.zaz a0))) rfl rfl) rfl fun fr r=>wn ?_;refine ae (t:=(!(D.zaz a0))) (r.ev rfl) (fun h5=>?_) (fun h5=>?_)
 ·
  refine wsr (kA (I 0) r rfl rfl fun r=>wn (ac ?_));have hd:D.zab a0=0:=(zao h5).trans (rfl)
  refine zaH r rfl rfl ?_;rw [hd];exact ⟨rfl,hB⟩
 refine ag (aa ?_);refine zaB 6 [.val (aq (zpg a0)),.val (I (D.za2 a0)),.val (zp b1),.val (I a0.nodes),.val (I (W (a0.nodes * 5))),.val (I (W ((D.za2 a0)+(W (a0.nodes * 5)))))] mixed r kz (kV (kV (kV (kV (kV (kV zat)))))) ?_ ?_
 ·
  refine ec r (fun _ u _ b d s=>zac s (cs:=(zpg a0)) (n:=6) rfl (keep b H1) ta23 rfl bz) (ec r (fun fr1 u w' hb' hd r'=>zaF r' (args:=[(aq (zpg a0))]) (lc hd.1 l0) zqT ((zd7 _ a0).mono yab)) (ec r (fun _ u _ b d s=>za3 s (b:=b1) (o:=0) rfl ziV bz) (ec r (fun _ u _ b d s=>za4 s d.1 (keep b H1) to3 rfl bz) (ec r (fun _ u _ b d s=>zpG s d.1 rfl rfl rfl bz) (ec r (fun _ u _ b d s=>zpG s d.1 d.2.1 rfl rfl bz) ?_)))));exact zaO
 intro fr u w6 hb hΦ hne r;have r:=r.congr (sc (hΦ 5 ke) (sc (hΦ 4 ke) (sc (hΦ 3 ke) (sc (hΦ 2 ke) (sc (hΦ 1 ke) (sc (hΦ 0 ke) rfl))))));have Z6:=hb.size;have H1:=keep hb H1;obtain ⟨hB,zB⟩:=bon hb hB;refine kA (I (W ((D.za2 a0)+(W (a0.nodes * 5))))) r rfl rfl fun r=>wn (ac ?_);have hd:D.zab a0=(W ((D.za2 a0)+(W (a0.nodes * 5)))):=(zaq h5).trans (rfl)
 refine zaH r rfl rfl ?_;rw [hd];exact ⟨rfl,hB⟩
def D.zal (a0:Plan) (a1:Int) (a2:List Bound):Int:=(bif (!(D.zaz a0)) then (-1) else (bif (!(D.zaL a2)) then (-1) else a1))
theorem zbG (w0:World) 
    (a0:Plan) (a1:Int) (a2:List Bound) {a2b:Nat} (a2h:w0.heap[a2b]?=some (.cells ((boundsC a2)).toArray 148 (0,0))) (pre0:a2.length≤8) :
    Calls ar 68 #[aq (zpg a0),.int .i64 a1,.slice (some ⟨a2b,0,none⟩) a2.length a2.length] w0 (zpx (.int .i64 (D.zal a0 a1 a2)) w0):=by
 refine kN Tryz.func68 rfl 16 rfl rfl fun fr r hB=>?_;have la2b:=ah a2h
 refine wsr ?_;refine kX 23 (aq (zpg a0)) r rfl rfl fun b1 w2 n3 r=>?_;have a2h:=keep n3.below a2h
 obtain ⟨E1,Z2,H1,hB,zB⟩:=n3.all hB;refine kA (I 0) r rfl rfl fun r=>wn (aa (wsr (kG (zpg a0) 6 r rfl H1 ta23 rfl rfl fun r=>?_)));refine kE r (zcI w2 a0) rfl cl91 rfl fun w4 hb r=>?_
 have Z4:=hb.size;have a2h:=keep hb a2h;have H1:=keep hb H1;obtain ⟨hB,zB⟩:=bon hb hB;refine za0 (.bool (!(D.zaz a0))) r (fun R=>y_un r (u:=(.bool (D.zaz a0))) rfl rfl) rfl fun fr r=>kM (.bool (!(D.zaz a0))) r rfl rfl fun r=>?_;refine zaT (!(D.zaz a0)) (fun h5=>?_) (fun h5=>?_)
 ·
  refine s0 r h5 fun fr r=>s0 r h5 fun fr r=>s0 r h5 fun fr r=>za0 (.bool true) r (fun R=>zay r (b:=true) (kb h5) rfl) rfl fun fr r=>wn ?_;refine ae (t:=true) (r.ev rfl) (fun _=>?_) (fun h=>absurd ((rfl:true=_).symm.trans h) ke)
  refine wsr (kA (I (-1)) r rfl rfl fun r=>wn (ac ?_));have hd:D.zal a0 a1 a2=(-1):=(zao h5).trans (rfl)
  refine zaH r rfl rfl ?_;rw [hd];exact ⟨rfl,hB⟩
 refine s1 r h5 (kM (.slice (some ⟨a2b,0,none⟩) a2.length a2.length) r rfl rfl fun r=>s1 r h5 ?_);refine kE r (zfU w4 a2 a2h yal) rfl zqX rfl fun w6 hb r=>?_
 have Z6:=hb.size;have a2h:=keep hb a2h;have H1:=keep hb H1;obtain ⟨hB,zB⟩:=bon hb hB;refine s1 r h5 (za0 (.bool (!(D.zaL a2))) r (fun R=>y_un r (u:=(.bool (D.zaL a2))) rfl rfl) rfl fun fr r=>za0 (.bool (!(D.zaL a2))) r (fun R=>zay r (b:=false) (kb h5) rfl) rfl fun fr r=>wn ?_);refine ae (t:=(!(D.zaL a2))) (r.ev rfl) (fun h7=>?_) (fun h7=>?_)
 ·
  refine wsr (kA (I (-1)) r rfl rfl fun r=>wn (ac ?_));have hd:D.zal a0 a1 a2=(-1):=(zaq h5).trans ((zao h7).trans (rfl))
  refine zaH r rfl rfl ?_;rw [hd];exact ⟨rfl,hB⟩
 refine ag (wsr (kM (I a1) r rfl rfl fun r=>kA (I a1) r rfl rfl fun r=>wn (ac ?_)));have hd:D.zal a0 a1 a2=a1:=(zaq h5).trans ((zaq h7).trans (rfl))
 refine zaH r rfl rfl ?_;rw [hd];exact ⟨rfl,hB⟩
theorem zgW (w0:World) 
    (a0:Plan) (a1:Int) :
    Calls ar 68 #[aq (zpg a0),.int .i64 a1,.slice none 0 0] w0 (zpx (.int .i64 (D.zal a0 a1 ([]))) w0):=by
 refine kN Tryz.func68 rfl 16 rfl rfl fun fr r hB=>?_;refine wsr ?_
 refine kX 23 (aq (zpg a0)) r rfl rfl fun b1 w2 n3 r=>?_;obtain ⟨E1,Z2,H1,hB,zB⟩:=n3.all hB
 refine kA (I 0) r rfl rfl fun r=>wn (aa (wsr (kG (zpg a0) 6 r rfl H1 ta23 rfl rfl fun r=>?_)));refine kE r (zcI w2 a0) rfl cl91 rfl fun w4 hb r=>?_
 have Z4:=hb.size;have H1:=keep hb H1;obtain ⟨hB,zB⟩:=bon hb hB;refine za0 (.bool (!(D.zaz a0))) r (fun R=>y_un r (u:=(.bool (D.zaz a0))) rfl rfl) rfl fun fr r=>kM (.bool (!(D.zaz a0))) r rfl rfl fun r=>?_;refine zaT (!(D.zaz a0)) (fun h5=>?_) (fun h5=>?_)
 ·
  refine s0 r h5 fun fr r=>s0 r h5 fun fr r=>s0 r h5 fun fr r=>za0 (.bool true) r (fun R=>zay r (b:=true) (kb h5) rfl) rfl fun fr r=>wn ?_;refine ae (t:=true) (r.ev rfl) (fun _=>?_) (fun h=>absurd ((rfl:true=_).symm.trans h) ke)
  refine wsr (kA (I (-1)) r rfl rfl fun r=>wn (ac ?_));have hd:D.zal a0 a1 []=(-1):=(zao h5).trans (rfl)
  refine zaH r rfl rfl ?_;rw [hd];exact ⟨rfl,hB⟩
 refine s1 r h5 (kM (.slice none 0 0) r rfl rfl fun r=>s1 r h5 ?_);refine kE r (ziO w4 ) rfl zqX rfl fun w6 hb r=>?_
 have Z6:=hb.size;have H1:=keep hb H1;obtain ⟨hB,zB⟩:=bon hb hB;refine s1 r h5 (za0 (.bool (!(D.zaL ([])))) r (fun R=>y_un r (u:=(.bool (D.zaL ([])))) rfl rfl) rfl fun fr r=>za0 (.bool (!(D.zaL ([])))) r (fun R=>zay r (b:=false) (kb h5) rfl) rfl fun fr r=>wn ?_);refine ae (t:=(!(D.zaL ([])))) (r.ev rfl) (fun h7=>?_) (fun h7=>?_)
 ·
  refine wsr (kA (I (-1)) r rfl rfl fun r=>wn (ac ?_));have hd:D.zal a0 a1 []=(-1):=(zaq h5).trans ((zao h7).trans (rfl))
  refine zaH r rfl rfl ?_;rw [hd];exact ⟨rfl,hB⟩
 refine ag (wsr (kM (I a1) r rfl rfl fun r=>kA (I a1) r rfl rfl fun r=>wn (ac ?_)));have hd:D.zal a0 a1 []=a1:=(zaq h5).trans ((zaq h7).trans (rfl))
 refine zaH r rfl rfl ?_;rw [hd];exact ⟨rfl,hB⟩
def D.zaX (a0:Plan):Int:=(D.zal a0 0 ([]))
theorem zcu (w0:World) 
    (a0:Plan) :
    Calls ar 192 #[aq (zpg a0)] w0 (zpx (.int .i64 (D.zaX a0)) w0):=by
 refine kN Tryz.func192 rfl 5 rfl rfl fun fr r hB=>?_;refine wsr ?_
 refine kX 23 (aq (zpg a0)) r rfl rfl fun b1 w2 n3 r=>?_;obtain ⟨E1,Z2,H1,hB,zB⟩:=n3.all hB
 refine kA (I 0) r rfl rfl fun r=>wn (wsr (kG (zpg a0) 6 r rfl H1 ta23 rfl rfl fun r=>?_));refine kE r (zgW w2 a0 0) rfl cl68 rfl fun w4 hb r=>?_
 have Z4:=hb.size;have H1:=keep hb H1;obtain ⟨hB,zB⟩:=bon hb hB;refine kA (I (D.zal a0 0 ([]))) r rfl rfl fun r=>wn (ac ?_);refine zaH r rfl rfl ?_
 exact ⟨rfl,hB⟩
def D.zaG (a0:Plan) (a1:Int):Bound:=(⟨a1,0,(IntKind.i64.wrap (a0.nodes - 1))⟩:Bound)
theorem zeC (w0:World) 
    (a0:Plan) (a1:Int) :
    Calls ar 166 #[aq (zpg a0),.int .i64 a1] w0 (zpx (aq (zpL (D.zaG a0 a1))) w0):=by
 refine kN Tryz.func166 rfl 10 rfl rfl fun fr r hB=>?_;refine wsr ?_
 refine kX 23 (aq (zpg a0)) r rfl rfl fun b1 w2 n3 r=>?_;obtain ⟨E1,Z2,H1,hB,zB⟩:=n3.all hB
 refine za7 (.cells ((zpL (⟨0,0,0⟩:Bound))).toArray 148 (0,0)) r (fun R=>za6 zrp) rfl fun fr b4 w5 n6 r=>?_;have H1:=keep n6.below H1
 obtain ⟨E4,Z5,H4,hB,zB⟩:=n6.all hB;refine wn (wsr (kM (I a1) r rfl rfl fun r=>kF 0 r rfl ziV rfl fun r=>kL (I a0.nodes) r rfl H1 to3 rfl rfl fun r=>kB r rfl rfl rfl rfl rfl fun r=>kU (.agg (zpL (⟨a1,0,(W (a0.nodes - 1))⟩:Bound)).toArray) r kz rfl fun r=>?_));refine zaD (.cells ((zpL (⟨a1,0,(W (a0.nodes - 1))⟩:Bound))).toArray 148 (0,0)) r (fun R=>zax r (o:=0) (v:=(.agg (zpL (⟨a1,0,(W (a0.nodes - 1))⟩:Bound)).toArray)) rfl rfl H4 zrn ak rfl rfl) rfl fun fr w7 u8 r=>?_
 have Z7:=u8.size;have H1:=u8.keep H1 kw
 have H4:=u8.at_;obtain ⟨hB,zB⟩:=u8.on hB kw
 refine wn (ac ?_);refine za5 r rfl rfl H4 (k:=3) rfl zrg ?_;exact ⟨rfl,hB⟩
def D.zaZ (a0:Plan) (a1:Int):Int:=(D.zal a0 (IntKind.i64.wrap ((IntKind.i64.wrap ((D.za2 a0)+(IntKind.i64.wrap (a1 * 5))))+1)) ([(D.zaG a0 a1)]))
theorem zdp (w0:World) 
    (a0:Plan) (a1:Int) :
    Calls ar 193 #[aq (zpg a0),.int .i64 a1] w0 (zpx (.int .i64 (D.zaZ a0 a1)) w0):=by
 refine kN Tryz.func193 rfl 17 rfl rfl fun fr r hB=>?_;refine wsr ?_
 refine kX 23 (aq (zpg a0)) r rfl rfl fun b1 w2 n3 r=>?_;obtain ⟨E1,Z2,H1,hB,zB⟩:=n3.all hB
 refine kA (I 0) r rfl rfl fun r=>wn (aa ?_);refine zaB 12 [.val (aq (zpg a0)),.val (aq (zpg a0)),.val (I (D.za2 a0)),.val (I a1),.val (I (W (a1 * 5))),.val (I (W ((D.za2 a0)+(W (a1 * 5))))),.val (I (W ((W ((D.za2 a0)+(W (a1 * 5))))+1))),.val (aq (zpg a0)),.val (I a1),.val (aq (zpL (D.zaG a0 a1))),.slice w2.heap.size (.cells ((boundsC [(D.zaG a0 a1)])).toArray 148 (0,0)) 1,.val (I (D.zal a0 (W ((W ((D.za2 a0)+(W (a1 * 5))))+1)) ([(D.zaG a0 a1)])))] mixed r kz (kV (kV (kV (kV (kV (kV (kV (kV (kV (kV (zaI (Nat.le_refl _) (kV zat)))))))))))) ?_ ?_
 ·
  refine ec r (fun _ u _ b d s=>zac s (cs:=(zpg a0)) (n:=6) rfl (keep b H1) ta23 rfl bz) (ec r (fun _ u _ b d s=>zac s (cs:=(zpg a0)) (n:=6) rfl (keep b H1) ta23 rfl bz) (ec r (fun fr1 u w' hb' hd r'=>zaF r' (args:=[(aq (zpg a0))]) (lc hd.1 l0) zqT ((zd7 _ a0).mono yab)) (ec r (fun _ u _ b d s=>zar s rfl bz) (ec r (fun _ u _ b d s=>zpG s d.1 rfl rfl rfl bz) (ec r (fun _ u _ b d s=>zpG s d.1 d.2.1 rfl rfl bz) (ec r (fun _ u _ b d s=>zpG s d.1 rfl rfl rfl bz) (ec r (fun _ u _ b d s=>zac s (cs:=(zpg a0)) (n:=6) rfl (keep b H1) ta23 rfl bz) (ec r (fun _ u _ b d s=>zar s rfl bz) (ec r (fun fr1 u w' hb' hd r'=>zaF r' (args:=[(aq (zpg a0)),(I a1)]) (lc hd.1 (lc hd.2.1 l0)) zro ((zeC _ a0 a1).mono yab)) (ec r (fun fr1 u w' hb' hd r'=>zcO r' (c:=((boundsC [(D.zaG a0 a1)])).toArray) (E:=148) (bs1 (congrArg (fun z=>(0,z)) hd.1) kz) (fun b w2 n2=>⟨n2.below,b,rfl,Nat.le_of_eq n2.eq.symm,n2.at_⟩)) ?_))))))))));refine zbn r rfl (fun fr1 u w' hb' hd r'=>?_) ?_
  · obtain ⟨d0,d1,d2,d3,_⟩:=hd; obtain ⟨q2,hq2,_,hr2⟩:=d2; exact zaF r' (args:=[(aq (zpg a0)),(I (W ((W ((D.za2 a0)+(W (a1 * 5))))+1))),(.slice (some ⟨q2,0,none⟩) 1 1)]) (lc d0 (lc d1 (lc hq2 l0))) cl68 ((zbG _ a0 (W ((W ((D.za2 a0)+(W (a1 * 5))))+1)) ([(D.zaG a0 a1)]) hr2 yal).mono yab)
  exact zaO
 intro fr u w4 hb hΦ hne r;obtain ⟨b5,g10,E5,H5⟩:=hΦ 10 ke;have l_b5:=ah H5;have r:=r.congr (sc (hΦ 11 ke) (sc g10 (sc (hΦ 9 ke) (sc (hΦ 8 ke) (sc (hΦ 7 ke) (sc (hΦ 6 ke) (sc (hΦ 5 ke) (sc (hΦ 4 ke) (sc (hΦ 3 ke) (sc (hΦ 2 ke) (sc (hΦ 1 ke) (sc (hΦ 0 ke) rfl))))))))))));have Z4:=hb.size;have H1:=keep hb H1;obtain ⟨hB,zB⟩:=bon hb hB;refine kA (I (D.zal a0 (W ((W ((D.za2 a0)+(W (a1 * 5))))+1)) ([(D.zaG a0 a1)]))) r rfl rfl fun r=>wn (ac ?_);refine zaH r rfl rfl ?_
 exact ⟨rfl,hB⟩
def D.zbu (a0:Plan) (a1:Int):Bound:=(⟨a1,0,(IntKind.i64.wrap (a0.domains - 1))⟩:Bound)
theorem zik (w0:World) 
    (a0:Plan) (a1:Int) :
    Calls ar 70 #[aq (zpg a0),.int .i64 a1] w0 (zpx (aq (zpL (D.zbu a0 a1))) w0):=by
 refine kN Tryz.func70 rfl 10 rfl rfl fun fr r hB=>?_;refine wsr ?_
 refine kX 23 (aq (zpg a0)) r rfl rfl fun b1 w2 n3 r=>?_;obtain ⟨E1,Z2,H1,hB,zB⟩:=n3.all hB
 refine za7 (.cells ((zpL (⟨0,0,0⟩:Bound))).toArray 148 (0,0)) r (fun R=>za6 zrp) rfl fun fr b4 w5 n6 r=>?_;have H1:=keep n6.below H1
 obtain ⟨E4,Z5,H4,hB,zB⟩:=n6.all hB;refine wn (wsr (kM (I a1) r rfl rfl fun r=>kF 0 r rfl zns rfl fun r=>kL (I a0.domains) r rfl H1 to3 rfl rfl fun r=>kB r rfl rfl rfl rfl rfl fun r=>kU (.agg (zpL (⟨a1,0,(W (a0.domains - 1))⟩:Bound)).toArray) r kz rfl fun r=>?_));refine zaD (.cells ((zpL (⟨a1,0,(W (a0.domains - 1))⟩:Bound))).toArray 148 (0,0)) r (fun R=>zax r (o:=0) (v:=(.agg (zpL (⟨a1,0,(W (a0.domains - 1))⟩:Bound)).toArray)) rfl rfl H4 zrn ak rfl rfl) rfl fun fr w7 u8 r=>?_
 have Z7:=u8.size;have H1:=u8.keep H1 kw
 have H4:=u8.at_;obtain ⟨hB,zB⟩:=u8.on hB kw
 refine wn (ac ?_);refine za5 r rfl rfl H4 (k:=3) rfl zrg ?_;exact ⟨rfl,hB⟩
def D.zbj (a0:Plan) (a1:Int) (a2:Int):Int:=(D.zal a0 (IntKind.i64.wrap ((IntKind.i64.wrap (2+(IntKind.i64.wrap (a1 * (IntKind.i64.wrap (1+(D.za9 a0)))))))+a2)) ([(D.zbu a0 a1),(⟨a2,0,(IntKind.i64.wrap ((D.za9 a0) - 1))⟩:Bound)]))
theorem zgi (w0:World) 
    (a0:Plan) (a1:Int) (a2:Int) :
    Calls ar 36 #[aq (zpg a0),.int .i64 a1,.int .i64 a2] w0 (zpx (.int .i64 (D.zbj a0 a1 a2)) w0):=by
 refine kN Tryz.func36 rfl 26 rfl rfl fun fr r hB=>?_;refine wsr ?_
 refine kX 23 (aq (zpg a0)) r rfl rfl fun b1 w2 n3 r=>?_;obtain ⟨E1,Z2,H1,hB,zB⟩:=n3.all hB
 refine kA (I 0) r rfl rfl fun r=>wn (aa ?_);refine zaB 19 [.val (aq (zpg a0)),.val (I a1),.val (aq (zpg a0)),.val (I (D.za9 a0)),.val (I (W (1+(D.za9 a0)))),.val (I (W (a1 * (W (1+(D.za9 a0)))))),.val (I (W (2+(W (a1 * (W (1+(D.za9 a0)))))))),.val (I a2),.val (I (W ((W (2+(W (a1 * (W (1+(D.za9 a0)))))))+a2))),.val (aq (zpg a0)),.val (I a1),.val (aq (zpL (D.zbu a0 a1))),.val (I a2),.val (aq (zpg a0)),.val (I (D.za9 a0)),.val (I (W ((D.za9 a0) - 1))),.val (.agg (zpL (⟨a2,0,(W ((D.za9 a0) - 1))⟩:Bound)).toArray),.slice w2.heap.size (.cells ((boundsC [(D.zbu a0 a1),(⟨a2,0,(W ((D.za9 a0) - 1))⟩:Bound)])).toArray 148 (0,0)) 2,.val (I (D.zal a0 (W ((W (2+(W (a1 * (W (1+(D.za9 a0)))))))+a2)) ([(D.zbu a0 a1),(⟨a2,0,(W ((D.za9 a0) - 1))⟩:Bound)])))] mixed r kz (kV (kV (kV (kV (kV (kV (kV (kV (kV (kV (kV (kV (kV (kV (kV (kV (kV (zaI (Nat.le_refl _) (kV zat))))))))))))))))))) ?_ ?_
 ·
  refine ec r (fun _ u _ b d s=>zac s (cs:=(zpg a0)) (n:=6) rfl (keep b H1) ta23 rfl bz) (ec r (fun _ u _ b d s=>zar s rfl bz) (ec r (fun _ u _ b d s=>zac s (cs:=(zpg a0)) (n:=6) rfl (keep b H1) ta23 rfl bz) (ec r (fun fr1 u w' hb' hd r'=>zaF r' (args:=[(aq (zpg a0))]) (lc hd.1 l0) cl69 ((zef _ a0).mono yab)) (ec r (fun _ u _ b d s=>zpG s rfl d.1 rfl rfl bz) (ec r (fun _ u _ b d s=>zpG s d.1 d.2.1 rfl rfl bz) (ec r (fun _ u _ b d s=>zpG s rfl d.1 rfl rfl bz) (ec r (fun _ u _ b d s=>zar s rfl bz) (ec r (fun _ u _ b d s=>zpG s d.1 d.2.1 rfl rfl bz) (ec r (fun _ u _ b d s=>zac s (cs:=(zpg a0)) (n:=6) rfl (keep b H1) ta23 rfl bz) (ec r (fun _ u _ b d s=>zar s rfl bz) (ec r (fun fr1 u w' hb' hd r'=>zaF r' (args:=[(aq (zpg a0)),(I a1)]) (lc hd.1 (lc hd.2.1 l0)) cl70 ((zik _ a0 a1).mono yab)) (ec r (fun _ u _ b d s=>zar s rfl bz) (ec r (fun _ u _ b d s=>zac s (cs:=(zpg a0)) (n:=6) rfl (keep b H1) ta23 rfl bz) (ec r (fun fr1 u w' hb' hd r'=>zaF r' (args:=[(aq (zpg a0))]) (lc hd.1 l0) cl69 ((zef _ a0).mono yab)) (ec r (fun _ u _ b d s=>zpG s d.1 rfl rfl rfl bz) (ec r (fun fr1 u w' hb' hd r'=>zgz r' (v:=(.agg (zpL (⟨a2,0,(W ((D.za9 a0) - 1))⟩:Bound)).toArray)) (bs3 (congrArg (fun z=>(0,z)) hd.1) (rfl) (congrArg (fun z=>(2,z)) hd.2.1) kz) bz) (ec r (fun fr1 u w' hb' hd r'=>zcO r' (c:=((boundsC [(D.zbu a0 a1),(⟨a2,0,(W ((D.za9 a0) - 1))⟩:Bound)])).toArray) (E:=148) (bs2 (congrArg (fun z=>(0,z)) hd.1) (congrArg (fun z=>(1,z)) hd.2.1) kz) (fun b w2 n2=>⟨n2.below,b,rfl,Nat.le_of_eq n2.eq.symm,n2.at_⟩)) ?_)))))))))))))))))
  refine zbn r rfl (fun fr1 u w' hb' hd r'=>?_) ?_
  · obtain ⟨d0,d1,d2,d3,_⟩:=hd; obtain ⟨q2,hq2,_,hr2⟩:=d2; exact zaF r' (args:=[(aq (zpg a0)),(I (W ((W (2+(W (a1 * (W (1+(D.za9 a0)))))))+a2))),(.slice (some ⟨q2,0,none⟩) 2 2)]) (lc d0 (lc d1 (lc hq2 l0))) cl68 ((zbG _ a0 (W ((W (2+(W (a1 * (W (1+(D.za9 a0)))))))+a2)) ([(D.zbu a0 a1),(⟨a2,0,(W ((D.za9 a0) - 1))⟩:Bound)]) hr2 yal).mono yab)
  exact zaO
 intro fr u w4 hb hΦ hne r;obtain ⟨b5,g17,E5,H5⟩:=hΦ 17 ke;have l_b5:=ah H5;have r:=r.congr (sc (hΦ 18 ke) (sc g17 (sc (hΦ 16 ke) (sc (hΦ 15 ke) (sc (hΦ 14 ke) (sc (hΦ 13 ke) (sc (hΦ 12 ke) (sc (hΦ 11 ke) (sc (hΦ 10 ke) (sc (hΦ 9 ke) (sc (hΦ 8 ke) (sc (hΦ 7 ke) (sc (hΦ 6 ke) (sc (hΦ 5 ke) (sc (hΦ 4 ke) (sc (hΦ 3 ke) (sc (hΦ 2 ke) (sc (hΦ 1 ke) (sc (hΦ 0 ke) rfl)))))))))))))))))));have Z4:=hb.size;have H1:=keep hb H1;obtain ⟨hB,zB⟩:=bon hb hB;refine kA (I (D.zal a0 (W ((W (2+(W (a1 * (W (1+(D.za9 a0)))))))+a2)) ([(D.zbu a0 a1),(⟨a2,0,(W ((D.za9 a0) - 1))⟩:Bound)]))) r rfl rfl fun r=>wn (ac ?_);refine zaH r rfl rfl ?_
 exact ⟨rfl,hB⟩
def D.zaJ (a0:Plan) (a1:Int):Int:=(D.zal a0 (IntKind.i64.wrap ((D.za2 a0)+(IntKind.i64.wrap (a1 * 5)))) ([(D.zaG a0 a1)]))
theorem zbX (w0:World) 
    (a0:Plan) (a1:Int) :
    Calls ar 112 #[aq (zpg a0),.int .i64 a1] w0 (zpx (.int .i64 (D.zaJ a0 a1)) w0):=by
 refine kN Tryz.func112 rfl 16 rfl rfl fun fr r hB=>?_;refine wsr ?_
 refine kX 23 (aq (zpg a0)) r rfl rfl fun b1 w2 n3 r=>?_;obtain ⟨E1,Z2,H1,hB,zB⟩:=n3.all hB
 refine kA (I 0) r rfl rfl fun r=>wn (aa ?_);refine zaB 11 [.val (aq (zpg a0)),.val (aq (zpg a0)),.val (I (D.za2 a0)),.val (I a1),.val (I (W (a1 * 5))),.val (I (W ((D.za2 a0)+(W (a1 * 5))))),.val (aq (zpg a0)),.val (I a1),.val (aq (zpL (D.zaG a0 a1))),.slice w2.heap.size (.cells ((boundsC [(D.zaG a0 a1)])).toArray 148 (0,0)) 1,.val (I (D.zal a0 (W ((D.za2 a0)+(W (a1 * 5)))) ([(D.zaG a0 a1)])))] mixed r kz (kV (kV (kV (kV (kV (kV (kV (kV (kV (zaI (Nat.le_refl _) (kV zat))))))))))) ?_ ?_
 ·
  refine ec r (fun _ u _ b d s=>zac s (cs:=(zpg a0)) (n:=6) rfl (keep b H1) ta23 rfl bz) (ec r (fun _ u _ b d s=>zac s (cs:=(zpg a0)) (n:=6) rfl (keep b H1) ta23 rfl bz) (ec r (fun fr1 u w' hb' hd r'=>zaF r' (args:=[(aq (zpg a0))]) (lc hd.1 l0) zqT ((zd7 _ a0).mono yab)) (ec r (fun _ u _ b d s=>zar s rfl bz) (ec r (fun _ u _ b d s=>zpG s d.1 rfl rfl rfl bz) (ec r (fun _ u _ b d s=>zpG s d.1 d.2.1 rfl rfl bz) (ec r (fun _ u _ b d s=>zac s (cs:=(zpg a0)) (n:=6) rfl (keep b H1) ta23 rfl bz) (ec r (fun _ u _ b d s=>zar s rfl bz) (ec r (fun fr1 u w' hb' hd r'=>zaF r' (args:=[(aq (zpg a0)),(I a1)]) (lc hd.1 (lc hd.2.1 l0)) zro ((zeC _ a0 a1).mono yab)) (ec r (fun fr1 u w' hb' hd r'=>zcO r' (c:=((boundsC [(D.zaG a0 a1)])).toArray) (E:=148) (bs1 (congrArg (fun z=>(0,z)) hd.1) kz) (fun b w2 n2=>⟨n2.below,b,rfl,Nat.le_of_eq n2.eq.symm,n2.at_⟩)) ?_)))))))));refine zbn r rfl (fun fr1 u w' hb' hd r'=>?_) ?_
  · obtain ⟨d0,d1,d2,d3,_⟩:=hd; obtain ⟨q2,hq2,_,hr2⟩:=d2; exact zaF r' (args:=[(aq (zpg a0)),(I (W ((D.za2 a0)+(W (a1 * 5))))),(.slice (some ⟨q2,0,none⟩) 1 1)]) (lc d0 (lc d1 (lc hq2 l0))) cl68 ((zbG _ a0 (W ((D.za2 a0)+(W (a1 * 5)))) ([(D.zaG a0 a1)]) hr2 yal).mono yab)
  exact zaO
 intro fr u w4 hb hΦ hne r;obtain ⟨b5,g9,E5,H5⟩:=hΦ 9 ke;have l_b5:=ah H5;have r:=r.congr (sc (hΦ 10 ke) (sc g9 (sc (hΦ 8 ke) (sc (hΦ 7 ke) (sc (hΦ 6 ke) (sc (hΦ 5 ke) (sc (hΦ 4 ke) (sc (hΦ 3 ke) (sc (hΦ 2 ke) (sc (hΦ 1 ke) (sc (hΦ 0 ke) rfl)))))))))));have Z4:=hb.size;have H1:=keep hb H1;obtain ⟨hB,zB⟩:=bon hb hB;refine kA (I (D.zal a0 (W ((D.za2 a0)+(W (a1 * 5)))) ([(D.zaG a0 a1)]))) r rfl rfl fun r=>wn (ac ?_);refine zaH r rfl rfl ?_
 exact ⟨rfl,hB⟩
def D.zau (a0:Plan) (a1:Int):Bound:=(⟨a1,0,(IntKind.i64.wrap (a0.threads - 1))⟩:Bound)
theorem ze3 (w0:World) 
    (a0:Plan) (a1:Int) :
    Calls ar 287 #[aq (zpg a0),.int .i64 a1] w0 (zpx (aq (zpL (D.zau a0 a1))) w0):=by
 refine kN Tryz.func287 rfl 10 rfl rfl fun fr r hB=>?_;refine wsr ?_
 refine kX 23 (aq (zpg a0)) r rfl rfl fun b1 w2 n3 r=>?_;obtain ⟨E1,Z2,H1,hB,zB⟩:=n3.all hB
 refine za7 (.cells ((zpL (⟨0,0,0⟩:Bound))).toArray 148 (0,0)) r (fun R=>za6 zrp) rfl fun fr b4 w5 n6 r=>?_;have H1:=keep n6.below H1
 obtain ⟨E4,Z5,H4,hB,zB⟩:=n6.all hB;refine wn (wsr (kM (I a1) r rfl rfl fun r=>kF 0 r rfl zkw rfl fun r=>kL (I a0.threads) r rfl H1 to3 rfl rfl fun r=>kB r rfl rfl rfl rfl rfl fun r=>kU (.agg (zpL (⟨a1,0,(W (a0.threads - 1))⟩:Bound)).toArray) r kz rfl fun r=>?_));refine zaD (.cells ((zpL (⟨a1,0,(W (a0.threads - 1))⟩:Bound))).toArray 148 (0,0)) r (fun R=>zax r (o:=0) (v:=(.agg (zpL (⟨a1,0,(W (a0.threads - 1))⟩:Bound)).toArray)) rfl rfl H4 zrn ak rfl rfl) rfl fun fr w7 u8 r=>?_
 have Z7:=u8.size;have H1:=u8.keep H1 kw
 have H4:=u8.at_;obtain ⟨hB,zB⟩:=u8.on hB kw
 refine wn (ac ?_);refine za5 r rfl rfl H4 (k:=3) rfl zrg ?_;exact ⟨rfl,hB⟩
def D.zb3 (a0:Plan) (a1:Int):Int:=(D.zal a0 (IntKind.i64.wrap ((D.zas a0)+(IntKind.i64.wrap (a1 * (IntKind.i64.wrap (1+a0.retire)))))) ([(D.zau a0 a1)]))
theorem zcY (w0:World) 
    (a0:Plan) (a1:Int) :
    Calls ar 194 #[aq (zpg a0),.int .i64 a1] w0 (zpx (.int .i64 (D.zb3 a0 a1)) w0):=by
 refine kN Tryz.func194 rfl 19 rfl rfl fun fr r hB=>?_;refine wsr ?_
 refine kX 23 (aq (zpg a0)) r rfl rfl fun b1 w2 n3 r=>?_;obtain ⟨E1,Z2,H1,hB,zB⟩:=n3.all hB
 refine kA (I 0) r rfl rfl fun r=>wn (aa ?_);refine zaB 14 [.val (aq (zpg a0)),.val (aq (zpg a0)),.val (I (D.zas a0)),.val (I a1),.val (.pointer (some ⟨b1,2,none⟩)),.val (I a0.retire),.val (I (W (1+a0.retire))),.val (I (W (a1 * (W (1+a0.retire))))),.val (I (W ((D.zas a0)+(W (a1 * (W (1+a0.retire))))))),.val (aq (zpg a0)),.val (I a1),.val (aq (zpL (D.zau a0 a1))),.slice w2.heap.size (.cells ((boundsC [(D.zau a0 a1)])).toArray 148 (0,0)) 1,.val (I (D.zal a0 (W ((D.zas a0)+(W (a1 * (W (1+a0.retire)))))) ([(D.zau a0 a1)])))] mixed r kz (kV (kV (kV (kV (kV (kV (kV (kV (kV (kV (kV (kV (zaI (Nat.le_refl _) (kV zat)))))))))))))) ?_ ?_
 ·
  refine ec r (fun _ u _ b d s=>zac s (cs:=(zpg a0)) (n:=6) rfl (keep b H1) ta23 rfl bz) (ec r (fun _ u _ b d s=>zac s (cs:=(zpg a0)) (n:=6) rfl (keep b H1) ta23 rfl bz) (ec r (fun fr1 u w' hb' hd r'=>zaF r' (args:=[(aq (zpg a0))]) (lc hd.1 l0) zrj ((zdS _ a0).mono yab)) (ec r (fun _ u _ b d s=>zar s rfl bz) (ec r (fun _ u _ b d s=>za3 s (b:=b1) (o:=0) rfl zjI bz) (ec r (fun _ u _ b d s=>za4 s d.1 (keep b H1) to3 rfl bz) (ec r (fun _ u _ b d s=>zpG s rfl d.1 rfl rfl bz) (ec r (fun _ u _ b d s=>zpG s d.1 d.2.1 rfl rfl bz) (ec r (fun _ u _ b d s=>zpG s d.1 d.2.1 rfl rfl bz) (ec r (fun _ u _ b d s=>zac s (cs:=(zpg a0)) (n:=6) rfl (keep b H1) ta23 rfl bz) (ec r (fun _ u _ b d s=>zar s rfl bz) (ec r (fun fr1 u w' hb' hd r'=>zaF r' (args:=[(aq (zpg a0)),(I a1)]) (lc hd.1 (lc hd.2.1 l0)) zrk ((ze3 _ a0 a1).mono yab)) (ec r (fun fr1 u w' hb' hd r'=>zcO r' (c:=((boundsC [(D.zau a0 a1)])).toArray) (E:=148) (bs1 (congrArg (fun z=>(0,z)) hd.1) kz) (fun b w2 n2=>⟨n2.below,b,rfl,Nat.le_of_eq n2.eq.symm,n2.at_⟩)) ?_))))))))))));refine zbn r rfl (fun fr1 u w' hb' hd r'=>?_) ?_
  · obtain ⟨d0,d1,d2,d3,_⟩:=hd; obtain ⟨q2,hq2,_,hr2⟩:=d2; exact zaF r' (args:=[(aq (zpg a0)),(I (W ((D.zas a0)+(W (a1 * (W (1+a0.retire))))))),(.slice (some ⟨q2,0,none⟩) 1 1)]) (lc d0 (lc d1 (lc hq2 l0))) cl68 ((zbG _ a0 (W ((D.zas a0)+(W (a1 * (W (1+a0.retire)))))) ([(D.zau a0 a1)]) hr2 yal).mono yab)
  exact zaO
 intro fr u w4 hb hΦ hne r;obtain ⟨b5,g12,E5,H5⟩:=hΦ 12 ke;have l_b5:=ah H5;have r:=r.congr (sc (hΦ 13 ke) (sc g12 (sc (hΦ 11 ke) (sc (hΦ 10 ke) (sc (hΦ 9 ke) (sc (hΦ 8 ke) (sc (hΦ 7 ke) (sc (hΦ 6 ke) (sc (hΦ 5 ke) (sc (hΦ 4 ke) (sc (hΦ 3 ke) (sc (hΦ 2 ke) (sc (hΦ 1 ke) (sc (hΦ 0 ke) rfl))))))))))))));have Z4:=hb.size;have H1:=keep hb H1;obtain ⟨hB,zB⟩:=bon hb hB;refine kA (I (D.zal a0 (W ((D.zas a0)+(W (a1 * (W (1+a0.retire)))))) ([(D.zau a0 a1)]))) r rfl rfl fun r=>wn (ac ?_);refine zaH r rfl rfl ?_
 exact ⟨rfl,hB⟩
def D.zaM (a0:Plan) (a1:Int) (a2:Int):Int:=(D.zal a0 (IntKind.i64.wrap ((IntKind.i64.wrap ((IntKind.i64.wrap ((D.zas a0)+(IntKind.i64.wrap (a1 * (IntKind.i64.wrap (1+a0.retire))))))+1))+a2)) ([(D.zau a0 a1),(⟨a2,0,(IntKind.i64.wrap (a0.retire - 1))⟩:Bound)]))
theorem zcr (w0:World) 
    (a0:Plan) (a1:Int) (a2:Int) :
    Calls ar 195 #[aq (zpg a0),.int .i64 a1,.int .i64 a2] w0 (zpx (.int .i64 (D.zaM a0 a1 a2)) w0):=by
 refine kN Tryz.func195 rfl 29 rfl rfl fun fr r hB=>?_;refine wsr ?_
 refine kX 23 (aq (zpg a0)) r rfl rfl fun b1 w2 n3 r=>?_;obtain ⟨E1,Z2,H1,hB,zB⟩:=n3.all hB
 refine kA (I 0) r rfl rfl fun r=>wn (aa ?_);refine zaB 22 [.val (aq (zpg a0)),.val (aq (zpg a0)),.val (I (D.zas a0)),.val (I a1),.val (.pointer (some ⟨b1,2,none⟩)),.val (I a0.retire),.val (I (W (1+a0.retire))),.val (I (W (a1 * (W (1+a0.retire))))),.val (I (W ((D.zas a0)+(W (a1 * (W (1+a0.retire))))))),.val (I (W ((W ((D.zas a0)+(W (a1 * (W (1+a0.retire))))))+1))),.val (I a2),.val (I (W ((W ((W ((D.zas a0)+(W (a1 * (W (1+a0.retire))))))+1))+a2))),.val (aq (zpg a0)),.val (I a1),.val (aq (zpL (D.zau a0 a1))),.val (I a2),.val (.pointer (some ⟨b1,2,none⟩)),.val (I a0.retire),.val (I (W (a0.retire - 1))),.val (.agg (zpL (⟨a2,0,(W (a0.retire - 1))⟩:Bound)).toArray),.slice w2.heap.size (.cells ((boundsC [(D.zau a0 a1),(⟨a2,0,(W (a0.retire - 1))⟩:Bound)])).toArray 148 (0,0)) 2,.val (I (D.zal a0 (W ((W ((W ((D.zas a0)+(W (a1 * (W (1+a0.retire))))))+1))+a2)) ([(D.zau a0 a1),(⟨a2,0,(W (a0.retire - 1))⟩:Bound)])))] mixed r kz (kV (kV (kV (kV (kV (kV (kV (kV (kV (kV (kV (kV (kV (kV (kV (kV (kV (kV (kV (kV (zaI (Nat.le_refl _) (kV zat)))))))))))))))))))))) ?_ ?_
 ·
  refine ec r (fun _ u _ b d s=>zac s (cs:=(zpg a0)) (n:=6) rfl (keep b H1) ta23 rfl bz) (ec r (fun _ u _ b d s=>zac s (cs:=(zpg a0)) (n:=6) rfl (keep b H1) ta23 rfl bz) (ec r (fun fr1 u w' hb' hd r'=>zaF r' (args:=[(aq (zpg a0))]) (lc hd.1 l0) zrj ((zdS _ a0).mono yab)) (ec r (fun _ u _ b d s=>zar s rfl bz) (ec r (fun _ u _ b d s=>za3 s (b:=b1) (o:=0) rfl zjI bz) (ec r (fun _ u _ b d s=>za4 s d.1 (keep b H1) to3 rfl bz) (ec r (fun _ u _ b d s=>zpG s rfl d.1 rfl rfl bz) (ec r (fun _ u _ b d s=>zpG s d.1 d.2.1 rfl rfl bz) (ec r (fun _ u _ b d s=>zpG s d.1 d.2.1 rfl rfl bz) (ec r (fun _ u _ b d s=>zpG s d.1 rfl rfl rfl bz) (ec r (fun _ u _ b d s=>zar s rfl bz) (ec r (fun _ u _ b d s=>zpG s d.1 d.2.1 rfl rfl bz) (ec r (fun _ u _ b d s=>zac s (cs:=(zpg a0)) (n:=6) rfl (keep b H1) ta23 rfl bz) (ec r (fun _ u _ b d s=>zar s rfl bz) (ec r (fun fr1 u w' hb' hd r'=>zaF r' (args:=[(aq (zpg a0)),(I a1)]) (lc hd.1 (lc hd.2.1 l0)) zrk ((ze3 _ a0 a1).mono yab)) (ec r (fun _ u _ b d s=>zar s rfl bz) (ec r (fun _ u _ b d s=>za3 s (b:=b1) (o:=0) rfl zjI bz) (ec r (fun _ u _ b d s=>za4 s d.1 (keep b H1) to3 rfl bz) (ec r (fun _ u _ b d s=>zpG s d.1 rfl rfl rfl bz) (ec r (fun fr1 u w' hb' hd r'=>zgz r' (v:=(.agg (zpL (⟨a2,0,(W (a0.retire - 1))⟩:Bound)).toArray)) (bs3 (congrArg (fun z=>(0,z)) hd.1) (rfl) (congrArg (fun z=>(2,z)) hd.2.1) kz) bz) (ec r (fun fr1 u w' hb' hd r'=>zcO r' (c:=((boundsC [(D.zau a0 a1),(⟨a2,0,(W (a0.retire - 1))⟩:Bound)])).toArray) (E:=148) (bs2 (congrArg (fun z=>(0,z)) hd.1) (congrArg (fun z=>(1,z)) hd.2.1) kz) (fun b w2 n2=>⟨n2.below,b,rfl,Nat.le_of_eq n2.eq.symm,n2.at_⟩)) ?_))))))))))))))))))))
  refine zbn r rfl (fun fr1 u w' hb' hd r'=>?_) ?_
  · obtain ⟨d0,d1,d2,d3,_⟩:=hd; obtain ⟨q2,hq2,_,hr2⟩:=d2; exact zaF r' (args:=[(aq (zpg a0)),(I (W ((W ((W ((D.zas a0)+(W (a1 * (W (1+a0.retire))))))+1))+a2))),(.slice (some ⟨q2,0,none⟩) 2 2)]) (lc d0 (lc d1 (lc hq2 l0))) cl68 ((zbG _ a0 (W ((W ((W ((D.zas a0)+(W (a1 * (W (1+a0.retire))))))+1))+a2)) ([(D.zau a0 a1),(⟨a2,0,(W (a0.retire - 1))⟩:Bound)]) hr2 yal).mono yab)
  exact zaO
 intro fr u w4 hb hΦ hne r;obtain ⟨b5,g20,E5,H5⟩:=hΦ 20 ke;have l_b5:=ah H5;have r:=r.congr (sc (hΦ 21 ke) (sc g20 (sc (hΦ 19 ke) (sc (hΦ 18 ke) (sc (hΦ 17 ke) (sc (hΦ 16 ke) (sc (hΦ 15 ke) (sc (hΦ 14 ke) (sc (hΦ 13 ke) (sc (hΦ 12 ke) (sc (hΦ 11 ke) (sc (hΦ 10 ke) (sc (hΦ 9 ke) (sc (hΦ 8 ke) (sc (hΦ 7 ke) (sc (hΦ 6 ke) (sc (hΦ 5 ke) (sc (hΦ 4 ke) (sc (hΦ 3 ke) (sc (hΦ 2 ke) (sc (hΦ 1 ke) (sc (hΦ 0 ke) rfl))))))))))))))))))))));have Z4:=hb.size;have H1:=keep hb H1;obtain ⟨hB,zB⟩:=bon hb hB;refine kA (I (D.zal a0 (W ((W ((W ((D.zas a0)+(W (a1 * (W (1+a0.retire))))))+1))+a2)) ([(D.zau a0 a1),(⟨a2,0,(W (a0.retire - 1))⟩:Bound)]))) r rfl rfl fun r=>wn (ac ?_);refine zaH r rfl rfl ?_
 exact ⟨rfl,hB⟩
def D.zbr (a0:Plan) (a1:Int) (a2:Int):Int:=(D.zal a0 (IntKind.i64.wrap ((IntKind.i64.wrap ((D.za1 a0)+(IntKind.i64.wrap (a1 * 3))))+a2)) ([(D.zau a0 a1),(⟨a2,0,2⟩:Bound)]))
theorem zfk (w0:World) 
    (a0:Plan) (a1:Int) (a2:Int) :
    Calls ar 302 #[aq (zpg a0),.int .i64 a1,.int .i64 a2] w0 (zpx (.int .i64 (D.zbr a0 a1 a2)) w0):=by
 refine kN Tryz.func302 rfl 22 rfl rfl fun fr r hB=>?_;refine wsr ?_
 refine kX 23 (aq (zpg a0)) r rfl rfl fun b1 w2 n3 r=>?_;obtain ⟨E1,Z2,H1,hB,zB⟩:=n3.all hB
 refine kA (I 0) r rfl rfl fun r=>wn (aa ?_);refine zaB 15 [.val (aq (zpg a0)),.val (aq (zpg a0)),.val (I (D.za1 a0)),.val (I a1),.val (I (W (a1 * 3))),.val (I (W ((D.za1 a0)+(W (a1 * 3))))),.val (I a2),.val (I (W ((W ((D.za1 a0)+(W (a1 * 3))))+a2))),.val (aq (zpg a0)),.val (I a1),.val (aq (zpL (D.zau a0 a1))),.val (I a2),.val (aq (zpL (⟨a2,0,2⟩:Bound))),.slice w2.heap.size (.cells ((boundsC [(D.zau a0 a1),(⟨a2,0,2⟩:Bound)])).toArray 148 (0,0)) 2,.val (I (D.zal a0 (W ((W ((D.za1 a0)+(W (a1 * 3))))+a2)) ([(D.zau a0 a1),(⟨a2,0,2⟩:Bound)])))] mixed r kz (kV (kV (kV (kV (kV (kV (kV (kV (kV (kV (kV (kV (kV (zaI (Nat.le_refl _) (kV zat))))))))))))))) ?_ ?_
 ·
  refine ec r (fun _ u _ b d s=>zac s (cs:=(zpg a0)) (n:=6) rfl (keep b H1) ta23 rfl bz) (ec r (fun _ u _ b d s=>zac s (cs:=(zpg a0)) (n:=6) rfl (keep b H1) ta23 rfl bz) (ec r (fun fr1 u w' hb' hd r'=>zaF r' (args:=[(aq (zpg a0))]) (lc hd.1 l0) zrE ((zf8 _ a0).mono yab)) (ec r (fun _ u _ b d s=>zar s rfl bz) (ec r (fun _ u _ b d s=>zpG s d.1 rfl rfl rfl bz) (ec r (fun _ u _ b d s=>zpG s d.1 d.2.1 rfl rfl bz) (ec r (fun _ u _ b d s=>zar s rfl bz) (ec r (fun _ u _ b d s=>zpG s d.1 d.2.1 rfl rfl bz) (ec r (fun _ u _ b d s=>zac s (cs:=(zpg a0)) (n:=6) rfl (keep b H1) ta23 rfl bz) (ec r (fun _ u _ b d s=>zar s rfl bz) (ec r (fun fr1 u w' hb' hd r'=>zaF r' (args:=[(aq (zpg a0)),(I a1)]) (lc hd.1 (lc hd.2.1 l0)) zrk ((ze3 _ a0 a1).mono yab)) (ec r (fun _ u _ b d s=>zar s rfl bz) (ec r (fun fr1 u w' hb' hd r'=>zgz r' (v:=(aq (zpL (⟨a2,0,2⟩:Bound)))) (bs3 (congrArg (fun z=>(0,z)) hd.1) (rfl) (rfl) kz) bz) (ec r (fun fr1 u w' hb' hd r'=>zcO r' (c:=((boundsC [(D.zau a0 a1),(⟨a2,0,2⟩:Bound)])).toArray) (E:=148) (bs2 (congrArg (fun z=>(0,z)) hd.1) (congrArg (fun z=>(1,z)) hd.2.1) kz) (fun b w2 n2=>⟨n2.below,b,rfl,Nat.le_of_eq n2.eq.symm,n2.at_⟩)) ?_)))))))))))));refine zbn r rfl (fun fr1 u w' hb' hd r'=>?_) ?_
  · obtain ⟨d0,d1,d2,d3,_⟩:=hd; obtain ⟨q2,hq2,_,hr2⟩:=d2; exact zaF r' (args:=[(aq (zpg a0)),(I (W ((W ((D.za1 a0)+(W (a1 * 3))))+a2))),(.slice (some ⟨q2,0,none⟩) 2 2)]) (lc d0 (lc d1 (lc hq2 l0))) cl68 ((zbG _ a0 (W ((W ((D.za1 a0)+(W (a1 * 3))))+a2)) ([(D.zau a0 a1),(⟨a2,0,2⟩:Bound)]) hr2 yal).mono yab)
  exact zaO
 intro fr u w4 hb hΦ hne r;obtain ⟨b5,g13,E5,H5⟩:=hΦ 13 ke;have l_b5:=ah H5;have r:=r.congr (sc (hΦ 14 ke) (sc g13 (sc (hΦ 12 ke) (sc (hΦ 11 ke) (sc (hΦ 10 ke) (sc (hΦ 9 ke) (sc (hΦ 8 ke) (sc (hΦ 7 ke) (sc (hΦ 6 ke) (sc (hΦ 5 ke) (sc (hΦ 4 ke) (sc (hΦ 3 ke) (sc (hΦ 2 ke) (sc (hΦ 1 ke) (sc (hΦ 0 ke) rfl)))))))))))))));have Z4:=hb.size;have H1:=keep hb H1;obtain ⟨hB,zB⟩:=bon hb hB;refine kA (I (D.zal a0 (W ((W ((D.za1 a0)+(W (a1 * 3))))+a2)) ([(D.zau a0 a1),(⟨a2,0,2⟩:Bound)]))) r rfl rfl fun r=>wn (ac ?_);refine zaH r rfl rfl ?_
 exact ⟨rfl,hB⟩
def D.za8 (a0:Plan) (a1:Int) (a2:Int):Int:=(D.zal a0 (IntKind.i64.wrap ((IntKind.i64.wrap ((IntKind.i64.wrap ((D.za2 a0)+(IntKind.i64.wrap (a1 * 5))))+2))+a2)) ([(D.zaG a0 a1),(⟨a2,0,2⟩:Bound)]))
theorem zaY (w0:World) 
    (a0:Plan) (a1:Int) (a2:Int) :
    Calls ar 89 #[aq (zpg a0),.int .i64 a1,.int .i64 a2] w0 (zpx (.int .i64 (D.za8 a0 a1 a2)) w0):=by
 refine kN Tryz.func89 rfl 23 rfl rfl fun fr r hB=>?_;refine wsr ?_
 refine kX 23 (aq (zpg a0)) r rfl rfl fun b1 w2 n3 r=>?_;obtain ⟨E1,Z2,H1,hB,zB⟩:=n3.all hB
 refine kA (I 0) r rfl rfl fun r=>wn (aa ?_);refine zaB 16 [.val (aq (zpg a0)),.val (aq (zpg a0)),.val (I (D.za2 a0)),.val (I a1),.val (I (W (a1 * 5))),.val (I (W ((D.za2 a0)+(W (a1 * 5))))),.val (I (W ((W ((D.za2 a0)+(W (a1 * 5))))+2))),.val (I a2),.val (I (W ((W ((W ((D.za2 a0)+(W (a1 * 5))))+2))+a2))),.val (aq (zpg a0)),.val (I a1),.val (aq (zpL (D.zaG a0 a1))),.val (I a2),.val (aq (zpL (⟨a2,0,2⟩:Bound))),.slice w2.heap.size (.cells ((boundsC [(D.zaG a0 a1),(⟨a2,0,2⟩:Bound)])).toArray 148 (0,0)) 2,.val (I (D.zal a0 (W ((W ((W ((D.za2 a0)+(W (a1 * 5))))+2))+a2)) ([(D.zaG a0 a1),(⟨a2,0,2⟩:Bound)])))] mixed r kz (kV (kV (kV (kV (kV (kV (kV (kV (kV (kV (kV (kV (kV (kV (zaI (Nat.le_refl _) (kV zat)))))))))))))))) ?_ ?_
 ·
  refine ec r (fun _ u _ b d s=>zac s (cs:=(zpg a0)) (n:=6) rfl (keep b H1) ta23 rfl bz) (ec r (fun _ u _ b d s=>zac s (cs:=(zpg a0)) (n:=6) rfl (keep b H1) ta23 rfl bz) (ec r (fun fr1 u w' hb' hd r'=>zaF r' (args:=[(aq (zpg a0))]) (lc hd.1 l0) zqT ((zd7 _ a0).mono yab)) (ec r (fun _ u _ b d s=>zar s rfl bz) (ec r (fun _ u _ b d s=>zpG s d.1 rfl rfl rfl bz) (ec r (fun _ u _ b d s=>zpG s d.1 d.2.1 rfl rfl bz) (ec r (fun _ u _ b d s=>zpG s d.1 rfl rfl rfl bz) (ec r (fun _ u _ b d s=>zar s rfl bz) (ec r (fun _ u _ b d s=>zpG s d.1 d.2.1 rfl rfl bz) (ec r (fun _ u _ b d s=>zac s (cs:=(zpg a0)) (n:=6) rfl (keep b H1) ta23 rfl bz) (ec r (fun _ u _ b d s=>zar s rfl bz) (ec r (fun fr1 u w' hb' hd r'=>zaF r' (args:=[(aq (zpg a0)),(I a1)]) (lc hd.1 (lc hd.2.1 l0)) zro ((zeC _ a0 a1).mono yab)) (ec r (fun _ u _ b d s=>zar s rfl bz) (ec r (fun fr1 u w' hb' hd r'=>zgz r' (v:=(aq (zpL (⟨a2,0,2⟩:Bound)))) (bs3 (congrArg (fun z=>(0,z)) hd.1) (rfl) (rfl) kz) bz) (ec r (fun fr1 u w' hb' hd r'=>zcO r' (c:=((boundsC [(D.zaG a0 a1),(⟨a2,0,2⟩:Bound)])).toArray) (E:=148) (bs2 (congrArg (fun z=>(0,z)) hd.1) (congrArg (fun z=>(1,z)) hd.2.1) kz) (fun b w2 n2=>⟨n2.below,b,rfl,Nat.le_of_eq n2.eq.symm,n2.at_⟩)) ?_))))))))))))));refine zbn r rfl (fun fr1 u w' hb' hd r'=>?_) ?_
  · obtain ⟨d0,d1,d2,d3,_⟩:=hd; obtain ⟨q2,hq2,_,hr2⟩:=d2; exact zaF r' (args:=[(aq (zpg a0)),(I (W ((W ((W ((D.za2 a0)+(W (a1 * 5))))+2))+a2))),(.slice (some ⟨q2,0,none⟩) 2 2)]) (lc d0 (lc d1 (lc hq2 l0))) cl68 ((zbG _ a0 (W ((W ((W ((D.za2 a0)+(W (a1 * 5))))+2))+a2)) ([(D.zaG a0 a1),(⟨a2,0,2⟩:Bound)]) hr2 yal).mono yab)
  exact zaO
 intro fr u w4 hb hΦ hne r;obtain ⟨b5,g14,E5,H5⟩:=hΦ 14 ke;have l_b5:=ah H5;have r:=r.congr (sc (hΦ 15 ke) (sc g14 (sc (hΦ 13 ke) (sc (hΦ 12 ke) (sc (hΦ 11 ke) (sc (hΦ 10 ke) (sc (hΦ 9 ke) (sc (hΦ 8 ke) (sc (hΦ 7 ke) (sc (hΦ 6 ke) (sc (hΦ 5 ke) (sc (hΦ 4 ke) (sc (hΦ 3 ke) (sc (hΦ 2 ke) (sc (hΦ 1 ke) (sc (hΦ 0 ke) rfl))))))))))))))));have Z4:=hb.size;have H1:=keep hb H1;obtain ⟨hB,zB⟩:=bon hb hB;refine kA (I (D.zal a0 (W ((W ((W ((D.za2 a0)+(W (a1 * 5))))+2))+a2)) ([(D.zaG a0 a1),(⟨a2,0,2⟩:Bound)]))) r rfl rfl fun r=>wn (ac ?_);refine zaH r rfl rfl ?_
 exact ⟨rfl,hB⟩
def D.zf6 (a0:Plan):Bool:=(bif (decide (a0.nodes<1)) then false else (bif (decide (a0.nodes > 1048576)) then false else (bif (decide (a0.threads<1)) then false else (bif (decide (a0.threads > 16)) then false else (bif (decide (a0.domains<0)) then false else (bif (decide (a0.domains > 64)) then false else (bif (decide (a0.buckets≥1)) then (bif (decide (a0.buckets≤256)) then (bif (decide (a0.gen≥1)) then (bif (decide (a0.gen≤1073741823)) then (bif (decide (a0.retire > (IntKind.i64.wrap (3 * a0.threads)))) then (decide (a0.retire≤1024)) else false) else false) else false) else false) else false)))))))
theorem ziF:zpq ar 241 0 0:=kz
theorem zl9:zpq ar 241 1 1:=kz
def D.zae (a0:Field):Bool:=(bif (decide (a0.at_≥0)) then (bif (decide (a0.at_<64)) then (bif (decide (a0.bits≥1)) then (decide (a0.bits≤(IntKind.i64.wrap (64 - a0.at_)))) else false) else false) else false)
theorem zbS (w0:World) 
    (a0:Field) :
    Calls ar 285 #[aq (zpr a0)] w0 (zpx (.bool (D.zae a0)) w0):=by
 refine kN Tryz.func285 rfl 24 rfl rfl fun fr r hB=>?_;refine wsr ?_
 refine kX 241 (aq (zpr a0)) r rfl rfl fun b1 w2 n3 r=>?_;obtain ⟨eb1,zw2,hb1,hB,zB⟩:=n3.all hB
 refine kA (.bool false) r rfl rfl fun r=>wn (wsr (kF 0 r rfl ziF rfl fun r=>kL (I a0.at_) r rfl hb1 to3 rfl rfl fun r=>kB r rfl rfl rfl rfl rfl fun r=>kM (.bool (decide (a0.at_≥0))) r rfl rfl fun r=>?_));refine zaT (decide (a0.at_≥0)) (fun h4=>?_) (fun h4=>?_)
 ·
  refine s1 r h4 (kF 0 r rfl ziF rfl fun r=>s1 r h4 (kL (I a0.at_) r rfl hb1 to3 rfl rfl fun r=>s1 r h4 (kB r rfl rfl rfl rfl rfl fun r=>za0 (.bool (decide (a0.at_<64))) r (fun R=>zay r (b:=true) (kb h4) rfl) rfl fun fr r=>kM (.bool (decide (a0.at_<64))) r rfl rfl fun r=>?_)));refine zaT (decide (a0.at_<64)) (fun h5=>?_) (fun h5=>?_)
  ·
   refine s1 r h5 (kF 0 r rfl zl9 rfl fun r=>s1 r h5 (kL (I a0.bits) r rfl hb1 to3 rfl rfl fun r=>s1 r h5 (kB r rfl rfl rfl rfl rfl fun r=>za0 (.bool (decide (a0.bits≥1))) r (fun R=>zay r (b:=true) (kb h5) rfl) rfl fun fr r=>kM (.bool (decide (a0.bits≥1))) r rfl rfl fun r=>?_)));refine zaT (decide (a0.bits≥1)) (fun h6=>?_) (fun h6=>?_)
   ·
    refine s1 r h6 (kF 0 r rfl zl9 rfl fun r=>s1 r h6 (kL (I a0.bits) r rfl hb1 to3 rfl rfl fun r=>s1 r h6 (kF 0 r rfl ziF rfl fun r=>s1 r h6 (kL (I a0.at_) r rfl hb1 to3 rfl rfl fun r=>s1 r h6 (kB r rfl rfl rfl rfl rfl fun r=>s1 r h6 (kB r rfl rfl rfl rfl rfl fun r=>za0 (.bool (decide (a0.bits≤(W (64 - a0.at_))))) r (fun R=>zay r (b:=true) (kb h6) rfl) rfl fun fr r=>kA (.bool (decide (a0.bits≤(W (64 - a0.at_))))) r rfl rfl fun r=>wn (ac ?_)))))));have hd:D.zae a0=(decide (a0.bits≤(W (64 - a0.at_)))):=(zao h4).trans ((zao h5).trans ((zao h6).trans (rfl)))
    refine zaH r rfl rfl ?_;rw [hd];exact ⟨rfl,hB⟩
   refine s0 r h6 fun fr r=>s0 r h6 fun fr r=>s0 r h6 fun fr r=>s0 r h6 fun fr r=>s0 r h6 fun fr r=>s0 r h6 fun fr r=>za0 (.bool false) r (fun R=>zay r (b:=false) (kb h6) rfl) rfl fun fr r=>kA (.bool false) r rfl rfl fun r=>wn (ac ?_);have hd:D.zae a0=false:=(zao h4).trans ((zao h5).trans ((zaq h6).trans (rfl)))
   refine zaH r rfl rfl ?_;rw [hd];exact ⟨rfl,hB⟩
  refine s0 r h5 fun fr r=>s0 r h5 fun fr r=>s0 r h5 fun fr r=>za0 (.bool false) r (fun R=>zay r (b:=false) (kb h5) rfl) rfl fun fr r=>kM (.bool false) r rfl rfl fun r=>s0 r (rfl:false=_) fun fr r=>s0 r (rfl:false=_) fun fr r=>s0 r (rfl:false=_) fun fr r=>s0 r (rfl:false=_) fun fr r=>s0 r (rfl:false=_) fun fr r=>s0 r (rfl:false=_) fun fr r=>za0 (.bool false) r (fun R=>zay r (b:=false) (kb (rfl:false=_)) rfl) rfl fun fr r=>kA (.bool false) r rfl rfl fun r=>wn (ac ?_);have hd:D.zae a0=false:=(zao h4).trans ((zaq h5).trans (rfl))
  refine zaH r rfl rfl ?_;rw [hd];exact ⟨rfl,hB⟩
 refine s0 r h4 fun fr r=>s0 r h4 fun fr r=>s0 r h4 fun fr r=>za0 (.bool false) r (fun R=>zay r (b:=false) (kb h4) rfl) rfl fun fr r=>kM (.bool false) r rfl rfl fun r=>s0 r (rfl:false=_) fun fr r=>s0 r (rfl:false=_) fun fr r=>s0 r (rfl:false=_) fun fr r=>za0 (.bool false) r (fun R=>zay r (b:=false) (kb (rfl:false=_)) rfl) rfl fun fr r=>kM (.bool false) r rfl rfl fun r=>s0 r (rfl:false=_) fun fr r=>s0 r (rfl:false=_) fun fr r=>s0 r (rfl:false=_) fun fr r=>s0 r (rfl:false=_) fun fr r=>s0 r (rfl:false=_) fun fr r=>s0 r (rfl:false=_) fun fr r=>za0 (.bool false) r (fun R=>zay r (b:=false) (kb (rfl:false=_)) rfl) rfl fun fr r=>kA (.bool false) r rfl rfl fun r=>wn (ac ?_);have hd:D.zae a0=false:=(zaq h4).trans (rfl)
 refine zaH r rfl rfl ?_;rw [hd];exact ⟨rfl,hB⟩
theorem zff {f:Field} (h:D.zae f=true):0≤f.at_∧f.at_<64∧1≤f.bits∧f.bits≤64 - f.at_:=by
 unfold D.zae at h
 have hw:∀ x:Int,0≤x→x<64→IntKind.i64.wrap (64 - x)=64 - x:=by
  intro x h0 h1;simp only [IntKind.wrap];simp [IntKind.signed,IntKind.bits];omega
 cases h1:decide (f.at_≥0) <;> rw [h1] at h
 ·cases h
 cases h2:decide (f.at_<64) <;> rw [h2] at h
 ·cases h
 cases h3:decide (f.bits≥1) <;> rw [h3] at h
 ·cases h
 simp only [decide_eq_true_eq] at h1 h2 h3
 simp only [cond_true,decide_eq_true_eq] at h
 rw [hw _ h1 h2] at h
 omega
theorem zqK:zpf ar 285:=kz
theorem zqR:zpf ar 286:=kz
theorem zr0:zpf ar 289:=kz
theorem zq3:tyA ar 241 2:=kz
def D.zah (a0:Field):Int:=(bif (!(D.zae a0)) then 0 else (bif (a0.bits==64) then 18446744073709551615 else (IntKind.u64.wrap ((shlI .u64 1 a0.bits) - 1))))
theorem zcK (w0:World) 
    (a0:Field) :
    Calls ar 286 #[aq (zpr a0)] w0 (zpx (.int .u64 (D.zah a0)) w0):=by
 refine kN Tryz.func286 rfl 15 rfl rfl fun fr r hB=>?_;refine wsr ?_
 refine kX 241 (aq (zpr a0)) r rfl rfl fun b1 w2 n3 r=>?_;obtain ⟨E1,Z2,H1,hB,zB⟩:=n3.all hB
 refine kA (U 0) r rfl rfl fun r=>wn (aa (wp_block (wsr (kG (zpr a0) 2 r rfl H1 zq3 rfl rfl fun r=>?_))));refine kE r (zbS w2 a0) rfl zqK rfl fun w4 hb r=>?_
 have Z4:=hb.size;have H1:=keep hb H1;obtain ⟨hB,zB⟩:=bon hb hB;refine za0 (.bool (!(D.zae a0))) r (fun R=>y_un r (u:=(.bool (D.zae a0))) rfl rfl) rfl fun fr r=>kA (.bool (!(D.zae a0))) r rfl rfl fun r=>wn ?_;refine ae (t:=(!(D.zae a0))) (r.ev rfl) (fun h5=>?_) (fun h5=>?_)
 ·
  refine wsr (kA (U 0) r rfl rfl fun r=>wn (ac ?_));have hd:D.zah a0=0:=(zao h5).trans (rfl)
  refine zaH r rfl rfl ?_;rw [hd];exact ⟨rfl,hB⟩
 refine wsr (kF 0 r rfl zl9 rfl fun r=>kL (I a0.bits) r rfl H1 to3 rfl rfl fun r=>kB r rfl rfl rfl rfl rfl fun r=>kA (.bool (a0.bits==64)) r rfl rfl fun r=>wn ?_);refine ae (t:=(a0.bits==64)) (r.ev rfl) (fun h6=>?_) (fun h6=>?_)
 ·
  refine wsr (kA (U 18446744073709551615) r rfl rfl fun r=>wn (ac ?_));have hd:D.zah a0=18446744073709551615:=(zaq h5).trans ((zao h6).trans (rfl))
  refine zaH r rfl rfl ?_;rw [hd];exact ⟨rfl,hB⟩
 refine ag (wsr (kF 0 r rfl zl9 rfl fun r=>kL (I a0.bits) r rfl H1 to3 rfl rfl fun r=>kB r rfl rfl rfl (zky yaq) rfl fun r=>kB r rfl rfl rfl rfl rfl fun r=>kA (U (V ((shlI .u64 1 a0.bits) - 1))) r rfl rfl fun r=>wn (ac ?_)));have hd:D.zah a0=(V ((shlI .u64 1 a0.bits) - 1)):=(zaq h5).trans ((zaq h6).trans (rfl))
 refine zaH r rfl rfl ?_;rw [hd];exact ⟨rfl,hB⟩
def D.zad (a0:Field) (a1:Int):Int:=(bif (!(D.zae a0)) then 0 else (zbb .u64 (shrI .u64 a1 a0.at_) (D.zah a0)))
theorem zd4 (w0:World) 
    (a0:Field) (a1:Int) :
    Calls ar 191 #[aq (zpr a0),.int .u64 a1] w0 (zpx (.int .u64 (D.zad a0 a1)) w0):=by
 refine kN Tryz.func191 rfl 15 rfl rfl fun fr r hB=>?_;refine wsr ?_
 refine kX 241 (aq (zpr a0)) r rfl rfl fun b1 w2 n3 r=>?_;obtain ⟨E1,Z2,H1,hB,zB⟩:=n3.all hB
 refine kA (U 0) r rfl rfl fun r=>wn (aa (wsr (kG (zpr a0) 2 r rfl H1 zq3 rfl rfl fun r=>?_)));refine kE r (zbS w2 a0) rfl zqK rfl fun w4 hb r=>?_
 have Z4:=hb.size;have H1:=keep hb H1;obtain ⟨hB,zB⟩:=bon hb hB;refine za0 (.bool (!(D.zae a0))) r (fun R=>y_un r (u:=(.bool (D.zae a0))) rfl rfl) rfl fun fr r=>wn ?_;refine ae (t:=(!(D.zae a0))) (r.ev rfl) (fun h5=>?_) (fun h5=>?_)
 ·
  refine wsr (kA (U 0) r rfl rfl fun r=>wn (ac ?_));have hd:D.zad a0 a1=0:=(zao h5).trans (rfl)
  refine zaH r rfl rfl ?_;rw [hd];exact ⟨rfl,hB⟩
 refine ag (aa ?_);refine zaB 7 [.val (U a1),.val (zp b1),.val (I a0.at_),.val (U (shrI .u64 a1 a0.at_)),.val (aq (zpr a0)),.val (U (D.zah a0)),.val (U (zbb .u64 (shrI .u64 a1 a0.at_) (D.zah a0)))] mixed r kz (kV (kV (kV (kV (kV (kV (kV zat))))))) ?_ ?_
 ·
  refine ec r (fun _ u _ b d s=>zar s rfl bz) (ec r (fun _ u _ b d s=>za3 s (b:=b1) (o:=0) rfl ziF bz) (ec r (fun _ u _ b d s=>za4 s d.1 (keep b H1) to3 rfl bz) (ec r (fun _ u _ b d s=>zpG s d.1 d.2.1 rfl (zlS yaq) bz) (ec r (fun _ u _ b d s=>zac s (cs:=(zpr a0)) (n:=2) rfl (keep b H1) zq3 rfl bz) (ec r (fun fr1 u w' hb' hd r'=>zaF r' (args:=[(aq (zpr a0))]) (lc hd.1 l0) zqR ((zcK _ a0).mono yab)) (ec r (fun _ u _ b d s=>zpG s d.1 d.2.1 rfl rfl bz) ?_))))));exact zaO
 intro fr u w6 hb hΦ hne r;have r:=r.congr (sc (hΦ 6 ke) (sc (hΦ 5 ke) (sc (hΦ 4 ke) (sc (hΦ 3 ke) (sc (hΦ 2 ke) (sc (hΦ 1 ke) (sc (hΦ 0 ke) rfl)))))));have Z6:=hb.size;have H1:=keep hb H1;obtain ⟨hB,zB⟩:=bon hb hB;refine kA (U (zbb .u64 (shrI .u64 a1 a0.at_) (D.zah a0))) r rfl rfl fun r=>wn (ac ?_);have hd:D.zad a0 a1=(zbb .u64 (shrI .u64 a1 a0.at_) (D.zah a0)):=(zaq h5).trans (rfl)
 refine zaH r rfl rfl ?_;rw [hd];exact ⟨rfl,hB⟩
def D.zam (a0:Field):Int:=(bif (!(D.zae a0)) then 0 else (shlI .u64 (D.zah a0) a0.at_))
theorem zcN (w0:World) 
    (a0:Field) :
    Calls ar 289 #[aq (zpr a0)] w0 (zpx (.int .u64 (D.zam a0)) w0):=by
 refine kN Tryz.func289 rfl 11 rfl rfl fun fr r hB=>?_;refine wsr ?_
 refine kX 241 (aq (zpr a0)) r rfl rfl fun b1 w2 n3 r=>?_;obtain ⟨E1,Z2,H1,hB,zB⟩:=n3.all hB
 refine kA (U 0) r rfl rfl fun r=>wn (aa (wsr (kG (zpr a0) 2 r rfl H1 zq3 rfl rfl fun r=>?_)));refine kE r (zbS w2 a0) rfl zqK rfl fun w4 hb r=>?_
 have Z4:=hb.size;have H1:=keep hb H1;obtain ⟨hB,zB⟩:=bon hb hB;refine za0 (.bool (!(D.zae a0))) r (fun R=>y_un r (u:=(.bool (D.zae a0))) rfl rfl) rfl fun fr r=>wn ?_;refine ae (t:=(!(D.zae a0))) (r.ev rfl) (fun h5=>?_) (fun h5=>?_)
 ·
  refine wsr (kA (U 0) r rfl rfl fun r=>wn (ac ?_));have hd:D.zam a0=0:=(zao h5).trans (rfl)
  refine zaH r rfl rfl ?_;rw [hd];exact ⟨rfl,hB⟩
 refine ag (aa ?_);refine zaB 5 [.val (aq (zpr a0)),.val (U (D.zah a0)),.val (zp b1),.val (I a0.at_),.val (U (shlI .u64 (D.zah a0) a0.at_))] mixed r kz (kV (kV (kV (kV (kV zat))))) ?_ ?_
 ·
  refine ec r (fun _ u _ b d s=>zac s (cs:=(zpr a0)) (n:=2) rfl (keep b H1) zq3 rfl bz) (ec r (fun fr1 u w' hb' hd r'=>zaF r' (args:=[(aq (zpr a0))]) (lc hd.1 l0) zqR ((zcK _ a0).mono yab)) (ec r (fun _ u _ b d s=>za3 s (b:=b1) (o:=0) rfl ziF bz) (ec r (fun _ u _ b d s=>za4 s d.1 (keep b H1) to3 rfl bz) (ec r (fun _ u _ b d s=>zpG s d.1 d.2.1 rfl (zky yaq) bz) ?_))));exact zaO
 intro fr u w6 hb hΦ hne r;have r:=r.congr (sc (hΦ 4 ke) (sc (hΦ 3 ke) (sc (hΦ 2 ke) (sc (hΦ 1 ke) (sc (hΦ 0 ke) rfl)))));have Z6:=hb.size;have H1:=keep hb H1;obtain ⟨hB,zB⟩:=bon hb hB;refine kA (U (shlI .u64 (D.zah a0) a0.at_)) r rfl rfl fun r=>wn (ac ?_);have hd:D.zam a0=(shlI .u64 (D.zah a0) a0.at_):=(zaq h5).trans (rfl)
 refine zaH r rfl rfl ?_;rw [hd];exact ⟨rfl,hB⟩
def D.zaA (a0:Field) (a1:Int) (a2:Int):Int:=(bif (!(D.zae a0)) then a1 else (zdf .u64 (zaP .u64 a1 (D.zam a0)) (shlI .u64 (zbb .u64 a2 (D.zah a0)) a0.at_)))
theorem zei (w0:World) 
    (a0:Field) (a1:Int) (a2:Int) :
    Calls ar 296 #[aq (zpr a0),.int .u64 a1,.int .u64 a2] w0 (zpx (.int .u64 (D.zaA a0 a1 a2)) w0):=by
 refine kN Tryz.func296 rfl 23 rfl rfl fun fr r hB=>?_;refine wsr ?_
 refine kX 241 (aq (zpr a0)) r rfl rfl fun b1 w2 n3 r=>?_;obtain ⟨E1,Z2,H1,hB,zB⟩:=n3.all hB
 refine kA (U 0) r rfl rfl fun r=>wn (aa (wsr (kG (zpr a0) 2 r rfl H1 zq3 rfl rfl fun r=>?_)));refine kE r (zbS w2 a0) rfl zqK rfl fun w4 hb r=>?_
 have Z4:=hb.size;have H1:=keep hb H1;obtain ⟨hB,zB⟩:=bon hb hB;refine za0 (.bool (!(D.zae a0))) r (fun R=>y_un r (u:=(.bool (D.zae a0))) rfl rfl) rfl fun fr r=>wn ?_;refine ae (t:=(!(D.zae a0))) (r.ev rfl) (fun h5=>?_) (fun h5=>?_)
 ·
  refine wsr (kM (U a1) r rfl rfl fun r=>kA (U a1) r rfl rfl fun r=>wn (ac ?_));have hd:D.zaA a0 a1 a2=a1:=(zao h5).trans (rfl)
  refine zaH r rfl rfl ?_;rw [hd];exact ⟨rfl,hB⟩
 refine ag (aa ?_);refine zaB 12 [.val (U a1),.val (aq (zpr a0)),.val (U (D.zam a0)),.val (U (zaP .u64 a1 (D.zam a0))),.val (U a2),.val (aq (zpr a0)),.val (U (D.zah a0)),.val (U (zbb .u64 a2 (D.zah a0))),.val (zp b1),.val (I a0.at_),.val (U (shlI .u64 (zbb .u64 a2 (D.zah a0)) a0.at_)),.val (U (zdf .u64 (zaP .u64 a1 (D.zam a0)) (shlI .u64 (zbb .u64 a2 (D.zah a0)) a0.at_)))] mixed r kz (kV (kV (kV (kV (kV (kV (kV (kV (kV (kV (kV (kV zat)))))))))))) ?_ ?_
 ·
  refine ec r (fun _ u _ b d s=>zar s rfl bz) (ec r (fun _ u _ b d s=>zac s (cs:=(zpr a0)) (n:=2) rfl (keep b H1) zq3 rfl bz) (ec r (fun fr1 u w' hb' hd r'=>zaF r' (args:=[(aq (zpr a0))]) (lc hd.1 l0) zr0 ((zcN _ a0).mono yab)) (ec r (fun _ u _ b d s=>zpG s d.1 d.2.1 rfl rfl bz) (ec r (fun _ u _ b d s=>zar s rfl bz) (ec r (fun _ u _ b d s=>zac s (cs:=(zpr a0)) (n:=2) rfl (keep b H1) zq3 rfl bz) (ec r (fun fr1 u w' hb' hd r'=>zaF r' (args:=[(aq (zpr a0))]) (lc hd.1 l0) zqR ((zcK _ a0).mono yab)) (ec r (fun _ u _ b d s=>zpG s d.1 d.2.1 rfl rfl bz) (ec r (fun _ u _ b d s=>za3 s (b:=b1) (o:=0) rfl ziF bz) (ec r (fun _ u _ b d s=>za4 s d.1 (keep b H1) to3 rfl bz) (ec r (fun _ u _ b d s=>zpG s d.1 d.2.1 rfl (zky yaq) bz) (ec r (fun _ u _ b d s=>zpG s d.1 d.2.1 rfl rfl bz) ?_)))))))))));exact zaO
 intro fr u w6 hb hΦ hne r;have r:=r.congr (sc (hΦ 11 ke) (sc (hΦ 10 ke) (sc (hΦ 9 ke) (sc (hΦ 8 ke) (sc (hΦ 7 ke) (sc (hΦ 6 ke) (sc (hΦ 5 ke) (sc (hΦ 4 ke) (sc (hΦ 3 ke) (sc (hΦ 2 ke) (sc (hΦ 1 ke) (sc (hΦ 0 ke) rfl))))))))))));have Z6:=hb.size;have H1:=keep hb H1;obtain ⟨hB,zB⟩:=bon hb hB;refine kA (U (zdf .u64 (zaP .u64 a1 (D.zam a0)) (shlI .u64 (zbb .u64 a2 (D.zah a0)) a0.at_))) r rfl rfl fun r=>wn (ac ?_);have hd:D.zaA a0 a1 a2=(zdf .u64 (zaP .u64 a1 (D.zam a0)) (shlI .u64 (zbb .u64 a2 (D.zah a0)) a0.at_)):=(zaq h5).trans (rfl)
 refine zaH r rfl rfl ?_;rw [hd];exact ⟨rfl,hB⟩
end Go.Proofs.YtbbipmelhmgmfaaGreat

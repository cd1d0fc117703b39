/- Ours. -/
import Derived.Test.YtikjpdpgdmbdpaaGreatLnWithin
import Derived.Test.YtikjpdpgdmbdpaaGreatRows
set_option linter.all false
set_option maxRecDepth 20000
set_option maxHeartbeats 2000000
namespace Go.Proofs.YtikjpdpgdmbdpaaGreat
open Go.RowKit
theorem zqI:zpd Tryz.prog 138:=kz
theorem zra:zpd Tryz.prog 139:=kz
theorem zrs:zpd Tryz.prog 146:=kz
theorem zr9:zpd Tryz.prog 147:=kz
theorem zqZ:zpd Tryz.prog 152:=kz
theorem zqN:zpd Tryz.prog 178:=kz
theorem zrk:zpd Tryz.prog 235:=kz
theorem cl77:zpd Tryz.prog 77:=kz
theorem cl94:zpd Tryz.prog 94:=kz
theorem cl95:zpd Tryz.prog 95:=kz
theorem cl96:zpd Tryz.prog 96:=kz
theorem zeQ:zpm Tryz.prog 23 0 0:=kz
theorem zid:zpm Tryz.prog 23 1 1:=kz
theorem zhc:zpm Tryz.prog 23 2 2:=kz
theorem zjN:zpm Tryz.prog 23 3 3:=kz
theorem zlJ:zpm Tryz.prog 23 4 4:=kz
theorem zmL:zpm Tryz.prog 23 5 5:=kz
theorem mixed:Tryz.prog.follows .mixedOrders=true:=kz
theorem zre:tyA Tryz.prog 182 3:=kz
theorem ta23:tyA Tryz.prog 23 6:=kz
theorem to3:tyO Tryz.prog 3:=kz
theorem zrl:sized Tryz.prog 182 3:=kz
theorem zrb:zeroOf Tryz.prog 182=some (.agg (zpG (⟨0,0,0⟩:Bound)).toArray):=kz
def D.zaP (a0:Plan):Bool:=(bif (D.zaQ ([(⟨a0.nodes,1,1048576⟩:Bound),(⟨a0.threads,1,16⟩:Bound),(⟨a0.domains,0,64⟩:Bound),(⟨a0.buckets,1,256⟩:Bound),(⟨a0.gen,1,1073741823⟩:Bound)])) then (D.zaQ ([(⟨a0.retire,(IntKind.i64.wrap ((IntKind.i64.wrap (3 * a0.threads))+1)),1024⟩:Bound)])) else false)
theorem ze9 (w0:World) 
    (a0:Plan) :
    Calls Tryz.prog 152 #[.agg (zpe a0).toArray] w0 (zpt (.bool (D.zaP a0)) w0):=by
 refine kN Tryz.func152 rfl 31 rfl rfl fun fr r hB=>?_;refine wsr ?_
 refine kX 23 (.agg (zpe a0).toArray) r rfl rfl fun b1 w2 n3 r=>?_;obtain ⟨E1,Z2,H1,hB,zB⟩:=n3.all hB
 refine kA (.bool false) r rfl rfl fun r=>wn (wsr (kF 0 r rfl zeQ rfl fun r=>kL (I a0.nodes) r rfl H1 to3 rfl rfl fun r=>kU (.agg (zpG (⟨a0.nodes,1,1048576⟩:Bound)).toArray) r kz rfl fun r=>kF 0 r rfl zid rfl fun r=>kL (I a0.threads) r rfl H1 to3 rfl rfl fun r=>kU (.agg (zpG (⟨a0.threads,1,16⟩:Bound)).toArray) r kz rfl fun r=>kF 0 r rfl zjN rfl fun r=>kL (I a0.domains) r rfl H1 to3 rfl rfl fun r=>kU (.agg (zpG (⟨a0.domains,0,64⟩:Bound)).toArray) r kz rfl fun r=>kF 0 r rfl zlJ rfl fun r=>kL (I a0.buckets) r rfl H1 to3 rfl rfl fun r=>kU (.agg (zpG (⟨a0.buckets,1,256⟩:Bound)).toArray) r kz rfl fun r=>kF 0 r rfl zmL rfl fun r=>kL (I a0.gen) r rfl H1 to3 rfl rfl fun r=>kU (.agg (zpG (⟨a0.gen,1,1073741823⟩:Bound)).toArray) r kz rfl fun r=>?_));refine zhp (.cells ((boundsC [(⟨a0.nodes,1,1048576⟩:Bound),(⟨a0.threads,1,16⟩:Bound),(⟨a0.domains,0,64⟩:Bound),(⟨a0.buckets,1,256⟩:Bound),(⟨a0.gen,1,1073741823⟩:Bound)])).toArray 182 (0,0)) 5 r (fun R=>zcp r kz) rfl fun fr b4 w5 n6 r=>?_
 have H1:=keep n6.below H1;obtain ⟨E4,Z5,H4,hB,zB⟩:=n6.all hB;refine kE r (zg4 w5 ([(⟨a0.nodes,1,1048576⟩:Bound),(⟨a0.threads,1,16⟩:Bound),(⟨a0.domains,0,64⟩:Bound),(⟨a0.buckets,1,256⟩:Bound),(⟨a0.gen,1,1073741823⟩:Bound)]) H4 (by first | assumption | decide | (simp; done))) rfl zqN rfl fun w7 hb r=>?_
 have Z7:=hb.size;have H1:=keep hb H1;have H4:=keep hb H4;obtain ⟨hB,zB⟩:=bon hb hB;refine kM (.bool (D.zaQ ([(⟨a0.nodes,1,1048576⟩:Bound),(⟨a0.threads,1,16⟩:Bound),(⟨a0.domains,0,64⟩:Bound),(⟨a0.buckets,1,256⟩:Bound),(⟨a0.gen,1,1073741823⟩:Bound)]))) r rfl rfl fun r=>?_;refine zaD (D.zaQ ([(⟨a0.nodes,1,1048576⟩:Bound),(⟨a0.threads,1,16⟩:Bound),(⟨a0.domains,0,64⟩:Bound),(⟨a0.buckets,1,256⟩:Bound),(⟨a0.gen,1,1073741823⟩:Bound)])) (fun h8=>?_) (fun h8=>?_)
 ·
  refine s1 r h8 (kF 0 r rfl zhc rfl fun r=>s1 r h8 (kL (I a0.retire) r rfl H1 to3 rfl rfl fun r=>s1 r h8 (kF 0 r rfl zid rfl fun r=>s1 r h8 (kL (I a0.threads) r rfl H1 to3 rfl rfl fun r=>s1 r h8 (kB r rfl rfl rfl rfl rfl fun r=>s1 r h8 (kB r rfl rfl rfl rfl rfl fun r=>s1 r h8 (kU (.agg (zpG (⟨a0.retire,(W ((W (3 * a0.threads))+1)),1024⟩:Bound)).toArray) r kz rfl fun r=>s1 r h8 ?_)))))));refine zhp (.cells ((boundsC [(⟨a0.retire,(W ((W (3 * a0.threads))+1)),1024⟩:Bound)])).toArray 182 (0,0)) 1 r (fun R=>zcp r kz) rfl fun fr b9 w10 n11 r=>?_
  have H1:=keep n11.below H1;have H4:=keep n11.below H4;obtain ⟨E9,Z10,H9,hB,zB⟩:=n11.all hB;refine s1 r h8 ?_;refine kE r (zg4 w10 ([(⟨a0.retire,(W ((W (3 * a0.threads))+1)),1024⟩:Bound)]) H9 (by first | assumption | decide | (simp; done))) rfl zqN rfl fun w12 hb r=>?_
  have Z12:=hb.size;have H1:=keep hb H1;have H4:=keep hb H4;have H9:=keep hb H9;obtain ⟨hB,zB⟩:=bon hb hB;refine za0 (.bool (D.zaQ ([(⟨a0.retire,(W ((W (3 * a0.threads))+1)),1024⟩:Bound)]))) r (fun R=>zam r (b:=true) (congrArg Value.bool h8) rfl) rfl fun fr r=>kA (.bool (D.zaQ ([(⟨a0.retire,(W ((W (3 * a0.threads))+1)),1024⟩:Bound)]))) r rfl rfl fun r=>wn (wp_ret ?_);have hd:D.zaP a0=(D.zaQ ([(⟨a0.retire,(W ((W (3 * a0.threads))+1)),1024⟩:Bound)])):=(zal h8).trans (rfl)
  refine zay r rfl rfl ?_;rw [hd];exact ⟨rfl,hB⟩
 refine s0 r h8 fun fr r=>s0 r h8 fun fr r=>s0 r h8 fun fr r=>s0 r h8 fun fr r=>s0 r h8 fun fr r=>s0 r h8 fun fr r=>s0 r h8 fun fr r=>s0 r h8 fun fr r=>s0 r h8 fun fr r=>za0 (.bool false) r (fun R=>zam r (b:=false) (congrArg Value.bool h8) rfl) rfl fun fr r=>kA (.bool false) r rfl rfl fun r=>wn (wp_ret ?_);have hd:D.zaP a0=false:=(zaf h8).trans (rfl)
 refine zay r rfl rfl ?_;rw [hd];exact ⟨rfl,hB⟩
def D.zah (a0:Plan):Int:=(maxI 2 a0.buckets)
theorem zen (w0:World) 
    (a0:Plan) :
    Calls Tryz.prog 95 #[.agg (zpe a0).toArray] w0 (zpt (.int .i64 (D.zah a0)) w0):=by
 refine kN Tryz.func95 rfl 6 rfl rfl fun fr r hB=>?_;refine wsr ?_
 refine kX 23 (.agg (zpe a0).toArray) r rfl rfl fun b1 w2 n3 r=>?_;obtain ⟨E1,Z2,H1,hB,zB⟩:=n3.all hB
 refine kA (I 0) r rfl rfl fun r=>wn (wsr (kF 0 r rfl zlJ rfl fun r=>kL (I a0.buckets) r rfl H1 to3 rfl rfl fun r=>za0 (I (maxI 2 a0.buckets)) r (fun R=>zsc r (m:=2) (n:=a0.buckets) rfl rfl) rfl fun fr r=>kA (I (maxI 2 a0.buckets)) r rfl rfl fun r=>wn (wp_ret ?_)));refine zay r rfl rfl ?_
 exact ⟨rfl,hB⟩
def D.za1 (a0:Plan):Int:=(IntKind.i64.wrap (1+(IntKind.i64.wrap (a0.domains * (IntKind.i64.wrap (1+(D.zah a0)))))))
theorem zfe (w0:World) 
    (a0:Plan) :
    Calls Tryz.prog 146 #[.agg (zpe a0).toArray] w0 (zpt (.int .i64 (D.za1 a0)) w0):=by
 refine kN Tryz.func146 rfl 10 rfl rfl fun fr r hB=>?_;refine wsr ?_
 refine kX 23 (.agg (zpe a0).toArray) r rfl rfl fun b1 w2 n3 r=>?_;obtain ⟨E1,Z2,H1,hB,zB⟩:=n3.all hB
 refine kA (I 0) r rfl rfl fun r=>wn (wp_seq ?_);refine zaM 7 [.val (.pointer (some ⟨b1,3,none⟩)),.val (I a0.domains),.val (.agg (zpe a0).toArray),.val (I (D.zah a0)),.val (I (W (1+(D.zah a0)))),.val (I (W (a0.domains * (W (1+(D.zah a0)))))),.val (I (W (1+(W (a0.domains * (W (1+(D.zah a0))))))))] mixed r kz (kV (kV (kV (kV (kV (kV (kV zaB))))))) ?_ ?_
 ·
  refine ec r (fun _ u _ b d s=>za3 s (b:=b1) (o:=0) rfl zjN bz) (ec r (fun _ u _ b d s=>za4 s d.1 (keep b H1) to3 rfl bz) (ec r (fun _ u _ b d s=>zag s (cs:=(zpe a0)) (n:=6) rfl (keep b H1) ta23 rfl bz) (ec r (fun fr1 u w' hb' hd r'=>zaC r' (args:=[(.agg (zpe a0).toArray)]) (lc hd.1 l0) cl95 ((zen _ a0).mono (by rintro _ w2 ⟨rfl,hb2⟩; exact ⟨_,rfl,hb2,rfl⟩))) (ec r (fun _ u _ b d s=>zpB s rfl d.1 rfl rfl bz) (ec r (fun _ u _ b d s=>zpB s d.1 d.2.1 rfl rfl bz) (ec r (fun _ u _ b d s=>zpB s rfl d.1 rfl rfl bz) ?_))))));exact zaW
 intro fr u w4 hb hΦ hne r;have r:=r.congr (sc (hΦ 6 ke) (sc (hΦ 5 ke) (sc (hΦ 4 ke) (sc (hΦ 3 ke) (sc (hΦ 2 ke) (sc (hΦ 1 ke) (sc (hΦ 0 ke) rfl)))))));have Z4:=hb.size;have H1:=keep hb H1;obtain ⟨hB,zB⟩:=bon hb hB;refine kA (I (W (1+(W (a0.domains * (W (1+(D.zah a0)))))))) r rfl rfl fun r=>wn (wp_ret ?_);refine zay r rfl rfl ?_
 exact ⟨rfl,hB⟩
def D.zat (a0:Plan):Int:=(IntKind.i64.wrap ((D.za1 a0)+(IntKind.i64.wrap (a0.threads * 3))))
theorem ze6 (w0:World) 
    (a0:Plan) :
    Calls Tryz.prog 235 #[.agg (zpe a0).toArray] w0 (zpt (.int .i64 (D.zat a0)) w0):=by
 refine kN Tryz.func235 rfl 9 rfl rfl fun fr r hB=>?_;refine wsr ?_
 refine kX 23 (.agg (zpe a0).toArray) r rfl rfl fun b1 w2 n3 r=>?_;obtain ⟨E1,Z2,H1,hB,zB⟩:=n3.all hB
 refine kA (I 0) r rfl rfl fun r=>wn (wp_seq ?_);refine zaM 6 [.val (.agg (zpe a0).toArray),.val (I (D.za1 a0)),.val (.pointer (some ⟨b1,1,none⟩)),.val (I a0.threads),.val (I (W (a0.threads * 3))),.val (I (W ((D.za1 a0)+(W (a0.threads * 3)))))] mixed r kz (kV (kV (kV (kV (kV (kV zaB)))))) ?_ ?_
 ·
  refine ec r (fun _ u _ b d s=>zag s (cs:=(zpe a0)) (n:=6) rfl (keep b H1) ta23 rfl bz) (ec r (fun fr1 u w' hb' hd r'=>zaC r' (args:=[(.agg (zpe a0).toArray)]) (lc hd.1 l0) zrs ((zfe _ a0).mono (by rintro _ w2 ⟨rfl,hb2⟩; exact ⟨_,rfl,hb2,rfl⟩))) (ec r (fun _ u _ b d s=>za3 s (b:=b1) (o:=0) rfl zid bz) (ec r (fun _ u _ b d s=>za4 s d.1 (keep b H1) to3 rfl bz) (ec r (fun _ u _ b d s=>zpB s d.1 rfl rfl rfl bz) (ec r (fun _ u _ b d s=>zpB s d.1 d.2.1 rfl rfl bz) ?_)))));exact zaW
 intro fr u w4 hb hΦ hne r;have r:=r.congr (sc (hΦ 5 ke) (sc (hΦ 4 ke) (sc (hΦ 3 ke) (sc (hΦ 2 ke) (sc (hΦ 1 ke) (sc (hΦ 0 ke) rfl))))));have Z4:=hb.size;have H1:=keep hb H1;obtain ⟨hB,zB⟩:=bon hb hB;refine kA (I (W ((D.za1 a0)+(W (a0.threads * 3))))) r rfl rfl fun r=>wn (wp_ret ?_);refine zay r rfl rfl ?_
 exact ⟨rfl,hB⟩
def D.za2 (a0:Plan):Int:=(IntKind.i64.wrap ((D.zat a0)+(IntKind.i64.wrap (a0.threads * (IntKind.i64.wrap (1+a0.retire))))))
theorem zda (w0:World) 
    (a0:Plan) :
    Calls Tryz.prog 138 #[.agg (zpe a0).toArray] w0 (zpt (.int .i64 (D.za2 a0)) w0):=by
 refine kN Tryz.func138 rfl 12 rfl rfl fun fr r hB=>?_;refine wsr ?_
 refine kX 23 (.agg (zpe a0).toArray) r rfl rfl fun b1 w2 n3 r=>?_;obtain ⟨E1,Z2,H1,hB,zB⟩:=n3.all hB
 refine kA (I 0) r rfl rfl fun r=>wn (wp_seq ?_);refine zaM 9 [.val (.agg (zpe a0).toArray),.val (I (D.zat a0)),.val (.pointer (some ⟨b1,1,none⟩)),.val (I a0.threads),.val (.pointer (some ⟨b1,2,none⟩)),.val (I a0.retire),.val (I (W (1+a0.retire))),.val (I (W (a0.threads * (W (1+a0.retire))))),.val (I (W ((D.zat a0)+(W (a0.threads * (W (1+a0.retire)))))))] mixed r kz (kV (kV (kV (kV (kV (kV (kV (kV (kV zaB))))))))) ?_ ?_
 ·
  refine ec r (fun _ u _ b d s=>zag s (cs:=(zpe a0)) (n:=6) rfl (keep b H1) ta23 rfl bz) (ec r (fun fr1 u w' hb' hd r'=>zaC r' (args:=[(.agg (zpe a0).toArray)]) (lc hd.1 l0) zrk ((ze6 _ a0).mono (by rintro _ w2 ⟨rfl,hb2⟩; exact ⟨_,rfl,hb2,rfl⟩))) (ec r (fun _ u _ b d s=>za3 s (b:=b1) (o:=0) rfl zid bz) (ec r (fun _ u _ b d s=>za4 s d.1 (keep b H1) to3 rfl bz) (ec r (fun _ u _ b d s=>za3 s (b:=b1) (o:=0) rfl zhc bz) (ec r (fun _ u _ b d s=>za4 s d.1 (keep b H1) to3 rfl bz) (ec r (fun _ u _ b d s=>zpB s rfl d.1 rfl rfl bz) (ec r (fun _ u _ b d s=>zpB s d.1 d.2.1 rfl rfl bz) (ec r (fun _ u _ b d s=>zpB s d.1 d.2.1 rfl rfl bz) ?_))))))));exact zaW
 intro fr u w4 hb hΦ hne r;have r:=r.congr (sc (hΦ 8 ke) (sc (hΦ 7 ke) (sc (hΦ 6 ke) (sc (hΦ 5 ke) (sc (hΦ 4 ke) (sc (hΦ 3 ke) (sc (hΦ 2 ke) (sc (hΦ 1 ke) (sc (hΦ 0 ke) rfl)))))))));have Z4:=hb.size;have H1:=keep hb H1;obtain ⟨hB,zB⟩:=bon hb hB;refine kA (I (W ((D.zat a0)+(W (a0.threads * (W (1+a0.retire))))))) r rfl rfl fun r=>wn (wp_ret ?_);refine zay r rfl rfl ?_
 exact ⟨rfl,hB⟩
def D.zab (a0:Plan):Int:=(bif (!(D.zaP a0)) then 0 else (IntKind.i64.wrap ((D.za2 a0)+(IntKind.i64.wrap (a0.nodes * 5)))))
theorem zjp (w0:World) 
    (a0:Plan) :
    Calls Tryz.prog 79 #[.agg (zpe a0).toArray] w0 (zpt (.int .i64 (D.zab a0)) w0):=by
 refine kN Tryz.func79 rfl 12 rfl rfl fun fr r hB=>?_;refine wsr ?_
 refine kX 23 (.agg (zpe a0).toArray) r rfl rfl fun b1 w2 n3 r=>?_;obtain ⟨E1,Z2,H1,hB,zB⟩:=n3.all hB
 refine kA (I 0) r rfl rfl fun r=>wn (wp_seq (wsr (kG (zpe a0) 6 r rfl H1 ta23 rfl rfl fun r=>?_)));refine kE r (ze9 w2 a0) rfl zqZ rfl fun w4 hb r=>?_
 have Z4:=hb.size;have H1:=keep hb H1;obtain ⟨hB,zB⟩:=bon hb hB;refine za0 (.bool (!(D.zaP a0))) r (fun R=>y_un r (u:=(.bool (D.zaP a0))) rfl rfl) rfl fun fr r=>wn ?_;refine wp_cond_split (t:=(!(D.zaP a0))) (r.ev rfl) (fun h5=>?_) (fun h5=>?_)
 ·
  refine wsr (kA (I 0) r rfl rfl fun r=>wn (wp_ret ?_));have hd:D.zab a0=0:=(zal h5).trans (rfl)
  refine zay r rfl rfl ?_;rw [hd];exact ⟨rfl,hB⟩
 refine wp_skip (wp_seq ?_);refine zaM 6 [.val (.agg (zpe a0).toArray),.val (I (D.za2 a0)),.val (zp b1),.val (I a0.nodes),.val (I (W (a0.nodes * 5))),.val (I (W ((D.za2 a0)+(W (a0.nodes * 5)))))] mixed r kz (kV (kV (kV (kV (kV (kV zaB)))))) ?_ ?_
 ·
  refine ec r (fun _ u _ b d s=>zag s (cs:=(zpe a0)) (n:=6) rfl (keep b H1) ta23 rfl bz) (ec r (fun fr1 u w' hb' hd r'=>zaC r' (args:=[(.agg (zpe a0).toArray)]) (lc hd.1 l0) zqI ((zda _ a0).mono (by rintro _ w2 ⟨rfl,hb2⟩; exact ⟨_,rfl,hb2,rfl⟩))) (ec r (fun _ u _ b d s=>za3 s (b:=b1) (o:=0) rfl zeQ bz) (ec r (fun _ u _ b d s=>za4 s d.1 (keep b H1) to3 rfl bz) (ec r (fun _ u _ b d s=>zpB s d.1 rfl rfl rfl bz) (ec r (fun _ u _ b d s=>zpB s d.1 d.2.1 rfl rfl bz) ?_)))));exact zaW
 intro fr u w6 hb hΦ hne r;have r:=r.congr (sc (hΦ 5 ke) (sc (hΦ 4 ke) (sc (hΦ 3 ke) (sc (hΦ 2 ke) (sc (hΦ 1 ke) (sc (hΦ 0 ke) rfl))))));have Z6:=hb.size;have H1:=keep hb H1;obtain ⟨hB,zB⟩:=bon hb hB;refine kA (I (W ((D.za2 a0)+(W (a0.nodes * 5))))) r rfl rfl fun r=>wn (wp_ret ?_);have hd:D.zab a0=(W ((D.za2 a0)+(W (a0.nodes * 5)))):=(zaf h5).trans (rfl)
 refine zay r rfl rfl ?_;rw [hd];exact ⟨rfl,hB⟩
def D.zaq (a0:Plan) (a1:Int) (a2:List Bound):Int:=(bif (!(D.zaP a0)) then (-1) else (bif (!(D.zaQ a2)) then (-1) else a1))
theorem zbK (w0:World) 
    (a0:Plan) (a1:Int) (a2:List Bound) {a2b:Nat} (a2h:w0.heap[a2b]?=some (.cells ((boundsC a2)).toArray 182 (0,0))) (pre0:a2.length≤8) :
    Calls Tryz.prog 94 #[.agg (zpe a0).toArray,.int .i64 a1,.slice (some ⟨a2b,0,none⟩) a2.length a2.length] w0 (zpt (.int .i64 (D.zaq a0 a1 a2)) w0):=by
 refine kN Tryz.func94 rfl 16 rfl rfl fun fr r hB=>?_;have la2b:=lt_of_block a2h
 refine wsr ?_;refine kX 23 (.agg (zpe a0).toArray) r rfl rfl fun b1 w2 n3 r=>?_;have a2h:=keep n3.below a2h
 obtain ⟨E1,Z2,H1,hB,zB⟩:=n3.all hB;refine kA (I 0) r rfl rfl fun r=>wn (wp_seq (wsr (kG (zpe a0) 6 r rfl H1 ta23 rfl rfl fun r=>?_)));refine kE r (ze9 w2 a0) rfl zqZ rfl fun w4 hb r=>?_
 have Z4:=hb.size;have a2h:=keep hb a2h;have H1:=keep hb H1;obtain ⟨hB,zB⟩:=bon hb hB;refine za0 (.bool (!(D.zaP a0))) r (fun R=>y_un r (u:=(.bool (D.zaP a0))) rfl rfl) rfl fun fr r=>kM (.bool (!(D.zaP a0))) r rfl rfl fun r=>?_;refine zaD (!(D.zaP a0)) (fun h5=>?_) (fun h5=>?_)
 ·
  refine s0 r h5 fun fr r=>s0 r h5 fun fr r=>s0 r h5 fun fr r=>za0 (.bool true) r (fun R=>zam r (b:=true) (congrArg Value.bool h5) rfl) rfl fun fr r=>wn ?_;refine wp_cond_split (t:=true) (r.ev rfl) (fun _=>?_) (fun h=>absurd ((rfl:true=_).symm.trans h) ke)
  refine wsr (kA (I (-1)) r rfl rfl fun r=>wn (wp_ret ?_));have hd:D.zaq a0 a1 a2=(-1):=(zal h5).trans (rfl)
  refine zay r rfl rfl ?_;rw [hd];exact ⟨rfl,hB⟩
 refine s1 r h5 (kM (.slice (some ⟨a2b,0,none⟩) a2.length a2.length) r rfl rfl fun r=>s1 r h5 ?_);refine kE r (zg4 w4 a2 a2h (by first | assumption | decide | (simp; done))) rfl zqN rfl fun w6 hb r=>?_
 have Z6:=hb.size;have a2h:=keep hb a2h;have H1:=keep hb H1;obtain ⟨hB,zB⟩:=bon hb hB;refine s1 r h5 (za0 (.bool (!(D.zaQ a2))) r (fun R=>y_un r (u:=(.bool (D.zaQ a2))) rfl rfl) rfl fun fr r=>za0 (.bool (!(D.zaQ a2))) r (fun R=>zam r (b:=false) (congrArg Value.bool h5) rfl) rfl fun fr r=>wn ?_);refine wp_cond_split (t:=(!(D.zaQ a2))) (r.ev rfl) (fun h7=>?_) (fun h7=>?_)
 ·
  refine wsr (kA (I (-1)) r rfl rfl fun r=>wn (wp_ret ?_));have hd:D.zaq a0 a1 a2=(-1):=(zaf h5).trans ((zal h7).trans (rfl))
  refine zay r rfl rfl ?_;rw [hd];exact ⟨rfl,hB⟩
 refine wp_skip (wsr (kM (I a1) r rfl rfl fun r=>kA (I a1) r rfl rfl fun r=>wn (wp_ret ?_)));have hd:D.zaq a0 a1 a2=a1:=(zaf h5).trans ((zaf h7).trans (rfl))
 refine zay r rfl rfl ?_;rw [hd];exact ⟨rfl,hB⟩
theorem zgZ (w0:World) 
    (a0:Plan) (a1:Int) :
    Calls Tryz.prog 94 #[.agg (zpe a0).toArray,.int .i64 a1,.slice none 0 0] w0 (zpt (.int .i64 (D.zaq a0 a1 ([]))) w0):=by
 refine kN Tryz.func94 rfl 16 rfl rfl fun fr r hB=>?_;refine wsr ?_
 refine kX 23 (.agg (zpe a0).toArray) r rfl rfl fun b1 w2 n3 r=>?_;obtain ⟨E1,Z2,H1,hB,zB⟩:=n3.all hB
 refine kA (I 0) r rfl rfl fun r=>wn (wp_seq (wsr (kG (zpe a0) 6 r rfl H1 ta23 rfl rfl fun r=>?_)));refine kE r (ze9 w2 a0) rfl zqZ rfl fun w4 hb r=>?_
 have Z4:=hb.size;have H1:=keep hb H1;obtain ⟨hB,zB⟩:=bon hb hB;refine za0 (.bool (!(D.zaP a0))) r (fun R=>y_un r (u:=(.bool (D.zaP a0))) rfl rfl) rfl fun fr r=>kM (.bool (!(D.zaP a0))) r rfl rfl fun r=>?_;refine zaD (!(D.zaP a0)) (fun h5=>?_) (fun h5=>?_)
 ·
  refine s0 r h5 fun fr r=>s0 r h5 fun fr r=>s0 r h5 fun fr r=>za0 (.bool true) r (fun R=>zam r (b:=true) (congrArg Value.bool h5) rfl) rfl fun fr r=>wn ?_;refine wp_cond_split (t:=true) (r.ev rfl) (fun _=>?_) (fun h=>absurd ((rfl:true=_).symm.trans h) ke)
  refine wsr (kA (I (-1)) r rfl rfl fun r=>wn (wp_ret ?_));have hd:D.zaq a0 a1 []=(-1):=(zal h5).trans (rfl)
  refine zay r rfl rfl ?_;rw [hd];exact ⟨rfl,hB⟩
 refine s1 r h5 (kM (.slice none 0 0) r rfl rfl fun r=>s1 r h5 ?_);refine kE r (ziP w4 ) rfl zqN rfl fun w6 hb r=>?_
 have Z6:=hb.size;have H1:=keep hb H1;obtain ⟨hB,zB⟩:=bon hb hB;refine s1 r h5 (za0 (.bool (!(D.zaQ ([])))) r (fun R=>y_un r (u:=(.bool (D.zaQ ([])))) rfl rfl) rfl fun fr r=>za0 (.bool (!(D.zaQ ([])))) r (fun R=>zam r (b:=false) (congrArg Value.bool h5) rfl) rfl fun fr r=>wn ?_);refine wp_cond_split (t:=(!(D.zaQ ([])))) (r.ev rfl) (fun h7=>?_) (fun h7=>?_)
 ·
  refine wsr (kA (I (-1)) r rfl rfl fun r=>wn (wp_ret ?_));have hd:D.zaq a0 a1 []=(-1):=(zaf h5).trans ((zal h7).trans (rfl))
  refine zay r rfl rfl ?_;rw [hd];exact ⟨rfl,hB⟩
 refine wp_skip (wsr (kM (I a1) r rfl rfl fun r=>kA (I a1) r rfl rfl fun r=>wn (wp_ret ?_)));have hd:D.zaq a0 a1 []=a1:=(zaf h5).trans ((zaf h7).trans (rfl))
 refine zay r rfl rfl ?_;rw [hd];exact ⟨rfl,hB⟩
def D.zaT (a0:Plan):Int:=(D.zaq a0 0 ([]))
theorem zc9 (w0:World) 
    (a0:Plan) :
    Calls Tryz.prog 142 #[.agg (zpe a0).toArray] w0 (zpt (.int .i64 (D.zaT a0)) w0):=by
 refine kN Tryz.func142 rfl 5 rfl rfl fun fr r hB=>?_;refine wsr ?_
 refine kX 23 (.agg (zpe a0).toArray) r rfl rfl fun b1 w2 n3 r=>?_;obtain ⟨E1,Z2,H1,hB,zB⟩:=n3.all hB
 refine kA (I 0) r rfl rfl fun r=>wn (wsr (kG (zpe a0) 6 r rfl H1 ta23 rfl rfl fun r=>?_));refine kE r (zgZ w2 a0 0) rfl cl94 rfl fun w4 hb r=>?_
 have Z4:=hb.size;have H1:=keep hb H1;obtain ⟨hB,zB⟩:=bon hb hB;refine kA (I (D.zaq a0 0 ([]))) r rfl rfl fun r=>wn (wp_ret ?_);refine zay r rfl rfl ?_
 exact ⟨rfl,hB⟩
def D.zaH (a0:Plan) (a1:Int):Bound:=(⟨a1,0,(IntKind.i64.wrap (a0.nodes - 1))⟩:Bound)
theorem zeH (w0:World) 
    (a0:Plan) (a1:Int) :
    Calls Tryz.prog 139 #[.agg (zpe a0).toArray,.int .i64 a1] w0 (zpt (.agg (zpG (D.zaH a0 a1)).toArray) w0):=by
 refine kN Tryz.func139 rfl 10 rfl rfl fun fr r hB=>?_;refine wsr ?_
 refine kX 23 (.agg (zpe a0).toArray) r rfl rfl fun b1 w2 n3 r=>?_;obtain ⟨E1,Z2,H1,hB,zB⟩:=n3.all hB
 refine za7 (.cells ((zpG (⟨0,0,0⟩:Bound))).toArray 182 (0,0)) r (fun R=>za6 zrb) rfl fun fr b4 w5 n6 r=>?_;have H1:=keep n6.below H1
 obtain ⟨E4,Z5,H4,hB,zB⟩:=n6.all hB;refine wn (wsr (kM (I a1) r rfl rfl fun r=>kF 0 r rfl zeQ rfl fun r=>kL (I a0.nodes) r rfl H1 to3 rfl rfl fun r=>kB r rfl rfl rfl rfl rfl fun r=>kU (.agg (zpG (⟨a1,0,(W (a0.nodes - 1))⟩:Bound)).toArray) r kz rfl fun r=>?_));refine zaS (.cells ((zpG (⟨a1,0,(W (a0.nodes - 1))⟩:Bound))).toArray 182 (0,0)) r (fun R=>zaN r (o:=0) (v:=(.agg (zpG (⟨a1,0,(W (a0.nodes - 1))⟩:Bound)).toArray)) rfl rfl H4 zrl (Nat.le_of_ble_eq_true rfl) rfl rfl) rfl fun fr w7 u8 r=>?_
 have Z7:=u8.size;have H1:=u8.keep H1 kw
 have H4:=u8.at_;obtain ⟨hB,zB⟩:=u8.on hB kw
 refine wn (wp_ret ?_);refine za5 r rfl rfl H4 (k:=3) rfl zre ?_;exact ⟨rfl,hB⟩
def D.zaZ (a0:Plan) (a1:Int):Int:=(D.zaq a0 (IntKind.i64.wrap ((IntKind.i64.wrap ((D.za2 a0)+(IntKind.i64.wrap (a1 * 5))))+1)) ([(D.zaH a0 a1)]))
theorem zcG (w0:World) 
    (a0:Plan) (a1:Int) :
    Calls Tryz.prog 143 #[.agg (zpe a0).toArray,.int .i64 a1] w0 (zpt (.int .i64 (D.zaZ a0 a1)) w0):=by
 refine kN Tryz.func143 rfl 17 rfl rfl fun fr r hB=>?_;refine wsr ?_
 refine kX 23 (.agg (zpe a0).toArray) r rfl rfl fun b1 w2 n3 r=>?_;obtain ⟨E1,Z2,H1,hB,zB⟩:=n3.all hB
 refine kA (I 0) r rfl rfl fun r=>wn (wp_seq ?_);refine zaM 12 [.val (.agg (zpe a0).toArray),.val (.agg (zpe a0).toArray),.val (I (D.za2 a0)),.val (I a1),.val (I (W (a1 * 5))),.val (I (W ((D.za2 a0)+(W (a1 * 5))))),.val (I (W ((W ((D.za2 a0)+(W (a1 * 5))))+1))),.val (.agg (zpe a0).toArray),.val (I a1),.val (.agg (zpG (D.zaH a0 a1)).toArray),.slice w2.heap.size (.cells ((boundsC [(D.zaH a0 a1)])).toArray 182 (0,0)) 1,.val (I (D.zaq a0 (W ((W ((D.za2 a0)+(W (a1 * 5))))+1)) ([(D.zaH a0 a1)])))] mixed r kz (kV (kV (kV (kV (kV (kV (kV (kV (kV (kV (zaJ (Nat.le_refl _) (kV zaB)))))))))))) ?_ ?_
 ·
  refine ec r (fun _ u _ b d s=>zag s (cs:=(zpe a0)) (n:=6) rfl (keep b H1) ta23 rfl bz) (ec r (fun _ u _ b d s=>zag s (cs:=(zpe a0)) (n:=6) rfl (keep b H1) ta23 rfl bz) (ec r (fun fr1 u w' hb' hd r'=>zaC r' (args:=[(.agg (zpe a0).toArray)]) (lc hd.1 l0) zqI ((zda _ a0).mono (by rintro _ w2 ⟨rfl,hb2⟩; exact ⟨_,rfl,hb2,rfl⟩))) (ec r (fun _ u _ b d s=>zav s rfl bz) (ec r (fun _ u _ b d s=>zpB s d.1 rfl rfl rfl bz) (ec r (fun _ u _ b d s=>zpB s d.1 d.2.1 rfl rfl bz) (ec r (fun _ u _ b d s=>zpB s d.1 rfl rfl rfl bz) (ec r (fun _ u _ b d s=>zag s (cs:=(zpe a0)) (n:=6) rfl (keep b H1) ta23 rfl bz) (ec r (fun _ u _ b d s=>zav s rfl bz) (ec r (fun fr1 u w' hb' hd r'=>zaC r' (args:=[(.agg (zpe a0).toArray),(I a1)]) (lc hd.1 (lc hd.2.1 l0)) zra ((zeH _ a0 a1).mono (by rintro _ w2 ⟨rfl,hb2⟩; exact ⟨_,rfl,hb2,rfl⟩))) (ec r (fun fr1 u w' hb' hd r'=>zcp r' (c:=((boundsC [(D.zaH a0 a1)])).toArray) (E:=182) (bs1 (congrArg (fun z=>(0,z)) hd.1) kz) (fun b w2 n2=>⟨n2.below,b,rfl,Nat.le_of_eq n2.eq.symm,n2.at_⟩)) ?_))))))))));refine zbt r rfl (fun fr1 u w' hb' hd r'=>?_) ?_
  · obtain ⟨d0,d1,d2,d3,_⟩:=hd; obtain ⟨q2,hq2,_,hr2⟩:=d2; exact zaC r' (args:=[(.agg (zpe a0).toArray),(I (W ((W ((D.za2 a0)+(W (a1 * 5))))+1))),(.slice (some ⟨q2,0,none⟩) 1 1)]) (lc d0 (lc d1 (lc hq2 l0))) cl94 ((zbK _ a0 (W ((W ((D.za2 a0)+(W (a1 * 5))))+1)) ([(D.zaH a0 a1)]) hr2 (by first | assumption | decide | (simp; done))).mono (by rintro _ w2 ⟨rfl,hb2⟩; exact ⟨_,rfl,hb2,rfl⟩))
  exact zaW
 intro fr u w4 hb hΦ hne r;obtain ⟨b5,g10,E5,H5⟩:=hΦ 10 ke;have l_b5:=lt_of_block H5;have r:=r.congr (sc (hΦ 11 ke) (sc g10 (sc (hΦ 9 ke) (sc (hΦ 8 ke) (sc (hΦ 7 ke) (sc (hΦ 6 ke) (sc (hΦ 5 ke) (sc (hΦ 4 ke) (sc (hΦ 3 ke) (sc (hΦ 2 ke) (sc (hΦ 1 ke) (sc (hΦ 0 ke) rfl))))))))))));have Z4:=hb.size;have H1:=keep hb H1;obtain ⟨hB,zB⟩:=bon hb hB;refine kA (I (D.zaq a0 (W ((W ((D.za2 a0)+(W (a1 * 5))))+1)) ([(D.zaH a0 a1)]))) r rfl rfl fun r=>wn (wp_ret ?_);refine zay r rfl rfl ?_
 exact ⟨rfl,hB⟩
def D.zaF (a0:Plan) (a1:Int):Int:=(D.zaq a0 (IntKind.i64.wrap ((D.za2 a0)+(IntKind.i64.wrap (a1 * 5)))) ([(D.zaH a0 a1)]))
theorem zbL (w0:World) 
    (a0:Plan) (a1:Int) :
    Calls Tryz.prog 64 #[.agg (zpe a0).toArray,.int .i64 a1] w0 (zpt (.int .i64 (D.zaF a0 a1)) w0):=by
 refine kN Tryz.func64 rfl 16 rfl rfl fun fr r hB=>?_;refine wsr ?_
 refine kX 23 (.agg (zpe a0).toArray) r rfl rfl fun b1 w2 n3 r=>?_;obtain ⟨E1,Z2,H1,hB,zB⟩:=n3.all hB
 refine kA (I 0) r rfl rfl fun r=>wn (wp_seq ?_);refine zaM 11 [.val (.agg (zpe a0).toArray),.val (.agg (zpe a0).toArray),.val (I (D.za2 a0)),.val (I a1),.val (I (W (a1 * 5))),.val (I (W ((D.za2 a0)+(W (a1 * 5))))),.val (.agg (zpe a0).toArray),.val (I a1),.val (.agg (zpG (D.zaH a0 a1)).toArray),.slice w2.heap.size (.cells ((boundsC [(D.zaH a0 a1)])).toArray 182 (0,0)) 1,.val (I (D.zaq a0 (W ((D.za2 a0)+(W (a1 * 5)))) ([(D.zaH a0 a1)])))] mixed r kz (kV (kV (kV (kV (kV (kV (kV (kV (kV (zaJ (Nat.le_refl _) (kV zaB))))))))))) ?_ ?_
 ·
  refine ec r (fun _ u _ b d s=>zag s (cs:=(zpe a0)) (n:=6) rfl (keep b H1) ta23 rfl bz) (ec r (fun _ u _ b d s=>zag s (cs:=(zpe a0)) (n:=6) rfl (keep b H1) ta23 rfl bz) (ec r (fun fr1 u w' hb' hd r'=>zaC r' (args:=[(.agg (zpe a0).toArray)]) (lc hd.1 l0) zqI ((zda _ a0).mono (by rintro _ w2 ⟨rfl,hb2⟩; exact ⟨_,rfl,hb2,rfl⟩))) (ec r (fun _ u _ b d s=>zav s rfl bz) (ec r (fun _ u _ b d s=>zpB s d.1 rfl rfl rfl bz) (ec r (fun _ u _ b d s=>zpB s d.1 d.2.1 rfl rfl bz) (ec r (fun _ u _ b d s=>zag s (cs:=(zpe a0)) (n:=6) rfl (keep b H1) ta23 rfl bz) (ec r (fun _ u _ b d s=>zav s rfl bz) (ec r (fun fr1 u w' hb' hd r'=>zaC r' (args:=[(.agg (zpe a0).toArray),(I a1)]) (lc hd.1 (lc hd.2.1 l0)) zra ((zeH _ a0 a1).mono (by rintro _ w2 ⟨rfl,hb2⟩; exact ⟨_,rfl,hb2,rfl⟩))) (ec r (fun fr1 u w' hb' hd r'=>zcp r' (c:=((boundsC [(D.zaH a0 a1)])).toArray) (E:=182) (bs1 (congrArg (fun z=>(0,z)) hd.1) kz) (fun b w2 n2=>⟨n2.below,b,rfl,Nat.le_of_eq n2.eq.symm,n2.at_⟩)) ?_)))))))));refine zbt r rfl (fun fr1 u w' hb' hd r'=>?_) ?_
  · obtain ⟨d0,d1,d2,d3,_⟩:=hd; obtain ⟨q2,hq2,_,hr2⟩:=d2; exact zaC r' (args:=[(.agg (zpe a0).toArray),(I (W ((D.za2 a0)+(W (a1 * 5))))),(.slice (some ⟨q2,0,none⟩) 1 1)]) (lc d0 (lc d1 (lc hq2 l0))) cl94 ((zbK _ a0 (W ((D.za2 a0)+(W (a1 * 5)))) ([(D.zaH a0 a1)]) hr2 (by first | assumption | decide | (simp; done))).mono (by rintro _ w2 ⟨rfl,hb2⟩; exact ⟨_,rfl,hb2,rfl⟩))
  exact zaW
 intro fr u w4 hb hΦ hne r;obtain ⟨b5,g9,E5,H5⟩:=hΦ 9 ke;have l_b5:=lt_of_block H5;have r:=r.congr (sc (hΦ 10 ke) (sc g9 (sc (hΦ 8 ke) (sc (hΦ 7 ke) (sc (hΦ 6 ke) (sc (hΦ 5 ke) (sc (hΦ 4 ke) (sc (hΦ 3 ke) (sc (hΦ 2 ke) (sc (hΦ 1 ke) (sc (hΦ 0 ke) rfl)))))))))));have Z4:=hb.size;have H1:=keep hb H1;obtain ⟨hB,zB⟩:=bon hb hB;refine kA (I (D.zaq a0 (W ((D.za2 a0)+(W (a1 * 5)))) ([(D.zaH a0 a1)]))) r rfl rfl fun r=>wn (wp_ret ?_);refine zay r rfl rfl ?_
 exact ⟨rfl,hB⟩
def D.zaz (a0:Plan) (a1:Int):Bound:=(⟨a1,0,(IntKind.i64.wrap (a0.threads - 1))⟩:Bound)
theorem zdS (w0:World) 
    (a0:Plan) (a1:Int) :
    Calls Tryz.prog 147 #[.agg (zpe a0).toArray,.int .i64 a1] w0 (zpt (.agg (zpG (D.zaz a0 a1)).toArray) w0):=by
 refine kN Tryz.func147 rfl 10 rfl rfl fun fr r hB=>?_;refine wsr ?_
 refine kX 23 (.agg (zpe a0).toArray) r rfl rfl fun b1 w2 n3 r=>?_;obtain ⟨E1,Z2,H1,hB,zB⟩:=n3.all hB
 refine za7 (.cells ((zpG (⟨0,0,0⟩:Bound))).toArray 182 (0,0)) r (fun R=>za6 zrb) rfl fun fr b4 w5 n6 r=>?_;have H1:=keep n6.below H1
 obtain ⟨E4,Z5,H4,hB,zB⟩:=n6.all hB;refine wn (wsr (kM (I a1) r rfl rfl fun r=>kF 0 r rfl zid rfl fun r=>kL (I a0.threads) r rfl H1 to3 rfl rfl fun r=>kB r rfl rfl rfl rfl rfl fun r=>kU (.agg (zpG (⟨a1,0,(W (a0.threads - 1))⟩:Bound)).toArray) r kz rfl fun r=>?_));refine zaS (.cells ((zpG (⟨a1,0,(W (a0.threads - 1))⟩:Bound))).toArray 182 (0,0)) r (fun R=>zaN r (o:=0) (v:=(.agg (zpG (⟨a1,0,(W (a0.threads - 1))⟩:Bound)).toArray)) rfl rfl H4 zrl (Nat.le_of_ble_eq_true rfl) rfl rfl) rfl fun fr w7 u8 r=>?_
 have Z7:=u8.size;have H1:=u8.keep H1 kw
 have H4:=u8.at_;obtain ⟨hB,zB⟩:=u8.on hB kw
 refine wn (wp_ret ?_);refine za5 r rfl rfl H4 (k:=3) rfl zre ?_;exact ⟨rfl,hB⟩
def D.zaY (a0:Plan) (a1:Int):Int:=(D.zaq a0 (IntKind.i64.wrap ((D.zat a0)+(IntKind.i64.wrap (a1 * (IntKind.i64.wrap (1+a0.retire)))))) ([(D.zaz a0 a1)]))
theorem zcq (w0:World) 
    (a0:Plan) (a1:Int) :
    Calls Tryz.prog 144 #[.agg (zpe a0).toArray,.int .i64 a1] w0 (zpt (.int .i64 (D.zaY a0 a1)) w0):=by
 refine kN Tryz.func144 rfl 19 rfl rfl fun fr r hB=>?_;refine wsr ?_
 refine kX 23 (.agg (zpe a0).toArray) r rfl rfl fun b1 w2 n3 r=>?_;obtain ⟨E1,Z2,H1,hB,zB⟩:=n3.all hB
 refine kA (I 0) r rfl rfl fun r=>wn (wp_seq ?_);refine zaM 14 [.val (.agg (zpe a0).toArray),.val (.agg (zpe a0).toArray),.val (I (D.zat a0)),.val (I a1),.val (.pointer (some ⟨b1,2,none⟩)),.val (I a0.retire),.val (I (W (1+a0.retire))),.val (I (W (a1 * (W (1+a0.retire))))),.val (I (W ((D.zat a0)+(W (a1 * (W (1+a0.retire))))))),.val (.agg (zpe a0).toArray),.val (I a1),.val (.agg (zpG (D.zaz a0 a1)).toArray),.slice w2.heap.size (.cells ((boundsC [(D.zaz a0 a1)])).toArray 182 (0,0)) 1,.val (I (D.zaq a0 (W ((D.zat a0)+(W (a1 * (W (1+a0.retire)))))) ([(D.zaz a0 a1)])))] mixed r kz (kV (kV (kV (kV (kV (kV (kV (kV (kV (kV (kV (kV (zaJ (Nat.le_refl _) (kV zaB)))))))))))))) ?_ ?_
 ·
  refine ec r (fun _ u _ b d s=>zag s (cs:=(zpe a0)) (n:=6) rfl (keep b H1) ta23 rfl bz) (ec r (fun _ u _ b d s=>zag s (cs:=(zpe a0)) (n:=6) rfl (keep b H1) ta23 rfl bz) (ec r (fun fr1 u w' hb' hd r'=>zaC r' (args:=[(.agg (zpe a0).toArray)]) (lc hd.1 l0) zrk ((ze6 _ a0).mono (by rintro _ w2 ⟨rfl,hb2⟩; exact ⟨_,rfl,hb2,rfl⟩))) (ec r (fun _ u _ b d s=>zav s rfl bz) (ec r (fun _ u _ b d s=>za3 s (b:=b1) (o:=0) rfl zhc bz) (ec r (fun _ u _ b d s=>za4 s d.1 (keep b H1) to3 rfl bz) (ec r (fun _ u _ b d s=>zpB s rfl d.1 rfl rfl bz) (ec r (fun _ u _ b d s=>zpB s d.1 d.2.1 rfl rfl bz) (ec r (fun _ u _ b d s=>zpB s d.1 d.2.1 rfl rfl bz) (ec r (fun _ u _ b d s=>zag s (cs:=(zpe a0)) (n:=6) rfl (keep b H1) ta23 rfl bz) (ec r (fun _ u _ b d s=>zav s rfl bz) (ec r (fun fr1 u w' hb' hd r'=>zaC r' (args:=[(.agg (zpe a0).toArray),(I a1)]) (lc hd.1 (lc hd.2.1 l0)) zr9 ((zdS _ a0 a1).mono (by rintro _ w2 ⟨rfl,hb2⟩; exact ⟨_,rfl,hb2,rfl⟩))) (ec r (fun fr1 u w' hb' hd r'=>zcp r' (c:=((boundsC [(D.zaz a0 a1)])).toArray) (E:=182) (bs1 (congrArg (fun z=>(0,z)) hd.1) kz) (fun b w2 n2=>⟨n2.below,b,rfl,Nat.le_of_eq n2.eq.symm,n2.at_⟩)) ?_))))))))))));refine zbt r rfl (fun fr1 u w' hb' hd r'=>?_) ?_
  · obtain ⟨d0,d1,d2,d3,_⟩:=hd; obtain ⟨q2,hq2,_,hr2⟩:=d2; exact zaC r' (args:=[(.agg (zpe a0).toArray),(I (W ((D.zat a0)+(W (a1 * (W (1+a0.retire))))))),(.slice (some ⟨q2,0,none⟩) 1 1)]) (lc d0 (lc d1 (lc hq2 l0))) cl94 ((zbK _ a0 (W ((D.zat a0)+(W (a1 * (W (1+a0.retire)))))) ([(D.zaz a0 a1)]) hr2 (by first | assumption | decide | (simp; done))).mono (by rintro _ w2 ⟨rfl,hb2⟩; exact ⟨_,rfl,hb2,rfl⟩))
  exact zaW
 intro fr u w4 hb hΦ hne r;obtain ⟨b5,g12,E5,H5⟩:=hΦ 12 ke;have l_b5:=lt_of_block H5;have r:=r.congr (sc (hΦ 13 ke) (sc g12 (sc (hΦ 11 ke) (sc (hΦ 10 ke) (sc (hΦ 9 ke) (sc (hΦ 8 ke) (sc (hΦ 7 ke) (sc (hΦ 6 ke) (sc (hΦ 5 ke) (sc (hΦ 4 ke) (sc (hΦ 3 ke) (sc (hΦ 2 ke) (sc (hΦ 1 ke) (sc (hΦ 0 ke) rfl))))))))))))));have Z4:=hb.size;have H1:=keep hb H1;obtain ⟨hB,zB⟩:=bon hb hB;refine kA (I (D.zaq a0 (W ((D.zat a0)+(W (a1 * (W (1+a0.retire)))))) ([(D.zaz a0 a1)]))) r rfl rfl fun r=>wn (wp_ret ?_);refine zay r rfl rfl ?_
 exact ⟨rfl,hB⟩
def D.zaK (a0:Plan) (a1:Int) (a2:Int):Int:=(D.zaq a0 (IntKind.i64.wrap ((IntKind.i64.wrap ((IntKind.i64.wrap ((D.zat a0)+(IntKind.i64.wrap (a1 * (IntKind.i64.wrap (1+a0.retire))))))+1))+a2)) ([(D.zaz a0 a1),(⟨a2,0,(IntKind.i64.wrap (a0.retire - 1))⟩:Bound)]))
theorem zc3 (w0:World) 
    (a0:Plan) (a1:Int) (a2:Int) :
    Calls Tryz.prog 145 #[.agg (zpe a0).toArray,.int .i64 a1,.int .i64 a2] w0 (zpt (.int .i64 (D.zaK a0 a1 a2)) w0):=by
 refine kN Tryz.func145 rfl 29 rfl rfl fun fr r hB=>?_;refine wsr ?_
 refine kX 23 (.agg (zpe a0).toArray) r rfl rfl fun b1 w2 n3 r=>?_;obtain ⟨E1,Z2,H1,hB,zB⟩:=n3.all hB
 refine kA (I 0) r rfl rfl fun r=>wn (wp_seq ?_);refine zaM 22 [.val (.agg (zpe a0).toArray),.val (.agg (zpe a0).toArray),.val (I (D.zat a0)),.val (I a1),.val (.pointer (some ⟨b1,2,none⟩)),.val (I a0.retire),.val (I (W (1+a0.retire))),.val (I (W (a1 * (W (1+a0.retire))))),.val (I (W ((D.zat a0)+(W (a1 * (W (1+a0.retire))))))),.val (I (W ((W ((D.zat a0)+(W (a1 * (W (1+a0.retire))))))+1))),.val (I a2),.val (I (W ((W ((W ((D.zat a0)+(W (a1 * (W (1+a0.retire))))))+1))+a2))),.val (.agg (zpe a0).toArray),.val (I a1),.val (.agg (zpG (D.zaz a0 a1)).toArray),.val (I a2),.val (.pointer (some ⟨b1,2,none⟩)),.val (I a0.retire),.val (I (W (a0.retire - 1))),.val (.agg (zpG (⟨a2,0,(W (a0.retire - 1))⟩:Bound)).toArray),.slice w2.heap.size (.cells ((boundsC [(D.zaz a0 a1),(⟨a2,0,(W (a0.retire - 1))⟩:Bound)])).toArray 182 (0,0)) 2,.val (I (D.zaq a0 (W ((W ((W ((D.zat a0)+(W (a1 * (W (1+a0.retire))))))+1))+a2)) ([(D.zaz a0 a1),(⟨a2,0,(W (a0.retire - 1))⟩:Bound)])))] mixed r kz (kV (kV (kV (kV (kV (kV (kV (kV (kV (kV (kV (kV (kV (kV (kV (kV (kV (kV (kV (kV (zaJ (Nat.le_refl _) (kV zaB)))))))))))))))))))))) ?_ ?_
 ·
  refine ec r (fun _ u _ b d s=>zag s (cs:=(zpe a0)) (n:=6) rfl (keep b H1) ta23 rfl bz) (ec r (fun _ u _ b d s=>zag s (cs:=(zpe a0)) (n:=6) rfl (keep b H1) ta23 rfl bz) (ec r (fun fr1 u w' hb' hd r'=>zaC r' (args:=[(.agg (zpe a0).toArray)]) (lc hd.1 l0) zrk ((ze6 _ a0).mono (by rintro _ w2 ⟨rfl,hb2⟩; exact ⟨_,rfl,hb2,rfl⟩))) (ec r (fun _ u _ b d s=>zav s rfl bz) (ec r (fun _ u _ b d s=>za3 s (b:=b1) (o:=0) rfl zhc bz) (ec r (fun _ u _ b d s=>za4 s d.1 (keep b H1) to3 rfl bz) (ec r (fun _ u _ b d s=>zpB s rfl d.1 rfl rfl bz) (ec r (fun _ u _ b d s=>zpB s d.1 d.2.1 rfl rfl bz) (ec r (fun _ u _ b d s=>zpB s d.1 d.2.1 rfl rfl bz) (ec r (fun _ u _ b d s=>zpB s d.1 rfl rfl rfl bz) (ec r (fun _ u _ b d s=>zav s rfl bz) (ec r (fun _ u _ b d s=>zpB s d.1 d.2.1 rfl rfl bz) (ec r (fun _ u _ b d s=>zag s (cs:=(zpe a0)) (n:=6) rfl (keep b H1) ta23 rfl bz) (ec r (fun _ u _ b d s=>zav s rfl bz) (ec r (fun fr1 u w' hb' hd r'=>zaC r' (args:=[(.agg (zpe a0).toArray),(I a1)]) (lc hd.1 (lc hd.2.1 l0)) zr9 ((zdS _ a0 a1).mono (by rintro _ w2 ⟨rfl,hb2⟩; exact ⟨_,rfl,hb2,rfl⟩))) (ec r (fun _ u _ b d s=>zav s rfl bz) (ec r (fun _ u _ b d s=>za3 s (b:=b1) (o:=0) rfl zhc bz) (ec r (fun _ u _ b d s=>za4 s d.1 (keep b H1) to3 rfl bz) (ec r (fun _ u _ b d s=>zpB s d.1 rfl rfl rfl bz) (ec r (fun fr1 u w' hb' hd r'=>zfA r' (v:=(.agg (zpG (⟨a2,0,(W (a0.retire - 1))⟩:Bound)).toArray)) (bs3 (congrArg (fun z=>(0,z)) hd.1) (rfl) (congrArg (fun z=>(2,z)) hd.2.1) kz) bz) (ec r (fun fr1 u w' hb' hd r'=>zcp r' (c:=((boundsC [(D.zaz a0 a1),(⟨a2,0,(W (a0.retire - 1))⟩:Bound)])).toArray) (E:=182) (bs2 (congrArg (fun z=>(0,z)) hd.1) (congrArg (fun z=>(1,z)) hd.2.1) kz) (fun b w2 n2=>⟨n2.below,b,rfl,Nat.le_of_eq n2.eq.symm,n2.at_⟩)) ?_))))))))))))))))))))
  refine zbt r rfl (fun fr1 u w' hb' hd r'=>?_) ?_
  · obtain ⟨d0,d1,d2,d3,_⟩:=hd; obtain ⟨q2,hq2,_,hr2⟩:=d2; exact zaC r' (args:=[(.agg (zpe a0).toArray),(I (W ((W ((W ((D.zat a0)+(W (a1 * (W (1+a0.retire))))))+1))+a2))),(.slice (some ⟨q2,0,none⟩) 2 2)]) (lc d0 (lc d1 (lc hq2 l0))) cl94 ((zbK _ a0 (W ((W ((W ((D.zat a0)+(W (a1 * (W (1+a0.retire))))))+1))+a2)) ([(D.zaz a0 a1),(⟨a2,0,(W (a0.retire - 1))⟩:Bound)]) hr2 (by first | assumption | decide | (simp; done))).mono (by rintro _ w2 ⟨rfl,hb2⟩; exact ⟨_,rfl,hb2,rfl⟩))
  exact zaW
 intro fr u w4 hb hΦ hne r;obtain ⟨b5,g20,E5,H5⟩:=hΦ 20 ke;have l_b5:=lt_of_block H5;have r:=r.congr (sc (hΦ 21 ke) (sc g20 (sc (hΦ 19 ke) (sc (hΦ 18 ke) (sc (hΦ 17 ke) (sc (hΦ 16 ke) (sc (hΦ 15 ke) (sc (hΦ 14 ke) (sc (hΦ 13 ke) (sc (hΦ 12 ke) (sc (hΦ 11 ke) (sc (hΦ 10 ke) (sc (hΦ 9 ke) (sc (hΦ 8 ke) (sc (hΦ 7 ke) (sc (hΦ 6 ke) (sc (hΦ 5 ke) (sc (hΦ 4 ke) (sc (hΦ 3 ke) (sc (hΦ 2 ke) (sc (hΦ 1 ke) (sc (hΦ 0 ke) rfl))))))))))))))))))))));have Z4:=hb.size;have H1:=keep hb H1;obtain ⟨hB,zB⟩:=bon hb hB;refine kA (I (D.zaq a0 (W ((W ((W ((D.zat a0)+(W (a1 * (W (1+a0.retire))))))+1))+a2)) ([(D.zaz a0 a1),(⟨a2,0,(W (a0.retire - 1))⟩:Bound)]))) r rfl rfl fun r=>wn (wp_ret ?_);refine zay r rfl rfl ?_
 exact ⟨rfl,hB⟩
def D.zb9 (a0:Plan) (a1:Int) (a2:Int):Int:=(D.zaq a0 (IntKind.i64.wrap ((IntKind.i64.wrap ((D.za1 a0)+(IntKind.i64.wrap (a1 * 3))))+a2)) ([(D.zaz a0 a1),(⟨a2,0,2⟩:Bound)]))
theorem ze3 (w0:World) 
    (a0:Plan) (a1:Int) (a2:Int) :
    Calls Tryz.prog 67 #[.agg (zpe a0).toArray,.int .i64 a1,.int .i64 a2] w0 (zpt (.int .i64 (D.zb9 a0 a1 a2)) w0):=by
 refine kN Tryz.func67 rfl 22 rfl rfl fun fr r hB=>?_;refine wsr ?_
 refine kX 23 (.agg (zpe a0).toArray) r rfl rfl fun b1 w2 n3 r=>?_;obtain ⟨E1,Z2,H1,hB,zB⟩:=n3.all hB
 refine kA (I 0) r rfl rfl fun r=>wn (wp_seq ?_);refine zaM 15 [.val (.agg (zpe a0).toArray),.val (.agg (zpe a0).toArray),.val (I (D.za1 a0)),.val (I a1),.val (I (W (a1 * 3))),.val (I (W ((D.za1 a0)+(W (a1 * 3))))),.val (I a2),.val (I (W ((W ((D.za1 a0)+(W (a1 * 3))))+a2))),.val (.agg (zpe a0).toArray),.val (I a1),.val (.agg (zpG (D.zaz a0 a1)).toArray),.val (I a2),.val (.agg (zpG (⟨a2,0,2⟩:Bound)).toArray),.slice w2.heap.size (.cells ((boundsC [(D.zaz a0 a1),(⟨a2,0,2⟩:Bound)])).toArray 182 (0,0)) 2,.val (I (D.zaq a0 (W ((W ((D.za1 a0)+(W (a1 * 3))))+a2)) ([(D.zaz a0 a1),(⟨a2,0,2⟩:Bound)])))] mixed r kz (kV (kV (kV (kV (kV (kV (kV (kV (kV (kV (kV (kV (kV (zaJ (Nat.le_refl _) (kV zaB))))))))))))))) ?_ ?_
 ·
  refine ec r (fun _ u _ b d s=>zag s (cs:=(zpe a0)) (n:=6) rfl (keep b H1) ta23 rfl bz) (ec r (fun _ u _ b d s=>zag s (cs:=(zpe a0)) (n:=6) rfl (keep b H1) ta23 rfl bz) (ec r (fun fr1 u w' hb' hd r'=>zaC r' (args:=[(.agg (zpe a0).toArray)]) (lc hd.1 l0) zrs ((zfe _ a0).mono (by rintro _ w2 ⟨rfl,hb2⟩; exact ⟨_,rfl,hb2,rfl⟩))) (ec r (fun _ u _ b d s=>zav s rfl bz) (ec r (fun _ u _ b d s=>zpB s d.1 rfl rfl rfl bz) (ec r (fun _ u _ b d s=>zpB s d.1 d.2.1 rfl rfl bz) (ec r (fun _ u _ b d s=>zav s rfl bz) (ec r (fun _ u _ b d s=>zpB s d.1 d.2.1 rfl rfl bz) (ec r (fun _ u _ b d s=>zag s (cs:=(zpe a0)) (n:=6) rfl (keep b H1) ta23 rfl bz) (ec r (fun _ u _ b d s=>zav s rfl bz) (ec r (fun fr1 u w' hb' hd r'=>zaC r' (args:=[(.agg (zpe a0).toArray),(I a1)]) (lc hd.1 (lc hd.2.1 l0)) zr9 ((zdS _ a0 a1).mono (by rintro _ w2 ⟨rfl,hb2⟩; exact ⟨_,rfl,hb2,rfl⟩))) (ec r (fun _ u _ b d s=>zav s rfl bz) (ec r (fun fr1 u w' hb' hd r'=>zfA r' (v:=(.agg (zpG (⟨a2,0,2⟩:Bound)).toArray)) (bs3 (congrArg (fun z=>(0,z)) hd.1) (rfl) (rfl) kz) bz) (ec r (fun fr1 u w' hb' hd r'=>zcp r' (c:=((boundsC [(D.zaz a0 a1),(⟨a2,0,2⟩:Bound)])).toArray) (E:=182) (bs2 (congrArg (fun z=>(0,z)) hd.1) (congrArg (fun z=>(1,z)) hd.2.1) kz) (fun b w2 n2=>⟨n2.below,b,rfl,Nat.le_of_eq n2.eq.symm,n2.at_⟩)) ?_)))))))))))));refine zbt r rfl (fun fr1 u w' hb' hd r'=>?_) ?_
  · obtain ⟨d0,d1,d2,d3,_⟩:=hd; obtain ⟨q2,hq2,_,hr2⟩:=d2; exact zaC r' (args:=[(.agg (zpe a0).toArray),(I (W ((W ((D.za1 a0)+(W (a1 * 3))))+a2))),(.slice (some ⟨q2,0,none⟩) 2 2)]) (lc d0 (lc d1 (lc hq2 l0))) cl94 ((zbK _ a0 (W ((W ((D.za1 a0)+(W (a1 * 3))))+a2)) ([(D.zaz a0 a1),(⟨a2,0,2⟩:Bound)]) hr2 (by first | assumption | decide | (simp; done))).mono (by rintro _ w2 ⟨rfl,hb2⟩; exact ⟨_,rfl,hb2,rfl⟩))
  exact zaW
 intro fr u w4 hb hΦ hne r;obtain ⟨b5,g13,E5,H5⟩:=hΦ 13 ke;have l_b5:=lt_of_block H5;have r:=r.congr (sc (hΦ 14 ke) (sc g13 (sc (hΦ 12 ke) (sc (hΦ 11 ke) (sc (hΦ 10 ke) (sc (hΦ 9 ke) (sc (hΦ 8 ke) (sc (hΦ 7 ke) (sc (hΦ 6 ke) (sc (hΦ 5 ke) (sc (hΦ 4 ke) (sc (hΦ 3 ke) (sc (hΦ 2 ke) (sc (hΦ 1 ke) (sc (hΦ 0 ke) rfl)))))))))))))));have Z4:=hb.size;have H1:=keep hb H1;obtain ⟨hB,zB⟩:=bon hb hB;refine kA (I (D.zaq a0 (W ((W ((D.za1 a0)+(W (a1 * 3))))+a2)) ([(D.zaz a0 a1),(⟨a2,0,2⟩:Bound)]))) r rfl rfl fun r=>wn (wp_ret ?_);refine zay r rfl rfl ?_
 exact ⟨rfl,hB⟩
def D.za8 (a0:Plan) (a1:Int) (a2:Int):Int:=(D.zaq a0 (IntKind.i64.wrap ((IntKind.i64.wrap ((IntKind.i64.wrap ((D.za2 a0)+(IntKind.i64.wrap (a1 * 5))))+2))+a2)) ([(D.zaH a0 a1),(⟨a2,0,2⟩:Bound)]))
theorem zb4 (w0:World) 
    (a0:Plan) (a1:Int) (a2:Int) :
    Calls Tryz.prog 85 #[.agg (zpe a0).toArray,.int .i64 a1,.int .i64 a2] w0 (zpt (.int .i64 (D.za8 a0 a1 a2)) w0):=by
 refine kN Tryz.func85 rfl 23 rfl rfl fun fr r hB=>?_;refine wsr ?_
 refine kX 23 (.agg (zpe a0).toArray) r rfl rfl fun b1 w2 n3 r=>?_;obtain ⟨E1,Z2,H1,hB,zB⟩:=n3.all hB
 refine kA (I 0) r rfl rfl fun r=>wn (wp_seq ?_);refine zaM 16 [.val (.agg (zpe a0).toArray),.val (.agg (zpe a0).toArray),.val (I (D.za2 a0)),.val (I a1),.val (I (W (a1 * 5))),.val (I (W ((D.za2 a0)+(W (a1 * 5))))),.val (I (W ((W ((D.za2 a0)+(W (a1 * 5))))+2))),.val (I a2),.val (I (W ((W ((W ((D.za2 a0)+(W (a1 * 5))))+2))+a2))),.val (.agg (zpe a0).toArray),.val (I a1),.val (.agg (zpG (D.zaH a0 a1)).toArray),.val (I a2),.val (.agg (zpG (⟨a2,0,2⟩:Bound)).toArray),.slice w2.heap.size (.cells ((boundsC [(D.zaH a0 a1),(⟨a2,0,2⟩:Bound)])).toArray 182 (0,0)) 2,.val (I (D.zaq a0 (W ((W ((W ((D.za2 a0)+(W (a1 * 5))))+2))+a2)) ([(D.zaH a0 a1),(⟨a2,0,2⟩:Bound)])))] mixed r kz (kV (kV (kV (kV (kV (kV (kV (kV (kV (kV (kV (kV (kV (kV (zaJ (Nat.le_refl _) (kV zaB)))))))))))))))) ?_ ?_
 ·
  refine ec r (fun _ u _ b d s=>zag s (cs:=(zpe a0)) (n:=6) rfl (keep b H1) ta23 rfl bz) (ec r (fun _ u _ b d s=>zag s (cs:=(zpe a0)) (n:=6) rfl (keep b H1) ta23 rfl bz) (ec r (fun fr1 u w' hb' hd r'=>zaC r' (args:=[(.agg (zpe a0).toArray)]) (lc hd.1 l0) zqI ((zda _ a0).mono (by rintro _ w2 ⟨rfl,hb2⟩; exact ⟨_,rfl,hb2,rfl⟩))) (ec r (fun _ u _ b d s=>zav s rfl bz) (ec r (fun _ u _ b d s=>zpB s d.1 rfl rfl rfl bz) (ec r (fun _ u _ b d s=>zpB s d.1 d.2.1 rfl rfl bz) (ec r (fun _ u _ b d s=>zpB s d.1 rfl rfl rfl bz) (ec r (fun _ u _ b d s=>zav s rfl bz) (ec r (fun _ u _ b d s=>zpB s d.1 d.2.1 rfl rfl bz) (ec r (fun _ u _ b d s=>zag s (cs:=(zpe a0)) (n:=6) rfl (keep b H1) ta23 rfl bz) (ec r (fun _ u _ b d s=>zav s rfl bz) (ec r (fun fr1 u w' hb' hd r'=>zaC r' (args:=[(.agg (zpe a0).toArray),(I a1)]) (lc hd.1 (lc hd.2.1 l0)) zra ((zeH _ a0 a1).mono (by rintro _ w2 ⟨rfl,hb2⟩; exact ⟨_,rfl,hb2,rfl⟩))) (ec r (fun _ u _ b d s=>zav s rfl bz) (ec r (fun fr1 u w' hb' hd r'=>zfA r' (v:=(.agg (zpG (⟨a2,0,2⟩:Bound)).toArray)) (bs3 (congrArg (fun z=>(0,z)) hd.1) (rfl) (rfl) kz) bz) (ec r (fun fr1 u w' hb' hd r'=>zcp r' (c:=((boundsC [(D.zaH a0 a1),(⟨a2,0,2⟩:Bound)])).toArray) (E:=182) (bs2 (congrArg (fun z=>(0,z)) hd.1) (congrArg (fun z=>(1,z)) hd.2.1) kz) (fun b w2 n2=>⟨n2.below,b,rfl,Nat.le_of_eq n2.eq.symm,n2.at_⟩)) ?_))))))))))))));refine zbt r rfl (fun fr1 u w' hb' hd r'=>?_) ?_
  · obtain ⟨d0,d1,d2,d3,_⟩:=hd; obtain ⟨q2,hq2,_,hr2⟩:=d2; exact zaC r' (args:=[(.agg (zpe a0).toArray),(I (W ((W ((W ((D.za2 a0)+(W (a1 * 5))))+2))+a2))),(.slice (some ⟨q2,0,none⟩) 2 2)]) (lc d0 (lc d1 (lc hq2 l0))) cl94 ((zbK _ a0 (W ((W ((W ((D.za2 a0)+(W (a1 * 5))))+2))+a2)) ([(D.zaH a0 a1),(⟨a2,0,2⟩:Bound)]) hr2 (by first | assumption | decide | (simp; done))).mono (by rintro _ w2 ⟨rfl,hb2⟩; exact ⟨_,rfl,hb2,rfl⟩))
  exact zaW
 intro fr u w4 hb hΦ hne r;obtain ⟨b5,g14,E5,H5⟩:=hΦ 14 ke;have l_b5:=lt_of_block H5;have r:=r.congr (sc (hΦ 15 ke) (sc g14 (sc (hΦ 13 ke) (sc (hΦ 12 ke) (sc (hΦ 11 ke) (sc (hΦ 10 ke) (sc (hΦ 9 ke) (sc (hΦ 8 ke) (sc (hΦ 7 ke) (sc (hΦ 6 ke) (sc (hΦ 5 ke) (sc (hΦ 4 ke) (sc (hΦ 3 ke) (sc (hΦ 2 ke) (sc (hΦ 1 ke) (sc (hΦ 0 ke) rfl))))))))))))))));have Z4:=hb.size;have H1:=keep hb H1;obtain ⟨hB,zB⟩:=bon hb hB;refine kA (I (D.zaq a0 (W ((W ((W ((D.za2 a0)+(W (a1 * 5))))+2))+a2)) ([(D.zaH a0 a1),(⟨a2,0,2⟩:Bound)]))) r rfl rfl fun r=>wn (wp_ret ?_);refine zay r rfl rfl ?_
 exact ⟨rfl,hB⟩
def D.zap (a0:Plan):Bool:=(bif (decide (a0.nodes<1)) then false else (bif (decide (a0.nodes > 1048576)) then false else (bif (decide (a0.threads<1)) then false else (bif (decide (a0.threads > 16)) then false else (bif (decide (a0.domains<0)) then false else (bif (decide (a0.domains > 64)) then false else (bif (decide (a0.buckets≥1)) then (bif (decide (a0.buckets≤256)) then (bif (decide (a0.gen≥1)) then (bif (decide (a0.gen≤1073741823)) then (bif (decide (a0.retire > (IntKind.i64.wrap (3 * a0.threads)))) then (decide (a0.retire≤1024)) else false) else false) else false) else false) else false)))))))
theorem zex (w0:World) 
    (a0:Plan) :
    Calls Tryz.prog 77 #[.agg (zpe a0).toArray] w0 (zpt (.bool (D.zap a0)) w0):=by
 refine kN Tryz.func77 rfl 62 rfl rfl fun fr r hB=>?_;refine wsr ?_
 refine kX 23 (.agg (zpe a0).toArray) r rfl rfl fun b1 w2 n3 r=>?_;obtain ⟨E1,Z2,H1,hB,zB⟩:=n3.all hB
 refine kA (.bool false) r rfl rfl fun r=>wn (wp_seq (wsr (kF 0 r rfl zeQ rfl fun r=>kL (I a0.nodes) r rfl H1 to3 rfl rfl fun r=>kB r rfl rfl rfl rfl rfl fun r=>kM (.bool (decide (a0.nodes<1))) r rfl rfl fun r=>?_)));refine zaD (decide (a0.nodes<1)) (fun h4=>?_) (fun h4=>?_)
 ·
  refine s0 r h4 fun fr r=>s0 r h4 fun fr r=>s0 r h4 fun fr r=>za0 (.bool true) r (fun R=>zam r (b:=true) (congrArg Value.bool h4) rfl) rfl fun fr r=>kM (.bool true) r rfl rfl fun r=>s0 r (rfl:true=_) fun fr r=>s0 r (rfl:true=_) fun fr r=>s0 r (rfl:true=_) fun fr r=>za0 (.bool true) r (fun R=>zam r (b:=true) (congrArg Value.bool (rfl:true=_)) rfl) rfl fun fr r=>kM (.bool true) r rfl rfl fun r=>s0 r (rfl:true=_) fun fr r=>s0 r (rfl:true=_) fun fr r=>s0 r (rfl:true=_) fun fr r=>za0 (.bool true) r (fun R=>zam r (b:=true) (congrArg Value.bool (rfl:true=_)) rfl) rfl fun fr r=>kM (.bool true) r rfl rfl fun r=>s0 r (rfl:true=_) fun fr r=>s0 r (rfl:true=_) fun fr r=>s0 r (rfl:true=_) fun fr r=>za0 (.bool true) r (fun R=>zam r (b:=true) (congrArg Value.bool (rfl:true=_)) rfl) rfl fun fr r=>kM (.bool true) r rfl rfl fun r=>s0 r (rfl:true=_) fun fr r=>s0 r (rfl:true=_) fun fr r=>s0 r (rfl:true=_) fun fr r=>za0 (.bool true) r (fun R=>zam r (b:=true) (congrArg Value.bool (rfl:true=_)) rfl) rfl fun fr r=>wn ?_;refine wp_cond_split (t:=true) (r.ev rfl) (fun _=>?_) (fun h=>absurd ((rfl:true=_).symm.trans h) ke)
  refine wsr (kA (.bool false) r rfl rfl fun r=>wn (wp_ret ?_));have hd:D.zap a0=false:=(zal h4).trans (rfl)
  refine zay r rfl rfl ?_;rw [hd];exact ⟨rfl,hB⟩
 refine s1 r h4 (kF 0 r rfl zeQ rfl fun r=>s1 r h4 (kL (I a0.nodes) r rfl H1 to3 rfl rfl fun r=>s1 r h4 (kB r rfl rfl rfl rfl rfl fun r=>za0 (.bool (decide (a0.nodes > 1048576))) r (fun R=>zam r (b:=false) (congrArg Value.bool h4) rfl) rfl fun fr r=>kM (.bool (decide (a0.nodes > 1048576))) r rfl rfl fun r=>?_)));refine zaD (decide (a0.nodes > 1048576)) (fun h5=>?_) (fun h5=>?_)
 ·
  refine s0 r h5 fun fr r=>s0 r h5 fun fr r=>s0 r h5 fun fr r=>za0 (.bool true) r (fun R=>zam r (b:=true) (congrArg Value.bool h5) rfl) rfl fun fr r=>kM (.bool true) r rfl rfl fun r=>s0 r (rfl:true=_) fun fr r=>s0 r (rfl:true=_) fun fr r=>s0 r (rfl:true=_) fun fr r=>za0 (.bool true) r (fun R=>zam r (b:=true) (congrArg Value.bool (rfl:true=_)) rfl) rfl fun fr r=>kM (.bool true) r rfl rfl fun r=>s0 r (rfl:true=_) fun fr r=>s0 r (rfl:true=_) fun fr r=>s0 r (rfl:true=_) fun fr r=>za0 (.bool true) r (fun R=>zam r (b:=true) (congrArg Value.bool (rfl:true=_)) rfl) rfl fun fr r=>kM (.bool true) r rfl rfl fun r=>s0 r (rfl:true=_) fun fr r=>s0 r (rfl:true=_) fun fr r=>s0 r (rfl:true=_) fun fr r=>za0 (.bool true) r (fun R=>zam r (b:=true) (congrArg Value.bool (rfl:true=_)) rfl) rfl fun fr r=>wn ?_;refine wp_cond_split (t:=true) (r.ev rfl) (fun _=>?_) (fun h=>absurd ((rfl:true=_).symm.trans h) ke)
  refine wsr (kA (.bool false) r rfl rfl fun r=>wn (wp_ret ?_));have hd:D.zap a0=false:=(zaf h4).trans ((zal h5).trans (rfl))
  refine zay r rfl rfl ?_;rw [hd];exact ⟨rfl,hB⟩
 refine s1 r h5 (kF 0 r rfl zid rfl fun r=>s1 r h5 (kL (I a0.threads) r rfl H1 to3 rfl rfl fun r=>s1 r h5 (kB r rfl rfl rfl rfl rfl fun r=>za0 (.bool (decide (a0.threads<1))) r (fun R=>zam r (b:=false) (congrArg Value.bool h5) rfl) rfl fun fr r=>kM (.bool (decide (a0.threads<1))) r rfl rfl fun r=>?_)));refine zaD (decide (a0.threads<1)) (fun h6=>?_) (fun h6=>?_)
 ·
  refine s0 r h6 fun fr r=>s0 r h6 fun fr r=>s0 r h6 fun fr r=>za0 (.bool true) r (fun R=>zam r (b:=true) (congrArg Value.bool h6) rfl) rfl fun fr r=>kM (.bool true) r rfl rfl fun r=>s0 r (rfl:true=_) fun fr r=>s0 r (rfl:true=_) fun fr r=>s0 r (rfl:true=_) fun fr r=>za0 (.bool true) r (fun R=>zam r (b:=true) (congrArg Value.bool (rfl:true=_)) rfl) rfl fun fr r=>kM (.bool true) r rfl rfl fun r=>s0 r (rfl:true=_) fun fr r=>s0 r (rfl:true=_) fun fr r=>s0 r (rfl:true=_) fun fr r=>za0 (.bool true) r (fun R=>zam r (b:=true) (congrArg Value.bool (rfl:true=_)) rfl) rfl fun fr r=>wn ?_;refine wp_cond_split (t:=true) (r.ev rfl) (fun _=>?_) (fun h=>absurd ((rfl:true=_).symm.trans h) ke)
  refine wsr (kA (.bool false) r rfl rfl fun r=>wn (wp_ret ?_));have hd:D.zap a0=false:=(zaf h4).trans ((zaf h5).trans ((zal h6).trans (rfl)))
  refine zay r rfl rfl ?_;rw [hd];exact ⟨rfl,hB⟩
 refine s1 r h6 (kF 0 r rfl zid rfl fun r=>s1 r h6 (kL (I a0.threads) r rfl H1 to3 rfl rfl fun r=>s1 r h6 (kB r rfl rfl rfl rfl rfl fun r=>za0 (.bool (decide (a0.threads > 16))) r (fun R=>zam r (b:=false) (congrArg Value.bool h6) rfl) rfl fun fr r=>kM (.bool (decide (a0.threads > 16))) r rfl rfl fun r=>?_)));refine zaD (decide (a0.threads > 16)) (fun h7=>?_) (fun h7=>?_)
 ·
  refine s0 r h7 fun fr r=>s0 r h7 fun fr r=>s0 r h7 fun fr r=>za0 (.bool true) r (fun R=>zam r (b:=true) (congrArg Value.bool h7) rfl) rfl fun fr r=>kM (.bool true) r rfl rfl fun r=>s0 r (rfl:true=_) fun fr r=>s0 r (rfl:true=_) fun fr r=>s0 r (rfl:true=_) fun fr r=>za0 (.bool true) r (fun R=>zam r (b:=true) (congrArg Value.bool (rfl:true=_)) rfl) rfl fun fr r=>wn ?_;refine wp_cond_split (t:=true) (r.ev rfl) (fun _=>?_) (fun h=>absurd ((rfl:true=_).symm.trans h) ke)
  refine wsr (kA (.bool false) r rfl rfl fun r=>wn (wp_ret ?_));have hd:D.zap a0=false:=(zaf h4).trans ((zaf h5).trans ((zaf h6).trans ((zal h7).trans (rfl))))
  refine zay r rfl rfl ?_;rw [hd];exact ⟨rfl,hB⟩
 refine s1 r h7 (kF 0 r rfl zjN rfl fun r=>s1 r h7 (kL (I a0.domains) r rfl H1 to3 rfl rfl fun r=>s1 r h7 (kB r rfl rfl rfl rfl rfl fun r=>za0 (.bool (decide (a0.domains<0))) r (fun R=>zam r (b:=false) (congrArg Value.bool h7) rfl) rfl fun fr r=>kM (.bool (decide (a0.domains<0))) r rfl rfl fun r=>?_)));refine zaD (decide (a0.domains<0)) (fun h8=>?_) (fun h8=>?_)
 ·
  refine s0 r h8 fun fr r=>s0 r h8 fun fr r=>s0 r h8 fun fr r=>za0 (.bool true) r (fun R=>zam r (b:=true) (congrArg Value.bool h8) rfl) rfl fun fr r=>wn ?_;refine wp_cond_split (t:=true) (r.ev rfl) (fun _=>?_) (fun h=>absurd ((rfl:true=_).symm.trans h) ke)
  refine wsr (kA (.bool false) r rfl rfl fun r=>wn (wp_ret ?_));have hd:D.zap a0=false:=(zaf h4).trans ((zaf h5).trans ((zaf h6).trans ((zaf h7).trans ((zal h8).trans (rfl)))))
  refine zay r rfl rfl ?_;rw [hd];exact ⟨rfl,hB⟩
 refine s1 r h8 (kF 0 r rfl zjN rfl fun r=>s1 r h8 (kL (I a0.domains) r rfl H1 to3 rfl rfl fun r=>s1 r h8 (kB r rfl rfl rfl rfl rfl fun r=>za0 (.bool (decide (a0.domains > 64))) r (fun R=>zam r (b:=false) (congrArg Value.bool h8) rfl) rfl fun fr r=>wn ?_)));refine wp_cond_split (t:=(decide (a0.domains > 64))) (r.ev rfl) (fun h9=>?_) (fun h9=>?_)
 ·
  refine wsr (kA (.bool false) r rfl rfl fun r=>wn (wp_ret ?_));have hd:D.zap a0=false:=(zaf h4).trans ((zaf h5).trans ((zaf h6).trans ((zaf h7).trans ((zaf h8).trans ((zal h9).trans (rfl))))))
  refine zay r rfl rfl ?_;rw [hd];exact ⟨rfl,hB⟩
 refine wp_skip (wsr (kF 0 r rfl zlJ rfl fun r=>kL (I a0.buckets) r rfl H1 to3 rfl rfl fun r=>kB r rfl rfl rfl rfl rfl fun r=>kM (.bool (decide (a0.buckets≥1))) r rfl rfl fun r=>?_));refine zaD (decide (a0.buckets≥1)) (fun h10=>?_) (fun h10=>?_)
 ·
  refine s1 r h10 (kF 0 r rfl zlJ rfl fun r=>s1 r h10 (kL (I a0.buckets) r rfl H1 to3 rfl rfl fun r=>s1 r h10 (kB r rfl rfl rfl rfl rfl fun r=>za0 (.bool (decide (a0.buckets≤256))) r (fun R=>zam r (b:=true) (congrArg Value.bool h10) rfl) rfl fun fr r=>kM (.bool (decide (a0.buckets≤256))) r rfl rfl fun r=>?_)));refine zaD (decide (a0.buckets≤256)) (fun h11=>?_) (fun h11=>?_)
  ·
   refine s1 r h11 (kF 0 r rfl zmL rfl fun r=>s1 r h11 (kL (I a0.gen) r rfl H1 to3 rfl rfl fun r=>s1 r h11 (kB r rfl rfl rfl rfl rfl fun r=>za0 (.bool (decide (a0.gen≥1))) r (fun R=>zam r (b:=true) (congrArg Value.bool h11) rfl) rfl fun fr r=>kM (.bool (decide (a0.gen≥1))) r rfl rfl fun r=>?_)));refine zaD (decide (a0.gen≥1)) (fun h12=>?_) (fun h12=>?_)
   ·
    refine s1 r h12 (kF 0 r rfl zmL rfl fun r=>s1 r h12 (kL (I a0.gen) r rfl H1 to3 rfl rfl fun r=>s1 r h12 (kB r rfl rfl rfl rfl rfl fun r=>za0 (.bool (decide (a0.gen≤1073741823))) r (fun R=>zam r (b:=true) (congrArg Value.bool h12) rfl) rfl fun fr r=>kM (.bool (decide (a0.gen≤1073741823))) r rfl rfl fun r=>?_)));refine zaD (decide (a0.gen≤1073741823)) (fun h13=>?_) (fun h13=>?_)
    ·
     refine s1 r h13 (kF 0 r rfl zhc rfl fun r=>s1 r h13 (kL (I a0.retire) r rfl H1 to3 rfl rfl fun r=>s1 r h13 (kF 0 r rfl zid rfl fun r=>s1 r h13 (kL (I a0.threads) r rfl H1 to3 rfl rfl fun r=>s1 r h13 (kB r rfl rfl rfl rfl rfl fun r=>s1 r h13 (kB r rfl rfl rfl rfl rfl fun r=>za0 (.bool (decide (a0.retire > (W (3 * a0.threads))))) r (fun R=>zam r (b:=true) (congrArg Value.bool h13) rfl) rfl fun fr r=>kM (.bool (decide (a0.retire > (W (3 * a0.threads))))) r rfl rfl fun r=>?_))))));refine zaD (decide (a0.retire > (W (3 * a0.threads)))) (fun h14=>?_) (fun h14=>?_)
     ·
      refine s1 r h14 (kF 0 r rfl zhc rfl fun r=>s1 r h14 (kL (I a0.retire) r rfl H1 to3 rfl rfl fun r=>s1 r h14 (kB r rfl rfl rfl rfl rfl fun r=>za0 (.bool (decide (a0.retire≤1024))) r (fun R=>zam r (b:=true) (congrArg Value.bool h14) rfl) rfl fun fr r=>kA (.bool (decide (a0.retire≤1024))) r rfl rfl fun r=>wn (wp_ret ?_))));have hd:D.zap a0=(decide (a0.retire≤1024)):=(zaf h4).trans ((zaf h5).trans ((zaf h6).trans ((zaf h7).trans ((zaf h8).trans ((zaf h9).trans ((zal h10).trans ((zal h11).trans ((zal h12).trans ((zal h13).trans ((zal h14).trans (rfl)))))))))))
      refine zay r rfl rfl ?_;rw [hd];exact ⟨rfl,hB⟩
     refine s0 r h14 fun fr r=>s0 r h14 fun fr r=>s0 r h14 fun fr r=>za0 (.bool false) r (fun R=>zam r (b:=false) (congrArg Value.bool h14) rfl) rfl fun fr r=>kA (.bool false) r rfl rfl fun r=>wn (wp_ret ?_);have hd:D.zap a0=false:=(zaf h4).trans ((zaf h5).trans ((zaf h6).trans ((zaf h7).trans ((zaf h8).trans ((zaf h9).trans ((zal h10).trans ((zal h11).trans ((zal h12).trans ((zal h13).trans ((zaf h14).trans (rfl)))))))))))
     refine zay r rfl rfl ?_;rw [hd];exact ⟨rfl,hB⟩
    refine s0 r h13 fun fr r=>s0 r h13 fun fr r=>s0 r h13 fun fr r=>s0 r h13 fun fr r=>s0 r h13 fun fr r=>s0 r h13 fun fr r=>za0 (.bool false) r (fun R=>zam r (b:=false) (congrArg Value.bool h13) rfl) rfl fun fr r=>kM (.bool false) r rfl rfl fun r=>s0 r (rfl:false=_) fun fr r=>s0 r (rfl:false=_) fun fr r=>s0 r (rfl:false=_) fun fr r=>za0 (.bool false) r (fun R=>zam r (b:=false) (congrArg Value.bool (rfl:false=_)) rfl) rfl fun fr r=>kA (.bool false) r rfl rfl fun r=>wn (wp_ret ?_);have hd:D.zap a0=false:=(zaf h4).trans ((zaf h5).trans ((zaf h6).trans ((zaf h7).trans ((zaf h8).trans ((zaf h9).trans ((zal h10).trans ((zal h11).trans ((zal h12).trans ((zaf h13).trans (rfl))))))))))
    refine zay r rfl rfl ?_;rw [hd];exact ⟨rfl,hB⟩
   refine s0 r h12 fun fr r=>s0 r h12 fun fr r=>s0 r h12 fun fr r=>za0 (.bool false) r (fun R=>zam r (b:=false) (congrArg Value.bool h12) rfl) rfl fun fr r=>kM (.bool false) r rfl rfl fun r=>s0 r (rfl:false=_) fun fr r=>s0 r (rfl:false=_) fun fr r=>s0 r (rfl:false=_) fun fr r=>s0 r (rfl:false=_) fun fr r=>s0 r (rfl:false=_) fun fr r=>s0 r (rfl:false=_) fun fr r=>za0 (.bool false) r (fun R=>zam r (b:=false) (congrArg Value.bool (rfl:false=_)) rfl) rfl fun fr r=>kM (.bool false) r rfl rfl fun r=>s0 r (rfl:false=_) fun fr r=>s0 r (rfl:false=_) fun fr r=>s0 r (rfl:false=_) fun fr r=>za0 (.bool false) r (fun R=>zam r (b:=false) (congrArg Value.bool (rfl:false=_)) rfl) rfl fun fr r=>kA (.bool false) r rfl rfl fun r=>wn (wp_ret ?_);have hd:D.zap a0=false:=(zaf h4).trans ((zaf h5).trans ((zaf h6).trans ((zaf h7).trans ((zaf h8).trans ((zaf h9).trans ((zal h10).trans ((zal h11).trans ((zaf h12).trans (rfl)))))))))
   refine zay r rfl rfl ?_;rw [hd];exact ⟨rfl,hB⟩
  refine s0 r h11 fun fr r=>s0 r h11 fun fr r=>s0 r h11 fun fr r=>za0 (.bool false) r (fun R=>zam r (b:=false) (congrArg Value.bool h11) rfl) rfl fun fr r=>kM (.bool false) r rfl rfl fun r=>s0 r (rfl:false=_) fun fr r=>s0 r (rfl:false=_) fun fr r=>s0 r (rfl:false=_) fun fr r=>za0 (.bool false) r (fun R=>zam r (b:=false) (congrArg Value.bool (rfl:false=_)) rfl) rfl fun fr r=>kM (.bool false) r rfl rfl fun r=>s0 r (rfl:false=_) fun fr r=>s0 r (rfl:false=_) fun fr r=>s0 r (rfl:false=_) fun fr r=>s0 r (rfl:false=_) fun fr r=>s0 r (rfl:false=_) fun fr r=>s0 r (rfl:false=_) fun fr r=>za0 (.bool false) r (fun R=>zam r (b:=false) (congrArg Value.bool (rfl:false=_)) rfl) rfl fun fr r=>kM (.bool false) r rfl rfl fun r=>s0 r (rfl:false=_) fun fr r=>s0 r (rfl:false=_) fun fr r=>s0 r (rfl:false=_) fun fr r=>za0 (.bool false) r (fun R=>zam r (b:=false) (congrArg Value.bool (rfl:false=_)) rfl) rfl fun fr r=>kA (.bool false) r rfl rfl fun r=>wn (wp_ret ?_);have hd:D.zap a0=false:=(zaf h4).trans ((zaf h5).trans ((zaf h6).trans ((zaf h7).trans ((zaf h8).trans ((zaf h9).trans ((zal h10).trans ((zaf h11).trans (rfl))))))))
  refine zay r rfl rfl ?_;rw [hd];exact ⟨rfl,hB⟩
 refine s0 r h10 fun fr r=>s0 r h10 fun fr r=>s0 r h10 fun fr r=>za0 (.bool false) r (fun R=>zam r (b:=false) (congrArg Value.bool h10) rfl) rfl fun fr r=>kM (.bool false) r rfl rfl fun r=>s0 r (rfl:false=_) fun fr r=>s0 r (rfl:false=_) fun fr r=>s0 r (rfl:false=_) fun fr r=>za0 (.bool false) r (fun R=>zam r (b:=false) (congrArg Value.bool (rfl:false=_)) rfl) rfl fun fr r=>kM (.bool false) r rfl rfl fun r=>s0 r (rfl:false=_) fun fr r=>s0 r (rfl:false=_) fun fr r=>s0 r (rfl:false=_) fun fr r=>za0 (.bool false) r (fun R=>zam r (b:=false) (congrArg Value.bool (rfl:false=_)) rfl) rfl fun fr r=>kM (.bool false) r rfl rfl fun r=>s0 r (rfl:false=_) fun fr r=>s0 r (rfl:false=_) fun fr r=>s0 r (rfl:false=_) fun fr r=>s0 r (rfl:false=_) fun fr r=>s0 r (rfl:false=_) fun fr r=>s0 r (rfl:false=_) fun fr r=>za0 (.bool false) r (fun R=>zam r (b:=false) (congrArg Value.bool (rfl:false=_)) rfl) rfl fun fr r=>kM (.bool false) r rfl rfl fun r=>s0 r (rfl:false=_) fun fr r=>s0 r (rfl:false=_) fun fr r=>s0 r (rfl:false=_) fun fr r=>za0 (.bool false) r (fun R=>zam r (b:=false) (congrArg Value.bool (rfl:false=_)) rfl) rfl fun fr r=>kA (.bool false) r rfl rfl fun r=>wn (wp_ret ?_);have hd:D.zap a0=false:=(zaf h4).trans ((zaf h5).trans ((zaf h6).trans ((zaf h7).trans ((zaf h8).trans ((zaf h9).trans ((zaf h10).trans (rfl)))))))
 refine zay r rfl rfl ?_;rw [hd];exact ⟨rfl,hB⟩
def D.zba (a0:Plan):Bool:=(bif (!(D.zap a0)) then true else (bif (decide (a0.nodes≤40)) then (bif (decide (a0.retire≤40)) then (bif (decide (a0.domains≤6)) then (decide (a0.buckets≤10)) else false) else false) else false))
theorem ziD (w0:World) 
    (a0:Plan) :
    Calls Tryz.prog 76 #[.agg (zpe a0).toArray] w0 (zpt (.bool (D.zba a0)) w0):=by
 refine kN Tryz.func76 rfl 26 rfl rfl fun fr r hB=>?_;refine wsr ?_
 refine kX 23 (.agg (zpe a0).toArray) r rfl rfl fun b1 w2 n3 r=>?_;obtain ⟨E1,Z2,H1,hB,zB⟩:=n3.all hB
 refine kA (.bool false) r rfl rfl fun r=>wn (wsr (kG (zpe a0) 6 r rfl H1 ta23 rfl rfl fun r=>?_));refine kE r (zex w2 a0) rfl cl77 rfl fun w4 hb r=>?_
 have Z4:=hb.size;have H1:=keep hb H1;obtain ⟨hB,zB⟩:=bon hb hB;refine za0 (.bool (!(D.zap a0))) r (fun R=>y_un r (u:=(.bool (D.zap a0))) rfl rfl) rfl fun fr r=>kM (.bool (!(D.zap a0))) r rfl rfl fun r=>?_;refine zaD (!(D.zap a0)) (fun h5=>?_) (fun h5=>?_)
 ·
  refine s0 r h5 fun fr r=>s0 r h5 fun fr r=>s0 r h5 fun fr r=>s0 r h5 fun fr r=>?_;refine zcF r rfl rfl rfl (v:=undef) rfl (by simp [zps,undef]) fun fr r=>?_
  refine zcF r rfl rfl rfl (v:=undef) rfl (by simp [zps,undef]) fun fr r=>?_;refine zcF r rfl rfl rfl (v:=undef) rfl (by simp [zps,undef]) fun fr r=>s0 r h5 fun fr r=>s0 r h5 fun fr r=>?_
  refine zcF r rfl rfl rfl (v:=undef) rfl (by simp [zps,undef]) fun fr r=>?_;refine zcF r rfl rfl rfl (v:=undef) rfl (by simp [zps,undef]) fun fr r=>?_
  refine zcF r rfl rfl rfl (v:=undef) rfl (by simp [zps,undef]) fun fr r=>s0 r h5 fun fr r=>s0 r h5 fun fr r=>?_;refine zcF r rfl rfl rfl (v:=undef) rfl (by simp [zps,undef]) fun fr r=>?_
  refine zcF r rfl rfl rfl (v:=undef) rfl (by simp [zps,undef]) fun fr r=>?_;refine zcF r rfl rfl rfl (v:=undef) rfl (by simp [zps,undef]) fun fr r=>s0 r h5 fun fr r=>za0 (.bool true) r (fun R=>zam r (b:=true) (congrArg Value.bool h5) rfl) rfl fun fr r=>kA (.bool true) r rfl rfl fun r=>wn (wp_ret ?_)
  have hd:D.zba a0=true:=(zal h5).trans (rfl);refine zay r rfl rfl ?_;rw [hd];exact ⟨rfl,hB⟩
 refine s1 r h5 (kF 0 r rfl zeQ rfl fun r=>s1 r h5 (kL (I a0.nodes) r rfl H1 to3 rfl rfl fun r=>s1 r h5 (kB r rfl rfl rfl rfl rfl fun r=>s1 r h5 (kM (.bool (decide (a0.nodes≤40))) r rfl rfl fun r=>?_))));refine zaD (decide (a0.nodes≤40)) (fun h6=>?_) (fun h6=>?_)
 ·
  refine s1 r h6 (kF 0 r rfl zhc rfl fun r=>s1 r h6 (kL (I a0.retire) r rfl H1 to3 rfl rfl fun r=>s1 r h6 (kB r rfl rfl rfl rfl rfl fun r=>s1 r h5 (za0 (.bool (decide (a0.retire≤40))) r (fun R=>zam r (b:=true) (congrArg Value.bool h6) rfl) rfl fun fr r=>s1 r h5 (kM (.bool (decide (a0.retire≤40))) r rfl rfl fun r=>?_)))));refine zaD (decide (a0.retire≤40)) (fun h7=>?_) (fun h7=>?_)
  ·
   refine s1 r h7 (kF 0 r rfl zjN rfl fun r=>s1 r h7 (kL (I a0.domains) r rfl H1 to3 rfl rfl fun r=>s1 r h7 (kB r rfl rfl rfl rfl rfl fun r=>s1 r h5 (za0 (.bool (decide (a0.domains≤6))) r (fun R=>zam r (b:=true) (congrArg Value.bool h7) rfl) rfl fun fr r=>s1 r h5 (kM (.bool (decide (a0.domains≤6))) r rfl rfl fun r=>?_)))));refine zaD (decide (a0.domains≤6)) (fun h8=>?_) (fun h8=>?_)
   ·
    refine s1 r h8 (kF 0 r rfl zlJ rfl fun r=>s1 r h8 (kL (I a0.buckets) r rfl H1 to3 rfl rfl fun r=>s1 r h8 (kB r rfl rfl rfl rfl rfl fun r=>s1 r h5 (za0 (.bool (decide (a0.buckets≤10))) r (fun R=>zam r (b:=true) (congrArg Value.bool h8) rfl) rfl fun fr r=>za0 (.bool (decide (a0.buckets≤10))) r (fun R=>zam r (b:=false) (congrArg Value.bool h5) rfl) rfl fun fr r=>kA (.bool (decide (a0.buckets≤10))) r rfl rfl fun r=>wn (wp_ret ?_)))));have hd:D.zba a0=(decide (a0.buckets≤10)):=(zaf h5).trans ((zal h6).trans ((zal h7).trans ((zal h8).trans (rfl))))
    refine zay r rfl rfl ?_;rw [hd];exact ⟨rfl,hB⟩
   refine s0 r h8 fun fr r=>s0 r h8 fun fr r=>s0 r h8 fun fr r=>s1 r h5 (za0 (.bool false) r (fun R=>zam r (b:=false) (congrArg Value.bool h8) rfl) rfl fun fr r=>za0 (.bool false) r (fun R=>zam r (b:=false) (congrArg Value.bool h5) rfl) rfl fun fr r=>kA (.bool false) r rfl rfl fun r=>wn (wp_ret ?_));have hd:D.zba a0=false:=(zaf h5).trans ((zal h6).trans ((zal h7).trans ((zaf h8).trans (rfl))))
   refine zay r rfl rfl ?_;rw [hd];exact ⟨rfl,hB⟩
  refine s0 r h7 fun fr r=>s0 r h7 fun fr r=>s0 r h7 fun fr r=>s1 r h5 (za0 (.bool false) r (fun R=>zam r (b:=false) (congrArg Value.bool h7) rfl) rfl fun fr r=>s1 r h5 (kM (.bool false) r rfl rfl fun r=>s0 r (rfl:false=_) fun fr r=>s0 r (rfl:false=_) fun fr r=>s0 r (rfl:false=_) fun fr r=>s1 r h5 (za0 (.bool false) r (fun R=>zam r (b:=false) (congrArg Value.bool (rfl:false=_)) rfl) rfl fun fr r=>za0 (.bool false) r (fun R=>zam r (b:=false) (congrArg Value.bool h5) rfl) rfl fun fr r=>kA (.bool false) r rfl rfl fun r=>wn (wp_ret ?_))));have hd:D.zba a0=false:=(zaf h5).trans ((zal h6).trans ((zaf h7).trans (rfl)))
  refine zay r rfl rfl ?_;rw [hd];exact ⟨rfl,hB⟩
 refine s0 r h6 fun fr r=>s0 r h6 fun fr r=>s0 r h6 fun fr r=>s1 r h5 (za0 (.bool false) r (fun R=>zam r (b:=false) (congrArg Value.bool h6) rfl) rfl fun fr r=>s1 r h5 (kM (.bool false) r rfl rfl fun r=>s0 r (rfl:false=_) fun fr r=>s0 r (rfl:false=_) fun fr r=>s0 r (rfl:false=_) fun fr r=>s1 r h5 (za0 (.bool false) r (fun R=>zam r (b:=false) (congrArg Value.bool (rfl:false=_)) rfl) rfl fun fr r=>s1 r h5 (kM (.bool false) r rfl rfl fun r=>s0 r (rfl:false=_) fun fr r=>s0 r (rfl:false=_) fun fr r=>s0 r (rfl:false=_) fun fr r=>s1 r h5 (za0 (.bool false) r (fun R=>zam r (b:=false) (congrArg Value.bool (rfl:false=_)) rfl) rfl fun fr r=>za0 (.bool false) r (fun R=>zam r (b:=false) (congrArg Value.bool h5) rfl) rfl fun fr r=>kA (.bool false) r rfl rfl fun r=>wn (wp_ret ?_))))));have hd:D.zba a0=false:=(zaf h5).trans ((zaf h6).trans (rfl))
 refine zay r rfl rfl ?_;rw [hd];exact ⟨rfl,hB⟩
def D.zbz (a0:Plan) (a1:Int):Bound:=(⟨a1,0,(IntKind.i64.wrap (a0.domains - 1))⟩:Bound)
theorem zib (w0:World) 
    (a0:Plan) (a1:Int) :
    Calls Tryz.prog 96 #[.agg (zpe a0).toArray,.int .i64 a1] w0 (zpt (.agg (zpG (D.zbz a0 a1)).toArray) w0):=by
 refine kN Tryz.func96 rfl 10 rfl rfl fun fr r hB=>?_;refine wsr ?_
 refine kX 23 (.agg (zpe a0).toArray) r rfl rfl fun b1 w2 n3 r=>?_;obtain ⟨E1,Z2,H1,hB,zB⟩:=n3.all hB
 refine za7 (.cells ((zpG (⟨0,0,0⟩:Bound))).toArray 182 (0,0)) r (fun R=>za6 zrb) rfl fun fr b4 w5 n6 r=>?_;have H1:=keep n6.below H1
 obtain ⟨E4,Z5,H4,hB,zB⟩:=n6.all hB;refine wn (wsr (kM (I a1) r rfl rfl fun r=>kF 0 r rfl zjN rfl fun r=>kL (I a0.domains) r rfl H1 to3 rfl rfl fun r=>kB r rfl rfl rfl rfl rfl fun r=>kU (.agg (zpG (⟨a1,0,(W (a0.domains - 1))⟩:Bound)).toArray) r kz rfl fun r=>?_));refine zaS (.cells ((zpG (⟨a1,0,(W (a0.domains - 1))⟩:Bound))).toArray 182 (0,0)) r (fun R=>zaN r (o:=0) (v:=(.agg (zpG (⟨a1,0,(W (a0.domains - 1))⟩:Bound)).toArray)) rfl rfl H4 zrl (Nat.le_of_ble_eq_true rfl) rfl rfl) rfl fun fr w7 u8 r=>?_
 have Z7:=u8.size;have H1:=u8.keep H1 kw
 have H4:=u8.at_;obtain ⟨hB,zB⟩:=u8.on hB kw
 refine wn (wp_ret ?_);refine za5 r rfl rfl H4 (k:=3) rfl zre ?_;exact ⟨rfl,hB⟩
def D.zax (a0:Plan) (a1:Int) (a2:Int):Int:=(D.zaq a0 (IntKind.i64.wrap ((IntKind.i64.wrap (2+(IntKind.i64.wrap (a1 * (IntKind.i64.wrap (1+(D.zah a0)))))))+a2)) ([(D.zbz a0 a1),(⟨a2,0,(IntKind.i64.wrap ((D.zah a0) - 1))⟩:Bound)]))
theorem zeD (w0:World) 
    (a0:Plan) (a1:Int) (a2:Int) :
    Calls Tryz.prog 49 #[.agg (zpe a0).toArray,.int .i64 a1,.int .i64 a2] w0 (zpt (.int .i64 (D.zax a0 a1 a2)) w0):=by
 refine kN Tryz.func49 rfl 26 rfl rfl fun fr r hB=>?_;refine wsr ?_
 refine kX 23 (.agg (zpe a0).toArray) r rfl rfl fun b1 w2 n3 r=>?_;obtain ⟨E1,Z2,H1,hB,zB⟩:=n3.all hB
 refine kA (I 0) r rfl rfl fun r=>wn (wp_seq ?_);refine zaM 19 [.val (.agg (zpe a0).toArray),.val (I a1),.val (.agg (zpe a0).toArray),.val (I (D.zah a0)),.val (I (W (1+(D.zah a0)))),.val (I (W (a1 * (W (1+(D.zah a0)))))),.val (I (W (2+(W (a1 * (W (1+(D.zah a0)))))))),.val (I a2),.val (I (W ((W (2+(W (a1 * (W (1+(D.zah a0)))))))+a2))),.val (.agg (zpe a0).toArray),.val (I a1),.val (.agg (zpG (D.zbz a0 a1)).toArray),.val (I a2),.val (.agg (zpe a0).toArray),.val (I (D.zah a0)),.val (I (W ((D.zah a0) - 1))),.val (.agg (zpG (⟨a2,0,(W ((D.zah a0) - 1))⟩:Bound)).toArray),.slice w2.heap.size (.cells ((boundsC [(D.zbz a0 a1),(⟨a2,0,(W ((D.zah a0) - 1))⟩:Bound)])).toArray 182 (0,0)) 2,.val (I (D.zaq a0 (W ((W (2+(W (a1 * (W (1+(D.zah a0)))))))+a2)) ([(D.zbz a0 a1),(⟨a2,0,(W ((D.zah a0) - 1))⟩:Bound)])))] mixed r kz (kV (kV (kV (kV (kV (kV (kV (kV (kV (kV (kV (kV (kV (kV (kV (kV (kV (zaJ (Nat.le_refl _) (kV zaB))))))))))))))))))) ?_ ?_
 ·
  refine ec r (fun _ u _ b d s=>zag s (cs:=(zpe a0)) (n:=6) rfl (keep b H1) ta23 rfl bz) (ec r (fun _ u _ b d s=>zav s rfl bz) (ec r (fun _ u _ b d s=>zag s (cs:=(zpe a0)) (n:=6) rfl (keep b H1) ta23 rfl bz) (ec r (fun fr1 u w' hb' hd r'=>zaC r' (args:=[(.agg (zpe a0).toArray)]) (lc hd.1 l0) cl95 ((zen _ a0).mono (by rintro _ w2 ⟨rfl,hb2⟩; exact ⟨_,rfl,hb2,rfl⟩))) (ec r (fun _ u _ b d s=>zpB s rfl d.1 rfl rfl bz) (ec r (fun _ u _ b d s=>zpB s d.1 d.2.1 rfl rfl bz) (ec r (fun _ u _ b d s=>zpB s rfl d.1 rfl rfl bz) (ec r (fun _ u _ b d s=>zav s rfl bz) (ec r (fun _ u _ b d s=>zpB s d.1 d.2.1 rfl rfl bz) (ec r (fun _ u _ b d s=>zag s (cs:=(zpe a0)) (n:=6) rfl (keep b H1) ta23 rfl bz) (ec r (fun _ u _ b d s=>zav s rfl bz) (ec r (fun fr1 u w' hb' hd r'=>zaC r' (args:=[(.agg (zpe a0).toArray),(I a1)]) (lc hd.1 (lc hd.2.1 l0)) cl96 ((zib _ a0 a1).mono (by rintro _ w2 ⟨rfl,hb2⟩; exact ⟨_,rfl,hb2,rfl⟩))) (ec r (fun _ u _ b d s=>zav s rfl bz) (ec r (fun _ u _ b d s=>zag s (cs:=(zpe a0)) (n:=6) rfl (keep b H1) ta23 rfl bz) (ec r (fun fr1 u w' hb' hd r'=>zaC r' (args:=[(.agg (zpe a0).toArray)]) (lc hd.1 l0) cl95 ((zen _ a0).mono (by rintro _ w2 ⟨rfl,hb2⟩; exact ⟨_,rfl,hb2,rfl⟩))) (ec r (fun _ u _ b d s=>zpB s d.1 rfl rfl rfl bz) (ec r (fun fr1 u w' hb' hd r'=>zfA r' (v:=(.agg (zpG (⟨a2,0,(W ((D.zah a0) - 1))⟩:Bound)).toArray)) (bs3 (congrArg (fun z=>(0,z)) hd.1) (rfl) (congrArg (fun z=>(2,z)) hd.2.1) kz) bz) (ec r (fun fr1 u w' hb' hd r'=>zcp r' (c:=((boundsC [(D.zbz a0 a1),(⟨a2,0,(W ((D.zah a0) - 1))⟩:Bound)])).toArray) (E:=182) (bs2 (congrArg (fun z=>(0,z)) hd.1) (congrArg (fun z=>(1,z)) hd.2.1) kz) (fun b w2 n2=>⟨n2.below,b,rfl,Nat.le_of_eq n2.eq.symm,n2.at_⟩)) ?_)))))))))))))))))
  refine zbt r rfl (fun fr1 u w' hb' hd r'=>?_) ?_
  · obtain ⟨d0,d1,d2,d3,_⟩:=hd; obtain ⟨q2,hq2,_,hr2⟩:=d2; exact zaC r' (args:=[(.agg (zpe a0).toArray),(I (W ((W (2+(W (a1 * (W (1+(D.zah a0)))))))+a2))),(.slice (some ⟨q2,0,none⟩) 2 2)]) (lc d0 (lc d1 (lc hq2 l0))) cl94 ((zbK _ a0 (W ((W (2+(W (a1 * (W (1+(D.zah a0)))))))+a2)) ([(D.zbz a0 a1),(⟨a2,0,(W ((D.zah a0) - 1))⟩:Bound)]) hr2 (by first | assumption | decide | (simp; done))).mono (by rintro _ w2 ⟨rfl,hb2⟩; exact ⟨_,rfl,hb2,rfl⟩))
  exact zaW
 intro fr u w4 hb hΦ hne r;obtain ⟨b5,g17,E5,H5⟩:=hΦ 17 ke;have l_b5:=lt_of_block H5;have r:=r.congr (sc (hΦ 18 ke) (sc g17 (sc (hΦ 16 ke) (sc (hΦ 15 ke) (sc (hΦ 14 ke) (sc (hΦ 13 ke) (sc (hΦ 12 ke) (sc (hΦ 11 ke) (sc (hΦ 10 ke) (sc (hΦ 9 ke) (sc (hΦ 8 ke) (sc (hΦ 7 ke) (sc (hΦ 6 ke) (sc (hΦ 5 ke) (sc (hΦ 4 ke) (sc (hΦ 3 ke) (sc (hΦ 2 ke) (sc (hΦ 1 ke) (sc (hΦ 0 ke) rfl)))))))))))))))))));have Z4:=hb.size;have H1:=keep hb H1;obtain ⟨hB,zB⟩:=bon hb hB;refine kA (I (D.zaq a0 (W ((W (2+(W (a1 * (W (1+(D.zah a0)))))))+a2)) ([(D.zbz a0 a1),(⟨a2,0,(W ((D.zah a0) - 1))⟩:Bound)]))) r rfl rfl fun r=>wn (wp_ret ?_);refine zay r rfl rfl ?_
 exact ⟨rfl,hB⟩
end Go.Proofs.YtikjpdpgdmbdpaaGreat

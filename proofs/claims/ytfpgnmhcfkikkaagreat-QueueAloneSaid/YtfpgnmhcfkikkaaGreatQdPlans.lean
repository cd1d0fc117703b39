/- Ours. -/
import Derived.Test.YtfpgnmhcfkikkaaGreatQdWithin
import Derived.Test.YtfpgnmhcfkikkaaGreatRows
set_option linter.all false
set_option maxRecDepth 20000
set_option maxHeartbeats 2000000
namespace Go.Proofs.YtfpgnmhcfkikkaaGreat
open Go.RowKit
theorem vq:ak Tryz.prog 103:=by kernel_rfl
theorem fS:ak Tryz.prog 120:=by kernel_rfl
theorem mM:ak Tryz.prog 121:=by kernel_rfl
theorem pK:ak Tryz.prog 122:=by kernel_rfl
theorem pL:ak Tryz.prog 146:=by kernel_rfl
theorem DA:ak Tryz.prog 147:=by kernel_rfl
theorem uq:ak Tryz.prog 189:=by kernel_rfl
theorem qg:ak Tryz.prog 190:=by kernel_rfl
theorem ql:ak Tryz.prog 196:=by kernel_rfl
theorem mL:ak Tryz.prog 221:=by kernel_rfl
theorem qe:ak Tryz.prog 222:=by kernel_rfl
theorem dL:ba Tryz.prog 23 0 0:=by kernel_rfl
theorem fa:ba Tryz.prog 23 1 1:=by kernel_rfl
theorem dU:ba Tryz.prog 23 2 2:=by kernel_rfl
theorem gK:ba Tryz.prog 23 3 3:=by kernel_rfl
theorem jM:ba Tryz.prog 23 4 4:=by kernel_rfl
theorem jS:ba Tryz.prog 23 5 5:=by kernel_rfl
theorem mixed:Tryz.prog.follows .mixedOrders=true:=by kernel_rfl
theorem pR:tyA Tryz.prog 214 3:=by kernel_rfl
theorem ta23:tyA Tryz.prog 23 6:=by kernel_rfl
theorem to3:tyO Tryz.prog 3:=by kernel_rfl
theorem qp:sized Tryz.prog 214 3:=by kernel_rfl
theorem pP:zeroOf Tryz.prog 214=some (.agg (bG (⟨0,0,0⟩:Bound)).toArray):=by kernel_rfl
def D.cJ (a0:Plan):Bool:=(bif (D.bX ([(⟨a0.nodes,1,1048576⟩:Bound),(⟨a0.threads,1,16⟩:Bound),(⟨a0.domains,0,64⟩:Bound),(⟨a0.buckets,1,256⟩:Bound),(⟨a0.gen,1,1073741823⟩:Bound)])) then (D.bX ([(⟨a0.retire,(IntKind.i64.wrap ((IntKind.i64.wrap (3 * a0.threads))+1)),1024⟩:Bound)])) else false)
theorem nu (w0:World) 
    (a0:Plan) :
    Calls Tryz.prog 196 #[.agg (af a0).toArray] w0 (bi (.bool (D.cJ a0)) w0):=by
 refine enter Tryz.func196 rfl 31 rfl rfl fun fr r=>?_;have hB:=Below.refl w0.heap.size w0
 refine wsr ?_;refine kX 23 (.agg (af a0).toArray) r rfl rfl fun b1 w2 n3 r=>?_;obtain ⟨E1,Z2,H1,hB,zB⟩:=n3.all hB
 refine kA (.bool false) r rfl rfl fun r=>wn (wsr (kF 0 r rfl dL rfl fun r=>kL (I a0.nodes) r rfl H1 to3 rfl rfl fun r=>kU (.agg (bG (⟨a0.nodes,1,1048576⟩:Bound)).toArray) r (by kernel_rfl) rfl fun r=>kF 0 r rfl fa rfl fun r=>kL (I a0.threads) r rfl H1 to3 rfl rfl fun r=>kU (.agg (bG (⟨a0.threads,1,16⟩:Bound)).toArray) r (by kernel_rfl) rfl fun r=>kF 0 r rfl gK rfl fun r=>kL (I a0.domains) r rfl H1 to3 rfl rfl fun r=>kU (.agg (bG (⟨a0.domains,0,64⟩:Bound)).toArray) r (by kernel_rfl) rfl fun r=>kF 0 r rfl jM rfl fun r=>kL (I a0.buckets) r rfl H1 to3 rfl rfl fun r=>kU (.agg (bG (⟨a0.buckets,1,256⟩:Bound)).toArray) r (by kernel_rfl) rfl fun r=>kF 0 r rfl jS rfl fun r=>kL (I a0.gen) r rfl H1 to3 rfl rfl fun r=>kU (.agg (bG (⟨a0.gen,1,1073741823⟩:Bound)).toArray) r (by kernel_rfl) rfl fun r=>?_));refine cP (.cells ((boundsC [(⟨a0.nodes,1,1048576⟩:Bound),(⟨a0.threads,1,16⟩:Bound),(⟨a0.domains,0,64⟩:Bound),(⟨a0.buckets,1,256⟩:Bound),(⟨a0.gen,1,1073741823⟩:Bound)])).toArray 214 (0,0)) 5 r (fun R=>cg r (by kernel_rfl)) rfl fun fr b4 w5 n6 r=>?_
 have H1:=keep n6.below H1;obtain ⟨E4,Z5,H4,hB,zB⟩:=n6.all hB;refine kE r (o3 w5 ([(⟨a0.nodes,1,1048576⟩:Bound),(⟨a0.threads,1,16⟩:Bound),(⟨a0.domains,0,64⟩:Bound),(⟨a0.buckets,1,256⟩:Bound),(⟨a0.gen,1,1073741823⟩:Bound)]) H4 (by first | assumption | decide | (simp; done))) rfl mL rfl fun w7 hb r=>?_
 have Z7:=hb.size;have H1:=keep hb H1;have H4:=keep hb H4;obtain ⟨hB,zB⟩:=bon hb hB;refine kM (.bool (D.bX ([(⟨a0.nodes,1,1048576⟩:Bound),(⟨a0.threads,1,16⟩:Bound),(⟨a0.domains,0,64⟩:Bound),(⟨a0.buckets,1,256⟩:Bound),(⟨a0.gen,1,1073741823⟩:Bound)]))) r rfl rfl fun r=>?_;refine br (D.bX ([(⟨a0.nodes,1,1048576⟩:Bound),(⟨a0.threads,1,16⟩:Bound),(⟨a0.domains,0,64⟩:Bound),(⟨a0.buckets,1,256⟩:Bound),(⟨a0.gen,1,1073741823⟩:Bound)])) (fun h8=>?_) (fun h8=>?_)
 ·
  refine s1 r h8 (kF 0 r rfl dU rfl fun r=>s1 r h8 (kL (I a0.retire) r rfl H1 to3 rfl rfl fun r=>s1 r h8 (kF 0 r rfl fa rfl fun r=>s1 r h8 (kL (I a0.threads) r rfl H1 to3 rfl rfl fun r=>s1 r h8 (kB r rfl rfl rfl rfl rfl fun r=>s1 r h8 (kB r rfl rfl rfl rfl rfl fun r=>s1 r h8 (kU (.agg (bG (⟨a0.retire,(W ((W (3 * a0.threads))+1)),1024⟩:Bound)).toArray) r (by kernel_rfl) rfl fun r=>s1 r h8 ?_)))))));refine cP (.cells ((boundsC [(⟨a0.retire,(W ((W (3 * a0.threads))+1)),1024⟩:Bound)])).toArray 214 (0,0)) 1 r (fun R=>cg r (by kernel_rfl)) rfl fun fr b9 w10 n11 r=>?_
  have H1:=keep n11.below H1;have H4:=keep n11.below H4;obtain ⟨E9,Z10,H9,hB,zB⟩:=n11.all hB;refine s1 r h8 ?_;refine kE r (o3 w10 ([(⟨a0.retire,(W ((W (3 * a0.threads))+1)),1024⟩:Bound)]) H9 (by first | assumption | decide | (simp; done))) rfl mL rfl fun w12 hb r=>?_
  have Z12:=hb.size;have H1:=keep hb H1;have H4:=keep hb H4;have H9:=keep hb H9;obtain ⟨hB,zB⟩:=bon hb hB;refine ae (.bool (D.bX ([(⟨a0.retire,(W ((W (3 * a0.threads))+1)),1024⟩:Bound)]))) r (fun R=>az r (b:=true) (congrArg Value.bool h8) rfl) rfl fun fr r=>kA (.bool (D.bX ([(⟨a0.retire,(W ((W (3 * a0.threads))+1)),1024⟩:Bound)]))) r rfl rfl fun r=>wn (wp_ret ?_);have hd:D.cJ a0=(D.bX ([(⟨a0.retire,(W ((W (3 * a0.threads))+1)),1024⟩:Bound)])):=(ay h8).trans (rfl)
  refine aQ r rfl rfl ?_;rw [hd];exact ⟨rfl,hB⟩
 refine s0 r h8 fun fr r=>s0 r h8 fun fr r=>s0 r h8 fun fr r=>s0 r h8 fun fr r=>s0 r h8 fun fr r=>s0 r h8 fun fr r=>s0 r h8 fun fr r=>s0 r h8 fun fr r=>s0 r h8 fun fr r=>ae (.bool false) r (fun R=>az r (b:=false) (congrArg Value.bool h8) rfl) rfl fun fr r=>kA (.bool false) r rfl rfl fun r=>wn (wp_ret ?_);have hd:D.cJ a0=false:=(aw h8).trans (rfl)
 refine aQ r rfl rfl ?_;rw [hd];exact ⟨rfl,hB⟩
def D.bF (a0:Plan):Int:=(maxI 2 a0.buckets)
theorem nB (w0:World) 
    (a0:Plan) :
    Calls Tryz.prog 146 #[.agg (af a0).toArray] w0 (bi (.int .i64 (D.bF a0)) w0):=by
 refine enter Tryz.func146 rfl 6 rfl rfl fun fr r=>?_;have hB:=Below.refl w0.heap.size w0
 refine wsr ?_;refine kX 23 (.agg (af a0).toArray) r rfl rfl fun b1 w2 n3 r=>?_;obtain ⟨E1,Z2,H1,hB,zB⟩:=n3.all hB
 refine kA (I 0) r rfl rfl fun r=>wn (wsr (kF 0 r rfl jM rfl fun r=>kL (I a0.buckets) r rfl H1 to3 rfl rfl fun r=>ae (I (maxI 2 a0.buckets)) r (fun R=>C9 r (m:=2) (n:=a0.buckets) rfl rfl) rfl fun fr r=>kA (I (maxI 2 a0.buckets)) r rfl rfl fun r=>wn (wp_ret ?_)));refine aQ r rfl rfl ?_
 exact ⟨rfl,hB⟩
def D.aT (a0:Plan):Int:=(IntKind.i64.wrap (1+(IntKind.i64.wrap (a0.domains * (IntKind.i64.wrap (1+(D.bF a0)))))))
theorem qN (w0:World) 
    (a0:Plan) :
    Calls Tryz.prog 189 #[.agg (af a0).toArray] w0 (bi (.int .i64 (D.aT a0)) w0):=by
 refine enter Tryz.func189 rfl 10 rfl rfl fun fr r=>?_;have hB:=Below.refl w0.heap.size w0
 refine wsr ?_;refine kX 23 (.agg (af a0).toArray) r rfl rfl fun b1 w2 n3 r=>?_;obtain ⟨E1,Z2,H1,hB,zB⟩:=n3.all hB
 refine kA (I 0) r rfl rfl fun r=>wn (wp_seq ?_);refine bw 7 [.val (.pointer (some ⟨b1,3,none⟩)),.val (I a0.domains),.val (.agg (af a0).toArray),.val (I (D.bF a0)),.val (I (W (1+(D.bF a0)))),.val (I (W (a0.domains * (W (1+(D.bF a0)))))),.val (I (W (1+(W (a0.domains * (W (1+(D.bF a0))))))))] mixed r (by kernel_rfl) (ag (by exact trivial) (ag (by exact trivial) (ag (by exact trivial) (ag (by exact trivial) (ag (by exact trivial) (ag (by exact trivial) (ag (by exact trivial) bv))))))) ?_ ?_
 ·
  refine ec r (fun _ u _ b d s=>aG s (b:=b1) (o:=0) rfl gK bz) (ec r (fun _ u _ b d s=>aB s d.1 (keep b H1) to3 rfl bz) (ec r (fun _ u _ b d s=>aU s (cs:=(af a0)) (n:=6) rfl (keep b H1) ta23 rfl bz) (ec r (fun fr1 u w' hb' hd r'=>aP r' (args:=[(.agg (af a0).toArray)]) (lc hd.1 l0) pL ((nB _ a0).mono (by rintro _ w2 ⟨rfl,hb2⟩; exact ⟨_,rfl,hb2,rfl⟩))) (ec r (fun _ u _ b d s=>aY s rfl d.1 rfl rfl bz) (ec r (fun _ u _ b d s=>aY s d.1 d.2.1 rfl rfl bz) (ec r (fun _ u _ b d s=>aY s rfl d.1 rfl rfl bz) ?_))))));exact bA
 intro fr u w4 hb hΦ hne r;have r:=r.congr (sc (hΦ 6 (by decide)) (sc (hΦ 5 (by decide)) (sc (hΦ 4 (by decide)) (sc (hΦ 3 (by decide)) (sc (hΦ 2 (by decide)) (sc (hΦ 1 (by decide)) (sc (hΦ 0 (by decide)) rfl)))))));have Z4:=hb.size;have H1:=keep hb H1;obtain ⟨hB,zB⟩:=bon hb hB;refine kA (I (W (1+(W (a0.domains * (W (1+(D.bF a0)))))))) r rfl rfl fun r=>wn (wp_ret ?_);refine aQ r rfl rfl ?_
 exact ⟨rfl,hB⟩
def D.cc (a0:Plan):Int:=(IntKind.i64.wrap ((D.aT a0)+(IntKind.i64.wrap (a0.threads * 3))))
theorem nr (w0:World) 
    (a0:Plan) :
    Calls Tryz.prog 222 #[.agg (af a0).toArray] w0 (bi (.int .i64 (D.cc a0)) w0):=by
 refine enter Tryz.func222 rfl 9 rfl rfl fun fr r=>?_;have hB:=Below.refl w0.heap.size w0
 refine wsr ?_;refine kX 23 (.agg (af a0).toArray) r rfl rfl fun b1 w2 n3 r=>?_;obtain ⟨E1,Z2,H1,hB,zB⟩:=n3.all hB
 refine kA (I 0) r rfl rfl fun r=>wn (wp_seq ?_);refine bw 6 [.val (.agg (af a0).toArray),.val (I (D.aT a0)),.val (.pointer (some ⟨b1,1,none⟩)),.val (I a0.threads),.val (I (W (a0.threads * 3))),.val (I (W ((D.aT a0)+(W (a0.threads * 3)))))] mixed r (by kernel_rfl) (ag (by exact trivial) (ag (by exact trivial) (ag (by exact trivial) (ag (by exact trivial) (ag (by exact trivial) (ag (by exact trivial) bv)))))) ?_ ?_
 ·
  refine ec r (fun _ u _ b d s=>aU s (cs:=(af a0)) (n:=6) rfl (keep b H1) ta23 rfl bz) (ec r (fun fr1 u w' hb' hd r'=>aP r' (args:=[(.agg (af a0).toArray)]) (lc hd.1 l0) uq ((qN _ a0).mono (by rintro _ w2 ⟨rfl,hb2⟩; exact ⟨_,rfl,hb2,rfl⟩))) (ec r (fun _ u _ b d s=>aG s (b:=b1) (o:=0) rfl fa bz) (ec r (fun _ u _ b d s=>aB s d.1 (keep b H1) to3 rfl bz) (ec r (fun _ u _ b d s=>aY s d.1 rfl rfl rfl bz) (ec r (fun _ u _ b d s=>aY s d.1 d.2.1 rfl rfl bz) ?_)))));exact bA
 intro fr u w4 hb hΦ hne r;have r:=r.congr (sc (hΦ 5 (by decide)) (sc (hΦ 4 (by decide)) (sc (hΦ 3 (by decide)) (sc (hΦ 2 (by decide)) (sc (hΦ 1 (by decide)) (sc (hΦ 0 (by decide)) rfl))))));have Z4:=hb.size;have H1:=keep hb H1;obtain ⟨hB,zB⟩:=bon hb hB;refine kA (I (W ((D.aT a0)+(W (a0.threads * 3))))) r rfl rfl fun r=>wn (wp_ret ?_);refine aQ r rfl rfl ?_
 exact ⟨rfl,hB⟩
def D.aJ (a0:Plan):Int:=(IntKind.i64.wrap ((D.cc a0)+(IntKind.i64.wrap (a0.threads * (IntKind.i64.wrap (1+a0.retire))))))
theorem l7 (w0:World) 
    (a0:Plan) :
    Calls Tryz.prog 121 #[.agg (af a0).toArray] w0 (bi (.int .i64 (D.aJ a0)) w0):=by
 refine enter Tryz.func121 rfl 12 rfl rfl fun fr r=>?_;have hB:=Below.refl w0.heap.size w0
 refine wsr ?_;refine kX 23 (.agg (af a0).toArray) r rfl rfl fun b1 w2 n3 r=>?_;obtain ⟨E1,Z2,H1,hB,zB⟩:=n3.all hB
 refine kA (I 0) r rfl rfl fun r=>wn (wp_seq ?_);refine bw 9 [.val (.agg (af a0).toArray),.val (I (D.cc a0)),.val (.pointer (some ⟨b1,1,none⟩)),.val (I a0.threads),.val (.pointer (some ⟨b1,2,none⟩)),.val (I a0.retire),.val (I (W (1+a0.retire))),.val (I (W (a0.threads * (W (1+a0.retire))))),.val (I (W ((D.cc a0)+(W (a0.threads * (W (1+a0.retire)))))))] mixed r (by kernel_rfl) (ag (by exact trivial) (ag (by exact trivial) (ag (by exact trivial) (ag (by exact trivial) (ag (by exact trivial) (ag (by exact trivial) (ag (by exact trivial) (ag (by exact trivial) (ag (by exact trivial) bv))))))))) ?_ ?_
 ·
  refine ec r (fun _ u _ b d s=>aU s (cs:=(af a0)) (n:=6) rfl (keep b H1) ta23 rfl bz) (ec r (fun fr1 u w' hb' hd r'=>aP r' (args:=[(.agg (af a0).toArray)]) (lc hd.1 l0) qe ((nr _ a0).mono (by rintro _ w2 ⟨rfl,hb2⟩; exact ⟨_,rfl,hb2,rfl⟩))) (ec r (fun _ u _ b d s=>aG s (b:=b1) (o:=0) rfl fa bz) (ec r (fun _ u _ b d s=>aB s d.1 (keep b H1) to3 rfl bz) (ec r (fun _ u _ b d s=>aG s (b:=b1) (o:=0) rfl dU bz) (ec r (fun _ u _ b d s=>aB s d.1 (keep b H1) to3 rfl bz) (ec r (fun _ u _ b d s=>aY s rfl d.1 rfl rfl bz) (ec r (fun _ u _ b d s=>aY s d.1 d.2.1 rfl rfl bz) (ec r (fun _ u _ b d s=>aY s d.1 d.2.1 rfl rfl bz) ?_))))))));exact bA
 intro fr u w4 hb hΦ hne r;have r:=r.congr (sc (hΦ 8 (by decide)) (sc (hΦ 7 (by decide)) (sc (hΦ 6 (by decide)) (sc (hΦ 5 (by decide)) (sc (hΦ 4 (by decide)) (sc (hΦ 3 (by decide)) (sc (hΦ 2 (by decide)) (sc (hΦ 1 (by decide)) (sc (hΦ 0 (by decide)) rfl)))))))));have Z4:=hb.size;have H1:=keep hb H1;obtain ⟨hB,zB⟩:=bon hb hB;refine kA (I (W ((D.cc a0)+(W (a0.threads * (W (1+a0.retire))))))) r rfl rfl fun r=>wn (wp_ret ?_);refine aQ r rfl rfl ?_
 exact ⟨rfl,hB⟩
def D.cd (a0:Plan):Int:=(bif (!(D.cJ a0)) then 0 else (IntKind.i64.wrap ((D.aJ a0)+(IntKind.i64.wrap (a0.nodes * 5)))))
theorem xO (w0:World) 
    (a0:Plan) :
    Calls Tryz.prog 105 #[.agg (af a0).toArray] w0 (bi (.int .i64 (D.cd a0)) w0):=by
 refine enter Tryz.func105 rfl 12 rfl rfl fun fr r=>?_;have hB:=Below.refl w0.heap.size w0
 refine wsr ?_;refine kX 23 (.agg (af a0).toArray) r rfl rfl fun b1 w2 n3 r=>?_;obtain ⟨E1,Z2,H1,hB,zB⟩:=n3.all hB
 refine kA (I 0) r rfl rfl fun r=>wn (wp_seq (wsr (kG (af a0) 6 r rfl H1 ta23 rfl rfl fun r=>?_)));refine kE r (nu w2 a0) rfl ql rfl fun w4 hb r=>?_
 have Z4:=hb.size;have H1:=keep hb H1;obtain ⟨hB,zB⟩:=bon hb hB;refine ae (.bool (!(D.cJ a0))) r (fun R=>y_un r (u:=(.bool (D.cJ a0))) rfl rfl) rfl fun fr r=>wn ?_;refine wp_cond_split (t:=(!(D.cJ a0))) (r.ev rfl) (fun h5=>?_) (fun h5=>?_)
 ·
  refine wsr (kA (I 0) r rfl rfl fun r=>wn (wp_ret ?_));have hd:D.cd a0=0:=(ay h5).trans (rfl)
  refine aQ r rfl rfl ?_;rw [hd];exact ⟨rfl,hB⟩
 refine wp_skip (wp_seq ?_);refine bw 6 [.val (.agg (af a0).toArray),.val (I (D.aJ a0)),.val (zp b1),.val (I a0.nodes),.val (I (W (a0.nodes * 5))),.val (I (W ((D.aJ a0)+(W (a0.nodes * 5)))))] mixed r (by kernel_rfl) (ag (by exact trivial) (ag (by exact trivial) (ag (by exact trivial) (ag (by exact trivial) (ag (by exact trivial) (ag (by exact trivial) bv)))))) ?_ ?_
 ·
  refine ec r (fun _ u _ b d s=>aU s (cs:=(af a0)) (n:=6) rfl (keep b H1) ta23 rfl bz) (ec r (fun fr1 u w' hb' hd r'=>aP r' (args:=[(.agg (af a0).toArray)]) (lc hd.1 l0) mM ((l7 _ a0).mono (by rintro _ w2 ⟨rfl,hb2⟩; exact ⟨_,rfl,hb2,rfl⟩))) (ec r (fun _ u _ b d s=>aG s (b:=b1) (o:=0) rfl dL bz) (ec r (fun _ u _ b d s=>aB s d.1 (keep b H1) to3 rfl bz) (ec r (fun _ u _ b d s=>aY s d.1 rfl rfl rfl bz) (ec r (fun _ u _ b d s=>aY s d.1 d.2.1 rfl rfl bz) ?_)))));exact bA
 intro fr u w6 hb hΦ hne r;have r:=r.congr (sc (hΦ 5 (by decide)) (sc (hΦ 4 (by decide)) (sc (hΦ 3 (by decide)) (sc (hΦ 2 (by decide)) (sc (hΦ 1 (by decide)) (sc (hΦ 0 (by decide)) rfl))))));have Z6:=hb.size;have H1:=keep hb H1;obtain ⟨hB,zB⟩:=bon hb hB;refine kA (I (W ((D.aJ a0)+(W (a0.nodes * 5))))) r rfl rfl fun r=>wn (wp_ret ?_);have hd:D.cd a0=(W ((D.aJ a0)+(W (a0.nodes * 5)))):=(aw h5).trans (rfl)
 refine aQ r rfl rfl ?_;rw [hd];exact ⟨rfl,hB⟩
def D.bM (a0:Plan) (a1:Int) (a2:List Bound):Int:=(bif (!(D.cJ a0)) then (-1) else (bif (!(D.bX a2)) then (-1) else a1))
theorem fZ (w0:World) 
    (a0:Plan) (a1:Int) (a2:List Bound) {a2b:Nat} (a2h:w0.heap[a2b]?=some (.cells ((boundsC a2)).toArray 214 (0,0))) (pre0:a2.length≤8) :
    Calls Tryz.prog 120 #[.agg (af a0).toArray,.int .i64 a1,.slice (some ⟨a2b,0,none⟩) a2.length a2.length] w0 (bi (.int .i64 (D.bM a0 a1 a2)) w0):=by
 refine enter Tryz.func120 rfl 16 rfl rfl fun fr r=>?_;have hB:=Below.refl w0.heap.size w0
 have la2b:=lt_of_block a2h;refine wsr ?_;refine kX 23 (.agg (af a0).toArray) r rfl rfl fun b1 w2 n3 r=>?_;have a2h:=keep n3.below a2h
 obtain ⟨E1,Z2,H1,hB,zB⟩:=n3.all hB;refine kA (I 0) r rfl rfl fun r=>wn (wp_seq (wsr (kG (af a0) 6 r rfl H1 ta23 rfl rfl fun r=>?_)));refine kE r (nu w2 a0) rfl ql rfl fun w4 hb r=>?_
 have Z4:=hb.size;have a2h:=keep hb a2h;have H1:=keep hb H1;obtain ⟨hB,zB⟩:=bon hb hB;refine ae (.bool (!(D.cJ a0))) r (fun R=>y_un r (u:=(.bool (D.cJ a0))) rfl rfl) rfl fun fr r=>kM (.bool (!(D.cJ a0))) r rfl rfl fun r=>?_;refine br (!(D.cJ a0)) (fun h5=>?_) (fun h5=>?_)
 ·
  refine s0 r h5 fun fr r=>s0 r h5 fun fr r=>s0 r h5 fun fr r=>ae (.bool true) r (fun R=>az r (b:=true) (congrArg Value.bool h5) rfl) rfl fun fr r=>wn ?_;refine wp_cond_split (t:=true) (r.ev rfl) (fun _=>?_) (fun h=>absurd ((rfl:true=_).symm.trans h) (by decide))
  refine wsr (kA (I (-1)) r rfl rfl fun r=>wn (wp_ret ?_));have hd:D.bM a0 a1 a2=(-1):=(ay h5).trans (rfl)
  refine aQ r rfl rfl ?_;rw [hd];exact ⟨rfl,hB⟩
 refine s1 r h5 (kM (.slice (some ⟨a2b,0,none⟩) a2.length a2.length) r rfl rfl fun r=>s1 r h5 ?_);refine kE r (o3 w4 a2 a2h (by first | assumption | decide | (simp; done))) rfl mL rfl fun w6 hb r=>?_
 have Z6:=hb.size;have a2h:=keep hb a2h;have H1:=keep hb H1;obtain ⟨hB,zB⟩:=bon hb hB;refine s1 r h5 (ae (.bool (!(D.bX a2))) r (fun R=>y_un r (u:=(.bool (D.bX a2))) rfl rfl) rfl fun fr r=>ae (.bool (!(D.bX a2))) r (fun R=>az r (b:=false) (congrArg Value.bool h5) rfl) rfl fun fr r=>wn ?_);refine wp_cond_split (t:=(!(D.bX a2))) (r.ev rfl) (fun h7=>?_) (fun h7=>?_)
 ·
  refine wsr (kA (I (-1)) r rfl rfl fun r=>wn (wp_ret ?_));have hd:D.bM a0 a1 a2=(-1):=(aw h5).trans ((ay h7).trans (rfl))
  refine aQ r rfl rfl ?_;rw [hd];exact ⟨rfl,hB⟩
 refine wp_skip (wsr (kM (I a1) r rfl rfl fun r=>kA (I a1) r rfl rfl fun r=>wn (wp_ret ?_)));have hd:D.bM a0 a1 a2=a1:=(aw h5).trans ((aw h7).trans (rfl))
 refine aQ r rfl rfl ?_;rw [hd];exact ⟨rfl,hB⟩
theorem wC (w0:World) 
    (a0:Plan) (a1:Int) :
    Calls Tryz.prog 120 #[.agg (af a0).toArray,.int .i64 a1,.slice none 0 0] w0 (bi (.int .i64 (D.bM a0 a1 ([]))) w0):=by
 refine enter Tryz.func120 rfl 16 rfl rfl fun fr r=>?_;have hB:=Below.refl w0.heap.size w0
 refine wsr ?_;refine kX 23 (.agg (af a0).toArray) r rfl rfl fun b1 w2 n3 r=>?_;obtain ⟨E1,Z2,H1,hB,zB⟩:=n3.all hB
 refine kA (I 0) r rfl rfl fun r=>wn (wp_seq (wsr (kG (af a0) 6 r rfl H1 ta23 rfl rfl fun r=>?_)));refine kE r (nu w2 a0) rfl ql rfl fun w4 hb r=>?_
 have Z4:=hb.size;have H1:=keep hb H1;obtain ⟨hB,zB⟩:=bon hb hB;refine ae (.bool (!(D.cJ a0))) r (fun R=>y_un r (u:=(.bool (D.cJ a0))) rfl rfl) rfl fun fr r=>kM (.bool (!(D.cJ a0))) r rfl rfl fun r=>?_;refine br (!(D.cJ a0)) (fun h5=>?_) (fun h5=>?_)
 ·
  refine s0 r h5 fun fr r=>s0 r h5 fun fr r=>s0 r h5 fun fr r=>ae (.bool true) r (fun R=>az r (b:=true) (congrArg Value.bool h5) rfl) rfl fun fr r=>wn ?_;refine wp_cond_split (t:=true) (r.ev rfl) (fun _=>?_) (fun h=>absurd ((rfl:true=_).symm.trans h) (by decide))
  refine wsr (kA (I (-1)) r rfl rfl fun r=>wn (wp_ret ?_));have hd:D.bM a0 a1 []=(-1):=(ay h5).trans (rfl)
  refine aQ r rfl rfl ?_;rw [hd];exact ⟨rfl,hB⟩
 refine s1 r h5 (kM (.slice none 0 0) r rfl rfl fun r=>s1 r h5 ?_);refine kE r (xF w4 ) rfl mL rfl fun w6 hb r=>?_
 have Z6:=hb.size;have H1:=keep hb H1;obtain ⟨hB,zB⟩:=bon hb hB;refine s1 r h5 (ae (.bool (!(D.bX ([])))) r (fun R=>y_un r (u:=(.bool (D.bX ([])))) rfl rfl) rfl fun fr r=>ae (.bool (!(D.bX ([])))) r (fun R=>az r (b:=false) (congrArg Value.bool h5) rfl) rfl fun fr r=>wn ?_);refine wp_cond_split (t:=(!(D.bX ([])))) (r.ev rfl) (fun h7=>?_) (fun h7=>?_)
 ·
  refine wsr (kA (I (-1)) r rfl rfl fun r=>wn (wp_ret ?_));have hd:D.bM a0 a1 []=(-1):=(aw h5).trans ((ay h7).trans (rfl))
  refine aQ r rfl rfl ?_;rw [hd];exact ⟨rfl,hB⟩
 refine wp_skip (wsr (kM (I a1) r rfl rfl fun r=>kA (I a1) r rfl rfl fun r=>wn (wp_ret ?_)));have hd:D.bM a0 a1 []=a1:=(aw h5).trans ((aw h7).trans (rfl))
 refine aQ r rfl rfl ?_;rw [hd];exact ⟨rfl,hB⟩
def D.cT (a0:Plan):Int:=(D.bM a0 0 ([]))
theorem jb (w0:World) 
    (a0:Plan) :
    Calls Tryz.prog 135 #[.agg (af a0).toArray] w0 (bi (.int .i64 (D.cT a0)) w0):=by
 refine enter Tryz.func135 rfl 5 rfl rfl fun fr r=>?_;have hB:=Below.refl w0.heap.size w0
 refine wsr ?_;refine kX 23 (.agg (af a0).toArray) r rfl rfl fun b1 w2 n3 r=>?_;obtain ⟨E1,Z2,H1,hB,zB⟩:=n3.all hB
 refine kA (I 0) r rfl rfl fun r=>wn (wsr (kG (af a0) 6 r rfl H1 ta23 rfl rfl fun r=>?_));refine kE r (wC w2 a0 0) rfl fS rfl fun w4 hb r=>?_
 have Z4:=hb.size;have H1:=keep hb H1;obtain ⟨hB,zB⟩:=bon hb hB;refine kA (I (D.bM a0 0 ([]))) r rfl rfl fun r=>wn (wp_ret ?_);refine aQ r rfl rfl ?_
 exact ⟨rfl,hB⟩
def D.cm (a0:Plan) (a1:Int):Bound:=(⟨a1,0,(IntKind.i64.wrap (a0.nodes - 1))⟩:Bound)
theorem nJ (w0:World) 
    (a0:Plan) (a1:Int) :
    Calls Tryz.prog 122 #[.agg (af a0).toArray,.int .i64 a1] w0 (bi (.agg (bG (D.cm a0 a1)).toArray) w0):=by
 refine enter Tryz.func122 rfl 10 rfl rfl fun fr r=>?_;have hB:=Below.refl w0.heap.size w0
 refine wsr ?_;refine kX 23 (.agg (af a0).toArray) r rfl rfl fun b1 w2 n3 r=>?_;obtain ⟨E1,Z2,H1,hB,zB⟩:=n3.all hB
 refine ar (.cells ((bG (⟨0,0,0⟩:Bound))).toArray 214 (0,0)) r (fun R=>aq pP) rfl fun fr b4 w5 n6 r=>?_;have H1:=keep n6.below H1
 obtain ⟨E4,Z5,H4,hB,zB⟩:=n6.all hB;refine wn (wsr (kM (I a1) r rfl rfl fun r=>kF 0 r rfl dL rfl fun r=>kL (I a0.nodes) r rfl H1 to3 rfl rfl fun r=>kB r rfl rfl rfl rfl rfl fun r=>kU (.agg (bG (⟨a1,0,(W (a0.nodes - 1))⟩:Bound)).toArray) r (by kernel_rfl) rfl fun r=>?_));refine aM (.cells ((bG (⟨a1,0,(W (a0.nodes - 1))⟩:Bound))).toArray 214 (0,0)) r (fun R=>aX r (o:=0) (v:=(.agg (bG (⟨a1,0,(W (a0.nodes - 1))⟩:Bound)).toArray)) rfl rfl H4 qp (Nat.le_of_ble_eq_true rfl) rfl rfl) rfl fun fr w7 u8 r=>?_
 have Z7:=u8.size;have H1:=u8.keep H1 (by omega)
 have H4:=u8.at_;obtain ⟨hB,zB⟩:=u8.on hB (by omega)
 refine wn (wp_ret ?_);refine aH r rfl rfl H4 (k:=3) rfl pR ?_;exact ⟨rfl,hB⟩
def D.da (a0:Plan) (a1:Int):Int:=(D.bM a0 (IntKind.i64.wrap ((IntKind.i64.wrap ((D.aJ a0)+(IntKind.i64.wrap (a1 * 5))))+1)) ([(D.cm a0 a1)]))
theorem l9 (w0:World) 
    (a0:Plan) (a1:Int) :
    Calls Tryz.prog 136 #[.agg (af a0).toArray,.int .i64 a1] w0 (bi (.int .i64 (D.da a0 a1)) w0):=by
 refine enter Tryz.func136 rfl 17 rfl rfl fun fr r=>?_;have hB:=Below.refl w0.heap.size w0
 refine wsr ?_;refine kX 23 (.agg (af a0).toArray) r rfl rfl fun b1 w2 n3 r=>?_;obtain ⟨E1,Z2,H1,hB,zB⟩:=n3.all hB
 refine kA (I 0) r rfl rfl fun r=>wn (wp_seq ?_);refine bw 12 [.val (.agg (af a0).toArray),.val (.agg (af a0).toArray),.val (I (D.aJ a0)),.val (I a1),.val (I (W (a1 * 5))),.val (I (W ((D.aJ a0)+(W (a1 * 5))))),.val (I (W ((W ((D.aJ a0)+(W (a1 * 5))))+1))),.val (.agg (af a0).toArray),.val (I a1),.val (.agg (bG (D.cm a0 a1)).toArray),.slice w2.heap.size (.cells ((boundsC [(D.cm a0 a1)])).toArray 214 (0,0)) 1,.val (I (D.bM a0 (W ((W ((D.aJ a0)+(W (a1 * 5))))+1)) ([(D.cm a0 a1)])))] mixed r (by kernel_rfl) (ag (by exact trivial) (ag (by exact trivial) (ag (by exact trivial) (ag (by exact trivial) (ag (by exact trivial) (ag (by exact trivial) (ag (by exact trivial) (ag (by exact trivial) (ag (by exact trivial) (ag (by exact trivial) (ag (Nat.le_refl _) (ag (by exact trivial) bv)))))))))))) ?_ ?_
 ·
  refine ec r (fun _ u _ b d s=>aU s (cs:=(af a0)) (n:=6) rfl (keep b H1) ta23 rfl bz) (ec r (fun _ u _ b d s=>aU s (cs:=(af a0)) (n:=6) rfl (keep b H1) ta23 rfl bz) (ec r (fun fr1 u w' hb' hd r'=>aP r' (args:=[(.agg (af a0).toArray)]) (lc hd.1 l0) mM ((l7 _ a0).mono (by rintro _ w2 ⟨rfl,hb2⟩; exact ⟨_,rfl,hb2,rfl⟩))) (ec r (fun _ u _ b d s=>aD s rfl bz) (ec r (fun _ u _ b d s=>aY s d.1 rfl rfl rfl bz) (ec r (fun _ u _ b d s=>aY s d.1 d.2.1 rfl rfl bz) (ec r (fun _ u _ b d s=>aY s d.1 rfl rfl rfl bz) (ec r (fun _ u _ b d s=>aU s (cs:=(af a0)) (n:=6) rfl (keep b H1) ta23 rfl bz) (ec r (fun _ u _ b d s=>aD s rfl bz) (ec r (fun fr1 u w' hb' hd r'=>aP r' (args:=[(.agg (af a0).toArray),(I a1)]) (lc hd.1 (lc hd.2.1 l0)) pK ((nJ _ a0 a1).mono (by rintro _ w2 ⟨rfl,hb2⟩; exact ⟨_,rfl,hb2,rfl⟩))) (ec r (fun fr1 u w' hb' hd r'=>cg r' (c:=((boundsC [(D.cm a0 a1)])).toArray) (E:=214) (bs1 (congrArg (fun z=>(0,z)) hd.1) (by kernel_rfl)) (fun b w2 n2=>⟨n2.below,b,rfl,Nat.le_of_eq n2.eq.symm,n2.at_⟩)) ?_))))))))));refine cq r rfl (fun fr1 u w' hb' hd r'=>?_) ?_
  · obtain ⟨d0,d1,d2,d3,_⟩:=hd; obtain ⟨q2,hq2,_,hr2⟩:=d2; exact aP r' (args:=[(.agg (af a0).toArray),(I (W ((W ((D.aJ a0)+(W (a1 * 5))))+1))),(.slice (some ⟨q2,0,none⟩) 1 1)]) (lc d0 (lc d1 (lc hq2 l0))) fS ((fZ _ a0 (W ((W ((D.aJ a0)+(W (a1 * 5))))+1)) ([(D.cm a0 a1)]) hr2 (by first | assumption | decide | (simp; done))).mono (by rintro _ w2 ⟨rfl,hb2⟩; exact ⟨_,rfl,hb2,rfl⟩))
  exact bA
 intro fr u w4 hb hΦ hne r;obtain ⟨b5,g10,E5,H5⟩:=hΦ 10 (by decide);have l_b5:=lt_of_block H5;have r:=r.congr (sc (hΦ 11 (by decide)) (sc g10 (sc (hΦ 9 (by decide)) (sc (hΦ 8 (by decide)) (sc (hΦ 7 (by decide)) (sc (hΦ 6 (by decide)) (sc (hΦ 5 (by decide)) (sc (hΦ 4 (by decide)) (sc (hΦ 3 (by decide)) (sc (hΦ 2 (by decide)) (sc (hΦ 1 (by decide)) (sc (hΦ 0 (by decide)) rfl))))))))))));have Z4:=hb.size;have H1:=keep hb H1;obtain ⟨hB,zB⟩:=bon hb hB;refine kA (I (D.bM a0 (W ((W ((D.aJ a0)+(W (a1 * 5))))+1)) ([(D.cm a0 a1)]))) r rfl rfl fun r=>wn (wp_ret ?_);refine aQ r rfl rfl ?_
 exact ⟨rfl,hB⟩
def D.cw (a0:Plan) (a1:Int):Int:=(D.bM a0 (IntKind.i64.wrap ((D.aJ a0)+(IntKind.i64.wrap (a1 * 5)))) ([(D.cm a0 a1)]))
theorem gU (w0:World) 
    (a0:Plan) (a1:Int) :
    Calls Tryz.prog 31 #[.agg (af a0).toArray,.int .i64 a1] w0 (bi (.int .i64 (D.cw a0 a1)) w0):=by
 refine enter Tryz.func31 rfl 16 rfl rfl fun fr r=>?_;have hB:=Below.refl w0.heap.size w0
 refine wsr ?_;refine kX 23 (.agg (af a0).toArray) r rfl rfl fun b1 w2 n3 r=>?_;obtain ⟨E1,Z2,H1,hB,zB⟩:=n3.all hB
 refine kA (I 0) r rfl rfl fun r=>wn (wp_seq ?_);refine bw 11 [.val (.agg (af a0).toArray),.val (.agg (af a0).toArray),.val (I (D.aJ a0)),.val (I a1),.val (I (W (a1 * 5))),.val (I (W ((D.aJ a0)+(W (a1 * 5))))),.val (.agg (af a0).toArray),.val (I a1),.val (.agg (bG (D.cm a0 a1)).toArray),.slice w2.heap.size (.cells ((boundsC [(D.cm a0 a1)])).toArray 214 (0,0)) 1,.val (I (D.bM a0 (W ((D.aJ a0)+(W (a1 * 5)))) ([(D.cm a0 a1)])))] mixed r (by kernel_rfl) (ag (by exact trivial) (ag (by exact trivial) (ag (by exact trivial) (ag (by exact trivial) (ag (by exact trivial) (ag (by exact trivial) (ag (by exact trivial) (ag (by exact trivial) (ag (by exact trivial) (ag (Nat.le_refl _) (ag (by exact trivial) bv))))))))))) ?_ ?_
 ·
  refine ec r (fun _ u _ b d s=>aU s (cs:=(af a0)) (n:=6) rfl (keep b H1) ta23 rfl bz) (ec r (fun _ u _ b d s=>aU s (cs:=(af a0)) (n:=6) rfl (keep b H1) ta23 rfl bz) (ec r (fun fr1 u w' hb' hd r'=>aP r' (args:=[(.agg (af a0).toArray)]) (lc hd.1 l0) mM ((l7 _ a0).mono (by rintro _ w2 ⟨rfl,hb2⟩; exact ⟨_,rfl,hb2,rfl⟩))) (ec r (fun _ u _ b d s=>aD s rfl bz) (ec r (fun _ u _ b d s=>aY s d.1 rfl rfl rfl bz) (ec r (fun _ u _ b d s=>aY s d.1 d.2.1 rfl rfl bz) (ec r (fun _ u _ b d s=>aU s (cs:=(af a0)) (n:=6) rfl (keep b H1) ta23 rfl bz) (ec r (fun _ u _ b d s=>aD s rfl bz) (ec r (fun fr1 u w' hb' hd r'=>aP r' (args:=[(.agg (af a0).toArray),(I a1)]) (lc hd.1 (lc hd.2.1 l0)) pK ((nJ _ a0 a1).mono (by rintro _ w2 ⟨rfl,hb2⟩; exact ⟨_,rfl,hb2,rfl⟩))) (ec r (fun fr1 u w' hb' hd r'=>cg r' (c:=((boundsC [(D.cm a0 a1)])).toArray) (E:=214) (bs1 (congrArg (fun z=>(0,z)) hd.1) (by kernel_rfl)) (fun b w2 n2=>⟨n2.below,b,rfl,Nat.le_of_eq n2.eq.symm,n2.at_⟩)) ?_)))))))));refine cq r rfl (fun fr1 u w' hb' hd r'=>?_) ?_
  · obtain ⟨d0,d1,d2,d3,_⟩:=hd; obtain ⟨q2,hq2,_,hr2⟩:=d2; exact aP r' (args:=[(.agg (af a0).toArray),(I (W ((D.aJ a0)+(W (a1 * 5))))),(.slice (some ⟨q2,0,none⟩) 1 1)]) (lc d0 (lc d1 (lc hq2 l0))) fS ((fZ _ a0 (W ((D.aJ a0)+(W (a1 * 5)))) ([(D.cm a0 a1)]) hr2 (by first | assumption | decide | (simp; done))).mono (by rintro _ w2 ⟨rfl,hb2⟩; exact ⟨_,rfl,hb2,rfl⟩))
  exact bA
 intro fr u w4 hb hΦ hne r;obtain ⟨b5,g9,E5,H5⟩:=hΦ 9 (by decide);have l_b5:=lt_of_block H5;have r:=r.congr (sc (hΦ 10 (by decide)) (sc g9 (sc (hΦ 8 (by decide)) (sc (hΦ 7 (by decide)) (sc (hΦ 6 (by decide)) (sc (hΦ 5 (by decide)) (sc (hΦ 4 (by decide)) (sc (hΦ 3 (by decide)) (sc (hΦ 2 (by decide)) (sc (hΦ 1 (by decide)) (sc (hΦ 0 (by decide)) rfl)))))))))));have Z4:=hb.size;have H1:=keep hb H1;obtain ⟨hB,zB⟩:=bon hb hB;refine kA (I (D.bM a0 (W ((D.aJ a0)+(W (a1 * 5)))) ([(D.cm a0 a1)]))) r rfl rfl fun r=>wn (wp_ret ?_);refine aQ r rfl rfl ?_
 exact ⟨rfl,hB⟩
def D.cl (a0:Plan) (a1:Int):Bound:=(⟨a1,0,(IntKind.i64.wrap (a0.threads - 1))⟩:Bound)
theorem nk (w0:World) 
    (a0:Plan) (a1:Int) :
    Calls Tryz.prog 190 #[.agg (af a0).toArray,.int .i64 a1] w0 (bi (.agg (bG (D.cl a0 a1)).toArray) w0):=by
 refine enter Tryz.func190 rfl 10 rfl rfl fun fr r=>?_;have hB:=Below.refl w0.heap.size w0
 refine wsr ?_;refine kX 23 (.agg (af a0).toArray) r rfl rfl fun b1 w2 n3 r=>?_;obtain ⟨E1,Z2,H1,hB,zB⟩:=n3.all hB
 refine ar (.cells ((bG (⟨0,0,0⟩:Bound))).toArray 214 (0,0)) r (fun R=>aq pP) rfl fun fr b4 w5 n6 r=>?_;have H1:=keep n6.below H1
 obtain ⟨E4,Z5,H4,hB,zB⟩:=n6.all hB;refine wn (wsr (kM (I a1) r rfl rfl fun r=>kF 0 r rfl fa rfl fun r=>kL (I a0.threads) r rfl H1 to3 rfl rfl fun r=>kB r rfl rfl rfl rfl rfl fun r=>kU (.agg (bG (⟨a1,0,(W (a0.threads - 1))⟩:Bound)).toArray) r (by kernel_rfl) rfl fun r=>?_));refine aM (.cells ((bG (⟨a1,0,(W (a0.threads - 1))⟩:Bound))).toArray 214 (0,0)) r (fun R=>aX r (o:=0) (v:=(.agg (bG (⟨a1,0,(W (a0.threads - 1))⟩:Bound)).toArray)) rfl rfl H4 qp (Nat.le_of_ble_eq_true rfl) rfl rfl) rfl fun fr w7 u8 r=>?_
 have Z7:=u8.size;have H1:=u8.keep H1 (by omega)
 have H4:=u8.at_;obtain ⟨hB,zB⟩:=u8.on hB (by omega)
 refine wn (wp_ret ?_);refine aH r rfl rfl H4 (k:=3) rfl pR ?_;exact ⟨rfl,hB⟩
def D.di (a0:Plan) (a1:Int):Int:=(D.bM a0 (IntKind.i64.wrap ((D.cc a0)+(IntKind.i64.wrap (a1 * (IntKind.i64.wrap (1+a0.retire)))))) ([(D.cl a0 a1)]))
theorem kV (w0:World) 
    (a0:Plan) (a1:Int) :
    Calls Tryz.prog 137 #[.agg (af a0).toArray,.int .i64 a1] w0 (bi (.int .i64 (D.di a0 a1)) w0):=by
 refine enter Tryz.func137 rfl 19 rfl rfl fun fr r=>?_;have hB:=Below.refl w0.heap.size w0
 refine wsr ?_;refine kX 23 (.agg (af a0).toArray) r rfl rfl fun b1 w2 n3 r=>?_;obtain ⟨E1,Z2,H1,hB,zB⟩:=n3.all hB
 refine kA (I 0) r rfl rfl fun r=>wn (wp_seq ?_);refine bw 14 [.val (.agg (af a0).toArray),.val (.agg (af a0).toArray),.val (I (D.cc a0)),.val (I a1),.val (.pointer (some ⟨b1,2,none⟩)),.val (I a0.retire),.val (I (W (1+a0.retire))),.val (I (W (a1 * (W (1+a0.retire))))),.val (I (W ((D.cc a0)+(W (a1 * (W (1+a0.retire))))))),.val (.agg (af a0).toArray),.val (I a1),.val (.agg (bG (D.cl a0 a1)).toArray),.slice w2.heap.size (.cells ((boundsC [(D.cl a0 a1)])).toArray 214 (0,0)) 1,.val (I (D.bM a0 (W ((D.cc a0)+(W (a1 * (W (1+a0.retire)))))) ([(D.cl a0 a1)])))] mixed r (by kernel_rfl) (ag (by exact trivial) (ag (by exact trivial) (ag (by exact trivial) (ag (by exact trivial) (ag (by exact trivial) (ag (by exact trivial) (ag (by exact trivial) (ag (by exact trivial) (ag (by exact trivial) (ag (by exact trivial) (ag (by exact trivial) (ag (by exact trivial) (ag (Nat.le_refl _) (ag (by exact trivial) bv)))))))))))))) ?_ ?_
 ·
  refine ec r (fun _ u _ b d s=>aU s (cs:=(af a0)) (n:=6) rfl (keep b H1) ta23 rfl bz) (ec r (fun _ u _ b d s=>aU s (cs:=(af a0)) (n:=6) rfl (keep b H1) ta23 rfl bz) (ec r (fun fr1 u w' hb' hd r'=>aP r' (args:=[(.agg (af a0).toArray)]) (lc hd.1 l0) qe ((nr _ a0).mono (by rintro _ w2 ⟨rfl,hb2⟩; exact ⟨_,rfl,hb2,rfl⟩))) (ec r (fun _ u _ b d s=>aD s rfl bz) (ec r (fun _ u _ b d s=>aG s (b:=b1) (o:=0) rfl dU bz) (ec r (fun _ u _ b d s=>aB s d.1 (keep b H1) to3 rfl bz) (ec r (fun _ u _ b d s=>aY s rfl d.1 rfl rfl bz) (ec r (fun _ u _ b d s=>aY s d.1 d.2.1 rfl rfl bz) (ec r (fun _ u _ b d s=>aY s d.1 d.2.1 rfl rfl bz) (ec r (fun _ u _ b d s=>aU s (cs:=(af a0)) (n:=6) rfl (keep b H1) ta23 rfl bz) (ec r (fun _ u _ b d s=>aD s rfl bz) (ec r (fun fr1 u w' hb' hd r'=>aP r' (args:=[(.agg (af a0).toArray),(I a1)]) (lc hd.1 (lc hd.2.1 l0)) qg ((nk _ a0 a1).mono (by rintro _ w2 ⟨rfl,hb2⟩; exact ⟨_,rfl,hb2,rfl⟩))) (ec r (fun fr1 u w' hb' hd r'=>cg r' (c:=((boundsC [(D.cl a0 a1)])).toArray) (E:=214) (bs1 (congrArg (fun z=>(0,z)) hd.1) (by kernel_rfl)) (fun b w2 n2=>⟨n2.below,b,rfl,Nat.le_of_eq n2.eq.symm,n2.at_⟩)) ?_))))))))))));refine cq r rfl (fun fr1 u w' hb' hd r'=>?_) ?_
  · obtain ⟨d0,d1,d2,d3,_⟩:=hd; obtain ⟨q2,hq2,_,hr2⟩:=d2; exact aP r' (args:=[(.agg (af a0).toArray),(I (W ((D.cc a0)+(W (a1 * (W (1+a0.retire))))))),(.slice (some ⟨q2,0,none⟩) 1 1)]) (lc d0 (lc d1 (lc hq2 l0))) fS ((fZ _ a0 (W ((D.cc a0)+(W (a1 * (W (1+a0.retire)))))) ([(D.cl a0 a1)]) hr2 (by first | assumption | decide | (simp; done))).mono (by rintro _ w2 ⟨rfl,hb2⟩; exact ⟨_,rfl,hb2,rfl⟩))
  exact bA
 intro fr u w4 hb hΦ hne r;obtain ⟨b5,g12,E5,H5⟩:=hΦ 12 (by decide);have l_b5:=lt_of_block H5;have r:=r.congr (sc (hΦ 13 (by decide)) (sc g12 (sc (hΦ 11 (by decide)) (sc (hΦ 10 (by decide)) (sc (hΦ 9 (by decide)) (sc (hΦ 8 (by decide)) (sc (hΦ 7 (by decide)) (sc (hΦ 6 (by decide)) (sc (hΦ 5 (by decide)) (sc (hΦ 4 (by decide)) (sc (hΦ 3 (by decide)) (sc (hΦ 2 (by decide)) (sc (hΦ 1 (by decide)) (sc (hΦ 0 (by decide)) rfl))))))))))))));have Z4:=hb.size;have H1:=keep hb H1;obtain ⟨hB,zB⟩:=bon hb hB;refine kA (I (D.bM a0 (W ((D.cc a0)+(W (a1 * (W (1+a0.retire)))))) ([(D.cl a0 a1)]))) r rfl rfl fun r=>wn (wp_ret ?_);refine aQ r rfl rfl ?_
 exact ⟨rfl,hB⟩
def D.cR (a0:Plan) (a1:Int) (a2:Int):Int:=(D.bM a0 (IntKind.i64.wrap ((IntKind.i64.wrap ((IntKind.i64.wrap ((D.cc a0)+(IntKind.i64.wrap (a1 * (IntKind.i64.wrap (1+a0.retire))))))+1))+a2)) ([(D.cl a0 a1),(⟨a2,0,(IntKind.i64.wrap (a0.retire - 1))⟩:Bound)]))
theorem kN (w0:World) 
    (a0:Plan) (a1:Int) (a2:Int) :
    Calls Tryz.prog 138 #[.agg (af a0).toArray,.int .i64 a1,.int .i64 a2] w0 (bi (.int .i64 (D.cR a0 a1 a2)) w0):=by
 refine enter Tryz.func138 rfl 29 rfl rfl fun fr r=>?_;have hB:=Below.refl w0.heap.size w0
 refine wsr ?_;refine kX 23 (.agg (af a0).toArray) r rfl rfl fun b1 w2 n3 r=>?_;obtain ⟨E1,Z2,H1,hB,zB⟩:=n3.all hB
 refine kA (I 0) r rfl rfl fun r=>wn (wp_seq ?_);refine bw 22 [.val (.agg (af a0).toArray),.val (.agg (af a0).toArray),.val (I (D.cc a0)),.val (I a1),.val (.pointer (some ⟨b1,2,none⟩)),.val (I a0.retire),.val (I (W (1+a0.retire))),.val (I (W (a1 * (W (1+a0.retire))))),.val (I (W ((D.cc a0)+(W (a1 * (W (1+a0.retire))))))),.val (I (W ((W ((D.cc a0)+(W (a1 * (W (1+a0.retire))))))+1))),.val (I a2),.val (I (W ((W ((W ((D.cc a0)+(W (a1 * (W (1+a0.retire))))))+1))+a2))),.val (.agg (af a0).toArray),.val (I a1),.val (.agg (bG (D.cl a0 a1)).toArray),.val (I a2),.val (.pointer (some ⟨b1,2,none⟩)),.val (I a0.retire),.val (I (W (a0.retire - 1))),.val (.agg (bG (⟨a2,0,(W (a0.retire - 1))⟩:Bound)).toArray),.slice w2.heap.size (.cells ((boundsC [(D.cl a0 a1),(⟨a2,0,(W (a0.retire - 1))⟩:Bound)])).toArray 214 (0,0)) 2,.val (I (D.bM a0 (W ((W ((W ((D.cc a0)+(W (a1 * (W (1+a0.retire))))))+1))+a2)) ([(D.cl a0 a1),(⟨a2,0,(W (a0.retire - 1))⟩:Bound)])))] mixed r (by kernel_rfl) (ag (by exact trivial) (ag (by exact trivial) (ag (by exact trivial) (ag (by exact trivial) (ag (by exact trivial) (ag (by exact trivial) (ag (by exact trivial) (ag (by exact trivial) (ag (by exact trivial) (ag (by exact trivial) (ag (by exact trivial) (ag (by exact trivial) (ag (by exact trivial) (ag (by exact trivial) (ag (by exact trivial) (ag (by exact trivial) (ag (by exact trivial) (ag (by exact trivial) (ag (by exact trivial) (ag (by exact trivial) (ag (Nat.le_refl _) (ag (by exact trivial) bv)))))))))))))))))))))) ?_ ?_
 ·
  refine ec r (fun _ u _ b d s=>aU s (cs:=(af a0)) (n:=6) rfl (keep b H1) ta23 rfl bz) (ec r (fun _ u _ b d s=>aU s (cs:=(af a0)) (n:=6) rfl (keep b H1) ta23 rfl bz) (ec r (fun fr1 u w' hb' hd r'=>aP r' (args:=[(.agg (af a0).toArray)]) (lc hd.1 l0) qe ((nr _ a0).mono (by rintro _ w2 ⟨rfl,hb2⟩; exact ⟨_,rfl,hb2,rfl⟩))) (ec r (fun _ u _ b d s=>aD s rfl bz) (ec r (fun _ u _ b d s=>aG s (b:=b1) (o:=0) rfl dU bz) (ec r (fun _ u _ b d s=>aB s d.1 (keep b H1) to3 rfl bz) (ec r (fun _ u _ b d s=>aY s rfl d.1 rfl rfl bz) (ec r (fun _ u _ b d s=>aY s d.1 d.2.1 rfl rfl bz) (ec r (fun _ u _ b d s=>aY s d.1 d.2.1 rfl rfl bz) (ec r (fun _ u _ b d s=>aY s d.1 rfl rfl rfl bz) (ec r (fun _ u _ b d s=>aD s rfl bz) (ec r (fun _ u _ b d s=>aY s d.1 d.2.1 rfl rfl bz) (ec r (fun _ u _ b d s=>aU s (cs:=(af a0)) (n:=6) rfl (keep b H1) ta23 rfl bz) (ec r (fun _ u _ b d s=>aD s rfl bz) (ec r (fun fr1 u w' hb' hd r'=>aP r' (args:=[(.agg (af a0).toArray),(I a1)]) (lc hd.1 (lc hd.2.1 l0)) qg ((nk _ a0 a1).mono (by rintro _ w2 ⟨rfl,hb2⟩; exact ⟨_,rfl,hb2,rfl⟩))) (ec r (fun _ u _ b d s=>aD s rfl bz) (ec r (fun _ u _ b d s=>aG s (b:=b1) (o:=0) rfl dU bz) (ec r (fun _ u _ b d s=>aB s d.1 (keep b H1) to3 rfl bz) (ec r (fun _ u _ b d s=>aY s d.1 rfl rfl rfl bz) (ec r (fun fr1 u w' hb' hd r'=>eZ r' (v:=(.agg (bG (⟨a2,0,(W (a0.retire - 1))⟩:Bound)).toArray)) (bs3 (congrArg (fun z=>(0,z)) hd.1) (rfl) (congrArg (fun z=>(2,z)) hd.2.1) (by kernel_rfl)) bz) (ec r (fun fr1 u w' hb' hd r'=>cg r' (c:=((boundsC [(D.cl a0 a1),(⟨a2,0,(W (a0.retire - 1))⟩:Bound)])).toArray) (E:=214) (bs2 (congrArg (fun z=>(0,z)) hd.1) (congrArg (fun z=>(1,z)) hd.2.1) (by kernel_rfl)) (fun b w2 n2=>⟨n2.below,b,rfl,Nat.le_of_eq n2.eq.symm,n2.at_⟩)) ?_))))))))))))))))))))
  refine cq r rfl (fun fr1 u w' hb' hd r'=>?_) ?_
  · obtain ⟨d0,d1,d2,d3,_⟩:=hd; obtain ⟨q2,hq2,_,hr2⟩:=d2; exact aP r' (args:=[(.agg (af a0).toArray),(I (W ((W ((W ((D.cc a0)+(W (a1 * (W (1+a0.retire))))))+1))+a2))),(.slice (some ⟨q2,0,none⟩) 2 2)]) (lc d0 (lc d1 (lc hq2 l0))) fS ((fZ _ a0 (W ((W ((W ((D.cc a0)+(W (a1 * (W (1+a0.retire))))))+1))+a2)) ([(D.cl a0 a1),(⟨a2,0,(W (a0.retire - 1))⟩:Bound)]) hr2 (by first | assumption | decide | (simp; done))).mono (by rintro _ w2 ⟨rfl,hb2⟩; exact ⟨_,rfl,hb2,rfl⟩))
  exact bA
 intro fr u w4 hb hΦ hne r;obtain ⟨b5,g20,E5,H5⟩:=hΦ 20 (by decide);have l_b5:=lt_of_block H5;have r:=r.congr (sc (hΦ 21 (by decide)) (sc g20 (sc (hΦ 19 (by decide)) (sc (hΦ 18 (by decide)) (sc (hΦ 17 (by decide)) (sc (hΦ 16 (by decide)) (sc (hΦ 15 (by decide)) (sc (hΦ 14 (by decide)) (sc (hΦ 13 (by decide)) (sc (hΦ 12 (by decide)) (sc (hΦ 11 (by decide)) (sc (hΦ 10 (by decide)) (sc (hΦ 9 (by decide)) (sc (hΦ 8 (by decide)) (sc (hΦ 7 (by decide)) (sc (hΦ 6 (by decide)) (sc (hΦ 5 (by decide)) (sc (hΦ 4 (by decide)) (sc (hΦ 3 (by decide)) (sc (hΦ 2 (by decide)) (sc (hΦ 1 (by decide)) (sc (hΦ 0 (by decide)) rfl))))))))))))))))))))));have Z4:=hb.size;have H1:=keep hb H1;obtain ⟨hB,zB⟩:=bon hb hB;refine kA (I (D.bM a0 (W ((W ((W ((D.cc a0)+(W (a1 * (W (1+a0.retire))))))+1))+a2)) ([(D.cl a0 a1),(⟨a2,0,(W (a0.retire - 1))⟩:Bound)]))) r rfl rfl fun r=>wn (wp_ret ?_);refine aQ r rfl rfl ?_
 exact ⟨rfl,hB⟩
def D.eK (a0:Plan) (a1:Int) (a2:Int):Int:=(D.bM a0 (IntKind.i64.wrap ((IntKind.i64.wrap ((D.aT a0)+(IntKind.i64.wrap (a1 * 3))))+a2)) ([(D.cl a0 a1),(⟨a2,0,2⟩:Bound)]))
theorem qU (w0:World) 
    (a0:Plan) (a1:Int) (a2:Int) :
    Calls Tryz.prog 88 #[.agg (af a0).toArray,.int .i64 a1,.int .i64 a2] w0 (bi (.int .i64 (D.eK a0 a1 a2)) w0):=by
 refine enter Tryz.func88 rfl 22 rfl rfl fun fr r=>?_;have hB:=Below.refl w0.heap.size w0
 refine wsr ?_;refine kX 23 (.agg (af a0).toArray) r rfl rfl fun b1 w2 n3 r=>?_;obtain ⟨E1,Z2,H1,hB,zB⟩:=n3.all hB
 refine kA (I 0) r rfl rfl fun r=>wn (wp_seq ?_);refine bw 15 [.val (.agg (af a0).toArray),.val (.agg (af a0).toArray),.val (I (D.aT a0)),.val (I a1),.val (I (W (a1 * 3))),.val (I (W ((D.aT a0)+(W (a1 * 3))))),.val (I a2),.val (I (W ((W ((D.aT a0)+(W (a1 * 3))))+a2))),.val (.agg (af a0).toArray),.val (I a1),.val (.agg (bG (D.cl a0 a1)).toArray),.val (I a2),.val (.agg (bG (⟨a2,0,2⟩:Bound)).toArray),.slice w2.heap.size (.cells ((boundsC [(D.cl a0 a1),(⟨a2,0,2⟩:Bound)])).toArray 214 (0,0)) 2,.val (I (D.bM a0 (W ((W ((D.aT a0)+(W (a1 * 3))))+a2)) ([(D.cl a0 a1),(⟨a2,0,2⟩:Bound)])))] mixed r (by kernel_rfl) (ag (by exact trivial) (ag (by exact trivial) (ag (by exact trivial) (ag (by exact trivial) (ag (by exact trivial) (ag (by exact trivial) (ag (by exact trivial) (ag (by exact trivial) (ag (by exact trivial) (ag (by exact trivial) (ag (by exact trivial) (ag (by exact trivial) (ag (by exact trivial) (ag (Nat.le_refl _) (ag (by exact trivial) bv))))))))))))))) ?_ ?_
 ·
  refine ec r (fun _ u _ b d s=>aU s (cs:=(af a0)) (n:=6) rfl (keep b H1) ta23 rfl bz) (ec r (fun _ u _ b d s=>aU s (cs:=(af a0)) (n:=6) rfl (keep b H1) ta23 rfl bz) (ec r (fun fr1 u w' hb' hd r'=>aP r' (args:=[(.agg (af a0).toArray)]) (lc hd.1 l0) uq ((qN _ a0).mono (by rintro _ w2 ⟨rfl,hb2⟩; exact ⟨_,rfl,hb2,rfl⟩))) (ec r (fun _ u _ b d s=>aD s rfl bz) (ec r (fun _ u _ b d s=>aY s d.1 rfl rfl rfl bz) (ec r (fun _ u _ b d s=>aY s d.1 d.2.1 rfl rfl bz) (ec r (fun _ u _ b d s=>aD s rfl bz) (ec r (fun _ u _ b d s=>aY s d.1 d.2.1 rfl rfl bz) (ec r (fun _ u _ b d s=>aU s (cs:=(af a0)) (n:=6) rfl (keep b H1) ta23 rfl bz) (ec r (fun _ u _ b d s=>aD s rfl bz) (ec r (fun fr1 u w' hb' hd r'=>aP r' (args:=[(.agg (af a0).toArray),(I a1)]) (lc hd.1 (lc hd.2.1 l0)) qg ((nk _ a0 a1).mono (by rintro _ w2 ⟨rfl,hb2⟩; exact ⟨_,rfl,hb2,rfl⟩))) (ec r (fun _ u _ b d s=>aD s rfl bz) (ec r (fun fr1 u w' hb' hd r'=>eZ r' (v:=(.agg (bG (⟨a2,0,2⟩:Bound)).toArray)) (bs3 (congrArg (fun z=>(0,z)) hd.1) (rfl) (rfl) (by kernel_rfl)) bz) (ec r (fun fr1 u w' hb' hd r'=>cg r' (c:=((boundsC [(D.cl a0 a1),(⟨a2,0,2⟩:Bound)])).toArray) (E:=214) (bs2 (congrArg (fun z=>(0,z)) hd.1) (congrArg (fun z=>(1,z)) hd.2.1) (by kernel_rfl)) (fun b w2 n2=>⟨n2.below,b,rfl,Nat.le_of_eq n2.eq.symm,n2.at_⟩)) ?_)))))))))))));refine cq r rfl (fun fr1 u w' hb' hd r'=>?_) ?_
  · obtain ⟨d0,d1,d2,d3,_⟩:=hd; obtain ⟨q2,hq2,_,hr2⟩:=d2; exact aP r' (args:=[(.agg (af a0).toArray),(I (W ((W ((D.aT a0)+(W (a1 * 3))))+a2))),(.slice (some ⟨q2,0,none⟩) 2 2)]) (lc d0 (lc d1 (lc hq2 l0))) fS ((fZ _ a0 (W ((W ((D.aT a0)+(W (a1 * 3))))+a2)) ([(D.cl a0 a1),(⟨a2,0,2⟩:Bound)]) hr2 (by first | assumption | decide | (simp; done))).mono (by rintro _ w2 ⟨rfl,hb2⟩; exact ⟨_,rfl,hb2,rfl⟩))
  exact bA
 intro fr u w4 hb hΦ hne r;obtain ⟨b5,g13,E5,H5⟩:=hΦ 13 (by decide);have l_b5:=lt_of_block H5;have r:=r.congr (sc (hΦ 14 (by decide)) (sc g13 (sc (hΦ 12 (by decide)) (sc (hΦ 11 (by decide)) (sc (hΦ 10 (by decide)) (sc (hΦ 9 (by decide)) (sc (hΦ 8 (by decide)) (sc (hΦ 7 (by decide)) (sc (hΦ 6 (by decide)) (sc (hΦ 5 (by decide)) (sc (hΦ 4 (by decide)) (sc (hΦ 3 (by decide)) (sc (hΦ 2 (by decide)) (sc (hΦ 1 (by decide)) (sc (hΦ 0 (by decide)) rfl)))))))))))))));have Z4:=hb.size;have H1:=keep hb H1;obtain ⟨hB,zB⟩:=bon hb hB;refine kA (I (D.bM a0 (W ((W ((D.aT a0)+(W (a1 * 3))))+a2)) ([(D.cl a0 a1),(⟨a2,0,2⟩:Bound)]))) r rfl rfl fun r=>wn (wp_ret ?_);refine aQ r rfl rfl ?_
 exact ⟨rfl,hB⟩
def D.bS (a0:Plan) (a1:Int) (a2:Int):Int:=(D.bM a0 (IntKind.i64.wrap ((IntKind.i64.wrap ((IntKind.i64.wrap ((D.aJ a0)+(IntKind.i64.wrap (a1 * 5))))+2))+a2)) ([(D.cm a0 a1),(⟨a2,0,2⟩:Bound)]))
theorem fX (w0:World) 
    (a0:Plan) (a1:Int) (a2:Int) :
    Calls Tryz.prog 140 #[.agg (af a0).toArray,.int .i64 a1,.int .i64 a2] w0 (bi (.int .i64 (D.bS a0 a1 a2)) w0):=by
 refine enter Tryz.func140 rfl 23 rfl rfl fun fr r=>?_;have hB:=Below.refl w0.heap.size w0
 refine wsr ?_;refine kX 23 (.agg (af a0).toArray) r rfl rfl fun b1 w2 n3 r=>?_;obtain ⟨E1,Z2,H1,hB,zB⟩:=n3.all hB
 refine kA (I 0) r rfl rfl fun r=>wn (wp_seq ?_);refine bw 16 [.val (.agg (af a0).toArray),.val (.agg (af a0).toArray),.val (I (D.aJ a0)),.val (I a1),.val (I (W (a1 * 5))),.val (I (W ((D.aJ a0)+(W (a1 * 5))))),.val (I (W ((W ((D.aJ a0)+(W (a1 * 5))))+2))),.val (I a2),.val (I (W ((W ((W ((D.aJ a0)+(W (a1 * 5))))+2))+a2))),.val (.agg (af a0).toArray),.val (I a1),.val (.agg (bG (D.cm a0 a1)).toArray),.val (I a2),.val (.agg (bG (⟨a2,0,2⟩:Bound)).toArray),.slice w2.heap.size (.cells ((boundsC [(D.cm a0 a1),(⟨a2,0,2⟩:Bound)])).toArray 214 (0,0)) 2,.val (I (D.bM a0 (W ((W ((W ((D.aJ a0)+(W (a1 * 5))))+2))+a2)) ([(D.cm a0 a1),(⟨a2,0,2⟩:Bound)])))] mixed r (by kernel_rfl) (ag (by exact trivial) (ag (by exact trivial) (ag (by exact trivial) (ag (by exact trivial) (ag (by exact trivial) (ag (by exact trivial) (ag (by exact trivial) (ag (by exact trivial) (ag (by exact trivial) (ag (by exact trivial) (ag (by exact trivial) (ag (by exact trivial) (ag (by exact trivial) (ag (by exact trivial) (ag (Nat.le_refl _) (ag (by exact trivial) bv)))))))))))))))) ?_ ?_
 ·
  refine ec r (fun _ u _ b d s=>aU s (cs:=(af a0)) (n:=6) rfl (keep b H1) ta23 rfl bz) (ec r (fun _ u _ b d s=>aU s (cs:=(af a0)) (n:=6) rfl (keep b H1) ta23 rfl bz) (ec r (fun fr1 u w' hb' hd r'=>aP r' (args:=[(.agg (af a0).toArray)]) (lc hd.1 l0) mM ((l7 _ a0).mono (by rintro _ w2 ⟨rfl,hb2⟩; exact ⟨_,rfl,hb2,rfl⟩))) (ec r (fun _ u _ b d s=>aD s rfl bz) (ec r (fun _ u _ b d s=>aY s d.1 rfl rfl rfl bz) (ec r (fun _ u _ b d s=>aY s d.1 d.2.1 rfl rfl bz) (ec r (fun _ u _ b d s=>aY s d.1 rfl rfl rfl bz) (ec r (fun _ u _ b d s=>aD s rfl bz) (ec r (fun _ u _ b d s=>aY s d.1 d.2.1 rfl rfl bz) (ec r (fun _ u _ b d s=>aU s (cs:=(af a0)) (n:=6) rfl (keep b H1) ta23 rfl bz) (ec r (fun _ u _ b d s=>aD s rfl bz) (ec r (fun fr1 u w' hb' hd r'=>aP r' (args:=[(.agg (af a0).toArray),(I a1)]) (lc hd.1 (lc hd.2.1 l0)) pK ((nJ _ a0 a1).mono (by rintro _ w2 ⟨rfl,hb2⟩; exact ⟨_,rfl,hb2,rfl⟩))) (ec r (fun _ u _ b d s=>aD s rfl bz) (ec r (fun fr1 u w' hb' hd r'=>eZ r' (v:=(.agg (bG (⟨a2,0,2⟩:Bound)).toArray)) (bs3 (congrArg (fun z=>(0,z)) hd.1) (rfl) (rfl) (by kernel_rfl)) bz) (ec r (fun fr1 u w' hb' hd r'=>cg r' (c:=((boundsC [(D.cm a0 a1),(⟨a2,0,2⟩:Bound)])).toArray) (E:=214) (bs2 (congrArg (fun z=>(0,z)) hd.1) (congrArg (fun z=>(1,z)) hd.2.1) (by kernel_rfl)) (fun b w2 n2=>⟨n2.below,b,rfl,Nat.le_of_eq n2.eq.symm,n2.at_⟩)) ?_))))))))))))));refine cq r rfl (fun fr1 u w' hb' hd r'=>?_) ?_
  · obtain ⟨d0,d1,d2,d3,_⟩:=hd; obtain ⟨q2,hq2,_,hr2⟩:=d2; exact aP r' (args:=[(.agg (af a0).toArray),(I (W ((W ((W ((D.aJ a0)+(W (a1 * 5))))+2))+a2))),(.slice (some ⟨q2,0,none⟩) 2 2)]) (lc d0 (lc d1 (lc hq2 l0))) fS ((fZ _ a0 (W ((W ((W ((D.aJ a0)+(W (a1 * 5))))+2))+a2)) ([(D.cm a0 a1),(⟨a2,0,2⟩:Bound)]) hr2 (by first | assumption | decide | (simp; done))).mono (by rintro _ w2 ⟨rfl,hb2⟩; exact ⟨_,rfl,hb2,rfl⟩))
  exact bA
 intro fr u w4 hb hΦ hne r;obtain ⟨b5,g14,E5,H5⟩:=hΦ 14 (by decide);have l_b5:=lt_of_block H5;have r:=r.congr (sc (hΦ 15 (by decide)) (sc g14 (sc (hΦ 13 (by decide)) (sc (hΦ 12 (by decide)) (sc (hΦ 11 (by decide)) (sc (hΦ 10 (by decide)) (sc (hΦ 9 (by decide)) (sc (hΦ 8 (by decide)) (sc (hΦ 7 (by decide)) (sc (hΦ 6 (by decide)) (sc (hΦ 5 (by decide)) (sc (hΦ 4 (by decide)) (sc (hΦ 3 (by decide)) (sc (hΦ 2 (by decide)) (sc (hΦ 1 (by decide)) (sc (hΦ 0 (by decide)) rfl))))))))))))))));have Z4:=hb.size;have H1:=keep hb H1;obtain ⟨hB,zB⟩:=bon hb hB;refine kA (I (D.bM a0 (W ((W ((W ((D.aJ a0)+(W (a1 * 5))))+2))+a2)) ([(D.cm a0 a1),(⟨a2,0,2⟩:Bound)]))) r rfl rfl fun r=>wn (wp_ret ?_);refine aQ r rfl rfl ?_
 exact ⟨rfl,hB⟩
def D.cj (a0:Plan):Bool:=(bif (decide (a0.nodes<1)) then false else (bif (decide (a0.nodes > 1048576)) then false else (bif (decide (a0.threads<1)) then false else (bif (decide (a0.threads > 16)) then false else (bif (decide (a0.domains<0)) then false else (bif (decide (a0.domains > 64)) then false else (bif (decide (a0.buckets≥1)) then (bif (decide (a0.buckets≤256)) then (bif (decide (a0.gen≥1)) then (bif (decide (a0.gen≤1073741823)) then (bif (decide (a0.retire > (IntKind.i64.wrap (3 * a0.threads)))) then (decide (a0.retire≤1024)) else false) else false) else false) else false) else false)))))))
theorem qH (w0:World) 
    (a0:Plan) :
    Calls Tryz.prog 103 #[.agg (af a0).toArray] w0 (bi (.bool (D.cj a0)) w0):=by
 refine enter Tryz.func103 rfl 62 rfl rfl fun fr r=>?_;have hB:=Below.refl w0.heap.size w0
 refine wsr ?_;refine kX 23 (.agg (af a0).toArray) r rfl rfl fun b1 w2 n3 r=>?_;obtain ⟨E1,Z2,H1,hB,zB⟩:=n3.all hB
 refine kA (.bool false) r rfl rfl fun r=>wn (wp_seq (wsr (kF 0 r rfl dL rfl fun r=>kL (I a0.nodes) r rfl H1 to3 rfl rfl fun r=>kB r rfl rfl rfl rfl rfl fun r=>kM (.bool (decide (a0.nodes<1))) r rfl rfl fun r=>?_)));refine br (decide (a0.nodes<1)) (fun h4=>?_) (fun h4=>?_)
 ·
  refine s0 r h4 fun fr r=>s0 r h4 fun fr r=>s0 r h4 fun fr r=>ae (.bool true) r (fun R=>az r (b:=true) (congrArg Value.bool h4) rfl) rfl fun fr r=>kM (.bool true) r rfl rfl fun r=>s0 r (rfl:true=_) fun fr r=>s0 r (rfl:true=_) fun fr r=>s0 r (rfl:true=_) fun fr r=>ae (.bool true) r (fun R=>az r (b:=true) (congrArg Value.bool (rfl:true=_)) rfl) rfl fun fr r=>kM (.bool true) r rfl rfl fun r=>s0 r (rfl:true=_) fun fr r=>s0 r (rfl:true=_) fun fr r=>s0 r (rfl:true=_) fun fr r=>ae (.bool true) r (fun R=>az r (b:=true) (congrArg Value.bool (rfl:true=_)) rfl) rfl fun fr r=>kM (.bool true) r rfl rfl fun r=>s0 r (rfl:true=_) fun fr r=>s0 r (rfl:true=_) fun fr r=>s0 r (rfl:true=_) fun fr r=>ae (.bool true) r (fun R=>az r (b:=true) (congrArg Value.bool (rfl:true=_)) rfl) rfl fun fr r=>kM (.bool true) r rfl rfl fun r=>s0 r (rfl:true=_) fun fr r=>s0 r (rfl:true=_) fun fr r=>s0 r (rfl:true=_) fun fr r=>ae (.bool true) r (fun R=>az r (b:=true) (congrArg Value.bool (rfl:true=_)) rfl) rfl fun fr r=>wn ?_;refine wp_cond_split (t:=true) (r.ev rfl) (fun _=>?_) (fun h=>absurd ((rfl:true=_).symm.trans h) (by decide))
  refine wsr (kA (.bool false) r rfl rfl fun r=>wn (wp_ret ?_));have hd:D.cj a0=false:=(ay h4).trans (rfl)
  refine aQ r rfl rfl ?_;rw [hd];exact ⟨rfl,hB⟩
 refine s1 r h4 (kF 0 r rfl dL rfl fun r=>s1 r h4 (kL (I a0.nodes) r rfl H1 to3 rfl rfl fun r=>s1 r h4 (kB r rfl rfl rfl rfl rfl fun r=>ae (.bool (decide (a0.nodes > 1048576))) r (fun R=>az r (b:=false) (congrArg Value.bool h4) rfl) rfl fun fr r=>kM (.bool (decide (a0.nodes > 1048576))) r rfl rfl fun r=>?_)));refine br (decide (a0.nodes > 1048576)) (fun h5=>?_) (fun h5=>?_)
 ·
  refine s0 r h5 fun fr r=>s0 r h5 fun fr r=>s0 r h5 fun fr r=>ae (.bool true) r (fun R=>az r (b:=true) (congrArg Value.bool h5) rfl) rfl fun fr r=>kM (.bool true) r rfl rfl fun r=>s0 r (rfl:true=_) fun fr r=>s0 r (rfl:true=_) fun fr r=>s0 r (rfl:true=_) fun fr r=>ae (.bool true) r (fun R=>az r (b:=true) (congrArg Value.bool (rfl:true=_)) rfl) rfl fun fr r=>kM (.bool true) r rfl rfl fun r=>s0 r (rfl:true=_) fun fr r=>s0 r (rfl:true=_) fun fr r=>s0 r (rfl:true=_) fun fr r=>ae (.bool true) r (fun R=>az r (b:=true) (congrArg Value.bool (rfl:true=_)) rfl) rfl fun fr r=>kM (.bool true) r rfl rfl fun r=>s0 r (rfl:true=_) fun fr r=>s0 r (rfl:true=_) fun fr r=>s0 r (rfl:true=_) fun fr r=>ae (.bool true) r (fun R=>az r (b:=true) (congrArg Value.bool (rfl:true=_)) rfl) rfl fun fr r=>wn ?_;refine wp_cond_split (t:=true) (r.ev rfl) (fun _=>?_) (fun h=>absurd ((rfl:true=_).symm.trans h) (by decide))
  refine wsr (kA (.bool false) r rfl rfl fun r=>wn (wp_ret ?_));have hd:D.cj a0=false:=(aw h4).trans ((ay h5).trans (rfl))
  refine aQ r rfl rfl ?_;rw [hd];exact ⟨rfl,hB⟩
 refine s1 r h5 (kF 0 r rfl fa rfl fun r=>s1 r h5 (kL (I a0.threads) r rfl H1 to3 rfl rfl fun r=>s1 r h5 (kB r rfl rfl rfl rfl rfl fun r=>ae (.bool (decide (a0.threads<1))) r (fun R=>az r (b:=false) (congrArg Value.bool h5) rfl) rfl fun fr r=>kM (.bool (decide (a0.threads<1))) r rfl rfl fun r=>?_)));refine br (decide (a0.threads<1)) (fun h6=>?_) (fun h6=>?_)
 ·
  refine s0 r h6 fun fr r=>s0 r h6 fun fr r=>s0 r h6 fun fr r=>ae (.bool true) r (fun R=>az r (b:=true) (congrArg Value.bool h6) rfl) rfl fun fr r=>kM (.bool true) r rfl rfl fun r=>s0 r (rfl:true=_) fun fr r=>s0 r (rfl:true=_) fun fr r=>s0 r (rfl:true=_) fun fr r=>ae (.bool true) r (fun R=>az r (b:=true) (congrArg Value.bool (rfl:true=_)) rfl) rfl fun fr r=>kM (.bool true) r rfl rfl fun r=>s0 r (rfl:true=_) fun fr r=>s0 r (rfl:true=_) fun fr r=>s0 r (rfl:true=_) fun fr r=>ae (.bool true) r (fun R=>az r (b:=true) (congrArg Value.bool (rfl:true=_)) rfl) rfl fun fr r=>wn ?_;refine wp_cond_split (t:=true) (r.ev rfl) (fun _=>?_) (fun h=>absurd ((rfl:true=_).symm.trans h) (by decide))
  refine wsr (kA (.bool false) r rfl rfl fun r=>wn (wp_ret ?_));have hd:D.cj a0=false:=(aw h4).trans ((aw h5).trans ((ay h6).trans (rfl)))
  refine aQ r rfl rfl ?_;rw [hd];exact ⟨rfl,hB⟩
 refine s1 r h6 (kF 0 r rfl fa rfl fun r=>s1 r h6 (kL (I a0.threads) r rfl H1 to3 rfl rfl fun r=>s1 r h6 (kB r rfl rfl rfl rfl rfl fun r=>ae (.bool (decide (a0.threads > 16))) r (fun R=>az r (b:=false) (congrArg Value.bool h6) rfl) rfl fun fr r=>kM (.bool (decide (a0.threads > 16))) r rfl rfl fun r=>?_)));refine br (decide (a0.threads > 16)) (fun h7=>?_) (fun h7=>?_)
 ·
  refine s0 r h7 fun fr r=>s0 r h7 fun fr r=>s0 r h7 fun fr r=>ae (.bool true) r (fun R=>az r (b:=true) (congrArg Value.bool h7) rfl) rfl fun fr r=>kM (.bool true) r rfl rfl fun r=>s0 r (rfl:true=_) fun fr r=>s0 r (rfl:true=_) fun fr r=>s0 r (rfl:true=_) fun fr r=>ae (.bool true) r (fun R=>az r (b:=true) (congrArg Value.bool (rfl:true=_)) rfl) rfl fun fr r=>wn ?_;refine wp_cond_split (t:=true) (r.ev rfl) (fun _=>?_) (fun h=>absurd ((rfl:true=_).symm.trans h) (by decide))
  refine wsr (kA (.bool false) r rfl rfl fun r=>wn (wp_ret ?_));have hd:D.cj a0=false:=(aw h4).trans ((aw h5).trans ((aw h6).trans ((ay h7).trans (rfl))))
  refine aQ r rfl rfl ?_;rw [hd];exact ⟨rfl,hB⟩
 refine s1 r h7 (kF 0 r rfl gK rfl fun r=>s1 r h7 (kL (I a0.domains) r rfl H1 to3 rfl rfl fun r=>s1 r h7 (kB r rfl rfl rfl rfl rfl fun r=>ae (.bool (decide (a0.domains<0))) r (fun R=>az r (b:=false) (congrArg Value.bool h7) rfl) rfl fun fr r=>kM (.bool (decide (a0.domains<0))) r rfl rfl fun r=>?_)));refine br (decide (a0.domains<0)) (fun h8=>?_) (fun h8=>?_)
 ·
  refine s0 r h8 fun fr r=>s0 r h8 fun fr r=>s0 r h8 fun fr r=>ae (.bool true) r (fun R=>az r (b:=true) (congrArg Value.bool h8) rfl) rfl fun fr r=>wn ?_;refine wp_cond_split (t:=true) (r.ev rfl) (fun _=>?_) (fun h=>absurd ((rfl:true=_).symm.trans h) (by decide))
  refine wsr (kA (.bool false) r rfl rfl fun r=>wn (wp_ret ?_));have hd:D.cj a0=false:=(aw h4).trans ((aw h5).trans ((aw h6).trans ((aw h7).trans ((ay h8).trans (rfl)))))
  refine aQ r rfl rfl ?_;rw [hd];exact ⟨rfl,hB⟩
 refine s1 r h8 (kF 0 r rfl gK rfl fun r=>s1 r h8 (kL (I a0.domains) r rfl H1 to3 rfl rfl fun r=>s1 r h8 (kB r rfl rfl rfl rfl rfl fun r=>ae (.bool (decide (a0.domains > 64))) r (fun R=>az r (b:=false) (congrArg Value.bool h8) rfl) rfl fun fr r=>wn ?_)));refine wp_cond_split (t:=(decide (a0.domains > 64))) (r.ev rfl) (fun h9=>?_) (fun h9=>?_)
 ·
  refine wsr (kA (.bool false) r rfl rfl fun r=>wn (wp_ret ?_));have hd:D.cj a0=false:=(aw h4).trans ((aw h5).trans ((aw h6).trans ((aw h7).trans ((aw h8).trans ((ay h9).trans (rfl))))))
  refine aQ r rfl rfl ?_;rw [hd];exact ⟨rfl,hB⟩
 refine wp_skip (wsr (kF 0 r rfl jM rfl fun r=>kL (I a0.buckets) r rfl H1 to3 rfl rfl fun r=>kB r rfl rfl rfl rfl rfl fun r=>kM (.bool (decide (a0.buckets≥1))) r rfl rfl fun r=>?_));refine br (decide (a0.buckets≥1)) (fun h10=>?_) (fun h10=>?_)
 ·
  refine s1 r h10 (kF 0 r rfl jM rfl fun r=>s1 r h10 (kL (I a0.buckets) r rfl H1 to3 rfl rfl fun r=>s1 r h10 (kB r rfl rfl rfl rfl rfl fun r=>ae (.bool (decide (a0.buckets≤256))) r (fun R=>az r (b:=true) (congrArg Value.bool h10) rfl) rfl fun fr r=>kM (.bool (decide (a0.buckets≤256))) r rfl rfl fun r=>?_)));refine br (decide (a0.buckets≤256)) (fun h11=>?_) (fun h11=>?_)
  ·
   refine s1 r h11 (kF 0 r rfl jS rfl fun r=>s1 r h11 (kL (I a0.gen) r rfl H1 to3 rfl rfl fun r=>s1 r h11 (kB r rfl rfl rfl rfl rfl fun r=>ae (.bool (decide (a0.gen≥1))) r (fun R=>az r (b:=true) (congrArg Value.bool h11) rfl) rfl fun fr r=>kM (.bool (decide (a0.gen≥1))) r rfl rfl fun r=>?_)));refine br (decide (a0.gen≥1)) (fun h12=>?_) (fun h12=>?_)
   ·
    refine s1 r h12 (kF 0 r rfl jS rfl fun r=>s1 r h12 (kL (I a0.gen) r rfl H1 to3 rfl rfl fun r=>s1 r h12 (kB r rfl rfl rfl rfl rfl fun r=>ae (.bool (decide (a0.gen≤1073741823))) r (fun R=>az r (b:=true) (congrArg Value.bool h12) rfl) rfl fun fr r=>kM (.bool (decide (a0.gen≤1073741823))) r rfl rfl fun r=>?_)));refine br (decide (a0.gen≤1073741823)) (fun h13=>?_) (fun h13=>?_)
    ·
     refine s1 r h13 (kF 0 r rfl dU rfl fun r=>s1 r h13 (kL (I a0.retire) r rfl H1 to3 rfl rfl fun r=>s1 r h13 (kF 0 r rfl fa rfl fun r=>s1 r h13 (kL (I a0.threads) r rfl H1 to3 rfl rfl fun r=>s1 r h13 (kB r rfl rfl rfl rfl rfl fun r=>s1 r h13 (kB r rfl rfl rfl rfl rfl fun r=>ae (.bool (decide (a0.retire > (W (3 * a0.threads))))) r (fun R=>az r (b:=true) (congrArg Value.bool h13) rfl) rfl fun fr r=>kM (.bool (decide (a0.retire > (W (3 * a0.threads))))) r rfl rfl fun r=>?_))))));refine br (decide (a0.retire > (W (3 * a0.threads)))) (fun h14=>?_) (fun h14=>?_)
     ·
      refine s1 r h14 (kF 0 r rfl dU rfl fun r=>s1 r h14 (kL (I a0.retire) r rfl H1 to3 rfl rfl fun r=>s1 r h14 (kB r rfl rfl rfl rfl rfl fun r=>ae (.bool (decide (a0.retire≤1024))) r (fun R=>az r (b:=true) (congrArg Value.bool h14) rfl) rfl fun fr r=>kA (.bool (decide (a0.retire≤1024))) r rfl rfl fun r=>wn (wp_ret ?_))));have hd:D.cj a0=(decide (a0.retire≤1024)):=(aw h4).trans ((aw h5).trans ((aw h6).trans ((aw h7).trans ((aw h8).trans ((aw h9).trans ((ay h10).trans ((ay h11).trans ((ay h12).trans ((ay h13).trans ((ay h14).trans (rfl)))))))))))
      refine aQ r rfl rfl ?_;rw [hd];exact ⟨rfl,hB⟩
     refine s0 r h14 fun fr r=>s0 r h14 fun fr r=>s0 r h14 fun fr r=>ae (.bool false) r (fun R=>az r (b:=false) (congrArg Value.bool h14) rfl) rfl fun fr r=>kA (.bool false) r rfl rfl fun r=>wn (wp_ret ?_);have hd:D.cj a0=false:=(aw h4).trans ((aw h5).trans ((aw h6).trans ((aw h7).trans ((aw h8).trans ((aw h9).trans ((ay h10).trans ((ay h11).trans ((ay h12).trans ((ay h13).trans ((aw h14).trans (rfl)))))))))))
     refine aQ r rfl rfl ?_;rw [hd];exact ⟨rfl,hB⟩
    refine s0 r h13 fun fr r=>s0 r h13 fun fr r=>s0 r h13 fun fr r=>s0 r h13 fun fr r=>s0 r h13 fun fr r=>s0 r h13 fun fr r=>ae (.bool false) r (fun R=>az r (b:=false) (congrArg Value.bool h13) rfl) rfl fun fr r=>kM (.bool false) r rfl rfl fun r=>s0 r (rfl:false=_) fun fr r=>s0 r (rfl:false=_) fun fr r=>s0 r (rfl:false=_) fun fr r=>ae (.bool false) r (fun R=>az r (b:=false) (congrArg Value.bool (rfl:false=_)) rfl) rfl fun fr r=>kA (.bool false) r rfl rfl fun r=>wn (wp_ret ?_);have hd:D.cj a0=false:=(aw h4).trans ((aw h5).trans ((aw h6).trans ((aw h7).trans ((aw h8).trans ((aw h9).trans ((ay h10).trans ((ay h11).trans ((ay h12).trans ((aw h13).trans (rfl))))))))))
    refine aQ r rfl rfl ?_;rw [hd];exact ⟨rfl,hB⟩
   refine s0 r h12 fun fr r=>s0 r h12 fun fr r=>s0 r h12 fun fr r=>ae (.bool false) r (fun R=>az r (b:=false) (congrArg Value.bool h12) rfl) rfl fun fr r=>kM (.bool false) r rfl rfl fun r=>s0 r (rfl:false=_) fun fr r=>s0 r (rfl:false=_) fun fr r=>s0 r (rfl:false=_) fun fr r=>s0 r (rfl:false=_) fun fr r=>s0 r (rfl:false=_) fun fr r=>s0 r (rfl:false=_) fun fr r=>ae (.bool false) r (fun R=>az r (b:=false) (congrArg Value.bool (rfl:false=_)) rfl) rfl fun fr r=>kM (.bool false) r rfl rfl fun r=>s0 r (rfl:false=_) fun fr r=>s0 r (rfl:false=_) fun fr r=>s0 r (rfl:false=_) fun fr r=>ae (.bool false) r (fun R=>az r (b:=false) (congrArg Value.bool (rfl:false=_)) rfl) rfl fun fr r=>kA (.bool false) r rfl rfl fun r=>wn (wp_ret ?_);have hd:D.cj a0=false:=(aw h4).trans ((aw h5).trans ((aw h6).trans ((aw h7).trans ((aw h8).trans ((aw h9).trans ((ay h10).trans ((ay h11).trans ((aw h12).trans (rfl)))))))))
   refine aQ r rfl rfl ?_;rw [hd];exact ⟨rfl,hB⟩
  refine s0 r h11 fun fr r=>s0 r h11 fun fr r=>s0 r h11 fun fr r=>ae (.bool false) r (fun R=>az r (b:=false) (congrArg Value.bool h11) rfl) rfl fun fr r=>kM (.bool false) r rfl rfl fun r=>s0 r (rfl:false=_) fun fr r=>s0 r (rfl:false=_) fun fr r=>s0 r (rfl:false=_) fun fr r=>ae (.bool false) r (fun R=>az r (b:=false) (congrArg Value.bool (rfl:false=_)) rfl) rfl fun fr r=>kM (.bool false) r rfl rfl fun r=>s0 r (rfl:false=_) fun fr r=>s0 r (rfl:false=_) fun fr r=>s0 r (rfl:false=_) fun fr r=>s0 r (rfl:false=_) fun fr r=>s0 r (rfl:false=_) fun fr r=>s0 r (rfl:false=_) fun fr r=>ae (.bool false) r (fun R=>az r (b:=false) (congrArg Value.bool (rfl:false=_)) rfl) rfl fun fr r=>kM (.bool false) r rfl rfl fun r=>s0 r (rfl:false=_) fun fr r=>s0 r (rfl:false=_) fun fr r=>s0 r (rfl:false=_) fun fr r=>ae (.bool false) r (fun R=>az r (b:=false) (congrArg Value.bool (rfl:false=_)) rfl) rfl fun fr r=>kA (.bool false) r rfl rfl fun r=>wn (wp_ret ?_);have hd:D.cj a0=false:=(aw h4).trans ((aw h5).trans ((aw h6).trans ((aw h7).trans ((aw h8).trans ((aw h9).trans ((ay h10).trans ((aw h11).trans (rfl))))))))
  refine aQ r rfl rfl ?_;rw [hd];exact ⟨rfl,hB⟩
 refine s0 r h10 fun fr r=>s0 r h10 fun fr r=>s0 r h10 fun fr r=>ae (.bool false) r (fun R=>az r (b:=false) (congrArg Value.bool h10) rfl) rfl fun fr r=>kM (.bool false) r rfl rfl fun r=>s0 r (rfl:false=_) fun fr r=>s0 r (rfl:false=_) fun fr r=>s0 r (rfl:false=_) fun fr r=>ae (.bool false) r (fun R=>az r (b:=false) (congrArg Value.bool (rfl:false=_)) rfl) rfl fun fr r=>kM (.bool false) r rfl rfl fun r=>s0 r (rfl:false=_) fun fr r=>s0 r (rfl:false=_) fun fr r=>s0 r (rfl:false=_) fun fr r=>ae (.bool false) r (fun R=>az r (b:=false) (congrArg Value.bool (rfl:false=_)) rfl) rfl fun fr r=>kM (.bool false) r rfl rfl fun r=>s0 r (rfl:false=_) fun fr r=>s0 r (rfl:false=_) fun fr r=>s0 r (rfl:false=_) fun fr r=>s0 r (rfl:false=_) fun fr r=>s0 r (rfl:false=_) fun fr r=>s0 r (rfl:false=_) fun fr r=>ae (.bool false) r (fun R=>az r (b:=false) (congrArg Value.bool (rfl:false=_)) rfl) rfl fun fr r=>kM (.bool false) r rfl rfl fun r=>s0 r (rfl:false=_) fun fr r=>s0 r (rfl:false=_) fun fr r=>s0 r (rfl:false=_) fun fr r=>ae (.bool false) r (fun R=>az r (b:=false) (congrArg Value.bool (rfl:false=_)) rfl) rfl fun fr r=>kA (.bool false) r rfl rfl fun r=>wn (wp_ret ?_);have hd:D.cj a0=false:=(aw h4).trans ((aw h5).trans ((aw h6).trans ((aw h7).trans ((aw h8).trans ((aw h9).trans ((aw h10).trans (rfl)))))))
 refine aQ r rfl rfl ?_;rw [hd];exact ⟨rfl,hB⟩
def D.dH (a0:Plan):Bool:=(bif (!(D.cj a0)) then true else (bif (decide (a0.nodes≤40)) then (bif (decide (a0.retire≤40)) then (bif (decide (a0.domains≤6)) then (decide (a0.buckets≤10)) else false) else false) else false))
theorem xl (w0:World) 
    (a0:Plan) :
    Calls Tryz.prog 102 #[.agg (af a0).toArray] w0 (bi (.bool (D.dH a0)) w0):=by
 refine enter Tryz.func102 rfl 26 rfl rfl fun fr r=>?_;have hB:=Below.refl w0.heap.size w0
 refine wsr ?_;refine kX 23 (.agg (af a0).toArray) r rfl rfl fun b1 w2 n3 r=>?_;obtain ⟨E1,Z2,H1,hB,zB⟩:=n3.all hB
 refine kA (.bool false) r rfl rfl fun r=>wn (wsr (kG (af a0) 6 r rfl H1 ta23 rfl rfl fun r=>?_));refine kE r (qH w2 a0) rfl vq rfl fun w4 hb r=>?_
 have Z4:=hb.size;have H1:=keep hb H1;obtain ⟨hB,zB⟩:=bon hb hB;refine ae (.bool (!(D.cj a0))) r (fun R=>y_un r (u:=(.bool (D.cj a0))) rfl rfl) rfl fun fr r=>kM (.bool (!(D.cj a0))) r rfl rfl fun r=>?_;refine br (!(D.cj a0)) (fun h5=>?_) (fun h5=>?_)
 ·
  refine s0 r h5 fun fr r=>s0 r h5 fun fr r=>s0 r h5 fun fr r=>s0 r h5 fun fr r=>?_;refine df r rfl rfl rfl (v:=undef) rfl (by simp [aV,undef]) fun fr r=>?_
  refine df r rfl rfl rfl (v:=undef) rfl (by simp [aV,undef]) fun fr r=>?_;refine df r rfl rfl rfl (v:=undef) rfl (by simp [aV,undef]) fun fr r=>s0 r h5 fun fr r=>s0 r h5 fun fr r=>?_
  refine df r rfl rfl rfl (v:=undef) rfl (by simp [aV,undef]) fun fr r=>?_;refine df r rfl rfl rfl (v:=undef) rfl (by simp [aV,undef]) fun fr r=>?_
  refine df r rfl rfl rfl (v:=undef) rfl (by simp [aV,undef]) fun fr r=>s0 r h5 fun fr r=>s0 r h5 fun fr r=>?_;refine df r rfl rfl rfl (v:=undef) rfl (by simp [aV,undef]) fun fr r=>?_
  refine df r rfl rfl rfl (v:=undef) rfl (by simp [aV,undef]) fun fr r=>?_;refine df r rfl rfl rfl (v:=undef) rfl (by simp [aV,undef]) fun fr r=>s0 r h5 fun fr r=>ae (.bool true) r (fun R=>az r (b:=true) (congrArg Value.bool h5) rfl) rfl fun fr r=>kA (.bool true) r rfl rfl fun r=>wn (wp_ret ?_)
  have hd:D.dH a0=true:=(ay h5).trans (rfl);refine aQ r rfl rfl ?_;rw [hd];exact ⟨rfl,hB⟩
 refine s1 r h5 (kF 0 r rfl dL rfl fun r=>s1 r h5 (kL (I a0.nodes) r rfl H1 to3 rfl rfl fun r=>s1 r h5 (kB r rfl rfl rfl rfl rfl fun r=>s1 r h5 (kM (.bool (decide (a0.nodes≤40))) r rfl rfl fun r=>?_))));refine br (decide (a0.nodes≤40)) (fun h6=>?_) (fun h6=>?_)
 ·
  refine s1 r h6 (kF 0 r rfl dU rfl fun r=>s1 r h6 (kL (I a0.retire) r rfl H1 to3 rfl rfl fun r=>s1 r h6 (kB r rfl rfl rfl rfl rfl fun r=>s1 r h5 (ae (.bool (decide (a0.retire≤40))) r (fun R=>az r (b:=true) (congrArg Value.bool h6) rfl) rfl fun fr r=>s1 r h5 (kM (.bool (decide (a0.retire≤40))) r rfl rfl fun r=>?_)))));refine br (decide (a0.retire≤40)) (fun h7=>?_) (fun h7=>?_)
  ·
   refine s1 r h7 (kF 0 r rfl gK rfl fun r=>s1 r h7 (kL (I a0.domains) r rfl H1 to3 rfl rfl fun r=>s1 r h7 (kB r rfl rfl rfl rfl rfl fun r=>s1 r h5 (ae (.bool (decide (a0.domains≤6))) r (fun R=>az r (b:=true) (congrArg Value.bool h7) rfl) rfl fun fr r=>s1 r h5 (kM (.bool (decide (a0.domains≤6))) r rfl rfl fun r=>?_)))));refine br (decide (a0.domains≤6)) (fun h8=>?_) (fun h8=>?_)
   ·
    refine s1 r h8 (kF 0 r rfl jM rfl fun r=>s1 r h8 (kL (I a0.buckets) r rfl H1 to3 rfl rfl fun r=>s1 r h8 (kB r rfl rfl rfl rfl rfl fun r=>s1 r h5 (ae (.bool (decide (a0.buckets≤10))) r (fun R=>az r (b:=true) (congrArg Value.bool h8) rfl) rfl fun fr r=>ae (.bool (decide (a0.buckets≤10))) r (fun R=>az r (b:=false) (congrArg Value.bool h5) rfl) rfl fun fr r=>kA (.bool (decide (a0.buckets≤10))) r rfl rfl fun r=>wn (wp_ret ?_)))));have hd:D.dH a0=(decide (a0.buckets≤10)):=(aw h5).trans ((ay h6).trans ((ay h7).trans ((ay h8).trans (rfl))))
    refine aQ r rfl rfl ?_;rw [hd];exact ⟨rfl,hB⟩
   refine s0 r h8 fun fr r=>s0 r h8 fun fr r=>s0 r h8 fun fr r=>s1 r h5 (ae (.bool false) r (fun R=>az r (b:=false) (congrArg Value.bool h8) rfl) rfl fun fr r=>ae (.bool false) r (fun R=>az r (b:=false) (congrArg Value.bool h5) rfl) rfl fun fr r=>kA (.bool false) r rfl rfl fun r=>wn (wp_ret ?_));have hd:D.dH a0=false:=(aw h5).trans ((ay h6).trans ((ay h7).trans ((aw h8).trans (rfl))))
   refine aQ r rfl rfl ?_;rw [hd];exact ⟨rfl,hB⟩
  refine s0 r h7 fun fr r=>s0 r h7 fun fr r=>s0 r h7 fun fr r=>s1 r h5 (ae (.bool false) r (fun R=>az r (b:=false) (congrArg Value.bool h7) rfl) rfl fun fr r=>s1 r h5 (kM (.bool false) r rfl rfl fun r=>s0 r (rfl:false=_) fun fr r=>s0 r (rfl:false=_) fun fr r=>s0 r (rfl:false=_) fun fr r=>s1 r h5 (ae (.bool false) r (fun R=>az r (b:=false) (congrArg Value.bool (rfl:false=_)) rfl) rfl fun fr r=>ae (.bool false) r (fun R=>az r (b:=false) (congrArg Value.bool h5) rfl) rfl fun fr r=>kA (.bool false) r rfl rfl fun r=>wn (wp_ret ?_))));have hd:D.dH a0=false:=(aw h5).trans ((ay h6).trans ((aw h7).trans (rfl)))
  refine aQ r rfl rfl ?_;rw [hd];exact ⟨rfl,hB⟩
 refine s0 r h6 fun fr r=>s0 r h6 fun fr r=>s0 r h6 fun fr r=>s1 r h5 (ae (.bool false) r (fun R=>az r (b:=false) (congrArg Value.bool h6) rfl) rfl fun fr r=>s1 r h5 (kM (.bool false) r rfl rfl fun r=>s0 r (rfl:false=_) fun fr r=>s0 r (rfl:false=_) fun fr r=>s0 r (rfl:false=_) fun fr r=>s1 r h5 (ae (.bool false) r (fun R=>az r (b:=false) (congrArg Value.bool (rfl:false=_)) rfl) rfl fun fr r=>s1 r h5 (kM (.bool false) r rfl rfl fun r=>s0 r (rfl:false=_) fun fr r=>s0 r (rfl:false=_) fun fr r=>s0 r (rfl:false=_) fun fr r=>s1 r h5 (ae (.bool false) r (fun R=>az r (b:=false) (congrArg Value.bool (rfl:false=_)) rfl) rfl fun fr r=>ae (.bool false) r (fun R=>az r (b:=false) (congrArg Value.bool h5) rfl) rfl fun fr r=>kA (.bool false) r rfl rfl fun r=>wn (wp_ret ?_))))));have hd:D.dH a0=false:=(aw h5).trans ((aw h6).trans (rfl))
 refine aQ r rfl rfl ?_;rw [hd];exact ⟨rfl,hB⟩
def D.eJ (a0:Plan) (a1:Int):Bound:=(⟨a1,0,(IntKind.i64.wrap (a0.domains - 1))⟩:Bound)
theorem xo (w0:World) 
    (a0:Plan) (a1:Int) :
    Calls Tryz.prog 147 #[.agg (af a0).toArray,.int .i64 a1] w0 (bi (.agg (bG (D.eJ a0 a1)).toArray) w0):=by
 refine enter Tryz.func147 rfl 10 rfl rfl fun fr r=>?_;have hB:=Below.refl w0.heap.size w0
 refine wsr ?_;refine kX 23 (.agg (af a0).toArray) r rfl rfl fun b1 w2 n3 r=>?_;obtain ⟨E1,Z2,H1,hB,zB⟩:=n3.all hB
 refine ar (.cells ((bG (⟨0,0,0⟩:Bound))).toArray 214 (0,0)) r (fun R=>aq pP) rfl fun fr b4 w5 n6 r=>?_;have H1:=keep n6.below H1
 obtain ⟨E4,Z5,H4,hB,zB⟩:=n6.all hB;refine wn (wsr (kM (I a1) r rfl rfl fun r=>kF 0 r rfl gK rfl fun r=>kL (I a0.domains) r rfl H1 to3 rfl rfl fun r=>kB r rfl rfl rfl rfl rfl fun r=>kU (.agg (bG (⟨a1,0,(W (a0.domains - 1))⟩:Bound)).toArray) r (by kernel_rfl) rfl fun r=>?_));refine aM (.cells ((bG (⟨a1,0,(W (a0.domains - 1))⟩:Bound))).toArray 214 (0,0)) r (fun R=>aX r (o:=0) (v:=(.agg (bG (⟨a1,0,(W (a0.domains - 1))⟩:Bound)).toArray)) rfl rfl H4 qp (Nat.le_of_ble_eq_true rfl) rfl rfl) rfl fun fr w7 u8 r=>?_
 have Z7:=u8.size;have H1:=u8.keep H1 (by omega)
 have H4:=u8.at_;obtain ⟨hB,zB⟩:=u8.on hB (by omega)
 refine wn (wp_ret ?_);refine aH r rfl rfl H4 (k:=3) rfl pR ?_;exact ⟨rfl,hB⟩
def D.cU (a0:Plan) (a1:Int) (a2:Int):Int:=(D.bM a0 (IntKind.i64.wrap ((IntKind.i64.wrap (2+(IntKind.i64.wrap (a1 * (IntKind.i64.wrap (1+(D.bF a0)))))))+a2)) ([(D.eJ a0 a1),(⟨a2,0,(IntKind.i64.wrap ((D.bF a0) - 1))⟩:Bound)]))
theorem nF (w0:World) 
    (a0:Plan) (a1:Int) (a2:Int) :
    Calls Tryz.prog 74 #[.agg (af a0).toArray,.int .i64 a1,.int .i64 a2] w0 (bi (.int .i64 (D.cU a0 a1 a2)) w0):=by
 refine enter Tryz.func74 rfl 26 rfl rfl fun fr r=>?_;have hB:=Below.refl w0.heap.size w0
 refine wsr ?_;refine kX 23 (.agg (af a0).toArray) r rfl rfl fun b1 w2 n3 r=>?_;obtain ⟨E1,Z2,H1,hB,zB⟩:=n3.all hB
 refine kA (I 0) r rfl rfl fun r=>wn (wp_seq ?_);refine bw 19 [.val (.agg (af a0).toArray),.val (I a1),.val (.agg (af a0).toArray),.val (I (D.bF a0)),.val (I (W (1+(D.bF a0)))),.val (I (W (a1 * (W (1+(D.bF a0)))))),.val (I (W (2+(W (a1 * (W (1+(D.bF a0)))))))),.val (I a2),.val (I (W ((W (2+(W (a1 * (W (1+(D.bF a0)))))))+a2))),.val (.agg (af a0).toArray),.val (I a1),.val (.agg (bG (D.eJ a0 a1)).toArray),.val (I a2),.val (.agg (af a0).toArray),.val (I (D.bF a0)),.val (I (W ((D.bF a0) - 1))),.val (.agg (bG (⟨a2,0,(W ((D.bF a0) - 1))⟩:Bound)).toArray),.slice w2.heap.size (.cells ((boundsC [(D.eJ a0 a1),(⟨a2,0,(W ((D.bF a0) - 1))⟩:Bound)])).toArray 214 (0,0)) 2,.val (I (D.bM a0 (W ((W (2+(W (a1 * (W (1+(D.bF a0)))))))+a2)) ([(D.eJ a0 a1),(⟨a2,0,(W ((D.bF a0) - 1))⟩:Bound)])))] mixed r (by kernel_rfl) (ag (by exact trivial) (ag (by exact trivial) (ag (by exact trivial) (ag (by exact trivial) (ag (by exact trivial) (ag (by exact trivial) (ag (by exact trivial) (ag (by exact trivial) (ag (by exact trivial) (ag (by exact trivial) (ag (by exact trivial) (ag (by exact trivial) (ag (by exact trivial) (ag (by exact trivial) (ag (by exact trivial) (ag (by exact trivial) (ag (by exact trivial) (ag (Nat.le_refl _) (ag (by exact trivial) bv))))))))))))))))))) ?_ ?_
 ·
  refine ec r (fun _ u _ b d s=>aU s (cs:=(af a0)) (n:=6) rfl (keep b H1) ta23 rfl bz) (ec r (fun _ u _ b d s=>aD s rfl bz) (ec r (fun _ u _ b d s=>aU s (cs:=(af a0)) (n:=6) rfl (keep b H1) ta23 rfl bz) (ec r (fun fr1 u w' hb' hd r'=>aP r' (args:=[(.agg (af a0).toArray)]) (lc hd.1 l0) pL ((nB _ a0).mono (by rintro _ w2 ⟨rfl,hb2⟩; exact ⟨_,rfl,hb2,rfl⟩))) (ec r (fun _ u _ b d s=>aY s rfl d.1 rfl rfl bz) (ec r (fun _ u _ b d s=>aY s d.1 d.2.1 rfl rfl bz) (ec r (fun _ u _ b d s=>aY s rfl d.1 rfl rfl bz) (ec r (fun _ u _ b d s=>aD s rfl bz) (ec r (fun _ u _ b d s=>aY s d.1 d.2.1 rfl rfl bz) (ec r (fun _ u _ b d s=>aU s (cs:=(af a0)) (n:=6) rfl (keep b H1) ta23 rfl bz) (ec r (fun _ u _ b d s=>aD s rfl bz) (ec r (fun fr1 u w' hb' hd r'=>aP r' (args:=[(.agg (af a0).toArray),(I a1)]) (lc hd.1 (lc hd.2.1 l0)) DA ((xo _ a0 a1).mono (by rintro _ w2 ⟨rfl,hb2⟩; exact ⟨_,rfl,hb2,rfl⟩))) (ec r (fun _ u _ b d s=>aD s rfl bz) (ec r (fun _ u _ b d s=>aU s (cs:=(af a0)) (n:=6) rfl (keep b H1) ta23 rfl bz) (ec r (fun fr1 u w' hb' hd r'=>aP r' (args:=[(.agg (af a0).toArray)]) (lc hd.1 l0) pL ((nB _ a0).mono (by rintro _ w2 ⟨rfl,hb2⟩; exact ⟨_,rfl,hb2,rfl⟩))) (ec r (fun _ u _ b d s=>aY s d.1 rfl rfl rfl bz) (ec r (fun fr1 u w' hb' hd r'=>eZ r' (v:=(.agg (bG (⟨a2,0,(W ((D.bF a0) - 1))⟩:Bound)).toArray)) (bs3 (congrArg (fun z=>(0,z)) hd.1) (rfl) (congrArg (fun z=>(2,z)) hd.2.1) (by kernel_rfl)) bz) (ec r (fun fr1 u w' hb' hd r'=>cg r' (c:=((boundsC [(D.eJ a0 a1),(⟨a2,0,(W ((D.bF a0) - 1))⟩:Bound)])).toArray) (E:=214) (bs2 (congrArg (fun z=>(0,z)) hd.1) (congrArg (fun z=>(1,z)) hd.2.1) (by kernel_rfl)) (fun b w2 n2=>⟨n2.below,b,rfl,Nat.le_of_eq n2.eq.symm,n2.at_⟩)) ?_)))))))))))))))))
  refine cq r rfl (fun fr1 u w' hb' hd r'=>?_) ?_
  · obtain ⟨d0,d1,d2,d3,_⟩:=hd; obtain ⟨q2,hq2,_,hr2⟩:=d2; exact aP r' (args:=[(.agg (af a0).toArray),(I (W ((W (2+(W (a1 * (W (1+(D.bF a0)))))))+a2))),(.slice (some ⟨q2,0,none⟩) 2 2)]) (lc d0 (lc d1 (lc hq2 l0))) fS ((fZ _ a0 (W ((W (2+(W (a1 * (W (1+(D.bF a0)))))))+a2)) ([(D.eJ a0 a1),(⟨a2,0,(W ((D.bF a0) - 1))⟩:Bound)]) hr2 (by first | assumption | decide | (simp; done))).mono (by rintro _ w2 ⟨rfl,hb2⟩; exact ⟨_,rfl,hb2,rfl⟩))
  exact bA
 intro fr u w4 hb hΦ hne r;obtain ⟨b5,g17,E5,H5⟩:=hΦ 17 (by decide);have l_b5:=lt_of_block H5;have r:=r.congr (sc (hΦ 18 (by decide)) (sc g17 (sc (hΦ 16 (by decide)) (sc (hΦ 15 (by decide)) (sc (hΦ 14 (by decide)) (sc (hΦ 13 (by decide)) (sc (hΦ 12 (by decide)) (sc (hΦ 11 (by decide)) (sc (hΦ 10 (by decide)) (sc (hΦ 9 (by decide)) (sc (hΦ 8 (by decide)) (sc (hΦ 7 (by decide)) (sc (hΦ 6 (by decide)) (sc (hΦ 5 (by decide)) (sc (hΦ 4 (by decide)) (sc (hΦ 3 (by decide)) (sc (hΦ 2 (by decide)) (sc (hΦ 1 (by decide)) (sc (hΦ 0 (by decide)) rfl)))))))))))))))))));have Z4:=hb.size;have H1:=keep hb H1;obtain ⟨hB,zB⟩:=bon hb hB;refine kA (I (D.bM a0 (W ((W (2+(W (a1 * (W (1+(D.bF a0)))))))+a2)) ([(D.eJ a0 a1),(⟨a2,0,(W ((D.bF a0) - 1))⟩:Bound)]))) r rfl rfl fun r=>wn (wp_ret ?_);refine aQ r rfl rfl ?_
 exact ⟨rfl,hB⟩
end Go.Proofs.YtfpgnmhcfkikkaaGreat

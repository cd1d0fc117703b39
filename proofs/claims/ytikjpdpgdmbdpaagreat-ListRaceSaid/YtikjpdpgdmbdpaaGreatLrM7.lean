/- Some of our texts, one behind the other. -/
import Derived.Test.YtikjpdpgdmbdpaaGreatLrM6
set_option linter.all false
/- Ours. -/
set_option maxRecDepth 20000
set_option maxHeartbeats 2000000
namespace Go.Proofs.YtikjpdpgdmbdpaaGreat
open Go.RowKit
theorem iV:aZ Tryz.prog 219 0 0:=kz
theorem mJ:aZ Tryz.prog 219 1 1:=kz
def D.bR (a0:Field):Bool:=(bif (decide (a0.at_≥0)) then (bif (decide (a0.at_<64)) then (bif (decide (a0.bits≥1)) then (decide (a0.bits≤(IntKind.i64.wrap (64 - a0.at_)))) else false) else false) else false)
theorem j9 (w0:World) 
    (a0:Field) :
    Calls Tryz.prog 236 #[.agg (aD a0).toArray] w0 (bw (.bool (D.bR a0)) w0):=by
 refine kN Tryz.func236 rfl 24 rfl rfl fun fr r hB=>?_;refine wsr ?_
 refine kX 219 (.agg (aD a0).toArray) r rfl rfl fun b1 w2 n3 r=>?_;obtain ⟨eb1,zw2,hb1,hB,zB⟩:=n3.all hB
 refine kA (.bool false) r rfl rfl fun r=>wn (wsr (kF 0 r rfl iV rfl fun r=>kL (I a0.at_) r rfl hb1 to3 rfl rfl fun r=>kB r rfl rfl rfl rfl rfl fun r=>kM (.bool (decide (a0.at_≥0))) r rfl rfl fun r=>?_));refine bA (decide (a0.at_≥0)) (fun h4=>?_) (fun h4=>?_)
 ·
  refine s1 r h4 (kF 0 r rfl iV rfl fun r=>s1 r h4 (kL (I a0.at_) r rfl hb1 to3 rfl rfl fun r=>s1 r h4 (kB r rfl rfl rfl rfl rfl fun r=>ac (.bool (decide (a0.at_<64))) r (fun R=>aw r (b:=true) (congrArg Value.bool h4) rfl) rfl fun fr r=>kM (.bool (decide (a0.at_<64))) r rfl rfl fun r=>?_)));refine bA (decide (a0.at_<64)) (fun h5=>?_) (fun h5=>?_)
  ·
   refine s1 r h5 (kF 0 r rfl mJ rfl fun r=>s1 r h5 (kL (I a0.bits) r rfl hb1 to3 rfl rfl fun r=>s1 r h5 (kB r rfl rfl rfl rfl rfl fun r=>ac (.bool (decide (a0.bits≥1))) r (fun R=>aw r (b:=true) (congrArg Value.bool h5) rfl) rfl fun fr r=>kM (.bool (decide (a0.bits≥1))) r rfl rfl fun r=>?_)));refine bA (decide (a0.bits≥1)) (fun h6=>?_) (fun h6=>?_)
   ·
    refine s1 r h6 (kF 0 r rfl mJ rfl fun r=>s1 r h6 (kL (I a0.bits) r rfl hb1 to3 rfl rfl fun r=>s1 r h6 (kF 0 r rfl iV rfl fun r=>s1 r h6 (kL (I a0.at_) r rfl hb1 to3 rfl rfl fun r=>s1 r h6 (kB r rfl rfl rfl rfl rfl fun r=>s1 r h6 (kB r rfl rfl rfl rfl rfl fun r=>ac (.bool (decide (a0.bits≤(W (64 - a0.at_))))) r (fun R=>aw r (b:=true) (congrArg Value.bool h6) rfl) rfl fun fr r=>kA (.bool (decide (a0.bits≤(W (64 - a0.at_))))) r rfl rfl fun r=>wn (wp_ret ?_)))))));have hd:D.bR a0=(decide (a0.bits≤(W (64 - a0.at_)))):=(az h4).trans ((az h5).trans ((az h6).trans (rfl)))
    refine bg r rfl rfl ?_;rw [hd];exact ⟨rfl,hB⟩
   refine s0 r h6 fun fr r=>s0 r h6 fun fr r=>s0 r h6 fun fr r=>s0 r h6 fun fr r=>s0 r h6 fun fr r=>s0 r h6 fun fr r=>ac (.bool false) r (fun R=>aw r (b:=false) (congrArg Value.bool h6) rfl) rfl fun fr r=>kA (.bool false) r rfl rfl fun r=>wn (wp_ret ?_);have hd:D.bR a0=false:=(az h4).trans ((az h5).trans ((aB h6).trans (rfl)))
   refine bg r rfl rfl ?_;rw [hd];exact ⟨rfl,hB⟩
  refine s0 r h5 fun fr r=>s0 r h5 fun fr r=>s0 r h5 fun fr r=>ac (.bool false) r (fun R=>aw r (b:=false) (congrArg Value.bool h5) rfl) rfl fun fr r=>kM (.bool false) r rfl rfl fun r=>s0 r (rfl:false=_) fun fr r=>s0 r (rfl:false=_) fun fr r=>s0 r (rfl:false=_) fun fr r=>s0 r (rfl:false=_) fun fr r=>s0 r (rfl:false=_) fun fr r=>s0 r (rfl:false=_) fun fr r=>ac (.bool false) r (fun R=>aw r (b:=false) (congrArg Value.bool (rfl:false=_)) rfl) rfl fun fr r=>kA (.bool false) r rfl rfl fun r=>wn (wp_ret ?_);have hd:D.bR a0=false:=(az h4).trans ((aB h5).trans (rfl))
  refine bg r rfl rfl ?_;rw [hd];exact ⟨rfl,hB⟩
 refine s0 r h4 fun fr r=>s0 r h4 fun fr r=>s0 r h4 fun fr r=>ac (.bool false) r (fun R=>aw r (b:=false) (congrArg Value.bool h4) rfl) rfl fun fr r=>kM (.bool false) r rfl rfl fun r=>s0 r (rfl:false=_) fun fr r=>s0 r (rfl:false=_) fun fr r=>s0 r (rfl:false=_) fun fr r=>ac (.bool false) r (fun R=>aw r (b:=false) (congrArg Value.bool (rfl:false=_)) rfl) rfl fun fr r=>kM (.bool false) r rfl rfl fun r=>s0 r (rfl:false=_) fun fr r=>s0 r (rfl:false=_) fun fr r=>s0 r (rfl:false=_) fun fr r=>s0 r (rfl:false=_) fun fr r=>s0 r (rfl:false=_) fun fr r=>s0 r (rfl:false=_) fun fr r=>ac (.bool false) r (fun R=>aw r (b:=false) (congrArg Value.bool (rfl:false=_)) rfl) rfl fun fr r=>kA (.bool false) r rfl rfl fun r=>wn (wp_ret ?_);have hd:D.bR a0=false:=(aB h4).trans (rfl)
 refine bg r rfl rfl ?_;rw [hd];exact ⟨rfl,hB⟩
end Go.Proofs.YtikjpdpgdmbdpaaGreat

/- Ours. -/
namespace Go.Proofs.YtikjpdpgdmbdpaaGreat
theorem lU {f:Field} (h:D.bR f=true):0≤f.at_∧f.at_<64∧1≤f.bits∧f.bits≤64 - f.at_:=by
  unfold D.bR at h
  have hw:∀ x:Int,0≤x→x<64→IntKind.i64.wrap (64 - x)=64 - x:=by
    intro x h0 h1;simp only [IntKind.wrap];simp [IntKind.signed,IntKind.bits];omega
  cases h1:decide (f.at_≥0) <;> rw [h1] at h
  · cases h
  cases h2:decide (f.at_<64) <;> rw [h2] at h
  · cases h
  cases h3:decide (f.bits≥1) <;> rw [h3] at h
  · cases h
  simp only [decide_eq_true_eq] at h1 h2 h3
  simp only [cond_true,decide_eq_true_eq] at h
  rw [hw _ h1 h2] at h
  omega
end Go.Proofs.YtikjpdpgdmbdpaaGreat

/- Ours. -/
set_option maxRecDepth 20000
set_option maxHeartbeats 2000000
namespace Go.Proofs.YtikjpdpgdmbdpaaGreat
open Go.RowKit
theorem nA:ag Tryz.prog 234:=kz
theorem kx:ag Tryz.prog 236:=kz
theorem nz:ag Tryz.prog 237:=kz
theorem cQ:tyA Tryz.prog 219 2:=kz
def D.bQ (a0:Field):Int:=(bif (!(D.bR a0)) then 0 else (bif (a0.bits==64) then 18446744073709551615 else (IntKind.u64.wrap ((shlI .u64 1 a0.bits) - 1))))
theorem ld (w0:World) 
    (a0:Field) :
    Calls Tryz.prog 237 #[.agg (aD a0).toArray] w0 (bw (.int .u64 (D.bQ a0)) w0):=by
 refine kN Tryz.func237 rfl 15 rfl rfl fun fr r hB=>?_;refine wsr ?_
 refine kX 219 (.agg (aD a0).toArray) r rfl rfl fun b1 w2 n3 r=>?_;obtain ⟨E1,Z2,H1,hB,zB⟩:=n3.all hB
 refine kA (U 0) r rfl rfl fun r=>wn (wp_seq (wp_block (wsr (kG (aD a0) 2 r rfl H1 cQ rfl rfl fun r=>?_))));refine kE r (j9 w2 a0) rfl kx rfl fun w4 hb r=>?_
 have Z4:=hb.size;have H1:=keep hb H1;obtain ⟨hB,zB⟩:=bon hb hB;refine ac (.bool (!(D.bR a0))) r (fun R=>y_un r (u:=(.bool (D.bR a0))) rfl rfl) rfl fun fr r=>kA (.bool (!(D.bR a0))) r rfl rfl fun r=>wn ?_;refine wp_cond_split (t:=(!(D.bR a0))) (r.ev rfl) (fun h5=>?_) (fun h5=>?_)
 ·
  refine wsr (kA (U 0) r rfl rfl fun r=>wn (wp_ret ?_));have hd:D.bQ a0=0:=(az h5).trans (rfl)
  refine bg r rfl rfl ?_;rw [hd];exact ⟨rfl,hB⟩
 refine wsr (kF 0 r rfl mJ rfl fun r=>kL (I a0.bits) r rfl H1 to3 rfl rfl fun r=>kB r rfl rfl rfl rfl rfl fun r=>kA (.bool (a0.bits==64)) r rfl rfl fun r=>wn ?_);refine wp_cond_split (t:=(a0.bits==64)) (r.ev rfl) (fun h6=>?_) (fun h6=>?_)
 ·
  refine wsr (kA (U 18446744073709551615) r rfl rfl fun r=>wn (wp_ret ?_));have hd:D.bQ a0=18446744073709551615:=(aB h5).trans ((az h6).trans (rfl))
  refine bg r rfl rfl ?_;rw [hd];exact ⟨rfl,hB⟩
 refine wp_skip (wsr (kF 0 r rfl mJ rfl fun r=>kL (I a0.bits) r rfl H1 to3 rfl rfl fun r=>kB r rfl rfl rfl (mN (by first | assumption | decide | (have hq:=lU (by simpa using ‹(!D.bR _)=false›); omega))) rfl fun r=>kB r rfl rfl rfl rfl rfl fun r=>kA (U (V ((shlI .u64 1 a0.bits) - 1))) r rfl rfl fun r=>wn (wp_ret ?_)));have hd:D.bQ a0=(V ((shlI .u64 1 a0.bits) - 1)):=(aB h5).trans ((aB h6).trans (rfl))
 refine bg r rfl rfl ?_;rw [hd];exact ⟨rfl,hB⟩
def D.bB (a0:Field) (a1:Int):Int:=(bif (!(D.bR a0)) then 0 else (cw .u64 (shrI .u64 a1 a0.at_) (D.bQ a0)))
theorem lm (w0:World) 
    (a0:Field) (a1:Int) :
    Calls Tryz.prog 141 #[.agg (aD a0).toArray,.int .u64 a1] w0 (bw (.int .u64 (D.bB a0 a1)) w0):=by
 refine kN Tryz.func141 rfl 15 rfl rfl fun fr r hB=>?_;refine wsr ?_
 refine kX 219 (.agg (aD a0).toArray) r rfl rfl fun b1 w2 n3 r=>?_;obtain ⟨E1,Z2,H1,hB,zB⟩:=n3.all hB
 refine kA (U 0) r rfl rfl fun r=>wn (wp_seq (wsr (kG (aD a0) 2 r rfl H1 cQ rfl rfl fun r=>?_)));refine kE r (j9 w2 a0) rfl kx rfl fun w4 hb r=>?_
 have Z4:=hb.size;have H1:=keep hb H1;obtain ⟨hB,zB⟩:=bon hb hB;refine ac (.bool (!(D.bR a0))) r (fun R=>y_un r (u:=(.bool (D.bR a0))) rfl rfl) rfl fun fr r=>wn ?_;refine wp_cond_split (t:=(!(D.bR a0))) (r.ev rfl) (fun h5=>?_) (fun h5=>?_)
 ·
  refine wsr (kA (U 0) r rfl rfl fun r=>wn (wp_ret ?_));have hd:D.bB a0 a1=0:=(az h5).trans (rfl)
  refine bg r rfl rfl ?_;rw [hd];exact ⟨rfl,hB⟩
 refine wp_skip (wp_seq ?_);refine bI 7 [.val (U a1),.val (zp b1),.val (I a0.at_),.val (U (shrI .u64 a1 a0.at_)),.val (.agg (aD a0).toArray),.val (U (D.bQ a0)),.val (U (cw .u64 (shrI .u64 a1 a0.at_) (D.bQ a0)))] mixed r kz (kV (kV (kV (kV (kV (kV (kV bH))))))) ?_ ?_
 ·
  refine ec r (fun _ u _ b d s=>ay s rfl bz) (ec r (fun _ u _ b d s=>ax s (b:=b1) (o:=0) rfl iV bz) (ec r (fun _ u _ b d s=>av s d.1 (keep b H1) to3 rfl bz) (ec r (fun _ u _ b d s=>bc s d.1 d.2.1 rfl (qg (by first | assumption | decide | (have hq:=lU (by simpa using ‹(!D.bR _)=false›); omega))) bz) (ec r (fun _ u _ b d s=>aS s (cs:=(aD a0)) (n:=2) rfl (keep b H1) cQ rfl bz) (ec r (fun fr1 u w' hb' hd r'=>aJ r' (args:=[(.agg (aD a0).toArray)]) (lc hd.1 l0) nz ((ld _ a0).mono (by rintro _ w2 ⟨rfl,hb2⟩; exact ⟨_,rfl,hb2,rfl⟩))) (ec r (fun _ u _ b d s=>bc s d.1 d.2.1 rfl rfl bz) ?_))))));exact bJ
 intro fr u w6 hb hΦ hne r;have r:=r.congr (sc (hΦ 6 ke) (sc (hΦ 5 ke) (sc (hΦ 4 ke) (sc (hΦ 3 ke) (sc (hΦ 2 ke) (sc (hΦ 1 ke) (sc (hΦ 0 ke) rfl)))))));have Z6:=hb.size;have H1:=keep hb H1;obtain ⟨hB,zB⟩:=bon hb hB;refine kA (U (cw .u64 (shrI .u64 a1 a0.at_) (D.bQ a0))) r rfl rfl fun r=>wn (wp_ret ?_);have hd:D.bB a0 a1=(cw .u64 (shrI .u64 a1 a0.at_) (D.bQ a0)):=(aB h5).trans (rfl)
 refine bg r rfl rfl ?_;rw [hd];exact ⟨rfl,hB⟩
def D.ce (a0:Field):Int:=(bif (!(D.bR a0)) then 0 else (shlI .u64 (D.bQ a0) a0.at_))
theorem l9 (w0:World) 
    (a0:Field) :
    Calls Tryz.prog 234 #[.agg (aD a0).toArray] w0 (bw (.int .u64 (D.ce a0)) w0):=by
 refine kN Tryz.func234 rfl 11 rfl rfl fun fr r hB=>?_;refine wsr ?_
 refine kX 219 (.agg (aD a0).toArray) r rfl rfl fun b1 w2 n3 r=>?_;obtain ⟨E1,Z2,H1,hB,zB⟩:=n3.all hB
 refine kA (U 0) r rfl rfl fun r=>wn (wp_seq (wsr (kG (aD a0) 2 r rfl H1 cQ rfl rfl fun r=>?_)));refine kE r (j9 w2 a0) rfl kx rfl fun w4 hb r=>?_
 have Z4:=hb.size;have H1:=keep hb H1;obtain ⟨hB,zB⟩:=bon hb hB;refine ac (.bool (!(D.bR a0))) r (fun R=>y_un r (u:=(.bool (D.bR a0))) rfl rfl) rfl fun fr r=>wn ?_;refine wp_cond_split (t:=(!(D.bR a0))) (r.ev rfl) (fun h5=>?_) (fun h5=>?_)
 ·
  refine wsr (kA (U 0) r rfl rfl fun r=>wn (wp_ret ?_));have hd:D.ce a0=0:=(az h5).trans (rfl)
  refine bg r rfl rfl ?_;rw [hd];exact ⟨rfl,hB⟩
 refine wp_skip (wp_seq ?_);refine bI 5 [.val (.agg (aD a0).toArray),.val (U (D.bQ a0)),.val (zp b1),.val (I a0.at_),.val (U (shlI .u64 (D.bQ a0) a0.at_))] mixed r kz (kV (kV (kV (kV (kV bH))))) ?_ ?_
 ·
  refine ec r (fun _ u _ b d s=>aS s (cs:=(aD a0)) (n:=2) rfl (keep b H1) cQ rfl bz) (ec r (fun fr1 u w' hb' hd r'=>aJ r' (args:=[(.agg (aD a0).toArray)]) (lc hd.1 l0) nz ((ld _ a0).mono (by rintro _ w2 ⟨rfl,hb2⟩; exact ⟨_,rfl,hb2,rfl⟩))) (ec r (fun _ u _ b d s=>ax s (b:=b1) (o:=0) rfl iV bz) (ec r (fun _ u _ b d s=>av s d.1 (keep b H1) to3 rfl bz) (ec r (fun _ u _ b d s=>bc s d.1 d.2.1 rfl (mN (by first | assumption | decide | (have hq:=lU (by simpa using ‹(!D.bR _)=false›); omega))) bz) ?_))));exact bJ
 intro fr u w6 hb hΦ hne r;have r:=r.congr (sc (hΦ 4 ke) (sc (hΦ 3 ke) (sc (hΦ 2 ke) (sc (hΦ 1 ke) (sc (hΦ 0 ke) rfl)))));have Z6:=hb.size;have H1:=keep hb H1;obtain ⟨hB,zB⟩:=bon hb hB;refine kA (U (shlI .u64 (D.bQ a0) a0.at_)) r rfl rfl fun r=>wn (wp_ret ?_);have hd:D.ce a0=(shlI .u64 (D.bQ a0) a0.at_):=(aB h5).trans (rfl)
 refine bg r rfl rfl ?_;rw [hd];exact ⟨rfl,hB⟩
def D.cD (a0:Field) (a1:Int) (a2:Int):Int:=(bif (!(D.bR a0)) then a1 else (dO .u64 (ct .u64 a1 (D.ce a0)) (shlI .u64 (cw .u64 a2 (D.bQ a0)) a0.at_)))
theorem nZ (w0:World) 
    (a0:Field) (a1:Int) (a2:Int) :
    Calls Tryz.prog 332 #[.agg (aD a0).toArray,.int .u64 a1,.int .u64 a2] w0 (bw (.int .u64 (D.cD a0 a1 a2)) w0):=by
 refine kN Tryz.func332 rfl 23 rfl rfl fun fr r hB=>?_;refine wsr ?_
 refine kX 219 (.agg (aD a0).toArray) r rfl rfl fun b1 w2 n3 r=>?_;obtain ⟨E1,Z2,H1,hB,zB⟩:=n3.all hB
 refine kA (U 0) r rfl rfl fun r=>wn (wp_seq (wsr (kG (aD a0) 2 r rfl H1 cQ rfl rfl fun r=>?_)));refine kE r (j9 w2 a0) rfl kx rfl fun w4 hb r=>?_
 have Z4:=hb.size;have H1:=keep hb H1;obtain ⟨hB,zB⟩:=bon hb hB;refine ac (.bool (!(D.bR a0))) r (fun R=>y_un r (u:=(.bool (D.bR a0))) rfl rfl) rfl fun fr r=>wn ?_;refine wp_cond_split (t:=(!(D.bR a0))) (r.ev rfl) (fun h5=>?_) (fun h5=>?_)
 ·
  refine wsr (kM (U a1) r rfl rfl fun r=>kA (U a1) r rfl rfl fun r=>wn (wp_ret ?_));have hd:D.cD a0 a1 a2=a1:=(az h5).trans (rfl)
  refine bg r rfl rfl ?_;rw [hd];exact ⟨rfl,hB⟩
 refine wp_skip (wp_seq ?_);refine bI 12 [.val (U a1),.val (.agg (aD a0).toArray),.val (U (D.ce a0)),.val (U (ct .u64 a1 (D.ce a0))),.val (U a2),.val (.agg (aD a0).toArray),.val (U (D.bQ a0)),.val (U (cw .u64 a2 (D.bQ a0))),.val (zp b1),.val (I a0.at_),.val (U (shlI .u64 (cw .u64 a2 (D.bQ a0)) a0.at_)),.val (U (dO .u64 (ct .u64 a1 (D.ce a0)) (shlI .u64 (cw .u64 a2 (D.bQ a0)) a0.at_)))] mixed r kz (kV (kV (kV (kV (kV (kV (kV (kV (kV (kV (kV (kV bH)))))))))))) ?_ ?_
 ·
  refine ec r (fun _ u _ b d s=>ay s rfl bz) (ec r (fun _ u _ b d s=>aS s (cs:=(aD a0)) (n:=2) rfl (keep b H1) cQ rfl bz) (ec r (fun fr1 u w' hb' hd r'=>aJ r' (args:=[(.agg (aD a0).toArray)]) (lc hd.1 l0) nA ((l9 _ a0).mono (by rintro _ w2 ⟨rfl,hb2⟩; exact ⟨_,rfl,hb2,rfl⟩))) (ec r (fun _ u _ b d s=>bc s d.1 d.2.1 rfl rfl bz) (ec r (fun _ u _ b d s=>ay s rfl bz) (ec r (fun _ u _ b d s=>aS s (cs:=(aD a0)) (n:=2) rfl (keep b H1) cQ rfl bz) (ec r (fun fr1 u w' hb' hd r'=>aJ r' (args:=[(.agg (aD a0).toArray)]) (lc hd.1 l0) nz ((ld _ a0).mono (by rintro _ w2 ⟨rfl,hb2⟩; exact ⟨_,rfl,hb2,rfl⟩))) (ec r (fun _ u _ b d s=>bc s d.1 d.2.1 rfl rfl bz) (ec r (fun _ u _ b d s=>ax s (b:=b1) (o:=0) rfl iV bz) (ec r (fun _ u _ b d s=>av s d.1 (keep b H1) to3 rfl bz) (ec r (fun _ u _ b d s=>bc s d.1 d.2.1 rfl (mN (by first | assumption | decide | (have hq:=lU (by simpa using ‹(!D.bR _)=false›); omega))) bz) (ec r (fun _ u _ b d s=>bc s d.1 d.2.1 rfl rfl bz) ?_)))))))))));exact bJ
 intro fr u w6 hb hΦ hne r;have r:=r.congr (sc (hΦ 11 ke) (sc (hΦ 10 ke) (sc (hΦ 9 ke) (sc (hΦ 8 ke) (sc (hΦ 7 ke) (sc (hΦ 6 ke) (sc (hΦ 5 ke) (sc (hΦ 4 ke) (sc (hΦ 3 ke) (sc (hΦ 2 ke) (sc (hΦ 1 ke) (sc (hΦ 0 ke) rfl))))))))))));have Z6:=hb.size;have H1:=keep hb H1;obtain ⟨hB,zB⟩:=bon hb hB;refine kA (U (dO .u64 (ct .u64 a1 (D.ce a0)) (shlI .u64 (cw .u64 a2 (D.bQ a0)) a0.at_))) r rfl rfl fun r=>wn (wp_ret ?_);have hd:D.cD a0 a1 a2=(dO .u64 (ct .u64 a1 (D.ce a0)) (shlI .u64 (cw .u64 a2 (D.bQ a0)) a0.at_)):=(aB h5).trans (rfl)
 refine bg r rfl rfl ?_;rw [hd];exact ⟨rfl,hB⟩
end Go.Proofs.YtikjpdpgdmbdpaaGreat

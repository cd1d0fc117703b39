/- Some of our texts, one behind the other. -/
import Derived.Test.YtbbipmelhmgmfaaGreatTcPlans
import Derived.Test.YtbbipmelhmgmfaaGreatTcM4
set_option linter.all false
set_option maxRecDepth 100000
set_option maxHeartbeats 20000000
/- Ours. -/
namespace Go.Proofs.YtbbipmelhmgmfaaGreat
open Go.RowKit
theorem fo241_0:fieldOff Tryz.prog 241 0 0:=by kernel_rfl
theorem fo241_1:fieldOff Tryz.prog 241 1 1:=by kernel_rfl
def D.field_Field_Formed (a0:Field):Bool:=(bif (decide (a0.at_≥0)) then (bif (decide (a0.at_<64)) then (bif (decide (a0.bits≥1)) then (decide (a0.bits≤(IntKind.i64.wrap (64 - a0.at_)))) else false) else false) else false)
theorem c_field_Field_Formed (w0:World) 
    (a0:Field) :
    Calls Tryz.prog 285 #[.agg (fieldC a0).toArray] w0 (PureRes (.bool (D.field_Field_Formed a0)) w0):=by
 refine kN Tryz.func285 rfl 24 rfl rfl fun fr r hB=>?_;refine wsr ?_
 refine kX 241 (.agg (fieldC a0).toArray) r rfl rfl fun b1 w2 n3 r=>?_;obtain ⟨eb1,zw2,hb1,hB,zB⟩:=n3.all hB
 refine kA (.bool false) r rfl rfl fun r=>wn (wsr (kF 0 r rfl fo241_0 rfl fun r=>kL (I a0.at_) r rfl hb1 to3 rfl rfl fun r=>kB r rfl rfl rfl rfl rfl fun r=>kM (.bool (decide (a0.at_≥0))) r rfl rfl fun r=>?_));refine seq_split (decide (a0.at_≥0)) (fun h4=>?_) (fun h4=>?_)
 ·
  refine s1 r h4 (kF 0 r rfl fo241_0 rfl fun r=>s1 r h4 (kL (I a0.at_) r rfl hb1 to3 rfl rfl fun r=>s1 r h4 (kB r rfl rfl rfl rfl rfl fun r=>seq_val (.bool (decide (a0.at_<64))) r (fun R=>y_pick r (b:=true) (kb h4) rfl) rfl fun fr r=>kM (.bool (decide (a0.at_<64))) r rfl rfl fun r=>?_)));refine seq_split (decide (a0.at_<64)) (fun h5=>?_) (fun h5=>?_)
  ·
   refine s1 r h5 (kF 0 r rfl fo241_1 rfl fun r=>s1 r h5 (kL (I a0.bits) r rfl hb1 to3 rfl rfl fun r=>s1 r h5 (kB r rfl rfl rfl rfl rfl fun r=>seq_val (.bool (decide (a0.bits≥1))) r (fun R=>y_pick r (b:=true) (kb h5) rfl) rfl fun fr r=>kM (.bool (decide (a0.bits≥1))) r rfl rfl fun r=>?_)));refine seq_split (decide (a0.bits≥1)) (fun h6=>?_) (fun h6=>?_)
   ·
    refine s1 r h6 (kF 0 r rfl fo241_1 rfl fun r=>s1 r h6 (kL (I a0.bits) r rfl hb1 to3 rfl rfl fun r=>s1 r h6 (kF 0 r rfl fo241_0 rfl fun r=>s1 r h6 (kL (I a0.at_) r rfl hb1 to3 rfl rfl fun r=>s1 r h6 (kB r rfl rfl rfl rfl rfl fun r=>s1 r h6 (kB r rfl rfl rfl rfl rfl fun r=>seq_val (.bool (decide (a0.bits≤(W (64 - a0.at_))))) r (fun R=>y_pick r (b:=true) (kb h6) rfl) rfl fun fr r=>kA (.bool (decide (a0.bits≤(W (64 - a0.at_))))) r rfl rfl fun r=>wn (wp_ret ?_)))))));have hd:D.field_Field_Formed a0=(decide (a0.bits≤(W (64 - a0.at_)))):=(cond_t h4).trans ((cond_t h5).trans ((cond_t h6).trans (rfl)))
    refine ret_tmp r rfl rfl ?_;rw [hd];exact ⟨rfl,hB⟩
   refine s0 r h6 fun fr r=>s0 r h6 fun fr r=>s0 r h6 fun fr r=>s0 r h6 fun fr r=>s0 r h6 fun fr r=>s0 r h6 fun fr r=>seq_val (.bool false) r (fun R=>y_pick r (b:=false) (kb h6) rfl) rfl fun fr r=>kA (.bool false) r rfl rfl fun r=>wn (wp_ret ?_);have hd:D.field_Field_Formed a0=false:=(cond_t h4).trans ((cond_t h5).trans ((cond_f h6).trans (rfl)))
   refine ret_tmp r rfl rfl ?_;rw [hd];exact ⟨rfl,hB⟩
  refine s0 r h5 fun fr r=>s0 r h5 fun fr r=>s0 r h5 fun fr r=>seq_val (.bool false) r (fun R=>y_pick r (b:=false) (kb h5) rfl) rfl fun fr r=>kM (.bool false) r rfl rfl fun r=>s0 r (rfl:false=_) fun fr r=>s0 r (rfl:false=_) fun fr r=>s0 r (rfl:false=_) fun fr r=>s0 r (rfl:false=_) fun fr r=>s0 r (rfl:false=_) fun fr r=>s0 r (rfl:false=_) fun fr r=>seq_val (.bool false) r (fun R=>y_pick r (b:=false) (kb (rfl:false=_)) rfl) rfl fun fr r=>kA (.bool false) r rfl rfl fun r=>wn (wp_ret ?_);have hd:D.field_Field_Formed a0=false:=(cond_t h4).trans ((cond_f h5).trans (rfl))
  refine ret_tmp r rfl rfl ?_;rw [hd];exact ⟨rfl,hB⟩
 refine s0 r h4 fun fr r=>s0 r h4 fun fr r=>s0 r h4 fun fr r=>seq_val (.bool false) r (fun R=>y_pick r (b:=false) (kb h4) rfl) rfl fun fr r=>kM (.bool false) r rfl rfl fun r=>s0 r (rfl:false=_) fun fr r=>s0 r (rfl:false=_) fun fr r=>s0 r (rfl:false=_) fun fr r=>seq_val (.bool false) r (fun R=>y_pick r (b:=false) (kb (rfl:false=_)) rfl) rfl fun fr r=>kM (.bool false) r rfl rfl fun r=>s0 r (rfl:false=_) fun fr r=>s0 r (rfl:false=_) fun fr r=>s0 r (rfl:false=_) fun fr r=>s0 r (rfl:false=_) fun fr r=>s0 r (rfl:false=_) fun fr r=>s0 r (rfl:false=_) fun fr r=>seq_val (.bool false) r (fun R=>y_pick r (b:=false) (kb (rfl:false=_)) rfl) rfl fun fr r=>kA (.bool false) r rfl rfl fun r=>wn (wp_ret ?_);have hd:D.field_Field_Formed a0=false:=(cond_f h4).trans (rfl)
 refine ret_tmp r rfl rfl ?_;rw [hd];exact ⟨rfl,hB⟩
end Go.Proofs.YtbbipmelhmgmfaaGreat

/- Ours. -/
namespace Go.Proofs.YtbbipmelhmgmfaaGreat
theorem field_formed {f:Field} (h:D.field_Field_Formed f=true):0≤f.at_∧f.at_<64∧1≤f.bits∧f.bits≤64 - f.at_:=by
  unfold D.field_Field_Formed at h
  have hw:∀ x:Int,0≤x→x<64→IntKind.i64.wrap (64 - x)=64 - x:=by
    intro x h0 h1;simp only [IntKind.wrap];simp [IntKind.signed,IntKind.bits];omega
  cases h1:decide (f.at_≥0) <;> rw [h1] at h
  · cases h
  cases h2:decide (f.at_<64) <;> rw [h2] at h
  · cases h
  cases h3:decide (f.bits≥1) <;> rw [h3] at h
  · cases h
  simp only [decide_eq_true_eq] at h1 h2 h3
  simp only [cond_true,decide_eq_true_eq] at h
  rw [hw _ h1 h2] at h
  omega
theorem cl285:callable Tryz.prog 285:=by kernel_rfl
theorem cl286:callable Tryz.prog 286:=by kernel_rfl
theorem cl289:callable Tryz.prog 289:=by kernel_rfl
theorem ta241:tyA Tryz.prog 241 2:=by kernel_rfl
def D.field_Field_Most (a0:Field):Int:=(bif (!(D.field_Field_Formed a0)) then 0 else (bif (a0.bits==64) then 18446744073709551615 else (IntKind.u64.wrap ((shlI .u64 1 a0.bits) - 1))))
theorem c_field_Field_Most (w0:World) 
    (a0:Field) :
    Calls Tryz.prog 286 #[.agg (fieldC a0).toArray] w0 (PureRes (.int .u64 (D.field_Field_Most a0)) w0):=by
 refine kN Tryz.func286 rfl 15 rfl rfl fun fr r hB=>?_;refine wsr ?_
 refine kX 241 (.agg (fieldC a0).toArray) r rfl rfl fun b1 w2 n3 r=>?_;obtain ⟨E1,Z2,H1,hB,zB⟩:=n3.all hB
 refine kA (U 0) r rfl rfl fun r=>wn (wp_seq (wp_block (wsr (kG (fieldC a0) 2 r rfl H1 ta241 rfl rfl fun r=>?_))));refine kE r (c_field_Field_Formed w2 a0) rfl cl285 rfl fun w4 hb r=>?_
 have Z4:=hb.size;have H1:=keep hb H1;obtain ⟨hB,zB⟩:=bon hb hB;refine seq_val (.bool (!(D.field_Field_Formed a0))) r (fun R=>y_un r (u:=(.bool (D.field_Field_Formed a0))) rfl rfl) rfl fun fr r=>kA (.bool (!(D.field_Field_Formed a0))) r rfl rfl fun r=>wn ?_;refine wp_cond_split (t:=(!(D.field_Field_Formed a0))) (r.ev rfl) (fun h5=>?_) (fun h5=>?_)
 ·
  refine wsr (kA (U 0) r rfl rfl fun r=>wn (wp_ret ?_));have hd:D.field_Field_Most a0=0:=(cond_t h5).trans (rfl)
  refine ret_tmp r rfl rfl ?_;rw [hd];exact ⟨rfl,hB⟩
 refine wsr (kF 0 r rfl fo241_1 rfl fun r=>kL (I a0.bits) r rfl H1 to3 rfl rfl fun r=>kB r rfl rfl rfl rfl rfl fun r=>kA (.bool (a0.bits==64)) r rfl rfl fun r=>wn ?_);refine wp_cond_split (t:=(a0.bits==64)) (r.ev rfl) (fun h6=>?_) (fun h6=>?_)
 ·
  refine wsr (kA (U 18446744073709551615) r rfl rfl fun r=>wn (wp_ret ?_));have hd:D.field_Field_Most a0=18446744073709551615:=(cond_f h5).trans ((cond_t h6).trans (rfl))
  refine ret_tmp r rfl rfl ?_;rw [hd];exact ⟨rfl,hB⟩
 refine wp_skip (wsr (kF 0 r rfl fo241_1 rfl fun r=>kL (I a0.bits) r rfl H1 to3 rfl rfl fun r=>kB r rfl rfl rfl (bin_shl (by first | assumption | decide | (have hq:=field_formed (by simpa using ‹(!D.field_Field_Formed _)=false›); omega))) rfl fun r=>kB r rfl rfl rfl rfl rfl fun r=>kA (U (V ((shlI .u64 1 a0.bits) - 1))) r rfl rfl fun r=>wn (wp_ret ?_)));have hd:D.field_Field_Most a0=(V ((shlI .u64 1 a0.bits) - 1)):=(cond_f h5).trans ((cond_f h6).trans (rfl))
 refine ret_tmp r rfl rfl ?_;rw [hd];exact ⟨rfl,hB⟩
def D.field_Field_Get (a0:Field) (a1:Int):Int:=(bif (!(D.field_Field_Formed a0)) then 0 else (bits_and .u64 (shrI .u64 a1 a0.at_) (D.field_Field_Most a0)))
theorem c_field_Field_Get (w0:World) 
    (a0:Field) (a1:Int) :
    Calls Tryz.prog 191 #[.agg (fieldC a0).toArray,.int .u64 a1] w0 (PureRes (.int .u64 (D.field_Field_Get a0 a1)) w0):=by
 refine kN Tryz.func191 rfl 15 rfl rfl fun fr r hB=>?_;refine wsr ?_
 refine kX 241 (.agg (fieldC a0).toArray) r rfl rfl fun b1 w2 n3 r=>?_;obtain ⟨E1,Z2,H1,hB,zB⟩:=n3.all hB
 refine kA (U 0) r rfl rfl fun r=>wn (wp_seq (wsr (kG (fieldC a0) 2 r rfl H1 ta241 rfl rfl fun r=>?_)));refine kE r (c_field_Field_Formed w2 a0) rfl cl285 rfl fun w4 hb r=>?_
 have Z4:=hb.size;have H1:=keep hb H1;obtain ⟨hB,zB⟩:=bon hb hB;refine seq_val (.bool (!(D.field_Field_Formed a0))) r (fun R=>y_un r (u:=(.bool (D.field_Field_Formed a0))) rfl rfl) rfl fun fr r=>wn ?_;refine wp_cond_split (t:=(!(D.field_Field_Formed a0))) (r.ev rfl) (fun h5=>?_) (fun h5=>?_)
 ·
  refine wsr (kA (U 0) r rfl rfl fun r=>wn (wp_ret ?_));have hd:D.field_Field_Get a0 a1=0:=(cond_t h5).trans (rfl)
  refine ret_tmp r rfl rfl ?_;rw [hd];exact ⟨rfl,hB⟩
 refine wp_skip (wp_seq ?_);refine wp_drawnF 7 [.val (U a1),.val (zp b1),.val (I a0.at_),.val (U (shrI .u64 a1 a0.at_)),.val (.agg (fieldC a0).toArray),.val (U (D.field_Field_Most a0)),.val (U (bits_and .u64 (shrI .u64 a1 a0.at_) (D.field_Field_Most a0)))] mixed r (by kernel_rfl) (kV (kV (kV (kV (kV (kV (kV within_nil))))))) ?_ ?_
 ·
  refine ec r (fun _ u _ b d s=>y_move s rfl bz) (ec r (fun _ u _ b d s=>y_fieldAddr s (b:=b1) (o:=0) rfl fo241_0 bz) (ec r (fun _ u _ b d s=>y_load_one s d.1 (keep b H1) to3 rfl bz) (ec r (fun _ u _ b d s=>y_bin s d.1 d.2.1 rfl (bin_shr (by first | assumption | decide | (have hq:=field_formed (by simpa using ‹(!D.field_Field_Formed _)=false›); omega))) bz) (ec r (fun _ u _ b d s=>y_load_agg s (cs:=(fieldC a0)) (n:=2) rfl (keep b H1) ta241 rfl bz) (ec r (fun fr1 u w' hb' hd r'=>y_call r' (args:=[(.agg (fieldC a0).toArray)]) (lc hd.1 l0) cl286 ((c_field_Field_Most _ a0).mono (by rintro _ w2 ⟨rfl,hb2⟩; exact ⟨_,rfl,hb2,rfl⟩))) (ec r (fun _ u _ b d s=>y_bin s d.1 d.2.1 rfl rfl bz) ?_))))));exact each_nil
 intro fr u w6 hb hΦ hne r;have r:=r.congr (sc (hΦ 6 (by decide)) (sc (hΦ 5 (by decide)) (sc (hΦ 4 (by decide)) (sc (hΦ 3 (by decide)) (sc (hΦ 2 (by decide)) (sc (hΦ 1 (by decide)) (sc (hΦ 0 (by decide)) rfl)))))));have Z6:=hb.size;have H1:=keep hb H1;obtain ⟨hB,zB⟩:=bon hb hB;refine kA (U (bits_and .u64 (shrI .u64 a1 a0.at_) (D.field_Field_Most a0))) r rfl rfl fun r=>wn (wp_ret ?_);have hd:D.field_Field_Get a0 a1=(bits_and .u64 (shrI .u64 a1 a0.at_) (D.field_Field_Most a0)):=(cond_f h5).trans (rfl)
 refine ret_tmp r rfl rfl ?_;rw [hd];exact ⟨rfl,hB⟩
def D.field_Field_mask (a0:Field):Int:=(bif (!(D.field_Field_Formed a0)) then 0 else (shlI .u64 (D.field_Field_Most a0) a0.at_))
theorem c_field_Field_mask (w0:World) 
    (a0:Field) :
    Calls Tryz.prog 289 #[.agg (fieldC a0).toArray] w0 (PureRes (.int .u64 (D.field_Field_mask a0)) w0):=by
 refine kN Tryz.func289 rfl 11 rfl rfl fun fr r hB=>?_;refine wsr ?_
 refine kX 241 (.agg (fieldC a0).toArray) r rfl rfl fun b1 w2 n3 r=>?_;obtain ⟨E1,Z2,H1,hB,zB⟩:=n3.all hB
 refine kA (U 0) r rfl rfl fun r=>wn (wp_seq (wsr (kG (fieldC a0) 2 r rfl H1 ta241 rfl rfl fun r=>?_)));refine kE r (c_field_Field_Formed w2 a0) rfl cl285 rfl fun w4 hb r=>?_
 have Z4:=hb.size;have H1:=keep hb H1;obtain ⟨hB,zB⟩:=bon hb hB;refine seq_val (.bool (!(D.field_Field_Formed a0))) r (fun R=>y_un r (u:=(.bool (D.field_Field_Formed a0))) rfl rfl) rfl fun fr r=>wn ?_;refine wp_cond_split (t:=(!(D.field_Field_Formed a0))) (r.ev rfl) (fun h5=>?_) (fun h5=>?_)
 ·
  refine wsr (kA (U 0) r rfl rfl fun r=>wn (wp_ret ?_));have hd:D.field_Field_mask a0=0:=(cond_t h5).trans (rfl)
  refine ret_tmp r rfl rfl ?_;rw [hd];exact ⟨rfl,hB⟩
 refine wp_skip (wp_seq ?_);refine wp_drawnF 5 [.val (.agg (fieldC a0).toArray),.val (U (D.field_Field_Most a0)),.val (zp b1),.val (I a0.at_),.val (U (shlI .u64 (D.field_Field_Most a0) a0.at_))] mixed r (by kernel_rfl) (kV (kV (kV (kV (kV within_nil))))) ?_ ?_
 ·
  refine ec r (fun _ u _ b d s=>y_load_agg s (cs:=(fieldC a0)) (n:=2) rfl (keep b H1) ta241 rfl bz) (ec r (fun fr1 u w' hb' hd r'=>y_call r' (args:=[(.agg (fieldC a0).toArray)]) (lc hd.1 l0) cl286 ((c_field_Field_Most _ a0).mono (by rintro _ w2 ⟨rfl,hb2⟩; exact ⟨_,rfl,hb2,rfl⟩))) (ec r (fun _ u _ b d s=>y_fieldAddr s (b:=b1) (o:=0) rfl fo241_0 bz) (ec r (fun _ u _ b d s=>y_load_one s d.1 (keep b H1) to3 rfl bz) (ec r (fun _ u _ b d s=>y_bin s d.1 d.2.1 rfl (bin_shl (by first | assumption | decide | (have hq:=field_formed (by simpa using ‹(!D.field_Field_Formed _)=false›); omega))) bz) ?_))));exact each_nil
 intro fr u w6 hb hΦ hne r;have r:=r.congr (sc (hΦ 4 (by decide)) (sc (hΦ 3 (by decide)) (sc (hΦ 2 (by decide)) (sc (hΦ 1 (by decide)) (sc (hΦ 0 (by decide)) rfl)))));have Z6:=hb.size;have H1:=keep hb H1;obtain ⟨hB,zB⟩:=bon hb hB;refine kA (U (shlI .u64 (D.field_Field_Most a0) a0.at_)) r rfl rfl fun r=>wn (wp_ret ?_);have hd:D.field_Field_mask a0=(shlI .u64 (D.field_Field_Most a0) a0.at_):=(cond_f h5).trans (rfl)
 refine ret_tmp r rfl rfl ?_;rw [hd];exact ⟨rfl,hB⟩
def D.field_Field_Put (a0:Field) (a1:Int) (a2:Int):Int:=(bif (!(D.field_Field_Formed a0)) then a1 else (bits_or .u64 (bits_andNot .u64 a1 (D.field_Field_mask a0)) (shlI .u64 (bits_and .u64 a2 (D.field_Field_Most a0)) a0.at_)))
theorem c_field_Field_Put (w0:World) 
    (a0:Field) (a1:Int) (a2:Int) :
    Calls Tryz.prog 296 #[.agg (fieldC a0).toArray,.int .u64 a1,.int .u64 a2] w0 (PureRes (.int .u64 (D.field_Field_Put a0 a1 a2)) w0):=by
 refine kN Tryz.func296 rfl 23 rfl rfl fun fr r hB=>?_;refine wsr ?_
 refine kX 241 (.agg (fieldC a0).toArray) r rfl rfl fun b1 w2 n3 r=>?_;obtain ⟨E1,Z2,H1,hB,zB⟩:=n3.all hB
 refine kA (U 0) r rfl rfl fun r=>wn (wp_seq (wsr (kG (fieldC a0) 2 r rfl H1 ta241 rfl rfl fun r=>?_)));refine kE r (c_field_Field_Formed w2 a0) rfl cl285 rfl fun w4 hb r=>?_
 have Z4:=hb.size;have H1:=keep hb H1;obtain ⟨hB,zB⟩:=bon hb hB;refine seq_val (.bool (!(D.field_Field_Formed a0))) r (fun R=>y_un r (u:=(.bool (D.field_Field_Formed a0))) rfl rfl) rfl fun fr r=>wn ?_;refine wp_cond_split (t:=(!(D.field_Field_Formed a0))) (r.ev rfl) (fun h5=>?_) (fun h5=>?_)
 ·
  refine wsr (kM (U a1) r rfl rfl fun r=>kA (U a1) r rfl rfl fun r=>wn (wp_ret ?_));have hd:D.field_Field_Put a0 a1 a2=a1:=(cond_t h5).trans (rfl)
  refine ret_tmp r rfl rfl ?_;rw [hd];exact ⟨rfl,hB⟩
 refine wp_skip (wp_seq ?_);refine wp_drawnF 12 [.val (U a1),.val (.agg (fieldC a0).toArray),.val (U (D.field_Field_mask a0)),.val (U (bits_andNot .u64 a1 (D.field_Field_mask a0))),.val (U a2),.val (.agg (fieldC a0).toArray),.val (U (D.field_Field_Most a0)),.val (U (bits_and .u64 a2 (D.field_Field_Most a0))),.val (zp b1),.val (I a0.at_),.val (U (shlI .u64 (bits_and .u64 a2 (D.field_Field_Most a0)) a0.at_)),.val (U (bits_or .u64 (bits_andNot .u64 a1 (D.field_Field_mask a0)) (shlI .u64 (bits_and .u64 a2 (D.field_Field_Most a0)) a0.at_)))] mixed r (by kernel_rfl) (kV (kV (kV (kV (kV (kV (kV (kV (kV (kV (kV (kV within_nil)))))))))))) ?_ ?_
 ·
  refine ec r (fun _ u _ b d s=>y_move s rfl bz) (ec r (fun _ u _ b d s=>y_load_agg s (cs:=(fieldC a0)) (n:=2) rfl (keep b H1) ta241 rfl bz) (ec r (fun fr1 u w' hb' hd r'=>y_call r' (args:=[(.agg (fieldC a0).toArray)]) (lc hd.1 l0) cl289 ((c_field_Field_mask _ a0).mono (by rintro _ w2 ⟨rfl,hb2⟩; exact ⟨_,rfl,hb2,rfl⟩))) (ec r (fun _ u _ b d s=>y_bin s d.1 d.2.1 rfl rfl bz) (ec r (fun _ u _ b d s=>y_move s rfl bz) (ec r (fun _ u _ b d s=>y_load_agg s (cs:=(fieldC a0)) (n:=2) rfl (keep b H1) ta241 rfl bz) (ec r (fun fr1 u w' hb' hd r'=>y_call r' (args:=[(.agg (fieldC a0).toArray)]) (lc hd.1 l0) cl286 ((c_field_Field_Most _ a0).mono (by rintro _ w2 ⟨rfl,hb2⟩; exact ⟨_,rfl,hb2,rfl⟩))) (ec r (fun _ u _ b d s=>y_bin s d.1 d.2.1 rfl rfl bz) (ec r (fun _ u _ b d s=>y_fieldAddr s (b:=b1) (o:=0) rfl fo241_0 bz) (ec r (fun _ u _ b d s=>y_load_one s d.1 (keep b H1) to3 rfl bz) (ec r (fun _ u _ b d s=>y_bin s d.1 d.2.1 rfl (bin_shl (by first | assumption | decide | (have hq:=field_formed (by simpa using ‹(!D.field_Field_Formed _)=false›); omega))) bz) (ec r (fun _ u _ b d s=>y_bin s d.1 d.2.1 rfl rfl bz) ?_)))))))))));exact each_nil
 intro fr u w6 hb hΦ hne r;have r:=r.congr (sc (hΦ 11 (by decide)) (sc (hΦ 10 (by decide)) (sc (hΦ 9 (by decide)) (sc (hΦ 8 (by decide)) (sc (hΦ 7 (by decide)) (sc (hΦ 6 (by decide)) (sc (hΦ 5 (by decide)) (sc (hΦ 4 (by decide)) (sc (hΦ 3 (by decide)) (sc (hΦ 2 (by decide)) (sc (hΦ 1 (by decide)) (sc (hΦ 0 (by decide)) rfl))))))))))));have Z6:=hb.size;have H1:=keep hb H1;obtain ⟨hB,zB⟩:=bon hb hB;refine kA (U (bits_or .u64 (bits_andNot .u64 a1 (D.field_Field_mask a0)) (shlI .u64 (bits_and .u64 a2 (D.field_Field_Most a0)) a0.at_))) r rfl rfl fun r=>wn (wp_ret ?_);have hd:D.field_Field_Put a0 a1 a2=(bits_or .u64 (bits_andNot .u64 a1 (D.field_Field_mask a0)) (shlI .u64 (bits_and .u64 a2 (D.field_Field_Most a0)) a0.at_)):=(cond_f h5).trans (rfl)
 refine ret_tmp r rfl rfl ?_;rw [hd];exact ⟨rfl,hB⟩
theorem fo190_0:fieldOff Tryz.prog 190 0 0:=by kernel_rfl
theorem fo190_1:fieldOff Tryz.prog 190 1 1:=by kernel_rfl
theorem fo190_2:fieldOff Tryz.prog 190 2 2:=by kernel_rfl
theorem ta190:tyA Tryz.prog 190 3:=by kernel_rfl
theorem ts190:sized Tryz.prog 190 3:=by kernel_rfl
theorem ts3:sized Tryz.prog 3 1:=by kernel_rfl
theorem tz190:zeroOf Tryz.prog 190=some (.agg (stateC (⟨0,0,0⟩:State)).toArray):=by kernel_rfl
def D.state_State_Live (a0:State) (a1:Int):State:=(⟨a0.gen,1,a1⟩:State)
theorem c_state_State_Live (w0:World) 
    (a0:State) (a1:Int) :
    Calls Tryz.prog 272 #[.agg (stateC a0).toArray,.int .i64 a1] w0 (PureRes (.agg (stateC (D.state_State_Live a0 a1)).toArray) w0):=by
 refine kN Tryz.func272 rfl 9 rfl rfl fun fr r hB=>?_;refine wsr ?_
 refine kX 190 (.agg (stateC a0).toArray) r rfl rfl fun b1 w2 n3 r=>?_;obtain ⟨eb1,zw2,hb1,hB,zB⟩:=n3.all hB
 refine seq_new (.cells ((stateC (⟨0,0,0⟩:State))).toArray 190 (0,0)) r (fun R=>y_alloc tz190) rfl fun fr b4 w5 n6 r=>?_;have hb1:=keep n6.below hb1
 obtain ⟨eb4,zw5,hb4,hB,zB⟩:=n6.all hB;refine wn (wsr (kF 0 r rfl fo190_0 rfl fun r=>kL (I a0.gen) r rfl hb1 to3 rfl rfl fun r=>kM (I a1) r rfl rfl fun r=>kU (.agg (stateC (⟨a0.gen,1,a1⟩:State)).toArray) r (by kernel_rfl) rfl fun r=>?_));refine seq_upd (.cells ((stateC (⟨a0.gen,1,a1⟩:State))).toArray 190 (0,0)) r (fun R=>y_store r (o:=0) (v:=(.agg (stateC (⟨a0.gen,1,a1⟩:State)).toArray)) rfl rfl hb4 ts190 (Nat.le_of_ble_eq_true rfl) rfl rfl) rfl fun fr w7 u8 r=>?_
 have zw7:=u8.size;have hb1:=u8.keep hb1 (by omega)
 have hb4:=u8.at_;obtain ⟨hB,zB⟩:=u8.on hB (by omega)
 refine wn (wp_ret ?_);refine ret_cell r rfl rfl hb4 (k:=3) rfl ta190 ?_;exact ⟨rfl,hB⟩
def D.state_State_Freed (a0:State) (a1:Int):State:=(bif (decide (a0.gen≥a1)) then (⟨a0.gen,3,0⟩:State) else (⟨(IntKind.i64.wrap (a0.gen+1)),0,0⟩:State))
theorem c_state_State_Freed (w0:World) 
    (a0:State) (a1:Int) :
    Calls Tryz.prog 308 #[.agg (stateC a0).toArray,.int .i64 a1] w0 (PureRes (.agg (stateC (D.state_State_Freed a0 a1)).toArray) w0):=by
 refine kN Tryz.func308 rfl 16 rfl rfl fun fr r hB=>?_;refine wsr ?_
 refine kX 190 (.agg (stateC a0).toArray) r rfl rfl fun b1 w2 n3 r=>?_;obtain ⟨eb1,zw2,hb1,hB,zB⟩:=n3.all hB
 refine seq_new (.cells ((stateC (⟨0,0,0⟩:State))).toArray 190 (0,0)) r (fun R=>y_alloc tz190) rfl fun fr b4 w5 n6 r=>?_;have hb1:=keep n6.below hb1
 obtain ⟨eb4,zw5,hb4,hB,zB⟩:=n6.all hB;refine wn (wp_seq (wsr (kF 0 r rfl fo190_0 rfl fun r=>kL (I a0.gen) r rfl hb1 to3 rfl rfl fun r=>kM (I a1) r rfl rfl fun r=>kB r rfl rfl rfl rfl rfl fun r=>wn ?_)));refine wp_cond_split (t:=(decide (a0.gen≥a1))) (r.ev rfl) (fun h7=>?_) (fun h7=>?_)
 ·
  refine wsr (kF 0 r rfl fo190_0 rfl fun r=>kL (I a0.gen) r rfl hb1 to3 rfl rfl fun r=>kU (.agg (stateC (⟨a0.gen,3,0⟩:State)).toArray) r (by kernel_rfl) rfl fun r=>?_);refine seq_upd (.cells ((stateC (⟨a0.gen,3,0⟩:State))).toArray 190 (0,0)) r (fun R=>y_store r (o:=0) (v:=(.agg (stateC (⟨a0.gen,3,0⟩:State)).toArray)) rfl rfl hb4 ts190 (Nat.le_of_ble_eq_true rfl) rfl rfl) rfl fun fr w8 u9 r=>?_
  have zw8:=u9.size;have hb1:=u9.keep hb1 (by omega)
  have hb4:=u9.at_;obtain ⟨hB,zB⟩:=u9.on hB (by omega)
  refine wn (wp_ret ?_);have hd:D.state_State_Freed a0 a1=(⟨a0.gen,3,0⟩:State):=(cond_t h7).trans (rfl);refine ret_cell r rfl rfl hb4 (k:=3) rfl ta190 ?_;rw [hd];exact ⟨rfl,hB⟩
 refine wp_skip (wsr (kF 0 r rfl fo190_0 rfl fun r=>kL (I a0.gen) r rfl hb1 to3 rfl rfl fun r=>kB r rfl rfl rfl rfl rfl fun r=>kU (.agg (stateC (⟨(W (a0.gen+1)),0,0⟩:State)).toArray) r (by kernel_rfl) rfl fun r=>?_));refine seq_upd (.cells ((stateC (⟨(W (a0.gen+1)),0,0⟩:State))).toArray 190 (0,0)) r (fun R=>y_store r (o:=0) (v:=(.agg (stateC (⟨(W (a0.gen+1)),0,0⟩:State)).toArray)) rfl rfl hb4 ts190 (Nat.le_of_ble_eq_true rfl) rfl rfl) rfl fun fr w10 u11 r=>?_
 have zw10:=u11.size;have hb1:=u11.keep hb1 (by omega)
 have hb4:=u11.at_;obtain ⟨hB,zB⟩:=u11.on hB (by omega)
 refine wn (wp_ret ?_);have hd:D.state_State_Freed a0 a1=(⟨(W (a0.gen+1)),0,0⟩:State):=(cond_f h7).trans (rfl);refine ret_cell r rfl rfl hb4 (k:=3) rfl ta190 ?_;rw [hd];exact ⟨rfl,hB⟩
def D.state_State_Retire (a0:State):State:=({ a0 with mode:=2 })
theorem c_state_State_Retire (w0:World) 
    (a0:State) :
    Calls Tryz.prog 138 #[.agg (stateC a0).toArray] w0 (PureRes (.agg (stateC (D.state_State_Retire a0)).toArray) w0):=by
 refine kN Tryz.func138 rfl 5 rfl rfl fun fr r hB=>?_;refine wsr ?_
 refine kX 190 (.agg (stateC a0).toArray) r rfl rfl fun b1 w2 n3 r=>?_;obtain ⟨eb1,zw2,hb1,hB,zB⟩:=n3.all hB
 refine seq_new (.cells ((stateC (⟨0,0,0⟩:State))).toArray 190 (0,0)) r (fun R=>y_alloc tz190) rfl fun fr b4 w5 n6 r=>?_;have hb1:=keep n6.below hb1
 obtain ⟨eb4,zw5,hb4,hB,zB⟩:=n6.all hB;refine wn (wsr (kF 0 r rfl fo190_1 rfl fun r=>?_));refine seq_upd (.cells ((stateC ({ a0 with mode:=2 }))).toArray 190 (0,0)) r (fun R=>y_store r (o:=1) (v:=(I 2)) rfl rfl hb1 ts3 (Nat.le_of_ble_eq_true rfl) rfl rfl) rfl fun fr w7 u8 r=>?_
 have zw7:=u8.size;have hb4:=u8.keep hb4 (by omega)
 have hb1:=u8.at_;obtain ⟨hB,zB⟩:=u8.on hB (by omega)
 refine wn (wsr (kG (stateC ({ a0 with mode:=2 })) 3 r rfl hb1 ta190 rfl rfl fun r=>?_))
 refine seq_upd (.cells ((stateC ({ a0 with mode:=2 }))).toArray 190 (0,0)) r (fun R=>y_store r (o:=0) (v:=(.agg (stateC ({ a0 with mode:=2 })).toArray)) rfl rfl hb4 ts190 (Nat.le_of_ble_eq_true rfl) rfl rfl) rfl fun fr w9 u10 r=>?_
 have zw9:=u10.size;have hb1:=u10.keep hb1 (by omega)
 have hb4:=u10.at_;obtain ⟨hB,zB⟩:=u10.on hB (by omega)
 refine wn (wp_ret ?_);refine ret_cell r rfl rfl hb4 (k:=3) rfl ta190 ?_;exact ⟨rfl,hB⟩
def D.state_State_Formed (a0:State):Bool:=(bif (decide (a0.gen≥0)) then (bif (decide (a0.gen≤1073741823)) then (bif (decide (a0.mode≥0)) then (bif (decide (a0.mode≤3)) then (bif (decide (a0.kind≥0)) then (decide (a0.kind≤2)) else false) else false) else false) else false) else false)
theorem c_state_State_Formed (w0:World) 
    (a0:State) :
    Calls Tryz.prog 198 #[.agg (stateC a0).toArray] w0 (PureRes (.bool (D.state_State_Formed a0)) w0):=by
 refine kN Tryz.func198 rfl 31 rfl rfl fun fr r hB=>?_;refine wsr ?_
 refine kX 190 (.agg (stateC a0).toArray) r rfl rfl fun b1 w2 n3 r=>?_;obtain ⟨eb1,zw2,hb1,hB,zB⟩:=n3.all hB
 refine kA (.bool false) r rfl rfl fun r=>wn (wsr (kF 0 r rfl fo190_0 rfl fun r=>kL (I a0.gen) r rfl hb1 to3 rfl rfl fun r=>kB r rfl rfl rfl rfl rfl fun r=>kM (.bool (decide (a0.gen≥0))) r rfl rfl fun r=>?_));refine seq_split (decide (a0.gen≥0)) (fun h4=>?_) (fun h4=>?_)
 ·
  refine s1 r h4 (kF 0 r rfl fo190_0 rfl fun r=>s1 r h4 (kL (I a0.gen) r rfl hb1 to3 rfl rfl fun r=>s1 r h4 (kB r rfl rfl rfl rfl rfl fun r=>seq_val (.bool (decide (a0.gen≤1073741823))) r (fun R=>y_pick r (b:=true) (kb h4) rfl) rfl fun fr r=>kM (.bool (decide (a0.gen≤1073741823))) r rfl rfl fun r=>?_)));refine seq_split (decide (a0.gen≤1073741823)) (fun h5=>?_) (fun h5=>?_)
  ·
   refine s1 r h5 (kF 0 r rfl fo190_1 rfl fun r=>s1 r h5 (kL (I a0.mode) r rfl hb1 to3 rfl rfl fun r=>s1 r h5 (kB r rfl rfl rfl rfl rfl fun r=>seq_val (.bool (decide (a0.mode≥0))) r (fun R=>y_pick r (b:=true) (kb h5) rfl) rfl fun fr r=>kM (.bool (decide (a0.mode≥0))) r rfl rfl fun r=>?_)));refine seq_split (decide (a0.mode≥0)) (fun h6=>?_) (fun h6=>?_)
   ·
    refine s1 r h6 (kF 0 r rfl fo190_1 rfl fun r=>s1 r h6 (kL (I a0.mode) r rfl hb1 to3 rfl rfl fun r=>s1 r h6 (kB r rfl rfl rfl rfl rfl fun r=>seq_val (.bool (decide (a0.mode≤3))) r (fun R=>y_pick r (b:=true) (kb h6) rfl) rfl fun fr r=>kM (.bool (decide (a0.mode≤3))) r rfl rfl fun r=>?_)));refine seq_split (decide (a0.mode≤3)) (fun h7=>?_) (fun h7=>?_)
    ·
     refine s1 r h7 (kF 0 r rfl fo190_2 rfl fun r=>s1 r h7 (kL (I a0.kind) r rfl hb1 to3 rfl rfl fun r=>s1 r h7 (kB r rfl rfl rfl rfl rfl fun r=>seq_val (.bool (decide (a0.kind≥0))) r (fun R=>y_pick r (b:=true) (kb h7) rfl) rfl fun fr r=>kM (.bool (decide (a0.kind≥0))) r rfl rfl fun r=>?_)));refine seq_split (decide (a0.kind≥0)) (fun h8=>?_) (fun h8=>?_)
     ·
      refine s1 r h8 (kF 0 r rfl fo190_2 rfl fun r=>s1 r h8 (kL (I a0.kind) r rfl hb1 to3 rfl rfl fun r=>s1 r h8 (kB r rfl rfl rfl rfl rfl fun r=>seq_val (.bool (decide (a0.kind≤2))) r (fun R=>y_pick r (b:=true) (kb h8) rfl) rfl fun fr r=>kA (.bool (decide (a0.kind≤2))) r rfl rfl fun r=>wn (wp_ret ?_))));have hd:D.state_State_Formed a0=(decide (a0.kind≤2)):=(cond_t h4).trans ((cond_t h5).trans ((cond_t h6).trans ((cond_t h7).trans ((cond_t h8).trans (rfl)))))
      refine ret_tmp r rfl rfl ?_;rw [hd];exact ⟨rfl,hB⟩
     refine s0 r h8 fun fr r=>s0 r h8 fun fr r=>s0 r h8 fun fr r=>seq_val (.bool false) r (fun R=>y_pick r (b:=false) (kb h8) rfl) rfl fun fr r=>kA (.bool false) r rfl rfl fun r=>wn (wp_ret ?_);have hd:D.state_State_Formed a0=false:=(cond_t h4).trans ((cond_t h5).trans ((cond_t h6).trans ((cond_t h7).trans ((cond_f h8).trans (rfl)))))
     refine ret_tmp r rfl rfl ?_;rw [hd];exact ⟨rfl,hB⟩
    refine s0 r h7 fun fr r=>s0 r h7 fun fr r=>s0 r h7 fun fr r=>seq_val (.bool false) r (fun R=>y_pick r (b:=false) (kb h7) rfl) rfl fun fr r=>kM (.bool false) r rfl rfl fun r=>s0 r (rfl:false=_) fun fr r=>s0 r (rfl:false=_) fun fr r=>s0 r (rfl:false=_) fun fr r=>seq_val (.bool false) r (fun R=>y_pick r (b:=false) (kb (rfl:false=_)) rfl) rfl fun fr r=>kA (.bool false) r rfl rfl fun r=>wn (wp_ret ?_);have hd:D.state_State_Formed a0=false:=(cond_t h4).trans ((cond_t h5).trans ((cond_t h6).trans ((cond_f h7).trans (rfl))))
    refine ret_tmp r rfl rfl ?_;rw [hd];exact ⟨rfl,hB⟩
   refine s0 r h6 fun fr r=>s0 r h6 fun fr r=>s0 r h6 fun fr r=>seq_val (.bool false) r (fun R=>y_pick r (b:=false) (kb h6) rfl) rfl fun fr r=>kM (.bool false) r rfl rfl fun r=>s0 r (rfl:false=_) fun fr r=>s0 r (rfl:false=_) fun fr r=>s0 r (rfl:false=_) fun fr r=>seq_val (.bool false) r (fun R=>y_pick r (b:=false) (kb (rfl:false=_)) rfl) rfl fun fr r=>kM (.bool false) r rfl rfl fun r=>s0 r (rfl:false=_) fun fr r=>s0 r (rfl:false=_) fun fr r=>s0 r (rfl:false=_) fun fr r=>seq_val (.bool false) r (fun R=>y_pick r (b:=false) (kb (rfl:false=_)) rfl) rfl fun fr r=>kA (.bool false) r rfl rfl fun r=>wn (wp_ret ?_);have hd:D.state_State_Formed a0=false:=(cond_t h4).trans ((cond_t h5).trans ((cond_f h6).trans (rfl)))
   refine ret_tmp r rfl rfl ?_;rw [hd];exact ⟨rfl,hB⟩
  refine s0 r h5 fun fr r=>s0 r h5 fun fr r=>s0 r h5 fun fr r=>seq_val (.bool false) r (fun R=>y_pick r (b:=false) (kb h5) rfl) rfl fun fr r=>kM (.bool false) r rfl rfl fun r=>s0 r (rfl:false=_) fun fr r=>s0 r (rfl:false=_) fun fr r=>s0 r (rfl:false=_) fun fr r=>seq_val (.bool false) r (fun R=>y_pick r (b:=false) (kb (rfl:false=_)) rfl) rfl fun fr r=>kM (.bool false) r rfl rfl fun r=>s0 r (rfl:false=_) fun fr r=>s0 r (rfl:false=_) fun fr r=>s0 r (rfl:false=_) fun fr r=>seq_val (.bool false) r (fun R=>y_pick r (b:=false) (kb (rfl:false=_)) rfl) rfl fun fr r=>kM (.bool false) r rfl rfl fun r=>s0 r (rfl:false=_) fun fr r=>s0 r (rfl:false=_) fun fr r=>s0 r (rfl:false=_) fun fr r=>seq_val (.bool false) r (fun R=>y_pick r (b:=false) (kb (rfl:false=_)) rfl) rfl fun fr r=>kA (.bool false) r rfl rfl fun r=>wn (wp_ret ?_);have hd:D.state_State_Formed a0=false:=(cond_t h4).trans ((cond_f h5).trans (rfl))
  refine ret_tmp r rfl rfl ?_;rw [hd];exact ⟨rfl,hB⟩
 refine s0 r h4 fun fr r=>s0 r h4 fun fr r=>s0 r h4 fun fr r=>seq_val (.bool false) r (fun R=>y_pick r (b:=false) (kb h4) rfl) rfl fun fr r=>kM (.bool false) r rfl rfl fun r=>s0 r (rfl:false=_) fun fr r=>s0 r (rfl:false=_) fun fr r=>s0 r (rfl:false=_) fun fr r=>seq_val (.bool false) r (fun R=>y_pick r (b:=false) (kb (rfl:false=_)) rfl) rfl fun fr r=>kM (.bool false) r rfl rfl fun r=>s0 r (rfl:false=_) fun fr r=>s0 r (rfl:false=_) fun fr r=>s0 r (rfl:false=_) fun fr r=>seq_val (.bool false) r (fun R=>y_pick r (b:=false) (kb (rfl:false=_)) rfl) rfl fun fr r=>kM (.bool false) r rfl rfl fun r=>s0 r (rfl:false=_) fun fr r=>s0 r (rfl:false=_) fun fr r=>s0 r (rfl:false=_) fun fr r=>seq_val (.bool false) r (fun R=>y_pick r (b:=false) (kb (rfl:false=_)) rfl) rfl fun fr r=>kM (.bool false) r rfl rfl fun r=>s0 r (rfl:false=_) fun fr r=>s0 r (rfl:false=_) fun fr r=>s0 r (rfl:false=_) fun fr r=>seq_val (.bool false) r (fun R=>y_pick r (b:=false) (kb (rfl:false=_)) rfl) rfl fun fr r=>kA (.bool false) r rfl rfl fun r=>wn (wp_ret ?_);have hd:D.state_State_Formed a0=false:=(cond_f h4).trans (rfl)
 refine ret_tmp r rfl rfl ?_;rw [hd];exact ⟨rfl,hB⟩
end Go.Proofs.YtbbipmelhmgmfaaGreat

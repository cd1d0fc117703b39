/- Some of our texts, one behind the other. -/
import Derived.Test.YtbbipmelhmgmfaaGreatDzPlans
import Derived.Test.YtbbipmelhmgmfaaGreatDzM3
set_option linter.all false
set_option maxRecDepth 100000
set_option maxHeartbeats 20000000
/- Ours. -/
namespace Go.Proofs.YtbbipmelhmgmfaaGreat
open Go.RowKit
theorem jU:ba B0 241 0 0:=kz
theorem oP:ba B0 241 1 1:=kz
def D.cf (a0:Field):Bool:=(bif (decide (a0.at_>=0)) then (bif (decide (a0.at_<64)) then (bif (decide (a0.bits>=1)) then (decide (a0.bits<=(IntKind.i64.wrap (64 - a0.at_)))) else false) else false) else false)
theorem kZ (w0:World) 
    (a0:Field) :
    Calls B0 285 #[z6 (aR a0)] w0 (bB (.bool (D.cf a0)) w0):=by
 refine kN Tryz.func285 rfl 24 rfl rfl fun fr r hB=>?_;refine I0 ?_
 refine kX 241 (z6 (aR a0)) r rfl rfl fun b1 w2 n3 r=>?_;obtain ⟨eb1,zw2,hb1,hB,zB⟩:=n3.all hB
 refine kA (.bool false) r rfl rfl fun r=>wn (I0 (kF 0 r rfl jU rfl fun r=>kL (I a0.at_) r rfl hb1 IL rfl rfl fun r=>kB r rfl rfl rfl rfl rfl fun r=>kM (.bool (decide (a0.at_>=0))) r rfl rfl fun r=>?_));refine bG (decide (a0.at_>=0)) (fun h4=>?_) (fun h4=>?_)
 ·
  refine s1 r h4 (kF 0 r rfl jU rfl fun r=>s1 r h4 (kL (I a0.at_) r rfl hb1 IL rfl rfl fun r=>s1 r h4 (kB r rfl rfl rfl rfl rfl fun r=>aa (.bool (decide (a0.at_<64))) r (fun R=>ay r (b:=true) (kb h4) rfl) rfl fun fr r=>kM (.bool (decide (a0.at_<64))) r rfl rfl fun r=>?_)));refine bG (decide (a0.at_<64)) (fun h5=>?_) (fun h5=>?_)
  ·
   refine s1 r h5 (kF 0 r rfl oP rfl fun r=>s1 r h5 (kL (I a0.bits) r rfl hb1 IL rfl rfl fun r=>s1 r h5 (kB r rfl rfl rfl rfl rfl fun r=>aa (.bool (decide (a0.bits>=1))) r (fun R=>ay r (b:=true) (kb h5) rfl) rfl fun fr r=>kM (.bool (decide (a0.bits>=1))) r rfl rfl fun r=>?_)));refine bG (decide (a0.bits>=1)) (fun h6=>?_) (fun h6=>?_)
   ·
    refine s1 r h6 (kF 0 r rfl oP rfl fun r=>s1 r h6 (kL (I a0.bits) r rfl hb1 IL rfl rfl fun r=>s1 r h6 (kF 0 r rfl jU rfl fun r=>s1 r h6 (kL (I a0.at_) r rfl hb1 IL rfl rfl fun r=>s1 r h6 (kB r rfl rfl rfl rfl rfl fun r=>s1 r h6 (kB r rfl rfl rfl rfl rfl fun r=>aa (.bool (decide (a0.bits<=(W (64 - a0.at_))))) r (fun R=>ay r (b:=true) (kb h6) rfl) rfl fun fr r=>kA (.bool (decide (a0.bits<=(W (64 - a0.at_))))) r rfl rfl fun r=>wn (q4 ?_)))))));have hd:D.cf a0=(decide (a0.bits<=(W (64 - a0.at_)))):=(ar h4).trans ((ar h5).trans ((ar h6).trans (rfl)))
    refine aT r rfl rfl ?_;rw [hd];exact ⟨rfl,hB⟩
   refine s0 r h6 fun fr r=>s0 r h6 fun fr r=>s0 r h6 fun fr r=>s0 r h6 fun fr r=>s0 r h6 fun fr r=>s0 r h6 fun fr r=>aa (.bool false) r (fun R=>ay r (b:=false) (kb h6) rfl) rfl fun fr r=>kA (.bool false) r rfl rfl fun r=>wn (q4 ?_);have hd:D.cf a0=false:=(ar h4).trans ((ar h5).trans ((ai h6).trans (rfl)))
   refine aT r rfl rfl ?_;rw [hd];exact ⟨rfl,hB⟩
  refine s0 r h5 fun fr r=>s0 r h5 fun fr r=>s0 r h5 fun fr r=>aa (.bool false) r (fun R=>ay r (b:=false) (kb h5) rfl) rfl fun fr r=>kM (.bool false) r rfl rfl fun r=>s0 r (rfl:false=_) fun fr r=>s0 r (rfl:false=_) fun fr r=>s0 r (rfl:false=_) fun fr r=>s0 r (rfl:false=_) fun fr r=>s0 r (rfl:false=_) fun fr r=>s0 r (rfl:false=_) fun fr r=>aa (.bool false) r (fun R=>ay r (b:=false) (kb (rfl:false=_)) rfl) rfl fun fr r=>kA (.bool false) r rfl rfl fun r=>wn (q4 ?_);have hd:D.cf a0=false:=(ar h4).trans ((ai h5).trans (rfl))
  refine aT r rfl rfl ?_;rw [hd];exact ⟨rfl,hB⟩
 refine s0 r h4 fun fr r=>s0 r h4 fun fr r=>s0 r h4 fun fr r=>aa (.bool false) r (fun R=>ay r (b:=false) (kb h4) rfl) rfl fun fr r=>kM (.bool false) r rfl rfl fun r=>s0 r (rfl:false=_) fun fr r=>s0 r (rfl:false=_) fun fr r=>s0 r (rfl:false=_) fun fr r=>aa (.bool false) r (fun R=>ay r (b:=false) (kb (rfl:false=_)) rfl) rfl fun fr r=>kM (.bool false) r rfl rfl fun r=>s0 r (rfl:false=_) fun fr r=>s0 r (rfl:false=_) fun fr r=>s0 r (rfl:false=_) fun fr r=>s0 r (rfl:false=_) fun fr r=>s0 r (rfl:false=_) fun fr r=>s0 r (rfl:false=_) fun fr r=>aa (.bool false) r (fun R=>ay r (b:=false) (kb (rfl:false=_)) rfl) rfl fun fr r=>kA (.bool false) r rfl rfl fun r=>wn (q4 ?_);have hd:D.cf a0=false:=(ai h4).trans (rfl)
 refine aT r rfl rfl ?_;rw [hd];exact ⟨rfl,hB⟩
theorem yV {f:Field} (h:D.cf f=true):0<=f.at_/\f.at_<64/\1<=f.bits/\f.bits<=64 - f.at_:=by
 unfold D.cf at h
 have hw:∀ x:Int,0<=x->x<64->IntKind.i64.wrap (64 - x)=64 - x:=by
  intro x h0 h1;simp only [IntKind.wrap];simp [IntKind.signed,IntKind.bits];omega
 cases h1:decide (f.at_>=0) <;> rw [h1] at h
 ·cases h
 cases h2:decide (f.at_<64) <;> rw [h2] at h
 ·cases h
 cases h3:decide (f.bits>=1) <;> rw [h3] at h
 ·cases h
 simp only [decide_eq_true_eq] at h1 h2 h3
 simp only [cond_true,decide_eq_true_eq] at h
 rw [hw _ h1 h2] at h
 omega
theorem mh:af B0 285:=kz
theorem py:af B0 286:=kz
theorem px:af B0 289:=kz
theorem dn:tyA B0 241 2:=kz
def D.bV (a0:Field):Int:=(bif (!(D.cf a0)) then 0 else (bif (a0.bits==64) then 18446744073709551615 else (IntKind.u64.wrap ((KQ .u64 1 a0.bits) - 1))))
theorem mP (w0:World) 
    (a0:Field) :
    Calls B0 286 #[z6 (aR a0)] w0 (bB (.int .u64 (D.bV a0)) w0):=by
 refine kN Tryz.func286 rfl 15 rfl rfl fun fr r hB=>?_;refine I0 ?_
 refine kX 241 (z6 (aR a0)) r rfl rfl fun b1 w2 n3 r=>?_;obtain ⟨E1,Z2,H1,hB,zB⟩:=n3.all hB
 refine kA (U 0) r rfl rfl fun r=>wn (d9 (wp_block (I0 (kG (aR a0) 2 r rfl H1 dn rfl rfl fun r=>?_))));refine kE r (kZ w2 a0) rfl mh rfl fun w4 hb r=>?_
 have Z4:=hb.size;have H1:=keep hb H1;obtain ⟨hB,zB⟩:=IQ hb hB;refine aa (.bool (!(D.cf a0))) r (fun R=>JQ r (u:=(.bool (D.cf a0))) rfl rfl) rfl fun fr r=>kA (.bool (!(D.cf a0))) r rfl rfl fun r=>wn ?_;refine q5 (t:=(!(D.cf a0))) (r.ev rfl) (fun h5=>?_) (fun h5=>?_)
 ·
  refine I0 (kA (U 0) r rfl rfl fun r=>wn (q4 ?_));have hd:D.bV a0=0:=(ar h5).trans (rfl)
  refine aT r rfl rfl ?_;rw [hd];exact ⟨rfl,hB⟩
 refine I0 (kF 0 r rfl oP rfl fun r=>kL (I a0.bits) r rfl H1 IL rfl rfl fun r=>kB r rfl rfl rfl rfl rfl fun r=>kA (.bool (a0.bits==64)) r rfl rfl fun r=>wn ?_);refine q5 (t:=(a0.bits==64)) (r.ev rfl) (fun h6=>?_) (fun h6=>?_)
 ·
  refine I0 (kA (U 18446744073709551615) r rfl rfl fun r=>wn (q4 ?_));have hd:D.bV a0=18446744073709551615:=(ai h5).trans ((ar h6).trans (rfl))
  refine aT r rfl rfl ?_;rw [hd];exact ⟨rfl,hB⟩
 refine q7 (I0 (kF 0 r rfl oP rfl fun r=>kL (I a0.bits) r rfl H1 IL rfl rfl fun r=>kB r rfl rfl rfl (oN yat) rfl fun r=>kB r rfl rfl rfl rfl rfl fun r=>kA (U (V ((KQ .u64 1 a0.bits) - 1))) r rfl rfl fun r=>wn (q4 ?_)));have hd:D.bV a0=(V ((KQ .u64 1 a0.bits) - 1)):=(ai h5).trans ((ai h6).trans (rfl))
 refine aT r rfl rfl ?_;rw [hd];exact ⟨rfl,hB⟩
def D.bN (a0:Field) (a1:Int):Int:=(bif (!(D.cf a0)) then 0 else (cL .u64 (KK .u64 a1 a0.at_) (D.bV a0)))
theorem mY (w0:World) 
    (a0:Field) (a1:Int) :
    Calls B0 191 #[z6 (aR a0),.int .u64 a1] w0 (bB (.int .u64 (D.bN a0 a1)) w0):=by
 refine kN Tryz.func191 rfl 15 rfl rfl fun fr r hB=>?_;refine I0 ?_
 refine kX 241 (z6 (aR a0)) r rfl rfl fun b1 w2 n3 r=>?_;obtain ⟨E1,Z2,H1,hB,zB⟩:=n3.all hB
 refine kA (U 0) r rfl rfl fun r=>wn (d9 (I0 (kG (aR a0) 2 r rfl H1 dn rfl rfl fun r=>?_)));refine kE r (kZ w2 a0) rfl mh rfl fun w4 hb r=>?_
 have Z4:=hb.size;have H1:=keep hb H1;obtain ⟨hB,zB⟩:=IQ hb hB;refine aa (.bool (!(D.cf a0))) r (fun R=>JQ r (u:=(.bool (D.cf a0))) rfl rfl) rfl fun fr r=>wn ?_;refine q5 (t:=(!(D.cf a0))) (r.ev rfl) (fun h5=>?_) (fun h5=>?_)
 ·
  refine I0 (kA (U 0) r rfl rfl fun r=>wn (q4 ?_));have hd:D.bN a0 a1=0:=(ar h5).trans (rfl)
  refine aT r rfl rfl ?_;rw [hd];exact ⟨rfl,hB⟩
 refine q7 (d9 ?_);refine bI 7 [.val (U a1),.val (zp b1),.val (I a0.at_),.val (U (KK .u64 a1 a0.at_)),.val (z6 (aR a0)),.val (U (D.bV a0)),.val (U (cL .u64 (KK .u64 a1 a0.at_) (D.bV a0)))] mixed r kz (kV (kV (kV (kV (kV (kV (kV bH))))))) ?_ ?_
 ·
  refine ec r (fun _ u _ b d s=>aw s rfl bz) (ec r (fun _ u _ b d s=>az s (b:=b1) (o:=0) rfl jU bz) (ec r (fun _ u _ b d s=>ax s d.1 (keep b H1) IL rfl bz) (ec r (fun _ u _ b d s=>bd s d.1 d.2.1 rfl (rC yat) bz) (ec r (fun _ u _ b d s=>aU s (cs:=(aR a0)) (n:=2) rfl (keep b H1) dn rfl bz) (ec r (fun I2 u w' hb' hd r'=>aN r' (args:=[(z6 (aR a0))]) (lc hd.1 l0) py ((mP _ a0).mono JL)) (ec r (fun _ u _ b d s=>bd s d.1 d.2.1 rfl rfl bz) ?_))))));exact bJ
 intro fr u w6 hb Iz hne r;have r:=r.congr (sc (Iz 6 ke) (sc (Iz 5 ke) (sc (Iz 4 ke) (sc (Iz 3 ke) (sc (Iz 2 ke) (sc (Iz 1 ke) (sc (Iz 0 ke) rfl)))))));have Z6:=hb.size;have H1:=keep hb H1;obtain ⟨hB,zB⟩:=IQ hb hB;refine kA (U (cL .u64 (KK .u64 a1 a0.at_) (D.bV a0))) r rfl rfl fun r=>wn (q4 ?_);have hd:D.bN a0 a1=(cL .u64 (KK .u64 a1 a0.at_) (D.bV a0)):=(ai h5).trans (rfl)
 refine aT r rfl rfl ?_;rw [hd];exact ⟨rfl,hB⟩
def D.cz (a0:Field):Int:=(bif (!(D.cf a0)) then 0 else (KQ .u64 (D.bV a0) a0.at_))
theorem mQ (w0:World) 
    (a0:Field) :
    Calls B0 289 #[z6 (aR a0)] w0 (bB (.int .u64 (D.cz a0)) w0):=by
 refine kN Tryz.func289 rfl 11 rfl rfl fun fr r hB=>?_;refine I0 ?_
 refine kX 241 (z6 (aR a0)) r rfl rfl fun b1 w2 n3 r=>?_;obtain ⟨E1,Z2,H1,hB,zB⟩:=n3.all hB
 refine kA (U 0) r rfl rfl fun r=>wn (d9 (I0 (kG (aR a0) 2 r rfl H1 dn rfl rfl fun r=>?_)));refine kE r (kZ w2 a0) rfl mh rfl fun w4 hb r=>?_
 have Z4:=hb.size;have H1:=keep hb H1;obtain ⟨hB,zB⟩:=IQ hb hB;refine aa (.bool (!(D.cf a0))) r (fun R=>JQ r (u:=(.bool (D.cf a0))) rfl rfl) rfl fun fr r=>wn ?_;refine q5 (t:=(!(D.cf a0))) (r.ev rfl) (fun h5=>?_) (fun h5=>?_)
 ·
  refine I0 (kA (U 0) r rfl rfl fun r=>wn (q4 ?_));have hd:D.cz a0=0:=(ar h5).trans (rfl)
  refine aT r rfl rfl ?_;rw [hd];exact ⟨rfl,hB⟩
 refine q7 (d9 ?_);refine bI 5 [.val (z6 (aR a0)),.val (U (D.bV a0)),.val (zp b1),.val (I a0.at_),.val (U (KQ .u64 (D.bV a0) a0.at_))] mixed r kz (kV (kV (kV (kV (kV bH))))) ?_ ?_
 ·
  refine ec r (fun _ u _ b d s=>aU s (cs:=(aR a0)) (n:=2) rfl (keep b H1) dn rfl bz) (ec r (fun I2 u w' hb' hd r'=>aN r' (args:=[(z6 (aR a0))]) (lc hd.1 l0) py ((mP _ a0).mono JL)) (ec r (fun _ u _ b d s=>az s (b:=b1) (o:=0) rfl jU bz) (ec r (fun _ u _ b d s=>ax s d.1 (keep b H1) IL rfl bz) (ec r (fun _ u _ b d s=>bd s d.1 d.2.1 rfl (oN yat) bz) ?_))));exact bJ
 intro fr u w6 hb Iz hne r;have r:=r.congr (sc (Iz 4 ke) (sc (Iz 3 ke) (sc (Iz 2 ke) (sc (Iz 1 ke) (sc (Iz 0 ke) rfl)))));have Z6:=hb.size;have H1:=keep hb H1;obtain ⟨hB,zB⟩:=IQ hb hB;refine kA (U (KQ .u64 (D.bV a0) a0.at_)) r rfl rfl fun r=>wn (q4 ?_);have hd:D.cz a0=(KQ .u64 (D.bV a0) a0.at_):=(ai h5).trans (rfl)
 refine aT r rfl rfl ?_;rw [hd];exact ⟨rfl,hB⟩
def D.cU (a0:Field) (a1:Int) (a2:Int):Int:=(bif (!(D.cf a0)) then a1 else (dS .u64 (cH .u64 a1 (D.cz a0)) (KQ .u64 (cL .u64 a2 (D.bV a0)) a0.at_)))
theorem pU (w0:World) 
    (a0:Field) (a1:Int) (a2:Int) :
    Calls B0 296 #[z6 (aR a0),.int .u64 a1,.int .u64 a2] w0 (bB (.int .u64 (D.cU a0 a1 a2)) w0):=by
 refine kN Tryz.func296 rfl 23 rfl rfl fun fr r hB=>?_;refine I0 ?_
 refine kX 241 (z6 (aR a0)) r rfl rfl fun b1 w2 n3 r=>?_;obtain ⟨E1,Z2,H1,hB,zB⟩:=n3.all hB
 refine kA (U 0) r rfl rfl fun r=>wn (d9 (I0 (kG (aR a0) 2 r rfl H1 dn rfl rfl fun r=>?_)));refine kE r (kZ w2 a0) rfl mh rfl fun w4 hb r=>?_
 have Z4:=hb.size;have H1:=keep hb H1;obtain ⟨hB,zB⟩:=IQ hb hB;refine aa (.bool (!(D.cf a0))) r (fun R=>JQ r (u:=(.bool (D.cf a0))) rfl rfl) rfl fun fr r=>wn ?_;refine q5 (t:=(!(D.cf a0))) (r.ev rfl) (fun h5=>?_) (fun h5=>?_)
 ·
  refine I0 (kM (U a1) r rfl rfl fun r=>kA (U a1) r rfl rfl fun r=>wn (q4 ?_));have hd:D.cU a0 a1 a2=a1:=(ar h5).trans (rfl)
  refine aT r rfl rfl ?_;rw [hd];exact ⟨rfl,hB⟩
 refine q7 (d9 ?_);refine bI 12 [.val (U a1),.val (z6 (aR a0)),.val (U (D.cz a0)),.val (U (cH .u64 a1 (D.cz a0))),.val (U a2),.val (z6 (aR a0)),.val (U (D.bV a0)),.val (U (cL .u64 a2 (D.bV a0))),.val (zp b1),.val (I a0.at_),.val (U (KQ .u64 (cL .u64 a2 (D.bV a0)) a0.at_)),.val (U (dS .u64 (cH .u64 a1 (D.cz a0)) (KQ .u64 (cL .u64 a2 (D.bV a0)) a0.at_)))] mixed r kz (kV (kV (kV (kV (kV (kV (kV (kV (kV (kV (kV (kV bH)))))))))))) ?_ ?_
 ·
  refine ec r (fun _ u _ b d s=>aw s rfl bz) (ec r (fun _ u _ b d s=>aU s (cs:=(aR a0)) (n:=2) rfl (keep b H1) dn rfl bz) (ec r (fun I2 u w' hb' hd r'=>aN r' (args:=[(z6 (aR a0))]) (lc hd.1 l0) px ((mQ _ a0).mono JL)) (ec r (fun _ u _ b d s=>bd s d.1 d.2.1 rfl rfl bz) (ec r (fun _ u _ b d s=>aw s rfl bz) (ec r (fun _ u _ b d s=>aU s (cs:=(aR a0)) (n:=2) rfl (keep b H1) dn rfl bz) (ec r (fun I2 u w' hb' hd r'=>aN r' (args:=[(z6 (aR a0))]) (lc hd.1 l0) py ((mP _ a0).mono JL)) (ec r (fun _ u _ b d s=>bd s d.1 d.2.1 rfl rfl bz) (ec r (fun _ u _ b d s=>az s (b:=b1) (o:=0) rfl jU bz) (ec r (fun _ u _ b d s=>ax s d.1 (keep b H1) IL rfl bz) (ec r (fun _ u _ b d s=>bd s d.1 d.2.1 rfl (oN yat) bz) (ec r (fun _ u _ b d s=>bd s d.1 d.2.1 rfl rfl bz) ?_)))))))))));exact bJ
 intro fr u w6 hb Iz hne r;have r:=r.congr (sc (Iz 11 ke) (sc (Iz 10 ke) (sc (Iz 9 ke) (sc (Iz 8 ke) (sc (Iz 7 ke) (sc (Iz 6 ke) (sc (Iz 5 ke) (sc (Iz 4 ke) (sc (Iz 3 ke) (sc (Iz 2 ke) (sc (Iz 1 ke) (sc (Iz 0 ke) rfl))))))))))));have Z6:=hb.size;have H1:=keep hb H1;obtain ⟨hB,zB⟩:=IQ hb hB;refine kA (U (dS .u64 (cH .u64 a1 (D.cz a0)) (KQ .u64 (cL .u64 a2 (D.bV a0)) a0.at_))) r rfl rfl fun r=>wn (q4 ?_);have hd:D.cU a0 a1 a2=(dS .u64 (cH .u64 a1 (D.cz a0)) (KQ .u64 (cL .u64 a2 (D.bV a0)) a0.at_)):=(ai h5).trans (rfl)
 refine aT r rfl rfl ?_;rw [hd];exact ⟨rfl,hB⟩
structure Ck where
 own:List Nat
 ro:List Nat
 ok:World->Prop
 st:∀ w w':World,(∀ b,b∈own\/b∈ro->w'.heap[b]?=w.heap[b]?)->w.heap.size<=w'.heap.size->ok w->ok w'
def Ck.has (c:Ck) (b:Nat):Prop:=b∈c.own\/b∈c.ro
def Ck.clear (c d:Ck):Prop:=∀ b,b∈c.own->¬ d.has b
def JY:List Ck->World->Prop
 | [],_=>True
 | c::L,w=>c.ok w/\(∀ b,c.has b->b<w.heap.size)/\(∀ d,d∈L->c.clear d/\d.clear c)/\JY L w
structure Jd (Z:Nat->Prop) (w w':World):Prop where
 os:w'.os=w.os
 tape:w'.tape=w.tape
 output:w'.output=w.output
 size:w.heap.size<=w'.heap.size
 block:∀ b,b<w.heap.size->¬ Z b->w'.heap[b]?=w.heap[b]?
theorem dr {w w':World} {d:Nat} (h:Below w.heap.size { w with drawn:=d } w'):Below w.heap.size w w':=⟨h.os,h.tape,h.output,h.size,h.block⟩
def No:Nat->Prop:=fun _=>False
theorem Jd.below {w w':World} (h:Jd No w w'):Below w.heap.size w w':=⟨h.os,h.tape,h.output,h.size,fun b hb=>h.block b hb fun h=>h⟩
theorem Jd.of_below {w w':World} (h:Below w.heap.size w w'):Jd No w w':=⟨h.os,h.tape,h.output,h.size,fun b hb _=>h.block b hb⟩
theorem Jd.refl (Z:Nat->Prop) (w:World):Jd Z w w:=⟨rfl,rfl,rfl,Nat.le_refl _,fun _ _ _=>rfl⟩
theorem Jd.trans {Z Z':Nat->Prop} {w w' w'':World} (h:Jd Z w w') (h':Jd Z' w' w'') (hz:∀ b,b<w.heap.size->Z' b->Z b):Jd Z w w'':=
 ⟨h'.os.trans h.os,h'.tape.trans h.tape,h'.output.trans h.output,Nat.le_trans h.size h'.size,fun b hb hn=>(h'.block b (q9 hb h.size) fun h=>hn (hz b hb h)).trans (h.block b hb hn)⟩
section
variable {L N : List Ck} {c c' : Ck} {w w' w0 : World} {i : Nat} {Z : Nat -> Prop}
theorem JY.ok (h:JY L w):∀ c,c∈L->c.ok w/\∀ b,c.has b->b<w.heap.size:=by
 induction L with
 | nil=>intro c hc; cases hc
 | cons d L ih=>
  intro c hc
  rcases List.mem_cons.1 hc with rfl | hc
  ·exact ⟨h.1,h.2.1⟩
  ·exact ih h.2.2.2 c hc
theorem JY.get (h:JY L w) (hi:L[i]?=some c):c.ok w:=(h.ok c (List.mem_of_getElem? hi)).1
theorem JY.lt (h:JY L w) (hi:L[i]?=some c) {b:Nat} (hb:c.has b):b<w.heap.size:=(h.ok c (List.mem_of_getElem? hi)).2 b hb
theorem JY.clear {j:Nat} {d:Ck} (h:JY L w) (hi:L[i]?=some c) (hj:L[j]?=some d) (hn:i≠j):c.clear d/\d.clear c:=by
 induction L generalizing i j with
 | nil=>simp at hi
 | cons e L ih=>
  cases i with
  | zero=>
   cases j with
   | zero=>exact absurd rfl hn
   | succ j=>
    simp only [List.getElem?_cons_zero,Option.some.injEq,List.getElem?_cons_succ] at hi hj
    subst hi;exact h.2.2.1 d (List.mem_of_getElem? hj)
  | succ i=>
   cases j with
   | zero=>
    simp only [List.getElem?_cons_zero,Option.some.injEq,List.getElem?_cons_succ] at hi hj
    subst hj;exact (h.2.2.1 c (List.mem_of_getElem? hi)).symm
   | succ j=>
    simp only [List.getElem?_cons_succ] at hi hj
    exact ih h.2.2.2 hi hj O
theorem JY.keep (h:JY L w) (hs:w.heap.size<=w'.heap.size) (hk:∀ c,c∈L->∀ b,c.has b->w'.heap[b]?=w.heap[b]?):JY L w':=by
 induction L with
 | nil=>trivial
 | cons d L ih=>
  exact ⟨d.st w w' (hk d (List.mem_cons_self ..)) hs h.1,fun b hb=>q9 (h.2.1 b hb) hs,h.2.2.1,ih h.2.2.2 fun c hc=>hk c (List.mem_cons_of_mem _ hc)⟩
theorem JY.below (h:JY L w) (hb:Below w.heap.size w w'):JY L w':=h.keep hb.size fun c hc b hbc=>hb.block b ((h.ok c hc).2 b hbc)
theorem JY.append (h:JY L w) (h2:JY N w) (hc:∀ c,c∈L->∀ d,d∈N->c.clear d/\d.clear c):JY (L++N) w:=by
 induction L with
 | nil=>exact h2
 | cons d L ih=>
  refine ⟨h.1,h.2.1,fun e he=>?_,ih h.2.2.2 fun c hc'=>hc c (List.mem_cons_of_mem _ hc')⟩
  rcases List.mem_append.1 he with he | he
  ·exact h.2.2.1 e he
  ·exact hc d (List.mem_cons_self ..) e he
theorem JY.sub (h:JY L w) (hs:List.Sublist N L):JY N w:=by
 induction hs with
 | slnil=>trivial
 | cons a _ ih=>exact ih h.2.2.2
 | cons_cons a hs ih=>exact ⟨h.1,h.2.1,fun d hd=>h.2.2.1 d (hs.subset hd),ih h.2.2.2⟩
theorem JY.setN:∀ (L:List Ck) (i:Nat),JY L w->L[i]?=some c->JY (c'::N) w'->
  (∀ j d,L[j]?=some d->j≠i->(d.ok w'/\∀ b,d.has b->b<w'.heap.size)/\∀ e,e∈c'::N->e.clear d/\d.clear e)->JY (L.set i c'++N) w'
 | [],_,_,hi,_,_=>by simp at hi
 | c0::L,0,h,hi,hN,hd=>by
  simp only [List.getElem?_cons_zero,Option.some.injEq] at hi
  subst hi;have hd':∀ d,d∈L->(d.ok w'/\∀ b,d.has b->b<w'.heap.size)/\∀ e,e∈c'::N->e.clear d/\d.clear e:=fun d hm=>by
   obtain ⟨j,hj⟩:=List.mem_iff_getElem?.1 hm;exact hd (j+1) d (by simpa using hj) O
  refine ⟨hN.1,hN.2.1,fun d hdm=>?_,?_⟩
  ·rcases List.mem_append.1 hdm with hm | hm
   ·exact (hd' d hm).2 c' (List.mem_cons_self ..)
   ·exact hN.2.2.1 d hm
  ·have hL:JY L w':=by
    have h3:=h.2.2.2;have h4:∀ d,d∈L->d.ok w'/\∀ b,d.has b->b<w'.heap.size:=fun d hm=>(hd' d hm).1
    clear hd hd' hN h
    induction L with
    | nil=>trivial
    | cons e L ih=>exact ⟨(h4 e (List.mem_cons_self ..)).1,(h4 e (List.mem_cons_self ..)).2,h3.2.2.1,ih h3.2.2.2 fun d hm=>h4 d (List.mem_cons_of_mem _ hm)⟩
   exact hL.append hN.2.2.2 fun d hm e he=>((hd' d hm).2 e (List.mem_cons_of_mem _ he)).symm
 | d::L,i+1,h,hi,hN,hd=>by
  simp only [List.getElem?_cons_succ] at hi
  have hg:=hd 0 d rfl O
  refine ⟨hg.1.1,hg.1.2,fun e he=>?_,JY.setN L i h.2.2.2 hi hN fun j e hj hn=>hd (j+1) e (by simpa using hj) O⟩
  rcases List.mem_append.1 he with he | he
  ·rcases List.mem_or_eq_of_mem_set he with he | rfl
   ·exact h.2.2.1 e he
   ·exact (hg.2 _ (List.mem_cons_self ..)).symm
  ·exact (hg.2 e (List.mem_cons_of_mem _ he)).symm
structure Post (Z:Nat->Prop) (L:List Ck) (w0 w:World):Prop where
 sep:JY L w
 KE:Jd Z w0 w
 mine:∀ c,c∈L->∀ b,b∈c.own->Z b\/w0.heap.size<=b
structure Kv (Z Y:Nat->Prop) (L:List Ck) (w0 w:World):Prop extends Post Z L w0 w where
 rest:∀ c,c∈L->∀ b,b∈c.ro->Y b\/w0.heap.size<=b
theorem Post.start (h:JY L w0) (hz:∀ c,c∈L->∀ b,b∈c.own->Z b):Post Z L w0 w0:=⟨h,Jd.refl _ _,fun c hc b hb=>.inl (hz c hc b hb)⟩
theorem Post.below (h:Post Z L w0 w) (hb:Below w.heap.size w w'):Post Z L w0 w':=⟨h.sep.below hb,h.KE.trans (Jd.of_below hb) (fun _ _ h=>h.elim),h.mine⟩
theorem Post.done {Y:Nat->Prop} (h:Post Z L w0 w) (hr:∀ c,c∈L->∀ b,b∈c.ro->Y b\/w0.heap.size<=b):Kv Z Y L w0 w:=⟨h,hr⟩
theorem Post.size (h:Post Z L w0 w):w0.heap.size<=w.heap.size:=h.KE.size
theorem Post.add (h:Post Z L w0 w) (h2:Kv No No N w w'):Post Z (L++N) w0 w':=by
 have hb:=h2.KE.below;have hnew:∀ d,d∈N->∀ b,d.has b->w.heap.size<=b:=fun d hd b hb=>hb.elim (fun h=>(h2.mine d hd b h).resolve_left fun h=>h) (fun h=>(h2.rest d hd b h).resolve_left fun h=>h)
 refine ⟨(h.sep.below hb).append h2.sep fun c hc d hd=>⟨fun b h3 h4=>?_,fun b h3 h4=>?_⟩,h.KE.trans h2.KE (fun _ _ h=>h.elim),fun c hc b hb=>?_⟩
 ·have:=(h.sep.ok c hc).2 b (.inl h3); have:=hnew d hd b h4; omega
 ·have:=(h.sep.ok c hc).2 b h4; have:=hnew d hd b (.inl h3); omega
 ·rcases List.mem_append.1 hc with hc | hc
  ·exact h.mine c hc b hb
  ·exact .inr (Nat.le_trans h.size (hnew c hc b (.inl hb)))
theorem Post.setY {Y:Nat->Prop} (h:Post Z L w0 w) (hi:L[i]?=some c) (hY:∀ b,Y b->b∈c.ro\/∃ (k:Nat) (e:Ck),L[k]?=some e/\e.own=[]/\b∈e.ro) (h2:Kv (fun b=>b∈c.own) Y (c'::N) w w'):Post Z (L.set i c'++N) w0 w':=by
 refine ⟨JY.setN L i h.sep hi h2.sep fun j d hj hn=>?_,h.KE.trans h2.KE (fun b hb hc=>(h.mine c (List.mem_of_getElem? hi) b hc).resolve_right O),fun e he b hb=>?_⟩
 ·obtain ⟨h3,h4⟩:=h.sep.clear hi hj (Ne.symm hn)
  have h5:=fun b hb=>h.sep.lt hj (b:=b) hb
  refine ⟨⟨d.st w w' (fun b hb=>h2.KE.block b (h5 b hb) fun hc=>h3 b hc hb) h2.KE.size (h.sep.get hj),fun b hb=>q9 (h5 b hb) h2.KE.size⟩,fun e he=>⟨fun b h7 h8=>?_,fun b h7 h8=>?_⟩⟩
  ·rcases h2.mine e he b h7 with h9 | h9
   ·exact h3 b h9 h8
   ·have:=h5 b h8; omega
  ·rcases h8 with h8 | h8
   ·rcases h2.mine e he b h8 with h9 | h9
    ·exact h4 b h7 (.inl h9)
    ·have:=h5 b (.inl h7); omega
   ·rcases h2.rest e he b h8 with h9 | h9
    ·rcases hY b h9 with h9 | ⟨k,e',hk,ho,h9⟩
     ·exact h4 b h7 (.inr h9)
     ·by_cases hjk:j=k
      ·subst hjk
       rw [hj] at hk
       obtain rfl:=Option.some.inj hk;rw [ho] at h7; cases h7
      ·exact (h.sep.clear hj hk hjk).1 b h7 (.inr h9)
    ·have:=h5 b (.inl h7); omega
 ·have hmine:∀ e,e∈c'::N->b∈e.own->Z b\/w0.heap.size<=b:=fun e he hb=>by
   rcases h2.mine e he b hb with h9 | h9
   ·exact h.mine c (List.mem_of_getElem? hi) b h9
   ·exact .inr (Nat.le_trans h.size h9)
  rcases List.mem_append.1 he with he | he
  ·rcases List.mem_or_eq_of_mem_set he with he | rfl
   ·exact h.mine e he b hb
   ·exact hmine _ (List.mem_cons_self ..) hb
  ·exact hmine e (List.mem_cons_of_mem _ he) hb
theorem Post.set (h:Post Z L w0 w) (hi:L[i]?=some c) (h2:Kv (fun b=>b∈c.own) (fun b=>b∈c.ro) (c'::N) w w'):Post Z (L.set i c'++N) w0 w':=h.setY hi (fun _ hb=>.inl hb) h2
theorem Kv.weak {Y Y':Nat->Prop} (h:Kv Z Y L w0 w) (hY:∀ b,Y b->Y' b):Kv Z Y' L w0 w:=⟨h.toPost,fun c hc b hb=>(h.rest c hc b hb).imp (hY b) id⟩
theorem Post.setN (h:Post Z L w0 w) (hi:L[i]?=some c) (h2:Kv (fun b=>b∈c.own) No (c'::N) w w'):Post Z (L.set i c'++N) w0 w':=h.set hi (h2.weak fun _ h=>h.elim)
theorem Post.setR {k:Nat} {e:Ck} (h:Post Z L w0 w) (hi:L[i]?=some c) (hk:L[k]?=some e) (ho:e.own=[]) (h2:Kv (fun b=>b∈c.own) (fun b=>b∈e.ro) (c'::N) w w'):Post Z (L.set i c'++N) w0 w':=
 h.setY hi (fun _ hb=>.inr ⟨k,e,hk,ho,hb⟩) h2
/-! ### Cells -/
def ae (b:Nat) (c:Array Value) (T:TypeId):Ck:=⟨[b],[],fun w=>w.heap[b]?=some (.cells c T (0,0)),fun _ _ h _ hw=>(h b (.inl (List.mem_cons_self ..))).trans hw⟩
theorem Post.cell {b:Nat} {a:Array Value} {T:TypeId} (h:Post Z L w0 w) (hi:L[i]?=some (ae b a T)):w.heap[b]?=some (.cells a T (0,0)):=h.sep.get hi
theorem xA {b:Nat} {a:Array Value} {T:TypeId} {Y:Nat->Prop} {q:Nat}:∀ c,c∈[ae b a T]->∀ b,b∈c.ro->Y b\/q<=b:=fun c hc b hb=>by
 rcases List.mem_singleton.1 hc with rfl
 cases hb
theorem rv {b:Nat} {a:Array Value} {T:TypeId} (h:w.heap[b]?=some (.cells a T (0,0))):JY [ae b a T] w:=
 ⟨h,(fun b' hb=>by rcases hb with hb | hb; (rcases List.mem_singleton.1 hb with rfl; exact q8 h); (cases hb)),(fun _ h=>by cases h),trivial⟩
theorem Post.new {b:Nat} {a:Array Value} {T:TypeId} (h:Post Z L w0 w) (hn:New w w' b (.cells a T (0,0))):Post Z (L++[ae b a T]) w0 w':=
 h.add ⟨⟨rv hn.at_,Jd.of_below hn.below,fun c hc b' hb=>by rcases List.mem_singleton.1 hc with rfl; rcases List.mem_singleton.1 hb with rfl; exact .inr (Nat.le_of_eq hn.eq.symm)⟩,xA⟩
theorem Post.upd {b:Nat} {a a':Array Value} {T T':TypeId} (h:Post Z L w0 w) (hi:L[i]?=some (ae b a T)) (hu:Upd w w' b (.cells a' T' (0,0))):Post Z (L.set i (ae b a' T')) w0 w':=by
 have:=h.set (N:=[]) hi (c':=ae b a' T') ⟨⟨rv hu.at_,⟨hu.os,hu.tape,hu.output,Nat.le_of_eq hu.size.symm,fun k _ hk=>hu.other k fun e=>hk (e ▸ List.mem_singleton.2 rfl)⟩,fun c hc b' hb=>by rcases List.mem_singleton.1 hc with rfl; exact .inl hb⟩,xA⟩
 rwa [List.append_nil] at this
def distinctN:List Nat->Bool
 | []=>true
 | i::l=>(l.all fun j=>!(i==j))&&distinctN l
theorem JY.pick (h:JY L w):∀ (is:List Nat) (N:List Ck),distinctN is=true->is.map (fun i=>L[i]?)=N.map some->JY N w
 | [],[],_,_=>trivial
 | [],_::_,_,h=>by simp at h
 | _::_,[],_,h=>by simp at h
 | i::is,c::N,hd,hm=>by
  simp only [List.map_cons,List.cons.injEq] at hm
  simp only [distinctN,Bool.and_eq_true] at hd
  refine ⟨h.get hm.1,fun b hb=>h.lt hm.1 hb,fun d hdm=>?_,JY.pick h is N hd.2 hm.2⟩
  obtain ⟨j,hj⟩:=List.mem_iff_getElem?.1 hdm;have h2:(is.map fun i=>L[i]?)[j]?=(N.map some)[j]?:=by rw [hm.2]
  rw [List.getElem?_map,List.getElem?_map,hj] at h2
  cases hk:is[j]? with
  | none=>rw [hk] at h2; simp at h2
  | some k=>
   rw [hk] at h2
   simp only [Option.map_some,Option.some.injEq] at h2
   have hn:=List.all_eq_true.1 hd.1 k (List.mem_of_getElem? hk);exact h.clear hm.1 h2 (by simpa using hn)
theorem JY.pk (h:JY L w) (is:List Nat) (hd:distinctN is=true) (hm:is.map (fun i=>L[i]?)=N.map some):JY N w:=h.pick is N hd hm
theorem Post.pick (h:Post Z L w0 w) (is:List Nat) (hd:distinctN is=true) (hm:is.map (fun i=>L[i]?)=N.map some):Post Z N w0 w:=by
 refine ⟨h.sep.pick is N hd hm,h.KE,fun c hc b hb=>?_⟩
 obtain ⟨j,hj⟩:=List.mem_iff_getElem?.1 hc;have h2:(is.map fun i=>L[i]?)[j]?=(N.map some)[j]?:=by rw [hm]
 rw [List.getElem?_map,List.getElem?_map,hj] at h2
 cases hk:is[j]? with
 | none=>rw [hk] at h2; simp at h2
 | some k=>
  rw [hk] at h2
  simp only [Option.map_some,Option.some.injEq] at h2
  exact h.mine c (List.mem_of_getElem? h2) b hb
theorem cG {Y:Nat->Prop} {q:Nat}:∀ c,c∈([]:List Ck)->∀ b,b∈c.ro->Y b\/q<=b:=fun c hc=>by cases hc
theorem dg {Y:Nat->Prop} {q:Nat} (h:c.ro=[]) (ht:∀ c,c∈L->∀ b,b∈c.ro->Y b\/q<=b):∀ d,d∈c::L->∀ b,b∈d.ro->Y b\/q<=b:=fun d hd b hb=>by
 rcases List.mem_cons.1 hd with rfl | hd
 ·rw [h] at hb; cases hb
 ·exact ht d hd b hb
theorem bw {Y:Nat->Prop} {q:Nat} (h:∀ b,b∈c.ro->Y b\/q<=b) (ht:∀ c,c∈L->∀ b,b∈c.ro->Y b\/q<=b):∀ d,d∈c::L->∀ b,b∈d.ro->Y b\/q<=b:=fun d hd b hb=>by
 rcases List.mem_cons.1 hd with rfl | hd
 ·exact h b hb
 ·exact ht d hd b hb
theorem Post.nil (w:World):Post No [] w w:=.start trivial fun _ h=>by cases h
theorem bg:∀ d,d∈([]:List Ck)->d.own=[]:=fun _ h=>by cases h
theorem aB (h:c.own=[]) (ht:∀ d,d∈L->d.own=[]):∀ d,d∈c::L->d.own=[]:=fun d hd=>by
 rcases List.mem_cons.1 hd with rfl | hd
 ·exact h
 ·exact ht d hd
theorem Post.addRo (h:Post Z L w0 w) (hn:∀ d,d∈L->d.own=[]) (hc:c.ok w) (ho:c.own=[]) (hl:∀ b,b∈c.ro->b<w.heap.size):Post Z (L++[c]) w0 w:=by
 refine ⟨h.sep.append ⟨hc,fun b hb=>hb.elim (fun h=>by rw [ho] at h; cases h) (hl b),(fun _ h=>by cases h),trivial⟩ fun d hd e he=>?_,h.KE,fun d hd b hb=>?_⟩
 ·rcases List.mem_singleton.1 he with rfl
  exact ⟨(fun b hb=>by rw [hn d hd] at hb; cases hb),(fun b hb=>by rw [ho] at hb; cases hb)⟩
 ·rcases List.mem_append.1 hd with hd | hd
  ·exact h.mine d hd b hb
  ·rcases List.mem_singleton.1 hd with rfl
   rw [ho] at hb; cases hb
end
/-! ### What a region makes -/
section
variable {L N : List Ck} {c c' : Ck} {w w' w0 : World} {i : Nat} {Z : Nat -> Prop}
def cy (N:List Ck) (lo hi:Nat) (w:World):Prop:=JY N w/\∀ c,c∈N->∀ b,c.has b->lo<=b/\b<hi
def FreshL (B:Nat) (w:World):List (List Ck × Nat × Nat)->Prop
 | []=>True
 | q::l=>cy q.1 q.2.1 q.2.2 w/\B<=q.2.1/\(∀ p,p∈l->q.2.2<=p.2.1\/p.2.2<=q.2.1)/\FreshL B w l
theorem FreshL.at_ {B:Nat}:∀ {l:List (List Ck × Nat × Nat)},FreshL B w l->∀ q,q∈l->cy q.1 q.2.1 q.2.2 w/\B<=q.2.1
 | [],_,_,h=>by cases h
 | p::l,h,q,hq=>by
  rcases List.mem_cons.1 hq with rfl | hq
  ·exact ⟨h.1,h.2.1⟩
  ·exact FreshL.at_ h.2.2.2 q hq
theorem FreshL.sep {B:Nat}:∀ {l:List (List Ck × Nat × Nat)},FreshL B w l->JY (l.flatMap fun q=>q.1) w
 | [],_=>trivial
 | q::l,h=>by
  refine (h.1.1).append (FreshL.sep h.2.2.2) fun c hc d hd=>?_;obtain ⟨p,hp,hdp⟩:=List.mem_flatMap.1 hd
  have h1:=h.1.2 c hc;have h2:=(FreshL.at_ h.2.2.2 p hp).1.2 d hdp;have h3:=h.2.2.1 p hp;exact ⟨fun b hb hb'=>by have:=h1 b (.inl hb); have:=h2 b hb'; omega,fun b hb hb'=>by have:=h2 b (.inl hb); have:=h1 b hb'; omega⟩
theorem FreshL.done {l:List (List Ck × Nat × Nat)} (hb:Below w.heap.size w w') (h:FreshL w.heap.size w' l):Kv No No (l.flatMap fun q=>q.1) w w':=by
 have hn:∀ c,c∈(l.flatMap fun q=>q.1)->∀ b,c.has b->w.heap.size<=b:=fun c hc b hb=>by
  obtain ⟨p,hp,hdp⟩:=List.mem_flatMap.1 hc;have h2:=h.at_ p hp;have:=h2.1.2 c hdp b hb;omega
 exact ⟨⟨h.sep,Jd.of_below hb,fun c hc b hb=>.inr (hn c hc b (.inl hb))⟩,fun c hc b hb=>.inr (hn c hc b (.inr hb))⟩
theorem Post.addL {l:List (List Ck × Nat × Nat)} (h:Post Z L w0 w) (hb:Below w.heap.size w w') (hf:FreshL w.heap.size w' l):Post Z (L++l.flatMap fun q=>q.1) w0 w':=h.add (hf.done hb)
theorem da {lo hi:Nat}:∀ p,p∈([]:List (List Ck × Nat × Nat))->hi<=p.2.1\/p.2.2<=lo:=fun _ h=>by cases h
theorem fD {lo hi:Nat} {q:List Ck × Nat × Nat} {l:List (List Ck × Nat × Nat)} (h:hi<=q.2.1\/q.2.2<=lo) (ht:∀ p,p∈l->hi<=p.2.1\/p.2.2<=lo):∀ p,p∈q::l->hi<=p.2.1\/p.2.2<=lo:=fun p hp=>by
 rcases List.mem_cons.1 hp with rfl | hp
 ·exact h
 ·exact ht p hp
theorem cy.cell {b hi:Nat} {a:Array Value} {T:TypeId} (hl:b<hi) (h:w.heap[b]?=some (.cells a T (0,0))):cy [ae b a T] b hi w:=
 ⟨rv h,fun c hc b' hb=>by
  rcases List.mem_singleton.1 hc with rfl
  rcases hb with hb | hb
  ·rcases List.mem_singleton.1 hb with rfl; omega
  ·cases hb⟩
def MkP {G:Type} (val:G->Value) (N:G->List Ck):Value->Nat->Nat->World->Prop:=fun v lo hi w=>∃ y,v=val y/\cy (N y) lo hi w
theorem MkP.st {G:Type} (val:G->Value) (N:G->List Ck) {B:Nat} {S:Nat->Prop}:∀ v lo hi w1 w2,MkP val N v lo hi w1->Kept B S lo hi w1 w2->MkP val N v lo hi w2:=by
 rintro v lo hi w1 w2 ⟨y,hv,hs,hb⟩ ⟨_,_,_,hz,hk⟩;exact ⟨y,hv,hs.keep hz fun c hc b hcb=>hk b (.inr (hb c hc b hcb)),hb⟩
theorem MkP.of {G:Type} {val:G->Value} {N:G->List Ck} (y:G) (h:Kv No No (N y) w w'):MkP val N (val y) w.heap.size w'.heap.size w':=
 ⟨y,rfl,h.sep,fun c hc b hb=>⟨hb.elim (fun h'=>(h.mine c hc b h').resolve_left fun h=>h) (fun h'=>(h.rest c hc b h').resolve_left fun h=>h),(h.sep.ok c hc).2 b hb⟩⟩
end
/-! ### A region with one operation that changes a chunk -/
section
theorem Upd.kept {w w':World} {b:Nat} {o:Obj} (h:Upd w w' b o):Kept w.heap.size (fun k=>k∈[b]) 0 0 w w':=
 ⟨h.os,h.tape,h.output,Nat.le_of_eq h.size.symm,fun k hk=>h.other k (by rcases hk with hk | hk; (exact fun e=>hk.2 (List.mem_singleton.2 e)); omega)⟩
theorem lQ {lo hi:Nat} {w:World}:cy [] lo hi w:=⟨trivial,fun _ h=>by cases h⟩
variable {L : List Ck} {c c' d : Ck} {w w' w0 : World} {i j : Nat} {Z : Nat -> Prop}
theorem drK {S:Nat->Prop} {n:Nat} (h:Jd S { w with drawn:=n } w'):Jd S w w':=⟨h.os,h.tape,h.output,h.size,h.block⟩
theorem Post.okK (h:Post Z L w0 w) (hj:L[j]?=some c) (hk:Jd (fun b=>b∈c.own) w w') (hi:L[i]?=some d) (hne:(j==i)=false):d.ok w':=by
 have hcl:=h.sep.clear hj hi (by simpa using hne)
 exact d.st w w' (fun b hb=>hk.block b (h.sep.lt hi hb) fun hc=>hcl.1 b hc hb) hk.size (h.sep.get hi)
theorem Post.cellK {b:Nat} {a:Array Value} {T:TypeId} (h:Post Z L w0 w) (hj:L[j]?=some c) (hk:Jd (fun b=>b∈c.own) w w') (hi:L[i]?=some (ae b a T)) (hne:(j==i)=false):w'.heap[b]?=some (.cells a T (0,0)):=h.okK hj hk hi hne
theorem Post.effL {l:List (List Ck × Nat × Nat)} (h:Post Z L w0 w) (hi:L[i]?=some c) (hk:Jd (fun b=>b∈c.own) w w') (hc:c'.ok w') (ho:c'.own=c.own) (hr:c'.ro=c.ro) (hf:FreshL w.heap.size w' l) :
  Post Z (L.set i c'++l.flatMap fun q=>q.1) w0 w':=by
 have hn:∀ d,d∈(l.flatMap fun q=>q.1)->∀ b,d.has b->w.heap.size<=b:=fun d hd b hb=>by
  obtain ⟨p,hp,hdp⟩:=List.mem_flatMap.1 hd;have h2:=hf.at_ p hp;have:=h2.1.2 d hdp b hb;omega
 have hlt:∀ b,c'.has b->b<w.heap.size:=fun b hb=>h.sep.lt hi (by rcases hb with hb | hb; exact .inl (ho ▸ hb); exact .inr (hr ▸ hb))
 refine h.set hi ⟨⟨⟨hc,fun b hb=>q9 (hlt b hb) hk.size,fun d hd=>⟨fun b hb hb'=>?_,fun b hb hb'=>?_⟩,hf.sep⟩,hk,fun d hd b hb=>?_⟩,fun d hd b hb=>?_⟩
 ·have:=hlt b (.inl hb); have:=hn d hd b hb'; omega
 ·have:=hlt b hb'; have:=hn d hd b (.inl hb); omega
 ·rcases List.mem_cons.1 hd with rfl | hd
  ·exact .inl (ho ▸ hb)
  ·exact .inr (hn d hd b (.inl hb))
 ·rcases List.mem_cons.1 hd with rfl | hd
  ·exact .inl (hr ▸ hb)
  ·exact .inr (hn d hd b (.inr hb))
def KN {G:Type} (B:Nat) (c':Ck) (val:G->Value) (N:G->List Ck):Value->Nat->Nat->World->Prop:=fun v lo hi w=>∃ y,v=val y/\c'.ok w/\(∀ b,c'.has b->b<B)/\cy (N y) lo hi w
theorem KN.st {G:Type} (B:Nat) (c':Ck) (val:G->Value) (N:G->List Ck):∀ v lo hi w1 w2,KN B c' val N v lo hi w1->Kept B (fun _=>False) lo hi w1 w2->KN B c' val N v lo hi w2:=by
 rintro v lo hi w1 w2 ⟨y,hv,hc,hb,hs,hn⟩ ⟨_,_,_,hz,hk⟩;exact ⟨y,hv,c'.st _ _ (fun b h=>hk b (.inl ⟨hb b h,fun h=>h⟩)) hz hc,hb,hs.keep hz fun c hc b hcb=>hk b (.inr (hn c hc b hcb)),hn⟩
theorem KN.val {B:Nat} {v0:Value} {N:Unit->List Ck} {v:Value} {lo hi:Nat} {w:World} (h:KN B c' (fun _:Unit=>v0) N v lo hi w):v=v0:=h.choose_spec.1
theorem KN.of {G:Type} {B:Nat} {val:G->Value} {N:G->List Ck} (y:G) (h:Kv (fun b=>b∈c.own) No (c'::N y) w w') (ho:c'.own=c.own) (hlt:∀ b,c'.has b->b<B) :
  KN B c' val N (val y) w.heap.size w'.heap.size w':=by
 refine ⟨y,rfl,h.sep.1,hlt,h.sep.2.2.2,fun d hd b hb=>⟨?_,(h.sep.2.2.2.ok d hd).2 b hb⟩⟩
 have hcl:=h.sep.2.2.1 d hd
 rcases hb with hb | hb
 ·rcases h.mine d (List.mem_cons_of_mem _ hd) b hb with h1 | h1
  ·exact absurd (.inl (ho ▸ h1)) (hcl.2 b hb)
  ·exact h1
 ·exact (h.rest d (List.mem_cons_of_mem _ hd) b hb).resolve_left fun h=>h
end
section
variable {P : Program} {Q : Exit -> Act -> World -> Prop} {L : List Oper} {a : Act} {w : World} {N : Nat} {s : SL} {bs : List Nat}
theorem cI {fs:Nat->IX w.heap.size (fun b=>b∈bs)} {o:Oper} {l:List Oper} {i:Nat} (r:Fr a N s) (hd:(o.guard.isNone&&dstsIn N L)=true) (he:early L (fun i=>(fs i).sh) i=true)
  (h:∀ a' g w',Below w.heap.size w w'->(∀ j,bQ o j=true->(fs j).ok g j w'/\w.heap.size<=(g j).lo/\(g j).hi<=w'.heap.size/\∀ q,bQ o q=true->q≠j->(g j).hi<=(g q).lo\/(g q).hi<=(g j).lo)->Fr a' N (Kt L (fun j=>(g j).v) 0 s)->
   Yields P o a' w' fun v w''=>(fs i).mk g v w' w'') (h2:cn P L fs a w l (i+1)):cn P L fs a w (o::l) i:=by
 simp only [Bool.and_eq_true] at hd
 exact ⟨fun g w' _ h1 h3 h4 h5 h6 h7=>.plain hd.1 (h _ g w' ⟨h1,h3,h4,h5,fun b hb=>h6 b hb (.inr he)⟩ h7 (r.JK L _ 0 hd.2)),h2⟩
theorem aW {fs:Nat->IX w.heap.size (fun b=>b∈bs)} {o:Oper} {l:List Oper} {i:Nat} (r:Fr a N s) (hd:(o.guard.isNone&&dstsIn N L)=true)
  (h:∀ a' g w',Jd (fun b=>b∈bs) w w'->(∀ j,bQ o j=true->(fs j).ok g j w'/\w.heap.size<=(g j).lo/\(g j).hi<=w'.heap.size/\∀ q,bQ o q=true->q≠j->(g j).hi<=(g q).lo\/(g q).hi<=(g j).lo)->Fr a' N (Kt L (fun j=>(g j).v) 0 s)->
   Yields P o a' w' fun v w''=>(fs i).mk g v w' w'') (h2:cn P L fs a w l (i+1)):cn P L fs a w (o::l) i:=by
 simp only [Bool.and_eq_true] at hd
 exact ⟨fun g w' _ h1 h3 h4 h5 h6 h7=>.plain hd.1 (h _ g w' ⟨h1,h3,h4,h5,fun b hb hn=>h6 b hb (.inl hn)⟩ h7 (r.JK L _ 0 hd.2)),h2⟩
theorem jQ {id:Nat} (bs:List Nat) (fl:List (IX w.heap.size (fun b=>b∈bs))) (hm:P.follows .mixedOrders=true) (r:Fr a N s) (hS:∀ b,b∈bs->b<w.heap.size) (hs:(freely L (fun i=>(fact fl i).sh)&&dstsIn N L&&okW L fl)=true)
  (he:cn P L (fact fl) a { w with drawn:=w.drawn+1 } L 0)
  (hl:∀ a' g w',Jd (fun b=>b∈bs) w w'->(∀ i,Nat.ble (i+1) L.length=true->(fact fl i).ok g i w'/\w.heap.size<=(g i).lo/\(g i).lo<=(g i).hi/\(g i).hi<=w'.heap.size)->
   (∀ i j,(!(i==j)&&Nat.ble (i+1) L.length&&Nat.ble (j+1) L.length)=true->(g i).hi<=(g j).lo\/(g j).hi<=(g i).lo)->Fr a' N (Kt L (fun j=>(g j).v) 0 s)->Q .normal a' w') :
  (Code.region id L.toArray true).wp P Q a w:=by
 simp only [Bool.and_eq_true] at hs
 refine wB (fact fl) (p5 hs.2) hm rfl hS hs.1.1 (oY hs.2) he fun g w' h1 h2 h3 h4 h5 h6 h7=>hl _ g w' ⟨h1,h2,h3,h4,fun b hb hn=>h5 b hb hn⟩ (fun i hi=>h6 i (Nat.le_of_ble_eq_true hi)) (fun i j hij=>?_) (r.JK L _ 0 hs.1.2)
 simp only [Bool.and_eq_true,Bool.not_eq_true',beq_eq_false_iff_ne] at hij
 exact h7 i j hij.1.1 (Nat.le_of_ble_eq_true hij.1.2) (Nat.le_of_ble_eq_true hij.2)
end
/-! ### Loops and joins with things that aren't told -/
section
variable {P : Program} {Q : Exit -> Act -> World -> Prop} {c : Code} {a : Act} {w : World} {N : Nat} {s : SL} {X Y Z G : Type}
def RoundPostG (Q:Exit->Act->World->Prop) (id N:Nat) (S:X->G->List (Nat × Value)) (I:X->G->World->Prop) (z:Z) (y:Lp X Z):Exit->Act->World->Prop
 | .normal,a,w=>∃ x' γ' s',y=.next x'/\Fr a N s'/\(∀ q,q∈S x' γ'->look s' q.1=q.2)/\I x' γ' w
 | .exit id',a,w=>id'=id/\∃ x' γ' s',y=.brk x'/\Fr a N s'/\(∀ q,q∈S x' γ'->look s' q.1=q.2)/\I x' γ' w
 | .ret,a,w=>∃ z',y=.ret z'/\(z'=z->Q .ret a w)
 | _,_,_=>False
theorem dV {id:Nat} {body:X->Option (Lp X Z)} {f:X->Option Z} {z:Z} {k:Nat} {x0:X} (S:X->G->List (Nat × Value)) (I:X->G->World->Prop) (γ0:G) (r:Fr a N s) (hs:∀ q,q∈S x0 γ0->look s q.1=q.2) (h0:I x0 γ0 w)
  (hD:loopThen body k x0 f=some z)
  (round:∀ x γ a w g y (RP:Exit->Act->World->Prop),
   (∀ x' γ' s' a' w',some (Lp.next x')=some y->Fr a' N s'->(∀ q,q∈S x' γ'->look s' q.1=q.2)->I x' γ' w'->RP .normal a' w')->
   (∀ x' γ' s' a' w',some (Lp.brk x')=some y->Fr a' N s'->(∀ q,q∈S x' γ'->look s' q.1=q.2)->I x' γ' w'->RP (.exit id) a' w')->
   (∀ z' a' w',some (Lp.ret z')=some y->(some z'=some z->Q .ret a' w')->RP .ret a' w')->
   Fr a N (pushes (S x γ) (.base g))->I x γ w->body x=some y->c.wp P RP a w)
  (rest:∀ x γ a w g,Fr a N (pushes (S x γ) (.base g))->I x γ w->f x=some z->Q .normal a w):(Code.block id (.loop c)).wp P Q a w:=by
 obtain ⟨q,hL,hq⟩:=aG hD;refine wp_block ?_;refine rq (X:=(X × G) × Nat) (fun x=>S x.1.1 x.1.2) (fun x w=>I x.1.1 x.1.2 w/\runLoop body x.2 x.1.1=some q) (fun x=>x.2) ((x0,γ0),k) r hs ⟨h0,hL⟩ ?_;rintro ⟨⟨x,γ⟩,m⟩ a w g hr ⟨hi,hm⟩
 cases m with
 | zero=>cases hm
 | succ m=>
  obtain ⟨y,hy,hgo⟩:=aG hm;refine Code.wp_mono ?_ (round x γ a w g y (RoundPostG Q id N S I z y) (fun x' γ' s' a' w' h r hs hi=>⟨x',γ',s',(Option.some.inj h).symm,r,hs,hi⟩) (fun x' γ' s' a' w' h r hs hi=>⟨rfl,x',γ',s',(Option.some.inj h).symm,r,hs,hi⟩)
   (fun z' a' w' h hq=>⟨z',(Option.some.inj h).symm,fun h=>hq (congrArg some h)⟩) hr hi hy)
  intro e a' w' h;cases e with
  | normal=>
   obtain ⟨x',γ',s',rfl,h2,h3,h4⟩:=h;exact ⟨((x',γ'),m),s',h2,h3,⟨h4,hgo⟩,Nat.lt_succ_self m⟩
  | exit id'=>
   obtain ⟨rfl,x',γ',s',rfl,h2,h3,h4⟩:=h;have hqe:q=.brk x':=(Option.some.inj hgo).symm;subst hqe;show Exit.inBlock id' Q (.exit id') a' w'
   simp only [Exit.inBlock,if_true]
   exact rest x' γ' a' w' _ (h2.forget _ h3) h4 hq
  | ret=>
   obtain ⟨z',rfl,h2⟩:=h;have hqe:q=.ret z':=(Option.some.inj hgo).symm;subst hqe;exact h2 (Option.some.inj hq)
  | _=>exact h.elim
theorem cR {f:Y->Option Z} {t:Option Y} {z:Z} (S:Y->G->List (Nat × Value)) (I:Y->G->World->Prop) (hD:t.bind f=some z)
  (body:∀ y (RP:Exit->Act->World->Prop),(∀ y' γ s' a' w',some y'=some y->Fr a' N s'->(∀ q,q∈S y' γ->look s' q.1=q.2)->I y' γ w'->RP .normal a' w')->t=some y->c.wp P RP a w)
  (rest:∀ y γ a w g,Fr a N (pushes (S y γ) (.base g))->I y γ w->f y=some z->Q .normal a w):c.wp P Q a w:=by
 obtain ⟨y,hy,hf⟩:=aG hD;refine Code.wp_mono ?_ (body y (fun e a' w'=>e=.normal/\∃ γ s',Fr a' N s'/\(∀ q,q∈S y γ->look s' q.1=q.2)/\I y γ w') (fun y' γ s' a' w' h r hs hi=>by
  obtain rfl:y'=y:=Option.some.inj h;exact ⟨rfl,γ,s',r,hs,hi⟩) hy)
 rintro e a' w' ⟨rfl,γ,s',h2,h3,h4⟩;exact rest y γ a' w' _ (h2.forget _ h3) h4 hf
end
theorem Post.z8 {Z:Nat->Prop} {L:List Ck} {w0 w w':World} {d:Nat} (h:Post Z L w0 w) (hb:Below w.heap.size {w with drawn:=d} w'):Post Z L w0 w':=h.below (dr hb)
end Go.Proofs.YtbbipmelhmgmfaaGreat

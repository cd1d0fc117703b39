/- Some of our texts, one behind the other. -/
import Derived.Test.YtbbipmelhmgmfaaGreatTcM20
import Derived.Test.YtbbipmelhmgmfaaGreatTcM21
import Derived.WalkKit
import Derived.ProofKit
import Derived.OpenShut
import Derived.ShutString
import Derived.ChangeOld
import Derived.Below
import Derived.Carry
import Derived.SizedLaws
import Derived.Deep.Slices
import Derived.Deep.Fields
import Derived.ChangeSame
import Derived.Test.YtbbipmelhmgmfaaGreatRows
set_option linter.all false
set_option maxRecDepth 100000
set_option maxHeartbeats 20000000
/- Ours. -/
namespace Go.Proofs.YtbbipmelhmgmfaaGreat
open Go.RowKit
theorem cl92:callable Tryz.prog 92:=by kernel_rfl
def D.cubicleref16_Cell (a0:Plan) (a1:Int) (a2:Int):Int:=(bif (!(D.cubicleref06_Formed a0)) then (-1) else (bif (decide (a1<0)) then (-1) else (bif (decide (a1≥a0.domains)) then (-1) else (IntKind.i64.wrap ((IntKind.i64.wrap (2+(IntKind.i64.wrap (a1 * (IntKind.i64.wrap (1+(D.cubicleref06_Cells a0)))))))+(IntKind.i64.wrap (a2.tmod (IntKind.u64.wrap a0.buckets))))))))
theorem c_cubicleref16_Cell (w0:World) 
    (a0:Plan) (a1:Int) (a2:Int) :
    Calls Tryz.prog 45 #[.agg (planC a0).toArray,.int .i64 a1,.int .u64 a2] w0 (PureRes (.int .i64 (D.cubicleref16_Cell a0 a1 a2)) w0):=by
 refine kN Tryz.func45 rfl 33 rfl rfl fun fr r hB=>?_;refine wsr ?_
 refine kX 23 (.agg (planC a0).toArray) r rfl rfl fun b1 w2 n3 r=>?_;obtain ⟨E1,Z2,H1,hB,zB⟩:=n3.all hB
 refine kA (I 0) r rfl rfl fun r=>wn (wp_seq (wsr (kG (planC a0) 6 r rfl H1 ta23 rfl rfl fun r=>?_)));refine kE r (c_cubicleref06_Formed w2 a0) rfl cl58 rfl fun w4 hb r=>?_
 have Z4:=hb.size;have H1:=keep hb H1;obtain ⟨hB,zB⟩:=bon hb hB;refine seq_val (.bool (!(D.cubicleref06_Formed a0))) r (fun R=>y_un r (u:=(.bool (D.cubicleref06_Formed a0))) rfl rfl) rfl fun fr r=>kM (.bool (!(D.cubicleref06_Formed a0))) r rfl rfl fun r=>?_;refine seq_split (!(D.cubicleref06_Formed a0)) (fun h5=>?_) (fun h5=>?_)
 ·
  refine s0 r h5 fun fr r=>s0 r h5 fun fr r=>seq_val (.bool true) r (fun R=>y_pick r (b:=true) (kb h5) rfl) rfl fun fr r=>kM (.bool true) r rfl rfl fun r=>s0 r (rfl:true=_) fun fr r=>s0 r (rfl:true=_) fun fr r=>s0 r (rfl:true=_) fun fr r=>s0 r (rfl:true=_) fun fr r=>seq_val (.bool true) r (fun R=>y_pick r (b:=true) (kb (rfl:true=_)) rfl) rfl fun fr r=>wn ?_;refine wp_cond_split (t:=true) (r.ev rfl) (fun _=>?_) (fun h=>absurd ((rfl:true=_).symm.trans h) (by decide))
  refine wsr (kA (I (-1)) r rfl rfl fun r=>wn (wp_ret ?_));have hd:D.cubicleref16_Cell a0 a1 a2=(-1):=(cond_t h5).trans (rfl)
  refine ret_tmp r rfl rfl ?_;rw [hd];exact ⟨rfl,hB⟩
 refine s1 r h5 (kM (I a1) r rfl rfl fun r=>s1 r h5 (kB r rfl rfl rfl rfl rfl fun r=>seq_val (.bool (decide (a1<0))) r (fun R=>y_pick r (b:=false) (kb h5) rfl) rfl fun fr r=>kM (.bool (decide (a1<0))) r rfl rfl fun r=>?_));refine seq_split (decide (a1<0)) (fun h6=>?_) (fun h6=>?_)
 ·
  refine s0 r h6 fun fr r=>s0 r h6 fun fr r=>s0 r h6 fun fr r=>s0 r h6 fun fr r=>seq_val (.bool true) r (fun R=>y_pick r (b:=true) (kb h6) rfl) rfl fun fr r=>wn ?_;refine wp_cond_split (t:=true) (r.ev rfl) (fun _=>?_) (fun h=>absurd ((rfl:true=_).symm.trans h) (by decide))
  refine wsr (kA (I (-1)) r rfl rfl fun r=>wn (wp_ret ?_));have hd:D.cubicleref16_Cell a0 a1 a2=(-1):=(cond_f h5).trans ((cond_t h6).trans (rfl))
  refine ret_tmp r rfl rfl ?_;rw [hd];exact ⟨rfl,hB⟩
 refine s1 r h6 (kM (I a1) r rfl rfl fun r=>s1 r h6 (kF 0 r rfl fo23_3 rfl fun r=>s1 r h6 (kL (I a0.domains) r rfl H1 to3 rfl rfl fun r=>s1 r h6 (kB r rfl rfl rfl rfl rfl fun r=>seq_val (.bool (decide (a1≥a0.domains))) r (fun R=>y_pick r (b:=false) (kb h6) rfl) rfl fun fr r=>wn ?_))));refine wp_cond_split (t:=(decide (a1≥a0.domains))) (r.ev rfl) (fun h7=>?_) (fun h7=>?_)
 ·
  refine wsr (kA (I (-1)) r rfl rfl fun r=>wn (wp_ret ?_));have hd:D.cubicleref16_Cell a0 a1 a2=(-1):=(cond_f h5).trans ((cond_f h6).trans ((cond_t h7).trans (rfl)))
  refine ret_tmp r rfl rfl ?_;rw [hd];exact ⟨rfl,hB⟩
 refine wp_skip (wp_seq ?_);refine wp_drawnF 13 [.val (I a1),.val (.agg (planC a0).toArray),.val (I (D.cubicleref06_Cells a0)),.val (I (W (1+(D.cubicleref06_Cells a0)))),.val (I (W (a1 * (W (1+(D.cubicleref06_Cells a0)))))),.val (I (W (2+(W (a1 * (W (1+(D.cubicleref06_Cells a0)))))))),.val (U a2),.val (.pointer (some ⟨b1,4,none⟩)),.val (I a0.buckets),.val (U (V a0.buckets)),.val (U (a2.tmod (V a0.buckets))),.val (I (W (a2.tmod (V a0.buckets)))),.val (I (W ((W (2+(W (a1 * (W (1+(D.cubicleref06_Cells a0)))))))+(W (a2.tmod (V a0.buckets))))))] mixed r (by kernel_rfl) (kV (kV (kV (kV (kV (kV (kV (kV (kV (kV (kV (kV (kV within_nil))))))))))))) ?_ ?_
 ·
  refine ec r (fun _ u _ b d s=>y_move s rfl bz) (ec r (fun _ u _ b d s=>y_load_agg s (cs:=(planC a0)) (n:=6) rfl (keep b H1) ta23 rfl bz) (ec r (fun fr1 u w' hb' hd r'=>y_call r' (args:=[(.agg (planC a0).toArray)]) (lc hd.1 l0) cl92 ((c_cubicleref06_Cells _ a0).mono (by rintro _ w2 ⟨rfl,hb2⟩; exact ⟨_,rfl,hb2,rfl⟩))) (ec r (fun _ u _ b d s=>y_bin s rfl d.1 rfl rfl bz) (ec r (fun _ u _ b d s=>y_bin s d.1 d.2.1 rfl rfl bz) (ec r (fun _ u _ b d s=>y_bin s rfl d.1 rfl rfl bz) (ec r (fun _ u _ b d s=>y_move s rfl bz) (ec r (fun _ u _ b d s=>y_fieldAddr s (b:=b1) (o:=0) rfl fo23_4 bz) (ec r (fun _ u _ b d s=>y_load_one s d.1 (keep b H1) to3 rfl bz) (ec r (fun _ u _ b d s=>y_convert s (n:=a0.buckets) d.1 ti3 ti34 bz) (ec r (fun _ u _ b d s=>y_bin s d.1 d.2.1 rfl (bin_rem (by first | assumption | decide | (have hq:=ref_formed (by simpa using ‹(!D.cubicleref06_Formed _)=false›); have hq1:=hq.b1; have hq2:=hq.b2; unfold V; rw [wrapu_id (by omega) (by omega)]; omega))) bz) (ec r (fun _ u _ b d s=>y_convert s (n:=(a2.tmod (V a0.buckets))) d.1 ti34 ti3 bz) (ec r (fun _ u _ b d s=>y_bin s d.1 d.2.1 rfl rfl bz) ?_))))))))))));exact each_nil
 intro fr u w8 hb hΦ hne r;have r:=r.congr (sc (hΦ 12 (by decide)) (sc (hΦ 11 (by decide)) (sc (hΦ 10 (by decide)) (sc (hΦ 9 (by decide)) (sc (hΦ 8 (by decide)) (sc (hΦ 7 (by decide)) (sc (hΦ 6 (by decide)) (sc (hΦ 5 (by decide)) (sc (hΦ 4 (by decide)) (sc (hΦ 3 (by decide)) (sc (hΦ 2 (by decide)) (sc (hΦ 1 (by decide)) (sc (hΦ 0 (by decide)) rfl)))))))))))));have Z8:=hb.size;have H1:=keep hb H1;obtain ⟨hB,zB⟩:=bon hb hB;refine kA (I (W ((W (2+(W (a1 * (W (1+(D.cubicleref06_Cells a0)))))))+(W (a2.tmod (V a0.buckets)))))) r rfl rfl fun r=>wn (wp_ret ?_);have hd:D.cubicleref16_Cell a0 a1 a2=(W ((W (2+(W (a1 * (W (1+(D.cubicleref06_Cells a0)))))))+(W (a2.tmod (V a0.buckets))))):=(cond_f h5).trans ((cond_f h6).trans ((cond_f h7).trans (rfl)))
 refine ret_tmp r rfl rfl ?_;rw [hd];exact ⟨rfl,hB⟩
end Go.Proofs.YtbbipmelhmgmfaaGreat

/- Ours. -/
namespace Go.Proofs.YtbbipmelhmgmfaaGreat.Wk
open Go.RowKit
theorem cl43:callable Tryz.prog 43:=by kernel_rfl
theorem cl45:callable Tryz.prog 45:=by kernel_rfl
def D.cubiclelaw16_DictCells (fu:Nat) (a0:Plan) (a1:Int) (a2:Int):Option (Bool):=(Option.bind ((D.cubiclelaw16_awake fu ).bind (fun (x6:Bool)=>(bif x6 then (some ((D.dict_Cell a0 a1 a2)==(D.cubicleref16_Cell a0 a1 a2))) else (some false)))) (fun (x10:Bool)=>(some x10)))
theorem c_cubiclelaw16_DictCells {fu:Nat} (w0:World) (a0:Plan) (a1:Int) (a2:Int) {res:Bool} (hD:D.cubiclelaw16_DictCells fu a0 a1 a2=some res) :
    Calls Tryz.prog 6 #[.agg (planC a0).toArray,.int .i64 a1,.int .u64 a2] w0 (PureRes (.bool res) w0):=by
 refine enter Tryz.func6 rfl 19 rfl rfl fun fr r=>?_;have hP:Post No [] w0 w0:=Post.nil w0
 unfold D.cubiclelaw16_DictCells at hD
 refine wsr ?_;refine kX 23 (.agg (planC a0).toArray) r rfl rfl fun b1 w2 n3 r=>?_;have hP:Post No [cellC b1 ((planC a0)).toArray 23] w0 w2:=hP.new n3
 refine kA (.bool false) r rfl rfl fun r=>wn (wp_seq ?_);refine wp_joinG (N:=19) (Y:=Bool) (G:=Unit) (fun x γ=>[(0,(.agg (planC a0).toArray)),(1,(I a1)),(2,(U a2)),(3,(zp b1)),(6,(.bool x))]) (fun x γ w=>Post No [cellC b1 ((planC a0)).toArray 23] w0 w) hD ?_ ?_
 ·
  rintro y5 RPy5 nxy5 hD;obtain ⟨x6,hx6,hD⟩:=bindD_elim hD;refine seq_split x6 (fun h7=>?_) (fun h7=>?_)
  ·
   have hD:=(cond_t h7).symm.trans hD;refine wp_freeF [.val (.bool x6),.val (.bool x6),.val (.agg (planC a0).toArray),.val (I a1),.val (U a2),.val (I (D.dict_Cell a0 a1 a2)),.val (.agg (planC a0).toArray),.val (I a1),.val (U a2),.val (I (D.cubicleref16_Cell a0 a1 a2)),.val (.bool ((D.dict_Cell a0 a1 a2)==(D.cubicleref16_Cell a0 a1 a2))),.val (.bool ((D.dict_Cell a0 a1 a2)==(D.cubicleref16_Cell a0 a1 a2))),.val (.bool ((D.dict_Cell a0 a1 a2)==(D.cubicleref16_Cell a0 a1 a2)))] mixed r (by kernel_rfl) ?_ ?_
   ·
    refine fc r (fun fr1 g w' hb' hd r'=>y_call r' (args:=[]) (l0) cl43 ((c_cubiclelaw16_awake _ hx6).mono (by rintro _ w2 ⟨rfl,hb2⟩; exact ⟨_,rfl,hb2,rfl⟩))) ?_;refine fc r (fun fr1 g w' hb' hd r'=>y_move r' (hd 0 rfl).1 bz) ?_
    refine eachF_want true r rfl rfl rfl (fun g w' hd=>Eq.trans (show (g 1).v=.bool x6 from (hd 1 rfl).1) (kb h7)) (fun fr1 g w' hb' hd r'=>?_) ?_
    · exact y_load_agg r' (cs:=(planC a0)) (n:=6) rfl ((hP.below (dr hb')).cell (i:=0) rfl) ta23 rfl bz
    refine eachF_want true r rfl rfl rfl (fun g w' hd=>Eq.trans (show (g 1).v=.bool x6 from (hd 1 rfl).1) (kb h7)) (fun fr1 g w' hb' hd r'=>?_) ?_
    · exact y_move r' (v:=(I a1)) rfl bz
    refine eachF_want true r rfl rfl rfl (fun g w' hd=>Eq.trans (show (g 1).v=.bool x6 from (hd 1 rfl).1) (kb h7)) (fun fr1 g w' hb' hd r'=>?_) ?_
    · exact y_move r' (v:=(U a2)) rfl bz
    refine eachF_want true r rfl rfl rfl (fun g w' hd=>Eq.trans (show (g 1).v=.bool x6 from (hd 1 rfl).1) (kb h7)) (fun fr1 g w' hb' hd r'=>?_) ?_
    · exact y_call r' (args:=[(.agg (planC a0).toArray),(I a1),(U a2)]) (lc (hd 2 rfl).1 (lc (hd 3 rfl).1 (lc (hd 4 rfl).1 l0))) cl44 ((c_dict_Cell _ a0 a1 a2).mono (by rintro _ w2 ⟨rfl,hb2⟩; exact ⟨_,rfl,hb2,rfl⟩))
    refine eachF_want true r rfl rfl rfl (fun g w' hd=>Eq.trans (show (g 1).v=.bool x6 from (hd 1 rfl).1) (kb h7)) (fun fr1 g w' hb' hd r'=>?_) ?_
    · exact y_load_agg r' (cs:=(planC a0)) (n:=6) rfl ((hP.below (dr hb')).cell (i:=0) rfl) ta23 rfl bz
    refine eachF_want true r rfl rfl rfl (fun g w' hd=>Eq.trans (show (g 1).v=.bool x6 from (hd 1 rfl).1) (kb h7)) (fun fr1 g w' hb' hd r'=>?_) ?_
    · exact y_move r' (v:=(I a1)) rfl bz
    refine eachF_want true r rfl rfl rfl (fun g w' hd=>Eq.trans (show (g 1).v=.bool x6 from (hd 1 rfl).1) (kb h7)) (fun fr1 g w' hb' hd r'=>?_) ?_
    · exact y_move r' (v:=(U a2)) rfl bz
    refine eachF_want true r rfl rfl rfl (fun g w' hd=>Eq.trans (show (g 1).v=.bool x6 from (hd 1 rfl).1) (kb h7)) (fun fr1 g w' hb' hd r'=>?_) ?_
    · exact y_call r' (args:=[(.agg (planC a0).toArray),(I a1),(U a2)]) (lc (hd 6 rfl).1 (lc (hd 7 rfl).1 (lc (hd 8 rfl).1 l0))) cl45 ((c_cubicleref16_Cell _ a0 a1 a2).mono (by rintro _ w2 ⟨rfl,hb2⟩; exact ⟨_,rfl,hb2,rfl⟩))
    refine eachF_want true r rfl rfl rfl (fun g w' hd=>Eq.trans (show (g 1).v=.bool x6 from (hd 1 rfl).1) (kb h7)) (fun fr1 g w' hb' hd r'=>?_) ?_
    · exact y_bin r' (u:=(I (D.dict_Cell a0 a1 a2))) (u':=(I (D.cubicleref16_Cell a0 a1 a2))) (v:=(.bool ((D.dict_Cell a0 a1 a2)==(D.cubicleref16_Cell a0 a1 a2)))) (hd 5 rfl).1 (hd 9 rfl).1 rfl rfl bz
    refine fc r (fun fr1 g w' hb' hd r'=>y_pick r' (b:=true) (v:=(.bool ((D.dict_Cell a0 a1 a2)==(D.cubicleref16_Cell a0 a1 a2)))) (Eq.trans (show (g 1).v=.bool x6 from (hd 1 rfl).1) (kb h7)) (hd 10 rfl).1 bz) ?_;refine fc r (fun fr1 g w' hb' hd r'=>y_assign r' (hd 11 rfl).1 bz) ?_
    exact eachF_nil
   intro fr gg w8 hb hΦ hap r;have r:=r.congr (sc ((hΦ 12 rfl).1) (sc ((hΦ 11 rfl).1) (sc ((hΦ 10 rfl).1) (sc ((hΦ 9 rfl).1) (sc ((hΦ 8 rfl).1) (sc ((hΦ 7 rfl).1) (sc ((hΦ 6 rfl).1) (sc ((hΦ 5 rfl).1) (sc ((hΦ 4 rfl).1) (sc ((hΦ 3 rfl).1) (sc ((hΦ 2 rfl).1) (sc ((hΦ 1 rfl).1) (sc ((hΦ 0 rfl).1) rfl)))))))))))));have hP:=hP.below hb;exact nxy5 ((D.dict_Cell a0 a1 a2)==(D.cubicleref16_Cell a0 a1 a2)) () _ _ _ hD r (kO (hs_cons rfl hs_nil)) (hP.pick [0] rfl rfl)
  have hD:=(cond_f h7).symm.trans hD;refine wp_freeF [.val (.bool x6),.val (.bool x6),.val undef,.val undef,.val undef,.val undef,.val undef,.val undef,.val undef,.val undef,.val undef,.val (.bool false),.val (.bool false)] mixed r (by kernel_rfl) ?_ ?_
  ·
   refine fc r (fun fr1 g w' hb' hd r'=>y_call r' (args:=[]) (l0) cl43 ((c_cubiclelaw16_awake _ hx6).mono (by rintro _ w2 ⟨rfl,hb2⟩; exact ⟨_,rfl,hb2,rfl⟩))) ?_;refine fc r (fun fr1 g w' hb' hd r'=>y_move r' (hd 0 rfl).1 bz) ?_
   refine eachF_skip true (.bool false) r rfl rfl rfl (fun g w' hd=>Eq.trans (show (g 1).v=.bool x6 from (hd 1 rfl).1) (kb h7)) (by simp [boolOf]) (fun _ _=>bz) ?_;refine eachF_skip true (.bool false) r rfl rfl rfl (fun g w' hd=>Eq.trans (show (g 1).v=.bool x6 from (hd 1 rfl).1) (kb h7)) (by simp [boolOf]) (fun _ _=>bz) ?_
   refine eachF_skip true (.bool false) r rfl rfl rfl (fun g w' hd=>Eq.trans (show (g 1).v=.bool x6 from (hd 1 rfl).1) (kb h7)) (by simp [boolOf]) (fun _ _=>bz) ?_;refine eachF_skip true (.bool false) r rfl rfl rfl (fun g w' hd=>Eq.trans (show (g 1).v=.bool x6 from (hd 1 rfl).1) (kb h7)) (by simp [boolOf]) (fun _ _=>bz) ?_
   refine eachF_skip true (.bool false) r rfl rfl rfl (fun g w' hd=>Eq.trans (show (g 1).v=.bool x6 from (hd 1 rfl).1) (kb h7)) (by simp [boolOf]) (fun _ _=>bz) ?_;refine eachF_skip true (.bool false) r rfl rfl rfl (fun g w' hd=>Eq.trans (show (g 1).v=.bool x6 from (hd 1 rfl).1) (kb h7)) (by simp [boolOf]) (fun _ _=>bz) ?_
   refine eachF_skip true (.bool false) r rfl rfl rfl (fun g w' hd=>Eq.trans (show (g 1).v=.bool x6 from (hd 1 rfl).1) (kb h7)) (by simp [boolOf]) (fun _ _=>bz) ?_;refine eachF_skip true (.bool false) r rfl rfl rfl (fun g w' hd=>Eq.trans (show (g 1).v=.bool x6 from (hd 1 rfl).1) (kb h7)) (by simp [boolOf]) (fun _ _=>bz) ?_
   refine eachF_skip true (.bool false) r rfl rfl rfl (fun g w' hd=>Eq.trans (show (g 1).v=.bool x6 from (hd 1 rfl).1) (kb h7)) (by simp [boolOf]) (fun _ _=>bz) ?_;refine fc r (fun fr1 g w' hb' hd r'=>y_pick r' (b:=false) (v:=(.bool false)) (Eq.trans (show (g 1).v=.bool x6 from (hd 1 rfl).1) (kb h7)) rfl bz) ?_
   refine fc r (fun fr1 g w' hb' hd r'=>y_assign r' (hd 11 rfl).1 bz) ?_;exact eachF_nil
  intro fr gg w9 hb hΦ hap r;have r:=r.congr (sc ((hΦ 12 rfl).1) (sc ((hΦ 11 rfl).1) (sc ((hΦ 10 rfl).1) (sc ((hΦ 9 rfl).1) (sc ((hΦ 8 rfl).1) (sc ((hΦ 7 rfl).1) (sc ((hΦ 6 rfl).1) (sc ((hΦ 5 rfl).1) (sc ((hΦ 4 rfl).1) (sc ((hΦ 3 rfl).1) (sc ((hΦ 2 rfl).1) (sc ((hΦ 1 rfl).1) (sc ((hΦ 0 rfl).1) rfl)))))))))))));have hP:=hP.below hb;exact nxy5 false () _ _ _ hD r (kO (hs_cons rfl hs_nil)) (hP.pick [0] rfl rfl)
 rintro x10 γ11 fr w12 g r hP hD;have hP:Post No [cellC b1 ((planC a0)).toArray 23] w0 w12:=hP;refine wp_ret ?_;have hv:x10=res:=Option.some.inj hD
 try dsimp only [Exit.then,Exit.inBlock]
 refine ret_tmp (fn:=Tryz.f6) r (t:=6) rfl (v:=(.bool x10)) rfl ?_;subst hv;exact ⟨rfl,hP.chg.below⟩
end Go.Proofs.YtbbipmelhmgmfaaGreat.Wk

/- Ours. -/
namespace Go.Proofs.YtbbipmelhmgmfaaGreat
open Go.RowKit
section
variable {p : Plan} (hp : PF p)
include hp
theorem Cell_eq (d i:Int):D.plan_Plan_Cell p d i=if (0≤d∧d<p.domains)∧0≤i∧i<D.plan_Plan_cells p then 2+d * (1+D.plan_Plan_cells p)+i else -1:=by
  have hc:=cells_le hp;have d1:=hp.d1;have d2:=hp.d2;unfold D.plan_Plan_Cell D.plan_Plan_domain;refine place_if hp ?_ ?_
  · simp only [all_cons,all_nil,and_true]
    rw [wrap_id (x:=p.domains - 1) (by omega) (by omega),wrap_id (x:=D.plan_Plan_cells p - 1) (by omega) (by omega)]
    omega
  · intro hq
    have h2:=dc_le hp hq.1.1 hq.1.2;rw [wrap_id (x:=1+D.plan_Plan_cells p) (by omega) (by omega),wrap_id (x:=d * _) (by omega) (by omega),wrap_id (x:=2+d * _) (by omega) (by omega),wrap_id (by omega) (by omega)]
end
theorem awake16:D.cubiclelaw16_awake 200=some true:=by decide +kernel
theorem pure_DictCells (p:Plan) (d k:Int) (_:-9223372036854775808≤p.nodes∧p.nodes≤9223372036854775807) (_:-9223372036854775808≤p.threads∧p.threads≤9223372036854775807)
    (_:-9223372036854775808≤p.retire∧p.retire≤9223372036854775807) (_:-9223372036854775808≤p.domains∧p.domains≤9223372036854775807) (_:-9223372036854775808≤p.buckets∧p.buckets≤9223372036854775807)
    (_:-9223372036854775808≤p.gen∧p.gen≤9223372036854775807) (hd:-9223372036854775808≤d∧d≤9223372036854775807) (hk:0≤k∧k≤18446744073709551615):∃ fu,Wk.D.cubiclelaw16_DictCells fu p d k=some true:=by
  refine ⟨200,?_⟩;unfold Wk.D.cubiclelaw16_DictCells;rw [awake16];simp only [Option.bind_some,cond_true,Option.some.injEq,beq_iff_eq];unfold D.dict_Cell D.cubicleref16_Cell;cases hf:D.cubicleref06_Formed p
  · have h2:D.plan_Plan_Formed p=false:=by
      cases h3:D.plan_Plan_Formed p
      · rfl
      · have:=ref_formed_iff.2 (plan_formed.1 h3)
        rw [hf] at this; cases this
    rw [h2]
    rfl
  have hp:=ref_formed hf;rw [plan_formed.2 hp];simp only [Bool.not_true,cond_false];have b1:=hp.b1;have b2:=hp.b2;have c1:D.cubicleref06_Cells p=D.plan_Plan_cells p:=rfl;have c2:D.plan_Plan_cells p=if p.buckets > 2 then p.buckets else 2:=rfl
  have hc:2≤D.plan_Plan_cells p∧D.plan_Plan_cells p≤256∧p.buckets≤D.plan_Plan_cells p:=by rw [c2]; split <;> omega
  have hdm:=hp.d2;have hm:0≤k.tmod (IntKind.u64.wrap p.buckets)∧k.tmod (IntKind.u64.wrap p.buckets)<p.buckets:=by
    rw [wrapu_id (by omega) (by omega),Int.tmod_eq_emod_of_nonneg hk.1]
    exact ⟨Int.emod_nonneg _ (by omega),Int.emod_lt_of_pos _ (by omega)⟩
  generalize k.tmod (IntKind.u64.wrap p.buckets)=m at hm ⊢
  rw [wrap_small (x:=m) (by omega) (by omega),Cell_eq hp,c1]
  generalize D.plan_Plan_cells p=c at hc ⊢
  by_cases h0:d<0
  · rw [if_neg (by omega),show decide (d<0)=true from by simpa using h0]
    rfl
  rw [show decide (d<0)=false from by simpa using h0]
  by_cases h1:d≥p.domains
  · rw [if_neg (by omega),show decide (d≥p.domains)=true from by simpa using h1]
    rfl
  rw [show decide (d≥p.domains)=false from by simpa using h1,if_pos (by omega)]
  simp only [cond_false]
  obtain ⟨e,he⟩:∃ e,e=d * (1+c):=⟨_,rfl⟩;have he2:0≤e∧e≤64 * 257:=by
    rw [he]
    exact ⟨Int.mul_nonneg (by omega) (by omega),Int.mul_le_mul (by omega) (by omega) (by omega) (by omega)⟩
  rw [wrap_small (x:=1+c) (by omega) (by omega),←he,wrap_small (x:=e) (by omega) (by omega),wrap_small (x:=2+e) (by omega) (by omega),wrap_small (x:=2+e+m) (by omega) (by omega)]
end Go.Proofs.YtbbipmelhmgmfaaGreat

/- Ours. -/
namespace Go.Proofs.YtbbipmelhmgmfaaGreat
open Go.ChangeShapes Go.WideShapes Go.RowKit Go.Deep Go.ChangeAt
section
variable {H : Type} {enc : TypeId × Value → H} {P : Program} {w : World} {base : Nat} {spare : Nat → Bool} {held : Bool}
theorem one_of_drop {α:Type} {l:List α} {j:Nat} (h:j<l.length):(l.drop j).take 1=[l[j]]:=by
  rw [List.drop_eq_getElem_cons h]
  rfl
theorem open_structI {r:Reach} {b0:Nat} {t:TypeId} {fs:Array Go.Field} {v:Value} {d:DataW H} {p:List MemPlace} (ks:List IntKind) (hs:P.underlying t=some (.struct fs)) (hone:oneCellFields P fs=true)
    (hC:P.cellsOf t=fs.size) (hk:fs.toList.map (fun f=>P.underlying f.type)=ks.map fun k=>some (.int k))
    (hv:Value.okWide P w r b0 t v) (h:DataW.Trod enc P w base spare held t v d p) :
    ∃ ns:List Int,v=.agg (List.zipWith Value.int ks ns).toArray∧ns.length=ks.length∧∀ q,q∈List.zip ks ns→(Lit.int q.1 q.2).wf=true:=by
  obtain ⟨cs,rfl,hsz⟩:=okWide_struct hs hv;obtain ⟨fuel,hf⟩:=h;obtain ⟨xs,n,_,hx,hl,hlen,hfs⟩:=DataW.trod_struct hs hf;have hkl:ks.length=fs.size:=by
    have:=congrArg List.length hk;simpa using this.symm
  have hcl:cs.size=fs.size:=hsz.trans hC;have hat:∀ j (hj:j<cs.size),∃ (k:IntKind) (m:Int),ks[j]?=some k∧cs[j]=.int k m∧(Lit.int k m).wf=true:=by
    intro j hj;have hjf:fs[j]?=some fs[j]:=by simp
    obtain ⟨ho,hc⟩:=hone_of hone j _ hjf;have h1:=hfs j _ hjf;rw [ho,hc] at h1
    have hcs:((Value.agg cs).cells.toList.drop j).take 1=[cs[j]]:=by
      have:=one_of_drop (l:=cs.toList) (j:=j) (by simpa using hj)
      simpa [Value.cells] using this
    rw [hcs] at h1
    have hxs:xs[j]?=some (xs[j]'(by omega)):=by simp
    rw [hxs] at h1
    have hu:(fs.toList.map (fun f=>P.underlying f.type))[j]?=some (P.underlying fs[j].type):=by simp [hjf]
    rw [hk] at hu
    obtain ⟨k,hk1,hk2⟩:∃ k,ks[j]?=some k∧some (.int k)=P.underlying fs[j].type:=by
      simpa using hu
    obtain ⟨m,hm,_,hw⟩:=DataW.trod_int hk2.symm h1;exact ⟨k,m,hk1,by simpa using hm,hw⟩
  refine ⟨cs.toList.map intOf,?_,by simp; omega,?_⟩
  · congr 1
    apply Array.ext_getElem?
    intro j
    rcases Nat.lt_or_ge j cs.size with hj | hj
    · obtain ⟨k,m,h1,h2,_⟩:=hat j hj
      simp [List.getElem?_zipWith,h1,hj,h2,intOf]
    · simp [List.getElem?_zipWith,hj]
  · intro q hq
    obtain ⟨j,hj,he⟩:=List.mem_iff_getElem.1 hq;simp only [List.length_zip,List.length_map,Array.length_toList] at hj
    obtain ⟨k,m,h1,h2,h3⟩:=hat j (by omega);have hk3:ks[j]'(by omega)=k:=by
      have:=List.getElem?_eq_getElem (l:=ks) (i:=j) (by omega)
      rw [h1] at this
      exact (Option.some.inj this).symm
    simp only [List.getElem_zip,List.getElem_map] at he
    rw [←he]
    simp only [hk3,Array.getElem_toList,h2,intOf]
    exact h3
end
theorem list6 {α:Type} {l:List α} (h:l.length=6):∃ x0 x1 x2 x3 x4 x5,l=[x0,x1,x2,x3,x4,x5]:=by
  match l,h with
  | [x0,x1,x2,x3,x4,x5],_=>exact ⟨x0,x1,x2,x3,x4,x5,rfl⟩
theorem laidOut:laidOutB Tryz.prog:=by kernel_rfl
end Go.Proofs.YtbbipmelhmgmfaaGreat

/- Ours. -/
namespace Go.Proofs.YtbbipmelhmgmfaaGreat
open Go.ChangeShapes Go.WideShapes Go.ChangeAt Go.RowKit
def ioN:List Nat:=[104,97,114,110,101,115,115,32,52,55,55,53,50,49,53,100,50,97,49,57,51,99,54,57,101,51,99,52,55,102,55,54,54,49,55,51,101,57,97,53,57,54,99,52,51,56,52,52,48,100,52,50,97,52,53,57,98,102,50,52,51,54,57,53,101,49,101,99,57,101,52,52,32,99,117,116,32,97,116,32,99,117,98,105,99,108,101,47,99,117,98,105,99,108,101,108,97,119,49,55,46,68,111,109,97,105,110,77,97,110,121,32,99,117,98,105,99,108,101,47,99,117,98,105,99,108,101,108,97,119,49,51,46,67,104,101,99,107,65,108,111,110,101,32,99,117,98,105,99,108,101,47,99,117,98,105,99,108,101,108,97,119,49,53,46,76,105,115,116,65,108,111,110,101,32,99,117,98,105,99,108,101,47,99,117,98,105,99,108,101,108,97,119,49,54,46,68,105,99,116,67,101,108,108,115,32,99,117,98,105,99,108,101,47,99,117,98,105,99,108,101,108,97,119,49,54,46,68,105,99,116,66,117,99,107,101,116,115,32,99,117,98,105,99,108,101,47,99,117,98,105,99,108,101,108,97,119,49,54,46,68,105,99,116,65,112,97,114,116,32,99,117,98,105,99,108,101,47,99,117,98,105,99,108,101,108,97,119,49,54,46,68,105,99,116,65,108,111,110,101,32,99,117,98,105,99,108,101,47,99,117,98,105,99,108,101,108,97,119,49,55,46,68,111,109,97,105,110,79,100,100,32,99,117,98,105,99,108,101,47,99,117,98,105,99,108,101,108,97,119,49,50,46,65,108,108,111,99,77,97,110,121]
theorem io1:Tryz.prog.initOrder=String.ofList (ioN.map Char.ofNat):=by kernel_rfl
theorem io2:Tryz.prog.initOrder.toList=ioN.map Char.ofNat:=by rw [io1,String.toList_ofList]
theorem io3:behindMainWord (wordsSigns Tryz.prog.initOrder.toList)=(([99,117,116]:List Nat).map Char.ofNat)::([[97,116],[99,117,98,105,99,108,101,47,99,117,98,105,99,108,101,108,97,119,49,55,46,68,111,109,97,105,110,77,97,110,121],[99,117,98,105,99,108,101,47,99,117,98,105,99,108,101,108,97,119,49,51,46,67,104,101,99,107,65,108,111,110,101],[99,117,98,105,99,108,101,47,99,117,98,105,99,108,101,108,97,119,49,53,46,76,105,115,116,65,108,111,110,101],[99,117,98,105,99,108,101,47,99,117,98,105,99,108,101,108,97,119,49,54,46,68,105,99,116,67,101,108,108,115],[99,117,98,105,99,108,101,47,99,117,98,105,99,108,101,108,97,119,49,54,46,68,105,99,116,66,117,99,107,101,116,115],[99,117,98,105,99,108,101,47,99,117,98,105,99,108,101,108,97,119,49,54,46,68,105,99,116,65,112,97,114,116],[99,117,98,105,99,108,101,47,99,117,98,105,99,108,101,108,97,119,49,54,46,68,105,99,116,65,108,111,110,101],[99,117,98,105,99,108,101,47,99,117,98,105,99,108,101,108,97,119,49,55,46,68,111,109,97,105,110,79,100,100],[99,117,98,105,99,108,101,47,99,117,98,105,99,108,101,108,97,119,49,50,46,65,108,108,111,99,77,97,110,121]]:List (List Nat)).map (List.map Char.ofNat):=by rw [io2]; kernel_rfl
theorem stripG (r:List (List Char)):stripLifts liftWords (([99,117,116].map Char.ofNat)::r)=([],([99,117,116].map Char.ofNat)::r):=by rfl
theorem makeG {P:Program} {r:List (List Char)} (h:behindMainWord (wordsSigns P.initOrder.toList)=([99,117,116].map Char.ofNat)::r):P.make=some .cut:=by
  unfold Program.make;rw [h]
  rfl
theorem liftsG {P:Program} {r:List (List Char)} (h:behindMainWord (wordsSigns P.initOrder.toList)=([99,117,116].map Char.ofNat)::r):P.liftsFinal=false:=by
  unfold Program.liftsFinal Program.headLifts;rw [h,stripG]
  rfl
theorem enterG {P:Program} {r:List (List Char)} (h:behindMainWord (wordsSigns P.initOrder.toList)=([99,117,116].map Char.ofNat)::r) (h1:P.laysLater=false) (h2:P.bearsReflect=false) (h3:P.doorFits []=true):P.mayEnter=true:=by
  unfold Program.mayEnter;rw [h];simp only [stripG,h1,h2,h3]
  rfl
theorem e1:Tryz.prog.laysLater=false:=by kernel_rfl
theorem e2:Tryz.prog.bearsReflect=false:=by kernel_rfl
theorem e3:Tryz.prog.doorFits []=true:=by kernel_rfl
theorem io_make:Tryz.prog.make=some .cut:=makeG io3
theorem io_lifts:Tryz.prog.liftsFinal=false:=liftsG io3
theorem io_enter:Tryz.prog.mayEnter=true:=enterG io3 e1 e2 e3
theorem io_maps:mapsRowed Tryz.prog:=by kernel_rfl
theorem io_heard:Tryz.prog.stopsHeard=true:=by kernel_rfl
end Go.Proofs.YtbbipmelhmgmfaaGreat

/- Some of our texts, one behind the other. -/
import Derived.Test.YtbbipmelhmgmfaaGreatTcPlans
import Derived.Test.YtbbipmelhmgmfaaGreatTcM3
import Derived.Test.YtbbipmelhmgmfaaGreatTcM14
import Derived.Test.YtbbipmelhmgmfaaGreatTcLListp
import Derived.Test.YtbbipmelhmgmfaaGreatTcM4
import Derived.Test.YtbbipmelhmgmfaaGreatTcM5
set_option linter.all false
set_option maxRecDepth 100000
set_option maxHeartbeats 20000000
/- Ours. -/
namespace Go.Proofs.YtbbipmelhmgmfaaGreat
open Go.RowKit
theorem wrap_id {x:Int} (h0:-9223372036854775808≤x) (h1:x≤9223372036854775807):IntKind.i64.wrap x=x:=by
  simp only [IntKind.wrap]
  simp [IntKind.signed,IntKind.bits]
  omega
structure PF (p:Plan):Prop where
  n1:1≤p.nodes
  n2:p.nodes≤1048576
  t1:1≤p.threads
  t2:p.threads≤16
  d1:0≤p.domains
  d2:p.domains≤64
  b1:1≤p.buckets
  b2:p.buckets≤256
  g1:1≤p.gen
  g2:p.gen≤1073741823
  r1:3 * p.threads+1≤p.retire
  r2:p.retire≤1024
theorem all_nil {α:Type} {P:α→Prop}:(∀ b,b∈([]:List α)→P b)↔True:=⟨fun _=>trivial,fun _ _ hb=>nomatch hb⟩
theorem all_cons {α:Type} {P:α→Prop} {x:α} {l:List α}:(∀ b,b∈x::l→P b)↔P x∧∀ b,b∈l→P b:=List.forall_mem_cons
theorem within_iff {l:List Bound}:D.plan_within l=true↔∀ b,b∈l→b.least≤b.n∧b.n≤b.most:=by
  unfold D.plan_within;rw [List.all_eq_true]
  constructor
  · intro h b hb
    have:=h b hb;simp only [Bool.and_eq_true,Bool.not_eq_true',decide_eq_false_iff_not] at this
    omega
  · intro h b hb
    have:=h b hb;simp only [Bool.and_eq_true,Bool.not_eq_true',decide_eq_false_iff_not];omega
theorem plan_formed {p:Plan}:D.plan_Plan_Formed p=true↔PF p:=by
  unfold D.plan_Plan_Formed
  constructor
  · intro h
    cases h1:D.plan_within [(⟨p.nodes,1,1048576⟩:Bound),⟨p.threads,1,16⟩,⟨p.domains,0,64⟩,⟨p.buckets,1,256⟩,⟨p.gen,1,1073741823⟩]
    · rw [h1] at h; cases h
    · rw [h1] at h
      simp only [cond_true] at h
      have h1:=within_iff.1 h1;have h:=within_iff.1 h;simp only [all_cons,all_nil,and_true] at h1 h
      have hw:IntKind.i64.wrap (IntKind.i64.wrap (3 * p.threads)+1)=3 * p.threads+1:=by
        rw [wrap_id (x:=3 * p.threads) (by omega) (by omega),wrap_id (by omega) (by omega)]
      rw [hw] at h
      constructor <;> omega
  · intro h
    obtain ⟨n1,n2,t1,t2,d1,d2,b1,b2,g1,g2,r1,r2⟩:=h;have h1:D.plan_within [(⟨p.nodes,1,1048576⟩:Bound),⟨p.threads,1,16⟩,⟨p.domains,0,64⟩,⟨p.buckets,1,256⟩,⟨p.gen,1,1073741823⟩]=true:=by
      rw [within_iff]
      simp only [all_cons,all_nil,and_true]
      omega
    rw [h1]
    simp only [cond_true]
    have hw:IntKind.i64.wrap (IntKind.i64.wrap (3 * p.threads)+1)=3 * p.threads+1:=by
      rw [wrap_id (x:=3 * p.threads) (by omega) (by omega),wrap_id (by omega) (by omega)]
    rw [hw,within_iff]
    simp only [all_cons,all_nil,and_true]
    omega
theorem ref_formed {p:Plan} (h:D.cubicleref06_Formed p=true):PF p:=by
  unfold D.cubicleref06_Formed at h
  simp only [cond_eq_ite,decide_eq_true_eq,Bool.if_false_left,Bool.if_false_right,Bool.and_eq_true,Bool.not_eq_true',decide_eq_false_iff_not] at h
  obtain ⟨h1,h2,h3,h4,h5,h6,h7,h8,h9,h10,h11,h12⟩:=h;rw [wrap_id (by omega) (by omega)] at h11
  constructor <;> omega
theorem ref_formed_iff {p:Plan}:D.cubicleref06_Formed p=true↔PF p:=by
  refine ⟨ref_formed,fun h=>?_⟩
  obtain ⟨n1,n2,t1,t2,d1,d2,b1,b2,g1,g2,r1,r2⟩:=h;unfold D.cubicleref06_Formed;simp only [cond_eq_ite,decide_eq_true_eq,Bool.if_false_left,Bool.if_false_right,Bool.and_eq_true,Bool.not_eq_true',decide_eq_false_iff_not];rw [wrap_id (by omega) (by omega)];omega
section
variable {p : Plan} (hp : PF p)
include hp
theorem cells_le:2≤D.plan_Plan_cells p∧D.plan_Plan_cells p≤256:=by
  obtain ⟨n1,n2,t1,t2,d1,d2,b1,b2,g1,g2,r1,r2⟩:=hp;unfold D.plan_Plan_cells maxI
  split <;> omega
theorem place_in {x:Int} {l:List Bound} (h:∀ b,b∈l→b.least≤b.n∧b.n≤b.most):D.plan_Plan_place p x l=x:=by
  unfold D.plan_Plan_place;rw [plan_formed.2 hp,within_iff.2 h]
  rfl
theorem place_out {x:Int} {l:List Bound} (h:¬ ∀ b,b∈l→b.least≤b.n∧b.n≤b.most):D.plan_Plan_place p x l=-1:=by
  unfold D.plan_Plan_place;have hw:D.plan_within l=false:=by
    cases hw:D.plan_within l
    · rfl
    · exact absurd (within_iff.1 hw) h
  rw [plan_formed.2 hp,hw]
  rfl
theorem place_if {x y:Int} {l:List Bound} {c:Prop} [Decidable c] (h:(∀ b,b∈l→b.least≤b.n∧b.n≤b.most)↔c) (hx:c→x=y):D.plan_Plan_place p x l=if c then y else -1:=by
  by_cases hc:c
  · rw [if_pos hc,place_in hp (h.2 hc),hx hc]
  · rw [if_neg hc,place_out hp (fun q=>hc (h.1 q))]
theorem dc_le {d:Int} (h0:0≤d) (h1:d<p.domains):0≤d * (1+D.plan_Plan_cells p)∧d * (1+D.plan_Plan_cells p)≤64 * 257:=by
  have hc:=cells_le hp;have d2:=hp.d2;exact ⟨Int.mul_nonneg (by omega) (by omega),Int.mul_le_mul (by omega) (by omega) (by omega) (by omega)⟩
end
theorem wrap_small {x:Int} (h0:-1000000≤x) (h1:x≤1000000):IntKind.i64.wrap x=x:=wrap_id (by omega) (by omega)
def acted (op at_ a b x:Int) (ws:List Int):List Int:=
  if op=1 then ws.set at_.toNat a else if op=2 then (if x=a then ws.set at_.toNat b else ws) else if op=3 then ws.set at_.toNat (IntKind.u64.wrap (x+a)) else ws
inductive Runs {R:Type}:T R→List Int→Nat→R→List Int→Prop
  | done (r:R) (ws:List Int):Runs (.done r) ws 0 r ws
  | act {op at_ a b x:Int} {k:Int→T R} {ws ws':List Int} {n:Nat} {r:R} (h1:0≤op∧op≤3) (h2:getI ws at_=some x) (h:Runs (k x) (acted op at_ a b x ws) n r ws'):Runs (.act op at_ a b k) ws (n+1) r ws'
theorem Runs.bind {A B:Type} {t:T A} {g:A→T B} {ws ws' ws'':List Int} {n m:Nat} {a:A} {b:B} (h:Runs t ws n a ws') (h2:Runs (g a) ws' m b ws''):Runs (t.bind g) ws (n+m) b ws'':=by
  induction h with
  | done r ws=>simpa [T.bind] using h2
  | @act op at_ a b x k ws ws' n r h1 h3 _ ih=>
    have:=Runs.act (k:=fun x=>(k x).bind g) h1 h3 (ih h2)
    rw [show n+1+m=n+m+1 from by omega]
    exact this
section
variable {R : Type}
end
/-! ### Words by their places -/
def rd (ws:List Int) (i:Int):Int:=ws.getD i.toNat 0
theorem getI_rd {ws:List Int} {i:Int} (h0:0≤i) (h1:i<ws.length):getI ws i=some (rd ws i):=by
  unfold getI rd;rw [if_pos h0,List.getD_eq_getElem?_getD,List.getElem?_eq_getElem (by omega)]
  rfl
theorem Runs.load {R:Type} {at_:Int} {k:Int→T R} {ws ws':List Int} {n:Nat} {r:R} (h0:0≤at_) (h1:at_<ws.length) (h:Runs (k (rd ws at_)) ws n r ws'):Runs (.act 0 at_ 0 0 k) ws (n+1) r ws':=
  .act (by omega) (getI_rd h0 h1) (by simpa [acted] using h)
theorem Runs.store {R:Type} {at_ w:Int} {k:Int→T R} {ws ws':List Int} {n:Nat} {r:R} (h0:0≤at_) (h1:at_<ws.length) (h:Runs (k (rd ws at_)) (ws.set at_.toNat w) n r ws'):Runs (.act 1 at_ w 0 k) ws (n+1) r ws':=
  .act (by omega) (getI_rd h0 h1) (by simpa [acted] using h)
theorem wrapu_id {x:Int} (h0:0≤x) (h1:x<18446744073709551616):IntKind.u64.wrap x=x:=by
  simp only [IntKind.wrap]
  simp [IntKind.signed,IntKind.bits]
  omega
/-! ### A memory that is laid out -/
structure LaidAt (p:Plan) (ws:List Int):Prop where
  len:(ws.length:Int)=D.plan_Plan_Size p
  head:rd ws 0=1
  next:∀ m,0≤m→m<p.nodes→rd ws (D.plan_Plan_nodes p+m * 5+1)=if m+1=p.nodes then 0 else m+2
  zero:∀ j,0<j→(∀ m,0≤m→m<p.nodes→j≠D.plan_Plan_nodes p+m * 5+1)→rd ws j=0
theorem cl36:callable Tryz.prog 36:=by kernel_rfl
def D.dict_Cell (a0:Plan) (a1:Int) (a2:Int):Int:=(bif (!(D.plan_Plan_Formed a0)) then (-1) else (D.plan_Plan_Cell a0 a1 (IntKind.i64.wrap (a2.tmod (IntKind.u64.wrap a0.buckets)))))
theorem c_dict_Cell (w0:World) 
    (a0:Plan) (a1:Int) (a2:Int) :
    Calls Tryz.prog 44 #[.agg (planC a0).toArray,.int .i64 a1,.int .u64 a2] w0 (PureRes (.int .i64 (D.dict_Cell a0 a1 a2)) w0):=by
 refine kN Tryz.func44 rfl 19 rfl rfl fun fr r hB=>?_;refine wsr ?_
 refine kX 23 (.agg (planC a0).toArray) r rfl rfl fun b1 w2 n3 r=>?_;obtain ⟨E1,Z2,H1,hB,zB⟩:=n3.all hB
 refine kA (I 0) r rfl rfl fun r=>wn (wp_seq (wsr (kG (planC a0) 6 r rfl H1 ta23 rfl rfl fun r=>?_)));refine kE r (c_plan_Plan_Formed w2 a0) rfl cl91 rfl fun w4 hb r=>?_
 have Z4:=hb.size;have H1:=keep hb H1;obtain ⟨hB,zB⟩:=bon hb hB;refine seq_val (.bool (!(D.plan_Plan_Formed a0))) r (fun R=>y_un r (u:=(.bool (D.plan_Plan_Formed a0))) rfl rfl) rfl fun fr r=>wn ?_;refine wp_cond_split (t:=(!(D.plan_Plan_Formed a0))) (r.ev rfl) (fun h5=>?_) (fun h5=>?_)
 ·
  refine wsr (kA (I (-1)) r rfl rfl fun r=>wn (wp_ret ?_));have hd:D.dict_Cell a0 a1 a2=(-1):=(cond_t h5).trans (rfl)
  refine ret_tmp r rfl rfl ?_;rw [hd];exact ⟨rfl,hB⟩
 refine wp_skip (wp_seq ?_);refine wp_drawnF 9 [.val (.agg (planC a0).toArray),.val (I a1),.val (U a2),.val (.pointer (some ⟨b1,4,none⟩)),.val (I a0.buckets),.val (U (V a0.buckets)),.val (U (a2.tmod (V a0.buckets))),.val (I (W (a2.tmod (V a0.buckets)))),.val (I (D.plan_Plan_Cell a0 a1 (W (a2.tmod (V a0.buckets)))))] mixed r (by kernel_rfl) (kV (kV (kV (kV (kV (kV (kV (kV (kV within_nil))))))))) ?_ ?_
 ·
  refine ec r (fun _ u _ b d s=>y_load_agg s (cs:=(planC a0)) (n:=6) rfl (keep b H1) ta23 rfl bz) (ec r (fun _ u _ b d s=>y_move s rfl bz) (ec r (fun _ u _ b d s=>y_move s rfl bz) (ec r (fun _ u _ b d s=>y_fieldAddr s (b:=b1) (o:=0) rfl fo23_4 bz) (ec r (fun _ u _ b d s=>y_load_one s d.1 (keep b H1) to3 rfl bz) (ec r (fun _ u _ b d s=>y_convert s (n:=a0.buckets) d.1 ti3 ti34 bz) (ec r (fun _ u _ b d s=>y_bin s d.1 d.2.1 rfl (bin_rem (by first | assumption | decide | (have hq:=plan_formed.1 (by simpa using ‹(!D.plan_Plan_Formed _)=false›); have hq1:=hq.b1; have hq2:=hq.b2; unfold V; rw [wrapu_id (by omega) (by omega)]; omega))) bz) (ec r (fun _ u _ b d s=>y_convert s (n:=(a2.tmod (V a0.buckets))) d.1 ti34 ti3 bz) (ec r (fun fr1 u w' hb' hd r'=>y_call r' (args:=[(.agg (planC a0).toArray),(I a1),(I (W (a2.tmod (V a0.buckets))))]) (lc hd.1 (lc hd.2.1 (lc hd.2.2.1 l0))) cl36 ((c_plan_Plan_Cell _ a0 a1 (W (a2.tmod (V a0.buckets)))).mono (by rintro _ w2 ⟨rfl,hb2⟩; exact ⟨_,rfl,hb2,rfl⟩))) ?_))))))));exact each_nil
 intro fr u w6 hb hΦ hne r;have r:=r.congr (sc (hΦ 8 (by decide)) (sc (hΦ 7 (by decide)) (sc (hΦ 6 (by decide)) (sc (hΦ 5 (by decide)) (sc (hΦ 4 (by decide)) (sc (hΦ 3 (by decide)) (sc (hΦ 2 (by decide)) (sc (hΦ 1 (by decide)) (sc (hΦ 0 (by decide)) rfl)))))))));have Z6:=hb.size;have H1:=keep hb H1;obtain ⟨hB,zB⟩:=bon hb hB;refine kA (I (D.plan_Plan_Cell a0 a1 (W (a2.tmod (V a0.buckets))))) r rfl rfl fun r=>wn (wp_ret ?_);have hd:D.dict_Cell a0 a1 a2=(D.plan_Plan_Cell a0 a1 (W (a2.tmod (V a0.buckets)))):=(cond_f h5).trans (rfl)
 refine ret_tmp r rfl rfl ?_;rw [hd];exact ⟨rfl,hB⟩
theorem cl44:callable Tryz.prog 44:=by kernel_rfl
theorem cl82:callable Tryz.prog 82:=by kernel_rfl
def D.dict_Add (j:Nat) (a0:Seat) (a1:Int) (a2:Int) (a3:Int):T Res:=(D.list_Add j a0 (D.dict_Cell a0.p a1 a2) a2 a3)
theorem cl_dict_Add {n:Nat} {F:Nat→Prop} {j:Nat} {w0:World} (hF:∀ b,F b→b<w0.heap.size) (hj:n<j)
    (a0:Seat) (a1:Int) (a2:Int) (a3:Int) :
    Calls Tryz.prog 90 #[.agg (seatC a0).toArray,.int .i64 a1,.int .u64 a2,.int .u64 a3] w0 (RepResL Tryz.prog encRes n (D.dict_Add j a0 a1 a2 a3) F w0):=by
 refine kN Tryz.func90 rfl 18 rfl rfl fun fr r hB=>?_;refine wsr ?_
 refine kX 47 (.agg (seatC a0).toArray) r rfl rfl fun b1 w2 n3 r=>?_;obtain ⟨E1,Z2,H1,hB,zB⟩:=n3.all hB
 refine seq_new (.cells (kq encRes) 41 (0,0)) r (fun R=>y_alloc tz41) rfl fun fr b4 w5 n6 r=>?_;have H1:=keep n6.below H1
 obtain ⟨E4,Z5,H4,hB,zB⟩:=n6.all hB;refine wn (wp_seq ?_);refine wp_drawnF 8 [.val (.agg (seatC a0).toArray),.val (zp b1),.val (.agg (planC a0.p).toArray),.val (I a1),.val (U a2),.val (I (D.dict_Cell a0.p a1 a2)),.val (U a2),.val (U a3)] mixed r (by kernel_rfl) (kV (kV (kV (kV (kV (kV (kV (kV within_nil)))))))) ?_ ?_
 ·
  refine ec r (fun _ u _ b d s=>y_load_agg s (cs:=(seatC a0)) (n:=8) rfl (keep b H1) ta47 rfl bz) (ec r (fun _ u _ b d s=>y_fieldAddr s (b:=b1) (o:=0) rfl fo47_0 bz) (ec r (fun _ u _ b d s=>y_load_agg s (cs:=(planC a0.p)) (n:=6) d.1 (keep b H1) ta23 rfl bz) (ec r (fun _ u _ b d s=>y_move s rfl bz) (ec r (fun _ u _ b d s=>y_move s rfl bz) (ec r (fun fr1 u w' hb' hd r'=>y_call r' (args:=[(.agg (planC a0.p).toArray),(I a1),(U a2)]) (lc hd.1 (lc hd.2.1 (lc hd.2.2.1 l0))) cl44 ((c_dict_Cell _ a0.p a1 a2).mono (by rintro _ w2 ⟨rfl,hb2⟩; exact ⟨_,rfl,hb2,rfl⟩))) (ec r (fun _ u _ b d s=>y_move s rfl bz) (ec r (fun _ u _ b d s=>y_move s rfl bz) ?_)))))));exact each_nil
 intro fr u w7 hb hΦ hne r;have r:=r.congr (sc (hΦ 7 (by decide)) (sc (hΦ 6 (by decide)) (sc (hΦ 5 (by decide)) (sc (hΦ 4 (by decide)) (sc (hΦ 3 (by decide)) (sc (hΦ 2 (by decide)) (sc (hΦ 1 (by decide)) (sc (hΦ 0 (by decide)) rfl))))))));have Z7:=hb.size;have H1:=keep hb H1;have H4:=keep hb H4;obtain ⟨hB,zB⟩:=bon hb hB;refine kJ r (cl_list_Add (j:=j) (F:=No) (n:=n) (fun _ h=>h.elim) (by omega) a0 (D.dict_Cell a0.p a1 a2) a2 a3) rfl cl82 rfl fun w8 v9 hb hr10 r=>?_;have hb:=hb.below
 have Z8:=hb.size;have H1:=keep hb H1;have H4:=keep hb H4;obtain ⟨hB,zB⟩:=bon hb hB;refine kP r hr10.shape rfl rfl H4 ts41 rfl rfl fun w11 u12 r=>?_;have Z11:=u12.size
 have H1:=u12.keep H1 (by omega)
 have H4:=u12.at_;obtain ⟨hB,zB⟩:=u12.on hB (by omega)
 refine wn (wp_ret ?_);have hs:=hr10.shape.cells;refine ret_cell r rfl rfl H4 (k:=8) hs.1 ta41 ?_;rw [←hs.2.2];exact RepResL.fin (Chg.belowZ hB) hr10 u12 (fun _ h=>h.elim) (fun h=>h) (by omega) (by omega) (by omega)
theorem cl90:callable Tryz.prog 90:=by kernel_rfl
end Go.Proofs.YtbbipmelhmgmfaaGreat

/- Ours. -/
namespace Go.Proofs.YtbbipmelhmgmfaaGreat.Fc
open Go.RowKit
inductive Fact (B:Nat) (S:Nat→Prop) where
  | any
  | val (c:Value)
  | new (ob:Obj)
  | slice (ob:Obj) (l:Nat)
  | cell (T:TypeId) (n:Nat)
  | stored (q:Nat) (c:Array Value) (T:TypeId) (n:Nat) (h:c.size=n)
  | pred (p:Value→Nat→Nat→World→Prop) (h:∀ v lo hi w1 w2,p v lo hi w1→Kept B S lo hi w1 w2→p v lo hi w2)
  | whole (p:Value→Nat→Nat→World→Prop) (h:∀ v lo hi w1 w2,p v lo hi w1→KeptW B S w1 w2→p v lo hi w2)
  | eff (p:Value→Nat→Nat→World→Prop) (h:∀ v lo hi w1 w2,p v lo hi w1→Kept B (fun _=>False) lo hi w1 w2→p v lo hi w2)
  | effW (p:Value→Nat→Nat→World→Prop) (h:∀ v lo hi w1 w2,p v lo hi w1→KeptW B (fun _=>False) w1 w2→p v lo hi w2)
  | dep (q:Nat) (p:Value→Value→Prop)
  | depN (qs:List Nat) (p:List Value→Value→Prop)
  | storedD (q j:Nat) (c:Value→Array Value) (T:TypeId) (n:Nat)
  | cons (q:Nat) (p:Value→Nat→Nat→World→Prop) (h:∀ v lo hi w1 w2,p v lo hi w1→Kept B S lo hi w1 w2→p v lo hi w2)
  | effC (js:List Nat) (p:Value→Nat→Nat→World→Prop) (h:∀ v lo hi w1 w2,p v lo hi w1→Kept B (fun _=>False) lo hi w1 w2→p v lo hi w2)
  | effCW (js:List Nat) (p:Value→Nat→Nat→World→Prop) (h:∀ v lo hi w1 w2,p v lo hi w1→KeptW B (fun _=>False) w1 w2→p v lo hi w2)
inductive Sh where
  | free
  | cell (T:TypeId) (n:Nat)
  | store (q:Nat) (T:TypeId) (n:Nat)
  | eff
  | whole
def Fact.sh {B:Nat} {S:Nat→Prop}:Fact B S→Sh
  | .cell T n=>.cell T n
  | .stored q _ T n _=>.store q T n
  | .storedD q _ _ T n=>.store q T n
  | .eff _ _=>.eff
  | .effW _ _=>.eff
  | .effC _ _ _=>.eff
  | .effCW _ _ _=>.eff
  | .whole _ _=>.whole
  | _=>.free
def Fact.needs {B:Nat} {S:Nat→Prop}:Fact B S→List Nat
  | .dep q _=>[q]
  | .depN qs _=>qs
  | .storedD _ j _ _ _=>[j]
  | _=>[]
def Fact.eats {B:Nat} {S:Nat→Prop}:Fact B S→List Nat
  | .effC js _ _=>js
  | .effCW js _ _=>js
  | _=>[]
def Fact.until {B:Nat} {S:Nat→Prop}:Fact B S→Option Nat
  | .cons q _ _=>some q
  | _=>none
def Fact.isW {B:Nat} {S:Nat→Prop}:Fact B S→Bool
  | .effW _ _=>true
  | .effCW _ _ _=>true
  | _=>false
def Fact.ok {B:Nat} {S:Nat→Prop}:Fact B S→(Nat→Gh)→Nat→World→Prop
  | .any,_,_,_=>True
  | .val c,g,i,_=>(g i).v=c
  | .new ob,g,i,w=>(g i).v=.pointer (some ⟨(g i).lo,0,none⟩)∧(g i).lo<(g i).hi∧w.heap[(g i).lo]?=some ob
  | .slice ob l,g,i,w=>(g i).v=.slice (some ⟨(g i).lo,0,none⟩) l l∧(g i).lo<(g i).hi∧w.heap[(g i).lo]?=some ob
  | .cell T n,g,i,w=>(g i).v=.pointer (some ⟨(g i).lo,0,none⟩)∧(g i).lo<(g i).hi∧∃ c,w.heap[(g i).lo]?=some (.cells c T (0,0))∧c.size=n
  | .stored q c T _ _,g,i,w=>(g i).v=undef∧w.heap[(g q).lo]?=some (.cells c T (0,0))
  | .pred p _,g,i,w=>p (g i).v (g i).lo (g i).hi w
  | .whole p _,g,i,w=>p (g i).v (g i).lo (g i).hi w
  | .eff p _,g,i,w=>p (g i).v (g i).lo (g i).hi w
  | .effW p _,g,i,w=>p (g i).v (g i).lo (g i).hi w
  | .dep q p,g,i,_=>p (g q).v (g i).v
  | .depN qs p,g,i,_=>p (qs.map fun q=>(g q).v) (g i).v
  | .storedD q j c T _,g,i,w=>(g i).v=undef∧w.heap[(g q).lo]?=some (.cells (c (g j).v) T (0,0))
  | .cons q p _,g,i,w=>(g q).hi=0→p (g i).v (g i).lo (g i).hi w
  | .effC _ p _,g,i,w=>p (g i).v (g i).lo (g i).hi w
  | .effCW _ p _,g,i,w=>p (g i).v (g i).lo (g i).hi w
def Fact.mk {B:Nat} {S:Nat→Prop}:Fact B S→(Nat→Gh)→Value→World→World→Prop
  | .any,_,_,w,w'=>Below w.heap.size w w'
  | .val c,_,v,w,w'=>Below w.heap.size w w'∧v=c
  | .new ob,_,v,w,w'=>Below w.heap.size w w'∧∃ b,v=.pointer (some ⟨b,0,none⟩)∧b=w.heap.size∧w'.heap[b]?=some ob
  | .slice ob l,_,v,w,w'=>Below w.heap.size w w'∧∃ b,v=.slice (some ⟨b,0,none⟩) l l∧b=w.heap.size∧w'.heap[b]?=some ob
  | .cell T n,_,v,w,w'=>Below w.heap.size w w'∧∃ b,v=.pointer (some ⟨b,0,none⟩)∧b=w.heap.size∧∃ c,w'.heap[b]?=some (.cells c T (0,0))∧c.size=n
  | .stored q c T _ _,g,v,w,w'=>Upd w w' (g q).lo (.cells c T (0,0))∧v=undef
  | .pred p _,_,v,w,w'=>Below w.heap.size w w'∧p v w.heap.size w'.heap.size w'
  | .whole p _,_,v,w,w'=>Below w.heap.size w w'∧p v w.heap.size w'.heap.size w'
  | .eff p _,_,v,w,w'=>Kept w.heap.size S 0 0 w w'∧p v w.heap.size w'.heap.size w'
  | .effW p _,_,v,w,w'=>Kept w.heap.size S 0 0 w w'∧p v w.heap.size w'.heap.size w'
  | .dep q p,g,v,w,w'=>Below w.heap.size w w'∧p (g q).v v
  | .depN qs p,g,v,w,w'=>Below w.heap.size w w'∧p (qs.map fun q=>(g q).v) v
  | .storedD q j c T n,g,v,w,w'=>Upd w w' (g q).lo (.cells (c (g j).v) T (0,0))∧v=undef∧(c (g j).v).size=n
  | .cons _ p _,_,v,w,w'=>Below w.heap.size w w'∧p v w.heap.size w'.heap.size w'
  | .effC js p _,g,v,w,w'=>Kept w.heap.size (fun b=>S b∨∃ j,j∈js∧(g j).lo≤b∧b<(g j).hi) 0 0 w w'∧p v w.heap.size w'.heap.size w'
  | .effCW js p _,g,v,w,w'=>Kept w.heap.size (fun b=>S b∨∃ j,j∈js∧(g j).lo≤b∧b<(g j).hi) 0 0 w w'∧p v w.heap.size w'.heap.size w'
def fact {B:Nat} {S:Nat→Prop}:List (Fact B S)→Nat→Fact B S
  | [],_=>.any
  | f::_,0=>f
  | _::l,n+1=>fact l n
def freely (L:List Oper) (sh:Nat→Sh):Bool:=
  distinct L&&L.zipIdx.all (fun (o,i)=>(o.after.toList.all fun e=>!Region.binds .any e||decide (e.on<i))&&
    (match sh i with
     | .store q T n=>awaits o q&&(match sh q with | .cell T' n'=>T==T'&&n==n' | _=>false)&&(List.range L.length).all fun j=>decide (j=i)||(match sh j with | .store q' _ _=>!(q'==q) | _=>true)
     | .eff=>(List.range L.length).all fun j=>decide (j=i)||(match sh j with | .eff=>false | _=>true)
     | .whole=>(List.range L.length).all fun j=>(match sh j with | .store _ _ _=>false | _=>true)
     | _=>true))
def early (L:List Oper) (sh:Nat→Sh) (i:Nat):Bool:=
  L.zipIdx.all fun (o,j)=>match sh j with | .eff=>decide (j=i)||awaits o i | _=>true
def effDone (L:List Oper) (sh:Nat→Sh) (listed:Array Bool):Bool:=
  L.zipIdx.any fun (_,j)=>match sh j with | .eff=>listed.getD j false | _=>false
section
variable {P : Program} {Q : Exit → Act → World → Prop} {L : List Oper} {a : Act} {w : World} {B : Nat} {S : Nat → Prop}
structure FInv (L:List Oper) (fs:Nat→Fact B S) (a:Act) (w0:World) (listed:Array Bool) (g:Nat→Gh) (a':Act) (w':World):Prop where
  act:a'=puts L (fun j=>(g j).v) 0 a
  closed:∀ i o,L[i]?=some o→listed.getD i false=true→∀ e,e∈o.after→Region.binds .any e=true→listed.getD e.on false=true
  os:w'.os=w0.os
  tape:w'.tape=w0.tape
  output:w'.output=w0.output
  size:w0.heap.size≤w'.heap.size
  old:∀ b,b<B→¬ S b∨effDone L (fun i=>(fs i).sh) listed=false→w'.heap[b]?=w0.heap[b]?
  facts:∀ i,i<L.length→listed.getD i false=true→(fs i).ok g i w'∧B≤(g i).lo∧(g i).lo≤(g i).hi∧(g i).hi≤w'.heap.size
  apart:∀ i j,i≠j→i<L.length→j<L.length→listed.getD i false=true→listed.getD j false=true→(g i).hi≤(g j).lo∨(g j).hi≤(g i).lo
  fresh:∀ i,i<L.length→listed.getD i false=false→(g i).hi=0
def EachF (P:Program) (L:List Oper) (fs:Nat→Fact B S) (a:Act) (w0:World):List Oper→Nat→Prop
  | [],_=>True
  | o::l,i=>(∀ g w',(g i).hi=0→w'.os=w0.os→w'.tape=w0.tape→w'.output=w0.output→w0.heap.size≤w'.heap.size→(∀ b,b<B→¬ S b∨early L (fun i=>(fs i).sh) i=true→w'.heap[b]?=w0.heap[b]?)→
      (∀ j,awaits o j=true→(fs j).ok g j w'∧B≤(g j).lo∧(g j).hi≤w'.heap.size∧∀ q,awaits o q=true→q≠j→(g j).hi≤(g q).lo∨(g q).hi≤(g j).lo)→
      YieldsG P L.toArray o (puts L (fun j=>(g j).v) 0 a) w' fun v w''=>(fs i).mk g v w' w'')∧EachF P L fs a w0 l (i+1)
theorem eachF_at {fs:Nat→Fact B S} {w0:World}:∀ (l:List Oper) (k i:Nat) (o:Oper),EachF P L fs a w0 l k→l[i]?=some o→
    (∀ g w',(g (k+i)).hi=0→w'.os=w0.os→w'.tape=w0.tape→w'.output=w0.output→w0.heap.size≤w'.heap.size→(∀ b,b<B→¬ S b∨early L (fun i=>(fs i).sh) (k+i)=true→w'.heap[b]?=w0.heap[b]?)→
      (∀ j,awaits o j=true→(fs j).ok g j w'∧B≤(g j).lo∧(g j).hi≤w'.heap.size∧∀ q,awaits o q=true→q≠j→(g j).hi≤(g q).lo∨(g q).hi≤(g j).lo)→
      YieldsG P L.toArray o (puts L (fun j=>(g j).v) 0 a) w' fun v w''=>(fs (k+i)).mk g v w' w'')
  | [],_,_,_,_,h=>by simp at h
  | p::l,k,0,o,hE,h=>by
    simp only [List.getElem?_cons_zero,Option.some.injEq] at h
    subst h;exact hE.1
  | p::l,k,i+1,o,hE,h=>by
    simp only [List.getElem?_cons_succ] at h
    have:=eachF_at l (k+1) i o hE.2 h;rw [show k+1+i=k+(i+1) from by omega] at this
    exact this
theorem freely_at {sh:Nat→Sh} (h:freely L sh=true) {i:Nat} {o:Oper} (hi:L[i]?=some o) :
    (∀ e,e∈o.after→Region.binds .any e=true→e.on<i)∧
    (∀ q T n,sh i=.store q T n→awaits o q=true∧sh q=.cell T n∧∀ j,j<L.length→j≠i→∀ T' n',sh j≠.store q T' n')∧
    (sh i=.eff→∀ j,j<L.length→j≠i→sh j≠.eff)∧(sh i=.whole→∀ j,j<L.length→∀ q T n,sh j≠.store q T n):=by
  simp only [freely,Bool.and_eq_true] at h
  have hm:(o,i)∈L.zipIdx:=by
    rw [List.mem_iff_getElem?]
    exact ⟨i,by simp [hi]⟩
  have h2:=List.all_eq_true.1 h.2 _ hm;simp only [Bool.and_eq_true] at h2
  refine ⟨fun e he hb=>?_,fun q T n hq=>?_,fun hq j hj hne=>?_,fun hq j hj q T n hs=>?_⟩
  · have:=List.all_eq_true.1 h2.1 e (by simpa using he)
    simpa [hb] using this
  · have h3:=h2.2
    rw [hq] at h3
    simp only [Bool.and_eq_true] at h3
    refine ⟨h3.1.1,?_,fun j hj hne T' n' hs=>?_⟩
    · have h4:=h3.1.2
      cases hc:sh q with
      | cell T' n'=>
        rw [hc] at h4
        simp only [Bool.and_eq_true,beq_iff_eq] at h4
        rw [h4.1,h4.2]
      | _=>rw [hc] at h4; cases h4
    · have:=List.all_eq_true.1 h3.2 j (List.mem_range.2 hj)
      rw [hs] at this
      simp [hne] at this
  · have h3:=h2.2
    rw [hq] at h3
    intro hs;have:=List.all_eq_true.1 h3 j (List.mem_range.2 hj);rw [hs] at this
    simp [hne] at this
  · have h3:=h2.2
    rw [hq] at h3
    have:=List.all_eq_true.1 h3 j (List.mem_range.2 hj);rw [hs] at this
    cases this
structure Step (B:Nat) (S:Nat→Prop) (sh:Sh) (es:List Nat) (g:Nat→Gh) (w w':World):Prop where
  os:w'.os=w.os
  tape:w'.tape=w.tape
  output:w'.output=w.output
  size:w.heap.size≤w'.heap.size
  block:∀ b,b<w.heap.size→(∀ q T n,sh=.store q T n→b≠(g q).lo)→(sh=.eff→¬ S b∧∀ j,j∈es→¬ ((g j).lo≤b∧b<(g j).hi))→w'.heap[b]?=w.heap[b]?
  stored:∀ q T n,sh=.store q T n→∃ c,w'.heap[(g q).lo]?=some (.cells c T (0,0))∧c.size=n
theorem Fact.step {f:Fact B S} {g:Nat→Gh} {v:Value} {w w':World} (h:f.mk g v w w'):Step B S f.sh f.eats g w w':=by
  cases f with
  | any=>exact ⟨h.os,h.tape,h.output,h.size,fun b hb _ _=>h.block b hb,nofun⟩
  | val c=>exact ⟨h.1.os,h.1.tape,h.1.output,h.1.size,fun b hb _ _=>h.1.block b hb,nofun⟩
  | new ob=>exact ⟨h.1.os,h.1.tape,h.1.output,h.1.size,fun b hb _ _=>h.1.block b hb,nofun⟩
  | slice ob l=>exact ⟨h.1.os,h.1.tape,h.1.output,h.1.size,fun b hb _ _=>h.1.block b hb,nofun⟩
  | cell T n=>exact ⟨h.1.os,h.1.tape,h.1.output,h.1.size,fun b hb _ _=>h.1.block b hb,nofun⟩
  | pred p hp=>exact ⟨h.1.os,h.1.tape,h.1.output,h.1.size,fun b hb _ _=>h.1.block b hb,nofun⟩
  | whole p hp=>exact ⟨h.1.os,h.1.tape,h.1.output,h.1.size,fun b hb _ _=>h.1.block b hb,nofun⟩
  | stored q c T n hn=>
    refine ⟨h.1.os,h.1.tape,h.1.output,Nat.le_of_eq h.1.size.symm,fun b hb h1 _=>h.1.other b (h1 q T n rfl),?_⟩
    intro q' T' n' he;simp only [Fact.sh,Sh.store.injEq] at he
    obtain ⟨rfl,rfl,rfl⟩:=he;exact ⟨c,h.1.at_,hn⟩
  | dep q p=>exact ⟨h.1.os,h.1.tape,h.1.output,h.1.size,fun b hb _ _=>h.1.block b hb,nofun⟩
  | depN qs p=>exact ⟨h.1.os,h.1.tape,h.1.output,h.1.size,fun b hb _ _=>h.1.block b hb,nofun⟩
  | storedD q j c T n=>
    refine ⟨h.1.os,h.1.tape,h.1.output,Nat.le_of_eq h.1.size.symm,fun b hb h1 _=>h.1.other b (h1 q T n rfl),?_⟩
    intro q' T' n' he;simp only [Fact.sh,Sh.store.injEq] at he
    obtain ⟨rfl,rfl,rfl⟩:=he;exact ⟨c (g j).v,h.1.at_,h.2.2⟩
  | eff p hp=>exact ⟨h.1.1,h.1.2.1,h.1.2.2.1,h.1.2.2.2.1,fun b hb _ h2=>h.1.2.2.2.2 b (.inl ⟨hb,(h2 rfl).1⟩),nofun⟩
  | effW p hp=>exact ⟨h.1.1,h.1.2.1,h.1.2.2.1,h.1.2.2.2.1,fun b hb _ h2=>h.1.2.2.2.2 b (.inl ⟨hb,(h2 rfl).1⟩),nofun⟩
  | cons q p hp=>exact ⟨h.1.os,h.1.tape,h.1.output,h.1.size,fun b hb _ _=>h.1.block b hb,nofun⟩
  | effC j p hp=>exact ⟨h.1.1,h.1.2.1,h.1.2.2.1,h.1.2.2.2.1,fun b hb _ h2=>h.1.2.2.2.2 b (.inl ⟨hb,fun hs=>hs.elim (h2 rfl).1 fun ⟨k,hk,hr⟩=>(h2 rfl).2 k hk hr⟩),nofun⟩
  | effCW j p hp=>exact ⟨h.1.1,h.1.2.1,h.1.2.2.1,h.1.2.2.2.1,fun b hb _ h2=>h.1.2.2.2.2 b (.inl ⟨hb,fun hs=>hs.elim (h2 rfl).1 fun ⟨k,hk,hr⟩=>(h2 rfl).2 k hk hr⟩),nofun⟩
theorem Step.ok {fs:Nat→Fact B S} (hSB:∀ b,S b→b<B) {g g':Nat→Gh} {i j:Nat} {w' w'':World} (hst:Step B S (fs i).sh (fs i).eats g w' w'')
    (hg:∀ k,k≠i→g' k=g k) (hji:j≠i) (hj:(fs j).ok g j w') (hlo:B≤(g j).lo) (hhi:(g j).hi≤w'.heap.size) (hBw:B≤w'.heap.size)
    (hq1:∀ q T n,(fs j).sh=.store q T n→q≠i∧(g q).lo<w'.heap.size∧B≤(g q).lo)
    (hq2:∀ q T n,(fs i).sh=.store q T n→B≤(g q).lo∧(fs q).sh=.cell T n∧(∀ q' T' n',(fs j).sh=.store q' T' n'→(g q').lo≠(g q).lo)∧(j≠q→(g j).lo<(g j).hi→(g q).lo≠(g j).lo)∧(j≠q→(g q).lo<(g j).lo∨(g j).hi≤(g q).lo))
    (he:(fs i).sh=.eff→(fs j).sh≠.eff) (hwh:(fs j).sh=.whole→∀ q T n,(fs i).sh≠.store q T n) (hww:(fs j).isW=true→∀ q T n,(fs i).sh≠.store q T n) (hnd:∀ q,q∈(fs j).needs→q≠i)
    (hz:∀ k,k∈(fs i).eats→j≠k→(g j).hi≤(g k).lo∨(g k).hi≤(g j).lo) (hzB:∀ k,k∈(fs i).eats→B≤(g k).lo)
    (hzq:∀ k q T n,k∈(fs i).eats→(fs j).sh=.store q T n→(g q).lo<(g k).lo∨(g k).hi≤(g q).lo) (hzc:∀ k,k∈(fs i).eats→(fs k).until=some i)
    (hzw:∀ k,k∈(fs i).eats→(fs j).sh≠.whole) (hi0:(g' i).hi≠0):(fs j).ok g' j w'':=by
  have hgj:=hg j hji;have hz1:∀ k,k∈(fs i).eats→(fs j).until≠some i→(g j).hi≤(g k).lo∨(g k).hi≤(g j).lo:=fun k hk h=>hz k hk fun e=>h (e ▸ hzc k hk)
  have hne:∀ q T n,(fs i).sh=.store q T n→(∀ T n,(fs j).sh≠.cell T n)→j≠q:=fun q T n hq hc h=>by
    subst h;exact hc T n (hq2 _ T n hq).2.1
  cases hf:fs j with
  | any=>trivial
  | val c=>rw [hf] at hj; simp only [Fact.ok,hgj] at hj ⊢; exact hj
  | cell T n=>
    rw [hf] at hj
    simp only [Fact.ok,hgj] at hj ⊢
    obtain ⟨h1,h2,c,h3,h4⟩:=hj;refine ⟨h1,h2,?_⟩
    by_cases hq:∃ T' n',(fs i).sh=.store j T' n'
    · obtain ⟨T',n',hq⟩:=hq
      obtain ⟨c2,h5,h6⟩:=hst.stored j T' n' hq;have h7:=(hq2 j T' n' hq).2.1;rw [hf] at h7
      simp only [Fact.sh,Sh.cell.injEq] at h7
      rw [h7.1,h7.2]
      exact ⟨c2,h5,h6⟩
    · refine ⟨c,?_,h4⟩
      rw [hst.block _ (lt_of_block h3) (fun q T' n' hq' h=>?_) (fun _=>⟨fun h=>by have:=hSB _ h; omega,fun k hk hr=>by have h9:=hz1 k hk (by rw [hf]; nofun); have h8:=h2; omega⟩)]
      · exact h3
      · have hjq:j≠q:=fun h=>by subst h; exact hq ⟨T',n',hq'⟩
        exact (hq2 q T' n' hq').2.2.2.1 hjq h2 h.symm
  | new ob=>
    rw [hf] at hj
    simp only [Fact.ok,hgj] at hj ⊢
    refine ⟨hj.1,hj.2.1,?_⟩;have hlt:=lt_of_block hj.2.2;rw [hst.block _ hlt (fun q T n hq h=>?_) (fun _=>⟨fun h=>by have:=hSB _ h; omega,fun k hk hr=>by have h9:=hz1 k hk (by rw [hf]; nofun); have h8:=hj.2.1; omega⟩)]
    · exact hj.2.2
    · exact (hq2 q T n hq).2.2.2.1 (hne q T n hq fun _ _=>by rw [hf]; nofun) hj.2.1 h.symm
  | slice ob l=>
    rw [hf] at hj
    simp only [Fact.ok,hgj] at hj ⊢
    refine ⟨hj.1,hj.2.1,?_⟩;have hlt:=lt_of_block hj.2.2;rw [hst.block _ hlt (fun q T n hq h=>?_) (fun _=>⟨fun h=>by have:=hSB _ h; omega,fun k hk hr=>by have h9:=hz1 k hk (by rw [hf]; nofun); have h8:=hj.2.1; omega⟩)]
    · exact hj.2.2
    · exact (hq2 q T n hq).2.2.2.1 (hne q T n hq fun _ _=>by rw [hf]; nofun) hj.2.1 h.symm
  | stored q c T n hn=>
    obtain ⟨hqi,hlt,hqB⟩:=hq1 q T n (by rw [hf]; rfl);rw [hf] at hj
    simp only [Fact.ok,hgj,hg q hqi] at hj ⊢
    refine ⟨hj.1,?_⟩;rw [hst.block _ hlt (fun q2 T2 n2 hq h=>?_) (fun _=>⟨fun h=>by have:=hSB _ h; omega,fun k9 hk hr=>by have h9:=hzq k9 q T n hk (by rw [hf]; rfl); omega⟩)]
    · exact hj.2
    · exact (hq2 q2 T2 n2 hq).2.2.1 q T n (by rw [hf]; rfl) h
  | dep q p=>
    have hqi:q≠i:=hnd q (by rw [hf]; exact List.mem_singleton.2 rfl)
    rw [hf] at hj
    simp only [Fact.ok,hgj,hg q hqi] at hj ⊢
    exact hj
  | depN qs p=>
    rw [hf] at hj
    simp only [Fact.ok,hgj] at hj ⊢
    rw [List.map_congr_left (g:=fun q=>(g q).v) fun q hq=>by rw [hg q (hnd q (by rw [hf]; exact hq))]]
    exact hj
  | storedD q k c T n=>
    have hki:k≠i:=hnd k (by rw [hf]; exact List.mem_singleton.2 rfl)
    obtain ⟨hqi,hlt,hqB⟩:=hq1 q T n (by rw [hf]; rfl);rw [hf] at hj
    simp only [Fact.ok,hgj,hg q hqi,hg k hki] at hj ⊢
    refine ⟨hj.1,?_⟩;rw [hst.block _ hlt (fun q2 T2 n2 hq h=>?_) (fun _=>⟨fun h=>by have:=hSB _ h; omega,fun k9 hk hr=>by have h9:=hzq k9 q T n hk (by rw [hf]; rfl); omega⟩)]
    · exact hj.2
    · exact (hq2 q2 T2 n2 hq).2.2.1 q T n (by rw [hf]; rfl) h
  | pred p hp=>
    rw [hf] at hj
    simp only [Fact.ok,hgj] at hj ⊢
    refine hp _ _ _ _ _ hj ⟨hst.os,hst.tape,hst.output,hst.size,fun b hb=>hst.block b (by omega) (fun q T n hq h=>?_) (fun _=>⟨fun h=>?_,fun k hk hr=>?_⟩)⟩
    · have h1:=(hq2 q T n hq).1
      have:=(hq2 q T n hq).2.2.2.2 (hne q T n hq fun _ _=>by rw [hf]; nofun)
      omega
    · rcases hb with hb | hb
      · exact hb.2 h
      · have:=hSB _ h; omega
    · have h9:=hz1 k hk (by rw [hf]; nofun)
      have h8:=hzB k hk;omega
  | effW p hp=>
    rw [hf] at hj
    simp only [Fact.ok,hgj] at hj ⊢
    refine hp _ _ _ _ _ hj ⟨hst.os,hst.tape,hst.output,hst.size,fun b hb _=>hst.block b hb (fun q T n hq=>absurd hq (hww (by rw [hf]; rfl) q T n)) (fun h=>absurd (show (fs j).sh=.eff from by rw [hf]; rfl) (he h))⟩
  | effCW js p hp=>
    rw [hf] at hj
    simp only [Fact.ok,hgj] at hj ⊢
    refine hp _ _ _ _ _ hj ⟨hst.os,hst.tape,hst.output,hst.size,fun b hb _=>hst.block b hb (fun q T n hq=>absurd hq (hww (by rw [hf]; rfl) q T n)) (fun h=>absurd (show (fs j).sh=.eff from by rw [hf]; rfl) (he h))⟩
  | whole p hp=>
    rw [hf] at hj
    simp only [Fact.ok,hgj] at hj ⊢
    refine hp _ _ _ _ _ hj ⟨hst.os,hst.tape,hst.output,hst.size,fun b hb hn=>hst.block b hb (fun q T n hq=>absurd hq (hwh (by rw [hf]; rfl) q T n)) (fun _=>⟨fun h=>hn (hSB b h) h,fun k hk _=>hzw k hk (by rw [hf]; rfl)⟩)⟩
  | eff p hp=>
    rw [hf] at hj
    simp only [Fact.ok,hgj] at hj ⊢
    refine hp _ _ _ _ _ hj ⟨hst.os,hst.tape,hst.output,hst.size,fun b hb=>hst.block b (by omega) (fun q T n hq h=>?_) (fun h=>?_)⟩
    · have h1:=(hq2 q T n hq).1
      have:=(hq2 q T n hq).2.2.2.2 (hne q T n hq fun _ _=>by rw [hf]; nofun)
      omega
    · exact absurd (show (fs j).sh=.eff from by rw [hf]; rfl) (he h)
  | cons q0 p hp=>
    rw [hf] at hj
    simp only [Fact.ok,hgj] at hj ⊢
    intro h0;have hqi:q0≠i:=fun e=>hi0 (e ▸ h0)
    rw [hg q0 hqi] at h0
    refine hp _ _ _ _ _ (hj h0) ⟨hst.os,hst.tape,hst.output,hst.size,fun b hb=>hst.block b (by omega) (fun q T n hq h=>?_) (fun _=>⟨fun h=>?_,fun k hk hr=>?_⟩)⟩
    · have h1:=(hq2 q T n hq).1
      have:=(hq2 q T n hq).2.2.2.2 (hne q T n hq fun _ _=>by rw [hf]; nofun)
      omega
    · rcases hb with hb | hb
      · exact hb.2 h
      · have:=hSB _ h; omega
    · have h9:=hz1 k hk (by rw [hf]; simp [Fact.until,hqi])
      have h8:=hzB k hk;omega
  | effC j0 p hp=>
    rw [hf] at hj
    simp only [Fact.ok,hgj] at hj ⊢
    refine hp _ _ _ _ _ hj ⟨hst.os,hst.tape,hst.output,hst.size,fun b hb=>hst.block b (by omega) (fun q T n hq h=>?_) (fun h=>?_)⟩
    · have h1:=(hq2 q T n hq).1
      have:=(hq2 q T n hq).2.2.2.2 (hne q T n hq fun _ _=>by rw [hf]; nofun)
      omega
    · exact absurd (show (fs j).sh=.eff from by rw [hf]; rfl) (he h)
theorem Fact.of_mk {f:Fact B S} {g g':Nat→Gh} {i:Nat} {v:Value} {w w':World} (h:f.mk g v w w') (hi:g' i=⟨v,w.heap.size,w'.heap.size⟩) (hq:∀ q T n,f.sh=.store q T n→g' q=g q) (hnd:∀ q,q∈f.needs→g' q=g q):f.ok g' i w':=by
  cases f with
  | any=>trivial
  | val c=>simp only [Fact.ok,hi]; exact h.2
  | new ob=>obtain ⟨hb,b,h1,h2,h3⟩:=h; simp only [Fact.ok,hi]; subst h2; exact ⟨h1,lt_of_block h3,h3⟩
  | slice ob l=>obtain ⟨hb,b,h1,h2,h3⟩:=h; simp only [Fact.ok,hi]; subst h2; exact ⟨h1,lt_of_block h3,h3⟩
  | cell T n=>obtain ⟨hb,b,h1,h2,c,h3,h4⟩:=h; simp only [Fact.ok,hi]; subst h2; exact ⟨h1,lt_of_block h3,c,h3,h4⟩
  | stored q c T n hn=>simp only [Fact.ok,hi,hq q T n rfl]; exact ⟨h.2,h.1.at_⟩
  | dep q p=>simp only [Fact.ok,hi,hnd q (List.mem_singleton.2 rfl)]; exact h.2
  | depN qs p=>
    simp only [Fact.ok,hi]
    rw [List.map_congr_left (g:=fun q=>(g q).v) fun q hq=>by rw [hnd q hq]]
    exact h.2
  | storedD q j c T n=>simp only [Fact.ok,hi,hq q T n rfl,hnd j (List.mem_singleton.2 rfl)]; exact ⟨h.2.1,h.1.at_⟩
  | pred p hp=>simp only [Fact.ok,hi]; exact h.2
  | whole p hp=>simp only [Fact.ok,hi]; exact h.2
  | effW p hp=>simp only [Fact.ok,hi]; exact h.2
  | cons q p hp=>simp only [Fact.ok,hi]; exact fun _=>h.2
  | effC j p hp=>simp only [Fact.ok,hi]; exact h.2
  | effCW j p hp=>simp only [Fact.ok,hi]; exact h.2
  | eff p hp=>simp only [Fact.ok,hi]; exact h.2
theorem cell_lt {f:Fact B S} {g:Nat→Gh} {i:Nat} {w:World} {T:TypeId} {n:Nat} (h:f.ok g i w) (hs:f.sh=.cell T n):(g i).lo<(g i).hi:=by
  cases f with
  | cell T n=>exact h.2.1
  | _=>cases hs
theorem any_free (fs:Nat→Fact B S) (hW:(∀ i,(fs i).isW=false)∨∀ i q T n,(fs i).sh≠.store q T n) (hB:w.heap.size=B) (hSB:∀ b,S b→b<B)
    (hpos:0<B) (hE:∀ i j,j∈(fs i).eats→(∃ o,L[i]?=some o∧awaits o j=true)∧(fs j).until=some i∧∀ k,(fs k).sh≠.whole)
    (hs:freely L (fun i=>(fs i).sh)=true) (hN:∀ i o,L[i]?=some o→∀ q,q∈(fs i).needs→awaits o q=true) (he:EachF P L fs a { w with drawn:=w.drawn+1 } L 0)
    (hl:∀ g w',w'.os=w.os→w'.tape=w.tape→w'.output=w.output→w.heap.size≤w'.heap.size→(∀ b,b<B→¬ S b→w'.heap[b]?=w.heap[b]?)→
      (∀ i,i<L.length→(fs i).ok g i w'∧B≤(g i).lo∧(g i).lo≤(g i).hi∧(g i).hi≤w'.heap.size)→
      (∀ i j,i≠j→i<L.length→j<L.length→(g i).hi≤(g j).lo∨(g j).hi≤(g i).lo)→Q .normal (puts L (fun j=>(g j).v) 0 a) w') :
    wpAny P .any L.toArray Q L.toArray.size (Array.replicate L.toArray.size false) a { w with drawn:=w.drawn+1 }:=by
  have hdist:distinct L=true:=by simp only [freely,Bool.and_eq_true] at hs; exact hs.1
  refine wpAny_inv (fun listed a' w'=>listed.size=L.length∧∃ g,FInv L fs a { w with drawn:=w.drawn+1 } listed g a' w') ?_ ?_ _ _ _ _ ?_ ?_
  · rintro listed a' w' i o ⟨hsz,g,hI⟩ ho h0 hall
    have ho:L[i]?=some o:=by simpa using ho
    have hil:i<L.length:=(List.getElem?_eq_some_iff.1 ho).1;obtain ⟨hback,hstore,heff,_⟩:=freely_at hs ho;have hf:listed.getD i false=false:=by rw [getD_of (by omega) false true]; exact h0
    have hdep:∀ j,awaits o j=true→listed.getD j false=true∧j<L.length:=by
      intro j hj;obtain ⟨e,hem,heb,rfl⟩:=awaits_mem hj;exact ⟨hall e hem heb,by have:=hback e hem heb; omega⟩
    have hearly:early L (fun i=>(fs i).sh) i=true→effDone L (fun i=>(fs i).sh) listed=false:=by
      intro h;rw [effDone,List.any_eq_false];rintro ⟨o2,j⟩ hm2;have h1:=List.all_eq_true.1 h _ hm2;have ho2:L[j]?=some o2:=by
        obtain ⟨k,hk⟩:=List.mem_iff_getElem?.1 hm2;rw [List.getElem?_zipIdx] at hk
        cases hkk:L[k]? with
        | none=>rw [hkk] at hk; cases hk
        | some z=>
          rw [hkk] at hk
          simp only [Option.map_some,Option.some.injEq,Prod.mk.injEq,Nat.zero_add] at hk
          rw [←hk.2,hkk,hk.1]
      cases hc:(fs j).sh with
      | eff=>
        simp only [hc,Bool.or_eq_true,decide_eq_true_eq] at h1 ⊢
        rcases h1 with h1 | h1
        · subst h1; simp [hf]
        · intro hlj
          obtain ⟨e,hem,heb,hei⟩:=awaits_mem h1;have:=hI.closed j o2 ho2 hlj e hem heb;rw [hei,hf] at this
          cases this
      | _=>simp [hc]
    have hBw:B≤w'.heap.size:=by rw [←hB]; exact hI.size
    have hy:=eachF_at L 0 i o he ho g w' (by rw [Nat.zero_add]; exact hI.fresh i hil hf) hI.os hI.tape hI.output hI.size (fun b hb h=>hI.old b hb (h.imp (fun z=>z) (by rw [Nat.zero_add]; exact hearly)))
      (fun j hj=>⟨(hI.facts j (hdep j hj).2 (hdep j hj).1).1,(hI.facts j (hdep j hj).2 (hdep j hj).1).2.1,(hI.facts j (hdep j hj).2 (hdep j hj).1).2.2.2,fun q hq hqj=>hI.apart j q (Ne.symm hqj) (hdep j hj).2 (hdep q hq).2 (hdep j hj).1 (hdep q hq).1⟩)
    rw [Nat.zero_add] at hy
    rw [hI.act]
    refine hy.wp fun v w'' hmk=>⟨by simpa using hsz,(fun j=>if j=i then ⟨v,w'.heap.size,w''.heap.size⟩ else g j),?_⟩
    have hst:=Fact.step hmk;have hg:∀ k,k≠i→(fun j=>if j=i then (⟨v,w'.heap.size,w''.heap.size⟩:Gh) else g j) k=g k:=fun k hk=>if_neg hk
    have hgi:(fun j=>if j=i then (⟨v,w'.heap.size,w''.heap.size⟩:Gh) else g j) i=⟨v,w'.heap.size,w''.heap.size⟩:=if_pos rfl
    generalize (fun j=>if j=i then (⟨v,w'.heap.size,w''.heap.size⟩:Gh) else g j)=g' at hg hgi
    have hq2:∀ q T n,(fs i).sh=.store q T n→q≠i∧q<L.length∧listed.getD q false=true∧(fs q).sh=.cell T n∧B≤(g q).lo∧(g q).lo<(g q).hi∧(g q).hi≤w'.heap.size:=by
      intro q T n hq;obtain ⟨h1,h2,h3⟩:=hstore q T n hq;obtain ⟨h4,h5⟩:=hdep q h1;have h6:=hI.facts q h5 h4;exact ⟨fun h=>(by rw [h,hf] at h4; cases h4),h5,h4,h2,h6.2.1,cell_lt h6.1 h2,h6.2.2.2⟩
    have hz2:∀ k,k∈(fs i).eats→k<L.length∧listed.getD k false=true∧B≤(g k).lo∧(fs k).until=some i∧∀ j,(fs j).sh≠.whole:=by
      intro k hk;obtain ⟨⟨o',ho',ha⟩,hu,hx⟩:=hE i k hk;rw [ho] at ho'
      simp only [Option.some.injEq] at ho'
      subst ho';obtain ⟨h1,h2⟩:=hdep k ha;exact ⟨h2,h1,(hI.facts k h2 h1).2.1,hu,hx⟩
    have hmono:effDone L (fun i=>(fs i).sh) (listed.setIfInBounds i true)=false→effDone L (fun i=>(fs i).sh) listed=false∧(fs i).sh≠.eff:=by
      intro h;rw [effDone,List.any_eq_false] at h
      constructor
      · rw [effDone,List.any_eq_false]
        rintro ⟨o2,j⟩ hm2;have h1:=h _ hm2;cases hc:(fs j).sh with
        | eff=>
          simp only [hc] at h1 ⊢
          intro hlj;exact h1 (getD_set_true hlj)
        | _=>simp [hc]
      · intro hsh
        have hm2:(o,i)∈L.zipIdx:=by
          rw [List.mem_iff_getElem?]
          exact ⟨i,by simp [ho]⟩
        have h1:=h _ hm2;simp only [hsh] at h1
        exact h1 (by simp [hsz,hil])
    constructor
    · rw [puts_upd _ _ _ _ i _ _ hdist ho]
      refine puts_congr _ _ _ _ _ fun j _=>?_;rw [Nat.zero_add]
      by_cases hji:j=i
      · subst hji; rw [if_pos rfl,hgi]
      · rw [if_neg hji,hg j hji]
    · intro q oq hq hlq e hee heb
      by_cases hqi:q=i
      · subst hqi
        rw [hq] at ho
        cases ho
        exact getD_set_true (hall e hee heb)
      · exact getD_set_true (hI.closed q oq hq (getD_ne hlq hqi) e hee heb)
    · exact hst.os.trans hI.os
    · exact hst.tape.trans hI.tape
    · exact hst.output.trans hI.output
    · exact Nat.le_trans hI.size hst.size
    · intro b hb h
      rw [hst.block b (by omega) (fun q T n hq=>by have:=hq2 q T n hq; omega) (fun hsh=>⟨?_,fun k hk hr=>?_⟩),hI.old b hb (h.imp (fun z=>z) fun h=>(hmono h).1)]
      · rcases h with h | h
        · exact h
        · exact absurd hsh (hmono h).2
      · have:=(hz2 k hk).2.2.1; omega
    · intro j hjl hlj
      by_cases hji:j=i
      · subst hji
        refine ⟨Fact.of_mk hmk hgi (fun q T n hq=>hg q (hq2 q T n hq).1) (fun q hq=>hg q fun h=>?_),?_⟩
        · have h4:=(hdep q (hN j o ho q hq)).1
          rw [h,hf] at h4; cases h4
        rw [hgi]
        exact ⟨hBw,hst.size,Nat.le_refl _⟩
      · have hlj:=getD_ne hlj hji
        obtain ⟨h1,h2,h3,h4⟩:=hI.facts j hjl hlj;refine ⟨Step.ok hSB hst hg hji h1 h2 h4 hBw ?_ ?_ ?_ ?_ (fun hw=>?_) (fun q hq hqi=>?_) (fun k hk hjk=>hI.apart j k hjk hjl (hz2 k hk).1 hlj (hz2 k hk).2.1) (fun k hk=>(hz2 k hk).2.2.1)
            (fun k q T n hk hq=>?_) (fun k hk=>(hz2 k hk).2.2.2.1) (fun k hk=>(hz2 k hk).2.2.2.2 j) (by rw [hgi]; have:=hst.size; simp only; omega),?_⟩
        · intro q T n hq
          obtain ⟨oj,hoj⟩:∃ oj,L[j]?=some oj:=⟨L[j],by simp [hjl]⟩
          obtain ⟨_,hs2,_⟩:=freely_at hs hoj;obtain ⟨h5,h6,_⟩:=hs2 q T n hq;obtain ⟨e,hem,heb,hei⟩:=awaits_mem h5;have h7:=hI.closed j oj hoj hlj e hem heb;rw [hei] at h7
          have hql:q<L.length:=by
            have:=(freely_at hs hoj).1 e hem heb;omega
          have h8:=hI.facts q hql h7;have h9:=cell_lt h8.1 h6;exact ⟨fun h=>(by rw [h,hf] at h7; cases h7),by omega,h8.2.1⟩
        · intro q T n hq
          obtain ⟨a1,a2,a3,a4,a5,a6,a7⟩:=hq2 q T n hq;refine ⟨a5,a4,fun q' T' n' hq' heq=>?_,fun hjq hlt heq=>?_,fun hjq=>?_⟩
          · obtain ⟨oj,hoj⟩:∃ oj,L[j]?=some oj:=⟨L[j],by simp [hjl]⟩
            obtain ⟨_,hs2,_⟩:=freely_at hs hoj;obtain ⟨h5,h6,h10⟩:=hs2 q' T' n' hq';obtain ⟨e,hem,heb,hei⟩:=awaits_mem h5;have h7:=hI.closed j oj hoj hlj e hem heb;rw [hei] at h7
            have hql:q'<L.length:=by
              have:=(freely_at hs hoj).1 e hem heb;omega
            have h9:=cell_lt (hI.facts q' hql h7).1 h6;have hqq:q'≠q:=fun h=>by
              subst h;exact h10 i hil (Ne.symm hji) T n hq
            rcases hI.apart q' q hqq hql a2 h7 a3 with h | h <;> omega
          · rcases hI.apart j q hjq hjl a2 hlj a3 with h | h <;> omega
          · rcases hI.apart j q hjq hjl a2 hlj a3 with h | h <;> omega
        · intro hsh
          exact heff hsh j hjl hji
        · intro hsh
          obtain ⟨oj,hoj⟩:∃ oj,L[j]?=some oj:=⟨L[j],by simp [hjl]⟩
          exact (freely_at hs hoj).2.2.2 hsh i hil
        · rcases hW with hW | hW
          · rw [hW j] at hw; cases hw
          · exact hW i
        · obtain ⟨oj,hoj⟩:∃ oj,L[j]?=some oj:=⟨L[j],by simp [hjl]⟩
          obtain ⟨e,hem,heb,hei⟩:=awaits_mem (hN j oj hoj q hq);have h7:=hI.closed j oj hoj hlj e hem heb;rw [hei,hqi,hf] at h7
          cases h7
        · obtain ⟨oj,hoj⟩:∃ oj,L[j]?=some oj:=⟨L[j],by simp [hjl]⟩
          obtain ⟨_,hs2,_⟩:=freely_at hs hoj;obtain ⟨h5,h6,_⟩:=hs2 q T n hq;obtain ⟨e,hem,heb,hei⟩:=awaits_mem h5;have h7:=hI.closed j oj hoj hlj e hem heb;rw [hei] at h7
          have hql:q<L.length:=by
            have:=(freely_at hs hoj).1 e hem heb;omega
          have h9:=cell_lt (hI.facts q hql h7).1 h6;obtain ⟨k1,k2,k3,k4,_⟩:=hz2 k hk;have hqk:q≠k:=fun e=>by
            subst e;cases hc:fs q <;> rw [hc] at h6 k4 <;> first | (cases h6; done) | (cases k4; done)
          rcases hI.apart q k hqk hql k1 h7 k2 with h | h <;> omega
        · rw [hg j hji]
          exact ⟨h2,h3,Nat.le_trans h4 hst.size⟩
    · intro j k hjk hjl hkl hlj hlk
      by_cases hji:j=i
      · subst hji
        rw [hgi,hg k (Ne.symm hjk)]
        exact .inr (hI.facts k hkl (getD_ne hlk (Ne.symm hjk))).2.2.2
      · by_cases hki:k=i
        · subst hki
          rw [hgi,hg j hji]
          exact .inl (hI.facts j hjl (getD_ne hlj hji)).2.2.2
        · rw [hg j hji,hg k hki]
          exact hI.apart j k hjk hjl hkl (getD_ne hlj hji) (getD_ne hlk hki)
    · intro j hjl hlj
      by_cases hji:j=i
      · subst hji
        exfalso
        simp [hsz,hil] at hlj
      · rw [hg j hji]
        refine hI.fresh j hjl ?_
        rwa [getD_set_ne false (Ne.symm hji)] at hlj
  · rintro listed a' w' ⟨hsz,g,hI⟩ hr
    have hall:∀ i,i<L.length→listed.getD i false=true:=by
      intro i
      induction i using Nat.strongRecOn with
      | _ i ih=>
        intro hi;cases hc:listed.getD i false with
        | true=>rfl
        | false=>
          exfalso
          have hm:i∈Region.ready .any L.toArray listed:=by
            refine mem_ready.2 ⟨?_,L[i],by simp [hi],?_⟩
            · rw [getD_of (by omega) true false]; exact hc
            · intro e he heb
              have:=(freely_at hs (i:=i) (o:=L[i]) (by simp [hi])).1 e he heb
              exact ih e.on this (by omega)
          rw [hr] at hm
          cases hm
    rw [hI.act]
    exact hl g w' hI.os hI.tape hI.output hI.size (fun b hb h=>hI.old b hb (.inl h)) (fun i hi=>hI.facts i hi (hall i hi)) fun i j hij hi hj=>hI.apart i j hij hi hj (hall i hi) (hall j hj)
  · have:∀ n (b:Array Bool),left n b≤n:=fun n b=>by
      unfold left;exact Nat.le_trans (List.length_filter_le _ _) (by simp)
    exact this _ _
  · refine ⟨by simp,(fun i=>⟨start L a i,0,0⟩),?_⟩
    constructor
    · refine (puts_start a _ _ _ fun i oi hoi=>?_).symm
      simp only [start,Nat.zero_add,hoi]
    · intro i o _ h; rw [none_listed] at h; cases h
    · rfl
    · rfl
    · rfl
    · exact Nat.le_refl _
    · intro b _ _; rfl
    · intro i _ h; rw [none_listed] at h; cases h
    · intro i j _ _ _ h; rw [none_listed] at h; cases h
    · intro i _ _; rfl
theorem wp_free {id:Nat} (fs:Nat→Fact B S) (hW:(∀ i,(fs i).isW=false)∨∀ i q T n,(fs i).sh≠.store q T n) (hm:P.follows .mixedOrders=true) (hB:w.heap.size=B) (hSB:∀ b,S b→b<B)
    (hpos:0<B) (hE:∀ i j,j∈(fs i).eats→(∃ o,L[i]?=some o∧awaits o j=true)∧(fs j).until=some i∧∀ k,(fs k).sh≠.whole)
    (hs:freely L (fun i=>(fs i).sh)=true) (hN:∀ i o,L[i]?=some o→∀ q,q∈(fs i).needs→awaits o q=true) (he:EachF P L fs a { w with drawn:=w.drawn+1 } L 0)
    (hl:∀ g w',w'.os=w.os→w'.tape=w.tape→w'.output=w.output→w.heap.size≤w'.heap.size→(∀ b,b<B→¬ S b→w'.heap[b]?=w.heap[b]?)→
      (∀ i,i<L.length→(fs i).ok g i w'∧B≤(g i).lo∧(g i).lo≤(g i).hi∧(g i).hi≤w'.heap.size)→
      (∀ i j,i≠j→i<L.length→j<L.length→(g i).hi≤(g j).lo∨(g j).hi≤(g i).lo)→Q .normal (puts L (fun j=>(g j).v) 0 a) w') :
    (Code.region id L.toArray true).wp P Q a w:=wp_region_any hm (any_free fs hW hB hSB hpos hE hs hN he hl)
end
def okW {B:Nat} {S:Nat→Prop} (L:List Oper) (fl:List (Fact B S)):Bool:=((fl.all fun f=>!f.isW)||fl.all fun f=>match f.sh with | .store _ _ _=>false | _=>true)&&L.zipIdx.all fun (o,i)=>(fact fl i).needs.all fun q=>awaits o q
theorem okN_at {B:Nat} {S:Nat→Prop} {L:List Oper} {fl:List (Fact B S)} (h:okW L fl=true):∀ i o,L[i]?=some o→∀ q,q∈(fact fl i).needs→awaits o q=true:=by
  intro i o ho q hq;simp only [okW,Bool.and_eq_true] at h
  have hm:(o,i)∈L.zipIdx:=by
    rw [List.mem_iff_getElem?]
    exact ⟨i,by simp [ho]⟩
  exact List.all_eq_true.1 (List.all_eq_true.1 h.2 _ hm) q hq
theorem fact_mem {B:Nat} {S:Nat→Prop}:∀ (fl:List (Fact B S)) (i:Nat),fact fl i∈fl∨fact fl i=.any
  | [],_=>.inr rfl
  | _::_,0=>.inl (List.mem_cons_self ..)
  | _::l,n+1=>(fact_mem l n).imp (List.mem_cons_of_mem _) id
theorem okW_at {B:Nat} {S:Nat→Prop} {L:List Oper} {fl:List (Fact B S)} (h:okW L fl=true):(∀ i,(fact fl i).isW=false)∨∀ i q T n,(fact fl i).sh≠.store q T n:=by
  simp only [okW,Bool.and_eq_true,Bool.or_eq_true] at h
  have h:=h.1;simp only [List.all_eq_true] at h
  rcases h with h | h
  · refine .inl fun i=>?_
    rcases fact_mem fl i with hm | hm
    · simpa using h _ hm
    · rw [hm]; rfl
  · refine .inr fun i q T n hs=>?_
    rcases fact_mem fl i with hm | hm
    · have:=h _ hm
      rw [hs] at this
      cases this
    · rw [hm] at hs; cases hs
section
variable {P : Program} {Q : Exit → Act → World → Prop} {L : List Oper} {a : Act} {w : World} {N : Nat} {s : SL} {bs : List Nat}
theorem eachF_nil {B:Nat} {S:Nat→Prop} {fs:Nat→Fact B S} {w0:World} {i:Nat}:EachF P L fs a w0 [] i:=trivial
theorem eachE_early {fs:Nat→Fact w.heap.size (fun b=>b∈bs)} {o:Oper} {l:List Oper} {i:Nat} (r:Fr a N s) (hd:(o.guard.isNone&&dstsIn N L)=true) (he:early L (fun i=>(fs i).sh) i=true)
    (h:∀ a' g w',Below w.heap.size w w'→(∀ j,awaits o j=true→(fs j).ok g j w'∧w.heap.size≤(g j).lo∧(g j).hi≤w'.heap.size∧∀ q,awaits o q=true→q≠j→(g j).hi≤(g q).lo∨(g q).hi≤(g j).lo)→Fr a' N (putsS L (fun j=>(g j).v) 0 s)→
      Yields P o a' w' fun v w''=>(fs i).mk g v w' w'') (h2:EachF P L fs a w l (i+1)):EachF P L fs a w (o::l) i:=by
  simp only [Bool.and_eq_true] at hd
  exact ⟨fun g w' _ h1 h3 h4 h5 h6 h7=>.plain hd.1 (h _ g w' ⟨h1,h3,h4,h5,fun b hb=>h6 b hb (.inr he)⟩ h7 (r.puts L _ 0 hd.2)),h2⟩
theorem eachE_late {fs:Nat→Fact w.heap.size (fun b=>b∈bs)} {o:Oper} {l:List Oper} {i:Nat} (r:Fr a N s) (hd:(o.guard.isNone&&dstsIn N L)=true)
    (h:∀ a' g w',Chg (fun b=>b∈bs) w w'→(∀ j,awaits o j=true→(fs j).ok g j w'∧w.heap.size≤(g j).lo∧(g j).hi≤w'.heap.size∧∀ q,awaits o q=true→q≠j→(g j).hi≤(g q).lo∨(g q).hi≤(g j).lo)→Fr a' N (putsS L (fun j=>(g j).v) 0 s)→
      Yields P o a' w' fun v w''=>(fs i).mk g v w' w'') (h2:EachF P L fs a w l (i+1)):EachF P L fs a w (o::l) i:=by
  simp only [Bool.and_eq_true] at hd
  exact ⟨fun g w' _ h1 h3 h4 h5 h6 h7=>.plain hd.1 (h _ g w' ⟨h1,h3,h4,h5,fun b hb hn=>h6 b hb (.inl hn)⟩ h7 (r.puts L _ 0 hd.2)),h2⟩
end
end Go.Proofs.YtbbipmelhmgmfaaGreat.Fc
namespace Go.Proofs.YtbbipmelhmgmfaaGreat
open Go.RowKit
section
variable {R : Type} {P : Program} {E : Enc R} {w w' w0 : World} {L A B N : List Ck} {Z : Nat → Prop} {i k : Nat}
theorem RepL.zero:∀ {n:Nat} {t:T R} {F:Nat→Prop} {v:Value},RepL P E n t F w v→Rep P E 0 t F w v
  | _,.cut,_,_,h=>by unfold RepL at h; exact h.elim
  | _,.done _,_,_,h=>by unfold RepL at h; unfold Rep; exact h
  | 0,.act ..,_,_,h=>by unfold RepL at h; unfold Rep; exact h
  | m+1,.act op at_ a b k,F,v,h=>by
    unfold RepL at h; unfold Rep
    obtain ⟨f,first,cap,hc,hv,_⟩:=h;exact ⟨f,first,cap,hc,hv⟩
theorem RepL.next_at {n:Nat} {F:Nat→Prop} {v:Value} {t:T R} (h:RepL P E n t F w v) (hd:t.isDone=false):∃ (f:FuncId) (first cap:List Value),v.cells[5+E.n]?=some (kf f first cap)∧FnL P E u64 n F w (kf f first cap) t.next:=by
  cases t with
  | cut=>unfold RepL at h; exact h.elim
  | done r=>cases hd
  | act op at_ a b k=>
    obtain ⟨f,first,cap,_,rfl,hf⟩:=h.act_inv;refine ⟨f,first,cap,?_,hf⟩;simp only [progCells,Value.cells,List.getElem?_toArray];rw [show 5+E.n=(E.n+4)+1 from by omega,List.getElem?_cons_succ,List.getElem?_append_right (by rw [E.zlen]; omega),E.zlen]
    simp
def progL (P:Program) (E:Enc R) (x:Nat × T R) (v:Value) (F:List Nat):Ck:=
  ⟨F,[],fun w=>RepL P E x.1 x.2 (fun b=>b∈F) w v,fun _ _ h hs hr=>RepL.mono (fun _ h=>h) (fun b hb=>h b (.inl hb)) hs _ _ _ hr⟩
theorem Post.progl {x:Nat × T R} {v:Value} {F:List Nat} (h:Post Z L w0 w) (hi:L[i]?=some (progL P E x v F)):RepL P E x.1 x.2 (fun b=>b∈F) w v:=h.sep.get hi
theorem Post.progz {x:Nat × T R} {v:Value} {F:List Nat} (h:Post Z L w0 w) (hi:L[i]?=some (progL P E x v F)):Rep P E 0 x.2 (fun b=>b∈F) w v:=(h.progl hi).zero
theorem sep_progL {x:Nat × T R} {v:Value} {F:List Nat} (h:RepL P E x.1 x.2 (fun b=>b∈F) w v) (hl:∀ b,b∈F→b<w.heap.size):Sep [progL P E x v F] w:=
  ⟨h,(fun b hb=>by rcases hb with hb | hb; (exact hl b hb); (cases hb)),(fun _ h=>by cases h),trivial⟩
theorem fresh_progL {n:Nat} {t:T R} {v:Value} (hr:RepL P E n t (grow No w w') w' v):Fresh [progL P E (n,t) v (rg w.heap.size w'.heap.size)] w.heap.size w'.heap.size w':=
  ⟨sep_progL (RepL.mono (fun b hb=>mem_rg.2 (hb.resolve_left fun h=>h)) (Same.refl _ _) (Nat.le_refl _) _ _ _ hr) fun b hb=>(mem_rg.1 hb).2,fun c hc b hb=>by
    rcases List.mem_singleton.1 hc with rfl
    rcases hb with hb | hb
    · exact mem_rg.1 hb
    · cases hb⟩
theorem Post.addProgL {n:Nat} {t:T R} {v:Value} (h:Post Z L w0 w) (hb:Below w.heap.size w w') (hr:RepL P E n t (grow No w w') w' v):Post Z (L++[progL P E (n,t) v (rg w.heap.size w'.heap.size)]) w0 w':=
  h.addL (l:=[([progL P E (n,t) v (rg w.heap.size w'.heap.size)],w.heap.size,w'.heap.size)]) hb ⟨fresh_progL hr,Nat.le_refl _,disj_nil,trivial⟩
def PrL (P:Program) (E:Enc R) (x:Nat × T R):Value→Nat→Nat→World→Prop:=fun v lo hi w=>Fresh [progL P E x v (rg lo hi)] lo hi w
theorem PrL.st (x:Nat × T R) {B:Nat} {S:Nat→Prop}:∀ v lo hi w1 w2,PrL P E x v lo hi w1→Kept B S lo hi w1 w2→PrL P E x v lo hi w2:=by
  rintro v lo hi w1 w2 ⟨hs,hb⟩ ⟨_,_,_,hz,hk⟩;exact ⟨hs.keep hz fun c hc b hcb=>hk b (.inr (hb c hc b hcb)),hb⟩
theorem Post.callL {n:Nat} {t:T R} {v v0:Value} {x:Nat × T R} {F:List Nat} (h:Post Z L w0 w) (hk:L[k]?=some (progL P E x v0 F)) (hb:Chg (fun b=>b∈F) w w') (hr:RepL P E n t (grow (fun b=>b∈F) w w') w' v) :
    Post Z (L.set k (progL P E (n,t) v (F++rg w.heap.size w'.heap.size))) w0 w':=by
  have hz:=hb.size;have hl:∀ b,b∈F++rg w.heap.size w'.heap.size→b<w'.heap.size:=fun b hb=>by
    rcases List.mem_append.1 hb with hb | hb
    · exact Nat.lt_of_lt_of_le (h.sep.lt hk (.inl hb)) hz
    · exact (mem_rg.1 hb).2
  have hr':RepL P E n t (fun b=>b∈F++rg w.heap.size w'.heap.size) w' v:=RepL.mono (fun b hb=>List.mem_append.2 (hb.imp id mem_rg.2)) (Same.refl _ _) (Nat.le_refl _) _ _ _ hr
  have:=h.set (N:=[]) hk (c':=progL P E (n,t) v (F++rg w.heap.size w'.heap.size)) ⟨⟨sep_progL (x:=(n,t)) hr' hl,hb,fun c hc b hb=>?_⟩,fun c hc b hb=>by rcases List.mem_singleton.1 hc with rfl; cases hb⟩
  · rwa [List.append_nil] at this
  · rcases List.mem_singleton.1 hc with rfl
    rcases List.mem_append.1 hb with hb | hb
    · exact .inl hb
    · exact .inr (mem_rg.1 hb).1
theorem Post.frame {Y:Nat→Prop} (h:Post Z (A++B) w0 w) (h2:Done Y No N w w') (hY:∀ b,Y b→∃ e,e∈B∧b∈e.own):Post Z (A++N) w0 w':=by
  have hmem:∀ c,c∈A→∀ e,e∈B→e.clear c:=fun c hc e he=>by
    obtain ⟨i,hi⟩:=List.mem_iff_getElem?.1 hc;obtain ⟨j,hj⟩:=List.mem_iff_getElem?.1 he;have hil:=(List.getElem?_eq_some_iff.1 hi).1;exact (h.sep.clear (i:=i) (j:=A.length+j) (by rw [List.getElem?_append_left hil]; exact hi) (by rw [List.getElem?_append_right (by omega)]; simpa using hj) (by omega)).2
  have hold:∀ c,c∈A→∀ b,c.has b→b<w.heap.size∧¬ Y b:=fun c hc b hb=>⟨(h.sep.ok c (List.mem_append_left _ hc)).2 b hb,fun hy=>by
    obtain ⟨e,he,hbe⟩:=hY b hy;exact hmem c hc e he b hbe hb⟩
  have hnew:∀ d,d∈N→∀ b,d.has b→Y b∨w.heap.size≤b:=fun d hd b hb=>hb.elim (h2.mine d hd b) (fun hr=>.inr ((h2.rest d hd b hr).resolve_left fun h=>h))
  have hsz:=h.size;refine ⟨((h.sep.sub (List.sublist_append_left A B)).keep h2.chg.size fun c hc b hb=>h2.chg.block b (hold c hc b hb).1 (hold c hc b hb).2).append h2.sep fun c hc d hd=>⟨fun b h3 h4=>?_,fun b h3 h4=>?_⟩,h.chg.trans h2.chg (fun b hb hy=>?_),fun c hc b hb=>?_⟩
  · rcases hnew d hd b h4 with h5 | h5
    · exact (hold c hc b (.inl h3)).2 h5
    · have:=(hold c hc b (.inl h3)).1; omega
  · rcases hnew d hd b (.inl h3) with h5 | h5
    · exact (hold c hc b h4).2 h5
    · have:=(hold c hc b h4).1; omega
  · obtain ⟨e,he,hbe⟩:=hY b hy
    rcases h.mine e (List.mem_append_right _ he) b hbe with h5 | h5
    · exact h5
    · omega
  · rcases List.mem_append.1 hc with hc | hc
    · exact h.mine c (List.mem_append_left _ hc) b hb
    · rcases h2.mine c hc b hb with h5 | h5
      · obtain ⟨e,he,hbe⟩:=hY b h5
        exact h.mine e (List.mem_append_right _ he) b hbe
      · exact .inr (by omega)
end
/-! ### A step, a run, of a program that changes blocks of its own, in a region -/
section
variable {R : Type} {P : Program} {E : Enc R} {w w' w0 : World} {A : List Ck} {Z : Nat → Prop} {c c' : Ck}
def EffRL (P:Program) (E:Enc R) (B:Nat) (Y:List Nat) (c':Ck) (x:Nat × T R) (u:Value):Value→Nat→Nat→World→Prop:=
  fun v lo hi w=>∃ (y:Value) (F:List Nat),v=.tuple #[y,u]∧c'.ok w∧(∀ b,c'.has b→b<B)∧(∀ b,b∈Y→b<B)∧RepL P E x.1 x.2 (fun b=>b∈F) w y∧∀ b,b∈F→¬ c'.has b∧(b∈Y∨(lo≤b∧b<hi))
theorem EffRL.st {B:Nat} {Y:List Nat} {x:Nat × T R} {u:Value}:∀ v lo hi w1 w2,EffRL P E B Y c' x u v lo hi w1→Kept B (fun _=>False) lo hi w1 w2→EffRL P E B Y c' x u v lo hi w2:=by
  rintro v lo hi w1 w2 ⟨y,F,hv,hc,hb,hY,hr,hF⟩ ⟨_,_,_,hz,hk⟩;refine ⟨y,F,hv,c'.st _ _ (fun b h=>hk b (.inl ⟨hb b h,fun h=>h⟩)) hz hc,hb,hY,RepL.mono (fun _ h=>h) (fun b hb'=>?_) hz _ _ _ hr,hF⟩
  rcases (hF b hb').2 with h | h
  · exact hk b (.inl ⟨hY b h,fun h=>h⟩)
  · exact hk b (.inr h)
theorem EffRL.of {B:Nat} {Y:List Nat} {x:Nat × T R} {u y:Value} {F:List Nat} (h:Done (fun b=>b∈Y∨b∈c.own) No [c',progL P E x y F] w w') (ho:c'.own=c.own) (hlt:∀ b,c'.has b→b<B) (hY:∀ b,b∈Y→b<B) :
    EffRL P E B Y c' x u (.tuple #[y,u]) w.heap.size w'.heap.size w':=by
  have hm:progL P E x y F∈[c',progL P E x y F]:=List.mem_cons_of_mem _ (List.mem_singleton.2 rfl);have hcl:=h.sep.2.2.1 _ (List.mem_singleton.2 rfl);refine ⟨y,F,rfl,h.sep.1,hlt,hY,h.sep.2.2.2.1,fun b hb=>⟨fun hc=>hcl.2 b hb hc,?_⟩⟩
  rcases h.mine _ hm b hb with (h1 | h1) | h1
  · exact .inl h1
  · exact absurd (.inl (ho ▸ h1)) (fun hc=>hcl.2 b hb hc)
  · exact .inr ⟨h1,(h.sep.ok _ hm).2 b (.inl hb)⟩
end
end Go.Proofs.YtbbipmelhmgmfaaGreat

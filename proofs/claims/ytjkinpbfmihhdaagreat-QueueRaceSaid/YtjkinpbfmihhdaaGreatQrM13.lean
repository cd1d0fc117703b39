/- Some of our texts, one behind the other. -/
import Derived.Test.YtjkinpbfmihhdaaGreatQrM12
import Derived.Test.YtjkinpbfmihhdaaGreatQrM8
import Derived.WalkKit
import Derived.ProofKit
import Derived.OpenShut
import Derived.ShutString
import Derived.ChangeOld
import Derived.Below
import Derived.Carry
import Derived.SizedLaws
import Derived.Deep.Slices
import Derived.Deep.Fields
import Derived.ChangeSame
import Derived.Test.YtjkinpbfmihhdaaGreatRows
set_option linter.all false
/- Written by a program of ours (wip/gen.py): a law -/
set_option linter.unusedVariables false
set_option maxRecDepth 20000
set_option maxHeartbeats 2000000
namespace Go.Proofs.YtjkinpbfmihhdaaGreat.Wk
open Go.RowKit
theorem cl53 : callable Tryz.prog 53 = true := by kernel_rfl

theorem cl57 : callable Tryz.prog 57 = true := by kernel_rfl

theorem cl63 : callable Tryz.prog 63 = true := by kernel_rfl

theorem eg32 : Tryz.prog.eqGuardType Tryz.prog.depth 32 = false := by kernel_rfl

theorem eqs32 (x y : Res) (w : World) : (binOp .eql 32 (.agg (resC x).toArray) (.agg (resC y).toArray)).run Tryz.prog w = .ok (.bool (x == y)) w ∧ (binOp .neq 32 (.agg (resC x).toArray) (.agg (resC y).toArray)).run Tryz.prog w = .ok (.bool (!(x == y))) w :=
  eq_ints [(.i64, x.e, y.e), (.u64, x.v, y.v)] (by kernel_rfl) (by kernel_rfl) (by kernel_rfl) (by kernel_rfl) (by cases x; cases y; rw [Bool.eq_iff_iff]; simp)

theorem fo32_1 : fieldOff Tryz.prog 32 1 1 = true := by kernel_rfl

theorem ts29 : sized Tryz.prog 29 8 = true := by kernel_rfl

theorem tz29 : zeroOf Tryz.prog 29 = some (.agg (seatC (⟨(⟨0, 0, 0, 0, 0, 0⟩ : Plan), 0, 0⟩ : Seat)).toArray) := by kernel_rfl

def D.zz29 (fu : Nat) (a0 : List Bool) (a1 : List Bool) : Option (Bool) := (Option.bind ((D.zz2l fu ).bind (fun (x2 : Bool) => (bif (!x2) then (some true) else (bif (decide ((a0.length : Int) > 60)) then (some true) else (some (decide ((a1.length : Int) > 60))))))) (fun (x6 : Bool) => (bif x6 then ((D.zz2l fu ).bind (fun (x10 : Bool) => (some x10))) else ((D.zz2s fu (⟨6, 2, 7, 1, 1, 9⟩ : Plan)).bind (fun (x18 : Mem) => ((D.zz2w fu (fu, (D.zz1k (fu + 1) (⟨(⟨6, 2, 7, 1, 1, 9⟩ : Plan), 0, 0⟩ : Seat) 0 1)) (fu, (D.zz1k (fu + 1) (⟨(⟨6, 2, 7, 1, 1, 9⟩ : Plan), 0, 1⟩ : Seat) 0 2)) x18 a0).bind (fun (x27 : Res × Res × Bool × Mem) => ((D.zz34 fu (⟨6, 2, 7, 1, 1, 9⟩ : Plan) x27.2.2.2 0 0).bind (fun (x31 : List Int) => (Option.bind (bif (!x27.2.2.1) then (some true) else (bif (!(x27.1 == (⟨0, 0⟩ : Res))) then (some true) else (bif (!(x27.2.1 == (⟨0, 0⟩ : Res))) then (some true) else (bif ((x31.length : Int) != 2) then (some true) else ((getI x31 0).bind (fun (x44 : Int) => ((getI x31 1).bind (fun (x45 : Int) => (some ((IntKind.u64.wrap (x44 + x45)) != 3)))))))))) (fun (x47 : Bool) => (bif x47 then (some false) else ((D.zz2w fu (fu, (D.zz1d (fu + 1) (⟨(⟨6, 2, 7, 1, 1, 9⟩ : Plan), 0, 0⟩ : Seat) 0)) (fu, (D.zz1d (fu + 1) (⟨(⟨6, 2, 7, 1, 1, 9⟩ : Plan), 0, 1⟩ : Seat) 0)) x27.2.2.2 a1).bind (fun (x53 : Res × Res × Bool × Mem) => (Option.bind (bif x53.2.2.1 then (bif (x53.1.e == 0) then (bif (x53.2.1.e == 0) then (bif ((IntKind.u64.wrap (x53.1.v + x53.2.1.v)) == 3) then ((D.zz34 fu (⟨6, 2, 7, 1, 1, 9⟩ : Plan) x53.2.2.2 0 0).bind (fun (x62 : List Int) => (some ((x62.length : Int) == 0)))) else (some false)) else (some false)) else (some false)) else (some false)) (fun (x66 : Bool) => (some x66)))))))))))))))))

theorem zz7k {fu : Nat} (w0 : World) {a0_v : Value} (a0 : List Bool) (a0_h : RoAt 4 1 boolE a0_v a0 w0) {a1_v : Value} (a1 : List Bool) (a1_h : RoAt 4 1 boolE a1_v a1 w0) {res : Bool} (hD : D.zz29 fu a0 a1 = some res) :
    Calls Tryz.prog 13 #[a0_v, a1_v] w0 (PureRes (.bool res) w0) := by
 refine enter Tryz.func13 rfl 116 rfl rfl fun fr r => ?_
 have hP : Post No [] w0 w0 := Post.nil w0
 have hP : Post No [roK 4 1 boolE a0_v a0] w0 w0 := hP.addRo zz4m a0_h rfl a0_h.lt
 have hP : Post No [roK 4 1 boolE a0_v a0, roK 4 1 boolE a1_v a1] w0 w0 := hP.addRo (zzet rfl zz4m) a1_h rfl a1_h.lt
 unfold D.zz29 at hD
 refine wsr ?_
 refine seq_val (.bool false) r (fun R => zz05 r rfl) rfl fun fr r => ?_
 refine wn ?_
 refine wp_seq ?_
 refine wp_seq ?_
 refine zz2f (N := 116) (Y := Bool) (G := Unit) (fun x γ => [(0, a0_v), (1, a1_v), (4, (.bool false)), (27, (.bool x))]) (fun x γ w => Post No [roK 4 1 boolE a0_v a0, roK 4 1 boolE a1_v a1] w0 w) hD ?_ ?_
 ·
  rintro y1 RPy1 nxy1 hD
  refine wp_region_lit ?_
  obtain ⟨x2, hx2, hD⟩ := zz0f hD
  refine zz04 r (zz5x w0  hx2) (fun R hc => y_call r rfl cl53 hc) rfl ?_
  rintro _ w3 ⟨rfl, hb⟩
  refine ⟨_, rfl, fun fr r => ?_⟩
  have hP : Post No [roK 4 1 boolE a0_v a0, roK 4 1 boolE a1_v a1] w0 w3 := hP.below hb
  refine seq_val (.bool (!x2)) r (fun R => y_un r (u := (.bool x2)) rfl rfl) rfl fun fr r => ?_
  refine seq_val (.bool (!x2)) r (fun R => y_move r rfl) rfl fun fr r => ?_
  refine zz0x (!x2) (fun h4 => ?_) (fun h4 => ?_)
  ·
   have hD := (cond_t h4).symm.trans hD
   refine s0 r h4 fun fr r => ?_
   refine s0 r h4 fun fr r => ?_
   refine s0 r h4 fun fr r => ?_
   refine seq_val (.bool true) r (fun R => y_pick r (b := true) (congrArg Value.bool h4) rfl) rfl fun fr r => ?_
   refine seq_val (.bool true) r (fun R => y_move r rfl) rfl fun fr r => ?_
   refine s0 r (rfl : true = _) fun fr r => ?_
   refine s0 r (rfl : true = _) fun fr r => ?_
   refine s0 r (rfl : true = _) fun fr r => ?_
   refine seq_val (.bool true) r (fun R => y_pick r (b := true) (congrArg Value.bool (rfl : true = _)) rfl) rfl fun fr r => ?_
   refine wn ?_
   exact nxy1 true () _ _ _ hD r (hs_cons rfl (hs_cons rfl (hs_cons rfl (hs_cons rfl hs_nil)))) (hP.pick [0, 1] rfl rfl)
  ·
   have hD := (cond_f h4).symm.trans hD
   refine s1 r h4 ?_
   refine seq_val a0_v r (fun R => y_move r rfl) rfl fun fr r => ?_
   refine s1 r h4 ?_
   refine seq_val (I (a0.length : Int)) r (fun R => zz3f r (hP.ro (i := 0) rfl) is55 rfl) rfl fun fr r => ?_
   refine s1 r h4 ?_
   refine seq_val _ r (fun R => y_bin r rfl rfl rfl rfl) rfl fun fr r => ?_
   refine seq_val (.bool (decide ((a0.length : Int) > 60))) r (fun R => y_pick r (b := false) (congrArg Value.bool h4) rfl) rfl fun fr r => ?_
   refine seq_val (.bool (decide ((a0.length : Int) > 60))) r (fun R => y_move r rfl) rfl fun fr r => ?_
   refine zz0x (decide ((a0.length : Int) > 60)) (fun h5 => ?_) (fun h5 => ?_)
   ·
    have hD := (cond_t h5).symm.trans hD
    refine s0 r h5 fun fr r => ?_
    refine s0 r h5 fun fr r => ?_
    refine s0 r h5 fun fr r => ?_
    refine seq_val (.bool true) r (fun R => y_pick r (b := true) (congrArg Value.bool h5) rfl) rfl fun fr r => ?_
    refine wn ?_
    exact nxy1 true () _ _ _ hD r (hs_cons rfl (hs_cons rfl (hs_cons rfl (hs_cons rfl hs_nil)))) (hP.pick [0, 1] rfl rfl)
   ·
    have hD := (cond_f h5).symm.trans hD
    refine s1 r h5 ?_
    refine seq_val a1_v r (fun R => y_move r rfl) rfl fun fr r => ?_
    refine s1 r h5 ?_
    refine seq_val (I (a1.length : Int)) r (fun R => zz3f r (hP.ro (i := 1) rfl) is55 rfl) rfl fun fr r => ?_
    refine s1 r h5 ?_
    refine seq_val _ r (fun R => y_bin r rfl rfl rfl rfl) rfl fun fr r => ?_
    refine seq_val (.bool (decide ((a1.length : Int) > 60))) r (fun R => y_pick r (b := false) (congrArg Value.bool h5) rfl) rfl fun fr r => ?_
    refine wn ?_
    exact nxy1 (decide ((a1.length : Int) > 60)) () _ _ _ hD r (hs_cons rfl (hs_cons rfl (hs_cons rfl (hs_cons rfl hs_nil)))) (hP.pick [0, 1] rfl rfl)
 ·
  rintro x6 γ7 fr w8 g r hP hD
  have hP : Post No [roK 4 1 boolE a0_v a0, roK 4 1 boolE a1_v a1] w0 w8 := hP
  refine wp_cond_split (t := x6) (r.ev rfl) (fun h9 => ?_) (fun h9 => ?_)
  ·
   have hD := (cond_t h9).symm.trans hD
   refine wsr ?_
   obtain ⟨x10, hx10, hD⟩ := zz0f hD
   refine zz04 r (zz5x w8  hx10) (fun R hc => y_call r rfl cl53 hc) rfl ?_
   rintro _ w11 ⟨rfl, hb⟩
   refine ⟨_, rfl, fun fr r => ?_⟩
   have hP : Post No [roK 4 1 boolE a0_v a0, roK 4 1 boolE a1_v a1] w0 w11 := hP.below hb
   refine seq_val (.bool x10) r (fun R => zz05 r rfl) rfl fun fr r => ?_
   refine wn ?_
   refine wp_ret ?_
   have hv : x10 = res := Option.some.inj hD
   try dsimp only [Exit.then, Exit.inBlock]
   refine ret_tmp (fn := Tryz.f13) r (t := 4) rfl (v := (.bool x10)) rfl ?_
   subst hv
   exact ⟨rfl, hP.chg.below⟩
  ·
   have hD := (cond_f h9).symm.trans hD
   refine wp_skip ?_
   refine wsr ?_
   refine seq_val (.agg (planC (⟨6, 2, 7, 1, 1, 9⟩ : Plan)).toArray) r (fun R => y_build r (by kernel_rfl)) rfl fun fr r => ?_
   refine seq_new (.cells ((planC (⟨0, 0, 0, 0, 0, 0⟩ : Plan))).toArray 25 (0, 0)) r (fun R => y_alloc tz25) rfl fun fr b12 w13 n14 r => ?_
   have hP : Post No [roK 4 1 boolE a0_v a0, roK 4 1 boolE a1_v a1, cellC b12 ((planC (⟨0, 0, 0, 0, 0, 0⟩ : Plan))).toArray 25] w0 w13 := hP.new n14
   refine seq_upd (.cells ((planC (⟨6, 2, 7, 1, 1, 9⟩ : Plan))).toArray 25 (0, 0)) r (fun R => y_store r (o := 0) (v := (.agg (planC (⟨6, 2, 7, 1, 1, 9⟩ : Plan)).toArray)) rfl rfl (hP.cell (i := 2) rfl) ts25 (Nat.le_of_ble_eq_true rfl) rfl rfl) rfl fun fr w16 u17 r => ?_
   have hP : Post No [roK 4 1 boolE a0_v a0, roK 4 1 boolE a1_v a1, cellC b12 ((planC (⟨6, 2, 7, 1, 1, 9⟩ : Plan))).toArray 25] w0 w16 := hP.upd (i := 2) rfl u17
   refine wn ?_
   refine wsr ?_
   refine seq_val (.agg (planC (⟨6, 2, 7, 1, 1, 9⟩ : Plan)).toArray) r (fun R => zz03 r (cs := (planC (⟨6, 2, 7, 1, 1, 9⟩ : Plan))) (n := 6) rfl (hP.cell (i := 2) rfl) ta25 rfl) rfl fun fr r => ?_
   obtain ⟨x18, hx18, hD⟩ := zz0f hD
   refine zz04 r (zz67 w16 (⟨6, 2, 7, 1, 1, 9⟩ : Plan) hx18) (fun R hc => y_call r rfl cl55 hc) rfl ?_
   rintro _ w19 ⟨mg20, rfl, hq⟩
   refine ⟨_, rfl, fun fr r => ?_⟩
   have hP : Post No [roK 4 1 boolE a0_v a0, roK 4 1 boolE a1_v a1, cellC b12 ((planC (⟨6, 2, 7, 1, 1, 9⟩ : Plan))).toArray 25, memK mg20 x18] w0 w19 := hP.add hq
   refine seq_val (.pointer (some ⟨mg20.mb, 0, none⟩)) r (fun R => zz05 r rfl) rfl fun fr r => ?_
   refine wn ?_
   refine wp_seq ?_
   refine wsr ?_
   refine seq_val (.pointer (some ⟨mg20.mb, 0, none⟩)) r (fun R => y_move r rfl) rfl fun fr r => ?_
   refine seq_val _ r (fun R => y_bin r rfl rfl rfl rfl) rfl fun fr r => ?_
   refine wn ?_
   refine wp_cond_split (t := false) (r.ev rfl) (fun h => absurd ((rfl : false = _).symm.trans h) (by decide)) (fun _ => ?_)
   refine wp_skip ?_
   refine wp_seq ?_
   refine zz3e [.val (.agg (planC (⟨6, 2, 7, 1, 1, 9⟩ : Plan)).toArray), .val (.agg (seatC (⟨(⟨6, 2, 7, 1, 1, 9⟩ : Plan), 0, 0⟩ : Seat)).toArray), .val (.agg (planC (⟨6, 2, 7, 1, 1, 9⟩ : Plan)).toArray), .val (.agg (seatC (⟨(⟨6, 2, 7, 1, 1, 9⟩ : Plan), 0, 1⟩ : Seat)).toArray), .cell 29 8, .cell 29 8, .stored 4 ((seatC (⟨(⟨6, 2, 7, 1, 1, 9⟩ : Plan), 0, 0⟩ : Seat))).toArray 29 8 rfl, .stored 5 ((seatC (⟨(⟨6, 2, 7, 1, 1, 9⟩ : Plan), 0, 1⟩ : Seat))).toArray 29 8 rfl] mixed r (by kernel_rfl) ?_ ?_
   ·
    refine fc r (fun fr1 g w' hb' hd r' => zz03 r' (cs := (planC (⟨6, 2, 7, 1, 1, 9⟩ : Plan))) (n := 6) rfl ((hP.below (dr hb')).cell (i := 2) rfl) ta25 rfl bz) ?_
    refine fc r (fun fr1 g w' hb' hd r' => y_build r' (v := (.agg (seatC (⟨(⟨6, 2, 7, 1, 1, 9⟩ : Plan), 0, 0⟩ : Seat)).toArray)) (bs1 (congrArg (fun z => (0, z)) (hd 0 rfl).1) (by kernel_rfl)) bz) ?_
    refine fc r (fun fr1 g w' hb' hd r' => zz03 r' (cs := (planC (⟨6, 2, 7, 1, 1, 9⟩ : Plan))) (n := 6) rfl ((hP.below (dr hb')).cell (i := 2) rfl) ta25 rfl bz) ?_
    refine fc r (fun fr1 g w' hb' hd r' => y_build r' (v := (.agg (seatC (⟨(⟨6, 2, 7, 1, 1, 9⟩ : Plan), 0, 1⟩ : Seat)).toArray)) (bs2 (congrArg (fun z => (0, z)) (hd 2 rfl).1) (rfl) (by kernel_rfl)) bz) ?_
    refine fc r (fun fr1 g w' hb' hd r' => y_alloc tz29 (fun b w2 n2 => ⟨n2.below, b, rfl, n2.eq, _, n2.at_, rfl⟩)) ?_
    refine fc r (fun fr1 g w' hb' hd r' => y_alloc tz29 (fun b w2 n2 => ⟨n2.below, b, rfl, n2.eq, _, n2.at_, rfl⟩)) ?_
    refine zz9t r rfl (fun fr1 g w' hb' hd r' => ?_) ?_
    · obtain ⟨hp, _, c, hc, hn⟩ := (hd 4 rfl).1; exact y_store r' (o := 0) (c := c) (v := (.agg (seatC (⟨(⟨6, 2, 7, 1, 1, 9⟩ : Plan), 0, 0⟩ : Seat)).toArray)) hp (hd 1 rfl).1 hc ts29 (by rw [hn]; exact Nat.le_of_ble_eq_true rfl) rfl (zz3k (hn.trans rfl)) (fun w2 u2 => ⟨u2, rfl⟩)
    refine zz9t r rfl (fun fr1 g w' hb' hd r' => ?_) ?_
    · obtain ⟨hp, _, c, hc, hn⟩ := (hd 5 rfl).1; exact y_store r' (o := 0) (c := c) (v := (.agg (seatC (⟨(⟨6, 2, 7, 1, 1, 9⟩ : Plan), 0, 1⟩ : Seat)).toArray)) hp (hd 3 rfl).1 hc ts29 (by rw [hn]; exact Nat.le_of_ble_eq_true rfl) rfl (zz3k (hn.trans rfl)) (fun w2 u2 => ⟨u2, rfl⟩)
    exact zz1c
   ·
    intro fr gg w24 hb hΦ hap r
    obtain ⟨b22, ee_b22⟩ : ∃ b, b = (gg 4).lo := ⟨_, rfl⟩
    have g4 : (gg 4).v = (.pointer (some ⟨b22, 0, none⟩)) := by rw [ee_b22]; exact (hΦ 4 rfl).1.1
    have h_b22 : w24.heap[b22]? = some (.cells ((seatC (⟨(⟨6, 2, 7, 1, 1, 9⟩ : Plan), 0, 0⟩ : Seat))).toArray 29 (0, 0)) := by rw [ee_b22]; exact (hΦ 6 rfl).1.2
    have hs4 : Fresh [cellC b22 ((seatC (⟨(⟨6, 2, 7, 1, 1, 9⟩ : Plan), 0, 0⟩ : Seat))).toArray 29] (gg 4).lo (gg 4).hi w24 := by subst ee_b22; exact Fresh.cell (hΦ 4 rfl).1.2.1 h_b22
    obtain ⟨b23, ee_b23⟩ : ∃ b, b = (gg 5).lo := ⟨_, rfl⟩
    have g5 : (gg 5).v = (.pointer (some ⟨b23, 0, none⟩)) := by rw [ee_b23]; exact (hΦ 5 rfl).1.1
    have h_b23 : w24.heap[b23]? = some (.cells ((seatC (⟨(⟨6, 2, 7, 1, 1, 9⟩ : Plan), 0, 1⟩ : Seat))).toArray 29 (0, 0)) := by rw [ee_b23]; exact (hΦ 7 rfl).1.2
    have hs5 : Fresh [cellC b23 ((seatC (⟨(⟨6, 2, 7, 1, 1, 9⟩ : Plan), 0, 1⟩ : Seat))).toArray 29] (gg 5).lo (gg 5).hi w24 := by subst ee_b23; exact Fresh.cell (hΦ 5 rfl).1.2.1 h_b23
    have r := r.congr (sc g5 (sc g4 (sc ((hΦ 3 rfl).1) (sc ((hΦ 2 rfl).1) (sc ((hΦ 1 rfl).1) (sc ((hΦ 0 rfl).1) rfl))))))
    have hP : Post No [roK 4 1 boolE a0_v a0, roK 4 1 boolE a1_v a1, cellC b12 ((planC (⟨6, 2, 7, 1, 1, 9⟩ : Plan))).toArray 25, memK mg20 x18, cellC b22 ((seatC (⟨(⟨6, 2, 7, 1, 1, 9⟩ : Plan), 0, 0⟩ : Seat))).toArray 29, cellC b23 ((seatC (⟨(⟨6, 2, 7, 1, 1, 9⟩ : Plan), 0, 1⟩ : Seat))).toArray 29] w0 w24 := hP.addL (l := [([cellC b22 ((seatC (⟨(⟨6, 2, 7, 1, 1, 9⟩ : Plan), 0, 0⟩ : Seat))).toArray 29], (gg 4).lo, (gg 4).hi), ([cellC b23 ((seatC (⟨(⟨6, 2, 7, 1, 1, 9⟩ : Plan), 0, 1⟩ : Seat))).toArray 29], (gg 5).lo, (gg 5).hi)]) hb ⟨hs4, (hΦ 4 rfl).2.1, (zz2c (hap 4 5 rfl) zz26), ⟨hs5, (hΦ 5 rfl).2.1, zz26, trivial⟩⟩
    refine wp_seq ?_
    obtain ⟨x27, hx27, hD⟩ := zz0f hD
    refine zz6d mg20.bs [.val (.agg (seatC (⟨(⟨6, 2, 7, 1, 1, 9⟩ : Plan), 0, 0⟩ : Seat)).toArray), .pred (PrP Tryz.prog encRes (fu, (D.zz1k (fu + 1) (⟨(⟨6, 2, 7, 1, 1, 9⟩ : Plan), 0, 0⟩ : Seat) 0 1))) (PrP.st _), .val (.agg (seatC (⟨(⟨6, 2, 7, 1, 1, 9⟩ : Plan), 0, 1⟩ : Seat)).toArray), .pred (PrP Tryz.prog encRes (fu, (D.zz1k (fu + 1) (⟨(⟨6, 2, 7, 1, 1, 9⟩ : Plan), 0, 1⟩ : Seat) 0 2))) (PrP.st _), .val (.pointer (some ⟨mg20.mb, 0, none⟩)), .val a0_v, .eff (EffP w24.heap.size (memK mg20 x27.2.2.2) (fun _ : Unit => (.tuple #[(.agg (resC x27.1).toArray), (.agg (resC x27.2.1).toArray), (.bool x27.2.2.1)])) (fun _ : Unit => [])) (EffP.st _ _ _ _), .val (.tuple #[(.agg (resC x27.1).toArray), (.agg (resC x27.2.1).toArray), (.bool x27.2.2.1)]), .val (.agg (resC x27.1).toArray), .val (.agg (resC x27.2.1).toArray), .val (.bool x27.2.2.1), .cell 32 2, .cell 32 2, .stored 11 ((resC x27.1)).toArray 32 2 rfl, .stored 12 ((resC x27.2.1)).toArray 32 2 rfl, .val (.bool x27.2.2.1)] mixed r (fun b hb => hP.sep.lt (i := 3) rfl (.inl hb)) (by kernel_rfl) ?_ ?_
    ·
     refine zz08 r rfl (fun fr1 g w' hk' hd r' => ?_) ?_
     · exact zz03 r' (cs := (seatC (⟨(⟨6, 2, 7, 1, 1, 9⟩ : Plan), 0, 0⟩ : Seat))) (n := 8) rfl (hP.cellK (j := 3) rfl (drK hk') (i := 4) rfl rfl) ta29 rfl ⟨Below.refl _ _, rfl⟩
     refine zz0o r rfl (by kernel_rfl) (fun fr1 g w' hb' hd r' => ?_) ?_
     · exact y_call r' (args := [(.agg (seatC (⟨(⟨6, 2, 7, 1, 1, 9⟩ : Plan), 0, 0⟩ : Seat)).toArray), (I 0), (U 1)]) (lc (hd 0 rfl).1 (lc rfl (lc rfl l0))) cl59 ((zzb3 (F := No) (n := fu) (j := fu + 1) (fun _ h => h.elim) (by omega) (⟨(⟨6, 2, 7, 1, 1, 9⟩ : Plan), 0, 0⟩ : Seat) 0 1).mono (by rintro _ w2 ⟨y, rfl, hb2, hr2⟩; exact ⟨_, rfl, hb2, zz72 hr2⟩))
     refine zz08 r rfl (fun fr1 g w' hk' hd r' => ?_) ?_
     · exact zz03 r' (cs := (seatC (⟨(⟨6, 2, 7, 1, 1, 9⟩ : Plan), 0, 1⟩ : Seat))) (n := 8) rfl (hP.cellK (j := 3) rfl (drK hk') (i := 5) rfl rfl) ta29 rfl ⟨Below.refl _ _, rfl⟩
     refine zz0o r rfl (by kernel_rfl) (fun fr1 g w' hb' hd r' => ?_) ?_
     · exact y_call r' (args := [(.agg (seatC (⟨(⟨6, 2, 7, 1, 1, 9⟩ : Plan), 0, 1⟩ : Seat)).toArray), (I 0), (U 2)]) (lc (hd 2 rfl).1 (lc rfl (lc rfl l0))) cl59 ((zzb3 (F := No) (n := fu) (j := fu + 1) (fun _ h => h.elim) (by omega) (⟨(⟨6, 2, 7, 1, 1, 9⟩ : Plan), 0, 1⟩ : Seat) 0 2).mono (by rintro _ w2 ⟨y, rfl, hb2, hr2⟩; exact ⟨_, rfl, hb2, zz72 hr2⟩))
     refine zz0o r rfl (by kernel_rfl) (fun fr1 g w' hb' hd r' => ?_) ?_
     · exact y_move r' (v := (.pointer (some ⟨mg20.mb, 0, none⟩))) rfl ⟨Below.refl _ _, rfl⟩
     refine zz0o r rfl (by kernel_rfl) (fun fr1 g w' hb' hd r' => ?_) ?_
     · exact y_move r' (v := a0_v) rfl ⟨Below.refl _ _, rfl⟩
     refine zz0o r rfl (by kernel_rfl) (fun fr1 g w' hb' hd r' => ?_) ?_
     · exact y_call r' (args := [(g 1).v, (g 3).v, (.pointer (some ⟨mg20.mb, 0, none⟩)), a0_v]) (lc rfl (lc rfl (lc (hd 4 rfl).1 (lc (hd 5 rfl).1 l0)))) cl63 ((zz66 _ (fu, (D.zz1k (fu + 1) (⟨(⟨6, 2, 7, 1, 1, 9⟩ : Plan), 0, 0⟩ : Seat) 0 1)) (fu, (D.zz1k (fu + 1) (⟨(⟨6, 2, 7, 1, 1, 9⟩ : Plan), 0, 1⟩ : Seat) 0 2)) x18 a0 (Sep.beside2 (hd 1 rfl).1 (hd 3 rfl).1 ((hd 1 rfl).2.2.2 3 rfl (by decide)) ((hP.below (dr hb')).sep.pk [3, 0] rfl rfl) (by intro c hc b hb; simp only [List.mem_cons, List.not_mem_nil, or_false] at hc; rcases hc with rfl | rfl; exact hP.sep.lt (i := 3) rfl hb; exact hP.sep.lt (i := 0) rfl hb) (hd 1 rfl).2.1 (hd 3 rfl).2.1) hx27).mono (by rintro _ w2 ⟨rfl, hq⟩; exact ⟨_, rfl, hq.chg.kept, EffP.of () hq rfl (fun b hb => hP.sep.lt (i := 3) rfl hb)⟩))
     refine zz08 r rfl (fun fr1 g w' hk' hd r' => ?_) ?_
     · exact y_move r' (v := (.tuple #[(.agg (resC x27.1).toArray), (.agg (resC x27.2.1).toArray), (.bool x27.2.2.1)])) (EffP.val (hd 6 rfl).1) ⟨Below.refl _ _, rfl⟩
     refine zz08 r rfl (fun fr1 g w' hk' hd r' => ?_) ?_
     · exact zz0t r' (vs := #[(.agg (resC x27.1).toArray), (.agg (resC x27.2.1).toArray), (.bool x27.2.2.1)]) (hd 7 rfl).1 rfl ⟨Below.refl _ _, rfl⟩
     refine zz08 r rfl (fun fr1 g w' hk' hd r' => ?_) ?_
     · exact zz0t r' (vs := #[(.agg (resC x27.1).toArray), (.agg (resC x27.2.1).toArray), (.bool x27.2.2.1)]) (hd 7 rfl).1 rfl ⟨Below.refl _ _, rfl⟩
     refine zz08 r rfl (fun fr1 g w' hk' hd r' => ?_) ?_
     · exact zz0t r' (vs := #[(.agg (resC x27.1).toArray), (.agg (resC x27.2.1).toArray), (.bool x27.2.2.1)]) (hd 7 rfl).1 rfl ⟨Below.refl _ _, rfl⟩
     refine zz08 r rfl (fun fr1 g w' hk' hd r' => ?_) ?_
     · exact y_alloc tz32 (fun b w2 n2 => ⟨n2.below, b, rfl, n2.eq, _, n2.at_, rfl⟩)
     refine zz08 r rfl (fun fr1 g w' hk' hd r' => ?_) ?_
     · exact y_alloc tz32 (fun b w2 n2 => ⟨n2.below, b, rfl, n2.eq, _, n2.at_, rfl⟩)
     refine zz08 r rfl (fun fr1 g w' hk' hd r' => ?_) ?_
     · obtain ⟨hp, _, c, hc, hn⟩ := (hd 11 rfl).1; exact y_store r' (o := 0) (c := c) (v := (.agg (resC x27.1).toArray)) hp (hd 8 rfl).1 hc ts32 (by rw [hn]; exact Nat.le_of_ble_eq_true rfl) rfl (zz3k (hn.trans rfl)) (fun w2 u2 => ⟨u2, rfl⟩)
     refine zz08 r rfl (fun fr1 g w' hk' hd r' => ?_) ?_
     · obtain ⟨hp, _, c, hc, hn⟩ := (hd 12 rfl).1; exact y_store r' (o := 0) (c := c) (v := (.agg (resC x27.2.1).toArray)) hp (hd 9 rfl).1 hc ts32 (by rw [hn]; exact Nat.le_of_ble_eq_true rfl) rfl (zz3k (hn.trans rfl)) (fun w2 u2 => ⟨u2, rfl⟩)
     refine zz08 r rfl (fun fr1 g w' hk' hd r' => ?_) ?_
     · exact zz05 r' (v := (.bool x27.2.2.1)) (hd 10 rfl).1 ⟨Below.refl _ _, rfl⟩
     exact zz1c
    ·
     intro fr gg w30 hb hΦ hap r
     obtain ⟨v25, hv1⟩ : ∃ v, v = (gg 1).v := ⟨_, rfl⟩
     have g1 : (gg 1).v = v25 := hv1.symm
     have hs1 : Fresh [progK Tryz.prog encRes (fu, (D.zz1k (fu + 1) (⟨(⟨6, 2, 7, 1, 1, 9⟩ : Plan), 0, 0⟩ : Seat) 0 1)) v25 (rg (gg 1).lo (gg 1).hi)] (gg 1).lo (gg 1).hi w30 := by subst hv1; exact (hΦ 1 rfl).1
     obtain ⟨v26, hv3⟩ : ∃ v, v = (gg 3).v := ⟨_, rfl⟩
     have g3 : (gg 3).v = v26 := hv3.symm
     have hs3 : Fresh [progK Tryz.prog encRes (fu, (D.zz1k (fu + 1) (⟨(⟨6, 2, 7, 1, 1, 9⟩ : Plan), 0, 1⟩ : Seat) 0 2)) v26 (rg (gg 3).lo (gg 3).hi)] (gg 3).lo (gg 3).hi w30 := by subst hv3; exact (hΦ 3 rfl).1
     obtain ⟨⟨⟩, g6, hcE, _, hs6⟩ := (hΦ 6 rfl).1
     obtain ⟨b28, ee_b28⟩ : ∃ b, b = (gg 11).lo := ⟨_, rfl⟩
     have g11 : (gg 11).v = (.pointer (some ⟨b28, 0, none⟩)) := by rw [ee_b28]; exact (hΦ 11 rfl).1.1
     have h_b28 : w30.heap[b28]? = some (.cells ((resC x27.1)).toArray 32 (0, 0)) := by rw [ee_b28]; exact (hΦ 13 rfl).1.2
     have hs11 : Fresh [cellC b28 ((resC x27.1)).toArray 32] (gg 11).lo (gg 11).hi w30 := by subst ee_b28; exact Fresh.cell (hΦ 11 rfl).1.2.1 h_b28
     obtain ⟨b29, ee_b29⟩ : ∃ b, b = (gg 12).lo := ⟨_, rfl⟩
     have g12 : (gg 12).v = (.pointer (some ⟨b29, 0, none⟩)) := by rw [ee_b29]; exact (hΦ 12 rfl).1.1
     have h_b29 : w30.heap[b29]? = some (.cells ((resC x27.2.1)).toArray 32 (0, 0)) := by rw [ee_b29]; exact (hΦ 14 rfl).1.2
     have hs12 : Fresh [cellC b29 ((resC x27.2.1)).toArray 32] (gg 12).lo (gg 12).hi w30 := by subst ee_b29; exact Fresh.cell (hΦ 12 rfl).1.2.1 h_b29
     have r := r.congr (sc ((hΦ 15 rfl).1) (sc g12 (sc g11 (sc ((hΦ 10 rfl).1) (sc ((hΦ 9 rfl).1) (sc ((hΦ 8 rfl).1) (sc ((hΦ 7 rfl).1) (sc g6 (sc ((hΦ 5 rfl).1) (sc ((hΦ 4 rfl).1) (sc g3 (sc ((hΦ 2 rfl).1) (sc g1 (sc ((hΦ 0 rfl).1) rfl))))))))))))))
     have hP : Post No [roK 4 1 boolE a0_v a0, roK 4 1 boolE a1_v a1, cellC b12 ((planC (⟨6, 2, 7, 1, 1, 9⟩ : Plan))).toArray 25, memK mg20 x27.2.2.2, cellC b22 ((seatC (⟨(⟨6, 2, 7, 1, 1, 9⟩ : Plan), 0, 0⟩ : Seat))).toArray 29, cellC b23 ((seatC (⟨(⟨6, 2, 7, 1, 1, 9⟩ : Plan), 0, 1⟩ : Seat))).toArray 29, progK Tryz.prog encRes (fu, (D.zz1k (fu + 1) (⟨(⟨6, 2, 7, 1, 1, 9⟩ : Plan), 0, 0⟩ : Seat) 0 1)) v25 (rg (gg 1).lo (gg 1).hi), progK Tryz.prog encRes (fu, (D.zz1k (fu + 1) (⟨(⟨6, 2, 7, 1, 1, 9⟩ : Plan), 0, 1⟩ : Seat) 0 2)) v26 (rg (gg 3).lo (gg 3).hi), cellC b28 ((resC x27.1)).toArray 32, cellC b29 ((resC x27.2.1)).toArray 32] w0 w30 := hP.effL (i := 3) (l := [([progK Tryz.prog encRes (fu, (D.zz1k (fu + 1) (⟨(⟨6, 2, 7, 1, 1, 9⟩ : Plan), 0, 0⟩ : Seat) 0 1)) v25 (rg (gg 1).lo (gg 1).hi)], (gg 1).lo, (gg 1).hi), ([progK Tryz.prog encRes (fu, (D.zz1k (fu + 1) (⟨(⟨6, 2, 7, 1, 1, 9⟩ : Plan), 0, 1⟩ : Seat) 0 2)) v26 (rg (gg 3).lo (gg 3).hi)], (gg 3).lo, (gg 3).hi), ([cellC b28 ((resC x27.1)).toArray 32], (gg 11).lo, (gg 11).hi), ([cellC b29 ((resC x27.2.1)).toArray 32], (gg 12).lo, (gg 12).hi)]) rfl hb hcE rfl rfl ⟨hs1, (hΦ 1 rfl).2.1, (zz2c (hap 1 3 rfl) (zz2c (hap 1 11 rfl) (zz2c (hap 1 12 rfl) zz26))), ⟨hs3, (hΦ 3 rfl).2.1, (zz2c (hap 3 11 rfl) (zz2c (hap 3 12 rfl) zz26)), ⟨hs11, (hΦ 11 rfl).2.1, (zz2c (hap 11 12 rfl) zz26), ⟨hs12, (hΦ 12 rfl).2.1, zz26, trivial⟩⟩⟩⟩
     refine wsr ?_
     refine seq_val (.agg (planC (⟨6, 2, 7, 1, 1, 9⟩ : Plan)).toArray) r (fun R => zz03 r (cs := (planC (⟨6, 2, 7, 1, 1, 9⟩ : Plan))) (n := 6) rfl (hP.cell (i := 2) rfl) ta25 rfl) rfl fun fr r => ?_
     refine seq_val (.pointer (some ⟨mg20.mb, 0, none⟩)) r (fun R => y_move r rfl) rfl fun fr r => ?_
     obtain ⟨x31, hx31, hD⟩ := zz0f hD
     refine zz04 r (zz9i w30 (⟨6, 2, 7, 1, 1, 9⟩ : Plan) x27.2.2.2 (hP.mem (i := 3) rfl) 0 0 hx31) (fun R hc => y_call r rfl cl62 hc) rfl ?_
     rintro _ w32 ⟨v33, rfl, hq⟩
     refine ⟨_, rfl, fun fr r => ?_⟩
     have hP : Post No [roK 4 1 boolE a0_v a0, roK 4 1 boolE a1_v a1, cellC b12 ((planC (⟨6, 2, 7, 1, 1, 9⟩ : Plan))).toArray 25, memK mg20 x27.2.2.2, cellC b22 ((seatC (⟨(⟨6, 2, 7, 1, 1, 9⟩ : Plan), 0, 0⟩ : Seat))).toArray 29, cellC b23 ((seatC (⟨(⟨6, 2, 7, 1, 1, 9⟩ : Plan), 0, 1⟩ : Seat))).toArray 29, progK Tryz.prog encRes (fu, (D.zz1k (fu + 1) (⟨(⟨6, 2, 7, 1, 1, 9⟩ : Plan), 0, 0⟩ : Seat) 0 1)) v25 (rg (gg 1).lo (gg 1).hi), progK Tryz.prog encRes (fu, (D.zz1k (fu + 1) (⟨(⟨6, 2, 7, 1, 1, 9⟩ : Plan), 0, 1⟩ : Seat) 0 2)) v26 (rg (gg 3).lo (gg 3).hi), cellC b28 ((resC x27.1)).toArray 32, cellC b29 ((resC x27.2.1)).toArray 32, rowK 22 1 u64 v33 x31] w0 w32 := hP.add hq
     refine seq_val v33 r (fun R => zz05 r rfl) rfl fun fr r => ?_
     refine wn ?_
     refine wp_seq ?_
     refine wp_seq ?_
     have hP : Post No [roK 4 1 boolE a0_v a0, roK 4 1 boolE a1_v a1, cellC b12 ((planC (⟨6, 2, 7, 1, 1, 9⟩ : Plan))).toArray 25, memK mg20 x27.2.2.2, cellC b22 ((seatC (⟨(⟨6, 2, 7, 1, 1, 9⟩ : Plan), 0, 0⟩ : Seat))).toArray 29, cellC b23 ((seatC (⟨(⟨6, 2, 7, 1, 1, 9⟩ : Plan), 0, 1⟩ : Seat))).toArray 29, cellC b28 ((resC x27.1)).toArray 32, cellC b29 ((resC x27.2.1)).toArray 32, rowK 22 1 u64 v33 x31] w0 w32 := hP.pick [0, 1, 2, 3, 4, 5, 8, 9, 10] rfl rfl
     refine zz2f (N := 116) (Y := Bool) (G := Unit) (fun x γ => [(0, a0_v), (1, a1_v), (4, (.bool false)), (27, (.bool x6)), (5, (.pointer (some ⟨b12, 0, none⟩))), (6, (.pointer (some ⟨mg20.mb, 0, none⟩))), (33, (.bool false)), (7, (.pointer (some ⟨b22, 0, none⟩))), (8, (.pointer (some ⟨b23, 0, none⟩))), (9, (.pointer (some ⟨b28, 0, none⟩))), (10, (.pointer (some ⟨b29, 0, none⟩))), (11, (.bool x27.2.2.1)), (12, v33), (78, (.bool x))]) (fun x γ w => Post No [roK 4 1 boolE a0_v a0, roK 4 1 boolE a1_v a1, cellC b12 ((planC (⟨6, 2, 7, 1, 1, 9⟩ : Plan))).toArray 25, memK mg20 x27.2.2.2, cellC b22 ((seatC (⟨(⟨6, 2, 7, 1, 1, 9⟩ : Plan), 0, 0⟩ : Seat))).toArray 29, cellC b23 ((seatC (⟨(⟨6, 2, 7, 1, 1, 9⟩ : Plan), 0, 1⟩ : Seat))).toArray 29, cellC b28 ((resC x27.1)).toArray 32, cellC b29 ((resC x27.2.1)).toArray 32, rowK 22 1 u64 v33 x31] w0 w) hD ?_ ?_
     ·
      rintro y35 RPy35 nxy35 hD
      refine zz0x (!x27.2.2.1) (fun h36 => ?_) (fun h36 => ?_)
      ·
       have hD := (cond_t h36).symm.trans hD
       refine zz3e [.val (.bool x27.2.2.1), .val (.bool (!x27.2.2.1)), .val (.bool (!x27.2.2.1)), .val undef, .val undef, .val undef, .val (.bool true), .val (.bool true), .val undef, .val undef, .val undef, .val (.bool true), .val (.bool true), .val undef, .val undef, .val undef, .val (.bool true), .val (.bool true), .val undef, .val undef, .val undef, .val undef, .val undef, .val undef, .val undef, .val undef, .val (.bool true)] mixed r (by kernel_rfl) ?_ ?_
       ·
        refine fc r (fun fr1 g w' hb' hd r' => y_move r' rfl bz) ?_
        refine fc r (fun fr1 g w' hb' hd r' => y_un r' (u := (.bool x27.2.2.1)) (v := (.bool (!x27.2.2.1))) (hd 0 rfl).1 rfl bz) ?_
        refine fc r (fun fr1 g w' hb' hd r' => y_move r' (hd 1 rfl).1 bz) ?_
        refine zz09 false (.bool true) r rfl rfl rfl (fun g w' hd => Eq.trans (show (g 2).v = .bool (!x27.2.2.1) from (hd 2 rfl).1) (congrArg Value.bool h36)) (by simp [boolOf]) (fun _ _ => ⟨Below.refl _ _, rfl⟩) ?_
        refine zz09 false (.bool true) r rfl rfl rfl (fun g w' hd => Eq.trans (show (g 2).v = .bool (!x27.2.2.1) from (hd 2 rfl).1) (congrArg Value.bool h36)) (by simp [boolOf]) (fun _ _ => ⟨Below.refl _ _, rfl⟩) ?_
        refine zz09 false (.bool true) r rfl rfl rfl (fun g w' hd => Eq.trans (show (g 2).v = .bool (!x27.2.2.1) from (hd 2 rfl).1) (congrArg Value.bool h36)) (by simp [boolOf]) (fun _ _ => ⟨Below.refl _ _, rfl⟩) ?_
        refine fc r (fun fr1 g w' hb' hd r' => y_pick r' (b := true) (v := (.bool true)) (Eq.trans (show (g 2).v = .bool (!x27.2.2.1) from (hd 2 rfl).1) (congrArg Value.bool h36)) rfl bz) ?_
        refine fc r (fun fr1 g w' hb' hd r' => y_move r' (hd 6 rfl).1 bz) ?_
        refine zz09 false (.bool true) r rfl rfl rfl (fun g w' hd => Eq.trans (show (g 7).v = .bool true from (hd 7 rfl).1) (congrArg Value.bool (rfl : true = _))) (by simp [boolOf]) (fun _ _ => ⟨Below.refl _ _, rfl⟩) ?_
        refine zz09 false (.bool true) r rfl rfl rfl (fun g w' hd => Eq.trans (show (g 7).v = .bool true from (hd 7 rfl).1) (congrArg Value.bool (rfl : true = _))) (by simp [boolOf]) (fun _ _ => ⟨Below.refl _ _, rfl⟩) ?_
        refine zz09 false (.bool true) r rfl rfl rfl (fun g w' hd => Eq.trans (show (g 7).v = .bool true from (hd 7 rfl).1) (congrArg Value.bool (rfl : true = _))) (by simp [boolOf]) (fun _ _ => ⟨Below.refl _ _, rfl⟩) ?_
        refine fc r (fun fr1 g w' hb' hd r' => y_pick r' (b := true) (v := (.bool true)) (Eq.trans (show (g 7).v = .bool true from (hd 7 rfl).1) (congrArg Value.bool (rfl : true = _))) rfl bz) ?_
        refine fc r (fun fr1 g w' hb' hd r' => y_move r' (hd 11 rfl).1 bz) ?_
        refine zz09 false (.bool true) r rfl rfl rfl (fun g w' hd => Eq.trans (show (g 12).v = .bool true from (hd 12 rfl).1) (congrArg Value.bool (rfl : true = _))) (by simp [boolOf]) (fun _ _ => ⟨Below.refl _ _, rfl⟩) ?_
        refine zz09 false (.bool true) r rfl rfl rfl (fun g w' hd => Eq.trans (show (g 12).v = .bool true from (hd 12 rfl).1) (congrArg Value.bool (rfl : true = _))) (by simp [boolOf]) (fun _ _ => ⟨Below.refl _ _, rfl⟩) ?_
        refine zz09 false (.bool true) r rfl rfl rfl (fun g w' hd => Eq.trans (show (g 12).v = .bool true from (hd 12 rfl).1) (congrArg Value.bool (rfl : true = _))) (by simp [boolOf]) (fun _ _ => ⟨Below.refl _ _, rfl⟩) ?_
        refine fc r (fun fr1 g w' hb' hd r' => y_pick r' (b := true) (v := (.bool true)) (Eq.trans (show (g 12).v = .bool true from (hd 12 rfl).1) (congrArg Value.bool (rfl : true = _))) rfl bz) ?_
        refine fc r (fun fr1 g w' hb' hd r' => y_move r' (hd 16 rfl).1 bz) ?_
        refine zz09 false (.bool true) r rfl rfl rfl (fun g w' hd => Eq.trans (show (g 17).v = .bool true from (hd 17 rfl).1) (congrArg Value.bool (rfl : true = _))) (by simp [boolOf]) (fun _ _ => ⟨Below.refl _ _, rfl⟩) ?_
        refine zz09 false (.bool true) r rfl rfl rfl (fun g w' hd => Eq.trans (show (g 17).v = .bool true from (hd 17 rfl).1) (congrArg Value.bool (rfl : true = _))) (by simp [boolOf]) (fun _ _ => ⟨Below.refl _ _, rfl⟩) ?_
        refine zz09 false (.bool true) r rfl rfl rfl (fun g w' hd => Eq.trans (show (g 17).v = .bool true from (hd 17 rfl).1) (congrArg Value.bool (rfl : true = _))) (by simp [boolOf]) (fun _ _ => ⟨Below.refl _ _, rfl⟩) ?_
        refine zz09 false (.bool true) r rfl rfl rfl (fun g w' hd => Eq.trans (show (g 17).v = .bool true from (hd 17 rfl).1) (congrArg Value.bool (rfl : true = _))) (by simp [boolOf]) (fun _ _ => ⟨Below.refl _ _, rfl⟩) ?_
        refine zz09 false (.bool true) r rfl rfl rfl (fun g w' hd => Eq.trans (show (g 17).v = .bool true from (hd 17 rfl).1) (congrArg Value.bool (rfl : true = _))) (by simp [boolOf]) (fun _ _ => ⟨Below.refl _ _, rfl⟩) ?_
        refine zz09 false (.bool true) r rfl rfl rfl (fun g w' hd => Eq.trans (show (g 17).v = .bool true from (hd 17 rfl).1) (congrArg Value.bool (rfl : true = _))) (by simp [boolOf]) (fun _ _ => ⟨Below.refl _ _, rfl⟩) ?_
        refine zz09 false (.bool true) r rfl rfl rfl (fun g w' hd => Eq.trans (show (g 17).v = .bool true from (hd 17 rfl).1) (congrArg Value.bool (rfl : true = _))) (by simp [boolOf]) (fun _ _ => ⟨Below.refl _ _, rfl⟩) ?_
        refine zz09 false (.bool true) r rfl rfl rfl (fun g w' hd => Eq.trans (show (g 17).v = .bool true from (hd 17 rfl).1) (congrArg Value.bool (rfl : true = _))) (by simp [boolOf]) (fun _ _ => ⟨Below.refl _ _, rfl⟩) ?_
        refine fc r (fun fr1 g w' hb' hd r' => y_pick r' (b := true) (v := (.bool true)) (Eq.trans (show (g 17).v = .bool true from (hd 17 rfl).1) (congrArg Value.bool (rfl : true = _))) rfl bz) ?_
        exact zz1c
       ·
        intro fr gg w37 hb hΦ hap r
        have r := r.congr (sc ((hΦ 26 rfl).1) (sc ((hΦ 25 rfl).1) (sc ((hΦ 24 rfl).1) (sc ((hΦ 23 rfl).1) (sc ((hΦ 22 rfl).1) (sc ((hΦ 21 rfl).1) (sc ((hΦ 20 rfl).1) (sc ((hΦ 19 rfl).1) (sc ((hΦ 18 rfl).1) (sc ((hΦ 17 rfl).1) (sc ((hΦ 16 rfl).1) (sc ((hΦ 15 rfl).1) (sc ((hΦ 14 rfl).1) (sc ((hΦ 13 rfl).1) (sc ((hΦ 12 rfl).1) (sc ((hΦ 11 rfl).1) (sc ((hΦ 10 rfl).1) (sc ((hΦ 9 rfl).1) (sc ((hΦ 8 rfl).1) (sc ((hΦ 7 rfl).1) (sc ((hΦ 6 rfl).1) (sc ((hΦ 5 rfl).1) (sc ((hΦ 4 rfl).1) (sc ((hΦ 3 rfl).1) (sc ((hΦ 2 rfl).1) (sc ((hΦ 1 rfl).1) (sc ((hΦ 0 rfl).1) rfl)))))))))))))))))))))))))))
        have hP : Post No [roK 4 1 boolE a0_v a0, roK 4 1 boolE a1_v a1, cellC b12 ((planC (⟨6, 2, 7, 1, 1, 9⟩ : Plan))).toArray 25, memK mg20 x27.2.2.2, cellC b22 ((seatC (⟨(⟨6, 2, 7, 1, 1, 9⟩ : Plan), 0, 0⟩ : Seat))).toArray 29, cellC b23 ((seatC (⟨(⟨6, 2, 7, 1, 1, 9⟩ : Plan), 0, 1⟩ : Seat))).toArray 29, cellC b28 ((resC x27.1)).toArray 32, cellC b29 ((resC x27.2.1)).toArray 32, rowK 22 1 u64 v33 x31] w0 w37 := hP.below hb
        exact nxy35 true () _ _ _ hD r (hs_cons rfl (hs_cons rfl (hs_cons rfl (hs_cons rfl (hs_cons rfl (hs_cons rfl (hs_cons rfl (hs_cons rfl (hs_cons rfl (hs_cons rfl (hs_cons rfl (hs_cons rfl (hs_cons rfl (hs_cons rfl hs_nil)))))))))))))) (hP.pick [0, 1, 2, 3, 4, 5, 6, 7, 8] rfl rfl)
      ·
       have hD := (cond_f h36).symm.trans hD
       refine zz0x (!(x27.1 == (⟨0, 0⟩ : Res))) (fun h38 => ?_) (fun h38 => ?_)
       ·
        have hD := (cond_t h38).symm.trans hD
        refine zz3e [.val (.bool x27.2.2.1), .val (.bool (!x27.2.2.1)), .val (.bool (!x27.2.2.1)), .val (.agg (resC x27.1).toArray), .val (.agg (resC (⟨0, 0⟩ : Res)).toArray), .val (.bool (!(x27.1 == (⟨0, 0⟩ : Res)))), .val (.bool (!(x27.1 == (⟨0, 0⟩ : Res)))), .val (.bool (!(x27.1 == (⟨0, 0⟩ : Res)))), .val undef, .val undef, .val undef, .val (.bool true), .val (.bool true), .val undef, .val undef, .val undef, .val (.bool true), .val (.bool true), .val undef, .val undef, .val undef, .val undef, .val undef, .val undef, .val undef, .val undef, .val (.bool true)] mixed r (by kernel_rfl) ?_ ?_
        ·
         refine fc r (fun fr1 g w' hb' hd r' => y_move r' rfl bz) ?_
         refine fc r (fun fr1 g w' hb' hd r' => y_un r' (u := (.bool x27.2.2.1)) (v := (.bool (!x27.2.2.1))) (hd 0 rfl).1 rfl bz) ?_
         refine fc r (fun fr1 g w' hb' hd r' => y_move r' (hd 1 rfl).1 bz) ?_
         refine zz0a false r rfl rfl rfl (fun g w' hd => Eq.trans (show (g 2).v = .bool (!x27.2.2.1) from (hd 2 rfl).1) (congrArg Value.bool h36)) (fun fr1 g w' hb' hd r' => ?_) ?_
         · exact zz03 r' (cs := (resC x27.1)) (n := 2) rfl ((hP.below (dr hb')).cell (i := 6) rfl) ta32 rfl ⟨Below.refl _ _, rfl⟩
         refine zz0a false r rfl rfl rfl (fun g w' hd => Eq.trans (show (g 2).v = .bool (!x27.2.2.1) from (hd 2 rfl).1) (congrArg Value.bool h36)) (fun fr1 g w' hb' hd r' => ?_) ?_
         · exact y_build r' (v := (.agg (resC (⟨0, 0⟩ : Res)).toArray)) (by kernel_rfl) ⟨Below.refl _ _, rfl⟩
         refine zz0a false r rfl rfl rfl (fun g w' hd => Eq.trans (show (g 2).v = .bool (!x27.2.2.1) from (hd 2 rfl).1) (congrArg Value.bool h36)) (fun fr1 g w' hb' hd r' => ?_) ?_
         · exact y_bin r' (u := (.agg (resC x27.1).toArray)) (u' := (.agg (resC (⟨0, 0⟩ : Res)).toArray)) (v := (.bool (!(x27.1 == (⟨0, 0⟩ : Res))))) (hd 3 rfl).1 (hd 4 rfl).1 (run_eqGuard_agg _ _ _ _ _ _ _ eg32) (eqs32 _ _ _).2 ⟨Below.refl _ _, rfl⟩
         refine fc r (fun fr1 g w' hb' hd r' => y_pick r' (b := false) (v := (.bool (!(x27.1 == (⟨0, 0⟩ : Res))))) (Eq.trans (show (g 2).v = .bool (!x27.2.2.1) from (hd 2 rfl).1) (congrArg Value.bool h36)) (hd 5 rfl).1 bz) ?_
         refine fc r (fun fr1 g w' hb' hd r' => y_move r' (hd 6 rfl).1 bz) ?_
         refine zz09 false (.bool true) r rfl rfl rfl (fun g w' hd => Eq.trans (show (g 7).v = .bool (!(x27.1 == (⟨0, 0⟩ : Res))) from (hd 7 rfl).1) (congrArg Value.bool h38)) (by simp [boolOf]) (fun _ _ => ⟨Below.refl _ _, rfl⟩) ?_
         refine zz09 false (.bool true) r rfl rfl rfl (fun g w' hd => Eq.trans (show (g 7).v = .bool (!(x27.1 == (⟨0, 0⟩ : Res))) from (hd 7 rfl).1) (congrArg Value.bool h38)) (by simp [boolOf]) (fun _ _ => ⟨Below.refl _ _, rfl⟩) ?_
         refine zz09 false (.bool true) r rfl rfl rfl (fun g w' hd => Eq.trans (show (g 7).v = .bool (!(x27.1 == (⟨0, 0⟩ : Res))) from (hd 7 rfl).1) (congrArg Value.bool h38)) (by simp [boolOf]) (fun _ _ => ⟨Below.refl _ _, rfl⟩) ?_
         refine fc r (fun fr1 g w' hb' hd r' => y_pick r' (b := true) (v := (.bool true)) (Eq.trans (show (g 7).v = .bool (!(x27.1 == (⟨0, 0⟩ : Res))) from (hd 7 rfl).1) (congrArg Value.bool h38)) rfl bz) ?_
         refine fc r (fun fr1 g w' hb' hd r' => y_move r' (hd 11 rfl).1 bz) ?_
         refine zz09 false (.bool true) r rfl rfl rfl (fun g w' hd => Eq.trans (show (g 12).v = .bool true from (hd 12 rfl).1) (congrArg Value.bool (rfl : true = _))) (by simp [boolOf]) (fun _ _ => ⟨Below.refl _ _, rfl⟩) ?_
         refine zz09 false (.bool true) r rfl rfl rfl (fun g w' hd => Eq.trans (show (g 12).v = .bool true from (hd 12 rfl).1) (congrArg Value.bool (rfl : true = _))) (by simp [boolOf]) (fun _ _ => ⟨Below.refl _ _, rfl⟩) ?_
         refine zz09 false (.bool true) r rfl rfl rfl (fun g w' hd => Eq.trans (show (g 12).v = .bool true from (hd 12 rfl).1) (congrArg Value.bool (rfl : true = _))) (by simp [boolOf]) (fun _ _ => ⟨Below.refl _ _, rfl⟩) ?_
         refine fc r (fun fr1 g w' hb' hd r' => y_pick r' (b := true) (v := (.bool true)) (Eq.trans (show (g 12).v = .bool true from (hd 12 rfl).1) (congrArg Value.bool (rfl : true = _))) rfl bz) ?_
         refine fc r (fun fr1 g w' hb' hd r' => y_move r' (hd 16 rfl).1 bz) ?_
         refine zz09 false (.bool true) r rfl rfl rfl (fun g w' hd => Eq.trans (show (g 17).v = .bool true from (hd 17 rfl).1) (congrArg Value.bool (rfl : true = _))) (by simp [boolOf]) (fun _ _ => ⟨Below.refl _ _, rfl⟩) ?_
         refine zz09 false (.bool true) r rfl rfl rfl (fun g w' hd => Eq.trans (show (g 17).v = .bool true from (hd 17 rfl).1) (congrArg Value.bool (rfl : true = _))) (by simp [boolOf]) (fun _ _ => ⟨Below.refl _ _, rfl⟩) ?_
         refine zz09 false (.bool true) r rfl rfl rfl (fun g w' hd => Eq.trans (show (g 17).v = .bool true from (hd 17 rfl).1) (congrArg Value.bool (rfl : true = _))) (by simp [boolOf]) (fun _ _ => ⟨Below.refl _ _, rfl⟩) ?_
         refine zz09 false (.bool true) r rfl rfl rfl (fun g w' hd => Eq.trans (show (g 17).v = .bool true from (hd 17 rfl).1) (congrArg Value.bool (rfl : true = _))) (by simp [boolOf]) (fun _ _ => ⟨Below.refl _ _, rfl⟩) ?_
         refine zz09 false (.bool true) r rfl rfl rfl (fun g w' hd => Eq.trans (show (g 17).v = .bool true from (hd 17 rfl).1) (congrArg Value.bool (rfl : true = _))) (by simp [boolOf]) (fun _ _ => ⟨Below.refl _ _, rfl⟩) ?_
         refine zz09 false (.bool true) r rfl rfl rfl (fun g w' hd => Eq.trans (show (g 17).v = .bool true from (hd 17 rfl).1) (congrArg Value.bool (rfl : true = _))) (by simp [boolOf]) (fun _ _ => ⟨Below.refl _ _, rfl⟩) ?_
         refine zz09 false (.bool true) r rfl rfl rfl (fun g w' hd => Eq.trans (show (g 17).v = .bool true from (hd 17 rfl).1) (congrArg Value.bool (rfl : true = _))) (by simp [boolOf]) (fun _ _ => ⟨Below.refl _ _, rfl⟩) ?_
         refine zz09 false (.bool true) r rfl rfl rfl (fun g w' hd => Eq.trans (show (g 17).v = .bool true from (hd 17 rfl).1) (congrArg Value.bool (rfl : true = _))) (by simp [boolOf]) (fun _ _ => ⟨Below.refl _ _, rfl⟩) ?_
         refine fc r (fun fr1 g w' hb' hd r' => y_pick r' (b := true) (v := (.bool true)) (Eq.trans (show (g 17).v = .bool true from (hd 17 rfl).1) (congrArg Value.bool (rfl : true = _))) rfl bz) ?_
         exact zz1c
        ·
         intro fr gg w39 hb hΦ hap r
         have r := r.congr (sc ((hΦ 26 rfl).1) (sc ((hΦ 25 rfl).1) (sc ((hΦ 24 rfl).1) (sc ((hΦ 23 rfl).1) (sc ((hΦ 22 rfl).1) (sc ((hΦ 21 rfl).1) (sc ((hΦ 20 rfl).1) (sc ((hΦ 19 rfl).1) (sc ((hΦ 18 rfl).1) (sc ((hΦ 17 rfl).1) (sc ((hΦ 16 rfl).1) (sc ((hΦ 15 rfl).1) (sc ((hΦ 14 rfl).1) (sc ((hΦ 13 rfl).1) (sc ((hΦ 12 rfl).1) (sc ((hΦ 11 rfl).1) (sc ((hΦ 10 rfl).1) (sc ((hΦ 9 rfl).1) (sc ((hΦ 8 rfl).1) (sc ((hΦ 7 rfl).1) (sc ((hΦ 6 rfl).1) (sc ((hΦ 5 rfl).1) (sc ((hΦ 4 rfl).1) (sc ((hΦ 3 rfl).1) (sc ((hΦ 2 rfl).1) (sc ((hΦ 1 rfl).1) (sc ((hΦ 0 rfl).1) rfl)))))))))))))))))))))))))))
         have hP : Post No [roK 4 1 boolE a0_v a0, roK 4 1 boolE a1_v a1, cellC b12 ((planC (⟨6, 2, 7, 1, 1, 9⟩ : Plan))).toArray 25, memK mg20 x27.2.2.2, cellC b22 ((seatC (⟨(⟨6, 2, 7, 1, 1, 9⟩ : Plan), 0, 0⟩ : Seat))).toArray 29, cellC b23 ((seatC (⟨(⟨6, 2, 7, 1, 1, 9⟩ : Plan), 0, 1⟩ : Seat))).toArray 29, cellC b28 ((resC x27.1)).toArray 32, cellC b29 ((resC x27.2.1)).toArray 32, rowK 22 1 u64 v33 x31] w0 w39 := hP.below hb
         exact nxy35 true () _ _ _ hD r (hs_cons rfl (hs_cons rfl (hs_cons rfl (hs_cons rfl (hs_cons rfl (hs_cons rfl (hs_cons rfl (hs_cons rfl (hs_cons rfl (hs_cons rfl (hs_cons rfl (hs_cons rfl (hs_cons rfl (hs_cons rfl hs_nil)))))))))))))) (hP.pick [0, 1, 2, 3, 4, 5, 6, 7, 8] rfl rfl)
       ·
        have hD := (cond_f h38).symm.trans hD
        refine zz0x (!(x27.2.1 == (⟨0, 0⟩ : Res))) (fun h40 => ?_) (fun h40 => ?_)
        ·
         have hD := (cond_t h40).symm.trans hD
         refine zz3e [.val (.bool x27.2.2.1), .val (.bool (!x27.2.2.1)), .val (.bool (!x27.2.2.1)), .val (.agg (resC x27.1).toArray), .val (.agg (resC (⟨0, 0⟩ : Res)).toArray), .val (.bool (!(x27.1 == (⟨0, 0⟩ : Res)))), .val (.bool (!(x27.1 == (⟨0, 0⟩ : Res)))), .val (.bool (!(x27.1 == (⟨0, 0⟩ : Res)))), .val (.agg (resC x27.2.1).toArray), .val (.agg (resC (⟨0, 0⟩ : Res)).toArray), .val (.bool (!(x27.2.1 == (⟨0, 0⟩ : Res)))), .val (.bool (!(x27.2.1 == (⟨0, 0⟩ : Res)))), .val (.bool (!(x27.2.1 == (⟨0, 0⟩ : Res)))), .val undef, .val undef, .val undef, .val (.bool true), .val (.bool true), .val undef, .val undef, .val undef, .val undef, .val undef, .val undef, .val undef, .val undef, .val (.bool true)] mixed r (by kernel_rfl) ?_ ?_
         ·
          refine fc r (fun fr1 g w' hb' hd r' => y_move r' rfl bz) ?_
          refine fc r (fun fr1 g w' hb' hd r' => y_un r' (u := (.bool x27.2.2.1)) (v := (.bool (!x27.2.2.1))) (hd 0 rfl).1 rfl bz) ?_
          refine fc r (fun fr1 g w' hb' hd r' => y_move r' (hd 1 rfl).1 bz) ?_
          refine zz0a false r rfl rfl rfl (fun g w' hd => Eq.trans (show (g 2).v = .bool (!x27.2.2.1) from (hd 2 rfl).1) (congrArg Value.bool h36)) (fun fr1 g w' hb' hd r' => ?_) ?_
          · exact zz03 r' (cs := (resC x27.1)) (n := 2) rfl ((hP.below (dr hb')).cell (i := 6) rfl) ta32 rfl ⟨Below.refl _ _, rfl⟩
          refine zz0a false r rfl rfl rfl (fun g w' hd => Eq.trans (show (g 2).v = .bool (!x27.2.2.1) from (hd 2 rfl).1) (congrArg Value.bool h36)) (fun fr1 g w' hb' hd r' => ?_) ?_
          · exact y_build r' (v := (.agg (resC (⟨0, 0⟩ : Res)).toArray)) (by kernel_rfl) ⟨Below.refl _ _, rfl⟩
          refine zz0a false r rfl rfl rfl (fun g w' hd => Eq.trans (show (g 2).v = .bool (!x27.2.2.1) from (hd 2 rfl).1) (congrArg Value.bool h36)) (fun fr1 g w' hb' hd r' => ?_) ?_
          · exact y_bin r' (u := (.agg (resC x27.1).toArray)) (u' := (.agg (resC (⟨0, 0⟩ : Res)).toArray)) (v := (.bool (!(x27.1 == (⟨0, 0⟩ : Res))))) (hd 3 rfl).1 (hd 4 rfl).1 (run_eqGuard_agg _ _ _ _ _ _ _ eg32) (eqs32 _ _ _).2 ⟨Below.refl _ _, rfl⟩
          refine fc r (fun fr1 g w' hb' hd r' => y_pick r' (b := false) (v := (.bool (!(x27.1 == (⟨0, 0⟩ : Res))))) (Eq.trans (show (g 2).v = .bool (!x27.2.2.1) from (hd 2 rfl).1) (congrArg Value.bool h36)) (hd 5 rfl).1 bz) ?_
          refine fc r (fun fr1 g w' hb' hd r' => y_move r' (hd 6 rfl).1 bz) ?_
          refine zz0a false r rfl rfl rfl (fun g w' hd => Eq.trans (show (g 7).v = .bool (!(x27.1 == (⟨0, 0⟩ : Res))) from (hd 7 rfl).1) (congrArg Value.bool h38)) (fun fr1 g w' hb' hd r' => ?_) ?_
          · exact zz03 r' (cs := (resC x27.2.1)) (n := 2) rfl ((hP.below (dr hb')).cell (i := 7) rfl) ta32 rfl ⟨Below.refl _ _, rfl⟩
          refine zz0a false r rfl rfl rfl (fun g w' hd => Eq.trans (show (g 7).v = .bool (!(x27.1 == (⟨0, 0⟩ : Res))) from (hd 7 rfl).1) (congrArg Value.bool h38)) (fun fr1 g w' hb' hd r' => ?_) ?_
          · exact y_build r' (v := (.agg (resC (⟨0, 0⟩ : Res)).toArray)) (by kernel_rfl) ⟨Below.refl _ _, rfl⟩
          refine zz0a false r rfl rfl rfl (fun g w' hd => Eq.trans (show (g 7).v = .bool (!(x27.1 == (⟨0, 0⟩ : Res))) from (hd 7 rfl).1) (congrArg Value.bool h38)) (fun fr1 g w' hb' hd r' => ?_) ?_
          · exact y_bin r' (u := (.agg (resC x27.2.1).toArray)) (u' := (.agg (resC (⟨0, 0⟩ : Res)).toArray)) (v := (.bool (!(x27.2.1 == (⟨0, 0⟩ : Res))))) (hd 8 rfl).1 (hd 9 rfl).1 (run_eqGuard_agg _ _ _ _ _ _ _ eg32) (eqs32 _ _ _).2 ⟨Below.refl _ _, rfl⟩
          refine fc r (fun fr1 g w' hb' hd r' => y_pick r' (b := false) (v := (.bool (!(x27.2.1 == (⟨0, 0⟩ : Res))))) (Eq.trans (show (g 7).v = .bool (!(x27.1 == (⟨0, 0⟩ : Res))) from (hd 7 rfl).1) (congrArg Value.bool h38)) (hd 10 rfl).1 bz) ?_
          refine fc r (fun fr1 g w' hb' hd r' => y_move r' (hd 11 rfl).1 bz) ?_
          refine zz09 false (.bool true) r rfl rfl rfl (fun g w' hd => Eq.trans (show (g 12).v = .bool (!(x27.2.1 == (⟨0, 0⟩ : Res))) from (hd 12 rfl).1) (congrArg Value.bool h40)) (by simp [boolOf]) (fun _ _ => ⟨Below.refl _ _, rfl⟩) ?_
          refine zz09 false (.bool true) r rfl rfl rfl (fun g w' hd => Eq.trans (show (g 12).v = .bool (!(x27.2.1 == (⟨0, 0⟩ : Res))) from (hd 12 rfl).1) (congrArg Value.bool h40)) (by simp [boolOf]) (fun _ _ => ⟨Below.refl _ _, rfl⟩) ?_
          refine zz09 false (.bool true) r rfl rfl rfl (fun g w' hd => Eq.trans (show (g 12).v = .bool (!(x27.2.1 == (⟨0, 0⟩ : Res))) from (hd 12 rfl).1) (congrArg Value.bool h40)) (by simp [boolOf]) (fun _ _ => ⟨Below.refl _ _, rfl⟩) ?_
          refine fc r (fun fr1 g w' hb' hd r' => y_pick r' (b := true) (v := (.bool true)) (Eq.trans (show (g 12).v = .bool (!(x27.2.1 == (⟨0, 0⟩ : Res))) from (hd 12 rfl).1) (congrArg Value.bool h40)) rfl bz) ?_
          refine fc r (fun fr1 g w' hb' hd r' => y_move r' (hd 16 rfl).1 bz) ?_
          refine zz09 false (.bool true) r rfl rfl rfl (fun g w' hd => Eq.trans (show (g 17).v = .bool true from (hd 17 rfl).1) (congrArg Value.bool (rfl : true = _))) (by simp [boolOf]) (fun _ _ => ⟨Below.refl _ _, rfl⟩) ?_
          refine zz09 false (.bool true) r rfl rfl rfl (fun g w' hd => Eq.trans (show (g 17).v = .bool true from (hd 17 rfl).1) (congrArg Value.bool (rfl : true = _))) (by simp [boolOf]) (fun _ _ => ⟨Below.refl _ _, rfl⟩) ?_
          refine zz09 false (.bool true) r rfl rfl rfl (fun g w' hd => Eq.trans (show (g 17).v = .bool true from (hd 17 rfl).1) (congrArg Value.bool (rfl : true = _))) (by simp [boolOf]) (fun _ _ => ⟨Below.refl _ _, rfl⟩) ?_
          refine zz09 false (.bool true) r rfl rfl rfl (fun g w' hd => Eq.trans (show (g 17).v = .bool true from (hd 17 rfl).1) (congrArg Value.bool (rfl : true = _))) (by simp [boolOf]) (fun _ _ => ⟨Below.refl _ _, rfl⟩) ?_
          refine zz09 false (.bool true) r rfl rfl rfl (fun g w' hd => Eq.trans (show (g 17).v = .bool true from (hd 17 rfl).1) (congrArg Value.bool (rfl : true = _))) (by simp [boolOf]) (fun _ _ => ⟨Below.refl _ _, rfl⟩) ?_
          refine zz09 false (.bool true) r rfl rfl rfl (fun g w' hd => Eq.trans (show (g 17).v = .bool true from (hd 17 rfl).1) (congrArg Value.bool (rfl : true = _))) (by simp [boolOf]) (fun _ _ => ⟨Below.refl _ _, rfl⟩) ?_
          refine zz09 false (.bool true) r rfl rfl rfl (fun g w' hd => Eq.trans (show (g 17).v = .bool true from (hd 17 rfl).1) (congrArg Value.bool (rfl : true = _))) (by simp [boolOf]) (fun _ _ => ⟨Below.refl _ _, rfl⟩) ?_
          refine zz09 false (.bool true) r rfl rfl rfl (fun g w' hd => Eq.trans (show (g 17).v = .bool true from (hd 17 rfl).1) (congrArg Value.bool (rfl : true = _))) (by simp [boolOf]) (fun _ _ => ⟨Below.refl _ _, rfl⟩) ?_
          refine fc r (fun fr1 g w' hb' hd r' => y_pick r' (b := true) (v := (.bool true)) (Eq.trans (show (g 17).v = .bool true from (hd 17 rfl).1) (congrArg Value.bool (rfl : true = _))) rfl bz) ?_
          exact zz1c
         ·
          intro fr gg w41 hb hΦ hap r
          have r := r.congr (sc ((hΦ 26 rfl).1) (sc ((hΦ 25 rfl).1) (sc ((hΦ 24 rfl).1) (sc ((hΦ 23 rfl).1) (sc ((hΦ 22 rfl).1) (sc ((hΦ 21 rfl).1) (sc ((hΦ 20 rfl).1) (sc ((hΦ 19 rfl).1) (sc ((hΦ 18 rfl).1) (sc ((hΦ 17 rfl).1) (sc ((hΦ 16 rfl).1) (sc ((hΦ 15 rfl).1) (sc ((hΦ 14 rfl).1) (sc ((hΦ 13 rfl).1) (sc ((hΦ 12 rfl).1) (sc ((hΦ 11 rfl).1) (sc ((hΦ 10 rfl).1) (sc ((hΦ 9 rfl).1) (sc ((hΦ 8 rfl).1) (sc ((hΦ 7 rfl).1) (sc ((hΦ 6 rfl).1) (sc ((hΦ 5 rfl).1) (sc ((hΦ 4 rfl).1) (sc ((hΦ 3 rfl).1) (sc ((hΦ 2 rfl).1) (sc ((hΦ 1 rfl).1) (sc ((hΦ 0 rfl).1) rfl)))))))))))))))))))))))))))
          have hP : Post No [roK 4 1 boolE a0_v a0, roK 4 1 boolE a1_v a1, cellC b12 ((planC (⟨6, 2, 7, 1, 1, 9⟩ : Plan))).toArray 25, memK mg20 x27.2.2.2, cellC b22 ((seatC (⟨(⟨6, 2, 7, 1, 1, 9⟩ : Plan), 0, 0⟩ : Seat))).toArray 29, cellC b23 ((seatC (⟨(⟨6, 2, 7, 1, 1, 9⟩ : Plan), 0, 1⟩ : Seat))).toArray 29, cellC b28 ((resC x27.1)).toArray 32, cellC b29 ((resC x27.2.1)).toArray 32, rowK 22 1 u64 v33 x31] w0 w41 := hP.below hb
          exact nxy35 true () _ _ _ hD r (hs_cons rfl (hs_cons rfl (hs_cons rfl (hs_cons rfl (hs_cons rfl (hs_cons rfl (hs_cons rfl (hs_cons rfl (hs_cons rfl (hs_cons rfl (hs_cons rfl (hs_cons rfl (hs_cons rfl (hs_cons rfl hs_nil)))))))))))))) (hP.pick [0, 1, 2, 3, 4, 5, 6, 7, 8] rfl rfl)
        ·
         have hD := (cond_f h40).symm.trans hD
         refine zz0x ((x31.length : Int) != 2) (fun h42 => ?_) (fun h42 => ?_)
         ·
          have hD := (cond_t h42).symm.trans hD
          refine zz3e [.val (.bool x27.2.2.1), .val (.bool (!x27.2.2.1)), .val (.bool (!x27.2.2.1)), .val (.agg (resC x27.1).toArray), .val (.agg (resC (⟨0, 0⟩ : Res)).toArray), .val (.bool (!(x27.1 == (⟨0, 0⟩ : Res)))), .val (.bool (!(x27.1 == (⟨0, 0⟩ : Res)))), .val (.bool (!(x27.1 == (⟨0, 0⟩ : Res)))), .val (.agg (resC x27.2.1).toArray), .val (.agg (resC (⟨0, 0⟩ : Res)).toArray), .val (.bool (!(x27.2.1 == (⟨0, 0⟩ : Res)))), .val (.bool (!(x27.2.1 == (⟨0, 0⟩ : Res)))), .val (.bool (!(x27.2.1 == (⟨0, 0⟩ : Res)))), .val v33, .val (I (x31.length : Int)), .val (.bool ((x31.length : Int) != 2)), .val (.bool ((x31.length : Int) != 2)), .val (.bool ((x31.length : Int) != 2)), .val undef, .val undef, .val undef, .val undef, .val undef, .val undef, .val undef, .val undef, .val (.bool true)] mixed r (by kernel_rfl) ?_ ?_
          ·
           refine fc r (fun fr1 g w' hb' hd r' => y_move r' rfl bz) ?_
           refine fc r (fun fr1 g w' hb' hd r' => y_un r' (u := (.bool x27.2.2.1)) (v := (.bool (!x27.2.2.1))) (hd 0 rfl).1 rfl bz) ?_
           refine fc r (fun fr1 g w' hb' hd r' => y_move r' (hd 1 rfl).1 bz) ?_
           refine zz0a false r rfl rfl rfl (fun g w' hd => Eq.trans (show (g 2).v = .bool (!x27.2.2.1) from (hd 2 rfl).1) (congrArg Value.bool h36)) (fun fr1 g w' hb' hd r' => ?_) ?_
           · exact zz03 r' (cs := (resC x27.1)) (n := 2) rfl ((hP.below (dr hb')).cell (i := 6) rfl) ta32 rfl ⟨Below.refl _ _, rfl⟩
           refine zz0a false r rfl rfl rfl (fun g w' hd => Eq.trans (show (g 2).v = .bool (!x27.2.2.1) from (hd 2 rfl).1) (congrArg Value.bool h36)) (fun fr1 g w' hb' hd r' => ?_) ?_
           · exact y_build r' (v := (.agg (resC (⟨0, 0⟩ : Res)).toArray)) (by kernel_rfl) ⟨Below.refl _ _, rfl⟩
           refine zz0a false r rfl rfl rfl (fun g w' hd => Eq.trans (show (g 2).v = .bool (!x27.2.2.1) from (hd 2 rfl).1) (congrArg Value.bool h36)) (fun fr1 g w' hb' hd r' => ?_) ?_
           · exact y_bin r' (u := (.agg (resC x27.1).toArray)) (u' := (.agg (resC (⟨0, 0⟩ : Res)).toArray)) (v := (.bool (!(x27.1 == (⟨0, 0⟩ : Res))))) (hd 3 rfl).1 (hd 4 rfl).1 (run_eqGuard_agg _ _ _ _ _ _ _ eg32) (eqs32 _ _ _).2 ⟨Below.refl _ _, rfl⟩
           refine fc r (fun fr1 g w' hb' hd r' => y_pick r' (b := false) (v := (.bool (!(x27.1 == (⟨0, 0⟩ : Res))))) (Eq.trans (show (g 2).v = .bool (!x27.2.2.1) from (hd 2 rfl).1) (congrArg Value.bool h36)) (hd 5 rfl).1 bz) ?_
           refine fc r (fun fr1 g w' hb' hd r' => y_move r' (hd 6 rfl).1 bz) ?_
           refine zz0a false r rfl rfl rfl (fun g w' hd => Eq.trans (show (g 7).v = .bool (!(x27.1 == (⟨0, 0⟩ : Res))) from (hd 7 rfl).1) (congrArg Value.bool h38)) (fun fr1 g w' hb' hd r' => ?_) ?_
           · exact zz03 r' (cs := (resC x27.2.1)) (n := 2) rfl ((hP.below (dr hb')).cell (i := 7) rfl) ta32 rfl ⟨Below.refl _ _, rfl⟩
           refine zz0a false r rfl rfl rfl (fun g w' hd => Eq.trans (show (g 7).v = .bool (!(x27.1 == (⟨0, 0⟩ : Res))) from (hd 7 rfl).1) (congrArg Value.bool h38)) (fun fr1 g w' hb' hd r' => ?_) ?_
           · exact y_build r' (v := (.agg (resC (⟨0, 0⟩ : Res)).toArray)) (by kernel_rfl) ⟨Below.refl _ _, rfl⟩
           refine zz0a false r rfl rfl rfl (fun g w' hd => Eq.trans (show (g 7).v = .bool (!(x27.1 == (⟨0, 0⟩ : Res))) from (hd 7 rfl).1) (congrArg Value.bool h38)) (fun fr1 g w' hb' hd r' => ?_) ?_
           · exact y_bin r' (u := (.agg (resC x27.2.1).toArray)) (u' := (.agg (resC (⟨0, 0⟩ : Res)).toArray)) (v := (.bool (!(x27.2.1 == (⟨0, 0⟩ : Res))))) (hd 8 rfl).1 (hd 9 rfl).1 (run_eqGuard_agg _ _ _ _ _ _ _ eg32) (eqs32 _ _ _).2 ⟨Below.refl _ _, rfl⟩
           refine fc r (fun fr1 g w' hb' hd r' => y_pick r' (b := false) (v := (.bool (!(x27.2.1 == (⟨0, 0⟩ : Res))))) (Eq.trans (show (g 7).v = .bool (!(x27.1 == (⟨0, 0⟩ : Res))) from (hd 7 rfl).1) (congrArg Value.bool h38)) (hd 10 rfl).1 bz) ?_
           refine fc r (fun fr1 g w' hb' hd r' => y_move r' (hd 11 rfl).1 bz) ?_
           refine zz0a false r rfl rfl rfl (fun g w' hd => Eq.trans (show (g 12).v = .bool (!(x27.2.1 == (⟨0, 0⟩ : Res))) from (hd 12 rfl).1) (congrArg Value.bool h40)) (fun fr1 g w' hb' hd r' => ?_) ?_
           · exact y_move r' (v := v33) rfl ⟨Below.refl _ _, rfl⟩
           refine zz0a false r rfl rfl rfl (fun g w' hd => Eq.trans (show (g 12).v = .bool (!(x27.2.1 == (⟨0, 0⟩ : Res))) from (hd 12 rfl).1) (congrArg Value.bool h40)) (fun fr1 g w' hb' hd r' => ?_) ?_
           · exact zz3f r' ((hP.below (dr hb')).row (i := 8) rfl).ro is49 (hd 13 rfl).1 ⟨Below.refl _ _, rfl⟩
           refine zz0a false r rfl rfl rfl (fun g w' hd => Eq.trans (show (g 12).v = .bool (!(x27.2.1 == (⟨0, 0⟩ : Res))) from (hd 12 rfl).1) (congrArg Value.bool h40)) (fun fr1 g w' hb' hd r' => ?_) ?_
           · exact y_bin r' (u := (I (x31.length : Int))) (u' := (I 2)) (v := (.bool ((x31.length : Int) != 2))) (hd 14 rfl).1 rfl rfl rfl ⟨Below.refl _ _, rfl⟩
           refine fc r (fun fr1 g w' hb' hd r' => y_pick r' (b := false) (v := (.bool ((x31.length : Int) != 2))) (Eq.trans (show (g 12).v = .bool (!(x27.2.1 == (⟨0, 0⟩ : Res))) from (hd 12 rfl).1) (congrArg Value.bool h40)) (hd 15 rfl).1 bz) ?_
           refine fc r (fun fr1 g w' hb' hd r' => y_move r' (hd 16 rfl).1 bz) ?_
           refine zz09 false (.bool true) r rfl rfl rfl (fun g w' hd => Eq.trans (show (g 17).v = .bool ((x31.length : Int) != 2) from (hd 17 rfl).1) (congrArg Value.bool h42)) (by simp [boolOf]) (fun _ _ => ⟨Below.refl _ _, rfl⟩) ?_
           refine zz09 false (.bool true) r rfl rfl rfl (fun g w' hd => Eq.trans (show (g 17).v = .bool ((x31.length : Int) != 2) from (hd 17 rfl).1) (congrArg Value.bool h42)) (by simp [boolOf]) (fun _ _ => ⟨Below.refl _ _, rfl⟩) ?_
           refine zz09 false (.bool true) r rfl rfl rfl (fun g w' hd => Eq.trans (show (g 17).v = .bool ((x31.length : Int) != 2) from (hd 17 rfl).1) (congrArg Value.bool h42)) (by simp [boolOf]) (fun _ _ => ⟨Below.refl _ _, rfl⟩) ?_
           refine zz09 false (.bool true) r rfl rfl rfl (fun g w' hd => Eq.trans (show (g 17).v = .bool ((x31.length : Int) != 2) from (hd 17 rfl).1) (congrArg Value.bool h42)) (by simp [boolOf]) (fun _ _ => ⟨Below.refl _ _, rfl⟩) ?_
           refine zz09 false (.bool true) r rfl rfl rfl (fun g w' hd => Eq.trans (show (g 17).v = .bool ((x31.length : Int) != 2) from (hd 17 rfl).1) (congrArg Value.bool h42)) (by simp [boolOf]) (fun _ _ => ⟨Below.refl _ _, rfl⟩) ?_
           refine zz09 false (.bool true) r rfl rfl rfl (fun g w' hd => Eq.trans (show (g 17).v = .bool ((x31.length : Int) != 2) from (hd 17 rfl).1) (congrArg Value.bool h42)) (by simp [boolOf]) (fun _ _ => ⟨Below.refl _ _, rfl⟩) ?_
           refine zz09 false (.bool true) r rfl rfl rfl (fun g w' hd => Eq.trans (show (g 17).v = .bool ((x31.length : Int) != 2) from (hd 17 rfl).1) (congrArg Value.bool h42)) (by simp [boolOf]) (fun _ _ => ⟨Below.refl _ _, rfl⟩) ?_
           refine zz09 false (.bool true) r rfl rfl rfl (fun g w' hd => Eq.trans (show (g 17).v = .bool ((x31.length : Int) != 2) from (hd 17 rfl).1) (congrArg Value.bool h42)) (by simp [boolOf]) (fun _ _ => ⟨Below.refl _ _, rfl⟩) ?_
           refine fc r (fun fr1 g w' hb' hd r' => y_pick r' (b := true) (v := (.bool true)) (Eq.trans (show (g 17).v = .bool ((x31.length : Int) != 2) from (hd 17 rfl).1) (congrArg Value.bool h42)) rfl bz) ?_
           exact zz1c
          ·
           intro fr gg w43 hb hΦ hap r
           have r := r.congr (sc ((hΦ 26 rfl).1) (sc ((hΦ 25 rfl).1) (sc ((hΦ 24 rfl).1) (sc ((hΦ 23 rfl).1) (sc ((hΦ 22 rfl).1) (sc ((hΦ 21 rfl).1) (sc ((hΦ 20 rfl).1) (sc ((hΦ 19 rfl).1) (sc ((hΦ 18 rfl).1) (sc ((hΦ 17 rfl).1) (sc ((hΦ 16 rfl).1) (sc ((hΦ 15 rfl).1) (sc ((hΦ 14 rfl).1) (sc ((hΦ 13 rfl).1) (sc ((hΦ 12 rfl).1) (sc ((hΦ 11 rfl).1) (sc ((hΦ 10 rfl).1) (sc ((hΦ 9 rfl).1) (sc ((hΦ 8 rfl).1) (sc ((hΦ 7 rfl).1) (sc ((hΦ 6 rfl).1) (sc ((hΦ 5 rfl).1) (sc ((hΦ 4 rfl).1) (sc ((hΦ 3 rfl).1) (sc ((hΦ 2 rfl).1) (sc ((hΦ 1 rfl).1) (sc ((hΦ 0 rfl).1) rfl)))))))))))))))))))))))))))
           have hP : Post No [roK 4 1 boolE a0_v a0, roK 4 1 boolE a1_v a1, cellC b12 ((planC (⟨6, 2, 7, 1, 1, 9⟩ : Plan))).toArray 25, memK mg20 x27.2.2.2, cellC b22 ((seatC (⟨(⟨6, 2, 7, 1, 1, 9⟩ : Plan), 0, 0⟩ : Seat))).toArray 29, cellC b23 ((seatC (⟨(⟨6, 2, 7, 1, 1, 9⟩ : Plan), 0, 1⟩ : Seat))).toArray 29, cellC b28 ((resC x27.1)).toArray 32, cellC b29 ((resC x27.2.1)).toArray 32, rowK 22 1 u64 v33 x31] w0 w43 := hP.below hb
           exact nxy35 true () _ _ _ hD r (hs_cons rfl (hs_cons rfl (hs_cons rfl (hs_cons rfl (hs_cons rfl (hs_cons rfl (hs_cons rfl (hs_cons rfl (hs_cons rfl (hs_cons rfl (hs_cons rfl (hs_cons rfl (hs_cons rfl (hs_cons rfl hs_nil)))))))))))))) (hP.pick [0, 1, 2, 3, 4, 5, 6, 7, 8] rfl rfl)
         ·
          have hD := (cond_f h42).symm.trans hD
          obtain ⟨x44, hx44, hD⟩ := zz0f hD
          obtain ⟨x45, hx45, hD⟩ := zz0f hD
          refine zz3e [.val (.bool x27.2.2.1), .val (.bool (!x27.2.2.1)), .val (.bool (!x27.2.2.1)), .val (.agg (resC x27.1).toArray), .val (.agg (resC (⟨0, 0⟩ : Res)).toArray), .val (.bool (!(x27.1 == (⟨0, 0⟩ : Res)))), .val (.bool (!(x27.1 == (⟨0, 0⟩ : Res)))), .val (.bool (!(x27.1 == (⟨0, 0⟩ : Res)))), .val (.agg (resC x27.2.1).toArray), .val (.agg (resC (⟨0, 0⟩ : Res)).toArray), .val (.bool (!(x27.2.1 == (⟨0, 0⟩ : Res)))), .val (.bool (!(x27.2.1 == (⟨0, 0⟩ : Res)))), .val (.bool (!(x27.2.1 == (⟨0, 0⟩ : Res)))), .val v33, .val (I (x31.length : Int)), .val (.bool ((x31.length : Int) != 2)), .val (.bool ((x31.length : Int) != 2)), .val (.bool ((x31.length : Int) != 2)), .val v33, .val (.pointer (some ⟨rowB v33, rowO v33 + (0 : Int).toNat * 1, none⟩)), .val (U x44), .val v33, .val (.pointer (some ⟨rowB v33, rowO v33 + (1 : Int).toNat * 1, none⟩)), .val (U x45), .val (U (V (x44 + x45))), .val (.bool ((V (x44 + x45)) != 3)), .val (.bool ((V (x44 + x45)) != 3))] mixed r (by kernel_rfl) ?_ ?_
          ·
           refine fc r (fun fr1 g w' hb' hd r' => y_move r' rfl bz) ?_
           refine fc r (fun fr1 g w' hb' hd r' => y_un r' (u := (.bool x27.2.2.1)) (v := (.bool (!x27.2.2.1))) (hd 0 rfl).1 rfl bz) ?_
           refine fc r (fun fr1 g w' hb' hd r' => y_move r' (hd 1 rfl).1 bz) ?_
           refine zz0a false r rfl rfl rfl (fun g w' hd => Eq.trans (show (g 2).v = .bool (!x27.2.2.1) from (hd 2 rfl).1) (congrArg Value.bool h36)) (fun fr1 g w' hb' hd r' => ?_) ?_
           · exact zz03 r' (cs := (resC x27.1)) (n := 2) rfl ((hP.below (dr hb')).cell (i := 6) rfl) ta32 rfl ⟨Below.refl _ _, rfl⟩
           refine zz0a false r rfl rfl rfl (fun g w' hd => Eq.trans (show (g 2).v = .bool (!x27.2.2.1) from (hd 2 rfl).1) (congrArg Value.bool h36)) (fun fr1 g w' hb' hd r' => ?_) ?_
           · exact y_build r' (v := (.agg (resC (⟨0, 0⟩ : Res)).toArray)) (by kernel_rfl) ⟨Below.refl _ _, rfl⟩
           refine zz0a false r rfl rfl rfl (fun g w' hd => Eq.trans (show (g 2).v = .bool (!x27.2.2.1) from (hd 2 rfl).1) (congrArg Value.bool h36)) (fun fr1 g w' hb' hd r' => ?_) ?_
           · exact y_bin r' (u := (.agg (resC x27.1).toArray)) (u' := (.agg (resC (⟨0, 0⟩ : Res)).toArray)) (v := (.bool (!(x27.1 == (⟨0, 0⟩ : Res))))) (hd 3 rfl).1 (hd 4 rfl).1 (run_eqGuard_agg _ _ _ _ _ _ _ eg32) (eqs32 _ _ _).2 ⟨Below.refl _ _, rfl⟩
           refine fc r (fun fr1 g w' hb' hd r' => y_pick r' (b := false) (v := (.bool (!(x27.1 == (⟨0, 0⟩ : Res))))) (Eq.trans (show (g 2).v = .bool (!x27.2.2.1) from (hd 2 rfl).1) (congrArg Value.bool h36)) (hd 5 rfl).1 bz) ?_
           refine fc r (fun fr1 g w' hb' hd r' => y_move r' (hd 6 rfl).1 bz) ?_
           refine zz0a false r rfl rfl rfl (fun g w' hd => Eq.trans (show (g 7).v = .bool (!(x27.1 == (⟨0, 0⟩ : Res))) from (hd 7 rfl).1) (congrArg Value.bool h38)) (fun fr1 g w' hb' hd r' => ?_) ?_
           · exact zz03 r' (cs := (resC x27.2.1)) (n := 2) rfl ((hP.below (dr hb')).cell (i := 7) rfl) ta32 rfl ⟨Below.refl _ _, rfl⟩
           refine zz0a false r rfl rfl rfl (fun g w' hd => Eq.trans (show (g 7).v = .bool (!(x27.1 == (⟨0, 0⟩ : Res))) from (hd 7 rfl).1) (congrArg Value.bool h38)) (fun fr1 g w' hb' hd r' => ?_) ?_
           · exact y_build r' (v := (.agg (resC (⟨0, 0⟩ : Res)).toArray)) (by kernel_rfl) ⟨Below.refl _ _, rfl⟩
           refine zz0a false r rfl rfl rfl (fun g w' hd => Eq.trans (show (g 7).v = .bool (!(x27.1 == (⟨0, 0⟩ : Res))) from (hd 7 rfl).1) (congrArg Value.bool h38)) (fun fr1 g w' hb' hd r' => ?_) ?_
           · exact y_bin r' (u := (.agg (resC x27.2.1).toArray)) (u' := (.agg (resC (⟨0, 0⟩ : Res)).toArray)) (v := (.bool (!(x27.2.1 == (⟨0, 0⟩ : Res))))) (hd 8 rfl).1 (hd 9 rfl).1 (run_eqGuard_agg _ _ _ _ _ _ _ eg32) (eqs32 _ _ _).2 ⟨Below.refl _ _, rfl⟩
           refine fc r (fun fr1 g w' hb' hd r' => y_pick r' (b := false) (v := (.bool (!(x27.2.1 == (⟨0, 0⟩ : Res))))) (Eq.trans (show (g 7).v = .bool (!(x27.1 == (⟨0, 0⟩ : Res))) from (hd 7 rfl).1) (congrArg Value.bool h38)) (hd 10 rfl).1 bz) ?_
           refine fc r (fun fr1 g w' hb' hd r' => y_move r' (hd 11 rfl).1 bz) ?_
           refine zz0a false r rfl rfl rfl (fun g w' hd => Eq.trans (show (g 12).v = .bool (!(x27.2.1 == (⟨0, 0⟩ : Res))) from (hd 12 rfl).1) (congrArg Value.bool h40)) (fun fr1 g w' hb' hd r' => ?_) ?_
           · exact y_move r' (v := v33) rfl ⟨Below.refl _ _, rfl⟩
           refine zz0a false r rfl rfl rfl (fun g w' hd => Eq.trans (show (g 12).v = .bool (!(x27.2.1 == (⟨0, 0⟩ : Res))) from (hd 12 rfl).1) (congrArg Value.bool h40)) (fun fr1 g w' hb' hd r' => ?_) ?_
           · exact zz3f r' ((hP.below (dr hb')).row (i := 8) rfl).ro is49 (hd 13 rfl).1 ⟨Below.refl _ _, rfl⟩
           refine zz0a false r rfl rfl rfl (fun g w' hd => Eq.trans (show (g 12).v = .bool (!(x27.2.1 == (⟨0, 0⟩ : Res))) from (hd 12 rfl).1) (congrArg Value.bool h40)) (fun fr1 g w' hb' hd r' => ?_) ?_
           · exact y_bin r' (u := (I (x31.length : Int))) (u' := (I 2)) (v := (.bool ((x31.length : Int) != 2))) (hd 14 rfl).1 rfl rfl rfl ⟨Below.refl _ _, rfl⟩
           refine fc r (fun fr1 g w' hb' hd r' => y_pick r' (b := false) (v := (.bool ((x31.length : Int) != 2))) (Eq.trans (show (g 12).v = .bool (!(x27.2.1 == (⟨0, 0⟩ : Res))) from (hd 12 rfl).1) (congrArg Value.bool h40)) (hd 15 rfl).1 bz) ?_
           refine fc r (fun fr1 g w' hb' hd r' => y_move r' (hd 16 rfl).1 bz) ?_
           refine zz0a false r rfl rfl rfl (fun g w' hd => Eq.trans (show (g 17).v = .bool ((x31.length : Int) != 2) from (hd 17 rfl).1) (congrArg Value.bool h42)) (fun fr1 g w' hb' hd r' => ?_) ?_
           · exact y_move r' (v := v33) rfl ⟨Below.refl _ _, rfl⟩
           refine zz0a false r rfl rfl rfl (fun g w' hd => Eq.trans (show (g 17).v = .bool ((x31.length : Int) != 2) from (hd 17 rfl).1) (congrArg Value.bool h42)) (fun fr1 g w' hb' hd r' => ?_) ?_
           · exact zz3b r' ((hP.below (dr hb')).row (i := 8) rfl).ro hx44 sl49 (hd 18 rfl).1 rfl ⟨Below.refl _ _, rfl⟩
           refine zz0a false r rfl rfl rfl (fun g w' hd => Eq.trans (show (g 17).v = .bool ((x31.length : Int) != 2) from (hd 17 rfl).1) (congrArg Value.bool h42)) (fun fr1 g w' hb' hd r' => ?_) ?_
           · exact zz2y r' (u := (U x44)) (RoAt.at_ (f := u64) (x := x44) ((hP.below (dr hb')).row (i := 8) rfl).ro (fun _ => rfl) hx44) (hd 19 rfl).1 to22 ⟨Below.refl _ _, rfl⟩
           refine zz0a false r rfl rfl rfl (fun g w' hd => Eq.trans (show (g 17).v = .bool ((x31.length : Int) != 2) from (hd 17 rfl).1) (congrArg Value.bool h42)) (fun fr1 g w' hb' hd r' => ?_) ?_
           · exact y_move r' (v := v33) rfl ⟨Below.refl _ _, rfl⟩
           refine zz0a false r rfl rfl rfl (fun g w' hd => Eq.trans (show (g 17).v = .bool ((x31.length : Int) != 2) from (hd 17 rfl).1) (congrArg Value.bool h42)) (fun fr1 g w' hb' hd r' => ?_) ?_
           · exact zz3b r' ((hP.below (dr hb')).row (i := 8) rfl).ro hx45 sl49 (hd 21 rfl).1 rfl ⟨Below.refl _ _, rfl⟩
           refine zz0a false r rfl rfl rfl (fun g w' hd => Eq.trans (show (g 17).v = .bool ((x31.length : Int) != 2) from (hd 17 rfl).1) (congrArg Value.bool h42)) (fun fr1 g w' hb' hd r' => ?_) ?_
           · exact zz2y r' (u := (U x45)) (RoAt.at_ (f := u64) (x := x45) ((hP.below (dr hb')).row (i := 8) rfl).ro (fun _ => rfl) hx45) (hd 22 rfl).1 to22 ⟨Below.refl _ _, rfl⟩
           refine zz0a false r rfl rfl rfl (fun g w' hd => Eq.trans (show (g 17).v = .bool ((x31.length : Int) != 2) from (hd 17 rfl).1) (congrArg Value.bool h42)) (fun fr1 g w' hb' hd r' => ?_) ?_
           · exact y_bin r' (u := (U x44)) (u' := (U x45)) (v := (U (V (x44 + x45)))) (hd 20 rfl).1 (hd 23 rfl).1 rfl rfl ⟨Below.refl _ _, rfl⟩
           refine zz0a false r rfl rfl rfl (fun g w' hd => Eq.trans (show (g 17).v = .bool ((x31.length : Int) != 2) from (hd 17 rfl).1) (congrArg Value.bool h42)) (fun fr1 g w' hb' hd r' => ?_) ?_
           · exact y_bin r' (u := (U (V (x44 + x45)))) (u' := (U 3)) (v := (.bool ((V (x44 + x45)) != 3))) (hd 24 rfl).1 rfl rfl rfl ⟨Below.refl _ _, rfl⟩
           refine fc r (fun fr1 g w' hb' hd r' => y_pick r' (b := false) (v := (.bool ((V (x44 + x45)) != 3))) (Eq.trans (show (g 17).v = .bool ((x31.length : Int) != 2) from (hd 17 rfl).1) (congrArg Value.bool h42)) (hd 25 rfl).1 bz) ?_
           exact zz1c
          ·
           intro fr gg w46 hb hΦ hap r
           have r := r.congr (sc ((hΦ 26 rfl).1) (sc ((hΦ 25 rfl).1) (sc ((hΦ 24 rfl).1) (sc ((hΦ 23 rfl).1) (sc ((hΦ 22 rfl).1) (sc ((hΦ 21 rfl).1) (sc ((hΦ 20 rfl).1) (sc ((hΦ 19 rfl).1) (sc ((hΦ 18 rfl).1) (sc ((hΦ 17 rfl).1) (sc ((hΦ 16 rfl).1) (sc ((hΦ 15 rfl).1) (sc ((hΦ 14 rfl).1) (sc ((hΦ 13 rfl).1) (sc ((hΦ 12 rfl).1) (sc ((hΦ 11 rfl).1) (sc ((hΦ 10 rfl).1) (sc ((hΦ 9 rfl).1) (sc ((hΦ 8 rfl).1) (sc ((hΦ 7 rfl).1) (sc ((hΦ 6 rfl).1) (sc ((hΦ 5 rfl).1) (sc ((hΦ 4 rfl).1) (sc ((hΦ 3 rfl).1) (sc ((hΦ 2 rfl).1) (sc ((hΦ 1 rfl).1) (sc ((hΦ 0 rfl).1) rfl)))))))))))))))))))))))))))
           have hP : Post No [roK 4 1 boolE a0_v a0, roK 4 1 boolE a1_v a1, cellC b12 ((planC (⟨6, 2, 7, 1, 1, 9⟩ : Plan))).toArray 25, memK mg20 x27.2.2.2, cellC b22 ((seatC (⟨(⟨6, 2, 7, 1, 1, 9⟩ : Plan), 0, 0⟩ : Seat))).toArray 29, cellC b23 ((seatC (⟨(⟨6, 2, 7, 1, 1, 9⟩ : Plan), 0, 1⟩ : Seat))).toArray 29, cellC b28 ((resC x27.1)).toArray 32, cellC b29 ((resC x27.2.1)).toArray 32, rowK 22 1 u64 v33 x31] w0 w46 := hP.below hb
           exact nxy35 ((V (x44 + x45)) != 3) () _ _ _ hD r (hs_cons rfl (hs_cons rfl (hs_cons rfl (hs_cons rfl (hs_cons rfl (hs_cons rfl (hs_cons rfl (hs_cons rfl (hs_cons rfl (hs_cons rfl (hs_cons rfl (hs_cons rfl (hs_cons rfl (hs_cons rfl hs_nil)))))))))))))) (hP.pick [0, 1, 2, 3, 4, 5, 6, 7, 8] rfl rfl)
     ·
      rintro x47 γ48 fr w49 g r hP hD
      have hP : Post No [roK 4 1 boolE a0_v a0, roK 4 1 boolE a1_v a1, cellC b12 ((planC (⟨6, 2, 7, 1, 1, 9⟩ : Plan))).toArray 25, memK mg20 x27.2.2.2, cellC b22 ((seatC (⟨(⟨6, 2, 7, 1, 1, 9⟩ : Plan), 0, 0⟩ : Seat))).toArray 29, cellC b23 ((seatC (⟨(⟨6, 2, 7, 1, 1, 9⟩ : Plan), 0, 1⟩ : Seat))).toArray 29, cellC b28 ((resC x27.1)).toArray 32, cellC b29 ((resC x27.2.1)).toArray 32, rowK 22 1 u64 v33 x31] w0 w49 := hP
      refine wp_cond_split (t := x47) (r.ev rfl) (fun h50 => ?_) (fun h50 => ?_)
      ·
       have hD := (cond_t h50).symm.trans hD
       refine wsr ?_
       refine seq_val (.bool false) r (fun R => zz05 r rfl) rfl fun fr r => ?_
       refine wn ?_
       refine wp_ret ?_
       have hv : false = res := Option.some.inj hD
       try dsimp only [Exit.then, Exit.inBlock]
       refine ret_tmp (fn := Tryz.f13) r (t := 4) rfl (v := (.bool false)) rfl ?_
       subst hv
       exact ⟨rfl, hP.chg.below⟩
      ·
       have hD := (cond_f h50).symm.trans hD
       refine wp_skip ?_
       refine wp_seq ?_
       obtain ⟨x53, hx53, hD⟩ := zz0f hD
       refine zz6d mg20.bs [.val (.agg (seatC (⟨(⟨6, 2, 7, 1, 1, 9⟩ : Plan), 0, 0⟩ : Seat)).toArray), .pred (PrP Tryz.prog encRes (fu, (D.zz1d (fu + 1) (⟨(⟨6, 2, 7, 1, 1, 9⟩ : Plan), 0, 0⟩ : Seat) 0))) (PrP.st _), .val (.agg (seatC (⟨(⟨6, 2, 7, 1, 1, 9⟩ : Plan), 0, 1⟩ : Seat)).toArray), .pred (PrP Tryz.prog encRes (fu, (D.zz1d (fu + 1) (⟨(⟨6, 2, 7, 1, 1, 9⟩ : Plan), 0, 1⟩ : Seat) 0))) (PrP.st _), .val (.pointer (some ⟨mg20.mb, 0, none⟩)), .val a1_v, .eff (EffP w49.heap.size (memK mg20 x53.2.2.2) (fun _ : Unit => (.tuple #[(.agg (resC x53.1).toArray), (.agg (resC x53.2.1).toArray), (.bool x53.2.2.1)])) (fun _ : Unit => [])) (EffP.st _ _ _ _), .val (.tuple #[(.agg (resC x53.1).toArray), (.agg (resC x53.2.1).toArray), (.bool x53.2.2.1)]), .val (.agg (resC x53.1).toArray), .val (.agg (resC x53.2.1).toArray), .val (.bool x53.2.2.1), .cell 32 2, .cell 32 2, .stored 11 ((resC x53.1)).toArray 32 2 rfl, .stored 12 ((resC x53.2.1)).toArray 32 2 rfl, .val (.bool x53.2.2.1)] mixed r (fun b hb => hP.sep.lt (i := 3) rfl (.inl hb)) (by kernel_rfl) ?_ ?_
       ·
        refine zz08 r rfl (fun fr1 g w' hk' hd r' => ?_) ?_
        · exact zz03 r' (cs := (seatC (⟨(⟨6, 2, 7, 1, 1, 9⟩ : Plan), 0, 0⟩ : Seat))) (n := 8) rfl (hP.cellK (j := 3) rfl (drK hk') (i := 4) rfl rfl) ta29 rfl ⟨Below.refl _ _, rfl⟩
        refine zz0o r rfl (by kernel_rfl) (fun fr1 g w' hb' hd r' => ?_) ?_
        · exact y_call r' (args := [(.agg (seatC (⟨(⟨6, 2, 7, 1, 1, 9⟩ : Plan), 0, 0⟩ : Seat)).toArray), (I 0)]) (lc (hd 0 rfl).1 (lc rfl l0)) cl57 ((zzd1 (F := No) (n := fu) (j := fu + 1) (fun _ h => h.elim) (by omega) (⟨(⟨6, 2, 7, 1, 1, 9⟩ : Plan), 0, 0⟩ : Seat) 0).mono (by rintro _ w2 ⟨y, rfl, hb2, hr2⟩; exact ⟨_, rfl, hb2, zz72 hr2⟩))
        refine zz08 r rfl (fun fr1 g w' hk' hd r' => ?_) ?_
        · exact zz03 r' (cs := (seatC (⟨(⟨6, 2, 7, 1, 1, 9⟩ : Plan), 0, 1⟩ : Seat))) (n := 8) rfl (hP.cellK (j := 3) rfl (drK hk') (i := 5) rfl rfl) ta29 rfl ⟨Below.refl _ _, rfl⟩
        refine zz0o r rfl (by kernel_rfl) (fun fr1 g w' hb' hd r' => ?_) ?_
        · exact y_call r' (args := [(.agg (seatC (⟨(⟨6, 2, 7, 1, 1, 9⟩ : Plan), 0, 1⟩ : Seat)).toArray), (I 0)]) (lc (hd 2 rfl).1 (lc rfl l0)) cl57 ((zzd1 (F := No) (n := fu) (j := fu + 1) (fun _ h => h.elim) (by omega) (⟨(⟨6, 2, 7, 1, 1, 9⟩ : Plan), 0, 1⟩ : Seat) 0).mono (by rintro _ w2 ⟨y, rfl, hb2, hr2⟩; exact ⟨_, rfl, hb2, zz72 hr2⟩))
        refine zz0o r rfl (by kernel_rfl) (fun fr1 g w' hb' hd r' => ?_) ?_
        · exact y_move r' (v := (.pointer (some ⟨mg20.mb, 0, none⟩))) rfl ⟨Below.refl _ _, rfl⟩
        refine zz0o r rfl (by kernel_rfl) (fun fr1 g w' hb' hd r' => ?_) ?_
        · exact y_move r' (v := a1_v) rfl ⟨Below.refl _ _, rfl⟩
        refine zz0o r rfl (by kernel_rfl) (fun fr1 g w' hb' hd r' => ?_) ?_
        · exact y_call r' (args := [(g 1).v, (g 3).v, (.pointer (some ⟨mg20.mb, 0, none⟩)), a1_v]) (lc rfl (lc rfl (lc (hd 4 rfl).1 (lc (hd 5 rfl).1 l0)))) cl63 ((zz66 _ (fu, (D.zz1d (fu + 1) (⟨(⟨6, 2, 7, 1, 1, 9⟩ : Plan), 0, 0⟩ : Seat) 0)) (fu, (D.zz1d (fu + 1) (⟨(⟨6, 2, 7, 1, 1, 9⟩ : Plan), 0, 1⟩ : Seat) 0)) x27.2.2.2 a1 (Sep.beside2 (hd 1 rfl).1 (hd 3 rfl).1 ((hd 1 rfl).2.2.2 3 rfl (by decide)) ((hP.below (dr hb')).sep.pk [3, 1] rfl rfl) (by intro c hc b hb; simp only [List.mem_cons, List.not_mem_nil, or_false] at hc; rcases hc with rfl | rfl; exact hP.sep.lt (i := 3) rfl hb; exact hP.sep.lt (i := 1) rfl hb) (hd 1 rfl).2.1 (hd 3 rfl).2.1) hx53).mono (by rintro _ w2 ⟨rfl, hq⟩; exact ⟨_, rfl, hq.chg.kept, EffP.of () hq rfl (fun b hb => hP.sep.lt (i := 3) rfl hb)⟩))
        refine zz08 r rfl (fun fr1 g w' hk' hd r' => ?_) ?_
        · exact y_move r' (v := (.tuple #[(.agg (resC x53.1).toArray), (.agg (resC x53.2.1).toArray), (.bool x53.2.2.1)])) (EffP.val (hd 6 rfl).1) ⟨Below.refl _ _, rfl⟩
        refine zz08 r rfl (fun fr1 g w' hk' hd r' => ?_) ?_
        · exact zz0t r' (vs := #[(.agg (resC x53.1).toArray), (.agg (resC x53.2.1).toArray), (.bool x53.2.2.1)]) (hd 7 rfl).1 rfl ⟨Below.refl _ _, rfl⟩
        refine zz08 r rfl (fun fr1 g w' hk' hd r' => ?_) ?_
        · exact zz0t r' (vs := #[(.agg (resC x53.1).toArray), (.agg (resC x53.2.1).toArray), (.bool x53.2.2.1)]) (hd 7 rfl).1 rfl ⟨Below.refl _ _, rfl⟩
        refine zz08 r rfl (fun fr1 g w' hk' hd r' => ?_) ?_
        · exact zz0t r' (vs := #[(.agg (resC x53.1).toArray), (.agg (resC x53.2.1).toArray), (.bool x53.2.2.1)]) (hd 7 rfl).1 rfl ⟨Below.refl _ _, rfl⟩
        refine zz08 r rfl (fun fr1 g w' hk' hd r' => ?_) ?_
        · exact y_alloc tz32 (fun b w2 n2 => ⟨n2.below, b, rfl, n2.eq, _, n2.at_, rfl⟩)
        refine zz08 r rfl (fun fr1 g w' hk' hd r' => ?_) ?_
        · exact y_alloc tz32 (fun b w2 n2 => ⟨n2.below, b, rfl, n2.eq, _, n2.at_, rfl⟩)
        refine zz08 r rfl (fun fr1 g w' hk' hd r' => ?_) ?_
        · obtain ⟨hp, _, c, hc, hn⟩ := (hd 11 rfl).1; exact y_store r' (o := 0) (c := c) (v := (.agg (resC x53.1).toArray)) hp (hd 8 rfl).1 hc ts32 (by rw [hn]; exact Nat.le_of_ble_eq_true rfl) rfl (zz3k (hn.trans rfl)) (fun w2 u2 => ⟨u2, rfl⟩)
        refine zz08 r rfl (fun fr1 g w' hk' hd r' => ?_) ?_
        · obtain ⟨hp, _, c, hc, hn⟩ := (hd 12 rfl).1; exact y_store r' (o := 0) (c := c) (v := (.agg (resC x53.2.1).toArray)) hp (hd 9 rfl).1 hc ts32 (by rw [hn]; exact Nat.le_of_ble_eq_true rfl) rfl (zz3k (hn.trans rfl)) (fun w2 u2 => ⟨u2, rfl⟩)
        refine zz08 r rfl (fun fr1 g w' hk' hd r' => ?_) ?_
        · exact zz05 r' (v := (.bool x53.2.2.1)) (hd 10 rfl).1 ⟨Below.refl _ _, rfl⟩
        exact zz1c
       ·
        intro fr gg w56 hb hΦ hap r
        obtain ⟨v51, hv1⟩ : ∃ v, v = (gg 1).v := ⟨_, rfl⟩
        have g1 : (gg 1).v = v51 := hv1.symm
        have hs1 : Fresh [progK Tryz.prog encRes (fu, (D.zz1d (fu + 1) (⟨(⟨6, 2, 7, 1, 1, 9⟩ : Plan), 0, 0⟩ : Seat) 0)) v51 (rg (gg 1).lo (gg 1).hi)] (gg 1).lo (gg 1).hi w56 := by subst hv1; exact (hΦ 1 rfl).1
        obtain ⟨v52, hv3⟩ : ∃ v, v = (gg 3).v := ⟨_, rfl⟩
        have g3 : (gg 3).v = v52 := hv3.symm
        have hs3 : Fresh [progK Tryz.prog encRes (fu, (D.zz1d (fu + 1) (⟨(⟨6, 2, 7, 1, 1, 9⟩ : Plan), 0, 1⟩ : Seat) 0)) v52 (rg (gg 3).lo (gg 3).hi)] (gg 3).lo (gg 3).hi w56 := by subst hv3; exact (hΦ 3 rfl).1
        obtain ⟨⟨⟩, g6, hcE, _, hs6⟩ := (hΦ 6 rfl).1
        obtain ⟨b54, ee_b54⟩ : ∃ b, b = (gg 11).lo := ⟨_, rfl⟩
        have g11 : (gg 11).v = (.pointer (some ⟨b54, 0, none⟩)) := by rw [ee_b54]; exact (hΦ 11 rfl).1.1
        have h_b54 : w56.heap[b54]? = some (.cells ((resC x53.1)).toArray 32 (0, 0)) := by rw [ee_b54]; exact (hΦ 13 rfl).1.2
        have hs11 : Fresh [cellC b54 ((resC x53.1)).toArray 32] (gg 11).lo (gg 11).hi w56 := by subst ee_b54; exact Fresh.cell (hΦ 11 rfl).1.2.1 h_b54
        obtain ⟨b55, ee_b55⟩ : ∃ b, b = (gg 12).lo := ⟨_, rfl⟩
        have g12 : (gg 12).v = (.pointer (some ⟨b55, 0, none⟩)) := by rw [ee_b55]; exact (hΦ 12 rfl).1.1
        have h_b55 : w56.heap[b55]? = some (.cells ((resC x53.2.1)).toArray 32 (0, 0)) := by rw [ee_b55]; exact (hΦ 14 rfl).1.2
        have hs12 : Fresh [cellC b55 ((resC x53.2.1)).toArray 32] (gg 12).lo (gg 12).hi w56 := by subst ee_b55; exact Fresh.cell (hΦ 12 rfl).1.2.1 h_b55
        have r := r.congr (sc ((hΦ 15 rfl).1) (sc g12 (sc g11 (sc ((hΦ 10 rfl).1) (sc ((hΦ 9 rfl).1) (sc ((hΦ 8 rfl).1) (sc ((hΦ 7 rfl).1) (sc g6 (sc ((hΦ 5 rfl).1) (sc ((hΦ 4 rfl).1) (sc g3 (sc ((hΦ 2 rfl).1) (sc g1 (sc ((hΦ 0 rfl).1) rfl))))))))))))))
        have hP : Post No [roK 4 1 boolE a0_v a0, roK 4 1 boolE a1_v a1, cellC b12 ((planC (⟨6, 2, 7, 1, 1, 9⟩ : Plan))).toArray 25, memK mg20 x53.2.2.2, cellC b22 ((seatC (⟨(⟨6, 2, 7, 1, 1, 9⟩ : Plan), 0, 0⟩ : Seat))).toArray 29, cellC b23 ((seatC (⟨(⟨6, 2, 7, 1, 1, 9⟩ : Plan), 0, 1⟩ : Seat))).toArray 29, cellC b28 ((resC x27.1)).toArray 32, cellC b29 ((resC x27.2.1)).toArray 32, rowK 22 1 u64 v33 x31, progK Tryz.prog encRes (fu, (D.zz1d (fu + 1) (⟨(⟨6, 2, 7, 1, 1, 9⟩ : Plan), 0, 0⟩ : Seat) 0)) v51 (rg (gg 1).lo (gg 1).hi), progK Tryz.prog encRes (fu, (D.zz1d (fu + 1) (⟨(⟨6, 2, 7, 1, 1, 9⟩ : Plan), 0, 1⟩ : Seat) 0)) v52 (rg (gg 3).lo (gg 3).hi), cellC b54 ((resC x53.1)).toArray 32, cellC b55 ((resC x53.2.1)).toArray 32] w0 w56 := hP.effL (i := 3) (l := [([progK Tryz.prog encRes (fu, (D.zz1d (fu + 1) (⟨(⟨6, 2, 7, 1, 1, 9⟩ : Plan), 0, 0⟩ : Seat) 0)) v51 (rg (gg 1).lo (gg 1).hi)], (gg 1).lo, (gg 1).hi), ([progK Tryz.prog encRes (fu, (D.zz1d (fu + 1) (⟨(⟨6, 2, 7, 1, 1, 9⟩ : Plan), 0, 1⟩ : Seat) 0)) v52 (rg (gg 3).lo (gg 3).hi)], (gg 3).lo, (gg 3).hi), ([cellC b54 ((resC x53.1)).toArray 32], (gg 11).lo, (gg 11).hi), ([cellC b55 ((resC x53.2.1)).toArray 32], (gg 12).lo, (gg 12).hi)]) rfl hb hcE rfl rfl ⟨hs1, (hΦ 1 rfl).2.1, (zz2c (hap 1 3 rfl) (zz2c (hap 1 11 rfl) (zz2c (hap 1 12 rfl) zz26))), ⟨hs3, (hΦ 3 rfl).2.1, (zz2c (hap 3 11 rfl) (zz2c (hap 3 12 rfl) zz26)), ⟨hs11, (hΦ 11 rfl).2.1, (zz2c (hap 11 12 rfl) zz26), ⟨hs12, (hΦ 12 rfl).2.1, zz26, trivial⟩⟩⟩⟩
        refine wp_seq ?_
        have hP : Post No [roK 4 1 boolE a0_v a0, roK 4 1 boolE a1_v a1, cellC b12 ((planC (⟨6, 2, 7, 1, 1, 9⟩ : Plan))).toArray 25, memK mg20 x53.2.2.2, cellC b22 ((seatC (⟨(⟨6, 2, 7, 1, 1, 9⟩ : Plan), 0, 0⟩ : Seat))).toArray 29, cellC b23 ((seatC (⟨(⟨6, 2, 7, 1, 1, 9⟩ : Plan), 0, 1⟩ : Seat))).toArray 29, cellC b28 ((resC x27.1)).toArray 32, cellC b29 ((resC x27.2.1)).toArray 32, rowK 22 1 u64 v33 x31, cellC b54 ((resC x53.1)).toArray 32, cellC b55 ((resC x53.2.1)).toArray 32] w0 w56 := hP.pick [0, 1, 2, 3, 4, 5, 6, 7, 8, 11, 12] rfl rfl
        refine zz2f (N := 116) (Y := Bool) (G := Unit) (fun x γ => [(0, a0_v), (1, a1_v), (27, (.bool x6)), (5, (.pointer (some ⟨b12, 0, none⟩))), (6, (.pointer (some ⟨mg20.mb, 0, none⟩))), (33, (.bool false)), (7, (.pointer (some ⟨b22, 0, none⟩))), (8, (.pointer (some ⟨b23, 0, none⟩))), (9, (.pointer (some ⟨b28, 0, none⟩))), (10, (.pointer (some ⟨b29, 0, none⟩))), (11, (.bool x27.2.2.1)), (12, v33), (78, (.bool x47)), (13, (.pointer (some ⟨b54, 0, none⟩))), (14, (.pointer (some ⟨b55, 0, none⟩))), (15, (.bool x53.2.2.1)), (4, (.bool x))]) (fun x γ w => Post No [roK 4 1 boolE a0_v a0, roK 4 1 boolE a1_v a1, cellC b12 ((planC (⟨6, 2, 7, 1, 1, 9⟩ : Plan))).toArray 25, memK mg20 x53.2.2.2, cellC b22 ((seatC (⟨(⟨6, 2, 7, 1, 1, 9⟩ : Plan), 0, 0⟩ : Seat))).toArray 29, cellC b23 ((seatC (⟨(⟨6, 2, 7, 1, 1, 9⟩ : Plan), 0, 1⟩ : Seat))).toArray 29, cellC b28 ((resC x27.1)).toArray 32, cellC b29 ((resC x27.2.1)).toArray 32, rowK 22 1 u64 v33 x31, cellC b54 ((resC x53.1)).toArray 32, cellC b55 ((resC x53.2.1)).toArray 32] w0 w) hD ?_ ?_
        ·
         rintro y57 RPy57 nxy57 hD
         refine wp_region_lit ?_
         refine seq_val (.bool x53.2.2.1) r (fun R => y_move r rfl) rfl fun fr r => ?_
         refine seq_val (.bool x53.2.2.1) r (fun R => y_move r rfl) rfl fun fr r => ?_
         refine zz0x x53.2.2.1 (fun h58 => ?_) (fun h58 => ?_)
         ·
          have hD := (cond_t h58).symm.trans hD
          refine s1 r h58 ?_
          refine seq_val _ r (fun R => zz02 r (o := 0) rfl fo32_0) rfl fun fr r => ?_
          refine s1 r h58 ?_
          refine seq_val (I x53.1.e) r (fun R => zz01 r rfl (hP.cell (i := 9) rfl) to30 rfl) rfl fun fr r => ?_
          refine s1 r h58 ?_
          refine seq_val _ r (fun R => y_bin r rfl rfl rfl rfl) rfl fun fr r => ?_
          refine seq_val (.bool (x53.1.e == 0)) r (fun R => y_pick r (b := true) (congrArg Value.bool h58) rfl) rfl fun fr r => ?_
          refine seq_val (.bool (x53.1.e == 0)) r (fun R => y_move r rfl) rfl fun fr r => ?_
          refine zz0x (x53.1.e == 0) (fun h59 => ?_) (fun h59 => ?_)
          ·
           have hD := (cond_t h59).symm.trans hD
           refine s1 r h59 ?_
           refine seq_val _ r (fun R => zz02 r (o := 0) rfl fo32_0) rfl fun fr r => ?_
           refine s1 r h59 ?_
           refine seq_val (I x53.2.1.e) r (fun R => zz01 r rfl (hP.cell (i := 10) rfl) to30 rfl) rfl fun fr r => ?_
           refine s1 r h59 ?_
           refine seq_val _ r (fun R => y_bin r rfl rfl rfl rfl) rfl fun fr r => ?_
           refine seq_val (.bool (x53.2.1.e == 0)) r (fun R => y_pick r (b := true) (congrArg Value.bool h59) rfl) rfl fun fr r => ?_
           refine seq_val (.bool (x53.2.1.e == 0)) r (fun R => y_move r rfl) rfl fun fr r => ?_
           refine zz0x (x53.2.1.e == 0) (fun h60 => ?_) (fun h60 => ?_)
           ·
            have hD := (cond_t h60).symm.trans hD
            refine s1 r h60 ?_
            refine seq_val _ r (fun R => zz02 r (o := 0) rfl fo32_1) rfl fun fr r => ?_
            refine s1 r h60 ?_
            refine seq_val (U x53.1.v) r (fun R => zz01 r rfl (hP.cell (i := 9) rfl) to22 rfl) rfl fun fr r => ?_
            refine s1 r h60 ?_
            refine seq_val _ r (fun R => zz02 r (o := 0) rfl fo32_1) rfl fun fr r => ?_
            refine s1 r h60 ?_
            refine seq_val (U x53.2.1.v) r (fun R => zz01 r rfl (hP.cell (i := 10) rfl) to22 rfl) rfl fun fr r => ?_
            refine s1 r h60 ?_
            refine seq_val _ r (fun R => y_bin r rfl rfl rfl rfl) rfl fun fr r => ?_
            refine s1 r h60 ?_
            refine seq_val _ r (fun R => y_bin r rfl rfl rfl rfl) rfl fun fr r => ?_
            refine seq_val (.bool ((V (x53.1.v + x53.2.1.v)) == 3)) r (fun R => y_pick r (b := true) (congrArg Value.bool h60) rfl) rfl fun fr r => ?_
            refine seq_val (.bool ((V (x53.1.v + x53.2.1.v)) == 3)) r (fun R => y_move r rfl) rfl fun fr r => ?_
            refine zz0x ((V (x53.1.v + x53.2.1.v)) == 3) (fun h61 => ?_) (fun h61 => ?_)
            ·
             have hD := (cond_t h61).symm.trans hD
             refine s1 r h61 ?_
             refine seq_val (.agg (planC (⟨6, 2, 7, 1, 1, 9⟩ : Plan)).toArray) r (fun R => zz03 r (cs := (planC (⟨6, 2, 7, 1, 1, 9⟩ : Plan))) (n := 6) rfl (hP.cell (i := 2) rfl) ta25 rfl) rfl fun fr r => ?_
             refine s1 r h61 ?_
             refine seq_val (.pointer (some ⟨mg20.mb, 0, none⟩)) r (fun R => y_move r rfl) rfl fun fr r => ?_
             refine s1 r h61 ?_
             obtain ⟨x62, hx62, hD⟩ := zz0f hD
             refine zz04 r (zz9i w56 (⟨6, 2, 7, 1, 1, 9⟩ : Plan) x53.2.2.2 (hP.mem (i := 3) rfl) 0 0 hx62) (fun R hc => y_call r rfl cl62 hc) rfl ?_
             rintro _ w63 ⟨v64, rfl, hq⟩
             refine ⟨_, rfl, fun fr r => ?_⟩
             have hP : Post No [roK 4 1 boolE a0_v a0, roK 4 1 boolE a1_v a1, cellC b12 ((planC (⟨6, 2, 7, 1, 1, 9⟩ : Plan))).toArray 25, memK mg20 x53.2.2.2, cellC b22 ((seatC (⟨(⟨6, 2, 7, 1, 1, 9⟩ : Plan), 0, 0⟩ : Seat))).toArray 29, cellC b23 ((seatC (⟨(⟨6, 2, 7, 1, 1, 9⟩ : Plan), 0, 1⟩ : Seat))).toArray 29, cellC b28 ((resC x27.1)).toArray 32, cellC b29 ((resC x27.2.1)).toArray 32, rowK 22 1 u64 v33 x31, cellC b54 ((resC x53.1)).toArray 32, cellC b55 ((resC x53.2.1)).toArray 32, rowK 22 1 u64 v64 x62] w0 w63 := hP.add hq
             refine s1 r h61 ?_
             refine seq_val (I (x62.length : Int)) r (fun R => zz3f r (hP.row (i := 11) rfl).ro is49 rfl) rfl fun fr r => ?_
             refine s1 r h61 ?_
             refine seq_val _ r (fun R => y_bin r rfl rfl rfl rfl) rfl fun fr r => ?_
             refine seq_val (.bool ((x62.length : Int) == 0)) r (fun R => y_pick r (b := true) (congrArg Value.bool h61) rfl) rfl fun fr r => ?_
             refine seq_val (.bool ((x62.length : Int) == 0)) r (fun R => zz05 r rfl) rfl fun fr r => ?_
             refine wn ?_
             exact nxy57 ((x62.length : Int) == 0) () _ _ _ hD r (hs_cons rfl (hs_cons rfl (hs_cons rfl (hs_cons rfl (hs_cons rfl (hs_cons rfl (hs_cons rfl (hs_cons rfl (hs_cons rfl (hs_cons rfl (hs_cons rfl (hs_cons rfl (hs_cons rfl (hs_cons rfl (hs_cons rfl (hs_cons rfl (hs_cons rfl hs_nil))))))))))))))))) (hP.pick [0, 1, 2, 3, 4, 5, 6, 7, 8, 9, 10] rfl rfl)
            ·
             have hD := (cond_f h61).symm.trans hD
             refine s0 r h61 fun fr r => ?_
             refine s0 r h61 fun fr r => ?_
             refine s0 r h61 fun fr r => ?_
             refine s0 r h61 fun fr r => ?_
             refine s0 r h61 fun fr r => ?_
             refine seq_val (.bool false) r (fun R => y_pick r (b := false) (congrArg Value.bool h61) rfl) rfl fun fr r => ?_
             refine seq_val (.bool false) r (fun R => zz05 r rfl) rfl fun fr r => ?_
             refine wn ?_
             exact nxy57 false () _ _ _ hD r (hs_cons rfl (hs_cons rfl (hs_cons rfl (hs_cons rfl (hs_cons rfl (hs_cons rfl (hs_cons rfl (hs_cons rfl (hs_cons rfl (hs_cons rfl (hs_cons rfl (hs_cons rfl (hs_cons rfl (hs_cons rfl (hs_cons rfl (hs_cons rfl (hs_cons rfl hs_nil))))))))))))))))) (hP.pick [0, 1, 2, 3, 4, 5, 6, 7, 8, 9, 10] rfl rfl)
           ·
            have hD := (cond_f h60).symm.trans hD
            refine s0 r h60 fun fr r => ?_
            refine s0 r h60 fun fr r => ?_
            refine s0 r h60 fun fr r => ?_
            refine s0 r h60 fun fr r => ?_
            refine s0 r h60 fun fr r => ?_
            refine s0 r h60 fun fr r => ?_
            refine seq_val (.bool false) r (fun R => y_pick r (b := false) (congrArg Value.bool h60) rfl) rfl fun fr r => ?_
            refine seq_val (.bool false) r (fun R => y_move r rfl) rfl fun fr r => ?_
            refine s0 r (rfl : false = _) fun fr r => ?_
            refine s0 r (rfl : false = _) fun fr r => ?_
            refine s0 r (rfl : false = _) fun fr r => ?_
            refine s0 r (rfl : false = _) fun fr r => ?_
            refine s0 r (rfl : false = _) fun fr r => ?_
            refine seq_val (.bool false) r (fun R => y_pick r (b := false) (congrArg Value.bool (rfl : false = _)) rfl) rfl fun fr r => ?_
            refine seq_val (.bool false) r (fun R => zz05 r rfl) rfl fun fr r => ?_
            refine wn ?_
            exact nxy57 false () _ _ _ hD r (hs_cons rfl (hs_cons rfl (hs_cons rfl (hs_cons rfl (hs_cons rfl (hs_cons rfl (hs_cons rfl (hs_cons rfl (hs_cons rfl (hs_cons rfl (hs_cons rfl (hs_cons rfl (hs_cons rfl (hs_cons rfl (hs_cons rfl (hs_cons rfl (hs_cons rfl hs_nil))))))))))))))))) (hP.pick [0, 1, 2, 3, 4, 5, 6, 7, 8, 9, 10] rfl rfl)
          ·
           have hD := (cond_f h59).symm.trans hD
           refine s0 r h59 fun fr r => ?_
           refine s0 r h59 fun fr r => ?_
           refine s0 r h59 fun fr r => ?_
           refine seq_val (.bool false) r (fun R => y_pick r (b := false) (congrArg Value.bool h59) rfl) rfl fun fr r => ?_
           refine seq_val (.bool false) r (fun R => y_move r rfl) rfl fun fr r => ?_
           refine s0 r (rfl : false = _) fun fr r => ?_
           refine s0 r (rfl : false = _) fun fr r => ?_
           refine s0 r (rfl : false = _) fun fr r => ?_
           refine s0 r (rfl : false = _) fun fr r => ?_
           refine s0 r (rfl : false = _) fun fr r => ?_
           refine s0 r (rfl : false = _) fun fr r => ?_
           refine seq_val (.bool false) r (fun R => y_pick r (b := false) (congrArg Value.bool (rfl : false = _)) rfl) rfl fun fr r => ?_
           refine seq_val (.bool false) r (fun R => y_move r rfl) rfl fun fr r => ?_
           refine s0 r (rfl : false = _) fun fr r => ?_
           refine s0 r (rfl : false = _) fun fr r => ?_
           refine s0 r (rfl : false = _) fun fr r => ?_
           refine s0 r (rfl : false = _) fun fr r => ?_
           refine s0 r (rfl : false = _) fun fr r => ?_
           refine seq_val (.bool false) r (fun R => y_pick r (b := false) (congrArg Value.bool (rfl : false = _)) rfl) rfl fun fr r => ?_
           refine seq_val (.bool false) r (fun R => zz05 r rfl) rfl fun fr r => ?_
           refine wn ?_
           exact nxy57 false () _ _ _ hD r (hs_cons rfl (hs_cons rfl (hs_cons rfl (hs_cons rfl (hs_cons rfl (hs_cons rfl (hs_cons rfl (hs_cons rfl (hs_cons rfl (hs_cons rfl (hs_cons rfl (hs_cons rfl (hs_cons rfl (hs_cons rfl (hs_cons rfl (hs_cons rfl (hs_cons rfl hs_nil))))))))))))))))) (hP.pick [0, 1, 2, 3, 4, 5, 6, 7, 8, 9, 10] rfl rfl)
         ·
          have hD := (cond_f h58).symm.trans hD
          refine s0 r h58 fun fr r => ?_
          refine s0 r h58 fun fr r => ?_
          refine s0 r h58 fun fr r => ?_
          refine seq_val (.bool false) r (fun R => y_pick r (b := false) (congrArg Value.bool h58) rfl) rfl fun fr r => ?_
          refine seq_val (.bool false) r (fun R => y_move r rfl) rfl fun fr r => ?_
          refine s0 r (rfl : false = _) fun fr r => ?_
          refine s0 r (rfl : false = _) fun fr r => ?_
          refine s0 r (rfl : false = _) fun fr r => ?_
          refine seq_val (.bool false) r (fun R => y_pick r (b := false) (congrArg Value.bool (rfl : false = _)) rfl) rfl fun fr r => ?_
          refine seq_val (.bool false) r (fun R => y_move r rfl) rfl fun fr r => ?_
          refine s0 r (rfl : false = _) fun fr r => ?_
          refine s0 r (rfl : false = _) fun fr r => ?_
          refine s0 r (rfl : false = _) fun fr r => ?_
          refine s0 r (rfl : false = _) fun fr r => ?_
          refine s0 r (rfl : false = _) fun fr r => ?_
          refine s0 r (rfl : false = _) fun fr r => ?_
          refine seq_val (.bool false) r (fun R => y_pick r (b := false) (congrArg Value.bool (rfl : false = _)) rfl) rfl fun fr r => ?_
          refine seq_val (.bool false) r (fun R => y_move r rfl) rfl fun fr r => ?_
          refine s0 r (rfl : false = _) fun fr r => ?_
          refine s0 r (rfl : false = _) fun fr r => ?_
          refine s0 r (rfl : false = _) fun fr r => ?_
          refine s0 r (rfl : false = _) fun fr r => ?_
          refine s0 r (rfl : false = _) fun fr r => ?_
          refine seq_val (.bool false) r (fun R => y_pick r (b := false) (congrArg Value.bool (rfl : false = _)) rfl) rfl fun fr r => ?_
          refine seq_val (.bool false) r (fun R => zz05 r rfl) rfl fun fr r => ?_
          refine wn ?_
          exact nxy57 false () _ _ _ hD r (hs_cons rfl (hs_cons rfl (hs_cons rfl (hs_cons rfl (hs_cons rfl (hs_cons rfl (hs_cons rfl (hs_cons rfl (hs_cons rfl (hs_cons rfl (hs_cons rfl (hs_cons rfl (hs_cons rfl (hs_cons rfl (hs_cons rfl (hs_cons rfl (hs_cons rfl hs_nil))))))))))))))))) (hP.pick [0, 1, 2, 3, 4, 5, 6, 7, 8, 9, 10] rfl rfl)
        ·
         rintro x66 γ67 fr w68 g r hP hD
         have hP : Post No [roK 4 1 boolE a0_v a0, roK 4 1 boolE a1_v a1, cellC b12 ((planC (⟨6, 2, 7, 1, 1, 9⟩ : Plan))).toArray 25, memK mg20 x53.2.2.2, cellC b22 ((seatC (⟨(⟨6, 2, 7, 1, 1, 9⟩ : Plan), 0, 0⟩ : Seat))).toArray 29, cellC b23 ((seatC (⟨(⟨6, 2, 7, 1, 1, 9⟩ : Plan), 0, 1⟩ : Seat))).toArray 29, cellC b28 ((resC x27.1)).toArray 32, cellC b29 ((resC x27.2.1)).toArray 32, rowK 22 1 u64 v33 x31, cellC b54 ((resC x53.1)).toArray 32, cellC b55 ((resC x53.2.1)).toArray 32] w0 w68 := hP
         refine wp_ret ?_
         have hv : x66 = res := Option.some.inj hD
         try dsimp only [Exit.then, Exit.inBlock]
         refine ret_tmp (fn := Tryz.f13) r (t := 4) rfl (v := (.bool x66)) rfl ?_
         subst hv
         exact ⟨rfl, hP.chg.below⟩

end Go.Proofs.YtjkinpbfmihhdaaGreat.Wk

/- QueueRace: what the walk found answers as the law says: all orders, looked at. -/
set_option linter.unusedVariables false
namespace Go.Proofs.YtjkinpbfmihhdaaGreat
open Go.RowKit
theorem race14 : D.zz2w = raceG (⟨0, 0⟩ : Res) := rfl

theorem zzg3 : D.zz2l 1000 = some true := by decide +kernel

def q6 : Plan := ⟨6, 2, 7, 1, 1, 9⟩

def finE (a b : Res) (ws : List Int) : Bool := a == ⟨0, 0⟩ && b == ⟨0, 0⟩ && match D.zz34 1000 q6 ⟨ws, 0⟩ 0 0 with
  | some [x, y] => IntKind.u64.wrap (x + y) == 3
  | _ => false

def finQ (a b : Res) (ws : List Int) : Bool := a.e == 0 && b.e == 0 && IntKind.u64.wrap (a.v + b.v) == 3 && match D.zz34 1000 q6 ⟨ws, 0⟩ 0 0 with
  | some [] => true
  | _ => false

def qr1 : Option (List (List Int)) := match D.zz2s 1000 q6 with
  | some M => exploreT (D.zz1k 1001 (⟨q6, 0, 0⟩ : Seat) 0 1) (D.zz1k 1001 (⟨q6, 0, 1⟩ : Seat) 0 2) finE 90 [⟨[], [], M.ws⟩] []
  | none => none

def qw1 : List Int := [6291460, 0, 1, 2, 0, 0, 0, 0, 0, 0, 0, 0, 0, 0, 0, 0, 0, 0, 0, 0, 0, 0, 0, 0, 0, 0, 5368709120, 2, 0, 0, 3, 5368709120, 3, 0, 2, 0, 5368709120, 4, 0, 1, 2, 0, 5, 0, 0, 0, 0, 6, 0, 0, 0, 0, 0, 0, 0, 0]

def qw2 : List Int := [6291460, 0, 1, 3, 0, 0, 0, 0, 0, 0, 0, 0, 0, 0, 0, 0, 0, 0, 0, 0, 0, 0, 0, 0, 0, 0, 5368709120, 2, 0, 0, 2, 5368709120, 3, 0, 2, 3, 5368709120, 4, 0, 1, 0, 0, 5, 0, 0, 0, 0, 6, 0, 0, 0, 0, 0, 0, 0, 0]

def qw3 : List Int := [6291460, 0, 1, 3, 0, 0, 0, 0, 0, 0, 0, 0, 0, 0, 0, 0, 0, 0, 0, 0, 0, 0, 0, 0, 0, 0, 5368709120, 2, 0, 0, 2, 5368709120, 3, 0, 1, 3, 5368709120, 4, 0, 2, 0, 0, 5, 0, 0, 0, 0, 6, 0, 0, 0, 0, 0, 0, 0, 0]

def qw4 : List Int := [6291460, 0, 1, 2, 0, 0, 0, 0, 0, 0, 0, 0, 0, 0, 0, 0, 0, 0, 0, 0, 0, 0, 0, 0, 0, 0, 5368709120, 2, 0, 0, 3, 5368709120, 3, 0, 1, 0, 5368709120, 4, 0, 2, 2, 0, 5, 0, 0, 0, 0, 6, 0, 0, 0, 0, 0, 0, 0, 0]

theorem qrW : (qr1.map fun W => W.all fun w => [qw1, qw2, qw3, qw4].elem w) = some true := by decide +kernel

theorem qrB1 : exploreR (D.zz1d 1001 (⟨q6, 0, 0⟩ : Seat) 0) (D.zz1d 1001 (⟨q6, 0, 1⟩ : Seat) 0) finQ 90 [⟨[], [], qw1⟩] = true := by decide +kernel

theorem qrB2 : exploreR (D.zz1d 1001 (⟨q6, 0, 0⟩ : Seat) 0) (D.zz1d 1001 (⟨q6, 0, 1⟩ : Seat) 0) finQ 90 [⟨[], [], qw2⟩] = true := by decide +kernel

theorem qrB3 : exploreR (D.zz1d 1001 (⟨q6, 0, 0⟩ : Seat) 0) (D.zz1d 1001 (⟨q6, 0, 1⟩ : Seat) 0) finQ 90 [⟨[], [], qw3⟩] = true := by decide +kernel

theorem qrB4 : exploreR (D.zz1d 1001 (⟨q6, 0, 0⟩ : Seat) 0) (D.zz1d 1001 (⟨q6, 0, 1⟩ : Seat) 0) finQ 90 [⟨[], [], qw4⟩] = true := by decide +kernel

theorem qrSafe {w : List Int} (h : w ∈ [qw1, qw2, qw3, qw4]) : Safe (fun ra rb ws => finQ ra rb ws = true) 90 (D.zz1d 1001 (⟨q6, 0, 0⟩ : Seat) 0) (D.zz1d 1001 (⟨q6, 0, 1⟩ : Seat) 0) w := by
  have key : ∀ w : List Int, exploreR (D.zz1d 1001 (⟨q6, 0, 0⟩ : Seat) 0) (D.zz1d 1001 (⟨q6, 0, 1⟩ : Seat) 0) finQ 90 [⟨[], [], w⟩] = true → Safe (fun ra rb ws => finQ ra rb ws = true) 90 (D.zz1d 1001 (⟨q6, 0, 0⟩ : Seat) 0) (D.zz1d 1001 (⟨q6, 0, 1⟩ : Seat) 0) w := fun w h =>
    zzdt (Q := fun ra rb ws => finQ ra rb ws = true) (fun _ _ _ h => h) h ⟨[], [], w⟩ (List.mem_singleton.2 rfl)
  simp only [List.mem_cons, List.not_mem_nil, or_false] at h
  rcases h with rfl | rfl | rfl | rfl
  · exact key _ qrB1
  · exact key _ qrB2
  · exact key _ qrB3
  · exact key _ qrB4

theorem zzdg (a b : List Bool) : ∃ fu, Wk.D.zz29 fu a b = some true := by
  refine ⟨1000, ?_⟩
  unfold Wk.D.zz29
  rw [zzg3]
  simp only [Option.bind_some, Bool.not_true, cond_false]
  cases h1 : decide ((a.length : Int) > 60)
  case true => rfl
  cases h2 : decide ((b.length : Int) > 60)
  case true => rfl
  simp only [decide_eq_false_iff_not] at h1 h2
  simp only [cond_false, Option.bind_some]
  have hall := qrW
  cases hW : qr1 with
  | none => rw [hW] at hall; cases hall
  | some W =>
    rw [hW] at hall
    simp only [Option.map_some, Option.some.injEq] at hall
    have hW0 := hW
    unfold qr1 at hW
    split at hW
    · rename_i M hM
      have hS := zzcz hW _ (List.mem_singleton.2 rfl)
      simp only [played] at hS
      obtain ⟨ra, rb, M1, hr, hq, hmem⟩ := zzfn (z := (⟨0, 0⟩ : Res)) (fu := 1000) (picks := a) (M := M) hS (by omega) (by omega) (by omega)
      have hin := List.all_eq_true.1 hall M1.ws hmem
      have hS2 := qrSafe (List.elem_iff.1 hin)
      obtain ⟨rc, rd_, M2, hr2, hq2⟩ := zzfn (z := (⟨0, 0⟩ : Res)) (fu := 1000) (picks := b) (M := M1) hS2 (by omega) (by omega) (by omega)
      have hp : (⟨6, 2, 7, 1, 1, 9⟩ : Plan) = q6 := rfl
      rw [hp, hM]
      simp only [Option.bind_some, race14]
      rw [hr]
      simp only [Option.bind_some]
      have l1 : D.zz34 1000 q6 M1 0 0 = D.zz34 1000 q6 ⟨M1.ws, 0⟩ 0 0 := rfl
      have l2 : D.zz34 1000 q6 M2 0 0 = D.zz34 1000 q6 ⟨M2.ws, 0⟩ 0 0 := rfl
      rw [l1]
      unfold finE at hq
      simp only [Bool.and_eq_true, beq_iff_eq] at hq
      obtain ⟨⟨rfl, rfl⟩, hq⟩ := hq
      split at hq
      · rename_i x y hl
        rw [hl]
        simp only [beq_iff_eq] at hq
        have g0 : getI [x, y] 0 = some x := rfl
        have g1 : getI [x, y] 1 = some y := rfl
        simp only [Option.bind_some, g0, g1, hq, Bool.not_true, cond_false, beq_self_eq_true, bne_self_eq_false, List.length_cons, List.length_nil]
        rw [show (((0 + 1 + 1 : Nat) : Int) != 2) = false from rfl]
        simp only [cond_false, Option.bind_some, bne_self_eq_false]
        rw [hr2]
        simp only [Option.bind_some, cond_true]
        rw [l2]
        unfold finQ at hq2
        simp only [Bool.and_eq_true, beq_iff_eq] at hq2
        obtain ⟨⟨⟨k1, k2⟩, k3⟩, k4⟩ := hq2
        split at k4
        · rename_i hl2
          rw [hl2, k1, k2, k3]
          rfl
        · cases k4
      · cases hq
    · cases hW

end Go.Proofs.YtjkinpbfmihhdaaGreat

/- A law's row from what its walk hands back: arguments opened. -/
namespace Go.Proofs.YtjkinpbfmihhdaaGreat
open Go.ChangeShapes Go.WideShapes Go.RowKit Go.Deep Go.ChangeAt
section
variable {H : Type} {enc : TypeId × Value → H} {P : Program} {w : World} {base : Nat} {spare : Nat → Bool} {held : Bool}
end
theorem laidOut : laidOutB Tryz.prog = true := by kernel_rfl

end Go.Proofs.YtjkinpbfmihhdaaGreat

/- The program's order of start: its words, told once. -/
namespace Go.Proofs.YtjkinpbfmihhdaaGreat
open Go.ChangeShapes Go.WideShapes Go.ChangeAt Go.RowKit
def ioN : List Nat := [104, 97, 114, 110, 101, 115, 115, 32, 54, 98, 100, 53, 55, 52, 57, 55, 57, 102, 48, 50, 53, 98, 54, 54, 98, 99, 99, 51, 55, 98, 48, 57, 99, 51, 53, 101, 56, 53, 49, 100, 100, 102, 54, 101, 99, 57, 48, 98, 101, 48, 53, 49, 49, 98, 100, 55, 100, 48, 101, 52, 101, 97, 57, 57, 56, 49, 57, 57, 102, 57, 102, 50, 32, 99, 117, 116, 32, 97, 116, 32, 99, 117, 98, 105, 99, 108, 101, 47, 99, 117, 98, 105, 99, 108, 101, 108, 97, 119, 49, 51, 46, 67, 104, 101, 99, 107, 84, 119, 111, 32, 99, 117, 98, 105, 99, 108, 101, 47, 99, 117, 98, 105, 99, 108, 101, 108, 97, 119, 49, 51, 46, 67, 104, 101, 99, 107, 70, 114, 101, 115, 104, 32, 99, 117, 98, 105, 99, 108, 101, 47, 99, 117, 98, 105, 99, 108, 101, 108, 97, 119, 49, 51, 46, 67, 104, 101, 99, 107, 71, 117, 97, 114, 100, 101, 100, 32, 99, 117, 98, 105, 99, 108, 101, 47, 99, 117, 98, 105, 99, 108, 101, 108, 97, 119, 49, 51, 46, 67, 104, 101, 99, 107, 82, 97, 99, 101, 32, 99, 117, 98, 105, 99, 108, 101, 47, 99, 117, 98, 105, 99, 108, 101, 108, 97, 119, 49, 51, 46, 67, 104, 101, 99, 107, 70, 111, 114, 101, 105, 103, 110, 32, 99, 117, 98, 105, 99, 108, 101, 47, 99, 117, 98, 105, 99, 108, 101, 108, 97, 119, 49, 51, 46, 67, 104, 101, 99, 107, 65, 108, 111, 110, 101, 32, 99, 117, 98, 105, 99, 108, 101, 47, 99, 117, 98, 105, 99, 108, 101, 108, 97, 119, 49, 51, 46, 67, 104, 101, 99, 107, 67, 108, 101, 97, 114, 115, 32, 99, 117, 98, 105, 99, 108, 101, 47, 99, 117, 98, 105, 99, 108, 101, 108, 97, 119, 49, 52, 46, 81, 117, 101, 117, 101, 65, 108, 111, 110, 101, 32, 99, 117, 98, 105, 99, 108, 101, 47, 99, 117, 98, 105, 99, 108, 101, 108, 97, 119, 49, 52, 46, 81, 117, 101, 117, 101, 83, 116, 97, 108, 108, 115, 32, 99, 117, 98, 105, 99, 108, 101, 47, 99, 117, 98, 105, 99, 108, 101, 108, 97, 119, 49, 52, 46, 81, 117, 101, 117, 101, 79, 114, 100, 101, 114, 32, 99, 117, 98, 105, 99, 108, 101, 47, 99, 117, 98, 105, 99, 108, 101, 108, 97, 119, 49, 52, 46, 81, 117, 101, 117, 101, 82, 97, 99, 101, 32, 99, 117, 98, 105, 99, 108, 101, 47, 99, 117, 98, 105, 99, 108, 101, 108, 97, 119, 49, 52, 46, 81, 117, 101, 117, 101, 77, 97, 110, 121, 32, 99, 117, 98, 105, 99, 108, 101, 47, 99, 117, 98, 105, 99, 108, 101, 108, 97, 119, 49, 52, 46, 81, 117, 101, 117, 101, 78, 111, 100, 101, 115, 32, 99, 117, 98, 105, 99, 108, 101, 47, 99, 117, 98, 105, 99, 108, 101, 108, 97, 119, 49, 53, 46, 76, 105, 115, 116, 75, 101, 121, 115, 32, 99, 117, 98, 105, 99, 108, 101, 47, 99, 117, 98, 105, 99, 108, 101, 108, 97, 119, 49, 53, 46, 76, 105, 115, 116, 82, 97, 99, 101, 32, 99, 117, 98, 105, 99, 108, 101, 47, 99, 117, 98, 105, 99, 108, 101, 108, 97, 119, 49, 53, 46, 76, 105, 115, 116, 65, 108, 111, 110, 101, 32, 99, 117, 98, 105, 99, 108, 101, 47, 99, 117, 98, 105, 99, 108, 101, 108, 97, 119, 49, 53, 46, 76, 105, 115, 116, 83, 116, 97, 108, 108, 115, 32, 99, 117, 98, 105, 99, 108, 101, 47, 99, 117, 98, 105, 99, 108, 101, 108, 97, 119, 49, 53, 46, 76, 105, 115, 116, 77, 97, 110, 121, 32, 99, 117, 98, 105, 99, 108, 101, 47, 99, 117, 98, 105, 99, 108, 101, 108, 97, 119, 49, 53, 46, 76, 105, 115, 116, 78, 111, 100, 101, 115, 32, 99, 117, 98, 105, 99, 108, 101, 47, 99, 117, 98, 105, 99, 108, 101, 108, 97, 119, 49, 50, 46, 65, 108, 108, 111, 99, 65, 108, 111, 110, 101, 32, 99, 117, 98, 105, 99, 108, 101, 47, 99, 117, 98, 105, 99, 108, 101, 108, 97, 119, 49, 55, 46, 68, 111, 109, 97, 105, 110, 70, 117, 108, 108, 32, 99, 117, 98, 105, 99, 108, 101, 47, 99, 117, 98, 105, 99, 108, 101, 108, 97, 119, 49, 55, 46, 68, 111, 109, 97, 105, 110, 82, 97, 99, 101, 32, 99, 117, 98, 105, 99, 108, 101, 47, 99, 117, 98, 105, 99, 108, 101, 108, 97, 119, 49, 55, 46, 68, 111, 109, 97, 105, 110, 79, 100, 100, 32, 99, 117, 98, 105, 99, 108, 101, 47, 99, 117, 98, 105, 99, 108, 101, 108, 97, 119, 49, 54, 46, 68, 105, 99, 116, 67, 101, 108, 108, 115]

theorem io1 : Tryz.prog.initOrder = String.ofList (ioN.map Char.ofNat) := by kernel_rfl

theorem io2 : Tryz.prog.initOrder.toList = ioN.map Char.ofNat := by rw [io1, String.toList_ofList]

theorem io3 : behindMainWord (wordsSigns Tryz.prog.initOrder.toList) = (([99, 117, 116] : List Nat).map Char.ofNat) :: ([[97, 116], [99, 117, 98, 105, 99, 108, 101, 47, 99, 117, 98, 105, 99, 108, 101, 108, 97, 119, 49, 51, 46, 67, 104, 101, 99, 107, 84, 119, 111], [99, 117, 98, 105, 99, 108, 101, 47, 99, 117, 98, 105, 99, 108, 101, 108, 97, 119, 49, 51, 46, 67, 104, 101, 99, 107, 70, 114, 101, 115, 104], [99, 117, 98, 105, 99, 108, 101, 47, 99, 117, 98, 105, 99, 108, 101, 108, 97, 119, 49, 51, 46, 67, 104, 101, 99, 107, 71, 117, 97, 114, 100, 101, 100], [99, 117, 98, 105, 99, 108, 101, 47, 99, 117, 98, 105, 99, 108, 101, 108, 97, 119, 49, 51, 46, 67, 104, 101, 99, 107, 82, 97, 99, 101], [99, 117, 98, 105, 99, 108, 101, 47, 99, 117, 98, 105, 99, 108, 101, 108, 97, 119, 49, 51, 46, 67, 104, 101, 99, 107, 70, 111, 114, 101, 105, 103, 110], [99, 117, 98, 105, 99, 108, 101, 47, 99, 117, 98, 105, 99, 108, 101, 108, 97, 119, 49, 51, 46, 67, 104, 101, 99, 107, 65, 108, 111, 110, 101], [99, 117, 98, 105, 99, 108, 101, 47, 99, 117, 98, 105, 99, 108, 101, 108, 97, 119, 49, 51, 46, 67, 104, 101, 99, 107, 67, 108, 101, 97, 114, 115], [99, 117, 98, 105, 99, 108, 101, 47, 99, 117, 98, 105, 99, 108, 101, 108, 97, 119, 49, 52, 46, 81, 117, 101, 117, 101, 65, 108, 111, 110, 101], [99, 117, 98, 105, 99, 108, 101, 47, 99, 117, 98, 105, 99, 108, 101, 108, 97, 119, 49, 52, 46, 81, 117, 101, 117, 101, 83, 116, 97, 108, 108, 115], [99, 117, 98, 105, 99, 108, 101, 47, 99, 117, 98, 105, 99, 108, 101, 108, 97, 119, 49, 52, 46, 81, 117, 101, 117, 101, 79, 114, 100, 101, 114], [99, 117, 98, 105, 99, 108, 101, 47, 99, 117, 98, 105, 99, 108, 101, 108, 97, 119, 49, 52, 46, 81, 117, 101, 117, 101, 82, 97, 99, 101], [99, 117, 98, 105, 99, 108, 101, 47, 99, 117, 98, 105, 99, 108, 101, 108, 97, 119, 49, 52, 46, 81, 117, 101, 117, 101, 77, 97, 110, 121], [99, 117, 98, 105, 99, 108, 101, 47, 99, 117, 98, 105, 99, 108, 101, 108, 97, 119, 49, 52, 46, 81, 117, 101, 117, 101, 78, 111, 100, 101, 115], [99, 117, 98, 105, 99, 108, 101, 47, 99, 117, 98, 105, 99, 108, 101, 108, 97, 119, 49, 53, 46, 76, 105, 115, 116, 75, 101, 121, 115], [99, 117, 98, 105, 99, 108, 101, 47, 99, 117, 98, 105, 99, 108, 101, 108, 97, 119, 49, 53, 46, 76, 105, 115, 116, 82, 97, 99, 101], [99, 117, 98, 105, 99, 108, 101, 47, 99, 117, 98, 105, 99, 108, 101, 108, 97, 119, 49, 53, 46, 76, 105, 115, 116, 65, 108, 111, 110, 101], [99, 117, 98, 105, 99, 108, 101, 47, 99, 117, 98, 105, 99, 108, 101, 108, 97, 119, 49, 53, 46, 76, 105, 115, 116, 83, 116, 97, 108, 108, 115], [99, 117, 98, 105, 99, 108, 101, 47, 99, 117, 98, 105, 99, 108, 101, 108, 97, 119, 49, 53, 46, 76, 105, 115, 116, 77, 97, 110, 121], [99, 117, 98, 105, 99, 108, 101, 47, 99, 117, 98, 105, 99, 108, 101, 108, 97, 119, 49, 53, 46, 76, 105, 115, 116, 78, 111, 100, 101, 115], [99, 117, 98, 105, 99, 108, 101, 47, 99, 117, 98, 105, 99, 108, 101, 108, 97, 119, 49, 50, 46, 65, 108, 108, 111, 99, 65, 108, 111, 110, 101], [99, 117, 98, 105, 99, 108, 101, 47, 99, 117, 98, 105, 99, 108, 101, 108, 97, 119, 49, 55, 46, 68, 111, 109, 97, 105, 110, 70, 117, 108, 108], [99, 117, 98, 105, 99, 108, 101, 47, 99, 117, 98, 105, 99, 108, 101, 108, 97, 119, 49, 55, 46, 68, 111, 109, 97, 105, 110, 82, 97, 99, 101], [99, 117, 98, 105, 99, 108, 101, 47, 99, 117, 98, 105, 99, 108, 101, 108, 97, 119, 49, 55, 46, 68, 111, 109, 97, 105, 110, 79, 100, 100], [99, 117, 98, 105, 99, 108, 101, 47, 99, 117, 98, 105, 99, 108, 101, 108, 97, 119, 49, 54, 46, 68, 105, 99, 116, 67, 101, 108, 108, 115]] : List (List Nat)).map (List.map Char.ofNat) := by rw [io2]; kernel_rfl

theorem stripG (r : List (List Char)) : stripLifts liftWords (([99, 117, 116].map Char.ofNat) :: r) = ([], ([99, 117, 116].map Char.ofNat) :: r) := by rfl

theorem makeG {P : Program} {r : List (List Char)} (h : behindMainWord (wordsSigns P.initOrder.toList) = ([99, 117, 116].map Char.ofNat) :: r) : P.make = some .cut := by
  unfold Program.make
  rw [h]
  rfl

theorem liftsG {P : Program} {r : List (List Char)} (h : behindMainWord (wordsSigns P.initOrder.toList) = ([99, 117, 116].map Char.ofNat) :: r) : P.liftsFinal = false := by
  unfold Program.liftsFinal Program.headLifts
  rw [h, stripG]
  rfl

theorem enterG {P : Program} {r : List (List Char)} (h : behindMainWord (wordsSigns P.initOrder.toList) = ([99, 117, 116].map Char.ofNat) :: r) (h1 : P.laysLater = false) (h2 : P.bearsReflect = false) (h3 : P.doorFits [] = true) : P.mayEnter = true := by
  unfold Program.mayEnter
  rw [h]
  simp only [stripG, h1, h2, h3]
  rfl

theorem e1 : Tryz.prog.laysLater = false := by kernel_rfl

theorem e2 : Tryz.prog.bearsReflect = false := by kernel_rfl

theorem e3 : Tryz.prog.doorFits [] = true := by kernel_rfl

theorem io_make : Tryz.prog.make = some .cut := makeG io3

theorem zzgg : Tryz.prog.liftsFinal = false := liftsG io3

theorem zzgc : Tryz.prog.mayEnter = true := enterG io3 e1 e2 e3

theorem io_maps : mapsRowed Tryz.prog = true := by kernel_rfl

theorem zzg6 : Tryz.prog.stopsHeard = true := by kernel_rfl

end Go.Proofs.YtjkinpbfmihhdaaGreat

/- Some of our texts, one behind the other. -/
import Derived.Test.YtjkinpbfmihhdaaGreatCrM14
import Derived.WalkKit
import Derived.ProofKit
import Derived.OpenShut
import Derived.ShutString
import Derived.ChangeOld
import Derived.Below
import Derived.Carry
import Derived.SizedLaws
import Derived.Deep.Slices
import Derived.Deep.Fields
import Derived.ChangeSame
import Derived.Test.YtjkinpbfmihhdaaGreatRows
set_option linter.all false
/- Written by a program of ours (wip/gen.py): a law -/
set_option linter.unusedVariables false
set_option maxRecDepth 20000
set_option maxHeartbeats 2000000
namespace Go.Proofs.YtjkinpbfmihhdaaGreat.Wk
open Go.RowKit
theorem cl27 : callable Tryz.prog 27 = true := by kernel_rfl

theorem cl38 : callable Tryz.prog 38 = true := by kernel_rfl

theorem eg32 : Tryz.prog.eqGuardType Tryz.prog.depth 32 = false := by kernel_rfl

theorem eqs32 (x y : Res) (w : World) : (binOp .eql 32 (.agg (resC x).toArray) (.agg (resC y).toArray)).run Tryz.prog w = .ok (.bool (x == y)) w ∧ (binOp .neq 32 (.agg (resC x).toArray) (.agg (resC y).toArray)).run Tryz.prog w = .ok (.bool (!(x == y))) w :=
  eq_ints [(.i64, x.e, y.e), (.u64, x.v, y.v)] (by kernel_rfl) (by kernel_rfl) (by kernel_rfl) (by kernel_rfl) (by cases x; cases y; rw [Bool.eq_iff_iff]; simp)

theorem ts29 : sized Tryz.prog 29 8 = true := by kernel_rfl

theorem tz29 : zeroOf Tryz.prog 29 = some (.agg (seatC (⟨(⟨0, 0, 0, 0, 0, 0⟩ : Plan), 0, 0⟩ : Seat)).toArray) := by kernel_rfl

def D.zz2n (fu : Nat) (a0 : Bool) (a1 : Int) (a2 : List Bool) : Option (Bool) := (Option.bind ((D.zz2r fu ).bind (fun (x2 : Bool) => (bif (!x2) then (some true) else (bif (decide ((a2.length : Int) > 60)) then (some true) else (bif (a1 == 0) then (some true) else (some (a1 == 1))))))) (fun (x7 : Bool) => (bif x7 then ((D.zz2r fu ).bind (fun (x11 : Bool) => (some x11))) else ((D.zz32 fu (⟨3, 2, 7, 0, 1, 9⟩ : Plan)).bind (fun (x19 : Mem) => ((D.zz1g fu x19 0).bind (fun (x30 : Cap) => ((D.zz2z fu (fu, (D.zz1q (fu + 1) (⟨(⟨3, 2, 7, 0, 1, 9⟩ : Plan), 0, 0⟩ : Seat))) x19 x30 99).bind (fun (x32 : Res × Int × Bool × Mem) => (bif a0 then ((D.zz33 fu (fu, (D.zz1r (fu + 1) (⟨(⟨3, 2, 7, 0, 1, 9⟩ : Plan), 0, 0⟩ : Seat) x32.1.v)) (fu, (D.zz1r (fu + 1) (⟨(⟨3, 2, 7, 0, 1, 9⟩ : Plan), 0, 1⟩ : Seat) x32.1.v)) x32.2.2.2 a2).bind (fun (x43 : Res × Res × Bool × Mem) => (Option.bind (bif x43.2.2.1 then (bif (x43.1 == (⟨0, 0⟩ : Res)) then (bif (x43.2.1 == (⟨3, 0⟩ : Res)) then (some true) else (bif (x43.1 == (⟨3, 0⟩ : Res)) then (some (x43.2.1 == (⟨0, 0⟩ : Res))) else (some false))) else (bif (x43.1 == (⟨3, 0⟩ : Res)) then (some (x43.2.1 == (⟨0, 0⟩ : Res))) else (some false))) else (some false)) (fun (x59 : Bool) => (some x59))))) else ((D.zz33 fu (fu, (D.zz1i (⟨(⟨3, 2, 7, 0, 1, 9⟩ : Plan), 0, 0⟩ : Seat) x32.1.v 0 0 1)) (fu, (D.zz1i (⟨(⟨3, 2, 7, 0, 1, 9⟩ : Plan), 0, 1⟩ : Seat) x32.1.v 0 0 a1)) x32.2.2.2 a2).bind (fun (x64 : Res × Res × Bool × Mem) => ((D.zz1g fu x64.2.2.2 0).bind (fun (x72 : Cap) => ((D.zz2z fu (fu, (D.zz45 (⟨(⟨3, 2, 7, 0, 1, 9⟩ : Plan), 0, 0⟩ : Seat) x32.1.v 0)) x64.2.2.2 x72 99).bind (fun (x74 : Res × Int × Bool × Mem) => (Option.bind (bif x64.2.2.1 then (bif (x64.1 == (⟨0, 1⟩ : Res)) then (bif (x64.2.1 == (⟨0, 0⟩ : Res)) then (bif (x74.1.v == 1) then (some true) else (bif (x64.1 == (⟨0, 0⟩ : Res)) then (bif (x64.2.1 == (⟨0, 1⟩ : Res)) then (some (x74.1.v == a1)) else (some false)) else (some false))) else (bif (x64.1 == (⟨0, 0⟩ : Res)) then (bif (x64.2.1 == (⟨0, 1⟩ : Res)) then (some (x74.1.v == a1)) else (some false)) else (some false))) else (bif (x64.1 == (⟨0, 0⟩ : Res)) then (bif (x64.2.1 == (⟨0, 1⟩ : Res)) then (some (x74.1.v == a1)) else (some false)) else (some false))) else (some false)) (fun (x93 : Bool) => (some x93)))))))))))))))))))

theorem zz6l {fu : Nat} (w0 : World) (a0 : Bool) (a1 : Int) {a2_v : Value} (a2 : List Bool) (a2_h : RoAt 4 1 boolE a2_v a2 w0) {res : Bool} (hD : D.zz2n fu a0 a1 a2 = some res) :
    Calls Tryz.prog 6 #[.bool a0, .int .u64 a1, a2_v] w0 (PureRes (.bool res) w0) := by
 refine enter Tryz.func6 rfl 157 rfl rfl fun fr r => ?_
 have hP : Post No [] w0 w0 := Post.nil w0
 have hP : Post No [roK 4 1 boolE a2_v a2] w0 w0 := hP.addRo zz61 a2_h rfl a2_h.lt
 unfold D.zz2n at hD
 refine wsr ?_
 refine seq_val (.bool false) r (fun R => zz04 r rfl) rfl fun fr r => ?_
 refine wn ?_
 refine wp_seq ?_
 refine wp_seq ?_
 refine zz31 (N := 157) (Y := Bool) (G := Unit) (fun x γ => [(0, (.bool a0)), (1, (U a1)), (2, a2_v), (6, (.bool false)), (38, (.bool x))]) (fun x γ w => Post No [roK 4 1 boolE a2_v a2] w0 w) hD ?_ ?_
 ·
  rintro y1 RPy1 nxy1 hD
  refine wp_region_lit ?_
  obtain ⟨x2, hx2, hD⟩ := zz0i hD
  refine zz06 r (zz5k w0  hx2) (fun R hc => y_call r rfl cl27 hc) rfl ?_
  rintro _ w3 ⟨rfl, hb⟩
  refine ⟨_, rfl, fun fr r => ?_⟩
  have hP : Post No [roK 4 1 boolE a2_v a2] w0 w3 := hP.below hb
  refine seq_val (.bool (!x2)) r (fun R => y_un r (u := (.bool x2)) rfl rfl) rfl fun fr r => ?_
  refine seq_val (.bool (!x2)) r (fun R => y_move r rfl) rfl fun fr r => ?_
  refine zz0r (!x2) (fun h4 => ?_) (fun h4 => ?_)
  ·
   have hD := (cond_t h4).symm.trans hD
   refine s0 r h4 fun fr r => ?_
   refine s0 r h4 fun fr r => ?_
   refine s0 r h4 fun fr r => ?_
   refine seq_val (.bool true) r (fun R => y_pick r (b := true) (congrArg Value.bool h4) rfl) rfl fun fr r => ?_
   refine seq_val (.bool true) r (fun R => y_move r rfl) rfl fun fr r => ?_
   refine s0 r (rfl : true = _) fun fr r => ?_
   refine s0 r (rfl : true = _) fun fr r => ?_
   refine seq_val (.bool true) r (fun R => y_pick r (b := true) (congrArg Value.bool (rfl : true = _)) rfl) rfl fun fr r => ?_
   refine seq_val (.bool true) r (fun R => y_move r rfl) rfl fun fr r => ?_
   refine s0 r (rfl : true = _) fun fr r => ?_
   refine s0 r (rfl : true = _) fun fr r => ?_
   refine seq_val (.bool true) r (fun R => y_pick r (b := true) (congrArg Value.bool (rfl : true = _)) rfl) rfl fun fr r => ?_
   refine wn ?_
   exact nxy1 true () _ _ _ hD r (hs_cons rfl (hs_cons rfl (hs_cons rfl (hs_cons rfl (hs_cons rfl hs_nil))))) (hP.pick [0] rfl rfl)
  ·
   have hD := (cond_f h4).symm.trans hD
   refine s1 r h4 ?_
   refine seq_val a2_v r (fun R => y_move r rfl) rfl fun fr r => ?_
   refine s1 r h4 ?_
   refine seq_val (I (a2.length : Int)) r (fun R => zz65 r (hP.ro (i := 0) rfl) is55 rfl) rfl fun fr r => ?_
   refine s1 r h4 ?_
   refine seq_val _ r (fun R => y_bin r rfl rfl rfl rfl) rfl fun fr r => ?_
   refine seq_val (.bool (decide ((a2.length : Int) > 60))) r (fun R => y_pick r (b := false) (congrArg Value.bool h4) rfl) rfl fun fr r => ?_
   refine seq_val (.bool (decide ((a2.length : Int) > 60))) r (fun R => y_move r rfl) rfl fun fr r => ?_
   refine zz0r (decide ((a2.length : Int) > 60)) (fun h5 => ?_) (fun h5 => ?_)
   ·
    have hD := (cond_t h5).symm.trans hD
    refine s0 r h5 fun fr r => ?_
    refine s0 r h5 fun fr r => ?_
    refine seq_val (.bool true) r (fun R => y_pick r (b := true) (congrArg Value.bool h5) rfl) rfl fun fr r => ?_
    refine seq_val (.bool true) r (fun R => y_move r rfl) rfl fun fr r => ?_
    refine s0 r (rfl : true = _) fun fr r => ?_
    refine s0 r (rfl : true = _) fun fr r => ?_
    refine seq_val (.bool true) r (fun R => y_pick r (b := true) (congrArg Value.bool (rfl : true = _)) rfl) rfl fun fr r => ?_
    refine wn ?_
    exact nxy1 true () _ _ _ hD r (hs_cons rfl (hs_cons rfl (hs_cons rfl (hs_cons rfl (hs_cons rfl hs_nil))))) (hP.pick [0] rfl rfl)
   ·
    have hD := (cond_f h5).symm.trans hD
    refine s1 r h5 ?_
    refine seq_val (U a1) r (fun R => y_move r rfl) rfl fun fr r => ?_
    refine s1 r h5 ?_
    refine seq_val _ r (fun R => y_bin r rfl rfl rfl rfl) rfl fun fr r => ?_
    refine seq_val (.bool (a1 == 0)) r (fun R => y_pick r (b := false) (congrArg Value.bool h5) rfl) rfl fun fr r => ?_
    refine seq_val (.bool (a1 == 0)) r (fun R => y_move r rfl) rfl fun fr r => ?_
    refine zz0r (a1 == 0) (fun h6 => ?_) (fun h6 => ?_)
    ·
     have hD := (cond_t h6).symm.trans hD
     refine s0 r h6 fun fr r => ?_
     refine s0 r h6 fun fr r => ?_
     refine seq_val (.bool true) r (fun R => y_pick r (b := true) (congrArg Value.bool h6) rfl) rfl fun fr r => ?_
     refine wn ?_
     exact nxy1 true () _ _ _ hD r (hs_cons rfl (hs_cons rfl (hs_cons rfl (hs_cons rfl (hs_cons rfl hs_nil))))) (hP.pick [0] rfl rfl)
    ·
     have hD := (cond_f h6).symm.trans hD
     refine s1 r h6 ?_
     refine seq_val (U a1) r (fun R => y_move r rfl) rfl fun fr r => ?_
     refine s1 r h6 ?_
     refine seq_val _ r (fun R => y_bin r rfl rfl rfl rfl) rfl fun fr r => ?_
     refine seq_val (.bool (a1 == 1)) r (fun R => y_pick r (b := false) (congrArg Value.bool h6) rfl) rfl fun fr r => ?_
     refine wn ?_
     exact nxy1 (a1 == 1) () _ _ _ hD r (hs_cons rfl (hs_cons rfl (hs_cons rfl (hs_cons rfl (hs_cons rfl hs_nil))))) (hP.pick [0] rfl rfl)
 ·
  rintro x7 γ8 fr w9 g r hP hD
  have hP : Post No [roK 4 1 boolE a2_v a2] w0 w9 := hP
  refine wp_cond_split (t := x7) (r.ev rfl) (fun h10 => ?_) (fun h10 => ?_)
  ·
   have hD := (cond_t h10).symm.trans hD
   refine wsr ?_
   obtain ⟨x11, hx11, hD⟩ := zz0i hD
   refine zz06 r (zz5k w9  hx11) (fun R hc => y_call r rfl cl27 hc) rfl ?_
   rintro _ w12 ⟨rfl, hb⟩
   refine ⟨_, rfl, fun fr r => ?_⟩
   have hP : Post No [roK 4 1 boolE a2_v a2] w0 w12 := hP.below hb
   refine seq_val (.bool x11) r (fun R => zz04 r rfl) rfl fun fr r => ?_
   refine wn ?_
   refine wp_ret ?_
   have hv : x11 = res := Option.some.inj hD
   try dsimp only [Exit.then, Exit.inBlock]
   refine ret_tmp (fn := Tryz.f6) r (t := 6) rfl (v := (.bool x11)) rfl ?_
   subst hv
   exact ⟨rfl, hP.chg.below⟩
  ·
   have hD := (cond_f h10).symm.trans hD
   refine wp_skip ?_
   refine wsr ?_
   refine seq_val (.agg (planC (⟨3, 2, 7, 0, 1, 9⟩ : Plan)).toArray) r (fun R => y_build r (by kernel_rfl)) rfl fun fr r => ?_
   refine seq_new (.cells ((planC (⟨0, 0, 0, 0, 0, 0⟩ : Plan))).toArray 25 (0, 0)) r (fun R => y_alloc tz25) rfl fun fr b13 w14 n15 r => ?_
   have hP : Post No [roK 4 1 boolE a2_v a2, cellC b13 ((planC (⟨0, 0, 0, 0, 0, 0⟩ : Plan))).toArray 25] w0 w14 := hP.new n15
   refine seq_upd (.cells ((planC (⟨3, 2, 7, 0, 1, 9⟩ : Plan))).toArray 25 (0, 0)) r (fun R => y_store r (o := 0) (v := (.agg (planC (⟨3, 2, 7, 0, 1, 9⟩ : Plan)).toArray)) rfl rfl (hP.cell (i := 1) rfl) ts25 (Nat.le_of_ble_eq_true rfl) rfl rfl) rfl fun fr w17 u18 r => ?_
   have hP : Post No [roK 4 1 boolE a2_v a2, cellC b13 ((planC (⟨3, 2, 7, 0, 1, 9⟩ : Plan))).toArray 25] w0 w17 := hP.upd (i := 1) rfl u18
   refine wn ?_
   refine wsr ?_
   refine seq_val (.agg (planC (⟨3, 2, 7, 0, 1, 9⟩ : Plan)).toArray) r (fun R => zz03 r (cs := (planC (⟨3, 2, 7, 0, 1, 9⟩ : Plan))) (n := 6) rfl (hP.cell (i := 1) rfl) ta25 rfl) rfl fun fr r => ?_
   obtain ⟨x19, hx19, hD⟩ := zz0i hD
   refine zz06 r (zz5s w17 (⟨3, 2, 7, 0, 1, 9⟩ : Plan) hx19) (fun R hc => y_call r rfl cl28 hc) rfl ?_
   rintro _ w20 ⟨mg21, rfl, hq⟩
   refine ⟨_, rfl, fun fr r => ?_⟩
   have hP : Post No [roK 4 1 boolE a2_v a2, cellC b13 ((planC (⟨3, 2, 7, 0, 1, 9⟩ : Plan))).toArray 25, memK mg21 x19] w0 w20 := hP.add hq
   refine seq_val (.pointer (some ⟨mg21.mb, 0, none⟩)) r (fun R => zz04 r rfl) rfl fun fr r => ?_
   refine wn ?_
   refine wp_seq ?_
   refine wsr ?_
   refine seq_val (.pointer (some ⟨mg21.mb, 0, none⟩)) r (fun R => y_move r rfl) rfl fun fr r => ?_
   refine seq_val _ r (fun R => y_bin r rfl rfl rfl rfl) rfl fun fr r => ?_
   refine wn ?_
   refine wp_cond_split (t := false) (r.ev rfl) (fun h => absurd ((rfl : false = _).symm.trans h) (by decide)) (fun _ => ?_)
   refine wp_skip ?_
   refine wp_seq ?_
   refine zz43 [.val (.agg (planC (⟨3, 2, 7, 0, 1, 9⟩ : Plan)).toArray), .val (.agg (seatC (⟨(⟨3, 2, 7, 0, 1, 9⟩ : Plan), 0, 0⟩ : Seat)).toArray), .val (.agg (planC (⟨3, 2, 7, 0, 1, 9⟩ : Plan)).toArray), .val (.agg (seatC (⟨(⟨3, 2, 7, 0, 1, 9⟩ : Plan), 0, 1⟩ : Seat)).toArray), .cell 29 8, .cell 29 8, .stored 4 ((seatC (⟨(⟨3, 2, 7, 0, 1, 9⟩ : Plan), 0, 0⟩ : Seat))).toArray 29 8 rfl, .stored 5 ((seatC (⟨(⟨3, 2, 7, 0, 1, 9⟩ : Plan), 0, 1⟩ : Seat))).toArray 29 8 rfl] mixed r (by kernel_rfl) ?_ ?_
   ·
    refine fc r (fun fr1 g w' hb' hd r' => zz03 r' (cs := (planC (⟨3, 2, 7, 0, 1, 9⟩ : Plan))) (n := 6) rfl ((hP.below (dr hb')).cell (i := 1) rfl) ta25 rfl bz) ?_
    refine fc r (fun fr1 g w' hb' hd r' => y_build r' (v := (.agg (seatC (⟨(⟨3, 2, 7, 0, 1, 9⟩ : Plan), 0, 0⟩ : Seat)).toArray)) (bs1 (congrArg (fun z => (0, z)) (hd 0 rfl).1) (by kernel_rfl)) bz) ?_
    refine fc r (fun fr1 g w' hb' hd r' => zz03 r' (cs := (planC (⟨3, 2, 7, 0, 1, 9⟩ : Plan))) (n := 6) rfl ((hP.below (dr hb')).cell (i := 1) rfl) ta25 rfl bz) ?_
    refine fc r (fun fr1 g w' hb' hd r' => y_build r' (v := (.agg (seatC (⟨(⟨3, 2, 7, 0, 1, 9⟩ : Plan), 0, 1⟩ : Seat)).toArray)) (bs2 (congrArg (fun z => (0, z)) (hd 2 rfl).1) (rfl) (by kernel_rfl)) bz) ?_
    refine fc r (fun fr1 g w' hb' hd r' => y_alloc tz29 (fun b w2 n2 => ⟨n2.below, b, rfl, n2.eq, _, n2.at_, rfl⟩)) ?_
    refine fc r (fun fr1 g w' hb' hd r' => y_alloc tz29 (fun b w2 n2 => ⟨n2.below, b, rfl, n2.eq, _, n2.at_, rfl⟩)) ?_
    refine zz52 r rfl (fun fr1 g w' hb' hd r' => ?_) ?_
    · obtain ⟨hp, _, c, hc, hn⟩ := (hd 4 rfl).1; exact y_store r' (o := 0) (c := c) (v := (.agg (seatC (⟨(⟨3, 2, 7, 0, 1, 9⟩ : Plan), 0, 0⟩ : Seat)).toArray)) hp (hd 1 rfl).1 hc ts29 (by rw [hn]; exact Nat.le_of_ble_eq_true rfl) rfl (zz2m (hn.trans rfl)) (fun w2 u2 => ⟨u2, rfl⟩)
    refine zz52 r rfl (fun fr1 g w' hb' hd r' => ?_) ?_
    · obtain ⟨hp, _, c, hc, hn⟩ := (hd 5 rfl).1; exact y_store r' (o := 0) (c := c) (v := (.agg (seatC (⟨(⟨3, 2, 7, 0, 1, 9⟩ : Plan), 0, 1⟩ : Seat)).toArray)) hp (hd 3 rfl).1 hc ts29 (by rw [hn]; exact Nat.le_of_ble_eq_true rfl) rfl (zz2m (hn.trans rfl)) (fun w2 u2 => ⟨u2, rfl⟩)
    exact zz1z
   ·
    intro fr gg w25 hb hΦ hap r
    obtain ⟨b23, ee_b23⟩ : ∃ b, b = (gg 4).lo := ⟨_, rfl⟩
    have g4 : (gg 4).v = (.pointer (some ⟨b23, 0, none⟩)) := by rw [ee_b23]; exact (hΦ 4 rfl).1.1
    have h_b23 : w25.heap[b23]? = some (.cells ((seatC (⟨(⟨3, 2, 7, 0, 1, 9⟩ : Plan), 0, 0⟩ : Seat))).toArray 29 (0, 0)) := by rw [ee_b23]; exact (hΦ 6 rfl).1.2
    have hs4 : Fresh [cellC b23 ((seatC (⟨(⟨3, 2, 7, 0, 1, 9⟩ : Plan), 0, 0⟩ : Seat))).toArray 29] (gg 4).lo (gg 4).hi w25 := by subst ee_b23; exact Fresh.cell (hΦ 4 rfl).1.2.1 h_b23
    obtain ⟨b24, ee_b24⟩ : ∃ b, b = (gg 5).lo := ⟨_, rfl⟩
    have g5 : (gg 5).v = (.pointer (some ⟨b24, 0, none⟩)) := by rw [ee_b24]; exact (hΦ 5 rfl).1.1
    have h_b24 : w25.heap[b24]? = some (.cells ((seatC (⟨(⟨3, 2, 7, 0, 1, 9⟩ : Plan), 0, 1⟩ : Seat))).toArray 29 (0, 0)) := by rw [ee_b24]; exact (hΦ 7 rfl).1.2
    have hs5 : Fresh [cellC b24 ((seatC (⟨(⟨3, 2, 7, 0, 1, 9⟩ : Plan), 0, 1⟩ : Seat))).toArray 29] (gg 5).lo (gg 5).hi w25 := by subst ee_b24; exact Fresh.cell (hΦ 5 rfl).1.2.1 h_b24
    have r := r.congr (sc g5 (sc g4 (sc ((hΦ 3 rfl).1) (sc ((hΦ 2 rfl).1) (sc ((hΦ 1 rfl).1) (sc ((hΦ 0 rfl).1) rfl))))))
    have hP : Post No [roK 4 1 boolE a2_v a2, cellC b13 ((planC (⟨3, 2, 7, 0, 1, 9⟩ : Plan))).toArray 25, memK mg21 x19, cellC b23 ((seatC (⟨(⟨3, 2, 7, 0, 1, 9⟩ : Plan), 0, 0⟩ : Seat))).toArray 29, cellC b24 ((seatC (⟨(⟨3, 2, 7, 0, 1, 9⟩ : Plan), 0, 1⟩ : Seat))).toArray 29] w0 w25 := hP.addL (l := [([cellC b23 ((seatC (⟨(⟨3, 2, 7, 0, 1, 9⟩ : Plan), 0, 0⟩ : Seat))).toArray 29], (gg 4).lo, (gg 4).hi), ([cellC b24 ((seatC (⟨(⟨3, 2, 7, 0, 1, 9⟩ : Plan), 0, 1⟩ : Seat))).toArray 29], (gg 5).lo, (gg 5).hi)]) hb ⟨hs4, (hΦ 4 rfl).2.1, (zz2o (hap 4 5 rfl) zz2f), ⟨hs5, (hΦ 5 rfl).2.1, zz2f, trivial⟩⟩
    refine wsr ?_
    refine seq_val (.agg (seatC (⟨(⟨3, 2, 7, 0, 1, 9⟩ : Plan), 0, 0⟩ : Seat)).toArray) r (fun R => zz03 r (cs := (seatC (⟨(⟨3, 2, 7, 0, 1, 9⟩ : Plan), 0, 0⟩ : Seat))) (n := 8) rfl (hP.cell (i := 3) rfl) ta29 rfl) rfl fun fr r => ?_
    refine zz06 r (c_check_New (F := No) (n := fu) (j := fu + 1) (fun _ h => h.elim) (by omega) (⟨(⟨3, 2, 7, 0, 1, 9⟩ : Plan), 0, 0⟩ : Seat)) (fun R hc => y_call r rfl cl30 hc) rfl ?_
    rintro _ w26 ⟨v27, rfl, hb, hr28⟩
    refine ⟨_, rfl, fun fr r => ?_⟩
    have hP : Post No [roK 4 1 boolE a2_v a2, cellC b13 ((planC (⟨3, 2, 7, 0, 1, 9⟩ : Plan))).toArray 25, memK mg21 x19, cellC b23 ((seatC (⟨(⟨3, 2, 7, 0, 1, 9⟩ : Plan), 0, 0⟩ : Seat))).toArray 29, cellC b24 ((seatC (⟨(⟨3, 2, 7, 0, 1, 9⟩ : Plan), 0, 1⟩ : Seat))).toArray 29, progK Tryz.prog encRes (fu, (D.zz1q (fu + 1) (⟨(⟨3, 2, 7, 0, 1, 9⟩ : Plan), 0, 0⟩ : Seat))) v27 (rg w25.heap.size w26.heap.size)] w0 w26 := hP.addProg hb hr28
    refine seq_val (.pointer (some ⟨mg21.mb, 0, none⟩)) r (fun R => y_move r rfl) rfl fun fr r => ?_
    refine seq_val (.pointer (some ⟨mg21.mb, 0, none⟩)) r (fun R => y_move r rfl) rfl fun fr r => ?_
    obtain ⟨x30, hx30, hD⟩ := zz0i hD
    refine zz06 r (zz28 w26 x19 (hP.mem (i := 2) rfl) 0 hx30) (fun R hc => y_call r rfl cl31 hc) rfl ?_
    rintro _ w31 ⟨rfl, hb⟩
    refine ⟨_, rfl, fun fr r => ?_⟩
    have hP : Post No [roK 4 1 boolE a2_v a2, cellC b13 ((planC (⟨3, 2, 7, 0, 1, 9⟩ : Plan))).toArray 25, memK mg21 x19, cellC b23 ((seatC (⟨(⟨3, 2, 7, 0, 1, 9⟩ : Plan), 0, 0⟩ : Seat))).toArray 29, cellC b24 ((seatC (⟨(⟨3, 2, 7, 0, 1, 9⟩ : Plan), 0, 1⟩ : Seat))).toArray 29, progK Tryz.prog encRes (fu, (D.zz1q (fu + 1) (⟨(⟨3, 2, 7, 0, 1, 9⟩ : Plan), 0, 0⟩ : Seat))) v27 (rg w25.heap.size w26.heap.size)] w0 w31 := hP.below hb
    obtain ⟨x32, hx32, hD⟩ := zz0i hD
    refine zz06 r (zz42 w31 (fu, (D.zz1q (fu + 1) (⟨(⟨3, 2, 7, 0, 1, 9⟩ : Plan), 0, 0⟩ : Seat))) x19 x30 99 (hP.sep.pk [5, 2] rfl rfl) hx32) (fun R hc => y_call r rfl cl29 hc) rfl ?_
    rintro _ w33 ⟨rfl, hq⟩
    refine ⟨_, rfl, fun fr r => ?_⟩
    have hP : Post No [roK 4 1 boolE a2_v a2, cellC b13 ((planC (⟨3, 2, 7, 0, 1, 9⟩ : Plan))).toArray 25, memK mg21 x32.2.2.2, cellC b23 ((seatC (⟨(⟨3, 2, 7, 0, 1, 9⟩ : Plan), 0, 0⟩ : Seat))).toArray 29, cellC b24 ((seatC (⟨(⟨3, 2, 7, 0, 1, 9⟩ : Plan), 0, 1⟩ : Seat))).toArray 29, progK Tryz.prog encRes (fu, (D.zz1q (fu + 1) (⟨(⟨3, 2, 7, 0, 1, 9⟩ : Plan), 0, 0⟩ : Seat))) v27 (rg w25.heap.size w26.heap.size)] w0 w33 := hP.setN (i := 2) rfl hq
    refine seq_val (.tuple #[(.agg (resC x32.1).toArray), (I x32.2.1), (.bool x32.2.2.1)]) r (fun R => y_move r rfl) rfl fun fr r => ?_
    refine seq_val (.agg (resC x32.1).toArray) r (fun R => zz0t r (vs := #[(.agg (resC x32.1).toArray), (I x32.2.1), (.bool x32.2.2.1)]) rfl rfl) rfl fun fr r => ?_
    refine seq_val (I x32.2.1) r (fun R => zz0t r (vs := #[(.agg (resC x32.1).toArray), (I x32.2.1), (.bool x32.2.2.1)]) rfl rfl) rfl fun fr r => ?_
    refine seq_val (.bool x32.2.2.1) r (fun R => zz0t r (vs := #[(.agg (resC x32.1).toArray), (I x32.2.1), (.bool x32.2.2.1)]) rfl rfl) rfl fun fr r => ?_
    refine seq_new (.cells ((resC (⟨0, 0⟩ : Res))).toArray 32 (0, 0)) r (fun R => y_alloc tz32) rfl fun fr b34 w35 n36 r => ?_
    have hP : Post No [roK 4 1 boolE a2_v a2, cellC b13 ((planC (⟨3, 2, 7, 0, 1, 9⟩ : Plan))).toArray 25, memK mg21 x32.2.2.2, cellC b23 ((seatC (⟨(⟨3, 2, 7, 0, 1, 9⟩ : Plan), 0, 0⟩ : Seat))).toArray 29, cellC b24 ((seatC (⟨(⟨3, 2, 7, 0, 1, 9⟩ : Plan), 0, 1⟩ : Seat))).toArray 29, progK Tryz.prog encRes (fu, (D.zz1q (fu + 1) (⟨(⟨3, 2, 7, 0, 1, 9⟩ : Plan), 0, 0⟩ : Seat))) v27 (rg w25.heap.size w26.heap.size), cellC b34 ((resC (⟨0, 0⟩ : Res))).toArray 32] w0 w35 := hP.new n36
    refine seq_upd (.cells ((resC x32.1)).toArray 32 (0, 0)) r (fun R => y_store r (o := 0) (v := (.agg (resC x32.1).toArray)) rfl rfl (hP.cell (i := 6) rfl) ts32 (Nat.le_of_ble_eq_true rfl) rfl rfl) rfl fun fr w38 u39 r => ?_
    have hP : Post No [roK 4 1 boolE a2_v a2, cellC b13 ((planC (⟨3, 2, 7, 0, 1, 9⟩ : Plan))).toArray 25, memK mg21 x32.2.2.2, cellC b23 ((seatC (⟨(⟨3, 2, 7, 0, 1, 9⟩ : Plan), 0, 0⟩ : Seat))).toArray 29, cellC b24 ((seatC (⟨(⟨3, 2, 7, 0, 1, 9⟩ : Plan), 0, 1⟩ : Seat))).toArray 29, progK Tryz.prog encRes (fu, (D.zz1q (fu + 1) (⟨(⟨3, 2, 7, 0, 1, 9⟩ : Plan), 0, 0⟩ : Seat))) v27 (rg w25.heap.size w26.heap.size), cellC b34 ((resC x32.1)).toArray 32] w0 w38 := hP.upd (i := 6) rfl u39
    refine seq_val (I x32.2.1) r (fun R => zz04 r rfl) rfl fun fr r => ?_
    refine seq_val (.bool x32.2.2.1) r (fun R => zz04 r rfl) rfl fun fr r => ?_
    refine wn ?_
    refine wp_seq ?_
    refine wsr ?_
    refine seq_val (.bool a0) r (fun R => y_move r rfl) rfl fun fr r => ?_
    refine wn ?_
    refine wp_cond_split (t := a0) (r.ev rfl) (fun h40 => ?_) (fun h40 => ?_)
    ·
     have hD := (cond_t h40).symm.trans hD
     refine wp_seq ?_
     obtain ⟨x43, hx43, hD⟩ := zz0i hD
     refine zz5j mg21.bs [.val (.agg (seatC (⟨(⟨3, 2, 7, 0, 1, 9⟩ : Plan), 0, 0⟩ : Seat)).toArray), .val (.pointer (some ⟨b34, 1, none⟩)), .val (U x32.1.v), .pred (PrP Tryz.prog encRes (fu, (D.zz1r (fu + 1) (⟨(⟨3, 2, 7, 0, 1, 9⟩ : Plan), 0, 0⟩ : Seat) x32.1.v))) (PrP.st _), .val (.agg (seatC (⟨(⟨3, 2, 7, 0, 1, 9⟩ : Plan), 0, 1⟩ : Seat)).toArray), .val (.pointer (some ⟨b34, 1, none⟩)), .val (U x32.1.v), .pred (PrP Tryz.prog encRes (fu, (D.zz1r (fu + 1) (⟨(⟨3, 2, 7, 0, 1, 9⟩ : Plan), 0, 1⟩ : Seat) x32.1.v))) (PrP.st _), .val (.pointer (some ⟨mg21.mb, 0, none⟩)), .val a2_v, .eff (EffP w38.heap.size (memK mg21 x43.2.2.2) (fun _ : Unit => (.tuple #[(.agg (resC x43.1).toArray), (.agg (resC x43.2.1).toArray), (.bool x43.2.2.1)])) (fun _ : Unit => [])) (EffP.st _ _ _ _), .val (.tuple #[(.agg (resC x43.1).toArray), (.agg (resC x43.2.1).toArray), (.bool x43.2.2.1)]), .val (.agg (resC x43.1).toArray), .val (.agg (resC x43.2.1).toArray), .val (.bool x43.2.2.1), .cell 32 2, .cell 32 2, .stored 15 ((resC x43.1)).toArray 32 2 rfl, .stored 16 ((resC x43.2.1)).toArray 32 2 rfl, .val (.bool x43.2.2.1)] mixed r (fun b hb => hP.sep.lt (i := 2) rfl (.inl hb)) (by kernel_rfl) ?_ ?_
     ·
      refine zz0b r rfl (fun fr1 g w' hk' hd r' => ?_) ?_
      · exact zz03 r' (cs := (seatC (⟨(⟨3, 2, 7, 0, 1, 9⟩ : Plan), 0, 0⟩ : Seat))) (n := 8) rfl (hP.cellK (j := 2) rfl (drK hk') (i := 3) rfl rfl) ta29 rfl ⟨Below.refl _ _, rfl⟩
      refine zz0b r rfl (fun fr1 g w' hk' hd r' => ?_) ?_
      · exact zz02 r' (b := b34) (o := 0) (k := 1) rfl fo32_1 ⟨Below.refl _ _, rfl⟩
      refine zz0b r rfl (fun fr1 g w' hk' hd r' => ?_) ?_
      · exact zz01 r' (v := (U x32.1.v)) (hd 1 rfl).1 (hP.cellK (j := 2) rfl (drK hk') (i := 6) rfl rfl) to22 rfl ⟨Below.refl _ _, rfl⟩
      refine zz0k r rfl (by kernel_rfl) (fun fr1 g w' hb' hd r' => ?_) ?_
      · exact y_call r' (args := [(.agg (seatC (⟨(⟨3, 2, 7, 0, 1, 9⟩ : Plan), 0, 0⟩ : Seat)).toArray), (U x32.1.v)]) (lc (hd 0 rfl).1 (lc (hd 2 rfl).1 l0)) cl36 ((c_check_Drop (F := No) (n := fu) (j := fu + 1) (fun _ h => h.elim) (by omega) (⟨(⟨3, 2, 7, 0, 1, 9⟩ : Plan), 0, 0⟩ : Seat) x32.1.v).mono (by rintro _ w2 ⟨y, rfl, hb2, hr2⟩; exact ⟨_, rfl, hb2, zz6f hr2⟩))
      refine zz0b r rfl (fun fr1 g w' hk' hd r' => ?_) ?_
      · exact zz03 r' (cs := (seatC (⟨(⟨3, 2, 7, 0, 1, 9⟩ : Plan), 0, 1⟩ : Seat))) (n := 8) rfl (hP.cellK (j := 2) rfl (drK hk') (i := 4) rfl rfl) ta29 rfl ⟨Below.refl _ _, rfl⟩
      refine zz0b r rfl (fun fr1 g w' hk' hd r' => ?_) ?_
      · exact zz02 r' (b := b34) (o := 0) (k := 1) rfl fo32_1 ⟨Below.refl _ _, rfl⟩
      refine zz0b r rfl (fun fr1 g w' hk' hd r' => ?_) ?_
      · exact zz01 r' (v := (U x32.1.v)) (hd 5 rfl).1 (hP.cellK (j := 2) rfl (drK hk') (i := 6) rfl rfl) to22 rfl ⟨Below.refl _ _, rfl⟩
      refine zz0k r rfl (by kernel_rfl) (fun fr1 g w' hb' hd r' => ?_) ?_
      · exact y_call r' (args := [(.agg (seatC (⟨(⟨3, 2, 7, 0, 1, 9⟩ : Plan), 0, 1⟩ : Seat)).toArray), (U x32.1.v)]) (lc (hd 4 rfl).1 (lc (hd 6 rfl).1 l0)) cl36 ((c_check_Drop (F := No) (n := fu) (j := fu + 1) (fun _ h => h.elim) (by omega) (⟨(⟨3, 2, 7, 0, 1, 9⟩ : Plan), 0, 1⟩ : Seat) x32.1.v).mono (by rintro _ w2 ⟨y, rfl, hb2, hr2⟩; exact ⟨_, rfl, hb2, zz6f hr2⟩))
      refine zz0k r rfl (by kernel_rfl) (fun fr1 g w' hb' hd r' => ?_) ?_
      · exact y_move r' (v := (.pointer (some ⟨mg21.mb, 0, none⟩))) rfl ⟨Below.refl _ _, rfl⟩
      refine zz0k r rfl (by kernel_rfl) (fun fr1 g w' hb' hd r' => ?_) ?_
      · exact y_move r' (v := a2_v) rfl ⟨Below.refl _ _, rfl⟩
      refine zz0k r rfl (by kernel_rfl) (fun fr1 g w' hb' hd r' => ?_) ?_
      · exact y_call r' (args := [(g 3).v, (g 7).v, (.pointer (some ⟨mg21.mb, 0, none⟩)), a2_v]) (lc rfl (lc rfl (lc (hd 8 rfl).1 (lc (hd 9 rfl).1 l0)))) cl38 ((zz5x _ (fu, (D.zz1r (fu + 1) (⟨(⟨3, 2, 7, 0, 1, 9⟩ : Plan), 0, 0⟩ : Seat) x32.1.v)) (fu, (D.zz1r (fu + 1) (⟨(⟨3, 2, 7, 0, 1, 9⟩ : Plan), 0, 1⟩ : Seat) x32.1.v)) x32.2.2.2 a2 (Sep.beside2 (hd 3 rfl).1 (hd 7 rfl).1 ((hd 3 rfl).2.2.2 7 rfl (by decide)) ((hP.below (dr hb')).sep.pk [2, 0] rfl rfl) (by intro c hc b hb; simp only [List.mem_cons, List.not_mem_nil, or_false] at hc; rcases hc with rfl | rfl; exact hP.sep.lt (i := 2) rfl hb; exact hP.sep.lt (i := 0) rfl hb) (hd 3 rfl).2.1 (hd 7 rfl).2.1) hx43).mono (by rintro _ w2 ⟨rfl, hq⟩; exact ⟨_, rfl, hq.chg.kept, EffP.of () hq rfl (fun b hb => hP.sep.lt (i := 2) rfl hb)⟩))
      refine zz0b r rfl (fun fr1 g w' hk' hd r' => ?_) ?_
      · exact y_move r' (v := (.tuple #[(.agg (resC x43.1).toArray), (.agg (resC x43.2.1).toArray), (.bool x43.2.2.1)])) (EffP.val (hd 10 rfl).1) ⟨Below.refl _ _, rfl⟩
      refine zz0b r rfl (fun fr1 g w' hk' hd r' => ?_) ?_
      · exact zz0t r' (vs := #[(.agg (resC x43.1).toArray), (.agg (resC x43.2.1).toArray), (.bool x43.2.2.1)]) (hd 11 rfl).1 rfl ⟨Below.refl _ _, rfl⟩
      refine zz0b r rfl (fun fr1 g w' hk' hd r' => ?_) ?_
      · exact zz0t r' (vs := #[(.agg (resC x43.1).toArray), (.agg (resC x43.2.1).toArray), (.bool x43.2.2.1)]) (hd 11 rfl).1 rfl ⟨Below.refl _ _, rfl⟩
      refine zz0b r rfl (fun fr1 g w' hk' hd r' => ?_) ?_
      · exact zz0t r' (vs := #[(.agg (resC x43.1).toArray), (.agg (resC x43.2.1).toArray), (.bool x43.2.2.1)]) (hd 11 rfl).1 rfl ⟨Below.refl _ _, rfl⟩
      refine zz0b r rfl (fun fr1 g w' hk' hd r' => ?_) ?_
      · exact y_alloc tz32 (fun b w2 n2 => ⟨n2.below, b, rfl, n2.eq, _, n2.at_, rfl⟩)
      refine zz0b r rfl (fun fr1 g w' hk' hd r' => ?_) ?_
      · exact y_alloc tz32 (fun b w2 n2 => ⟨n2.below, b, rfl, n2.eq, _, n2.at_, rfl⟩)
      refine zz0b r rfl (fun fr1 g w' hk' hd r' => ?_) ?_
      · obtain ⟨hp, _, c, hc, hn⟩ := (hd 15 rfl).1; exact y_store r' (o := 0) (c := c) (v := (.agg (resC x43.1).toArray)) hp (hd 12 rfl).1 hc ts32 (by rw [hn]; exact Nat.le_of_ble_eq_true rfl) rfl (zz2m (hn.trans rfl)) (fun w2 u2 => ⟨u2, rfl⟩)
      refine zz0b r rfl (fun fr1 g w' hk' hd r' => ?_) ?_
      · obtain ⟨hp, _, c, hc, hn⟩ := (hd 16 rfl).1; exact y_store r' (o := 0) (c := c) (v := (.agg (resC x43.2.1).toArray)) hp (hd 13 rfl).1 hc ts32 (by rw [hn]; exact Nat.le_of_ble_eq_true rfl) rfl (zz2m (hn.trans rfl)) (fun w2 u2 => ⟨u2, rfl⟩)
      refine zz0b r rfl (fun fr1 g w' hk' hd r' => ?_) ?_
      · exact zz04 r' (v := (.bool x43.2.2.1)) (hd 14 rfl).1 ⟨Below.refl _ _, rfl⟩
      exact zz1z
     ·
      intro fr gg w46 hb hΦ hap r
      obtain ⟨v41, hv3⟩ : ∃ v, v = (gg 3).v := ⟨_, rfl⟩
      have g3 : (gg 3).v = v41 := hv3.symm
      have hs3 : Fresh [progK Tryz.prog encRes (fu, (D.zz1r (fu + 1) (⟨(⟨3, 2, 7, 0, 1, 9⟩ : Plan), 0, 0⟩ : Seat) x32.1.v)) v41 (rg (gg 3).lo (gg 3).hi)] (gg 3).lo (gg 3).hi w46 := by subst hv3; exact (hΦ 3 rfl).1
      obtain ⟨v42, hv7⟩ : ∃ v, v = (gg 7).v := ⟨_, rfl⟩
      have g7 : (gg 7).v = v42 := hv7.symm
      have hs7 : Fresh [progK Tryz.prog encRes (fu, (D.zz1r (fu + 1) (⟨(⟨3, 2, 7, 0, 1, 9⟩ : Plan), 0, 1⟩ : Seat) x32.1.v)) v42 (rg (gg 7).lo (gg 7).hi)] (gg 7).lo (gg 7).hi w46 := by subst hv7; exact (hΦ 7 rfl).1
      obtain ⟨⟨⟩, g10, hcE, _, hs10⟩ := (hΦ 10 rfl).1
      obtain ⟨b44, ee_b44⟩ : ∃ b, b = (gg 15).lo := ⟨_, rfl⟩
      have g15 : (gg 15).v = (.pointer (some ⟨b44, 0, none⟩)) := by rw [ee_b44]; exact (hΦ 15 rfl).1.1
      have h_b44 : w46.heap[b44]? = some (.cells ((resC x43.1)).toArray 32 (0, 0)) := by rw [ee_b44]; exact (hΦ 17 rfl).1.2
      have hs15 : Fresh [cellC b44 ((resC x43.1)).toArray 32] (gg 15).lo (gg 15).hi w46 := by subst ee_b44; exact Fresh.cell (hΦ 15 rfl).1.2.1 h_b44
      obtain ⟨b45, ee_b45⟩ : ∃ b, b = (gg 16).lo := ⟨_, rfl⟩
      have g16 : (gg 16).v = (.pointer (some ⟨b45, 0, none⟩)) := by rw [ee_b45]; exact (hΦ 16 rfl).1.1
      have h_b45 : w46.heap[b45]? = some (.cells ((resC x43.2.1)).toArray 32 (0, 0)) := by rw [ee_b45]; exact (hΦ 18 rfl).1.2
      have hs16 : Fresh [cellC b45 ((resC x43.2.1)).toArray 32] (gg 16).lo (gg 16).hi w46 := by subst ee_b45; exact Fresh.cell (hΦ 16 rfl).1.2.1 h_b45
      have r := r.congr (sc ((hΦ 19 rfl).1) (sc g16 (sc g15 (sc ((hΦ 14 rfl).1) (sc ((hΦ 13 rfl).1) (sc ((hΦ 12 rfl).1) (sc ((hΦ 11 rfl).1) (sc g10 (sc ((hΦ 9 rfl).1) (sc ((hΦ 8 rfl).1) (sc g7 (sc ((hΦ 6 rfl).1) (sc ((hΦ 5 rfl).1) (sc ((hΦ 4 rfl).1) (sc g3 (sc ((hΦ 2 rfl).1) (sc ((hΦ 1 rfl).1) (sc ((hΦ 0 rfl).1) rfl))))))))))))))))))
      have hP : Post No [roK 4 1 boolE a2_v a2, cellC b13 ((planC (⟨3, 2, 7, 0, 1, 9⟩ : Plan))).toArray 25, memK mg21 x43.2.2.2, cellC b23 ((seatC (⟨(⟨3, 2, 7, 0, 1, 9⟩ : Plan), 0, 0⟩ : Seat))).toArray 29, cellC b24 ((seatC (⟨(⟨3, 2, 7, 0, 1, 9⟩ : Plan), 0, 1⟩ : Seat))).toArray 29, progK Tryz.prog encRes (fu, (D.zz1q (fu + 1) (⟨(⟨3, 2, 7, 0, 1, 9⟩ : Plan), 0, 0⟩ : Seat))) v27 (rg w25.heap.size w26.heap.size), cellC b34 ((resC x32.1)).toArray 32, progK Tryz.prog encRes (fu, (D.zz1r (fu + 1) (⟨(⟨3, 2, 7, 0, 1, 9⟩ : Plan), 0, 0⟩ : Seat) x32.1.v)) v41 (rg (gg 3).lo (gg 3).hi), progK Tryz.prog encRes (fu, (D.zz1r (fu + 1) (⟨(⟨3, 2, 7, 0, 1, 9⟩ : Plan), 0, 1⟩ : Seat) x32.1.v)) v42 (rg (gg 7).lo (gg 7).hi), cellC b44 ((resC x43.1)).toArray 32, cellC b45 ((resC x43.2.1)).toArray 32] w0 w46 := hP.effL (i := 2) (l := [([progK Tryz.prog encRes (fu, (D.zz1r (fu + 1) (⟨(⟨3, 2, 7, 0, 1, 9⟩ : Plan), 0, 0⟩ : Seat) x32.1.v)) v41 (rg (gg 3).lo (gg 3).hi)], (gg 3).lo, (gg 3).hi), ([progK Tryz.prog encRes (fu, (D.zz1r (fu + 1) (⟨(⟨3, 2, 7, 0, 1, 9⟩ : Plan), 0, 1⟩ : Seat) x32.1.v)) v42 (rg (gg 7).lo (gg 7).hi)], (gg 7).lo, (gg 7).hi), ([cellC b44 ((resC x43.1)).toArray 32], (gg 15).lo, (gg 15).hi), ([cellC b45 ((resC x43.2.1)).toArray 32], (gg 16).lo, (gg 16).hi)]) rfl hb hcE rfl rfl ⟨hs3, (hΦ 3 rfl).2.1, (zz2o (hap 3 7 rfl) (zz2o (hap 3 15 rfl) (zz2o (hap 3 16 rfl) zz2f))), ⟨hs7, (hΦ 7 rfl).2.1, (zz2o (hap 7 15 rfl) (zz2o (hap 7 16 rfl) zz2f)), ⟨hs15, (hΦ 15 rfl).2.1, (zz2o (hap 15 16 rfl) zz2f), ⟨hs16, (hΦ 16 rfl).2.1, zz2f, trivial⟩⟩⟩⟩
      refine wsr ?_
      refine seq_val (.agg (resC (⟨3, 0⟩ : Res)).toArray) r (fun R => y_build r (by kernel_rfl)) rfl fun fr r => ?_
      refine seq_new (.cells ((resC (⟨0, 0⟩ : Res))).toArray 32 (0, 0)) r (fun R => y_alloc tz32) rfl fun fr b47 w48 n49 r => ?_
      have hP : Post No [roK 4 1 boolE a2_v a2, cellC b13 ((planC (⟨3, 2, 7, 0, 1, 9⟩ : Plan))).toArray 25, memK mg21 x43.2.2.2, cellC b23 ((seatC (⟨(⟨3, 2, 7, 0, 1, 9⟩ : Plan), 0, 0⟩ : Seat))).toArray 29, cellC b24 ((seatC (⟨(⟨3, 2, 7, 0, 1, 9⟩ : Plan), 0, 1⟩ : Seat))).toArray 29, progK Tryz.prog encRes (fu, (D.zz1q (fu + 1) (⟨(⟨3, 2, 7, 0, 1, 9⟩ : Plan), 0, 0⟩ : Seat))) v27 (rg w25.heap.size w26.heap.size), cellC b34 ((resC x32.1)).toArray 32, progK Tryz.prog encRes (fu, (D.zz1r (fu + 1) (⟨(⟨3, 2, 7, 0, 1, 9⟩ : Plan), 0, 0⟩ : Seat) x32.1.v)) v41 (rg (gg 3).lo (gg 3).hi), progK Tryz.prog encRes (fu, (D.zz1r (fu + 1) (⟨(⟨3, 2, 7, 0, 1, 9⟩ : Plan), 0, 1⟩ : Seat) x32.1.v)) v42 (rg (gg 7).lo (gg 7).hi), cellC b44 ((resC x43.1)).toArray 32, cellC b45 ((resC x43.2.1)).toArray 32, cellC b47 ((resC (⟨0, 0⟩ : Res))).toArray 32] w0 w48 := hP.new n49
      refine seq_upd (.cells ((resC (⟨3, 0⟩ : Res))).toArray 32 (0, 0)) r (fun R => y_store r (o := 0) (v := (.agg (resC (⟨3, 0⟩ : Res)).toArray)) rfl rfl (hP.cell (i := 11) rfl) ts32 (Nat.le_of_ble_eq_true rfl) rfl rfl) rfl fun fr w51 u52 r => ?_
      have hP : Post No [roK 4 1 boolE a2_v a2, cellC b13 ((planC (⟨3, 2, 7, 0, 1, 9⟩ : Plan))).toArray 25, memK mg21 x43.2.2.2, cellC b23 ((seatC (⟨(⟨3, 2, 7, 0, 1, 9⟩ : Plan), 0, 0⟩ : Seat))).toArray 29, cellC b24 ((seatC (⟨(⟨3, 2, 7, 0, 1, 9⟩ : Plan), 0, 1⟩ : Seat))).toArray 29, progK Tryz.prog encRes (fu, (D.zz1q (fu + 1) (⟨(⟨3, 2, 7, 0, 1, 9⟩ : Plan), 0, 0⟩ : Seat))) v27 (rg w25.heap.size w26.heap.size), cellC b34 ((resC x32.1)).toArray 32, progK Tryz.prog encRes (fu, (D.zz1r (fu + 1) (⟨(⟨3, 2, 7, 0, 1, 9⟩ : Plan), 0, 0⟩ : Seat) x32.1.v)) v41 (rg (gg 3).lo (gg 3).hi), progK Tryz.prog encRes (fu, (D.zz1r (fu + 1) (⟨(⟨3, 2, 7, 0, 1, 9⟩ : Plan), 0, 1⟩ : Seat) x32.1.v)) v42 (rg (gg 7).lo (gg 7).hi), cellC b44 ((resC x43.1)).toArray 32, cellC b45 ((resC x43.2.1)).toArray 32, cellC b47 ((resC (⟨3, 0⟩ : Res))).toArray 32] w0 w51 := hP.upd (i := 11) rfl u52
      refine wn ?_
      refine wp_seq ?_
      have hP : Post No [roK 4 1 boolE a2_v a2, cellC b13 ((planC (⟨3, 2, 7, 0, 1, 9⟩ : Plan))).toArray 25, memK mg21 x43.2.2.2, cellC b23 ((seatC (⟨(⟨3, 2, 7, 0, 1, 9⟩ : Plan), 0, 0⟩ : Seat))).toArray 29, cellC b24 ((seatC (⟨(⟨3, 2, 7, 0, 1, 9⟩ : Plan), 0, 1⟩ : Seat))).toArray 29, cellC b34 ((resC x32.1)).toArray 32, cellC b44 ((resC x43.1)).toArray 32, cellC b45 ((resC x43.2.1)).toArray 32, cellC b47 ((resC (⟨3, 0⟩ : Res))).toArray 32] w0 w51 := hP.pick [0, 1, 2, 3, 4, 6, 9, 10, 11] rfl rfl
      refine zz31 (N := 157) (Y := Bool) (G := Unit) (fun x γ => [(0, (.bool a0)), (1, (U a1)), (2, a2_v), (38, (.bool x7)), (7, (.pointer (some ⟨b13, 0, none⟩))), (8, (.pointer (some ⟨mg21.mb, 0, none⟩))), (44, (.bool false)), (9, (.pointer (some ⟨b23, 0, none⟩))), (10, (.pointer (some ⟨b24, 0, none⟩))), (11, (.pointer (some ⟨b34, 0, none⟩))), (59, (.bool a0)), (14, (.pointer (some ⟨b44, 0, none⟩))), (15, (.pointer (some ⟨b45, 0, none⟩))), (16, (.bool x43.2.2.1)), (17, (.pointer (some ⟨b47, 0, none⟩))), (6, (.bool x))]) (fun x γ w => Post No [roK 4 1 boolE a2_v a2, cellC b13 ((planC (⟨3, 2, 7, 0, 1, 9⟩ : Plan))).toArray 25, memK mg21 x43.2.2.2, cellC b23 ((seatC (⟨(⟨3, 2, 7, 0, 1, 9⟩ : Plan), 0, 0⟩ : Seat))).toArray 29, cellC b24 ((seatC (⟨(⟨3, 2, 7, 0, 1, 9⟩ : Plan), 0, 1⟩ : Seat))).toArray 29, cellC b34 ((resC x32.1)).toArray 32, cellC b44 ((resC x43.1)).toArray 32, cellC b45 ((resC x43.2.1)).toArray 32, cellC b47 ((resC (⟨3, 0⟩ : Res))).toArray 32] w0 w) hD ?_ ?_
      ·
       rintro y53 RPy53 nxy53 hD
       refine wp_region_lit ?_
       refine seq_val (.bool x43.2.2.1) r (fun R => y_move r rfl) rfl fun fr r => ?_
       refine seq_val (.bool x43.2.2.1) r (fun R => y_move r rfl) rfl fun fr r => ?_
       refine zz0r x43.2.2.1 (fun h54 => ?_) (fun h54 => ?_)
       ·
        have hD := (cond_t h54).symm.trans hD
        refine s1 r h54 ?_
        refine seq_val (.agg (resC x43.1).toArray) r (fun R => zz03 r (cs := (resC x43.1)) (n := 2) rfl (hP.cell (i := 6) rfl) ta32 rfl) rfl fun fr r => ?_
        refine s1 r h54 ?_
        refine seq_val (.agg (resC (⟨0, 0⟩ : Res)).toArray) r (fun R => y_build r (by kernel_rfl)) rfl fun fr r => ?_
        refine s1 r h54 ?_
        refine seq_val _ r (fun R => y_bin r rfl rfl (run_eqGuard_agg _ _ _ _ _ _ _ eg32) (eqs32 _ _ _).1) rfl fun fr r => ?_
        refine s1 r h54 ?_
        refine seq_val (.bool (x43.1 == (⟨0, 0⟩ : Res))) r (fun R => y_move r rfl) rfl fun fr r => ?_
        refine zz0r (x43.1 == (⟨0, 0⟩ : Res)) (fun h55 => ?_) (fun h55 => ?_)
        ·
         have hD := (cond_t h55).symm.trans hD
         refine s1 r h55 ?_
         refine seq_val (.agg (resC x43.2.1).toArray) r (fun R => zz03 r (cs := (resC x43.2.1)) (n := 2) rfl (hP.cell (i := 7) rfl) ta32 rfl) rfl fun fr r => ?_
         refine s1 r h55 ?_
         refine seq_val (.agg (resC (⟨3, 0⟩ : Res)).toArray) r (fun R => zz03 r (cs := (resC (⟨3, 0⟩ : Res))) (n := 2) rfl (hP.cell (i := 8) rfl) ta32 rfl) rfl fun fr r => ?_
         refine s1 r h55 ?_
         refine seq_val _ r (fun R => y_bin r rfl rfl (run_eqGuard_agg _ _ _ _ _ _ _ eg32) (eqs32 _ _ _).1) rfl fun fr r => ?_
         refine s1 r h54 ?_
         refine seq_val (.bool (x43.2.1 == (⟨3, 0⟩ : Res))) r (fun R => y_pick r (b := true) (congrArg Value.bool h55) rfl) rfl fun fr r => ?_
         refine s1 r h54 ?_
         refine seq_val (.bool (x43.2.1 == (⟨3, 0⟩ : Res))) r (fun R => y_move r rfl) rfl fun fr r => ?_
         refine zz0r (x43.2.1 == (⟨3, 0⟩ : Res)) (fun h56 => ?_) (fun h56 => ?_)
         ·
          have hD := (cond_t h56).symm.trans hD
          refine s0 r h56 fun fr r => ?_
          refine s0 r h56 fun fr r => ?_
          refine s0 r h56 fun fr r => ?_
          refine s0 r h56 fun fr r => ?_
          refine zz17 r rfl rfl rfl (v := undef) rfl (by simp [boolOf, undef]) fun fr r => ?_
          refine zz17 r rfl rfl rfl (v := undef) rfl (by simp [boolOf, undef]) fun fr r => ?_
          refine zz17 r rfl rfl rfl (v := undef) rfl (by simp [boolOf, undef]) fun fr r => ?_
          refine s0 r h56 fun fr r => ?_
          refine s1 r h54 ?_
          refine seq_val (.bool true) r (fun R => y_pick r (b := true) (congrArg Value.bool h56) rfl) rfl fun fr r => ?_
          refine seq_val (.bool true) r (fun R => y_pick r (b := true) (congrArg Value.bool h54) rfl) rfl fun fr r => ?_
          refine seq_val (.bool true) r (fun R => zz04 r rfl) rfl fun fr r => ?_
          refine wn ?_
          exact nxy53 true () _ _ _ hD r (hs_cons rfl (hs_cons rfl (hs_cons rfl (hs_cons rfl (hs_cons rfl (hs_cons rfl (hs_cons rfl (hs_cons rfl (hs_cons rfl (hs_cons rfl (hs_cons rfl (hs_cons rfl (hs_cons rfl (hs_cons rfl (hs_cons rfl (hs_cons rfl hs_nil)))))))))))))))) (hP.pick [0, 1, 2, 3, 4, 5, 6, 7, 8] rfl rfl)
         ·
          have hD := (cond_f h56).symm.trans hD
          refine s1 r h56 ?_
          refine seq_val (.agg (resC x43.1).toArray) r (fun R => zz03 r (cs := (resC x43.1)) (n := 2) rfl (hP.cell (i := 6) rfl) ta32 rfl) rfl fun fr r => ?_
          refine s1 r h56 ?_
          refine seq_val (.agg (resC (⟨3, 0⟩ : Res)).toArray) r (fun R => zz03 r (cs := (resC (⟨3, 0⟩ : Res))) (n := 2) rfl (hP.cell (i := 8) rfl) ta32 rfl) rfl fun fr r => ?_
          refine s1 r h56 ?_
          refine seq_val _ r (fun R => y_bin r rfl rfl (run_eqGuard_agg _ _ _ _ _ _ _ eg32) (eqs32 _ _ _).1) rfl fun fr r => ?_
          refine s1 r h56 ?_
          refine seq_val (.bool (x43.1 == (⟨3, 0⟩ : Res))) r (fun R => y_move r rfl) rfl fun fr r => ?_
          refine zz0r (x43.1 == (⟨3, 0⟩ : Res)) (fun h57 => ?_) (fun h57 => ?_)
          ·
           have hD := (cond_t h57).symm.trans hD
           refine s1 r h57 ?_
           refine seq_val (.agg (resC x43.2.1).toArray) r (fun R => zz03 r (cs := (resC x43.2.1)) (n := 2) rfl (hP.cell (i := 7) rfl) ta32 rfl) rfl fun fr r => ?_
           refine s1 r h57 ?_
           refine seq_val (.agg (resC (⟨0, 0⟩ : Res)).toArray) r (fun R => y_build r (by kernel_rfl)) rfl fun fr r => ?_
           refine s1 r h57 ?_
           refine seq_val _ r (fun R => y_bin r rfl rfl (run_eqGuard_agg _ _ _ _ _ _ _ eg32) (eqs32 _ _ _).1) rfl fun fr r => ?_
           refine s1 r h56 ?_
           refine seq_val (.bool (x43.2.1 == (⟨0, 0⟩ : Res))) r (fun R => y_pick r (b := true) (congrArg Value.bool h57) rfl) rfl fun fr r => ?_
           refine s1 r h54 ?_
           refine seq_val (.bool (x43.2.1 == (⟨0, 0⟩ : Res))) r (fun R => y_pick r (b := false) (congrArg Value.bool h56) rfl) rfl fun fr r => ?_
           refine seq_val (.bool (x43.2.1 == (⟨0, 0⟩ : Res))) r (fun R => y_pick r (b := true) (congrArg Value.bool h54) rfl) rfl fun fr r => ?_
           refine seq_val (.bool (x43.2.1 == (⟨0, 0⟩ : Res))) r (fun R => zz04 r rfl) rfl fun fr r => ?_
           refine wn ?_
           exact nxy53 (x43.2.1 == (⟨0, 0⟩ : Res)) () _ _ _ hD r (hs_cons rfl (hs_cons rfl (hs_cons rfl (hs_cons rfl (hs_cons rfl (hs_cons rfl (hs_cons rfl (hs_cons rfl (hs_cons rfl (hs_cons rfl (hs_cons rfl (hs_cons rfl (hs_cons rfl (hs_cons rfl (hs_cons rfl (hs_cons rfl hs_nil)))))))))))))))) (hP.pick [0, 1, 2, 3, 4, 5, 6, 7, 8] rfl rfl)
          ·
           have hD := (cond_f h57).symm.trans hD
           refine s0 r h57 fun fr r => ?_
           refine s0 r h57 fun fr r => ?_
           refine s0 r h57 fun fr r => ?_
           refine s1 r h56 ?_
           refine seq_val (.bool false) r (fun R => y_pick r (b := false) (congrArg Value.bool h57) rfl) rfl fun fr r => ?_
           refine s1 r h54 ?_
           refine seq_val (.bool false) r (fun R => y_pick r (b := false) (congrArg Value.bool h56) rfl) rfl fun fr r => ?_
           refine seq_val (.bool false) r (fun R => y_pick r (b := true) (congrArg Value.bool h54) rfl) rfl fun fr r => ?_
           refine seq_val (.bool false) r (fun R => zz04 r rfl) rfl fun fr r => ?_
           refine wn ?_
           exact nxy53 false () _ _ _ hD r (hs_cons rfl (hs_cons rfl (hs_cons rfl (hs_cons rfl (hs_cons rfl (hs_cons rfl (hs_cons rfl (hs_cons rfl (hs_cons rfl (hs_cons rfl (hs_cons rfl (hs_cons rfl (hs_cons rfl (hs_cons rfl (hs_cons rfl (hs_cons rfl hs_nil)))))))))))))))) (hP.pick [0, 1, 2, 3, 4, 5, 6, 7, 8] rfl rfl)
        ·
         have hD := (cond_f h55).symm.trans hD
         refine s0 r h55 fun fr r => ?_
         refine s0 r h55 fun fr r => ?_
         refine s0 r h55 fun fr r => ?_
         refine s1 r h54 ?_
         refine seq_val (.bool false) r (fun R => y_pick r (b := false) (congrArg Value.bool h55) rfl) rfl fun fr r => ?_
         refine s1 r h54 ?_
         refine seq_val (.bool false) r (fun R => y_move r rfl) rfl fun fr r => ?_
         refine s1 r (rfl : false = _) ?_
         refine seq_val (.agg (resC x43.1).toArray) r (fun R => zz03 r (cs := (resC x43.1)) (n := 2) rfl (hP.cell (i := 6) rfl) ta32 rfl) rfl fun fr r => ?_
         refine s1 r (rfl : false = _) ?_
         refine seq_val (.agg (resC (⟨3, 0⟩ : Res)).toArray) r (fun R => zz03 r (cs := (resC (⟨3, 0⟩ : Res))) (n := 2) rfl (hP.cell (i := 8) rfl) ta32 rfl) rfl fun fr r => ?_
         refine s1 r (rfl : false = _) ?_
         refine seq_val _ r (fun R => y_bin r rfl rfl (run_eqGuard_agg _ _ _ _ _ _ _ eg32) (eqs32 _ _ _).1) rfl fun fr r => ?_
         refine s1 r (rfl : false = _) ?_
         refine seq_val (.bool (x43.1 == (⟨3, 0⟩ : Res))) r (fun R => y_move r rfl) rfl fun fr r => ?_
         refine zz0r (x43.1 == (⟨3, 0⟩ : Res)) (fun h58 => ?_) (fun h58 => ?_)
         ·
          have hD := (cond_t h58).symm.trans hD
          refine s1 r h58 ?_
          refine seq_val (.agg (resC x43.2.1).toArray) r (fun R => zz03 r (cs := (resC x43.2.1)) (n := 2) rfl (hP.cell (i := 7) rfl) ta32 rfl) rfl fun fr r => ?_
          refine s1 r h58 ?_
          refine seq_val (.agg (resC (⟨0, 0⟩ : Res)).toArray) r (fun R => y_build r (by kernel_rfl)) rfl fun fr r => ?_
          refine s1 r h58 ?_
          refine seq_val _ r (fun R => y_bin r rfl rfl (run_eqGuard_agg _ _ _ _ _ _ _ eg32) (eqs32 _ _ _).1) rfl fun fr r => ?_
          refine s1 r (rfl : false = _) ?_
          refine seq_val (.bool (x43.2.1 == (⟨0, 0⟩ : Res))) r (fun R => y_pick r (b := true) (congrArg Value.bool h58) rfl) rfl fun fr r => ?_
          refine s1 r h54 ?_
          refine seq_val (.bool (x43.2.1 == (⟨0, 0⟩ : Res))) r (fun R => y_pick r (b := false) (congrArg Value.bool (rfl : false = _)) rfl) rfl fun fr r => ?_
          refine seq_val (.bool (x43.2.1 == (⟨0, 0⟩ : Res))) r (fun R => y_pick r (b := true) (congrArg Value.bool h54) rfl) rfl fun fr r => ?_
          refine seq_val (.bool (x43.2.1 == (⟨0, 0⟩ : Res))) r (fun R => zz04 r rfl) rfl fun fr r => ?_
          refine wn ?_
          exact nxy53 (x43.2.1 == (⟨0, 0⟩ : Res)) () _ _ _ hD r (hs_cons rfl (hs_cons rfl (hs_cons rfl (hs_cons rfl (hs_cons rfl (hs_cons rfl (hs_cons rfl (hs_cons rfl (hs_cons rfl (hs_cons rfl (hs_cons rfl (hs_cons rfl (hs_cons rfl (hs_cons rfl (hs_cons rfl (hs_cons rfl hs_nil)))))))))))))))) (hP.pick [0, 1, 2, 3, 4, 5, 6, 7, 8] rfl rfl)
         ·
          have hD := (cond_f h58).symm.trans hD
          refine s0 r h58 fun fr r => ?_
          refine s0 r h58 fun fr r => ?_
          refine s0 r h58 fun fr r => ?_
          refine s1 r (rfl : false = _) ?_
          refine seq_val (.bool false) r (fun R => y_pick r (b := false) (congrArg Value.bool h58) rfl) rfl fun fr r => ?_
          refine s1 r h54 ?_
          refine seq_val (.bool false) r (fun R => y_pick r (b := false) (congrArg Value.bool (rfl : false = _)) rfl) rfl fun fr r => ?_
          refine seq_val (.bool false) r (fun R => y_pick r (b := true) (congrArg Value.bool h54) rfl) rfl fun fr r => ?_
          refine seq_val (.bool false) r (fun R => zz04 r rfl) rfl fun fr r => ?_
          refine wn ?_
          exact nxy53 false () _ _ _ hD r (hs_cons rfl (hs_cons rfl (hs_cons rfl (hs_cons rfl (hs_cons rfl (hs_cons rfl (hs_cons rfl (hs_cons rfl (hs_cons rfl (hs_cons rfl (hs_cons rfl (hs_cons rfl (hs_cons rfl (hs_cons rfl (hs_cons rfl (hs_cons rfl hs_nil)))))))))))))))) (hP.pick [0, 1, 2, 3, 4, 5, 6, 7, 8] rfl rfl)
       ·
        have hD := (cond_f h54).symm.trans hD
        refine s0 r h54 fun fr r => ?_
        refine s0 r h54 fun fr r => ?_
        refine s0 r h54 fun fr r => ?_
        refine s0 r h54 fun fr r => ?_
        refine zz17 r rfl rfl rfl (v := undef) rfl (by simp [boolOf, undef]) fun fr r => ?_
        refine zz17 r rfl rfl rfl (v := undef) rfl (by simp [boolOf, undef]) fun fr r => ?_
        refine zz17 r rfl rfl rfl (v := undef) rfl (by simp [boolOf, undef]) fun fr r => ?_
        refine s0 r h54 fun fr r => ?_
        refine s0 r h54 fun fr r => ?_
        refine zz17 r rfl rfl rfl (v := undef) rfl (by simp [boolOf, undef]) fun fr r => ?_
        refine zz17 r rfl rfl rfl (v := undef) rfl (by simp [boolOf, undef]) fun fr r => ?_
        refine zz17 r rfl rfl rfl (v := undef) rfl (by simp [boolOf, undef]) fun fr r => ?_
        refine zz17 r rfl rfl rfl (v := undef) rfl (by simp [boolOf, undef]) fun fr r => ?_
        refine zz17 r rfl rfl rfl (v := undef) rfl (by simp [boolOf, undef]) fun fr r => ?_
        refine zz17 r rfl rfl rfl (v := undef) rfl (by simp [boolOf, undef]) fun fr r => ?_
        refine zz17 r rfl rfl rfl (v := undef) rfl (by simp [boolOf, undef]) fun fr r => ?_
        refine zz17 r rfl rfl rfl (v := undef) rfl (by simp [boolOf, undef]) fun fr r => ?_
        refine s0 r h54 fun fr r => ?_
        refine seq_val (.bool false) r (fun R => y_pick r (b := false) (congrArg Value.bool h54) rfl) rfl fun fr r => ?_
        refine seq_val (.bool false) r (fun R => zz04 r rfl) rfl fun fr r => ?_
        refine wn ?_
        exact nxy53 false () _ _ _ hD r (hs_cons rfl (hs_cons rfl (hs_cons rfl (hs_cons rfl (hs_cons rfl (hs_cons rfl (hs_cons rfl (hs_cons rfl (hs_cons rfl (hs_cons rfl (hs_cons rfl (hs_cons rfl (hs_cons rfl (hs_cons rfl (hs_cons rfl (hs_cons rfl hs_nil)))))))))))))))) (hP.pick [0, 1, 2, 3, 4, 5, 6, 7, 8] rfl rfl)
      ·
       rintro x59 γ60 fr w61 g r hP hD
       have hP : Post No [roK 4 1 boolE a2_v a2, cellC b13 ((planC (⟨3, 2, 7, 0, 1, 9⟩ : Plan))).toArray 25, memK mg21 x43.2.2.2, cellC b23 ((seatC (⟨(⟨3, 2, 7, 0, 1, 9⟩ : Plan), 0, 0⟩ : Seat))).toArray 29, cellC b24 ((seatC (⟨(⟨3, 2, 7, 0, 1, 9⟩ : Plan), 0, 1⟩ : Seat))).toArray 29, cellC b34 ((resC x32.1)).toArray 32, cellC b44 ((resC x43.1)).toArray 32, cellC b45 ((resC x43.2.1)).toArray 32, cellC b47 ((resC (⟨3, 0⟩ : Res))).toArray 32] w0 w61 := hP
       refine wp_ret ?_
       have hv : x59 = res := Option.some.inj hD
       try dsimp only [Exit.then, Exit.inBlock]
       refine ret_tmp (fn := Tryz.f6) r (t := 6) rfl (v := (.bool x59)) rfl ?_
       subst hv
       exact ⟨rfl, hP.chg.below⟩
    ·
     have hD := (cond_f h40).symm.trans hD
     refine wp_skip ?_
     refine wp_seq ?_
     obtain ⟨x64, hx64, hD⟩ := zz0i hD
     refine zz5j mg21.bs [.val (.agg (seatC (⟨(⟨3, 2, 7, 0, 1, 9⟩ : Plan), 0, 0⟩ : Seat)).toArray), .val (.pointer (some ⟨b34, 1, none⟩)), .val (U x32.1.v), .pred (PrP Tryz.prog encRes (fu, (D.zz1i (⟨(⟨3, 2, 7, 0, 1, 9⟩ : Plan), 0, 0⟩ : Seat) x32.1.v 0 0 1))) (PrP.st _), .val (.agg (seatC (⟨(⟨3, 2, 7, 0, 1, 9⟩ : Plan), 0, 1⟩ : Seat)).toArray), .val (.pointer (some ⟨b34, 1, none⟩)), .val (U x32.1.v), .val (U a1), .pred (PrP Tryz.prog encRes (fu, (D.zz1i (⟨(⟨3, 2, 7, 0, 1, 9⟩ : Plan), 0, 1⟩ : Seat) x32.1.v 0 0 a1))) (PrP.st _), .val (.pointer (some ⟨mg21.mb, 0, none⟩)), .val a2_v, .eff (EffP w38.heap.size (memK mg21 x64.2.2.2) (fun _ : Unit => (.tuple #[(.agg (resC x64.1).toArray), (.agg (resC x64.2.1).toArray), (.bool x64.2.2.1)])) (fun _ : Unit => [])) (EffP.st _ _ _ _), .val (.tuple #[(.agg (resC x64.1).toArray), (.agg (resC x64.2.1).toArray), (.bool x64.2.2.1)]), .val (.agg (resC x64.1).toArray), .val (.agg (resC x64.2.1).toArray), .val (.bool x64.2.2.1), .cell 32 2, .cell 32 2, .stored 16 ((resC x64.1)).toArray 32 2 rfl, .stored 17 ((resC x64.2.1)).toArray 32 2 rfl, .val (.bool x64.2.2.1)] mixed r (fun b hb => hP.sep.lt (i := 2) rfl (.inl hb)) (by kernel_rfl) ?_ ?_
     ·
      refine zz0b r rfl (fun fr1 g w' hk' hd r' => ?_) ?_
      · exact zz03 r' (cs := (seatC (⟨(⟨3, 2, 7, 0, 1, 9⟩ : Plan), 0, 0⟩ : Seat))) (n := 8) rfl (hP.cellK (j := 2) rfl (drK hk') (i := 3) rfl rfl) ta29 rfl ⟨Below.refl _ _, rfl⟩
      refine zz0b r rfl (fun fr1 g w' hk' hd r' => ?_) ?_
      · exact zz02 r' (b := b34) (o := 0) (k := 1) rfl fo32_1 ⟨Below.refl _ _, rfl⟩
      refine zz0b r rfl (fun fr1 g w' hk' hd r' => ?_) ?_
      · exact zz01 r' (v := (U x32.1.v)) (hd 1 rfl).1 (hP.cellK (j := 2) rfl (drK hk') (i := 6) rfl rfl) to22 rfl ⟨Below.refl _ _, rfl⟩
      refine zz0k r rfl (by kernel_rfl) (fun fr1 g w' hb' hd r' => ?_) ?_
      · exact y_call r' (args := [(.agg (seatC (⟨(⟨3, 2, 7, 0, 1, 9⟩ : Plan), 0, 0⟩ : Seat)).toArray), (U x32.1.v), (I 0), (U 0), (U 1)]) (lc (hd 0 rfl).1 (lc (hd 2 rfl).1 (lc rfl (lc rfl (lc rfl l0))))) cl34 ((c_check_Swap (F := No) (n := fu) (fun _ h => h.elim) (⟨(⟨3, 2, 7, 0, 1, 9⟩ : Plan), 0, 0⟩ : Seat) x32.1.v 0 0 1).mono (by rintro _ w2 ⟨y, rfl, hb2, hr2⟩; exact ⟨_, rfl, hb2, zz6f hr2⟩))
      refine zz0b r rfl (fun fr1 g w' hk' hd r' => ?_) ?_
      · exact zz03 r' (cs := (seatC (⟨(⟨3, 2, 7, 0, 1, 9⟩ : Plan), 0, 1⟩ : Seat))) (n := 8) rfl (hP.cellK (j := 2) rfl (drK hk') (i := 4) rfl rfl) ta29 rfl ⟨Below.refl _ _, rfl⟩
      refine zz0b r rfl (fun fr1 g w' hk' hd r' => ?_) ?_
      · exact zz02 r' (b := b34) (o := 0) (k := 1) rfl fo32_1 ⟨Below.refl _ _, rfl⟩
      refine zz0b r rfl (fun fr1 g w' hk' hd r' => ?_) ?_
      · exact zz01 r' (v := (U x32.1.v)) (hd 5 rfl).1 (hP.cellK (j := 2) rfl (drK hk') (i := 6) rfl rfl) to22 rfl ⟨Below.refl _ _, rfl⟩
      refine zz0b r rfl (fun fr1 g w' hk' hd r' => ?_) ?_
      · exact y_move r' (v := (U a1)) rfl ⟨Below.refl _ _, rfl⟩
      refine zz0k r rfl (by kernel_rfl) (fun fr1 g w' hb' hd r' => ?_) ?_
      · exact y_call r' (args := [(.agg (seatC (⟨(⟨3, 2, 7, 0, 1, 9⟩ : Plan), 0, 1⟩ : Seat)).toArray), (U x32.1.v), (I 0), (U 0), (U a1)]) (lc (hd 4 rfl).1 (lc (hd 6 rfl).1 (lc rfl (lc rfl (lc (hd 7 rfl).1 l0))))) cl34 ((c_check_Swap (F := No) (n := fu) (fun _ h => h.elim) (⟨(⟨3, 2, 7, 0, 1, 9⟩ : Plan), 0, 1⟩ : Seat) x32.1.v 0 0 a1).mono (by rintro _ w2 ⟨y, rfl, hb2, hr2⟩; exact ⟨_, rfl, hb2, zz6f hr2⟩))
      refine zz0k r rfl (by kernel_rfl) (fun fr1 g w' hb' hd r' => ?_) ?_
      · exact y_move r' (v := (.pointer (some ⟨mg21.mb, 0, none⟩))) rfl ⟨Below.refl _ _, rfl⟩
      refine zz0k r rfl (by kernel_rfl) (fun fr1 g w' hb' hd r' => ?_) ?_
      · exact y_move r' (v := a2_v) rfl ⟨Below.refl _ _, rfl⟩
      refine zz0k r rfl (by kernel_rfl) (fun fr1 g w' hb' hd r' => ?_) ?_
      · exact y_call r' (args := [(g 3).v, (g 8).v, (.pointer (some ⟨mg21.mb, 0, none⟩)), a2_v]) (lc rfl (lc rfl (lc (hd 9 rfl).1 (lc (hd 10 rfl).1 l0)))) cl38 ((zz5x _ (fu, (D.zz1i (⟨(⟨3, 2, 7, 0, 1, 9⟩ : Plan), 0, 0⟩ : Seat) x32.1.v 0 0 1)) (fu, (D.zz1i (⟨(⟨3, 2, 7, 0, 1, 9⟩ : Plan), 0, 1⟩ : Seat) x32.1.v 0 0 a1)) x32.2.2.2 a2 (Sep.beside2 (hd 3 rfl).1 (hd 8 rfl).1 ((hd 3 rfl).2.2.2 8 rfl (by decide)) ((hP.below (dr hb')).sep.pk [2, 0] rfl rfl) (by intro c hc b hb; simp only [List.mem_cons, List.not_mem_nil, or_false] at hc; rcases hc with rfl | rfl; exact hP.sep.lt (i := 2) rfl hb; exact hP.sep.lt (i := 0) rfl hb) (hd 3 rfl).2.1 (hd 8 rfl).2.1) hx64).mono (by rintro _ w2 ⟨rfl, hq⟩; exact ⟨_, rfl, hq.chg.kept, EffP.of () hq rfl (fun b hb => hP.sep.lt (i := 2) rfl hb)⟩))
      refine zz0b r rfl (fun fr1 g w' hk' hd r' => ?_) ?_
      · exact y_move r' (v := (.tuple #[(.agg (resC x64.1).toArray), (.agg (resC x64.2.1).toArray), (.bool x64.2.2.1)])) (EffP.val (hd 11 rfl).1) ⟨Below.refl _ _, rfl⟩
      refine zz0b r rfl (fun fr1 g w' hk' hd r' => ?_) ?_
      · exact zz0t r' (vs := #[(.agg (resC x64.1).toArray), (.agg (resC x64.2.1).toArray), (.bool x64.2.2.1)]) (hd 12 rfl).1 rfl ⟨Below.refl _ _, rfl⟩
      refine zz0b r rfl (fun fr1 g w' hk' hd r' => ?_) ?_
      · exact zz0t r' (vs := #[(.agg (resC x64.1).toArray), (.agg (resC x64.2.1).toArray), (.bool x64.2.2.1)]) (hd 12 rfl).1 rfl ⟨Below.refl _ _, rfl⟩
      refine zz0b r rfl (fun fr1 g w' hk' hd r' => ?_) ?_
      · exact zz0t r' (vs := #[(.agg (resC x64.1).toArray), (.agg (resC x64.2.1).toArray), (.bool x64.2.2.1)]) (hd 12 rfl).1 rfl ⟨Below.refl _ _, rfl⟩
      refine zz0b r rfl (fun fr1 g w' hk' hd r' => ?_) ?_
      · exact y_alloc tz32 (fun b w2 n2 => ⟨n2.below, b, rfl, n2.eq, _, n2.at_, rfl⟩)
      refine zz0b r rfl (fun fr1 g w' hk' hd r' => ?_) ?_
      · exact y_alloc tz32 (fun b w2 n2 => ⟨n2.below, b, rfl, n2.eq, _, n2.at_, rfl⟩)
      refine zz0b r rfl (fun fr1 g w' hk' hd r' => ?_) ?_
      · obtain ⟨hp, _, c, hc, hn⟩ := (hd 16 rfl).1; exact y_store r' (o := 0) (c := c) (v := (.agg (resC x64.1).toArray)) hp (hd 13 rfl).1 hc ts32 (by rw [hn]; exact Nat.le_of_ble_eq_true rfl) rfl (zz2m (hn.trans rfl)) (fun w2 u2 => ⟨u2, rfl⟩)
      refine zz0b r rfl (fun fr1 g w' hk' hd r' => ?_) ?_
      · obtain ⟨hp, _, c, hc, hn⟩ := (hd 17 rfl).1; exact y_store r' (o := 0) (c := c) (v := (.agg (resC x64.2.1).toArray)) hp (hd 14 rfl).1 hc ts32 (by rw [hn]; exact Nat.le_of_ble_eq_true rfl) rfl (zz2m (hn.trans rfl)) (fun w2 u2 => ⟨u2, rfl⟩)
      refine zz0b r rfl (fun fr1 g w' hk' hd r' => ?_) ?_
      · exact zz04 r' (v := (.bool x64.2.2.1)) (hd 15 rfl).1 ⟨Below.refl _ _, rfl⟩
      exact zz1z
     ·
      intro fr gg w67 hb hΦ hap r
      obtain ⟨v62, hv3⟩ : ∃ v, v = (gg 3).v := ⟨_, rfl⟩
      have g3 : (gg 3).v = v62 := hv3.symm
      have hs3 : Fresh [progK Tryz.prog encRes (fu, (D.zz1i (⟨(⟨3, 2, 7, 0, 1, 9⟩ : Plan), 0, 0⟩ : Seat) x32.1.v 0 0 1)) v62 (rg (gg 3).lo (gg 3).hi)] (gg 3).lo (gg 3).hi w67 := by subst hv3; exact (hΦ 3 rfl).1
      obtain ⟨v63, hv8⟩ : ∃ v, v = (gg 8).v := ⟨_, rfl⟩
      have g8 : (gg 8).v = v63 := hv8.symm
      have hs8 : Fresh [progK Tryz.prog encRes (fu, (D.zz1i (⟨(⟨3, 2, 7, 0, 1, 9⟩ : Plan), 0, 1⟩ : Seat) x32.1.v 0 0 a1)) v63 (rg (gg 8).lo (gg 8).hi)] (gg 8).lo (gg 8).hi w67 := by subst hv8; exact (hΦ 8 rfl).1
      obtain ⟨⟨⟩, g11, hcE, _, hs11⟩ := (hΦ 11 rfl).1
      obtain ⟨b65, ee_b65⟩ : ∃ b, b = (gg 16).lo := ⟨_, rfl⟩
      have g16 : (gg 16).v = (.pointer (some ⟨b65, 0, none⟩)) := by rw [ee_b65]; exact (hΦ 16 rfl).1.1
      have h_b65 : w67.heap[b65]? = some (.cells ((resC x64.1)).toArray 32 (0, 0)) := by rw [ee_b65]; exact (hΦ 18 rfl).1.2
      have hs16 : Fresh [cellC b65 ((resC x64.1)).toArray 32] (gg 16).lo (gg 16).hi w67 := by subst ee_b65; exact Fresh.cell (hΦ 16 rfl).1.2.1 h_b65
      obtain ⟨b66, ee_b66⟩ : ∃ b, b = (gg 17).lo := ⟨_, rfl⟩
      have g17 : (gg 17).v = (.pointer (some ⟨b66, 0, none⟩)) := by rw [ee_b66]; exact (hΦ 17 rfl).1.1
      have h_b66 : w67.heap[b66]? = some (.cells ((resC x64.2.1)).toArray 32 (0, 0)) := by rw [ee_b66]; exact (hΦ 19 rfl).1.2
      have hs17 : Fresh [cellC b66 ((resC x64.2.1)).toArray 32] (gg 17).lo (gg 17).hi w67 := by subst ee_b66; exact Fresh.cell (hΦ 17 rfl).1.2.1 h_b66
      have r := r.congr (sc ((hΦ 20 rfl).1) (sc g17 (sc g16 (sc ((hΦ 15 rfl).1) (sc ((hΦ 14 rfl).1) (sc ((hΦ 13 rfl).1) (sc ((hΦ 12 rfl).1) (sc g11 (sc ((hΦ 10 rfl).1) (sc ((hΦ 9 rfl).1) (sc g8 (sc ((hΦ 7 rfl).1) (sc ((hΦ 6 rfl).1) (sc ((hΦ 5 rfl).1) (sc ((hΦ 4 rfl).1) (sc g3 (sc ((hΦ 2 rfl).1) (sc ((hΦ 1 rfl).1) (sc ((hΦ 0 rfl).1) rfl)))))))))))))))))))
      have hP : Post No [roK 4 1 boolE a2_v a2, cellC b13 ((planC (⟨3, 2, 7, 0, 1, 9⟩ : Plan))).toArray 25, memK mg21 x64.2.2.2, cellC b23 ((seatC (⟨(⟨3, 2, 7, 0, 1, 9⟩ : Plan), 0, 0⟩ : Seat))).toArray 29, cellC b24 ((seatC (⟨(⟨3, 2, 7, 0, 1, 9⟩ : Plan), 0, 1⟩ : Seat))).toArray 29, progK Tryz.prog encRes (fu, (D.zz1q (fu + 1) (⟨(⟨3, 2, 7, 0, 1, 9⟩ : Plan), 0, 0⟩ : Seat))) v27 (rg w25.heap.size w26.heap.size), cellC b34 ((resC x32.1)).toArray 32, progK Tryz.prog encRes (fu, (D.zz1i (⟨(⟨3, 2, 7, 0, 1, 9⟩ : Plan), 0, 0⟩ : Seat) x32.1.v 0 0 1)) v62 (rg (gg 3).lo (gg 3).hi), progK Tryz.prog encRes (fu, (D.zz1i (⟨(⟨3, 2, 7, 0, 1, 9⟩ : Plan), 0, 1⟩ : Seat) x32.1.v 0 0 a1)) v63 (rg (gg 8).lo (gg 8).hi), cellC b65 ((resC x64.1)).toArray 32, cellC b66 ((resC x64.2.1)).toArray 32] w0 w67 := hP.effL (i := 2) (l := [([progK Tryz.prog encRes (fu, (D.zz1i (⟨(⟨3, 2, 7, 0, 1, 9⟩ : Plan), 0, 0⟩ : Seat) x32.1.v 0 0 1)) v62 (rg (gg 3).lo (gg 3).hi)], (gg 3).lo, (gg 3).hi), ([progK Tryz.prog encRes (fu, (D.zz1i (⟨(⟨3, 2, 7, 0, 1, 9⟩ : Plan), 0, 1⟩ : Seat) x32.1.v 0 0 a1)) v63 (rg (gg 8).lo (gg 8).hi)], (gg 8).lo, (gg 8).hi), ([cellC b65 ((resC x64.1)).toArray 32], (gg 16).lo, (gg 16).hi), ([cellC b66 ((resC x64.2.1)).toArray 32], (gg 17).lo, (gg 17).hi)]) rfl hb hcE rfl rfl ⟨hs3, (hΦ 3 rfl).2.1, (zz2o (hap 3 8 rfl) (zz2o (hap 3 16 rfl) (zz2o (hap 3 17 rfl) zz2f))), ⟨hs8, (hΦ 8 rfl).2.1, (zz2o (hap 8 16 rfl) (zz2o (hap 8 17 rfl) zz2f)), ⟨hs16, (hΦ 16 rfl).2.1, (zz2o (hap 16 17 rfl) zz2f), ⟨hs17, (hΦ 17 rfl).2.1, zz2f, trivial⟩⟩⟩⟩
      refine wsr ?_
      refine seq_val (.agg (seatC (⟨(⟨3, 2, 7, 0, 1, 9⟩ : Plan), 0, 0⟩ : Seat)).toArray) r (fun R => zz03 r (cs := (seatC (⟨(⟨3, 2, 7, 0, 1, 9⟩ : Plan), 0, 0⟩ : Seat))) (n := 8) rfl (hP.cell (i := 3) rfl) ta29 rfl) rfl fun fr r => ?_
      refine seq_val _ r (fun R => zz02 r (o := 0) rfl fo32_1) rfl fun fr r => ?_
      refine seq_val (U x32.1.v) r (fun R => zz01 r rfl (hP.cell (i := 6) rfl) to22 rfl) rfl fun fr r => ?_
      refine zz06 r (c_check_Read (F := No) (n := fu) (fun _ h => h.elim) (⟨(⟨3, 2, 7, 0, 1, 9⟩ : Plan), 0, 0⟩ : Seat) x32.1.v 0) (fun R hc => y_call r rfl cl33 hc) rfl ?_
      rintro _ w68 ⟨v69, rfl, hb, hr70⟩
      refine ⟨_, rfl, fun fr r => ?_⟩
      have hP : Post No [roK 4 1 boolE a2_v a2, cellC b13 ((planC (⟨3, 2, 7, 0, 1, 9⟩ : Plan))).toArray 25, memK mg21 x64.2.2.2, cellC b23 ((seatC (⟨(⟨3, 2, 7, 0, 1, 9⟩ : Plan), 0, 0⟩ : Seat))).toArray 29, cellC b24 ((seatC (⟨(⟨3, 2, 7, 0, 1, 9⟩ : Plan), 0, 1⟩ : Seat))).toArray 29, progK Tryz.prog encRes (fu, (D.zz1q (fu + 1) (⟨(⟨3, 2, 7, 0, 1, 9⟩ : Plan), 0, 0⟩ : Seat))) v27 (rg w25.heap.size w26.heap.size), cellC b34 ((resC x32.1)).toArray 32, progK Tryz.prog encRes (fu, (D.zz1i (⟨(⟨3, 2, 7, 0, 1, 9⟩ : Plan), 0, 0⟩ : Seat) x32.1.v 0 0 1)) v62 (rg (gg 3).lo (gg 3).hi), progK Tryz.prog encRes (fu, (D.zz1i (⟨(⟨3, 2, 7, 0, 1, 9⟩ : Plan), 0, 1⟩ : Seat) x32.1.v 0 0 a1)) v63 (rg (gg 8).lo (gg 8).hi), cellC b65 ((resC x64.1)).toArray 32, cellC b66 ((resC x64.2.1)).toArray 32, progK Tryz.prog encRes (fu, (D.zz45 (⟨(⟨3, 2, 7, 0, 1, 9⟩ : Plan), 0, 0⟩ : Seat) x32.1.v 0)) v69 (rg w67.heap.size w68.heap.size)] w0 w68 := hP.addProg hb hr70
      refine seq_val (.pointer (some ⟨mg21.mb, 0, none⟩)) r (fun R => y_move r rfl) rfl fun fr r => ?_
      refine seq_val (.pointer (some ⟨mg21.mb, 0, none⟩)) r (fun R => y_move r rfl) rfl fun fr r => ?_
      obtain ⟨x72, hx72, hD⟩ := zz0i hD
      refine zz06 r (zz28 w68 x64.2.2.2 (hP.mem (i := 2) rfl) 0 hx72) (fun R hc => y_call r rfl cl31 hc) rfl ?_
      rintro _ w73 ⟨rfl, hb⟩
      refine ⟨_, rfl, fun fr r => ?_⟩
      have hP : Post No [roK 4 1 boolE a2_v a2, cellC b13 ((planC (⟨3, 2, 7, 0, 1, 9⟩ : Plan))).toArray 25, memK mg21 x64.2.2.2, cellC b23 ((seatC (⟨(⟨3, 2, 7, 0, 1, 9⟩ : Plan), 0, 0⟩ : Seat))).toArray 29, cellC b24 ((seatC (⟨(⟨3, 2, 7, 0, 1, 9⟩ : Plan), 0, 1⟩ : Seat))).toArray 29, progK Tryz.prog encRes (fu, (D.zz1q (fu + 1) (⟨(⟨3, 2, 7, 0, 1, 9⟩ : Plan), 0, 0⟩ : Seat))) v27 (rg w25.heap.size w26.heap.size), cellC b34 ((resC x32.1)).toArray 32, progK Tryz.prog encRes (fu, (D.zz1i (⟨(⟨3, 2, 7, 0, 1, 9⟩ : Plan), 0, 0⟩ : Seat) x32.1.v 0 0 1)) v62 (rg (gg 3).lo (gg 3).hi), progK Tryz.prog encRes (fu, (D.zz1i (⟨(⟨3, 2, 7, 0, 1, 9⟩ : Plan), 0, 1⟩ : Seat) x32.1.v 0 0 a1)) v63 (rg (gg 8).lo (gg 8).hi), cellC b65 ((resC x64.1)).toArray 32, cellC b66 ((resC x64.2.1)).toArray 32, progK Tryz.prog encRes (fu, (D.zz45 (⟨(⟨3, 2, 7, 0, 1, 9⟩ : Plan), 0, 0⟩ : Seat) x32.1.v 0)) v69 (rg w67.heap.size w68.heap.size)] w0 w73 := hP.below hb
      obtain ⟨x74, hx74, hD⟩ := zz0i hD
      refine zz06 r (zz42 w73 (fu, (D.zz45 (⟨(⟨3, 2, 7, 0, 1, 9⟩ : Plan), 0, 0⟩ : Seat) x32.1.v 0)) x64.2.2.2 x72 99 (hP.sep.pk [11, 2] rfl rfl) hx74) (fun R hc => y_call r rfl cl29 hc) rfl ?_
      rintro _ w75 ⟨rfl, hq⟩
      refine ⟨_, rfl, fun fr r => ?_⟩
      have hP : Post No [roK 4 1 boolE a2_v a2, cellC b13 ((planC (⟨3, 2, 7, 0, 1, 9⟩ : Plan))).toArray 25, memK mg21 x74.2.2.2, cellC b23 ((seatC (⟨(⟨3, 2, 7, 0, 1, 9⟩ : Plan), 0, 0⟩ : Seat))).toArray 29, cellC b24 ((seatC (⟨(⟨3, 2, 7, 0, 1, 9⟩ : Plan), 0, 1⟩ : Seat))).toArray 29, progK Tryz.prog encRes (fu, (D.zz1q (fu + 1) (⟨(⟨3, 2, 7, 0, 1, 9⟩ : Plan), 0, 0⟩ : Seat))) v27 (rg w25.heap.size w26.heap.size), cellC b34 ((resC x32.1)).toArray 32, progK Tryz.prog encRes (fu, (D.zz1i (⟨(⟨3, 2, 7, 0, 1, 9⟩ : Plan), 0, 0⟩ : Seat) x32.1.v 0 0 1)) v62 (rg (gg 3).lo (gg 3).hi), progK Tryz.prog encRes (fu, (D.zz1i (⟨(⟨3, 2, 7, 0, 1, 9⟩ : Plan), 0, 1⟩ : Seat) x32.1.v 0 0 a1)) v63 (rg (gg 8).lo (gg 8).hi), cellC b65 ((resC x64.1)).toArray 32, cellC b66 ((resC x64.2.1)).toArray 32, progK Tryz.prog encRes (fu, (D.zz45 (⟨(⟨3, 2, 7, 0, 1, 9⟩ : Plan), 0, 0⟩ : Seat) x32.1.v 0)) v69 (rg w67.heap.size w68.heap.size)] w0 w75 := hP.setN (i := 2) rfl hq
      refine seq_val (.tuple #[(.agg (resC x74.1).toArray), (I x74.2.1), (.bool x74.2.2.1)]) r (fun R => y_move r rfl) rfl fun fr r => ?_
      refine seq_val (.agg (resC x74.1).toArray) r (fun R => zz0t r (vs := #[(.agg (resC x74.1).toArray), (I x74.2.1), (.bool x74.2.2.1)]) rfl rfl) rfl fun fr r => ?_
      refine seq_val (I x74.2.1) r (fun R => zz0t r (vs := #[(.agg (resC x74.1).toArray), (I x74.2.1), (.bool x74.2.2.1)]) rfl rfl) rfl fun fr r => ?_
      refine seq_val (.bool x74.2.2.1) r (fun R => zz0t r (vs := #[(.agg (resC x74.1).toArray), (I x74.2.1), (.bool x74.2.2.1)]) rfl rfl) rfl fun fr r => ?_
      refine seq_new (.cells ((resC (⟨0, 0⟩ : Res))).toArray 32 (0, 0)) r (fun R => y_alloc tz32) rfl fun fr b76 w77 n78 r => ?_
      have hP : Post No [roK 4 1 boolE a2_v a2, cellC b13 ((planC (⟨3, 2, 7, 0, 1, 9⟩ : Plan))).toArray 25, memK mg21 x74.2.2.2, cellC b23 ((seatC (⟨(⟨3, 2, 7, 0, 1, 9⟩ : Plan), 0, 0⟩ : Seat))).toArray 29, cellC b24 ((seatC (⟨(⟨3, 2, 7, 0, 1, 9⟩ : Plan), 0, 1⟩ : Seat))).toArray 29, progK Tryz.prog encRes (fu, (D.zz1q (fu + 1) (⟨(⟨3, 2, 7, 0, 1, 9⟩ : Plan), 0, 0⟩ : Seat))) v27 (rg w25.heap.size w26.heap.size), cellC b34 ((resC x32.1)).toArray 32, progK Tryz.prog encRes (fu, (D.zz1i (⟨(⟨3, 2, 7, 0, 1, 9⟩ : Plan), 0, 0⟩ : Seat) x32.1.v 0 0 1)) v62 (rg (gg 3).lo (gg 3).hi), progK Tryz.prog encRes (fu, (D.zz1i (⟨(⟨3, 2, 7, 0, 1, 9⟩ : Plan), 0, 1⟩ : Seat) x32.1.v 0 0 a1)) v63 (rg (gg 8).lo (gg 8).hi), cellC b65 ((resC x64.1)).toArray 32, cellC b66 ((resC x64.2.1)).toArray 32, progK Tryz.prog encRes (fu, (D.zz45 (⟨(⟨3, 2, 7, 0, 1, 9⟩ : Plan), 0, 0⟩ : Seat) x32.1.v 0)) v69 (rg w67.heap.size w68.heap.size), cellC b76 ((resC (⟨0, 0⟩ : Res))).toArray 32] w0 w77 := hP.new n78
      refine seq_upd (.cells ((resC x74.1)).toArray 32 (0, 0)) r (fun R => y_store r (o := 0) (v := (.agg (resC x74.1).toArray)) rfl rfl (hP.cell (i := 12) rfl) ts32 (Nat.le_of_ble_eq_true rfl) rfl rfl) rfl fun fr w80 u81 r => ?_
      have hP : Post No [roK 4 1 boolE a2_v a2, cellC b13 ((planC (⟨3, 2, 7, 0, 1, 9⟩ : Plan))).toArray 25, memK mg21 x74.2.2.2, cellC b23 ((seatC (⟨(⟨3, 2, 7, 0, 1, 9⟩ : Plan), 0, 0⟩ : Seat))).toArray 29, cellC b24 ((seatC (⟨(⟨3, 2, 7, 0, 1, 9⟩ : Plan), 0, 1⟩ : Seat))).toArray 29, progK Tryz.prog encRes (fu, (D.zz1q (fu + 1) (⟨(⟨3, 2, 7, 0, 1, 9⟩ : Plan), 0, 0⟩ : Seat))) v27 (rg w25.heap.size w26.heap.size), cellC b34 ((resC x32.1)).toArray 32, progK Tryz.prog encRes (fu, (D.zz1i (⟨(⟨3, 2, 7, 0, 1, 9⟩ : Plan), 0, 0⟩ : Seat) x32.1.v 0 0 1)) v62 (rg (gg 3).lo (gg 3).hi), progK Tryz.prog encRes (fu, (D.zz1i (⟨(⟨3, 2, 7, 0, 1, 9⟩ : Plan), 0, 1⟩ : Seat) x32.1.v 0 0 a1)) v63 (rg (gg 8).lo (gg 8).hi), cellC b65 ((resC x64.1)).toArray 32, cellC b66 ((resC x64.2.1)).toArray 32, progK Tryz.prog encRes (fu, (D.zz45 (⟨(⟨3, 2, 7, 0, 1, 9⟩ : Plan), 0, 0⟩ : Seat) x32.1.v 0)) v69 (rg w67.heap.size w68.heap.size), cellC b76 ((resC x74.1)).toArray 32] w0 w80 := hP.upd (i := 12) rfl u81
      refine seq_val (I x74.2.1) r (fun R => zz04 r rfl) rfl fun fr r => ?_
      refine seq_val (.bool x74.2.2.1) r (fun R => zz04 r rfl) rfl fun fr r => ?_
      refine wn ?_
      refine wp_seq ?_
      have hP : Post No [roK 4 1 boolE a2_v a2, cellC b13 ((planC (⟨3, 2, 7, 0, 1, 9⟩ : Plan))).toArray 25, memK mg21 x74.2.2.2, cellC b23 ((seatC (⟨(⟨3, 2, 7, 0, 1, 9⟩ : Plan), 0, 0⟩ : Seat))).toArray 29, cellC b24 ((seatC (⟨(⟨3, 2, 7, 0, 1, 9⟩ : Plan), 0, 1⟩ : Seat))).toArray 29, cellC b34 ((resC x32.1)).toArray 32, cellC b65 ((resC x64.1)).toArray 32, cellC b66 ((resC x64.2.1)).toArray 32, cellC b76 ((resC x74.1)).toArray 32] w0 w80 := hP.pick [0, 1, 2, 3, 4, 6, 9, 10, 12] rfl rfl
      refine zz31 (N := 157) (Y := Bool) (G := Unit) (fun x γ => [(0, (.bool a0)), (1, (U a1)), (2, a2_v), (38, (.bool x7)), (7, (.pointer (some ⟨b13, 0, none⟩))), (8, (.pointer (some ⟨mg21.mb, 0, none⟩))), (44, (.bool false)), (9, (.pointer (some ⟨b23, 0, none⟩))), (10, (.pointer (some ⟨b24, 0, none⟩))), (11, (.pointer (some ⟨b34, 0, none⟩))), (59, (.bool a0)), (18, (.pointer (some ⟨b65, 0, none⟩))), (19, (.pointer (some ⟨b66, 0, none⟩))), (20, (.bool x64.2.2.1)), (21, (.pointer (some ⟨b76, 0, none⟩))), (6, (.bool x))]) (fun x γ w => Post No [roK 4 1 boolE a2_v a2, cellC b13 ((planC (⟨3, 2, 7, 0, 1, 9⟩ : Plan))).toArray 25, memK mg21 x74.2.2.2, cellC b23 ((seatC (⟨(⟨3, 2, 7, 0, 1, 9⟩ : Plan), 0, 0⟩ : Seat))).toArray 29, cellC b24 ((seatC (⟨(⟨3, 2, 7, 0, 1, 9⟩ : Plan), 0, 1⟩ : Seat))).toArray 29, cellC b34 ((resC x32.1)).toArray 32, cellC b65 ((resC x64.1)).toArray 32, cellC b66 ((resC x64.2.1)).toArray 32, cellC b76 ((resC x74.1)).toArray 32] w0 w) hD ?_ ?_
      ·
       rintro y82 RPy82 nxy82 hD
       refine wp_region_lit ?_
       refine seq_val (.bool x64.2.2.1) r (fun R => y_move r rfl) rfl fun fr r => ?_
       refine seq_val (.bool x64.2.2.1) r (fun R => y_move r rfl) rfl fun fr r => ?_
       refine zz0r x64.2.2.1 (fun h83 => ?_) (fun h83 => ?_)
       ·
        have hD := (cond_t h83).symm.trans hD
        refine s1 r h83 ?_
        refine seq_val (.agg (resC x64.1).toArray) r (fun R => zz03 r (cs := (resC x64.1)) (n := 2) rfl (hP.cell (i := 6) rfl) ta32 rfl) rfl fun fr r => ?_
        refine s1 r h83 ?_
        refine seq_val (.agg (resC (⟨0, 1⟩ : Res)).toArray) r (fun R => y_build r (by kernel_rfl)) rfl fun fr r => ?_
        refine s1 r h83 ?_
        refine seq_val _ r (fun R => y_bin r rfl rfl (run_eqGuard_agg _ _ _ _ _ _ _ eg32) (eqs32 _ _ _).1) rfl fun fr r => ?_
        refine s1 r h83 ?_
        refine seq_val (.bool (x64.1 == (⟨0, 1⟩ : Res))) r (fun R => y_move r rfl) rfl fun fr r => ?_
        refine zz0r (x64.1 == (⟨0, 1⟩ : Res)) (fun h84 => ?_) (fun h84 => ?_)
        ·
         have hD := (cond_t h84).symm.trans hD
         refine s1 r h84 ?_
         refine seq_val (.agg (resC x64.2.1).toArray) r (fun R => zz03 r (cs := (resC x64.2.1)) (n := 2) rfl (hP.cell (i := 7) rfl) ta32 rfl) rfl fun fr r => ?_
         refine s1 r h84 ?_
         refine seq_val (.agg (resC (⟨0, 0⟩ : Res)).toArray) r (fun R => y_build r (by kernel_rfl)) rfl fun fr r => ?_
         refine s1 r h84 ?_
         refine seq_val _ r (fun R => y_bin r rfl rfl (run_eqGuard_agg _ _ _ _ _ _ _ eg32) (eqs32 _ _ _).1) rfl fun fr r => ?_
         refine s1 r h83 ?_
         refine seq_val (.bool (x64.2.1 == (⟨0, 0⟩ : Res))) r (fun R => y_pick r (b := true) (congrArg Value.bool h84) rfl) rfl fun fr r => ?_
         refine s1 r h83 ?_
         refine seq_val (.bool (x64.2.1 == (⟨0, 0⟩ : Res))) r (fun R => y_move r rfl) rfl fun fr r => ?_
         refine zz0r (x64.2.1 == (⟨0, 0⟩ : Res)) (fun h85 => ?_) (fun h85 => ?_)
         ·
          have hD := (cond_t h85).symm.trans hD
          refine s1 r h85 ?_
          refine seq_val _ r (fun R => zz02 r (o := 0) rfl fo32_1) rfl fun fr r => ?_
          refine s1 r h85 ?_
          refine seq_val (U x74.1.v) r (fun R => zz01 r rfl (hP.cell (i := 8) rfl) to22 rfl) rfl fun fr r => ?_
          refine s1 r h85 ?_
          refine seq_val _ r (fun R => y_bin r rfl rfl rfl rfl) rfl fun fr r => ?_
          refine s1 r h83 ?_
          refine seq_val (.bool (x74.1.v == 1)) r (fun R => y_pick r (b := true) (congrArg Value.bool h85) rfl) rfl fun fr r => ?_
          refine s1 r h83 ?_
          refine seq_val (.bool (x74.1.v == 1)) r (fun R => y_move r rfl) rfl fun fr r => ?_
          refine zz0r (x74.1.v == 1) (fun h86 => ?_) (fun h86 => ?_)
          ·
           have hD := (cond_t h86).symm.trans hD
           refine s0 r h86 fun fr r => ?_
           refine s0 r h86 fun fr r => ?_
           refine s0 r h86 fun fr r => ?_
           refine s0 r h86 fun fr r => ?_
           refine zz17 r rfl rfl rfl (v := undef) rfl (by simp [boolOf, undef]) fun fr r => ?_
           refine zz17 r rfl rfl rfl (v := undef) rfl (by simp [boolOf, undef]) fun fr r => ?_
           refine zz17 r rfl rfl rfl (v := undef) rfl (by simp [boolOf, undef]) fun fr r => ?_
           refine s0 r h86 fun fr r => ?_
           refine s0 r h86 fun fr r => ?_
           refine zz17 r rfl rfl rfl (v := undef) rfl (by simp [boolOf, undef]) fun fr r => ?_
           refine zz17 r rfl rfl rfl (v := undef) rfl (by simp [boolOf, undef]) fun fr r => ?_
           refine zz17 r rfl rfl rfl (v := undef) rfl (by simp [boolOf, undef]) fun fr r => ?_
           refine zz17 r rfl rfl rfl (v := undef) rfl (by simp [boolOf, undef]) fun fr r => ?_
           refine s0 r h86 fun fr r => ?_
           refine s1 r h83 ?_
           refine seq_val (.bool true) r (fun R => y_pick r (b := true) (congrArg Value.bool h86) rfl) rfl fun fr r => ?_
           refine seq_val (.bool true) r (fun R => y_pick r (b := true) (congrArg Value.bool h83) rfl) rfl fun fr r => ?_
           refine seq_val (.bool true) r (fun R => zz04 r rfl) rfl fun fr r => ?_
           refine wn ?_
           exact nxy82 true () _ _ _ hD r (hs_cons rfl (hs_cons rfl (hs_cons rfl (hs_cons rfl (hs_cons rfl (hs_cons rfl (hs_cons rfl (hs_cons rfl (hs_cons rfl (hs_cons rfl (hs_cons rfl (hs_cons rfl (hs_cons rfl (hs_cons rfl (hs_cons rfl (hs_cons rfl hs_nil)))))))))))))))) (hP.pick [0, 1, 2, 3, 4, 5, 6, 7, 8] rfl rfl)
          ·
           have hD := (cond_f h86).symm.trans hD
           refine s1 r h86 ?_
           refine seq_val (.agg (resC x64.1).toArray) r (fun R => zz03 r (cs := (resC x64.1)) (n := 2) rfl (hP.cell (i := 6) rfl) ta32 rfl) rfl fun fr r => ?_
           refine s1 r h86 ?_
           refine seq_val (.agg (resC (⟨0, 0⟩ : Res)).toArray) r (fun R => y_build r (by kernel_rfl)) rfl fun fr r => ?_
           refine s1 r h86 ?_
           refine seq_val _ r (fun R => y_bin r rfl rfl (run_eqGuard_agg _ _ _ _ _ _ _ eg32) (eqs32 _ _ _).1) rfl fun fr r => ?_
           refine s1 r h86 ?_
           refine seq_val (.bool (x64.1 == (⟨0, 0⟩ : Res))) r (fun R => y_move r rfl) rfl fun fr r => ?_
           refine zz0r (x64.1 == (⟨0, 0⟩ : Res)) (fun h87 => ?_) (fun h87 => ?_)
           ·
            have hD := (cond_t h87).symm.trans hD
            refine s1 r h87 ?_
            refine seq_val (.agg (resC x64.2.1).toArray) r (fun R => zz03 r (cs := (resC x64.2.1)) (n := 2) rfl (hP.cell (i := 7) rfl) ta32 rfl) rfl fun fr r => ?_
            refine s1 r h87 ?_
            refine seq_val (.agg (resC (⟨0, 1⟩ : Res)).toArray) r (fun R => y_build r (by kernel_rfl)) rfl fun fr r => ?_
            refine s1 r h87 ?_
            refine seq_val _ r (fun R => y_bin r rfl rfl (run_eqGuard_agg _ _ _ _ _ _ _ eg32) (eqs32 _ _ _).1) rfl fun fr r => ?_
            refine s1 r h86 ?_
            refine seq_val (.bool (x64.2.1 == (⟨0, 1⟩ : Res))) r (fun R => y_pick r (b := true) (congrArg Value.bool h87) rfl) rfl fun fr r => ?_
            refine s1 r h86 ?_
            refine seq_val (.bool (x64.2.1 == (⟨0, 1⟩ : Res))) r (fun R => y_move r rfl) rfl fun fr r => ?_
            refine zz0r (x64.2.1 == (⟨0, 1⟩ : Res)) (fun h88 => ?_) (fun h88 => ?_)
            ·
             have hD := (cond_t h88).symm.trans hD
             refine s1 r h88 ?_
             refine seq_val _ r (fun R => zz02 r (o := 0) rfl fo32_1) rfl fun fr r => ?_
             refine s1 r h88 ?_
             refine seq_val (U x74.1.v) r (fun R => zz01 r rfl (hP.cell (i := 8) rfl) to22 rfl) rfl fun fr r => ?_
             refine s1 r h88 ?_
             refine seq_val (U a1) r (fun R => y_move r rfl) rfl fun fr r => ?_
             refine s1 r h88 ?_
             refine seq_val _ r (fun R => y_bin r rfl rfl rfl rfl) rfl fun fr r => ?_
             refine s1 r h86 ?_
             refine seq_val (.bool (x74.1.v == a1)) r (fun R => y_pick r (b := true) (congrArg Value.bool h88) rfl) rfl fun fr r => ?_
             refine s1 r h83 ?_
             refine seq_val (.bool (x74.1.v == a1)) r (fun R => y_pick r (b := false) (congrArg Value.bool h86) rfl) rfl fun fr r => ?_
             refine seq_val (.bool (x74.1.v == a1)) r (fun R => y_pick r (b := true) (congrArg Value.bool h83) rfl) rfl fun fr r => ?_
             refine seq_val (.bool (x74.1.v == a1)) r (fun R => zz04 r rfl) rfl fun fr r => ?_
             refine wn ?_
             exact nxy82 (x74.1.v == a1) () _ _ _ hD r (hs_cons rfl (hs_cons rfl (hs_cons rfl (hs_cons rfl (hs_cons rfl (hs_cons rfl (hs_cons rfl (hs_cons rfl (hs_cons rfl (hs_cons rfl (hs_cons rfl (hs_cons rfl (hs_cons rfl (hs_cons rfl (hs_cons rfl (hs_cons rfl hs_nil)))))))))))))))) (hP.pick [0, 1, 2, 3, 4, 5, 6, 7, 8] rfl rfl)
            ·
             have hD := (cond_f h88).symm.trans hD
             refine s0 r h88 fun fr r => ?_
             refine s0 r h88 fun fr r => ?_
             refine s0 r h88 fun fr r => ?_
             refine s0 r h88 fun fr r => ?_
             refine s1 r h86 ?_
             refine seq_val (.bool false) r (fun R => y_pick r (b := false) (congrArg Value.bool h88) rfl) rfl fun fr r => ?_
             refine s1 r h83 ?_
             refine seq_val (.bool false) r (fun R => y_pick r (b := false) (congrArg Value.bool h86) rfl) rfl fun fr r => ?_
             refine seq_val (.bool false) r (fun R => y_pick r (b := true) (congrArg Value.bool h83) rfl) rfl fun fr r => ?_
             refine seq_val (.bool false) r (fun R => zz04 r rfl) rfl fun fr r => ?_
             refine wn ?_
             exact nxy82 false () _ _ _ hD r (hs_cons rfl (hs_cons rfl (hs_cons rfl (hs_cons rfl (hs_cons rfl (hs_cons rfl (hs_cons rfl (hs_cons rfl (hs_cons rfl (hs_cons rfl (hs_cons rfl (hs_cons rfl (hs_cons rfl (hs_cons rfl (hs_cons rfl (hs_cons rfl hs_nil)))))))))))))))) (hP.pick [0, 1, 2, 3, 4, 5, 6, 7, 8] rfl rfl)
           ·
            have hD := (cond_f h87).symm.trans hD
            refine s0 r h87 fun fr r => ?_
            refine s0 r h87 fun fr r => ?_
            refine s0 r h87 fun fr r => ?_
            refine s1 r h86 ?_
            refine seq_val (.bool false) r (fun R => y_pick r (b := false) (congrArg Value.bool h87) rfl) rfl fun fr r => ?_
            refine s1 r h86 ?_
            refine seq_val (.bool false) r (fun R => y_move r rfl) rfl fun fr r => ?_
            refine s0 r (rfl : false = _) fun fr r => ?_
            refine s0 r (rfl : false = _) fun fr r => ?_
            refine s0 r (rfl : false = _) fun fr r => ?_
            refine s0 r (rfl : false = _) fun fr r => ?_
            refine s1 r h86 ?_
            refine seq_val (.bool false) r (fun R => y_pick r (b := false) (congrArg Value.bool (rfl : false = _)) rfl) rfl fun fr r => ?_
            refine s1 r h83 ?_
            refine seq_val (.bool false) r (fun R => y_pick r (b := false) (congrArg Value.bool h86) rfl) rfl fun fr r => ?_
            refine seq_val (.bool false) r (fun R => y_pick r (b := true) (congrArg Value.bool h83) rfl) rfl fun fr r => ?_
            refine seq_val (.bool false) r (fun R => zz04 r rfl) rfl fun fr r => ?_
            refine wn ?_
            exact nxy82 false () _ _ _ hD r (hs_cons rfl (hs_cons rfl (hs_cons rfl (hs_cons rfl (hs_cons rfl (hs_cons rfl (hs_cons rfl (hs_cons rfl (hs_cons rfl (hs_cons rfl (hs_cons rfl (hs_cons rfl (hs_cons rfl (hs_cons rfl (hs_cons rfl (hs_cons rfl hs_nil)))))))))))))))) (hP.pick [0, 1, 2, 3, 4, 5, 6, 7, 8] rfl rfl)
         ·
          have hD := (cond_f h85).symm.trans hD
          refine s0 r h85 fun fr r => ?_
          refine s0 r h85 fun fr r => ?_
          refine s0 r h85 fun fr r => ?_
          refine s1 r h83 ?_
          refine seq_val (.bool false) r (fun R => y_pick r (b := false) (congrArg Value.bool h85) rfl) rfl fun fr r => ?_
          refine s1 r h83 ?_
          refine seq_val (.bool false) r (fun R => y_move r rfl) rfl fun fr r => ?_
          refine s1 r (rfl : false = _) ?_
          refine seq_val (.agg (resC x64.1).toArray) r (fun R => zz03 r (cs := (resC x64.1)) (n := 2) rfl (hP.cell (i := 6) rfl) ta32 rfl) rfl fun fr r => ?_
          refine s1 r (rfl : false = _) ?_
          refine seq_val (.agg (resC (⟨0, 0⟩ : Res)).toArray) r (fun R => y_build r (by kernel_rfl)) rfl fun fr r => ?_
          refine s1 r (rfl : false = _) ?_
          refine seq_val _ r (fun R => y_bin r rfl rfl (run_eqGuard_agg _ _ _ _ _ _ _ eg32) (eqs32 _ _ _).1) rfl fun fr r => ?_
          refine s1 r (rfl : false = _) ?_
          refine seq_val (.bool (x64.1 == (⟨0, 0⟩ : Res))) r (fun R => y_move r rfl) rfl fun fr r => ?_
          refine zz0r (x64.1 == (⟨0, 0⟩ : Res)) (fun h89 => ?_) (fun h89 => ?_)
          ·
           have hD := (cond_t h89).symm.trans hD
           refine s1 r h89 ?_
           refine seq_val (.agg (resC x64.2.1).toArray) r (fun R => zz03 r (cs := (resC x64.2.1)) (n := 2) rfl (hP.cell (i := 7) rfl) ta32 rfl) rfl fun fr r => ?_
           refine s1 r h89 ?_
           refine seq_val (.agg (resC (⟨0, 1⟩ : Res)).toArray) r (fun R => y_build r (by kernel_rfl)) rfl fun fr r => ?_
           refine s1 r h89 ?_
           refine seq_val _ r (fun R => y_bin r rfl rfl (run_eqGuard_agg _ _ _ _ _ _ _ eg32) (eqs32 _ _ _).1) rfl fun fr r => ?_
           refine s1 r (rfl : false = _) ?_
           refine seq_val (.bool (x64.2.1 == (⟨0, 1⟩ : Res))) r (fun R => y_pick r (b := true) (congrArg Value.bool h89) rfl) rfl fun fr r => ?_
           refine s1 r (rfl : false = _) ?_
           refine seq_val (.bool (x64.2.1 == (⟨0, 1⟩ : Res))) r (fun R => y_move r rfl) rfl fun fr r => ?_
           refine zz0r (x64.2.1 == (⟨0, 1⟩ : Res)) (fun h90 => ?_) (fun h90 => ?_)
           ·
            have hD := (cond_t h90).symm.trans hD
            refine s1 r h90 ?_
            refine seq_val _ r (fun R => zz02 r (o := 0) rfl fo32_1) rfl fun fr r => ?_
            refine s1 r h90 ?_
            refine seq_val (U x74.1.v) r (fun R => zz01 r rfl (hP.cell (i := 8) rfl) to22 rfl) rfl fun fr r => ?_
            refine s1 r h90 ?_
            refine seq_val (U a1) r (fun R => y_move r rfl) rfl fun fr r => ?_
            refine s1 r h90 ?_
            refine seq_val _ r (fun R => y_bin r rfl rfl rfl rfl) rfl fun fr r => ?_
            refine s1 r (rfl : false = _) ?_
            refine seq_val (.bool (x74.1.v == a1)) r (fun R => y_pick r (b := true) (congrArg Value.bool h90) rfl) rfl fun fr r => ?_
            refine s1 r h83 ?_
            refine seq_val (.bool (x74.1.v == a1)) r (fun R => y_pick r (b := false) (congrArg Value.bool (rfl : false = _)) rfl) rfl fun fr r => ?_
            refine seq_val (.bool (x74.1.v == a1)) r (fun R => y_pick r (b := true) (congrArg Value.bool h83) rfl) rfl fun fr r => ?_
            refine seq_val (.bool (x74.1.v == a1)) r (fun R => zz04 r rfl) rfl fun fr r => ?_
            refine wn ?_
            exact nxy82 (x74.1.v == a1) () _ _ _ hD r (hs_cons rfl (hs_cons rfl (hs_cons rfl (hs_cons rfl (hs_cons rfl (hs_cons rfl (hs_cons rfl (hs_cons rfl (hs_cons rfl (hs_cons rfl (hs_cons rfl (hs_cons rfl (hs_cons rfl (hs_cons rfl (hs_cons rfl (hs_cons rfl hs_nil)))))))))))))))) (hP.pick [0, 1, 2, 3, 4, 5, 6, 7, 8] rfl rfl)
           ·
            have hD := (cond_f h90).symm.trans hD
            refine s0 r h90 fun fr r => ?_
            refine s0 r h90 fun fr r => ?_
            refine s0 r h90 fun fr r => ?_
            refine s0 r h90 fun fr r => ?_
            refine s1 r (rfl : false = _) ?_
            refine seq_val (.bool false) r (fun R => y_pick r (b := false) (congrArg Value.bool h90) rfl) rfl fun fr r => ?_
            refine s1 r h83 ?_
            refine seq_val (.bool false) r (fun R => y_pick r (b := false) (congrArg Value.bool (rfl : false = _)) rfl) rfl fun fr r => ?_
            refine seq_val (.bool false) r (fun R => y_pick r (b := true) (congrArg Value.bool h83) rfl) rfl fun fr r => ?_
            refine seq_val (.bool false) r (fun R => zz04 r rfl) rfl fun fr r => ?_
            refine wn ?_
            exact nxy82 false () _ _ _ hD r (hs_cons rfl (hs_cons rfl (hs_cons rfl (hs_cons rfl (hs_cons rfl (hs_cons rfl (hs_cons rfl (hs_cons rfl (hs_cons rfl (hs_cons rfl (hs_cons rfl (hs_cons rfl (hs_cons rfl (hs_cons rfl (hs_cons rfl (hs_cons rfl hs_nil)))))))))))))))) (hP.pick [0, 1, 2, 3, 4, 5, 6, 7, 8] rfl rfl)
          ·
           have hD := (cond_f h89).symm.trans hD
           refine s0 r h89 fun fr r => ?_
           refine s0 r h89 fun fr r => ?_
           refine s0 r h89 fun fr r => ?_
           refine s1 r (rfl : false = _) ?_
           refine seq_val (.bool false) r (fun R => y_pick r (b := false) (congrArg Value.bool h89) rfl) rfl fun fr r => ?_
           refine s1 r (rfl : false = _) ?_
           refine seq_val (.bool false) r (fun R => y_move r rfl) rfl fun fr r => ?_
           refine s0 r (rfl : false = _) fun fr r => ?_
           refine s0 r (rfl : false = _) fun fr r => ?_
           refine s0 r (rfl : false = _) fun fr r => ?_
           refine s0 r (rfl : false = _) fun fr r => ?_
           refine s1 r (rfl : false = _) ?_
           refine seq_val (.bool false) r (fun R => y_pick r (b := false) (congrArg Value.bool (rfl : false = _)) rfl) rfl fun fr r => ?_
           refine s1 r h83 ?_
           refine seq_val (.bool false) r (fun R => y_pick r (b := false) (congrArg Value.bool (rfl : false = _)) rfl) rfl fun fr r => ?_
           refine seq_val (.bool false) r (fun R => y_pick r (b := true) (congrArg Value.bool h83) rfl) rfl fun fr r => ?_
           refine seq_val (.bool false) r (fun R => zz04 r rfl) rfl fun fr r => ?_
           refine wn ?_
           exact nxy82 false () _ _ _ hD r (hs_cons rfl (hs_cons rfl (hs_cons rfl (hs_cons rfl (hs_cons rfl (hs_cons rfl (hs_cons rfl (hs_cons rfl (hs_cons rfl (hs_cons rfl (hs_cons rfl (hs_cons rfl (hs_cons rfl (hs_cons rfl (hs_cons rfl (hs_cons rfl hs_nil)))))))))))))))) (hP.pick [0, 1, 2, 3, 4, 5, 6, 7, 8] rfl rfl)
        ·
         have hD := (cond_f h84).symm.trans hD
         refine s0 r h84 fun fr r => ?_
         refine s0 r h84 fun fr r => ?_
         refine s0 r h84 fun fr r => ?_
         refine s1 r h83 ?_
         refine seq_val (.bool false) r (fun R => y_pick r (b := false) (congrArg Value.bool h84) rfl) rfl fun fr r => ?_
         refine s1 r h83 ?_
         refine seq_val (.bool false) r (fun R => y_move r rfl) rfl fun fr r => ?_
         refine s0 r (rfl : false = _) fun fr r => ?_
         refine s0 r (rfl : false = _) fun fr r => ?_
         refine s0 r (rfl : false = _) fun fr r => ?_
         refine s1 r h83 ?_
         refine seq_val (.bool false) r (fun R => y_pick r (b := false) (congrArg Value.bool (rfl : false = _)) rfl) rfl fun fr r => ?_
         refine s1 r h83 ?_
         refine seq_val (.bool false) r (fun R => y_move r rfl) rfl fun fr r => ?_
         refine s1 r (rfl : false = _) ?_
         refine seq_val (.agg (resC x64.1).toArray) r (fun R => zz03 r (cs := (resC x64.1)) (n := 2) rfl (hP.cell (i := 6) rfl) ta32 rfl) rfl fun fr r => ?_
         refine s1 r (rfl : false = _) ?_
         refine seq_val (.agg (resC (⟨0, 0⟩ : Res)).toArray) r (fun R => y_build r (by kernel_rfl)) rfl fun fr r => ?_
         refine s1 r (rfl : false = _) ?_
         refine seq_val _ r (fun R => y_bin r rfl rfl (run_eqGuard_agg _ _ _ _ _ _ _ eg32) (eqs32 _ _ _).1) rfl fun fr r => ?_
         refine s1 r (rfl : false = _) ?_
         refine seq_val (.bool (x64.1 == (⟨0, 0⟩ : Res))) r (fun R => y_move r rfl) rfl fun fr r => ?_
         refine zz0r (x64.1 == (⟨0, 0⟩ : Res)) (fun h91 => ?_) (fun h91 => ?_)
         ·
          have hD := (cond_t h91).symm.trans hD
          refine s1 r h91 ?_
          refine seq_val (.agg (resC x64.2.1).toArray) r (fun R => zz03 r (cs := (resC x64.2.1)) (n := 2) rfl (hP.cell (i := 7) rfl) ta32 rfl) rfl fun fr r => ?_
          refine s1 r h91 ?_
          refine seq_val (.agg (resC (⟨0, 1⟩ : Res)).toArray) r (fun R => y_build r (by kernel_rfl)) rfl fun fr r => ?_
          refine s1 r h91 ?_
          refine seq_val _ r (fun R => y_bin r rfl rfl (run_eqGuard_agg _ _ _ _ _ _ _ eg32) (eqs32 _ _ _).1) rfl fun fr r => ?_
          refine s1 r (rfl : false = _) ?_
          refine seq_val (.bool (x64.2.1 == (⟨0, 1⟩ : Res))) r (fun R => y_pick r (b := true) (congrArg Value.bool h91) rfl) rfl fun fr r => ?_
          refine s1 r (rfl : false = _) ?_
          refine seq_val (.bool (x64.2.1 == (⟨0, 1⟩ : Res))) r (fun R => y_move r rfl) rfl fun fr r => ?_
          refine zz0r (x64.2.1 == (⟨0, 1⟩ : Res)) (fun h92 => ?_) (fun h92 => ?_)
          ·
           have hD := (cond_t h92).symm.trans hD
           refine s1 r h92 ?_
           refine seq_val _ r (fun R => zz02 r (o := 0) rfl fo32_1) rfl fun fr r => ?_
           refine s1 r h92 ?_
           refine seq_val (U x74.1.v) r (fun R => zz01 r rfl (hP.cell (i := 8) rfl) to22 rfl) rfl fun fr r => ?_
           refine s1 r h92 ?_
           refine seq_val (U a1) r (fun R => y_move r rfl) rfl fun fr r => ?_
           refine s1 r h92 ?_
           refine seq_val _ r (fun R => y_bin r rfl rfl rfl rfl) rfl fun fr r => ?_
           refine s1 r (rfl : false = _) ?_
           refine seq_val (.bool (x74.1.v == a1)) r (fun R => y_pick r (b := true) (congrArg Value.bool h92) rfl) rfl fun fr r => ?_
           refine s1 r h83 ?_
           refine seq_val (.bool (x74.1.v == a1)) r (fun R => y_pick r (b := false) (congrArg Value.bool (rfl : false = _)) rfl) rfl fun fr r => ?_
           refine seq_val (.bool (x74.1.v == a1)) r (fun R => y_pick r (b := true) (congrArg Value.bool h83) rfl) rfl fun fr r => ?_
           refine seq_val (.bool (x74.1.v == a1)) r (fun R => zz04 r rfl) rfl fun fr r => ?_
           refine wn ?_
           exact nxy82 (x74.1.v == a1) () _ _ _ hD r (hs_cons rfl (hs_cons rfl (hs_cons rfl (hs_cons rfl (hs_cons rfl (hs_cons rfl (hs_cons rfl (hs_cons rfl (hs_cons rfl (hs_cons rfl (hs_cons rfl (hs_cons rfl (hs_cons rfl (hs_cons rfl (hs_cons rfl (hs_cons rfl hs_nil)))))))))))))))) (hP.pick [0, 1, 2, 3, 4, 5, 6, 7, 8] rfl rfl)
          ·
           have hD := (cond_f h92).symm.trans hD
           refine s0 r h92 fun fr r => ?_
           refine s0 r h92 fun fr r => ?_
           refine s0 r h92 fun fr r => ?_
           refine s0 r h92 fun fr r => ?_
           refine s1 r (rfl : false = _) ?_
           refine seq_val (.bool false) r (fun R => y_pick r (b := false) (congrArg Value.bool h92) rfl) rfl fun fr r => ?_
           refine s1 r h83 ?_
           refine seq_val (.bool false) r (fun R => y_pick r (b := false) (congrArg Value.bool (rfl : false = _)) rfl) rfl fun fr r => ?_
           refine seq_val (.bool false) r (fun R => y_pick r (b := true) (congrArg Value.bool h83) rfl) rfl fun fr r => ?_
           refine seq_val (.bool false) r (fun R => zz04 r rfl) rfl fun fr r => ?_
           refine wn ?_
           exact nxy82 false () _ _ _ hD r (hs_cons rfl (hs_cons rfl (hs_cons rfl (hs_cons rfl (hs_cons rfl (hs_cons rfl (hs_cons rfl (hs_cons rfl (hs_cons rfl (hs_cons rfl (hs_cons rfl (hs_cons rfl (hs_cons rfl (hs_cons rfl (hs_cons rfl (hs_cons rfl hs_nil)))))))))))))))) (hP.pick [0, 1, 2, 3, 4, 5, 6, 7, 8] rfl rfl)
         ·
          have hD := (cond_f h91).symm.trans hD
          refine s0 r h91 fun fr r => ?_
          refine s0 r h91 fun fr r => ?_
          refine s0 r h91 fun fr r => ?_
          refine s1 r (rfl : false = _) ?_
          refine seq_val (.bool false) r (fun R => y_pick r (b := false) (congrArg Value.bool h91) rfl) rfl fun fr r => ?_
          refine s1 r (rfl : false = _) ?_
          refine seq_val (.bool false) r (fun R => y_move r rfl) rfl fun fr r => ?_
          refine s0 r (rfl : false = _) fun fr r => ?_
          refine s0 r (rfl : false = _) fun fr r => ?_
          refine s0 r (rfl : false = _) fun fr r => ?_
          refine s0 r (rfl : false = _) fun fr r => ?_
          refine s1 r (rfl : false = _) ?_
          refine seq_val (.bool false) r (fun R => y_pick r (b := false) (congrArg Value.bool (rfl : false = _)) rfl) rfl fun fr r => ?_
          refine s1 r h83 ?_
          refine seq_val (.bool false) r (fun R => y_pick r (b := false) (congrArg Value.bool (rfl : false = _)) rfl) rfl fun fr r => ?_
          refine seq_val (.bool false) r (fun R => y_pick r (b := true) (congrArg Value.bool h83) rfl) rfl fun fr r => ?_
          refine seq_val (.bool false) r (fun R => zz04 r rfl) rfl fun fr r => ?_
          refine wn ?_
          exact nxy82 false () _ _ _ hD r (hs_cons rfl (hs_cons rfl (hs_cons rfl (hs_cons rfl (hs_cons rfl (hs_cons rfl (hs_cons rfl (hs_cons rfl (hs_cons rfl (hs_cons rfl (hs_cons rfl (hs_cons rfl (hs_cons rfl (hs_cons rfl (hs_cons rfl (hs_cons rfl hs_nil)))))))))))))))) (hP.pick [0, 1, 2, 3, 4, 5, 6, 7, 8] rfl rfl)
       ·
        have hD := (cond_f h83).symm.trans hD
        refine s0 r h83 fun fr r => ?_
        refine s0 r h83 fun fr r => ?_
        refine s0 r h83 fun fr r => ?_
        refine s0 r h83 fun fr r => ?_
        refine zz17 r rfl rfl rfl (v := undef) rfl (by simp [boolOf, undef]) fun fr r => ?_
        refine zz17 r rfl rfl rfl (v := undef) rfl (by simp [boolOf, undef]) fun fr r => ?_
        refine zz17 r rfl rfl rfl (v := undef) rfl (by simp [boolOf, undef]) fun fr r => ?_
        refine s0 r h83 fun fr r => ?_
        refine s0 r h83 fun fr r => ?_
        refine zz17 r rfl rfl rfl (v := undef) rfl (by simp [boolOf, undef]) fun fr r => ?_
        refine zz17 r rfl rfl rfl (v := undef) rfl (by simp [boolOf, undef]) fun fr r => ?_
        refine zz17 r rfl rfl rfl (v := undef) rfl (by simp [boolOf, undef]) fun fr r => ?_
        refine s0 r h83 fun fr r => ?_
        refine s0 r h83 fun fr r => ?_
        refine zz17 r rfl rfl rfl (v := undef) rfl (by simp [boolOf, undef]) fun fr r => ?_
        refine zz17 r rfl rfl rfl (v := undef) rfl (by simp [boolOf, undef]) fun fr r => ?_
        refine zz17 r rfl rfl rfl (v := undef) rfl (by simp [boolOf, undef]) fun fr r => ?_
        refine zz17 r rfl rfl rfl (v := undef) rfl (by simp [boolOf, undef]) fun fr r => ?_
        refine zz17 r rfl rfl rfl (v := undef) rfl (by simp [boolOf, undef]) fun fr r => ?_
        refine zz17 r rfl rfl rfl (v := undef) rfl (by simp [boolOf, undef]) fun fr r => ?_
        refine zz17 r rfl rfl rfl (v := undef) rfl (by simp [boolOf, undef]) fun fr r => ?_
        refine zz17 r rfl rfl rfl (v := undef) rfl (by simp [boolOf, undef]) fun fr r => ?_
        refine zz17 r rfl rfl rfl (v := undef) rfl (by simp [boolOf, undef]) fun fr r => ?_
        refine zz17 r rfl rfl rfl (v := undef) rfl (by simp [boolOf, undef]) fun fr r => ?_
        refine zz17 r rfl rfl rfl (v := undef) rfl (by simp [boolOf, undef]) fun fr r => ?_
        refine zz17 r rfl rfl rfl (v := undef) rfl (by simp [boolOf, undef]) fun fr r => ?_
        refine zz17 r rfl rfl rfl (v := undef) rfl (by simp [boolOf, undef]) fun fr r => ?_
        refine zz17 r rfl rfl rfl (v := undef) rfl (by simp [boolOf, undef]) fun fr r => ?_
        refine s0 r h83 fun fr r => ?_
        refine seq_val (.bool false) r (fun R => y_pick r (b := false) (congrArg Value.bool h83) rfl) rfl fun fr r => ?_
        refine seq_val (.bool false) r (fun R => zz04 r rfl) rfl fun fr r => ?_
        refine wn ?_
        exact nxy82 false () _ _ _ hD r (hs_cons rfl (hs_cons rfl (hs_cons rfl (hs_cons rfl (hs_cons rfl (hs_cons rfl (hs_cons rfl (hs_cons rfl (hs_cons rfl (hs_cons rfl (hs_cons rfl (hs_cons rfl (hs_cons rfl (hs_cons rfl (hs_cons rfl (hs_cons rfl hs_nil)))))))))))))))) (hP.pick [0, 1, 2, 3, 4, 5, 6, 7, 8] rfl rfl)
      ·
       rintro x93 γ94 fr w95 g r hP hD
       have hP : Post No [roK 4 1 boolE a2_v a2, cellC b13 ((planC (⟨3, 2, 7, 0, 1, 9⟩ : Plan))).toArray 25, memK mg21 x74.2.2.2, cellC b23 ((seatC (⟨(⟨3, 2, 7, 0, 1, 9⟩ : Plan), 0, 0⟩ : Seat))).toArray 29, cellC b24 ((seatC (⟨(⟨3, 2, 7, 0, 1, 9⟩ : Plan), 0, 1⟩ : Seat))).toArray 29, cellC b34 ((resC x32.1)).toArray 32, cellC b65 ((resC x64.1)).toArray 32, cellC b66 ((resC x64.2.1)).toArray 32, cellC b76 ((resC x74.1)).toArray 32] w0 w95 := hP
       refine wp_ret ?_
       have hv : x93 = res := Option.some.inj hD
       try dsimp only [Exit.then, Exit.inBlock]
       refine ret_tmp (fn := Tryz.f6) r (t := 6) rfl (v := (.bool x93)) rfl ?_
       subst hv
       exact ⟨rfl, hP.chg.below⟩

end Go.Proofs.YtjkinpbfmihhdaaGreat.Wk

/- CheckRace: what the walk found answers as the law says: all orders, looked at. -/
set_option linter.unusedVariables false
namespace Go.Proofs.YtjkinpbfmihhdaaGreat
open Go.RowKit
theorem race13 : D.zz33 = raceG (⟨0, 0⟩ : Res) := rfl

theorem awake13R : D.zz2r 1000 = some true := by decide +kernel

/-- What stands ahead of the race. -/
def cr0 : Option (Res × List Int) := (D.zz32 1000 (⟨3, 2, 7, 0, 1, 9⟩ : Plan)).bind fun M => (D.zz2z 1000 (1000, (D.zz1q 1001 (⟨(⟨3, 2, 7, 0, 1, 9⟩ : Plan), 0, 0⟩ : Seat))) M cap0 99).bind fun x => some (x.1, x.2.2.2.ws)

def finD (a b : Res) (_ : List Int) : Bool := (a == ⟨0, 0⟩ && b == ⟨3, 0⟩) || (a == ⟨3, 0⟩ && b == ⟨0, 0⟩)

theorem crDrop : (match cr0 with
    | some (r, ws) => exploreR (D.zz1r 1001 (⟨(⟨3, 2, 7, 0, 1, 9⟩ : Plan), 0, 0⟩ : Seat) r.v) (D.zz1r 1001 (⟨(⟨3, 2, 7, 0, 1, 9⟩ : Plan), 0, 1⟩ : Seat) r.v) finD 40 [⟨[], [], ws⟩]
    | none => false) = true := by decide +kernel

/-- The end of a race of swaps: who changed it, and what is read then. -/
def finS (w : Int) (a b : Res) (ws : List Int) : Option (List Int) := match runT 20 (D.zz45 (⟨(⟨3, 2, 7, 0, 1, 9⟩ : Plan), 0, 0⟩ : Seat) w 0) ws with
  | some (r, _) => bif a == ⟨0, 1⟩ && b == ⟨0, 0⟩ then (bif r.v == 1 then some [] else none) else bif a == ⟨0, 0⟩ && b == ⟨0, 1⟩ then some [r.v] else none
  | none => none

def crPaths (v : Int) : Option (List Int) := match cr0 with
  | some (r, ws) => pathsR (finS r.v) 11 (D.zz1i (⟨(⟨3, 2, 7, 0, 1, 9⟩ : Plan), 0, 0⟩ : Seat) r.v 0 0 1) (D.zz1i (⟨(⟨3, 2, 7, 0, 1, 9⟩ : Plan), 0, 1⟩ : Seat) r.v 0 0 v) ws
  | none => none

theorem crPathsV (k : Nat) : crPaths (Int.ofNat (k + 2)) = some (List.replicate 126 (Int.ofNat (k + 2))) := by kernel_rfl

theorem pure_CheckRace (drop : Bool) (v : Int) (picks : List Bool) (hv : 0 ≤ v ∧ v ≤ 18446744073709551615) : ∃ fu, Wk.D.zz2n fu drop v picks = some true := by
  refine ⟨1000, ?_⟩
  unfold Wk.D.zz2n
  rw [awake13R]
  simp only [Option.bind_some, Bool.not_true, cond_false]
  cases h1 : decide ((picks.length : Int) > 60)
  case true => rfl
  cases h2 : (v == 0)
  case true => rfl
  cases h3 : (v == 1)
  case true => rfl
  simp only [decide_eq_false_iff_not, beq_eq_false_iff_ne, ne_eq] at h1 h2 h3
  simp only [cond_false, Option.bind_some]
  have hc : ∃ q, cr0 = some q := by
    cases h : cr0 with
    | none =>
      have := crDrop
      rw [h] at this
      cases this
    | some q => exact ⟨q, rfl⟩
  obtain ⟨⟨r, ws⟩, hc⟩ := hc
  have hc' := hc
  unfold cr0 at hc'
  obtain ⟨M0, hM0, hc'⟩ := Option.bind_eq_some_iff.1 hc'
  obtain ⟨x, hx, hc'⟩ := Option.bind_eq_some_iff.1 hc'
  simp only [Option.some.injEq, Prod.mk.injEq] at hc'
  obtain ⟨e1, e2⟩ := hc'
  rw [hM0]
  simp only [Option.bind_some, Cap_eq, hx, race13, e1]
  cases drop
  · obtain ⟨k, rfl⟩ : ∃ k : Nat, v = Int.ofNat (k + 2) := ⟨(v - 2).toNat, by simp; omega⟩
    have hp := crPathsV k
    unfold crPaths at hp
    rw [hc] at hp
    simp only at hp
    have hS := paths_ok hp (v := Int.ofNat (k + 2)) fun y hy => List.eq_of_mem_replicate hy
    rw [← e2] at hS
    obtain ⟨ra, rb, M', hr, l, hl, hq⟩ := raceG_ok (z := (⟨0, 0⟩ : Res)) (fu := 1000) (picks := picks) hS (by omega) (by omega) (by omega)
    simp only [cond_false]
    rw [hr]
    simp only [Option.bind_some]
    unfold finS at hl
    split at hl
    · rename_i r' m hrun
      obtain ⟨ws', hrun'⟩ := runT_ok hrun
      have hlt := runT_lt hrun
      obtain ⟨c, hc2⟩ := runR (fu := 1000) (most := 99) (M := M') hrun' (by omega) (by omega) (by omega)
      rw [hc2]
      simp only [Option.bind_some]
      cases hA : (ra == ⟨0, 1⟩ && rb == ⟨0, 0⟩)
      · rw [hA] at hl
        simp only [cond_false] at hl
        cases hB : (ra == ⟨0, 0⟩ && rb == ⟨0, 1⟩)
        · rw [hB] at hl; cases hl
        · rw [hB] at hl
          simp only [cond_true, Option.some.injEq] at hl
          subst hl
          simp only [Bool.and_eq_true, beq_iff_eq] at hB
          obtain ⟨rfl, rfl⟩ := hB
          rw [hq r'.v (List.mem_singleton.2 rfl)]
          simp
      · rw [hA] at hl
        simp only [cond_true] at hl
        cases hB : (r'.v == 1)
        · rw [hB] at hl; cases hl
        · simp only [Bool.and_eq_true] at hA
          rw [hA.1, hA.2]
          rfl
    · cases hl
  · have hD := crDrop
    rw [hc] at hD
    simp only at hD
    have hS := explore_ok (Q := fun a b ws => finD a b ws = true) (fun _ _ _ h => h) hD _ (List.mem_singleton.2 rfl)
    simp only [played] at hS
    rw [← e2] at hS
    obtain ⟨ra, rb, M', hr, hq⟩ := raceG_ok (z := (⟨0, 0⟩ : Res)) (fu := 1000) (picks := picks) hS (by omega) (by omega) (by omega)
    simp only [cond_true]
    rw [hr]
    simp only [Option.bind_some, cond_true]
    unfold finD at hq
    cases h1 : (ra == ⟨0, 0⟩) <;> cases h2 : (rb == ⟨3, 0⟩) <;> cases h3 : (ra == ⟨3, 0⟩) <;> cases h4 : (rb == ⟨0, 0⟩) <;> simp_all

end Go.Proofs.YtjkinpbfmihhdaaGreat

/- A law's row from what its walk hands back: arguments opened. -/
namespace Go.Proofs.YtjkinpbfmihhdaaGreat
open Go.ChangeShapes Go.WideShapes Go.RowKit Go.Deep Go.ChangeAt
section
variable {H : Type} {enc : TypeId × Value → H} {P : Program} {w : World} {base : Nat} {spare : Nat → Bool} {held : Bool}
end
theorem laidOut : laidOutB Tryz.prog = true := by kernel_rfl

end Go.Proofs.YtjkinpbfmihhdaaGreat

/- The program's order of start: its words, told once. -/
namespace Go.Proofs.YtjkinpbfmihhdaaGreat
open Go.ChangeShapes Go.WideShapes Go.ChangeAt Go.RowKit
def ioN : List Nat := [104, 97, 114, 110, 101, 115, 115, 32, 54, 98, 100, 53, 55, 52, 57, 55, 57, 102, 48, 50, 53, 98, 54, 54, 98, 99, 99, 51, 55, 98, 48, 57, 99, 51, 53, 101, 56, 53, 49, 100, 100, 102, 54, 101, 99, 57, 48, 98, 101, 48, 53, 49, 49, 98, 100, 55, 100, 48, 101, 52, 101, 97, 57, 57, 56, 49, 57, 57, 102, 57, 102, 50, 32, 99, 117, 116, 32, 97, 116, 32, 99, 117, 98, 105, 99, 108, 101, 47, 99, 117, 98, 105, 99, 108, 101, 108, 97, 119, 49, 51, 46, 67, 104, 101, 99, 107, 84, 119, 111, 32, 99, 117, 98, 105, 99, 108, 101, 47, 99, 117, 98, 105, 99, 108, 101, 108, 97, 119, 49, 51, 46, 67, 104, 101, 99, 107, 70, 114, 101, 115, 104, 32, 99, 117, 98, 105, 99, 108, 101, 47, 99, 117, 98, 105, 99, 108, 101, 108, 97, 119, 49, 51, 46, 67, 104, 101, 99, 107, 71, 117, 97, 114, 100, 101, 100, 32, 99, 117, 98, 105, 99, 108, 101, 47, 99, 117, 98, 105, 99, 108, 101, 108, 97, 119, 49, 51, 46, 67, 104, 101, 99, 107, 82, 97, 99, 101, 32, 99, 117, 98, 105, 99, 108, 101, 47, 99, 117, 98, 105, 99, 108, 101, 108, 97, 119, 49, 51, 46, 67, 104, 101, 99, 107, 70, 111, 114, 101, 105, 103, 110, 32, 99, 117, 98, 105, 99, 108, 101, 47, 99, 117, 98, 105, 99, 108, 101, 108, 97, 119, 49, 51, 46, 67, 104, 101, 99, 107, 65, 108, 111, 110, 101, 32, 99, 117, 98, 105, 99, 108, 101, 47, 99, 117, 98, 105, 99, 108, 101, 108, 97, 119, 49, 51, 46, 67, 104, 101, 99, 107, 67, 108, 101, 97, 114, 115, 32, 99, 117, 98, 105, 99, 108, 101, 47, 99, 117, 98, 105, 99, 108, 101, 108, 97, 119, 49, 52, 46, 81, 117, 101, 117, 101, 65, 108, 111, 110, 101, 32, 99, 117, 98, 105, 99, 108, 101, 47, 99, 117, 98, 105, 99, 108, 101, 108, 97, 119, 49, 52, 46, 81, 117, 101, 117, 101, 83, 116, 97, 108, 108, 115, 32, 99, 117, 98, 105, 99, 108, 101, 47, 99, 117, 98, 105, 99, 108, 101, 108, 97, 119, 49, 52, 46, 81, 117, 101, 117, 101, 79, 114, 100, 101, 114, 32, 99, 117, 98, 105, 99, 108, 101, 47, 99, 117, 98, 105, 99, 108, 101, 108, 97, 119, 49, 52, 46, 81, 117, 101, 117, 101, 82, 97, 99, 101, 32, 99, 117, 98, 105, 99, 108, 101, 47, 99, 117, 98, 105, 99, 108, 101, 108, 97, 119, 49, 52, 46, 81, 117, 101, 117, 101, 77, 97, 110, 121, 32, 99, 117, 98, 105, 99, 108, 101, 47, 99, 117, 98, 105, 99, 108, 101, 108, 97, 119, 49, 52, 46, 81, 117, 101, 117, 101, 78, 111, 100, 101, 115, 32, 99, 117, 98, 105, 99, 108, 101, 47, 99, 117, 98, 105, 99, 108, 101, 108, 97, 119, 49, 53, 46, 76, 105, 115, 116, 75, 101, 121, 115, 32, 99, 117, 98, 105, 99, 108, 101, 47, 99, 117, 98, 105, 99, 108, 101, 108, 97, 119, 49, 53, 46, 76, 105, 115, 116, 82, 97, 99, 101, 32, 99, 117, 98, 105, 99, 108, 101, 47, 99, 117, 98, 105, 99, 108, 101, 108, 97, 119, 49, 53, 46, 76, 105, 115, 116, 65, 108, 111, 110, 101, 32, 99, 117, 98, 105, 99, 108, 101, 47, 99, 117, 98, 105, 99, 108, 101, 108, 97, 119, 49, 53, 46, 76, 105, 115, 116, 83, 116, 97, 108, 108, 115, 32, 99, 117, 98, 105, 99, 108, 101, 47, 99, 117, 98, 105, 99, 108, 101, 108, 97, 119, 49, 53, 46, 76, 105, 115, 116, 77, 97, 110, 121, 32, 99, 117, 98, 105, 99, 108, 101, 47, 99, 117, 98, 105, 99, 108, 101, 108, 97, 119, 49, 53, 46, 76, 105, 115, 116, 78, 111, 100, 101, 115, 32, 99, 117, 98, 105, 99, 108, 101, 47, 99, 117, 98, 105, 99, 108, 101, 108, 97, 119, 49, 50, 46, 65, 108, 108, 111, 99, 65, 108, 111, 110, 101, 32, 99, 117, 98, 105, 99, 108, 101, 47, 99, 117, 98, 105, 99, 108, 101, 108, 97, 119, 49, 55, 46, 68, 111, 109, 97, 105, 110, 70, 117, 108, 108, 32, 99, 117, 98, 105, 99, 108, 101, 47, 99, 117, 98, 105, 99, 108, 101, 108, 97, 119, 49, 55, 46, 68, 111, 109, 97, 105, 110, 82, 97, 99, 101, 32, 99, 117, 98, 105, 99, 108, 101, 47, 99, 117, 98, 105, 99, 108, 101, 108, 97, 119, 49, 55, 46, 68, 111, 109, 97, 105, 110, 79, 100, 100, 32, 99, 117, 98, 105, 99, 108, 101, 47, 99, 117, 98, 105, 99, 108, 101, 108, 97, 119, 49, 54, 46, 68, 105, 99, 116, 67, 101, 108, 108, 115]

theorem io1 : Tryz.prog.initOrder = String.ofList (ioN.map Char.ofNat) := by kernel_rfl

theorem io2 : Tryz.prog.initOrder.toList = ioN.map Char.ofNat := by rw [io1, String.toList_ofList]

theorem io3 : behindMainWord (wordsSigns Tryz.prog.initOrder.toList) = (([99, 117, 116] : List Nat).map Char.ofNat) :: ([[97, 116], [99, 117, 98, 105, 99, 108, 101, 47, 99, 117, 98, 105, 99, 108, 101, 108, 97, 119, 49, 51, 46, 67, 104, 101, 99, 107, 84, 119, 111], [99, 117, 98, 105, 99, 108, 101, 47, 99, 117, 98, 105, 99, 108, 101, 108, 97, 119, 49, 51, 46, 67, 104, 101, 99, 107, 70, 114, 101, 115, 104], [99, 117, 98, 105, 99, 108, 101, 47, 99, 117, 98, 105, 99, 108, 101, 108, 97, 119, 49, 51, 46, 67, 104, 101, 99, 107, 71, 117, 97, 114, 100, 101, 100], [99, 117, 98, 105, 99, 108, 101, 47, 99, 117, 98, 105, 99, 108, 101, 108, 97, 119, 49, 51, 46, 67, 104, 101, 99, 107, 82, 97, 99, 101], [99, 117, 98, 105, 99, 108, 101, 47, 99, 117, 98, 105, 99, 108, 101, 108, 97, 119, 49, 51, 46, 67, 104, 101, 99, 107, 70, 111, 114, 101, 105, 103, 110], [99, 117, 98, 105, 99, 108, 101, 47, 99, 117, 98, 105, 99, 108, 101, 108, 97, 119, 49, 51, 46, 67, 104, 101, 99, 107, 65, 108, 111, 110, 101], [99, 117, 98, 105, 99, 108, 101, 47, 99, 117, 98, 105, 99, 108, 101, 108, 97, 119, 49, 51, 46, 67, 104, 101, 99, 107, 67, 108, 101, 97, 114, 115], [99, 117, 98, 105, 99, 108, 101, 47, 99, 117, 98, 105, 99, 108, 101, 108, 97, 119, 49, 52, 46, 81, 117, 101, 117, 101, 65, 108, 111, 110, 101], [99, 117, 98, 105, 99, 108, 101, 47, 99, 117, 98, 105, 99, 108, 101, 108, 97, 119, 49, 52, 46, 81, 117, 101, 117, 101, 83, 116, 97, 108, 108, 115], [99, 117, 98, 105, 99, 108, 101, 47, 99, 117, 98, 105, 99, 108, 101, 108, 97, 119, 49, 52, 46, 81, 117, 101, 117, 101, 79, 114, 100, 101, 114], [99, 117, 98, 105, 99, 108, 101, 47, 99, 117, 98, 105, 99, 108, 101, 108, 97, 119, 49, 52, 46, 81, 117, 101, 117, 101, 82, 97, 99, 101], [99, 117, 98, 105, 99, 108, 101, 47, 99, 117, 98, 105, 99, 108, 101, 108, 97, 119, 49, 52, 46, 81, 117, 101, 117, 101, 77, 97, 110, 121], [99, 117, 98, 105, 99, 108, 101, 47, 99, 117, 98, 105, 99, 108, 101, 108, 97, 119, 49, 52, 46, 81, 117, 101, 117, 101, 78, 111, 100, 101, 115], [99, 117, 98, 105, 99, 108, 101, 47, 99, 117, 98, 105, 99, 108, 101, 108, 97, 119, 49, 53, 46, 76, 105, 115, 116, 75, 101, 121, 115], [99, 117, 98, 105, 99, 108, 101, 47, 99, 117, 98, 105, 99, 108, 101, 108, 97, 119, 49, 53, 46, 76, 105, 115, 116, 82, 97, 99, 101], [99, 117, 98, 105, 99, 108, 101, 47, 99, 117, 98, 105, 99, 108, 101, 108, 97, 119, 49, 53, 46, 76, 105, 115, 116, 65, 108, 111, 110, 101], [99, 117, 98, 105, 99, 108, 101, 47, 99, 117, 98, 105, 99, 108, 101, 108, 97, 119, 49, 53, 46, 76, 105, 115, 116, 83, 116, 97, 108, 108, 115], [99, 117, 98, 105, 99, 108, 101, 47, 99, 117, 98, 105, 99, 108, 101, 108, 97, 119, 49, 53, 46, 76, 105, 115, 116, 77, 97, 110, 121], [99, 117, 98, 105, 99, 108, 101, 47, 99, 117, 98, 105, 99, 108, 101, 108, 97, 119, 49, 53, 46, 76, 105, 115, 116, 78, 111, 100, 101, 115], [99, 117, 98, 105, 99, 108, 101, 47, 99, 117, 98, 105, 99, 108, 101, 108, 97, 119, 49, 50, 46, 65, 108, 108, 111, 99, 65, 108, 111, 110, 101], [99, 117, 98, 105, 99, 108, 101, 47, 99, 117, 98, 105, 99, 108, 101, 108, 97, 119, 49, 55, 46, 68, 111, 109, 97, 105, 110, 70, 117, 108, 108], [99, 117, 98, 105, 99, 108, 101, 47, 99, 117, 98, 105, 99, 108, 101, 108, 97, 119, 49, 55, 46, 68, 111, 109, 97, 105, 110, 82, 97, 99, 101], [99, 117, 98, 105, 99, 108, 101, 47, 99, 117, 98, 105, 99, 108, 101, 108, 97, 119, 49, 55, 46, 68, 111, 109, 97, 105, 110, 79, 100, 100], [99, 117, 98, 105, 99, 108, 101, 47, 99, 117, 98, 105, 99, 108, 101, 108, 97, 119, 49, 54, 46, 68, 105, 99, 116, 67, 101, 108, 108, 115]] : List (List Nat)).map (List.map Char.ofNat) := by rw [io2]; kernel_rfl

theorem stripG (r : List (List Char)) : stripLifts liftWords (([99, 117, 116].map Char.ofNat) :: r) = ([], ([99, 117, 116].map Char.ofNat) :: r) := by rfl

theorem makeG {P : Program} {r : List (List Char)} (h : behindMainWord (wordsSigns P.initOrder.toList) = ([99, 117, 116].map Char.ofNat) :: r) : P.make = some .cut := by
  unfold Program.make
  rw [h]
  rfl

theorem liftsG {P : Program} {r : List (List Char)} (h : behindMainWord (wordsSigns P.initOrder.toList) = ([99, 117, 116].map Char.ofNat) :: r) : P.liftsFinal = false := by
  unfold Program.liftsFinal Program.headLifts
  rw [h, stripG]
  rfl

theorem enterG {P : Program} {r : List (List Char)} (h : behindMainWord (wordsSigns P.initOrder.toList) = ([99, 117, 116].map Char.ofNat) :: r) (h1 : P.laysLater = false) (h2 : P.bearsReflect = false) (h3 : P.doorFits [] = true) : P.mayEnter = true := by
  unfold Program.mayEnter
  rw [h]
  simp only [stripG, h1, h2, h3]
  rfl

theorem e1 : Tryz.prog.laysLater = false := by kernel_rfl

theorem e2 : Tryz.prog.bearsReflect = false := by kernel_rfl

theorem e3 : Tryz.prog.doorFits [] = true := by kernel_rfl

theorem io_make : Tryz.prog.make = some .cut := makeG io3

theorem io_lifts : Tryz.prog.liftsFinal = false := liftsG io3

theorem io_enter : Tryz.prog.mayEnter = true := enterG io3 e1 e2 e3

theorem io_maps : mapsRowed Tryz.prog = true := by kernel_rfl

theorem io_heard : Tryz.prog.stopsHeard = true := by kernel_rfl

end Go.Proofs.YtjkinpbfmihhdaaGreat

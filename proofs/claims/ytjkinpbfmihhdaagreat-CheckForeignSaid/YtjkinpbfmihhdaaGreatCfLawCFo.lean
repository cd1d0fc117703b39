/- Written by a program of ours (wip/gen.py): a law -/
import Derived.Test.YtjkinpbfmihhdaaGreatCfM13
set_option linter.unusedVariables false
set_option maxRecDepth 20000
set_option maxHeartbeats 2000000
namespace Go.Proofs.YtjkinpbfmihhdaaGreat.Wk
open Go.RowKit
theorem cl27 : callable Tryz.prog 27 = true := by kernel_rfl

theorem cl42 : callable Tryz.prog 42 = true := by kernel_rfl

theorem cl43 : callable Tryz.prog 43 = true := by kernel_rfl

theorem cl44 : callable Tryz.prog 44 = true := by kernel_rfl

theorem cl46 : callable Tryz.prog 46 = true := by kernel_rfl

theorem eg32 : Tryz.prog.eqGuardType Tryz.prog.depth 32 = false := by kernel_rfl

theorem eqs32 (x y : Res) (w : World) : (binOp .eql 32 (.agg (resC x).toArray) (.agg (resC y).toArray)).run Tryz.prog w = .ok (.bool (x == y)) w ∧ (binOp .neq 32 (.agg (resC x).toArray) (.agg (resC y).toArray)).run Tryz.prog w = .ok (.bool (!(x == y))) w :=
  eq_ints [(.i64, x.e, y.e), (.u64, x.v, y.v)] (by kernel_rfl) (by kernel_rfl) (by kernel_rfl) (by kernel_rfl) (by cases x; cases y; rw [Bool.eq_iff_iff]; simp)

theorem ta61 : tyA Tryz.prog 61 6 = true := by kernel_rfl

theorem ts61 : sized Tryz.prog 61 6 = true := by kernel_rfl

theorem tz61 : zeroOf Tryz.prog 61 = some (.agg (opRC (⟨0, 0, 0, 0, 0, 0⟩ : OpR)).toArray) := by kernel_rfl

def D.cubiclelaw13_CheckForeign (fu : Nat) (a0 : Seat) (a1 : Int) (a2 : Int) : Option (Bool) := (Option.bind ((D.cubiclelaw13_awake fu ).bind (fun (x6 : Bool) => (bif (!x6) then (some true) else (some (!(D.cubicleref06_Few a0.p)))))) (fun (x10 : Bool) => (bif x10 then ((D.cubiclelaw13_awake fu ).bind (fun (x14 : Bool) => (some x14))) else ((D.cubiclelaw09_Laid fu D.cubiclelaw13_Small).bind (fun (x17 : Mem) => (loopThen (fun (x21 : Bool × Int) => (bif (decide (x21.2 ≤ 5)) then (Option.bind (bif (!(D.check_Seat_Formed a0)) then (some true) else (bif (decide (x21.2 > 2)) then (bif (decide (a2 < 0)) then (some true) else (some (decide (a2 > 2)))) else (some false))) (fun (x37 : Bool) => (Option.bind (bif x37 then (some 1) else (Option.bind (bif (!((D.cubicleref08_Mine a1 a0.tenant a0.p.nodes).2)) then (some (decide (x21.2 > 1))) else (some false)) (fun (x51 : Bool) => (Option.bind (bif x51 then (some 3) else (some 0)) (fun (x56 : Int) => (some x56)))))) (fun (x59 : Int) => (bif (x59 == 0) then (some (Lp.next (x21.1, (IntKind.i64.wrap (x21.2 + 1))))) else ((D.prog_Prog_Res_Over fu (fu, (D.cubiclelaw13_Made (fu + 1) a0 (⟨x21.2, 0, a2, a1, 1, 2⟩ : OpR)))).bind (fun (x67 : Res × Bool) => (Option.bind (bif (!x67.2) then (some true) else (some (!(x67.1 == (⟨x59, 0⟩ : Res))))) (fun (x77 : Bool) => (bif x77 then (some (Lp.ret false)) else (some (Lp.next (x21.1, (IntKind.i64.wrap (x21.2 + 1))))))))))))))) else (some (Lp.brk (x21.1, x21.2))))) fu (false, 1) (fun (x81 : Bool × Int) => (Option.bind (bif (D.cubicleref06_Formed a0.p) then (bif (decide (a0.tenant ≥ 0)) then (bif (decide (a0.tenant < 64)) then (bif (decide (a0.thread ≥ 0)) then (bif ((D.check_Seat_Formed a0) == (decide (a0.thread < a0.p.threads))) then ((D.mem_Memory_Count fu x17).bind (fun (x90 : Int) => (some (x90 == 3)))) else (some false)) else (bif ((D.check_Seat_Formed a0) == false) then ((D.mem_Memory_Count fu x17).bind (fun (x94 : Int) => (some (x94 == 3)))) else (some false))) else (bif ((D.check_Seat_Formed a0) == false) then ((D.mem_Memory_Count fu x17).bind (fun (x98 : Int) => (some (x98 == 3)))) else (some false))) else (bif ((D.check_Seat_Formed a0) == false) then ((D.mem_Memory_Count fu x17).bind (fun (x102 : Int) => (some (x102 == 3)))) else (some false))) else (bif ((D.check_Seat_Formed a0) == false) then ((D.mem_Memory_Count fu x17).bind (fun (x106 : Int) => (some (x106 == 3)))) else (some false))) (fun (x109 : Bool) => (some x109))))))))))

theorem c_cubiclelaw13_CheckForeign {fu : Nat} (w0 : World) (a0 : Seat) (a1 : Int) (a2 : Int) {res : Bool} (hD : D.cubiclelaw13_CheckForeign fu a0 a1 a2 = some res) :
    Calls Tryz.prog 7 #[.agg (seatC a0).toArray, .int .u64 a1, .int .i64 a2] w0 (PureRes (.bool res) w0) := by
 refine enter Tryz.func7 rfl 118 rfl rfl fun fr r => ?_
 have hP : Post No [] w0 w0 := Post.nil w0
 unfold D.cubiclelaw13_CheckForeign at hD
 refine wsr ?_
 refine seq_new (.cells ((seatC a0)).toArray 29 (0, 0)) r (fun R => y_box r (v := (.agg (seatC a0).toArray)) rfl) rfl fun fr b1 w2 n3 r => ?_
 have hP : Post No [cellC b1 ((seatC a0)).toArray 29] w0 w2 := hP.new n3
 refine seq_val (.bool false) r (fun R => y_assign r rfl) rfl fun fr r => ?_
 refine wn ?_
 refine wp_seq ?_
 refine wp_seq ?_
 refine wp_joinG (N := 118) (Y := Bool) (G := Unit) (fun x γ => [(0, (.agg (seatC a0).toArray)), (1, (U a1)), (2, (I a2)), (3, (.pointer (some ⟨b1, 0, none⟩))), (6, (.bool false)), (22, (.bool x))]) (fun x γ w => Post No [cellC b1 ((seatC a0)).toArray 29] w0 w) hD ?_ ?_
 ·
  rintro y5 RPy5 nxy5 hD
  refine wp_region_lit ?_
  obtain ⟨x6, hx6, hD⟩ := bindD_elim hD
  refine seq_call r (c_cubiclelaw13_awake w2  hx6) (fun R hc => y_call r rfl cl27 hc) rfl ?_
  rintro _ w7 ⟨rfl, hb⟩
  refine ⟨_, rfl, fun fr r => ?_⟩
  have hP : Post No [cellC b1 ((seatC a0)).toArray 29] w0 w7 := hP.below hb
  refine seq_val (.bool (!x6)) r (fun R => y_un r (u := (.bool x6)) rfl rfl) rfl fun fr r => ?_
  refine seq_val (.bool (!x6)) r (fun R => y_move r rfl) rfl fun fr r => ?_
  refine seq_split (!x6) (fun h8 => ?_) (fun h8 => ?_)
  ·
   have hD := (cond_t h8).symm.trans hD
   refine s0 r h8 fun fr r => ?_
   refine s0 r h8 fun fr r => ?_
   refine s0 r h8 fun fr r => ?_
   refine s0 r h8 fun fr r => ?_
   refine seq_val (.bool true) r (fun R => y_pick r (b := true) (congrArg Value.bool h8) rfl) rfl fun fr r => ?_
   refine wn ?_
   exact nxy5 true () _ _ _ hD r (hs_cons rfl (hs_cons rfl (hs_cons rfl (hs_cons rfl (hs_cons rfl (hs_cons rfl hs_nil)))))) (hP.pick [0] rfl rfl)
  ·
   have hD := (cond_f h8).symm.trans hD
   refine s1 r h8 ?_
   refine seq_val _ r (fun R => y_fieldAddr r (o := 0) rfl fo29_0) rfl fun fr r => ?_
   refine s1 r h8 ?_
   refine seq_val (.agg (planC a0.p).toArray) r (fun R => y_load_agg r (cs := (planC a0.p)) (n := 6) rfl (hP.cell (i := 0) rfl) ta25 rfl) rfl fun fr r => ?_
   refine s1 r h8 ?_
   refine seq_call r (c_cubicleref06_Few w7 a0.p) (fun R hc => y_call r rfl cl39 hc) rfl ?_
   rintro _ w9 ⟨rfl, hb⟩
   refine ⟨_, rfl, fun fr r => ?_⟩
   have hP : Post No [cellC b1 ((seatC a0)).toArray 29] w0 w9 := hP.below hb
   refine s1 r h8 ?_
   refine seq_val (.bool (!(D.cubicleref06_Few a0.p))) r (fun R => y_un r (u := (.bool (D.cubicleref06_Few a0.p))) rfl rfl) rfl fun fr r => ?_
   refine seq_val (.bool (!(D.cubicleref06_Few a0.p))) r (fun R => y_pick r (b := false) (congrArg Value.bool h8) rfl) rfl fun fr r => ?_
   refine wn ?_
   exact nxy5 (!(D.cubicleref06_Few a0.p)) () _ _ _ hD r (hs_cons rfl (hs_cons rfl (hs_cons rfl (hs_cons rfl (hs_cons rfl (hs_cons rfl hs_nil)))))) (hP.pick [0] rfl rfl)
 ·
  rintro x10 γ11 fr w12 g r hP hD
  have hP : Post No [cellC b1 ((seatC a0)).toArray 29] w0 w12 := hP
  refine wp_cond_split (t := x10) (r.ev rfl) (fun h13 => ?_) (fun h13 => ?_)
  ·
   have hD := (cond_t h13).symm.trans hD
   refine wsr ?_
   obtain ⟨x14, hx14, hD⟩ := bindD_elim hD
   refine seq_call r (c_cubiclelaw13_awake w12  hx14) (fun R hc => y_call r rfl cl27 hc) rfl ?_
   rintro _ w15 ⟨rfl, hb⟩
   refine ⟨_, rfl, fun fr r => ?_⟩
   have hP : Post No [cellC b1 ((seatC a0)).toArray 29] w0 w15 := hP.below hb
   refine seq_val (.bool x14) r (fun R => y_assign r rfl) rfl fun fr r => ?_
   refine wn ?_
   refine wp_ret ?_
   have hv : x14 = res := Option.some.inj hD
   try dsimp only [Exit.then, Exit.inBlock]
   refine ret_tmp (fn := Tryz.f7) r (t := 6) rfl (v := (.bool x14)) rfl ?_
   subst hv
   exact ⟨rfl, hP.chg.below⟩
  ·
   have hD := (cond_f h13).symm.trans hD
   refine wp_skip ?_
   refine wsr ?_
   refine seq_call r (c_cubiclelaw13_Small w12 ) (fun R hc => y_call r rfl cl40 hc) rfl ?_
   rintro _ w16 ⟨rfl, hb⟩
   refine ⟨_, rfl, fun fr r => ?_⟩
   have hP : Post No [cellC b1 ((seatC a0)).toArray 29] w0 w16 := hP.below hb
   obtain ⟨x17, hx17, hD⟩ := bindD_elim hD
   refine seq_call r (c_cubiclelaw09_Laid w16 D.cubiclelaw13_Small hx17) (fun R hc => y_call r rfl cl28 hc) rfl ?_
   rintro _ w18 ⟨mg19, rfl, hq⟩
   refine ⟨_, rfl, fun fr r => ?_⟩
   have hP : Post No [cellC b1 ((seatC a0)).toArray 29, memK mg19 x17] w0 w18 := hP.add hq
   refine seq_val (.pointer (some ⟨mg19.mb, 0, none⟩)) r (fun R => y_assign r rfl) rfl fun fr r => ?_
   refine wn ?_
   refine wp_seq ?_
   refine wsr ?_
   refine seq_val (.pointer (some ⟨mg19.mb, 0, none⟩)) r (fun R => y_move r rfl) rfl fun fr r => ?_
   refine seq_val _ r (fun R => y_bin r rfl rfl rfl rfl) rfl fun fr r => ?_
   refine wn ?_
   refine wp_cond_split (t := false) (r.ev rfl) (fun h => absurd ((rfl : false = _).symm.trans h) (by decide)) (fun _ => ?_)
   refine wp_skip ?_
   refine wp_seq ?_
   refine wsr ?_
   refine seq_val (I 1) r (fun R => y_assign r rfl) rfl fun fr r => ?_
   refine wn ?_
   refine wp_loopG (X := Bool × Int) (G := Unit) (x0 := (false, 1)) (fun x γ => [(0, (.agg (seatC a0).toArray)), (1, (U a1)), (2, (I a2)), (3, (.pointer (some ⟨b1, 0, none⟩))), (22, (.bool x10)), (7, (.pointer (some ⟨mg19.mb, 0, none⟩))), (27, (.bool false)), (6, (.bool x.1)), (8, (I x.2))]) (fun x γ w => Post No [cellC b1 ((seatC a0)).toArray 29, memK mg19 x17] w0 w) () r (hs_cons rfl (hs_cons rfl (hs_cons rfl (hs_cons rfl (hs_cons rfl (hs_cons rfl (hs_cons rfl (hs_cons rfl (hs_cons rfl hs_nil))))))))) hP hD ?_ ?_
   ·
    rintro x21 γ22 fr w24 g y23 RPy23 nxy23 bky23 rty23 r hP hD
    have hP : Post No [cellC b1 ((seatC a0)).toArray 29, memK mg19 x17] w0 w24 := hP
    refine wp_seq ?_
    refine wsr ?_
    refine seq_val (I x21.2) r (fun R => y_move r rfl) rfl fun fr r => ?_
    refine seq_val _ r (fun R => y_bin r rfl rfl rfl rfl) rfl fun fr r => ?_
    refine wn ?_
    refine wp_cond_split (t := (decide (x21.2 ≤ 5))) (r.ev rfl) (fun h25 => ?_) (fun h25 => ?_)
    ·
     have hD := (cond_t h25).symm.trans hD
     refine wp_skip ?_
     refine wp_seq ?_
     refine wp_block ?_
     refine wsr ?_
     refine seq_val (I x21.2) r (fun R => y_move r rfl) rfl fun fr r => ?_
     refine seq_val (U a1) r (fun R => y_move r rfl) rfl fun fr r => ?_
     refine seq_val (I a2) r (fun R => y_move r rfl) rfl fun fr r => ?_
     refine seq_val (.agg (opRC (⟨x21.2, 0, a2, a1, 1, 2⟩ : OpR)).toArray) r (fun R => y_build r (by kernel_rfl)) rfl fun fr r => ?_
     refine seq_new (.cells ((opRC (⟨0, 0, 0, 0, 0, 0⟩ : OpR))).toArray 61 (0, 0)) r (fun R => y_alloc tz61) rfl fun fr b26 w27 n28 r => ?_
     have hP : Post No [cellC b1 ((seatC a0)).toArray 29, memK mg19 x17, cellC b26 ((opRC (⟨0, 0, 0, 0, 0, 0⟩ : OpR))).toArray 61] w0 w27 := hP.new n28
     refine seq_upd (.cells ((opRC (⟨x21.2, 0, a2, a1, 1, 2⟩ : OpR))).toArray 61 (0, 0)) r (fun R => y_store r (o := 0) (v := (.agg (opRC (⟨x21.2, 0, a2, a1, 1, 2⟩ : OpR)).toArray)) rfl rfl (hP.cell (i := 2) rfl) ts61 (Nat.le_of_ble_eq_true rfl) rfl rfl) rfl fun fr w30 u31 r => ?_
     have hP : Post No [cellC b1 ((seatC a0)).toArray 29, memK mg19 x17, cellC b26 ((opRC (⟨x21.2, 0, a2, a1, 1, 2⟩ : OpR))).toArray 61] w0 w30 := hP.upd (i := 2) rfl u31
     refine wn ?_
     refine wsr ?_
     refine seq_val (I 0) r (fun R => y_assign r rfl) rfl fun fr r => ?_
     refine wn ?_
     refine wp_seq ?_
     refine wp_seq ?_
     refine wp_joinG (N := 118) (Y := Bool) (G := Unit) (fun x γ => [(0, (.agg (seatC a0).toArray)), (1, (U a1)), (2, (I a2)), (3, (.pointer (some ⟨b1, 0, none⟩))), (22, (.bool x10)), (7, (.pointer (some ⟨mg19.mb, 0, none⟩))), (27, (.bool false)), (6, (.bool x21.1)), (8, (I x21.2)), (29, (.bool (decide (x21.2 ≤ 5)))), (9, (.pointer (some ⟨b26, 0, none⟩))), (10, (I 0)), (50, (.bool x))]) (fun x γ w => Post No [cellC b1 ((seatC a0)).toArray 29, memK mg19 x17, cellC b26 ((opRC (⟨x21.2, 0, a2, a1, 1, 2⟩ : OpR))).toArray 61] w0 w) hD ?_ ?_
     ·
      rintro y32 RPy32 nxy32 hD
      refine wp_region_lit ?_
      refine seq_val (.agg (seatC a0).toArray) r (fun R => y_load_agg r (cs := (seatC a0)) (n := 8) rfl (hP.cell (i := 0) rfl) ta29 rfl) rfl fun fr r => ?_
      refine seq_call r (c_check_Seat_Formed w30 a0) (fun R hc => y_call r rfl cl41 hc) rfl ?_
      rintro _ w33 ⟨rfl, hb⟩
      refine ⟨_, rfl, fun fr r => ?_⟩
      have hP : Post No [cellC b1 ((seatC a0)).toArray 29, memK mg19 x17, cellC b26 ((opRC (⟨x21.2, 0, a2, a1, 1, 2⟩ : OpR))).toArray 61] w0 w33 := hP.below hb
      refine seq_val (.bool (!(D.check_Seat_Formed a0))) r (fun R => y_un r (u := (.bool (D.check_Seat_Formed a0))) rfl rfl) rfl fun fr r => ?_
      refine seq_val (.bool (!(D.check_Seat_Formed a0))) r (fun R => y_move r rfl) rfl fun fr r => ?_
      refine seq_split (!(D.check_Seat_Formed a0)) (fun h34 => ?_) (fun h34 => ?_)
      ·
       have hD := (cond_t h34).symm.trans hD
       refine s0 r h34 fun fr r => ?_
       refine s0 r h34 fun fr r => ?_
       refine s0 r h34 fun fr r => ?_
       refine seq_skip r rfl rfl rfl (v := undef) rfl (by simp [boolOf, undef]) fun fr r => ?_
       refine seq_skip r rfl rfl rfl (v := undef) rfl (by simp [boolOf, undef]) fun fr r => ?_
       refine seq_skip r rfl rfl rfl (v := undef) rfl (by simp [boolOf, undef]) fun fr r => ?_
       refine seq_skip r rfl rfl rfl (v := undef) rfl (by simp [boolOf, undef]) fun fr r => ?_
       refine seq_skip r rfl rfl rfl (v := undef) rfl (by simp [boolOf, undef]) fun fr r => ?_
       refine seq_skip r rfl rfl rfl (v := undef) rfl (by simp [boolOf, undef]) fun fr r => ?_
       refine s0 r h34 fun fr r => ?_
       refine seq_val (.bool true) r (fun R => y_pick r (b := true) (congrArg Value.bool h34) rfl) rfl fun fr r => ?_
       refine wn ?_
       exact nxy32 true () _ _ _ hD r (hs_cons rfl (hs_cons rfl (hs_cons rfl (hs_cons rfl (hs_cons rfl (hs_cons rfl (hs_cons rfl (hs_cons rfl (hs_cons rfl (hs_cons rfl (hs_cons rfl (hs_cons rfl (hs_cons rfl hs_nil))))))))))))) (hP.pick [0, 1, 2] rfl rfl)
      ·
       have hD := (cond_f h34).symm.trans hD
       refine s1 r h34 ?_
       refine seq_val (I x21.2) r (fun R => y_move r rfl) rfl fun fr r => ?_
       refine s1 r h34 ?_
       refine seq_val _ r (fun R => y_bin r rfl rfl rfl rfl) rfl fun fr r => ?_
       refine s1 r h34 ?_
       refine seq_val (.bool (decide (x21.2 > 2))) r (fun R => y_move r rfl) rfl fun fr r => ?_
       refine seq_split (decide (x21.2 > 2)) (fun h35 => ?_) (fun h35 => ?_)
       ·
        have hD := (cond_t h35).symm.trans hD
        refine s1 r h35 ?_
        refine seq_val (I a2) r (fun R => y_move r rfl) rfl fun fr r => ?_
        refine s1 r h35 ?_
        refine seq_val _ r (fun R => y_bin r rfl rfl rfl rfl) rfl fun fr r => ?_
        refine s1 r h35 ?_
        refine seq_val (.bool (decide (a2 < 0))) r (fun R => y_move r rfl) rfl fun fr r => ?_
        refine seq_split (decide (a2 < 0)) (fun h36 => ?_) (fun h36 => ?_)
        ·
         have hD := (cond_t h36).symm.trans hD
         refine s0 r h36 fun fr r => ?_
         refine s0 r h36 fun fr r => ?_
         refine s1 r h35 ?_
         refine seq_val (.bool true) r (fun R => y_pick r (b := true) (congrArg Value.bool h36) rfl) rfl fun fr r => ?_
         refine s1 r h34 ?_
         refine seq_val (.bool true) r (fun R => y_pick r (b := true) (congrArg Value.bool h35) rfl) rfl fun fr r => ?_
         refine seq_val (.bool true) r (fun R => y_pick r (b := false) (congrArg Value.bool h34) rfl) rfl fun fr r => ?_
         refine wn ?_
         exact nxy32 true () _ _ _ hD r (hs_cons rfl (hs_cons rfl (hs_cons rfl (hs_cons rfl (hs_cons rfl (hs_cons rfl (hs_cons rfl (hs_cons rfl (hs_cons rfl (hs_cons rfl (hs_cons rfl (hs_cons rfl (hs_cons rfl hs_nil))))))))))))) (hP.pick [0, 1, 2] rfl rfl)
        ·
         have hD := (cond_f h36).symm.trans hD
         refine s1 r h36 ?_
         refine seq_val (I a2) r (fun R => y_move r rfl) rfl fun fr r => ?_
         refine s1 r h36 ?_
         refine seq_val _ r (fun R => y_bin r rfl rfl rfl rfl) rfl fun fr r => ?_
         refine s1 r h35 ?_
         refine seq_val (.bool (decide (a2 > 2))) r (fun R => y_pick r (b := false) (congrArg Value.bool h36) rfl) rfl fun fr r => ?_
         refine s1 r h34 ?_
         refine seq_val (.bool (decide (a2 > 2))) r (fun R => y_pick r (b := true) (congrArg Value.bool h35) rfl) rfl fun fr r => ?_
         refine seq_val (.bool (decide (a2 > 2))) r (fun R => y_pick r (b := false) (congrArg Value.bool h34) rfl) rfl fun fr r => ?_
         refine wn ?_
         exact nxy32 (decide (a2 > 2)) () _ _ _ hD r (hs_cons rfl (hs_cons rfl (hs_cons rfl (hs_cons rfl (hs_cons rfl (hs_cons rfl (hs_cons rfl (hs_cons rfl (hs_cons rfl (hs_cons rfl (hs_cons rfl (hs_cons rfl (hs_cons rfl hs_nil))))))))))))) (hP.pick [0, 1, 2] rfl rfl)
       ·
        have hD := (cond_f h35).symm.trans hD
        refine s0 r h35 fun fr r => ?_
        refine s0 r h35 fun fr r => ?_
        refine s0 r h35 fun fr r => ?_
        refine seq_skip r rfl rfl rfl (v := undef) rfl (by simp [boolOf, undef]) fun fr r => ?_
        refine seq_skip r rfl rfl rfl (v := undef) rfl (by simp [boolOf, undef]) fun fr r => ?_
        refine s0 r h35 fun fr r => ?_
        refine s1 r h34 ?_
        refine seq_val (.bool false) r (fun R => y_pick r (b := false) (congrArg Value.bool h35) rfl) rfl fun fr r => ?_
        refine seq_val (.bool false) r (fun R => y_pick r (b := false) (congrArg Value.bool h34) rfl) rfl fun fr r => ?_
        refine wn ?_
        exact nxy32 false () _ _ _ hD r (hs_cons rfl (hs_cons rfl (hs_cons rfl (hs_cons rfl (hs_cons rfl (hs_cons rfl (hs_cons rfl (hs_cons rfl (hs_cons rfl (hs_cons rfl (hs_cons rfl (hs_cons rfl (hs_cons rfl hs_nil))))))))))))) (hP.pick [0, 1, 2] rfl rfl)
     ·
      rintro x37 γ38 fr w39 g r hP hD
      have hP : Post No [cellC b1 ((seatC a0)).toArray 29, memK mg19 x17, cellC b26 ((opRC (⟨x21.2, 0, a2, a1, 1, 2⟩ : OpR))).toArray 61] w0 w39 := hP
      refine wp_joinG (N := 118) (Y := Int) (G := Unit) (fun x γ => [(0, (.agg (seatC a0).toArray)), (1, (U a1)), (2, (I a2)), (3, (.pointer (some ⟨b1, 0, none⟩))), (22, (.bool x10)), (7, (.pointer (some ⟨mg19.mb, 0, none⟩))), (27, (.bool false)), (6, (.bool x21.1)), (8, (I x21.2)), (29, (.bool (decide (x21.2 ≤ 5)))), (9, (.pointer (some ⟨b26, 0, none⟩))), (50, (.bool x37)), (10, (I x))]) (fun x γ w => Post No [cellC b1 ((seatC a0)).toArray 29, memK mg19 x17, cellC b26 ((opRC (⟨x21.2, 0, a2, a1, 1, 2⟩ : OpR))).toArray 61] w0 w) hD ?_ ?_
      ·
       rintro y40 RPy40 nxy40 hD
       refine wp_cond_split (t := x37) (r.ev rfl) (fun h41 => ?_) (fun h41 => ?_)
       ·
        have hD := (cond_t h41).symm.trans hD
        refine wp_region_lit ?_
        refine seq_val (I 1) r (fun R => y_assign r rfl) rfl fun fr r => ?_
        refine wn ?_
        exact nxy40 1 () _ _ _ hD r (hs_cons rfl (hs_cons rfl (hs_cons rfl (hs_cons rfl (hs_cons rfl (hs_cons rfl (hs_cons rfl (hs_cons rfl (hs_cons rfl (hs_cons rfl (hs_cons rfl (hs_cons rfl (hs_cons rfl hs_nil))))))))))))) (hP.pick [0, 1, 2] rfl rfl)
       ·
        have hD := (cond_f h41).symm.trans hD
        refine wsr ?_
        refine seq_val (U a1) r (fun R => y_move r rfl) rfl fun fr r => ?_
        refine seq_val _ r (fun R => y_fieldAddr r (o := 0) rfl fo29_1) rfl fun fr r => ?_
        refine seq_val (I a0.tenant) r (fun R => y_load_one r rfl (hP.cell (i := 0) rfl) to3 rfl) rfl fun fr r => ?_
        refine seq_val _ r (fun R => y_fieldAddr r (o := 0) rfl fo29_0) rfl fun fr r => ?_
        refine seq_val _ r (fun R => y_fieldAddr r (o := 0) rfl fo25_0) rfl fun fr r => ?_
        refine seq_val (I a0.p.nodes) r (fun R => y_load_one r rfl (hP.cell (i := 0) rfl) to3 rfl) rfl fun fr r => ?_
        refine seq_call r (c_cubicleref08_Mine w39 a1 a0.tenant a0.p.nodes) (fun R hc => y_call r rfl cl42 hc) rfl ?_
        rintro _ w42 ⟨rfl, hb⟩
        refine ⟨_, rfl, fun fr r => ?_⟩
        have hP : Post No [cellC b1 ((seatC a0)).toArray 29, memK mg19 x17, cellC b26 ((opRC (⟨x21.2, 0, a2, a1, 1, 2⟩ : OpR))).toArray 61] w0 w42 := hP.below hb
        refine seq_val (.tuple #[(.agg (handleC (D.cubicleref08_Mine a1 a0.tenant a0.p.nodes).1).toArray), (.bool (D.cubicleref08_Mine a1 a0.tenant a0.p.nodes).2)]) r (fun R => y_move r rfl) rfl fun fr r => ?_
        refine seq_val (.agg (handleC (D.cubicleref08_Mine a1 a0.tenant a0.p.nodes).1).toArray) r (fun R => y_extract r (vs := #[(.agg (handleC (D.cubicleref08_Mine a1 a0.tenant a0.p.nodes).1).toArray), (.bool (D.cubicleref08_Mine a1 a0.tenant a0.p.nodes).2)]) rfl rfl) rfl fun fr r => ?_
        refine seq_val (.bool (D.cubicleref08_Mine a1 a0.tenant a0.p.nodes).2) r (fun R => y_extract r (vs := #[(.agg (handleC (D.cubicleref08_Mine a1 a0.tenant a0.p.nodes).1).toArray), (.bool (D.cubicleref08_Mine a1 a0.tenant a0.p.nodes).2)]) rfl rfl) rfl fun fr r => ?_
        refine seq_new (.cells ((handleC (⟨0, 0, 0⟩ : Handle))).toArray 63 (0, 0)) r (fun R => y_alloc tz63) rfl fun fr b43 w44 n45 r => ?_
        have hP : Post No [cellC b1 ((seatC a0)).toArray 29, memK mg19 x17, cellC b26 ((opRC (⟨x21.2, 0, a2, a1, 1, 2⟩ : OpR))).toArray 61, cellC b43 ((handleC (⟨0, 0, 0⟩ : Handle))).toArray 63] w0 w44 := hP.new n45
        refine seq_upd (.cells ((handleC ((D.cubicleref08_Mine a1 a0.tenant a0.p.nodes).1))).toArray 63 (0, 0)) r (fun R => y_store r (o := 0) (v := (.agg (handleC (D.cubicleref08_Mine a1 a0.tenant a0.p.nodes).1).toArray)) rfl rfl (hP.cell (i := 3) rfl) ts63 (Nat.le_of_ble_eq_true rfl) rfl rfl) rfl fun fr w47 u48 r => ?_
        have hP : Post No [cellC b1 ((seatC a0)).toArray 29, memK mg19 x17, cellC b26 ((opRC (⟨x21.2, 0, a2, a1, 1, 2⟩ : OpR))).toArray 61, cellC b43 ((handleC ((D.cubicleref08_Mine a1 a0.tenant a0.p.nodes).1))).toArray 63] w0 w47 := hP.upd (i := 3) rfl u48
        refine seq_val (.bool (D.cubicleref08_Mine a1 a0.tenant a0.p.nodes).2) r (fun R => y_assign r rfl) rfl fun fr r => ?_
        refine wn ?_
        refine wp_seq ?_
        have hP : Post No [cellC b1 ((seatC a0)).toArray 29, memK mg19 x17, cellC b26 ((opRC (⟨x21.2, 0, a2, a1, 1, 2⟩ : OpR))).toArray 61] w0 w47 := hP.pick [0, 1, 2] rfl rfl
        refine wp_joinG (N := 118) (Y := Bool) (G := Unit) (fun x γ => [(0, (.agg (seatC a0).toArray)), (1, (U a1)), (2, (I a2)), (3, (.pointer (some ⟨b1, 0, none⟩))), (22, (.bool x10)), (7, (.pointer (some ⟨mg19.mb, 0, none⟩))), (27, (.bool false)), (6, (.bool x21.1)), (8, (I x21.2)), (29, (.bool (decide (x21.2 ≤ 5)))), (9, (.pointer (some ⟨b26, 0, none⟩))), (10, (I 0)), (50, (.bool x37)), (12, (.bool (D.cubicleref08_Mine a1 a0.tenant a0.p.nodes).2)), (66, (.bool x))]) (fun x γ w => Post No [cellC b1 ((seatC a0)).toArray 29, memK mg19 x17, cellC b26 ((opRC (⟨x21.2, 0, a2, a1, 1, 2⟩ : OpR))).toArray 61] w0 w) hD ?_ ?_
        ·
         rintro y49 RPy49 nxy49 hD
         refine wp_region_lit ?_
         refine seq_val (.bool (D.cubicleref08_Mine a1 a0.tenant a0.p.nodes).2) r (fun R => y_move r rfl) rfl fun fr r => ?_
         refine seq_val (.bool (!((D.cubicleref08_Mine a1 a0.tenant a0.p.nodes).2))) r (fun R => y_un r (u := (.bool (D.cubicleref08_Mine a1 a0.tenant a0.p.nodes).2)) rfl rfl) rfl fun fr r => ?_
         refine seq_val (.bool (!((D.cubicleref08_Mine a1 a0.tenant a0.p.nodes).2))) r (fun R => y_move r rfl) rfl fun fr r => ?_
         refine seq_split (!((D.cubicleref08_Mine a1 a0.tenant a0.p.nodes).2)) (fun h50 => ?_) (fun h50 => ?_)
         ·
          have hD := (cond_t h50).symm.trans hD
          refine s1 r h50 ?_
          refine seq_val (I x21.2) r (fun R => y_move r rfl) rfl fun fr r => ?_
          refine s1 r h50 ?_
          refine seq_val _ r (fun R => y_bin r rfl rfl rfl rfl) rfl fun fr r => ?_
          refine seq_val (.bool (decide (x21.2 > 1))) r (fun R => y_pick r (b := true) (congrArg Value.bool h50) rfl) rfl fun fr r => ?_
          refine wn ?_
          exact nxy49 (decide (x21.2 > 1)) () _ _ _ hD r (hs_cons rfl (hs_cons rfl (hs_cons rfl (hs_cons rfl (hs_cons rfl (hs_cons rfl (hs_cons rfl (hs_cons rfl (hs_cons rfl (hs_cons rfl (hs_cons rfl (hs_cons rfl (hs_cons rfl (hs_cons rfl (hs_cons rfl hs_nil))))))))))))))) (hP.pick [0, 1, 2] rfl rfl)
         ·
          have hD := (cond_f h50).symm.trans hD
          refine s0 r h50 fun fr r => ?_
          refine s0 r h50 fun fr r => ?_
          refine seq_val (.bool false) r (fun R => y_pick r (b := false) (congrArg Value.bool h50) rfl) rfl fun fr r => ?_
          refine wn ?_
          exact nxy49 false () _ _ _ hD r (hs_cons rfl (hs_cons rfl (hs_cons rfl (hs_cons rfl (hs_cons rfl (hs_cons rfl (hs_cons rfl (hs_cons rfl (hs_cons rfl (hs_cons rfl (hs_cons rfl (hs_cons rfl (hs_cons rfl (hs_cons rfl (hs_cons rfl hs_nil))))))))))))))) (hP.pick [0, 1, 2] rfl rfl)
        ·
         rintro x51 γ52 fr w53 g r hP hD
         have hP : Post No [cellC b1 ((seatC a0)).toArray 29, memK mg19 x17, cellC b26 ((opRC (⟨x21.2, 0, a2, a1, 1, 2⟩ : OpR))).toArray 61] w0 w53 := hP
         refine wp_joinG (N := 118) (Y := Int) (G := Unit) (fun x γ => [(0, (.agg (seatC a0).toArray)), (1, (U a1)), (2, (I a2)), (3, (.pointer (some ⟨b1, 0, none⟩))), (22, (.bool x10)), (7, (.pointer (some ⟨mg19.mb, 0, none⟩))), (27, (.bool false)), (6, (.bool x21.1)), (8, (I x21.2)), (29, (.bool (decide (x21.2 ≤ 5)))), (9, (.pointer (some ⟨b26, 0, none⟩))), (50, (.bool x37)), (12, (.bool (D.cubicleref08_Mine a1 a0.tenant a0.p.nodes).2)), (66, (.bool x51)), (10, (I x))]) (fun x γ w => Post No [cellC b1 ((seatC a0)).toArray 29, memK mg19 x17, cellC b26 ((opRC (⟨x21.2, 0, a2, a1, 1, 2⟩ : OpR))).toArray 61] w0 w) hD ?_ ?_
         ·
          rintro y54 RPy54 nxy54 hD
          refine wp_cond_split (t := x51) (r.ev rfl) (fun h55 => ?_) (fun h55 => ?_)
          ·
           have hD := (cond_t h55).symm.trans hD
           refine wp_region_lit ?_
           refine seq_val (I 3) r (fun R => y_assign r rfl) rfl fun fr r => ?_
           refine wn ?_
           exact nxy54 3 () _ _ _ hD r (hs_cons rfl (hs_cons rfl (hs_cons rfl (hs_cons rfl (hs_cons rfl (hs_cons rfl (hs_cons rfl (hs_cons rfl (hs_cons rfl (hs_cons rfl (hs_cons rfl (hs_cons rfl (hs_cons rfl (hs_cons rfl (hs_cons rfl hs_nil))))))))))))))) (hP.pick [0, 1, 2] rfl rfl)
          ·
           have hD := (cond_f h55).symm.trans hD
           refine wp_skip ?_
           exact nxy54 0 () _ _ _ hD r (hs_cons rfl (hs_cons rfl (hs_cons rfl (hs_cons rfl (hs_cons rfl (hs_cons rfl (hs_cons rfl (hs_cons rfl (hs_cons rfl (hs_cons rfl (hs_cons rfl (hs_cons rfl (hs_cons rfl (hs_cons rfl (hs_cons rfl hs_nil))))))))))))))) (hP.pick [0, 1, 2] rfl rfl)
         ·
          rintro x56 γ57 fr w58 g r hP hD
          have hP : Post No [cellC b1 ((seatC a0)).toArray 29, memK mg19 x17, cellC b26 ((opRC (⟨x21.2, 0, a2, a1, 1, 2⟩ : OpR))).toArray 61] w0 w58 := hP
          exact nxy40 x56 () _ _ _ hD r (hs_cons rfl (hs_cons rfl (hs_cons rfl (hs_cons rfl (hs_cons rfl (hs_cons rfl (hs_cons rfl (hs_cons rfl (hs_cons rfl (hs_cons rfl (hs_cons rfl (hs_cons rfl (hs_cons rfl hs_nil))))))))))))) (hP.pick [0, 1, 2] rfl rfl)
      ·
       rintro x59 γ60 fr w61 g r hP hD
       have hP : Post No [cellC b1 ((seatC a0)).toArray 29, memK mg19 x17, cellC b26 ((opRC (⟨x21.2, 0, a2, a1, 1, 2⟩ : OpR))).toArray 61] w0 w61 := hP
       refine wp_seq ?_
       refine wsr ?_
       refine seq_val (I x59) r (fun R => y_move r rfl) rfl fun fr r => ?_
       refine seq_val _ r (fun R => y_bin r rfl rfl rfl rfl) rfl fun fr r => ?_
       refine wn ?_
       refine wp_cond_split (t := (x59 == 0)) (r.ev rfl) (fun h62 => ?_) (fun h62 => ?_)
       ·
        have hD := (cond_t h62).symm.trans hD
        refine wp_exit ?_
        refine wp_region_lit ?_
        refine seq_val (I x21.2) r (fun R => y_move r rfl) rfl fun fr r => ?_
        refine seq_val _ r (fun R => y_bin r rfl rfl rfl rfl) rfl fun fr r => ?_
        refine seq_val (I (W (x21.2 + 1))) r (fun R => y_assign r rfl) rfl fun fr r => ?_
        refine wn ?_
        exact nxy23 (x21.1, (W (x21.2 + 1))) () _ _ _ hD r (hs_cons rfl (hs_cons rfl (hs_cons rfl (hs_cons rfl (hs_cons rfl (hs_cons rfl (hs_cons rfl (hs_cons rfl (hs_cons rfl hs_nil))))))))) (hP.pick [0, 1] rfl rfl)
       ·
        have hD := (cond_f h62).symm.trans hD
        refine wp_skip ?_
        refine wsr ?_
        refine seq_val (.agg (seatC a0).toArray) r (fun R => y_load_agg r (cs := (seatC a0)) (n := 8) rfl (hP.cell (i := 0) rfl) ta29 rfl) rfl fun fr r => ?_
        refine seq_val (.agg (opRC (⟨x21.2, 0, a2, a1, 1, 2⟩ : OpR)).toArray) r (fun R => y_load_agg r (cs := (opRC (⟨x21.2, 0, a2, a1, 1, 2⟩ : OpR))) (n := 6) rfl (hP.cell (i := 2) rfl) ta61 rfl) rfl fun fr r => ?_
        refine seq_call r (c_cubiclelaw13_Made (F := No) (n := fu) (j := fu + 1) (fun _ h => h.elim) (by omega) a0 (⟨x21.2, 0, a2, a1, 1, 2⟩ : OpR)) (fun R hc => y_call r rfl cl43 hc) rfl ?_
        rintro _ w63 ⟨v64, rfl, hb, hr65⟩
        refine ⟨_, rfl, fun fr r => ?_⟩
        have hP : Post No [cellC b1 ((seatC a0)).toArray 29, memK mg19 x17, cellC b26 ((opRC (⟨x21.2, 0, a2, a1, 1, 2⟩ : OpR))).toArray 61, progK Tryz.prog encRes (fu, (D.cubiclelaw13_Made (fu + 1) a0 (⟨x21.2, 0, a2, a1, 1, 2⟩ : OpR))) v64 (rg w61.heap.size w63.heap.size)] w0 w63 := hP.addProg hb hr65
        obtain ⟨x67, hx67, hD⟩ := bindD_elim hD
        refine seq_call r (c_prog_Prog_Res_Over w63 (fu, (D.cubiclelaw13_Made (fu + 1) a0 (⟨x21.2, 0, a2, a1, 1, 2⟩ : OpR))) (hP.prog (i := 3) rfl) (fun b hb => hP.sep.lt (i := 3) rfl (.inr hb)) hx67) (fun R hc => y_call r rfl cl44 hc) rfl ?_
        rintro _ w68 ⟨rfl, hb⟩
        refine ⟨_, rfl, fun fr r => ?_⟩
        have hP : Post No [cellC b1 ((seatC a0)).toArray 29, memK mg19 x17, cellC b26 ((opRC (⟨x21.2, 0, a2, a1, 1, 2⟩ : OpR))).toArray 61, progK Tryz.prog encRes (fu, (D.cubiclelaw13_Made (fu + 1) a0 (⟨x21.2, 0, a2, a1, 1, 2⟩ : OpR))) v64 (rg w61.heap.size w63.heap.size)] w0 w68 := hP.below hb
        refine seq_val (.tuple #[(.agg (resC x67.1).toArray), (.bool x67.2)]) r (fun R => y_move r rfl) rfl fun fr r => ?_
        refine seq_val (.agg (resC x67.1).toArray) r (fun R => y_extract r (vs := #[(.agg (resC x67.1).toArray), (.bool x67.2)]) rfl rfl) rfl fun fr r => ?_
        refine seq_val (.bool x67.2) r (fun R => y_extract r (vs := #[(.agg (resC x67.1).toArray), (.bool x67.2)]) rfl rfl) rfl fun fr r => ?_
        refine seq_new (.cells ((resC (⟨0, 0⟩ : Res))).toArray 32 (0, 0)) r (fun R => y_alloc tz32) rfl fun fr b69 w70 n71 r => ?_
        have hP : Post No [cellC b1 ((seatC a0)).toArray 29, memK mg19 x17, cellC b26 ((opRC (⟨x21.2, 0, a2, a1, 1, 2⟩ : OpR))).toArray 61, progK Tryz.prog encRes (fu, (D.cubiclelaw13_Made (fu + 1) a0 (⟨x21.2, 0, a2, a1, 1, 2⟩ : OpR))) v64 (rg w61.heap.size w63.heap.size), cellC b69 ((resC (⟨0, 0⟩ : Res))).toArray 32] w0 w70 := hP.new n71
        refine seq_upd (.cells ((resC x67.1)).toArray 32 (0, 0)) r (fun R => y_store r (o := 0) (v := (.agg (resC x67.1).toArray)) rfl rfl (hP.cell (i := 4) rfl) ts32 (Nat.le_of_ble_eq_true rfl) rfl rfl) rfl fun fr w73 u74 r => ?_
        have hP : Post No [cellC b1 ((seatC a0)).toArray 29, memK mg19 x17, cellC b26 ((opRC (⟨x21.2, 0, a2, a1, 1, 2⟩ : OpR))).toArray 61, progK Tryz.prog encRes (fu, (D.cubiclelaw13_Made (fu + 1) a0 (⟨x21.2, 0, a2, a1, 1, 2⟩ : OpR))) v64 (rg w61.heap.size w63.heap.size), cellC b69 ((resC x67.1)).toArray 32] w0 w73 := hP.upd (i := 4) rfl u74
        refine seq_val (.bool x67.2) r (fun R => y_assign r rfl) rfl fun fr r => ?_
        refine wn ?_
        refine wp_seq ?_
        have hP : Post No [cellC b1 ((seatC a0)).toArray 29, memK mg19 x17, cellC b26 ((opRC (⟨x21.2, 0, a2, a1, 1, 2⟩ : OpR))).toArray 61, cellC b69 ((resC x67.1)).toArray 32] w0 w73 := hP.pick [0, 1, 2, 4] rfl rfl
        refine wp_joinG (N := 118) (Y := Bool) (G := Unit) (fun x γ => [(0, (.agg (seatC a0).toArray)), (1, (U a1)), (2, (I a2)), (3, (.pointer (some ⟨b1, 0, none⟩))), (22, (.bool x10)), (7, (.pointer (some ⟨mg19.mb, 0, none⟩))), (27, (.bool false)), (6, (.bool x21.1)), (8, (I x21.2)), (29, (.bool (decide (x21.2 ≤ 5)))), (9, (.pointer (some ⟨b26, 0, none⟩))), (50, (.bool x37)), (10, (I x59)), (68, (.bool (x59 == 0))), (13, (.pointer (some ⟨b69, 0, none⟩))), (14, (.bool x67.2)), (83, (.bool x))]) (fun x γ w => Post No [cellC b1 ((seatC a0)).toArray 29, memK mg19 x17, cellC b26 ((opRC (⟨x21.2, 0, a2, a1, 1, 2⟩ : OpR))).toArray 61, cellC b69 ((resC x67.1)).toArray 32] w0 w) hD ?_ ?_
        ·
         rintro y75 RPy75 nxy75 hD
         refine wp_region_lit ?_
         refine seq_val (.bool x67.2) r (fun R => y_move r rfl) rfl fun fr r => ?_
         refine seq_val (.bool (!x67.2)) r (fun R => y_un r (u := (.bool x67.2)) rfl rfl) rfl fun fr r => ?_
         refine seq_val (.bool (!x67.2)) r (fun R => y_move r rfl) rfl fun fr r => ?_
         refine seq_split (!x67.2) (fun h76 => ?_) (fun h76 => ?_)
         ·
          have hD := (cond_t h76).symm.trans hD
          refine s0 r h76 fun fr r => ?_
          refine s0 r h76 fun fr r => ?_
          refine s0 r h76 fun fr r => ?_
          refine s0 r h76 fun fr r => ?_
          refine seq_val (.bool true) r (fun R => y_pick r (b := true) (congrArg Value.bool h76) rfl) rfl fun fr r => ?_
          refine wn ?_
          exact nxy75 true () _ _ _ hD r (hs_cons rfl (hs_cons rfl (hs_cons rfl (hs_cons rfl (hs_cons rfl (hs_cons rfl (hs_cons rfl (hs_cons rfl (hs_cons rfl (hs_cons rfl (hs_cons rfl (hs_cons rfl (hs_cons rfl (hs_cons rfl (hs_cons rfl (hs_cons rfl (hs_cons rfl hs_nil))))))))))))))))) (hP.pick [0, 1, 2, 3] rfl rfl)
         ·
          have hD := (cond_f h76).symm.trans hD
          refine s1 r h76 ?_
          refine seq_val (.agg (resC x67.1).toArray) r (fun R => y_load_agg r (cs := (resC x67.1)) (n := 2) rfl (hP.cell (i := 3) rfl) ta32 rfl) rfl fun fr r => ?_
          refine s1 r h76 ?_
          refine seq_val (I x59) r (fun R => y_move r rfl) rfl fun fr r => ?_
          refine s1 r h76 ?_
          refine seq_val (.agg (resC (⟨x59, 0⟩ : Res)).toArray) r (fun R => y_build r (by kernel_rfl)) rfl fun fr r => ?_
          refine s1 r h76 ?_
          refine seq_val _ r (fun R => y_bin r rfl rfl (run_eqGuard_agg _ _ _ _ _ _ _ eg32) (eqs32 _ _ _).2) rfl fun fr r => ?_
          refine seq_val (.bool (!(x67.1 == (⟨x59, 0⟩ : Res)))) r (fun R => y_pick r (b := false) (congrArg Value.bool h76) rfl) rfl fun fr r => ?_
          refine wn ?_
          exact nxy75 (!(x67.1 == (⟨x59, 0⟩ : Res))) () _ _ _ hD r (hs_cons rfl (hs_cons rfl (hs_cons rfl (hs_cons rfl (hs_cons rfl (hs_cons rfl (hs_cons rfl (hs_cons rfl (hs_cons rfl (hs_cons rfl (hs_cons rfl (hs_cons rfl (hs_cons rfl (hs_cons rfl (hs_cons rfl (hs_cons rfl (hs_cons rfl hs_nil))))))))))))))))) (hP.pick [0, 1, 2, 3] rfl rfl)
        ·
         rintro x77 γ78 fr w79 g r hP hD
         have hP : Post No [cellC b1 ((seatC a0)).toArray 29, memK mg19 x17, cellC b26 ((opRC (⟨x21.2, 0, a2, a1, 1, 2⟩ : OpR))).toArray 61, cellC b69 ((resC x67.1)).toArray 32] w0 w79 := hP
         refine wp_cond_split (t := x77) (r.ev rfl) (fun h80 => ?_) (fun h80 => ?_)
         ·
          have hD := (cond_t h80).symm.trans hD
          refine wsr ?_
          refine seq_val (.bool false) r (fun R => y_assign r rfl) rfl fun fr r => ?_
          refine wn ?_
          refine wp_ret ?_
          refine rty23 false _ _ hD fun hD => ?_
          have hv : false = res := Option.some.inj hD
          try dsimp only [Exit.then, Exit.inBlock]
          refine ret_tmp (fn := Tryz.f7) r (t := 6) rfl (v := (.bool false)) rfl ?_
          subst hv
          exact ⟨rfl, hP.chg.below⟩
         ·
          have hD := (cond_f h80).symm.trans hD
          refine wp_skip ?_
          refine wp_region_lit ?_
          refine seq_val (I x21.2) r (fun R => y_move r rfl) rfl fun fr r => ?_
          refine seq_val _ r (fun R => y_bin r rfl rfl rfl rfl) rfl fun fr r => ?_
          refine seq_val (I (W (x21.2 + 1))) r (fun R => y_assign r rfl) rfl fun fr r => ?_
          refine wn ?_
          exact nxy23 (x21.1, (W (x21.2 + 1))) () _ _ _ hD r (hs_cons rfl (hs_cons rfl (hs_cons rfl (hs_cons rfl (hs_cons rfl (hs_cons rfl (hs_cons rfl (hs_cons rfl (hs_cons rfl hs_nil))))))))) (hP.pick [0, 1] rfl rfl)
    ·
     have hD := (cond_f h25).symm.trans hD
     refine wp_exit ?_
     exact bky23 (x21.1, x21.2) () _ _ _ hD r (hs_cons rfl (hs_cons rfl (hs_cons rfl (hs_cons rfl (hs_cons rfl (hs_cons rfl (hs_cons rfl (hs_cons rfl (hs_cons rfl hs_nil))))))))) (hP.pick [0, 1] rfl rfl)
   ·
    rintro x81 γ82 fr w83 g r hP hD
    have hP : Post No [cellC b1 ((seatC a0)).toArray 29, memK mg19 x17] w0 w83 := hP
    refine wp_seq ?_
    refine wp_joinG (N := 118) (Y := Bool) (G := Unit) (fun x γ => [(0, (.agg (seatC a0).toArray)), (1, (U a1)), (2, (I a2)), (3, (.pointer (some ⟨b1, 0, none⟩))), (22, (.bool x10)), (7, (.pointer (some ⟨mg19.mb, 0, none⟩))), (27, (.bool false)), (8, (I x81.2)), (6, (.bool x))]) (fun x γ w => Post No [cellC b1 ((seatC a0)).toArray 29, memK mg19 x17] w0 w) hD ?_ ?_
    ·
     rintro y84 RPy84 nxy84 hD
     refine seq_split (D.cubicleref06_Formed a0.p) (fun h85 => ?_) (fun h85 => ?_)
     ·
      have hD := (cond_t h85).symm.trans hD
      refine seq_split (decide (a0.tenant ≥ 0)) (fun h86 => ?_) (fun h86 => ?_)
      ·
       have hD := (cond_t h86).symm.trans hD
       refine seq_split (decide (a0.tenant < 64)) (fun h87 => ?_) (fun h87 => ?_)
       ·
        have hD := (cond_t h87).symm.trans hD
        refine seq_split (decide (a0.thread ≥ 0)) (fun h88 => ?_) (fun h88 => ?_)
        ·
         have hD := (cond_t h88).symm.trans hD
         refine seq_split ((D.check_Seat_Formed a0) == (decide (a0.thread < a0.p.threads))) (fun h89 => ?_) (fun h89 => ?_)
         ·
          have hD := (cond_t h89).symm.trans hD
          obtain ⟨x90, hx90, hD⟩ := bindD_elim hD
          refine wp_freeF [.val (.agg (seatC a0).toArray), .val (.bool (D.check_Seat_Formed a0)), .val (.pointer (some ⟨b1, 0, none⟩)), .val (.agg (planC a0.p).toArray), .val (.bool (D.cubicleref06_Formed a0.p)), .val (.bool (D.cubicleref06_Formed a0.p)), .val (.pointer (some ⟨b1, 6, none⟩)), .val (I a0.tenant), .val (.bool (decide (a0.tenant ≥ 0))), .val (.bool (decide (a0.tenant ≥ 0))), .val (.bool (decide (a0.tenant ≥ 0))), .val (.pointer (some ⟨b1, 6, none⟩)), .val (I a0.tenant), .val (.bool (decide (a0.tenant < 64))), .val (.bool (decide (a0.tenant < 64))), .val (.bool (decide (a0.tenant < 64))), .val (.pointer (some ⟨b1, 7, none⟩)), .val (I a0.thread), .val (.bool (decide (a0.thread ≥ 0))), .val (.bool (decide (a0.thread ≥ 0))), .val (.bool (decide (a0.thread ≥ 0))), .val (.pointer (some ⟨b1, 7, none⟩)), .val (I a0.thread), .val (.pointer (some ⟨b1, 0, none⟩)), .val (.pointer (some ⟨b1, 1, none⟩)), .val (I a0.p.threads), .val (.bool (decide (a0.thread < a0.p.threads))), .val (.bool (decide (a0.thread < a0.p.threads))), .val (.bool ((D.check_Seat_Formed a0) == (decide (a0.thread < a0.p.threads)))), .val (.bool ((D.check_Seat_Formed a0) == (decide (a0.thread < a0.p.threads)))), .val (.pointer (some ⟨mg19.mb, 0, none⟩)), .val (I x90), .val (.bool (x90 == 3)), .val (.bool (x90 == 3)), .val (.bool (x90 == 3))] mixed r (by kernel_rfl) ?_ ?_
          ·
           refine fc r (fun fr1 g w' hb' hd r' => y_load_agg r' (cs := (seatC a0)) (n := 8) rfl ((hP.below (dr hb')).cell (i := 0) rfl) ta29 rfl bz) ?_
           refine fc r (fun fr1 g w' hb' hd r' => y_call r' (args := [(.agg (seatC a0).toArray)]) (lc (hd 0 rfl).1 l0) cl41 ((c_check_Seat_Formed _ a0).mono (by rintro _ w2 ⟨rfl, hb2⟩; exact ⟨_, rfl, hb2, rfl⟩))) ?_
           refine fc r (fun fr1 g w' hb' hd r' => y_fieldAddr r' (b := b1) (o := 0) rfl fo29_0 bz) ?_
           refine fc r (fun fr1 g w' hb' hd r' => y_load_agg r' (cs := (planC a0.p)) (n := 6) (hd 2 rfl).1 ((hP.below (dr hb')).cell (i := 0) rfl) ta25 rfl bz) ?_
           refine fc r (fun fr1 g w' hb' hd r' => y_call r' (args := [(.agg (planC a0.p).toArray)]) (lc (hd 3 rfl).1 l0) cl45 ((c_cubicleref06_Formed _ a0.p).mono (by rintro _ w2 ⟨rfl, hb2⟩; exact ⟨_, rfl, hb2, rfl⟩))) ?_
           refine fc r (fun fr1 g w' hb' hd r' => y_move r' (hd 4 rfl).1 bz) ?_
           refine eachF_want true r rfl rfl rfl (fun g w' hd => Eq.trans (show (g 5).v = .bool (D.cubicleref06_Formed a0.p) from (hd 5 rfl).1) (congrArg Value.bool h85)) (fun fr1 g w' hb' hd r' => ?_) ?_
           · exact y_fieldAddr r' (b := b1) (o := 0) (k := 6) rfl fo29_1 ⟨Below.refl _ _, rfl⟩
           refine eachF_want true r rfl rfl rfl (fun g w' hd => Eq.trans (show (g 5).v = .bool (D.cubicleref06_Formed a0.p) from (hd 5 rfl).1) (congrArg Value.bool h85)) (fun fr1 g w' hb' hd r' => ?_) ?_
           · exact y_load_one r' (v := (I a0.tenant)) (hd 6 rfl).1 ((hP.below (dr hb')).cell (i := 0) rfl) to3 rfl ⟨Below.refl _ _, rfl⟩
           refine eachF_want true r rfl rfl rfl (fun g w' hd => Eq.trans (show (g 5).v = .bool (D.cubicleref06_Formed a0.p) from (hd 5 rfl).1) (congrArg Value.bool h85)) (fun fr1 g w' hb' hd r' => ?_) ?_
           · exact y_bin r' (u := (I a0.tenant)) (u' := (I 0)) (v := (.bool (decide (a0.tenant ≥ 0)))) (hd 7 rfl).1 rfl rfl rfl ⟨Below.refl _ _, rfl⟩
           refine fc r (fun fr1 g w' hb' hd r' => y_pick r' (b := true) (v := (.bool (decide (a0.tenant ≥ 0)))) (Eq.trans (show (g 5).v = .bool (D.cubicleref06_Formed a0.p) from (hd 5 rfl).1) (congrArg Value.bool h85)) (hd 8 rfl).1 bz) ?_
           refine fc r (fun fr1 g w' hb' hd r' => y_move r' (hd 9 rfl).1 bz) ?_
           refine eachF_want true r rfl rfl rfl (fun g w' hd => Eq.trans (show (g 10).v = .bool (decide (a0.tenant ≥ 0)) from (hd 10 rfl).1) (congrArg Value.bool h86)) (fun fr1 g w' hb' hd r' => ?_) ?_
           · exact y_fieldAddr r' (b := b1) (o := 0) (k := 6) rfl fo29_1 ⟨Below.refl _ _, rfl⟩
           refine eachF_want true r rfl rfl rfl (fun g w' hd => Eq.trans (show (g 10).v = .bool (decide (a0.tenant ≥ 0)) from (hd 10 rfl).1) (congrArg Value.bool h86)) (fun fr1 g w' hb' hd r' => ?_) ?_
           · exact y_load_one r' (v := (I a0.tenant)) (hd 11 rfl).1 ((hP.below (dr hb')).cell (i := 0) rfl) to3 rfl ⟨Below.refl _ _, rfl⟩
           refine eachF_want true r rfl rfl rfl (fun g w' hd => Eq.trans (show (g 10).v = .bool (decide (a0.tenant ≥ 0)) from (hd 10 rfl).1) (congrArg Value.bool h86)) (fun fr1 g w' hb' hd r' => ?_) ?_
           · exact y_bin r' (u := (I a0.tenant)) (u' := (I 64)) (v := (.bool (decide (a0.tenant < 64)))) (hd 12 rfl).1 rfl rfl rfl ⟨Below.refl _ _, rfl⟩
           refine fc r (fun fr1 g w' hb' hd r' => y_pick r' (b := true) (v := (.bool (decide (a0.tenant < 64)))) (Eq.trans (show (g 10).v = .bool (decide (a0.tenant ≥ 0)) from (hd 10 rfl).1) (congrArg Value.bool h86)) (hd 13 rfl).1 bz) ?_
           refine fc r (fun fr1 g w' hb' hd r' => y_move r' (hd 14 rfl).1 bz) ?_
           refine eachF_want true r rfl rfl rfl (fun g w' hd => Eq.trans (show (g 15).v = .bool (decide (a0.tenant < 64)) from (hd 15 rfl).1) (congrArg Value.bool h87)) (fun fr1 g w' hb' hd r' => ?_) ?_
           · exact y_fieldAddr r' (b := b1) (o := 0) (k := 7) rfl fo29_2 ⟨Below.refl _ _, rfl⟩
           refine eachF_want true r rfl rfl rfl (fun g w' hd => Eq.trans (show (g 15).v = .bool (decide (a0.tenant < 64)) from (hd 15 rfl).1) (congrArg Value.bool h87)) (fun fr1 g w' hb' hd r' => ?_) ?_
           · exact y_load_one r' (v := (I a0.thread)) (hd 16 rfl).1 ((hP.below (dr hb')).cell (i := 0) rfl) to3 rfl ⟨Below.refl _ _, rfl⟩
           refine eachF_want true r rfl rfl rfl (fun g w' hd => Eq.trans (show (g 15).v = .bool (decide (a0.tenant < 64)) from (hd 15 rfl).1) (congrArg Value.bool h87)) (fun fr1 g w' hb' hd r' => ?_) ?_
           · exact y_bin r' (u := (I a0.thread)) (u' := (I 0)) (v := (.bool (decide (a0.thread ≥ 0)))) (hd 17 rfl).1 rfl rfl rfl ⟨Below.refl _ _, rfl⟩
           refine fc r (fun fr1 g w' hb' hd r' => y_pick r' (b := true) (v := (.bool (decide (a0.thread ≥ 0)))) (Eq.trans (show (g 15).v = .bool (decide (a0.tenant < 64)) from (hd 15 rfl).1) (congrArg Value.bool h87)) (hd 18 rfl).1 bz) ?_
           refine fc r (fun fr1 g w' hb' hd r' => y_move r' (hd 19 rfl).1 bz) ?_
           refine eachF_want true r rfl rfl rfl (fun g w' hd => Eq.trans (show (g 20).v = .bool (decide (a0.thread ≥ 0)) from (hd 20 rfl).1) (congrArg Value.bool h88)) (fun fr1 g w' hb' hd r' => ?_) ?_
           · exact y_fieldAddr r' (b := b1) (o := 0) (k := 7) rfl fo29_2 ⟨Below.refl _ _, rfl⟩
           refine eachF_want true r rfl rfl rfl (fun g w' hd => Eq.trans (show (g 20).v = .bool (decide (a0.thread ≥ 0)) from (hd 20 rfl).1) (congrArg Value.bool h88)) (fun fr1 g w' hb' hd r' => ?_) ?_
           · exact y_load_one r' (v := (I a0.thread)) (hd 21 rfl).1 ((hP.below (dr hb')).cell (i := 0) rfl) to3 rfl ⟨Below.refl _ _, rfl⟩
           refine eachF_want true r rfl rfl rfl (fun g w' hd => Eq.trans (show (g 20).v = .bool (decide (a0.thread ≥ 0)) from (hd 20 rfl).1) (congrArg Value.bool h88)) (fun fr1 g w' hb' hd r' => ?_) ?_
           · exact y_fieldAddr r' (b := b1) (o := 0) (k := 0) rfl fo29_0 ⟨Below.refl _ _, rfl⟩
           refine eachF_want true r rfl rfl rfl (fun g w' hd => Eq.trans (show (g 20).v = .bool (decide (a0.thread ≥ 0)) from (hd 20 rfl).1) (congrArg Value.bool h88)) (fun fr1 g w' hb' hd r' => ?_) ?_
           · exact y_fieldAddr r' (b := b1) (o := 0) (k := 1) (hd 23 rfl).1 fo25_1 ⟨Below.refl _ _, rfl⟩
           refine eachF_want true r rfl rfl rfl (fun g w' hd => Eq.trans (show (g 20).v = .bool (decide (a0.thread ≥ 0)) from (hd 20 rfl).1) (congrArg Value.bool h88)) (fun fr1 g w' hb' hd r' => ?_) ?_
           · exact y_load_one r' (v := (I a0.p.threads)) (hd 24 rfl).1 ((hP.below (dr hb')).cell (i := 0) rfl) to3 rfl ⟨Below.refl _ _, rfl⟩
           refine eachF_want true r rfl rfl rfl (fun g w' hd => Eq.trans (show (g 20).v = .bool (decide (a0.thread ≥ 0)) from (hd 20 rfl).1) (congrArg Value.bool h88)) (fun fr1 g w' hb' hd r' => ?_) ?_
           · exact y_bin r' (u := (I a0.thread)) (u' := (I a0.p.threads)) (v := (.bool (decide (a0.thread < a0.p.threads)))) (hd 22 rfl).1 (hd 25 rfl).1 rfl rfl ⟨Below.refl _ _, rfl⟩
           refine fc r (fun fr1 g w' hb' hd r' => y_pick r' (b := true) (v := (.bool (decide (a0.thread < a0.p.threads)))) (Eq.trans (show (g 20).v = .bool (decide (a0.thread ≥ 0)) from (hd 20 rfl).1) (congrArg Value.bool h88)) (hd 26 rfl).1 bz) ?_
           refine fc r (fun fr1 g w' hb' hd r' => y_bin r' (hd 1 rfl).1 (hd 27 rfl).1 rfl rfl bz) ?_
           refine fc r (fun fr1 g w' hb' hd r' => y_move r' (hd 28 rfl).1 bz) ?_
           refine eachF_want true r rfl rfl rfl (fun g w' hd => Eq.trans (show (g 29).v = .bool ((D.check_Seat_Formed a0) == (decide (a0.thread < a0.p.threads))) from (hd 29 rfl).1) (congrArg Value.bool h89)) (fun fr1 g w' hb' hd r' => ?_) ?_
           · exact y_move r' (v := (.pointer (some ⟨mg19.mb, 0, none⟩))) rfl ⟨Below.refl _ _, rfl⟩
           refine eachF_want true r rfl rfl rfl (fun g w' hd => Eq.trans (show (g 29).v = .bool ((D.check_Seat_Formed a0) == (decide (a0.thread < a0.p.threads))) from (hd 29 rfl).1) (congrArg Value.bool h89)) (fun fr1 g w' hb' hd r' => ?_) ?_
           · exact y_call r' (args := [(.pointer (some ⟨mg19.mb, 0, none⟩))]) (lc (hd 30 rfl).1 l0) cl46 ((c_mem_Memory_Count _ x17 ((hP.below (dr hb')).mem (i := 1) rfl) hx90).mono (by rintro _ w2 ⟨rfl, hb2⟩; exact ⟨_, rfl, hb2, rfl⟩))
           refine eachF_want true r rfl rfl rfl (fun g w' hd => Eq.trans (show (g 29).v = .bool ((D.check_Seat_Formed a0) == (decide (a0.thread < a0.p.threads))) from (hd 29 rfl).1) (congrArg Value.bool h89)) (fun fr1 g w' hb' hd r' => ?_) ?_
           · exact y_bin r' (u := (I x90)) (u' := (I 3)) (v := (.bool (x90 == 3))) (hd 31 rfl).1 rfl rfl rfl ⟨Below.refl _ _, rfl⟩
           refine fc r (fun fr1 g w' hb' hd r' => y_pick r' (b := true) (v := (.bool (x90 == 3))) (Eq.trans (show (g 29).v = .bool ((D.check_Seat_Formed a0) == (decide (a0.thread < a0.p.threads))) from (hd 29 rfl).1) (congrArg Value.bool h89)) (hd 32 rfl).1 bz) ?_
           refine fc r (fun fr1 g w' hb' hd r' => y_assign r' (hd 33 rfl).1 bz) ?_
           exact eachF_nil
          ·
           intro fr gg w91 hb hΦ hap r
           have r := r.congr (sc ((hΦ 34 rfl).1) (sc ((hΦ 33 rfl).1) (sc ((hΦ 32 rfl).1) (sc ((hΦ 31 rfl).1) (sc ((hΦ 30 rfl).1) (sc ((hΦ 29 rfl).1) (sc ((hΦ 28 rfl).1) (sc ((hΦ 27 rfl).1) (sc ((hΦ 26 rfl).1) (sc ((hΦ 25 rfl).1) (sc ((hΦ 24 rfl).1) (sc ((hΦ 23 rfl).1) (sc ((hΦ 22 rfl).1) (sc ((hΦ 21 rfl).1) (sc ((hΦ 20 rfl).1) (sc ((hΦ 19 rfl).1) (sc ((hΦ 18 rfl).1) (sc ((hΦ 17 rfl).1) (sc ((hΦ 16 rfl).1) (sc ((hΦ 15 rfl).1) (sc ((hΦ 14 rfl).1) (sc ((hΦ 13 rfl).1) (sc ((hΦ 12 rfl).1) (sc ((hΦ 11 rfl).1) (sc ((hΦ 10 rfl).1) (sc ((hΦ 9 rfl).1) (sc ((hΦ 8 rfl).1) (sc ((hΦ 7 rfl).1) (sc ((hΦ 6 rfl).1) (sc ((hΦ 5 rfl).1) (sc ((hΦ 4 rfl).1) (sc ((hΦ 3 rfl).1) (sc ((hΦ 2 rfl).1) (sc ((hΦ 1 rfl).1) (sc ((hΦ 0 rfl).1) rfl)))))))))))))))))))))))))))))))))))
           have hP : Post No [cellC b1 ((seatC a0)).toArray 29, memK mg19 x17] w0 w91 := hP.below hb
           exact nxy84 (x90 == 3) () _ _ _ hD r (hs_cons rfl (hs_cons rfl (hs_cons rfl (hs_cons rfl (hs_cons rfl (hs_cons rfl (hs_cons rfl (hs_cons rfl (hs_cons rfl hs_nil))))))))) (hP.pick [0, 1] rfl rfl)
         ·
          have hD := (cond_f h89).symm.trans hD
          refine wp_freeF [.val (.agg (seatC a0).toArray), .val (.bool (D.check_Seat_Formed a0)), .val (.pointer (some ⟨b1, 0, none⟩)), .val (.agg (planC a0.p).toArray), .val (.bool (D.cubicleref06_Formed a0.p)), .val (.bool (D.cubicleref06_Formed a0.p)), .val (.pointer (some ⟨b1, 6, none⟩)), .val (I a0.tenant), .val (.bool (decide (a0.tenant ≥ 0))), .val (.bool (decide (a0.tenant ≥ 0))), .val (.bool (decide (a0.tenant ≥ 0))), .val (.pointer (some ⟨b1, 6, none⟩)), .val (I a0.tenant), .val (.bool (decide (a0.tenant < 64))), .val (.bool (decide (a0.tenant < 64))), .val (.bool (decide (a0.tenant < 64))), .val (.pointer (some ⟨b1, 7, none⟩)), .val (I a0.thread), .val (.bool (decide (a0.thread ≥ 0))), .val (.bool (decide (a0.thread ≥ 0))), .val (.bool (decide (a0.thread ≥ 0))), .val (.pointer (some ⟨b1, 7, none⟩)), .val (I a0.thread), .val (.pointer (some ⟨b1, 0, none⟩)), .val (.pointer (some ⟨b1, 1, none⟩)), .val (I a0.p.threads), .val (.bool (decide (a0.thread < a0.p.threads))), .val (.bool (decide (a0.thread < a0.p.threads))), .val (.bool ((D.check_Seat_Formed a0) == (decide (a0.thread < a0.p.threads)))), .val (.bool ((D.check_Seat_Formed a0) == (decide (a0.thread < a0.p.threads)))), .val undef, .val undef, .val undef, .val (.bool false), .val (.bool false)] mixed r (by kernel_rfl) ?_ ?_
          ·
           refine fc r (fun fr1 g w' hb' hd r' => y_load_agg r' (cs := (seatC a0)) (n := 8) rfl ((hP.below (dr hb')).cell (i := 0) rfl) ta29 rfl bz) ?_
           refine fc r (fun fr1 g w' hb' hd r' => y_call r' (args := [(.agg (seatC a0).toArray)]) (lc (hd 0 rfl).1 l0) cl41 ((c_check_Seat_Formed _ a0).mono (by rintro _ w2 ⟨rfl, hb2⟩; exact ⟨_, rfl, hb2, rfl⟩))) ?_
           refine fc r (fun fr1 g w' hb' hd r' => y_fieldAddr r' (b := b1) (o := 0) rfl fo29_0 bz) ?_
           refine fc r (fun fr1 g w' hb' hd r' => y_load_agg r' (cs := (planC a0.p)) (n := 6) (hd 2 rfl).1 ((hP.below (dr hb')).cell (i := 0) rfl) ta25 rfl bz) ?_
           refine fc r (fun fr1 g w' hb' hd r' => y_call r' (args := [(.agg (planC a0.p).toArray)]) (lc (hd 3 rfl).1 l0) cl45 ((c_cubicleref06_Formed _ a0.p).mono (by rintro _ w2 ⟨rfl, hb2⟩; exact ⟨_, rfl, hb2, rfl⟩))) ?_
           refine fc r (fun fr1 g w' hb' hd r' => y_move r' (hd 4 rfl).1 bz) ?_
           refine eachF_want true r rfl rfl rfl (fun g w' hd => Eq.trans (show (g 5).v = .bool (D.cubicleref06_Formed a0.p) from (hd 5 rfl).1) (congrArg Value.bool h85)) (fun fr1 g w' hb' hd r' => ?_) ?_
           · exact y_fieldAddr r' (b := b1) (o := 0) (k := 6) rfl fo29_1 ⟨Below.refl _ _, rfl⟩
           refine eachF_want true r rfl rfl rfl (fun g w' hd => Eq.trans (show (g 5).v = .bool (D.cubicleref06_Formed a0.p) from (hd 5 rfl).1) (congrArg Value.bool h85)) (fun fr1 g w' hb' hd r' => ?_) ?_
           · exact y_load_one r' (v := (I a0.tenant)) (hd 6 rfl).1 ((hP.below (dr hb')).cell (i := 0) rfl) to3 rfl ⟨Below.refl _ _, rfl⟩
           refine eachF_want true r rfl rfl rfl (fun g w' hd => Eq.trans (show (g 5).v = .bool (D.cubicleref06_Formed a0.p) from (hd 5 rfl).1) (congrArg Value.bool h85)) (fun fr1 g w' hb' hd r' => ?_) ?_
           · exact y_bin r' (u := (I a0.tenant)) (u' := (I 0)) (v := (.bool (decide (a0.tenant ≥ 0)))) (hd 7 rfl).1 rfl rfl rfl ⟨Below.refl _ _, rfl⟩
           refine fc r (fun fr1 g w' hb' hd r' => y_pick r' (b := true) (v := (.bool (decide (a0.tenant ≥ 0)))) (Eq.trans (show (g 5).v = .bool (D.cubicleref06_Formed a0.p) from (hd 5 rfl).1) (congrArg Value.bool h85)) (hd 8 rfl).1 bz) ?_
           refine fc r (fun fr1 g w' hb' hd r' => y_move r' (hd 9 rfl).1 bz) ?_
           refine eachF_want true r rfl rfl rfl (fun g w' hd => Eq.trans (show (g 10).v = .bool (decide (a0.tenant ≥ 0)) from (hd 10 rfl).1) (congrArg Value.bool h86)) (fun fr1 g w' hb' hd r' => ?_) ?_
           · exact y_fieldAddr r' (b := b1) (o := 0) (k := 6) rfl fo29_1 ⟨Below.refl _ _, rfl⟩
           refine eachF_want true r rfl rfl rfl (fun g w' hd => Eq.trans (show (g 10).v = .bool (decide (a0.tenant ≥ 0)) from (hd 10 rfl).1) (congrArg Value.bool h86)) (fun fr1 g w' hb' hd r' => ?_) ?_
           · exact y_load_one r' (v := (I a0.tenant)) (hd 11 rfl).1 ((hP.below (dr hb')).cell (i := 0) rfl) to3 rfl ⟨Below.refl _ _, rfl⟩
           refine eachF_want true r rfl rfl rfl (fun g w' hd => Eq.trans (show (g 10).v = .bool (decide (a0.tenant ≥ 0)) from (hd 10 rfl).1) (congrArg Value.bool h86)) (fun fr1 g w' hb' hd r' => ?_) ?_
           · exact y_bin r' (u := (I a0.tenant)) (u' := (I 64)) (v := (.bool (decide (a0.tenant < 64)))) (hd 12 rfl).1 rfl rfl rfl ⟨Below.refl _ _, rfl⟩
           refine fc r (fun fr1 g w' hb' hd r' => y_pick r' (b := true) (v := (.bool (decide (a0.tenant < 64)))) (Eq.trans (show (g 10).v = .bool (decide (a0.tenant ≥ 0)) from (hd 10 rfl).1) (congrArg Value.bool h86)) (hd 13 rfl).1 bz) ?_
           refine fc r (fun fr1 g w' hb' hd r' => y_move r' (hd 14 rfl).1 bz) ?_
           refine eachF_want true r rfl rfl rfl (fun g w' hd => Eq.trans (show (g 15).v = .bool (decide (a0.tenant < 64)) from (hd 15 rfl).1) (congrArg Value.bool h87)) (fun fr1 g w' hb' hd r' => ?_) ?_
           · exact y_fieldAddr r' (b := b1) (o := 0) (k := 7) rfl fo29_2 ⟨Below.refl _ _, rfl⟩
           refine eachF_want true r rfl rfl rfl (fun g w' hd => Eq.trans (show (g 15).v = .bool (decide (a0.tenant < 64)) from (hd 15 rfl).1) (congrArg Value.bool h87)) (fun fr1 g w' hb' hd r' => ?_) ?_
           · exact y_load_one r' (v := (I a0.thread)) (hd 16 rfl).1 ((hP.below (dr hb')).cell (i := 0) rfl) to3 rfl ⟨Below.refl _ _, rfl⟩
           refine eachF_want true r rfl rfl rfl (fun g w' hd => Eq.trans (show (g 15).v = .bool (decide (a0.tenant < 64)) from (hd 15 rfl).1) (congrArg Value.bool h87)) (fun fr1 g w' hb' hd r' => ?_) ?_
           · exact y_bin r' (u := (I a0.thread)) (u' := (I 0)) (v := (.bool (decide (a0.thread ≥ 0)))) (hd 17 rfl).1 rfl rfl rfl ⟨Below.refl _ _, rfl⟩
           refine fc r (fun fr1 g w' hb' hd r' => y_pick r' (b := true) (v := (.bool (decide (a0.thread ≥ 0)))) (Eq.trans (show (g 15).v = .bool (decide (a0.tenant < 64)) from (hd 15 rfl).1) (congrArg Value.bool h87)) (hd 18 rfl).1 bz) ?_
           refine fc r (fun fr1 g w' hb' hd r' => y_move r' (hd 19 rfl).1 bz) ?_
           refine eachF_want true r rfl rfl rfl (fun g w' hd => Eq.trans (show (g 20).v = .bool (decide (a0.thread ≥ 0)) from (hd 20 rfl).1) (congrArg Value.bool h88)) (fun fr1 g w' hb' hd r' => ?_) ?_
           · exact y_fieldAddr r' (b := b1) (o := 0) (k := 7) rfl fo29_2 ⟨Below.refl _ _, rfl⟩
           refine eachF_want true r rfl rfl rfl (fun g w' hd => Eq.trans (show (g 20).v = .bool (decide (a0.thread ≥ 0)) from (hd 20 rfl).1) (congrArg Value.bool h88)) (fun fr1 g w' hb' hd r' => ?_) ?_
           · exact y_load_one r' (v := (I a0.thread)) (hd 21 rfl).1 ((hP.below (dr hb')).cell (i := 0) rfl) to3 rfl ⟨Below.refl _ _, rfl⟩
           refine eachF_want true r rfl rfl rfl (fun g w' hd => Eq.trans (show (g 20).v = .bool (decide (a0.thread ≥ 0)) from (hd 20 rfl).1) (congrArg Value.bool h88)) (fun fr1 g w' hb' hd r' => ?_) ?_
           · exact y_fieldAddr r' (b := b1) (o := 0) (k := 0) rfl fo29_0 ⟨Below.refl _ _, rfl⟩
           refine eachF_want true r rfl rfl rfl (fun g w' hd => Eq.trans (show (g 20).v = .bool (decide (a0.thread ≥ 0)) from (hd 20 rfl).1) (congrArg Value.bool h88)) (fun fr1 g w' hb' hd r' => ?_) ?_
           · exact y_fieldAddr r' (b := b1) (o := 0) (k := 1) (hd 23 rfl).1 fo25_1 ⟨Below.refl _ _, rfl⟩
           refine eachF_want true r rfl rfl rfl (fun g w' hd => Eq.trans (show (g 20).v = .bool (decide (a0.thread ≥ 0)) from (hd 20 rfl).1) (congrArg Value.bool h88)) (fun fr1 g w' hb' hd r' => ?_) ?_
           · exact y_load_one r' (v := (I a0.p.threads)) (hd 24 rfl).1 ((hP.below (dr hb')).cell (i := 0) rfl) to3 rfl ⟨Below.refl _ _, rfl⟩
           refine eachF_want true r rfl rfl rfl (fun g w' hd => Eq.trans (show (g 20).v = .bool (decide (a0.thread ≥ 0)) from (hd 20 rfl).1) (congrArg Value.bool h88)) (fun fr1 g w' hb' hd r' => ?_) ?_
           · exact y_bin r' (u := (I a0.thread)) (u' := (I a0.p.threads)) (v := (.bool (decide (a0.thread < a0.p.threads)))) (hd 22 rfl).1 (hd 25 rfl).1 rfl rfl ⟨Below.refl _ _, rfl⟩
           refine fc r (fun fr1 g w' hb' hd r' => y_pick r' (b := true) (v := (.bool (decide (a0.thread < a0.p.threads)))) (Eq.trans (show (g 20).v = .bool (decide (a0.thread ≥ 0)) from (hd 20 rfl).1) (congrArg Value.bool h88)) (hd 26 rfl).1 bz) ?_
           refine fc r (fun fr1 g w' hb' hd r' => y_bin r' (hd 1 rfl).1 (hd 27 rfl).1 rfl rfl bz) ?_
           refine fc r (fun fr1 g w' hb' hd r' => y_move r' (hd 28 rfl).1 bz) ?_
           refine eachF_skip true (.bool false) r rfl rfl rfl (fun g w' hd => Eq.trans (show (g 29).v = .bool ((D.check_Seat_Formed a0) == (decide (a0.thread < a0.p.threads))) from (hd 29 rfl).1) (congrArg Value.bool h89)) (by simp [boolOf]) (fun _ _ => ⟨Below.refl _ _, rfl⟩) ?_
           refine eachF_skip true (.bool false) r rfl rfl rfl (fun g w' hd => Eq.trans (show (g 29).v = .bool ((D.check_Seat_Formed a0) == (decide (a0.thread < a0.p.threads))) from (hd 29 rfl).1) (congrArg Value.bool h89)) (by simp [boolOf]) (fun _ _ => ⟨Below.refl _ _, rfl⟩) ?_
           refine eachF_skip true (.bool false) r rfl rfl rfl (fun g w' hd => Eq.trans (show (g 29).v = .bool ((D.check_Seat_Formed a0) == (decide (a0.thread < a0.p.threads))) from (hd 29 rfl).1) (congrArg Value.bool h89)) (by simp [boolOf]) (fun _ _ => ⟨Below.refl _ _, rfl⟩) ?_
           refine fc r (fun fr1 g w' hb' hd r' => y_pick r' (b := false) (v := (.bool false)) (Eq.trans (show (g 29).v = .bool ((D.check_Seat_Formed a0) == (decide (a0.thread < a0.p.threads))) from (hd 29 rfl).1) (congrArg Value.bool h89)) rfl bz) ?_
           refine fc r (fun fr1 g w' hb' hd r' => y_assign r' (hd 33 rfl).1 bz) ?_
           exact eachF_nil
          ·
           intro fr gg w92 hb hΦ hap r
           have r := r.congr (sc ((hΦ 34 rfl).1) (sc ((hΦ 33 rfl).1) (sc ((hΦ 32 rfl).1) (sc ((hΦ 31 rfl).1) (sc ((hΦ 30 rfl).1) (sc ((hΦ 29 rfl).1) (sc ((hΦ 28 rfl).1) (sc ((hΦ 27 rfl).1) (sc ((hΦ 26 rfl).1) (sc ((hΦ 25 rfl).1) (sc ((hΦ 24 rfl).1) (sc ((hΦ 23 rfl).1) (sc ((hΦ 22 rfl).1) (sc ((hΦ 21 rfl).1) (sc ((hΦ 20 rfl).1) (sc ((hΦ 19 rfl).1) (sc ((hΦ 18 rfl).1) (sc ((hΦ 17 rfl).1) (sc ((hΦ 16 rfl).1) (sc ((hΦ 15 rfl).1) (sc ((hΦ 14 rfl).1) (sc ((hΦ 13 rfl).1) (sc ((hΦ 12 rfl).1) (sc ((hΦ 11 rfl).1) (sc ((hΦ 10 rfl).1) (sc ((hΦ 9 rfl).1) (sc ((hΦ 8 rfl).1) (sc ((hΦ 7 rfl).1) (sc ((hΦ 6 rfl).1) (sc ((hΦ 5 rfl).1) (sc ((hΦ 4 rfl).1) (sc ((hΦ 3 rfl).1) (sc ((hΦ 2 rfl).1) (sc ((hΦ 1 rfl).1) (sc ((hΦ 0 rfl).1) rfl)))))))))))))))))))))))))))))))))))
           have hP : Post No [cellC b1 ((seatC a0)).toArray 29, memK mg19 x17] w0 w92 := hP.below hb
           exact nxy84 false () _ _ _ hD r (hs_cons rfl (hs_cons rfl (hs_cons rfl (hs_cons rfl (hs_cons rfl (hs_cons rfl (hs_cons rfl (hs_cons rfl (hs_cons rfl hs_nil))))))))) (hP.pick [0, 1] rfl rfl)
        ·
         have hD := (cond_f h88).symm.trans hD
         refine seq_split ((D.check_Seat_Formed a0) == false) (fun h93 => ?_) (fun h93 => ?_)
         ·
          have hD := (cond_t h93).symm.trans hD
          obtain ⟨x94, hx94, hD⟩ := bindD_elim hD
          refine wp_freeF [.val (.agg (seatC a0).toArray), .val (.bool (D.check_Seat_Formed a0)), .val (.pointer (some ⟨b1, 0, none⟩)), .val (.agg (planC a0.p).toArray), .val (.bool (D.cubicleref06_Formed a0.p)), .val (.bool (D.cubicleref06_Formed a0.p)), .val (.pointer (some ⟨b1, 6, none⟩)), .val (I a0.tenant), .val (.bool (decide (a0.tenant ≥ 0))), .val (.bool (decide (a0.tenant ≥ 0))), .val (.bool (decide (a0.tenant ≥ 0))), .val (.pointer (some ⟨b1, 6, none⟩)), .val (I a0.tenant), .val (.bool (decide (a0.tenant < 64))), .val (.bool (decide (a0.tenant < 64))), .val (.bool (decide (a0.tenant < 64))), .val (.pointer (some ⟨b1, 7, none⟩)), .val (I a0.thread), .val (.bool (decide (a0.thread ≥ 0))), .val (.bool (decide (a0.thread ≥ 0))), .val (.bool (decide (a0.thread ≥ 0))), .val undef, .val undef, .val undef, .val undef, .val undef, .val undef, .val (.bool false), .val (.bool ((D.check_Seat_Formed a0) == false)), .val (.bool ((D.check_Seat_Formed a0) == false)), .val (.pointer (some ⟨mg19.mb, 0, none⟩)), .val (I x94), .val (.bool (x94 == 3)), .val (.bool (x94 == 3)), .val (.bool (x94 == 3))] mixed r (by kernel_rfl) ?_ ?_
          ·
           refine fc r (fun fr1 g w' hb' hd r' => y_load_agg r' (cs := (seatC a0)) (n := 8) rfl ((hP.below (dr hb')).cell (i := 0) rfl) ta29 rfl bz) ?_
           refine fc r (fun fr1 g w' hb' hd r' => y_call r' (args := [(.agg (seatC a0).toArray)]) (lc (hd 0 rfl).1 l0) cl41 ((c_check_Seat_Formed _ a0).mono (by rintro _ w2 ⟨rfl, hb2⟩; exact ⟨_, rfl, hb2, rfl⟩))) ?_
           refine fc r (fun fr1 g w' hb' hd r' => y_fieldAddr r' (b := b1) (o := 0) rfl fo29_0 bz) ?_
           refine fc r (fun fr1 g w' hb' hd r' => y_load_agg r' (cs := (planC a0.p)) (n := 6) (hd 2 rfl).1 ((hP.below (dr hb')).cell (i := 0) rfl) ta25 rfl bz) ?_
           refine fc r (fun fr1 g w' hb' hd r' => y_call r' (args := [(.agg (planC a0.p).toArray)]) (lc (hd 3 rfl).1 l0) cl45 ((c_cubicleref06_Formed _ a0.p).mono (by rintro _ w2 ⟨rfl, hb2⟩; exact ⟨_, rfl, hb2, rfl⟩))) ?_
           refine fc r (fun fr1 g w' hb' hd r' => y_move r' (hd 4 rfl).1 bz) ?_
           refine eachF_want true r rfl rfl rfl (fun g w' hd => Eq.trans (show (g 5).v = .bool (D.cubicleref06_Formed a0.p) from (hd 5 rfl).1) (congrArg Value.bool h85)) (fun fr1 g w' hb' hd r' => ?_) ?_
           · exact y_fieldAddr r' (b := b1) (o := 0) (k := 6) rfl fo29_1 ⟨Below.refl _ _, rfl⟩
           refine eachF_want true r rfl rfl rfl (fun g w' hd => Eq.trans (show (g 5).v = .bool (D.cubicleref06_Formed a0.p) from (hd 5 rfl).1) (congrArg Value.bool h85)) (fun fr1 g w' hb' hd r' => ?_) ?_
           · exact y_load_one r' (v := (I a0.tenant)) (hd 6 rfl).1 ((hP.below (dr hb')).cell (i := 0) rfl) to3 rfl ⟨Below.refl _ _, rfl⟩
           refine eachF_want true r rfl rfl rfl (fun g w' hd => Eq.trans (show (g 5).v = .bool (D.cubicleref06_Formed a0.p) from (hd 5 rfl).1) (congrArg Value.bool h85)) (fun fr1 g w' hb' hd r' => ?_) ?_
           · exact y_bin r' (u := (I a0.tenant)) (u' := (I 0)) (v := (.bool (decide (a0.tenant ≥ 0)))) (hd 7 rfl).1 rfl rfl rfl ⟨Below.refl _ _, rfl⟩
           refine fc r (fun fr1 g w' hb' hd r' => y_pick r' (b := true) (v := (.bool (decide (a0.tenant ≥ 0)))) (Eq.trans (show (g 5).v = .bool (D.cubicleref06_Formed a0.p) from (hd 5 rfl).1) (congrArg Value.bool h85)) (hd 8 rfl).1 bz) ?_
           refine fc r (fun fr1 g w' hb' hd r' => y_move r' (hd 9 rfl).1 bz) ?_
           refine eachF_want true r rfl rfl rfl (fun g w' hd => Eq.trans (show (g 10).v = .bool (decide (a0.tenant ≥ 0)) from (hd 10 rfl).1) (congrArg Value.bool h86)) (fun fr1 g w' hb' hd r' => ?_) ?_
           · exact y_fieldAddr r' (b := b1) (o := 0) (k := 6) rfl fo29_1 ⟨Below.refl _ _, rfl⟩
           refine eachF_want true r rfl rfl rfl (fun g w' hd => Eq.trans (show (g 10).v = .bool (decide (a0.tenant ≥ 0)) from (hd 10 rfl).1) (congrArg Value.bool h86)) (fun fr1 g w' hb' hd r' => ?_) ?_
           · exact y_load_one r' (v := (I a0.tenant)) (hd 11 rfl).1 ((hP.below (dr hb')).cell (i := 0) rfl) to3 rfl ⟨Below.refl _ _, rfl⟩
           refine eachF_want true r rfl rfl rfl (fun g w' hd => Eq.trans (show (g 10).v = .bool (decide (a0.tenant ≥ 0)) from (hd 10 rfl).1) (congrArg Value.bool h86)) (fun fr1 g w' hb' hd r' => ?_) ?_
           · exact y_bin r' (u := (I a0.tenant)) (u' := (I 64)) (v := (.bool (decide (a0.tenant < 64)))) (hd 12 rfl).1 rfl rfl rfl ⟨Below.refl _ _, rfl⟩
           refine fc r (fun fr1 g w' hb' hd r' => y_pick r' (b := true) (v := (.bool (decide (a0.tenant < 64)))) (Eq.trans (show (g 10).v = .bool (decide (a0.tenant ≥ 0)) from (hd 10 rfl).1) (congrArg Value.bool h86)) (hd 13 rfl).1 bz) ?_
           refine fc r (fun fr1 g w' hb' hd r' => y_move r' (hd 14 rfl).1 bz) ?_
           refine eachF_want true r rfl rfl rfl (fun g w' hd => Eq.trans (show (g 15).v = .bool (decide (a0.tenant < 64)) from (hd 15 rfl).1) (congrArg Value.bool h87)) (fun fr1 g w' hb' hd r' => ?_) ?_
           · exact y_fieldAddr r' (b := b1) (o := 0) (k := 7) rfl fo29_2 ⟨Below.refl _ _, rfl⟩
           refine eachF_want true r rfl rfl rfl (fun g w' hd => Eq.trans (show (g 15).v = .bool (decide (a0.tenant < 64)) from (hd 15 rfl).1) (congrArg Value.bool h87)) (fun fr1 g w' hb' hd r' => ?_) ?_
           · exact y_load_one r' (v := (I a0.thread)) (hd 16 rfl).1 ((hP.below (dr hb')).cell (i := 0) rfl) to3 rfl ⟨Below.refl _ _, rfl⟩
           refine eachF_want true r rfl rfl rfl (fun g w' hd => Eq.trans (show (g 15).v = .bool (decide (a0.tenant < 64)) from (hd 15 rfl).1) (congrArg Value.bool h87)) (fun fr1 g w' hb' hd r' => ?_) ?_
           · exact y_bin r' (u := (I a0.thread)) (u' := (I 0)) (v := (.bool (decide (a0.thread ≥ 0)))) (hd 17 rfl).1 rfl rfl rfl ⟨Below.refl _ _, rfl⟩
           refine fc r (fun fr1 g w' hb' hd r' => y_pick r' (b := true) (v := (.bool (decide (a0.thread ≥ 0)))) (Eq.trans (show (g 15).v = .bool (decide (a0.tenant < 64)) from (hd 15 rfl).1) (congrArg Value.bool h87)) (hd 18 rfl).1 bz) ?_
           refine fc r (fun fr1 g w' hb' hd r' => y_move r' (hd 19 rfl).1 bz) ?_
           refine eachF_skip true (.bool false) r rfl rfl rfl (fun g w' hd => Eq.trans (show (g 20).v = .bool (decide (a0.thread ≥ 0)) from (hd 20 rfl).1) (congrArg Value.bool h88)) (by simp [boolOf]) (fun _ _ => ⟨Below.refl _ _, rfl⟩) ?_
           refine eachF_skip true (.bool false) r rfl rfl rfl (fun g w' hd => Eq.trans (show (g 20).v = .bool (decide (a0.thread ≥ 0)) from (hd 20 rfl).1) (congrArg Value.bool h88)) (by simp [boolOf]) (fun _ _ => ⟨Below.refl _ _, rfl⟩) ?_
           refine eachF_skip true (.bool false) r rfl rfl rfl (fun g w' hd => Eq.trans (show (g 20).v = .bool (decide (a0.thread ≥ 0)) from (hd 20 rfl).1) (congrArg Value.bool h88)) (by simp [boolOf]) (fun _ _ => ⟨Below.refl _ _, rfl⟩) ?_
           refine eachF_skip true (.bool false) r rfl rfl rfl (fun g w' hd => Eq.trans (show (g 20).v = .bool (decide (a0.thread ≥ 0)) from (hd 20 rfl).1) (congrArg Value.bool h88)) (by simp [boolOf]) (fun _ _ => ⟨Below.refl _ _, rfl⟩) ?_
           refine eachF_skip true (.bool false) r rfl rfl rfl (fun g w' hd => Eq.trans (show (g 20).v = .bool (decide (a0.thread ≥ 0)) from (hd 20 rfl).1) (congrArg Value.bool h88)) (by simp [boolOf]) (fun _ _ => ⟨Below.refl _ _, rfl⟩) ?_
           refine eachF_skip true (.bool false) r rfl rfl rfl (fun g w' hd => Eq.trans (show (g 20).v = .bool (decide (a0.thread ≥ 0)) from (hd 20 rfl).1) (congrArg Value.bool h88)) (by simp [boolOf]) (fun _ _ => ⟨Below.refl _ _, rfl⟩) ?_
           refine fc r (fun fr1 g w' hb' hd r' => y_pick r' (b := false) (v := (.bool false)) (Eq.trans (show (g 20).v = .bool (decide (a0.thread ≥ 0)) from (hd 20 rfl).1) (congrArg Value.bool h88)) rfl bz) ?_
           refine fc r (fun fr1 g w' hb' hd r' => y_bin r' (hd 1 rfl).1 (hd 27 rfl).1 rfl rfl bz) ?_
           refine fc r (fun fr1 g w' hb' hd r' => y_move r' (hd 28 rfl).1 bz) ?_
           refine eachF_want true r rfl rfl rfl (fun g w' hd => Eq.trans (show (g 29).v = .bool ((D.check_Seat_Formed a0) == false) from (hd 29 rfl).1) (congrArg Value.bool h93)) (fun fr1 g w' hb' hd r' => ?_) ?_
           · exact y_move r' (v := (.pointer (some ⟨mg19.mb, 0, none⟩))) rfl ⟨Below.refl _ _, rfl⟩
           refine eachF_want true r rfl rfl rfl (fun g w' hd => Eq.trans (show (g 29).v = .bool ((D.check_Seat_Formed a0) == false) from (hd 29 rfl).1) (congrArg Value.bool h93)) (fun fr1 g w' hb' hd r' => ?_) ?_
           · exact y_call r' (args := [(.pointer (some ⟨mg19.mb, 0, none⟩))]) (lc (hd 30 rfl).1 l0) cl46 ((c_mem_Memory_Count _ x17 ((hP.below (dr hb')).mem (i := 1) rfl) hx94).mono (by rintro _ w2 ⟨rfl, hb2⟩; exact ⟨_, rfl, hb2, rfl⟩))
           refine eachF_want true r rfl rfl rfl (fun g w' hd => Eq.trans (show (g 29).v = .bool ((D.check_Seat_Formed a0) == false) from (hd 29 rfl).1) (congrArg Value.bool h93)) (fun fr1 g w' hb' hd r' => ?_) ?_
           · exact y_bin r' (u := (I x94)) (u' := (I 3)) (v := (.bool (x94 == 3))) (hd 31 rfl).1 rfl rfl rfl ⟨Below.refl _ _, rfl⟩
           refine fc r (fun fr1 g w' hb' hd r' => y_pick r' (b := true) (v := (.bool (x94 == 3))) (Eq.trans (show (g 29).v = .bool ((D.check_Seat_Formed a0) == false) from (hd 29 rfl).1) (congrArg Value.bool h93)) (hd 32 rfl).1 bz) ?_
           refine fc r (fun fr1 g w' hb' hd r' => y_assign r' (hd 33 rfl).1 bz) ?_
           exact eachF_nil
          ·
           intro fr gg w95 hb hΦ hap r
           have r := r.congr (sc ((hΦ 34 rfl).1) (sc ((hΦ 33 rfl).1) (sc ((hΦ 32 rfl).1) (sc ((hΦ 31 rfl).1) (sc ((hΦ 30 rfl).1) (sc ((hΦ 29 rfl).1) (sc ((hΦ 28 rfl).1) (sc ((hΦ 27 rfl).1) (sc ((hΦ 26 rfl).1) (sc ((hΦ 25 rfl).1) (sc ((hΦ 24 rfl).1) (sc ((hΦ 23 rfl).1) (sc ((hΦ 22 rfl).1) (sc ((hΦ 21 rfl).1) (sc ((hΦ 20 rfl).1) (sc ((hΦ 19 rfl).1) (sc ((hΦ 18 rfl).1) (sc ((hΦ 17 rfl).1) (sc ((hΦ 16 rfl).1) (sc ((hΦ 15 rfl).1) (sc ((hΦ 14 rfl).1) (sc ((hΦ 13 rfl).1) (sc ((hΦ 12 rfl).1) (sc ((hΦ 11 rfl).1) (sc ((hΦ 10 rfl).1) (sc ((hΦ 9 rfl).1) (sc ((hΦ 8 rfl).1) (sc ((hΦ 7 rfl).1) (sc ((hΦ 6 rfl).1) (sc ((hΦ 5 rfl).1) (sc ((hΦ 4 rfl).1) (sc ((hΦ 3 rfl).1) (sc ((hΦ 2 rfl).1) (sc ((hΦ 1 rfl).1) (sc ((hΦ 0 rfl).1) rfl)))))))))))))))))))))))))))))))))))
           have hP : Post No [cellC b1 ((seatC a0)).toArray 29, memK mg19 x17] w0 w95 := hP.below hb
           exact nxy84 (x94 == 3) () _ _ _ hD r (hs_cons rfl (hs_cons rfl (hs_cons rfl (hs_cons rfl (hs_cons rfl (hs_cons rfl (hs_cons rfl (hs_cons rfl (hs_cons rfl hs_nil))))))))) (hP.pick [0, 1] rfl rfl)
         ·
          have hD := (cond_f h93).symm.trans hD
          refine wp_freeF [.val (.agg (seatC a0).toArray), .val (.bool (D.check_Seat_Formed a0)), .val (.pointer (some ⟨b1, 0, none⟩)), .val (.agg (planC a0.p).toArray), .val (.bool (D.cubicleref06_Formed a0.p)), .val (.bool (D.cubicleref06_Formed a0.p)), .val (.pointer (some ⟨b1, 6, none⟩)), .val (I a0.tenant), .val (.bool (decide (a0.tenant ≥ 0))), .val (.bool (decide (a0.tenant ≥ 0))), .val (.bool (decide (a0.tenant ≥ 0))), .val (.pointer (some ⟨b1, 6, none⟩)), .val (I a0.tenant), .val (.bool (decide (a0.tenant < 64))), .val (.bool (decide (a0.tenant < 64))), .val (.bool (decide (a0.tenant < 64))), .val (.pointer (some ⟨b1, 7, none⟩)), .val (I a0.thread), .val (.bool (decide (a0.thread ≥ 0))), .val (.bool (decide (a0.thread ≥ 0))), .val (.bool (decide (a0.thread ≥ 0))), .val undef, .val undef, .val undef, .val undef, .val undef, .val undef, .val (.bool false), .val (.bool ((D.check_Seat_Formed a0) == false)), .val (.bool ((D.check_Seat_Formed a0) == false)), .val undef, .val undef, .val undef, .val (.bool false), .val (.bool false)] mixed r (by kernel_rfl) ?_ ?_
          ·
           refine fc r (fun fr1 g w' hb' hd r' => y_load_agg r' (cs := (seatC a0)) (n := 8) rfl ((hP.below (dr hb')).cell (i := 0) rfl) ta29 rfl bz) ?_
           refine fc r (fun fr1 g w' hb' hd r' => y_call r' (args := [(.agg (seatC a0).toArray)]) (lc (hd 0 rfl).1 l0) cl41 ((c_check_Seat_Formed _ a0).mono (by rintro _ w2 ⟨rfl, hb2⟩; exact ⟨_, rfl, hb2, rfl⟩))) ?_
           refine fc r (fun fr1 g w' hb' hd r' => y_fieldAddr r' (b := b1) (o := 0) rfl fo29_0 bz) ?_
           refine fc r (fun fr1 g w' hb' hd r' => y_load_agg r' (cs := (planC a0.p)) (n := 6) (hd 2 rfl).1 ((hP.below (dr hb')).cell (i := 0) rfl) ta25 rfl bz) ?_
           refine fc r (fun fr1 g w' hb' hd r' => y_call r' (args := [(.agg (planC a0.p).toArray)]) (lc (hd 3 rfl).1 l0) cl45 ((c_cubicleref06_Formed _ a0.p).mono (by rintro _ w2 ⟨rfl, hb2⟩; exact ⟨_, rfl, hb2, rfl⟩))) ?_
           refine fc r (fun fr1 g w' hb' hd r' => y_move r' (hd 4 rfl).1 bz) ?_
           refine eachF_want true r rfl rfl rfl (fun g w' hd => Eq.trans (show (g 5).v = .bool (D.cubicleref06_Formed a0.p) from (hd 5 rfl).1) (congrArg Value.bool h85)) (fun fr1 g w' hb' hd r' => ?_) ?_
           · exact y_fieldAddr r' (b := b1) (o := 0) (k := 6) rfl fo29_1 ⟨Below.refl _ _, rfl⟩
           refine eachF_want true r rfl rfl rfl (fun g w' hd => Eq.trans (show (g 5).v = .bool (D.cubicleref06_Formed a0.p) from (hd 5 rfl).1) (congrArg Value.bool h85)) (fun fr1 g w' hb' hd r' => ?_) ?_
           · exact y_load_one r' (v := (I a0.tenant)) (hd 6 rfl).1 ((hP.below (dr hb')).cell (i := 0) rfl) to3 rfl ⟨Below.refl _ _, rfl⟩
           refine eachF_want true r rfl rfl rfl (fun g w' hd => Eq.trans (show (g 5).v = .bool (D.cubicleref06_Formed a0.p) from (hd 5 rfl).1) (congrArg Value.bool h85)) (fun fr1 g w' hb' hd r' => ?_) ?_
           · exact y_bin r' (u := (I a0.tenant)) (u' := (I 0)) (v := (.bool (decide (a0.tenant ≥ 0)))) (hd 7 rfl).1 rfl rfl rfl ⟨Below.refl _ _, rfl⟩
           refine fc r (fun fr1 g w' hb' hd r' => y_pick r' (b := true) (v := (.bool (decide (a0.tenant ≥ 0)))) (Eq.trans (show (g 5).v = .bool (D.cubicleref06_Formed a0.p) from (hd 5 rfl).1) (congrArg Value.bool h85)) (hd 8 rfl).1 bz) ?_
           refine fc r (fun fr1 g w' hb' hd r' => y_move r' (hd 9 rfl).1 bz) ?_
           refine eachF_want true r rfl rfl rfl (fun g w' hd => Eq.trans (show (g 10).v = .bool (decide (a0.tenant ≥ 0)) from (hd 10 rfl).1) (congrArg Value.bool h86)) (fun fr1 g w' hb' hd r' => ?_) ?_
           · exact y_fieldAddr r' (b := b1) (o := 0) (k := 6) rfl fo29_1 ⟨Below.refl _ _, rfl⟩
           refine eachF_want true r rfl rfl rfl (fun g w' hd => Eq.trans (show (g 10).v = .bool (decide (a0.tenant ≥ 0)) from (hd 10 rfl).1) (congrArg Value.bool h86)) (fun fr1 g w' hb' hd r' => ?_) ?_
           · exact y_load_one r' (v := (I a0.tenant)) (hd 11 rfl).1 ((hP.below (dr hb')).cell (i := 0) rfl) to3 rfl ⟨Below.refl _ _, rfl⟩
           refine eachF_want true r rfl rfl rfl (fun g w' hd => Eq.trans (show (g 10).v = .bool (decide (a0.tenant ≥ 0)) from (hd 10 rfl).1) (congrArg Value.bool h86)) (fun fr1 g w' hb' hd r' => ?_) ?_
           · exact y_bin r' (u := (I a0.tenant)) (u' := (I 64)) (v := (.bool (decide (a0.tenant < 64)))) (hd 12 rfl).1 rfl rfl rfl ⟨Below.refl _ _, rfl⟩
           refine fc r (fun fr1 g w' hb' hd r' => y_pick r' (b := true) (v := (.bool (decide (a0.tenant < 64)))) (Eq.trans (show (g 10).v = .bool (decide (a0.tenant ≥ 0)) from (hd 10 rfl).1) (congrArg Value.bool h86)) (hd 13 rfl).1 bz) ?_
           refine fc r (fun fr1 g w' hb' hd r' => y_move r' (hd 14 rfl).1 bz) ?_
           refine eachF_want true r rfl rfl rfl (fun g w' hd => Eq.trans (show (g 15).v = .bool (decide (a0.tenant < 64)) from (hd 15 rfl).1) (congrArg Value.bool h87)) (fun fr1 g w' hb' hd r' => ?_) ?_
           · exact y_fieldAddr r' (b := b1) (o := 0) (k := 7) rfl fo29_2 ⟨Below.refl _ _, rfl⟩
           refine eachF_want true r rfl rfl rfl (fun g w' hd => Eq.trans (show (g 15).v = .bool (decide (a0.tenant < 64)) from (hd 15 rfl).1) (congrArg Value.bool h87)) (fun fr1 g w' hb' hd r' => ?_) ?_
           · exact y_load_one r' (v := (I a0.thread)) (hd 16 rfl).1 ((hP.below (dr hb')).cell (i := 0) rfl) to3 rfl ⟨Below.refl _ _, rfl⟩
           refine eachF_want true r rfl rfl rfl (fun g w' hd => Eq.trans (show (g 15).v = .bool (decide (a0.tenant < 64)) from (hd 15 rfl).1) (congrArg Value.bool h87)) (fun fr1 g w' hb' hd r' => ?_) ?_
           · exact y_bin r' (u := (I a0.thread)) (u' := (I 0)) (v := (.bool (decide (a0.thread ≥ 0)))) (hd 17 rfl).1 rfl rfl rfl ⟨Below.refl _ _, rfl⟩
           refine fc r (fun fr1 g w' hb' hd r' => y_pick r' (b := true) (v := (.bool (decide (a0.thread ≥ 0)))) (Eq.trans (show (g 15).v = .bool (decide (a0.tenant < 64)) from (hd 15 rfl).1) (congrArg Value.bool h87)) (hd 18 rfl).1 bz) ?_
           refine fc r (fun fr1 g w' hb' hd r' => y_move r' (hd 19 rfl).1 bz) ?_
           refine eachF_skip true (.bool false) r rfl rfl rfl (fun g w' hd => Eq.trans (show (g 20).v = .bool (decide (a0.thread ≥ 0)) from (hd 20 rfl).1) (congrArg Value.bool h88)) (by simp [boolOf]) (fun _ _ => ⟨Below.refl _ _, rfl⟩) ?_
           refine eachF_skip true (.bool false) r rfl rfl rfl (fun g w' hd => Eq.trans (show (g 20).v = .bool (decide (a0.thread ≥ 0)) from (hd 20 rfl).1) (congrArg Value.bool h88)) (by simp [boolOf]) (fun _ _ => ⟨Below.refl _ _, rfl⟩) ?_
           refine eachF_skip true (.bool false) r rfl rfl rfl (fun g w' hd => Eq.trans (show (g 20).v = .bool (decide (a0.thread ≥ 0)) from (hd 20 rfl).1) (congrArg Value.bool h88)) (by simp [boolOf]) (fun _ _ => ⟨Below.refl _ _, rfl⟩) ?_
           refine eachF_skip true (.bool false) r rfl rfl rfl (fun g w' hd => Eq.trans (show (g 20).v = .bool (decide (a0.thread ≥ 0)) from (hd 20 rfl).1) (congrArg Value.bool h88)) (by simp [boolOf]) (fun _ _ => ⟨Below.refl _ _, rfl⟩) ?_
           refine eachF_skip true (.bool false) r rfl rfl rfl (fun g w' hd => Eq.trans (show (g 20).v = .bool (decide (a0.thread ≥ 0)) from (hd 20 rfl).1) (congrArg Value.bool h88)) (by simp [boolOf]) (fun _ _ => ⟨Below.refl _ _, rfl⟩) ?_
           refine eachF_skip true (.bool false) r rfl rfl rfl (fun g w' hd => Eq.trans (show (g 20).v = .bool (decide (a0.thread ≥ 0)) from (hd 20 rfl).1) (congrArg Value.bool h88)) (by simp [boolOf]) (fun _ _ => ⟨Below.refl _ _, rfl⟩) ?_
           refine fc r (fun fr1 g w' hb' hd r' => y_pick r' (b := false) (v := (.bool false)) (Eq.trans (show (g 20).v = .bool (decide (a0.thread ≥ 0)) from (hd 20 rfl).1) (congrArg Value.bool h88)) rfl bz) ?_
           refine fc r (fun fr1 g w' hb' hd r' => y_bin r' (hd 1 rfl).1 (hd 27 rfl).1 rfl rfl bz) ?_
           refine fc r (fun fr1 g w' hb' hd r' => y_move r' (hd 28 rfl).1 bz) ?_
           refine eachF_skip true (.bool false) r rfl rfl rfl (fun g w' hd => Eq.trans (show (g 29).v = .bool ((D.check_Seat_Formed a0) == false) from (hd 29 rfl).1) (congrArg Value.bool h93)) (by simp [boolOf]) (fun _ _ => ⟨Below.refl _ _, rfl⟩) ?_
           refine eachF_skip true (.bool false) r rfl rfl rfl (fun g w' hd => Eq.trans (show (g 29).v = .bool ((D.check_Seat_Formed a0) == false) from (hd 29 rfl).1) (congrArg Value.bool h93)) (by simp [boolOf]) (fun _ _ => ⟨Below.refl _ _, rfl⟩) ?_
           refine eachF_skip true (.bool false) r rfl rfl rfl (fun g w' hd => Eq.trans (show (g 29).v = .bool ((D.check_Seat_Formed a0) == false) from (hd 29 rfl).1) (congrArg Value.bool h93)) (by simp [boolOf]) (fun _ _ => ⟨Below.refl _ _, rfl⟩) ?_
           refine fc r (fun fr1 g w' hb' hd r' => y_pick r' (b := false) (v := (.bool false)) (Eq.trans (show (g 29).v = .bool ((D.check_Seat_Formed a0) == false) from (hd 29 rfl).1) (congrArg Value.bool h93)) rfl bz) ?_
           refine fc r (fun fr1 g w' hb' hd r' => y_assign r' (hd 33 rfl).1 bz) ?_
           exact eachF_nil
          ·
           intro fr gg w96 hb hΦ hap r
           have r := r.congr (sc ((hΦ 34 rfl).1) (sc ((hΦ 33 rfl).1) (sc ((hΦ 32 rfl).1) (sc ((hΦ 31 rfl).1) (sc ((hΦ 30 rfl).1) (sc ((hΦ 29 rfl).1) (sc ((hΦ 28 rfl).1) (sc ((hΦ 27 rfl).1) (sc ((hΦ 26 rfl).1) (sc ((hΦ 25 rfl).1) (sc ((hΦ 24 rfl).1) (sc ((hΦ 23 rfl).1) (sc ((hΦ 22 rfl).1) (sc ((hΦ 21 rfl).1) (sc ((hΦ 20 rfl).1) (sc ((hΦ 19 rfl).1) (sc ((hΦ 18 rfl).1) (sc ((hΦ 17 rfl).1) (sc ((hΦ 16 rfl).1) (sc ((hΦ 15 rfl).1) (sc ((hΦ 14 rfl).1) (sc ((hΦ 13 rfl).1) (sc ((hΦ 12 rfl).1) (sc ((hΦ 11 rfl).1) (sc ((hΦ 10 rfl).1) (sc ((hΦ 9 rfl).1) (sc ((hΦ 8 rfl).1) (sc ((hΦ 7 rfl).1) (sc ((hΦ 6 rfl).1) (sc ((hΦ 5 rfl).1) (sc ((hΦ 4 rfl).1) (sc ((hΦ 3 rfl).1) (sc ((hΦ 2 rfl).1) (sc ((hΦ 1 rfl).1) (sc ((hΦ 0 rfl).1) rfl)))))))))))))))))))))))))))))))))))
           have hP : Post No [cellC b1 ((seatC a0)).toArray 29, memK mg19 x17] w0 w96 := hP.below hb
           exact nxy84 false () _ _ _ hD r (hs_cons rfl (hs_cons rfl (hs_cons rfl (hs_cons rfl (hs_cons rfl (hs_cons rfl (hs_cons rfl (hs_cons rfl (hs_cons rfl hs_nil))))))))) (hP.pick [0, 1] rfl rfl)
       ·
        have hD := (cond_f h87).symm.trans hD
        refine seq_split ((D.check_Seat_Formed a0) == false) (fun h97 => ?_) (fun h97 => ?_)
        ·
         have hD := (cond_t h97).symm.trans hD
         obtain ⟨x98, hx98, hD⟩ := bindD_elim hD
         refine wp_freeF [.val (.agg (seatC a0).toArray), .val (.bool (D.check_Seat_Formed a0)), .val (.pointer (some ⟨b1, 0, none⟩)), .val (.agg (planC a0.p).toArray), .val (.bool (D.cubicleref06_Formed a0.p)), .val (.bool (D.cubicleref06_Formed a0.p)), .val (.pointer (some ⟨b1, 6, none⟩)), .val (I a0.tenant), .val (.bool (decide (a0.tenant ≥ 0))), .val (.bool (decide (a0.tenant ≥ 0))), .val (.bool (decide (a0.tenant ≥ 0))), .val (.pointer (some ⟨b1, 6, none⟩)), .val (I a0.tenant), .val (.bool (decide (a0.tenant < 64))), .val (.bool (decide (a0.tenant < 64))), .val (.bool (decide (a0.tenant < 64))), .val undef, .val undef, .val undef, .val (.bool false), .val (.bool false), .val undef, .val undef, .val undef, .val undef, .val undef, .val undef, .val (.bool false), .val (.bool ((D.check_Seat_Formed a0) == false)), .val (.bool ((D.check_Seat_Formed a0) == false)), .val (.pointer (some ⟨mg19.mb, 0, none⟩)), .val (I x98), .val (.bool (x98 == 3)), .val (.bool (x98 == 3)), .val (.bool (x98 == 3))] mixed r (by kernel_rfl) ?_ ?_
         ·
          refine fc r (fun fr1 g w' hb' hd r' => y_load_agg r' (cs := (seatC a0)) (n := 8) rfl ((hP.below (dr hb')).cell (i := 0) rfl) ta29 rfl bz) ?_
          refine fc r (fun fr1 g w' hb' hd r' => y_call r' (args := [(.agg (seatC a0).toArray)]) (lc (hd 0 rfl).1 l0) cl41 ((c_check_Seat_Formed _ a0).mono (by rintro _ w2 ⟨rfl, hb2⟩; exact ⟨_, rfl, hb2, rfl⟩))) ?_
          refine fc r (fun fr1 g w' hb' hd r' => y_fieldAddr r' (b := b1) (o := 0) rfl fo29_0 bz) ?_
          refine fc r (fun fr1 g w' hb' hd r' => y_load_agg r' (cs := (planC a0.p)) (n := 6) (hd 2 rfl).1 ((hP.below (dr hb')).cell (i := 0) rfl) ta25 rfl bz) ?_
          refine fc r (fun fr1 g w' hb' hd r' => y_call r' (args := [(.agg (planC a0.p).toArray)]) (lc (hd 3 rfl).1 l0) cl45 ((c_cubicleref06_Formed _ a0.p).mono (by rintro _ w2 ⟨rfl, hb2⟩; exact ⟨_, rfl, hb2, rfl⟩))) ?_
          refine fc r (fun fr1 g w' hb' hd r' => y_move r' (hd 4 rfl).1 bz) ?_
          refine eachF_want true r rfl rfl rfl (fun g w' hd => Eq.trans (show (g 5).v = .bool (D.cubicleref06_Formed a0.p) from (hd 5 rfl).1) (congrArg Value.bool h85)) (fun fr1 g w' hb' hd r' => ?_) ?_
          · exact y_fieldAddr r' (b := b1) (o := 0) (k := 6) rfl fo29_1 ⟨Below.refl _ _, rfl⟩
          refine eachF_want true r rfl rfl rfl (fun g w' hd => Eq.trans (show (g 5).v = .bool (D.cubicleref06_Formed a0.p) from (hd 5 rfl).1) (congrArg Value.bool h85)) (fun fr1 g w' hb' hd r' => ?_) ?_
          · exact y_load_one r' (v := (I a0.tenant)) (hd 6 rfl).1 ((hP.below (dr hb')).cell (i := 0) rfl) to3 rfl ⟨Below.refl _ _, rfl⟩
          refine eachF_want true r rfl rfl rfl (fun g w' hd => Eq.trans (show (g 5).v = .bool (D.cubicleref06_Formed a0.p) from (hd 5 rfl).1) (congrArg Value.bool h85)) (fun fr1 g w' hb' hd r' => ?_) ?_
          · exact y_bin r' (u := (I a0.tenant)) (u' := (I 0)) (v := (.bool (decide (a0.tenant ≥ 0)))) (hd 7 rfl).1 rfl rfl rfl ⟨Below.refl _ _, rfl⟩
          refine fc r (fun fr1 g w' hb' hd r' => y_pick r' (b := true) (v := (.bool (decide (a0.tenant ≥ 0)))) (Eq.trans (show (g 5).v = .bool (D.cubicleref06_Formed a0.p) from (hd 5 rfl).1) (congrArg Value.bool h85)) (hd 8 rfl).1 bz) ?_
          refine fc r (fun fr1 g w' hb' hd r' => y_move r' (hd 9 rfl).1 bz) ?_
          refine eachF_want true r rfl rfl rfl (fun g w' hd => Eq.trans (show (g 10).v = .bool (decide (a0.tenant ≥ 0)) from (hd 10 rfl).1) (congrArg Value.bool h86)) (fun fr1 g w' hb' hd r' => ?_) ?_
          · exact y_fieldAddr r' (b := b1) (o := 0) (k := 6) rfl fo29_1 ⟨Below.refl _ _, rfl⟩
          refine eachF_want true r rfl rfl rfl (fun g w' hd => Eq.trans (show (g 10).v = .bool (decide (a0.tenant ≥ 0)) from (hd 10 rfl).1) (congrArg Value.bool h86)) (fun fr1 g w' hb' hd r' => ?_) ?_
          · exact y_load_one r' (v := (I a0.tenant)) (hd 11 rfl).1 ((hP.below (dr hb')).cell (i := 0) rfl) to3 rfl ⟨Below.refl _ _, rfl⟩
          refine eachF_want true r rfl rfl rfl (fun g w' hd => Eq.trans (show (g 10).v = .bool (decide (a0.tenant ≥ 0)) from (hd 10 rfl).1) (congrArg Value.bool h86)) (fun fr1 g w' hb' hd r' => ?_) ?_
          · exact y_bin r' (u := (I a0.tenant)) (u' := (I 64)) (v := (.bool (decide (a0.tenant < 64)))) (hd 12 rfl).1 rfl rfl rfl ⟨Below.refl _ _, rfl⟩
          refine fc r (fun fr1 g w' hb' hd r' => y_pick r' (b := true) (v := (.bool (decide (a0.tenant < 64)))) (Eq.trans (show (g 10).v = .bool (decide (a0.tenant ≥ 0)) from (hd 10 rfl).1) (congrArg Value.bool h86)) (hd 13 rfl).1 bz) ?_
          refine fc r (fun fr1 g w' hb' hd r' => y_move r' (hd 14 rfl).1 bz) ?_
          refine eachF_skip true (.bool false) r rfl rfl rfl (fun g w' hd => Eq.trans (show (g 15).v = .bool (decide (a0.tenant < 64)) from (hd 15 rfl).1) (congrArg Value.bool h87)) (by simp [boolOf]) (fun _ _ => ⟨Below.refl _ _, rfl⟩) ?_
          refine eachF_skip true (.bool false) r rfl rfl rfl (fun g w' hd => Eq.trans (show (g 15).v = .bool (decide (a0.tenant < 64)) from (hd 15 rfl).1) (congrArg Value.bool h87)) (by simp [boolOf]) (fun _ _ => ⟨Below.refl _ _, rfl⟩) ?_
          refine eachF_skip true (.bool false) r rfl rfl rfl (fun g w' hd => Eq.trans (show (g 15).v = .bool (decide (a0.tenant < 64)) from (hd 15 rfl).1) (congrArg Value.bool h87)) (by simp [boolOf]) (fun _ _ => ⟨Below.refl _ _, rfl⟩) ?_
          refine fc r (fun fr1 g w' hb' hd r' => y_pick r' (b := false) (v := (.bool false)) (Eq.trans (show (g 15).v = .bool (decide (a0.tenant < 64)) from (hd 15 rfl).1) (congrArg Value.bool h87)) rfl bz) ?_
          refine fc r (fun fr1 g w' hb' hd r' => y_move r' (hd 19 rfl).1 bz) ?_
          refine eachF_skip true (.bool false) r rfl rfl rfl (fun g w' hd => Eq.trans (show (g 20).v = .bool false from (hd 20 rfl).1) (congrArg Value.bool (rfl : false = _))) (by simp [boolOf]) (fun _ _ => ⟨Below.refl _ _, rfl⟩) ?_
          refine eachF_skip true (.bool false) r rfl rfl rfl (fun g w' hd => Eq.trans (show (g 20).v = .bool false from (hd 20 rfl).1) (congrArg Value.bool (rfl : false = _))) (by simp [boolOf]) (fun _ _ => ⟨Below.refl _ _, rfl⟩) ?_
          refine eachF_skip true (.bool false) r rfl rfl rfl (fun g w' hd => Eq.trans (show (g 20).v = .bool false from (hd 20 rfl).1) (congrArg Value.bool (rfl : false = _))) (by simp [boolOf]) (fun _ _ => ⟨Below.refl _ _, rfl⟩) ?_
          refine eachF_skip true (.bool false) r rfl rfl rfl (fun g w' hd => Eq.trans (show (g 20).v = .bool false from (hd 20 rfl).1) (congrArg Value.bool (rfl : false = _))) (by simp [boolOf]) (fun _ _ => ⟨Below.refl _ _, rfl⟩) ?_
          refine eachF_skip true (.bool false) r rfl rfl rfl (fun g w' hd => Eq.trans (show (g 20).v = .bool false from (hd 20 rfl).1) (congrArg Value.bool (rfl : false = _))) (by simp [boolOf]) (fun _ _ => ⟨Below.refl _ _, rfl⟩) ?_
          refine eachF_skip true (.bool false) r rfl rfl rfl (fun g w' hd => Eq.trans (show (g 20).v = .bool false from (hd 20 rfl).1) (congrArg Value.bool (rfl : false = _))) (by simp [boolOf]) (fun _ _ => ⟨Below.refl _ _, rfl⟩) ?_
          refine fc r (fun fr1 g w' hb' hd r' => y_pick r' (b := false) (v := (.bool false)) (Eq.trans (show (g 20).v = .bool false from (hd 20 rfl).1) (congrArg Value.bool (rfl : false = _))) rfl bz) ?_
          refine fc r (fun fr1 g w' hb' hd r' => y_bin r' (hd 1 rfl).1 (hd 27 rfl).1 rfl rfl bz) ?_
          refine fc r (fun fr1 g w' hb' hd r' => y_move r' (hd 28 rfl).1 bz) ?_
          refine eachF_want true r rfl rfl rfl (fun g w' hd => Eq.trans (show (g 29).v = .bool ((D.check_Seat_Formed a0) == false) from (hd 29 rfl).1) (congrArg Value.bool h97)) (fun fr1 g w' hb' hd r' => ?_) ?_
          · exact y_move r' (v := (.pointer (some ⟨mg19.mb, 0, none⟩))) rfl ⟨Below.refl _ _, rfl⟩
          refine eachF_want true r rfl rfl rfl (fun g w' hd => Eq.trans (show (g 29).v = .bool ((D.check_Seat_Formed a0) == false) from (hd 29 rfl).1) (congrArg Value.bool h97)) (fun fr1 g w' hb' hd r' => ?_) ?_
          · exact y_call r' (args := [(.pointer (some ⟨mg19.mb, 0, none⟩))]) (lc (hd 30 rfl).1 l0) cl46 ((c_mem_Memory_Count _ x17 ((hP.below (dr hb')).mem (i := 1) rfl) hx98).mono (by rintro _ w2 ⟨rfl, hb2⟩; exact ⟨_, rfl, hb2, rfl⟩))
          refine eachF_want true r rfl rfl rfl (fun g w' hd => Eq.trans (show (g 29).v = .bool ((D.check_Seat_Formed a0) == false) from (hd 29 rfl).1) (congrArg Value.bool h97)) (fun fr1 g w' hb' hd r' => ?_) ?_
          · exact y_bin r' (u := (I x98)) (u' := (I 3)) (v := (.bool (x98 == 3))) (hd 31 rfl).1 rfl rfl rfl ⟨Below.refl _ _, rfl⟩
          refine fc r (fun fr1 g w' hb' hd r' => y_pick r' (b := true) (v := (.bool (x98 == 3))) (Eq.trans (show (g 29).v = .bool ((D.check_Seat_Formed a0) == false) from (hd 29 rfl).1) (congrArg Value.bool h97)) (hd 32 rfl).1 bz) ?_
          refine fc r (fun fr1 g w' hb' hd r' => y_assign r' (hd 33 rfl).1 bz) ?_
          exact eachF_nil
         ·
          intro fr gg w99 hb hΦ hap r
          have r := r.congr (sc ((hΦ 34 rfl).1) (sc ((hΦ 33 rfl).1) (sc ((hΦ 32 rfl).1) (sc ((hΦ 31 rfl).1) (sc ((hΦ 30 rfl).1) (sc ((hΦ 29 rfl).1) (sc ((hΦ 28 rfl).1) (sc ((hΦ 27 rfl).1) (sc ((hΦ 26 rfl).1) (sc ((hΦ 25 rfl).1) (sc ((hΦ 24 rfl).1) (sc ((hΦ 23 rfl).1) (sc ((hΦ 22 rfl).1) (sc ((hΦ 21 rfl).1) (sc ((hΦ 20 rfl).1) (sc ((hΦ 19 rfl).1) (sc ((hΦ 18 rfl).1) (sc ((hΦ 17 rfl).1) (sc ((hΦ 16 rfl).1) (sc ((hΦ 15 rfl).1) (sc ((hΦ 14 rfl).1) (sc ((hΦ 13 rfl).1) (sc ((hΦ 12 rfl).1) (sc ((hΦ 11 rfl).1) (sc ((hΦ 10 rfl).1) (sc ((hΦ 9 rfl).1) (sc ((hΦ 8 rfl).1) (sc ((hΦ 7 rfl).1) (sc ((hΦ 6 rfl).1) (sc ((hΦ 5 rfl).1) (sc ((hΦ 4 rfl).1) (sc ((hΦ 3 rfl).1) (sc ((hΦ 2 rfl).1) (sc ((hΦ 1 rfl).1) (sc ((hΦ 0 rfl).1) rfl)))))))))))))))))))))))))))))))))))
          have hP : Post No [cellC b1 ((seatC a0)).toArray 29, memK mg19 x17] w0 w99 := hP.below hb
          exact nxy84 (x98 == 3) () _ _ _ hD r (hs_cons rfl (hs_cons rfl (hs_cons rfl (hs_cons rfl (hs_cons rfl (hs_cons rfl (hs_cons rfl (hs_cons rfl (hs_cons rfl hs_nil))))))))) (hP.pick [0, 1] rfl rfl)
        ·
         have hD := (cond_f h97).symm.trans hD
         refine wp_freeF [.val (.agg (seatC a0).toArray), .val (.bool (D.check_Seat_Formed a0)), .val (.pointer (some ⟨b1, 0, none⟩)), .val (.agg (planC a0.p).toArray), .val (.bool (D.cubicleref06_Formed a0.p)), .val (.bool (D.cubicleref06_Formed a0.p)), .val (.pointer (some ⟨b1, 6, none⟩)), .val (I a0.tenant), .val (.bool (decide (a0.tenant ≥ 0))), .val (.bool (decide (a0.tenant ≥ 0))), .val (.bool (decide (a0.tenant ≥ 0))), .val (.pointer (some ⟨b1, 6, none⟩)), .val (I a0.tenant), .val (.bool (decide (a0.tenant < 64))), .val (.bool (decide (a0.tenant < 64))), .val (.bool (decide (a0.tenant < 64))), .val undef, .val undef, .val undef, .val (.bool false), .val (.bool false), .val undef, .val undef, .val undef, .val undef, .val undef, .val undef, .val (.bool false), .val (.bool ((D.check_Seat_Formed a0) == false)), .val (.bool ((D.check_Seat_Formed a0) == false)), .val undef, .val undef, .val undef, .val (.bool false), .val (.bool false)] mixed r (by kernel_rfl) ?_ ?_
         ·
          refine fc r (fun fr1 g w' hb' hd r' => y_load_agg r' (cs := (seatC a0)) (n := 8) rfl ((hP.below (dr hb')).cell (i := 0) rfl) ta29 rfl bz) ?_
          refine fc r (fun fr1 g w' hb' hd r' => y_call r' (args := [(.agg (seatC a0).toArray)]) (lc (hd 0 rfl).1 l0) cl41 ((c_check_Seat_Formed _ a0).mono (by rintro _ w2 ⟨rfl, hb2⟩; exact ⟨_, rfl, hb2, rfl⟩))) ?_
          refine fc r (fun fr1 g w' hb' hd r' => y_fieldAddr r' (b := b1) (o := 0) rfl fo29_0 bz) ?_
          refine fc r (fun fr1 g w' hb' hd r' => y_load_agg r' (cs := (planC a0.p)) (n := 6) (hd 2 rfl).1 ((hP.below (dr hb')).cell (i := 0) rfl) ta25 rfl bz) ?_
          refine fc r (fun fr1 g w' hb' hd r' => y_call r' (args := [(.agg (planC a0.p).toArray)]) (lc (hd 3 rfl).1 l0) cl45 ((c_cubicleref06_Formed _ a0.p).mono (by rintro _ w2 ⟨rfl, hb2⟩; exact ⟨_, rfl, hb2, rfl⟩))) ?_
          refine fc r (fun fr1 g w' hb' hd r' => y_move r' (hd 4 rfl).1 bz) ?_
          refine eachF_want true r rfl rfl rfl (fun g w' hd => Eq.trans (show (g 5).v = .bool (D.cubicleref06_Formed a0.p) from (hd 5 rfl).1) (congrArg Value.bool h85)) (fun fr1 g w' hb' hd r' => ?_) ?_
          · exact y_fieldAddr r' (b := b1) (o := 0) (k := 6) rfl fo29_1 ⟨Below.refl _ _, rfl⟩
          refine eachF_want true r rfl rfl rfl (fun g w' hd => Eq.trans (show (g 5).v = .bool (D.cubicleref06_Formed a0.p) from (hd 5 rfl).1) (congrArg Value.bool h85)) (fun fr1 g w' hb' hd r' => ?_) ?_
          · exact y_load_one r' (v := (I a0.tenant)) (hd 6 rfl).1 ((hP.below (dr hb')).cell (i := 0) rfl) to3 rfl ⟨Below.refl _ _, rfl⟩
          refine eachF_want true r rfl rfl rfl (fun g w' hd => Eq.trans (show (g 5).v = .bool (D.cubicleref06_Formed a0.p) from (hd 5 rfl).1) (congrArg Value.bool h85)) (fun fr1 g w' hb' hd r' => ?_) ?_
          · exact y_bin r' (u := (I a0.tenant)) (u' := (I 0)) (v := (.bool (decide (a0.tenant ≥ 0)))) (hd 7 rfl).1 rfl rfl rfl ⟨Below.refl _ _, rfl⟩
          refine fc r (fun fr1 g w' hb' hd r' => y_pick r' (b := true) (v := (.bool (decide (a0.tenant ≥ 0)))) (Eq.trans (show (g 5).v = .bool (D.cubicleref06_Formed a0.p) from (hd 5 rfl).1) (congrArg Value.bool h85)) (hd 8 rfl).1 bz) ?_
          refine fc r (fun fr1 g w' hb' hd r' => y_move r' (hd 9 rfl).1 bz) ?_
          refine eachF_want true r rfl rfl rfl (fun g w' hd => Eq.trans (show (g 10).v = .bool (decide (a0.tenant ≥ 0)) from (hd 10 rfl).1) (congrArg Value.bool h86)) (fun fr1 g w' hb' hd r' => ?_) ?_
          · exact y_fieldAddr r' (b := b1) (o := 0) (k := 6) rfl fo29_1 ⟨Below.refl _ _, rfl⟩
          refine eachF_want true r rfl rfl rfl (fun g w' hd => Eq.trans (show (g 10).v = .bool (decide (a0.tenant ≥ 0)) from (hd 10 rfl).1) (congrArg Value.bool h86)) (fun fr1 g w' hb' hd r' => ?_) ?_
          · exact y_load_one r' (v := (I a0.tenant)) (hd 11 rfl).1 ((hP.below (dr hb')).cell (i := 0) rfl) to3 rfl ⟨Below.refl _ _, rfl⟩
          refine eachF_want true r rfl rfl rfl (fun g w' hd => Eq.trans (show (g 10).v = .bool (decide (a0.tenant ≥ 0)) from (hd 10 rfl).1) (congrArg Value.bool h86)) (fun fr1 g w' hb' hd r' => ?_) ?_
          · exact y_bin r' (u := (I a0.tenant)) (u' := (I 64)) (v := (.bool (decide (a0.tenant < 64)))) (hd 12 rfl).1 rfl rfl rfl ⟨Below.refl _ _, rfl⟩
          refine fc r (fun fr1 g w' hb' hd r' => y_pick r' (b := true) (v := (.bool (decide (a0.tenant < 64)))) (Eq.trans (show (g 10).v = .bool (decide (a0.tenant ≥ 0)) from (hd 10 rfl).1) (congrArg Value.bool h86)) (hd 13 rfl).1 bz) ?_
          refine fc r (fun fr1 g w' hb' hd r' => y_move r' (hd 14 rfl).1 bz) ?_
          refine eachF_skip true (.bool false) r rfl rfl rfl (fun g w' hd => Eq.trans (show (g 15).v = .bool (decide (a0.tenant < 64)) from (hd 15 rfl).1) (congrArg Value.bool h87)) (by simp [boolOf]) (fun _ _ => ⟨Below.refl _ _, rfl⟩) ?_
          refine eachF_skip true (.bool false) r rfl rfl rfl (fun g w' hd => Eq.trans (show (g 15).v = .bool (decide (a0.tenant < 64)) from (hd 15 rfl).1) (congrArg Value.bool h87)) (by simp [boolOf]) (fun _ _ => ⟨Below.refl _ _, rfl⟩) ?_
          refine eachF_skip true (.bool false) r rfl rfl rfl (fun g w' hd => Eq.trans (show (g 15).v = .bool (decide (a0.tenant < 64)) from (hd 15 rfl).1) (congrArg Value.bool h87)) (by simp [boolOf]) (fun _ _ => ⟨Below.refl _ _, rfl⟩) ?_
          refine fc r (fun fr1 g w' hb' hd r' => y_pick r' (b := false) (v := (.bool false)) (Eq.trans (show (g 15).v = .bool (decide (a0.tenant < 64)) from (hd 15 rfl).1) (congrArg Value.bool h87)) rfl bz) ?_
          refine fc r (fun fr1 g w' hb' hd r' => y_move r' (hd 19 rfl).1 bz) ?_
          refine eachF_skip true (.bool false) r rfl rfl rfl (fun g w' hd => Eq.trans (show (g 20).v = .bool false from (hd 20 rfl).1) (congrArg Value.bool (rfl : false = _))) (by simp [boolOf]) (fun _ _ => ⟨Below.refl _ _, rfl⟩) ?_
          refine eachF_skip true (.bool false) r rfl rfl rfl (fun g w' hd => Eq.trans (show (g 20).v = .bool false from (hd 20 rfl).1) (congrArg Value.bool (rfl : false = _))) (by simp [boolOf]) (fun _ _ => ⟨Below.refl _ _, rfl⟩) ?_
          refine eachF_skip true (.bool false) r rfl rfl rfl (fun g w' hd => Eq.trans (show (g 20).v = .bool false from (hd 20 rfl).1) (congrArg Value.bool (rfl : false = _))) (by simp [boolOf]) (fun _ _ => ⟨Below.refl _ _, rfl⟩) ?_
          refine eachF_skip true (.bool false) r rfl rfl rfl (fun g w' hd => Eq.trans (show (g 20).v = .bool false from (hd 20 rfl).1) (congrArg Value.bool (rfl : false = _))) (by simp [boolOf]) (fun _ _ => ⟨Below.refl _ _, rfl⟩) ?_
          refine eachF_skip true (.bool false) r rfl rfl rfl (fun g w' hd => Eq.trans (show (g 20).v = .bool false from (hd 20 rfl).1) (congrArg Value.bool (rfl : false = _))) (by simp [boolOf]) (fun _ _ => ⟨Below.refl _ _, rfl⟩) ?_
          refine eachF_skip true (.bool false) r rfl rfl rfl (fun g w' hd => Eq.trans (show (g 20).v = .bool false from (hd 20 rfl).1) (congrArg Value.bool (rfl : false = _))) (by simp [boolOf]) (fun _ _ => ⟨Below.refl _ _, rfl⟩) ?_
          refine fc r (fun fr1 g w' hb' hd r' => y_pick r' (b := false) (v := (.bool false)) (Eq.trans (show (g 20).v = .bool false from (hd 20 rfl).1) (congrArg Value.bool (rfl : false = _))) rfl bz) ?_
          refine fc r (fun fr1 g w' hb' hd r' => y_bin r' (hd 1 rfl).1 (hd 27 rfl).1 rfl rfl bz) ?_
          refine fc r (fun fr1 g w' hb' hd r' => y_move r' (hd 28 rfl).1 bz) ?_
          refine eachF_skip true (.bool false) r rfl rfl rfl (fun g w' hd => Eq.trans (show (g 29).v = .bool ((D.check_Seat_Formed a0) == false) from (hd 29 rfl).1) (congrArg Value.bool h97)) (by simp [boolOf]) (fun _ _ => ⟨Below.refl _ _, rfl⟩) ?_
          refine eachF_skip true (.bool false) r rfl rfl rfl (fun g w' hd => Eq.trans (show (g 29).v = .bool ((D.check_Seat_Formed a0) == false) from (hd 29 rfl).1) (congrArg Value.bool h97)) (by simp [boolOf]) (fun _ _ => ⟨Below.refl _ _, rfl⟩) ?_
          refine eachF_skip true (.bool false) r rfl rfl rfl (fun g w' hd => Eq.trans (show (g 29).v = .bool ((D.check_Seat_Formed a0) == false) from (hd 29 rfl).1) (congrArg Value.bool h97)) (by simp [boolOf]) (fun _ _ => ⟨Below.refl _ _, rfl⟩) ?_
          refine fc r (fun fr1 g w' hb' hd r' => y_pick r' (b := false) (v := (.bool false)) (Eq.trans (show (g 29).v = .bool ((D.check_Seat_Formed a0) == false) from (hd 29 rfl).1) (congrArg Value.bool h97)) rfl bz) ?_
          refine fc r (fun fr1 g w' hb' hd r' => y_assign r' (hd 33 rfl).1 bz) ?_
          exact eachF_nil
         ·
          intro fr gg w100 hb hΦ hap r
          have r := r.congr (sc ((hΦ 34 rfl).1) (sc ((hΦ 33 rfl).1) (sc ((hΦ 32 rfl).1) (sc ((hΦ 31 rfl).1) (sc ((hΦ 30 rfl).1) (sc ((hΦ 29 rfl).1) (sc ((hΦ 28 rfl).1) (sc ((hΦ 27 rfl).1) (sc ((hΦ 26 rfl).1) (sc ((hΦ 25 rfl).1) (sc ((hΦ 24 rfl).1) (sc ((hΦ 23 rfl).1) (sc ((hΦ 22 rfl).1) (sc ((hΦ 21 rfl).1) (sc ((hΦ 20 rfl).1) (sc ((hΦ 19 rfl).1) (sc ((hΦ 18 rfl).1) (sc ((hΦ 17 rfl).1) (sc ((hΦ 16 rfl).1) (sc ((hΦ 15 rfl).1) (sc ((hΦ 14 rfl).1) (sc ((hΦ 13 rfl).1) (sc ((hΦ 12 rfl).1) (sc ((hΦ 11 rfl).1) (sc ((hΦ 10 rfl).1) (sc ((hΦ 9 rfl).1) (sc ((hΦ 8 rfl).1) (sc ((hΦ 7 rfl).1) (sc ((hΦ 6 rfl).1) (sc ((hΦ 5 rfl).1) (sc ((hΦ 4 rfl).1) (sc ((hΦ 3 rfl).1) (sc ((hΦ 2 rfl).1) (sc ((hΦ 1 rfl).1) (sc ((hΦ 0 rfl).1) rfl)))))))))))))))))))))))))))))))))))
          have hP : Post No [cellC b1 ((seatC a0)).toArray 29, memK mg19 x17] w0 w100 := hP.below hb
          exact nxy84 false () _ _ _ hD r (hs_cons rfl (hs_cons rfl (hs_cons rfl (hs_cons rfl (hs_cons rfl (hs_cons rfl (hs_cons rfl (hs_cons rfl (hs_cons rfl hs_nil))))))))) (hP.pick [0, 1] rfl rfl)
      ·
       have hD := (cond_f h86).symm.trans hD
       refine seq_split ((D.check_Seat_Formed a0) == false) (fun h101 => ?_) (fun h101 => ?_)
       ·
        have hD := (cond_t h101).symm.trans hD
        obtain ⟨x102, hx102, hD⟩ := bindD_elim hD
        refine wp_freeF [.val (.agg (seatC a0).toArray), .val (.bool (D.check_Seat_Formed a0)), .val (.pointer (some ⟨b1, 0, none⟩)), .val (.agg (planC a0.p).toArray), .val (.bool (D.cubicleref06_Formed a0.p)), .val (.bool (D.cubicleref06_Formed a0.p)), .val (.pointer (some ⟨b1, 6, none⟩)), .val (I a0.tenant), .val (.bool (decide (a0.tenant ≥ 0))), .val (.bool (decide (a0.tenant ≥ 0))), .val (.bool (decide (a0.tenant ≥ 0))), .val undef, .val undef, .val undef, .val (.bool false), .val (.bool false), .val undef, .val undef, .val undef, .val (.bool false), .val (.bool false), .val undef, .val undef, .val undef, .val undef, .val undef, .val undef, .val (.bool false), .val (.bool ((D.check_Seat_Formed a0) == false)), .val (.bool ((D.check_Seat_Formed a0) == false)), .val (.pointer (some ⟨mg19.mb, 0, none⟩)), .val (I x102), .val (.bool (x102 == 3)), .val (.bool (x102 == 3)), .val (.bool (x102 == 3))] mixed r (by kernel_rfl) ?_ ?_
        ·
         refine fc r (fun fr1 g w' hb' hd r' => y_load_agg r' (cs := (seatC a0)) (n := 8) rfl ((hP.below (dr hb')).cell (i := 0) rfl) ta29 rfl bz) ?_
         refine fc r (fun fr1 g w' hb' hd r' => y_call r' (args := [(.agg (seatC a0).toArray)]) (lc (hd 0 rfl).1 l0) cl41 ((c_check_Seat_Formed _ a0).mono (by rintro _ w2 ⟨rfl, hb2⟩; exact ⟨_, rfl, hb2, rfl⟩))) ?_
         refine fc r (fun fr1 g w' hb' hd r' => y_fieldAddr r' (b := b1) (o := 0) rfl fo29_0 bz) ?_
         refine fc r (fun fr1 g w' hb' hd r' => y_load_agg r' (cs := (planC a0.p)) (n := 6) (hd 2 rfl).1 ((hP.below (dr hb')).cell (i := 0) rfl) ta25 rfl bz) ?_
         refine fc r (fun fr1 g w' hb' hd r' => y_call r' (args := [(.agg (planC a0.p).toArray)]) (lc (hd 3 rfl).1 l0) cl45 ((c_cubicleref06_Formed _ a0.p).mono (by rintro _ w2 ⟨rfl, hb2⟩; exact ⟨_, rfl, hb2, rfl⟩))) ?_
         refine fc r (fun fr1 g w' hb' hd r' => y_move r' (hd 4 rfl).1 bz) ?_
         refine eachF_want true r rfl rfl rfl (fun g w' hd => Eq.trans (show (g 5).v = .bool (D.cubicleref06_Formed a0.p) from (hd 5 rfl).1) (congrArg Value.bool h85)) (fun fr1 g w' hb' hd r' => ?_) ?_
         · exact y_fieldAddr r' (b := b1) (o := 0) (k := 6) rfl fo29_1 ⟨Below.refl _ _, rfl⟩
         refine eachF_want true r rfl rfl rfl (fun g w' hd => Eq.trans (show (g 5).v = .bool (D.cubicleref06_Formed a0.p) from (hd 5 rfl).1) (congrArg Value.bool h85)) (fun fr1 g w' hb' hd r' => ?_) ?_
         · exact y_load_one r' (v := (I a0.tenant)) (hd 6 rfl).1 ((hP.below (dr hb')).cell (i := 0) rfl) to3 rfl ⟨Below.refl _ _, rfl⟩
         refine eachF_want true r rfl rfl rfl (fun g w' hd => Eq.trans (show (g 5).v = .bool (D.cubicleref06_Formed a0.p) from (hd 5 rfl).1) (congrArg Value.bool h85)) (fun fr1 g w' hb' hd r' => ?_) ?_
         · exact y_bin r' (u := (I a0.tenant)) (u' := (I 0)) (v := (.bool (decide (a0.tenant ≥ 0)))) (hd 7 rfl).1 rfl rfl rfl ⟨Below.refl _ _, rfl⟩
         refine fc r (fun fr1 g w' hb' hd r' => y_pick r' (b := true) (v := (.bool (decide (a0.tenant ≥ 0)))) (Eq.trans (show (g 5).v = .bool (D.cubicleref06_Formed a0.p) from (hd 5 rfl).1) (congrArg Value.bool h85)) (hd 8 rfl).1 bz) ?_
         refine fc r (fun fr1 g w' hb' hd r' => y_move r' (hd 9 rfl).1 bz) ?_
         refine eachF_skip true (.bool false) r rfl rfl rfl (fun g w' hd => Eq.trans (show (g 10).v = .bool (decide (a0.tenant ≥ 0)) from (hd 10 rfl).1) (congrArg Value.bool h86)) (by simp [boolOf]) (fun _ _ => ⟨Below.refl _ _, rfl⟩) ?_
         refine eachF_skip true (.bool false) r rfl rfl rfl (fun g w' hd => Eq.trans (show (g 10).v = .bool (decide (a0.tenant ≥ 0)) from (hd 10 rfl).1) (congrArg Value.bool h86)) (by simp [boolOf]) (fun _ _ => ⟨Below.refl _ _, rfl⟩) ?_
         refine eachF_skip true (.bool false) r rfl rfl rfl (fun g w' hd => Eq.trans (show (g 10).v = .bool (decide (a0.tenant ≥ 0)) from (hd 10 rfl).1) (congrArg Value.bool h86)) (by simp [boolOf]) (fun _ _ => ⟨Below.refl _ _, rfl⟩) ?_
         refine fc r (fun fr1 g w' hb' hd r' => y_pick r' (b := false) (v := (.bool false)) (Eq.trans (show (g 10).v = .bool (decide (a0.tenant ≥ 0)) from (hd 10 rfl).1) (congrArg Value.bool h86)) rfl bz) ?_
         refine fc r (fun fr1 g w' hb' hd r' => y_move r' (hd 14 rfl).1 bz) ?_
         refine eachF_skip true (.bool false) r rfl rfl rfl (fun g w' hd => Eq.trans (show (g 15).v = .bool false from (hd 15 rfl).1) (congrArg Value.bool (rfl : false = _))) (by simp [boolOf]) (fun _ _ => ⟨Below.refl _ _, rfl⟩) ?_
         refine eachF_skip true (.bool false) r rfl rfl rfl (fun g w' hd => Eq.trans (show (g 15).v = .bool false from (hd 15 rfl).1) (congrArg Value.bool (rfl : false = _))) (by simp [boolOf]) (fun _ _ => ⟨Below.refl _ _, rfl⟩) ?_
         refine eachF_skip true (.bool false) r rfl rfl rfl (fun g w' hd => Eq.trans (show (g 15).v = .bool false from (hd 15 rfl).1) (congrArg Value.bool (rfl : false = _))) (by simp [boolOf]) (fun _ _ => ⟨Below.refl _ _, rfl⟩) ?_
         refine fc r (fun fr1 g w' hb' hd r' => y_pick r' (b := false) (v := (.bool false)) (Eq.trans (show (g 15).v = .bool false from (hd 15 rfl).1) (congrArg Value.bool (rfl : false = _))) rfl bz) ?_
         refine fc r (fun fr1 g w' hb' hd r' => y_move r' (hd 19 rfl).1 bz) ?_
         refine eachF_skip true (.bool false) r rfl rfl rfl (fun g w' hd => Eq.trans (show (g 20).v = .bool false from (hd 20 rfl).1) (congrArg Value.bool (rfl : false = _))) (by simp [boolOf]) (fun _ _ => ⟨Below.refl _ _, rfl⟩) ?_
         refine eachF_skip true (.bool false) r rfl rfl rfl (fun g w' hd => Eq.trans (show (g 20).v = .bool false from (hd 20 rfl).1) (congrArg Value.bool (rfl : false = _))) (by simp [boolOf]) (fun _ _ => ⟨Below.refl _ _, rfl⟩) ?_
         refine eachF_skip true (.bool false) r rfl rfl rfl (fun g w' hd => Eq.trans (show (g 20).v = .bool false from (hd 20 rfl).1) (congrArg Value.bool (rfl : false = _))) (by simp [boolOf]) (fun _ _ => ⟨Below.refl _ _, rfl⟩) ?_
         refine eachF_skip true (.bool false) r rfl rfl rfl (fun g w' hd => Eq.trans (show (g 20).v = .bool false from (hd 20 rfl).1) (congrArg Value.bool (rfl : false = _))) (by simp [boolOf]) (fun _ _ => ⟨Below.refl _ _, rfl⟩) ?_
         refine eachF_skip true (.bool false) r rfl rfl rfl (fun g w' hd => Eq.trans (show (g 20).v = .bool false from (hd 20 rfl).1) (congrArg Value.bool (rfl : false = _))) (by simp [boolOf]) (fun _ _ => ⟨Below.refl _ _, rfl⟩) ?_
         refine eachF_skip true (.bool false) r rfl rfl rfl (fun g w' hd => Eq.trans (show (g 20).v = .bool false from (hd 20 rfl).1) (congrArg Value.bool (rfl : false = _))) (by simp [boolOf]) (fun _ _ => ⟨Below.refl _ _, rfl⟩) ?_
         refine fc r (fun fr1 g w' hb' hd r' => y_pick r' (b := false) (v := (.bool false)) (Eq.trans (show (g 20).v = .bool false from (hd 20 rfl).1) (congrArg Value.bool (rfl : false = _))) rfl bz) ?_
         refine fc r (fun fr1 g w' hb' hd r' => y_bin r' (hd 1 rfl).1 (hd 27 rfl).1 rfl rfl bz) ?_
         refine fc r (fun fr1 g w' hb' hd r' => y_move r' (hd 28 rfl).1 bz) ?_
         refine eachF_want true r rfl rfl rfl (fun g w' hd => Eq.trans (show (g 29).v = .bool ((D.check_Seat_Formed a0) == false) from (hd 29 rfl).1) (congrArg Value.bool h101)) (fun fr1 g w' hb' hd r' => ?_) ?_
         · exact y_move r' (v := (.pointer (some ⟨mg19.mb, 0, none⟩))) rfl ⟨Below.refl _ _, rfl⟩
         refine eachF_want true r rfl rfl rfl (fun g w' hd => Eq.trans (show (g 29).v = .bool ((D.check_Seat_Formed a0) == false) from (hd 29 rfl).1) (congrArg Value.bool h101)) (fun fr1 g w' hb' hd r' => ?_) ?_
         · exact y_call r' (args := [(.pointer (some ⟨mg19.mb, 0, none⟩))]) (lc (hd 30 rfl).1 l0) cl46 ((c_mem_Memory_Count _ x17 ((hP.below (dr hb')).mem (i := 1) rfl) hx102).mono (by rintro _ w2 ⟨rfl, hb2⟩; exact ⟨_, rfl, hb2, rfl⟩))
         refine eachF_want true r rfl rfl rfl (fun g w' hd => Eq.trans (show (g 29).v = .bool ((D.check_Seat_Formed a0) == false) from (hd 29 rfl).1) (congrArg Value.bool h101)) (fun fr1 g w' hb' hd r' => ?_) ?_
         · exact y_bin r' (u := (I x102)) (u' := (I 3)) (v := (.bool (x102 == 3))) (hd 31 rfl).1 rfl rfl rfl ⟨Below.refl _ _, rfl⟩
         refine fc r (fun fr1 g w' hb' hd r' => y_pick r' (b := true) (v := (.bool (x102 == 3))) (Eq.trans (show (g 29).v = .bool ((D.check_Seat_Formed a0) == false) from (hd 29 rfl).1) (congrArg Value.bool h101)) (hd 32 rfl).1 bz) ?_
         refine fc r (fun fr1 g w' hb' hd r' => y_assign r' (hd 33 rfl).1 bz) ?_
         exact eachF_nil
        ·
         intro fr gg w103 hb hΦ hap r
         have r := r.congr (sc ((hΦ 34 rfl).1) (sc ((hΦ 33 rfl).1) (sc ((hΦ 32 rfl).1) (sc ((hΦ 31 rfl).1) (sc ((hΦ 30 rfl).1) (sc ((hΦ 29 rfl).1) (sc ((hΦ 28 rfl).1) (sc ((hΦ 27 rfl).1) (sc ((hΦ 26 rfl).1) (sc ((hΦ 25 rfl).1) (sc ((hΦ 24 rfl).1) (sc ((hΦ 23 rfl).1) (sc ((hΦ 22 rfl).1) (sc ((hΦ 21 rfl).1) (sc ((hΦ 20 rfl).1) (sc ((hΦ 19 rfl).1) (sc ((hΦ 18 rfl).1) (sc ((hΦ 17 rfl).1) (sc ((hΦ 16 rfl).1) (sc ((hΦ 15 rfl).1) (sc ((hΦ 14 rfl).1) (sc ((hΦ 13 rfl).1) (sc ((hΦ 12 rfl).1) (sc ((hΦ 11 rfl).1) (sc ((hΦ 10 rfl).1) (sc ((hΦ 9 rfl).1) (sc ((hΦ 8 rfl).1) (sc ((hΦ 7 rfl).1) (sc ((hΦ 6 rfl).1) (sc ((hΦ 5 rfl).1) (sc ((hΦ 4 rfl).1) (sc ((hΦ 3 rfl).1) (sc ((hΦ 2 rfl).1) (sc ((hΦ 1 rfl).1) (sc ((hΦ 0 rfl).1) rfl)))))))))))))))))))))))))))))))))))
         have hP : Post No [cellC b1 ((seatC a0)).toArray 29, memK mg19 x17] w0 w103 := hP.below hb
         exact nxy84 (x102 == 3) () _ _ _ hD r (hs_cons rfl (hs_cons rfl (hs_cons rfl (hs_cons rfl (hs_cons rfl (hs_cons rfl (hs_cons rfl (hs_cons rfl (hs_cons rfl hs_nil))))))))) (hP.pick [0, 1] rfl rfl)
       ·
        have hD := (cond_f h101).symm.trans hD
        refine wp_freeF [.val (.agg (seatC a0).toArray), .val (.bool (D.check_Seat_Formed a0)), .val (.pointer (some ⟨b1, 0, none⟩)), .val (.agg (planC a0.p).toArray), .val (.bool (D.cubicleref06_Formed a0.p)), .val (.bool (D.cubicleref06_Formed a0.p)), .val (.pointer (some ⟨b1, 6, none⟩)), .val (I a0.tenant), .val (.bool (decide (a0.tenant ≥ 0))), .val (.bool (decide (a0.tenant ≥ 0))), .val (.bool (decide (a0.tenant ≥ 0))), .val undef, .val undef, .val undef, .val (.bool false), .val (.bool false), .val undef, .val undef, .val undef, .val (.bool false), .val (.bool false), .val undef, .val undef, .val undef, .val undef, .val undef, .val undef, .val (.bool false), .val (.bool ((D.check_Seat_Formed a0) == false)), .val (.bool ((D.check_Seat_Formed a0) == false)), .val undef, .val undef, .val undef, .val (.bool false), .val (.bool false)] mixed r (by kernel_rfl) ?_ ?_
        ·
         refine fc r (fun fr1 g w' hb' hd r' => y_load_agg r' (cs := (seatC a0)) (n := 8) rfl ((hP.below (dr hb')).cell (i := 0) rfl) ta29 rfl bz) ?_
         refine fc r (fun fr1 g w' hb' hd r' => y_call r' (args := [(.agg (seatC a0).toArray)]) (lc (hd 0 rfl).1 l0) cl41 ((c_check_Seat_Formed _ a0).mono (by rintro _ w2 ⟨rfl, hb2⟩; exact ⟨_, rfl, hb2, rfl⟩))) ?_
         refine fc r (fun fr1 g w' hb' hd r' => y_fieldAddr r' (b := b1) (o := 0) rfl fo29_0 bz) ?_
         refine fc r (fun fr1 g w' hb' hd r' => y_load_agg r' (cs := (planC a0.p)) (n := 6) (hd 2 rfl).1 ((hP.below (dr hb')).cell (i := 0) rfl) ta25 rfl bz) ?_
         refine fc r (fun fr1 g w' hb' hd r' => y_call r' (args := [(.agg (planC a0.p).toArray)]) (lc (hd 3 rfl).1 l0) cl45 ((c_cubicleref06_Formed _ a0.p).mono (by rintro _ w2 ⟨rfl, hb2⟩; exact ⟨_, rfl, hb2, rfl⟩))) ?_
         refine fc r (fun fr1 g w' hb' hd r' => y_move r' (hd 4 rfl).1 bz) ?_
         refine eachF_want true r rfl rfl rfl (fun g w' hd => Eq.trans (show (g 5).v = .bool (D.cubicleref06_Formed a0.p) from (hd 5 rfl).1) (congrArg Value.bool h85)) (fun fr1 g w' hb' hd r' => ?_) ?_
         · exact y_fieldAddr r' (b := b1) (o := 0) (k := 6) rfl fo29_1 ⟨Below.refl _ _, rfl⟩
         refine eachF_want true r rfl rfl rfl (fun g w' hd => Eq.trans (show (g 5).v = .bool (D.cubicleref06_Formed a0.p) from (hd 5 rfl).1) (congrArg Value.bool h85)) (fun fr1 g w' hb' hd r' => ?_) ?_
         · exact y_load_one r' (v := (I a0.tenant)) (hd 6 rfl).1 ((hP.below (dr hb')).cell (i := 0) rfl) to3 rfl ⟨Below.refl _ _, rfl⟩
         refine eachF_want true r rfl rfl rfl (fun g w' hd => Eq.trans (show (g 5).v = .bool (D.cubicleref06_Formed a0.p) from (hd 5 rfl).1) (congrArg Value.bool h85)) (fun fr1 g w' hb' hd r' => ?_) ?_
         · exact y_bin r' (u := (I a0.tenant)) (u' := (I 0)) (v := (.bool (decide (a0.tenant ≥ 0)))) (hd 7 rfl).1 rfl rfl rfl ⟨Below.refl _ _, rfl⟩
         refine fc r (fun fr1 g w' hb' hd r' => y_pick r' (b := true) (v := (.bool (decide (a0.tenant ≥ 0)))) (Eq.trans (show (g 5).v = .bool (D.cubicleref06_Formed a0.p) from (hd 5 rfl).1) (congrArg Value.bool h85)) (hd 8 rfl).1 bz) ?_
         refine fc r (fun fr1 g w' hb' hd r' => y_move r' (hd 9 rfl).1 bz) ?_
         refine eachF_skip true (.bool false) r rfl rfl rfl (fun g w' hd => Eq.trans (show (g 10).v = .bool (decide (a0.tenant ≥ 0)) from (hd 10 rfl).1) (congrArg Value.bool h86)) (by simp [boolOf]) (fun _ _ => ⟨Below.refl _ _, rfl⟩) ?_
         refine eachF_skip true (.bool false) r rfl rfl rfl (fun g w' hd => Eq.trans (show (g 10).v = .bool (decide (a0.tenant ≥ 0)) from (hd 10 rfl).1) (congrArg Value.bool h86)) (by simp [boolOf]) (fun _ _ => ⟨Below.refl _ _, rfl⟩) ?_
         refine eachF_skip true (.bool false) r rfl rfl rfl (fun g w' hd => Eq.trans (show (g 10).v = .bool (decide (a0.tenant ≥ 0)) from (hd 10 rfl).1) (congrArg Value.bool h86)) (by simp [boolOf]) (fun _ _ => ⟨Below.refl _ _, rfl⟩) ?_
         refine fc r (fun fr1 g w' hb' hd r' => y_pick r' (b := false) (v := (.bool false)) (Eq.trans (show (g 10).v = .bool (decide (a0.tenant ≥ 0)) from (hd 10 rfl).1) (congrArg Value.bool h86)) rfl bz) ?_
         refine fc r (fun fr1 g w' hb' hd r' => y_move r' (hd 14 rfl).1 bz) ?_
         refine eachF_skip true (.bool false) r rfl rfl rfl (fun g w' hd => Eq.trans (show (g 15).v = .bool false from (hd 15 rfl).1) (congrArg Value.bool (rfl : false = _))) (by simp [boolOf]) (fun _ _ => ⟨Below.refl _ _, rfl⟩) ?_
         refine eachF_skip true (.bool false) r rfl rfl rfl (fun g w' hd => Eq.trans (show (g 15).v = .bool false from (hd 15 rfl).1) (congrArg Value.bool (rfl : false = _))) (by simp [boolOf]) (fun _ _ => ⟨Below.refl _ _, rfl⟩) ?_
         refine eachF_skip true (.bool false) r rfl rfl rfl (fun g w' hd => Eq.trans (show (g 15).v = .bool false from (hd 15 rfl).1) (congrArg Value.bool (rfl : false = _))) (by simp [boolOf]) (fun _ _ => ⟨Below.refl _ _, rfl⟩) ?_
         refine fc r (fun fr1 g w' hb' hd r' => y_pick r' (b := false) (v := (.bool false)) (Eq.trans (show (g 15).v = .bool false from (hd 15 rfl).1) (congrArg Value.bool (rfl : false = _))) rfl bz) ?_
         refine fc r (fun fr1 g w' hb' hd r' => y_move r' (hd 19 rfl).1 bz) ?_
         refine eachF_skip true (.bool false) r rfl rfl rfl (fun g w' hd => Eq.trans (show (g 20).v = .bool false from (hd 20 rfl).1) (congrArg Value.bool (rfl : false = _))) (by simp [boolOf]) (fun _ _ => ⟨Below.refl _ _, rfl⟩) ?_
         refine eachF_skip true (.bool false) r rfl rfl rfl (fun g w' hd => Eq.trans (show (g 20).v = .bool false from (hd 20 rfl).1) (congrArg Value.bool (rfl : false = _))) (by simp [boolOf]) (fun _ _ => ⟨Below.refl _ _, rfl⟩) ?_
         refine eachF_skip true (.bool false) r rfl rfl rfl (fun g w' hd => Eq.trans (show (g 20).v = .bool false from (hd 20 rfl).1) (congrArg Value.bool (rfl : false = _))) (by simp [boolOf]) (fun _ _ => ⟨Below.refl _ _, rfl⟩) ?_
         refine eachF_skip true (.bool false) r rfl rfl rfl (fun g w' hd => Eq.trans (show (g 20).v = .bool false from (hd 20 rfl).1) (congrArg Value.bool (rfl : false = _))) (by simp [boolOf]) (fun _ _ => ⟨Below.refl _ _, rfl⟩) ?_
         refine eachF_skip true (.bool false) r rfl rfl rfl (fun g w' hd => Eq.trans (show (g 20).v = .bool false from (hd 20 rfl).1) (congrArg Value.bool (rfl : false = _))) (by simp [boolOf]) (fun _ _ => ⟨Below.refl _ _, rfl⟩) ?_
         refine eachF_skip true (.bool false) r rfl rfl rfl (fun g w' hd => Eq.trans (show (g 20).v = .bool false from (hd 20 rfl).1) (congrArg Value.bool (rfl : false = _))) (by simp [boolOf]) (fun _ _ => ⟨Below.refl _ _, rfl⟩) ?_
         refine fc r (fun fr1 g w' hb' hd r' => y_pick r' (b := false) (v := (.bool false)) (Eq.trans (show (g 20).v = .bool false from (hd 20 rfl).1) (congrArg Value.bool (rfl : false = _))) rfl bz) ?_
         refine fc r (fun fr1 g w' hb' hd r' => y_bin r' (hd 1 rfl).1 (hd 27 rfl).1 rfl rfl bz) ?_
         refine fc r (fun fr1 g w' hb' hd r' => y_move r' (hd 28 rfl).1 bz) ?_
         refine eachF_skip true (.bool false) r rfl rfl rfl (fun g w' hd => Eq.trans (show (g 29).v = .bool ((D.check_Seat_Formed a0) == false) from (hd 29 rfl).1) (congrArg Value.bool h101)) (by simp [boolOf]) (fun _ _ => ⟨Below.refl _ _, rfl⟩) ?_
         refine eachF_skip true (.bool false) r rfl rfl rfl (fun g w' hd => Eq.trans (show (g 29).v = .bool ((D.check_Seat_Formed a0) == false) from (hd 29 rfl).1) (congrArg Value.bool h101)) (by simp [boolOf]) (fun _ _ => ⟨Below.refl _ _, rfl⟩) ?_
         refine eachF_skip true (.bool false) r rfl rfl rfl (fun g w' hd => Eq.trans (show (g 29).v = .bool ((D.check_Seat_Formed a0) == false) from (hd 29 rfl).1) (congrArg Value.bool h101)) (by simp [boolOf]) (fun _ _ => ⟨Below.refl _ _, rfl⟩) ?_
         refine fc r (fun fr1 g w' hb' hd r' => y_pick r' (b := false) (v := (.bool false)) (Eq.trans (show (g 29).v = .bool ((D.check_Seat_Formed a0) == false) from (hd 29 rfl).1) (congrArg Value.bool h101)) rfl bz) ?_
         refine fc r (fun fr1 g w' hb' hd r' => y_assign r' (hd 33 rfl).1 bz) ?_
         exact eachF_nil
        ·
         intro fr gg w104 hb hΦ hap r
         have r := r.congr (sc ((hΦ 34 rfl).1) (sc ((hΦ 33 rfl).1) (sc ((hΦ 32 rfl).1) (sc ((hΦ 31 rfl).1) (sc ((hΦ 30 rfl).1) (sc ((hΦ 29 rfl).1) (sc ((hΦ 28 rfl).1) (sc ((hΦ 27 rfl).1) (sc ((hΦ 26 rfl).1) (sc ((hΦ 25 rfl).1) (sc ((hΦ 24 rfl).1) (sc ((hΦ 23 rfl).1) (sc ((hΦ 22 rfl).1) (sc ((hΦ 21 rfl).1) (sc ((hΦ 20 rfl).1) (sc ((hΦ 19 rfl).1) (sc ((hΦ 18 rfl).1) (sc ((hΦ 17 rfl).1) (sc ((hΦ 16 rfl).1) (sc ((hΦ 15 rfl).1) (sc ((hΦ 14 rfl).1) (sc ((hΦ 13 rfl).1) (sc ((hΦ 12 rfl).1) (sc ((hΦ 11 rfl).1) (sc ((hΦ 10 rfl).1) (sc ((hΦ 9 rfl).1) (sc ((hΦ 8 rfl).1) (sc ((hΦ 7 rfl).1) (sc ((hΦ 6 rfl).1) (sc ((hΦ 5 rfl).1) (sc ((hΦ 4 rfl).1) (sc ((hΦ 3 rfl).1) (sc ((hΦ 2 rfl).1) (sc ((hΦ 1 rfl).1) (sc ((hΦ 0 rfl).1) rfl)))))))))))))))))))))))))))))))))))
         have hP : Post No [cellC b1 ((seatC a0)).toArray 29, memK mg19 x17] w0 w104 := hP.below hb
         exact nxy84 false () _ _ _ hD r (hs_cons rfl (hs_cons rfl (hs_cons rfl (hs_cons rfl (hs_cons rfl (hs_cons rfl (hs_cons rfl (hs_cons rfl (hs_cons rfl hs_nil))))))))) (hP.pick [0, 1] rfl rfl)
     ·
      have hD := (cond_f h85).symm.trans hD
      refine seq_split ((D.check_Seat_Formed a0) == false) (fun h105 => ?_) (fun h105 => ?_)
      ·
       have hD := (cond_t h105).symm.trans hD
       obtain ⟨x106, hx106, hD⟩ := bindD_elim hD
       refine wp_freeF [.val (.agg (seatC a0).toArray), .val (.bool (D.check_Seat_Formed a0)), .val (.pointer (some ⟨b1, 0, none⟩)), .val (.agg (planC a0.p).toArray), .val (.bool (D.cubicleref06_Formed a0.p)), .val (.bool (D.cubicleref06_Formed a0.p)), .val undef, .val undef, .val undef, .val (.bool false), .val (.bool false), .val undef, .val undef, .val undef, .val (.bool false), .val (.bool false), .val undef, .val undef, .val undef, .val (.bool false), .val (.bool false), .val undef, .val undef, .val undef, .val undef, .val undef, .val undef, .val (.bool false), .val (.bool ((D.check_Seat_Formed a0) == false)), .val (.bool ((D.check_Seat_Formed a0) == false)), .val (.pointer (some ⟨mg19.mb, 0, none⟩)), .val (I x106), .val (.bool (x106 == 3)), .val (.bool (x106 == 3)), .val (.bool (x106 == 3))] mixed r (by kernel_rfl) ?_ ?_
       ·
        refine fc r (fun fr1 g w' hb' hd r' => y_load_agg r' (cs := (seatC a0)) (n := 8) rfl ((hP.below (dr hb')).cell (i := 0) rfl) ta29 rfl bz) ?_
        refine fc r (fun fr1 g w' hb' hd r' => y_call r' (args := [(.agg (seatC a0).toArray)]) (lc (hd 0 rfl).1 l0) cl41 ((c_check_Seat_Formed _ a0).mono (by rintro _ w2 ⟨rfl, hb2⟩; exact ⟨_, rfl, hb2, rfl⟩))) ?_
        refine fc r (fun fr1 g w' hb' hd r' => y_fieldAddr r' (b := b1) (o := 0) rfl fo29_0 bz) ?_
        refine fc r (fun fr1 g w' hb' hd r' => y_load_agg r' (cs := (planC a0.p)) (n := 6) (hd 2 rfl).1 ((hP.below (dr hb')).cell (i := 0) rfl) ta25 rfl bz) ?_
        refine fc r (fun fr1 g w' hb' hd r' => y_call r' (args := [(.agg (planC a0.p).toArray)]) (lc (hd 3 rfl).1 l0) cl45 ((c_cubicleref06_Formed _ a0.p).mono (by rintro _ w2 ⟨rfl, hb2⟩; exact ⟨_, rfl, hb2, rfl⟩))) ?_
        refine fc r (fun fr1 g w' hb' hd r' => y_move r' (hd 4 rfl).1 bz) ?_
        refine eachF_skip true (.bool false) r rfl rfl rfl (fun g w' hd => Eq.trans (show (g 5).v = .bool (D.cubicleref06_Formed a0.p) from (hd 5 rfl).1) (congrArg Value.bool h85)) (by simp [boolOf]) (fun _ _ => ⟨Below.refl _ _, rfl⟩) ?_
        refine eachF_skip true (.bool false) r rfl rfl rfl (fun g w' hd => Eq.trans (show (g 5).v = .bool (D.cubicleref06_Formed a0.p) from (hd 5 rfl).1) (congrArg Value.bool h85)) (by simp [boolOf]) (fun _ _ => ⟨Below.refl _ _, rfl⟩) ?_
        refine eachF_skip true (.bool false) r rfl rfl rfl (fun g w' hd => Eq.trans (show (g 5).v = .bool (D.cubicleref06_Formed a0.p) from (hd 5 rfl).1) (congrArg Value.bool h85)) (by simp [boolOf]) (fun _ _ => ⟨Below.refl _ _, rfl⟩) ?_
        refine fc r (fun fr1 g w' hb' hd r' => y_pick r' (b := false) (v := (.bool false)) (Eq.trans (show (g 5).v = .bool (D.cubicleref06_Formed a0.p) from (hd 5 rfl).1) (congrArg Value.bool h85)) rfl bz) ?_
        refine fc r (fun fr1 g w' hb' hd r' => y_move r' (hd 9 rfl).1 bz) ?_
        refine eachF_skip true (.bool false) r rfl rfl rfl (fun g w' hd => Eq.trans (show (g 10).v = .bool false from (hd 10 rfl).1) (congrArg Value.bool (rfl : false = _))) (by simp [boolOf]) (fun _ _ => ⟨Below.refl _ _, rfl⟩) ?_
        refine eachF_skip true (.bool false) r rfl rfl rfl (fun g w' hd => Eq.trans (show (g 10).v = .bool false from (hd 10 rfl).1) (congrArg Value.bool (rfl : false = _))) (by simp [boolOf]) (fun _ _ => ⟨Below.refl _ _, rfl⟩) ?_
        refine eachF_skip true (.bool false) r rfl rfl rfl (fun g w' hd => Eq.trans (show (g 10).v = .bool false from (hd 10 rfl).1) (congrArg Value.bool (rfl : false = _))) (by simp [boolOf]) (fun _ _ => ⟨Below.refl _ _, rfl⟩) ?_
        refine fc r (fun fr1 g w' hb' hd r' => y_pick r' (b := false) (v := (.bool false)) (Eq.trans (show (g 10).v = .bool false from (hd 10 rfl).1) (congrArg Value.bool (rfl : false = _))) rfl bz) ?_
        refine fc r (fun fr1 g w' hb' hd r' => y_move r' (hd 14 rfl).1 bz) ?_
        refine eachF_skip true (.bool false) r rfl rfl rfl (fun g w' hd => Eq.trans (show (g 15).v = .bool false from (hd 15 rfl).1) (congrArg Value.bool (rfl : false = _))) (by simp [boolOf]) (fun _ _ => ⟨Below.refl _ _, rfl⟩) ?_
        refine eachF_skip true (.bool false) r rfl rfl rfl (fun g w' hd => Eq.trans (show (g 15).v = .bool false from (hd 15 rfl).1) (congrArg Value.bool (rfl : false = _))) (by simp [boolOf]) (fun _ _ => ⟨Below.refl _ _, rfl⟩) ?_
        refine eachF_skip true (.bool false) r rfl rfl rfl (fun g w' hd => Eq.trans (show (g 15).v = .bool false from (hd 15 rfl).1) (congrArg Value.bool (rfl : false = _))) (by simp [boolOf]) (fun _ _ => ⟨Below.refl _ _, rfl⟩) ?_
        refine fc r (fun fr1 g w' hb' hd r' => y_pick r' (b := false) (v := (.bool false)) (Eq.trans (show (g 15).v = .bool false from (hd 15 rfl).1) (congrArg Value.bool (rfl : false = _))) rfl bz) ?_
        refine fc r (fun fr1 g w' hb' hd r' => y_move r' (hd 19 rfl).1 bz) ?_
        refine eachF_skip true (.bool false) r rfl rfl rfl (fun g w' hd => Eq.trans (show (g 20).v = .bool false from (hd 20 rfl).1) (congrArg Value.bool (rfl : false = _))) (by simp [boolOf]) (fun _ _ => ⟨Below.refl _ _, rfl⟩) ?_
        refine eachF_skip true (.bool false) r rfl rfl rfl (fun g w' hd => Eq.trans (show (g 20).v = .bool false from (hd 20 rfl).1) (congrArg Value.bool (rfl : false = _))) (by simp [boolOf]) (fun _ _ => ⟨Below.refl _ _, rfl⟩) ?_
        refine eachF_skip true (.bool false) r rfl rfl rfl (fun g w' hd => Eq.trans (show (g 20).v = .bool false from (hd 20 rfl).1) (congrArg Value.bool (rfl : false = _))) (by simp [boolOf]) (fun _ _ => ⟨Below.refl _ _, rfl⟩) ?_
        refine eachF_skip true (.bool false) r rfl rfl rfl (fun g w' hd => Eq.trans (show (g 20).v = .bool false from (hd 20 rfl).1) (congrArg Value.bool (rfl : false = _))) (by simp [boolOf]) (fun _ _ => ⟨Below.refl _ _, rfl⟩) ?_
        refine eachF_skip true (.bool false) r rfl rfl rfl (fun g w' hd => Eq.trans (show (g 20).v = .bool false from (hd 20 rfl).1) (congrArg Value.bool (rfl : false = _))) (by simp [boolOf]) (fun _ _ => ⟨Below.refl _ _, rfl⟩) ?_
        refine eachF_skip true (.bool false) r rfl rfl rfl (fun g w' hd => Eq.trans (show (g 20).v = .bool false from (hd 20 rfl).1) (congrArg Value.bool (rfl : false = _))) (by simp [boolOf]) (fun _ _ => ⟨Below.refl _ _, rfl⟩) ?_
        refine fc r (fun fr1 g w' hb' hd r' => y_pick r' (b := false) (v := (.bool false)) (Eq.trans (show (g 20).v = .bool false from (hd 20 rfl).1) (congrArg Value.bool (rfl : false = _))) rfl bz) ?_
        refine fc r (fun fr1 g w' hb' hd r' => y_bin r' (hd 1 rfl).1 (hd 27 rfl).1 rfl rfl bz) ?_
        refine fc r (fun fr1 g w' hb' hd r' => y_move r' (hd 28 rfl).1 bz) ?_
        refine eachF_want true r rfl rfl rfl (fun g w' hd => Eq.trans (show (g 29).v = .bool ((D.check_Seat_Formed a0) == false) from (hd 29 rfl).1) (congrArg Value.bool h105)) (fun fr1 g w' hb' hd r' => ?_) ?_
        · exact y_move r' (v := (.pointer (some ⟨mg19.mb, 0, none⟩))) rfl ⟨Below.refl _ _, rfl⟩
        refine eachF_want true r rfl rfl rfl (fun g w' hd => Eq.trans (show (g 29).v = .bool ((D.check_Seat_Formed a0) == false) from (hd 29 rfl).1) (congrArg Value.bool h105)) (fun fr1 g w' hb' hd r' => ?_) ?_
        · exact y_call r' (args := [(.pointer (some ⟨mg19.mb, 0, none⟩))]) (lc (hd 30 rfl).1 l0) cl46 ((c_mem_Memory_Count _ x17 ((hP.below (dr hb')).mem (i := 1) rfl) hx106).mono (by rintro _ w2 ⟨rfl, hb2⟩; exact ⟨_, rfl, hb2, rfl⟩))
        refine eachF_want true r rfl rfl rfl (fun g w' hd => Eq.trans (show (g 29).v = .bool ((D.check_Seat_Formed a0) == false) from (hd 29 rfl).1) (congrArg Value.bool h105)) (fun fr1 g w' hb' hd r' => ?_) ?_
        · exact y_bin r' (u := (I x106)) (u' := (I 3)) (v := (.bool (x106 == 3))) (hd 31 rfl).1 rfl rfl rfl ⟨Below.refl _ _, rfl⟩
        refine fc r (fun fr1 g w' hb' hd r' => y_pick r' (b := true) (v := (.bool (x106 == 3))) (Eq.trans (show (g 29).v = .bool ((D.check_Seat_Formed a0) == false) from (hd 29 rfl).1) (congrArg Value.bool h105)) (hd 32 rfl).1 bz) ?_
        refine fc r (fun fr1 g w' hb' hd r' => y_assign r' (hd 33 rfl).1 bz) ?_
        exact eachF_nil
       ·
        intro fr gg w107 hb hΦ hap r
        have r := r.congr (sc ((hΦ 34 rfl).1) (sc ((hΦ 33 rfl).1) (sc ((hΦ 32 rfl).1) (sc ((hΦ 31 rfl).1) (sc ((hΦ 30 rfl).1) (sc ((hΦ 29 rfl).1) (sc ((hΦ 28 rfl).1) (sc ((hΦ 27 rfl).1) (sc ((hΦ 26 rfl).1) (sc ((hΦ 25 rfl).1) (sc ((hΦ 24 rfl).1) (sc ((hΦ 23 rfl).1) (sc ((hΦ 22 rfl).1) (sc ((hΦ 21 rfl).1) (sc ((hΦ 20 rfl).1) (sc ((hΦ 19 rfl).1) (sc ((hΦ 18 rfl).1) (sc ((hΦ 17 rfl).1) (sc ((hΦ 16 rfl).1) (sc ((hΦ 15 rfl).1) (sc ((hΦ 14 rfl).1) (sc ((hΦ 13 rfl).1) (sc ((hΦ 12 rfl).1) (sc ((hΦ 11 rfl).1) (sc ((hΦ 10 rfl).1) (sc ((hΦ 9 rfl).1) (sc ((hΦ 8 rfl).1) (sc ((hΦ 7 rfl).1) (sc ((hΦ 6 rfl).1) (sc ((hΦ 5 rfl).1) (sc ((hΦ 4 rfl).1) (sc ((hΦ 3 rfl).1) (sc ((hΦ 2 rfl).1) (sc ((hΦ 1 rfl).1) (sc ((hΦ 0 rfl).1) rfl)))))))))))))))))))))))))))))))))))
        have hP : Post No [cellC b1 ((seatC a0)).toArray 29, memK mg19 x17] w0 w107 := hP.below hb
        exact nxy84 (x106 == 3) () _ _ _ hD r (hs_cons rfl (hs_cons rfl (hs_cons rfl (hs_cons rfl (hs_cons rfl (hs_cons rfl (hs_cons rfl (hs_cons rfl (hs_cons rfl hs_nil))))))))) (hP.pick [0, 1] rfl rfl)
      ·
       have hD := (cond_f h105).symm.trans hD
       refine wp_freeF [.val (.agg (seatC a0).toArray), .val (.bool (D.check_Seat_Formed a0)), .val (.pointer (some ⟨b1, 0, none⟩)), .val (.agg (planC a0.p).toArray), .val (.bool (D.cubicleref06_Formed a0.p)), .val (.bool (D.cubicleref06_Formed a0.p)), .val undef, .val undef, .val undef, .val (.bool false), .val (.bool false), .val undef, .val undef, .val undef, .val (.bool false), .val (.bool false), .val undef, .val undef, .val undef, .val (.bool false), .val (.bool false), .val undef, .val undef, .val undef, .val undef, .val undef, .val undef, .val (.bool false), .val (.bool ((D.check_Seat_Formed a0) == false)), .val (.bool ((D.check_Seat_Formed a0) == false)), .val undef, .val undef, .val undef, .val (.bool false), .val (.bool false)] mixed r (by kernel_rfl) ?_ ?_
       ·
        refine fc r (fun fr1 g w' hb' hd r' => y_load_agg r' (cs := (seatC a0)) (n := 8) rfl ((hP.below (dr hb')).cell (i := 0) rfl) ta29 rfl bz) ?_
        refine fc r (fun fr1 g w' hb' hd r' => y_call r' (args := [(.agg (seatC a0).toArray)]) (lc (hd 0 rfl).1 l0) cl41 ((c_check_Seat_Formed _ a0).mono (by rintro _ w2 ⟨rfl, hb2⟩; exact ⟨_, rfl, hb2, rfl⟩))) ?_
        refine fc r (fun fr1 g w' hb' hd r' => y_fieldAddr r' (b := b1) (o := 0) rfl fo29_0 bz) ?_
        refine fc r (fun fr1 g w' hb' hd r' => y_load_agg r' (cs := (planC a0.p)) (n := 6) (hd 2 rfl).1 ((hP.below (dr hb')).cell (i := 0) rfl) ta25 rfl bz) ?_
        refine fc r (fun fr1 g w' hb' hd r' => y_call r' (args := [(.agg (planC a0.p).toArray)]) (lc (hd 3 rfl).1 l0) cl45 ((c_cubicleref06_Formed _ a0.p).mono (by rintro _ w2 ⟨rfl, hb2⟩; exact ⟨_, rfl, hb2, rfl⟩))) ?_
        refine fc r (fun fr1 g w' hb' hd r' => y_move r' (hd 4 rfl).1 bz) ?_
        refine eachF_skip true (.bool false) r rfl rfl rfl (fun g w' hd => Eq.trans (show (g 5).v = .bool (D.cubicleref06_Formed a0.p) from (hd 5 rfl).1) (congrArg Value.bool h85)) (by simp [boolOf]) (fun _ _ => ⟨Below.refl _ _, rfl⟩) ?_
        refine eachF_skip true (.bool false) r rfl rfl rfl (fun g w' hd => Eq.trans (show (g 5).v = .bool (D.cubicleref06_Formed a0.p) from (hd 5 rfl).1) (congrArg Value.bool h85)) (by simp [boolOf]) (fun _ _ => ⟨Below.refl _ _, rfl⟩) ?_
        refine eachF_skip true (.bool false) r rfl rfl rfl (fun g w' hd => Eq.trans (show (g 5).v = .bool (D.cubicleref06_Formed a0.p) from (hd 5 rfl).1) (congrArg Value.bool h85)) (by simp [boolOf]) (fun _ _ => ⟨Below.refl _ _, rfl⟩) ?_
        refine fc r (fun fr1 g w' hb' hd r' => y_pick r' (b := false) (v := (.bool false)) (Eq.trans (show (g 5).v = .bool (D.cubicleref06_Formed a0.p) from (hd 5 rfl).1) (congrArg Value.bool h85)) rfl bz) ?_
        refine fc r (fun fr1 g w' hb' hd r' => y_move r' (hd 9 rfl).1 bz) ?_
        refine eachF_skip true (.bool false) r rfl rfl rfl (fun g w' hd => Eq.trans (show (g 10).v = .bool false from (hd 10 rfl).1) (congrArg Value.bool (rfl : false = _))) (by simp [boolOf]) (fun _ _ => ⟨Below.refl _ _, rfl⟩) ?_
        refine eachF_skip true (.bool false) r rfl rfl rfl (fun g w' hd => Eq.trans (show (g 10).v = .bool false from (hd 10 rfl).1) (congrArg Value.bool (rfl : false = _))) (by simp [boolOf]) (fun _ _ => ⟨Below.refl _ _, rfl⟩) ?_
        refine eachF_skip true (.bool false) r rfl rfl rfl (fun g w' hd => Eq.trans (show (g 10).v = .bool false from (hd 10 rfl).1) (congrArg Value.bool (rfl : false = _))) (by simp [boolOf]) (fun _ _ => ⟨Below.refl _ _, rfl⟩) ?_
        refine fc r (fun fr1 g w' hb' hd r' => y_pick r' (b := false) (v := (.bool false)) (Eq.trans (show (g 10).v = .bool false from (hd 10 rfl).1) (congrArg Value.bool (rfl : false = _))) rfl bz) ?_
        refine fc r (fun fr1 g w' hb' hd r' => y_move r' (hd 14 rfl).1 bz) ?_
        refine eachF_skip true (.bool false) r rfl rfl rfl (fun g w' hd => Eq.trans (show (g 15).v = .bool false from (hd 15 rfl).1) (congrArg Value.bool (rfl : false = _))) (by simp [boolOf]) (fun _ _ => ⟨Below.refl _ _, rfl⟩) ?_
        refine eachF_skip true (.bool false) r rfl rfl rfl (fun g w' hd => Eq.trans (show (g 15).v = .bool false from (hd 15 rfl).1) (congrArg Value.bool (rfl : false = _))) (by simp [boolOf]) (fun _ _ => ⟨Below.refl _ _, rfl⟩) ?_
        refine eachF_skip true (.bool false) r rfl rfl rfl (fun g w' hd => Eq.trans (show (g 15).v = .bool false from (hd 15 rfl).1) (congrArg Value.bool (rfl : false = _))) (by simp [boolOf]) (fun _ _ => ⟨Below.refl _ _, rfl⟩) ?_
        refine fc r (fun fr1 g w' hb' hd r' => y_pick r' (b := false) (v := (.bool false)) (Eq.trans (show (g 15).v = .bool false from (hd 15 rfl).1) (congrArg Value.bool (rfl : false = _))) rfl bz) ?_
        refine fc r (fun fr1 g w' hb' hd r' => y_move r' (hd 19 rfl).1 bz) ?_
        refine eachF_skip true (.bool false) r rfl rfl rfl (fun g w' hd => Eq.trans (show (g 20).v = .bool false from (hd 20 rfl).1) (congrArg Value.bool (rfl : false = _))) (by simp [boolOf]) (fun _ _ => ⟨Below.refl _ _, rfl⟩) ?_
        refine eachF_skip true (.bool false) r rfl rfl rfl (fun g w' hd => Eq.trans (show (g 20).v = .bool false from (hd 20 rfl).1) (congrArg Value.bool (rfl : false = _))) (by simp [boolOf]) (fun _ _ => ⟨Below.refl _ _, rfl⟩) ?_
        refine eachF_skip true (.bool false) r rfl rfl rfl (fun g w' hd => Eq.trans (show (g 20).v = .bool false from (hd 20 rfl).1) (congrArg Value.bool (rfl : false = _))) (by simp [boolOf]) (fun _ _ => ⟨Below.refl _ _, rfl⟩) ?_
        refine eachF_skip true (.bool false) r rfl rfl rfl (fun g w' hd => Eq.trans (show (g 20).v = .bool false from (hd 20 rfl).1) (congrArg Value.bool (rfl : false = _))) (by simp [boolOf]) (fun _ _ => ⟨Below.refl _ _, rfl⟩) ?_
        refine eachF_skip true (.bool false) r rfl rfl rfl (fun g w' hd => Eq.trans (show (g 20).v = .bool false from (hd 20 rfl).1) (congrArg Value.bool (rfl : false = _))) (by simp [boolOf]) (fun _ _ => ⟨Below.refl _ _, rfl⟩) ?_
        refine eachF_skip true (.bool false) r rfl rfl rfl (fun g w' hd => Eq.trans (show (g 20).v = .bool false from (hd 20 rfl).1) (congrArg Value.bool (rfl : false = _))) (by simp [boolOf]) (fun _ _ => ⟨Below.refl _ _, rfl⟩) ?_
        refine fc r (fun fr1 g w' hb' hd r' => y_pick r' (b := false) (v := (.bool false)) (Eq.trans (show (g 20).v = .bool false from (hd 20 rfl).1) (congrArg Value.bool (rfl : false = _))) rfl bz) ?_
        refine fc r (fun fr1 g w' hb' hd r' => y_bin r' (hd 1 rfl).1 (hd 27 rfl).1 rfl rfl bz) ?_
        refine fc r (fun fr1 g w' hb' hd r' => y_move r' (hd 28 rfl).1 bz) ?_
        refine eachF_skip true (.bool false) r rfl rfl rfl (fun g w' hd => Eq.trans (show (g 29).v = .bool ((D.check_Seat_Formed a0) == false) from (hd 29 rfl).1) (congrArg Value.bool h105)) (by simp [boolOf]) (fun _ _ => ⟨Below.refl _ _, rfl⟩) ?_
        refine eachF_skip true (.bool false) r rfl rfl rfl (fun g w' hd => Eq.trans (show (g 29).v = .bool ((D.check_Seat_Formed a0) == false) from (hd 29 rfl).1) (congrArg Value.bool h105)) (by simp [boolOf]) (fun _ _ => ⟨Below.refl _ _, rfl⟩) ?_
        refine eachF_skip true (.bool false) r rfl rfl rfl (fun g w' hd => Eq.trans (show (g 29).v = .bool ((D.check_Seat_Formed a0) == false) from (hd 29 rfl).1) (congrArg Value.bool h105)) (by simp [boolOf]) (fun _ _ => ⟨Below.refl _ _, rfl⟩) ?_
        refine fc r (fun fr1 g w' hb' hd r' => y_pick r' (b := false) (v := (.bool false)) (Eq.trans (show (g 29).v = .bool ((D.check_Seat_Formed a0) == false) from (hd 29 rfl).1) (congrArg Value.bool h105)) rfl bz) ?_
        refine fc r (fun fr1 g w' hb' hd r' => y_assign r' (hd 33 rfl).1 bz) ?_
        exact eachF_nil
       ·
        intro fr gg w108 hb hΦ hap r
        have r := r.congr (sc ((hΦ 34 rfl).1) (sc ((hΦ 33 rfl).1) (sc ((hΦ 32 rfl).1) (sc ((hΦ 31 rfl).1) (sc ((hΦ 30 rfl).1) (sc ((hΦ 29 rfl).1) (sc ((hΦ 28 rfl).1) (sc ((hΦ 27 rfl).1) (sc ((hΦ 26 rfl).1) (sc ((hΦ 25 rfl).1) (sc ((hΦ 24 rfl).1) (sc ((hΦ 23 rfl).1) (sc ((hΦ 22 rfl).1) (sc ((hΦ 21 rfl).1) (sc ((hΦ 20 rfl).1) (sc ((hΦ 19 rfl).1) (sc ((hΦ 18 rfl).1) (sc ((hΦ 17 rfl).1) (sc ((hΦ 16 rfl).1) (sc ((hΦ 15 rfl).1) (sc ((hΦ 14 rfl).1) (sc ((hΦ 13 rfl).1) (sc ((hΦ 12 rfl).1) (sc ((hΦ 11 rfl).1) (sc ((hΦ 10 rfl).1) (sc ((hΦ 9 rfl).1) (sc ((hΦ 8 rfl).1) (sc ((hΦ 7 rfl).1) (sc ((hΦ 6 rfl).1) (sc ((hΦ 5 rfl).1) (sc ((hΦ 4 rfl).1) (sc ((hΦ 3 rfl).1) (sc ((hΦ 2 rfl).1) (sc ((hΦ 1 rfl).1) (sc ((hΦ 0 rfl).1) rfl)))))))))))))))))))))))))))))))))))
        have hP : Post No [cellC b1 ((seatC a0)).toArray 29, memK mg19 x17] w0 w108 := hP.below hb
        exact nxy84 false () _ _ _ hD r (hs_cons rfl (hs_cons rfl (hs_cons rfl (hs_cons rfl (hs_cons rfl (hs_cons rfl (hs_cons rfl (hs_cons rfl (hs_cons rfl hs_nil))))))))) (hP.pick [0, 1] rfl rfl)
    ·
     rintro x109 γ110 fr w111 g r hP hD
     have hP : Post No [cellC b1 ((seatC a0)).toArray 29, memK mg19 x17] w0 w111 := hP
     refine wp_ret ?_
     have hv : x109 = res := Option.some.inj hD
     try dsimp only [Exit.then, Exit.inBlock]
     refine ret_tmp (fn := Tryz.f7) r (t := 6) rfl (v := (.bool x109)) rfl ?_
     subst hv
     exact ⟨rfl, hP.chg.below⟩

end Go.Proofs.YtjkinpbfmihhdaaGreat.Wk

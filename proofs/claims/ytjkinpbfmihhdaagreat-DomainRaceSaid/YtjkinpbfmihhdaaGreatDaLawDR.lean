/- Written by a program of ours (wip/gen.py): a law -/
import Derived.Test.YtjkinpbfmihhdaaGreatDaL17
set_option linter.all false
set_option linter.unusedVariables false
set_option maxRecDepth 20000
set_option maxHeartbeats 2000000
namespace Go.Proofs.YtjkinpbfmihhdaaGreat.Wk
open Go.RowKit
theorem cl100 : callable Tryz.prog 100 = true := by kernel_rfl

theorem cl101 : callable Tryz.prog 101 = true := by kernel_rfl

theorem cl97 : callable Tryz.prog 97 = true := by kernel_rfl

theorem fo32_1 : fieldOff Tryz.prog 32 1 1 = true := by kernel_rfl

def D.cubiclelaw17_DomainRace (fu : Nat) (a0 : Bool) (a1 : Bool) (a2 : List Bool) : Option (Bool) := (Option.bind ((D.cubiclelaw17_awake fu ).bind (fun (x2 : Bool) => (bif (!x2) then (some true) else (some (decide ((a2.length : Int) > 60)))))) (fun (x5 : Bool) => (bif x5 then ((D.cubiclelaw17_awake fu ).bind (fun (x9 : Bool) => (some x9))) else ((D.cubiclelaw09_Laid fu (⟨6, 2, 7, 2, 1, 9⟩ : Plan)).bind (fun (x17 : Mem) => ((D.cubiclelaw17_race fu (fu, (D.domain_Make (fu + 1) (⟨(⟨6, 2, 7, 2, 1, 9⟩ : Plan), 0, 0⟩ : Seat) (D.cubiclelaw17_kind a0))) (fu, (D.domain_Make (fu + 1) (⟨(⟨6, 2, 7, 2, 1, 9⟩ : Plan), 0, 1⟩ : Seat) (D.cubiclelaw17_kind a1))) x17 a2).bind (fun (x23 : Res × Res × Bool × Mem) => ((D.domain_Kinds fu (⟨6, 2, 7, 2, 1, 9⟩ : Plan) x23.2.2.2 0).bind (fun (x27 : List Int) => (Option.bind (bif x23.2.2.1 then (bif (x23.1.e == 0) then (bif (x23.2.1.e == 0) then (bif ((IntKind.u64.wrap (x23.1.v + x23.2.1.v)) == 1) then (bif ((x27.length : Int) == 2) then ((getI x27 x23.1.v).bind (fun (x37 : Int) => (bif (x37 == (D.cubiclelaw17_kind a0)) then ((getI x27 x23.2.1.v).bind (fun (x39 : Int) => (some (x39 == (D.cubiclelaw17_kind a1))))) else (some false)))) else (some false)) else (some false)) else (some false)) else (some false)) else (some false)) (fun (x47 : Bool) => (some x47))))))))))))

theorem c_cubiclelaw17_DomainRace {fu : Nat} (w0 : World) (a0 : Bool) (a1 : Bool) {a2_v : Value} (a2 : List Bool) (a2_h : RoAt 4 1 boolE a2_v a2 w0) {res : Bool} (hD : D.cubiclelaw17_DomainRace fu a0 a1 a2 = some res) :
    Calls Tryz.prog 24 #[.bool a0, .bool a1, a2_v] w0 (PureRes (.bool res) w0) := by
 refine enter Tryz.func24 rfl 90 rfl rfl fun fr r => ?_
 have hP : Post No [] w0 w0 := Post.nil w0
 have hP : Post No [roK 4 1 boolE a2_v a2] w0 w0 := hP.addRo norw_nil a2_h rfl a2_h.lt
 unfold D.cubiclelaw17_DomainRace at hD
 refine wsr ?_
 refine seq_val (.bool false) r (fun R => y_assign r rfl) rfl fun fr r => ?_
 refine wn ?_
 refine wp_seq ?_
 refine wp_seq ?_
 refine wp_joinG (N := 90) (Y := Bool) (G := Unit) (fun x γ => [(0, (.bool a0)), (1, (.bool a1)), (2, a2_v), (6, (.bool false)), (19, (.bool x))]) (fun x γ w => Post No [roK 4 1 boolE a2_v a2] w0 w) hD ?_ ?_
 ·
  rintro y1 RPy1 nxy1 hD
  refine wp_region_lit ?_
  obtain ⟨x2, hx2, hD⟩ := bindD_elim hD
  refine seq_call r (c_cubiclelaw17_awake w0  hx2) (fun R hc => y_call r rfl cl97 hc) rfl ?_
  rintro _ w3 ⟨rfl, hb⟩
  refine ⟨_, rfl, fun fr r => ?_⟩
  have hP : Post No [roK 4 1 boolE a2_v a2] w0 w3 := hP.below hb
  refine seq_val (.bool (!x2)) r (fun R => y_un r (u := (.bool x2)) rfl rfl) rfl fun fr r => ?_
  refine seq_val (.bool (!x2)) r (fun R => y_move r rfl) rfl fun fr r => ?_
  refine seq_split (!x2) (fun h4 => ?_) (fun h4 => ?_)
  ·
   have hD := (cond_t h4).symm.trans hD
   refine s0 r h4 fun fr r => ?_
   refine s0 r h4 fun fr r => ?_
   refine s0 r h4 fun fr r => ?_
   refine seq_val (.bool true) r (fun R => y_pick r (b := true) (congrArg Value.bool h4) rfl) rfl fun fr r => ?_
   refine wn ?_
   exact nxy1 true () _ _ _ hD r (hs_cons rfl (hs_cons rfl (hs_cons rfl (hs_cons rfl (hs_cons rfl hs_nil))))) (hP.pick [0] rfl rfl)
  ·
   have hD := (cond_f h4).symm.trans hD
   refine s1 r h4 ?_
   refine seq_val a2_v r (fun R => y_move r rfl) rfl fun fr r => ?_
   refine s1 r h4 ?_
   refine seq_val (I (a2.length : Int)) r (fun R => y_rowLen r (hP.ro (i := 0) rfl) is55 rfl) rfl fun fr r => ?_
   refine s1 r h4 ?_
   refine seq_val _ r (fun R => y_bin r rfl rfl rfl rfl) rfl fun fr r => ?_
   refine seq_val (.bool (decide ((a2.length : Int) > 60))) r (fun R => y_pick r (b := false) (congrArg Value.bool h4) rfl) rfl fun fr r => ?_
   refine wn ?_
   exact nxy1 (decide ((a2.length : Int) > 60)) () _ _ _ hD r (hs_cons rfl (hs_cons rfl (hs_cons rfl (hs_cons rfl (hs_cons rfl hs_nil))))) (hP.pick [0] rfl rfl)
 ·
  rintro x5 γ6 fr w7 g r hP hD
  have hP : Post No [roK 4 1 boolE a2_v a2] w0 w7 := hP
  refine wp_cond_split (t := x5) (r.ev rfl) (fun h8 => ?_) (fun h8 => ?_)
  ·
   have hD := (cond_t h8).symm.trans hD
   refine wsr ?_
   obtain ⟨x9, hx9, hD⟩ := bindD_elim hD
   refine seq_call r (c_cubiclelaw17_awake w7  hx9) (fun R hc => y_call r rfl cl97 hc) rfl ?_
   rintro _ w10 ⟨rfl, hb⟩
   refine ⟨_, rfl, fun fr r => ?_⟩
   have hP : Post No [roK 4 1 boolE a2_v a2] w0 w10 := hP.below hb
   refine seq_val (.bool x9) r (fun R => y_assign r rfl) rfl fun fr r => ?_
   refine wn ?_
   refine wp_ret ?_
   have hv : x9 = res := Option.some.inj hD
   try dsimp only [Exit.then, Exit.inBlock]
   refine ret_tmp (fn := Tryz.f24) r (t := 6) rfl (v := (.bool x9)) rfl ?_
   subst hv
   exact ⟨rfl, hP.chg.below⟩
  ·
   have hD := (cond_f h8).symm.trans hD
   refine wp_skip ?_
   refine wsr ?_
   refine seq_val (.agg (planC (⟨6, 2, 7, 2, 1, 9⟩ : Plan)).toArray) r (fun R => y_build r (by kernel_rfl)) rfl fun fr r => ?_
   refine seq_new (.cells ((planC (⟨0, 0, 0, 0, 0, 0⟩ : Plan))).toArray 25 (0, 0)) r (fun R => y_alloc tz25) rfl fun fr b11 w12 n13 r => ?_
   have hP : Post No [roK 4 1 boolE a2_v a2, cellC b11 ((planC (⟨0, 0, 0, 0, 0, 0⟩ : Plan))).toArray 25] w0 w12 := hP.new n13
   refine seq_upd (.cells ((planC (⟨6, 2, 7, 2, 1, 9⟩ : Plan))).toArray 25 (0, 0)) r (fun R => y_store r (o := 0) (v := (.agg (planC (⟨6, 2, 7, 2, 1, 9⟩ : Plan)).toArray)) rfl rfl (hP.cell (i := 1) rfl) ts25 (Nat.le_of_ble_eq_true rfl) rfl rfl) rfl fun fr w15 u16 r => ?_
   have hP : Post No [roK 4 1 boolE a2_v a2, cellC b11 ((planC (⟨6, 2, 7, 2, 1, 9⟩ : Plan))).toArray 25] w0 w15 := hP.upd (i := 1) rfl u16
   refine wn ?_
   refine wsr ?_
   refine seq_val (.agg (planC (⟨6, 2, 7, 2, 1, 9⟩ : Plan)).toArray) r (fun R => y_load_agg r (cs := (planC (⟨6, 2, 7, 2, 1, 9⟩ : Plan))) (n := 6) rfl (hP.cell (i := 1) rfl) ta25 rfl) rfl fun fr r => ?_
   obtain ⟨x17, hx17, hD⟩ := bindD_elim hD
   refine seq_call r (c_cubiclelaw09_Laid w15 (⟨6, 2, 7, 2, 1, 9⟩ : Plan) hx17) (fun R hc => y_call r rfl cl28 hc) rfl ?_
   rintro _ w18 ⟨mg19, rfl, hq⟩
   refine ⟨_, rfl, fun fr r => ?_⟩
   have hP : Post No [roK 4 1 boolE a2_v a2, cellC b11 ((planC (⟨6, 2, 7, 2, 1, 9⟩ : Plan))).toArray 25, memK mg19 x17] w0 w18 := hP.add hq
   refine seq_val (.pointer (some ⟨mg19.mb, 0, none⟩)) r (fun R => y_assign r rfl) rfl fun fr r => ?_
   refine wn ?_
   refine wp_seq ?_
   refine wsr ?_
   refine seq_val (.pointer (some ⟨mg19.mb, 0, none⟩)) r (fun R => y_move r rfl) rfl fun fr r => ?_
   refine seq_val _ r (fun R => y_bin r rfl rfl rfl rfl) rfl fun fr r => ?_
   refine wn ?_
   refine wp_cond_split (t := false) (r.ev rfl) (fun h => absurd ((rfl : false = _).symm.trans h) (by decide)) (fun _ => ?_)
   refine wp_skip ?_
   refine wp_seq ?_
   obtain ⟨x23, hx23, hD⟩ := bindD_elim hD
   refine wp_freeE mg19.bs [.val (.agg (planC (⟨6, 2, 7, 2, 1, 9⟩ : Plan)).toArray), .val (.agg (seatC (⟨(⟨6, 2, 7, 2, 1, 9⟩ : Plan), 0, 0⟩ : Seat)).toArray), .val (.bool a0), .val (I (D.cubiclelaw17_kind a0)), .pred (PrP Tryz.prog encRes (fu, (D.domain_Make (fu + 1) (⟨(⟨6, 2, 7, 2, 1, 9⟩ : Plan), 0, 0⟩ : Seat) (D.cubiclelaw17_kind a0)))) (PrP.st _), .val (.agg (planC (⟨6, 2, 7, 2, 1, 9⟩ : Plan)).toArray), .val (.agg (seatC (⟨(⟨6, 2, 7, 2, 1, 9⟩ : Plan), 0, 1⟩ : Seat)).toArray), .val (.bool a1), .val (I (D.cubiclelaw17_kind a1)), .pred (PrP Tryz.prog encRes (fu, (D.domain_Make (fu + 1) (⟨(⟨6, 2, 7, 2, 1, 9⟩ : Plan), 0, 1⟩ : Seat) (D.cubiclelaw17_kind a1)))) (PrP.st _), .val (.pointer (some ⟨mg19.mb, 0, none⟩)), .val a2_v, .eff (EffP w18.heap.size (memK mg19 x23.2.2.2) (fun _ : Unit => (.tuple #[(.agg (resC x23.1).toArray), (.agg (resC x23.2.1).toArray), (.bool x23.2.2.1)])) (fun _ : Unit => [])) (EffP.st _ _ _ _), .val (.tuple #[(.agg (resC x23.1).toArray), (.agg (resC x23.2.1).toArray), (.bool x23.2.2.1)]), .val (.agg (resC x23.1).toArray), .val (.agg (resC x23.2.1).toArray), .val (.bool x23.2.2.1), .cell 32 2, .cell 32 2, .stored 17 ((resC x23.1)).toArray 32 2 rfl, .stored 18 ((resC x23.2.1)).toArray 32 2 rfl, .val (.bool x23.2.2.1)] mixed r (fun b hb => hP.sep.lt (i := 2) rfl (.inl hb)) (by kernel_rfl) ?_ ?_
   ·
    refine eachE_late r rfl (fun fr1 g w' hk' hd r' => ?_) ?_
    · exact y_load_agg r' (cs := (planC (⟨6, 2, 7, 2, 1, 9⟩ : Plan))) (n := 6) rfl (hP.cellK (j := 2) rfl (drK hk') (i := 1) rfl rfl) ta25 rfl ⟨Below.refl _ _, rfl⟩
    refine eachE_late r rfl (fun fr1 g w' hk' hd r' => ?_) ?_
    · exact y_build r' (v := (.agg (seatC (⟨(⟨6, 2, 7, 2, 1, 9⟩ : Plan), 0, 0⟩ : Seat)).toArray)) (bs1 (congrArg (fun z => (0, z)) (hd 0 rfl).1) (by kernel_rfl)) ⟨Below.refl _ _, rfl⟩
    refine eachE_late r rfl (fun fr1 g w' hk' hd r' => ?_) ?_
    · exact y_move r' (v := (.bool a0)) rfl ⟨Below.refl _ _, rfl⟩
    refine eachE_late r rfl (fun fr1 g w' hk' hd r' => ?_) ?_
    · exact y_call r' (args := [(.bool a0)]) (lc (hd 2 rfl).1 l0) cl101 ((c_cubiclelaw17_kind _ a0).mono (by rintro _ w2 ⟨rfl, hb2⟩; exact ⟨_, rfl, hb2, rfl⟩))
    refine eachE_early r rfl (by kernel_rfl) (fun fr1 g w' hb' hd r' => ?_) ?_
    · exact y_call r' (args := [(.agg (seatC (⟨(⟨6, 2, 7, 2, 1, 9⟩ : Plan), 0, 0⟩ : Seat)).toArray), (I (D.cubiclelaw17_kind a0))]) (lc (hd 1 rfl).1 (lc (hd 3 rfl).1 l0)) cl99 ((c_domain_Make (F := No) (n := fu) (j := fu + 1) (fun _ h => h.elim) (by omega) (⟨(⟨6, 2, 7, 2, 1, 9⟩ : Plan), 0, 0⟩ : Seat) (D.cubiclelaw17_kind a0)).mono (by rintro _ w2 ⟨y, rfl, hb2, hr2⟩; exact ⟨_, rfl, hb2, fresh_prog hr2⟩))
    refine eachE_late r rfl (fun fr1 g w' hk' hd r' => ?_) ?_
    · exact y_load_agg r' (cs := (planC (⟨6, 2, 7, 2, 1, 9⟩ : Plan))) (n := 6) rfl (hP.cellK (j := 2) rfl (drK hk') (i := 1) rfl rfl) ta25 rfl ⟨Below.refl _ _, rfl⟩
    refine eachE_late r rfl (fun fr1 g w' hk' hd r' => ?_) ?_
    · exact y_build r' (v := (.agg (seatC (⟨(⟨6, 2, 7, 2, 1, 9⟩ : Plan), 0, 1⟩ : Seat)).toArray)) (bs2 (congrArg (fun z => (0, z)) (hd 5 rfl).1) (rfl) (by kernel_rfl)) ⟨Below.refl _ _, rfl⟩
    refine eachE_late r rfl (fun fr1 g w' hk' hd r' => ?_) ?_
    · exact y_move r' (v := (.bool a1)) rfl ⟨Below.refl _ _, rfl⟩
    refine eachE_late r rfl (fun fr1 g w' hk' hd r' => ?_) ?_
    · exact y_call r' (args := [(.bool a1)]) (lc (hd 7 rfl).1 l0) cl101 ((c_cubiclelaw17_kind _ a1).mono (by rintro _ w2 ⟨rfl, hb2⟩; exact ⟨_, rfl, hb2, rfl⟩))
    refine eachE_early r rfl (by kernel_rfl) (fun fr1 g w' hb' hd r' => ?_) ?_
    · exact y_call r' (args := [(.agg (seatC (⟨(⟨6, 2, 7, 2, 1, 9⟩ : Plan), 0, 1⟩ : Seat)).toArray), (I (D.cubiclelaw17_kind a1))]) (lc (hd 6 rfl).1 (lc (hd 8 rfl).1 l0)) cl99 ((c_domain_Make (F := No) (n := fu) (j := fu + 1) (fun _ h => h.elim) (by omega) (⟨(⟨6, 2, 7, 2, 1, 9⟩ : Plan), 0, 1⟩ : Seat) (D.cubiclelaw17_kind a1)).mono (by rintro _ w2 ⟨y, rfl, hb2, hr2⟩; exact ⟨_, rfl, hb2, fresh_prog hr2⟩))
    refine eachE_early r rfl (by kernel_rfl) (fun fr1 g w' hb' hd r' => ?_) ?_
    · exact y_move r' (v := (.pointer (some ⟨mg19.mb, 0, none⟩))) rfl ⟨Below.refl _ _, rfl⟩
    refine eachE_early r rfl (by kernel_rfl) (fun fr1 g w' hb' hd r' => ?_) ?_
    · exact y_move r' (v := a2_v) rfl ⟨Below.refl _ _, rfl⟩
    refine eachE_early r rfl (by kernel_rfl) (fun fr1 g w' hb' hd r' => ?_) ?_
    · exact y_call r' (args := [(g 4).v, (g 9).v, (.pointer (some ⟨mg19.mb, 0, none⟩)), a2_v]) (lc rfl (lc rfl (lc (hd 10 rfl).1 (lc (hd 11 rfl).1 l0)))) cl100 ((c_cubiclelaw17_race _ (fu, (D.domain_Make (fu + 1) (⟨(⟨6, 2, 7, 2, 1, 9⟩ : Plan), 0, 0⟩ : Seat) (D.cubiclelaw17_kind a0))) (fu, (D.domain_Make (fu + 1) (⟨(⟨6, 2, 7, 2, 1, 9⟩ : Plan), 0, 1⟩ : Seat) (D.cubiclelaw17_kind a1))) x17 a2 (Sep.beside2 (hd 4 rfl).1 (hd 9 rfl).1 ((hd 4 rfl).2.2.2 9 rfl (by decide)) ((hP.below (dr hb')).sep.pk [2, 0] rfl rfl) (by intro c hc b hb; simp only [List.mem_cons, List.not_mem_nil, or_false] at hc; rcases hc with rfl | rfl; exact hP.sep.lt (i := 2) rfl hb; exact hP.sep.lt (i := 0) rfl hb) (hd 4 rfl).2.1 (hd 9 rfl).2.1) hx23).mono (by rintro _ w2 ⟨rfl, hq⟩; exact ⟨_, rfl, hq.chg.kept, EffP.of () hq rfl (fun b hb => hP.sep.lt (i := 2) rfl hb)⟩))
    refine eachE_late r rfl (fun fr1 g w' hk' hd r' => ?_) ?_
    · exact y_move r' (v := (.tuple #[(.agg (resC x23.1).toArray), (.agg (resC x23.2.1).toArray), (.bool x23.2.2.1)])) (EffP.val (hd 12 rfl).1) ⟨Below.refl _ _, rfl⟩
    refine eachE_late r rfl (fun fr1 g w' hk' hd r' => ?_) ?_
    · exact y_extract r' (vs := #[(.agg (resC x23.1).toArray), (.agg (resC x23.2.1).toArray), (.bool x23.2.2.1)]) (hd 13 rfl).1 rfl ⟨Below.refl _ _, rfl⟩
    refine eachE_late r rfl (fun fr1 g w' hk' hd r' => ?_) ?_
    · exact y_extract r' (vs := #[(.agg (resC x23.1).toArray), (.agg (resC x23.2.1).toArray), (.bool x23.2.2.1)]) (hd 13 rfl).1 rfl ⟨Below.refl _ _, rfl⟩
    refine eachE_late r rfl (fun fr1 g w' hk' hd r' => ?_) ?_
    · exact y_extract r' (vs := #[(.agg (resC x23.1).toArray), (.agg (resC x23.2.1).toArray), (.bool x23.2.2.1)]) (hd 13 rfl).1 rfl ⟨Below.refl _ _, rfl⟩
    refine eachE_late r rfl (fun fr1 g w' hk' hd r' => ?_) ?_
    · exact y_alloc tz32 (fun b w2 n2 => ⟨n2.below, b, rfl, n2.eq, _, n2.at_, rfl⟩)
    refine eachE_late r rfl (fun fr1 g w' hk' hd r' => ?_) ?_
    · exact y_alloc tz32 (fun b w2 n2 => ⟨n2.below, b, rfl, n2.eq, _, n2.at_, rfl⟩)
    refine eachE_late r rfl (fun fr1 g w' hk' hd r' => ?_) ?_
    · obtain ⟨hp, _, c, hc, hn⟩ := (hd 17 rfl).1; exact y_store r' (o := 0) (c := c) (v := (.agg (resC x23.1).toArray)) hp (hd 14 rfl).1 hc ts32 (by rw [hn]; exact Nat.le_of_ble_eq_true rfl) rfl (over2_full (hn.trans rfl)) (fun w2 u2 => ⟨u2, rfl⟩)
    refine eachE_late r rfl (fun fr1 g w' hk' hd r' => ?_) ?_
    · obtain ⟨hp, _, c, hc, hn⟩ := (hd 18 rfl).1; exact y_store r' (o := 0) (c := c) (v := (.agg (resC x23.2.1).toArray)) hp (hd 15 rfl).1 hc ts32 (by rw [hn]; exact Nat.le_of_ble_eq_true rfl) rfl (over2_full (hn.trans rfl)) (fun w2 u2 => ⟨u2, rfl⟩)
    refine eachE_late r rfl (fun fr1 g w' hk' hd r' => ?_) ?_
    · exact y_assign r' (v := (.bool x23.2.2.1)) (hd 16 rfl).1 ⟨Below.refl _ _, rfl⟩
    exact eachF_nil
   ·
    intro fr gg w26 hb hΦ hap r
    obtain ⟨v21, hv4⟩ : ∃ v, v = (gg 4).v := ⟨_, rfl⟩
    have g4 : (gg 4).v = v21 := hv4.symm
    have hs4 : Fresh [progK Tryz.prog encRes (fu, (D.domain_Make (fu + 1) (⟨(⟨6, 2, 7, 2, 1, 9⟩ : Plan), 0, 0⟩ : Seat) (D.cubiclelaw17_kind a0))) v21 (rg (gg 4).lo (gg 4).hi)] (gg 4).lo (gg 4).hi w26 := by subst hv4; exact (hΦ 4 rfl).1
    obtain ⟨v22, hv9⟩ : ∃ v, v = (gg 9).v := ⟨_, rfl⟩
    have g9 : (gg 9).v = v22 := hv9.symm
    have hs9 : Fresh [progK Tryz.prog encRes (fu, (D.domain_Make (fu + 1) (⟨(⟨6, 2, 7, 2, 1, 9⟩ : Plan), 0, 1⟩ : Seat) (D.cubiclelaw17_kind a1))) v22 (rg (gg 9).lo (gg 9).hi)] (gg 9).lo (gg 9).hi w26 := by subst hv9; exact (hΦ 9 rfl).1
    obtain ⟨⟨⟩, g12, hcE, _, hs12⟩ := (hΦ 12 rfl).1
    obtain ⟨b24, ee_b24⟩ : ∃ b, b = (gg 17).lo := ⟨_, rfl⟩
    have g17 : (gg 17).v = (.pointer (some ⟨b24, 0, none⟩)) := by rw [ee_b24]; exact (hΦ 17 rfl).1.1
    have h_b24 : w26.heap[b24]? = some (.cells ((resC x23.1)).toArray 32 (0, 0)) := by rw [ee_b24]; exact (hΦ 19 rfl).1.2
    have hs17 : Fresh [cellC b24 ((resC x23.1)).toArray 32] (gg 17).lo (gg 17).hi w26 := by subst ee_b24; exact Fresh.cell (hΦ 17 rfl).1.2.1 h_b24
    obtain ⟨b25, ee_b25⟩ : ∃ b, b = (gg 18).lo := ⟨_, rfl⟩
    have g18 : (gg 18).v = (.pointer (some ⟨b25, 0, none⟩)) := by rw [ee_b25]; exact (hΦ 18 rfl).1.1
    have h_b25 : w26.heap[b25]? = some (.cells ((resC x23.2.1)).toArray 32 (0, 0)) := by rw [ee_b25]; exact (hΦ 20 rfl).1.2
    have hs18 : Fresh [cellC b25 ((resC x23.2.1)).toArray 32] (gg 18).lo (gg 18).hi w26 := by subst ee_b25; exact Fresh.cell (hΦ 18 rfl).1.2.1 h_b25
    have r := r.congr (sc ((hΦ 21 rfl).1) (sc g18 (sc g17 (sc ((hΦ 16 rfl).1) (sc ((hΦ 15 rfl).1) (sc ((hΦ 14 rfl).1) (sc ((hΦ 13 rfl).1) (sc g12 (sc ((hΦ 11 rfl).1) (sc ((hΦ 10 rfl).1) (sc g9 (sc ((hΦ 8 rfl).1) (sc ((hΦ 7 rfl).1) (sc ((hΦ 6 rfl).1) (sc ((hΦ 5 rfl).1) (sc g4 (sc ((hΦ 3 rfl).1) (sc ((hΦ 2 rfl).1) (sc ((hΦ 1 rfl).1) (sc ((hΦ 0 rfl).1) rfl))))))))))))))))))))
    have hP : Post No [roK 4 1 boolE a2_v a2, cellC b11 ((planC (⟨6, 2, 7, 2, 1, 9⟩ : Plan))).toArray 25, memK mg19 x23.2.2.2, progK Tryz.prog encRes (fu, (D.domain_Make (fu + 1) (⟨(⟨6, 2, 7, 2, 1, 9⟩ : Plan), 0, 0⟩ : Seat) (D.cubiclelaw17_kind a0))) v21 (rg (gg 4).lo (gg 4).hi), progK Tryz.prog encRes (fu, (D.domain_Make (fu + 1) (⟨(⟨6, 2, 7, 2, 1, 9⟩ : Plan), 0, 1⟩ : Seat) (D.cubiclelaw17_kind a1))) v22 (rg (gg 9).lo (gg 9).hi), cellC b24 ((resC x23.1)).toArray 32, cellC b25 ((resC x23.2.1)).toArray 32] w0 w26 := hP.effL (i := 2) (l := [([progK Tryz.prog encRes (fu, (D.domain_Make (fu + 1) (⟨(⟨6, 2, 7, 2, 1, 9⟩ : Plan), 0, 0⟩ : Seat) (D.cubiclelaw17_kind a0))) v21 (rg (gg 4).lo (gg 4).hi)], (gg 4).lo, (gg 4).hi), ([progK Tryz.prog encRes (fu, (D.domain_Make (fu + 1) (⟨(⟨6, 2, 7, 2, 1, 9⟩ : Plan), 0, 1⟩ : Seat) (D.cubiclelaw17_kind a1))) v22 (rg (gg 9).lo (gg 9).hi)], (gg 9).lo, (gg 9).hi), ([cellC b24 ((resC x23.1)).toArray 32], (gg 17).lo, (gg 17).hi), ([cellC b25 ((resC x23.2.1)).toArray 32], (gg 18).lo, (gg 18).hi)]) rfl hb hcE rfl rfl ⟨hs4, (hΦ 4 rfl).2.1, (disj_cons (hap 4 9 rfl) (disj_cons (hap 4 17 rfl) (disj_cons (hap 4 18 rfl) disj_nil))), ⟨hs9, (hΦ 9 rfl).2.1, (disj_cons (hap 9 17 rfl) (disj_cons (hap 9 18 rfl) disj_nil)), ⟨hs17, (hΦ 17 rfl).2.1, (disj_cons (hap 17 18 rfl) disj_nil), ⟨hs18, (hΦ 18 rfl).2.1, disj_nil, trivial⟩⟩⟩⟩
    refine wsr ?_
    refine seq_val (.agg (planC (⟨6, 2, 7, 2, 1, 9⟩ : Plan)).toArray) r (fun R => y_load_agg r (cs := (planC (⟨6, 2, 7, 2, 1, 9⟩ : Plan))) (n := 6) rfl (hP.cell (i := 1) rfl) ta25 rfl) rfl fun fr r => ?_
    refine seq_val (.pointer (some ⟨mg19.mb, 0, none⟩)) r (fun R => y_move r rfl) rfl fun fr r => ?_
    obtain ⟨x27, hx27, hD⟩ := bindD_elim hD
    refine seq_call r (c_domain_Kinds w26 (⟨6, 2, 7, 2, 1, 9⟩ : Plan) x23.2.2.2 (hP.mem (i := 2) rfl) 0 hx27) (fun R hc => y_call r rfl cl102 hc) rfl ?_
    rintro _ w28 ⟨v29, rfl, hq⟩
    refine ⟨_, rfl, fun fr r => ?_⟩
    have hP : Post No [roK 4 1 boolE a2_v a2, cellC b11 ((planC (⟨6, 2, 7, 2, 1, 9⟩ : Plan))).toArray 25, memK mg19 x23.2.2.2, progK Tryz.prog encRes (fu, (D.domain_Make (fu + 1) (⟨(⟨6, 2, 7, 2, 1, 9⟩ : Plan), 0, 0⟩ : Seat) (D.cubiclelaw17_kind a0))) v21 (rg (gg 4).lo (gg 4).hi), progK Tryz.prog encRes (fu, (D.domain_Make (fu + 1) (⟨(⟨6, 2, 7, 2, 1, 9⟩ : Plan), 0, 1⟩ : Seat) (D.cubiclelaw17_kind a1))) v22 (rg (gg 9).lo (gg 9).hi), cellC b24 ((resC x23.1)).toArray 32, cellC b25 ((resC x23.2.1)).toArray 32, rowK 3 1 i64 v29 x27] w0 w28 := hP.add hq
    refine seq_val v29 r (fun R => y_assign r rfl) rfl fun fr r => ?_
    refine wn ?_
    refine wp_seq ?_
    have hP : Post No [roK 4 1 boolE a2_v a2, cellC b11 ((planC (⟨6, 2, 7, 2, 1, 9⟩ : Plan))).toArray 25, memK mg19 x23.2.2.2, cellC b24 ((resC x23.1)).toArray 32, cellC b25 ((resC x23.2.1)).toArray 32, rowK 3 1 i64 v29 x27] w0 w28 := hP.pick [0, 1, 2, 5, 6, 7] rfl rfl
    refine wp_joinG (N := 90) (Y := Bool) (G := Unit) (fun x γ => [(0, (.bool a0)), (1, (.bool a1)), (2, a2_v), (19, (.bool x5)), (7, (.pointer (some ⟨b11, 0, none⟩))), (8, (.pointer (some ⟨mg19.mb, 0, none⟩))), (25, (.bool false)), (9, (.pointer (some ⟨b24, 0, none⟩))), (10, (.pointer (some ⟨b25, 0, none⟩))), (11, (.bool x23.2.2.1)), (12, v29), (6, (.bool x))]) (fun x γ w => Post No [roK 4 1 boolE a2_v a2, cellC b11 ((planC (⟨6, 2, 7, 2, 1, 9⟩ : Plan))).toArray 25, memK mg19 x23.2.2.2, cellC b24 ((resC x23.1)).toArray 32, cellC b25 ((resC x23.2.1)).toArray 32, rowK 3 1 i64 v29 x27] w0 w) hD ?_ ?_
    ·
     rintro y31 RPy31 nxy31 hD
     refine seq_split x23.2.2.1 (fun h32 => ?_) (fun h32 => ?_)
     ·
      have hD := (cond_t h32).symm.trans hD
      refine seq_split (x23.1.e == 0) (fun h33 => ?_) (fun h33 => ?_)
      ·
       have hD := (cond_t h33).symm.trans hD
       refine seq_split (x23.2.1.e == 0) (fun h34 => ?_) (fun h34 => ?_)
       ·
        have hD := (cond_t h34).symm.trans hD
        refine seq_split ((V (x23.1.v + x23.2.1.v)) == 1) (fun h35 => ?_) (fun h35 => ?_)
        ·
         have hD := (cond_t h35).symm.trans hD
         refine seq_split ((x27.length : Int) == 2) (fun h36 => ?_) (fun h36 => ?_)
         ·
          have hD := (cond_t h36).symm.trans hD
          obtain ⟨x37, hx37, hD⟩ := bindD_elim hD
          refine seq_split (x37 == (D.cubiclelaw17_kind a0)) (fun h38 => ?_) (fun h38 => ?_)
          ·
           have hD := (cond_t h38).symm.trans hD
           obtain ⟨x39, hx39, hD⟩ := bindD_elim hD
           refine wp_freeF [.val (.bool x23.2.2.1), .val (.bool x23.2.2.1), .val (.pointer (some ⟨b24, 0, none⟩)), .val (I x23.1.e), .val (.bool (x23.1.e == 0)), .val (.bool (x23.1.e == 0)), .val (.bool (x23.1.e == 0)), .val (.pointer (some ⟨b25, 0, none⟩)), .val (I x23.2.1.e), .val (.bool (x23.2.1.e == 0)), .val (.bool (x23.2.1.e == 0)), .val (.bool (x23.2.1.e == 0)), .val (.pointer (some ⟨b24, 1, none⟩)), .val (U x23.1.v), .val (.pointer (some ⟨b25, 1, none⟩)), .val (U x23.2.1.v), .val (U (V (x23.1.v + x23.2.1.v))), .val (.bool ((V (x23.1.v + x23.2.1.v)) == 1)), .val (.bool ((V (x23.1.v + x23.2.1.v)) == 1)), .val (.bool ((V (x23.1.v + x23.2.1.v)) == 1)), .val v29, .val (I (x27.length : Int)), .val (.bool ((x27.length : Int) == 2)), .val (.bool ((x27.length : Int) == 2)), .val (.bool ((x27.length : Int) == 2)), .val v29, .val (.pointer (some ⟨b24, 1, none⟩)), .val (U x23.1.v), .val (.pointer (some ⟨rowB v29, rowO v29 + x23.1.v.toNat * 1, none⟩)), .val (I x37), .val (.bool a0), .val (I (D.cubiclelaw17_kind a0)), .val (.bool (x37 == (D.cubiclelaw17_kind a0))), .val (.bool (x37 == (D.cubiclelaw17_kind a0))), .val (.bool (x37 == (D.cubiclelaw17_kind a0))), .val v29, .val (.pointer (some ⟨b25, 1, none⟩)), .val (U x23.2.1.v), .val (.pointer (some ⟨rowB v29, rowO v29 + x23.2.1.v.toNat * 1, none⟩)), .val (I x39), .val (.bool a1), .val (I (D.cubiclelaw17_kind a1)), .val (.bool (x39 == (D.cubiclelaw17_kind a1))), .val (.bool (x39 == (D.cubiclelaw17_kind a1))), .val (.bool (x39 == (D.cubiclelaw17_kind a1)))] mixed r (by kernel_rfl) ?_ ?_
           ·
            refine fc r (fun fr1 g w' hb' hd r' => y_move r' rfl bz) ?_
            refine fc r (fun fr1 g w' hb' hd r' => y_move r' (hd 0 rfl).1 bz) ?_
            refine eachF_want true r rfl rfl rfl (fun g w' hd => Eq.trans (show (g 1).v = .bool x23.2.2.1 from (hd 1 rfl).1) (congrArg Value.bool h32)) (fun fr1 g w' hb' hd r' => ?_) ?_
            · exact y_fieldAddr r' (b := b24) (o := 0) (k := 0) rfl fo32_0 ⟨Below.refl _ _, rfl⟩
            refine eachF_want true r rfl rfl rfl (fun g w' hd => Eq.trans (show (g 1).v = .bool x23.2.2.1 from (hd 1 rfl).1) (congrArg Value.bool h32)) (fun fr1 g w' hb' hd r' => ?_) ?_
            · exact y_load_one r' (v := (I x23.1.e)) (hd 2 rfl).1 ((hP.below (dr hb')).cell (i := 3) rfl) to30 rfl ⟨Below.refl _ _, rfl⟩
            refine eachF_want true r rfl rfl rfl (fun g w' hd => Eq.trans (show (g 1).v = .bool x23.2.2.1 from (hd 1 rfl).1) (congrArg Value.bool h32)) (fun fr1 g w' hb' hd r' => ?_) ?_
            · exact y_bin r' (u := (I x23.1.e)) (u' := (I 0)) (v := (.bool (x23.1.e == 0))) (hd 3 rfl).1 rfl rfl rfl ⟨Below.refl _ _, rfl⟩
            refine fc r (fun fr1 g w' hb' hd r' => y_pick r' (b := true) (v := (.bool (x23.1.e == 0))) (Eq.trans (show (g 1).v = .bool x23.2.2.1 from (hd 1 rfl).1) (congrArg Value.bool h32)) (hd 4 rfl).1 bz) ?_
            refine fc r (fun fr1 g w' hb' hd r' => y_move r' (hd 5 rfl).1 bz) ?_
            refine eachF_want true r rfl rfl rfl (fun g w' hd => Eq.trans (show (g 6).v = .bool (x23.1.e == 0) from (hd 6 rfl).1) (congrArg Value.bool h33)) (fun fr1 g w' hb' hd r' => ?_) ?_
            · exact y_fieldAddr r' (b := b25) (o := 0) (k := 0) rfl fo32_0 ⟨Below.refl _ _, rfl⟩
            refine eachF_want true r rfl rfl rfl (fun g w' hd => Eq.trans (show (g 6).v = .bool (x23.1.e == 0) from (hd 6 rfl).1) (congrArg Value.bool h33)) (fun fr1 g w' hb' hd r' => ?_) ?_
            · exact y_load_one r' (v := (I x23.2.1.e)) (hd 7 rfl).1 ((hP.below (dr hb')).cell (i := 4) rfl) to30 rfl ⟨Below.refl _ _, rfl⟩
            refine eachF_want true r rfl rfl rfl (fun g w' hd => Eq.trans (show (g 6).v = .bool (x23.1.e == 0) from (hd 6 rfl).1) (congrArg Value.bool h33)) (fun fr1 g w' hb' hd r' => ?_) ?_
            · exact y_bin r' (u := (I x23.2.1.e)) (u' := (I 0)) (v := (.bool (x23.2.1.e == 0))) (hd 8 rfl).1 rfl rfl rfl ⟨Below.refl _ _, rfl⟩
            refine fc r (fun fr1 g w' hb' hd r' => y_pick r' (b := true) (v := (.bool (x23.2.1.e == 0))) (Eq.trans (show (g 6).v = .bool (x23.1.e == 0) from (hd 6 rfl).1) (congrArg Value.bool h33)) (hd 9 rfl).1 bz) ?_
            refine fc r (fun fr1 g w' hb' hd r' => y_move r' (hd 10 rfl).1 bz) ?_
            refine eachF_want true r rfl rfl rfl (fun g w' hd => Eq.trans (show (g 11).v = .bool (x23.2.1.e == 0) from (hd 11 rfl).1) (congrArg Value.bool h34)) (fun fr1 g w' hb' hd r' => ?_) ?_
            · exact y_fieldAddr r' (b := b24) (o := 0) (k := 1) rfl fo32_1 ⟨Below.refl _ _, rfl⟩
            refine eachF_want true r rfl rfl rfl (fun g w' hd => Eq.trans (show (g 11).v = .bool (x23.2.1.e == 0) from (hd 11 rfl).1) (congrArg Value.bool h34)) (fun fr1 g w' hb' hd r' => ?_) ?_
            · exact y_load_one r' (v := (U x23.1.v)) (hd 12 rfl).1 ((hP.below (dr hb')).cell (i := 3) rfl) to22 rfl ⟨Below.refl _ _, rfl⟩
            refine eachF_want true r rfl rfl rfl (fun g w' hd => Eq.trans (show (g 11).v = .bool (x23.2.1.e == 0) from (hd 11 rfl).1) (congrArg Value.bool h34)) (fun fr1 g w' hb' hd r' => ?_) ?_
            · exact y_fieldAddr r' (b := b25) (o := 0) (k := 1) rfl fo32_1 ⟨Below.refl _ _, rfl⟩
            refine eachF_want true r rfl rfl rfl (fun g w' hd => Eq.trans (show (g 11).v = .bool (x23.2.1.e == 0) from (hd 11 rfl).1) (congrArg Value.bool h34)) (fun fr1 g w' hb' hd r' => ?_) ?_
            · exact y_load_one r' (v := (U x23.2.1.v)) (hd 14 rfl).1 ((hP.below (dr hb')).cell (i := 4) rfl) to22 rfl ⟨Below.refl _ _, rfl⟩
            refine eachF_want true r rfl rfl rfl (fun g w' hd => Eq.trans (show (g 11).v = .bool (x23.2.1.e == 0) from (hd 11 rfl).1) (congrArg Value.bool h34)) (fun fr1 g w' hb' hd r' => ?_) ?_
            · exact y_bin r' (u := (U x23.1.v)) (u' := (U x23.2.1.v)) (v := (U (V (x23.1.v + x23.2.1.v)))) (hd 13 rfl).1 (hd 15 rfl).1 rfl rfl ⟨Below.refl _ _, rfl⟩
            refine eachF_want true r rfl rfl rfl (fun g w' hd => Eq.trans (show (g 11).v = .bool (x23.2.1.e == 0) from (hd 11 rfl).1) (congrArg Value.bool h34)) (fun fr1 g w' hb' hd r' => ?_) ?_
            · exact y_bin r' (u := (U (V (x23.1.v + x23.2.1.v)))) (u' := (U 1)) (v := (.bool ((V (x23.1.v + x23.2.1.v)) == 1))) (hd 16 rfl).1 rfl rfl rfl ⟨Below.refl _ _, rfl⟩
            refine fc r (fun fr1 g w' hb' hd r' => y_pick r' (b := true) (v := (.bool ((V (x23.1.v + x23.2.1.v)) == 1))) (Eq.trans (show (g 11).v = .bool (x23.2.1.e == 0) from (hd 11 rfl).1) (congrArg Value.bool h34)) (hd 17 rfl).1 bz) ?_
            refine fc r (fun fr1 g w' hb' hd r' => y_move r' (hd 18 rfl).1 bz) ?_
            refine eachF_want true r rfl rfl rfl (fun g w' hd => Eq.trans (show (g 19).v = .bool ((V (x23.1.v + x23.2.1.v)) == 1) from (hd 19 rfl).1) (congrArg Value.bool h35)) (fun fr1 g w' hb' hd r' => ?_) ?_
            · exact y_move r' (v := v29) rfl ⟨Below.refl _ _, rfl⟩
            refine eachF_want true r rfl rfl rfl (fun g w' hd => Eq.trans (show (g 19).v = .bool ((V (x23.1.v + x23.2.1.v)) == 1) from (hd 19 rfl).1) (congrArg Value.bool h35)) (fun fr1 g w' hb' hd r' => ?_) ?_
            · exact y_rowLen r' ((hP.below (dr hb')).row (i := 5) rfl).ro is72 (hd 20 rfl).1 ⟨Below.refl _ _, rfl⟩
            refine eachF_want true r rfl rfl rfl (fun g w' hd => Eq.trans (show (g 19).v = .bool ((V (x23.1.v + x23.2.1.v)) == 1) from (hd 19 rfl).1) (congrArg Value.bool h35)) (fun fr1 g w' hb' hd r' => ?_) ?_
            · exact y_bin r' (u := (I (x27.length : Int))) (u' := (I 2)) (v := (.bool ((x27.length : Int) == 2))) (hd 21 rfl).1 rfl rfl rfl ⟨Below.refl _ _, rfl⟩
            refine fc r (fun fr1 g w' hb' hd r' => y_pick r' (b := true) (v := (.bool ((x27.length : Int) == 2))) (Eq.trans (show (g 19).v = .bool ((V (x23.1.v + x23.2.1.v)) == 1) from (hd 19 rfl).1) (congrArg Value.bool h35)) (hd 22 rfl).1 bz) ?_
            refine fc r (fun fr1 g w' hb' hd r' => y_move r' (hd 23 rfl).1 bz) ?_
            refine eachF_want true r rfl rfl rfl (fun g w' hd => Eq.trans (show (g 24).v = .bool ((x27.length : Int) == 2) from (hd 24 rfl).1) (congrArg Value.bool h36)) (fun fr1 g w' hb' hd r' => ?_) ?_
            · exact y_move r' (v := v29) rfl ⟨Below.refl _ _, rfl⟩
            refine eachF_want true r rfl rfl rfl (fun g w' hd => Eq.trans (show (g 24).v = .bool ((x27.length : Int) == 2) from (hd 24 rfl).1) (congrArg Value.bool h36)) (fun fr1 g w' hb' hd r' => ?_) ?_
            · exact y_fieldAddr r' (b := b24) (o := 0) (k := 1) rfl fo32_1 ⟨Below.refl _ _, rfl⟩
            refine eachF_want true r rfl rfl rfl (fun g w' hd => Eq.trans (show (g 24).v = .bool ((x27.length : Int) == 2) from (hd 24 rfl).1) (congrArg Value.bool h36)) (fun fr1 g w' hb' hd r' => ?_) ?_
            · exact y_load_one r' (v := (U x23.1.v)) (hd 26 rfl).1 ((hP.below (dr hb')).cell (i := 3) rfl) to22 rfl ⟨Below.refl _ _, rfl⟩
            refine eachF_want true r rfl rfl rfl (fun g w' hd => Eq.trans (show (g 24).v = .bool ((x27.length : Int) == 2) from (hd 24 rfl).1) (congrArg Value.bool h36)) (fun fr1 g w' hb' hd r' => ?_) ?_
            · exact y_rowAddr r' ((hP.below (dr hb')).row (i := 5) rfl).ro hx37 sl72 (hd 25 rfl).1 (hd 27 rfl).1 ⟨Below.refl _ _, rfl⟩
            refine eachF_want true r rfl rfl rfl (fun g w' hd => Eq.trans (show (g 24).v = .bool ((x27.length : Int) == 2) from (hd 24 rfl).1) (congrArg Value.bool h36)) (fun fr1 g w' hb' hd r' => ?_) ?_
            · exact y_loadL_one r' (u := (I x37)) (RoAt.at_ (f := i64) (x := x37) ((hP.below (dr hb')).row (i := 5) rfl).ro (fun _ => rfl) hx37) (hd 28 rfl).1 to3 ⟨Below.refl _ _, rfl⟩
            refine eachF_want true r rfl rfl rfl (fun g w' hd => Eq.trans (show (g 24).v = .bool ((x27.length : Int) == 2) from (hd 24 rfl).1) (congrArg Value.bool h36)) (fun fr1 g w' hb' hd r' => ?_) ?_
            · exact y_move r' (v := (.bool a0)) rfl ⟨Below.refl _ _, rfl⟩
            refine eachF_want true r rfl rfl rfl (fun g w' hd => Eq.trans (show (g 24).v = .bool ((x27.length : Int) == 2) from (hd 24 rfl).1) (congrArg Value.bool h36)) (fun fr1 g w' hb' hd r' => ?_) ?_
            · exact y_call r' (args := [(.bool a0)]) (lc (hd 30 rfl).1 l0) cl101 ((c_cubiclelaw17_kind _ a0).mono (by rintro _ w2 ⟨rfl, hb2⟩; exact ⟨_, rfl, hb2, rfl⟩))
            refine eachF_want true r rfl rfl rfl (fun g w' hd => Eq.trans (show (g 24).v = .bool ((x27.length : Int) == 2) from (hd 24 rfl).1) (congrArg Value.bool h36)) (fun fr1 g w' hb' hd r' => ?_) ?_
            · exact y_bin r' (u := (I x37)) (u' := (I (D.cubiclelaw17_kind a0))) (v := (.bool (x37 == (D.cubiclelaw17_kind a0)))) (hd 29 rfl).1 (hd 31 rfl).1 rfl rfl ⟨Below.refl _ _, rfl⟩
            refine fc r (fun fr1 g w' hb' hd r' => y_pick r' (b := true) (v := (.bool (x37 == (D.cubiclelaw17_kind a0)))) (Eq.trans (show (g 24).v = .bool ((x27.length : Int) == 2) from (hd 24 rfl).1) (congrArg Value.bool h36)) (hd 32 rfl).1 bz) ?_
            refine fc r (fun fr1 g w' hb' hd r' => y_move r' (hd 33 rfl).1 bz) ?_
            refine eachF_want true r rfl rfl rfl (fun g w' hd => Eq.trans (show (g 34).v = .bool (x37 == (D.cubiclelaw17_kind a0)) from (hd 34 rfl).1) (congrArg Value.bool h38)) (fun fr1 g w' hb' hd r' => ?_) ?_
            · exact y_move r' (v := v29) rfl ⟨Below.refl _ _, rfl⟩
            refine eachF_want true r rfl rfl rfl (fun g w' hd => Eq.trans (show (g 34).v = .bool (x37 == (D.cubiclelaw17_kind a0)) from (hd 34 rfl).1) (congrArg Value.bool h38)) (fun fr1 g w' hb' hd r' => ?_) ?_
            · exact y_fieldAddr r' (b := b25) (o := 0) (k := 1) rfl fo32_1 ⟨Below.refl _ _, rfl⟩
            refine eachF_want true r rfl rfl rfl (fun g w' hd => Eq.trans (show (g 34).v = .bool (x37 == (D.cubiclelaw17_kind a0)) from (hd 34 rfl).1) (congrArg Value.bool h38)) (fun fr1 g w' hb' hd r' => ?_) ?_
            · exact y_load_one r' (v := (U x23.2.1.v)) (hd 36 rfl).1 ((hP.below (dr hb')).cell (i := 4) rfl) to22 rfl ⟨Below.refl _ _, rfl⟩
            refine eachF_want true r rfl rfl rfl (fun g w' hd => Eq.trans (show (g 34).v = .bool (x37 == (D.cubiclelaw17_kind a0)) from (hd 34 rfl).1) (congrArg Value.bool h38)) (fun fr1 g w' hb' hd r' => ?_) ?_
            · exact y_rowAddr r' ((hP.below (dr hb')).row (i := 5) rfl).ro hx39 sl72 (hd 35 rfl).1 (hd 37 rfl).1 ⟨Below.refl _ _, rfl⟩
            refine eachF_want true r rfl rfl rfl (fun g w' hd => Eq.trans (show (g 34).v = .bool (x37 == (D.cubiclelaw17_kind a0)) from (hd 34 rfl).1) (congrArg Value.bool h38)) (fun fr1 g w' hb' hd r' => ?_) ?_
            · exact y_loadL_one r' (u := (I x39)) (RoAt.at_ (f := i64) (x := x39) ((hP.below (dr hb')).row (i := 5) rfl).ro (fun _ => rfl) hx39) (hd 38 rfl).1 to3 ⟨Below.refl _ _, rfl⟩
            refine eachF_want true r rfl rfl rfl (fun g w' hd => Eq.trans (show (g 34).v = .bool (x37 == (D.cubiclelaw17_kind a0)) from (hd 34 rfl).1) (congrArg Value.bool h38)) (fun fr1 g w' hb' hd r' => ?_) ?_
            · exact y_move r' (v := (.bool a1)) rfl ⟨Below.refl _ _, rfl⟩
            refine eachF_want true r rfl rfl rfl (fun g w' hd => Eq.trans (show (g 34).v = .bool (x37 == (D.cubiclelaw17_kind a0)) from (hd 34 rfl).1) (congrArg Value.bool h38)) (fun fr1 g w' hb' hd r' => ?_) ?_
            · exact y_call r' (args := [(.bool a1)]) (lc (hd 40 rfl).1 l0) cl101 ((c_cubiclelaw17_kind _ a1).mono (by rintro _ w2 ⟨rfl, hb2⟩; exact ⟨_, rfl, hb2, rfl⟩))
            refine eachF_want true r rfl rfl rfl (fun g w' hd => Eq.trans (show (g 34).v = .bool (x37 == (D.cubiclelaw17_kind a0)) from (hd 34 rfl).1) (congrArg Value.bool h38)) (fun fr1 g w' hb' hd r' => ?_) ?_
            · exact y_bin r' (u := (I x39)) (u' := (I (D.cubiclelaw17_kind a1))) (v := (.bool (x39 == (D.cubiclelaw17_kind a1)))) (hd 39 rfl).1 (hd 41 rfl).1 rfl rfl ⟨Below.refl _ _, rfl⟩
            refine fc r (fun fr1 g w' hb' hd r' => y_pick r' (b := true) (v := (.bool (x39 == (D.cubiclelaw17_kind a1)))) (Eq.trans (show (g 34).v = .bool (x37 == (D.cubiclelaw17_kind a0)) from (hd 34 rfl).1) (congrArg Value.bool h38)) (hd 42 rfl).1 bz) ?_
            refine fc r (fun fr1 g w' hb' hd r' => y_assign r' (hd 43 rfl).1 bz) ?_
            exact eachF_nil
           ·
            intro fr gg w40 hb hΦ hap r
            have r := r.congr (sc ((hΦ 44 rfl).1) (sc ((hΦ 43 rfl).1) (sc ((hΦ 42 rfl).1) (sc ((hΦ 41 rfl).1) (sc ((hΦ 40 rfl).1) (sc ((hΦ 39 rfl).1) (sc ((hΦ 38 rfl).1) (sc ((hΦ 37 rfl).1) (sc ((hΦ 36 rfl).1) (sc ((hΦ 35 rfl).1) (sc ((hΦ 34 rfl).1) (sc ((hΦ 33 rfl).1) (sc ((hΦ 32 rfl).1) (sc ((hΦ 31 rfl).1) (sc ((hΦ 30 rfl).1) (sc ((hΦ 29 rfl).1) (sc ((hΦ 28 rfl).1) (sc ((hΦ 27 rfl).1) (sc ((hΦ 26 rfl).1) (sc ((hΦ 25 rfl).1) (sc ((hΦ 24 rfl).1) (sc ((hΦ 23 rfl).1) (sc ((hΦ 22 rfl).1) (sc ((hΦ 21 rfl).1) (sc ((hΦ 20 rfl).1) (sc ((hΦ 19 rfl).1) (sc ((hΦ 18 rfl).1) (sc ((hΦ 17 rfl).1) (sc ((hΦ 16 rfl).1) (sc ((hΦ 15 rfl).1) (sc ((hΦ 14 rfl).1) (sc ((hΦ 13 rfl).1) (sc ((hΦ 12 rfl).1) (sc ((hΦ 11 rfl).1) (sc ((hΦ 10 rfl).1) (sc ((hΦ 9 rfl).1) (sc ((hΦ 8 rfl).1) (sc ((hΦ 7 rfl).1) (sc ((hΦ 6 rfl).1) (sc ((hΦ 5 rfl).1) (sc ((hΦ 4 rfl).1) (sc ((hΦ 3 rfl).1) (sc ((hΦ 2 rfl).1) (sc ((hΦ 1 rfl).1) (sc ((hΦ 0 rfl).1) rfl)))))))))))))))))))))))))))))))))))))))))))))
            have hP : Post No [roK 4 1 boolE a2_v a2, cellC b11 ((planC (⟨6, 2, 7, 2, 1, 9⟩ : Plan))).toArray 25, memK mg19 x23.2.2.2, cellC b24 ((resC x23.1)).toArray 32, cellC b25 ((resC x23.2.1)).toArray 32, rowK 3 1 i64 v29 x27] w0 w40 := hP.below hb
            exact nxy31 (x39 == (D.cubiclelaw17_kind a1)) () _ _ _ hD r (hs_cons rfl (hs_cons rfl (hs_cons rfl (hs_cons rfl (hs_cons rfl (hs_cons rfl (hs_cons rfl (hs_cons rfl (hs_cons rfl (hs_cons rfl (hs_cons rfl (hs_cons rfl hs_nil)))))))))))) (hP.pick [0, 1, 2, 3, 4, 5] rfl rfl)
          ·
           have hD := (cond_f h38).symm.trans hD
           refine wp_freeF [.val (.bool x23.2.2.1), .val (.bool x23.2.2.1), .val (.pointer (some ⟨b24, 0, none⟩)), .val (I x23.1.e), .val (.bool (x23.1.e == 0)), .val (.bool (x23.1.e == 0)), .val (.bool (x23.1.e == 0)), .val (.pointer (some ⟨b25, 0, none⟩)), .val (I x23.2.1.e), .val (.bool (x23.2.1.e == 0)), .val (.bool (x23.2.1.e == 0)), .val (.bool (x23.2.1.e == 0)), .val (.pointer (some ⟨b24, 1, none⟩)), .val (U x23.1.v), .val (.pointer (some ⟨b25, 1, none⟩)), .val (U x23.2.1.v), .val (U (V (x23.1.v + x23.2.1.v))), .val (.bool ((V (x23.1.v + x23.2.1.v)) == 1)), .val (.bool ((V (x23.1.v + x23.2.1.v)) == 1)), .val (.bool ((V (x23.1.v + x23.2.1.v)) == 1)), .val v29, .val (I (x27.length : Int)), .val (.bool ((x27.length : Int) == 2)), .val (.bool ((x27.length : Int) == 2)), .val (.bool ((x27.length : Int) == 2)), .val v29, .val (.pointer (some ⟨b24, 1, none⟩)), .val (U x23.1.v), .val (.pointer (some ⟨rowB v29, rowO v29 + x23.1.v.toNat * 1, none⟩)), .val (I x37), .val (.bool a0), .val (I (D.cubiclelaw17_kind a0)), .val (.bool (x37 == (D.cubiclelaw17_kind a0))), .val (.bool (x37 == (D.cubiclelaw17_kind a0))), .val (.bool (x37 == (D.cubiclelaw17_kind a0))), .val undef, .val undef, .val undef, .val undef, .val undef, .val undef, .val undef, .val undef, .val (.bool false), .val (.bool false)] mixed r (by kernel_rfl) ?_ ?_
           ·
            refine fc r (fun fr1 g w' hb' hd r' => y_move r' rfl bz) ?_
            refine fc r (fun fr1 g w' hb' hd r' => y_move r' (hd 0 rfl).1 bz) ?_
            refine eachF_want true r rfl rfl rfl (fun g w' hd => Eq.trans (show (g 1).v = .bool x23.2.2.1 from (hd 1 rfl).1) (congrArg Value.bool h32)) (fun fr1 g w' hb' hd r' => ?_) ?_
            · exact y_fieldAddr r' (b := b24) (o := 0) (k := 0) rfl fo32_0 ⟨Below.refl _ _, rfl⟩
            refine eachF_want true r rfl rfl rfl (fun g w' hd => Eq.trans (show (g 1).v = .bool x23.2.2.1 from (hd 1 rfl).1) (congrArg Value.bool h32)) (fun fr1 g w' hb' hd r' => ?_) ?_
            · exact y_load_one r' (v := (I x23.1.e)) (hd 2 rfl).1 ((hP.below (dr hb')).cell (i := 3) rfl) to30 rfl ⟨Below.refl _ _, rfl⟩
            refine eachF_want true r rfl rfl rfl (fun g w' hd => Eq.trans (show (g 1).v = .bool x23.2.2.1 from (hd 1 rfl).1) (congrArg Value.bool h32)) (fun fr1 g w' hb' hd r' => ?_) ?_
            · exact y_bin r' (u := (I x23.1.e)) (u' := (I 0)) (v := (.bool (x23.1.e == 0))) (hd 3 rfl).1 rfl rfl rfl ⟨Below.refl _ _, rfl⟩
            refine fc r (fun fr1 g w' hb' hd r' => y_pick r' (b := true) (v := (.bool (x23.1.e == 0))) (Eq.trans (show (g 1).v = .bool x23.2.2.1 from (hd 1 rfl).1) (congrArg Value.bool h32)) (hd 4 rfl).1 bz) ?_
            refine fc r (fun fr1 g w' hb' hd r' => y_move r' (hd 5 rfl).1 bz) ?_
            refine eachF_want true r rfl rfl rfl (fun g w' hd => Eq.trans (show (g 6).v = .bool (x23.1.e == 0) from (hd 6 rfl).1) (congrArg Value.bool h33)) (fun fr1 g w' hb' hd r' => ?_) ?_
            · exact y_fieldAddr r' (b := b25) (o := 0) (k := 0) rfl fo32_0 ⟨Below.refl _ _, rfl⟩
            refine eachF_want true r rfl rfl rfl (fun g w' hd => Eq.trans (show (g 6).v = .bool (x23.1.e == 0) from (hd 6 rfl).1) (congrArg Value.bool h33)) (fun fr1 g w' hb' hd r' => ?_) ?_
            · exact y_load_one r' (v := (I x23.2.1.e)) (hd 7 rfl).1 ((hP.below (dr hb')).cell (i := 4) rfl) to30 rfl ⟨Below.refl _ _, rfl⟩
            refine eachF_want true r rfl rfl rfl (fun g w' hd => Eq.trans (show (g 6).v = .bool (x23.1.e == 0) from (hd 6 rfl).1) (congrArg Value.bool h33)) (fun fr1 g w' hb' hd r' => ?_) ?_
            · exact y_bin r' (u := (I x23.2.1.e)) (u' := (I 0)) (v := (.bool (x23.2.1.e == 0))) (hd 8 rfl).1 rfl rfl rfl ⟨Below.refl _ _, rfl⟩
            refine fc r (fun fr1 g w' hb' hd r' => y_pick r' (b := true) (v := (.bool (x23.2.1.e == 0))) (Eq.trans (show (g 6).v = .bool (x23.1.e == 0) from (hd 6 rfl).1) (congrArg Value.bool h33)) (hd 9 rfl).1 bz) ?_
            refine fc r (fun fr1 g w' hb' hd r' => y_move r' (hd 10 rfl).1 bz) ?_
            refine eachF_want true r rfl rfl rfl (fun g w' hd => Eq.trans (show (g 11).v = .bool (x23.2.1.e == 0) from (hd 11 rfl).1) (congrArg Value.bool h34)) (fun fr1 g w' hb' hd r' => ?_) ?_
            · exact y_fieldAddr r' (b := b24) (o := 0) (k := 1) rfl fo32_1 ⟨Below.refl _ _, rfl⟩
            refine eachF_want true r rfl rfl rfl (fun g w' hd => Eq.trans (show (g 11).v = .bool (x23.2.1.e == 0) from (hd 11 rfl).1) (congrArg Value.bool h34)) (fun fr1 g w' hb' hd r' => ?_) ?_
            · exact y_load_one r' (v := (U x23.1.v)) (hd 12 rfl).1 ((hP.below (dr hb')).cell (i := 3) rfl) to22 rfl ⟨Below.refl _ _, rfl⟩
            refine eachF_want true r rfl rfl rfl (fun g w' hd => Eq.trans (show (g 11).v = .bool (x23.2.1.e == 0) from (hd 11 rfl).1) (congrArg Value.bool h34)) (fun fr1 g w' hb' hd r' => ?_) ?_
            · exact y_fieldAddr r' (b := b25) (o := 0) (k := 1) rfl fo32_1 ⟨Below.refl _ _, rfl⟩
            refine eachF_want true r rfl rfl rfl (fun g w' hd => Eq.trans (show (g 11).v = .bool (x23.2.1.e == 0) from (hd 11 rfl).1) (congrArg Value.bool h34)) (fun fr1 g w' hb' hd r' => ?_) ?_
            · exact y_load_one r' (v := (U x23.2.1.v)) (hd 14 rfl).1 ((hP.below (dr hb')).cell (i := 4) rfl) to22 rfl ⟨Below.refl _ _, rfl⟩
            refine eachF_want true r rfl rfl rfl (fun g w' hd => Eq.trans (show (g 11).v = .bool (x23.2.1.e == 0) from (hd 11 rfl).1) (congrArg Value.bool h34)) (fun fr1 g w' hb' hd r' => ?_) ?_
            · exact y_bin r' (u := (U x23.1.v)) (u' := (U x23.2.1.v)) (v := (U (V (x23.1.v + x23.2.1.v)))) (hd 13 rfl).1 (hd 15 rfl).1 rfl rfl ⟨Below.refl _ _, rfl⟩
            refine eachF_want true r rfl rfl rfl (fun g w' hd => Eq.trans (show (g 11).v = .bool (x23.2.1.e == 0) from (hd 11 rfl).1) (congrArg Value.bool h34)) (fun fr1 g w' hb' hd r' => ?_) ?_
            · exact y_bin r' (u := (U (V (x23.1.v + x23.2.1.v)))) (u' := (U 1)) (v := (.bool ((V (x23.1.v + x23.2.1.v)) == 1))) (hd 16 rfl).1 rfl rfl rfl ⟨Below.refl _ _, rfl⟩
            refine fc r (fun fr1 g w' hb' hd r' => y_pick r' (b := true) (v := (.bool ((V (x23.1.v + x23.2.1.v)) == 1))) (Eq.trans (show (g 11).v = .bool (x23.2.1.e == 0) from (hd 11 rfl).1) (congrArg Value.bool h34)) (hd 17 rfl).1 bz) ?_
            refine fc r (fun fr1 g w' hb' hd r' => y_move r' (hd 18 rfl).1 bz) ?_
            refine eachF_want true r rfl rfl rfl (fun g w' hd => Eq.trans (show (g 19).v = .bool ((V (x23.1.v + x23.2.1.v)) == 1) from (hd 19 rfl).1) (congrArg Value.bool h35)) (fun fr1 g w' hb' hd r' => ?_) ?_
            · exact y_move r' (v := v29) rfl ⟨Below.refl _ _, rfl⟩
            refine eachF_want true r rfl rfl rfl (fun g w' hd => Eq.trans (show (g 19).v = .bool ((V (x23.1.v + x23.2.1.v)) == 1) from (hd 19 rfl).1) (congrArg Value.bool h35)) (fun fr1 g w' hb' hd r' => ?_) ?_
            · exact y_rowLen r' ((hP.below (dr hb')).row (i := 5) rfl).ro is72 (hd 20 rfl).1 ⟨Below.refl _ _, rfl⟩
            refine eachF_want true r rfl rfl rfl (fun g w' hd => Eq.trans (show (g 19).v = .bool ((V (x23.1.v + x23.2.1.v)) == 1) from (hd 19 rfl).1) (congrArg Value.bool h35)) (fun fr1 g w' hb' hd r' => ?_) ?_
            · exact y_bin r' (u := (I (x27.length : Int))) (u' := (I 2)) (v := (.bool ((x27.length : Int) == 2))) (hd 21 rfl).1 rfl rfl rfl ⟨Below.refl _ _, rfl⟩
            refine fc r (fun fr1 g w' hb' hd r' => y_pick r' (b := true) (v := (.bool ((x27.length : Int) == 2))) (Eq.trans (show (g 19).v = .bool ((V (x23.1.v + x23.2.1.v)) == 1) from (hd 19 rfl).1) (congrArg Value.bool h35)) (hd 22 rfl).1 bz) ?_
            refine fc r (fun fr1 g w' hb' hd r' => y_move r' (hd 23 rfl).1 bz) ?_
            refine eachF_want true r rfl rfl rfl (fun g w' hd => Eq.trans (show (g 24).v = .bool ((x27.length : Int) == 2) from (hd 24 rfl).1) (congrArg Value.bool h36)) (fun fr1 g w' hb' hd r' => ?_) ?_
            · exact y_move r' (v := v29) rfl ⟨Below.refl _ _, rfl⟩
            refine eachF_want true r rfl rfl rfl (fun g w' hd => Eq.trans (show (g 24).v = .bool ((x27.length : Int) == 2) from (hd 24 rfl).1) (congrArg Value.bool h36)) (fun fr1 g w' hb' hd r' => ?_) ?_
            · exact y_fieldAddr r' (b := b24) (o := 0) (k := 1) rfl fo32_1 ⟨Below.refl _ _, rfl⟩
            refine eachF_want true r rfl rfl rfl (fun g w' hd => Eq.trans (show (g 24).v = .bool ((x27.length : Int) == 2) from (hd 24 rfl).1) (congrArg Value.bool h36)) (fun fr1 g w' hb' hd r' => ?_) ?_
            · exact y_load_one r' (v := (U x23.1.v)) (hd 26 rfl).1 ((hP.below (dr hb')).cell (i := 3) rfl) to22 rfl ⟨Below.refl _ _, rfl⟩
            refine eachF_want true r rfl rfl rfl (fun g w' hd => Eq.trans (show (g 24).v = .bool ((x27.length : Int) == 2) from (hd 24 rfl).1) (congrArg Value.bool h36)) (fun fr1 g w' hb' hd r' => ?_) ?_
            · exact y_rowAddr r' ((hP.below (dr hb')).row (i := 5) rfl).ro hx37 sl72 (hd 25 rfl).1 (hd 27 rfl).1 ⟨Below.refl _ _, rfl⟩
            refine eachF_want true r rfl rfl rfl (fun g w' hd => Eq.trans (show (g 24).v = .bool ((x27.length : Int) == 2) from (hd 24 rfl).1) (congrArg Value.bool h36)) (fun fr1 g w' hb' hd r' => ?_) ?_
            · exact y_loadL_one r' (u := (I x37)) (RoAt.at_ (f := i64) (x := x37) ((hP.below (dr hb')).row (i := 5) rfl).ro (fun _ => rfl) hx37) (hd 28 rfl).1 to3 ⟨Below.refl _ _, rfl⟩
            refine eachF_want true r rfl rfl rfl (fun g w' hd => Eq.trans (show (g 24).v = .bool ((x27.length : Int) == 2) from (hd 24 rfl).1) (congrArg Value.bool h36)) (fun fr1 g w' hb' hd r' => ?_) ?_
            · exact y_move r' (v := (.bool a0)) rfl ⟨Below.refl _ _, rfl⟩
            refine eachF_want true r rfl rfl rfl (fun g w' hd => Eq.trans (show (g 24).v = .bool ((x27.length : Int) == 2) from (hd 24 rfl).1) (congrArg Value.bool h36)) (fun fr1 g w' hb' hd r' => ?_) ?_
            · exact y_call r' (args := [(.bool a0)]) (lc (hd 30 rfl).1 l0) cl101 ((c_cubiclelaw17_kind _ a0).mono (by rintro _ w2 ⟨rfl, hb2⟩; exact ⟨_, rfl, hb2, rfl⟩))
            refine eachF_want true r rfl rfl rfl (fun g w' hd => Eq.trans (show (g 24).v = .bool ((x27.length : Int) == 2) from (hd 24 rfl).1) (congrArg Value.bool h36)) (fun fr1 g w' hb' hd r' => ?_) ?_
            · exact y_bin r' (u := (I x37)) (u' := (I (D.cubiclelaw17_kind a0))) (v := (.bool (x37 == (D.cubiclelaw17_kind a0)))) (hd 29 rfl).1 (hd 31 rfl).1 rfl rfl ⟨Below.refl _ _, rfl⟩
            refine fc r (fun fr1 g w' hb' hd r' => y_pick r' (b := true) (v := (.bool (x37 == (D.cubiclelaw17_kind a0)))) (Eq.trans (show (g 24).v = .bool ((x27.length : Int) == 2) from (hd 24 rfl).1) (congrArg Value.bool h36)) (hd 32 rfl).1 bz) ?_
            refine fc r (fun fr1 g w' hb' hd r' => y_move r' (hd 33 rfl).1 bz) ?_
            refine eachF_skip true (.bool false) r rfl rfl rfl (fun g w' hd => Eq.trans (show (g 34).v = .bool (x37 == (D.cubiclelaw17_kind a0)) from (hd 34 rfl).1) (congrArg Value.bool h38)) (by simp [boolOf]) (fun _ _ => ⟨Below.refl _ _, rfl⟩) ?_
            refine eachF_skip true (.bool false) r rfl rfl rfl (fun g w' hd => Eq.trans (show (g 34).v = .bool (x37 == (D.cubiclelaw17_kind a0)) from (hd 34 rfl).1) (congrArg Value.bool h38)) (by simp [boolOf]) (fun _ _ => ⟨Below.refl _ _, rfl⟩) ?_
            refine eachF_skip true (.bool false) r rfl rfl rfl (fun g w' hd => Eq.trans (show (g 34).v = .bool (x37 == (D.cubiclelaw17_kind a0)) from (hd 34 rfl).1) (congrArg Value.bool h38)) (by simp [boolOf]) (fun _ _ => ⟨Below.refl _ _, rfl⟩) ?_
            refine eachF_skip true (.bool false) r rfl rfl rfl (fun g w' hd => Eq.trans (show (g 34).v = .bool (x37 == (D.cubiclelaw17_kind a0)) from (hd 34 rfl).1) (congrArg Value.bool h38)) (by simp [boolOf]) (fun _ _ => ⟨Below.refl _ _, rfl⟩) ?_
            refine eachF_skip true (.bool false) r rfl rfl rfl (fun g w' hd => Eq.trans (show (g 34).v = .bool (x37 == (D.cubiclelaw17_kind a0)) from (hd 34 rfl).1) (congrArg Value.bool h38)) (by simp [boolOf]) (fun _ _ => ⟨Below.refl _ _, rfl⟩) ?_
            refine eachF_skip true (.bool false) r rfl rfl rfl (fun g w' hd => Eq.trans (show (g 34).v = .bool (x37 == (D.cubiclelaw17_kind a0)) from (hd 34 rfl).1) (congrArg Value.bool h38)) (by simp [boolOf]) (fun _ _ => ⟨Below.refl _ _, rfl⟩) ?_
            refine eachF_skip true (.bool false) r rfl rfl rfl (fun g w' hd => Eq.trans (show (g 34).v = .bool (x37 == (D.cubiclelaw17_kind a0)) from (hd 34 rfl).1) (congrArg Value.bool h38)) (by simp [boolOf]) (fun _ _ => ⟨Below.refl _ _, rfl⟩) ?_
            refine eachF_skip true (.bool false) r rfl rfl rfl (fun g w' hd => Eq.trans (show (g 34).v = .bool (x37 == (D.cubiclelaw17_kind a0)) from (hd 34 rfl).1) (congrArg Value.bool h38)) (by simp [boolOf]) (fun _ _ => ⟨Below.refl _ _, rfl⟩) ?_
            refine fc r (fun fr1 g w' hb' hd r' => y_pick r' (b := false) (v := (.bool false)) (Eq.trans (show (g 34).v = .bool (x37 == (D.cubiclelaw17_kind a0)) from (hd 34 rfl).1) (congrArg Value.bool h38)) rfl bz) ?_
            refine fc r (fun fr1 g w' hb' hd r' => y_assign r' (hd 43 rfl).1 bz) ?_
            exact eachF_nil
           ·
            intro fr gg w41 hb hΦ hap r
            have r := r.congr (sc ((hΦ 44 rfl).1) (sc ((hΦ 43 rfl).1) (sc ((hΦ 42 rfl).1) (sc ((hΦ 41 rfl).1) (sc ((hΦ 40 rfl).1) (sc ((hΦ 39 rfl).1) (sc ((hΦ 38 rfl).1) (sc ((hΦ 37 rfl).1) (sc ((hΦ 36 rfl).1) (sc ((hΦ 35 rfl).1) (sc ((hΦ 34 rfl).1) (sc ((hΦ 33 rfl).1) (sc ((hΦ 32 rfl).1) (sc ((hΦ 31 rfl).1) (sc ((hΦ 30 rfl).1) (sc ((hΦ 29 rfl).1) (sc ((hΦ 28 rfl).1) (sc ((hΦ 27 rfl).1) (sc ((hΦ 26 rfl).1) (sc ((hΦ 25 rfl).1) (sc ((hΦ 24 rfl).1) (sc ((hΦ 23 rfl).1) (sc ((hΦ 22 rfl).1) (sc ((hΦ 21 rfl).1) (sc ((hΦ 20 rfl).1) (sc ((hΦ 19 rfl).1) (sc ((hΦ 18 rfl).1) (sc ((hΦ 17 rfl).1) (sc ((hΦ 16 rfl).1) (sc ((hΦ 15 rfl).1) (sc ((hΦ 14 rfl).1) (sc ((hΦ 13 rfl).1) (sc ((hΦ 12 rfl).1) (sc ((hΦ 11 rfl).1) (sc ((hΦ 10 rfl).1) (sc ((hΦ 9 rfl).1) (sc ((hΦ 8 rfl).1) (sc ((hΦ 7 rfl).1) (sc ((hΦ 6 rfl).1) (sc ((hΦ 5 rfl).1) (sc ((hΦ 4 rfl).1) (sc ((hΦ 3 rfl).1) (sc ((hΦ 2 rfl).1) (sc ((hΦ 1 rfl).1) (sc ((hΦ 0 rfl).1) rfl)))))))))))))))))))))))))))))))))))))))))))))
            have hP : Post No [roK 4 1 boolE a2_v a2, cellC b11 ((planC (⟨6, 2, 7, 2, 1, 9⟩ : Plan))).toArray 25, memK mg19 x23.2.2.2, cellC b24 ((resC x23.1)).toArray 32, cellC b25 ((resC x23.2.1)).toArray 32, rowK 3 1 i64 v29 x27] w0 w41 := hP.below hb
            exact nxy31 false () _ _ _ hD r (hs_cons rfl (hs_cons rfl (hs_cons rfl (hs_cons rfl (hs_cons rfl (hs_cons rfl (hs_cons rfl (hs_cons rfl (hs_cons rfl (hs_cons rfl (hs_cons rfl (hs_cons rfl hs_nil)))))))))))) (hP.pick [0, 1, 2, 3, 4, 5] rfl rfl)
         ·
          have hD := (cond_f h36).symm.trans hD
          refine wp_freeF [.val (.bool x23.2.2.1), .val (.bool x23.2.2.1), .val (.pointer (some ⟨b24, 0, none⟩)), .val (I x23.1.e), .val (.bool (x23.1.e == 0)), .val (.bool (x23.1.e == 0)), .val (.bool (x23.1.e == 0)), .val (.pointer (some ⟨b25, 0, none⟩)), .val (I x23.2.1.e), .val (.bool (x23.2.1.e == 0)), .val (.bool (x23.2.1.e == 0)), .val (.bool (x23.2.1.e == 0)), .val (.pointer (some ⟨b24, 1, none⟩)), .val (U x23.1.v), .val (.pointer (some ⟨b25, 1, none⟩)), .val (U x23.2.1.v), .val (U (V (x23.1.v + x23.2.1.v))), .val (.bool ((V (x23.1.v + x23.2.1.v)) == 1)), .val (.bool ((V (x23.1.v + x23.2.1.v)) == 1)), .val (.bool ((V (x23.1.v + x23.2.1.v)) == 1)), .val v29, .val (I (x27.length : Int)), .val (.bool ((x27.length : Int) == 2)), .val (.bool ((x27.length : Int) == 2)), .val (.bool ((x27.length : Int) == 2)), .val undef, .val undef, .val undef, .val undef, .val undef, .val undef, .val undef, .val undef, .val (.bool false), .val (.bool false), .val undef, .val undef, .val undef, .val undef, .val undef, .val undef, .val undef, .val undef, .val (.bool false), .val (.bool false)] mixed r (by kernel_rfl) ?_ ?_
          ·
           refine fc r (fun fr1 g w' hb' hd r' => y_move r' rfl bz) ?_
           refine fc r (fun fr1 g w' hb' hd r' => y_move r' (hd 0 rfl).1 bz) ?_
           refine eachF_want true r rfl rfl rfl (fun g w' hd => Eq.trans (show (g 1).v = .bool x23.2.2.1 from (hd 1 rfl).1) (congrArg Value.bool h32)) (fun fr1 g w' hb' hd r' => ?_) ?_
           · exact y_fieldAddr r' (b := b24) (o := 0) (k := 0) rfl fo32_0 ⟨Below.refl _ _, rfl⟩
           refine eachF_want true r rfl rfl rfl (fun g w' hd => Eq.trans (show (g 1).v = .bool x23.2.2.1 from (hd 1 rfl).1) (congrArg Value.bool h32)) (fun fr1 g w' hb' hd r' => ?_) ?_
           · exact y_load_one r' (v := (I x23.1.e)) (hd 2 rfl).1 ((hP.below (dr hb')).cell (i := 3) rfl) to30 rfl ⟨Below.refl _ _, rfl⟩
           refine eachF_want true r rfl rfl rfl (fun g w' hd => Eq.trans (show (g 1).v = .bool x23.2.2.1 from (hd 1 rfl).1) (congrArg Value.bool h32)) (fun fr1 g w' hb' hd r' => ?_) ?_
           · exact y_bin r' (u := (I x23.1.e)) (u' := (I 0)) (v := (.bool (x23.1.e == 0))) (hd 3 rfl).1 rfl rfl rfl ⟨Below.refl _ _, rfl⟩
           refine fc r (fun fr1 g w' hb' hd r' => y_pick r' (b := true) (v := (.bool (x23.1.e == 0))) (Eq.trans (show (g 1).v = .bool x23.2.2.1 from (hd 1 rfl).1) (congrArg Value.bool h32)) (hd 4 rfl).1 bz) ?_
           refine fc r (fun fr1 g w' hb' hd r' => y_move r' (hd 5 rfl).1 bz) ?_
           refine eachF_want true r rfl rfl rfl (fun g w' hd => Eq.trans (show (g 6).v = .bool (x23.1.e == 0) from (hd 6 rfl).1) (congrArg Value.bool h33)) (fun fr1 g w' hb' hd r' => ?_) ?_
           · exact y_fieldAddr r' (b := b25) (o := 0) (k := 0) rfl fo32_0 ⟨Below.refl _ _, rfl⟩
           refine eachF_want true r rfl rfl rfl (fun g w' hd => Eq.trans (show (g 6).v = .bool (x23.1.e == 0) from (hd 6 rfl).1) (congrArg Value.bool h33)) (fun fr1 g w' hb' hd r' => ?_) ?_
           · exact y_load_one r' (v := (I x23.2.1.e)) (hd 7 rfl).1 ((hP.below (dr hb')).cell (i := 4) rfl) to30 rfl ⟨Below.refl _ _, rfl⟩
           refine eachF_want true r rfl rfl rfl (fun g w' hd => Eq.trans (show (g 6).v = .bool (x23.1.e == 0) from (hd 6 rfl).1) (congrArg Value.bool h33)) (fun fr1 g w' hb' hd r' => ?_) ?_
           · exact y_bin r' (u := (I x23.2.1.e)) (u' := (I 0)) (v := (.bool (x23.2.1.e == 0))) (hd 8 rfl).1 rfl rfl rfl ⟨Below.refl _ _, rfl⟩
           refine fc r (fun fr1 g w' hb' hd r' => y_pick r' (b := true) (v := (.bool (x23.2.1.e == 0))) (Eq.trans (show (g 6).v = .bool (x23.1.e == 0) from (hd 6 rfl).1) (congrArg Value.bool h33)) (hd 9 rfl).1 bz) ?_
           refine fc r (fun fr1 g w' hb' hd r' => y_move r' (hd 10 rfl).1 bz) ?_
           refine eachF_want true r rfl rfl rfl (fun g w' hd => Eq.trans (show (g 11).v = .bool (x23.2.1.e == 0) from (hd 11 rfl).1) (congrArg Value.bool h34)) (fun fr1 g w' hb' hd r' => ?_) ?_
           · exact y_fieldAddr r' (b := b24) (o := 0) (k := 1) rfl fo32_1 ⟨Below.refl _ _, rfl⟩
           refine eachF_want true r rfl rfl rfl (fun g w' hd => Eq.trans (show (g 11).v = .bool (x23.2.1.e == 0) from (hd 11 rfl).1) (congrArg Value.bool h34)) (fun fr1 g w' hb' hd r' => ?_) ?_
           · exact y_load_one r' (v := (U x23.1.v)) (hd 12 rfl).1 ((hP.below (dr hb')).cell (i := 3) rfl) to22 rfl ⟨Below.refl _ _, rfl⟩
           refine eachF_want true r rfl rfl rfl (fun g w' hd => Eq.trans (show (g 11).v = .bool (x23.2.1.e == 0) from (hd 11 rfl).1) (congrArg Value.bool h34)) (fun fr1 g w' hb' hd r' => ?_) ?_
           · exact y_fieldAddr r' (b := b25) (o := 0) (k := 1) rfl fo32_1 ⟨Below.refl _ _, rfl⟩
           refine eachF_want true r rfl rfl rfl (fun g w' hd => Eq.trans (show (g 11).v = .bool (x23.2.1.e == 0) from (hd 11 rfl).1) (congrArg Value.bool h34)) (fun fr1 g w' hb' hd r' => ?_) ?_
           · exact y_load_one r' (v := (U x23.2.1.v)) (hd 14 rfl).1 ((hP.below (dr hb')).cell (i := 4) rfl) to22 rfl ⟨Below.refl _ _, rfl⟩
           refine eachF_want true r rfl rfl rfl (fun g w' hd => Eq.trans (show (g 11).v = .bool (x23.2.1.e == 0) from (hd 11 rfl).1) (congrArg Value.bool h34)) (fun fr1 g w' hb' hd r' => ?_) ?_
           · exact y_bin r' (u := (U x23.1.v)) (u' := (U x23.2.1.v)) (v := (U (V (x23.1.v + x23.2.1.v)))) (hd 13 rfl).1 (hd 15 rfl).1 rfl rfl ⟨Below.refl _ _, rfl⟩
           refine eachF_want true r rfl rfl rfl (fun g w' hd => Eq.trans (show (g 11).v = .bool (x23.2.1.e == 0) from (hd 11 rfl).1) (congrArg Value.bool h34)) (fun fr1 g w' hb' hd r' => ?_) ?_
           · exact y_bin r' (u := (U (V (x23.1.v + x23.2.1.v)))) (u' := (U 1)) (v := (.bool ((V (x23.1.v + x23.2.1.v)) == 1))) (hd 16 rfl).1 rfl rfl rfl ⟨Below.refl _ _, rfl⟩
           refine fc r (fun fr1 g w' hb' hd r' => y_pick r' (b := true) (v := (.bool ((V (x23.1.v + x23.2.1.v)) == 1))) (Eq.trans (show (g 11).v = .bool (x23.2.1.e == 0) from (hd 11 rfl).1) (congrArg Value.bool h34)) (hd 17 rfl).1 bz) ?_
           refine fc r (fun fr1 g w' hb' hd r' => y_move r' (hd 18 rfl).1 bz) ?_
           refine eachF_want true r rfl rfl rfl (fun g w' hd => Eq.trans (show (g 19).v = .bool ((V (x23.1.v + x23.2.1.v)) == 1) from (hd 19 rfl).1) (congrArg Value.bool h35)) (fun fr1 g w' hb' hd r' => ?_) ?_
           · exact y_move r' (v := v29) rfl ⟨Below.refl _ _, rfl⟩
           refine eachF_want true r rfl rfl rfl (fun g w' hd => Eq.trans (show (g 19).v = .bool ((V (x23.1.v + x23.2.1.v)) == 1) from (hd 19 rfl).1) (congrArg Value.bool h35)) (fun fr1 g w' hb' hd r' => ?_) ?_
           · exact y_rowLen r' ((hP.below (dr hb')).row (i := 5) rfl).ro is72 (hd 20 rfl).1 ⟨Below.refl _ _, rfl⟩
           refine eachF_want true r rfl rfl rfl (fun g w' hd => Eq.trans (show (g 19).v = .bool ((V (x23.1.v + x23.2.1.v)) == 1) from (hd 19 rfl).1) (congrArg Value.bool h35)) (fun fr1 g w' hb' hd r' => ?_) ?_
           · exact y_bin r' (u := (I (x27.length : Int))) (u' := (I 2)) (v := (.bool ((x27.length : Int) == 2))) (hd 21 rfl).1 rfl rfl rfl ⟨Below.refl _ _, rfl⟩
           refine fc r (fun fr1 g w' hb' hd r' => y_pick r' (b := true) (v := (.bool ((x27.length : Int) == 2))) (Eq.trans (show (g 19).v = .bool ((V (x23.1.v + x23.2.1.v)) == 1) from (hd 19 rfl).1) (congrArg Value.bool h35)) (hd 22 rfl).1 bz) ?_
           refine fc r (fun fr1 g w' hb' hd r' => y_move r' (hd 23 rfl).1 bz) ?_
           refine eachF_skip true (.bool false) r rfl rfl rfl (fun g w' hd => Eq.trans (show (g 24).v = .bool ((x27.length : Int) == 2) from (hd 24 rfl).1) (congrArg Value.bool h36)) (by simp [boolOf]) (fun _ _ => ⟨Below.refl _ _, rfl⟩) ?_
           refine eachF_skip true (.bool false) r rfl rfl rfl (fun g w' hd => Eq.trans (show (g 24).v = .bool ((x27.length : Int) == 2) from (hd 24 rfl).1) (congrArg Value.bool h36)) (by simp [boolOf]) (fun _ _ => ⟨Below.refl _ _, rfl⟩) ?_
           refine eachF_skip true (.bool false) r rfl rfl rfl (fun g w' hd => Eq.trans (show (g 24).v = .bool ((x27.length : Int) == 2) from (hd 24 rfl).1) (congrArg Value.bool h36)) (by simp [boolOf]) (fun _ _ => ⟨Below.refl _ _, rfl⟩) ?_
           refine eachF_skip true (.bool false) r rfl rfl rfl (fun g w' hd => Eq.trans (show (g 24).v = .bool ((x27.length : Int) == 2) from (hd 24 rfl).1) (congrArg Value.bool h36)) (by simp [boolOf]) (fun _ _ => ⟨Below.refl _ _, rfl⟩) ?_
           refine eachF_skip true (.bool false) r rfl rfl rfl (fun g w' hd => Eq.trans (show (g 24).v = .bool ((x27.length : Int) == 2) from (hd 24 rfl).1) (congrArg Value.bool h36)) (by simp [boolOf]) (fun _ _ => ⟨Below.refl _ _, rfl⟩) ?_
           refine eachF_skip true (.bool false) r rfl rfl rfl (fun g w' hd => Eq.trans (show (g 24).v = .bool ((x27.length : Int) == 2) from (hd 24 rfl).1) (congrArg Value.bool h36)) (by simp [boolOf]) (fun _ _ => ⟨Below.refl _ _, rfl⟩) ?_
           refine eachF_skip true (.bool false) r rfl rfl rfl (fun g w' hd => Eq.trans (show (g 24).v = .bool ((x27.length : Int) == 2) from (hd 24 rfl).1) (congrArg Value.bool h36)) (by simp [boolOf]) (fun _ _ => ⟨Below.refl _ _, rfl⟩) ?_
           refine eachF_skip true (.bool false) r rfl rfl rfl (fun g w' hd => Eq.trans (show (g 24).v = .bool ((x27.length : Int) == 2) from (hd 24 rfl).1) (congrArg Value.bool h36)) (by simp [boolOf]) (fun _ _ => ⟨Below.refl _ _, rfl⟩) ?_
           refine fc r (fun fr1 g w' hb' hd r' => y_pick r' (b := false) (v := (.bool false)) (Eq.trans (show (g 24).v = .bool ((x27.length : Int) == 2) from (hd 24 rfl).1) (congrArg Value.bool h36)) rfl bz) ?_
           refine fc r (fun fr1 g w' hb' hd r' => y_move r' (hd 33 rfl).1 bz) ?_
           refine eachF_skip true (.bool false) r rfl rfl rfl (fun g w' hd => Eq.trans (show (g 34).v = .bool false from (hd 34 rfl).1) (congrArg Value.bool (rfl : false = _))) (by simp [boolOf]) (fun _ _ => ⟨Below.refl _ _, rfl⟩) ?_
           refine eachF_skip true (.bool false) r rfl rfl rfl (fun g w' hd => Eq.trans (show (g 34).v = .bool false from (hd 34 rfl).1) (congrArg Value.bool (rfl : false = _))) (by simp [boolOf]) (fun _ _ => ⟨Below.refl _ _, rfl⟩) ?_
           refine eachF_skip true (.bool false) r rfl rfl rfl (fun g w' hd => Eq.trans (show (g 34).v = .bool false from (hd 34 rfl).1) (congrArg Value.bool (rfl : false = _))) (by simp [boolOf]) (fun _ _ => ⟨Below.refl _ _, rfl⟩) ?_
           refine eachF_skip true (.bool false) r rfl rfl rfl (fun g w' hd => Eq.trans (show (g 34).v = .bool false from (hd 34 rfl).1) (congrArg Value.bool (rfl : false = _))) (by simp [boolOf]) (fun _ _ => ⟨Below.refl _ _, rfl⟩) ?_
           refine eachF_skip true (.bool false) r rfl rfl rfl (fun g w' hd => Eq.trans (show (g 34).v = .bool false from (hd 34 rfl).1) (congrArg Value.bool (rfl : false = _))) (by simp [boolOf]) (fun _ _ => ⟨Below.refl _ _, rfl⟩) ?_
           refine eachF_skip true (.bool false) r rfl rfl rfl (fun g w' hd => Eq.trans (show (g 34).v = .bool false from (hd 34 rfl).1) (congrArg Value.bool (rfl : false = _))) (by simp [boolOf]) (fun _ _ => ⟨Below.refl _ _, rfl⟩) ?_
           refine eachF_skip true (.bool false) r rfl rfl rfl (fun g w' hd => Eq.trans (show (g 34).v = .bool false from (hd 34 rfl).1) (congrArg Value.bool (rfl : false = _))) (by simp [boolOf]) (fun _ _ => ⟨Below.refl _ _, rfl⟩) ?_
           refine eachF_skip true (.bool false) r rfl rfl rfl (fun g w' hd => Eq.trans (show (g 34).v = .bool false from (hd 34 rfl).1) (congrArg Value.bool (rfl : false = _))) (by simp [boolOf]) (fun _ _ => ⟨Below.refl _ _, rfl⟩) ?_
           refine fc r (fun fr1 g w' hb' hd r' => y_pick r' (b := false) (v := (.bool false)) (Eq.trans (show (g 34).v = .bool false from (hd 34 rfl).1) (congrArg Value.bool (rfl : false = _))) rfl bz) ?_
           refine fc r (fun fr1 g w' hb' hd r' => y_assign r' (hd 43 rfl).1 bz) ?_
           exact eachF_nil
          ·
           intro fr gg w42 hb hΦ hap r
           have r := r.congr (sc ((hΦ 44 rfl).1) (sc ((hΦ 43 rfl).1) (sc ((hΦ 42 rfl).1) (sc ((hΦ 41 rfl).1) (sc ((hΦ 40 rfl).1) (sc ((hΦ 39 rfl).1) (sc ((hΦ 38 rfl).1) (sc ((hΦ 37 rfl).1) (sc ((hΦ 36 rfl).1) (sc ((hΦ 35 rfl).1) (sc ((hΦ 34 rfl).1) (sc ((hΦ 33 rfl).1) (sc ((hΦ 32 rfl).1) (sc ((hΦ 31 rfl).1) (sc ((hΦ 30 rfl).1) (sc ((hΦ 29 rfl).1) (sc ((hΦ 28 rfl).1) (sc ((hΦ 27 rfl).1) (sc ((hΦ 26 rfl).1) (sc ((hΦ 25 rfl).1) (sc ((hΦ 24 rfl).1) (sc ((hΦ 23 rfl).1) (sc ((hΦ 22 rfl).1) (sc ((hΦ 21 rfl).1) (sc ((hΦ 20 rfl).1) (sc ((hΦ 19 rfl).1) (sc ((hΦ 18 rfl).1) (sc ((hΦ 17 rfl).1) (sc ((hΦ 16 rfl).1) (sc ((hΦ 15 rfl).1) (sc ((hΦ 14 rfl).1) (sc ((hΦ 13 rfl).1) (sc ((hΦ 12 rfl).1) (sc ((hΦ 11 rfl).1) (sc ((hΦ 10 rfl).1) (sc ((hΦ 9 rfl).1) (sc ((hΦ 8 rfl).1) (sc ((hΦ 7 rfl).1) (sc ((hΦ 6 rfl).1) (sc ((hΦ 5 rfl).1) (sc ((hΦ 4 rfl).1) (sc ((hΦ 3 rfl).1) (sc ((hΦ 2 rfl).1) (sc ((hΦ 1 rfl).1) (sc ((hΦ 0 rfl).1) rfl)))))))))))))))))))))))))))))))))))))))))))))
           have hP : Post No [roK 4 1 boolE a2_v a2, cellC b11 ((planC (⟨6, 2, 7, 2, 1, 9⟩ : Plan))).toArray 25, memK mg19 x23.2.2.2, cellC b24 ((resC x23.1)).toArray 32, cellC b25 ((resC x23.2.1)).toArray 32, rowK 3 1 i64 v29 x27] w0 w42 := hP.below hb
           exact nxy31 false () _ _ _ hD r (hs_cons rfl (hs_cons rfl (hs_cons rfl (hs_cons rfl (hs_cons rfl (hs_cons rfl (hs_cons rfl (hs_cons rfl (hs_cons rfl (hs_cons rfl (hs_cons rfl (hs_cons rfl hs_nil)))))))))))) (hP.pick [0, 1, 2, 3, 4, 5] rfl rfl)
        ·
         have hD := (cond_f h35).symm.trans hD
         refine wp_freeF [.val (.bool x23.2.2.1), .val (.bool x23.2.2.1), .val (.pointer (some ⟨b24, 0, none⟩)), .val (I x23.1.e), .val (.bool (x23.1.e == 0)), .val (.bool (x23.1.e == 0)), .val (.bool (x23.1.e == 0)), .val (.pointer (some ⟨b25, 0, none⟩)), .val (I x23.2.1.e), .val (.bool (x23.2.1.e == 0)), .val (.bool (x23.2.1.e == 0)), .val (.bool (x23.2.1.e == 0)), .val (.pointer (some ⟨b24, 1, none⟩)), .val (U x23.1.v), .val (.pointer (some ⟨b25, 1, none⟩)), .val (U x23.2.1.v), .val (U (V (x23.1.v + x23.2.1.v))), .val (.bool ((V (x23.1.v + x23.2.1.v)) == 1)), .val (.bool ((V (x23.1.v + x23.2.1.v)) == 1)), .val (.bool ((V (x23.1.v + x23.2.1.v)) == 1)), .val undef, .val undef, .val undef, .val (.bool false), .val (.bool false), .val undef, .val undef, .val undef, .val undef, .val undef, .val undef, .val undef, .val undef, .val (.bool false), .val (.bool false), .val undef, .val undef, .val undef, .val undef, .val undef, .val undef, .val undef, .val undef, .val (.bool false), .val (.bool false)] mixed r (by kernel_rfl) ?_ ?_
         ·
          refine fc r (fun fr1 g w' hb' hd r' => y_move r' rfl bz) ?_
          refine fc r (fun fr1 g w' hb' hd r' => y_move r' (hd 0 rfl).1 bz) ?_
          refine eachF_want true r rfl rfl rfl (fun g w' hd => Eq.trans (show (g 1).v = .bool x23.2.2.1 from (hd 1 rfl).1) (congrArg Value.bool h32)) (fun fr1 g w' hb' hd r' => ?_) ?_
          · exact y_fieldAddr r' (b := b24) (o := 0) (k := 0) rfl fo32_0 ⟨Below.refl _ _, rfl⟩
          refine eachF_want true r rfl rfl rfl (fun g w' hd => Eq.trans (show (g 1).v = .bool x23.2.2.1 from (hd 1 rfl).1) (congrArg Value.bool h32)) (fun fr1 g w' hb' hd r' => ?_) ?_
          · exact y_load_one r' (v := (I x23.1.e)) (hd 2 rfl).1 ((hP.below (dr hb')).cell (i := 3) rfl) to30 rfl ⟨Below.refl _ _, rfl⟩
          refine eachF_want true r rfl rfl rfl (fun g w' hd => Eq.trans (show (g 1).v = .bool x23.2.2.1 from (hd 1 rfl).1) (congrArg Value.bool h32)) (fun fr1 g w' hb' hd r' => ?_) ?_
          · exact y_bin r' (u := (I x23.1.e)) (u' := (I 0)) (v := (.bool (x23.1.e == 0))) (hd 3 rfl).1 rfl rfl rfl ⟨Below.refl _ _, rfl⟩
          refine fc r (fun fr1 g w' hb' hd r' => y_pick r' (b := true) (v := (.bool (x23.1.e == 0))) (Eq.trans (show (g 1).v = .bool x23.2.2.1 from (hd 1 rfl).1) (congrArg Value.bool h32)) (hd 4 rfl).1 bz) ?_
          refine fc r (fun fr1 g w' hb' hd r' => y_move r' (hd 5 rfl).1 bz) ?_
          refine eachF_want true r rfl rfl rfl (fun g w' hd => Eq.trans (show (g 6).v = .bool (x23.1.e == 0) from (hd 6 rfl).1) (congrArg Value.bool h33)) (fun fr1 g w' hb' hd r' => ?_) ?_
          · exact y_fieldAddr r' (b := b25) (o := 0) (k := 0) rfl fo32_0 ⟨Below.refl _ _, rfl⟩
          refine eachF_want true r rfl rfl rfl (fun g w' hd => Eq.trans (show (g 6).v = .bool (x23.1.e == 0) from (hd 6 rfl).1) (congrArg Value.bool h33)) (fun fr1 g w' hb' hd r' => ?_) ?_
          · exact y_load_one r' (v := (I x23.2.1.e)) (hd 7 rfl).1 ((hP.below (dr hb')).cell (i := 4) rfl) to30 rfl ⟨Below.refl _ _, rfl⟩
          refine eachF_want true r rfl rfl rfl (fun g w' hd => Eq.trans (show (g 6).v = .bool (x23.1.e == 0) from (hd 6 rfl).1) (congrArg Value.bool h33)) (fun fr1 g w' hb' hd r' => ?_) ?_
          · exact y_bin r' (u := (I x23.2.1.e)) (u' := (I 0)) (v := (.bool (x23.2.1.e == 0))) (hd 8 rfl).1 rfl rfl rfl ⟨Below.refl _ _, rfl⟩
          refine fc r (fun fr1 g w' hb' hd r' => y_pick r' (b := true) (v := (.bool (x23.2.1.e == 0))) (Eq.trans (show (g 6).v = .bool (x23.1.e == 0) from (hd 6 rfl).1) (congrArg Value.bool h33)) (hd 9 rfl).1 bz) ?_
          refine fc r (fun fr1 g w' hb' hd r' => y_move r' (hd 10 rfl).1 bz) ?_
          refine eachF_want true r rfl rfl rfl (fun g w' hd => Eq.trans (show (g 11).v = .bool (x23.2.1.e == 0) from (hd 11 rfl).1) (congrArg Value.bool h34)) (fun fr1 g w' hb' hd r' => ?_) ?_
          · exact y_fieldAddr r' (b := b24) (o := 0) (k := 1) rfl fo32_1 ⟨Below.refl _ _, rfl⟩
          refine eachF_want true r rfl rfl rfl (fun g w' hd => Eq.trans (show (g 11).v = .bool (x23.2.1.e == 0) from (hd 11 rfl).1) (congrArg Value.bool h34)) (fun fr1 g w' hb' hd r' => ?_) ?_
          · exact y_load_one r' (v := (U x23.1.v)) (hd 12 rfl).1 ((hP.below (dr hb')).cell (i := 3) rfl) to22 rfl ⟨Below.refl _ _, rfl⟩
          refine eachF_want true r rfl rfl rfl (fun g w' hd => Eq.trans (show (g 11).v = .bool (x23.2.1.e == 0) from (hd 11 rfl).1) (congrArg Value.bool h34)) (fun fr1 g w' hb' hd r' => ?_) ?_
          · exact y_fieldAddr r' (b := b25) (o := 0) (k := 1) rfl fo32_1 ⟨Below.refl _ _, rfl⟩
          refine eachF_want true r rfl rfl rfl (fun g w' hd => Eq.trans (show (g 11).v = .bool (x23.2.1.e == 0) from (hd 11 rfl).1) (congrArg Value.bool h34)) (fun fr1 g w' hb' hd r' => ?_) ?_
          · exact y_load_one r' (v := (U x23.2.1.v)) (hd 14 rfl).1 ((hP.below (dr hb')).cell (i := 4) rfl) to22 rfl ⟨Below.refl _ _, rfl⟩
          refine eachF_want true r rfl rfl rfl (fun g w' hd => Eq.trans (show (g 11).v = .bool (x23.2.1.e == 0) from (hd 11 rfl).1) (congrArg Value.bool h34)) (fun fr1 g w' hb' hd r' => ?_) ?_
          · exact y_bin r' (u := (U x23.1.v)) (u' := (U x23.2.1.v)) (v := (U (V (x23.1.v + x23.2.1.v)))) (hd 13 rfl).1 (hd 15 rfl).1 rfl rfl ⟨Below.refl _ _, rfl⟩
          refine eachF_want true r rfl rfl rfl (fun g w' hd => Eq.trans (show (g 11).v = .bool (x23.2.1.e == 0) from (hd 11 rfl).1) (congrArg Value.bool h34)) (fun fr1 g w' hb' hd r' => ?_) ?_
          · exact y_bin r' (u := (U (V (x23.1.v + x23.2.1.v)))) (u' := (U 1)) (v := (.bool ((V (x23.1.v + x23.2.1.v)) == 1))) (hd 16 rfl).1 rfl rfl rfl ⟨Below.refl _ _, rfl⟩
          refine fc r (fun fr1 g w' hb' hd r' => y_pick r' (b := true) (v := (.bool ((V (x23.1.v + x23.2.1.v)) == 1))) (Eq.trans (show (g 11).v = .bool (x23.2.1.e == 0) from (hd 11 rfl).1) (congrArg Value.bool h34)) (hd 17 rfl).1 bz) ?_
          refine fc r (fun fr1 g w' hb' hd r' => y_move r' (hd 18 rfl).1 bz) ?_
          refine eachF_skip true (.bool false) r rfl rfl rfl (fun g w' hd => Eq.trans (show (g 19).v = .bool ((V (x23.1.v + x23.2.1.v)) == 1) from (hd 19 rfl).1) (congrArg Value.bool h35)) (by simp [boolOf]) (fun _ _ => ⟨Below.refl _ _, rfl⟩) ?_
          refine eachF_skip true (.bool false) r rfl rfl rfl (fun g w' hd => Eq.trans (show (g 19).v = .bool ((V (x23.1.v + x23.2.1.v)) == 1) from (hd 19 rfl).1) (congrArg Value.bool h35)) (by simp [boolOf]) (fun _ _ => ⟨Below.refl _ _, rfl⟩) ?_
          refine eachF_skip true (.bool false) r rfl rfl rfl (fun g w' hd => Eq.trans (show (g 19).v = .bool ((V (x23.1.v + x23.2.1.v)) == 1) from (hd 19 rfl).1) (congrArg Value.bool h35)) (by simp [boolOf]) (fun _ _ => ⟨Below.refl _ _, rfl⟩) ?_
          refine fc r (fun fr1 g w' hb' hd r' => y_pick r' (b := false) (v := (.bool false)) (Eq.trans (show (g 19).v = .bool ((V (x23.1.v + x23.2.1.v)) == 1) from (hd 19 rfl).1) (congrArg Value.bool h35)) rfl bz) ?_
          refine fc r (fun fr1 g w' hb' hd r' => y_move r' (hd 23 rfl).1 bz) ?_
          refine eachF_skip true (.bool false) r rfl rfl rfl (fun g w' hd => Eq.trans (show (g 24).v = .bool false from (hd 24 rfl).1) (congrArg Value.bool (rfl : false = _))) (by simp [boolOf]) (fun _ _ => ⟨Below.refl _ _, rfl⟩) ?_
          refine eachF_skip true (.bool false) r rfl rfl rfl (fun g w' hd => Eq.trans (show (g 24).v = .bool false from (hd 24 rfl).1) (congrArg Value.bool (rfl : false = _))) (by simp [boolOf]) (fun _ _ => ⟨Below.refl _ _, rfl⟩) ?_
          refine eachF_skip true (.bool false) r rfl rfl rfl (fun g w' hd => Eq.trans (show (g 24).v = .bool false from (hd 24 rfl).1) (congrArg Value.bool (rfl : false = _))) (by simp [boolOf]) (fun _ _ => ⟨Below.refl _ _, rfl⟩) ?_
          refine eachF_skip true (.bool false) r rfl rfl rfl (fun g w' hd => Eq.trans (show (g 24).v = .bool false from (hd 24 rfl).1) (congrArg Value.bool (rfl : false = _))) (by simp [boolOf]) (fun _ _ => ⟨Below.refl _ _, rfl⟩) ?_
          refine eachF_skip true (.bool false) r rfl rfl rfl (fun g w' hd => Eq.trans (show (g 24).v = .bool false from (hd 24 rfl).1) (congrArg Value.bool (rfl : false = _))) (by simp [boolOf]) (fun _ _ => ⟨Below.refl _ _, rfl⟩) ?_
          refine eachF_skip true (.bool false) r rfl rfl rfl (fun g w' hd => Eq.trans (show (g 24).v = .bool false from (hd 24 rfl).1) (congrArg Value.bool (rfl : false = _))) (by simp [boolOf]) (fun _ _ => ⟨Below.refl _ _, rfl⟩) ?_
          refine eachF_skip true (.bool false) r rfl rfl rfl (fun g w' hd => Eq.trans (show (g 24).v = .bool false from (hd 24 rfl).1) (congrArg Value.bool (rfl : false = _))) (by simp [boolOf]) (fun _ _ => ⟨Below.refl _ _, rfl⟩) ?_
          refine eachF_skip true (.bool false) r rfl rfl rfl (fun g w' hd => Eq.trans (show (g 24).v = .bool false from (hd 24 rfl).1) (congrArg Value.bool (rfl : false = _))) (by simp [boolOf]) (fun _ _ => ⟨Below.refl _ _, rfl⟩) ?_
          refine fc r (fun fr1 g w' hb' hd r' => y_pick r' (b := false) (v := (.bool false)) (Eq.trans (show (g 24).v = .bool false from (hd 24 rfl).1) (congrArg Value.bool (rfl : false = _))) rfl bz) ?_
          refine fc r (fun fr1 g w' hb' hd r' => y_move r' (hd 33 rfl).1 bz) ?_
          refine eachF_skip true (.bool false) r rfl rfl rfl (fun g w' hd => Eq.trans (show (g 34).v = .bool false from (hd 34 rfl).1) (congrArg Value.bool (rfl : false = _))) (by simp [boolOf]) (fun _ _ => ⟨Below.refl _ _, rfl⟩) ?_
          refine eachF_skip true (.bool false) r rfl rfl rfl (fun g w' hd => Eq.trans (show (g 34).v = .bool false from (hd 34 rfl).1) (congrArg Value.bool (rfl : false = _))) (by simp [boolOf]) (fun _ _ => ⟨Below.refl _ _, rfl⟩) ?_
          refine eachF_skip true (.bool false) r rfl rfl rfl (fun g w' hd => Eq.trans (show (g 34).v = .bool false from (hd 34 rfl).1) (congrArg Value.bool (rfl : false = _))) (by simp [boolOf]) (fun _ _ => ⟨Below.refl _ _, rfl⟩) ?_
          refine eachF_skip true (.bool false) r rfl rfl rfl (fun g w' hd => Eq.trans (show (g 34).v = .bool false from (hd 34 rfl).1) (congrArg Value.bool (rfl : false = _))) (by simp [boolOf]) (fun _ _ => ⟨Below.refl _ _, rfl⟩) ?_
          refine eachF_skip true (.bool false) r rfl rfl rfl (fun g w' hd => Eq.trans (show (g 34).v = .bool false from (hd 34 rfl).1) (congrArg Value.bool (rfl : false = _))) (by simp [boolOf]) (fun _ _ => ⟨Below.refl _ _, rfl⟩) ?_
          refine eachF_skip true (.bool false) r rfl rfl rfl (fun g w' hd => Eq.trans (show (g 34).v = .bool false from (hd 34 rfl).1) (congrArg Value.bool (rfl : false = _))) (by simp [boolOf]) (fun _ _ => ⟨Below.refl _ _, rfl⟩) ?_
          refine eachF_skip true (.bool false) r rfl rfl rfl (fun g w' hd => Eq.trans (show (g 34).v = .bool false from (hd 34 rfl).1) (congrArg Value.bool (rfl : false = _))) (by simp [boolOf]) (fun _ _ => ⟨Below.refl _ _, rfl⟩) ?_
          refine eachF_skip true (.bool false) r rfl rfl rfl (fun g w' hd => Eq.trans (show (g 34).v = .bool false from (hd 34 rfl).1) (congrArg Value.bool (rfl : false = _))) (by simp [boolOf]) (fun _ _ => ⟨Below.refl _ _, rfl⟩) ?_
          refine fc r (fun fr1 g w' hb' hd r' => y_pick r' (b := false) (v := (.bool false)) (Eq.trans (show (g 34).v = .bool false from (hd 34 rfl).1) (congrArg Value.bool (rfl : false = _))) rfl bz) ?_
          refine fc r (fun fr1 g w' hb' hd r' => y_assign r' (hd 43 rfl).1 bz) ?_
          exact eachF_nil
         ·
          intro fr gg w43 hb hΦ hap r
          have r := r.congr (sc ((hΦ 44 rfl).1) (sc ((hΦ 43 rfl).1) (sc ((hΦ 42 rfl).1) (sc ((hΦ 41 rfl).1) (sc ((hΦ 40 rfl).1) (sc ((hΦ 39 rfl).1) (sc ((hΦ 38 rfl).1) (sc ((hΦ 37 rfl).1) (sc ((hΦ 36 rfl).1) (sc ((hΦ 35 rfl).1) (sc ((hΦ 34 rfl).1) (sc ((hΦ 33 rfl).1) (sc ((hΦ 32 rfl).1) (sc ((hΦ 31 rfl).1) (sc ((hΦ 30 rfl).1) (sc ((hΦ 29 rfl).1) (sc ((hΦ 28 rfl).1) (sc ((hΦ 27 rfl).1) (sc ((hΦ 26 rfl).1) (sc ((hΦ 25 rfl).1) (sc ((hΦ 24 rfl).1) (sc ((hΦ 23 rfl).1) (sc ((hΦ 22 rfl).1) (sc ((hΦ 21 rfl).1) (sc ((hΦ 20 rfl).1) (sc ((hΦ 19 rfl).1) (sc ((hΦ 18 rfl).1) (sc ((hΦ 17 rfl).1) (sc ((hΦ 16 rfl).1) (sc ((hΦ 15 rfl).1) (sc ((hΦ 14 rfl).1) (sc ((hΦ 13 rfl).1) (sc ((hΦ 12 rfl).1) (sc ((hΦ 11 rfl).1) (sc ((hΦ 10 rfl).1) (sc ((hΦ 9 rfl).1) (sc ((hΦ 8 rfl).1) (sc ((hΦ 7 rfl).1) (sc ((hΦ 6 rfl).1) (sc ((hΦ 5 rfl).1) (sc ((hΦ 4 rfl).1) (sc ((hΦ 3 rfl).1) (sc ((hΦ 2 rfl).1) (sc ((hΦ 1 rfl).1) (sc ((hΦ 0 rfl).1) rfl)))))))))))))))))))))))))))))))))))))))))))))
          have hP : Post No [roK 4 1 boolE a2_v a2, cellC b11 ((planC (⟨6, 2, 7, 2, 1, 9⟩ : Plan))).toArray 25, memK mg19 x23.2.2.2, cellC b24 ((resC x23.1)).toArray 32, cellC b25 ((resC x23.2.1)).toArray 32, rowK 3 1 i64 v29 x27] w0 w43 := hP.below hb
          exact nxy31 false () _ _ _ hD r (hs_cons rfl (hs_cons rfl (hs_cons rfl (hs_cons rfl (hs_cons rfl (hs_cons rfl (hs_cons rfl (hs_cons rfl (hs_cons rfl (hs_cons rfl (hs_cons rfl (hs_cons rfl hs_nil)))))))))))) (hP.pick [0, 1, 2, 3, 4, 5] rfl rfl)
       ·
        have hD := (cond_f h34).symm.trans hD
        refine wp_freeF [.val (.bool x23.2.2.1), .val (.bool x23.2.2.1), .val (.pointer (some ⟨b24, 0, none⟩)), .val (I x23.1.e), .val (.bool (x23.1.e == 0)), .val (.bool (x23.1.e == 0)), .val (.bool (x23.1.e == 0)), .val (.pointer (some ⟨b25, 0, none⟩)), .val (I x23.2.1.e), .val (.bool (x23.2.1.e == 0)), .val (.bool (x23.2.1.e == 0)), .val (.bool (x23.2.1.e == 0)), .val undef, .val undef, .val undef, .val undef, .val undef, .val undef, .val (.bool false), .val (.bool false), .val undef, .val undef, .val undef, .val (.bool false), .val (.bool false), .val undef, .val undef, .val undef, .val undef, .val undef, .val undef, .val undef, .val undef, .val (.bool false), .val (.bool false), .val undef, .val undef, .val undef, .val undef, .val undef, .val undef, .val undef, .val undef, .val (.bool false), .val (.bool false)] mixed r (by kernel_rfl) ?_ ?_
        ·
         refine fc r (fun fr1 g w' hb' hd r' => y_move r' rfl bz) ?_
         refine fc r (fun fr1 g w' hb' hd r' => y_move r' (hd 0 rfl).1 bz) ?_
         refine eachF_want true r rfl rfl rfl (fun g w' hd => Eq.trans (show (g 1).v = .bool x23.2.2.1 from (hd 1 rfl).1) (congrArg Value.bool h32)) (fun fr1 g w' hb' hd r' => ?_) ?_
         · exact y_fieldAddr r' (b := b24) (o := 0) (k := 0) rfl fo32_0 ⟨Below.refl _ _, rfl⟩
         refine eachF_want true r rfl rfl rfl (fun g w' hd => Eq.trans (show (g 1).v = .bool x23.2.2.1 from (hd 1 rfl).1) (congrArg Value.bool h32)) (fun fr1 g w' hb' hd r' => ?_) ?_
         · exact y_load_one r' (v := (I x23.1.e)) (hd 2 rfl).1 ((hP.below (dr hb')).cell (i := 3) rfl) to30 rfl ⟨Below.refl _ _, rfl⟩
         refine eachF_want true r rfl rfl rfl (fun g w' hd => Eq.trans (show (g 1).v = .bool x23.2.2.1 from (hd 1 rfl).1) (congrArg Value.bool h32)) (fun fr1 g w' hb' hd r' => ?_) ?_
         · exact y_bin r' (u := (I x23.1.e)) (u' := (I 0)) (v := (.bool (x23.1.e == 0))) (hd 3 rfl).1 rfl rfl rfl ⟨Below.refl _ _, rfl⟩
         refine fc r (fun fr1 g w' hb' hd r' => y_pick r' (b := true) (v := (.bool (x23.1.e == 0))) (Eq.trans (show (g 1).v = .bool x23.2.2.1 from (hd 1 rfl).1) (congrArg Value.bool h32)) (hd 4 rfl).1 bz) ?_
         refine fc r (fun fr1 g w' hb' hd r' => y_move r' (hd 5 rfl).1 bz) ?_
         refine eachF_want true r rfl rfl rfl (fun g w' hd => Eq.trans (show (g 6).v = .bool (x23.1.e == 0) from (hd 6 rfl).1) (congrArg Value.bool h33)) (fun fr1 g w' hb' hd r' => ?_) ?_
         · exact y_fieldAddr r' (b := b25) (o := 0) (k := 0) rfl fo32_0 ⟨Below.refl _ _, rfl⟩
         refine eachF_want true r rfl rfl rfl (fun g w' hd => Eq.trans (show (g 6).v = .bool (x23.1.e == 0) from (hd 6 rfl).1) (congrArg Value.bool h33)) (fun fr1 g w' hb' hd r' => ?_) ?_
         · exact y_load_one r' (v := (I x23.2.1.e)) (hd 7 rfl).1 ((hP.below (dr hb')).cell (i := 4) rfl) to30 rfl ⟨Below.refl _ _, rfl⟩
         refine eachF_want true r rfl rfl rfl (fun g w' hd => Eq.trans (show (g 6).v = .bool (x23.1.e == 0) from (hd 6 rfl).1) (congrArg Value.bool h33)) (fun fr1 g w' hb' hd r' => ?_) ?_
         · exact y_bin r' (u := (I x23.2.1.e)) (u' := (I 0)) (v := (.bool (x23.2.1.e == 0))) (hd 8 rfl).1 rfl rfl rfl ⟨Below.refl _ _, rfl⟩
         refine fc r (fun fr1 g w' hb' hd r' => y_pick r' (b := true) (v := (.bool (x23.2.1.e == 0))) (Eq.trans (show (g 6).v = .bool (x23.1.e == 0) from (hd 6 rfl).1) (congrArg Value.bool h33)) (hd 9 rfl).1 bz) ?_
         refine fc r (fun fr1 g w' hb' hd r' => y_move r' (hd 10 rfl).1 bz) ?_
         refine eachF_skip true (.bool false) r rfl rfl rfl (fun g w' hd => Eq.trans (show (g 11).v = .bool (x23.2.1.e == 0) from (hd 11 rfl).1) (congrArg Value.bool h34)) (by simp [boolOf]) (fun _ _ => ⟨Below.refl _ _, rfl⟩) ?_
         refine eachF_skip true (.bool false) r rfl rfl rfl (fun g w' hd => Eq.trans (show (g 11).v = .bool (x23.2.1.e == 0) from (hd 11 rfl).1) (congrArg Value.bool h34)) (by simp [boolOf]) (fun _ _ => ⟨Below.refl _ _, rfl⟩) ?_
         refine eachF_skip true (.bool false) r rfl rfl rfl (fun g w' hd => Eq.trans (show (g 11).v = .bool (x23.2.1.e == 0) from (hd 11 rfl).1) (congrArg Value.bool h34)) (by simp [boolOf]) (fun _ _ => ⟨Below.refl _ _, rfl⟩) ?_
         refine eachF_skip true (.bool false) r rfl rfl rfl (fun g w' hd => Eq.trans (show (g 11).v = .bool (x23.2.1.e == 0) from (hd 11 rfl).1) (congrArg Value.bool h34)) (by simp [boolOf]) (fun _ _ => ⟨Below.refl _ _, rfl⟩) ?_
         refine eachF_skip true (.bool false) r rfl rfl rfl (fun g w' hd => Eq.trans (show (g 11).v = .bool (x23.2.1.e == 0) from (hd 11 rfl).1) (congrArg Value.bool h34)) (by simp [boolOf]) (fun _ _ => ⟨Below.refl _ _, rfl⟩) ?_
         refine eachF_skip true (.bool false) r rfl rfl rfl (fun g w' hd => Eq.trans (show (g 11).v = .bool (x23.2.1.e == 0) from (hd 11 rfl).1) (congrArg Value.bool h34)) (by simp [boolOf]) (fun _ _ => ⟨Below.refl _ _, rfl⟩) ?_
         refine fc r (fun fr1 g w' hb' hd r' => y_pick r' (b := false) (v := (.bool false)) (Eq.trans (show (g 11).v = .bool (x23.2.1.e == 0) from (hd 11 rfl).1) (congrArg Value.bool h34)) rfl bz) ?_
         refine fc r (fun fr1 g w' hb' hd r' => y_move r' (hd 18 rfl).1 bz) ?_
         refine eachF_skip true (.bool false) r rfl rfl rfl (fun g w' hd => Eq.trans (show (g 19).v = .bool false from (hd 19 rfl).1) (congrArg Value.bool (rfl : false = _))) (by simp [boolOf]) (fun _ _ => ⟨Below.refl _ _, rfl⟩) ?_
         refine eachF_skip true (.bool false) r rfl rfl rfl (fun g w' hd => Eq.trans (show (g 19).v = .bool false from (hd 19 rfl).1) (congrArg Value.bool (rfl : false = _))) (by simp [boolOf]) (fun _ _ => ⟨Below.refl _ _, rfl⟩) ?_
         refine eachF_skip true (.bool false) r rfl rfl rfl (fun g w' hd => Eq.trans (show (g 19).v = .bool false from (hd 19 rfl).1) (congrArg Value.bool (rfl : false = _))) (by simp [boolOf]) (fun _ _ => ⟨Below.refl _ _, rfl⟩) ?_
         refine fc r (fun fr1 g w' hb' hd r' => y_pick r' (b := false) (v := (.bool false)) (Eq.trans (show (g 19).v = .bool false from (hd 19 rfl).1) (congrArg Value.bool (rfl : false = _))) rfl bz) ?_
         refine fc r (fun fr1 g w' hb' hd r' => y_move r' (hd 23 rfl).1 bz) ?_
         refine eachF_skip true (.bool false) r rfl rfl rfl (fun g w' hd => Eq.trans (show (g 24).v = .bool false from (hd 24 rfl).1) (congrArg Value.bool (rfl : false = _))) (by simp [boolOf]) (fun _ _ => ⟨Below.refl _ _, rfl⟩) ?_
         refine eachF_skip true (.bool false) r rfl rfl rfl (fun g w' hd => Eq.trans (show (g 24).v = .bool false from (hd 24 rfl).1) (congrArg Value.bool (rfl : false = _))) (by simp [boolOf]) (fun _ _ => ⟨Below.refl _ _, rfl⟩) ?_
         refine eachF_skip true (.bool false) r rfl rfl rfl (fun g w' hd => Eq.trans (show (g 24).v = .bool false from (hd 24 rfl).1) (congrArg Value.bool (rfl : false = _))) (by simp [boolOf]) (fun _ _ => ⟨Below.refl _ _, rfl⟩) ?_
         refine eachF_skip true (.bool false) r rfl rfl rfl (fun g w' hd => Eq.trans (show (g 24).v = .bool false from (hd 24 rfl).1) (congrArg Value.bool (rfl : false = _))) (by simp [boolOf]) (fun _ _ => ⟨Below.refl _ _, rfl⟩) ?_
         refine eachF_skip true (.bool false) r rfl rfl rfl (fun g w' hd => Eq.trans (show (g 24).v = .bool false from (hd 24 rfl).1) (congrArg Value.bool (rfl : false = _))) (by simp [boolOf]) (fun _ _ => ⟨Below.refl _ _, rfl⟩) ?_
         refine eachF_skip true (.bool false) r rfl rfl rfl (fun g w' hd => Eq.trans (show (g 24).v = .bool false from (hd 24 rfl).1) (congrArg Value.bool (rfl : false = _))) (by simp [boolOf]) (fun _ _ => ⟨Below.refl _ _, rfl⟩) ?_
         refine eachF_skip true (.bool false) r rfl rfl rfl (fun g w' hd => Eq.trans (show (g 24).v = .bool false from (hd 24 rfl).1) (congrArg Value.bool (rfl : false = _))) (by simp [boolOf]) (fun _ _ => ⟨Below.refl _ _, rfl⟩) ?_
         refine eachF_skip true (.bool false) r rfl rfl rfl (fun g w' hd => Eq.trans (show (g 24).v = .bool false from (hd 24 rfl).1) (congrArg Value.bool (rfl : false = _))) (by simp [boolOf]) (fun _ _ => ⟨Below.refl _ _, rfl⟩) ?_
         refine fc r (fun fr1 g w' hb' hd r' => y_pick r' (b := false) (v := (.bool false)) (Eq.trans (show (g 24).v = .bool false from (hd 24 rfl).1) (congrArg Value.bool (rfl : false = _))) rfl bz) ?_
         refine fc r (fun fr1 g w' hb' hd r' => y_move r' (hd 33 rfl).1 bz) ?_
         refine eachF_skip true (.bool false) r rfl rfl rfl (fun g w' hd => Eq.trans (show (g 34).v = .bool false from (hd 34 rfl).1) (congrArg Value.bool (rfl : false = _))) (by simp [boolOf]) (fun _ _ => ⟨Below.refl _ _, rfl⟩) ?_
         refine eachF_skip true (.bool false) r rfl rfl rfl (fun g w' hd => Eq.trans (show (g 34).v = .bool false from (hd 34 rfl).1) (congrArg Value.bool (rfl : false = _))) (by simp [boolOf]) (fun _ _ => ⟨Below.refl _ _, rfl⟩) ?_
         refine eachF_skip true (.bool false) r rfl rfl rfl (fun g w' hd => Eq.trans (show (g 34).v = .bool false from (hd 34 rfl).1) (congrArg Value.bool (rfl : false = _))) (by simp [boolOf]) (fun _ _ => ⟨Below.refl _ _, rfl⟩) ?_
         refine eachF_skip true (.bool false) r rfl rfl rfl (fun g w' hd => Eq.trans (show (g 34).v = .bool false from (hd 34 rfl).1) (congrArg Value.bool (rfl : false = _))) (by simp [boolOf]) (fun _ _ => ⟨Below.refl _ _, rfl⟩) ?_
         refine eachF_skip true (.bool false) r rfl rfl rfl (fun g w' hd => Eq.trans (show (g 34).v = .bool false from (hd 34 rfl).1) (congrArg Value.bool (rfl : false = _))) (by simp [boolOf]) (fun _ _ => ⟨Below.refl _ _, rfl⟩) ?_
         refine eachF_skip true (.bool false) r rfl rfl rfl (fun g w' hd => Eq.trans (show (g 34).v = .bool false from (hd 34 rfl).1) (congrArg Value.bool (rfl : false = _))) (by simp [boolOf]) (fun _ _ => ⟨Below.refl _ _, rfl⟩) ?_
         refine eachF_skip true (.bool false) r rfl rfl rfl (fun g w' hd => Eq.trans (show (g 34).v = .bool false from (hd 34 rfl).1) (congrArg Value.bool (rfl : false = _))) (by simp [boolOf]) (fun _ _ => ⟨Below.refl _ _, rfl⟩) ?_
         refine eachF_skip true (.bool false) r rfl rfl rfl (fun g w' hd => Eq.trans (show (g 34).v = .bool false from (hd 34 rfl).1) (congrArg Value.bool (rfl : false = _))) (by simp [boolOf]) (fun _ _ => ⟨Below.refl _ _, rfl⟩) ?_
         refine fc r (fun fr1 g w' hb' hd r' => y_pick r' (b := false) (v := (.bool false)) (Eq.trans (show (g 34).v = .bool false from (hd 34 rfl).1) (congrArg Value.bool (rfl : false = _))) rfl bz) ?_
         refine fc r (fun fr1 g w' hb' hd r' => y_assign r' (hd 43 rfl).1 bz) ?_
         exact eachF_nil
        ·
         intro fr gg w44 hb hΦ hap r
         have r := r.congr (sc ((hΦ 44 rfl).1) (sc ((hΦ 43 rfl).1) (sc ((hΦ 42 rfl).1) (sc ((hΦ 41 rfl).1) (sc ((hΦ 40 rfl).1) (sc ((hΦ 39 rfl).1) (sc ((hΦ 38 rfl).1) (sc ((hΦ 37 rfl).1) (sc ((hΦ 36 rfl).1) (sc ((hΦ 35 rfl).1) (sc ((hΦ 34 rfl).1) (sc ((hΦ 33 rfl).1) (sc ((hΦ 32 rfl).1) (sc ((hΦ 31 rfl).1) (sc ((hΦ 30 rfl).1) (sc ((hΦ 29 rfl).1) (sc ((hΦ 28 rfl).1) (sc ((hΦ 27 rfl).1) (sc ((hΦ 26 rfl).1) (sc ((hΦ 25 rfl).1) (sc ((hΦ 24 rfl).1) (sc ((hΦ 23 rfl).1) (sc ((hΦ 22 rfl).1) (sc ((hΦ 21 rfl).1) (sc ((hΦ 20 rfl).1) (sc ((hΦ 19 rfl).1) (sc ((hΦ 18 rfl).1) (sc ((hΦ 17 rfl).1) (sc ((hΦ 16 rfl).1) (sc ((hΦ 15 rfl).1) (sc ((hΦ 14 rfl).1) (sc ((hΦ 13 rfl).1) (sc ((hΦ 12 rfl).1) (sc ((hΦ 11 rfl).1) (sc ((hΦ 10 rfl).1) (sc ((hΦ 9 rfl).1) (sc ((hΦ 8 rfl).1) (sc ((hΦ 7 rfl).1) (sc ((hΦ 6 rfl).1) (sc ((hΦ 5 rfl).1) (sc ((hΦ 4 rfl).1) (sc ((hΦ 3 rfl).1) (sc ((hΦ 2 rfl).1) (sc ((hΦ 1 rfl).1) (sc ((hΦ 0 rfl).1) rfl)))))))))))))))))))))))))))))))))))))))))))))
         have hP : Post No [roK 4 1 boolE a2_v a2, cellC b11 ((planC (⟨6, 2, 7, 2, 1, 9⟩ : Plan))).toArray 25, memK mg19 x23.2.2.2, cellC b24 ((resC x23.1)).toArray 32, cellC b25 ((resC x23.2.1)).toArray 32, rowK 3 1 i64 v29 x27] w0 w44 := hP.below hb
         exact nxy31 false () _ _ _ hD r (hs_cons rfl (hs_cons rfl (hs_cons rfl (hs_cons rfl (hs_cons rfl (hs_cons rfl (hs_cons rfl (hs_cons rfl (hs_cons rfl (hs_cons rfl (hs_cons rfl (hs_cons rfl hs_nil)))))))))))) (hP.pick [0, 1, 2, 3, 4, 5] rfl rfl)
      ·
       have hD := (cond_f h33).symm.trans hD
       refine wp_freeF [.val (.bool x23.2.2.1), .val (.bool x23.2.2.1), .val (.pointer (some ⟨b24, 0, none⟩)), .val (I x23.1.e), .val (.bool (x23.1.e == 0)), .val (.bool (x23.1.e == 0)), .val (.bool (x23.1.e == 0)), .val undef, .val undef, .val undef, .val (.bool false), .val (.bool false), .val undef, .val undef, .val undef, .val undef, .val undef, .val undef, .val (.bool false), .val (.bool false), .val undef, .val undef, .val undef, .val (.bool false), .val (.bool false), .val undef, .val undef, .val undef, .val undef, .val undef, .val undef, .val undef, .val undef, .val (.bool false), .val (.bool false), .val undef, .val undef, .val undef, .val undef, .val undef, .val undef, .val undef, .val undef, .val (.bool false), .val (.bool false)] mixed r (by kernel_rfl) ?_ ?_
       ·
        refine fc r (fun fr1 g w' hb' hd r' => y_move r' rfl bz) ?_
        refine fc r (fun fr1 g w' hb' hd r' => y_move r' (hd 0 rfl).1 bz) ?_
        refine eachF_want true r rfl rfl rfl (fun g w' hd => Eq.trans (show (g 1).v = .bool x23.2.2.1 from (hd 1 rfl).1) (congrArg Value.bool h32)) (fun fr1 g w' hb' hd r' => ?_) ?_
        · exact y_fieldAddr r' (b := b24) (o := 0) (k := 0) rfl fo32_0 ⟨Below.refl _ _, rfl⟩
        refine eachF_want true r rfl rfl rfl (fun g w' hd => Eq.trans (show (g 1).v = .bool x23.2.2.1 from (hd 1 rfl).1) (congrArg Value.bool h32)) (fun fr1 g w' hb' hd r' => ?_) ?_
        · exact y_load_one r' (v := (I x23.1.e)) (hd 2 rfl).1 ((hP.below (dr hb')).cell (i := 3) rfl) to30 rfl ⟨Below.refl _ _, rfl⟩
        refine eachF_want true r rfl rfl rfl (fun g w' hd => Eq.trans (show (g 1).v = .bool x23.2.2.1 from (hd 1 rfl).1) (congrArg Value.bool h32)) (fun fr1 g w' hb' hd r' => ?_) ?_
        · exact y_bin r' (u := (I x23.1.e)) (u' := (I 0)) (v := (.bool (x23.1.e == 0))) (hd 3 rfl).1 rfl rfl rfl ⟨Below.refl _ _, rfl⟩
        refine fc r (fun fr1 g w' hb' hd r' => y_pick r' (b := true) (v := (.bool (x23.1.e == 0))) (Eq.trans (show (g 1).v = .bool x23.2.2.1 from (hd 1 rfl).1) (congrArg Value.bool h32)) (hd 4 rfl).1 bz) ?_
        refine fc r (fun fr1 g w' hb' hd r' => y_move r' (hd 5 rfl).1 bz) ?_
        refine eachF_skip true (.bool false) r rfl rfl rfl (fun g w' hd => Eq.trans (show (g 6).v = .bool (x23.1.e == 0) from (hd 6 rfl).1) (congrArg Value.bool h33)) (by simp [boolOf]) (fun _ _ => ⟨Below.refl _ _, rfl⟩) ?_
        refine eachF_skip true (.bool false) r rfl rfl rfl (fun g w' hd => Eq.trans (show (g 6).v = .bool (x23.1.e == 0) from (hd 6 rfl).1) (congrArg Value.bool h33)) (by simp [boolOf]) (fun _ _ => ⟨Below.refl _ _, rfl⟩) ?_
        refine eachF_skip true (.bool false) r rfl rfl rfl (fun g w' hd => Eq.trans (show (g 6).v = .bool (x23.1.e == 0) from (hd 6 rfl).1) (congrArg Value.bool h33)) (by simp [boolOf]) (fun _ _ => ⟨Below.refl _ _, rfl⟩) ?_
        refine fc r (fun fr1 g w' hb' hd r' => y_pick r' (b := false) (v := (.bool false)) (Eq.trans (show (g 6).v = .bool (x23.1.e == 0) from (hd 6 rfl).1) (congrArg Value.bool h33)) rfl bz) ?_
        refine fc r (fun fr1 g w' hb' hd r' => y_move r' (hd 10 rfl).1 bz) ?_
        refine eachF_skip true (.bool false) r rfl rfl rfl (fun g w' hd => Eq.trans (show (g 11).v = .bool false from (hd 11 rfl).1) (congrArg Value.bool (rfl : false = _))) (by simp [boolOf]) (fun _ _ => ⟨Below.refl _ _, rfl⟩) ?_
        refine eachF_skip true (.bool false) r rfl rfl rfl (fun g w' hd => Eq.trans (show (g 11).v = .bool false from (hd 11 rfl).1) (congrArg Value.bool (rfl : false = _))) (by simp [boolOf]) (fun _ _ => ⟨Below.refl _ _, rfl⟩) ?_
        refine eachF_skip true (.bool false) r rfl rfl rfl (fun g w' hd => Eq.trans (show (g 11).v = .bool false from (hd 11 rfl).1) (congrArg Value.bool (rfl : false = _))) (by simp [boolOf]) (fun _ _ => ⟨Below.refl _ _, rfl⟩) ?_
        refine eachF_skip true (.bool false) r rfl rfl rfl (fun g w' hd => Eq.trans (show (g 11).v = .bool false from (hd 11 rfl).1) (congrArg Value.bool (rfl : false = _))) (by simp [boolOf]) (fun _ _ => ⟨Below.refl _ _, rfl⟩) ?_
        refine eachF_skip true (.bool false) r rfl rfl rfl (fun g w' hd => Eq.trans (show (g 11).v = .bool false from (hd 11 rfl).1) (congrArg Value.bool (rfl : false = _))) (by simp [boolOf]) (fun _ _ => ⟨Below.refl _ _, rfl⟩) ?_
        refine eachF_skip true (.bool false) r rfl rfl rfl (fun g w' hd => Eq.trans (show (g 11).v = .bool false from (hd 11 rfl).1) (congrArg Value.bool (rfl : false = _))) (by simp [boolOf]) (fun _ _ => ⟨Below.refl _ _, rfl⟩) ?_
        refine fc r (fun fr1 g w' hb' hd r' => y_pick r' (b := false) (v := (.bool false)) (Eq.trans (show (g 11).v = .bool false from (hd 11 rfl).1) (congrArg Value.bool (rfl : false = _))) rfl bz) ?_
        refine fc r (fun fr1 g w' hb' hd r' => y_move r' (hd 18 rfl).1 bz) ?_
        refine eachF_skip true (.bool false) r rfl rfl rfl (fun g w' hd => Eq.trans (show (g 19).v = .bool false from (hd 19 rfl).1) (congrArg Value.bool (rfl : false = _))) (by simp [boolOf]) (fun _ _ => ⟨Below.refl _ _, rfl⟩) ?_
        refine eachF_skip true (.bool false) r rfl rfl rfl (fun g w' hd => Eq.trans (show (g 19).v = .bool false from (hd 19 rfl).1) (congrArg Value.bool (rfl : false = _))) (by simp [boolOf]) (fun _ _ => ⟨Below.refl _ _, rfl⟩) ?_
        refine eachF_skip true (.bool false) r rfl rfl rfl (fun g w' hd => Eq.trans (show (g 19).v = .bool false from (hd 19 rfl).1) (congrArg Value.bool (rfl : false = _))) (by simp [boolOf]) (fun _ _ => ⟨Below.refl _ _, rfl⟩) ?_
        refine fc r (fun fr1 g w' hb' hd r' => y_pick r' (b := false) (v := (.bool false)) (Eq.trans (show (g 19).v = .bool false from (hd 19 rfl).1) (congrArg Value.bool (rfl : false = _))) rfl bz) ?_
        refine fc r (fun fr1 g w' hb' hd r' => y_move r' (hd 23 rfl).1 bz) ?_
        refine eachF_skip true (.bool false) r rfl rfl rfl (fun g w' hd => Eq.trans (show (g 24).v = .bool false from (hd 24 rfl).1) (congrArg Value.bool (rfl : false = _))) (by simp [boolOf]) (fun _ _ => ⟨Below.refl _ _, rfl⟩) ?_
        refine eachF_skip true (.bool false) r rfl rfl rfl (fun g w' hd => Eq.trans (show (g 24).v = .bool false from (hd 24 rfl).1) (congrArg Value.bool (rfl : false = _))) (by simp [boolOf]) (fun _ _ => ⟨Below.refl _ _, rfl⟩) ?_
        refine eachF_skip true (.bool false) r rfl rfl rfl (fun g w' hd => Eq.trans (show (g 24).v = .bool false from (hd 24 rfl).1) (congrArg Value.bool (rfl : false = _))) (by simp [boolOf]) (fun _ _ => ⟨Below.refl _ _, rfl⟩) ?_
        refine eachF_skip true (.bool false) r rfl rfl rfl (fun g w' hd => Eq.trans (show (g 24).v = .bool false from (hd 24 rfl).1) (congrArg Value.bool (rfl : false = _))) (by simp [boolOf]) (fun _ _ => ⟨Below.refl _ _, rfl⟩) ?_
        refine eachF_skip true (.bool false) r rfl rfl rfl (fun g w' hd => Eq.trans (show (g 24).v = .bool false from (hd 24 rfl).1) (congrArg Value.bool (rfl : false = _))) (by simp [boolOf]) (fun _ _ => ⟨Below.refl _ _, rfl⟩) ?_
        refine eachF_skip true (.bool false) r rfl rfl rfl (fun g w' hd => Eq.trans (show (g 24).v = .bool false from (hd 24 rfl).1) (congrArg Value.bool (rfl : false = _))) (by simp [boolOf]) (fun _ _ => ⟨Below.refl _ _, rfl⟩) ?_
        refine eachF_skip true (.bool false) r rfl rfl rfl (fun g w' hd => Eq.trans (show (g 24).v = .bool false from (hd 24 rfl).1) (congrArg Value.bool (rfl : false = _))) (by simp [boolOf]) (fun _ _ => ⟨Below.refl _ _, rfl⟩) ?_
        refine eachF_skip true (.bool false) r rfl rfl rfl (fun g w' hd => Eq.trans (show (g 24).v = .bool false from (hd 24 rfl).1) (congrArg Value.bool (rfl : false = _))) (by simp [boolOf]) (fun _ _ => ⟨Below.refl _ _, rfl⟩) ?_
        refine fc r (fun fr1 g w' hb' hd r' => y_pick r' (b := false) (v := (.bool false)) (Eq.trans (show (g 24).v = .bool false from (hd 24 rfl).1) (congrArg Value.bool (rfl : false = _))) rfl bz) ?_
        refine fc r (fun fr1 g w' hb' hd r' => y_move r' (hd 33 rfl).1 bz) ?_
        refine eachF_skip true (.bool false) r rfl rfl rfl (fun g w' hd => Eq.trans (show (g 34).v = .bool false from (hd 34 rfl).1) (congrArg Value.bool (rfl : false = _))) (by simp [boolOf]) (fun _ _ => ⟨Below.refl _ _, rfl⟩) ?_
        refine eachF_skip true (.bool false) r rfl rfl rfl (fun g w' hd => Eq.trans (show (g 34).v = .bool false from (hd 34 rfl).1) (congrArg Value.bool (rfl : false = _))) (by simp [boolOf]) (fun _ _ => ⟨Below.refl _ _, rfl⟩) ?_
        refine eachF_skip true (.bool false) r rfl rfl rfl (fun g w' hd => Eq.trans (show (g 34).v = .bool false from (hd 34 rfl).1) (congrArg Value.bool (rfl : false = _))) (by simp [boolOf]) (fun _ _ => ⟨Below.refl _ _, rfl⟩) ?_
        refine eachF_skip true (.bool false) r rfl rfl rfl (fun g w' hd => Eq.trans (show (g 34).v = .bool false from (hd 34 rfl).1) (congrArg Value.bool (rfl : false = _))) (by simp [boolOf]) (fun _ _ => ⟨Below.refl _ _, rfl⟩) ?_
        refine eachF_skip true (.bool false) r rfl rfl rfl (fun g w' hd => Eq.trans (show (g 34).v = .bool false from (hd 34 rfl).1) (congrArg Value.bool (rfl : false = _))) (by simp [boolOf]) (fun _ _ => ⟨Below.refl _ _, rfl⟩) ?_
        refine eachF_skip true (.bool false) r rfl rfl rfl (fun g w' hd => Eq.trans (show (g 34).v = .bool false from (hd 34 rfl).1) (congrArg Value.bool (rfl : false = _))) (by simp [boolOf]) (fun _ _ => ⟨Below.refl _ _, rfl⟩) ?_
        refine eachF_skip true (.bool false) r rfl rfl rfl (fun g w' hd => Eq.trans (show (g 34).v = .bool false from (hd 34 rfl).1) (congrArg Value.bool (rfl : false = _))) (by simp [boolOf]) (fun _ _ => ⟨Below.refl _ _, rfl⟩) ?_
        refine eachF_skip true (.bool false) r rfl rfl rfl (fun g w' hd => Eq.trans (show (g 34).v = .bool false from (hd 34 rfl).1) (congrArg Value.bool (rfl : false = _))) (by simp [boolOf]) (fun _ _ => ⟨Below.refl _ _, rfl⟩) ?_
        refine fc r (fun fr1 g w' hb' hd r' => y_pick r' (b := false) (v := (.bool false)) (Eq.trans (show (g 34).v = .bool false from (hd 34 rfl).1) (congrArg Value.bool (rfl : false = _))) rfl bz) ?_
        refine fc r (fun fr1 g w' hb' hd r' => y_assign r' (hd 43 rfl).1 bz) ?_
        exact eachF_nil
       ·
        intro fr gg w45 hb hΦ hap r
        have r := r.congr (sc ((hΦ 44 rfl).1) (sc ((hΦ 43 rfl).1) (sc ((hΦ 42 rfl).1) (sc ((hΦ 41 rfl).1) (sc ((hΦ 40 rfl).1) (sc ((hΦ 39 rfl).1) (sc ((hΦ 38 rfl).1) (sc ((hΦ 37 rfl).1) (sc ((hΦ 36 rfl).1) (sc ((hΦ 35 rfl).1) (sc ((hΦ 34 rfl).1) (sc ((hΦ 33 rfl).1) (sc ((hΦ 32 rfl).1) (sc ((hΦ 31 rfl).1) (sc ((hΦ 30 rfl).1) (sc ((hΦ 29 rfl).1) (sc ((hΦ 28 rfl).1) (sc ((hΦ 27 rfl).1) (sc ((hΦ 26 rfl).1) (sc ((hΦ 25 rfl).1) (sc ((hΦ 24 rfl).1) (sc ((hΦ 23 rfl).1) (sc ((hΦ 22 rfl).1) (sc ((hΦ 21 rfl).1) (sc ((hΦ 20 rfl).1) (sc ((hΦ 19 rfl).1) (sc ((hΦ 18 rfl).1) (sc ((hΦ 17 rfl).1) (sc ((hΦ 16 rfl).1) (sc ((hΦ 15 rfl).1) (sc ((hΦ 14 rfl).1) (sc ((hΦ 13 rfl).1) (sc ((hΦ 12 rfl).1) (sc ((hΦ 11 rfl).1) (sc ((hΦ 10 rfl).1) (sc ((hΦ 9 rfl).1) (sc ((hΦ 8 rfl).1) (sc ((hΦ 7 rfl).1) (sc ((hΦ 6 rfl).1) (sc ((hΦ 5 rfl).1) (sc ((hΦ 4 rfl).1) (sc ((hΦ 3 rfl).1) (sc ((hΦ 2 rfl).1) (sc ((hΦ 1 rfl).1) (sc ((hΦ 0 rfl).1) rfl)))))))))))))))))))))))))))))))))))))))))))))
        have hP : Post No [roK 4 1 boolE a2_v a2, cellC b11 ((planC (⟨6, 2, 7, 2, 1, 9⟩ : Plan))).toArray 25, memK mg19 x23.2.2.2, cellC b24 ((resC x23.1)).toArray 32, cellC b25 ((resC x23.2.1)).toArray 32, rowK 3 1 i64 v29 x27] w0 w45 := hP.below hb
        exact nxy31 false () _ _ _ hD r (hs_cons rfl (hs_cons rfl (hs_cons rfl (hs_cons rfl (hs_cons rfl (hs_cons rfl (hs_cons rfl (hs_cons rfl (hs_cons rfl (hs_cons rfl (hs_cons rfl (hs_cons rfl hs_nil)))))))))))) (hP.pick [0, 1, 2, 3, 4, 5] rfl rfl)
     ·
      have hD := (cond_f h32).symm.trans hD
      refine wp_freeF [.val (.bool x23.2.2.1), .val (.bool x23.2.2.1), .val undef, .val undef, .val undef, .val (.bool false), .val (.bool false), .val undef, .val undef, .val undef, .val (.bool false), .val (.bool false), .val undef, .val undef, .val undef, .val undef, .val undef, .val undef, .val (.bool false), .val (.bool false), .val undef, .val undef, .val undef, .val (.bool false), .val (.bool false), .val undef, .val undef, .val undef, .val undef, .val undef, .val undef, .val undef, .val undef, .val (.bool false), .val (.bool false), .val undef, .val undef, .val undef, .val undef, .val undef, .val undef, .val undef, .val undef, .val (.bool false), .val (.bool false)] mixed r (by kernel_rfl) ?_ ?_
      ·
       refine fc r (fun fr1 g w' hb' hd r' => y_move r' rfl bz) ?_
       refine fc r (fun fr1 g w' hb' hd r' => y_move r' (hd 0 rfl).1 bz) ?_
       refine eachF_skip true (.bool false) r rfl rfl rfl (fun g w' hd => Eq.trans (show (g 1).v = .bool x23.2.2.1 from (hd 1 rfl).1) (congrArg Value.bool h32)) (by simp [boolOf]) (fun _ _ => ⟨Below.refl _ _, rfl⟩) ?_
       refine eachF_skip true (.bool false) r rfl rfl rfl (fun g w' hd => Eq.trans (show (g 1).v = .bool x23.2.2.1 from (hd 1 rfl).1) (congrArg Value.bool h32)) (by simp [boolOf]) (fun _ _ => ⟨Below.refl _ _, rfl⟩) ?_
       refine eachF_skip true (.bool false) r rfl rfl rfl (fun g w' hd => Eq.trans (show (g 1).v = .bool x23.2.2.1 from (hd 1 rfl).1) (congrArg Value.bool h32)) (by simp [boolOf]) (fun _ _ => ⟨Below.refl _ _, rfl⟩) ?_
       refine fc r (fun fr1 g w' hb' hd r' => y_pick r' (b := false) (v := (.bool false)) (Eq.trans (show (g 1).v = .bool x23.2.2.1 from (hd 1 rfl).1) (congrArg Value.bool h32)) rfl bz) ?_
       refine fc r (fun fr1 g w' hb' hd r' => y_move r' (hd 5 rfl).1 bz) ?_
       refine eachF_skip true (.bool false) r rfl rfl rfl (fun g w' hd => Eq.trans (show (g 6).v = .bool false from (hd 6 rfl).1) (congrArg Value.bool (rfl : false = _))) (by simp [boolOf]) (fun _ _ => ⟨Below.refl _ _, rfl⟩) ?_
       refine eachF_skip true (.bool false) r rfl rfl rfl (fun g w' hd => Eq.trans (show (g 6).v = .bool false from (hd 6 rfl).1) (congrArg Value.bool (rfl : false = _))) (by simp [boolOf]) (fun _ _ => ⟨Below.refl _ _, rfl⟩) ?_
       refine eachF_skip true (.bool false) r rfl rfl rfl (fun g w' hd => Eq.trans (show (g 6).v = .bool false from (hd 6 rfl).1) (congrArg Value.bool (rfl : false = _))) (by simp [boolOf]) (fun _ _ => ⟨Below.refl _ _, rfl⟩) ?_
       refine fc r (fun fr1 g w' hb' hd r' => y_pick r' (b := false) (v := (.bool false)) (Eq.trans (show (g 6).v = .bool false from (hd 6 rfl).1) (congrArg Value.bool (rfl : false = _))) rfl bz) ?_
       refine fc r (fun fr1 g w' hb' hd r' => y_move r' (hd 10 rfl).1 bz) ?_
       refine eachF_skip true (.bool false) r rfl rfl rfl (fun g w' hd => Eq.trans (show (g 11).v = .bool false from (hd 11 rfl).1) (congrArg Value.bool (rfl : false = _))) (by simp [boolOf]) (fun _ _ => ⟨Below.refl _ _, rfl⟩) ?_
       refine eachF_skip true (.bool false) r rfl rfl rfl (fun g w' hd => Eq.trans (show (g 11).v = .bool false from (hd 11 rfl).1) (congrArg Value.bool (rfl : false = _))) (by simp [boolOf]) (fun _ _ => ⟨Below.refl _ _, rfl⟩) ?_
       refine eachF_skip true (.bool false) r rfl rfl rfl (fun g w' hd => Eq.trans (show (g 11).v = .bool false from (hd 11 rfl).1) (congrArg Value.bool (rfl : false = _))) (by simp [boolOf]) (fun _ _ => ⟨Below.refl _ _, rfl⟩) ?_
       refine eachF_skip true (.bool false) r rfl rfl rfl (fun g w' hd => Eq.trans (show (g 11).v = .bool false from (hd 11 rfl).1) (congrArg Value.bool (rfl : false = _))) (by simp [boolOf]) (fun _ _ => ⟨Below.refl _ _, rfl⟩) ?_
       refine eachF_skip true (.bool false) r rfl rfl rfl (fun g w' hd => Eq.trans (show (g 11).v = .bool false from (hd 11 rfl).1) (congrArg Value.bool (rfl : false = _))) (by simp [boolOf]) (fun _ _ => ⟨Below.refl _ _, rfl⟩) ?_
       refine eachF_skip true (.bool false) r rfl rfl rfl (fun g w' hd => Eq.trans (show (g 11).v = .bool false from (hd 11 rfl).1) (congrArg Value.bool (rfl : false = _))) (by simp [boolOf]) (fun _ _ => ⟨Below.refl _ _, rfl⟩) ?_
       refine fc r (fun fr1 g w' hb' hd r' => y_pick r' (b := false) (v := (.bool false)) (Eq.trans (show (g 11).v = .bool false from (hd 11 rfl).1) (congrArg Value.bool (rfl : false = _))) rfl bz) ?_
       refine fc r (fun fr1 g w' hb' hd r' => y_move r' (hd 18 rfl).1 bz) ?_
       refine eachF_skip true (.bool false) r rfl rfl rfl (fun g w' hd => Eq.trans (show (g 19).v = .bool false from (hd 19 rfl).1) (congrArg Value.bool (rfl : false = _))) (by simp [boolOf]) (fun _ _ => ⟨Below.refl _ _, rfl⟩) ?_
       refine eachF_skip true (.bool false) r rfl rfl rfl (fun g w' hd => Eq.trans (show (g 19).v = .bool false from (hd 19 rfl).1) (congrArg Value.bool (rfl : false = _))) (by simp [boolOf]) (fun _ _ => ⟨Below.refl _ _, rfl⟩) ?_
       refine eachF_skip true (.bool false) r rfl rfl rfl (fun g w' hd => Eq.trans (show (g 19).v = .bool false from (hd 19 rfl).1) (congrArg Value.bool (rfl : false = _))) (by simp [boolOf]) (fun _ _ => ⟨Below.refl _ _, rfl⟩) ?_
       refine fc r (fun fr1 g w' hb' hd r' => y_pick r' (b := false) (v := (.bool false)) (Eq.trans (show (g 19).v = .bool false from (hd 19 rfl).1) (congrArg Value.bool (rfl : false = _))) rfl bz) ?_
       refine fc r (fun fr1 g w' hb' hd r' => y_move r' (hd 23 rfl).1 bz) ?_
       refine eachF_skip true (.bool false) r rfl rfl rfl (fun g w' hd => Eq.trans (show (g 24).v = .bool false from (hd 24 rfl).1) (congrArg Value.bool (rfl : false = _))) (by simp [boolOf]) (fun _ _ => ⟨Below.refl _ _, rfl⟩) ?_
       refine eachF_skip true (.bool false) r rfl rfl rfl (fun g w' hd => Eq.trans (show (g 24).v = .bool false from (hd 24 rfl).1) (congrArg Value.bool (rfl : false = _))) (by simp [boolOf]) (fun _ _ => ⟨Below.refl _ _, rfl⟩) ?_
       refine eachF_skip true (.bool false) r rfl rfl rfl (fun g w' hd => Eq.trans (show (g 24).v = .bool false from (hd 24 rfl).1) (congrArg Value.bool (rfl : false = _))) (by simp [boolOf]) (fun _ _ => ⟨Below.refl _ _, rfl⟩) ?_
       refine eachF_skip true (.bool false) r rfl rfl rfl (fun g w' hd => Eq.trans (show (g 24).v = .bool false from (hd 24 rfl).1) (congrArg Value.bool (rfl : false = _))) (by simp [boolOf]) (fun _ _ => ⟨Below.refl _ _, rfl⟩) ?_
       refine eachF_skip true (.bool false) r rfl rfl rfl (fun g w' hd => Eq.trans (show (g 24).v = .bool false from (hd 24 rfl).1) (congrArg Value.bool (rfl : false = _))) (by simp [boolOf]) (fun _ _ => ⟨Below.refl _ _, rfl⟩) ?_
       refine eachF_skip true (.bool false) r rfl rfl rfl (fun g w' hd => Eq.trans (show (g 24).v = .bool false from (hd 24 rfl).1) (congrArg Value.bool (rfl : false = _))) (by simp [boolOf]) (fun _ _ => ⟨Below.refl _ _, rfl⟩) ?_
       refine eachF_skip true (.bool false) r rfl rfl rfl (fun g w' hd => Eq.trans (show (g 24).v = .bool false from (hd 24 rfl).1) (congrArg Value.bool (rfl : false = _))) (by simp [boolOf]) (fun _ _ => ⟨Below.refl _ _, rfl⟩) ?_
       refine eachF_skip true (.bool false) r rfl rfl rfl (fun g w' hd => Eq.trans (show (g 24).v = .bool false from (hd 24 rfl).1) (congrArg Value.bool (rfl : false = _))) (by simp [boolOf]) (fun _ _ => ⟨Below.refl _ _, rfl⟩) ?_
       refine fc r (fun fr1 g w' hb' hd r' => y_pick r' (b := false) (v := (.bool false)) (Eq.trans (show (g 24).v = .bool false from (hd 24 rfl).1) (congrArg Value.bool (rfl : false = _))) rfl bz) ?_
       refine fc r (fun fr1 g w' hb' hd r' => y_move r' (hd 33 rfl).1 bz) ?_
       refine eachF_skip true (.bool false) r rfl rfl rfl (fun g w' hd => Eq.trans (show (g 34).v = .bool false from (hd 34 rfl).1) (congrArg Value.bool (rfl : false = _))) (by simp [boolOf]) (fun _ _ => ⟨Below.refl _ _, rfl⟩) ?_
       refine eachF_skip true (.bool false) r rfl rfl rfl (fun g w' hd => Eq.trans (show (g 34).v = .bool false from (hd 34 rfl).1) (congrArg Value.bool (rfl : false = _))) (by simp [boolOf]) (fun _ _ => ⟨Below.refl _ _, rfl⟩) ?_
       refine eachF_skip true (.bool false) r rfl rfl rfl (fun g w' hd => Eq.trans (show (g 34).v = .bool false from (hd 34 rfl).1) (congrArg Value.bool (rfl : false = _))) (by simp [boolOf]) (fun _ _ => ⟨Below.refl _ _, rfl⟩) ?_
       refine eachF_skip true (.bool false) r rfl rfl rfl (fun g w' hd => Eq.trans (show (g 34).v = .bool false from (hd 34 rfl).1) (congrArg Value.bool (rfl : false = _))) (by simp [boolOf]) (fun _ _ => ⟨Below.refl _ _, rfl⟩) ?_
       refine eachF_skip true (.bool false) r rfl rfl rfl (fun g w' hd => Eq.trans (show (g 34).v = .bool false from (hd 34 rfl).1) (congrArg Value.bool (rfl : false = _))) (by simp [boolOf]) (fun _ _ => ⟨Below.refl _ _, rfl⟩) ?_
       refine eachF_skip true (.bool false) r rfl rfl rfl (fun g w' hd => Eq.trans (show (g 34).v = .bool false from (hd 34 rfl).1) (congrArg Value.bool (rfl : false = _))) (by simp [boolOf]) (fun _ _ => ⟨Below.refl _ _, rfl⟩) ?_
       refine eachF_skip true (.bool false) r rfl rfl rfl (fun g w' hd => Eq.trans (show (g 34).v = .bool false from (hd 34 rfl).1) (congrArg Value.bool (rfl : false = _))) (by simp [boolOf]) (fun _ _ => ⟨Below.refl _ _, rfl⟩) ?_
       refine eachF_skip true (.bool false) r rfl rfl rfl (fun g w' hd => Eq.trans (show (g 34).v = .bool false from (hd 34 rfl).1) (congrArg Value.bool (rfl : false = _))) (by simp [boolOf]) (fun _ _ => ⟨Below.refl _ _, rfl⟩) ?_
       refine fc r (fun fr1 g w' hb' hd r' => y_pick r' (b := false) (v := (.bool false)) (Eq.trans (show (g 34).v = .bool false from (hd 34 rfl).1) (congrArg Value.bool (rfl : false = _))) rfl bz) ?_
       refine fc r (fun fr1 g w' hb' hd r' => y_assign r' (hd 43 rfl).1 bz) ?_
       exact eachF_nil
      ·
       intro fr gg w46 hb hΦ hap r
       have r := r.congr (sc ((hΦ 44 rfl).1) (sc ((hΦ 43 rfl).1) (sc ((hΦ 42 rfl).1) (sc ((hΦ 41 rfl).1) (sc ((hΦ 40 rfl).1) (sc ((hΦ 39 rfl).1) (sc ((hΦ 38 rfl).1) (sc ((hΦ 37 rfl).1) (sc ((hΦ 36 rfl).1) (sc ((hΦ 35 rfl).1) (sc ((hΦ 34 rfl).1) (sc ((hΦ 33 rfl).1) (sc ((hΦ 32 rfl).1) (sc ((hΦ 31 rfl).1) (sc ((hΦ 30 rfl).1) (sc ((hΦ 29 rfl).1) (sc ((hΦ 28 rfl).1) (sc ((hΦ 27 rfl).1) (sc ((hΦ 26 rfl).1) (sc ((hΦ 25 rfl).1) (sc ((hΦ 24 rfl).1) (sc ((hΦ 23 rfl).1) (sc ((hΦ 22 rfl).1) (sc ((hΦ 21 rfl).1) (sc ((hΦ 20 rfl).1) (sc ((hΦ 19 rfl).1) (sc ((hΦ 18 rfl).1) (sc ((hΦ 17 rfl).1) (sc ((hΦ 16 rfl).1) (sc ((hΦ 15 rfl).1) (sc ((hΦ 14 rfl).1) (sc ((hΦ 13 rfl).1) (sc ((hΦ 12 rfl).1) (sc ((hΦ 11 rfl).1) (sc ((hΦ 10 rfl).1) (sc ((hΦ 9 rfl).1) (sc ((hΦ 8 rfl).1) (sc ((hΦ 7 rfl).1) (sc ((hΦ 6 rfl).1) (sc ((hΦ 5 rfl).1) (sc ((hΦ 4 rfl).1) (sc ((hΦ 3 rfl).1) (sc ((hΦ 2 rfl).1) (sc ((hΦ 1 rfl).1) (sc ((hΦ 0 rfl).1) rfl)))))))))))))))))))))))))))))))))))))))))))))
       have hP : Post No [roK 4 1 boolE a2_v a2, cellC b11 ((planC (⟨6, 2, 7, 2, 1, 9⟩ : Plan))).toArray 25, memK mg19 x23.2.2.2, cellC b24 ((resC x23.1)).toArray 32, cellC b25 ((resC x23.2.1)).toArray 32, rowK 3 1 i64 v29 x27] w0 w46 := hP.below hb
       exact nxy31 false () _ _ _ hD r (hs_cons rfl (hs_cons rfl (hs_cons rfl (hs_cons rfl (hs_cons rfl (hs_cons rfl (hs_cons rfl (hs_cons rfl (hs_cons rfl (hs_cons rfl (hs_cons rfl (hs_cons rfl hs_nil)))))))))))) (hP.pick [0, 1, 2, 3, 4, 5] rfl rfl)
    ·
     rintro x47 γ48 fr w49 g r hP hD
     have hP : Post No [roK 4 1 boolE a2_v a2, cellC b11 ((planC (⟨6, 2, 7, 2, 1, 9⟩ : Plan))).toArray 25, memK mg19 x23.2.2.2, cellC b24 ((resC x23.1)).toArray 32, cellC b25 ((resC x23.2.1)).toArray 32, rowK 3 1 i64 v29 x27] w0 w49 := hP
     refine wp_ret ?_
     have hv : x47 = res := Option.some.inj hD
     try dsimp only [Exit.then, Exit.inBlock]
     refine ret_tmp (fn := Tryz.f24) r (t := 6) rfl (v := (.bool x47)) rfl ?_
     subst hv
     exact ⟨rfl, hP.chg.below⟩

end Go.Proofs.YtjkinpbfmihhdaaGreat.Wk

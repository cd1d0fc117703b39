/- Written by a program of ours (wip/gen.py): lists of nodes -/
import Derived.Test.YtphnnjiaiemkcaaGreatQroLaids
set_option linter.unusedVariables false
namespace Go.Proofs.YtphnnjiaiemkcaaGreat
open Go.RowKit
theorem cl27 : callable Tryz.prog 27 = true := by kernel_rfl

theorem rt24 : rowTy Tryz.prog 24 3 1 = true := by kernel_rfl

def D.cubicleref09_Has (fu : Nat) (a0 : List Int) (a1 : Int) : Option (Bool) := (loopThen (fun (x1 : Bool × Int) => (bif (decide (x1.2 < (a0.length : Int))) then ((getI a0 x1.2).bind (fun (x6 : Int) => (bif (x6 == a1) then (some (Lp.ret true)) else (some (Lp.next (x1.1, (IntKind.i64.wrap (x1.2 + 1)))))))) else (some (Lp.brk (x1.1, x1.2))))) fu (false, 0) (fun (x8 : Bool × Int) => (some false)))

set_option maxRecDepth 20000 in
set_option maxHeartbeats 2000000 in
theorem c_cubicleref09_Has {fu : Nat} (w0 : World) {a0_v : Value} (a0 : List Int) (a0_h : RoAt 3 1 i64 a0_v a0 w0) (a1 : Int) {res : Bool} (hD : D.cubicleref09_Has fu a0 a1 = some res) :
    Calls Tryz.prog 15 #[a0_v, .int .i64 a1] w0 (PureRes (.bool res) w0) := by
  refine enter (l := [a0_v, .int .i64 a1]) Tryz.func15 rfl 18 rfl rfl fun fr r => ?_
  have hP : Post No [] w0 w0 := Post.nil w0
  have hP : Post No [roK 3 1 i64 a0_v a0] w0 w0 := hP.addRo norw_nil a0_h rfl a0_h.lt
  unfold D.cubicleref09_Has at hD
  refine wp_seq ?_
  refine wp_region_lit ?_
  refine seq_val (.bool false) r (fun R => y_assign r rfl) rfl fun fr r => ?_
  refine wpList_nil ?_
  refine wp_seq ?_
  refine wp_seq ?_
  refine wp_region_lit ?_
  refine seq_val (.int .i64 0) r (fun R => y_assign r rfl) rfl fun fr r => ?_
  refine wpList_nil ?_
  refine wp_loopG (X := Bool × Int) (G := Unit) (x0 := (false, 0)) (fun x γ => [(0, a0_v), (1, (.int .i64 a1)), (4, (.bool x.1)), (5, (.int .i64 x.2))]) (fun x γ w => Post No [roK 3 1 i64 a0_v a0] w0 w) () r (hs_cons rfl (hs_cons rfl (hs_cons rfl (hs_cons rfl hs_nil)))) hP hD ?_ ?_
  · skip
    rintro x1 γ2 fr w4 g y3 RPy3 nxy3 bky3 rty3 r hP hD
    have hP : Post No [roK 3 1 i64 a0_v a0] w0 w4 := hP
    refine wp_seq ?_
    refine wp_seq ?_
    refine wp_region_lit ?_
    refine seq_val (.int .i64 x1.2) r (fun R => y_move r rfl) rfl fun fr r => ?_
    refine seq_val a0_v r (fun R => y_move r rfl) rfl fun fr r => ?_
    refine seq_val (.int .i64 (a0.length : Int)) r (fun R => y_rowLen r (hP.ro (i := 0) rfl) is24 rfl) rfl fun fr r => ?_
    refine seq_val (.bool (decide (x1.2 < (a0.length : Int)))) r (fun R => y_bin r (u := (.int .i64 x1.2)) (u' := (.int .i64 (a0.length : Int))) rfl rfl rfl rfl) rfl fun fr r => ?_
    refine wpList_nil ?_
    refine wp_cond_split (t := (decide (x1.2 < (a0.length : Int)))) (r.ev rfl) (fun h5 => ?_) (fun h5 => ?_)
    · skip
      have hD := (cond_t h5).symm.trans hD
      refine wp_skip ?_
      refine wp_seq ?_
      refine wp_block ?_
      refine wp_seq ?_
      refine wp_region_lit ?_
      refine seq_val a0_v r (fun R => y_move r rfl) rfl fun fr r => ?_
      refine seq_val (.int .i64 x1.2) r (fun R => y_move r rfl) rfl fun fr r => ?_
      obtain ⟨x6, hx6, hD⟩ := bindD_elim hD
      refine seq_val (.pointer (some ⟨rowB a0_v, rowO a0_v + x1.2.toNat * 1, none⟩)) r (fun R => y_rowAddr r (hP.ro (i := 0) rfl) hx6 sl24 rfl rfl) rfl fun fr r => ?_
      refine seq_val (.int .i64 x6) r (fun R => y_loadL_one r (u := (.int .i64 x6)) (RoAt.at_ (f := i64) (x := x6) (hP.ro (i := 0) rfl) (fun _ => rfl) hx6) rfl to3) rfl fun fr r => ?_
      refine seq_val (.int .i64 a1) r (fun R => y_move r rfl) rfl fun fr r => ?_
      refine seq_val (.bool (x6 == a1)) r (fun R => y_bin r (u := (.int .i64 x6)) (u' := (.int .i64 a1)) rfl rfl rfl rfl) rfl fun fr r => ?_
      refine wpList_nil ?_
      refine wp_cond_split (t := (x6 == a1)) (r.ev rfl) (fun h7 => ?_) (fun h7 => ?_)
      · skip
        have hD := (cond_t h7).symm.trans hD
        refine wp_seq ?_
        refine wp_region_lit ?_
        refine seq_val (.bool true) r (fun R => y_assign r rfl) rfl fun fr r => ?_
        refine wpList_nil ?_
        refine wp_ret ?_
        refine rty3 true _ _ hD fun hD => ?_
        have hv : true = res := Option.some.inj hD
        try dsimp only [Exit.then, Exit.inBlock]
        refine ret_tmp (fn := Tryz.f15) r (t := 4) rfl (v := (.bool true)) rfl ?_
        subst hv
        exact ⟨rfl, hP.chg.below⟩
      · skip
        have hD := (cond_f h7).symm.trans hD
        refine wp_skip ?_
        refine wp_region_lit ?_
        refine seq_val (.int .i64 x1.2) r (fun R => y_move r rfl) rfl fun fr r => ?_
        refine seq_val (.int .i64 (IntKind.i64.wrap (x1.2 + 1))) r (fun R => y_bin r (u := (.int .i64 x1.2)) (u' := (.int .i64 1)) rfl rfl rfl rfl) rfl fun fr r => ?_
        refine seq_val (.int .i64 (IntKind.i64.wrap (x1.2 + 1))) r (fun R => y_assign r rfl) rfl fun fr r => ?_
        refine wpList_nil ?_
        exact nxy3 (x1.1, (IntKind.i64.wrap (x1.2 + 1))) () _ _ _ hD r (hs_cons rfl (hs_cons rfl (hs_cons rfl (hs_cons rfl hs_nil)))) (hP.pick [0] rfl rfl)
    · skip
      have hD := (cond_f h5).symm.trans hD
      refine wp_exit ?_
      exact bky3 (x1.1, x1.2) () _ _ _ hD r (hs_cons rfl (hs_cons rfl (hs_cons rfl (hs_cons rfl hs_nil)))) (hP.pick [0] rfl rfl)
  · skip
    rintro x8 γ9 fr w10 g r hP hD
    have hP : Post No [roK 3 1 i64 a0_v a0] w0 w10 := hP
    refine wp_seq ?_
    refine wp_region_lit ?_
    refine seq_val (.bool false) r (fun R => y_assign r rfl) rfl fun fr r => ?_
    refine wpList_nil ?_
    refine wp_ret ?_
    have hv : false = res := Option.some.inj hD
    try dsimp only [Exit.then, Exit.inBlock]
    refine ret_tmp (fn := Tryz.f15) r (t := 4) rfl (v := (.bool false)) rfl ?_
    subst hv
    exact ⟨rfl, hP.chg.below⟩

def D.cubicleref09_Same (fu : Nat) (a0 : List Int) (a1 : List Int) : Option (Bool) := (bif ((a0.length : Int) != (a1.length : Int)) then (some false) else (loopThen (fun (x2 : Bool × Int) => (bif (decide (x2.2 < (a0.length : Int))) then ((getI a0 x2.2).bind (fun (x7 : Int) => ((getI a1 x2.2).bind (fun (x8 : Int) => (bif (x7 != x8) then (some (Lp.ret false)) else (some (Lp.next (x2.1, (IntKind.i64.wrap (x2.2 + 1)))))))))) else (some (Lp.brk (x2.1, x2.2))))) fu (false, 0) (fun (x11 : Bool × Int) => (some true))))

set_option maxRecDepth 20000 in
set_option maxHeartbeats 2000000 in
theorem c_cubicleref09_Same {fu : Nat} (w0 : World) {a0_v : Value} (a0 : List Int) (a0_h : RoAt 3 1 i64 a0_v a0 w0) {a1_v : Value} (a1 : List Int) (a1_h : RoAt 3 1 i64 a1_v a1 w0) {res : Bool} (hD : D.cubicleref09_Same fu a0 a1 = some res) :
    Calls Tryz.prog 21 #[a0_v, a1_v] w0 (PureRes (.bool res) w0) := by
  refine enter (l := [a0_v, a1_v]) Tryz.func21 rfl 26 rfl rfl fun fr r => ?_
  have hP : Post No [] w0 w0 := Post.nil w0
  have hP : Post No [roK 3 1 i64 a0_v a0] w0 w0 := hP.addRo norw_nil a0_h rfl a0_h.lt
  have hP : Post No [roK 3 1 i64 a0_v a0, roK 3 1 i64 a1_v a1] w0 w0 := hP.addRo (norw_cons rfl norw_nil) a1_h rfl a1_h.lt
  unfold D.cubicleref09_Same at hD
  refine wp_seq ?_
  refine wp_region_lit ?_
  refine seq_val (.bool false) r (fun R => y_assign r rfl) rfl fun fr r => ?_
  refine wpList_nil ?_
  refine wp_seq ?_
  refine wp_seq ?_
  refine wp_region_lit ?_
  refine seq_val a0_v r (fun R => y_move r rfl) rfl fun fr r => ?_
  refine seq_val (.int .i64 (a0.length : Int)) r (fun R => y_rowLen r (hP.ro (i := 0) rfl) is24 rfl) rfl fun fr r => ?_
  refine seq_val a1_v r (fun R => y_move r rfl) rfl fun fr r => ?_
  refine seq_val (.int .i64 (a1.length : Int)) r (fun R => y_rowLen r (hP.ro (i := 1) rfl) is24 rfl) rfl fun fr r => ?_
  refine seq_val (.bool ((a0.length : Int) != (a1.length : Int))) r (fun R => y_bin r (u := (.int .i64 (a0.length : Int))) (u' := (.int .i64 (a1.length : Int))) rfl rfl rfl rfl) rfl fun fr r => ?_
  refine wpList_nil ?_
  refine wp_cond_split (t := ((a0.length : Int) != (a1.length : Int))) (r.ev rfl) (fun h1 => ?_) (fun h1 => ?_)
  · skip
    have hD := (cond_t h1).symm.trans hD
    refine wp_seq ?_
    refine wp_region_lit ?_
    refine seq_val (.bool false) r (fun R => y_assign r rfl) rfl fun fr r => ?_
    refine wpList_nil ?_
    refine wp_ret ?_
    have hv : false = res := Option.some.inj hD
    try dsimp only [Exit.then, Exit.inBlock]
    refine ret_tmp (fn := Tryz.f21) r (t := 4) rfl (v := (.bool false)) rfl ?_
    subst hv
    exact ⟨rfl, hP.chg.below⟩
  · skip
    have hD := (cond_f h1).symm.trans hD
    refine wp_skip ?_
    refine wp_seq ?_
    refine wp_seq ?_
    refine wp_region_lit ?_
    refine seq_val (.int .i64 0) r (fun R => y_assign r rfl) rfl fun fr r => ?_
    refine wpList_nil ?_
    refine wp_loopG (X := Bool × Int) (G := Unit) (x0 := (false, 0)) (fun x γ => [(0, a0_v), (1, a1_v), (10, (.bool ((a0.length : Int) != (a1.length : Int)))), (4, (.bool x.1)), (5, (.int .i64 x.2))]) (fun x γ w => Post No [roK 3 1 i64 a0_v a0, roK 3 1 i64 a1_v a1] w0 w) () r (hs_cons rfl (hs_cons rfl (hs_cons rfl (hs_cons rfl (hs_cons rfl hs_nil))))) hP hD ?_ ?_
    · skip
      rintro x2 γ3 fr w5 g y4 RPy4 nxy4 bky4 rty4 r hP hD
      have hP : Post No [roK 3 1 i64 a0_v a0, roK 3 1 i64 a1_v a1] w0 w5 := hP
      refine wp_seq ?_
      refine wp_seq ?_
      refine wp_region_lit ?_
      refine seq_val (.int .i64 x2.2) r (fun R => y_move r rfl) rfl fun fr r => ?_
      refine seq_val a0_v r (fun R => y_move r rfl) rfl fun fr r => ?_
      refine seq_val (.int .i64 (a0.length : Int)) r (fun R => y_rowLen r (hP.ro (i := 0) rfl) is24 rfl) rfl fun fr r => ?_
      refine seq_val (.bool (decide (x2.2 < (a0.length : Int)))) r (fun R => y_bin r (u := (.int .i64 x2.2)) (u' := (.int .i64 (a0.length : Int))) rfl rfl rfl rfl) rfl fun fr r => ?_
      refine wpList_nil ?_
      refine wp_cond_split (t := (decide (x2.2 < (a0.length : Int)))) (r.ev rfl) (fun h6 => ?_) (fun h6 => ?_)
      · skip
        have hD := (cond_t h6).symm.trans hD
        refine wp_skip ?_
        refine wp_seq ?_
        refine wp_block ?_
        refine wp_seq ?_
        obtain ⟨x7, hx7, hD⟩ := bindD_elim hD
        obtain ⟨x8, hx8, hD⟩ := bindD_elim hD
        refine wp_freeF [.val a0_v, .val (.int .i64 x2.2), .val (.pointer (some ⟨rowB a0_v, rowO a0_v + x2.2.toNat * 1, none⟩)), .val (.int .i64 x7), .val a1_v, .val (.int .i64 x2.2), .val (.pointer (some ⟨rowB a1_v, rowO a1_v + x2.2.toNat * 1, none⟩)), .val (.int .i64 x8), .val (.bool (x7 != x8))] mixed r (by kernel_rfl) ?_ ?_
        · skip
          refine eachF_cons r rfl (fun fr1 g w' hb' hd r' => ?_) ?_
          · exact y_move r' (v := a0_v) rfl ⟨Below.refl _ _, rfl⟩
          refine eachF_cons r rfl (fun fr1 g w' hb' hd r' => ?_) ?_
          · exact y_move r' (v := (.int .i64 x2.2)) rfl ⟨Below.refl _ _, rfl⟩
          refine eachF_cons r rfl (fun fr1 g w' hb' hd r' => ?_) ?_
          · exact y_rowAddr r' ((hP.below (dr hb')).ro (i := 0) rfl) hx7 sl24 (hd 0 rfl).1 (hd 1 rfl).1 ⟨Below.refl _ _, rfl⟩
          refine eachF_cons r rfl (fun fr1 g w' hb' hd r' => ?_) ?_
          · exact y_loadL_one r' (u := (.int .i64 x7)) (RoAt.at_ (f := i64) (x := x7) ((hP.below (dr hb')).ro (i := 0) rfl) (fun _ => rfl) hx7) (hd 2 rfl).1 to3 ⟨Below.refl _ _, rfl⟩
          refine eachF_cons r rfl (fun fr1 g w' hb' hd r' => ?_) ?_
          · exact y_move r' (v := a1_v) rfl ⟨Below.refl _ _, rfl⟩
          refine eachF_cons r rfl (fun fr1 g w' hb' hd r' => ?_) ?_
          · exact y_move r' (v := (.int .i64 x2.2)) rfl ⟨Below.refl _ _, rfl⟩
          refine eachF_cons r rfl (fun fr1 g w' hb' hd r' => ?_) ?_
          · exact y_rowAddr r' ((hP.below (dr hb')).ro (i := 1) rfl) hx8 sl24 (hd 4 rfl).1 (hd 5 rfl).1 ⟨Below.refl _ _, rfl⟩
          refine eachF_cons r rfl (fun fr1 g w' hb' hd r' => ?_) ?_
          · exact y_loadL_one r' (u := (.int .i64 x8)) (RoAt.at_ (f := i64) (x := x8) ((hP.below (dr hb')).ro (i := 1) rfl) (fun _ => rfl) hx8) (hd 6 rfl).1 to3 ⟨Below.refl _ _, rfl⟩
          refine eachF_cons r rfl (fun fr1 g w' hb' hd r' => ?_) ?_
          · exact y_bin r' (u := (.int .i64 x7)) (u' := (.int .i64 x8)) (v := (.bool (x7 != x8))) (hd 3 rfl).1 (hd 7 rfl).1 rfl rfl ⟨Below.refl _ _, rfl⟩
          exact eachF_nil
        · skip
          intro fr gg w9 hb hΦ hap r
          have g0 : (gg 0).v = a0_v := (hΦ 0 rfl).1
          have g1 : (gg 1).v = (.int .i64 x2.2) := (hΦ 1 rfl).1
          have g2 : (gg 2).v = (.pointer (some ⟨rowB a0_v, rowO a0_v + x2.2.toNat * 1, none⟩)) := (hΦ 2 rfl).1
          have g3 : (gg 3).v = (.int .i64 x7) := (hΦ 3 rfl).1
          have g4 : (gg 4).v = a1_v := (hΦ 4 rfl).1
          have g5 : (gg 5).v = (.int .i64 x2.2) := (hΦ 5 rfl).1
          have g6 : (gg 6).v = (.pointer (some ⟨rowB a1_v, rowO a1_v + x2.2.toNat * 1, none⟩)) := (hΦ 6 rfl).1
          have g7 : (gg 7).v = (.int .i64 x8) := (hΦ 7 rfl).1
          have g8 : (gg 8).v = (.bool (x7 != x8)) := (hΦ 8 rfl).1
          have r := r.congr (sc g8 (sc g7 (sc g6 (sc g5 (sc g4 (sc g3 (sc g2 (sc g1 (sc g0 rfl)))))))))
          have hP : Post No [roK 3 1 i64 a0_v a0, roK 3 1 i64 a1_v a1] w0 w9 := hP.below hb
          refine wp_cond_split (t := (x7 != x8)) (r.ev rfl) (fun h10 => ?_) (fun h10 => ?_)
          · skip
            have hD := (cond_t h10).symm.trans hD
            refine wp_seq ?_
            refine wp_region_lit ?_
            refine seq_val (.bool false) r (fun R => y_assign r rfl) rfl fun fr r => ?_
            refine wpList_nil ?_
            refine wp_ret ?_
            refine rty4 false _ _ hD fun hD => ?_
            have hv : false = res := Option.some.inj hD
            try dsimp only [Exit.then, Exit.inBlock]
            refine ret_tmp (fn := Tryz.f21) r (t := 4) rfl (v := (.bool false)) rfl ?_
            subst hv
            exact ⟨rfl, hP.chg.below⟩
          · skip
            have hD := (cond_f h10).symm.trans hD
            refine wp_skip ?_
            refine wp_region_lit ?_
            refine seq_val (.int .i64 x2.2) r (fun R => y_move r rfl) rfl fun fr r => ?_
            refine seq_val (.int .i64 (IntKind.i64.wrap (x2.2 + 1))) r (fun R => y_bin r (u := (.int .i64 x2.2)) (u' := (.int .i64 1)) rfl rfl rfl rfl) rfl fun fr r => ?_
            refine seq_val (.int .i64 (IntKind.i64.wrap (x2.2 + 1))) r (fun R => y_assign r rfl) rfl fun fr r => ?_
            refine wpList_nil ?_
            exact nxy4 (x2.1, (IntKind.i64.wrap (x2.2 + 1))) () _ _ _ hD r (hs_cons rfl (hs_cons rfl (hs_cons rfl (hs_cons rfl (hs_cons rfl hs_nil))))) (hP.pick [0, 1] rfl rfl)
      · skip
        have hD := (cond_f h6).symm.trans hD
        refine wp_exit ?_
        exact bky4 (x2.1, x2.2) () _ _ _ hD r (hs_cons rfl (hs_cons rfl (hs_cons rfl (hs_cons rfl (hs_cons rfl hs_nil))))) (hP.pick [0, 1] rfl rfl)
    · skip
      rintro x11 γ12 fr w13 g r hP hD
      have hP : Post No [roK 3 1 i64 a0_v a0, roK 3 1 i64 a1_v a1] w0 w13 := hP
      refine wp_seq ?_
      refine wp_region_lit ?_
      refine seq_val (.bool true) r (fun R => y_assign r rfl) rfl fun fr r => ?_
      refine wpList_nil ?_
      refine wp_ret ?_
      have hv : true = res := Option.some.inj hD
      try dsimp only [Exit.then, Exit.inBlock]
      refine ret_tmp (fn := Tryz.f21) r (t := 4) rfl (v := (.bool true)) rfl ?_
      subst hv
      exact ⟨rfl, hP.chg.below⟩

end Go.Proofs.YtphnnjiaiemkcaaGreat

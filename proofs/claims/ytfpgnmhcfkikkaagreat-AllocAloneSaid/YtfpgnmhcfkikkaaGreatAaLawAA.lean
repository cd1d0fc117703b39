/- Ours. -/
import Derived.Test.YtfpgnmhcfkikkaaGreatAaRefs12
set_option linter.all false
set_option maxRecDepth 20000
set_option maxHeartbeats 2000000
namespace Go.Proofs.YtfpgnmhcfkikkaaGreat.Wk
open Go.RowKit
theorem cl22 : zlp Tryz.prog 22 = true := by kernel_rfl
theorem cl23 : zlp Tryz.prog 23 = true := by kernel_rfl
theorem cl25 : zlp Tryz.prog 25 = true := by kernel_rfl
theorem cl29 : zlp Tryz.prog 29 = true := by kernel_rfl
theorem cl33 : zlp Tryz.prog 33 = true := by kernel_rfl
theorem cl34 : zlp Tryz.prog 34 = true := by kernel_rfl
theorem cl35 : zlp Tryz.prog 35 = true := by kernel_rfl
theorem cl36 : zlp Tryz.prog 36 = true := by kernel_rfl
theorem cl38 : zlp Tryz.prog 38 = true := by kernel_rfl
theorem zkF : zlB Tryz.prog 37 1 1 = true := by kernel_rfl
theorem is24 : isSlice Tryz.prog 24 = true := by kernel_rfl
theorem sl24 : sliceTy Tryz.prog 24 1 = true := by kernel_rfl
theorem ti34 : intTy Tryz.prog 34 .i8 = true := by kernel_rfl
theorem to34 : tyO Tryz.prog 34 = true := by kernel_rfl
def D.zc2 (fu : Nat) (a0 : Plan) (a1 : List Int) : Option (Bool) := (Option.bind ((D.zcd fu ).bind (fun (x6 : Bool) => (bif (!x6) then (some true) else (bif (!(D.zb9 a0)) then (some true) else (some (decide ((a1.length : Int) > 80))))))) (fun (x11 : Bool) => (bif x11 then ((D.zcd fu ).bind (fun (x15 : Bool) => (some x15))) else ((D.zc7 fu a0).bind (fun (x17 : Mem) => ((D.zcB fu a0.nodes a0.retire a0.gen).bind (fun (x21 : List Int × List Int × Int × List Int × List Bool × Int) => (loopThen (fun (x38 : Bool × List Int × Int × Mem × List Int × List Int × Int × List Int × List Bool × Int) => (bif (decide (x38.2.2.1 < (a1.length : Int))) then ((getI a1 x38.2.2.1).bind (fun (x43 : Int) => (bif (decide (x43 < 0)) then ((D.zcf fu x38.2.2.2.1 0).bind (fun (x49 : Cap) => ((D.zcX fu (fu, (D.zbt (fu + 1) a0 0 (x38.2.2.1.tmod 3))) x38.2.2.2.1 x49 100000).bind (fun (x51 : Grant × Int × Bool × Mem) => ((D.zbF fu x38.2.2.2.2.1 x38.2.2.2.2.2.1 x38.2.2.2.2.2.2.1 x38.2.2.2.2.2.2.2.1 x38.2.2.2.2.2.2.2.2.1 x38.2.2.2.2.2.2.2.2.2).bind (fun (x59 : List Int × List Int × Int × List Int × List Bool × Int × Int × Int) => (Option.bind (bif (!x51.2.2.1) then (some true) else (bif (x51.1.node != x59.2.2.2.2.2.2.1) then (some true) else (bif ((x51.1.e == 0) != (decide (x59.2.2.2.2.2.2.1 ≥ 0))) then (some true) else (bif (x51.1.e != 0) then (bif (x51.1.e != 4) then (some true) else (some (x51.1.gen != x59.2.2.2.2.2.2.2))) else (some (x51.1.gen != x59.2.2.2.2.2.2.2)))))) (fun (x83 : Bool) => (bif x83 then (some (Lp.ret false)) else (bif (decide (x59.2.2.2.2.2.2.1 ≥ 0)) then ((appD x38.2.1 ([x59.2.2.2.2.2.2.1])).bind (fun (x92 : List Int) => ((D.zbg fu x51.2.2.2 0 (D.zaI a0 x59.2.2.2.2.2.2.1)).bind (fun (x97 : Int) => (bif (x97 != (D.zan (⟨x59.2.2.2.2.2.2.2, 1, (x38.2.2.1.tmod 3)⟩ : State))) then (some (Lp.ret false)) else (Option.bind ((D.zcV fu a0 x51.2.2.2 0).bind (fun (x102 : List Int) => ((D.zb2 fu x102 x59.1).bind (fun (x105 : Bool) => (bif (!x105) then (some true) else ((D.zcv fu a0 x51.2.2.2 0 0).bind (fun (x112 : List Int) => ((D.zb2 fu x112 x59.2.1).bind (fun (x115 : Bool) => (bif (!x115) then (some true) else ((D.zcQ fu a0 x51.2.2.2 0).bind (fun (x126 : Int) => (some (x126 != (x59.1.length : Int))))))))))))))) (fun (x128 : Bool) => (bif x128 then (some (Lp.ret false)) else (some (Lp.next (x38.1, x92, (IntKind.i64.wrap (x38.2.2.1 + 1)), x51.2.2.2, x59.1, x59.2.1, x59.2.2.1, x59.2.2.2.1, x59.2.2.2.2.1, x59.2.2.2.2.2.1))))))))))) else (Option.bind ((D.zcV fu a0 x51.2.2.2 0).bind (fun (x133 : List Int) => ((D.zb2 fu x133 x59.1).bind (fun (x136 : Bool) => (bif (!x136) then (some true) else ((D.zcv fu a0 x51.2.2.2 0 0).bind (fun (x143 : List Int) => ((D.zb2 fu x143 x59.2.1).bind (fun (x146 : Bool) => (bif (!x146) then (some true) else ((D.zcQ fu a0 x51.2.2.2 0).bind (fun (x157 : Int) => (some (x157 != (x59.1.length : Int))))))))))))))) (fun (x159 : Bool) => (bif x159 then (some (Lp.ret false)) else (some (Lp.next (x38.1, x38.2.1, (IntKind.i64.wrap (x38.2.2.1 + 1)), x51.2.2.2, x59.1, x59.2.1, x59.2.2.1, x59.2.2.2.1, x59.2.2.2.2.1, x59.2.2.2.2.2.1)))))))))))))))) else (bif (decide ((x38.2.1.length : Int) > 0)) then ((getI a1 x38.2.2.1).bind (fun (x164 : Int) => ((guardI (decide ((x38.2.1.length : Int) ≠ 0))).bind (fun (x165 : Unit) => ((getI x38.2.1 ((IntKind.i64.wrap x164).tmod (x38.2.1.length : Int))).bind (fun (x166 : Int) => ((sliceD x38.2.1 0 ((IntKind.i64.wrap x164).tmod (x38.2.1.length : Int))).bind (fun (x167 : List Int) => ((appD ([] : List Int) x167).bind (fun (x168 : List Int) => ((sliceD x38.2.1 (IntKind.i64.wrap (((IntKind.i64.wrap x164).tmod (x38.2.1.length : Int)) + 1)) (x38.2.1.length : Int)).bind (fun (x171 : List Int) => ((appD x168 x171).bind (fun (x173 : List Int) => ((D.zcf fu x38.2.2.2.1 0).bind (fun (x181 : Cap) => ((D.zeb fu (fu, (D.zc4 (fu + 1) a0 0 x166)) x38.2.2.2.1 x181 100000).bind (fun (x183 : Int × Int × Bool × Mem) => ((D.zbC fu x38.2.2.2.2.1 x38.2.2.2.2.2.1 x38.2.2.2.2.2.2.1 x38.2.2.2.2.2.2.2.1 x38.2.2.2.2.2.2.2.2.1 x38.2.2.2.2.2.2.2.2.2 x166).bind (fun (x185 : List Int × List Int × Int × List Int × List Bool × Int) => (Option.bind (bif (x183.1 != x166) then (some true) else (some (!x183.2.2.1))) (fun (x199 : Bool) => (bif x199 then (some (Lp.ret false)) else (Option.bind ((D.zcV fu a0 x183.2.2.2 0).bind (fun (x204 : List Int) => ((D.zb2 fu x204 x185.1).bind (fun (x207 : Bool) => (bif (!x207) then (some true) else ((D.zcv fu a0 x183.2.2.2 0 0).bind (fun (x214 : List Int) => ((D.zb2 fu x214 x185.2.1).bind (fun (x217 : Bool) => (bif (!x217) then (some true) else ((D.zcQ fu a0 x183.2.2.2 0).bind (fun (x228 : Int) => (some (x228 != (x185.1.length : Int))))))))))))))) (fun (x230 : Bool) => (bif x230 then (some (Lp.ret false)) else (some (Lp.next (x38.1, x173, (IntKind.i64.wrap (x38.2.2.1 + 1)), x183.2.2.2, x185.1, x185.2.1, x185.2.2.1, x185.2.2.2.1, x185.2.2.2.2.1, x185.2.2.2.2.2))))))))))))))))))))))))))))) else (Option.bind ((D.zcV fu a0 x38.2.2.2.1 0).bind (fun (x235 : List Int) => ((D.zb2 fu x235 x38.2.2.2.2.1).bind (fun (x238 : Bool) => (bif (!x238) then (some true) else ((D.zcv fu a0 x38.2.2.2.1 0 0).bind (fun (x245 : List Int) => ((D.zb2 fu x245 x38.2.2.2.2.2.1).bind (fun (x248 : Bool) => (bif (!x248) then (some true) else ((D.zcQ fu a0 x38.2.2.2.1 0).bind (fun (x259 : Int) => (some (x259 != (x38.2.2.2.2.1.length : Int))))))))))))))) (fun (x261 : Bool) => (bif x261 then (some (Lp.ret false)) else (some (Lp.next (x38.1, x38.2.1, (IntKind.i64.wrap (x38.2.2.1 + 1)), x38.2.2.2.1, x38.2.2.2.2.1, x38.2.2.2.2.2.1, x38.2.2.2.2.2.2.1, x38.2.2.2.2.2.2.2.1, x38.2.2.2.2.2.2.2.2.1, x38.2.2.2.2.2.2.2.2.2)))))))))) else (some (Lp.brk (x38.1, x38.2.1, x38.2.2.1, x38.2.2.2.1, x38.2.2.2.2.1, x38.2.2.2.2.2.1, x38.2.2.2.2.2.2.1, x38.2.2.2.2.2.2.2.1, x38.2.2.2.2.2.2.2.2.1, x38.2.2.2.2.2.2.2.2.2))))) fu (false, [], 0, x17, x21.1, x21.2.1, x21.2.2.1, x21.2.2.2.1, x21.2.2.2.2.1, x21.2.2.2.2.2) (fun (x265 : Bool × List Int × Int × Mem × List Int × List Int × Int × List Int × List Bool × Int) => (some true))))))))))
theorem zef {fu : Nat} (w0 : World) (a0 : Plan) {a1v : Value} (a1 : List Int) (a1h : RoAt 34 1 i8E a1v a1 w0) {res : Bool} (hD : D.zc2 fu a0 a1 = some res) :
    Calls Tryz.prog 3 #[.agg (zln a0).toArray, a1v] w0 (zlE (.bool res) w0) := by
 refine enter Tryz.func3 rfl 194 rfl rfl fun fr r => ?_
 have hP : Post No [] w0 w0 := Post.nil w0
 have hP : Post No [roK 34 1 i8E a1v a1] w0 w0 := hP.addRo zb3 a1h rfl a1h.lt
 unfold D.zc2 at hD
 refine wsr ?_
 refine zaa (.cells ((zln a0)).toArray 23 (0, 0)) r (fun R => zlC r (v := (.agg (zln a0).toArray)) rfl) rfl fun fr b1 w2 n3 r => ?_
 have hP : Post No [roK 34 1 i8E a1v a1, zlm b1 ((zln a0)).toArray 23] w0 w2 := hP.new n3
 refine za0 (.bool false) r (fun R => za6 r rfl) rfl fun fr r => wn (wp_seq (wp_seq ?_))
 refine zbo (N := 194) (Y := Bool) (G := Unit) (fun x γ => [(0, (.agg (zln a0).toArray)), (1, a1v), (2, (zp b1)), (4, (.bool false)), (31, (.bool x))]) (fun x γ w => Post No [roK 34 1 i8E a1v a1, zlm b1 ((zln a0)).toArray 23] w0 w) hD ?_ ?_
 ·
  rintro y5 RPy5 nxy5 hD
  refine wp_region_lit ?_
  obtain ⟨x6, hx6, hD⟩ := zad hD
  refine za9 r (zdN w2  hx6) (fun R hc => zac r rfl cl22 hc) rfl ?_
  rintro _ w7 ⟨rfl, hb⟩
  refine ⟨_, rfl, fun fr r => ?_⟩
  have hP : Post No [roK 34 1 i8E a1v a1, zlm b1 ((zln a0)).toArray 23] w0 w7 := hP.below hb
  refine za0 (.bool (!x6)) r (fun R => y_un r (u := (.bool x6)) rfl rfl) rfl fun fr r => za0 (.bool (!x6)) r (fun R => za5 r rfl) rfl fun fr r => ?_
  refine zay (!x6) (fun h8 => ?_) (fun h8 => ?_)
  ·
   have hD := (zao h8).symm.trans hD
   refine s0 r h8 fun fr r => s0 r h8 fun fr r => s0 r h8 fun fr r => za0 (.bool true) r (fun R => zai r (b := true) (congrArg Value.bool h8) rfl) rfl fun fr r => za0 (.bool true) r (fun R => za5 r rfl) rfl fun fr r => s0 r (rfl : true = _) fun fr r => s0 r (rfl : true = _) fun fr r => s0 r (rfl : true = _) fun fr r => za0 (.bool true) r (fun R => zai r (b := true) (congrArg Value.bool (rfl : true = _)) rfl) rfl fun fr r => wn ?_
   exact nxy5 true () _ _ _ hD r (za1 rfl (za1 rfl (za1 rfl (za1 rfl (za1 rfl zaz))))) (hP.pick [0, 1] rfl rfl)
  ·
   have hD := (zah h8).symm.trans hD
   refine s1 r h8 (za0 (.agg (zln a0).toArray) r (fun R => za7 r (cs := (zln a0)) (n := 6) rfl (hP.cell (i := 1) rfl) ta23 rfl) rfl fun fr r => s1 r h8 ?_)
   refine za9 r (zfY w7 a0) (fun R hc => zac r rfl cl23 hc) rfl ?_
   rintro _ w9 ⟨rfl, hb⟩
   refine ⟨_, rfl, fun fr r => ?_⟩
   have hP : Post No [roK 34 1 i8E a1v a1, zlm b1 ((zln a0)).toArray 23] w0 w9 := hP.below hb
   refine s1 r h8 (za0 (.bool (!(D.zb9 a0))) r (fun R => y_un r (u := (.bool (D.zb9 a0))) rfl rfl) rfl fun fr r => za0 (.bool (!(D.zb9 a0))) r (fun R => zai r (b := false) (congrArg Value.bool h8) rfl) rfl fun fr r => za0 (.bool (!(D.zb9 a0))) r (fun R => za5 r rfl) rfl fun fr r => ?_)
   refine zay (!(D.zb9 a0)) (fun h10 => ?_) (fun h10 => ?_)
   ·
    have hD := (zao h10).symm.trans hD
    refine s0 r h10 fun fr r => s0 r h10 fun fr r => s0 r h10 fun fr r => za0 (.bool true) r (fun R => zai r (b := true) (congrArg Value.bool h10) rfl) rfl fun fr r => wn ?_
    exact nxy5 true () _ _ _ hD r (za1 rfl (za1 rfl (za1 rfl (za1 rfl (za1 rfl zaz))))) (hP.pick [0, 1] rfl rfl)
   ·
    have hD := (zah h10).symm.trans hD
    refine s1 r h10 (za0 a1v r (fun R => za5 r rfl) rfl fun fr r => s1 r h10 (za0 (I (a1.length : Int)) r (fun R => zbj r (hP.ro (i := 0) rfl) is24 rfl) rfl fun fr r => s1 r h10 (za0 _ r (fun R => zlt r rfl rfl rfl rfl) rfl fun fr r => za0 (.bool (decide ((a1.length : Int) > 80))) r (fun R => zai r (b := false) (congrArg Value.bool h10) rfl) rfl fun fr r => wn ?_)))
    exact nxy5 (decide ((a1.length : Int) > 80)) () _ _ _ hD r (za1 rfl (za1 rfl (za1 rfl (za1 rfl (za1 rfl zaz))))) (hP.pick [0, 1] rfl rfl)
 ·
  rintro x11 γ12 fr w13 g r hP hD
  have hP : Post No [roK 34 1 i8E a1v a1, zlm b1 ((zln a0)).toArray 23] w0 w13 := hP
  refine wp_cond_split (t := x11) (r.ev rfl) (fun h14 => ?_) (fun h14 => ?_)
  ·
   have hD := (zao h14).symm.trans hD
   refine wsr ?_
   obtain ⟨x15, hx15, hD⟩ := zad hD
   refine za9 r (zdN w13  hx15) (fun R hc => zac r rfl cl22 hc) rfl ?_
   rintro _ w16 ⟨rfl, hb⟩
   refine ⟨_, rfl, fun fr r => ?_⟩
   have hP : Post No [roK 34 1 i8E a1v a1, zlm b1 ((zln a0)).toArray 23] w0 w16 := hP.below hb
   refine za0 (.bool x15) r (fun R => za6 r rfl) rfl fun fr r => wn (wp_ret ?_)
   have hv : x15 = res := Option.some.inj hD
   try dsimp only [Exit.then, Exit.inBlock]
   refine zaA (fn := Tryz.f3) r (t := 4) rfl (v := (.bool x15)) rfl ?_
   subst hv
   exact ⟨rfl, hP.chg.below⟩
  ·
   have hD := (zah h14).symm.trans hD
   refine wp_skip (wsr (za0 (.agg (zln a0).toArray) r (fun R => za7 r (cs := (zln a0)) (n := 6) rfl (hP.cell (i := 1) rfl) ta23 rfl) rfl fun fr r => ?_))
   obtain ⟨x17, hx17, hD⟩ := zad hD
   refine za9 r (ze5 w13 a0 hx17) (fun R hc => zac r rfl cl24 hc) rfl ?_
   rintro _ w18 ⟨mg19, rfl, hq⟩
   refine ⟨_, rfl, fun fr r => ?_⟩
   have hP : Post No [roK 34 1 i8E a1v a1, zlm b1 ((zln a0)).toArray 23, memK mg19 x17] w0 w18 := hP.add hq
   refine za0 (zp mg19.mb) r (fun R => za6 r rfl) rfl fun fr r => wn (wsr (za0 _ r (fun R => za4 r (o := 0) rfl zec) rfl fun fr r => za0 (I a0.nodes) r (fun R => za2 r rfl (hP.cell (i := 1) rfl) to3 rfl) rfl fun fr r => za0 _ r (fun R => za4 r (o := 0) rfl zeJ) rfl fun fr r => za0 (I a0.retire) r (fun R => za2 r rfl (hP.cell (i := 1) rfl) to3 rfl) rfl fun fr r => za0 _ r (fun R => za4 r (o := 0) rfl zi9) rfl fun fr r => za0 (I a0.gen) r (fun R => za2 r rfl (hP.cell (i := 1) rfl) to3 rfl) rfl fun fr r => ?_))
   obtain ⟨x21, hx21, hD⟩ := zad hD
   refine za9 r (zfE w18 (Y := rdOf []) a0.nodes a0.retire a0.gen hx21) (fun R hc => zac r rfl cl25 hc) rfl ?_
   rintro _ w22 ⟨v23, v25, v27, v29, rfl, hq⟩
   refine ⟨_, rfl, fun fr r => ?_⟩
   have hP : Post No [roK 34 1 i8E a1v a1, zlm b1 ((zln a0)).toArray 23, memK mg19 x17, roK 3 1 i64 v23 x21.1, roK 3 1 i64 v25 x21.2.1, roK 3 1 i64 v27 x21.2.2.2.1, roK 4 1 zlr v29 x21.2.2.2.2.1] w0 w22 := hP.addY hq (zaF rfl (zaF rfl (zaF rfl (zaF rfl zb3)))) zf0
   refine zaa (.cells #[(Value.slice none 0 0), (Value.slice none 0 0), (I 0), (Value.slice none 0 0), (Value.slice none 0 0), (I 0)] 32 (0, 0)) r (fun R => zar tz32) rfl fun fr b31 w32 n33 r => ?_
   have hP : Post No [roK 34 1 i8E a1v a1, zlm b1 ((zln a0)).toArray 23, memK mg19 x17, roK 3 1 i64 v23 x21.1, roK 3 1 i64 v25 x21.2.1, roK 3 1 i64 v27 x21.2.2.2.1, roK 4 1 zlr v29 x21.2.2.2.2.1, zlm b31 #[(Value.slice none 0 0), (Value.slice none 0 0), (I 0), (Value.slice none 0 0), (Value.slice none 0 0), (I 0)] 32] w0 w32 := hP.new n33
   refine zaf (.cells #[v23, v25, (I x21.2.2.1), v27, v29, (I x21.2.2.2.2.2)] 32 (0, 0)) r (fun R => zbM r (o := 0) (n := 6) (v := (.agg #[v23, v25, (I x21.2.2.1), v27, v29, (I x21.2.2.2.2.2)])) (cs := [v23, v25, (I x21.2.2.1), v27, v29, (I x21.2.2.2.2.2)]) rfl rfl rfl (zak (RoAt.plain (hP.ro (i := 3) rfl)) (zak (RoAt.plain (hP.ro (i := 4) rfl)) (zak rfl (zak (RoAt.plain (hP.ro (i := 5) rfl)) (zak (RoAt.plain (hP.ro (i := 6) rfl)) (zak rfl zbL)))))) rfl (hP.cell (i := 7) rfl) ts32 (Nat.le_of_ble_eq_true rfl) rfl) rfl fun fr w35 u36 r => ?_
   have hP : Post No [roK 34 1 i8E a1v a1, zlm b1 ((zln a0)).toArray 23, memK mg19 x17, roK 3 1 i64 v23 x21.1, roK 3 1 i64 v25 x21.2.1, roK 3 1 i64 v27 x21.2.2.2.1, roK 4 1 zlr v29 x21.2.2.2.2.1, zlm b31 #[v23, v25, (I x21.2.2.1), v27, v29, (I x21.2.2.2.2.2)] 32] w0 w35 := hP.upd (i := 7) rfl u36
   refine wn (wp_seq (wsr (za0 (zp mg19.mb) r (fun R => za5 r rfl) rfl fun fr r => za0 _ r (fun R => zlt r rfl rfl rfl rfl) rfl fun fr r => wn ?_)))
   refine wp_cond_split (t := false) (r.ev rfl) (fun h => absurd ((rfl : false = _).symm.trans h) (by decide)) (fun _ => wp_skip (wsr (za0 (Value.slice none 0 0) r (fun R => za6 r rfl) rfl fun fr r => wn (wp_seq (wsr (za0 (I 0) r (fun R => za6 r rfl) rfl fun fr r => wn ?_))))))
   have hP : Post No [roK 34 1 i8E a1v a1, zlm b1 ((zln a0)).toArray 23, memK mg19 x17, roK 3 1 i64 v23 x21.1, roK 3 1 i64 v25 x21.2.1, roK 3 1 i64 v27 x21.2.2.2.1, roK 4 1 zlr v29 x21.2.2.2.2.1, zlm b31 #[v23, v25, (I x21.2.2.1), v27, v29, (I x21.2.2.2.2.2)] 32, rowK 3 1 i64 (Value.slice none 0 0) ([])] w0 w35 := hP.nilRow 3 1 i64
   refine zcu (X := Bool × List Int × Int × Mem × List Int × List Int × Int × List Int × List Bool × Int) (G := Value × Value × Value × Value × Value) (x0 := (false, [], 0, x17, x21.1, x21.2.1, x21.2.2.1, x21.2.2.2.1, x21.2.2.2.2.1, x21.2.2.2.2.2)) (fun x γ => [(0, (.agg (zln a0).toArray)), (1, a1v), (2, (zp b1)), (31, (.bool x11)), (5, (zp mg19.mb)), (6, (zp b31)), (43, (.bool false)), (4, (.bool x.1)), (7, γ.1), (8, (I x.2.2.1))]) (fun x γ w => Post No [roK 34 1 i8E a1v a1, zlm b1 ((zln a0)).toArray 23, memK mg19 x.2.2.2.1, zlm b31 #[γ.2.1, γ.2.2.1, (I x.2.2.2.2.2.2.1), γ.2.2.2.1, γ.2.2.2.2, (I x.2.2.2.2.2.2.2.2.2)] 32, rowK 3 1 i64 γ.1 x.2.1, roK 3 1 i64 γ.2.1 x.2.2.2.2.1, roK 3 1 i64 γ.2.2.1 x.2.2.2.2.2.1, roK 3 1 i64 γ.2.2.2.1 x.2.2.2.2.2.2.2.1, roK 4 1 zlr γ.2.2.2.2 x.2.2.2.2.2.2.2.2.1] w0 w) ((Value.slice none 0 0), v23, v25, v27, v29) r (za1 rfl (za1 rfl (za1 rfl (za1 rfl (za1 rfl (za1 rfl (za1 rfl (za1 rfl (za1 rfl (za1 rfl zaz)))))))))) (hP.pick [0, 1, 2, 7, 8, 3, 4, 5, 6] rfl rfl) hD ?_ ?_
   ·
    rintro x38 γ39 fr w41 g y40 RPy40 nxy40 bky40 rty40 r hP hD
    have hP : Post No [roK 34 1 i8E a1v a1, zlm b1 ((zln a0)).toArray 23, memK mg19 x38.2.2.2.1, zlm b31 #[γ39.2.1, γ39.2.2.1, (I x38.2.2.2.2.2.2.1), γ39.2.2.2.1, γ39.2.2.2.2, (I x38.2.2.2.2.2.2.2.2.2)] 32, rowK 3 1 i64 γ39.1 x38.2.1, roK 3 1 i64 γ39.2.1 x38.2.2.2.2.1, roK 3 1 i64 γ39.2.2.1 x38.2.2.2.2.2.1, roK 3 1 i64 γ39.2.2.2.1 x38.2.2.2.2.2.2.2.1, roK 4 1 zlr γ39.2.2.2.2 x38.2.2.2.2.2.2.2.2.1] w0 w41 := hP
    refine wp_seq (wsr (za0 (I x38.2.2.1) r (fun R => za5 r rfl) rfl fun fr r => za0 a1v r (fun R => za5 r rfl) rfl fun fr r => za0 (I (a1.length : Int)) r (fun R => zbj r (hP.ro (i := 0) rfl) is24 rfl) rfl fun fr r => za0 _ r (fun R => zlt r rfl rfl rfl rfl) rfl fun fr r => wn ?_))
    refine wp_cond_split (t := (decide (x38.2.2.1 < (a1.length : Int)))) (r.ev rfl) (fun h42 => ?_) (fun h42 => ?_)
    ·
     have hD := (zao h42).symm.trans hD
     refine wp_skip (wp_seq (wp_block (wp_seq (wsr (za0 a1v r (fun R => za5 r rfl) rfl fun fr r => za0 (I x38.2.2.1) r (fun R => za5 r rfl) rfl fun fr r => ?_)))))
     obtain ⟨x43, hx43, hD⟩ := zad hD
     refine za0 (.pointer (some ⟨rowB a1v, rowO a1v + x38.2.2.1.toNat * 1, none⟩)) r (fun R => zbe r (hP.ro (i := 0) rfl) hx43 sl24 rfl rfl) rfl fun fr r => za0 (.int .i8 x43) r (fun R => zba r (u := (.int .i8 x43)) (RoAt.at_ (f := i8E) (x := x43) (hP.ro (i := 0) rfl) (fun _ => rfl) hx43) rfl to34) rfl fun fr r => za0 _ r (fun R => zlt r rfl rfl rfl rfl) rfl fun fr r => wn ?_
     refine wp_cond_split (t := (decide (x43 < 0))) (r.ev rfl) (fun h44 => ?_) (fun h44 => ?_)
     ·
      have hD := (zao h44).symm.trans hD
      refine wsr (za0 (.agg (zln a0).toArray) r (fun R => za7 r (cs := (zln a0)) (n := 6) rfl (hP.cell (i := 1) rfl) ta23 rfl) rfl fun fr r => za0 (I x38.2.2.1) r (fun R => za5 r rfl) rfl fun fr r => za0 _ r (fun R => zlt r rfl rfl rfl rfl) rfl fun fr r => ?_)
      refine za9 r (zgY (F := No) (n := fu) (j := fu + 1) (fun _ h => h.elim) (by omega) a0 0 (x38.2.2.1.tmod 3)) (fun R hc => zac r rfl cl27 hc) rfl ?_
      rintro _ w45 ⟨v46, rfl, hb, hr47⟩
      refine ⟨_, rfl, fun fr r => ?_⟩
      have hP : Post No [roK 34 1 i8E a1v a1, zlm b1 ((zln a0)).toArray 23, memK mg19 x38.2.2.2.1, zlm b31 #[γ39.2.1, γ39.2.2.1, (I x38.2.2.2.2.2.2.1), γ39.2.2.2.1, γ39.2.2.2.2, (I x38.2.2.2.2.2.2.2.2.2)] 32, rowK 3 1 i64 γ39.1 x38.2.1, roK 3 1 i64 γ39.2.1 x38.2.2.2.2.1, roK 3 1 i64 γ39.2.2.1 x38.2.2.2.2.2.1, roK 3 1 i64 γ39.2.2.2.1 x38.2.2.2.2.2.2.2.1, roK 4 1 zlr γ39.2.2.2.2 x38.2.2.2.2.2.2.2.2.1, zlA Tryz.prog zls (fu, (D.zbt (fu + 1) a0 0 (x38.2.2.1.tmod 3))) v46 (rg w41.heap.size w45.heap.size)] w0 w45 := hP.addProg hb hr47
      refine za0 (zp mg19.mb) r (fun R => za5 r rfl) rfl fun fr r => za0 (zp mg19.mb) r (fun R => za5 r rfl) rfl fun fr r => ?_
      obtain ⟨x49, hx49, hD⟩ := zad hD
      refine za9 r (zd0 w45 x38.2.2.2.1 (hP.mem (i := 2) rfl) 0 hx49) (fun R hc => zac r rfl cl28 hc) rfl ?_
      rintro _ w50 ⟨rfl, hb⟩
      refine ⟨_, rfl, fun fr r => ?_⟩
      have hP : Post No [roK 34 1 i8E a1v a1, zlm b1 ((zln a0)).toArray 23, memK mg19 x38.2.2.2.1, zlm b31 #[γ39.2.1, γ39.2.2.1, (I x38.2.2.2.2.2.2.1), γ39.2.2.2.1, γ39.2.2.2.2, (I x38.2.2.2.2.2.2.2.2.2)] 32, rowK 3 1 i64 γ39.1 x38.2.1, roK 3 1 i64 γ39.2.1 x38.2.2.2.2.1, roK 3 1 i64 γ39.2.2.1 x38.2.2.2.2.2.1, roK 3 1 i64 γ39.2.2.2.1 x38.2.2.2.2.2.2.2.1, roK 4 1 zlr γ39.2.2.2.2 x38.2.2.2.2.2.2.2.2.1, zlA Tryz.prog zls (fu, (D.zbt (fu + 1) a0 0 (x38.2.2.1.tmod 3))) v46 (rg w41.heap.size w45.heap.size)] w0 w50 := hP.below hb
      obtain ⟨x51, hx51, hD⟩ := zad hD
      refine za9 r (zeK w50 (fu, (D.zbt (fu + 1) a0 0 (x38.2.2.1.tmod 3))) x38.2.2.2.1 x49 100000 (hP.sep.pk [9, 2] rfl rfl) hx51) (fun R hc => zac r rfl cl26 hc) rfl ?_
      rintro _ w52 ⟨rfl, hq⟩
      refine ⟨_, rfl, fun fr r => ?_⟩
      have hP : Post No [roK 34 1 i8E a1v a1, zlm b1 ((zln a0)).toArray 23, memK mg19 x51.2.2.2, zlm b31 #[γ39.2.1, γ39.2.2.1, (I x38.2.2.2.2.2.2.1), γ39.2.2.2.1, γ39.2.2.2.2, (I x38.2.2.2.2.2.2.2.2.2)] 32, rowK 3 1 i64 γ39.1 x38.2.1, roK 3 1 i64 γ39.2.1 x38.2.2.2.2.1, roK 3 1 i64 γ39.2.2.1 x38.2.2.2.2.2.1, roK 3 1 i64 γ39.2.2.2.1 x38.2.2.2.2.2.2.2.1, roK 4 1 zlr γ39.2.2.2.2 x38.2.2.2.2.2.2.2.2.1, zlA Tryz.prog zls (fu, (D.zbt (fu + 1) a0 0 (x38.2.2.1.tmod 3))) v46 (rg w41.heap.size w45.heap.size)] w0 w52 := hP.setN (i := 2) rfl hq
      refine za0 (.tuple #[(.agg (zlD x51.1).toArray), (I x51.2.1), (.bool x51.2.2.1)]) r (fun R => za5 r rfl) rfl fun fr r => za0 (.agg (zlD x51.1).toArray) r (fun R => zaQ r (vs := #[(.agg (zlD x51.1).toArray), (I x51.2.1), (.bool x51.2.2.1)]) rfl rfl) rfl fun fr r => za0 (I x51.2.1) r (fun R => zaQ r (vs := #[(.agg (zlD x51.1).toArray), (I x51.2.1), (.bool x51.2.2.1)]) rfl rfl) rfl fun fr r => za0 (.bool x51.2.2.1) r (fun R => zaQ r (vs := #[(.agg (zlD x51.1).toArray), (I x51.2.1), (.bool x51.2.2.1)]) rfl rfl) rfl fun fr r => ?_
      refine zaa (.cells ((zlD (⟨0, 0, 0⟩ : Grant))).toArray 37 (0, 0)) r (fun R => zar tz37) rfl fun fr b53 w54 n55 r => ?_
      have hP : Post No [roK 34 1 i8E a1v a1, zlm b1 ((zln a0)).toArray 23, memK mg19 x51.2.2.2, zlm b31 #[γ39.2.1, γ39.2.2.1, (I x38.2.2.2.2.2.2.1), γ39.2.2.2.1, γ39.2.2.2.2, (I x38.2.2.2.2.2.2.2.2.2)] 32, rowK 3 1 i64 γ39.1 x38.2.1, roK 3 1 i64 γ39.2.1 x38.2.2.2.2.1, roK 3 1 i64 γ39.2.2.1 x38.2.2.2.2.2.1, roK 3 1 i64 γ39.2.2.2.1 x38.2.2.2.2.2.2.2.1, roK 4 1 zlr γ39.2.2.2.2 x38.2.2.2.2.2.2.2.2.1, zlA Tryz.prog zls (fu, (D.zbt (fu + 1) a0 0 (x38.2.2.1.tmod 3))) v46 (rg w41.heap.size w45.heap.size), zlm b53 ((zlD (⟨0, 0, 0⟩ : Grant))).toArray 37] w0 w54 := hP.new n55
      refine zaf (.cells ((zlD x51.1)).toArray 37 (0, 0)) r (fun R => zb0 r (o := 0) (v := (.agg (zlD x51.1).toArray)) rfl rfl (hP.cell (i := 10) rfl) ts37 (Nat.le_of_ble_eq_true rfl) rfl rfl) rfl fun fr w57 u58 r => ?_
      have hP : Post No [roK 34 1 i8E a1v a1, zlm b1 ((zln a0)).toArray 23, memK mg19 x51.2.2.2, zlm b31 #[γ39.2.1, γ39.2.2.1, (I x38.2.2.2.2.2.2.1), γ39.2.2.2.1, γ39.2.2.2.2, (I x38.2.2.2.2.2.2.2.2.2)] 32, rowK 3 1 i64 γ39.1 x38.2.1, roK 3 1 i64 γ39.2.1 x38.2.2.2.2.1, roK 3 1 i64 γ39.2.2.1 x38.2.2.2.2.2.1, roK 3 1 i64 γ39.2.2.2.1 x38.2.2.2.2.2.2.2.1, roK 4 1 zlr γ39.2.2.2.2 x38.2.2.2.2.2.2.2.2.1, zlA Tryz.prog zls (fu, (D.zbt (fu + 1) a0 0 (x38.2.2.1.tmod 3))) v46 (rg w41.heap.size w45.heap.size), zlm b53 ((zlD x51.1)).toArray 37] w0 w57 := hP.upd (i := 10) rfl u58
      refine za0 (I x51.2.1) r (fun R => za6 r rfl) rfl fun fr r => za0 (.bool x51.2.2.1) r (fun R => za6 r rfl) rfl fun fr r => wn (wsr (za0 (.agg #[γ39.2.1, γ39.2.2.1, (I x38.2.2.2.2.2.2.1), γ39.2.2.2.1, γ39.2.2.2.2, (I x38.2.2.2.2.2.2.2.2.2)]) r (fun R => za7 r (cs := [γ39.2.1, γ39.2.2.1, (I x38.2.2.2.2.2.2.1), γ39.2.2.2.1, γ39.2.2.2.2, (I x38.2.2.2.2.2.2.2.2.2)]) (n := 6) rfl (hP.cell (i := 3) rfl) ta32 rfl) rfl fun fr r => ?_))
      obtain ⟨x59, hx59, hD⟩ := zad hD
      refine za9 r (zeh w57 (Y := rdOf [γ39.2.1, γ39.2.2.1, γ39.2.2.2.1, γ39.2.2.2.2]) x38.2.2.2.2.1 (hP.ro (i := 5) rfl) (zcq (i := 0) rfl) x38.2.2.2.2.2.1 (hP.ro (i := 6) rfl) (zcq (i := 1) rfl) x38.2.2.2.2.2.2.1 x38.2.2.2.2.2.2.2.1 (hP.ro (i := 7) rfl) (zcq (i := 2) rfl) x38.2.2.2.2.2.2.2.2.1 (hP.ro (i := 8) rfl) (zcq (i := 3) rfl) x38.2.2.2.2.2.2.2.2.2 hx59) (fun R hc => zac r rfl cl29 hc) rfl ?_
      rintro _ w60 ⟨v61, v63, v65, v67, rfl, hq⟩
      refine ⟨_, rfl, fun fr r => ?_⟩
      have hP : Post No [roK 34 1 i8E a1v a1, zlm b1 ((zln a0)).toArray 23, memK mg19 x51.2.2.2, zlm b31 #[γ39.2.1, γ39.2.2.1, (I x38.2.2.2.2.2.2.1), γ39.2.2.2.1, γ39.2.2.2.2, (I x38.2.2.2.2.2.2.2.2.2)] 32, rowK 3 1 i64 γ39.1 x38.2.1, roK 3 1 i64 γ39.2.1 x38.2.2.2.2.1, roK 3 1 i64 γ39.2.2.1 x38.2.2.2.2.2.1, roK 3 1 i64 γ39.2.2.2.1 x38.2.2.2.2.2.2.2.1, roK 4 1 zlr γ39.2.2.2.2 x38.2.2.2.2.2.2.2.2.1, zlA Tryz.prog zls (fu, (D.zbt (fu + 1) a0 0 (x38.2.2.1.tmod 3))) v46 (rg w41.heap.size w45.heap.size), zlm b53 ((zlD x51.1)).toArray 37, roK 3 1 i64 v61 x59.1, roK 3 1 i64 v63 x59.2.1, roK 3 1 i64 v65 x59.2.2.2.1, roK 4 1 zlr v67 x59.2.2.2.2.1] w0 w60 := hP.addY hq (zaF rfl (zaF rfl (zaF rfl (zaF rfl zb3)))) (zbD (hP.inR (i := 5) rfl) (zbD (hP.inR (i := 6) rfl) (zbD (hP.inR (i := 7) rfl) (zbD (hP.inR (i := 8) rfl) zf0))))
      refine za0 (.tuple #[(.agg #[v61, v63, (I x59.2.2.1), v65, v67, (I x59.2.2.2.2.2.1)]), (I x59.2.2.2.2.2.2.1), (I x59.2.2.2.2.2.2.2)]) r (fun R => za5 r rfl) rfl fun fr r => za0 (.agg #[v61, v63, (I x59.2.2.1), v65, v67, (I x59.2.2.2.2.2.1)]) r (fun R => zaQ r (vs := #[(.agg #[v61, v63, (I x59.2.2.1), v65, v67, (I x59.2.2.2.2.2.1)]), (I x59.2.2.2.2.2.2.1), (I x59.2.2.2.2.2.2.2)]) rfl rfl) rfl fun fr r => za0 (I x59.2.2.2.2.2.2.1) r (fun R => zaQ r (vs := #[(.agg #[v61, v63, (I x59.2.2.1), v65, v67, (I x59.2.2.2.2.2.1)]), (I x59.2.2.2.2.2.2.1), (I x59.2.2.2.2.2.2.2)]) rfl rfl) rfl fun fr r => za0 (I x59.2.2.2.2.2.2.2) r (fun R => zaQ r (vs := #[(.agg #[v61, v63, (I x59.2.2.1), v65, v67, (I x59.2.2.2.2.2.1)]), (I x59.2.2.2.2.2.2.1), (I x59.2.2.2.2.2.2.2)]) rfl rfl) rfl fun fr r => ?_
      refine zaa (.cells #[(Value.slice none 0 0), (Value.slice none 0 0), (I 0), (Value.slice none 0 0), (Value.slice none 0 0), (I 0)] 32 (0, 0)) r (fun R => zar tz32) rfl fun fr b69 w70 n71 r => ?_
      have hP : Post No [roK 34 1 i8E a1v a1, zlm b1 ((zln a0)).toArray 23, memK mg19 x51.2.2.2, zlm b31 #[γ39.2.1, γ39.2.2.1, (I x38.2.2.2.2.2.2.1), γ39.2.2.2.1, γ39.2.2.2.2, (I x38.2.2.2.2.2.2.2.2.2)] 32, rowK 3 1 i64 γ39.1 x38.2.1, roK 3 1 i64 γ39.2.1 x38.2.2.2.2.1, roK 3 1 i64 γ39.2.2.1 x38.2.2.2.2.2.1, roK 3 1 i64 γ39.2.2.2.1 x38.2.2.2.2.2.2.2.1, roK 4 1 zlr γ39.2.2.2.2 x38.2.2.2.2.2.2.2.2.1, zlA Tryz.prog zls (fu, (D.zbt (fu + 1) a0 0 (x38.2.2.1.tmod 3))) v46 (rg w41.heap.size w45.heap.size), zlm b53 ((zlD x51.1)).toArray 37, roK 3 1 i64 v61 x59.1, roK 3 1 i64 v63 x59.2.1, roK 3 1 i64 v65 x59.2.2.2.1, roK 4 1 zlr v67 x59.2.2.2.2.1, zlm b69 #[(Value.slice none 0 0), (Value.slice none 0 0), (I 0), (Value.slice none 0 0), (Value.slice none 0 0), (I 0)] 32] w0 w70 := hP.new n71
      refine zaf (.cells #[v61, v63, (I x59.2.2.1), v65, v67, (I x59.2.2.2.2.2.1)] 32 (0, 0)) r (fun R => zbM r (o := 0) (n := 6) (v := (.agg #[v61, v63, (I x59.2.2.1), v65, v67, (I x59.2.2.2.2.2.1)])) (cs := [v61, v63, (I x59.2.2.1), v65, v67, (I x59.2.2.2.2.2.1)]) rfl rfl rfl (zak (RoAt.plain (hP.ro (i := 11) rfl)) (zak (RoAt.plain (hP.ro (i := 12) rfl)) (zak rfl (zak (RoAt.plain (hP.ro (i := 13) rfl)) (zak (RoAt.plain (hP.ro (i := 14) rfl)) (zak rfl zbL)))))) rfl (hP.cell (i := 15) rfl) ts32 (Nat.le_of_ble_eq_true rfl) rfl) rfl fun fr w73 u74 r => ?_
      have hP : Post No [roK 34 1 i8E a1v a1, zlm b1 ((zln a0)).toArray 23, memK mg19 x51.2.2.2, zlm b31 #[γ39.2.1, γ39.2.2.1, (I x38.2.2.2.2.2.2.1), γ39.2.2.2.1, γ39.2.2.2.2, (I x38.2.2.2.2.2.2.2.2.2)] 32, rowK 3 1 i64 γ39.1 x38.2.1, roK 3 1 i64 γ39.2.1 x38.2.2.2.2.1, roK 3 1 i64 γ39.2.2.1 x38.2.2.2.2.2.1, roK 3 1 i64 γ39.2.2.2.1 x38.2.2.2.2.2.2.2.1, roK 4 1 zlr γ39.2.2.2.2 x38.2.2.2.2.2.2.2.2.1, zlA Tryz.prog zls (fu, (D.zbt (fu + 1) a0 0 (x38.2.2.1.tmod 3))) v46 (rg w41.heap.size w45.heap.size), zlm b53 ((zlD x51.1)).toArray 37, roK 3 1 i64 v61 x59.1, roK 3 1 i64 v63 x59.2.1, roK 3 1 i64 v65 x59.2.2.2.1, roK 4 1 zlr v67 x59.2.2.2.2.1, zlm b69 #[v61, v63, (I x59.2.2.1), v65, v67, (I x59.2.2.2.2.2.1)] 32] w0 w73 := hP.upd (i := 15) rfl u74
      refine za0 (I x59.2.2.2.2.2.2.1) r (fun R => za6 r rfl) rfl fun fr r => za0 (I x59.2.2.2.2.2.2.2) r (fun R => za6 r rfl) rfl fun fr r => wn (wsr (za0 (.agg #[v61, v63, (I x59.2.2.1), v65, v67, (I x59.2.2.2.2.2.1)]) r (fun R => za7 r (cs := [v61, v63, (I x59.2.2.1), v65, v67, (I x59.2.2.2.2.2.1)]) (n := 6) rfl (hP.cell (i := 15) rfl) ta32 rfl) rfl fun fr r => ?_))
      refine zaf (.cells #[v61, v63, (I x59.2.2.1), v65, v67, (I x59.2.2.2.2.2.1)] 32 (0, 0)) r (fun R => zbM r (o := 0) (n := 6) (v := (.agg #[v61, v63, (I x59.2.2.1), v65, v67, (I x59.2.2.2.2.2.1)])) (cs := [v61, v63, (I x59.2.2.1), v65, v67, (I x59.2.2.2.2.2.1)]) rfl rfl rfl (zak (RoAt.plain (hP.ro (i := 11) rfl)) (zak (RoAt.plain (hP.ro (i := 12) rfl)) (zak rfl (zak (RoAt.plain (hP.ro (i := 13) rfl)) (zak (RoAt.plain (hP.ro (i := 14) rfl)) (zak rfl zbL)))))) rfl (hP.cell (i := 3) rfl) ts32 (Nat.le_of_ble_eq_true rfl) rfl) rfl fun fr w75 u76 r => ?_
      have hP : Post No [roK 34 1 i8E a1v a1, zlm b1 ((zln a0)).toArray 23, memK mg19 x51.2.2.2, zlm b31 #[v61, v63, (I x59.2.2.1), v65, v67, (I x59.2.2.2.2.2.1)] 32, rowK 3 1 i64 γ39.1 x38.2.1, roK 3 1 i64 γ39.2.1 x38.2.2.2.2.1, roK 3 1 i64 γ39.2.2.1 x38.2.2.2.2.2.1, roK 3 1 i64 γ39.2.2.2.1 x38.2.2.2.2.2.2.2.1, roK 4 1 zlr γ39.2.2.2.2 x38.2.2.2.2.2.2.2.2.1, zlA Tryz.prog zls (fu, (D.zbt (fu + 1) a0 0 (x38.2.2.1.tmod 3))) v46 (rg w41.heap.size w45.heap.size), zlm b53 ((zlD x51.1)).toArray 37, roK 3 1 i64 v61 x59.1, roK 3 1 i64 v63 x59.2.1, roK 3 1 i64 v65 x59.2.2.2.1, roK 4 1 zlr v67 x59.2.2.2.2.1, zlm b69 #[v61, v63, (I x59.2.2.1), v65, v67, (I x59.2.2.2.2.2.1)] 32] w0 w75 := hP.upd (i := 3) rfl u76
      refine wn (wp_seq (wp_seq ?_))
      have hP : Post No [roK 34 1 i8E a1v a1, zlm b1 ((zln a0)).toArray 23, memK mg19 x51.2.2.2, zlm b31 #[v61, v63, (I x59.2.2.1), v65, v67, (I x59.2.2.2.2.2.1)] 32, rowK 3 1 i64 γ39.1 x38.2.1, zlm b53 ((zlD x51.1)).toArray 37, roK 3 1 i64 v61 x59.1, roK 3 1 i64 v63 x59.2.1, roK 3 1 i64 v65 x59.2.2.2.1, roK 4 1 zlr v67 x59.2.2.2.2.1, zlm b69 #[v61, v63, (I x59.2.2.1), v65, v67, (I x59.2.2.2.2.2.1)] 32] w0 w75 := hP.pick [0, 1, 2, 3, 4, 10, 11, 12, 13, 14, 15] rfl rfl
      refine zbo (N := 194) (Y := Bool) (G := Unit) (fun x γ => [(0, (.agg (zln a0).toArray)), (1, a1v), (2, (zp b1)), (31, (.bool x11)), (5, (zp mg19.mb)), (6, (zp b31)), (43, (.bool false)), (4, (.bool x38.1)), (7, γ39.1), (8, (I x38.2.2.1)), (47, (.bool (decide (x38.2.2.1 < (a1.length : Int))))), (54, (.bool (decide (x43 < 0)))), (9, (zp b53)), (11, (.bool x51.2.2.1)), (12, (zp b69)), (13, (I x59.2.2.2.2.2.2.1)), (14, (I x59.2.2.2.2.2.2.2)), (105, (.bool x))]) (fun x γ w => Post No [roK 34 1 i8E a1v a1, zlm b1 ((zln a0)).toArray 23, memK mg19 x51.2.2.2, zlm b31 #[v61, v63, (I x59.2.2.1), v65, v67, (I x59.2.2.2.2.2.1)] 32, rowK 3 1 i64 γ39.1 x38.2.1, zlm b53 ((zlD x51.1)).toArray 37, roK 3 1 i64 v61 x59.1, roK 3 1 i64 v63 x59.2.1, roK 3 1 i64 v65 x59.2.2.2.1, roK 4 1 zlr v67 x59.2.2.2.2.1, zlm b69 #[v61, v63, (I x59.2.2.1), v65, v67, (I x59.2.2.2.2.2.1)] 32] w0 w) hD ?_ ?_
      ·
       rintro y77 RPy77 nxy77 hD
       refine wp_region_lit (za0 (.bool x51.2.2.1) r (fun R => za5 r rfl) rfl fun fr r => za0 (.bool (!x51.2.2.1)) r (fun R => y_un r (u := (.bool x51.2.2.1)) rfl rfl) rfl fun fr r => za0 (.bool (!x51.2.2.1)) r (fun R => za5 r rfl) rfl fun fr r => ?_)
       refine zay (!x51.2.2.1) (fun h78 => ?_) (fun h78 => ?_)
       ·
        have hD := (zao h78).symm.trans hD
        refine s0 r h78 fun fr r => s0 r h78 fun fr r => s0 r h78 fun fr r => s0 r h78 fun fr r => za0 (.bool true) r (fun R => zai r (b := true) (congrArg Value.bool h78) rfl) rfl fun fr r => za0 (.bool true) r (fun R => za5 r rfl) rfl fun fr r => s0 r (rfl : true = _) fun fr r => s0 r (rfl : true = _) fun fr r => s0 r (rfl : true = _) fun fr r => s0 r (rfl : true = _) fun fr r => s0 r (rfl : true = _) fun fr r => s0 r (rfl : true = _) fun fr r => za0 (.bool true) r (fun R => zai r (b := true) (congrArg Value.bool (rfl : true = _)) rfl) rfl fun fr r => za0 (.bool true) r (fun R => za5 r rfl) rfl fun fr r => s0 r (rfl : true = _) fun fr r => s0 r (rfl : true = _) fun fr r => s0 r (rfl : true = _) fun fr r => s0 r (rfl : true = _) fun fr r => ?_
        refine zbE r rfl rfl rfl (v := undef) rfl (by simp [zlu, undef]) fun fr r => ?_
        refine zbE r rfl rfl rfl (v := undef) rfl (by simp [zlu, undef]) fun fr r => ?_
        refine zbE r rfl rfl rfl (v := undef) rfl (by simp [zlu, undef]) fun fr r => s0 r (rfl : true = _) fun fr r => za0 (.bool true) r (fun R => zai r (b := true) (congrArg Value.bool (rfl : true = _)) rfl) rfl fun fr r => za0 (.bool true) r (fun R => za5 r rfl) rfl fun fr r => s0 r (rfl : true = _) fun fr r => s0 r (rfl : true = _) fun fr r => s0 r (rfl : true = _) fun fr r => s0 r (rfl : true = _) fun fr r => za0 (.bool true) r (fun R => zai r (b := true) (congrArg Value.bool (rfl : true = _)) rfl) rfl fun fr r => wn ?_
        exact nxy77 true () _ _ _ hD r (za1 rfl (za1 rfl (za1 rfl (za1 rfl (za1 rfl (za1 rfl (za1 rfl (za1 rfl (za1 rfl (za1 rfl (za1 rfl (za1 rfl (za1 rfl (za1 rfl (za1 rfl (za1 rfl (za1 rfl (za1 rfl zaz)))))))))))))))))) (hP.pick [0, 1, 2, 3, 4, 5, 6, 7, 8, 9, 10] rfl rfl)
       ·
        have hD := (zah h78).symm.trans hD
        refine s1 r h78 (za0 _ r (fun R => za4 r (o := 0) rfl zkE) rfl fun fr r => s1 r h78 (za0 (I x51.1.node) r (fun R => za2 r rfl (hP.cell (i := 5) rfl) to3 rfl) rfl fun fr r => s1 r h78 (za0 (I x59.2.2.2.2.2.2.1) r (fun R => za5 r rfl) rfl fun fr r => s1 r h78 (za0 _ r (fun R => zlt r rfl rfl rfl rfl) rfl fun fr r => za0 (.bool (x51.1.node != x59.2.2.2.2.2.2.1)) r (fun R => zai r (b := false) (congrArg Value.bool h78) rfl) rfl fun fr r => za0 (.bool (x51.1.node != x59.2.2.2.2.2.2.1)) r (fun R => za5 r rfl) rfl fun fr r => ?_))))
        refine zay (x51.1.node != x59.2.2.2.2.2.2.1) (fun h79 => ?_) (fun h79 => ?_)
        ·
         have hD := (zao h79).symm.trans hD
         refine s0 r h79 fun fr r => s0 r h79 fun fr r => s0 r h79 fun fr r => s0 r h79 fun fr r => s0 r h79 fun fr r => s0 r h79 fun fr r => za0 (.bool true) r (fun R => zai r (b := true) (congrArg Value.bool h79) rfl) rfl fun fr r => za0 (.bool true) r (fun R => za5 r rfl) rfl fun fr r => s0 r (rfl : true = _) fun fr r => s0 r (rfl : true = _) fun fr r => s0 r (rfl : true = _) fun fr r => s0 r (rfl : true = _) fun fr r => ?_
         refine zbE r rfl rfl rfl (v := undef) rfl (by simp [zlu, undef]) fun fr r => ?_
         refine zbE r rfl rfl rfl (v := undef) rfl (by simp [zlu, undef]) fun fr r => ?_
         refine zbE r rfl rfl rfl (v := undef) rfl (by simp [zlu, undef]) fun fr r => s0 r (rfl : true = _) fun fr r => za0 (.bool true) r (fun R => zai r (b := true) (congrArg Value.bool (rfl : true = _)) rfl) rfl fun fr r => za0 (.bool true) r (fun R => za5 r rfl) rfl fun fr r => s0 r (rfl : true = _) fun fr r => s0 r (rfl : true = _) fun fr r => s0 r (rfl : true = _) fun fr r => s0 r (rfl : true = _) fun fr r => za0 (.bool true) r (fun R => zai r (b := true) (congrArg Value.bool (rfl : true = _)) rfl) rfl fun fr r => wn ?_
         exact nxy77 true () _ _ _ hD r (za1 rfl (za1 rfl (za1 rfl (za1 rfl (za1 rfl (za1 rfl (za1 rfl (za1 rfl (za1 rfl (za1 rfl (za1 rfl (za1 rfl (za1 rfl (za1 rfl (za1 rfl (za1 rfl (za1 rfl (za1 rfl zaz)))))))))))))))))) (hP.pick [0, 1, 2, 3, 4, 5, 6, 7, 8, 9, 10] rfl rfl)
        ·
         have hD := (zah h79).symm.trans hD
         refine s1 r h79 (za0 _ r (fun R => za4 r (o := 0) rfl ziM) rfl fun fr r => s1 r h79 (za0 (I x51.1.e) r (fun R => za2 r rfl (hP.cell (i := 5) rfl) to35 rfl) rfl fun fr r => s1 r h79 (za0 _ r (fun R => zlt r rfl rfl rfl rfl) rfl fun fr r => s1 r h79 (za0 (I x59.2.2.2.2.2.2.1) r (fun R => za5 r rfl) rfl fun fr r => s1 r h79 (za0 _ r (fun R => zlt r rfl rfl rfl rfl) rfl fun fr r => s1 r h79 (za0 _ r (fun R => zlt r rfl rfl rfl rfl) rfl fun fr r => za0 (.bool ((x51.1.e == 0) != (decide (x59.2.2.2.2.2.2.1 ≥ 0)))) r (fun R => zai r (b := false) (congrArg Value.bool h79) rfl) rfl fun fr r => za0 (.bool ((x51.1.e == 0) != (decide (x59.2.2.2.2.2.2.1 ≥ 0)))) r (fun R => za5 r rfl) rfl fun fr r => ?_))))))
         refine zay ((x51.1.e == 0) != (decide (x59.2.2.2.2.2.2.1 ≥ 0))) (fun h80 => ?_) (fun h80 => ?_)
         ·
          have hD := (zao h80).symm.trans hD
          refine s0 r h80 fun fr r => s0 r h80 fun fr r => s0 r h80 fun fr r => s0 r h80 fun fr r => ?_
          refine zbE r rfl rfl rfl (v := undef) rfl (by simp [zlu, undef]) fun fr r => ?_
          refine zbE r rfl rfl rfl (v := undef) rfl (by simp [zlu, undef]) fun fr r => ?_
          refine zbE r rfl rfl rfl (v := undef) rfl (by simp [zlu, undef]) fun fr r => s0 r h80 fun fr r => za0 (.bool true) r (fun R => zai r (b := true) (congrArg Value.bool h80) rfl) rfl fun fr r => za0 (.bool true) r (fun R => za5 r rfl) rfl fun fr r => s0 r (rfl : true = _) fun fr r => s0 r (rfl : true = _) fun fr r => s0 r (rfl : true = _) fun fr r => s0 r (rfl : true = _) fun fr r => za0 (.bool true) r (fun R => zai r (b := true) (congrArg Value.bool (rfl : true = _)) rfl) rfl fun fr r => wn ?_
          exact nxy77 true () _ _ _ hD r (za1 rfl (za1 rfl (za1 rfl (za1 rfl (za1 rfl (za1 rfl (za1 rfl (za1 rfl (za1 rfl (za1 rfl (za1 rfl (za1 rfl (za1 rfl (za1 rfl (za1 rfl (za1 rfl (za1 rfl (za1 rfl zaz)))))))))))))))))) (hP.pick [0, 1, 2, 3, 4, 5, 6, 7, 8, 9, 10] rfl rfl)
         ·
          have hD := (zah h80).symm.trans hD
          refine s1 r h80 (za0 _ r (fun R => za4 r (o := 0) rfl ziM) rfl fun fr r => s1 r h80 (za0 (I x51.1.e) r (fun R => za2 r rfl (hP.cell (i := 5) rfl) to35 rfl) rfl fun fr r => s1 r h80 (za0 _ r (fun R => zlt r rfl rfl rfl rfl) rfl fun fr r => s1 r h80 (za0 (.bool (x51.1.e != 0)) r (fun R => za5 r rfl) rfl fun fr r => ?_))))
          refine zay (x51.1.e != 0) (fun h81 => ?_) (fun h81 => ?_)
          ·
           have hD := (zao h81).symm.trans hD
           refine s1 r h81 (za0 _ r (fun R => za4 r (o := 0) rfl ziM) rfl fun fr r => s1 r h81 (za0 (I x51.1.e) r (fun R => za2 r rfl (hP.cell (i := 5) rfl) to35 rfl) rfl fun fr r => s1 r h81 (za0 _ r (fun R => zlt r rfl rfl rfl rfl) rfl fun fr r => s1 r h80 (za0 (.bool (x51.1.e != 4)) r (fun R => zai r (b := true) (congrArg Value.bool h81) rfl) rfl fun fr r => za0 (.bool (x51.1.e != 4)) r (fun R => zai r (b := false) (congrArg Value.bool h80) rfl) rfl fun fr r => za0 (.bool (x51.1.e != 4)) r (fun R => za5 r rfl) rfl fun fr r => ?_))))
           refine zay (x51.1.e != 4) (fun h82 => ?_) (fun h82 => ?_)
           ·
            have hD := (zao h82).symm.trans hD
            refine s0 r h82 fun fr r => s0 r h82 fun fr r => s0 r h82 fun fr r => s0 r h82 fun fr r => za0 (.bool true) r (fun R => zai r (b := true) (congrArg Value.bool h82) rfl) rfl fun fr r => wn ?_
            exact nxy77 true () _ _ _ hD r (za1 rfl (za1 rfl (za1 rfl (za1 rfl (za1 rfl (za1 rfl (za1 rfl (za1 rfl (za1 rfl (za1 rfl (za1 rfl (za1 rfl (za1 rfl (za1 rfl (za1 rfl (za1 rfl (za1 rfl (za1 rfl zaz)))))))))))))))))) (hP.pick [0, 1, 2, 3, 4, 5, 6, 7, 8, 9, 10] rfl rfl)
           ·
            have hD := (zah h82).symm.trans hD
            refine s1 r h82 (za0 _ r (fun R => za4 r (o := 0) rfl zkF) rfl fun fr r => s1 r h82 (za0 (I x51.1.gen) r (fun R => za2 r rfl (hP.cell (i := 5) rfl) to3 rfl) rfl fun fr r => s1 r h82 (za0 (I x59.2.2.2.2.2.2.2) r (fun R => za5 r rfl) rfl fun fr r => s1 r h82 (za0 _ r (fun R => zlt r rfl rfl rfl rfl) rfl fun fr r => za0 (.bool (x51.1.gen != x59.2.2.2.2.2.2.2)) r (fun R => zai r (b := false) (congrArg Value.bool h82) rfl) rfl fun fr r => wn ?_))))
            exact nxy77 (x51.1.gen != x59.2.2.2.2.2.2.2) () _ _ _ hD r (za1 rfl (za1 rfl (za1 rfl (za1 rfl (za1 rfl (za1 rfl (za1 rfl (za1 rfl (za1 rfl (za1 rfl (za1 rfl (za1 rfl (za1 rfl (za1 rfl (za1 rfl (za1 rfl (za1 rfl (za1 rfl zaz)))))))))))))))))) (hP.pick [0, 1, 2, 3, 4, 5, 6, 7, 8, 9, 10] rfl rfl)
          ·
           have hD := (zah h81).symm.trans hD
           refine s0 r h81 fun fr r => s0 r h81 fun fr r => s0 r h81 fun fr r => s1 r h80 (za0 (.bool false) r (fun R => zai r (b := false) (congrArg Value.bool h81) rfl) rfl fun fr r => za0 (.bool false) r (fun R => zai r (b := false) (congrArg Value.bool h80) rfl) rfl fun fr r => za0 (.bool false) r (fun R => za5 r rfl) rfl fun fr r => ?_)
           refine s1 r (rfl : false = _) (za0 _ r (fun R => za4 r (o := 0) rfl zkF) rfl fun fr r => ?_)
           refine s1 r (rfl : false = _) (za0 (I x51.1.gen) r (fun R => za2 r rfl (hP.cell (i := 5) rfl) to3 rfl) rfl fun fr r => ?_)
           refine s1 r (rfl : false = _) (za0 (I x59.2.2.2.2.2.2.2) r (fun R => za5 r rfl) rfl fun fr r => ?_)
           refine s1 r (rfl : false = _) (za0 _ r (fun R => zlt r rfl rfl rfl rfl) rfl fun fr r => za0 (.bool (x51.1.gen != x59.2.2.2.2.2.2.2)) r (fun R => zai r (b := false) (congrArg Value.bool (rfl : false = _)) rfl) rfl fun fr r => wn ?_)
           exact nxy77 (x51.1.gen != x59.2.2.2.2.2.2.2) () _ _ _ hD r (za1 rfl (za1 rfl (za1 rfl (za1 rfl (za1 rfl (za1 rfl (za1 rfl (za1 rfl (za1 rfl (za1 rfl (za1 rfl (za1 rfl (za1 rfl (za1 rfl (za1 rfl (za1 rfl (za1 rfl (za1 rfl zaz)))))))))))))))))) (hP.pick [0, 1, 2, 3, 4, 5, 6, 7, 8, 9, 10] rfl rfl)
      ·
       rintro x83 γ84 fr w85 g r hP hD
       have hP : Post No [roK 34 1 i8E a1v a1, zlm b1 ((zln a0)).toArray 23, memK mg19 x51.2.2.2, zlm b31 #[v61, v63, (I x59.2.2.1), v65, v67, (I x59.2.2.2.2.2.1)] 32, rowK 3 1 i64 γ39.1 x38.2.1, zlm b53 ((zlD x51.1)).toArray 37, roK 3 1 i64 v61 x59.1, roK 3 1 i64 v63 x59.2.1, roK 3 1 i64 v65 x59.2.2.2.1, roK 4 1 zlr v67 x59.2.2.2.2.1, zlm b69 #[v61, v63, (I x59.2.2.1), v65, v67, (I x59.2.2.2.2.2.1)] 32] w0 w85 := hP
       refine wp_cond_split (t := x83) (r.ev rfl) (fun h86 => ?_) (fun h86 => ?_)
       ·
        have hD := (zao h86).symm.trans hD
        refine wsr (za0 (.bool false) r (fun R => za6 r rfl) rfl fun fr r => wn (wp_ret ?_))
        refine rty40 false _ _ hD fun hD => ?_
        have hv : false = res := Option.some.inj hD
        try dsimp only [Exit.then, Exit.inBlock]
        refine zaA (fn := Tryz.f3) r (t := 4) rfl (v := (.bool false)) rfl ?_
        subst hv
        exact ⟨rfl, hP.chg.below⟩
       ·
        have hD := (zah h86).symm.trans hD
        refine wp_skip (wsr (za0 (I x59.2.2.2.2.2.2.1) r (fun R => za5 r rfl) rfl fun fr r => za0 _ r (fun R => zlt r rfl rfl rfl rfl) rfl fun fr r => wn ?_))
        refine wp_cond_split (t := (decide (x59.2.2.2.2.2.2.1 ≥ 0))) (r.ev rfl) (fun h87 => ?_) (fun h87 => ?_)
        ·
         have hD := (zao h87).symm.trans hD
         refine wsr (za0 γ39.1 r (fun R => za5 r rfl) rfl fun fr r => za0 (I x59.2.2.2.2.2.2.1) r (fun R => za5 r rfl) rfl fun fr r => ?_)
         refine zch (.cells (([x59.2.2.2.2.2.2.1]).flatMap i64).toArray 3 (0, 0)) 1 r (fun R => zbz r (by kernel_rfl)) rfl fun fr b88 w89 n90 r => ?_
         have hP : Post No [roK 34 1 i8E a1v a1, zlm b1 ((zln a0)).toArray 23, memK mg19 x51.2.2.2, zlm b31 #[v61, v63, (I x59.2.2.1), v65, v67, (I x59.2.2.2.2.2.1)] 32, rowK 3 1 i64 γ39.1 x38.2.1, zlm b53 ((zlD x51.1)).toArray 37, roK 3 1 i64 v61 x59.1, roK 3 1 i64 v63 x59.2.1, roK 3 1 i64 v65 x59.2.2.2.1, roK 4 1 zlr v67 x59.2.2.2.2.1, zlm b69 #[v61, v63, (I x59.2.2.1), v65, v67, (I x59.2.2.2.2.2.1)] 32, rowK 3 1 i64 (.slice (some ⟨b88, 0, none⟩) 1 1) ([x59.2.2.2.2.2.2.1])] w0 w89 := hP.newRow n90 (fun _ => rfl) rfl
         obtain ⟨x92, hx92, hD⟩ := zad hD
         refine zdg 3 1 i64 γ39.1 r (fun R => zcH r rt29 (fun _ => rfl) (fun _ => rfl) (hP.row (i := 4) rfl) (hP.row (i := 11) rfl).ro hx92 rfl rfl) rfl fun fr v93 w94 ha95 r => ?_
         have hP : Post No [roK 34 1 i8E a1v a1, zlm b1 ((zln a0)).toArray 23, memK mg19 x51.2.2.2, zlm b31 #[v61, v63, (I x59.2.2.1), v65, v67, (I x59.2.2.2.2.2.1)] 32, rowK 3 1 i64 v93 x92, zlm b53 ((zlD x51.1)).toArray 37, roK 3 1 i64 v61 x59.1, roK 3 1 i64 v63 x59.2.1, roK 3 1 i64 v65 x59.2.2.2.1, roK 4 1 zlr v67 x59.2.2.2.2.1, zlm b69 #[v61, v63, (I x59.2.2.1), v65, v67, (I x59.2.2.2.2.2.1)] 32, rowK 3 1 i64 (.slice (some ⟨b88, 0, none⟩) 1 1) ([x59.2.2.2.2.2.2.1])] w0 w94 := hP.append (i := 4) rfl ha95
         refine za0 v93 r (fun R => za6 r rfl) rfl fun fr r => wn (wsr (za0 (zp mg19.mb) r (fun R => za5 r rfl) rfl fun fr r => za0 (.agg (zln a0).toArray) r (fun R => za7 r (cs := (zln a0)) (n := 6) rfl (hP.cell (i := 1) rfl) ta23 rfl) rfl fun fr r => za0 (I x59.2.2.2.2.2.2.1) r (fun R => za5 r rfl) rfl fun fr r => ?_))
         refine za9 r (zbQ w94 a0 x59.2.2.2.2.2.2.1) (fun R hc => zac r rfl cl31 hc) rfl ?_
         rintro _ w96 ⟨rfl, hb⟩
         refine ⟨_, rfl, fun fr r => ?_⟩
         have hP : Post No [roK 34 1 i8E a1v a1, zlm b1 ((zln a0)).toArray 23, memK mg19 x51.2.2.2, zlm b31 #[v61, v63, (I x59.2.2.1), v65, v67, (I x59.2.2.2.2.2.1)] 32, rowK 3 1 i64 v93 x92, zlm b53 ((zlD x51.1)).toArray 37, roK 3 1 i64 v61 x59.1, roK 3 1 i64 v63 x59.2.1, roK 3 1 i64 v65 x59.2.2.2.1, roK 4 1 zlr v67 x59.2.2.2.2.1, zlm b69 #[v61, v63, (I x59.2.2.1), v65, v67, (I x59.2.2.2.2.2.1)] 32, rowK 3 1 i64 (.slice (some ⟨b88, 0, none⟩) 1 1) ([x59.2.2.2.2.2.2.1])] w0 w96 := hP.below hb
         obtain ⟨x97, hx97, hD⟩ := zad hD
         refine za9 r (zcs w96 x51.2.2.2 (hP.mem (i := 2) rfl) 0 (D.zaI a0 x59.2.2.2.2.2.2.1) hx97) (fun R hc => zac r rfl cl30 hc) rfl ?_
         rintro _ w98 ⟨rfl, hb⟩
         refine ⟨_, rfl, fun fr r => ?_⟩
         have hP : Post No [roK 34 1 i8E a1v a1, zlm b1 ((zln a0)).toArray 23, memK mg19 x51.2.2.2, zlm b31 #[v61, v63, (I x59.2.2.1), v65, v67, (I x59.2.2.2.2.2.1)] 32, rowK 3 1 i64 v93 x92, zlm b53 ((zlD x51.1)).toArray 37, roK 3 1 i64 v61 x59.1, roK 3 1 i64 v63 x59.2.1, roK 3 1 i64 v65 x59.2.2.2.1, roK 4 1 zlr v67 x59.2.2.2.2.1, zlm b69 #[v61, v63, (I x59.2.2.1), v65, v67, (I x59.2.2.2.2.2.1)] 32, rowK 3 1 i64 (.slice (some ⟨b88, 0, none⟩) 1 1) ([x59.2.2.2.2.2.2.1])] w0 w98 := hP.below hb
         refine za0 (I x59.2.2.2.2.2.2.2) r (fun R => za5 r rfl) rfl fun fr r => za0 (I x38.2.2.1) r (fun R => za5 r rfl) rfl fun fr r => za0 _ r (fun R => zlt r rfl rfl rfl rfl) rfl fun fr r => za0 (.agg (zlw (⟨x59.2.2.2.2.2.2.2, 1, (x38.2.2.1.tmod 3)⟩ : State)).toArray) r (fun R => zb4 r (by kernel_rfl)) rfl fun fr r => ?_
         refine za9 r (zbX w98 (⟨x59.2.2.2.2.2.2.2, 1, (x38.2.2.1.tmod 3)⟩ : State)) (fun R hc => zac r rfl cl32 hc) rfl ?_
         rintro _ w99 ⟨rfl, hb⟩
         refine ⟨_, rfl, fun fr r => ?_⟩
         have hP : Post No [roK 34 1 i8E a1v a1, zlm b1 ((zln a0)).toArray 23, memK mg19 x51.2.2.2, zlm b31 #[v61, v63, (I x59.2.2.1), v65, v67, (I x59.2.2.2.2.2.1)] 32, rowK 3 1 i64 v93 x92, zlm b53 ((zlD x51.1)).toArray 37, roK 3 1 i64 v61 x59.1, roK 3 1 i64 v63 x59.2.1, roK 3 1 i64 v65 x59.2.2.2.1, roK 4 1 zlr v67 x59.2.2.2.2.1, zlm b69 #[v61, v63, (I x59.2.2.1), v65, v67, (I x59.2.2.2.2.2.1)] 32, rowK 3 1 i64 (.slice (some ⟨b88, 0, none⟩) 1 1) ([x59.2.2.2.2.2.2.1])] w0 w99 := hP.below hb
         refine za0 _ r (fun R => zlt r rfl rfl rfl rfl) rfl fun fr r => wn ?_
         refine wp_cond_split (t := (x97 != (D.zan (⟨x59.2.2.2.2.2.2.2, 1, (x38.2.2.1.tmod 3)⟩ : State)))) (r.ev rfl) (fun h100 => ?_) (fun h100 => ?_)
         ·
          have hD := (zao h100).symm.trans hD
          refine wsr (za0 (.bool false) r (fun R => za6 r rfl) rfl fun fr r => wn (wp_ret ?_))
          refine rty40 false _ _ hD fun hD => ?_
          have hv : false = res := Option.some.inj hD
          try dsimp only [Exit.then, Exit.inBlock]
          refine zaA (fn := Tryz.f3) r (t := 4) rfl (v := (.bool false)) rfl ?_
          subst hv
          exact ⟨rfl, hP.chg.below⟩
         ·
          have hD := (zah h100).symm.trans hD
          refine wp_skip (wp_seq ?_)
          have hP : Post No [roK 34 1 i8E a1v a1, zlm b1 ((zln a0)).toArray 23, memK mg19 x51.2.2.2, zlm b31 #[v61, v63, (I x59.2.2.1), v65, v67, (I x59.2.2.2.2.2.1)] 32, rowK 3 1 i64 v93 x92, zlm b53 ((zlD x51.1)).toArray 37, roK 3 1 i64 v61 x59.1, roK 3 1 i64 v63 x59.2.1, roK 3 1 i64 v65 x59.2.2.2.1, roK 4 1 zlr v67 x59.2.2.2.2.1, zlm b69 #[v61, v63, (I x59.2.2.1), v65, v67, (I x59.2.2.2.2.2.1)] 32] w0 w99 := hP.pick [0, 1, 2, 3, 4, 5, 6, 7, 8, 9, 10] rfl rfl
          refine zbo (N := 194) (Y := Bool) (G := Unit) (fun x γ => [(0, (.agg (zln a0).toArray)), (1, a1v), (2, (zp b1)), (31, (.bool x11)), (5, (zp mg19.mb)), (6, (zp b31)), (43, (.bool false)), (4, (.bool x38.1)), (7, v93), (8, (I x38.2.2.1)), (47, (.bool (decide (x38.2.2.1 < (a1.length : Int))))), (54, (.bool (decide (x43 < 0)))), (9, (zp b53)), (11, (.bool x51.2.2.1)), (12, (zp b69)), (13, (I x59.2.2.2.2.2.2.1)), (14, (I x59.2.2.2.2.2.2.2)), (105, (.bool x83)), (107, (.bool (decide (x59.2.2.2.2.2.2.1 ≥ 0)))), (122, (.bool (x97 != (D.zan (⟨x59.2.2.2.2.2.2.2, 1, (x38.2.2.1.tmod 3)⟩ : State))))), (193, (.bool x))]) (fun x γ w => Post No [roK 34 1 i8E a1v a1, zlm b1 ((zln a0)).toArray 23, memK mg19 x51.2.2.2, zlm b31 #[v61, v63, (I x59.2.2.1), v65, v67, (I x59.2.2.2.2.2.1)] 32, rowK 3 1 i64 v93 x92, zlm b53 ((zlD x51.1)).toArray 37, roK 3 1 i64 v61 x59.1, roK 3 1 i64 v63 x59.2.1, roK 3 1 i64 v65 x59.2.2.2.1, roK 4 1 zlr v67 x59.2.2.2.2.1, zlm b69 #[v61, v63, (I x59.2.2.1), v65, v67, (I x59.2.2.2.2.2.1)] 32] w0 w) hD ?_ ?_
          ·
           rintro y101 RPy101 nxy101 hD
           obtain ⟨x102, hx102, hD⟩ := zad hD
           obtain ⟨x105, hx105, hD⟩ := zad hD
           refine zay (!x105) (fun h106 => ?_) (fun h106 => ?_)
           ·
            have hD := (zao h106).symm.trans hD
            refine zbn [.val (.agg (zln a0).toArray), .val (zp mg19.mb), .pred (MkP (fun v107 : Value => v107) (fun v107 : Value => [rowK 3 1 i64 v107 x102])) (MkP.st _ _), .val (zp b31), .val v61, .val (.bool x105), .val (.bool (!x105)), .val (.bool (!x105)), .val undef, .val undef, .val undef, .val undef, .val undef, .val undef, .val undef, .val (.bool true), .val (.bool true), .val undef, .val undef, .val undef, .val undef, .val undef, .val undef, .val undef, .val (.bool true)] mixed r (by kernel_rfl) ?_ ?_
            ·
             refine fc r (fun fr1 g w' hb' hd r' => za7 r' (cs := (zln a0)) (n := 6) rfl ((hP.below (dr hb')).cell (i := 1) rfl) ta23 rfl bz) ?_
             refine fc r (fun fr1 g w' hb' hd r' => za5 r' rfl bz) ?_
             refine fc r (fun fr1 g w' hb' hd r' => zac r' (args := [(.agg (zln a0).toArray), (zp mg19.mb), (I 0)]) (lc (hd 0 rfl).1 (lc (hd 1 rfl).1 (lc rfl l0))) cl37 ((zbP _ a0 x51.2.2.2 ((hP.below (dr hb')).mem (i := 2) rfl) 0 hx102).mono (by rintro _ w2 ⟨y, rfl, hq⟩; exact ⟨_, rfl, hq.chg.below, MkP.of y hq⟩))) ?_
             refine fc r (fun fr1 g w' hb' hd r' => za4 r' (b := b31) (o := 0) rfl zcx bz) ?_
             refine fc r (fun fr1 g w' hb' hd r' => za2 r' (hd 3 rfl).1 ((hP.below (dr hb')).cell (i := 3) rfl) to29 rfl bz) ?_
             refine fc r (fun fr1 g w' hb' hd r' => zac r' (args := [(g 2).v, v61]) (lc rfl (lc (hd 4 rfl).1 l0)) cl36 ((zaC _ x102 (MkP.row (hd 2 rfl).1) x59.1 ((hP.below (dr hb')).ro (i := 6) rfl) hx105).mono (by rintro _ w2 ⟨rfl, hb2⟩; exact ⟨_, rfl, hb2, rfl⟩))) ?_
             refine fc r (fun fr1 g w' hb' hd r' => y_un r' (u := (.bool x105)) (v := (.bool (!x105))) (hd 5 rfl).1 rfl bz) ?_
             refine fc r (fun fr1 g w' hb' hd r' => za5 r' (hd 6 rfl).1 bz) ?_
             refine zae false (.bool true) r rfl rfl rfl (fun g w' hd => Eq.trans (show (g 7).v = .bool (!x105) from (hd 7 rfl).1) (congrArg Value.bool h106)) (by simp [zlu]) (fun _ _ => ⟨Below.refl _ _, rfl⟩) ?_
             refine zae false (.bool true) r rfl rfl rfl (fun g w' hd => Eq.trans (show (g 7).v = .bool (!x105) from (hd 7 rfl).1) (congrArg Value.bool h106)) (by simp [zlu]) (fun _ _ => ⟨Below.refl _ _, rfl⟩) ?_
             refine zae false (.bool true) r rfl rfl rfl (fun g w' hd => Eq.trans (show (g 7).v = .bool (!x105) from (hd 7 rfl).1) (congrArg Value.bool h106)) (by simp [zlu]) (fun _ _ => ⟨Below.refl _ _, rfl⟩) ?_
             refine zae false (.bool true) r rfl rfl rfl (fun g w' hd => Eq.trans (show (g 7).v = .bool (!x105) from (hd 7 rfl).1) (congrArg Value.bool h106)) (by simp [zlu]) (fun _ _ => ⟨Below.refl _ _, rfl⟩) ?_
             refine zae false (.bool true) r rfl rfl rfl (fun g w' hd => Eq.trans (show (g 7).v = .bool (!x105) from (hd 7 rfl).1) (congrArg Value.bool h106)) (by simp [zlu]) (fun _ _ => ⟨Below.refl _ _, rfl⟩) ?_
             refine zae false (.bool true) r rfl rfl rfl (fun g w' hd => Eq.trans (show (g 7).v = .bool (!x105) from (hd 7 rfl).1) (congrArg Value.bool h106)) (by simp [zlu]) (fun _ _ => ⟨Below.refl _ _, rfl⟩) ?_
             refine zae false (.bool true) r rfl rfl rfl (fun g w' hd => Eq.trans (show (g 7).v = .bool (!x105) from (hd 7 rfl).1) (congrArg Value.bool h106)) (by simp [zlu]) (fun _ _ => ⟨Below.refl _ _, rfl⟩) ?_
             refine fc r (fun fr1 g w' hb' hd r' => zai r' (b := true) (v := (.bool true)) (Eq.trans (show (g 7).v = .bool (!x105) from (hd 7 rfl).1) (congrArg Value.bool h106)) rfl bz) ?_
             refine fc r (fun fr1 g w' hb' hd r' => za5 r' (hd 15 rfl).1 bz) ?_
             refine zae false (.bool true) r rfl rfl rfl (fun g w' hd => Eq.trans (show (g 16).v = .bool true from (hd 16 rfl).1) (congrArg Value.bool (rfl : true = _))) (by simp [zlu]) (fun _ _ => ⟨Below.refl _ _, rfl⟩) ?_
             refine zae false (.bool true) r rfl rfl rfl (fun g w' hd => Eq.trans (show (g 16).v = .bool true from (hd 16 rfl).1) (congrArg Value.bool (rfl : true = _))) (by simp [zlu]) (fun _ _ => ⟨Below.refl _ _, rfl⟩) ?_
             refine zae false (.bool true) r rfl rfl rfl (fun g w' hd => Eq.trans (show (g 16).v = .bool true from (hd 16 rfl).1) (congrArg Value.bool (rfl : true = _))) (by simp [zlu]) (fun _ _ => ⟨Below.refl _ _, rfl⟩) ?_
             refine zae false (.bool true) r rfl rfl rfl (fun g w' hd => Eq.trans (show (g 16).v = .bool true from (hd 16 rfl).1) (congrArg Value.bool (rfl : true = _))) (by simp [zlu]) (fun _ _ => ⟨Below.refl _ _, rfl⟩) ?_
             refine zae false (.bool true) r rfl rfl rfl (fun g w' hd => Eq.trans (show (g 16).v = .bool true from (hd 16 rfl).1) (congrArg Value.bool (rfl : true = _))) (by simp [zlu]) (fun _ _ => ⟨Below.refl _ _, rfl⟩) ?_
             refine zae false (.bool true) r rfl rfl rfl (fun g w' hd => Eq.trans (show (g 16).v = .bool true from (hd 16 rfl).1) (congrArg Value.bool (rfl : true = _))) (by simp [zlu]) (fun _ _ => ⟨Below.refl _ _, rfl⟩) ?_
             refine zae false (.bool true) r rfl rfl rfl (fun g w' hd => Eq.trans (show (g 16).v = .bool true from (hd 16 rfl).1) (congrArg Value.bool (rfl : true = _))) (by simp [zlu]) (fun _ _ => ⟨Below.refl _ _, rfl⟩) ?_
             refine fc r (fun fr1 g w' hb' hd r' => zai r' (b := true) (v := (.bool true)) (Eq.trans (show (g 16).v = .bool true from (hd 16 rfl).1) (congrArg Value.bool (rfl : true = _))) rfl bz) ?_
             exact zb1
            ·
             intro fr gg w109 hb hΦ hap r
             obtain ⟨v107, g2, hs2⟩ := (hΦ 2 rfl).1
             have r := r.congr (sc ((hΦ 24 rfl).1) (sc ((hΦ 23 rfl).1) (sc ((hΦ 22 rfl).1) (sc ((hΦ 21 rfl).1) (sc ((hΦ 20 rfl).1) (sc ((hΦ 19 rfl).1) (sc ((hΦ 18 rfl).1) (sc ((hΦ 17 rfl).1) (sc ((hΦ 16 rfl).1) (sc ((hΦ 15 rfl).1) (sc ((hΦ 14 rfl).1) (sc ((hΦ 13 rfl).1) (sc ((hΦ 12 rfl).1) (sc ((hΦ 11 rfl).1) (sc ((hΦ 10 rfl).1) (sc ((hΦ 9 rfl).1) (sc ((hΦ 8 rfl).1) (sc ((hΦ 7 rfl).1) (sc ((hΦ 6 rfl).1) (sc ((hΦ 5 rfl).1) (sc ((hΦ 4 rfl).1) (sc ((hΦ 3 rfl).1) (sc g2 (sc ((hΦ 1 rfl).1) (sc ((hΦ 0 rfl).1) rfl)))))))))))))))))))))))))
             have hP : Post No [roK 34 1 i8E a1v a1, zlm b1 ((zln a0)).toArray 23, memK mg19 x51.2.2.2, zlm b31 #[v61, v63, (I x59.2.2.1), v65, v67, (I x59.2.2.2.2.2.1)] 32, rowK 3 1 i64 v93 x92, zlm b53 ((zlD x51.1)).toArray 37, roK 3 1 i64 v61 x59.1, roK 3 1 i64 v63 x59.2.1, roK 3 1 i64 v65 x59.2.2.2.1, roK 4 1 zlr v67 x59.2.2.2.2.1, zlm b69 #[v61, v63, (I x59.2.2.1), v65, v67, (I x59.2.2.2.2.2.1)] 32, rowK 3 1 i64 v107 x102] w0 w109 := hP.addL (l := [([rowK 3 1 i64 v107 x102], (gg 2).lo, (gg 2).hi)]) hb ⟨hs2, (hΦ 2 rfl).2.1, zbl, trivial⟩
             exact nxy101 true () _ _ _ hD r (za1 rfl (za1 rfl (za1 rfl (za1 rfl (za1 rfl (za1 rfl (za1 rfl (za1 rfl (za1 rfl (za1 rfl (za1 rfl (za1 rfl (za1 rfl (za1 rfl (za1 rfl (za1 rfl (za1 rfl (za1 rfl (za1 rfl (za1 rfl (za1 rfl zaz))))))))))))))))))))) (hP.pick [0, 1, 2, 3, 4, 5, 6, 7, 8, 9, 10] rfl rfl)
           ·
            have hD := (zah h106).symm.trans hD
            obtain ⟨x112, hx112, hD⟩ := zad hD
            obtain ⟨x115, hx115, hD⟩ := zad hD
            refine zay (!x115) (fun h116 => ?_) (fun h116 => ?_)
            ·
             have hD := (zao h116).symm.trans hD
             refine zbn [.val (.agg (zln a0).toArray), .val (zp mg19.mb), .pred (MkP (fun v117 : Value => v117) (fun v117 : Value => [rowK 3 1 i64 v117 x102])) (MkP.st _ _), .val (zp b31), .val v61, .val (.bool x105), .val (.bool (!x105)), .val (.bool (!x105)), .val (.agg (zln a0).toArray), .val (zp mg19.mb), .pred (MkP (fun v119 : Value => v119) (fun v119 : Value => [rowK 3 1 i64 v119 x112])) (MkP.st _ _), .val (.pointer (some ⟨b31, 1, none⟩)), .val v63, .val (.bool x115), .val (.bool (!x115)), .val (.bool (!x115)), .val (.bool (!x115)), .val undef, .val undef, .val undef, .val undef, .val undef, .val undef, .val undef, .val (.bool true)] mixed r (by kernel_rfl) ?_ ?_
             ·
              refine fc r (fun fr1 g w' hb' hd r' => za7 r' (cs := (zln a0)) (n := 6) rfl ((hP.below (dr hb')).cell (i := 1) rfl) ta23 rfl bz) ?_
              refine fc r (fun fr1 g w' hb' hd r' => za5 r' rfl bz) ?_
              refine fc r (fun fr1 g w' hb' hd r' => zac r' (args := [(.agg (zln a0).toArray), (zp mg19.mb), (I 0)]) (lc (hd 0 rfl).1 (lc (hd 1 rfl).1 (lc rfl l0))) cl37 ((zbP _ a0 x51.2.2.2 ((hP.below (dr hb')).mem (i := 2) rfl) 0 hx102).mono (by rintro _ w2 ⟨y, rfl, hq⟩; exact ⟨_, rfl, hq.chg.below, MkP.of y hq⟩))) ?_
              refine fc r (fun fr1 g w' hb' hd r' => za4 r' (b := b31) (o := 0) rfl zcx bz) ?_
              refine fc r (fun fr1 g w' hb' hd r' => za2 r' (hd 3 rfl).1 ((hP.below (dr hb')).cell (i := 3) rfl) to29 rfl bz) ?_
              refine fc r (fun fr1 g w' hb' hd r' => zac r' (args := [(g 2).v, v61]) (lc rfl (lc (hd 4 rfl).1 l0)) cl36 ((zaC _ x102 (MkP.row (hd 2 rfl).1) x59.1 ((hP.below (dr hb')).ro (i := 6) rfl) hx105).mono (by rintro _ w2 ⟨rfl, hb2⟩; exact ⟨_, rfl, hb2, rfl⟩))) ?_
              refine fc r (fun fr1 g w' hb' hd r' => y_un r' (u := (.bool x105)) (v := (.bool (!x105))) (hd 5 rfl).1 rfl bz) ?_
              refine fc r (fun fr1 g w' hb' hd r' => za5 r' (hd 6 rfl).1 bz) ?_
              refine zab false r rfl rfl rfl (fun g w' hd => Eq.trans (show (g 7).v = .bool (!x105) from (hd 7 rfl).1) (congrArg Value.bool h106)) (fun fr1 g w' hb' hd r' => ?_) ?_
              · exact za7 r' (cs := (zln a0)) (n := 6) rfl ((hP.below (dr hb')).cell (i := 1) rfl) ta23 rfl ⟨Below.refl _ _, rfl⟩
              refine zab false r rfl rfl rfl (fun g w' hd => Eq.trans (show (g 7).v = .bool (!x105) from (hd 7 rfl).1) (congrArg Value.bool h106)) (fun fr1 g w' hb' hd r' => ?_) ?_
              · exact za5 r' (v := (zp mg19.mb)) rfl ⟨Below.refl _ _, rfl⟩
              refine zab false r rfl rfl rfl (fun g w' hd => Eq.trans (show (g 7).v = .bool (!x105) from (hd 7 rfl).1) (congrArg Value.bool h106)) (fun fr1 g w' hb' hd r' => ?_) ?_
              · exact zac r' (args := [(.agg (zln a0).toArray), (zp mg19.mb), (I 0), (I 0)]) (lc (hd 8 rfl).1 (lc (hd 9 rfl).1 (lc rfl (lc rfl l0)))) cl38 ((zce _ a0 x51.2.2.2 ((hP.below (dr hb')).mem (i := 2) rfl) 0 0 hx112).mono (by rintro _ w2 ⟨y, rfl, hq⟩; exact ⟨_, rfl, hq.chg.below, MkP.of y hq⟩))
              refine zab false r rfl rfl rfl (fun g w' hd => Eq.trans (show (g 7).v = .bool (!x105) from (hd 7 rfl).1) (congrArg Value.bool h106)) (fun fr1 g w' hb' hd r' => ?_) ?_
              · exact za4 r' (b := b31) (o := 0) (k := 1) rfl zem ⟨Below.refl _ _, rfl⟩
              refine zab false r rfl rfl rfl (fun g w' hd => Eq.trans (show (g 7).v = .bool (!x105) from (hd 7 rfl).1) (congrArg Value.bool h106)) (fun fr1 g w' hb' hd r' => ?_) ?_
              · exact za2 r' (v := v63) (hd 11 rfl).1 ((hP.below (dr hb')).cell (i := 3) rfl) to29 rfl ⟨Below.refl _ _, rfl⟩
              refine zab false r rfl rfl rfl (fun g w' hd => Eq.trans (show (g 7).v = .bool (!x105) from (hd 7 rfl).1) (congrArg Value.bool h106)) (fun fr1 g w' hb' hd r' => ?_) ?_
              · exact zac r' (args := [(g 10).v, v63]) (lc rfl (lc (hd 12 rfl).1 l0)) cl36 ((zaC _ x112 (MkP.row (hd 10 rfl).1) x59.2.1 ((hP.below (dr hb')).ro (i := 7) rfl) hx115).mono (by rintro _ w2 ⟨rfl, hb2⟩; exact ⟨_, rfl, hb2, rfl⟩))
              refine zab false r rfl rfl rfl (fun g w' hd => Eq.trans (show (g 7).v = .bool (!x105) from (hd 7 rfl).1) (congrArg Value.bool h106)) (fun fr1 g w' hb' hd r' => ?_) ?_
              · exact y_un r' (u := (.bool x115)) (v := (.bool (!x115))) (hd 13 rfl).1 rfl ⟨Below.refl _ _, rfl⟩
              refine fc r (fun fr1 g w' hb' hd r' => zai r' (b := false) (v := (.bool (!x115))) (Eq.trans (show (g 7).v = .bool (!x105) from (hd 7 rfl).1) (congrArg Value.bool h106)) (hd 14 rfl).1 bz) ?_
              refine fc r (fun fr1 g w' hb' hd r' => za5 r' (hd 15 rfl).1 bz) ?_
              refine zae false (.bool true) r rfl rfl rfl (fun g w' hd => Eq.trans (show (g 16).v = .bool (!x115) from (hd 16 rfl).1) (congrArg Value.bool h116)) (by simp [zlu]) (fun _ _ => ⟨Below.refl _ _, rfl⟩) ?_
              refine zae false (.bool true) r rfl rfl rfl (fun g w' hd => Eq.trans (show (g 16).v = .bool (!x115) from (hd 16 rfl).1) (congrArg Value.bool h116)) (by simp [zlu]) (fun _ _ => ⟨Below.refl _ _, rfl⟩) ?_
              refine zae false (.bool true) r rfl rfl rfl (fun g w' hd => Eq.trans (show (g 16).v = .bool (!x115) from (hd 16 rfl).1) (congrArg Value.bool h116)) (by simp [zlu]) (fun _ _ => ⟨Below.refl _ _, rfl⟩) ?_
              refine zae false (.bool true) r rfl rfl rfl (fun g w' hd => Eq.trans (show (g 16).v = .bool (!x115) from (hd 16 rfl).1) (congrArg Value.bool h116)) (by simp [zlu]) (fun _ _ => ⟨Below.refl _ _, rfl⟩) ?_
              refine zae false (.bool true) r rfl rfl rfl (fun g w' hd => Eq.trans (show (g 16).v = .bool (!x115) from (hd 16 rfl).1) (congrArg Value.bool h116)) (by simp [zlu]) (fun _ _ => ⟨Below.refl _ _, rfl⟩) ?_
              refine zae false (.bool true) r rfl rfl rfl (fun g w' hd => Eq.trans (show (g 16).v = .bool (!x115) from (hd 16 rfl).1) (congrArg Value.bool h116)) (by simp [zlu]) (fun _ _ => ⟨Below.refl _ _, rfl⟩) ?_
              refine zae false (.bool true) r rfl rfl rfl (fun g w' hd => Eq.trans (show (g 16).v = .bool (!x115) from (hd 16 rfl).1) (congrArg Value.bool h116)) (by simp [zlu]) (fun _ _ => ⟨Below.refl _ _, rfl⟩) ?_
              refine fc r (fun fr1 g w' hb' hd r' => zai r' (b := true) (v := (.bool true)) (Eq.trans (show (g 16).v = .bool (!x115) from (hd 16 rfl).1) (congrArg Value.bool h116)) rfl bz) ?_
              exact zb1
             ·
              intro fr gg w121 hb hΦ hap r
              obtain ⟨v117, g2, hs2⟩ := (hΦ 2 rfl).1
              obtain ⟨v119, g10, hs10⟩ := (hΦ 10 rfl).1
              have r := r.congr (sc ((hΦ 24 rfl).1) (sc ((hΦ 23 rfl).1) (sc ((hΦ 22 rfl).1) (sc ((hΦ 21 rfl).1) (sc ((hΦ 20 rfl).1) (sc ((hΦ 19 rfl).1) (sc ((hΦ 18 rfl).1) (sc ((hΦ 17 rfl).1) (sc ((hΦ 16 rfl).1) (sc ((hΦ 15 rfl).1) (sc ((hΦ 14 rfl).1) (sc ((hΦ 13 rfl).1) (sc ((hΦ 12 rfl).1) (sc ((hΦ 11 rfl).1) (sc g10 (sc ((hΦ 9 rfl).1) (sc ((hΦ 8 rfl).1) (sc ((hΦ 7 rfl).1) (sc ((hΦ 6 rfl).1) (sc ((hΦ 5 rfl).1) (sc ((hΦ 4 rfl).1) (sc ((hΦ 3 rfl).1) (sc g2 (sc ((hΦ 1 rfl).1) (sc ((hΦ 0 rfl).1) rfl)))))))))))))))))))))))))
              have hP : Post No [roK 34 1 i8E a1v a1, zlm b1 ((zln a0)).toArray 23, memK mg19 x51.2.2.2, zlm b31 #[v61, v63, (I x59.2.2.1), v65, v67, (I x59.2.2.2.2.2.1)] 32, rowK 3 1 i64 v93 x92, zlm b53 ((zlD x51.1)).toArray 37, roK 3 1 i64 v61 x59.1, roK 3 1 i64 v63 x59.2.1, roK 3 1 i64 v65 x59.2.2.2.1, roK 4 1 zlr v67 x59.2.2.2.2.1, zlm b69 #[v61, v63, (I x59.2.2.1), v65, v67, (I x59.2.2.2.2.2.1)] 32, rowK 3 1 i64 v117 x102, rowK 3 1 i64 v119 x112] w0 w121 := hP.addL (l := [([rowK 3 1 i64 v117 x102], (gg 2).lo, (gg 2).hi), ([rowK 3 1 i64 v119 x112], (gg 10).lo, (gg 10).hi)]) hb ⟨hs2, (hΦ 2 rfl).2.1, (zcA (hap 2 10 rfl) zbl), ⟨hs10, (hΦ 10 rfl).2.1, zbl, trivial⟩⟩
              exact nxy101 true () _ _ _ hD r (za1 rfl (za1 rfl (za1 rfl (za1 rfl (za1 rfl (za1 rfl (za1 rfl (za1 rfl (za1 rfl (za1 rfl (za1 rfl (za1 rfl (za1 rfl (za1 rfl (za1 rfl (za1 rfl (za1 rfl (za1 rfl (za1 rfl (za1 rfl (za1 rfl zaz))))))))))))))))))))) (hP.pick [0, 1, 2, 3, 4, 5, 6, 7, 8, 9, 10] rfl rfl)
            ·
             have hD := (zah h116).symm.trans hD
             obtain ⟨x126, hx126, hD⟩ := zad hD
             refine zbn [.val (.agg (zln a0).toArray), .val (zp mg19.mb), .pred (MkP (fun v122 : Value => v122) (fun v122 : Value => [rowK 3 1 i64 v122 x102])) (MkP.st _ _), .val (zp b31), .val v61, .val (.bool x105), .val (.bool (!x105)), .val (.bool (!x105)), .val (.agg (zln a0).toArray), .val (zp mg19.mb), .pred (MkP (fun v124 : Value => v124) (fun v124 : Value => [rowK 3 1 i64 v124 x112])) (MkP.st _ _), .val (.pointer (some ⟨b31, 1, none⟩)), .val v63, .val (.bool x115), .val (.bool (!x115)), .val (.bool (!x115)), .val (.bool (!x115)), .val (.agg (zln a0).toArray), .val (zp mg19.mb), .val (I x126), .val (zp b31), .val v61, .val (I (x59.1.length : Int)), .val (.bool (x126 != (x59.1.length : Int))), .val (.bool (x126 != (x59.1.length : Int)))] mixed r (by kernel_rfl) ?_ ?_
             ·
              refine fc r (fun fr1 g w' hb' hd r' => za7 r' (cs := (zln a0)) (n := 6) rfl ((hP.below (dr hb')).cell (i := 1) rfl) ta23 rfl bz) ?_
              refine fc r (fun fr1 g w' hb' hd r' => za5 r' rfl bz) ?_
              refine fc r (fun fr1 g w' hb' hd r' => zac r' (args := [(.agg (zln a0).toArray), (zp mg19.mb), (I 0)]) (lc (hd 0 rfl).1 (lc (hd 1 rfl).1 (lc rfl l0))) cl37 ((zbP _ a0 x51.2.2.2 ((hP.below (dr hb')).mem (i := 2) rfl) 0 hx102).mono (by rintro _ w2 ⟨y, rfl, hq⟩; exact ⟨_, rfl, hq.chg.below, MkP.of y hq⟩))) ?_
              refine fc r (fun fr1 g w' hb' hd r' => za4 r' (b := b31) (o := 0) rfl zcx bz) ?_
              refine fc r (fun fr1 g w' hb' hd r' => za2 r' (hd 3 rfl).1 ((hP.below (dr hb')).cell (i := 3) rfl) to29 rfl bz) ?_
              refine fc r (fun fr1 g w' hb' hd r' => zac r' (args := [(g 2).v, v61]) (lc rfl (lc (hd 4 rfl).1 l0)) cl36 ((zaC _ x102 (MkP.row (hd 2 rfl).1) x59.1 ((hP.below (dr hb')).ro (i := 6) rfl) hx105).mono (by rintro _ w2 ⟨rfl, hb2⟩; exact ⟨_, rfl, hb2, rfl⟩))) ?_
              refine fc r (fun fr1 g w' hb' hd r' => y_un r' (u := (.bool x105)) (v := (.bool (!x105))) (hd 5 rfl).1 rfl bz) ?_
              refine fc r (fun fr1 g w' hb' hd r' => za5 r' (hd 6 rfl).1 bz) ?_
              refine zab false r rfl rfl rfl (fun g w' hd => Eq.trans (show (g 7).v = .bool (!x105) from (hd 7 rfl).1) (congrArg Value.bool h106)) (fun fr1 g w' hb' hd r' => ?_) ?_
              · exact za7 r' (cs := (zln a0)) (n := 6) rfl ((hP.below (dr hb')).cell (i := 1) rfl) ta23 rfl ⟨Below.refl _ _, rfl⟩
              refine zab false r rfl rfl rfl (fun g w' hd => Eq.trans (show (g 7).v = .bool (!x105) from (hd 7 rfl).1) (congrArg Value.bool h106)) (fun fr1 g w' hb' hd r' => ?_) ?_
              · exact za5 r' (v := (zp mg19.mb)) rfl ⟨Below.refl _ _, rfl⟩
              refine zab false r rfl rfl rfl (fun g w' hd => Eq.trans (show (g 7).v = .bool (!x105) from (hd 7 rfl).1) (congrArg Value.bool h106)) (fun fr1 g w' hb' hd r' => ?_) ?_
              · exact zac r' (args := [(.agg (zln a0).toArray), (zp mg19.mb), (I 0), (I 0)]) (lc (hd 8 rfl).1 (lc (hd 9 rfl).1 (lc rfl (lc rfl l0)))) cl38 ((zce _ a0 x51.2.2.2 ((hP.below (dr hb')).mem (i := 2) rfl) 0 0 hx112).mono (by rintro _ w2 ⟨y, rfl, hq⟩; exact ⟨_, rfl, hq.chg.below, MkP.of y hq⟩))
              refine zab false r rfl rfl rfl (fun g w' hd => Eq.trans (show (g 7).v = .bool (!x105) from (hd 7 rfl).1) (congrArg Value.bool h106)) (fun fr1 g w' hb' hd r' => ?_) ?_
              · exact za4 r' (b := b31) (o := 0) (k := 1) rfl zem ⟨Below.refl _ _, rfl⟩
              refine zab false r rfl rfl rfl (fun g w' hd => Eq.trans (show (g 7).v = .bool (!x105) from (hd 7 rfl).1) (congrArg Value.bool h106)) (fun fr1 g w' hb' hd r' => ?_) ?_
              · exact za2 r' (v := v63) (hd 11 rfl).1 ((hP.below (dr hb')).cell (i := 3) rfl) to29 rfl ⟨Below.refl _ _, rfl⟩
              refine zab false r rfl rfl rfl (fun g w' hd => Eq.trans (show (g 7).v = .bool (!x105) from (hd 7 rfl).1) (congrArg Value.bool h106)) (fun fr1 g w' hb' hd r' => ?_) ?_
              · exact zac r' (args := [(g 10).v, v63]) (lc rfl (lc (hd 12 rfl).1 l0)) cl36 ((zaC _ x112 (MkP.row (hd 10 rfl).1) x59.2.1 ((hP.below (dr hb')).ro (i := 7) rfl) hx115).mono (by rintro _ w2 ⟨rfl, hb2⟩; exact ⟨_, rfl, hb2, rfl⟩))
              refine zab false r rfl rfl rfl (fun g w' hd => Eq.trans (show (g 7).v = .bool (!x105) from (hd 7 rfl).1) (congrArg Value.bool h106)) (fun fr1 g w' hb' hd r' => ?_) ?_
              · exact y_un r' (u := (.bool x115)) (v := (.bool (!x115))) (hd 13 rfl).1 rfl ⟨Below.refl _ _, rfl⟩
              refine fc r (fun fr1 g w' hb' hd r' => zai r' (b := false) (v := (.bool (!x115))) (Eq.trans (show (g 7).v = .bool (!x105) from (hd 7 rfl).1) (congrArg Value.bool h106)) (hd 14 rfl).1 bz) ?_
              refine fc r (fun fr1 g w' hb' hd r' => za5 r' (hd 15 rfl).1 bz) ?_
              refine zab false r rfl rfl rfl (fun g w' hd => Eq.trans (show (g 16).v = .bool (!x115) from (hd 16 rfl).1) (congrArg Value.bool h116)) (fun fr1 g w' hb' hd r' => ?_) ?_
              · exact za7 r' (cs := (zln a0)) (n := 6) rfl ((hP.below (dr hb')).cell (i := 1) rfl) ta23 rfl ⟨Below.refl _ _, rfl⟩
              refine zab false r rfl rfl rfl (fun g w' hd => Eq.trans (show (g 16).v = .bool (!x115) from (hd 16 rfl).1) (congrArg Value.bool h116)) (fun fr1 g w' hb' hd r' => ?_) ?_
              · exact za5 r' (v := (zp mg19.mb)) rfl ⟨Below.refl _ _, rfl⟩
              refine zab false r rfl rfl rfl (fun g w' hd => Eq.trans (show (g 16).v = .bool (!x115) from (hd 16 rfl).1) (congrArg Value.bool h116)) (fun fr1 g w' hb' hd r' => ?_) ?_
              · exact zac r' (args := [(.agg (zln a0).toArray), (zp mg19.mb), (I 0)]) (lc (hd 17 rfl).1 (lc (hd 18 rfl).1 (lc rfl l0))) cl39 ((zdA _ a0 x51.2.2.2 ((hP.below (dr hb')).mem (i := 2) rfl) 0 hx126).mono (by rintro _ w2 ⟨rfl, hb2⟩; exact ⟨_, rfl, hb2, rfl⟩))
              refine zab false r rfl rfl rfl (fun g w' hd => Eq.trans (show (g 16).v = .bool (!x115) from (hd 16 rfl).1) (congrArg Value.bool h116)) (fun fr1 g w' hb' hd r' => ?_) ?_
              · exact za4 r' (b := b31) (o := 0) (k := 0) rfl zcx ⟨Below.refl _ _, rfl⟩
              refine zab false r rfl rfl rfl (fun g w' hd => Eq.trans (show (g 16).v = .bool (!x115) from (hd 16 rfl).1) (congrArg Value.bool h116)) (fun fr1 g w' hb' hd r' => ?_) ?_
              · exact za2 r' (v := v61) (hd 20 rfl).1 ((hP.below (dr hb')).cell (i := 3) rfl) to29 rfl ⟨Below.refl _ _, rfl⟩
              refine zab false r rfl rfl rfl (fun g w' hd => Eq.trans (show (g 16).v = .bool (!x115) from (hd 16 rfl).1) (congrArg Value.bool h116)) (fun fr1 g w' hb' hd r' => ?_) ?_
              · exact zbj r' ((hP.below (dr hb')).ro (i := 6) rfl) is29 (hd 21 rfl).1 ⟨Below.refl _ _, rfl⟩
              refine zab false r rfl rfl rfl (fun g w' hd => Eq.trans (show (g 16).v = .bool (!x115) from (hd 16 rfl).1) (congrArg Value.bool h116)) (fun fr1 g w' hb' hd r' => ?_) ?_
              · exact zlt r' (u := (I x126)) (u' := (I (x59.1.length : Int))) (v := (.bool (x126 != (x59.1.length : Int)))) (hd 19 rfl).1 (hd 22 rfl).1 rfl rfl ⟨Below.refl _ _, rfl⟩
              refine fc r (fun fr1 g w' hb' hd r' => zai r' (b := false) (v := (.bool (x126 != (x59.1.length : Int)))) (Eq.trans (show (g 16).v = .bool (!x115) from (hd 16 rfl).1) (congrArg Value.bool h116)) (hd 23 rfl).1 bz) ?_
              exact zb1
             ·
              intro fr gg w127 hb hΦ hap r
              obtain ⟨v122, g2, hs2⟩ := (hΦ 2 rfl).1
              obtain ⟨v124, g10, hs10⟩ := (hΦ 10 rfl).1
              have r := r.congr (sc ((hΦ 24 rfl).1) (sc ((hΦ 23 rfl).1) (sc ((hΦ 22 rfl).1) (sc ((hΦ 21 rfl).1) (sc ((hΦ 20 rfl).1) (sc ((hΦ 19 rfl).1) (sc ((hΦ 18 rfl).1) (sc ((hΦ 17 rfl).1) (sc ((hΦ 16 rfl).1) (sc ((hΦ 15 rfl).1) (sc ((hΦ 14 rfl).1) (sc ((hΦ 13 rfl).1) (sc ((hΦ 12 rfl).1) (sc ((hΦ 11 rfl).1) (sc g10 (sc ((hΦ 9 rfl).1) (sc ((hΦ 8 rfl).1) (sc ((hΦ 7 rfl).1) (sc ((hΦ 6 rfl).1) (sc ((hΦ 5 rfl).1) (sc ((hΦ 4 rfl).1) (sc ((hΦ 3 rfl).1) (sc g2 (sc ((hΦ 1 rfl).1) (sc ((hΦ 0 rfl).1) rfl)))))))))))))))))))))))))
              have hP : Post No [roK 34 1 i8E a1v a1, zlm b1 ((zln a0)).toArray 23, memK mg19 x51.2.2.2, zlm b31 #[v61, v63, (I x59.2.2.1), v65, v67, (I x59.2.2.2.2.2.1)] 32, rowK 3 1 i64 v93 x92, zlm b53 ((zlD x51.1)).toArray 37, roK 3 1 i64 v61 x59.1, roK 3 1 i64 v63 x59.2.1, roK 3 1 i64 v65 x59.2.2.2.1, roK 4 1 zlr v67 x59.2.2.2.2.1, zlm b69 #[v61, v63, (I x59.2.2.1), v65, v67, (I x59.2.2.2.2.2.1)] 32, rowK 3 1 i64 v122 x102, rowK 3 1 i64 v124 x112] w0 w127 := hP.addL (l := [([rowK 3 1 i64 v122 x102], (gg 2).lo, (gg 2).hi), ([rowK 3 1 i64 v124 x112], (gg 10).lo, (gg 10).hi)]) hb ⟨hs2, (hΦ 2 rfl).2.1, (zcA (hap 2 10 rfl) zbl), ⟨hs10, (hΦ 10 rfl).2.1, zbl, trivial⟩⟩
              exact nxy101 (x126 != (x59.1.length : Int)) () _ _ _ hD r (za1 rfl (za1 rfl (za1 rfl (za1 rfl (za1 rfl (za1 rfl (za1 rfl (za1 rfl (za1 rfl (za1 rfl (za1 rfl (za1 rfl (za1 rfl (za1 rfl (za1 rfl (za1 rfl (za1 rfl (za1 rfl (za1 rfl (za1 rfl (za1 rfl zaz))))))))))))))))))))) (hP.pick [0, 1, 2, 3, 4, 5, 6, 7, 8, 9, 10] rfl rfl)
          ·
           rintro x128 γ129 fr w130 g r hP hD
           have hP : Post No [roK 34 1 i8E a1v a1, zlm b1 ((zln a0)).toArray 23, memK mg19 x51.2.2.2, zlm b31 #[v61, v63, (I x59.2.2.1), v65, v67, (I x59.2.2.2.2.2.1)] 32, rowK 3 1 i64 v93 x92, zlm b53 ((zlD x51.1)).toArray 37, roK 3 1 i64 v61 x59.1, roK 3 1 i64 v63 x59.2.1, roK 3 1 i64 v65 x59.2.2.2.1, roK 4 1 zlr v67 x59.2.2.2.2.1, zlm b69 #[v61, v63, (I x59.2.2.1), v65, v67, (I x59.2.2.2.2.2.1)] 32] w0 w130 := hP
           refine wp_cond_split (t := x128) (r.ev rfl) (fun h131 => ?_) (fun h131 => ?_)
           ·
            have hD := (zao h131).symm.trans hD
            refine wsr (za0 (.bool false) r (fun R => za6 r rfl) rfl fun fr r => wn (wp_ret ?_))
            refine rty40 false _ _ hD fun hD => ?_
            have hv : false = res := Option.some.inj hD
            try dsimp only [Exit.then, Exit.inBlock]
            refine zaA (fn := Tryz.f3) r (t := 4) rfl (v := (.bool false)) rfl ?_
            subst hv
            exact ⟨rfl, hP.chg.below⟩
           ·
            have hD := (zah h131).symm.trans hD
            refine wp_skip ?_
            refine wp_region_lit (za0 (I x38.2.2.1) r (fun R => za5 r rfl) rfl fun fr r => za0 _ r (fun R => zlt r rfl rfl rfl rfl) rfl fun fr r => za0 (I (W (x38.2.2.1 + 1))) r (fun R => za6 r rfl) rfl fun fr r => wn ?_)
            exact nxy40 (x38.1, x92, (W (x38.2.2.1 + 1)), x51.2.2.2, x59.1, x59.2.1, x59.2.2.1, x59.2.2.2.1, x59.2.2.2.2.1, x59.2.2.2.2.2.1) (v93, v61, v63, v65, v67) _ _ _ hD r (za1 rfl (za1 rfl (za1 rfl (za1 rfl (za1 rfl (za1 rfl (za1 rfl (za1 rfl (za1 rfl (za1 rfl zaz)))))))))) (hP.pick [0, 1, 2, 3, 4, 6, 7, 8, 9] rfl rfl)
        ·
         have hD := (zah h87).symm.trans hD
         refine wp_skip (wp_seq ?_)
         refine zbo (N := 194) (Y := Bool) (G := Unit) (fun x γ => [(0, (.agg (zln a0).toArray)), (1, a1v), (2, (zp b1)), (31, (.bool x11)), (5, (zp mg19.mb)), (6, (zp b31)), (43, (.bool false)), (4, (.bool x38.1)), (7, γ39.1), (8, (I x38.2.2.1)), (47, (.bool (decide (x38.2.2.1 < (a1.length : Int))))), (54, (.bool (decide (x43 < 0)))), (9, (zp b53)), (11, (.bool x51.2.2.1)), (12, (zp b69)), (13, (I x59.2.2.2.2.2.2.1)), (14, (I x59.2.2.2.2.2.2.2)), (105, (.bool x83)), (107, (.bool (decide (x59.2.2.2.2.2.2.1 ≥ 0)))), (193, (.bool x))]) (fun x γ w => Post No [roK 34 1 i8E a1v a1, zlm b1 ((zln a0)).toArray 23, memK mg19 x51.2.2.2, zlm b31 #[v61, v63, (I x59.2.2.1), v65, v67, (I x59.2.2.2.2.2.1)] 32, rowK 3 1 i64 γ39.1 x38.2.1, zlm b53 ((zlD x51.1)).toArray 37, roK 3 1 i64 v61 x59.1, roK 3 1 i64 v63 x59.2.1, roK 3 1 i64 v65 x59.2.2.2.1, roK 4 1 zlr v67 x59.2.2.2.2.1, zlm b69 #[v61, v63, (I x59.2.2.1), v65, v67, (I x59.2.2.2.2.2.1)] 32] w0 w) hD ?_ ?_
         ·
          rintro y132 RPy132 nxy132 hD
          obtain ⟨x133, hx133, hD⟩ := zad hD
          obtain ⟨x136, hx136, hD⟩ := zad hD
          refine zay (!x136) (fun h137 => ?_) (fun h137 => ?_)
          ·
           have hD := (zao h137).symm.trans hD
           refine zbn [.val (.agg (zln a0).toArray), .val (zp mg19.mb), .pred (MkP (fun v138 : Value => v138) (fun v138 : Value => [rowK 3 1 i64 v138 x133])) (MkP.st _ _), .val (zp b31), .val v61, .val (.bool x136), .val (.bool (!x136)), .val (.bool (!x136)), .val undef, .val undef, .val undef, .val undef, .val undef, .val undef, .val undef, .val (.bool true), .val (.bool true), .val undef, .val undef, .val undef, .val undef, .val undef, .val undef, .val undef, .val (.bool true)] mixed r (by kernel_rfl) ?_ ?_
           ·
            refine fc r (fun fr1 g w' hb' hd r' => za7 r' (cs := (zln a0)) (n := 6) rfl ((hP.below (dr hb')).cell (i := 1) rfl) ta23 rfl bz) ?_
            refine fc r (fun fr1 g w' hb' hd r' => za5 r' rfl bz) ?_
            refine fc r (fun fr1 g w' hb' hd r' => zac r' (args := [(.agg (zln a0).toArray), (zp mg19.mb), (I 0)]) (lc (hd 0 rfl).1 (lc (hd 1 rfl).1 (lc rfl l0))) cl37 ((zbP _ a0 x51.2.2.2 ((hP.below (dr hb')).mem (i := 2) rfl) 0 hx133).mono (by rintro _ w2 ⟨y, rfl, hq⟩; exact ⟨_, rfl, hq.chg.below, MkP.of y hq⟩))) ?_
            refine fc r (fun fr1 g w' hb' hd r' => za4 r' (b := b31) (o := 0) rfl zcx bz) ?_
            refine fc r (fun fr1 g w' hb' hd r' => za2 r' (hd 3 rfl).1 ((hP.below (dr hb')).cell (i := 3) rfl) to29 rfl bz) ?_
            refine fc r (fun fr1 g w' hb' hd r' => zac r' (args := [(g 2).v, v61]) (lc rfl (lc (hd 4 rfl).1 l0)) cl36 ((zaC _ x133 (MkP.row (hd 2 rfl).1) x59.1 ((hP.below (dr hb')).ro (i := 6) rfl) hx136).mono (by rintro _ w2 ⟨rfl, hb2⟩; exact ⟨_, rfl, hb2, rfl⟩))) ?_
            refine fc r (fun fr1 g w' hb' hd r' => y_un r' (u := (.bool x136)) (v := (.bool (!x136))) (hd 5 rfl).1 rfl bz) ?_
            refine fc r (fun fr1 g w' hb' hd r' => za5 r' (hd 6 rfl).1 bz) ?_
            refine zae false (.bool true) r rfl rfl rfl (fun g w' hd => Eq.trans (show (g 7).v = .bool (!x136) from (hd 7 rfl).1) (congrArg Value.bool h137)) (by simp [zlu]) (fun _ _ => ⟨Below.refl _ _, rfl⟩) ?_
            refine zae false (.bool true) r rfl rfl rfl (fun g w' hd => Eq.trans (show (g 7).v = .bool (!x136) from (hd 7 rfl).1) (congrArg Value.bool h137)) (by simp [zlu]) (fun _ _ => ⟨Below.refl _ _, rfl⟩) ?_
            refine zae false (.bool true) r rfl rfl rfl (fun g w' hd => Eq.trans (show (g 7).v = .bool (!x136) from (hd 7 rfl).1) (congrArg Value.bool h137)) (by simp [zlu]) (fun _ _ => ⟨Below.refl _ _, rfl⟩) ?_
            refine zae false (.bool true) r rfl rfl rfl (fun g w' hd => Eq.trans (show (g 7).v = .bool (!x136) from (hd 7 rfl).1) (congrArg Value.bool h137)) (by simp [zlu]) (fun _ _ => ⟨Below.refl _ _, rfl⟩) ?_
            refine zae false (.bool true) r rfl rfl rfl (fun g w' hd => Eq.trans (show (g 7).v = .bool (!x136) from (hd 7 rfl).1) (congrArg Value.bool h137)) (by simp [zlu]) (fun _ _ => ⟨Below.refl _ _, rfl⟩) ?_
            refine zae false (.bool true) r rfl rfl rfl (fun g w' hd => Eq.trans (show (g 7).v = .bool (!x136) from (hd 7 rfl).1) (congrArg Value.bool h137)) (by simp [zlu]) (fun _ _ => ⟨Below.refl _ _, rfl⟩) ?_
            refine zae false (.bool true) r rfl rfl rfl (fun g w' hd => Eq.trans (show (g 7).v = .bool (!x136) from (hd 7 rfl).1) (congrArg Value.bool h137)) (by simp [zlu]) (fun _ _ => ⟨Below.refl _ _, rfl⟩) ?_
            refine fc r (fun fr1 g w' hb' hd r' => zai r' (b := true) (v := (.bool true)) (Eq.trans (show (g 7).v = .bool (!x136) from (hd 7 rfl).1) (congrArg Value.bool h137)) rfl bz) ?_
            refine fc r (fun fr1 g w' hb' hd r' => za5 r' (hd 15 rfl).1 bz) ?_
            refine zae false (.bool true) r rfl rfl rfl (fun g w' hd => Eq.trans (show (g 16).v = .bool true from (hd 16 rfl).1) (congrArg Value.bool (rfl : true = _))) (by simp [zlu]) (fun _ _ => ⟨Below.refl _ _, rfl⟩) ?_
            refine zae false (.bool true) r rfl rfl rfl (fun g w' hd => Eq.trans (show (g 16).v = .bool true from (hd 16 rfl).1) (congrArg Value.bool (rfl : true = _))) (by simp [zlu]) (fun _ _ => ⟨Below.refl _ _, rfl⟩) ?_
            refine zae false (.bool true) r rfl rfl rfl (fun g w' hd => Eq.trans (show (g 16).v = .bool true from (hd 16 rfl).1) (congrArg Value.bool (rfl : true = _))) (by simp [zlu]) (fun _ _ => ⟨Below.refl _ _, rfl⟩) ?_
            refine zae false (.bool true) r rfl rfl rfl (fun g w' hd => Eq.trans (show (g 16).v = .bool true from (hd 16 rfl).1) (congrArg Value.bool (rfl : true = _))) (by simp [zlu]) (fun _ _ => ⟨Below.refl _ _, rfl⟩) ?_
            refine zae false (.bool true) r rfl rfl rfl (fun g w' hd => Eq.trans (show (g 16).v = .bool true from (hd 16 rfl).1) (congrArg Value.bool (rfl : true = _))) (by simp [zlu]) (fun _ _ => ⟨Below.refl _ _, rfl⟩) ?_
            refine zae false (.bool true) r rfl rfl rfl (fun g w' hd => Eq.trans (show (g 16).v = .bool true from (hd 16 rfl).1) (congrArg Value.bool (rfl : true = _))) (by simp [zlu]) (fun _ _ => ⟨Below.refl _ _, rfl⟩) ?_
            refine zae false (.bool true) r rfl rfl rfl (fun g w' hd => Eq.trans (show (g 16).v = .bool true from (hd 16 rfl).1) (congrArg Value.bool (rfl : true = _))) (by simp [zlu]) (fun _ _ => ⟨Below.refl _ _, rfl⟩) ?_
            refine fc r (fun fr1 g w' hb' hd r' => zai r' (b := true) (v := (.bool true)) (Eq.trans (show (g 16).v = .bool true from (hd 16 rfl).1) (congrArg Value.bool (rfl : true = _))) rfl bz) ?_
            exact zb1
           ·
            intro fr gg w140 hb hΦ hap r
            obtain ⟨v138, g2, hs2⟩ := (hΦ 2 rfl).1
            have r := r.congr (sc ((hΦ 24 rfl).1) (sc ((hΦ 23 rfl).1) (sc ((hΦ 22 rfl).1) (sc ((hΦ 21 rfl).1) (sc ((hΦ 20 rfl).1) (sc ((hΦ 19 rfl).1) (sc ((hΦ 18 rfl).1) (sc ((hΦ 17 rfl).1) (sc ((hΦ 16 rfl).1) (sc ((hΦ 15 rfl).1) (sc ((hΦ 14 rfl).1) (sc ((hΦ 13 rfl).1) (sc ((hΦ 12 rfl).1) (sc ((hΦ 11 rfl).1) (sc ((hΦ 10 rfl).1) (sc ((hΦ 9 rfl).1) (sc ((hΦ 8 rfl).1) (sc ((hΦ 7 rfl).1) (sc ((hΦ 6 rfl).1) (sc ((hΦ 5 rfl).1) (sc ((hΦ 4 rfl).1) (sc ((hΦ 3 rfl).1) (sc g2 (sc ((hΦ 1 rfl).1) (sc ((hΦ 0 rfl).1) rfl)))))))))))))))))))))))))
            have hP : Post No [roK 34 1 i8E a1v a1, zlm b1 ((zln a0)).toArray 23, memK mg19 x51.2.2.2, zlm b31 #[v61, v63, (I x59.2.2.1), v65, v67, (I x59.2.2.2.2.2.1)] 32, rowK 3 1 i64 γ39.1 x38.2.1, zlm b53 ((zlD x51.1)).toArray 37, roK 3 1 i64 v61 x59.1, roK 3 1 i64 v63 x59.2.1, roK 3 1 i64 v65 x59.2.2.2.1, roK 4 1 zlr v67 x59.2.2.2.2.1, zlm b69 #[v61, v63, (I x59.2.2.1), v65, v67, (I x59.2.2.2.2.2.1)] 32, rowK 3 1 i64 v138 x133] w0 w140 := hP.addL (l := [([rowK 3 1 i64 v138 x133], (gg 2).lo, (gg 2).hi)]) hb ⟨hs2, (hΦ 2 rfl).2.1, zbl, trivial⟩
            exact nxy132 true () _ _ _ hD r (za1 rfl (za1 rfl (za1 rfl (za1 rfl (za1 rfl (za1 rfl (za1 rfl (za1 rfl (za1 rfl (za1 rfl (za1 rfl (za1 rfl (za1 rfl (za1 rfl (za1 rfl (za1 rfl (za1 rfl (za1 rfl (za1 rfl (za1 rfl zaz)))))))))))))))))))) (hP.pick [0, 1, 2, 3, 4, 5, 6, 7, 8, 9, 10] rfl rfl)
          ·
           have hD := (zah h137).symm.trans hD
           obtain ⟨x143, hx143, hD⟩ := zad hD
           obtain ⟨x146, hx146, hD⟩ := zad hD
           refine zay (!x146) (fun h147 => ?_) (fun h147 => ?_)
           ·
            have hD := (zao h147).symm.trans hD
            refine zbn [.val (.agg (zln a0).toArray), .val (zp mg19.mb), .pred (MkP (fun v148 : Value => v148) (fun v148 : Value => [rowK 3 1 i64 v148 x133])) (MkP.st _ _), .val (zp b31), .val v61, .val (.bool x136), .val (.bool (!x136)), .val (.bool (!x136)), .val (.agg (zln a0).toArray), .val (zp mg19.mb), .pred (MkP (fun v150 : Value => v150) (fun v150 : Value => [rowK 3 1 i64 v150 x143])) (MkP.st _ _), .val (.pointer (some ⟨b31, 1, none⟩)), .val v63, .val (.bool x146), .val (.bool (!x146)), .val (.bool (!x146)), .val (.bool (!x146)), .val undef, .val undef, .val undef, .val undef, .val undef, .val undef, .val undef, .val (.bool true)] mixed r (by kernel_rfl) ?_ ?_
            ·
             refine fc r (fun fr1 g w' hb' hd r' => za7 r' (cs := (zln a0)) (n := 6) rfl ((hP.below (dr hb')).cell (i := 1) rfl) ta23 rfl bz) ?_
             refine fc r (fun fr1 g w' hb' hd r' => za5 r' rfl bz) ?_
             refine fc r (fun fr1 g w' hb' hd r' => zac r' (args := [(.agg (zln a0).toArray), (zp mg19.mb), (I 0)]) (lc (hd 0 rfl).1 (lc (hd 1 rfl).1 (lc rfl l0))) cl37 ((zbP _ a0 x51.2.2.2 ((hP.below (dr hb')).mem (i := 2) rfl) 0 hx133).mono (by rintro _ w2 ⟨y, rfl, hq⟩; exact ⟨_, rfl, hq.chg.below, MkP.of y hq⟩))) ?_
             refine fc r (fun fr1 g w' hb' hd r' => za4 r' (b := b31) (o := 0) rfl zcx bz) ?_
             refine fc r (fun fr1 g w' hb' hd r' => za2 r' (hd 3 rfl).1 ((hP.below (dr hb')).cell (i := 3) rfl) to29 rfl bz) ?_
             refine fc r (fun fr1 g w' hb' hd r' => zac r' (args := [(g 2).v, v61]) (lc rfl (lc (hd 4 rfl).1 l0)) cl36 ((zaC _ x133 (MkP.row (hd 2 rfl).1) x59.1 ((hP.below (dr hb')).ro (i := 6) rfl) hx136).mono (by rintro _ w2 ⟨rfl, hb2⟩; exact ⟨_, rfl, hb2, rfl⟩))) ?_
             refine fc r (fun fr1 g w' hb' hd r' => y_un r' (u := (.bool x136)) (v := (.bool (!x136))) (hd 5 rfl).1 rfl bz) ?_
             refine fc r (fun fr1 g w' hb' hd r' => za5 r' (hd 6 rfl).1 bz) ?_
             refine zab false r rfl rfl rfl (fun g w' hd => Eq.trans (show (g 7).v = .bool (!x136) from (hd 7 rfl).1) (congrArg Value.bool h137)) (fun fr1 g w' hb' hd r' => ?_) ?_
             · exact za7 r' (cs := (zln a0)) (n := 6) rfl ((hP.below (dr hb')).cell (i := 1) rfl) ta23 rfl ⟨Below.refl _ _, rfl⟩
             refine zab false r rfl rfl rfl (fun g w' hd => Eq.trans (show (g 7).v = .bool (!x136) from (hd 7 rfl).1) (congrArg Value.bool h137)) (fun fr1 g w' hb' hd r' => ?_) ?_
             · exact za5 r' (v := (zp mg19.mb)) rfl ⟨Below.refl _ _, rfl⟩
             refine zab false r rfl rfl rfl (fun g w' hd => Eq.trans (show (g 7).v = .bool (!x136) from (hd 7 rfl).1) (congrArg Value.bool h137)) (fun fr1 g w' hb' hd r' => ?_) ?_
             · exact zac r' (args := [(.agg (zln a0).toArray), (zp mg19.mb), (I 0), (I 0)]) (lc (hd 8 rfl).1 (lc (hd 9 rfl).1 (lc rfl (lc rfl l0)))) cl38 ((zce _ a0 x51.2.2.2 ((hP.below (dr hb')).mem (i := 2) rfl) 0 0 hx143).mono (by rintro _ w2 ⟨y, rfl, hq⟩; exact ⟨_, rfl, hq.chg.below, MkP.of y hq⟩))
             refine zab false r rfl rfl rfl (fun g w' hd => Eq.trans (show (g 7).v = .bool (!x136) from (hd 7 rfl).1) (congrArg Value.bool h137)) (fun fr1 g w' hb' hd r' => ?_) ?_
             · exact za4 r' (b := b31) (o := 0) (k := 1) rfl zem ⟨Below.refl _ _, rfl⟩
             refine zab false r rfl rfl rfl (fun g w' hd => Eq.trans (show (g 7).v = .bool (!x136) from (hd 7 rfl).1) (congrArg Value.bool h137)) (fun fr1 g w' hb' hd r' => ?_) ?_
             · exact za2 r' (v := v63) (hd 11 rfl).1 ((hP.below (dr hb')).cell (i := 3) rfl) to29 rfl ⟨Below.refl _ _, rfl⟩
             refine zab false r rfl rfl rfl (fun g w' hd => Eq.trans (show (g 7).v = .bool (!x136) from (hd 7 rfl).1) (congrArg Value.bool h137)) (fun fr1 g w' hb' hd r' => ?_) ?_
             · exact zac r' (args := [(g 10).v, v63]) (lc rfl (lc (hd 12 rfl).1 l0)) cl36 ((zaC _ x143 (MkP.row (hd 10 rfl).1) x59.2.1 ((hP.below (dr hb')).ro (i := 7) rfl) hx146).mono (by rintro _ w2 ⟨rfl, hb2⟩; exact ⟨_, rfl, hb2, rfl⟩))
             refine zab false r rfl rfl rfl (fun g w' hd => Eq.trans (show (g 7).v = .bool (!x136) from (hd 7 rfl).1) (congrArg Value.bool h137)) (fun fr1 g w' hb' hd r' => ?_) ?_
             · exact y_un r' (u := (.bool x146)) (v := (.bool (!x146))) (hd 13 rfl).1 rfl ⟨Below.refl _ _, rfl⟩
             refine fc r (fun fr1 g w' hb' hd r' => zai r' (b := false) (v := (.bool (!x146))) (Eq.trans (show (g 7).v = .bool (!x136) from (hd 7 rfl).1) (congrArg Value.bool h137)) (hd 14 rfl).1 bz) ?_
             refine fc r (fun fr1 g w' hb' hd r' => za5 r' (hd 15 rfl).1 bz) ?_
             refine zae false (.bool true) r rfl rfl rfl (fun g w' hd => Eq.trans (show (g 16).v = .bool (!x146) from (hd 16 rfl).1) (congrArg Value.bool h147)) (by simp [zlu]) (fun _ _ => ⟨Below.refl _ _, rfl⟩) ?_
             refine zae false (.bool true) r rfl rfl rfl (fun g w' hd => Eq.trans (show (g 16).v = .bool (!x146) from (hd 16 rfl).1) (congrArg Value.bool h147)) (by simp [zlu]) (fun _ _ => ⟨Below.refl _ _, rfl⟩) ?_
             refine zae false (.bool true) r rfl rfl rfl (fun g w' hd => Eq.trans (show (g 16).v = .bool (!x146) from (hd 16 rfl).1) (congrArg Value.bool h147)) (by simp [zlu]) (fun _ _ => ⟨Below.refl _ _, rfl⟩) ?_
             refine zae false (.bool true) r rfl rfl rfl (fun g w' hd => Eq.trans (show (g 16).v = .bool (!x146) from (hd 16 rfl).1) (congrArg Value.bool h147)) (by simp [zlu]) (fun _ _ => ⟨Below.refl _ _, rfl⟩) ?_
             refine zae false (.bool true) r rfl rfl rfl (fun g w' hd => Eq.trans (show (g 16).v = .bool (!x146) from (hd 16 rfl).1) (congrArg Value.bool h147)) (by simp [zlu]) (fun _ _ => ⟨Below.refl _ _, rfl⟩) ?_
             refine zae false (.bool true) r rfl rfl rfl (fun g w' hd => Eq.trans (show (g 16).v = .bool (!x146) from (hd 16 rfl).1) (congrArg Value.bool h147)) (by simp [zlu]) (fun _ _ => ⟨Below.refl _ _, rfl⟩) ?_
             refine zae false (.bool true) r rfl rfl rfl (fun g w' hd => Eq.trans (show (g 16).v = .bool (!x146) from (hd 16 rfl).1) (congrArg Value.bool h147)) (by simp [zlu]) (fun _ _ => ⟨Below.refl _ _, rfl⟩) ?_
             refine fc r (fun fr1 g w' hb' hd r' => zai r' (b := true) (v := (.bool true)) (Eq.trans (show (g 16).v = .bool (!x146) from (hd 16 rfl).1) (congrArg Value.bool h147)) rfl bz) ?_
             exact zb1
            ·
             intro fr gg w152 hb hΦ hap r
             obtain ⟨v148, g2, hs2⟩ := (hΦ 2 rfl).1
             obtain ⟨v150, g10, hs10⟩ := (hΦ 10 rfl).1
             have r := r.congr (sc ((hΦ 24 rfl).1) (sc ((hΦ 23 rfl).1) (sc ((hΦ 22 rfl).1) (sc ((hΦ 21 rfl).1) (sc ((hΦ 20 rfl).1) (sc ((hΦ 19 rfl).1) (sc ((hΦ 18 rfl).1) (sc ((hΦ 17 rfl).1) (sc ((hΦ 16 rfl).1) (sc ((hΦ 15 rfl).1) (sc ((hΦ 14 rfl).1) (sc ((hΦ 13 rfl).1) (sc ((hΦ 12 rfl).1) (sc ((hΦ 11 rfl).1) (sc g10 (sc ((hΦ 9 rfl).1) (sc ((hΦ 8 rfl).1) (sc ((hΦ 7 rfl).1) (sc ((hΦ 6 rfl).1) (sc ((hΦ 5 rfl).1) (sc ((hΦ 4 rfl).1) (sc ((hΦ 3 rfl).1) (sc g2 (sc ((hΦ 1 rfl).1) (sc ((hΦ 0 rfl).1) rfl)))))))))))))))))))))))))
             have hP : Post No [roK 34 1 i8E a1v a1, zlm b1 ((zln a0)).toArray 23, memK mg19 x51.2.2.2, zlm b31 #[v61, v63, (I x59.2.2.1), v65, v67, (I x59.2.2.2.2.2.1)] 32, rowK 3 1 i64 γ39.1 x38.2.1, zlm b53 ((zlD x51.1)).toArray 37, roK 3 1 i64 v61 x59.1, roK 3 1 i64 v63 x59.2.1, roK 3 1 i64 v65 x59.2.2.2.1, roK 4 1 zlr v67 x59.2.2.2.2.1, zlm b69 #[v61, v63, (I x59.2.2.1), v65, v67, (I x59.2.2.2.2.2.1)] 32, rowK 3 1 i64 v148 x133, rowK 3 1 i64 v150 x143] w0 w152 := hP.addL (l := [([rowK 3 1 i64 v148 x133], (gg 2).lo, (gg 2).hi), ([rowK 3 1 i64 v150 x143], (gg 10).lo, (gg 10).hi)]) hb ⟨hs2, (hΦ 2 rfl).2.1, (zcA (hap 2 10 rfl) zbl), ⟨hs10, (hΦ 10 rfl).2.1, zbl, trivial⟩⟩
             exact nxy132 true () _ _ _ hD r (za1 rfl (za1 rfl (za1 rfl (za1 rfl (za1 rfl (za1 rfl (za1 rfl (za1 rfl (za1 rfl (za1 rfl (za1 rfl (za1 rfl (za1 rfl (za1 rfl (za1 rfl (za1 rfl (za1 rfl (za1 rfl (za1 rfl (za1 rfl zaz)))))))))))))))))))) (hP.pick [0, 1, 2, 3, 4, 5, 6, 7, 8, 9, 10] rfl rfl)
           ·
            have hD := (zah h147).symm.trans hD
            obtain ⟨x157, hx157, hD⟩ := zad hD
            refine zbn [.val (.agg (zln a0).toArray), .val (zp mg19.mb), .pred (MkP (fun v153 : Value => v153) (fun v153 : Value => [rowK 3 1 i64 v153 x133])) (MkP.st _ _), .val (zp b31), .val v61, .val (.bool x136), .val (.bool (!x136)), .val (.bool (!x136)), .val (.agg (zln a0).toArray), .val (zp mg19.mb), .pred (MkP (fun v155 : Value => v155) (fun v155 : Value => [rowK 3 1 i64 v155 x143])) (MkP.st _ _), .val (.pointer (some ⟨b31, 1, none⟩)), .val v63, .val (.bool x146), .val (.bool (!x146)), .val (.bool (!x146)), .val (.bool (!x146)), .val (.agg (zln a0).toArray), .val (zp mg19.mb), .val (I x157), .val (zp b31), .val v61, .val (I (x59.1.length : Int)), .val (.bool (x157 != (x59.1.length : Int))), .val (.bool (x157 != (x59.1.length : Int)))] mixed r (by kernel_rfl) ?_ ?_
            ·
             refine fc r (fun fr1 g w' hb' hd r' => za7 r' (cs := (zln a0)) (n := 6) rfl ((hP.below (dr hb')).cell (i := 1) rfl) ta23 rfl bz) ?_
             refine fc r (fun fr1 g w' hb' hd r' => za5 r' rfl bz) ?_
             refine fc r (fun fr1 g w' hb' hd r' => zac r' (args := [(.agg (zln a0).toArray), (zp mg19.mb), (I 0)]) (lc (hd 0 rfl).1 (lc (hd 1 rfl).1 (lc rfl l0))) cl37 ((zbP _ a0 x51.2.2.2 ((hP.below (dr hb')).mem (i := 2) rfl) 0 hx133).mono (by rintro _ w2 ⟨y, rfl, hq⟩; exact ⟨_, rfl, hq.chg.below, MkP.of y hq⟩))) ?_
             refine fc r (fun fr1 g w' hb' hd r' => za4 r' (b := b31) (o := 0) rfl zcx bz) ?_
             refine fc r (fun fr1 g w' hb' hd r' => za2 r' (hd 3 rfl).1 ((hP.below (dr hb')).cell (i := 3) rfl) to29 rfl bz) ?_
             refine fc r (fun fr1 g w' hb' hd r' => zac r' (args := [(g 2).v, v61]) (lc rfl (lc (hd 4 rfl).1 l0)) cl36 ((zaC _ x133 (MkP.row (hd 2 rfl).1) x59.1 ((hP.below (dr hb')).ro (i := 6) rfl) hx136).mono (by rintro _ w2 ⟨rfl, hb2⟩; exact ⟨_, rfl, hb2, rfl⟩))) ?_
             refine fc r (fun fr1 g w' hb' hd r' => y_un r' (u := (.bool x136)) (v := (.bool (!x136))) (hd 5 rfl).1 rfl bz) ?_
             refine fc r (fun fr1 g w' hb' hd r' => za5 r' (hd 6 rfl).1 bz) ?_
             refine zab false r rfl rfl rfl (fun g w' hd => Eq.trans (show (g 7).v = .bool (!x136) from (hd 7 rfl).1) (congrArg Value.bool h137)) (fun fr1 g w' hb' hd r' => ?_) ?_
             · exact za7 r' (cs := (zln a0)) (n := 6) rfl ((hP.below (dr hb')).cell (i := 1) rfl) ta23 rfl ⟨Below.refl _ _, rfl⟩
             refine zab false r rfl rfl rfl (fun g w' hd => Eq.trans (show (g 7).v = .bool (!x136) from (hd 7 rfl).1) (congrArg Value.bool h137)) (fun fr1 g w' hb' hd r' => ?_) ?_
             · exact za5 r' (v := (zp mg19.mb)) rfl ⟨Below.refl _ _, rfl⟩
             refine zab false r rfl rfl rfl (fun g w' hd => Eq.trans (show (g 7).v = .bool (!x136) from (hd 7 rfl).1) (congrArg Value.bool h137)) (fun fr1 g w' hb' hd r' => ?_) ?_
             · exact zac r' (args := [(.agg (zln a0).toArray), (zp mg19.mb), (I 0), (I 0)]) (lc (hd 8 rfl).1 (lc (hd 9 rfl).1 (lc rfl (lc rfl l0)))) cl38 ((zce _ a0 x51.2.2.2 ((hP.below (dr hb')).mem (i := 2) rfl) 0 0 hx143).mono (by rintro _ w2 ⟨y, rfl, hq⟩; exact ⟨_, rfl, hq.chg.below, MkP.of y hq⟩))
             refine zab false r rfl rfl rfl (fun g w' hd => Eq.trans (show (g 7).v = .bool (!x136) from (hd 7 rfl).1) (congrArg Value.bool h137)) (fun fr1 g w' hb' hd r' => ?_) ?_
             · exact za4 r' (b := b31) (o := 0) (k := 1) rfl zem ⟨Below.refl _ _, rfl⟩
             refine zab false r rfl rfl rfl (fun g w' hd => Eq.trans (show (g 7).v = .bool (!x136) from (hd 7 rfl).1) (congrArg Value.bool h137)) (fun fr1 g w' hb' hd r' => ?_) ?_
             · exact za2 r' (v := v63) (hd 11 rfl).1 ((hP.below (dr hb')).cell (i := 3) rfl) to29 rfl ⟨Below.refl _ _, rfl⟩
             refine zab false r rfl rfl rfl (fun g w' hd => Eq.trans (show (g 7).v = .bool (!x136) from (hd 7 rfl).1) (congrArg Value.bool h137)) (fun fr1 g w' hb' hd r' => ?_) ?_
             · exact zac r' (args := [(g 10).v, v63]) (lc rfl (lc (hd 12 rfl).1 l0)) cl36 ((zaC _ x143 (MkP.row (hd 10 rfl).1) x59.2.1 ((hP.below (dr hb')).ro (i := 7) rfl) hx146).mono (by rintro _ w2 ⟨rfl, hb2⟩; exact ⟨_, rfl, hb2, rfl⟩))
             refine zab false r rfl rfl rfl (fun g w' hd => Eq.trans (show (g 7).v = .bool (!x136) from (hd 7 rfl).1) (congrArg Value.bool h137)) (fun fr1 g w' hb' hd r' => ?_) ?_
             · exact y_un r' (u := (.bool x146)) (v := (.bool (!x146))) (hd 13 rfl).1 rfl ⟨Below.refl _ _, rfl⟩
             refine fc r (fun fr1 g w' hb' hd r' => zai r' (b := false) (v := (.bool (!x146))) (Eq.trans (show (g 7).v = .bool (!x136) from (hd 7 rfl).1) (congrArg Value.bool h137)) (hd 14 rfl).1 bz) ?_
             refine fc r (fun fr1 g w' hb' hd r' => za5 r' (hd 15 rfl).1 bz) ?_
             refine zab false r rfl rfl rfl (fun g w' hd => Eq.trans (show (g 16).v = .bool (!x146) from (hd 16 rfl).1) (congrArg Value.bool h147)) (fun fr1 g w' hb' hd r' => ?_) ?_
             · exact za7 r' (cs := (zln a0)) (n := 6) rfl ((hP.below (dr hb')).cell (i := 1) rfl) ta23 rfl ⟨Below.refl _ _, rfl⟩
             refine zab false r rfl rfl rfl (fun g w' hd => Eq.trans (show (g 16).v = .bool (!x146) from (hd 16 rfl).1) (congrArg Value.bool h147)) (fun fr1 g w' hb' hd r' => ?_) ?_
             · exact za5 r' (v := (zp mg19.mb)) rfl ⟨Below.refl _ _, rfl⟩
             refine zab false r rfl rfl rfl (fun g w' hd => Eq.trans (show (g 16).v = .bool (!x146) from (hd 16 rfl).1) (congrArg Value.bool h147)) (fun fr1 g w' hb' hd r' => ?_) ?_
             · exact zac r' (args := [(.agg (zln a0).toArray), (zp mg19.mb), (I 0)]) (lc (hd 17 rfl).1 (lc (hd 18 rfl).1 (lc rfl l0))) cl39 ((zdA _ a0 x51.2.2.2 ((hP.below (dr hb')).mem (i := 2) rfl) 0 hx157).mono (by rintro _ w2 ⟨rfl, hb2⟩; exact ⟨_, rfl, hb2, rfl⟩))
             refine zab false r rfl rfl rfl (fun g w' hd => Eq.trans (show (g 16).v = .bool (!x146) from (hd 16 rfl).1) (congrArg Value.bool h147)) (fun fr1 g w' hb' hd r' => ?_) ?_
             · exact za4 r' (b := b31) (o := 0) (k := 0) rfl zcx ⟨Below.refl _ _, rfl⟩
             refine zab false r rfl rfl rfl (fun g w' hd => Eq.trans (show (g 16).v = .bool (!x146) from (hd 16 rfl).1) (congrArg Value.bool h147)) (fun fr1 g w' hb' hd r' => ?_) ?_
             · exact za2 r' (v := v61) (hd 20 rfl).1 ((hP.below (dr hb')).cell (i := 3) rfl) to29 rfl ⟨Below.refl _ _, rfl⟩
             refine zab false r rfl rfl rfl (fun g w' hd => Eq.trans (show (g 16).v = .bool (!x146) from (hd 16 rfl).1) (congrArg Value.bool h147)) (fun fr1 g w' hb' hd r' => ?_) ?_
             · exact zbj r' ((hP.below (dr hb')).ro (i := 6) rfl) is29 (hd 21 rfl).1 ⟨Below.refl _ _, rfl⟩
             refine zab false r rfl rfl rfl (fun g w' hd => Eq.trans (show (g 16).v = .bool (!x146) from (hd 16 rfl).1) (congrArg Value.bool h147)) (fun fr1 g w' hb' hd r' => ?_) ?_
             · exact zlt r' (u := (I x157)) (u' := (I (x59.1.length : Int))) (v := (.bool (x157 != (x59.1.length : Int)))) (hd 19 rfl).1 (hd 22 rfl).1 rfl rfl ⟨Below.refl _ _, rfl⟩
             refine fc r (fun fr1 g w' hb' hd r' => zai r' (b := false) (v := (.bool (x157 != (x59.1.length : Int)))) (Eq.trans (show (g 16).v = .bool (!x146) from (hd 16 rfl).1) (congrArg Value.bool h147)) (hd 23 rfl).1 bz) ?_
             exact zb1
            ·
             intro fr gg w158 hb hΦ hap r
             obtain ⟨v153, g2, hs2⟩ := (hΦ 2 rfl).1
             obtain ⟨v155, g10, hs10⟩ := (hΦ 10 rfl).1
             have r := r.congr (sc ((hΦ 24 rfl).1) (sc ((hΦ 23 rfl).1) (sc ((hΦ 22 rfl).1) (sc ((hΦ 21 rfl).1) (sc ((hΦ 20 rfl).1) (sc ((hΦ 19 rfl).1) (sc ((hΦ 18 rfl).1) (sc ((hΦ 17 rfl).1) (sc ((hΦ 16 rfl).1) (sc ((hΦ 15 rfl).1) (sc ((hΦ 14 rfl).1) (sc ((hΦ 13 rfl).1) (sc ((hΦ 12 rfl).1) (sc ((hΦ 11 rfl).1) (sc g10 (sc ((hΦ 9 rfl).1) (sc ((hΦ 8 rfl).1) (sc ((hΦ 7 rfl).1) (sc ((hΦ 6 rfl).1) (sc ((hΦ 5 rfl).1) (sc ((hΦ 4 rfl).1) (sc ((hΦ 3 rfl).1) (sc g2 (sc ((hΦ 1 rfl).1) (sc ((hΦ 0 rfl).1) rfl)))))))))))))))))))))))))
             have hP : Post No [roK 34 1 i8E a1v a1, zlm b1 ((zln a0)).toArray 23, memK mg19 x51.2.2.2, zlm b31 #[v61, v63, (I x59.2.2.1), v65, v67, (I x59.2.2.2.2.2.1)] 32, rowK 3 1 i64 γ39.1 x38.2.1, zlm b53 ((zlD x51.1)).toArray 37, roK 3 1 i64 v61 x59.1, roK 3 1 i64 v63 x59.2.1, roK 3 1 i64 v65 x59.2.2.2.1, roK 4 1 zlr v67 x59.2.2.2.2.1, zlm b69 #[v61, v63, (I x59.2.2.1), v65, v67, (I x59.2.2.2.2.2.1)] 32, rowK 3 1 i64 v153 x133, rowK 3 1 i64 v155 x143] w0 w158 := hP.addL (l := [([rowK 3 1 i64 v153 x133], (gg 2).lo, (gg 2).hi), ([rowK 3 1 i64 v155 x143], (gg 10).lo, (gg 10).hi)]) hb ⟨hs2, (hΦ 2 rfl).2.1, (zcA (hap 2 10 rfl) zbl), ⟨hs10, (hΦ 10 rfl).2.1, zbl, trivial⟩⟩
             exact nxy132 (x157 != (x59.1.length : Int)) () _ _ _ hD r (za1 rfl (za1 rfl (za1 rfl (za1 rfl (za1 rfl (za1 rfl (za1 rfl (za1 rfl (za1 rfl (za1 rfl (za1 rfl (za1 rfl (za1 rfl (za1 rfl (za1 rfl (za1 rfl (za1 rfl (za1 rfl (za1 rfl (za1 rfl zaz)))))))))))))))))))) (hP.pick [0, 1, 2, 3, 4, 5, 6, 7, 8, 9, 10] rfl rfl)
         ·
          rintro x159 γ160 fr w161 g r hP hD
          have hP : Post No [roK 34 1 i8E a1v a1, zlm b1 ((zln a0)).toArray 23, memK mg19 x51.2.2.2, zlm b31 #[v61, v63, (I x59.2.2.1), v65, v67, (I x59.2.2.2.2.2.1)] 32, rowK 3 1 i64 γ39.1 x38.2.1, zlm b53 ((zlD x51.1)).toArray 37, roK 3 1 i64 v61 x59.1, roK 3 1 i64 v63 x59.2.1, roK 3 1 i64 v65 x59.2.2.2.1, roK 4 1 zlr v67 x59.2.2.2.2.1, zlm b69 #[v61, v63, (I x59.2.2.1), v65, v67, (I x59.2.2.2.2.2.1)] 32] w0 w161 := hP
          refine wp_cond_split (t := x159) (r.ev rfl) (fun h162 => ?_) (fun h162 => ?_)
          ·
           have hD := (zao h162).symm.trans hD
           refine wsr (za0 (.bool false) r (fun R => za6 r rfl) rfl fun fr r => wn (wp_ret ?_))
           refine rty40 false _ _ hD fun hD => ?_
           have hv : false = res := Option.some.inj hD
           try dsimp only [Exit.then, Exit.inBlock]
           refine zaA (fn := Tryz.f3) r (t := 4) rfl (v := (.bool false)) rfl ?_
           subst hv
           exact ⟨rfl, hP.chg.below⟩
          ·
           have hD := (zah h162).symm.trans hD
           refine wp_skip ?_
           refine wp_region_lit (za0 (I x38.2.2.1) r (fun R => za5 r rfl) rfl fun fr r => za0 _ r (fun R => zlt r rfl rfl rfl rfl) rfl fun fr r => za0 (I (W (x38.2.2.1 + 1))) r (fun R => za6 r rfl) rfl fun fr r => wn ?_)
           exact nxy40 (x38.1, x38.2.1, (W (x38.2.2.1 + 1)), x51.2.2.2, x59.1, x59.2.1, x59.2.2.1, x59.2.2.2.1, x59.2.2.2.2.1, x59.2.2.2.2.2.1) (γ39.1, v61, v63, v65, v67) _ _ _ hD r (za1 rfl (za1 rfl (za1 rfl (za1 rfl (za1 rfl (za1 rfl (za1 rfl (za1 rfl (za1 rfl (za1 rfl zaz)))))))))) (hP.pick [0, 1, 2, 3, 4, 6, 7, 8, 9] rfl rfl)
     ·
      have hD := (zah h44).symm.trans hD
      refine wsr (za0 γ39.1 r (fun R => za5 r rfl) rfl fun fr r => za0 (I (x38.2.1.length : Int)) r (fun R => zbj r (hP.row (i := 4) rfl).ro is29 rfl) rfl fun fr r => za0 _ r (fun R => zlt r rfl rfl rfl rfl) rfl fun fr r => wn ?_)
      refine wp_cond_split (t := (decide ((x38.2.1.length : Int) > 0))) (r.ev rfl) (fun h163 => ?_) (fun h163 => ?_)
      ·
       have hD := (zao h163).symm.trans hD
       refine wsr (za0 a1v r (fun R => za5 r rfl) rfl fun fr r => za0 (I x38.2.2.1) r (fun R => za5 r rfl) rfl fun fr r => ?_)
       obtain ⟨x164, hx164, hD⟩ := zad hD
       refine za0 (.pointer (some ⟨rowB a1v, rowO a1v + x38.2.2.1.toNat * 1, none⟩)) r (fun R => zbe r (hP.ro (i := 0) rfl) hx164 sl24 rfl rfl) rfl fun fr r => za0 (.int .i8 x164) r (fun R => zba r (u := (.int .i8 x164)) (RoAt.at_ (f := i8E) (x := x164) (hP.ro (i := 0) rfl) (fun _ => rfl) hx164) rfl to34) rfl fun fr r => za0 (I (W x164)) r (fun R => zbf r rfl ti34 ti3) rfl fun fr r => za0 γ39.1 r (fun R => za5 r rfl) rfl fun fr r => za0 (I (x38.2.1.length : Int)) r (fun R => zbj r (hP.row (i := 4) rfl).ro is29 rfl) rfl fun fr r => ?_
       obtain ⟨x165, hx165, hD⟩ := zad hD
       refine za0 _ r (fun R => zlt r rfl rfl rfl (zkR (zjo hx165))) rfl fun fr r => za0 (I ((W x164).tmod (x38.2.1.length : Int))) r (fun R => za6 r rfl) rfl fun fr r => wn (wsr (za0 γ39.1 r (fun R => za5 r rfl) rfl fun fr r => za0 (I ((W x164).tmod (x38.2.1.length : Int))) r (fun R => za5 r rfl) rfl fun fr r => ?_))
       obtain ⟨x166, hx166, hD⟩ := zad hD
       refine za0 (.pointer (some ⟨rowB γ39.1, rowO γ39.1 + ((W x164).tmod (x38.2.1.length : Int)).toNat * 1, none⟩)) r (fun R => zbe r (hP.row (i := 4) rfl).ro hx166 sl29 rfl rfl) rfl fun fr r => za0 (I x166) r (fun R => zba r (u := (I x166)) (RoAt.at_ (f := i64) (x := x166) (hP.row (i := 4) rfl).ro (fun _ => rfl) hx166) rfl to3) rfl fun fr r => za0 (I x166) r (fun R => za6 r rfl) rfl fun fr r => wn (wp_seq ?_)
       obtain ⟨x167, hx167, hD⟩ := zad hD
       obtain ⟨x168, hx168, hD⟩ := zad hD
       obtain ⟨x171, hx171, hD⟩ := zad hD
       refine zkn 9 [.slice (.cells (([] : List Int).flatMap i64).toArray 3 (0, 0)) 0, .val γ39.1, .val (I ((W x164).tmod (x38.2.1.length : Int))), .val (sliceV 1 γ39.1 (0 : Int).toNat ((W x164).tmod (x38.2.1.length : Int)).toNat), .pred (MkP (fun v : Value => v) (fun v : Value => [rowK 3 1 i64 v x168])) (MkP.st _ _), .val γ39.1, .val (I ((W x164).tmod (x38.2.1.length : Int))), .val (I (W (((W x164).tmod (x38.2.1.length : Int)) + 1))), .val (sliceV 1 γ39.1 (W (((W x164).tmod (x38.2.1.length : Int)) + 1)).toNat (x38.2.1.length : Int).toNat)] mixed r (by kernel_rfl) ?_ ?_
       ·
        refine fc r (fun fr1 g w' hb' hd r' => zbz r' (c := (([] : List Int).flatMap i64).toArray) (E := 3) (by kernel_rfl) (fun b w2 n2 => ⟨n2.below, b, rfl, n2.eq, n2.at_⟩)) ?_
        refine fc r (fun fr1 g w' hb' hd r' => za5 r' rfl bz) ?_
        refine fc r (fun fr1 g w' hb' hd r' => za5 r' rfl bz) ?_
        refine fc r (fun fr1 g w' hb' hd r' => zmj r' ((hP.below (dr hb')).row (i := 4) rfl).ro sl29 (hd 1 rfl).1 rfl (congrArg some (hd 2 rfl).1) rfl rfl rfl rfl hx167 bz) ?_
        refine fc r (fun fr1 g w' hb' hd r' => zjW r' rt29 (fun _ => rfl) (fun _ => rfl) (RoAt.slice ((hP.below (dr hb')).row (i := 4) rfl).ro (fun _ => rfl) hx167) hx168 (hd 0 rfl).1.1 (hd 3 rfl).1 (fun v2 w2 h1 h2 => ⟨h1, h2⟩)) ?_
        refine fc r (fun fr1 g w' hb' hd r' => za5 r' rfl bz) ?_
        refine fc r (fun fr1 g w' hb' hd r' => za5 r' rfl bz) ?_
        refine fc r (fun fr1 g w' hb' hd r' => zlt r' (hd 6 rfl).1 rfl rfl rfl bz) ?_
        refine fc r (fun fr1 g w' hb' hd r' => zmj r' ((hP.below (dr hb')).row (i := 4) rfl).ro sl29 (hd 5 rfl).1 (congrArg some (hd 7 rfl).1) rfl rfl rfl rfl rfl hx171 bz) ?_
        exact zb1
       ·
        intro fr gg w172 hb hΦ hap r
        obtain ⟨v169, g4, hs4⟩ := (hΦ 4 rfl).1
        have r := r.congr (sc ((hΦ 8 rfl).1) (sc ((hΦ 7 rfl).1) (sc ((hΦ 6 rfl).1) (sc ((hΦ 5 rfl).1) (sc g4 (sc ((hΦ 3 rfl).1) (sc ((hΦ 2 rfl).1) (sc ((hΦ 1 rfl).1) (sc rfl rfl)))))))))
        have hP : Post No [roK 34 1 i8E a1v a1, zlm b1 ((zln a0)).toArray 23, memK mg19 x38.2.2.2.1, zlm b31 #[γ39.2.1, γ39.2.2.1, (I x38.2.2.2.2.2.2.1), γ39.2.2.2.1, γ39.2.2.2.2, (I x38.2.2.2.2.2.2.2.2.2)] 32, rowK 3 1 i64 γ39.1 x38.2.1, roK 3 1 i64 γ39.2.1 x38.2.2.2.2.1, roK 3 1 i64 γ39.2.2.1 x38.2.2.2.2.2.1, roK 3 1 i64 γ39.2.2.2.1 x38.2.2.2.2.2.2.2.1, roK 4 1 zlr γ39.2.2.2.2 x38.2.2.2.2.2.2.2.2.1, rowK 3 1 i64 v169 x168] w0 w172 := hP.addL (l := [([rowK 3 1 i64 v169 x168], (gg 4).lo, (gg 4).hi)]) hb ⟨hs4, (hΦ 4 rfl).2.1, zbl, trivial⟩
        obtain ⟨x173, hx173, hD⟩ := zad hD
        refine zdg 3 1 i64 v169 r (fun R => zcH r rt29 (fun _ => rfl) (fun _ => rfl) (hP.row (i := 9) rfl) (RoAt.slice (hP.row (i := 4) rfl).ro (fun _ => rfl) hx171) hx173 rfl rfl) rfl fun fr v174 w175 ha176 r => ?_
        have hP : Post No [roK 34 1 i8E a1v a1, zlm b1 ((zln a0)).toArray 23, memK mg19 x38.2.2.2.1, zlm b31 #[γ39.2.1, γ39.2.2.1, (I x38.2.2.2.2.2.2.1), γ39.2.2.2.1, γ39.2.2.2.2, (I x38.2.2.2.2.2.2.2.2.2)] 32, rowK 3 1 i64 γ39.1 x38.2.1, roK 3 1 i64 γ39.2.1 x38.2.2.2.2.1, roK 3 1 i64 γ39.2.2.1 x38.2.2.2.2.2.1, roK 3 1 i64 γ39.2.2.2.1 x38.2.2.2.2.2.2.2.1, roK 4 1 zlr γ39.2.2.2.2 x38.2.2.2.2.2.2.2.2.1, rowK 3 1 i64 v174 x173] w0 w175 := hP.append (i := 9) rfl ha176
        refine za0 v174 r (fun R => za6 r rfl) rfl fun fr r => wn (wsr (za0 (.agg (zln a0).toArray) r (fun R => za7 r (cs := (zln a0)) (n := 6) rfl (hP.cell (i := 1) rfl) ta23 rfl) rfl fun fr r => za0 (I x166) r (fun R => za5 r rfl) rfl fun fr r => ?_))
        refine za9 r (zh8 (F := No) (n := fu) (j := fu + 1) (fun _ h => h.elim) (by omega) a0 0 x166) (fun R hc => zac r rfl cl34 hc) rfl ?_
        rintro _ w177 ⟨v178, rfl, hb, hr179⟩
        refine ⟨_, rfl, fun fr r => ?_⟩
        have hP : Post No [roK 34 1 i8E a1v a1, zlm b1 ((zln a0)).toArray 23, memK mg19 x38.2.2.2.1, zlm b31 #[γ39.2.1, γ39.2.2.1, (I x38.2.2.2.2.2.2.1), γ39.2.2.2.1, γ39.2.2.2.2, (I x38.2.2.2.2.2.2.2.2.2)] 32, rowK 3 1 i64 γ39.1 x38.2.1, roK 3 1 i64 γ39.2.1 x38.2.2.2.2.1, roK 3 1 i64 γ39.2.2.1 x38.2.2.2.2.2.1, roK 3 1 i64 γ39.2.2.2.1 x38.2.2.2.2.2.2.2.1, roK 4 1 zlr γ39.2.2.2.2 x38.2.2.2.2.2.2.2.2.1, rowK 3 1 i64 v174 x173, zlA Tryz.prog zlq (fu, (D.zc4 (fu + 1) a0 0 x166)) v178 (rg w175.heap.size w177.heap.size)] w0 w177 := hP.addProg hb hr179
        refine za0 (zp mg19.mb) r (fun R => za5 r rfl) rfl fun fr r => za0 (zp mg19.mb) r (fun R => za5 r rfl) rfl fun fr r => ?_
        obtain ⟨x181, hx181, hD⟩ := zad hD
        refine za9 r (zd0 w177 x38.2.2.2.1 (hP.mem (i := 2) rfl) 0 hx181) (fun R hc => zac r rfl cl28 hc) rfl ?_
        rintro _ w182 ⟨rfl, hb⟩
        refine ⟨_, rfl, fun fr r => ?_⟩
        have hP : Post No [roK 34 1 i8E a1v a1, zlm b1 ((zln a0)).toArray 23, memK mg19 x38.2.2.2.1, zlm b31 #[γ39.2.1, γ39.2.2.1, (I x38.2.2.2.2.2.2.1), γ39.2.2.2.1, γ39.2.2.2.2, (I x38.2.2.2.2.2.2.2.2.2)] 32, rowK 3 1 i64 γ39.1 x38.2.1, roK 3 1 i64 γ39.2.1 x38.2.2.2.2.1, roK 3 1 i64 γ39.2.2.1 x38.2.2.2.2.2.1, roK 3 1 i64 γ39.2.2.2.1 x38.2.2.2.2.2.2.2.1, roK 4 1 zlr γ39.2.2.2.2 x38.2.2.2.2.2.2.2.2.1, rowK 3 1 i64 v174 x173, zlA Tryz.prog zlq (fu, (D.zc4 (fu + 1) a0 0 x166)) v178 (rg w175.heap.size w177.heap.size)] w0 w182 := hP.below hb
        obtain ⟨x183, hx183, hD⟩ := zad hD
        refine za9 r (zh6 w182 (fu, (D.zc4 (fu + 1) a0 0 x166)) x38.2.2.2.1 x181 100000 (hP.sep.pk [10, 2] rfl rfl) hx183) (fun R hc => zac r rfl cl33 hc) rfl ?_
        rintro _ w184 ⟨rfl, hq⟩
        refine ⟨_, rfl, fun fr r => ?_⟩
        have hP : Post No [roK 34 1 i8E a1v a1, zlm b1 ((zln a0)).toArray 23, memK mg19 x183.2.2.2, zlm b31 #[γ39.2.1, γ39.2.2.1, (I x38.2.2.2.2.2.2.1), γ39.2.2.2.1, γ39.2.2.2.2, (I x38.2.2.2.2.2.2.2.2.2)] 32, rowK 3 1 i64 γ39.1 x38.2.1, roK 3 1 i64 γ39.2.1 x38.2.2.2.2.1, roK 3 1 i64 γ39.2.2.1 x38.2.2.2.2.2.1, roK 3 1 i64 γ39.2.2.2.1 x38.2.2.2.2.2.2.2.1, roK 4 1 zlr γ39.2.2.2.2 x38.2.2.2.2.2.2.2.2.1, rowK 3 1 i64 v174 x173, zlA Tryz.prog zlq (fu, (D.zc4 (fu + 1) a0 0 x166)) v178 (rg w175.heap.size w177.heap.size)] w0 w184 := hP.setN (i := 2) rfl hq
        refine za0 (.tuple #[(I x183.1), (I x183.2.1), (.bool x183.2.2.1)]) r (fun R => za5 r rfl) rfl fun fr r => za0 (I x183.1) r (fun R => zaQ r (vs := #[(I x183.1), (I x183.2.1), (.bool x183.2.2.1)]) rfl rfl) rfl fun fr r => za0 (I x183.2.1) r (fun R => zaQ r (vs := #[(I x183.1), (I x183.2.1), (.bool x183.2.2.1)]) rfl rfl) rfl fun fr r => za0 (.bool x183.2.2.1) r (fun R => zaQ r (vs := #[(I x183.1), (I x183.2.1), (.bool x183.2.2.1)]) rfl rfl) rfl fun fr r => za0 (I x183.1) r (fun R => za6 r rfl) rfl fun fr r => za0 (I x183.2.1) r (fun R => za6 r rfl) rfl fun fr r => za0 (.bool x183.2.2.1) r (fun R => za6 r rfl) rfl fun fr r => wn (wsr (za0 (.agg #[γ39.2.1, γ39.2.2.1, (I x38.2.2.2.2.2.2.1), γ39.2.2.2.1, γ39.2.2.2.2, (I x38.2.2.2.2.2.2.2.2.2)]) r (fun R => za7 r (cs := [γ39.2.1, γ39.2.2.1, (I x38.2.2.2.2.2.2.1), γ39.2.2.2.1, γ39.2.2.2.2, (I x38.2.2.2.2.2.2.2.2.2)]) (n := 6) rfl (hP.cell (i := 3) rfl) ta32 rfl) rfl fun fr r => za0 (I x166) r (fun R => za5 r rfl) rfl fun fr r => ?_))
        obtain ⟨x185, hx185, hD⟩ := zad hD
        refine za9 r (ze7 w184 (Y := rdOf [γ39.2.1, γ39.2.2.1, γ39.2.2.2.1, γ39.2.2.2.2]) x38.2.2.2.2.1 (hP.ro (i := 5) rfl) (zcq (i := 0) rfl) x38.2.2.2.2.2.1 (hP.ro (i := 6) rfl) (zcq (i := 1) rfl) x38.2.2.2.2.2.2.1 x38.2.2.2.2.2.2.2.1 (hP.ro (i := 7) rfl) (zcq (i := 2) rfl) x38.2.2.2.2.2.2.2.2.1 (hP.ro (i := 8) rfl) (zcq (i := 3) rfl) x38.2.2.2.2.2.2.2.2.2 x166 hx185) (fun R hc => zac r rfl cl35 hc) rfl ?_
        rintro _ w186 ⟨v187, v189, v191, v193, rfl, hq⟩
        refine ⟨_, rfl, fun fr r => ?_⟩
        have hP : Post No [roK 34 1 i8E a1v a1, zlm b1 ((zln a0)).toArray 23, memK mg19 x183.2.2.2, zlm b31 #[γ39.2.1, γ39.2.2.1, (I x38.2.2.2.2.2.2.1), γ39.2.2.2.1, γ39.2.2.2.2, (I x38.2.2.2.2.2.2.2.2.2)] 32, rowK 3 1 i64 γ39.1 x38.2.1, roK 3 1 i64 γ39.2.1 x38.2.2.2.2.1, roK 3 1 i64 γ39.2.2.1 x38.2.2.2.2.2.1, roK 3 1 i64 γ39.2.2.2.1 x38.2.2.2.2.2.2.2.1, roK 4 1 zlr γ39.2.2.2.2 x38.2.2.2.2.2.2.2.2.1, rowK 3 1 i64 v174 x173, zlA Tryz.prog zlq (fu, (D.zc4 (fu + 1) a0 0 x166)) v178 (rg w175.heap.size w177.heap.size), roK 3 1 i64 v187 x185.1, roK 3 1 i64 v189 x185.2.1, roK 3 1 i64 v191 x185.2.2.2.1, roK 4 1 zlr v193 x185.2.2.2.2.1] w0 w186 := hP.addY hq (zaF rfl (zaF rfl (zaF rfl (zaF rfl zb3)))) (zbD (hP.inR (i := 5) rfl) (zbD (hP.inR (i := 6) rfl) (zbD (hP.inR (i := 7) rfl) (zbD (hP.inR (i := 8) rfl) zf0))))
        refine zaf (.cells #[v187, v189, (I x185.2.2.1), v191, v193, (I x185.2.2.2.2.2)] 32 (0, 0)) r (fun R => zbM r (o := 0) (n := 6) (v := (.agg #[v187, v189, (I x185.2.2.1), v191, v193, (I x185.2.2.2.2.2)])) (cs := [v187, v189, (I x185.2.2.1), v191, v193, (I x185.2.2.2.2.2)]) rfl rfl rfl (zak (RoAt.plain (hP.ro (i := 11) rfl)) (zak (RoAt.plain (hP.ro (i := 12) rfl)) (zak rfl (zak (RoAt.plain (hP.ro (i := 13) rfl)) (zak (RoAt.plain (hP.ro (i := 14) rfl)) (zak rfl zbL)))))) rfl (hP.cell (i := 3) rfl) ts32 (Nat.le_of_ble_eq_true rfl) rfl) rfl fun fr w195 u196 r => ?_
        have hP : Post No [roK 34 1 i8E a1v a1, zlm b1 ((zln a0)).toArray 23, memK mg19 x183.2.2.2, zlm b31 #[v187, v189, (I x185.2.2.1), v191, v193, (I x185.2.2.2.2.2)] 32, rowK 3 1 i64 γ39.1 x38.2.1, roK 3 1 i64 γ39.2.1 x38.2.2.2.2.1, roK 3 1 i64 γ39.2.2.1 x38.2.2.2.2.2.1, roK 3 1 i64 γ39.2.2.2.1 x38.2.2.2.2.2.2.2.1, roK 4 1 zlr γ39.2.2.2.2 x38.2.2.2.2.2.2.2.2.1, rowK 3 1 i64 v174 x173, zlA Tryz.prog zlq (fu, (D.zc4 (fu + 1) a0 0 x166)) v178 (rg w175.heap.size w177.heap.size), roK 3 1 i64 v187 x185.1, roK 3 1 i64 v189 x185.2.1, roK 3 1 i64 v191 x185.2.2.2.1, roK 4 1 zlr v193 x185.2.2.2.2.1] w0 w195 := hP.upd (i := 3) rfl u196
        refine wn (wp_seq ?_)
        have hP : Post No [roK 34 1 i8E a1v a1, zlm b1 ((zln a0)).toArray 23, memK mg19 x183.2.2.2, zlm b31 #[v187, v189, (I x185.2.2.1), v191, v193, (I x185.2.2.2.2.2)] 32, rowK 3 1 i64 v174 x173, roK 3 1 i64 v187 x185.1, roK 3 1 i64 v189 x185.2.1, roK 3 1 i64 v191 x185.2.2.2.1, roK 4 1 zlr v193 x185.2.2.2.2.1] w0 w195 := hP.pick [0, 1, 2, 3, 9, 11, 12, 13, 14] rfl rfl
        refine zbo (N := 194) (Y := Bool) (G := Unit) (fun x γ => [(0, (.agg (zln a0).toArray)), (1, a1v), (2, (zp b1)), (31, (.bool x11)), (5, (zp mg19.mb)), (6, (zp b31)), (43, (.bool false)), (4, (.bool x38.1)), (7, v174), (8, (I x38.2.2.1)), (47, (.bool (decide (x38.2.2.1 < (a1.length : Int))))), (54, (.bool (decide (x43 < 0)))), (125, (.bool (decide ((x38.2.1.length : Int) > 0)))), (15, (I ((W x164).tmod (x38.2.1.length : Int)))), (16, (I x166)), (17, (I x183.1)), (19, (.bool x183.2.2.1)), (168, (.bool x))]) (fun x γ w => Post No [roK 34 1 i8E a1v a1, zlm b1 ((zln a0)).toArray 23, memK mg19 x183.2.2.2, zlm b31 #[v187, v189, (I x185.2.2.1), v191, v193, (I x185.2.2.2.2.2)] 32, rowK 3 1 i64 v174 x173, roK 3 1 i64 v187 x185.1, roK 3 1 i64 v189 x185.2.1, roK 3 1 i64 v191 x185.2.2.2.1, roK 4 1 zlr v193 x185.2.2.2.2.1] w0 w) hD ?_ ?_
        ·
         rintro y197 RPy197 nxy197 hD
         refine wp_region_lit (za0 (I x183.1) r (fun R => za5 r rfl) rfl fun fr r => za0 (I x166) r (fun R => za5 r rfl) rfl fun fr r => za0 _ r (fun R => zlt r rfl rfl rfl rfl) rfl fun fr r => za0 (.bool (x183.1 != x166)) r (fun R => za5 r rfl) rfl fun fr r => ?_)
         refine zay (x183.1 != x166) (fun h198 => ?_) (fun h198 => ?_)
         ·
          have hD := (zao h198).symm.trans hD
          refine s0 r h198 fun fr r => s0 r h198 fun fr r => za0 (.bool true) r (fun R => zai r (b := true) (congrArg Value.bool h198) rfl) rfl fun fr r => wn ?_
          exact nxy197 true () _ _ _ hD r (za1 rfl (za1 rfl (za1 rfl (za1 rfl (za1 rfl (za1 rfl (za1 rfl (za1 rfl (za1 rfl (za1 rfl (za1 rfl (za1 rfl (za1 rfl (za1 rfl (za1 rfl (za1 rfl (za1 rfl (za1 rfl zaz)))))))))))))))))) (hP.pick [0, 1, 2, 3, 4, 5, 6, 7, 8] rfl rfl)
         ·
          have hD := (zah h198).symm.trans hD
          refine s1 r h198 (za0 (.bool x183.2.2.1) r (fun R => za5 r rfl) rfl fun fr r => s1 r h198 (za0 (.bool (!x183.2.2.1)) r (fun R => y_un r (u := (.bool x183.2.2.1)) rfl rfl) rfl fun fr r => za0 (.bool (!x183.2.2.1)) r (fun R => zai r (b := false) (congrArg Value.bool h198) rfl) rfl fun fr r => wn ?_))
          exact nxy197 (!x183.2.2.1) () _ _ _ hD r (za1 rfl (za1 rfl (za1 rfl (za1 rfl (za1 rfl (za1 rfl (za1 rfl (za1 rfl (za1 rfl (za1 rfl (za1 rfl (za1 rfl (za1 rfl (za1 rfl (za1 rfl (za1 rfl (za1 rfl (za1 rfl zaz)))))))))))))))))) (hP.pick [0, 1, 2, 3, 4, 5, 6, 7, 8] rfl rfl)
        ·
         rintro x199 γ200 fr w201 g r hP hD
         have hP : Post No [roK 34 1 i8E a1v a1, zlm b1 ((zln a0)).toArray 23, memK mg19 x183.2.2.2, zlm b31 #[v187, v189, (I x185.2.2.1), v191, v193, (I x185.2.2.2.2.2)] 32, rowK 3 1 i64 v174 x173, roK 3 1 i64 v187 x185.1, roK 3 1 i64 v189 x185.2.1, roK 3 1 i64 v191 x185.2.2.2.1, roK 4 1 zlr v193 x185.2.2.2.2.1] w0 w201 := hP
         refine wp_cond_split (t := x199) (r.ev rfl) (fun h202 => ?_) (fun h202 => ?_)
         ·
          have hD := (zao h202).symm.trans hD
          refine wsr (za0 (.bool false) r (fun R => za6 r rfl) rfl fun fr r => wn (wp_ret ?_))
          refine rty40 false _ _ hD fun hD => ?_
          have hv : false = res := Option.some.inj hD
          try dsimp only [Exit.then, Exit.inBlock]
          refine zaA (fn := Tryz.f3) r (t := 4) rfl (v := (.bool false)) rfl ?_
          subst hv
          exact ⟨rfl, hP.chg.below⟩
         ·
          have hD := (zah h202).symm.trans hD
          refine wp_skip (wp_seq ?_)
          refine zbo (N := 194) (Y := Bool) (G := Unit) (fun x γ => [(0, (.agg (zln a0).toArray)), (1, a1v), (2, (zp b1)), (31, (.bool x11)), (5, (zp mg19.mb)), (6, (zp b31)), (43, (.bool false)), (4, (.bool x38.1)), (7, v174), (8, (I x38.2.2.1)), (47, (.bool (decide (x38.2.2.1 < (a1.length : Int))))), (54, (.bool (decide (x43 < 0)))), (125, (.bool (decide ((x38.2.1.length : Int) > 0)))), (15, (I ((W x164).tmod (x38.2.1.length : Int)))), (16, (I x166)), (17, (I x183.1)), (19, (.bool x183.2.2.1)), (168, (.bool x199)), (193, (.bool x))]) (fun x γ w => Post No [roK 34 1 i8E a1v a1, zlm b1 ((zln a0)).toArray 23, memK mg19 x183.2.2.2, zlm b31 #[v187, v189, (I x185.2.2.1), v191, v193, (I x185.2.2.2.2.2)] 32, rowK 3 1 i64 v174 x173, roK 3 1 i64 v187 x185.1, roK 3 1 i64 v189 x185.2.1, roK 3 1 i64 v191 x185.2.2.2.1, roK 4 1 zlr v193 x185.2.2.2.2.1] w0 w) hD ?_ ?_
          ·
           rintro y203 RPy203 nxy203 hD
           obtain ⟨x204, hx204, hD⟩ := zad hD
           obtain ⟨x207, hx207, hD⟩ := zad hD
           refine zay (!x207) (fun h208 => ?_) (fun h208 => ?_)
           ·
            have hD := (zao h208).symm.trans hD
            refine zbn [.val (.agg (zln a0).toArray), .val (zp mg19.mb), .pred (MkP (fun v209 : Value => v209) (fun v209 : Value => [rowK 3 1 i64 v209 x204])) (MkP.st _ _), .val (zp b31), .val v187, .val (.bool x207), .val (.bool (!x207)), .val (.bool (!x207)), .val undef, .val undef, .val undef, .val undef, .val undef, .val undef, .val undef, .val (.bool true), .val (.bool true), .val undef, .val undef, .val undef, .val undef, .val undef, .val undef, .val undef, .val (.bool true)] mixed r (by kernel_rfl) ?_ ?_
            ·
             refine fc r (fun fr1 g w' hb' hd r' => za7 r' (cs := (zln a0)) (n := 6) rfl ((hP.below (dr hb')).cell (i := 1) rfl) ta23 rfl bz) ?_
             refine fc r (fun fr1 g w' hb' hd r' => za5 r' rfl bz) ?_
             refine fc r (fun fr1 g w' hb' hd r' => zac r' (args := [(.agg (zln a0).toArray), (zp mg19.mb), (I 0)]) (lc (hd 0 rfl).1 (lc (hd 1 rfl).1 (lc rfl l0))) cl37 ((zbP _ a0 x183.2.2.2 ((hP.below (dr hb')).mem (i := 2) rfl) 0 hx204).mono (by rintro _ w2 ⟨y, rfl, hq⟩; exact ⟨_, rfl, hq.chg.below, MkP.of y hq⟩))) ?_
             refine fc r (fun fr1 g w' hb' hd r' => za4 r' (b := b31) (o := 0) rfl zcx bz) ?_
             refine fc r (fun fr1 g w' hb' hd r' => za2 r' (hd 3 rfl).1 ((hP.below (dr hb')).cell (i := 3) rfl) to29 rfl bz) ?_
             refine fc r (fun fr1 g w' hb' hd r' => zac r' (args := [(g 2).v, v187]) (lc rfl (lc (hd 4 rfl).1 l0)) cl36 ((zaC _ x204 (MkP.row (hd 2 rfl).1) x185.1 ((hP.below (dr hb')).ro (i := 5) rfl) hx207).mono (by rintro _ w2 ⟨rfl, hb2⟩; exact ⟨_, rfl, hb2, rfl⟩))) ?_
             refine fc r (fun fr1 g w' hb' hd r' => y_un r' (u := (.bool x207)) (v := (.bool (!x207))) (hd 5 rfl).1 rfl bz) ?_
             refine fc r (fun fr1 g w' hb' hd r' => za5 r' (hd 6 rfl).1 bz) ?_
             refine zae false (.bool true) r rfl rfl rfl (fun g w' hd => Eq.trans (show (g 7).v = .bool (!x207) from (hd 7 rfl).1) (congrArg Value.bool h208)) (by simp [zlu]) (fun _ _ => ⟨Below.refl _ _, rfl⟩) ?_
             refine zae false (.bool true) r rfl rfl rfl (fun g w' hd => Eq.trans (show (g 7).v = .bool (!x207) from (hd 7 rfl).1) (congrArg Value.bool h208)) (by simp [zlu]) (fun _ _ => ⟨Below.refl _ _, rfl⟩) ?_
             refine zae false (.bool true) r rfl rfl rfl (fun g w' hd => Eq.trans (show (g 7).v = .bool (!x207) from (hd 7 rfl).1) (congrArg Value.bool h208)) (by simp [zlu]) (fun _ _ => ⟨Below.refl _ _, rfl⟩) ?_
             refine zae false (.bool true) r rfl rfl rfl (fun g w' hd => Eq.trans (show (g 7).v = .bool (!x207) from (hd 7 rfl).1) (congrArg Value.bool h208)) (by simp [zlu]) (fun _ _ => ⟨Below.refl _ _, rfl⟩) ?_
             refine zae false (.bool true) r rfl rfl rfl (fun g w' hd => Eq.trans (show (g 7).v = .bool (!x207) from (hd 7 rfl).1) (congrArg Value.bool h208)) (by simp [zlu]) (fun _ _ => ⟨Below.refl _ _, rfl⟩) ?_
             refine zae false (.bool true) r rfl rfl rfl (fun g w' hd => Eq.trans (show (g 7).v = .bool (!x207) from (hd 7 rfl).1) (congrArg Value.bool h208)) (by simp [zlu]) (fun _ _ => ⟨Below.refl _ _, rfl⟩) ?_
             refine zae false (.bool true) r rfl rfl rfl (fun g w' hd => Eq.trans (show (g 7).v = .bool (!x207) from (hd 7 rfl).1) (congrArg Value.bool h208)) (by simp [zlu]) (fun _ _ => ⟨Below.refl _ _, rfl⟩) ?_
             refine fc r (fun fr1 g w' hb' hd r' => zai r' (b := true) (v := (.bool true)) (Eq.trans (show (g 7).v = .bool (!x207) from (hd 7 rfl).1) (congrArg Value.bool h208)) rfl bz) ?_
             refine fc r (fun fr1 g w' hb' hd r' => za5 r' (hd 15 rfl).1 bz) ?_
             refine zae false (.bool true) r rfl rfl rfl (fun g w' hd => Eq.trans (show (g 16).v = .bool true from (hd 16 rfl).1) (congrArg Value.bool (rfl : true = _))) (by simp [zlu]) (fun _ _ => ⟨Below.refl _ _, rfl⟩) ?_
             refine zae false (.bool true) r rfl rfl rfl (fun g w' hd => Eq.trans (show (g 16).v = .bool true from (hd 16 rfl).1) (congrArg Value.bool (rfl : true = _))) (by simp [zlu]) (fun _ _ => ⟨Below.refl _ _, rfl⟩) ?_
             refine zae false (.bool true) r rfl rfl rfl (fun g w' hd => Eq.trans (show (g 16).v = .bool true from (hd 16 rfl).1) (congrArg Value.bool (rfl : true = _))) (by simp [zlu]) (fun _ _ => ⟨Below.refl _ _, rfl⟩) ?_
             refine zae false (.bool true) r rfl rfl rfl (fun g w' hd => Eq.trans (show (g 16).v = .bool true from (hd 16 rfl).1) (congrArg Value.bool (rfl : true = _))) (by simp [zlu]) (fun _ _ => ⟨Below.refl _ _, rfl⟩) ?_
             refine zae false (.bool true) r rfl rfl rfl (fun g w' hd => Eq.trans (show (g 16).v = .bool true from (hd 16 rfl).1) (congrArg Value.bool (rfl : true = _))) (by simp [zlu]) (fun _ _ => ⟨Below.refl _ _, rfl⟩) ?_
             refine zae false (.bool true) r rfl rfl rfl (fun g w' hd => Eq.trans (show (g 16).v = .bool true from (hd 16 rfl).1) (congrArg Value.bool (rfl : true = _))) (by simp [zlu]) (fun _ _ => ⟨Below.refl _ _, rfl⟩) ?_
             refine zae false (.bool true) r rfl rfl rfl (fun g w' hd => Eq.trans (show (g 16).v = .bool true from (hd 16 rfl).1) (congrArg Value.bool (rfl : true = _))) (by simp [zlu]) (fun _ _ => ⟨Below.refl _ _, rfl⟩) ?_
             refine fc r (fun fr1 g w' hb' hd r' => zai r' (b := true) (v := (.bool true)) (Eq.trans (show (g 16).v = .bool true from (hd 16 rfl).1) (congrArg Value.bool (rfl : true = _))) rfl bz) ?_
             exact zb1
            ·
             intro fr gg w211 hb hΦ hap r
             obtain ⟨v209, g2, hs2⟩ := (hΦ 2 rfl).1
             have r := r.congr (sc ((hΦ 24 rfl).1) (sc ((hΦ 23 rfl).1) (sc ((hΦ 22 rfl).1) (sc ((hΦ 21 rfl).1) (sc ((hΦ 20 rfl).1) (sc ((hΦ 19 rfl).1) (sc ((hΦ 18 rfl).1) (sc ((hΦ 17 rfl).1) (sc ((hΦ 16 rfl).1) (sc ((hΦ 15 rfl).1) (sc ((hΦ 14 rfl).1) (sc ((hΦ 13 rfl).1) (sc ((hΦ 12 rfl).1) (sc ((hΦ 11 rfl).1) (sc ((hΦ 10 rfl).1) (sc ((hΦ 9 rfl).1) (sc ((hΦ 8 rfl).1) (sc ((hΦ 7 rfl).1) (sc ((hΦ 6 rfl).1) (sc ((hΦ 5 rfl).1) (sc ((hΦ 4 rfl).1) (sc ((hΦ 3 rfl).1) (sc g2 (sc ((hΦ 1 rfl).1) (sc ((hΦ 0 rfl).1) rfl)))))))))))))))))))))))))
             have hP : Post No [roK 34 1 i8E a1v a1, zlm b1 ((zln a0)).toArray 23, memK mg19 x183.2.2.2, zlm b31 #[v187, v189, (I x185.2.2.1), v191, v193, (I x185.2.2.2.2.2)] 32, rowK 3 1 i64 v174 x173, roK 3 1 i64 v187 x185.1, roK 3 1 i64 v189 x185.2.1, roK 3 1 i64 v191 x185.2.2.2.1, roK 4 1 zlr v193 x185.2.2.2.2.1, rowK 3 1 i64 v209 x204] w0 w211 := hP.addL (l := [([rowK 3 1 i64 v209 x204], (gg 2).lo, (gg 2).hi)]) hb ⟨hs2, (hΦ 2 rfl).2.1, zbl, trivial⟩
             exact nxy203 true () _ _ _ hD r (za1 rfl (za1 rfl (za1 rfl (za1 rfl (za1 rfl (za1 rfl (za1 rfl (za1 rfl (za1 rfl (za1 rfl (za1 rfl (za1 rfl (za1 rfl (za1 rfl (za1 rfl (za1 rfl (za1 rfl (za1 rfl (za1 rfl zaz))))))))))))))))))) (hP.pick [0, 1, 2, 3, 4, 5, 6, 7, 8] rfl rfl)
           ·
            have hD := (zah h208).symm.trans hD
            obtain ⟨x214, hx214, hD⟩ := zad hD
            obtain ⟨x217, hx217, hD⟩ := zad hD
            refine zay (!x217) (fun h218 => ?_) (fun h218 => ?_)
            ·
             have hD := (zao h218).symm.trans hD
             refine zbn [.val (.agg (zln a0).toArray), .val (zp mg19.mb), .pred (MkP (fun v219 : Value => v219) (fun v219 : Value => [rowK 3 1 i64 v219 x204])) (MkP.st _ _), .val (zp b31), .val v187, .val (.bool x207), .val (.bool (!x207)), .val (.bool (!x207)), .val (.agg (zln a0).toArray), .val (zp mg19.mb), .pred (MkP (fun v221 : Value => v221) (fun v221 : Value => [rowK 3 1 i64 v221 x214])) (MkP.st _ _), .val (.pointer (some ⟨b31, 1, none⟩)), .val v189, .val (.bool x217), .val (.bool (!x217)), .val (.bool (!x217)), .val (.bool (!x217)), .val undef, .val undef, .val undef, .val undef, .val undef, .val undef, .val undef, .val (.bool true)] mixed r (by kernel_rfl) ?_ ?_
             ·
              refine fc r (fun fr1 g w' hb' hd r' => za7 r' (cs := (zln a0)) (n := 6) rfl ((hP.below (dr hb')).cell (i := 1) rfl) ta23 rfl bz) ?_
              refine fc r (fun fr1 g w' hb' hd r' => za5 r' rfl bz) ?_
              refine fc r (fun fr1 g w' hb' hd r' => zac r' (args := [(.agg (zln a0).toArray), (zp mg19.mb), (I 0)]) (lc (hd 0 rfl).1 (lc (hd 1 rfl).1 (lc rfl l0))) cl37 ((zbP _ a0 x183.2.2.2 ((hP.below (dr hb')).mem (i := 2) rfl) 0 hx204).mono (by rintro _ w2 ⟨y, rfl, hq⟩; exact ⟨_, rfl, hq.chg.below, MkP.of y hq⟩))) ?_
              refine fc r (fun fr1 g w' hb' hd r' => za4 r' (b := b31) (o := 0) rfl zcx bz) ?_
              refine fc r (fun fr1 g w' hb' hd r' => za2 r' (hd 3 rfl).1 ((hP.below (dr hb')).cell (i := 3) rfl) to29 rfl bz) ?_
              refine fc r (fun fr1 g w' hb' hd r' => zac r' (args := [(g 2).v, v187]) (lc rfl (lc (hd 4 rfl).1 l0)) cl36 ((zaC _ x204 (MkP.row (hd 2 rfl).1) x185.1 ((hP.below (dr hb')).ro (i := 5) rfl) hx207).mono (by rintro _ w2 ⟨rfl, hb2⟩; exact ⟨_, rfl, hb2, rfl⟩))) ?_
              refine fc r (fun fr1 g w' hb' hd r' => y_un r' (u := (.bool x207)) (v := (.bool (!x207))) (hd 5 rfl).1 rfl bz) ?_
              refine fc r (fun fr1 g w' hb' hd r' => za5 r' (hd 6 rfl).1 bz) ?_
              refine zab false r rfl rfl rfl (fun g w' hd => Eq.trans (show (g 7).v = .bool (!x207) from (hd 7 rfl).1) (congrArg Value.bool h208)) (fun fr1 g w' hb' hd r' => ?_) ?_
              · exact za7 r' (cs := (zln a0)) (n := 6) rfl ((hP.below (dr hb')).cell (i := 1) rfl) ta23 rfl ⟨Below.refl _ _, rfl⟩
              refine zab false r rfl rfl rfl (fun g w' hd => Eq.trans (show (g 7).v = .bool (!x207) from (hd 7 rfl).1) (congrArg Value.bool h208)) (fun fr1 g w' hb' hd r' => ?_) ?_
              · exact za5 r' (v := (zp mg19.mb)) rfl ⟨Below.refl _ _, rfl⟩
              refine zab false r rfl rfl rfl (fun g w' hd => Eq.trans (show (g 7).v = .bool (!x207) from (hd 7 rfl).1) (congrArg Value.bool h208)) (fun fr1 g w' hb' hd r' => ?_) ?_
              · exact zac r' (args := [(.agg (zln a0).toArray), (zp mg19.mb), (I 0), (I 0)]) (lc (hd 8 rfl).1 (lc (hd 9 rfl).1 (lc rfl (lc rfl l0)))) cl38 ((zce _ a0 x183.2.2.2 ((hP.below (dr hb')).mem (i := 2) rfl) 0 0 hx214).mono (by rintro _ w2 ⟨y, rfl, hq⟩; exact ⟨_, rfl, hq.chg.below, MkP.of y hq⟩))
              refine zab false r rfl rfl rfl (fun g w' hd => Eq.trans (show (g 7).v = .bool (!x207) from (hd 7 rfl).1) (congrArg Value.bool h208)) (fun fr1 g w' hb' hd r' => ?_) ?_
              · exact za4 r' (b := b31) (o := 0) (k := 1) rfl zem ⟨Below.refl _ _, rfl⟩
              refine zab false r rfl rfl rfl (fun g w' hd => Eq.trans (show (g 7).v = .bool (!x207) from (hd 7 rfl).1) (congrArg Value.bool h208)) (fun fr1 g w' hb' hd r' => ?_) ?_
              · exact za2 r' (v := v189) (hd 11 rfl).1 ((hP.below (dr hb')).cell (i := 3) rfl) to29 rfl ⟨Below.refl _ _, rfl⟩
              refine zab false r rfl rfl rfl (fun g w' hd => Eq.trans (show (g 7).v = .bool (!x207) from (hd 7 rfl).1) (congrArg Value.bool h208)) (fun fr1 g w' hb' hd r' => ?_) ?_
              · exact zac r' (args := [(g 10).v, v189]) (lc rfl (lc (hd 12 rfl).1 l0)) cl36 ((zaC _ x214 (MkP.row (hd 10 rfl).1) x185.2.1 ((hP.below (dr hb')).ro (i := 6) rfl) hx217).mono (by rintro _ w2 ⟨rfl, hb2⟩; exact ⟨_, rfl, hb2, rfl⟩))
              refine zab false r rfl rfl rfl (fun g w' hd => Eq.trans (show (g 7).v = .bool (!x207) from (hd 7 rfl).1) (congrArg Value.bool h208)) (fun fr1 g w' hb' hd r' => ?_) ?_
              · exact y_un r' (u := (.bool x217)) (v := (.bool (!x217))) (hd 13 rfl).1 rfl ⟨Below.refl _ _, rfl⟩
              refine fc r (fun fr1 g w' hb' hd r' => zai r' (b := false) (v := (.bool (!x217))) (Eq.trans (show (g 7).v = .bool (!x207) from (hd 7 rfl).1) (congrArg Value.bool h208)) (hd 14 rfl).1 bz) ?_
              refine fc r (fun fr1 g w' hb' hd r' => za5 r' (hd 15 rfl).1 bz) ?_
              refine zae false (.bool true) r rfl rfl rfl (fun g w' hd => Eq.trans (show (g 16).v = .bool (!x217) from (hd 16 rfl).1) (congrArg Value.bool h218)) (by simp [zlu]) (fun _ _ => ⟨Below.refl _ _, rfl⟩) ?_
              refine zae false (.bool true) r rfl rfl rfl (fun g w' hd => Eq.trans (show (g 16).v = .bool (!x217) from (hd 16 rfl).1) (congrArg Value.bool h218)) (by simp [zlu]) (fun _ _ => ⟨Below.refl _ _, rfl⟩) ?_
              refine zae false (.bool true) r rfl rfl rfl (fun g w' hd => Eq.trans (show (g 16).v = .bool (!x217) from (hd 16 rfl).1) (congrArg Value.bool h218)) (by simp [zlu]) (fun _ _ => ⟨Below.refl _ _, rfl⟩) ?_
              refine zae false (.bool true) r rfl rfl rfl (fun g w' hd => Eq.trans (show (g 16).v = .bool (!x217) from (hd 16 rfl).1) (congrArg Value.bool h218)) (by simp [zlu]) (fun _ _ => ⟨Below.refl _ _, rfl⟩) ?_
              refine zae false (.bool true) r rfl rfl rfl (fun g w' hd => Eq.trans (show (g 16).v = .bool (!x217) from (hd 16 rfl).1) (congrArg Value.bool h218)) (by simp [zlu]) (fun _ _ => ⟨Below.refl _ _, rfl⟩) ?_
              refine zae false (.bool true) r rfl rfl rfl (fun g w' hd => Eq.trans (show (g 16).v = .bool (!x217) from (hd 16 rfl).1) (congrArg Value.bool h218)) (by simp [zlu]) (fun _ _ => ⟨Below.refl _ _, rfl⟩) ?_
              refine zae false (.bool true) r rfl rfl rfl (fun g w' hd => Eq.trans (show (g 16).v = .bool (!x217) from (hd 16 rfl).1) (congrArg Value.bool h218)) (by simp [zlu]) (fun _ _ => ⟨Below.refl _ _, rfl⟩) ?_
              refine fc r (fun fr1 g w' hb' hd r' => zai r' (b := true) (v := (.bool true)) (Eq.trans (show (g 16).v = .bool (!x217) from (hd 16 rfl).1) (congrArg Value.bool h218)) rfl bz) ?_
              exact zb1
             ·
              intro fr gg w223 hb hΦ hap r
              obtain ⟨v219, g2, hs2⟩ := (hΦ 2 rfl).1
              obtain ⟨v221, g10, hs10⟩ := (hΦ 10 rfl).1
              have r := r.congr (sc ((hΦ 24 rfl).1) (sc ((hΦ 23 rfl).1) (sc ((hΦ 22 rfl).1) (sc ((hΦ 21 rfl).1) (sc ((hΦ 20 rfl).1) (sc ((hΦ 19 rfl).1) (sc ((hΦ 18 rfl).1) (sc ((hΦ 17 rfl).1) (sc ((hΦ 16 rfl).1) (sc ((hΦ 15 rfl).1) (sc ((hΦ 14 rfl).1) (sc ((hΦ 13 rfl).1) (sc ((hΦ 12 rfl).1) (sc ((hΦ 11 rfl).1) (sc g10 (sc ((hΦ 9 rfl).1) (sc ((hΦ 8 rfl).1) (sc ((hΦ 7 rfl).1) (sc ((hΦ 6 rfl).1) (sc ((hΦ 5 rfl).1) (sc ((hΦ 4 rfl).1) (sc ((hΦ 3 rfl).1) (sc g2 (sc ((hΦ 1 rfl).1) (sc ((hΦ 0 rfl).1) rfl)))))))))))))))))))))))))
              have hP : Post No [roK 34 1 i8E a1v a1, zlm b1 ((zln a0)).toArray 23, memK mg19 x183.2.2.2, zlm b31 #[v187, v189, (I x185.2.2.1), v191, v193, (I x185.2.2.2.2.2)] 32, rowK 3 1 i64 v174 x173, roK 3 1 i64 v187 x185.1, roK 3 1 i64 v189 x185.2.1, roK 3 1 i64 v191 x185.2.2.2.1, roK 4 1 zlr v193 x185.2.2.2.2.1, rowK 3 1 i64 v219 x204, rowK 3 1 i64 v221 x214] w0 w223 := hP.addL (l := [([rowK 3 1 i64 v219 x204], (gg 2).lo, (gg 2).hi), ([rowK 3 1 i64 v221 x214], (gg 10).lo, (gg 10).hi)]) hb ⟨hs2, (hΦ 2 rfl).2.1, (zcA (hap 2 10 rfl) zbl), ⟨hs10, (hΦ 10 rfl).2.1, zbl, trivial⟩⟩
              exact nxy203 true () _ _ _ hD r (za1 rfl (za1 rfl (za1 rfl (za1 rfl (za1 rfl (za1 rfl (za1 rfl (za1 rfl (za1 rfl (za1 rfl (za1 rfl (za1 rfl (za1 rfl (za1 rfl (za1 rfl (za1 rfl (za1 rfl (za1 rfl (za1 rfl zaz))))))))))))))))))) (hP.pick [0, 1, 2, 3, 4, 5, 6, 7, 8] rfl rfl)
            ·
             have hD := (zah h218).symm.trans hD
             obtain ⟨x228, hx228, hD⟩ := zad hD
             refine zbn [.val (.agg (zln a0).toArray), .val (zp mg19.mb), .pred (MkP (fun v224 : Value => v224) (fun v224 : Value => [rowK 3 1 i64 v224 x204])) (MkP.st _ _), .val (zp b31), .val v187, .val (.bool x207), .val (.bool (!x207)), .val (.bool (!x207)), .val (.agg (zln a0).toArray), .val (zp mg19.mb), .pred (MkP (fun v226 : Value => v226) (fun v226 : Value => [rowK 3 1 i64 v226 x214])) (MkP.st _ _), .val (.pointer (some ⟨b31, 1, none⟩)), .val v189, .val (.bool x217), .val (.bool (!x217)), .val (.bool (!x217)), .val (.bool (!x217)), .val (.agg (zln a0).toArray), .val (zp mg19.mb), .val (I x228), .val (zp b31), .val v187, .val (I (x185.1.length : Int)), .val (.bool (x228 != (x185.1.length : Int))), .val (.bool (x228 != (x185.1.length : Int)))] mixed r (by kernel_rfl) ?_ ?_
             ·
              refine fc r (fun fr1 g w' hb' hd r' => za7 r' (cs := (zln a0)) (n := 6) rfl ((hP.below (dr hb')).cell (i := 1) rfl) ta23 rfl bz) ?_
              refine fc r (fun fr1 g w' hb' hd r' => za5 r' rfl bz) ?_
              refine fc r (fun fr1 g w' hb' hd r' => zac r' (args := [(.agg (zln a0).toArray), (zp mg19.mb), (I 0)]) (lc (hd 0 rfl).1 (lc (hd 1 rfl).1 (lc rfl l0))) cl37 ((zbP _ a0 x183.2.2.2 ((hP.below (dr hb')).mem (i := 2) rfl) 0 hx204).mono (by rintro _ w2 ⟨y, rfl, hq⟩; exact ⟨_, rfl, hq.chg.below, MkP.of y hq⟩))) ?_
              refine fc r (fun fr1 g w' hb' hd r' => za4 r' (b := b31) (o := 0) rfl zcx bz) ?_
              refine fc r (fun fr1 g w' hb' hd r' => za2 r' (hd 3 rfl).1 ((hP.below (dr hb')).cell (i := 3) rfl) to29 rfl bz) ?_
              refine fc r (fun fr1 g w' hb' hd r' => zac r' (args := [(g 2).v, v187]) (lc rfl (lc (hd 4 rfl).1 l0)) cl36 ((zaC _ x204 (MkP.row (hd 2 rfl).1) x185.1 ((hP.below (dr hb')).ro (i := 5) rfl) hx207).mono (by rintro _ w2 ⟨rfl, hb2⟩; exact ⟨_, rfl, hb2, rfl⟩))) ?_
              refine fc r (fun fr1 g w' hb' hd r' => y_un r' (u := (.bool x207)) (v := (.bool (!x207))) (hd 5 rfl).1 rfl bz) ?_
              refine fc r (fun fr1 g w' hb' hd r' => za5 r' (hd 6 rfl).1 bz) ?_
              refine zab false r rfl rfl rfl (fun g w' hd => Eq.trans (show (g 7).v = .bool (!x207) from (hd 7 rfl).1) (congrArg Value.bool h208)) (fun fr1 g w' hb' hd r' => ?_) ?_
              · exact za7 r' (cs := (zln a0)) (n := 6) rfl ((hP.below (dr hb')).cell (i := 1) rfl) ta23 rfl ⟨Below.refl _ _, rfl⟩
              refine zab false r rfl rfl rfl (fun g w' hd => Eq.trans (show (g 7).v = .bool (!x207) from (hd 7 rfl).1) (congrArg Value.bool h208)) (fun fr1 g w' hb' hd r' => ?_) ?_
              · exact za5 r' (v := (zp mg19.mb)) rfl ⟨Below.refl _ _, rfl⟩
              refine zab false r rfl rfl rfl (fun g w' hd => Eq.trans (show (g 7).v = .bool (!x207) from (hd 7 rfl).1) (congrArg Value.bool h208)) (fun fr1 g w' hb' hd r' => ?_) ?_
              · exact zac r' (args := [(.agg (zln a0).toArray), (zp mg19.mb), (I 0), (I 0)]) (lc (hd 8 rfl).1 (lc (hd 9 rfl).1 (lc rfl (lc rfl l0)))) cl38 ((zce _ a0 x183.2.2.2 ((hP.below (dr hb')).mem (i := 2) rfl) 0 0 hx214).mono (by rintro _ w2 ⟨y, rfl, hq⟩; exact ⟨_, rfl, hq.chg.below, MkP.of y hq⟩))
              refine zab false r rfl rfl rfl (fun g w' hd => Eq.trans (show (g 7).v = .bool (!x207) from (hd 7 rfl).1) (congrArg Value.bool h208)) (fun fr1 g w' hb' hd r' => ?_) ?_
              · exact za4 r' (b := b31) (o := 0) (k := 1) rfl zem ⟨Below.refl _ _, rfl⟩
              refine zab false r rfl rfl rfl (fun g w' hd => Eq.trans (show (g 7).v = .bool (!x207) from (hd 7 rfl).1) (congrArg Value.bool h208)) (fun fr1 g w' hb' hd r' => ?_) ?_
              · exact za2 r' (v := v189) (hd 11 rfl).1 ((hP.below (dr hb')).cell (i := 3) rfl) to29 rfl ⟨Below.refl _ _, rfl⟩
              refine zab false r rfl rfl rfl (fun g w' hd => Eq.trans (show (g 7).v = .bool (!x207) from (hd 7 rfl).1) (congrArg Value.bool h208)) (fun fr1 g w' hb' hd r' => ?_) ?_
              · exact zac r' (args := [(g 10).v, v189]) (lc rfl (lc (hd 12 rfl).1 l0)) cl36 ((zaC _ x214 (MkP.row (hd 10 rfl).1) x185.2.1 ((hP.below (dr hb')).ro (i := 6) rfl) hx217).mono (by rintro _ w2 ⟨rfl, hb2⟩; exact ⟨_, rfl, hb2, rfl⟩))
              refine zab false r rfl rfl rfl (fun g w' hd => Eq.trans (show (g 7).v = .bool (!x207) from (hd 7 rfl).1) (congrArg Value.bool h208)) (fun fr1 g w' hb' hd r' => ?_) ?_
              · exact y_un r' (u := (.bool x217)) (v := (.bool (!x217))) (hd 13 rfl).1 rfl ⟨Below.refl _ _, rfl⟩
              refine fc r (fun fr1 g w' hb' hd r' => zai r' (b := false) (v := (.bool (!x217))) (Eq.trans (show (g 7).v = .bool (!x207) from (hd 7 rfl).1) (congrArg Value.bool h208)) (hd 14 rfl).1 bz) ?_
              refine fc r (fun fr1 g w' hb' hd r' => za5 r' (hd 15 rfl).1 bz) ?_
              refine zab false r rfl rfl rfl (fun g w' hd => Eq.trans (show (g 16).v = .bool (!x217) from (hd 16 rfl).1) (congrArg Value.bool h218)) (fun fr1 g w' hb' hd r' => ?_) ?_
              · exact za7 r' (cs := (zln a0)) (n := 6) rfl ((hP.below (dr hb')).cell (i := 1) rfl) ta23 rfl ⟨Below.refl _ _, rfl⟩
              refine zab false r rfl rfl rfl (fun g w' hd => Eq.trans (show (g 16).v = .bool (!x217) from (hd 16 rfl).1) (congrArg Value.bool h218)) (fun fr1 g w' hb' hd r' => ?_) ?_
              · exact za5 r' (v := (zp mg19.mb)) rfl ⟨Below.refl _ _, rfl⟩
              refine zab false r rfl rfl rfl (fun g w' hd => Eq.trans (show (g 16).v = .bool (!x217) from (hd 16 rfl).1) (congrArg Value.bool h218)) (fun fr1 g w' hb' hd r' => ?_) ?_
              · exact zac r' (args := [(.agg (zln a0).toArray), (zp mg19.mb), (I 0)]) (lc (hd 17 rfl).1 (lc (hd 18 rfl).1 (lc rfl l0))) cl39 ((zdA _ a0 x183.2.2.2 ((hP.below (dr hb')).mem (i := 2) rfl) 0 hx228).mono (by rintro _ w2 ⟨rfl, hb2⟩; exact ⟨_, rfl, hb2, rfl⟩))
              refine zab false r rfl rfl rfl (fun g w' hd => Eq.trans (show (g 16).v = .bool (!x217) from (hd 16 rfl).1) (congrArg Value.bool h218)) (fun fr1 g w' hb' hd r' => ?_) ?_
              · exact za4 r' (b := b31) (o := 0) (k := 0) rfl zcx ⟨Below.refl _ _, rfl⟩
              refine zab false r rfl rfl rfl (fun g w' hd => Eq.trans (show (g 16).v = .bool (!x217) from (hd 16 rfl).1) (congrArg Value.bool h218)) (fun fr1 g w' hb' hd r' => ?_) ?_
              · exact za2 r' (v := v187) (hd 20 rfl).1 ((hP.below (dr hb')).cell (i := 3) rfl) to29 rfl ⟨Below.refl _ _, rfl⟩
              refine zab false r rfl rfl rfl (fun g w' hd => Eq.trans (show (g 16).v = .bool (!x217) from (hd 16 rfl).1) (congrArg Value.bool h218)) (fun fr1 g w' hb' hd r' => ?_) ?_
              · exact zbj r' ((hP.below (dr hb')).ro (i := 5) rfl) is29 (hd 21 rfl).1 ⟨Below.refl _ _, rfl⟩
              refine zab false r rfl rfl rfl (fun g w' hd => Eq.trans (show (g 16).v = .bool (!x217) from (hd 16 rfl).1) (congrArg Value.bool h218)) (fun fr1 g w' hb' hd r' => ?_) ?_
              · exact zlt r' (u := (I x228)) (u' := (I (x185.1.length : Int))) (v := (.bool (x228 != (x185.1.length : Int)))) (hd 19 rfl).1 (hd 22 rfl).1 rfl rfl ⟨Below.refl _ _, rfl⟩
              refine fc r (fun fr1 g w' hb' hd r' => zai r' (b := false) (v := (.bool (x228 != (x185.1.length : Int)))) (Eq.trans (show (g 16).v = .bool (!x217) from (hd 16 rfl).1) (congrArg Value.bool h218)) (hd 23 rfl).1 bz) ?_
              exact zb1
             ·
              intro fr gg w229 hb hΦ hap r
              obtain ⟨v224, g2, hs2⟩ := (hΦ 2 rfl).1
              obtain ⟨v226, g10, hs10⟩ := (hΦ 10 rfl).1
              have r := r.congr (sc ((hΦ 24 rfl).1) (sc ((hΦ 23 rfl).1) (sc ((hΦ 22 rfl).1) (sc ((hΦ 21 rfl).1) (sc ((hΦ 20 rfl).1) (sc ((hΦ 19 rfl).1) (sc ((hΦ 18 rfl).1) (sc ((hΦ 17 rfl).1) (sc ((hΦ 16 rfl).1) (sc ((hΦ 15 rfl).1) (sc ((hΦ 14 rfl).1) (sc ((hΦ 13 rfl).1) (sc ((hΦ 12 rfl).1) (sc ((hΦ 11 rfl).1) (sc g10 (sc ((hΦ 9 rfl).1) (sc ((hΦ 8 rfl).1) (sc ((hΦ 7 rfl).1) (sc ((hΦ 6 rfl).1) (sc ((hΦ 5 rfl).1) (sc ((hΦ 4 rfl).1) (sc ((hΦ 3 rfl).1) (sc g2 (sc ((hΦ 1 rfl).1) (sc ((hΦ 0 rfl).1) rfl)))))))))))))))))))))))))
              have hP : Post No [roK 34 1 i8E a1v a1, zlm b1 ((zln a0)).toArray 23, memK mg19 x183.2.2.2, zlm b31 #[v187, v189, (I x185.2.2.1), v191, v193, (I x185.2.2.2.2.2)] 32, rowK 3 1 i64 v174 x173, roK 3 1 i64 v187 x185.1, roK 3 1 i64 v189 x185.2.1, roK 3 1 i64 v191 x185.2.2.2.1, roK 4 1 zlr v193 x185.2.2.2.2.1, rowK 3 1 i64 v224 x204, rowK 3 1 i64 v226 x214] w0 w229 := hP.addL (l := [([rowK 3 1 i64 v224 x204], (gg 2).lo, (gg 2).hi), ([rowK 3 1 i64 v226 x214], (gg 10).lo, (gg 10).hi)]) hb ⟨hs2, (hΦ 2 rfl).2.1, (zcA (hap 2 10 rfl) zbl), ⟨hs10, (hΦ 10 rfl).2.1, zbl, trivial⟩⟩
              exact nxy203 (x228 != (x185.1.length : Int)) () _ _ _ hD r (za1 rfl (za1 rfl (za1 rfl (za1 rfl (za1 rfl (za1 rfl (za1 rfl (za1 rfl (za1 rfl (za1 rfl (za1 rfl (za1 rfl (za1 rfl (za1 rfl (za1 rfl (za1 rfl (za1 rfl (za1 rfl (za1 rfl zaz))))))))))))))))))) (hP.pick [0, 1, 2, 3, 4, 5, 6, 7, 8] rfl rfl)
          ·
           rintro x230 γ231 fr w232 g r hP hD
           have hP : Post No [roK 34 1 i8E a1v a1, zlm b1 ((zln a0)).toArray 23, memK mg19 x183.2.2.2, zlm b31 #[v187, v189, (I x185.2.2.1), v191, v193, (I x185.2.2.2.2.2)] 32, rowK 3 1 i64 v174 x173, roK 3 1 i64 v187 x185.1, roK 3 1 i64 v189 x185.2.1, roK 3 1 i64 v191 x185.2.2.2.1, roK 4 1 zlr v193 x185.2.2.2.2.1] w0 w232 := hP
           refine wp_cond_split (t := x230) (r.ev rfl) (fun h233 => ?_) (fun h233 => ?_)
           ·
            have hD := (zao h233).symm.trans hD
            refine wsr (za0 (.bool false) r (fun R => za6 r rfl) rfl fun fr r => wn (wp_ret ?_))
            refine rty40 false _ _ hD fun hD => ?_
            have hv : false = res := Option.some.inj hD
            try dsimp only [Exit.then, Exit.inBlock]
            refine zaA (fn := Tryz.f3) r (t := 4) rfl (v := (.bool false)) rfl ?_
            subst hv
            exact ⟨rfl, hP.chg.below⟩
           ·
            have hD := (zah h233).symm.trans hD
            refine wp_skip ?_
            refine wp_region_lit (za0 (I x38.2.2.1) r (fun R => za5 r rfl) rfl fun fr r => za0 _ r (fun R => zlt r rfl rfl rfl rfl) rfl fun fr r => za0 (I (W (x38.2.2.1 + 1))) r (fun R => za6 r rfl) rfl fun fr r => wn ?_)
            exact nxy40 (x38.1, x173, (W (x38.2.2.1 + 1)), x183.2.2.2, x185.1, x185.2.1, x185.2.2.1, x185.2.2.2.1, x185.2.2.2.2.1, x185.2.2.2.2.2) (v174, v187, v189, v191, v193) _ _ _ hD r (za1 rfl (za1 rfl (za1 rfl (za1 rfl (za1 rfl (za1 rfl (za1 rfl (za1 rfl (za1 rfl (za1 rfl zaz)))))))))) (hP.pick [0, 1, 2, 3, 4, 5, 6, 7, 8] rfl rfl)
      ·
       have hD := (zah h163).symm.trans hD
       refine wp_skip (wp_seq ?_)
       refine zbo (N := 194) (Y := Bool) (G := Unit) (fun x γ => [(0, (.agg (zln a0).toArray)), (1, a1v), (2, (zp b1)), (31, (.bool x11)), (5, (zp mg19.mb)), (6, (zp b31)), (43, (.bool false)), (4, (.bool x38.1)), (7, γ39.1), (8, (I x38.2.2.1)), (47, (.bool (decide (x38.2.2.1 < (a1.length : Int))))), (54, (.bool (decide (x43 < 0)))), (125, (.bool (decide ((x38.2.1.length : Int) > 0)))), (193, (.bool x))]) (fun x γ w => Post No [roK 34 1 i8E a1v a1, zlm b1 ((zln a0)).toArray 23, memK mg19 x38.2.2.2.1, zlm b31 #[γ39.2.1, γ39.2.2.1, (I x38.2.2.2.2.2.2.1), γ39.2.2.2.1, γ39.2.2.2.2, (I x38.2.2.2.2.2.2.2.2.2)] 32, rowK 3 1 i64 γ39.1 x38.2.1, roK 3 1 i64 γ39.2.1 x38.2.2.2.2.1, roK 3 1 i64 γ39.2.2.1 x38.2.2.2.2.2.1, roK 3 1 i64 γ39.2.2.2.1 x38.2.2.2.2.2.2.2.1, roK 4 1 zlr γ39.2.2.2.2 x38.2.2.2.2.2.2.2.2.1] w0 w) hD ?_ ?_
       ·
        rintro y234 RPy234 nxy234 hD
        obtain ⟨x235, hx235, hD⟩ := zad hD
        obtain ⟨x238, hx238, hD⟩ := zad hD
        refine zay (!x238) (fun h239 => ?_) (fun h239 => ?_)
        ·
         have hD := (zao h239).symm.trans hD
         refine zbn [.val (.agg (zln a0).toArray), .val (zp mg19.mb), .pred (MkP (fun v240 : Value => v240) (fun v240 : Value => [rowK 3 1 i64 v240 x235])) (MkP.st _ _), .val (zp b31), .val γ39.2.1, .val (.bool x238), .val (.bool (!x238)), .val (.bool (!x238)), .val undef, .val undef, .val undef, .val undef, .val undef, .val undef, .val undef, .val (.bool true), .val (.bool true), .val undef, .val undef, .val undef, .val undef, .val undef, .val undef, .val undef, .val (.bool true)] mixed r (by kernel_rfl) ?_ ?_
         ·
          refine fc r (fun fr1 g w' hb' hd r' => za7 r' (cs := (zln a0)) (n := 6) rfl ((hP.below (dr hb')).cell (i := 1) rfl) ta23 rfl bz) ?_
          refine fc r (fun fr1 g w' hb' hd r' => za5 r' rfl bz) ?_
          refine fc r (fun fr1 g w' hb' hd r' => zac r' (args := [(.agg (zln a0).toArray), (zp mg19.mb), (I 0)]) (lc (hd 0 rfl).1 (lc (hd 1 rfl).1 (lc rfl l0))) cl37 ((zbP _ a0 x38.2.2.2.1 ((hP.below (dr hb')).mem (i := 2) rfl) 0 hx235).mono (by rintro _ w2 ⟨y, rfl, hq⟩; exact ⟨_, rfl, hq.chg.below, MkP.of y hq⟩))) ?_
          refine fc r (fun fr1 g w' hb' hd r' => za4 r' (b := b31) (o := 0) rfl zcx bz) ?_
          refine fc r (fun fr1 g w' hb' hd r' => za2 r' (hd 3 rfl).1 ((hP.below (dr hb')).cell (i := 3) rfl) to29 rfl bz) ?_
          refine fc r (fun fr1 g w' hb' hd r' => zac r' (args := [(g 2).v, γ39.2.1]) (lc rfl (lc (hd 4 rfl).1 l0)) cl36 ((zaC _ x235 (MkP.row (hd 2 rfl).1) x38.2.2.2.2.1 ((hP.below (dr hb')).ro (i := 5) rfl) hx238).mono (by rintro _ w2 ⟨rfl, hb2⟩; exact ⟨_, rfl, hb2, rfl⟩))) ?_
          refine fc r (fun fr1 g w' hb' hd r' => y_un r' (u := (.bool x238)) (v := (.bool (!x238))) (hd 5 rfl).1 rfl bz) ?_
          refine fc r (fun fr1 g w' hb' hd r' => za5 r' (hd 6 rfl).1 bz) ?_
          refine zae false (.bool true) r rfl rfl rfl (fun g w' hd => Eq.trans (show (g 7).v = .bool (!x238) from (hd 7 rfl).1) (congrArg Value.bool h239)) (by simp [zlu]) (fun _ _ => ⟨Below.refl _ _, rfl⟩) ?_
          refine zae false (.bool true) r rfl rfl rfl (fun g w' hd => Eq.trans (show (g 7).v = .bool (!x238) from (hd 7 rfl).1) (congrArg Value.bool h239)) (by simp [zlu]) (fun _ _ => ⟨Below.refl _ _, rfl⟩) ?_
          refine zae false (.bool true) r rfl rfl rfl (fun g w' hd => Eq.trans (show (g 7).v = .bool (!x238) from (hd 7 rfl).1) (congrArg Value.bool h239)) (by simp [zlu]) (fun _ _ => ⟨Below.refl _ _, rfl⟩) ?_
          refine zae false (.bool true) r rfl rfl rfl (fun g w' hd => Eq.trans (show (g 7).v = .bool (!x238) from (hd 7 rfl).1) (congrArg Value.bool h239)) (by simp [zlu]) (fun _ _ => ⟨Below.refl _ _, rfl⟩) ?_
          refine zae false (.bool true) r rfl rfl rfl (fun g w' hd => Eq.trans (show (g 7).v = .bool (!x238) from (hd 7 rfl).1) (congrArg Value.bool h239)) (by simp [zlu]) (fun _ _ => ⟨Below.refl _ _, rfl⟩) ?_
          refine zae false (.bool true) r rfl rfl rfl (fun g w' hd => Eq.trans (show (g 7).v = .bool (!x238) from (hd 7 rfl).1) (congrArg Value.bool h239)) (by simp [zlu]) (fun _ _ => ⟨Below.refl _ _, rfl⟩) ?_
          refine zae false (.bool true) r rfl rfl rfl (fun g w' hd => Eq.trans (show (g 7).v = .bool (!x238) from (hd 7 rfl).1) (congrArg Value.bool h239)) (by simp [zlu]) (fun _ _ => ⟨Below.refl _ _, rfl⟩) ?_
          refine fc r (fun fr1 g w' hb' hd r' => zai r' (b := true) (v := (.bool true)) (Eq.trans (show (g 7).v = .bool (!x238) from (hd 7 rfl).1) (congrArg Value.bool h239)) rfl bz) ?_
          refine fc r (fun fr1 g w' hb' hd r' => za5 r' (hd 15 rfl).1 bz) ?_
          refine zae false (.bool true) r rfl rfl rfl (fun g w' hd => Eq.trans (show (g 16).v = .bool true from (hd 16 rfl).1) (congrArg Value.bool (rfl : true = _))) (by simp [zlu]) (fun _ _ => ⟨Below.refl _ _, rfl⟩) ?_
          refine zae false (.bool true) r rfl rfl rfl (fun g w' hd => Eq.trans (show (g 16).v = .bool true from (hd 16 rfl).1) (congrArg Value.bool (rfl : true = _))) (by simp [zlu]) (fun _ _ => ⟨Below.refl _ _, rfl⟩) ?_
          refine zae false (.bool true) r rfl rfl rfl (fun g w' hd => Eq.trans (show (g 16).v = .bool true from (hd 16 rfl).1) (congrArg Value.bool (rfl : true = _))) (by simp [zlu]) (fun _ _ => ⟨Below.refl _ _, rfl⟩) ?_
          refine zae false (.bool true) r rfl rfl rfl (fun g w' hd => Eq.trans (show (g 16).v = .bool true from (hd 16 rfl).1) (congrArg Value.bool (rfl : true = _))) (by simp [zlu]) (fun _ _ => ⟨Below.refl _ _, rfl⟩) ?_
          refine zae false (.bool true) r rfl rfl rfl (fun g w' hd => Eq.trans (show (g 16).v = .bool true from (hd 16 rfl).1) (congrArg Value.bool (rfl : true = _))) (by simp [zlu]) (fun _ _ => ⟨Below.refl _ _, rfl⟩) ?_
          refine zae false (.bool true) r rfl rfl rfl (fun g w' hd => Eq.trans (show (g 16).v = .bool true from (hd 16 rfl).1) (congrArg Value.bool (rfl : true = _))) (by simp [zlu]) (fun _ _ => ⟨Below.refl _ _, rfl⟩) ?_
          refine zae false (.bool true) r rfl rfl rfl (fun g w' hd => Eq.trans (show (g 16).v = .bool true from (hd 16 rfl).1) (congrArg Value.bool (rfl : true = _))) (by simp [zlu]) (fun _ _ => ⟨Below.refl _ _, rfl⟩) ?_
          refine fc r (fun fr1 g w' hb' hd r' => zai r' (b := true) (v := (.bool true)) (Eq.trans (show (g 16).v = .bool true from (hd 16 rfl).1) (congrArg Value.bool (rfl : true = _))) rfl bz) ?_
          exact zb1
         ·
          intro fr gg w242 hb hΦ hap r
          obtain ⟨v240, g2, hs2⟩ := (hΦ 2 rfl).1
          have r := r.congr (sc ((hΦ 24 rfl).1) (sc ((hΦ 23 rfl).1) (sc ((hΦ 22 rfl).1) (sc ((hΦ 21 rfl).1) (sc ((hΦ 20 rfl).1) (sc ((hΦ 19 rfl).1) (sc ((hΦ 18 rfl).1) (sc ((hΦ 17 rfl).1) (sc ((hΦ 16 rfl).1) (sc ((hΦ 15 rfl).1) (sc ((hΦ 14 rfl).1) (sc ((hΦ 13 rfl).1) (sc ((hΦ 12 rfl).1) (sc ((hΦ 11 rfl).1) (sc ((hΦ 10 rfl).1) (sc ((hΦ 9 rfl).1) (sc ((hΦ 8 rfl).1) (sc ((hΦ 7 rfl).1) (sc ((hΦ 6 rfl).1) (sc ((hΦ 5 rfl).1) (sc ((hΦ 4 rfl).1) (sc ((hΦ 3 rfl).1) (sc g2 (sc ((hΦ 1 rfl).1) (sc ((hΦ 0 rfl).1) rfl)))))))))))))))))))))))))
          have hP : Post No [roK 34 1 i8E a1v a1, zlm b1 ((zln a0)).toArray 23, memK mg19 x38.2.2.2.1, zlm b31 #[γ39.2.1, γ39.2.2.1, (I x38.2.2.2.2.2.2.1), γ39.2.2.2.1, γ39.2.2.2.2, (I x38.2.2.2.2.2.2.2.2.2)] 32, rowK 3 1 i64 γ39.1 x38.2.1, roK 3 1 i64 γ39.2.1 x38.2.2.2.2.1, roK 3 1 i64 γ39.2.2.1 x38.2.2.2.2.2.1, roK 3 1 i64 γ39.2.2.2.1 x38.2.2.2.2.2.2.2.1, roK 4 1 zlr γ39.2.2.2.2 x38.2.2.2.2.2.2.2.2.1, rowK 3 1 i64 v240 x235] w0 w242 := hP.addL (l := [([rowK 3 1 i64 v240 x235], (gg 2).lo, (gg 2).hi)]) hb ⟨hs2, (hΦ 2 rfl).2.1, zbl, trivial⟩
          exact nxy234 true () _ _ _ hD r (za1 rfl (za1 rfl (za1 rfl (za1 rfl (za1 rfl (za1 rfl (za1 rfl (za1 rfl (za1 rfl (za1 rfl (za1 rfl (za1 rfl (za1 rfl (za1 rfl zaz)))))))))))))) (hP.pick [0, 1, 2, 3, 4, 5, 6, 7, 8] rfl rfl)
        ·
         have hD := (zah h239).symm.trans hD
         obtain ⟨x245, hx245, hD⟩ := zad hD
         obtain ⟨x248, hx248, hD⟩ := zad hD
         refine zay (!x248) (fun h249 => ?_) (fun h249 => ?_)
         ·
          have hD := (zao h249).symm.trans hD
          refine zbn [.val (.agg (zln a0).toArray), .val (zp mg19.mb), .pred (MkP (fun v250 : Value => v250) (fun v250 : Value => [rowK 3 1 i64 v250 x235])) (MkP.st _ _), .val (zp b31), .val γ39.2.1, .val (.bool x238), .val (.bool (!x238)), .val (.bool (!x238)), .val (.agg (zln a0).toArray), .val (zp mg19.mb), .pred (MkP (fun v252 : Value => v252) (fun v252 : Value => [rowK 3 1 i64 v252 x245])) (MkP.st _ _), .val (.pointer (some ⟨b31, 1, none⟩)), .val γ39.2.2.1, .val (.bool x248), .val (.bool (!x248)), .val (.bool (!x248)), .val (.bool (!x248)), .val undef, .val undef, .val undef, .val undef, .val undef, .val undef, .val undef, .val (.bool true)] mixed r (by kernel_rfl) ?_ ?_
          ·
           refine fc r (fun fr1 g w' hb' hd r' => za7 r' (cs := (zln a0)) (n := 6) rfl ((hP.below (dr hb')).cell (i := 1) rfl) ta23 rfl bz) ?_
           refine fc r (fun fr1 g w' hb' hd r' => za5 r' rfl bz) ?_
           refine fc r (fun fr1 g w' hb' hd r' => zac r' (args := [(.agg (zln a0).toArray), (zp mg19.mb), (I 0)]) (lc (hd 0 rfl).1 (lc (hd 1 rfl).1 (lc rfl l0))) cl37 ((zbP _ a0 x38.2.2.2.1 ((hP.below (dr hb')).mem (i := 2) rfl) 0 hx235).mono (by rintro _ w2 ⟨y, rfl, hq⟩; exact ⟨_, rfl, hq.chg.below, MkP.of y hq⟩))) ?_
           refine fc r (fun fr1 g w' hb' hd r' => za4 r' (b := b31) (o := 0) rfl zcx bz) ?_
           refine fc r (fun fr1 g w' hb' hd r' => za2 r' (hd 3 rfl).1 ((hP.below (dr hb')).cell (i := 3) rfl) to29 rfl bz) ?_
           refine fc r (fun fr1 g w' hb' hd r' => zac r' (args := [(g 2).v, γ39.2.1]) (lc rfl (lc (hd 4 rfl).1 l0)) cl36 ((zaC _ x235 (MkP.row (hd 2 rfl).1) x38.2.2.2.2.1 ((hP.below (dr hb')).ro (i := 5) rfl) hx238).mono (by rintro _ w2 ⟨rfl, hb2⟩; exact ⟨_, rfl, hb2, rfl⟩))) ?_
           refine fc r (fun fr1 g w' hb' hd r' => y_un r' (u := (.bool x238)) (v := (.bool (!x238))) (hd 5 rfl).1 rfl bz) ?_
           refine fc r (fun fr1 g w' hb' hd r' => za5 r' (hd 6 rfl).1 bz) ?_
           refine zab false r rfl rfl rfl (fun g w' hd => Eq.trans (show (g 7).v = .bool (!x238) from (hd 7 rfl).1) (congrArg Value.bool h239)) (fun fr1 g w' hb' hd r' => ?_) ?_
           · exact za7 r' (cs := (zln a0)) (n := 6) rfl ((hP.below (dr hb')).cell (i := 1) rfl) ta23 rfl ⟨Below.refl _ _, rfl⟩
           refine zab false r rfl rfl rfl (fun g w' hd => Eq.trans (show (g 7).v = .bool (!x238) from (hd 7 rfl).1) (congrArg Value.bool h239)) (fun fr1 g w' hb' hd r' => ?_) ?_
           · exact za5 r' (v := (zp mg19.mb)) rfl ⟨Below.refl _ _, rfl⟩
           refine zab false r rfl rfl rfl (fun g w' hd => Eq.trans (show (g 7).v = .bool (!x238) from (hd 7 rfl).1) (congrArg Value.bool h239)) (fun fr1 g w' hb' hd r' => ?_) ?_
           · exact zac r' (args := [(.agg (zln a0).toArray), (zp mg19.mb), (I 0), (I 0)]) (lc (hd 8 rfl).1 (lc (hd 9 rfl).1 (lc rfl (lc rfl l0)))) cl38 ((zce _ a0 x38.2.2.2.1 ((hP.below (dr hb')).mem (i := 2) rfl) 0 0 hx245).mono (by rintro _ w2 ⟨y, rfl, hq⟩; exact ⟨_, rfl, hq.chg.below, MkP.of y hq⟩))
           refine zab false r rfl rfl rfl (fun g w' hd => Eq.trans (show (g 7).v = .bool (!x238) from (hd 7 rfl).1) (congrArg Value.bool h239)) (fun fr1 g w' hb' hd r' => ?_) ?_
           · exact za4 r' (b := b31) (o := 0) (k := 1) rfl zem ⟨Below.refl _ _, rfl⟩
           refine zab false r rfl rfl rfl (fun g w' hd => Eq.trans (show (g 7).v = .bool (!x238) from (hd 7 rfl).1) (congrArg Value.bool h239)) (fun fr1 g w' hb' hd r' => ?_) ?_
           · exact za2 r' (v := γ39.2.2.1) (hd 11 rfl).1 ((hP.below (dr hb')).cell (i := 3) rfl) to29 rfl ⟨Below.refl _ _, rfl⟩
           refine zab false r rfl rfl rfl (fun g w' hd => Eq.trans (show (g 7).v = .bool (!x238) from (hd 7 rfl).1) (congrArg Value.bool h239)) (fun fr1 g w' hb' hd r' => ?_) ?_
           · exact zac r' (args := [(g 10).v, γ39.2.2.1]) (lc rfl (lc (hd 12 rfl).1 l0)) cl36 ((zaC _ x245 (MkP.row (hd 10 rfl).1) x38.2.2.2.2.2.1 ((hP.below (dr hb')).ro (i := 6) rfl) hx248).mono (by rintro _ w2 ⟨rfl, hb2⟩; exact ⟨_, rfl, hb2, rfl⟩))
           refine zab false r rfl rfl rfl (fun g w' hd => Eq.trans (show (g 7).v = .bool (!x238) from (hd 7 rfl).1) (congrArg Value.bool h239)) (fun fr1 g w' hb' hd r' => ?_) ?_
           · exact y_un r' (u := (.bool x248)) (v := (.bool (!x248))) (hd 13 rfl).1 rfl ⟨Below.refl _ _, rfl⟩
           refine fc r (fun fr1 g w' hb' hd r' => zai r' (b := false) (v := (.bool (!x248))) (Eq.trans (show (g 7).v = .bool (!x238) from (hd 7 rfl).1) (congrArg Value.bool h239)) (hd 14 rfl).1 bz) ?_
           refine fc r (fun fr1 g w' hb' hd r' => za5 r' (hd 15 rfl).1 bz) ?_
           refine zae false (.bool true) r rfl rfl rfl (fun g w' hd => Eq.trans (show (g 16).v = .bool (!x248) from (hd 16 rfl).1) (congrArg Value.bool h249)) (by simp [zlu]) (fun _ _ => ⟨Below.refl _ _, rfl⟩) ?_
           refine zae false (.bool true) r rfl rfl rfl (fun g w' hd => Eq.trans (show (g 16).v = .bool (!x248) from (hd 16 rfl).1) (congrArg Value.bool h249)) (by simp [zlu]) (fun _ _ => ⟨Below.refl _ _, rfl⟩) ?_
           refine zae false (.bool true) r rfl rfl rfl (fun g w' hd => Eq.trans (show (g 16).v = .bool (!x248) from (hd 16 rfl).1) (congrArg Value.bool h249)) (by simp [zlu]) (fun _ _ => ⟨Below.refl _ _, rfl⟩) ?_
           refine zae false (.bool true) r rfl rfl rfl (fun g w' hd => Eq.trans (show (g 16).v = .bool (!x248) from (hd 16 rfl).1) (congrArg Value.bool h249)) (by simp [zlu]) (fun _ _ => ⟨Below.refl _ _, rfl⟩) ?_
           refine zae false (.bool true) r rfl rfl rfl (fun g w' hd => Eq.trans (show (g 16).v = .bool (!x248) from (hd 16 rfl).1) (congrArg Value.bool h249)) (by simp [zlu]) (fun _ _ => ⟨Below.refl _ _, rfl⟩) ?_
           refine zae false (.bool true) r rfl rfl rfl (fun g w' hd => Eq.trans (show (g 16).v = .bool (!x248) from (hd 16 rfl).1) (congrArg Value.bool h249)) (by simp [zlu]) (fun _ _ => ⟨Below.refl _ _, rfl⟩) ?_
           refine zae false (.bool true) r rfl rfl rfl (fun g w' hd => Eq.trans (show (g 16).v = .bool (!x248) from (hd 16 rfl).1) (congrArg Value.bool h249)) (by simp [zlu]) (fun _ _ => ⟨Below.refl _ _, rfl⟩) ?_
           refine fc r (fun fr1 g w' hb' hd r' => zai r' (b := true) (v := (.bool true)) (Eq.trans (show (g 16).v = .bool (!x248) from (hd 16 rfl).1) (congrArg Value.bool h249)) rfl bz) ?_
           exact zb1
          ·
           intro fr gg w254 hb hΦ hap r
           obtain ⟨v250, g2, hs2⟩ := (hΦ 2 rfl).1
           obtain ⟨v252, g10, hs10⟩ := (hΦ 10 rfl).1
           have r := r.congr (sc ((hΦ 24 rfl).1) (sc ((hΦ 23 rfl).1) (sc ((hΦ 22 rfl).1) (sc ((hΦ 21 rfl).1) (sc ((hΦ 20 rfl).1) (sc ((hΦ 19 rfl).1) (sc ((hΦ 18 rfl).1) (sc ((hΦ 17 rfl).1) (sc ((hΦ 16 rfl).1) (sc ((hΦ 15 rfl).1) (sc ((hΦ 14 rfl).1) (sc ((hΦ 13 rfl).1) (sc ((hΦ 12 rfl).1) (sc ((hΦ 11 rfl).1) (sc g10 (sc ((hΦ 9 rfl).1) (sc ((hΦ 8 rfl).1) (sc ((hΦ 7 rfl).1) (sc ((hΦ 6 rfl).1) (sc ((hΦ 5 rfl).1) (sc ((hΦ 4 rfl).1) (sc ((hΦ 3 rfl).1) (sc g2 (sc ((hΦ 1 rfl).1) (sc ((hΦ 0 rfl).1) rfl)))))))))))))))))))))))))
           have hP : Post No [roK 34 1 i8E a1v a1, zlm b1 ((zln a0)).toArray 23, memK mg19 x38.2.2.2.1, zlm b31 #[γ39.2.1, γ39.2.2.1, (I x38.2.2.2.2.2.2.1), γ39.2.2.2.1, γ39.2.2.2.2, (I x38.2.2.2.2.2.2.2.2.2)] 32, rowK 3 1 i64 γ39.1 x38.2.1, roK 3 1 i64 γ39.2.1 x38.2.2.2.2.1, roK 3 1 i64 γ39.2.2.1 x38.2.2.2.2.2.1, roK 3 1 i64 γ39.2.2.2.1 x38.2.2.2.2.2.2.2.1, roK 4 1 zlr γ39.2.2.2.2 x38.2.2.2.2.2.2.2.2.1, rowK 3 1 i64 v250 x235, rowK 3 1 i64 v252 x245] w0 w254 := hP.addL (l := [([rowK 3 1 i64 v250 x235], (gg 2).lo, (gg 2).hi), ([rowK 3 1 i64 v252 x245], (gg 10).lo, (gg 10).hi)]) hb ⟨hs2, (hΦ 2 rfl).2.1, (zcA (hap 2 10 rfl) zbl), ⟨hs10, (hΦ 10 rfl).2.1, zbl, trivial⟩⟩
           exact nxy234 true () _ _ _ hD r (za1 rfl (za1 rfl (za1 rfl (za1 rfl (za1 rfl (za1 rfl (za1 rfl (za1 rfl (za1 rfl (za1 rfl (za1 rfl (za1 rfl (za1 rfl (za1 rfl zaz)))))))))))))) (hP.pick [0, 1, 2, 3, 4, 5, 6, 7, 8] rfl rfl)
         ·
          have hD := (zah h249).symm.trans hD
          obtain ⟨x259, hx259, hD⟩ := zad hD
          refine zbn [.val (.agg (zln a0).toArray), .val (zp mg19.mb), .pred (MkP (fun v255 : Value => v255) (fun v255 : Value => [rowK 3 1 i64 v255 x235])) (MkP.st _ _), .val (zp b31), .val γ39.2.1, .val (.bool x238), .val (.bool (!x238)), .val (.bool (!x238)), .val (.agg (zln a0).toArray), .val (zp mg19.mb), .pred (MkP (fun v257 : Value => v257) (fun v257 : Value => [rowK 3 1 i64 v257 x245])) (MkP.st _ _), .val (.pointer (some ⟨b31, 1, none⟩)), .val γ39.2.2.1, .val (.bool x248), .val (.bool (!x248)), .val (.bool (!x248)), .val (.bool (!x248)), .val (.agg (zln a0).toArray), .val (zp mg19.mb), .val (I x259), .val (zp b31), .val γ39.2.1, .val (I (x38.2.2.2.2.1.length : Int)), .val (.bool (x259 != (x38.2.2.2.2.1.length : Int))), .val (.bool (x259 != (x38.2.2.2.2.1.length : Int)))] mixed r (by kernel_rfl) ?_ ?_
          ·
           refine fc r (fun fr1 g w' hb' hd r' => za7 r' (cs := (zln a0)) (n := 6) rfl ((hP.below (dr hb')).cell (i := 1) rfl) ta23 rfl bz) ?_
           refine fc r (fun fr1 g w' hb' hd r' => za5 r' rfl bz) ?_
           refine fc r (fun fr1 g w' hb' hd r' => zac r' (args := [(.agg (zln a0).toArray), (zp mg19.mb), (I 0)]) (lc (hd 0 rfl).1 (lc (hd 1 rfl).1 (lc rfl l0))) cl37 ((zbP _ a0 x38.2.2.2.1 ((hP.below (dr hb')).mem (i := 2) rfl) 0 hx235).mono (by rintro _ w2 ⟨y, rfl, hq⟩; exact ⟨_, rfl, hq.chg.below, MkP.of y hq⟩))) ?_
           refine fc r (fun fr1 g w' hb' hd r' => za4 r' (b := b31) (o := 0) rfl zcx bz) ?_
           refine fc r (fun fr1 g w' hb' hd r' => za2 r' (hd 3 rfl).1 ((hP.below (dr hb')).cell (i := 3) rfl) to29 rfl bz) ?_
           refine fc r (fun fr1 g w' hb' hd r' => zac r' (args := [(g 2).v, γ39.2.1]) (lc rfl (lc (hd 4 rfl).1 l0)) cl36 ((zaC _ x235 (MkP.row (hd 2 rfl).1) x38.2.2.2.2.1 ((hP.below (dr hb')).ro (i := 5) rfl) hx238).mono (by rintro _ w2 ⟨rfl, hb2⟩; exact ⟨_, rfl, hb2, rfl⟩))) ?_
           refine fc r (fun fr1 g w' hb' hd r' => y_un r' (u := (.bool x238)) (v := (.bool (!x238))) (hd 5 rfl).1 rfl bz) ?_
           refine fc r (fun fr1 g w' hb' hd r' => za5 r' (hd 6 rfl).1 bz) ?_
           refine zab false r rfl rfl rfl (fun g w' hd => Eq.trans (show (g 7).v = .bool (!x238) from (hd 7 rfl).1) (congrArg Value.bool h239)) (fun fr1 g w' hb' hd r' => ?_) ?_
           · exact za7 r' (cs := (zln a0)) (n := 6) rfl ((hP.below (dr hb')).cell (i := 1) rfl) ta23 rfl ⟨Below.refl _ _, rfl⟩
           refine zab false r rfl rfl rfl (fun g w' hd => Eq.trans (show (g 7).v = .bool (!x238) from (hd 7 rfl).1) (congrArg Value.bool h239)) (fun fr1 g w' hb' hd r' => ?_) ?_
           · exact za5 r' (v := (zp mg19.mb)) rfl ⟨Below.refl _ _, rfl⟩
           refine zab false r rfl rfl rfl (fun g w' hd => Eq.trans (show (g 7).v = .bool (!x238) from (hd 7 rfl).1) (congrArg Value.bool h239)) (fun fr1 g w' hb' hd r' => ?_) ?_
           · exact zac r' (args := [(.agg (zln a0).toArray), (zp mg19.mb), (I 0), (I 0)]) (lc (hd 8 rfl).1 (lc (hd 9 rfl).1 (lc rfl (lc rfl l0)))) cl38 ((zce _ a0 x38.2.2.2.1 ((hP.below (dr hb')).mem (i := 2) rfl) 0 0 hx245).mono (by rintro _ w2 ⟨y, rfl, hq⟩; exact ⟨_, rfl, hq.chg.below, MkP.of y hq⟩))
           refine zab false r rfl rfl rfl (fun g w' hd => Eq.trans (show (g 7).v = .bool (!x238) from (hd 7 rfl).1) (congrArg Value.bool h239)) (fun fr1 g w' hb' hd r' => ?_) ?_
           · exact za4 r' (b := b31) (o := 0) (k := 1) rfl zem ⟨Below.refl _ _, rfl⟩
           refine zab false r rfl rfl rfl (fun g w' hd => Eq.trans (show (g 7).v = .bool (!x238) from (hd 7 rfl).1) (congrArg Value.bool h239)) (fun fr1 g w' hb' hd r' => ?_) ?_
           · exact za2 r' (v := γ39.2.2.1) (hd 11 rfl).1 ((hP.below (dr hb')).cell (i := 3) rfl) to29 rfl ⟨Below.refl _ _, rfl⟩
           refine zab false r rfl rfl rfl (fun g w' hd => Eq.trans (show (g 7).v = .bool (!x238) from (hd 7 rfl).1) (congrArg Value.bool h239)) (fun fr1 g w' hb' hd r' => ?_) ?_
           · exact zac r' (args := [(g 10).v, γ39.2.2.1]) (lc rfl (lc (hd 12 rfl).1 l0)) cl36 ((zaC _ x245 (MkP.row (hd 10 rfl).1) x38.2.2.2.2.2.1 ((hP.below (dr hb')).ro (i := 6) rfl) hx248).mono (by rintro _ w2 ⟨rfl, hb2⟩; exact ⟨_, rfl, hb2, rfl⟩))
           refine zab false r rfl rfl rfl (fun g w' hd => Eq.trans (show (g 7).v = .bool (!x238) from (hd 7 rfl).1) (congrArg Value.bool h239)) (fun fr1 g w' hb' hd r' => ?_) ?_
           · exact y_un r' (u := (.bool x248)) (v := (.bool (!x248))) (hd 13 rfl).1 rfl ⟨Below.refl _ _, rfl⟩
           refine fc r (fun fr1 g w' hb' hd r' => zai r' (b := false) (v := (.bool (!x248))) (Eq.trans (show (g 7).v = .bool (!x238) from (hd 7 rfl).1) (congrArg Value.bool h239)) (hd 14 rfl).1 bz) ?_
           refine fc r (fun fr1 g w' hb' hd r' => za5 r' (hd 15 rfl).1 bz) ?_
           refine zab false r rfl rfl rfl (fun g w' hd => Eq.trans (show (g 16).v = .bool (!x248) from (hd 16 rfl).1) (congrArg Value.bool h249)) (fun fr1 g w' hb' hd r' => ?_) ?_
           · exact za7 r' (cs := (zln a0)) (n := 6) rfl ((hP.below (dr hb')).cell (i := 1) rfl) ta23 rfl ⟨Below.refl _ _, rfl⟩
           refine zab false r rfl rfl rfl (fun g w' hd => Eq.trans (show (g 16).v = .bool (!x248) from (hd 16 rfl).1) (congrArg Value.bool h249)) (fun fr1 g w' hb' hd r' => ?_) ?_
           · exact za5 r' (v := (zp mg19.mb)) rfl ⟨Below.refl _ _, rfl⟩
           refine zab false r rfl rfl rfl (fun g w' hd => Eq.trans (show (g 16).v = .bool (!x248) from (hd 16 rfl).1) (congrArg Value.bool h249)) (fun fr1 g w' hb' hd r' => ?_) ?_
           · exact zac r' (args := [(.agg (zln a0).toArray), (zp mg19.mb), (I 0)]) (lc (hd 17 rfl).1 (lc (hd 18 rfl).1 (lc rfl l0))) cl39 ((zdA _ a0 x38.2.2.2.1 ((hP.below (dr hb')).mem (i := 2) rfl) 0 hx259).mono (by rintro _ w2 ⟨rfl, hb2⟩; exact ⟨_, rfl, hb2, rfl⟩))
           refine zab false r rfl rfl rfl (fun g w' hd => Eq.trans (show (g 16).v = .bool (!x248) from (hd 16 rfl).1) (congrArg Value.bool h249)) (fun fr1 g w' hb' hd r' => ?_) ?_
           · exact za4 r' (b := b31) (o := 0) (k := 0) rfl zcx ⟨Below.refl _ _, rfl⟩
           refine zab false r rfl rfl rfl (fun g w' hd => Eq.trans (show (g 16).v = .bool (!x248) from (hd 16 rfl).1) (congrArg Value.bool h249)) (fun fr1 g w' hb' hd r' => ?_) ?_
           · exact za2 r' (v := γ39.2.1) (hd 20 rfl).1 ((hP.below (dr hb')).cell (i := 3) rfl) to29 rfl ⟨Below.refl _ _, rfl⟩
           refine zab false r rfl rfl rfl (fun g w' hd => Eq.trans (show (g 16).v = .bool (!x248) from (hd 16 rfl).1) (congrArg Value.bool h249)) (fun fr1 g w' hb' hd r' => ?_) ?_
           · exact zbj r' ((hP.below (dr hb')).ro (i := 5) rfl) is29 (hd 21 rfl).1 ⟨Below.refl _ _, rfl⟩
           refine zab false r rfl rfl rfl (fun g w' hd => Eq.trans (show (g 16).v = .bool (!x248) from (hd 16 rfl).1) (congrArg Value.bool h249)) (fun fr1 g w' hb' hd r' => ?_) ?_
           · exact zlt r' (u := (I x259)) (u' := (I (x38.2.2.2.2.1.length : Int))) (v := (.bool (x259 != (x38.2.2.2.2.1.length : Int)))) (hd 19 rfl).1 (hd 22 rfl).1 rfl rfl ⟨Below.refl _ _, rfl⟩
           refine fc r (fun fr1 g w' hb' hd r' => zai r' (b := false) (v := (.bool (x259 != (x38.2.2.2.2.1.length : Int)))) (Eq.trans (show (g 16).v = .bool (!x248) from (hd 16 rfl).1) (congrArg Value.bool h249)) (hd 23 rfl).1 bz) ?_
           exact zb1
          ·
           intro fr gg w260 hb hΦ hap r
           obtain ⟨v255, g2, hs2⟩ := (hΦ 2 rfl).1
           obtain ⟨v257, g10, hs10⟩ := (hΦ 10 rfl).1
           have r := r.congr (sc ((hΦ 24 rfl).1) (sc ((hΦ 23 rfl).1) (sc ((hΦ 22 rfl).1) (sc ((hΦ 21 rfl).1) (sc ((hΦ 20 rfl).1) (sc ((hΦ 19 rfl).1) (sc ((hΦ 18 rfl).1) (sc ((hΦ 17 rfl).1) (sc ((hΦ 16 rfl).1) (sc ((hΦ 15 rfl).1) (sc ((hΦ 14 rfl).1) (sc ((hΦ 13 rfl).1) (sc ((hΦ 12 rfl).1) (sc ((hΦ 11 rfl).1) (sc g10 (sc ((hΦ 9 rfl).1) (sc ((hΦ 8 rfl).1) (sc ((hΦ 7 rfl).1) (sc ((hΦ 6 rfl).1) (sc ((hΦ 5 rfl).1) (sc ((hΦ 4 rfl).1) (sc ((hΦ 3 rfl).1) (sc g2 (sc ((hΦ 1 rfl).1) (sc ((hΦ 0 rfl).1) rfl)))))))))))))))))))))))))
           have hP : Post No [roK 34 1 i8E a1v a1, zlm b1 ((zln a0)).toArray 23, memK mg19 x38.2.2.2.1, zlm b31 #[γ39.2.1, γ39.2.2.1, (I x38.2.2.2.2.2.2.1), γ39.2.2.2.1, γ39.2.2.2.2, (I x38.2.2.2.2.2.2.2.2.2)] 32, rowK 3 1 i64 γ39.1 x38.2.1, roK 3 1 i64 γ39.2.1 x38.2.2.2.2.1, roK 3 1 i64 γ39.2.2.1 x38.2.2.2.2.2.1, roK 3 1 i64 γ39.2.2.2.1 x38.2.2.2.2.2.2.2.1, roK 4 1 zlr γ39.2.2.2.2 x38.2.2.2.2.2.2.2.2.1, rowK 3 1 i64 v255 x235, rowK 3 1 i64 v257 x245] w0 w260 := hP.addL (l := [([rowK 3 1 i64 v255 x235], (gg 2).lo, (gg 2).hi), ([rowK 3 1 i64 v257 x245], (gg 10).lo, (gg 10).hi)]) hb ⟨hs2, (hΦ 2 rfl).2.1, (zcA (hap 2 10 rfl) zbl), ⟨hs10, (hΦ 10 rfl).2.1, zbl, trivial⟩⟩
           exact nxy234 (x259 != (x38.2.2.2.2.1.length : Int)) () _ _ _ hD r (za1 rfl (za1 rfl (za1 rfl (za1 rfl (za1 rfl (za1 rfl (za1 rfl (za1 rfl (za1 rfl (za1 rfl (za1 rfl (za1 rfl (za1 rfl (za1 rfl zaz)))))))))))))) (hP.pick [0, 1, 2, 3, 4, 5, 6, 7, 8] rfl rfl)
       ·
        rintro x261 γ262 fr w263 g r hP hD
        have hP : Post No [roK 34 1 i8E a1v a1, zlm b1 ((zln a0)).toArray 23, memK mg19 x38.2.2.2.1, zlm b31 #[γ39.2.1, γ39.2.2.1, (I x38.2.2.2.2.2.2.1), γ39.2.2.2.1, γ39.2.2.2.2, (I x38.2.2.2.2.2.2.2.2.2)] 32, rowK 3 1 i64 γ39.1 x38.2.1, roK 3 1 i64 γ39.2.1 x38.2.2.2.2.1, roK 3 1 i64 γ39.2.2.1 x38.2.2.2.2.2.1, roK 3 1 i64 γ39.2.2.2.1 x38.2.2.2.2.2.2.2.1, roK 4 1 zlr γ39.2.2.2.2 x38.2.2.2.2.2.2.2.2.1] w0 w263 := hP
        refine wp_cond_split (t := x261) (r.ev rfl) (fun h264 => ?_) (fun h264 => ?_)
        ·
         have hD := (zao h264).symm.trans hD
         refine wsr (za0 (.bool false) r (fun R => za6 r rfl) rfl fun fr r => wn (wp_ret ?_))
         refine rty40 false _ _ hD fun hD => ?_
         have hv : false = res := Option.some.inj hD
         try dsimp only [Exit.then, Exit.inBlock]
         refine zaA (fn := Tryz.f3) r (t := 4) rfl (v := (.bool false)) rfl ?_
         subst hv
         exact ⟨rfl, hP.chg.below⟩
        ·
         have hD := (zah h264).symm.trans hD
         refine wp_skip ?_
         refine wp_region_lit (za0 (I x38.2.2.1) r (fun R => za5 r rfl) rfl fun fr r => za0 _ r (fun R => zlt r rfl rfl rfl rfl) rfl fun fr r => za0 (I (W (x38.2.2.1 + 1))) r (fun R => za6 r rfl) rfl fun fr r => wn ?_)
         exact nxy40 (x38.1, x38.2.1, (W (x38.2.2.1 + 1)), x38.2.2.2.1, x38.2.2.2.2.1, x38.2.2.2.2.2.1, x38.2.2.2.2.2.2.1, x38.2.2.2.2.2.2.2.1, x38.2.2.2.2.2.2.2.2.1, x38.2.2.2.2.2.2.2.2.2) (γ39.1, γ39.2.1, γ39.2.2.1, γ39.2.2.2.1, γ39.2.2.2.2) _ _ _ hD r (za1 rfl (za1 rfl (za1 rfl (za1 rfl (za1 rfl (za1 rfl (za1 rfl (za1 rfl (za1 rfl (za1 rfl zaz)))))))))) (hP.pick [0, 1, 2, 3, 4, 5, 6, 7, 8] rfl rfl)
    ·
     have hD := (zah h42).symm.trans hD
     refine wp_exit ?_
     exact bky40 (x38.1, x38.2.1, x38.2.2.1, x38.2.2.2.1, x38.2.2.2.2.1, x38.2.2.2.2.2.1, x38.2.2.2.2.2.2.1, x38.2.2.2.2.2.2.2.1, x38.2.2.2.2.2.2.2.2.1, x38.2.2.2.2.2.2.2.2.2) (γ39.1, γ39.2.1, γ39.2.2.1, γ39.2.2.2.1, γ39.2.2.2.2) _ _ _ hD r (za1 rfl (za1 rfl (za1 rfl (za1 rfl (za1 rfl (za1 rfl (za1 rfl (za1 rfl (za1 rfl (za1 rfl zaz)))))))))) (hP.pick [0, 1, 2, 3, 4, 5, 6, 7, 8] rfl rfl)
   ·
    rintro x265 γ266 fr w267 g r hP hD
    have hP : Post No [roK 34 1 i8E a1v a1, zlm b1 ((zln a0)).toArray 23, memK mg19 x265.2.2.2.1, zlm b31 #[γ266.2.1, γ266.2.2.1, (I x265.2.2.2.2.2.2.1), γ266.2.2.2.1, γ266.2.2.2.2, (I x265.2.2.2.2.2.2.2.2.2)] 32, rowK 3 1 i64 γ266.1 x265.2.1, roK 3 1 i64 γ266.2.1 x265.2.2.2.2.1, roK 3 1 i64 γ266.2.2.1 x265.2.2.2.2.2.1, roK 3 1 i64 γ266.2.2.2.1 x265.2.2.2.2.2.2.2.1, roK 4 1 zlr γ266.2.2.2.2 x265.2.2.2.2.2.2.2.2.1] w0 w267 := hP
    refine wsr (za0 (.bool true) r (fun R => za6 r rfl) rfl fun fr r => wn (wp_ret ?_))
    have hv : true = res := Option.some.inj hD
    try dsimp only [Exit.then, Exit.inBlock]
    refine zaA (fn := Tryz.f3) r (t := 4) rfl (v := (.bool true)) rfl ?_
    subst hv
    exact ⟨rfl, hP.chg.below⟩
end Go.Proofs.YtfpgnmhcfkikkaaGreat.Wk

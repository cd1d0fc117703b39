/- Some of our texts, one behind the other. -/
import Derived.Test.YtfpgnmhcfkikkaaGreatAaM3
import Derived.Test.YtfpgnmhcfkikkaaGreatProg
set_option linter.all false
/- Ours. -/
set_option maxRecDepth 20000
set_option maxHeartbeats 2000000
namespace Go.Proofs.YtfpgnmhcfkikkaaGreat.St
open Go.RowKit
theorem znf : arrTy Tryz.prog 218 3 2 = true := by kernel_rfl
theorem znp : zlp Tryz.prog 123 = true := by kernel_rfl
theorem zmU : zlp Tryz.prog 124 = true := by kernel_rfl
theorem zoD : zlp Tryz.prog 125 = true := by kernel_rfl
theorem zm5 : zlp Tryz.prog 134 = true := by kernel_rfl
theorem zoJ : zlp Tryz.prog 188 = true := by kernel_rfl
theorem zno : zlp Tryz.prog 223 = true := by kernel_rfl
theorem zmm : zlp Tryz.prog 225 = true := by kernel_rfl
theorem zmo : isSlice Tryz.prog 222 = true := by kernel_rfl
theorem is99 : isSlice Tryz.prog 99 = true := by kernel_rfl
theorem rt99 : rowTy Tryz.prog 99 40 1 = true := by kernel_rfl
theorem zmP : sliceTy Tryz.prog 222 2 = true := by kernel_rfl
theorem sl99 : sliceTy Tryz.prog 99 1 = true := by kernel_rfl
theorem zoa : tyA Tryz.prog 218 6 = true := by kernel_rfl
theorem ti3 : intTy Tryz.prog 3 .i64 = true := by kernel_rfl
theorem ti40 : intTy Tryz.prog 40 .u64 = true := by kernel_rfl
theorem to40 : tyO Tryz.prog 40 = true := by kernel_rfl
theorem zm4 : sized Tryz.prog 217 2 = true := by kernel_rfl
theorem zmN : sized Tryz.prog 218 6 = true := by kernel_rfl
theorem zm0 : zeroOf Tryz.prog 217 = some (.agg (zlv (⟨0, 0⟩ : Field)).toArray) := by kernel_rfl
theorem zmv : zeroOf Tryz.prog 218 = some (.agg (zcz (⟨(⟨0, 0⟩ : Field), (⟨0, 0⟩ : Field), (⟨0, 0⟩ : Field)⟩ : Arr3F)).toArray) := by kernel_rfl
def D.ze8 (fu : Nat)  : Option (Arr3F) := (some (⟨(⟨0, 30⟩ : Field), (⟨30, 2⟩ : Field), (⟨32, 2⟩ : Field)⟩ : Arr3F))
theorem zfl {fu : Nat} (w0 : World) {res : Arr3F} (hD : D.ze8 fu  = some res) :
    Calls Tryz.prog 124 #[] w0 (zlE (.agg (zcz res).toArray) w0) := by
 refine enter Tryz.func124 rfl 5 rfl rfl fun fr r => ?_
 have hP : Post No [] w0 w0 := Post.nil w0
 unfold D.ze8 at hD
 refine wsr ?_
 refine zaa (.cells ((zcz (⟨(⟨0, 0⟩ : Field), (⟨0, 0⟩ : Field), (⟨0, 0⟩ : Field)⟩ : Arr3F))).toArray 218 (0, 0)) r (fun R => zar zmv) rfl fun fr b1 w2 n3 r => ?_
 have hP : Post No [zlm b1 ((zcz (⟨(⟨0, 0⟩ : Field), (⟨0, 0⟩ : Field), (⟨0, 0⟩ : Field)⟩ : Arr3F))).toArray 218] w0 w2 := hP.new n3
 refine wn (wsr (za0 (.agg (zlv (⟨0, 30⟩ : Field)).toArray) r (fun R => zb4 r (by kernel_rfl)) rfl fun fr r => za0 (.agg (zlv (⟨30, 2⟩ : Field)).toArray) r (fun R => zb4 r (by kernel_rfl)) rfl fun fr r => za0 (.agg (zlv (⟨32, 2⟩ : Field)).toArray) r (fun R => zb4 r (by kernel_rfl)) rfl fun fr r => za0 (.agg (zcz (⟨(⟨0, 30⟩ : Field), (⟨30, 2⟩ : Field), (⟨32, 2⟩ : Field)⟩ : Arr3F)).toArray) r (fun R => zb4 r (by kernel_rfl)) rfl fun fr r => ?_))
 refine zaf (.cells ((zcz (⟨(⟨0, 30⟩ : Field), (⟨30, 2⟩ : Field), (⟨32, 2⟩ : Field)⟩ : Arr3F))).toArray 218 (0, 0)) r (fun R => zb0 r (o := 0) (v := (.agg (zcz (⟨(⟨0, 30⟩ : Field), (⟨30, 2⟩ : Field), (⟨32, 2⟩ : Field)⟩ : Arr3F)).toArray)) rfl rfl (hP.cell (i := 0) rfl) zmN (Nat.le_of_ble_eq_true rfl) rfl rfl) rfl fun fr w5 u6 r => ?_
 have hP : Post No [zlm b1 ((zcz (⟨(⟨0, 30⟩ : Field), (⟨30, 2⟩ : Field), (⟨32, 2⟩ : Field)⟩ : Arr3F))).toArray 218] w0 w5 := hP.upd (i := 0) rfl u6
 refine wn (wp_ret ?_)
 have hv : (⟨(⟨0, 30⟩ : Field), (⟨30, 2⟩ : Field), (⟨32, 2⟩ : Field)⟩ : Arr3F) = res := Option.some.inj hD
 try dsimp only [Exit.then, Exit.inBlock]
 refine zal r rfl rfl (hP.cell (i := 0) rfl) (k := 6) rfl zoa ?_
 subst hv
 exact ⟨rfl, hP.chg.below⟩
def D.zdz (fu : Nat) (a0 : List Field) : Option (Bool) := (loopThen (fun (x1 : Bool × Int × Int) => (bif (decide (x1.2.2 < (a0.length : Int))) then ((getI a0 x1.2.2).bind (fun (x6 : Field) => (Option.bind (bif (!(D.zaj x6)) then (some true) else (some ((zbV .u64 x1.2.1 (D.zat x6)) != 0))) (fun (x17 : Bool) => (bif x17 then (some (Lp.ret false)) else (some (Lp.next (x1.1, (ze1 .u64 x1.2.1 (D.zat x6)), (IntKind.i64.wrap (x1.2.2 + 1)))))))))) else (some (Lp.brk (x1.1, x1.2.1, x1.2.2))))) fu (false, 0, 0) (fun (x22 : Bool × Int × Int) => (some true)))
theorem zfm {fu : Nat} (w0 : World) {a0v : Value} (a0 : List Field) (a0h : RoAt 217 2 zlv a0v a0 w0) {res : Bool} (hD : D.zdz fu a0 = some res) :
    Calls Tryz.prog 223 #[a0v] w0 (zlE (.bool res) w0) := by
 refine enter Tryz.func223 rfl 27 rfl rfl fun fr r => ?_
 have hP : Post No [] w0 w0 := Post.nil w0
 have hP : Post No [roK 217 2 zlv a0v a0] w0 w0 := hP.addRo zb3 a0h rfl a0h.lt
 unfold D.zdz at hD
 refine wsr (za0 (.bool false) r (fun R => za6 r rfl) rfl fun fr r => wn (wsr (za0 (U 0) r (fun R => za6 r rfl) rfl fun fr r => wn (wp_seq (wsr (za0 a0v r (fun R => za5 r rfl) rfl fun fr r => za0 (I (a0.length : Int)) r (fun R => zbj r (hP.ro (i := 0) rfl) zmo rfl) rfl fun fr r => za0 (I 0) r (fun R => za5 r rfl) rfl fun fr r => wn ?_))))))
 refine zcu (X := Bool × Int × Int) (G := Unit) (x0 := (false, 0, 0)) (fun x γ => [(0, a0v), (6, a0v), (7, (I (a0.length : Int))), (2, (.bool x.1)), (3, (U x.2.1)), (8, (I x.2.2))]) (fun x γ w => Post No [roK 217 2 zlv a0v a0] w0 w) () r (za1 rfl (za1 rfl (za1 rfl (za1 rfl (za1 rfl (za1 rfl zaz)))))) hP hD ?_ ?_
 ·
  rintro x1 γ2 fr w4 g y3 RPy3 nxy3 bky3 rty3 r hP hD
  have hP : Post No [roK 217 2 zlv a0v a0] w0 w4 := hP
  refine wsr (za0 _ r (fun R => zlt r rfl rfl rfl rfl) rfl fun fr r => wn (wp_seq ?_))
  refine wp_cond_split (t := (decide (x1.2.2 < (a0.length : Int)))) (r.ev rfl) (fun h5 => ?_) (fun h5 => ?_)
  ·
   have hD := (zao h5).symm.trans hD
   refine wp_skip (wp_seq (wp_block (wsr ?_)))
   obtain ⟨x6, hx6, hD⟩ := zad hD
   refine za0 (.pointer (some ⟨rowB a0v, rowO a0v + x1.2.2.toNat * 2, none⟩)) r (fun R => zbe r (hP.ro (i := 0) rfl) hx6 zmP rfl rfl) rfl fun fr r => za0 (.agg (zlv x6).toArray) r (fun R => zfu r (cs := (zlv x6)) (RoAt.at_ (f := zlv) (x := x6) (hP.ro (i := 0) rfl) (fun _ => rfl) hx6) rfl zlN) rfl fun fr r => ?_
   refine zaa (.cells ((zlv (⟨0, 0⟩ : Field))).toArray 217 (0, 0)) r (fun R => zar zm0) rfl fun fr b7 w8 n9 r => ?_
   have hP : Post No [roK 217 2 zlv a0v a0, zlm b7 ((zlv (⟨0, 0⟩ : Field))).toArray 217] w0 w8 := hP.new n9
   refine zaf (.cells ((zlv x6)).toArray 217 (0, 0)) r (fun R => zb0 r (o := 0) (v := (.agg (zlv x6).toArray)) rfl rfl (hP.cell (i := 1) rfl) zm4 (Nat.le_of_ble_eq_true rfl) rfl rfl) rfl fun fr w11 u12 r => ?_
   have hP : Post No [roK 217 2 zlv a0v a0, zlm b7 ((zlv x6)).toArray 217] w0 w11 := hP.upd (i := 1) rfl u12
   refine wn (wp_seq (wp_seq ?_))
   refine zbo (N := 27) (Y := Bool) (G := Unit) (fun x γ => [(0, a0v), (6, a0v), (7, (I (a0.length : Int))), (2, (.bool x1.1)), (3, (U x1.2.1)), (8, (I x1.2.2)), (9, (.bool (decide (x1.2.2 < (a0.length : Int))))), (5, (zp b7)), (21, (.bool x))]) (fun x γ w => Post No [roK 217 2 zlv a0v a0, zlm b7 ((zlv x6)).toArray 217] w0 w) hD ?_ ?_
   ·
    rintro y13 RPy13 nxy13 hD
    refine wp_region_lit (za0 (.agg (zlv x6).toArray) r (fun R => za7 r (cs := (zlv x6)) (n := 2) rfl (hP.cell (i := 1) rfl) zlN rfl) rfl fun fr r => ?_)
    refine za9 r (zc1 w11 x6) (fun R hc => zac r rfl zmi hc) rfl ?_
    rintro _ w14 ⟨rfl, hb⟩
    refine ⟨_, rfl, fun fr r => ?_⟩
    have hP : Post No [roK 217 2 zlv a0v a0, zlm b7 ((zlv x6)).toArray 217] w0 w14 := hP.below hb
    refine za0 (.bool (!(D.zaj x6))) r (fun R => y_un r (u := (.bool (D.zaj x6))) rfl rfl) rfl fun fr r => za0 (.bool (!(D.zaj x6))) r (fun R => za5 r rfl) rfl fun fr r => ?_
    refine zay (!(D.zaj x6)) (fun h15 => ?_) (fun h15 => ?_)
    ·
     have hD := (zao h15).symm.trans hD
     refine s0 r h15 fun fr r => s0 r h15 fun fr r => s0 r h15 fun fr r => s0 r h15 fun fr r => s0 r h15 fun fr r => za0 (.bool true) r (fun R => zai r (b := true) (congrArg Value.bool h15) rfl) rfl fun fr r => wn ?_
     exact nxy13 true () _ _ _ hD r (za1 rfl (za1 rfl (za1 rfl (za1 rfl (za1 rfl (za1 rfl (za1 rfl (za1 rfl (za1 rfl zaz))))))))) (hP.pick [0, 1] rfl rfl)
    ·
     have hD := (zah h15).symm.trans hD
     refine s1 r h15 (za0 (U x1.2.1) r (fun R => za5 r rfl) rfl fun fr r => s1 r h15 (za0 (.agg (zlv x6).toArray) r (fun R => za7 r (cs := (zlv x6)) (n := 2) rfl (hP.cell (i := 1) rfl) zlN rfl) rfl fun fr r => s1 r h15 ?_))
     refine za9 r (zcF w14 x6) (fun R hc => zac r rfl zmq hc) rfl ?_
     rintro _ w16 ⟨rfl, hb⟩
     refine ⟨_, rfl, fun fr r => ?_⟩
     have hP : Post No [roK 217 2 zlv a0v a0, zlm b7 ((zlv x6)).toArray 217] w0 w16 := hP.below hb
     refine s1 r h15 (za0 _ r (fun R => zlt r rfl rfl rfl rfl) rfl fun fr r => s1 r h15 (za0 _ r (fun R => zlt r rfl rfl rfl rfl) rfl fun fr r => za0 (.bool ((zbV .u64 x1.2.1 (D.zat x6)) != 0)) r (fun R => zai r (b := false) (congrArg Value.bool h15) rfl) rfl fun fr r => wn ?_))
     exact nxy13 ((zbV .u64 x1.2.1 (D.zat x6)) != 0) () _ _ _ hD r (za1 rfl (za1 rfl (za1 rfl (za1 rfl (za1 rfl (za1 rfl (za1 rfl (za1 rfl (za1 rfl zaz))))))))) (hP.pick [0, 1] rfl rfl)
   ·
    rintro x17 γ18 fr w19 g r hP hD
    have hP : Post No [roK 217 2 zlv a0v a0, zlm b7 ((zlv x6)).toArray 217] w0 w19 := hP
    refine wp_cond_split (t := x17) (r.ev rfl) (fun h20 => ?_) (fun h20 => ?_)
    ·
     have hD := (zao h20).symm.trans hD
     refine wsr (za0 (.bool false) r (fun R => za6 r rfl) rfl fun fr r => wn (wp_ret ?_))
     refine rty3 false _ _ hD fun hD => ?_
     have hv : false = res := Option.some.inj hD
     try dsimp only [Exit.then, Exit.inBlock]
     refine zaA (fn := Tryz.f223) r (t := 2) rfl (v := (.bool false)) rfl ?_
     subst hv
     exact ⟨rfl, hP.chg.below⟩
    ·
     have hD := (zah h20).symm.trans hD
     refine wp_skip ?_
     refine wp_region_lit (za0 (U x1.2.1) r (fun R => za5 r rfl) rfl fun fr r => za0 (.agg (zlv x6).toArray) r (fun R => za7 r (cs := (zlv x6)) (n := 2) rfl (hP.cell (i := 1) rfl) zlN rfl) rfl fun fr r => ?_)
     refine za9 r (zcF w19 x6) (fun R hc => zac r rfl zmq hc) rfl ?_
     rintro _ w21 ⟨rfl, hb⟩
     refine ⟨_, rfl, fun fr r => ?_⟩
     have hP : Post No [roK 217 2 zlv a0v a0, zlm b7 ((zlv x6)).toArray 217] w0 w21 := hP.below hb
     refine za0 _ r (fun R => zlt r rfl rfl rfl rfl) rfl fun fr r => za0 (U (ze1 .u64 x1.2.1 (D.zat x6))) r (fun R => za6 r rfl) rfl fun fr r => wn ?_
     refine wp_region_lit (za0 _ r (fun R => zlt r rfl rfl rfl rfl) rfl fun fr r => za0 (I (W (x1.2.2 + 1))) r (fun R => za5 r rfl) rfl fun fr r => wn ?_)
     exact nxy3 (x1.1, (ze1 .u64 x1.2.1 (D.zat x6)), (W (x1.2.2 + 1))) () _ _ _ hD r (za1 rfl (za1 rfl (za1 rfl (za1 rfl (za1 rfl (za1 rfl zaz)))))) (hP.pick [0] rfl rfl)
  ·
   have hD := (zah h5).symm.trans hD
   refine wp_exit ?_
   exact bky3 (x1.1, x1.2.1, x1.2.2) () _ _ _ hD r (za1 rfl (za1 rfl (za1 rfl (za1 rfl (za1 rfl (za1 rfl zaz)))))) (hP.pick [0] rfl rfl)
 ·
  rintro x22 γ23 fr w24 g r hP hD
  have hP : Post No [roK 217 2 zlv a0v a0] w0 w24 := hP
  refine wsr (za0 (.bool true) r (fun R => za6 r rfl) rfl fun fr r => wn (wp_ret ?_))
  have hv : true = res := Option.some.inj hD
  try dsimp only [Exit.then, Exit.inBlock]
  refine zaA (fn := Tryz.f223) r (t := 2) rfl (v := (.bool true)) rfl ?_
  subst hv
  exact ⟨rfl, hP.chg.below⟩
def D.zdr (fu : Nat) (a0 : List Field) (a1 : List Int) : Option (Int × Int) := (Option.bind ((D.zdz fu a0).bind (fun (x2 : Bool) => (bif (!x2) then (some true) else (some ((a0.length : Int) != (a1.length : Int)))))) (fun (x5 : Bool) => (bif x5 then (some (0, 1)) else (loopThen (fun (x9 : Int × Int × Int × Int) => (bif (decide (x9.2.2.2 < (a0.length : Int))) then ((getI a0 x9.2.2.2).bind (fun (x14 : Field) => ((getI a1 x9.2.2.2).bind (fun (x21 : Int) => (bif (decide (x21 > (D.zap x14))) then (some (Lp.ret (0, 1))) else ((getI a1 x9.2.2.2).bind (fun (x24 : Int) => (some (Lp.next (x9.1, x9.2.1, (D.zaH x14 x9.2.2.1 x24), (IntKind.i64.wrap (x9.2.2.2 + 1)))))))))))) else (some (Lp.brk (x9.1, x9.2.1, x9.2.2.1, x9.2.2.2))))) fu (0, 0, 0, 0) (fun (x26 : Int × Int × Int × Int) => (some (x26.2.2.1, 0)))))))
theorem zhU {fu : Nat} (w0 : World) {a0v : Value} (a0 : List Field) (a0h : RoAt 217 2 zlv a0v a0 w0) {a1v : Value} (a1 : List Int) (a1h : RoAt 40 1 u64 a1v a1 w0) {res : Int × Int} (hD : D.zdr fu a0 a1 = some res) :
    Calls Tryz.prog 125 #[a0v, a1v] w0 (zlE (.tuple #[(.int .u64 res.1), (.int .i64 res.2)]) w0) := by
 refine enter Tryz.func125 rfl 42 rfl rfl fun fr r => ?_
 have hP : Post No [] w0 w0 := Post.nil w0
 have hP : Post No [roK 217 2 zlv a0v a0] w0 w0 := hP.addRo zb3 a0h rfl a0h.lt
 have hP : Post No [roK 217 2 zlv a0v a0, roK 40 1 u64 a1v a1] w0 w0 := hP.addRo (zaF rfl zb3) a1h rfl a1h.lt
 unfold D.zdr at hD
 refine wsr (za0 (U 0) r (fun R => za6 r rfl) rfl fun fr r => za0 (I 0) r (fun R => za6 r rfl) rfl fun fr r => wn (wp_seq (wp_seq ?_)))
 refine zbo (N := 42) (Y := Bool) (G := Unit) (fun x γ => [(0, a0v), (1, a1v), (4, (U 0)), (5, (I 0)), (18, (.bool x))]) (fun x γ w => Post No [roK 217 2 zlv a0v a0, roK 40 1 u64 a1v a1] w0 w) hD ?_ ?_
 ·
  rintro y1 RPy1 nxy1 hD
  refine wp_region_lit (za0 a0v r (fun R => za5 r rfl) rfl fun fr r => ?_)
  obtain ⟨x2, hx2, hD⟩ := zad hD
  refine za9 r (zfm w0 a0 (hP.ro (i := 0) rfl) hx2) (fun R hc => zac r rfl zno hc) rfl ?_
  rintro _ w3 ⟨rfl, hb⟩
  refine ⟨_, rfl, fun fr r => ?_⟩
  have hP : Post No [roK 217 2 zlv a0v a0, roK 40 1 u64 a1v a1] w0 w3 := hP.below hb
  refine za0 (.bool (!x2)) r (fun R => y_un r (u := (.bool x2)) rfl rfl) rfl fun fr r => za0 (.bool (!x2)) r (fun R => za5 r rfl) rfl fun fr r => ?_
  refine zay (!x2) (fun h4 => ?_) (fun h4 => ?_)
  ·
   have hD := (zao h4).symm.trans hD
   refine s0 r h4 fun fr r => s0 r h4 fun fr r => s0 r h4 fun fr r => s0 r h4 fun fr r => s0 r h4 fun fr r => za0 (.bool true) r (fun R => zai r (b := true) (congrArg Value.bool h4) rfl) rfl fun fr r => wn ?_
   exact nxy1 true () _ _ _ hD r (za1 rfl (za1 rfl (za1 rfl (za1 rfl (za1 rfl zaz))))) (hP.pick [0, 1] rfl rfl)
  ·
   have hD := (zah h4).symm.trans hD
   refine s1 r h4 (za0 a0v r (fun R => za5 r rfl) rfl fun fr r => s1 r h4 (za0 (I (a0.length : Int)) r (fun R => zbj r (hP.ro (i := 0) rfl) zmo rfl) rfl fun fr r => s1 r h4 (za0 a1v r (fun R => za5 r rfl) rfl fun fr r => s1 r h4 (za0 (I (a1.length : Int)) r (fun R => zbj r (hP.ro (i := 1) rfl) is99 rfl) rfl fun fr r => s1 r h4 (za0 _ r (fun R => zlt r rfl rfl rfl rfl) rfl fun fr r => za0 (.bool ((a0.length : Int) != (a1.length : Int))) r (fun R => zai r (b := false) (congrArg Value.bool h4) rfl) rfl fun fr r => wn ?_)))))
   exact nxy1 ((a0.length : Int) != (a1.length : Int)) () _ _ _ hD r (za1 rfl (za1 rfl (za1 rfl (za1 rfl (za1 rfl zaz))))) (hP.pick [0, 1] rfl rfl)
 ·
  rintro x5 γ6 fr w7 g r hP hD
  have hP : Post No [roK 217 2 zlv a0v a0, roK 40 1 u64 a1v a1] w0 w7 := hP
  refine wp_cond_split (t := x5) (r.ev rfl) (fun h8 => ?_) (fun h8 => ?_)
  ·
   have hD := (zao h8).symm.trans hD
   refine wsr (za0 (U 0) r (fun R => za6 r rfl) rfl fun fr r => za0 (I 1) r (fun R => za6 r rfl) rfl fun fr r => wn (wp_ret ?_))
   have hv : (0, 1) = res := Option.some.inj hD
   try dsimp only [Exit.then, Exit.inBlock]
   refine zdy (fn := Tryz.f125) r (t := 4) (t' := 5) rfl (v := (U 0)) (v' := (I 1)) rfl rfl ?_
   subst hv
   exact ⟨rfl, hP.chg.below⟩
  ·
   have hD := (zah h8).symm.trans hD
   refine wp_skip (wsr (za0 (U 0) r (fun R => za6 r rfl) rfl fun fr r => wn (wp_seq (wsr (za0 a0v r (fun R => za5 r rfl) rfl fun fr r => za0 (I (a0.length : Int)) r (fun R => zbj r (hP.ro (i := 0) rfl) zmo rfl) rfl fun fr r => za0 (I 0) r (fun R => za5 r rfl) rfl fun fr r => wn ?_)))))
   refine zcu (X := Int × Int × Int × Int) (G := Unit) (x0 := (0, 0, 0, 0)) (fun x γ => [(0, a0v), (1, a1v), (18, (.bool x5)), (19, a0v), (20, (I (a0.length : Int))), (4, (U x.1)), (5, (I x.2.1)), (6, (U x.2.2.1)), (21, (I x.2.2.2))]) (fun x γ w => Post No [roK 217 2 zlv a0v a0, roK 40 1 u64 a1v a1] w0 w) () r (za1 rfl (za1 rfl (za1 rfl (za1 rfl (za1 rfl (za1 rfl (za1 rfl (za1 rfl (za1 rfl zaz))))))))) hP hD ?_ ?_
   ·
    rintro x9 γ10 fr w12 g y11 RPy11 nxy11 bky11 rty11 r hP hD
    have hP : Post No [roK 217 2 zlv a0v a0, roK 40 1 u64 a1v a1] w0 w12 := hP
    refine wsr (za0 _ r (fun R => zlt r rfl rfl rfl rfl) rfl fun fr r => wn (wp_seq ?_))
    refine wp_cond_split (t := (decide (x9.2.2.2 < (a0.length : Int)))) (r.ev rfl) (fun h13 => ?_) (fun h13 => ?_)
    ·
     have hD := (zao h13).symm.trans hD
     refine wp_skip (wp_seq (wp_block (wsr (za0 (I x9.2.2.2) r (fun R => za5 r rfl) rfl fun fr r => ?_))))
     obtain ⟨x14, hx14, hD⟩ := zad hD
     refine za0 (.pointer (some ⟨rowB a0v, rowO a0v + x9.2.2.2.toNat * 2, none⟩)) r (fun R => zbe r (hP.ro (i := 0) rfl) hx14 zmP rfl rfl) rfl fun fr r => za0 (.agg (zlv x14).toArray) r (fun R => zfu r (cs := (zlv x14)) (RoAt.at_ (f := zlv) (x := x14) (hP.ro (i := 0) rfl) (fun _ => rfl) hx14) rfl zlN) rfl fun fr r => ?_
     refine zaa (.cells ((zlv (⟨0, 0⟩ : Field))).toArray 217 (0, 0)) r (fun R => zar zm0) rfl fun fr b15 w16 n17 r => ?_
     have hP : Post No [roK 217 2 zlv a0v a0, roK 40 1 u64 a1v a1, zlm b15 ((zlv (⟨0, 0⟩ : Field))).toArray 217] w0 w16 := hP.new n17
     refine za0 (I x9.2.2.2) r (fun R => za6 r rfl) rfl fun fr r => ?_
     refine zaf (.cells ((zlv x14)).toArray 217 (0, 0)) r (fun R => zb0 r (o := 0) (v := (.agg (zlv x14).toArray)) rfl rfl (hP.cell (i := 2) rfl) zm4 (Nat.le_of_ble_eq_true rfl) rfl rfl) rfl fun fr w19 u20 r => ?_
     have hP : Post No [roK 217 2 zlv a0v a0, roK 40 1 u64 a1v a1, zlm b15 ((zlv x14)).toArray 217] w0 w19 := hP.upd (i := 2) rfl u20
     refine wn (wp_seq (wp_seq ?_))
     obtain ⟨x21, hx21, hD⟩ := zad hD
     refine zbn [.val a1v, .val (I x9.2.2.2), .val (.pointer (some ⟨rowB a1v, rowO a1v + x9.2.2.2.toNat * 1, none⟩)), .val (U x21), .val (.agg (zlv x14).toArray), .val (U (D.zap x14)), .val (.bool (decide (x21 > (D.zap x14))))] mixed r (by kernel_rfl) ?_ ?_
     ·
      refine fc r (fun fr1 g w' hb' hd r' => za5 r' rfl bz) ?_
      refine fc r (fun fr1 g w' hb' hd r' => za5 r' rfl bz) ?_
      refine fc r (fun fr1 g w' hb' hd r' => zbe r' ((hP.below (dr hb')).ro (i := 1) rfl) hx21 sl99 (hd 0 rfl).1 (hd 1 rfl).1 bz) ?_
      refine fc r (fun fr1 g w' hb' hd r' => zba r' (u := (U x21)) (RoAt.at_ (f := u64) (x := x21) ((hP.below (dr hb')).ro (i := 1) rfl) (fun _ => rfl) hx21) (hd 2 rfl).1 to40 bz) ?_
      refine fc r (fun fr1 g w' hb' hd r' => za7 r' (cs := (zlv x14)) (n := 2) rfl ((hP.below (dr hb')).cell (i := 2) rfl) zlN rfl bz) ?_
      refine fc r (fun fr1 g w' hb' hd r' => zac r' (args := [(.agg (zlv x14).toArray)]) (lc (hd 4 rfl).1 l0) zml ((zcG _ x14).mono (by rintro _ w2 ⟨rfl, hb2⟩; exact ⟨_, rfl, hb2, rfl⟩))) ?_
      refine fc r (fun fr1 g w' hb' hd r' => zlt r' (hd 3 rfl).1 (hd 5 rfl).1 rfl rfl bz) ?_
      exact zb1
     ·
      intro fr gg w22 hb hΦ hap r
      have r := r.congr (sc ((hΦ 6 rfl).1) (sc ((hΦ 5 rfl).1) (sc ((hΦ 4 rfl).1) (sc ((hΦ 3 rfl).1) (sc ((hΦ 2 rfl).1) (sc ((hΦ 1 rfl).1) (sc ((hΦ 0 rfl).1) rfl)))))))
      have hP : Post No [roK 217 2 zlv a0v a0, roK 40 1 u64 a1v a1, zlm b15 ((zlv x14)).toArray 217] w0 w22 := hP.below hb
      refine wp_cond_split (t := (decide (x21 > (D.zap x14)))) (r.ev rfl) (fun h23 => ?_) (fun h23 => ?_)
      ·
       have hD := (zao h23).symm.trans hD
       refine wsr (za0 (U 0) r (fun R => za6 r rfl) rfl fun fr r => za0 (I 1) r (fun R => za6 r rfl) rfl fun fr r => wn (wp_ret ?_))
       refine rty11 (0, 1) _ _ hD fun hD => ?_
       have hv : (0, 1) = res := Option.some.inj hD
       try dsimp only [Exit.then, Exit.inBlock]
       refine zdy (fn := Tryz.f125) r (t := 4) (t' := 5) rfl (v := (U 0)) (v' := (I 1)) rfl rfl ?_
       subst hv
       exact ⟨rfl, hP.chg.below⟩
      ·
       have hD := (zah h23).symm.trans hD
       refine wp_skip ?_
       obtain ⟨x24, hx24, hD⟩ := zad hD
       refine zb5 7 [.val (.agg (zlv x14).toArray), .val (U x9.2.2.1), .val a1v, .val (I x9.2.2.2), .val (.pointer (some ⟨rowB a1v, rowO a1v + x9.2.2.2.toNat * 1, none⟩)), .val (U x24), .val (U (D.zaH x14 x9.2.2.1 x24))] mixed r (by kernel_rfl) (za3 (by exact trivial) (za3 (by exact trivial) (za3 (by exact trivial) (za3 (by exact trivial) (za3 (by exact trivial) (za3 (by exact trivial) (za3 (by exact trivial) zaV))))))) ?_ ?_
       ·
        refine ec r (fun _ u _ b d s => za7 s (cs := (zlv x14)) (n := 2) rfl ((hP.below (dr b)).cell (i := 2) rfl) zlN rfl bz) (ec r (fun _ u _ b d s => za5 s rfl bz) (ec r (fun _ u _ b d s => za5 s rfl bz) (ec r (fun _ u _ b d s => za5 s rfl bz) (ec r (fun _ u _ b d s => zbe s ((hP.below (dr b)).ro (i := 1) rfl) hx24 sl99 d.1 d.2.1 bz) (ec r (fun fr1 u w' hb' hd r' => zba r' (u := (U x24)) (RoAt.at_ (f := u64) (x := x24) ((hP.below (dr hb')).ro (i := 1) rfl) (fun _ => rfl) hx24) hd.1 to40 bz) (ec r (fun fr1 u w' hb' hd r' => zac r' (args := [(.agg (zlv x14).toArray), (U x9.2.2.1), (U x24)]) (lc hd.1 (lc hd.2.1 (lc hd.2.2.1 l0))) zmm ((zdt _ x14 x9.2.2.1 x24).mono (by rintro _ w2 ⟨rfl, hb2⟩; exact ⟨_, rfl, hb2, rfl⟩))) ?_))))))
        exact zbc
       ·
        intro fr u w25 hb hΦ hne r
        have r := r.congr (sc (hΦ 6 (by decide)) (sc (hΦ 5 (by decide)) (sc (hΦ 4 (by decide)) (sc (hΦ 3 (by decide)) (sc (hΦ 2 (by decide)) (sc (hΦ 1 (by decide)) (sc (hΦ 0 (by decide)) rfl)))))))
        have hP : Post No [roK 217 2 zlv a0v a0, roK 40 1 u64 a1v a1, zlm b15 ((zlv x14)).toArray 217] w0 w25 := hP.below hb
        refine za0 (U (D.zaH x14 x9.2.2.1 x24)) r (fun R => za6 r rfl) rfl fun fr r => wn ?_
        refine wp_region_lit (za0 _ r (fun R => zlt r rfl rfl rfl rfl) rfl fun fr r => za0 (I (W (x9.2.2.2 + 1))) r (fun R => za5 r rfl) rfl fun fr r => wn ?_)
        exact nxy11 (x9.1, x9.2.1, (D.zaH x14 x9.2.2.1 x24), (W (x9.2.2.2 + 1))) () _ _ _ hD r (za1 rfl (za1 rfl (za1 rfl (za1 rfl (za1 rfl (za1 rfl (za1 rfl (za1 rfl (za1 rfl zaz))))))))) (hP.pick [0, 1] rfl rfl)
    ·
     have hD := (zah h13).symm.trans hD
     refine wp_exit ?_
     exact bky11 (x9.1, x9.2.1, x9.2.2.1, x9.2.2.2) () _ _ _ hD r (za1 rfl (za1 rfl (za1 rfl (za1 rfl (za1 rfl (za1 rfl (za1 rfl (za1 rfl (za1 rfl zaz))))))))) (hP.pick [0, 1] rfl rfl)
   ·
    rintro x26 γ27 fr w28 g r hP hD
    have hP : Post No [roK 217 2 zlv a0v a0, roK 40 1 u64 a1v a1] w0 w28 := hP
    refine wsr (za0 (U x26.2.2.1) r (fun R => za5 r rfl) rfl fun fr r => za0 (U x26.2.2.1) r (fun R => za6 r rfl) rfl fun fr r => za0 (I 0) r (fun R => za6 r rfl) rfl fun fr r => wn (wp_ret ?_))
    have hv : (x26.2.2.1, 0) = res := Option.some.inj hD
    try dsimp only [Exit.then, Exit.inBlock]
    refine zdy (fn := Tryz.f125) r (t := 4) (t' := 5) rfl (v := (U x26.2.2.1)) (v' := (I 0)) rfl rfl ?_
    subst hv
    exact ⟨rfl, hP.chg.below⟩
def D.zan (fu : Nat) (a0 : State) : Option (Int) := (bif (!(D.zaE a0)) then (some 0) else ((D.ze8 fu ).bind (fun (x7 : Arr3F) => ((D.zdr fu ([x7.f0, x7.f1, x7.f2]) ([(IntKind.u64.wrap a0.gen), (IntKind.u64.wrap a0.mode), (IntKind.u64.wrap a0.kind)])).bind (fun (x17 : Int × Int) => (some x17.1))))))
theorem zbX {fu : Nat} (w0 : World) (a0 : State) {res : Int} (hD : D.zan fu a0 = some res) :
    Calls Tryz.prog 32 #[.agg (zlw a0).toArray] w0 (zlE (.int .u64 res) w0) := by
 refine enter Tryz.func32 rfl 26 rfl rfl fun fr r => ?_
 have hP : Post No [] w0 w0 := Post.nil w0
 unfold D.zan at hD
 refine wsr ?_
 refine zaa (.cells ((zlw a0)).toArray 55 (0, 0)) r (fun R => zlC r (v := (.agg (zlw a0).toArray)) rfl) rfl fun fr b1 w2 n3 r => ?_
 have hP : Post No [zlm b1 ((zlw a0)).toArray 55] w0 w2 := hP.new n3
 refine za0 (U 0) r (fun R => za6 r rfl) rfl fun fr r => wn (wp_seq (wsr (za0 (.agg (zlw a0).toArray) r (fun R => za7 r (cs := (zlw a0)) (n := 3) rfl (hP.cell (i := 0) rfl) ta55 rfl) rfl fun fr r => ?_)))
 refine za9 r (zdM w2 a0) (fun R hc => zac r rfl znp hc) rfl ?_
 rintro _ w5 ⟨rfl, hb⟩
 refine ⟨_, rfl, fun fr r => ?_⟩
 have hP : Post No [zlm b1 ((zlw a0)).toArray 55] w0 w5 := hP.below hb
 refine za0 (.bool (!(D.zaE a0))) r (fun R => y_un r (u := (.bool (D.zaE a0))) rfl rfl) rfl fun fr r => wn ?_
 refine wp_cond_split (t := (!(D.zaE a0))) (r.ev rfl) (fun h6 => ?_) (fun h6 => ?_)
 ·
  have hD := (zao h6).symm.trans hD
  refine wsr (za0 (U 0) r (fun R => za6 r rfl) rfl fun fr r => wn (wp_ret ?_))
  have hv : 0 = res := Option.some.inj hD
  try dsimp only [Exit.then, Exit.inBlock]
  refine zaA (fn := Tryz.f32) r (t := 2) rfl (v := (U 0)) rfl ?_
  subst hv
  exact ⟨rfl, hP.chg.below⟩
 ·
  have hD := (zah h6).symm.trans hD
  refine wp_skip (wsr ?_)
  obtain ⟨x7, hx7, hD⟩ := zad hD
  refine za9 r (zfl w5  hx7) (fun R hc => zac r rfl zmU hc) rfl ?_
  rintro _ w8 ⟨rfl, hb⟩
  refine ⟨_, rfl, fun fr r => ?_⟩
  have hP : Post No [zlm b1 ((zlw a0)).toArray 55] w0 w8 := hP.below hb
  refine zaa (.cells ((zcz (⟨(⟨0, 0⟩ : Field), (⟨0, 0⟩ : Field), (⟨0, 0⟩ : Field)⟩ : Arr3F))).toArray 218 (0, 0)) r (fun R => zar zmv) rfl fun fr b9 w10 n11 r => ?_
  have hP : Post No [zlm b1 ((zlw a0)).toArray 55, zlm b9 ((zcz (⟨(⟨0, 0⟩ : Field), (⟨0, 0⟩ : Field), (⟨0, 0⟩ : Field)⟩ : Arr3F))).toArray 218] w0 w10 := hP.new n11
  refine zaf (.cells ((zcz x7)).toArray 218 (0, 0)) r (fun R => zb0 r (o := 0) (v := (.agg (zcz x7).toArray)) rfl rfl (hP.cell (i := 1) rfl) zmN (Nat.le_of_ble_eq_true rfl) rfl rfl) rfl fun fr w13 u14 r => ?_
  have hP : Post No [zlm b1 ((zlw a0)).toArray 55, zlm b9 ((zcz x7)).toArray 218] w0 w13 := hP.upd (i := 1) rfl u14
  refine wn (wp_seq ?_)
  obtain ⟨x17, hx17, hD⟩ := zad hD
  refine zbn [.val (.slice (some ⟨b9, 0, none⟩) 3 3), .val (zp b1), .val (I a0.gen), .val (U (V a0.gen)), .val (.pointer (some ⟨b1, 1, none⟩)), .val (I a0.mode), .val (U (V a0.mode)), .val (.pointer (some ⟨b1, 2, none⟩)), .val (I a0.kind), .val (U (V a0.kind)), .pred (MkP (fun v : Value => v) (fun v : Value => [rowK 40 1 u64 v ([(V a0.gen), (V a0.mode), (V a0.kind)])])) (MkP.st _ _), .val (.tuple #[(U x17.1), (I x17.2)]), .val (.tuple #[(U x17.1), (I x17.2)]), .val (U x17.1), .val (I x17.2), .val (U x17.1), .val (I x17.2)] mixed r (by kernel_rfl) ?_ ?_
  ·
   refine fc r (fun fr1 g w' hb' hd r' => zn5 r' znf rfl bz) ?_
   refine fc r (fun fr1 g w' hb' hd r' => za4 r' (b := b1) (o := 0) rfl zgp bz) ?_
   refine fc r (fun fr1 g w' hb' hd r' => za2 r' (hd 1 rfl).1 ((hP.below (dr hb')).cell (i := 0) rfl) to3 rfl bz) ?_
   refine fc r (fun fr1 g w' hb' hd r' => zbf r' (n := a0.gen) (hd 2 rfl).1 ti3 ti40 bz) ?_
   refine fc r (fun fr1 g w' hb' hd r' => za4 r' (b := b1) (o := 0) rfl zih bz) ?_
   refine fc r (fun fr1 g w' hb' hd r' => za2 r' (hd 4 rfl).1 ((hP.below (dr hb')).cell (i := 0) rfl) to3 rfl bz) ?_
   refine fc r (fun fr1 g w' hb' hd r' => zbf r' (n := a0.mode) (hd 5 rfl).1 ti3 ti40 bz) ?_
   refine fc r (fun fr1 g w' hb' hd r' => za4 r' (b := b1) (o := 0) rfl zjk bz) ?_
   refine fc r (fun fr1 g w' hb' hd r' => za2 r' (hd 7 rfl).1 ((hP.below (dr hb')).cell (i := 0) rfl) to3 rfl bz) ?_
   refine fc r (fun fr1 g w' hb' hd r' => zbf r' (n := a0.kind) (hd 8 rfl).1 ti3 ti40 bz) ?_
   refine fc r (fun fr1 g w' hb' hd r' => zbz r' (c := (([(V a0.gen), (V a0.mode), (V a0.kind)]).flatMap u64).toArray) (E := 40) (bs3 (congrArg (fun z => (0, z)) (hd 3 rfl).1) (congrArg (fun z => (1, z)) (hd 6 rfl).1) (congrArg (fun z => (2, z)) (hd 9 rfl).1) (by kernel_rfl)) (fun b w2 n2 => ⟨n2.below, MkP.newRow n2 (fun _ => rfl) rfl⟩)) ?_
   refine fc r (fun fr1 g w' hb' hd r' => zac r' (args := [(.slice (some ⟨b9, 0, none⟩) 3 3), (g 10).v]) (lc (hd 0 rfl).1 (lc rfl l0)) zoD ((zhU _ ([x7.f0, x7.f1, x7.f2]) (RoAt.ofCell ((hP.below (dr hb')).cell (i := 1) rfl) rfl (List.cons_ne_nil _ _) rfl) ([(V a0.gen), (V a0.mode), (V a0.kind)]) (MkP.row (hd 10 rfl).1) hx17).mono (by rintro _ w2 ⟨rfl, hb2⟩; exact ⟨_, rfl, hb2, rfl⟩))) ?_
   refine fc r (fun fr1 g w' hb' hd r' => za5 r' (hd 11 rfl).1 bz) ?_
   refine fc r (fun fr1 g w' hb' hd r' => zaQ r' (vs := #[(U x17.1), (I x17.2)]) (hd 12 rfl).1 rfl bz) ?_
   refine fc r (fun fr1 g w' hb' hd r' => zaQ r' (vs := #[(U x17.1), (I x17.2)]) (hd 12 rfl).1 rfl bz) ?_
   refine fc r (fun fr1 g w' hb' hd r' => za6 r' (hd 13 rfl).1 bz) ?_
   refine fc r (fun fr1 g w' hb' hd r' => za6 r' (hd 14 rfl).1 bz) ?_
   exact zb1
  ·
   intro fr gg w18 hb hΦ hap r
   obtain ⟨v15, g10, hs10⟩ := (hΦ 10 rfl).1
   have r := r.congr (sc ((hΦ 16 rfl).1) (sc ((hΦ 15 rfl).1) (sc ((hΦ 14 rfl).1) (sc ((hΦ 13 rfl).1) (sc ((hΦ 12 rfl).1) (sc ((hΦ 11 rfl).1) (sc g10 (sc ((hΦ 9 rfl).1) (sc ((hΦ 8 rfl).1) (sc ((hΦ 7 rfl).1) (sc ((hΦ 6 rfl).1) (sc ((hΦ 5 rfl).1) (sc ((hΦ 4 rfl).1) (sc ((hΦ 3 rfl).1) (sc ((hΦ 2 rfl).1) (sc ((hΦ 1 rfl).1) (sc ((hΦ 0 rfl).1) rfl)))))))))))))))))
   have hP : Post No [zlm b1 ((zlw a0)).toArray 55, zlm b9 ((zcz x7)).toArray 218, rowK 40 1 u64 v15 ([(V a0.gen), (V a0.mode), (V a0.kind)])] w0 w18 := hP.addL (l := [([rowK 40 1 u64 v15 ([(V a0.gen), (V a0.mode), (V a0.kind)])], (gg 10).lo, (gg 10).hi)]) hb ⟨hs10, (hΦ 10 rfl).2.1, zbl, trivial⟩
   refine wsr (za0 (U x17.1) r (fun R => za5 r rfl) rfl fun fr r => za0 (U x17.1) r (fun R => za6 r rfl) rfl fun fr r => wn (wp_ret ?_))
   have hv : x17.1 = res := Option.some.inj hD
   try dsimp only [Exit.then, Exit.inBlock]
   refine zaA (fn := Tryz.f32) r (t := 2) rfl (v := (U x17.1)) rfl ?_
   subst hv
   exact ⟨rfl, hP.chg.below⟩
def D.zd2 (fu : Nat) (a0 : List Field) (a1 : Int) : Option (List Int × Int) := ((D.zdz fu a0).bind (fun (x1 : Bool) => (bif (!x1) then (some ([], 1)) else (loopThen (fun (x6 : List Int × Int × Int) => (bif (decide (x6.2.2 < (a0.length : Int))) then ((getI a0 x6.2.2).bind (fun (x11 : Field) => ((appD x6.1 ([(D.zag x11 a1)])).bind (fun (x23 : List Int) => (some (Lp.next (x23, (zb6 .u64 x6.2.1 (D.zat x11)), (IntKind.i64.wrap (x6.2.2 + 1))))))))) else (some (Lp.brk (x6.1, x6.2.1, x6.2.2))))) fu ([], a1, 0) (fun (x28 : List Int × Int × Int) => (bif (x28.2.1 != 0) then (some ([], 10)) else (some (x28.1, 0))))))))
theorem zhI {fu : Nat} (w0 : World) {a0v : Value} (a0 : List Field) (a0h : RoAt 217 2 zlv a0v a0 w0) (a1 : Int) {res : List Int × Int} (hD : D.zd2 fu a0 a1 = some res) :
    Calls Tryz.prog 188 #[a0v, .int .u64 a1] w0 (fun e w' => ∃ (v0 : Value), e = .returned (.tuple #[v0, (.int .i64 res.2)]) ∧ Done No No [rowK 40 1 u64 v0 res.1] w0 w') := by
 refine enter Tryz.func188 rfl 34 rfl rfl fun fr r => ?_
 have hP : Post No [] w0 w0 := Post.nil w0
 have hP : Post No [roK 217 2 zlv a0v a0] w0 w0 := hP.addRo zb3 a0h rfl a0h.lt
 unfold D.zd2 at hD
 refine wsr (za0 (Value.slice none 0 0) r (fun R => za6 r rfl) rfl fun fr r => za0 (I 0) r (fun R => za6 r rfl) rfl fun fr r => wn (wp_seq (wsr (za0 a0v r (fun R => za5 r rfl) rfl fun fr r => ?_))))
 obtain ⟨x1, hx1, hD⟩ := zad hD
 refine za9 r (zfm w0 a0 (hP.ro (i := 0) rfl) hx1) (fun R hc => zac r rfl zno hc) rfl ?_
 rintro _ w2 ⟨rfl, hb⟩
 refine ⟨_, rfl, fun fr r => ?_⟩
 have hP : Post No [roK 217 2 zlv a0v a0] w0 w2 := hP.below hb
 refine za0 (.bool (!x1)) r (fun R => y_un r (u := (.bool x1)) rfl rfl) rfl fun fr r => wn ?_
 refine wp_cond_split (t := (!x1)) (r.ev rfl) (fun h3 => ?_) (fun h3 => ?_)
 ·
  have hD := (zao h3).symm.trans hD
  refine wsr (za0 (Value.slice none 0 0) r (fun R => za6 r rfl) rfl fun fr r => za0 (I 1) r (fun R => za6 r rfl) rfl fun fr r => wn (wp_ret ?_))
  have hP : Post No [roK 217 2 zlv a0v a0, rowK 40 1 u64 (Value.slice none 0 0) ([])] w0 w2 := hP.nilRow 40 1 u64
  have hv : ([], 1) = res := Option.some.inj hD
  try dsimp only [Exit.then, Exit.inBlock]
  refine zdy (fn := Tryz.f188) r (t := 4) (t' := 5) rfl (v := (Value.slice none 0 0)) (v' := (I 1)) rfl rfl ?_
  subst hv
  exact ⟨(Value.slice none 0 0), rfl, (hP.pick [1] rfl rfl).done (zbq rfl zbi)⟩
 ·
  have hD := (zah h3).symm.trans hD
  refine wp_skip (wsr (za0 (Value.slice none 0 0) r (fun R => za6 r rfl) rfl fun fr r => wn (wsr (za0 (U a1) r (fun R => za5 r rfl) rfl fun fr r => za0 (U a1) r (fun R => za6 r rfl) rfl fun fr r => wn (wp_seq (wsr (za0 a0v r (fun R => za5 r rfl) rfl fun fr r => za0 (I (a0.length : Int)) r (fun R => zbj r (hP.ro (i := 0) rfl) zmo rfl) rfl fun fr r => za0 (I 0) r (fun R => za5 r rfl) rfl fun fr r => wn ?_)))))))
  have hP : Post No [roK 217 2 zlv a0v a0, rowK 40 1 u64 (Value.slice none 0 0) ([])] w0 w2 := hP.nilRow 40 1 u64
  refine zcu (X := List Int × Int × Int) (G := Value) (x0 := ([], a1, 0)) (fun x γ => [(0, a0v), (1, (U a1)), (4, (Value.slice none 0 0)), (5, (I 0)), (12, (.bool (!x1))), (14, a0v), (15, (I (a0.length : Int))), (6, γ), (7, (U x.2.1)), (16, (I x.2.2))]) (fun x γ w => Post No [roK 217 2 zlv a0v a0, rowK 40 1 u64 γ x.1] w0 w) (Value.slice none 0 0) r (za1 rfl (za1 rfl (za1 rfl (za1 rfl (za1 rfl (za1 rfl (za1 rfl (za1 rfl (za1 rfl (za1 rfl zaz)))))))))) hP hD ?_ ?_
  ·
   rintro x6 γ7 fr w9 g y8 RPy8 nxy8 bky8 rty8 r hP hD
   have hP : Post No [roK 217 2 zlv a0v a0, rowK 40 1 u64 γ7 x6.1] w0 w9 := hP
   refine wsr (za0 _ r (fun R => zlt r rfl rfl rfl rfl) rfl fun fr r => wn (wp_seq ?_))
   refine wp_cond_split (t := (decide (x6.2.2 < (a0.length : Int)))) (r.ev rfl) (fun h10 => ?_) (fun h10 => ?_)
   ·
    have hD := (zao h10).symm.trans hD
    refine wp_skip (wp_seq (wp_block (wsr ?_)))
    obtain ⟨x11, hx11, hD⟩ := zad hD
    refine za0 (.pointer (some ⟨rowB a0v, rowO a0v + x6.2.2.toNat * 2, none⟩)) r (fun R => zbe r (hP.ro (i := 0) rfl) hx11 zmP rfl rfl) rfl fun fr r => za0 (.agg (zlv x11).toArray) r (fun R => zfu r (cs := (zlv x11)) (RoAt.at_ (f := zlv) (x := x11) (hP.ro (i := 0) rfl) (fun _ => rfl) hx11) rfl zlN) rfl fun fr r => ?_
    refine zaa (.cells ((zlv (⟨0, 0⟩ : Field))).toArray 217 (0, 0)) r (fun R => zar zm0) rfl fun fr b12 w13 n14 r => ?_
    have hP : Post No [roK 217 2 zlv a0v a0, rowK 40 1 u64 γ7 x6.1, zlm b12 ((zlv (⟨0, 0⟩ : Field))).toArray 217] w0 w13 := hP.new n14
    refine zaf (.cells ((zlv x11)).toArray 217 (0, 0)) r (fun R => zb0 r (o := 0) (v := (.agg (zlv x11).toArray)) rfl rfl (hP.cell (i := 2) rfl) zm4 (Nat.le_of_ble_eq_true rfl) rfl rfl) rfl fun fr w16 u17 r => ?_
    have hP : Post No [roK 217 2 zlv a0v a0, rowK 40 1 u64 γ7 x6.1, zlm b12 ((zlv x11)).toArray 217] w0 w16 := hP.upd (i := 2) rfl u17
    refine wn (wsr (za0 γ7 r (fun R => za5 r rfl) rfl fun fr r => za0 (.agg (zlv x11).toArray) r (fun R => za7 r (cs := (zlv x11)) (n := 2) rfl (hP.cell (i := 2) rfl) zlN rfl) rfl fun fr r => za0 (U a1) r (fun R => za5 r rfl) rfl fun fr r => ?_))
    refine za9 r (zct w16 x11 a1) (fun R hc => zac r rfl zm5 hc) rfl ?_
    rintro _ w18 ⟨rfl, hb⟩
    refine ⟨_, rfl, fun fr r => ?_⟩
    have hP : Post No [roK 217 2 zlv a0v a0, rowK 40 1 u64 γ7 x6.1, zlm b12 ((zlv x11)).toArray 217] w0 w18 := hP.below hb
    refine zch (.cells (([(D.zag x11 a1)]).flatMap u64).toArray 40 (0, 0)) 1 r (fun R => zbz r (by kernel_rfl)) rfl fun fr b19 w20 n21 r => ?_
    have hP : Post No [roK 217 2 zlv a0v a0, rowK 40 1 u64 γ7 x6.1, zlm b12 ((zlv x11)).toArray 217, rowK 40 1 u64 (.slice (some ⟨b19, 0, none⟩) 1 1) ([(D.zag x11 a1)])] w0 w20 := hP.newRow n21 (fun _ => rfl) rfl
    obtain ⟨x23, hx23, hD⟩ := zad hD
    refine zdg 40 1 u64 γ7 r (fun R => zcH r rt99 (fun _ => rfl) (fun _ => rfl) (hP.row (i := 1) rfl) (hP.row (i := 3) rfl).ro hx23 rfl rfl) rfl fun fr v24 w25 ha26 r => ?_
    have hP : Post No [roK 217 2 zlv a0v a0, rowK 40 1 u64 v24 x23, zlm b12 ((zlv x11)).toArray 217, rowK 40 1 u64 (.slice (some ⟨b19, 0, none⟩) 1 1) ([(D.zag x11 a1)])] w0 w25 := hP.append (i := 1) rfl ha26
    refine za0 v24 r (fun R => za6 r rfl) rfl fun fr r => wn ?_
    refine wp_region_lit (za0 (U x6.2.1) r (fun R => za5 r rfl) rfl fun fr r => za0 (.agg (zlv x11).toArray) r (fun R => za7 r (cs := (zlv x11)) (n := 2) rfl (hP.cell (i := 2) rfl) zlN rfl) rfl fun fr r => ?_)
    refine za9 r (zcF w25 x11) (fun R hc => zac r rfl zmq hc) rfl ?_
    rintro _ w27 ⟨rfl, hb⟩
    refine ⟨_, rfl, fun fr r => ?_⟩
    have hP : Post No [roK 217 2 zlv a0v a0, rowK 40 1 u64 v24 x23, zlm b12 ((zlv x11)).toArray 217, rowK 40 1 u64 (.slice (some ⟨b19, 0, none⟩) 1 1) ([(D.zag x11 a1)])] w0 w27 := hP.below hb
    refine za0 _ r (fun R => zlt r rfl rfl rfl rfl) rfl fun fr r => za0 (U (zb6 .u64 x6.2.1 (D.zat x11))) r (fun R => za6 r rfl) rfl fun fr r => wn ?_
    refine wp_region_lit (za0 _ r (fun R => zlt r rfl rfl rfl rfl) rfl fun fr r => za0 (I (W (x6.2.2 + 1))) r (fun R => za5 r rfl) rfl fun fr r => wn ?_)
    exact nxy8 (x23, (zb6 .u64 x6.2.1 (D.zat x11)), (W (x6.2.2 + 1))) v24 _ _ _ hD r (za1 rfl (za1 rfl (za1 rfl (za1 rfl (za1 rfl (za1 rfl (za1 rfl (za1 rfl (za1 rfl (za1 rfl zaz)))))))))) (hP.pick [0, 1] rfl rfl)
   ·
    have hD := (zah h10).symm.trans hD
    refine wp_exit ?_
    exact bky8 (x6.1, x6.2.1, x6.2.2) γ7 _ _ _ hD r (za1 rfl (za1 rfl (za1 rfl (za1 rfl (za1 rfl (za1 rfl (za1 rfl (za1 rfl (za1 rfl (za1 rfl zaz)))))))))) (hP.pick [0, 1] rfl rfl)
  ·
   rintro x28 γ29 fr w30 g r hP hD
   have hP : Post No [roK 217 2 zlv a0v a0, rowK 40 1 u64 γ29 x28.1] w0 w30 := hP
   refine wp_seq (wsr (za0 (U x28.2.1) r (fun R => za5 r rfl) rfl fun fr r => za0 _ r (fun R => zlt r rfl rfl rfl rfl) rfl fun fr r => wn ?_))
   refine wp_cond_split (t := (x28.2.1 != 0)) (r.ev rfl) (fun h31 => ?_) (fun h31 => ?_)
   ·
    have hD := (zao h31).symm.trans hD
    refine wsr (za0 (Value.slice none 0 0) r (fun R => za6 r rfl) rfl fun fr r => za0 (I 10) r (fun R => za6 r rfl) rfl fun fr r => wn (wp_ret ?_))
    have hP : Post No [roK 217 2 zlv a0v a0, rowK 40 1 u64 γ29 x28.1, rowK 40 1 u64 (Value.slice none 0 0) ([])] w0 w30 := hP.nilRow 40 1 u64
    have hv : ([], 10) = res := Option.some.inj hD
    try dsimp only [Exit.then, Exit.inBlock]
    refine zdy (fn := Tryz.f188) r (t := 4) (t' := 5) rfl (v := (Value.slice none 0 0)) (v' := (I 10)) rfl rfl ?_
    subst hv
    exact ⟨(Value.slice none 0 0), rfl, (hP.pick [2] rfl rfl).done (zbq rfl zbi)⟩
   ·
    have hD := (zah h31).symm.trans hD
    refine wp_skip (wsr (za0 γ29 r (fun R => za5 r rfl) rfl fun fr r => za0 γ29 r (fun R => za6 r rfl) rfl fun fr r => za0 (I 0) r (fun R => za6 r rfl) rfl fun fr r => wn (wp_ret ?_)))
    have hv : (x28.1, 0) = res := Option.some.inj hD
    try dsimp only [Exit.then, Exit.inBlock]
    refine zdy (fn := Tryz.f188) r (t := 4) (t' := 5) rfl (v := γ29) (v' := (I 0)) rfl rfl ?_
    subst hv
    exact ⟨γ29, rfl, (hP.pick [1] rfl rfl).done (zbq rfl zbi)⟩
def D.zau (fu : Nat) (a0 : Int) : Option (State × Bool) := ((D.ze8 fu ).bind (fun (x5 : Arr3F) => ((D.zd2 fu ([x5.f0, x5.f1, x5.f2]) a0).bind (fun (x13 : List Int × Int) => (bif (x13.2 != 0) then (some ((⟨0, 0, 0⟩ : State), false)) else ((getI x13.1 0).bind (fun (x20 : Int) => ((getI x13.1 1).bind (fun (x21 : Int) => ((getI x13.1 2).bind (fun (x22 : Int) => (bif (!(D.zaE (⟨(IntKind.i64.wrap x20), (IntKind.i64.wrap x21), (IntKind.i64.wrap x22)⟩ : State))) then (some ((⟨0, 0, 0⟩ : State), false)) else (some ((⟨(IntKind.i64.wrap x20), (IntKind.i64.wrap x21), (IntKind.i64.wrap x22)⟩ : State), true))))))))))))))
theorem zeo {fu : Nat} (w0 : World) (a0 : Int) {res : State × Bool} (hD : D.zau fu a0 = some res) :
    Calls Tryz.prog 87 #[.int .u64 a0] w0 (zlE (.tuple #[(.agg (zlw res.1).toArray), (.bool res.2)]) w0) := by
 refine enter Tryz.func87 rfl 36 rfl rfl fun fr r => ?_
 have hP : Post No [] w0 w0 := Post.nil w0
 unfold D.zau at hD
 refine wsr ?_
 refine zaa (.cells ((zlw (⟨0, 0, 0⟩ : State))).toArray 55 (0, 0)) r (fun R => zar tz55) rfl fun fr b1 w2 n3 r => ?_
 have hP : Post No [zlm b1 ((zlw (⟨0, 0, 0⟩ : State))).toArray 55] w0 w2 := hP.new n3
 refine za0 (.bool false) r (fun R => za6 r rfl) rfl fun fr r => wn (wsr ?_)
 obtain ⟨x5, hx5, hD⟩ := zad hD
 refine za9 r (zfl w2  hx5) (fun R hc => zac r rfl zmU hc) rfl ?_
 rintro _ w6 ⟨rfl, hb⟩
 refine ⟨_, rfl, fun fr r => ?_⟩
 have hP : Post No [zlm b1 ((zlw (⟨0, 0, 0⟩ : State))).toArray 55] w0 w6 := hP.below hb
 refine zaa (.cells ((zcz (⟨(⟨0, 0⟩ : Field), (⟨0, 0⟩ : Field), (⟨0, 0⟩ : Field)⟩ : Arr3F))).toArray 218 (0, 0)) r (fun R => zar zmv) rfl fun fr b7 w8 n9 r => ?_
 have hP : Post No [zlm b1 ((zlw (⟨0, 0, 0⟩ : State))).toArray 55, zlm b7 ((zcz (⟨(⟨0, 0⟩ : Field), (⟨0, 0⟩ : Field), (⟨0, 0⟩ : Field)⟩ : Arr3F))).toArray 218] w0 w8 := hP.new n9
 refine zaf (.cells ((zcz x5)).toArray 218 (0, 0)) r (fun R => zb0 r (o := 0) (v := (.agg (zcz x5).toArray)) rfl rfl (hP.cell (i := 1) rfl) zmN (Nat.le_of_ble_eq_true rfl) rfl rfl) rfl fun fr w11 u12 r => ?_
 have hP : Post No [zlm b1 ((zlw (⟨0, 0, 0⟩ : State))).toArray 55, zlm b7 ((zcz x5)).toArray 218] w0 w11 := hP.upd (i := 1) rfl u12
 refine wn (wsr (za0 (.slice (some ⟨b7, 0, none⟩) 3 3) r (fun R => zn5 r znf rfl) rfl fun fr r => za0 (U a0) r (fun R => za5 r rfl) rfl fun fr r => ?_))
 obtain ⟨x13, hx13, hD⟩ := zad hD
 refine za9 r (zhI w11 ([x5.f0, x5.f1, x5.f2]) (RoAt.ofCell (hP.cell (i := 1) rfl) rfl (List.cons_ne_nil _ _) rfl) a0 hx13) (fun R hc => zac r rfl zoJ hc) rfl ?_
 rintro _ w14 ⟨v15, rfl, hq⟩
 refine ⟨_, rfl, fun fr r => ?_⟩
 have hP : Post No [zlm b1 ((zlw (⟨0, 0, 0⟩ : State))).toArray 55, zlm b7 ((zcz x5)).toArray 218, rowK 40 1 u64 v15 x13.1] w0 w14 := hP.add hq
 refine za0 (.tuple #[v15, (I x13.2)]) r (fun R => za5 r rfl) rfl fun fr r => za0 v15 r (fun R => zaQ r (vs := #[v15, (I x13.2)]) rfl rfl) rfl fun fr r => za0 (I x13.2) r (fun R => zaQ r (vs := #[v15, (I x13.2)]) rfl rfl) rfl fun fr r => za0 v15 r (fun R => za6 r rfl) rfl fun fr r => za0 (I x13.2) r (fun R => za6 r rfl) rfl fun fr r => wn (wp_seq (wsr (za0 (I x13.2) r (fun R => za5 r rfl) rfl fun fr r => za0 _ r (fun R => zlt r rfl rfl rfl rfl) rfl fun fr r => wn ?_)))
 refine wp_cond_split (t := (x13.2 != 0)) (r.ev rfl) (fun h17 => ?_) (fun h17 => ?_)
 ·
  have hD := (zao h17).symm.trans hD
  refine wsr (za0 (.agg (zlw (⟨0, 0, 0⟩ : State)).toArray) r (fun R => zb4 r (by kernel_rfl)) rfl fun fr r => ?_)
  refine zaf (.cells ((zlw (⟨0, 0, 0⟩ : State))).toArray 55 (0, 0)) r (fun R => zb0 r (o := 0) (v := (.agg (zlw (⟨0, 0, 0⟩ : State)).toArray)) rfl rfl (hP.cell (i := 0) rfl) ts55 (Nat.le_of_ble_eq_true rfl) rfl rfl) rfl fun fr w18 u19 r => ?_
  have hP : Post No [zlm b1 ((zlw (⟨0, 0, 0⟩ : State))).toArray 55, zlm b7 ((zcz x5)).toArray 218, rowK 40 1 u64 v15 x13.1] w0 w18 := hP.upd (i := 0) rfl u19
  refine za0 (.bool false) r (fun R => za6 r rfl) rfl fun fr r => wn (wp_ret ?_)
  have hv : ((⟨0, 0, 0⟩ : State), false) = res := Option.some.inj hD
  try dsimp only [Exit.then, Exit.inBlock]
  refine zbJ (fn := Tryz.f87) r rfl rfl (v' := (.bool false)) rfl (hP.cell (i := 0) rfl) (k := 3) rfl ta55 ?_
  subst hv
  exact ⟨rfl, hP.chg.below⟩
 ·
  have hD := (zah h17).symm.trans hD
  refine wp_skip (wp_seq ?_)
  obtain ⟨x20, hx20, hD⟩ := zad hD
  obtain ⟨x21, hx21, hD⟩ := zad hD
  obtain ⟨x22, hx22, hD⟩ := zad hD
  refine zbn [.val v15, .val (.pointer (some ⟨rowB v15, rowO v15 + (0 : Int).toNat * 1, none⟩)), .val (U x20), .val (I (W x20)), .val v15, .val (.pointer (some ⟨rowB v15, rowO v15 + (1 : Int).toNat * 1, none⟩)), .val (U x21), .val (I (W x21)), .val v15, .val (.pointer (some ⟨rowB v15, rowO v15 + (2 : Int).toNat * 1, none⟩)), .val (U x22), .val (I (W x22)), .val (.agg (zlw (⟨(W x20), (W x21), (W x22)⟩ : State)).toArray), .cell 55 3, .stored 13 ((zlw (⟨(W x20), (W x21), (W x22)⟩ : State))).toArray 55 3 rfl] mixed r (by kernel_rfl) ?_ ?_
  ·
   refine fc r (fun fr1 g w' hb' hd r' => za5 r' rfl bz) ?_
   refine fc r (fun fr1 g w' hb' hd r' => zbe r' ((hP.below (dr hb')).row (i := 2) rfl).ro hx20 sl99 (hd 0 rfl).1 rfl bz) ?_
   refine fc r (fun fr1 g w' hb' hd r' => zba r' (u := (U x20)) (RoAt.at_ (f := u64) (x := x20) ((hP.below (dr hb')).row (i := 2) rfl).ro (fun _ => rfl) hx20) (hd 1 rfl).1 to40 bz) ?_
   refine fc r (fun fr1 g w' hb' hd r' => zbf r' (n := x20) (hd 2 rfl).1 ti40 ti3 bz) ?_
   refine fc r (fun fr1 g w' hb' hd r' => za5 r' rfl bz) ?_
   refine fc r (fun fr1 g w' hb' hd r' => zbe r' ((hP.below (dr hb')).row (i := 2) rfl).ro hx21 sl99 (hd 4 rfl).1 rfl bz) ?_
   refine fc r (fun fr1 g w' hb' hd r' => zba r' (u := (U x21)) (RoAt.at_ (f := u64) (x := x21) ((hP.below (dr hb')).row (i := 2) rfl).ro (fun _ => rfl) hx21) (hd 5 rfl).1 to40 bz) ?_
   refine fc r (fun fr1 g w' hb' hd r' => zbf r' (n := x21) (hd 6 rfl).1 ti40 ti3 bz) ?_
   refine fc r (fun fr1 g w' hb' hd r' => za5 r' rfl bz) ?_
   refine fc r (fun fr1 g w' hb' hd r' => zbe r' ((hP.below (dr hb')).row (i := 2) rfl).ro hx22 sl99 (hd 8 rfl).1 rfl bz) ?_
   refine fc r (fun fr1 g w' hb' hd r' => zba r' (u := (U x22)) (RoAt.at_ (f := u64) (x := x22) ((hP.below (dr hb')).row (i := 2) rfl).ro (fun _ => rfl) hx22) (hd 9 rfl).1 to40 bz) ?_
   refine fc r (fun fr1 g w' hb' hd r' => zbf r' (n := x22) (hd 10 rfl).1 ti40 ti3 bz) ?_
   refine fc r (fun fr1 g w' hb' hd r' => zb4 r' (v := (.agg (zlw (⟨(W x20), (W x21), (W x22)⟩ : State)).toArray)) (bs3 (congrArg (fun z => (0, z)) (hd 3 rfl).1) (congrArg (fun z => (1, z)) (hd 7 rfl).1) (congrArg (fun z => (2, z)) (hd 11 rfl).1) (by kernel_rfl)) bz) ?_
   refine fc r (fun fr1 g w' hb' hd r' => zar tz55 (fun b w2 n2 => ⟨n2.below, b, rfl, n2.eq, _, n2.at_, rfl⟩)) ?_
   refine zf2 r rfl (fun fr1 g w' hb' hd r' => ?_) ?_
   · obtain ⟨hp, _, c, hc, hn⟩ := (hd 13 rfl).1; exact zb0 r' (o := 0) (c := c) (v := (.agg (zlw (⟨(W x20), (W x21), (W x22)⟩ : State)).toArray)) hp (hd 12 rfl).1 hc ts55 (by rw [hn]; exact Nat.le_of_ble_eq_true rfl) rfl (zg3 (hn.trans rfl)) (fun w2 u2 => ⟨u2, rfl⟩)
   exact zb1
  ·
   intro fr gg w24 hb hΦ hap r
   obtain ⟨b23, ee_b23⟩ : ∃ b, b = (gg 13).lo := ⟨_, rfl⟩
   have g13 : (gg 13).v = (zp b23) := by rw [ee_b23]; exact (hΦ 13 rfl).1.1
   have h_b23 : w24.heap[b23]? = some (.cells ((zlw (⟨(W x20), (W x21), (W x22)⟩ : State))).toArray 55 (0, 0)) := by rw [ee_b23]; exact (hΦ 14 rfl).1.2
   have hs13 : Fresh [zlm b23 ((zlw (⟨(W x20), (W x21), (W x22)⟩ : State))).toArray 55] (gg 13).lo (gg 13).hi w24 := by subst ee_b23; exact Fresh.cell (hΦ 13 rfl).1.2.1 h_b23
   have r := r.congr (sc g13 (sc ((hΦ 12 rfl).1) (sc ((hΦ 11 rfl).1) (sc ((hΦ 10 rfl).1) (sc ((hΦ 9 rfl).1) (sc ((hΦ 8 rfl).1) (sc ((hΦ 7 rfl).1) (sc ((hΦ 6 rfl).1) (sc ((hΦ 5 rfl).1) (sc ((hΦ 4 rfl).1) (sc ((hΦ 3 rfl).1) (sc ((hΦ 2 rfl).1) (sc ((hΦ 1 rfl).1) (sc ((hΦ 0 rfl).1) rfl))))))))))))))
   have hP : Post No [zlm b1 ((zlw (⟨0, 0, 0⟩ : State))).toArray 55, zlm b7 ((zcz x5)).toArray 218, rowK 40 1 u64 v15 x13.1, zlm b23 ((zlw (⟨(W x20), (W x21), (W x22)⟩ : State))).toArray 55] w0 w24 := hP.addL (l := [([zlm b23 ((zlw (⟨(W x20), (W x21), (W x22)⟩ : State))).toArray 55], (gg 13).lo, (gg 13).hi)]) hb ⟨hs13, (hΦ 13 rfl).2.1, zbl, trivial⟩
   refine wp_seq (wsr (za0 (.agg (zlw (⟨(W x20), (W x21), (W x22)⟩ : State)).toArray) r (fun R => za7 r (cs := (zlw (⟨(W x20), (W x21), (W x22)⟩ : State))) (n := 3) rfl (hP.cell (i := 3) rfl) ta55 rfl) rfl fun fr r => ?_))
   refine za9 r (zdM w24 (⟨(W x20), (W x21), (W x22)⟩ : State)) (fun R hc => zac r rfl znp hc) rfl ?_
   rintro _ w25 ⟨rfl, hb⟩
   refine ⟨_, rfl, fun fr r => ?_⟩
   have hP : Post No [zlm b1 ((zlw (⟨0, 0, 0⟩ : State))).toArray 55, zlm b7 ((zcz x5)).toArray 218, rowK 40 1 u64 v15 x13.1, zlm b23 ((zlw (⟨(W x20), (W x21), (W x22)⟩ : State))).toArray 55] w0 w25 := hP.below hb
   refine za0 (.bool (!(D.zaE (⟨(W x20), (W x21), (W x22)⟩ : State)))) r (fun R => y_un r (u := (.bool (D.zaE (⟨(W x20), (W x21), (W x22)⟩ : State)))) rfl rfl) rfl fun fr r => wn ?_
   refine wp_cond_split (t := (!(D.zaE (⟨(W x20), (W x21), (W x22)⟩ : State)))) (r.ev rfl) (fun h26 => ?_) (fun h26 => ?_)
   ·
    have hD := (zao h26).symm.trans hD
    refine wsr (za0 (.agg (zlw (⟨0, 0, 0⟩ : State)).toArray) r (fun R => zb4 r (by kernel_rfl)) rfl fun fr r => ?_)
    refine zaf (.cells ((zlw (⟨0, 0, 0⟩ : State))).toArray 55 (0, 0)) r (fun R => zb0 r (o := 0) (v := (.agg (zlw (⟨0, 0, 0⟩ : State)).toArray)) rfl rfl (hP.cell (i := 0) rfl) ts55 (Nat.le_of_ble_eq_true rfl) rfl rfl) rfl fun fr w27 u28 r => ?_
    have hP : Post No [zlm b1 ((zlw (⟨0, 0, 0⟩ : State))).toArray 55, zlm b7 ((zcz x5)).toArray 218, rowK 40 1 u64 v15 x13.1, zlm b23 ((zlw (⟨(W x20), (W x21), (W x22)⟩ : State))).toArray 55] w0 w27 := hP.upd (i := 0) rfl u28
    refine za0 (.bool false) r (fun R => za6 r rfl) rfl fun fr r => wn (wp_ret ?_)
    have hv : ((⟨0, 0, 0⟩ : State), false) = res := Option.some.inj hD
    try dsimp only [Exit.then, Exit.inBlock]
    refine zbJ (fn := Tryz.f87) r rfl rfl (v' := (.bool false)) rfl (hP.cell (i := 0) rfl) (k := 3) rfl ta55 ?_
    subst hv
    exact ⟨rfl, hP.chg.below⟩
   ·
    have hD := (zah h26).symm.trans hD
    refine wp_skip (wsr (za0 (.agg (zlw (⟨(W x20), (W x21), (W x22)⟩ : State)).toArray) r (fun R => za7 r (cs := (zlw (⟨(W x20), (W x21), (W x22)⟩ : State))) (n := 3) rfl (hP.cell (i := 3) rfl) ta55 rfl) rfl fun fr r => ?_))
    refine zaf (.cells ((zlw (⟨(W x20), (W x21), (W x22)⟩ : State))).toArray 55 (0, 0)) r (fun R => zb0 r (o := 0) (v := (.agg (zlw (⟨(W x20), (W x21), (W x22)⟩ : State)).toArray)) rfl rfl (hP.cell (i := 0) rfl) ts55 (Nat.le_of_ble_eq_true rfl) rfl rfl) rfl fun fr w29 u30 r => ?_
    have hP : Post No [zlm b1 ((zlw (⟨(W x20), (W x21), (W x22)⟩ : State))).toArray 55, zlm b7 ((zcz x5)).toArray 218, rowK 40 1 u64 v15 x13.1, zlm b23 ((zlw (⟨(W x20), (W x21), (W x22)⟩ : State))).toArray 55] w0 w29 := hP.upd (i := 0) rfl u30
    refine za0 (.bool true) r (fun R => za6 r rfl) rfl fun fr r => wn (wp_ret ?_)
    have hv : ((⟨(W x20), (W x21), (W x22)⟩ : State), true) = res := Option.some.inj hD
    try dsimp only [Exit.then, Exit.inBlock]
    refine zbJ (fn := Tryz.f87) r rfl rfl (v' := (.bool true)) rfl (hP.cell (i := 0) rfl) (k := 3) rfl ta55 ?_
    subst hv
    exact ⟨rfl, hP.chg.below⟩
end Go.Proofs.YtfpgnmhcfkikkaaGreat.St

/- Ours. -/
namespace Go.Proofs.YtfpgnmhcfkikkaaGreat
open Go.RowKit
def fGen : Field := ⟨0, 30⟩
def fMode : Field := ⟨30, 2⟩
def fKind : Field := ⟨32, 2⟩
theorem zhj : St.D.zdz 10 [fGen, fMode, fKind] = some true := by decide +kernel
theorem zi5 (w : Int) : St.D.zd2 10 [fGen, fMode, fKind] w = bif (zb6 .u64 (zb6 .u64 (zb6 .u64 w (D.zat fGen)) (D.zat fMode)) (D.zat fKind) != 0) then some ([], 10)
    else some ([D.zag fGen w, D.zag fMode w, D.zag fKind w], 0) := by
  unfold St.D.zd2
  rw [zhj]
  rfl
theorem ziX (a b c : Int) : St.D.zdr 10 [fGen, fMode, fKind] [a, b, c] = bif (decide (a > D.zap fGen)) then some (0, 1) else bif (decide (b > D.zap fMode)) then some (0, 1) else bif (decide (c > D.zap fKind)) then some (0, 1)
    else some (D.zaH fKind (D.zaH fMode (D.zaH fGen 0 a) b) c, 0) := by
  unfold St.D.zdr
  rw [zhj]
  have w1 : IntKind.i64.wrap ((0 : Int) + 1) = 1 := rfl
  have w2 : IntKind.i64.wrap ((1 : Int) + 1) = 2 := rfl
  have w3 : IntKind.i64.wrap ((2 : Int) + 1) = 3 := rfl
  have g0 : ∀ {α : Type} (x y z : α), getI [x, y, z] 0 = some x := fun _ _ _ => rfl
  have g1 : ∀ {α : Type} (x y z : α), getI [x, y, z] 1 = some y := fun _ _ _ => rfl
  have g2 : ∀ {α : Type} (x y z : α), getI [x, y, z] 2 = some z := fun _ _ _ => rfl
  have l3 : ∀ {α : Type} (x y z : α), (([x, y, z] : List α).length : Int) = 3 := fun _ _ _ => rfl
  cases h1 : decide (a > D.zap fGen) <;> cases h2 : decide (b > D.zap fMode) <;> cases h3 : decide (c > D.zap fKind) <;>
    simp only [loopThen, runLoop, goOn, afterLoop, w1, w2, w3, g0, g1, g2, l3, h1, h2, h3, Option.bind_some, cond_true, cond_false, Bool.not_true, bne_self_eq_false, show decide ((0 : Int) < 3) = true from rfl, show decide ((1 : Int) < 3) = true from rfl, show decide ((2 : Int) < 3) = true from rfl, show decide ((3 : Int) < 3) = false from rfl]
def D.zan (s : State) : Int := (St.D.zan 10 s).getD 0
def D.zau (w : Int) : State × Bool := (St.D.zau 10 w).getD (⟨0, 0, 0⟩, false)
theorem zjt (s : State) : ∃ r, St.D.zan 10 s = some r := by
  unfold St.D.zan
  cases (!(D.zaE s))
  · show ∃ r, (((St.D.zdr 10 [fGen, fMode, fKind] [IntKind.u64.wrap s.gen, IntKind.u64.wrap s.mode, IntKind.u64.wrap s.kind]).bind (fun (x17 : Int × Int) => (some x17.1)))) = some r
    rw [ziX]
    generalize decide (IntKind.u64.wrap s.gen > D.zap fGen) = b1
    generalize decide (IntKind.u64.wrap s.mode > D.zap fMode) = b2
    generalize decide (IntKind.u64.wrap s.kind > D.zap fKind) = b3
    cases b1 <;> cases b2 <;> cases b3 <;> exact ⟨_, rfl⟩
  · exact ⟨_, rfl⟩
theorem zkZ (w : Int) : ∃ r, St.D.zau 10 w = some r := by
  unfold St.D.zau
  show ∃ r, (St.D.zd2 10 [fGen, fMode, fKind] w).bind _ = some r
  rw [zi5]
  generalize (zb6 .u64 (zb6 .u64 (zb6 .u64 w (D.zat fGen)) (D.zat fMode)) (D.zat fKind) != 0) = b
  cases b
  · show ∃ r, (bif (!(D.zaE (⟨(IntKind.i64.wrap (D.zag fGen w)), (IntKind.i64.wrap (D.zag fMode w)), (IntKind.i64.wrap (D.zag fKind w))⟩ : State))) then _ else _) = some r
    generalize (!(D.zaE (⟨(IntKind.i64.wrap (D.zag fGen w)), (IntKind.i64.wrap (D.zag fMode w)), (IntKind.i64.wrap (D.zag fKind w))⟩ : State))) = b
    cases b <;> exact ⟨_, rfl⟩
  · exact ⟨_, rfl⟩
theorem zbX (w0 : World) (a0 : State) : Calls Tryz.prog 32 #[.agg (zlw a0).toArray] w0 (zlE (.int .u64 (D.zan a0)) w0) := by
  obtain ⟨r, hr⟩ := zjt a0
  unfold D.zan
  rw [hr]
  exact St.zbX w0 a0 hr
theorem zeo (w0 : World) (a0 : Int) : Calls Tryz.prog 87 #[.int .u64 a0] w0 (zlE (.tuple #[(.agg (zlw (D.zau a0).1).toArray), (.bool (D.zau a0).2)]) w0) := by
  obtain ⟨r, hr⟩ := zkZ a0
  unfold D.zau
  rw [hr]
  exact St.zeo w0 a0 hr
end Go.Proofs.YtfpgnmhcfkikkaaGreat

/- Ours. -/
namespace Go.Proofs.YtfpgnmhcfkikkaaGreat
open Go.RowKit
structure Mem where
  ws : List Int
  cnt : Int
structure MG where
  mb : Nat
  lb : Nat
  rb : Nat
  wb : Nat
  cap : Nat
def MG.bs (g : MG) : List Nat := [g.mb, g.lb, g.rb, g.wb]
structure MemAt (g : MG) (M : Mem) (w : World) : Prop where
  hdr : w.heap[g.mb]? = some (.cells #[.slice (some ⟨g.lb, 0, none⟩) 1 g.cap, .int .i64 M.cnt] 211 (0, 0))
  lst : ∃ cur, w.heap[g.lb]? = some (.cells cur 204 (0, 0)) ∧ cur[0]? = some (.pointer (some ⟨g.rb, 0, none⟩))
  reg : w.heap[g.rb]? = some (.cells #[.slice (some ⟨g.wb, 0, none⟩) M.ws.length M.ws.length, .int .u64 1] 207 (0, 0))
  wds : w.heap[g.wb]? = some (.cells (M.ws.flatMap u64).toArray 40 (0, 0))
  apart : g.mb ≠ g.lb ∧ g.mb ≠ g.rb ∧ g.mb ≠ g.wb ∧ g.lb ≠ g.rb ∧ g.lb ≠ g.wb ∧ g.rb ≠ g.wb
section
variable {g : MG} {M : Mem} {w w' w0 : World} {L : List Ck} {Z : Nat → Prop} {i : Nat}
theorem MemAt.st (h : ∀ b, b ∈ g.bs → w'.heap[b]? = w.heap[b]?) (hm : MemAt g M w) : MemAt g M w' := by
  obtain ⟨h1, ⟨cur, h2, h2'⟩, h3, h4, h5⟩ := hm
  exact ⟨(h _ (by simp [MG.bs])).trans h1, ⟨cur, (h _ (by simp [MG.bs])).trans h2, h2'⟩, (h _ (by simp [MG.bs])).trans h3, (h _ (by simp [MG.bs])).trans h4, h5⟩
theorem MemAt.lt (hm : MemAt g M w) : ∀ b, b ∈ g.bs → b < w.heap.size := by
  obtain ⟨h1, ⟨cur, h2, h2'⟩, h3, h4, h5⟩ := hm
  intro b hb
  simp only [MG.bs, List.mem_cons, List.not_mem_nil, or_false] at hb
  rcases hb with rfl | rfl | rfl | rfl
  · exact lt_of_block h1
  · exact lt_of_block h2
  · exact lt_of_block h3
  · exact lt_of_block h4
def memK (g : MG) (M : Mem) : Ck := ⟨g.bs, [], MemAt g M, fun _ _ h _ hm => hm.st fun b hb => h b (.inl hb)⟩
def memR (g : MG) (M : Mem) : Ck := ⟨[], g.bs, MemAt g M, fun _ _ h _ hm => hm.st fun b hb => h b (.inr hb)⟩
theorem Post.mem (h : Post Z L w0 w) (hi : L[i]? = some (memK g M)) : MemAt g M w := h.sep.get hi
theorem Post.memr (h : Post Z L w0 w) (hi : L[i]? = some (memR g M)) : MemAt g M w := h.sep.get hi
theorem zjT (hm : MemAt g M w) : Sep [memK g M] w :=
  ⟨hm, (fun b hb => by rcases hb with hb | hb; (exact hm.lt b hb); (cases hb)), (fun _ h => by cases h), trivial⟩
theorem Post.memUpd {M' : Mem} {b : Nat} {o : Obj} (h : Post Z L w0 w) (hi : L[i]? = some (memK g M)) (hb : b ∈ g.bs) (hu : Upd w w' b o) (hm : MemAt g M' w') : Post Z (L.set i (memK g M')) w0 w' := by
  have := h.set (N := []) hi (c' := memK g M') ⟨⟨zjT hm, ⟨hu.os, hu.tape, hu.output, Nat.le_of_eq hu.size.symm, fun k _ hk => hu.other k fun e => hk (e ▸ hb)⟩, fun c hc b' hb' => by rcases List.mem_singleton.1 hc with rfl; exact .inl hb'⟩, fun c hc b' hb' => by rcases List.mem_singleton.1 hc with rfl; cases hb'⟩
  rwa [List.append_nil] at this
theorem MemAt.setCnt {c : Int} (hm : MemAt g M w) (hu : Upd w w' g.mb (.cells #[.slice (some ⟨g.lb, 0, none⟩) 1 g.cap, .int .i64 c] 211 (0, 0))) : MemAt g { M with cnt := c } w' := by
  obtain ⟨h1, ⟨cur, h2, h2'⟩, h3, h4, h5⟩ := hm
  obtain ⟨e1, e2, e3, _⟩ := id h5
  exact ⟨hu.at_, ⟨cur, (hu.other _ (Ne.symm e1)).trans h2, h2'⟩, (hu.other _ (Ne.symm e2)).trans h3, (hu.other _ (Ne.symm e3)).trans h4, h5⟩
theorem MemAt.setWord {ws : List Int} (hm : MemAt g M w) (hl : ws.length = M.ws.length) (hu : Upd w w' g.wb (.cells (ws.flatMap u64).toArray 40 (0, 0))) : MemAt g { M with ws := ws } w' := by
  obtain ⟨h1, ⟨cur, h2, h2'⟩, h3, h4, h5⟩ := hm
  obtain ⟨_, _, e1, _, e2, e3⟩ := id h5
  refine ⟨(hu.other _ e1).trans h1, ⟨cur, (hu.other _ e2).trans h2, h2'⟩, ?_, hu.at_, h5⟩
  show w'.heap[g.rb]? = some (.cells #[.slice (some ⟨g.wb, 0, none⟩) ws.length ws.length, .int .u64 1] 207 (0, 0))
  rw [hl]
  exact (hu.other _ e3).trans h3
theorem zfC : ∀ (l : List Int), l.flatMap u64 = l.map (.int .u64)
  | [] => rfl
  | x :: l => by simp [List.flatMap_cons, u64, zfC l]
theorem zjd {ws : List Int} {k : Nat} {v : Int} : over (ws.flatMap u64).toArray k [.int .u64 v] = ((ws.set k v).flatMap u64).toArray := by
  simp only [over, zfC, List.setIfInBounds_toArray, List.map_set]
theorem zfq {ws : List Int} {k : Nat} {v : Int} : over (ws.flatMap u64).toArray (0 + k * 1) (Value.int .u64 v).cells.toList = ((ws.set k v).flatMap u64).toArray := by
  rw [show 0 + k * 1 = k from by omega]
  exact zjd
theorem ziG {ws : List Int} {y x : Int} {v : Int} (h : getI ws y = some x) : 0 + y.toNat * 1 + (Value.int .u64 v).cells.size ≤ (ws.flatMap u64).toArray.size := by
  obtain ⟨h0, h1, h2, _⟩ := zei h
  rw [zfC]
  simp only [List.size_toArray, List.length_map]
  show 0 + y.toNat * 1 + 1 ≤ _
  omega
def zeroI (x : Int) : Option Unit := if x = 0 then some () else none
theorem zdQ {x : Int} {u : Unit} (h : zeroI x = some u) : x = 0 := by
  unfold zeroI at h
  split at h
  · assumption
  · cases h
def Mem.put (M : Mem) (at_ v : Int) : Mem := { M with ws := M.ws.set at_.toNat v }
section
variable {P : Program} {a : Act} {d : Option Tmp} {ty : TypeId} {pos : String} {aft : Array Edge} {N : Nat} {s : SL} (hfr : Fr a N s)
include hfr
theorem zbw {x : Operand} {ad : Addr} {R : Value → World → Prop} (hx : lookO s x = .pointer (some ad)) (h : R (.pointer (some ad)) w) : Yields P ⟨d, .nilCheck x, ty, pos, aft, none⟩ a w R := by
  refine .of_run (v := .pointer (some ad)) (w' := w) ?_ h
  simp only [execOp, hfr.ev hx]
  rfl
theorem zgK {x : Operand} {t : TypeId} {y : Int} {R : Value → World → Prop} (hm : MemAt g M w) (hx : lookO s x = .pointer (some ⟨g.lb, 0 + y.toNat * 1, none⟩)) (hy : y = 0) (ht : tyO P t = true) (h : R (.pointer (some ⟨g.rb, 0, none⟩)) w) :
    Yields P ⟨d, .load t x, ty, pos, aft, none⟩ a w R := by
  subst hy
  obtain ⟨cur, h2, h3⟩ := hm.lst
  exact za2 hfr hx h2 ht h3 h
theorem zgd {x : Operand} {t : TypeId} {y x0 : Int} {R : Value → World → Prop} (hm : MemAt g M w) (hi : getI M.ws y = some x0) (hx : lookO s x = .pointer (some ⟨g.wb, 0 + y.toNat * 1, none⟩)) (ht : tyO P t = true) (h : R (.int .u64 x0) w) :
    Yields P ⟨d, .load t x, ty, pos, aft, none⟩ a w R := by
  obtain ⟨h0, h1, h2, rfl⟩ := zei hi
  refine za2 hfr hx hm.wds ht ?_ h
  rw [zfC]
  simp
end
end
/-! ### Programs as chunks -/
section
variable {R : Type} {P : Program} {E : Enc R} {w w' w0 : World} {L : List Ck} {Z : Nat → Prop} {i : Nat}
def zlA (P : Program) (E : Enc R) (x : Nat × T R) (v : Value) (F : List Nat) : Ck :=
  ⟨[], F, fun w => Rep P E x.1 x.2 (fun b => b ∈ F) w v, fun _ _ h hs hr => Rep.mono (fun _ h => h) (fun b hb => h b (.inr hb)) hs _ _ _ hr⟩
theorem Post.prog {x : Nat × T R} {v : Value} {F : List Nat} (h : Post Z L w0 w) (hi : L[i]? = some (zlA P E x v F)) : Rep P E x.1 x.2 (fun b => b ∈ F) w v := h.sep.get hi
def rg (lo hi : Nat) : List Nat := List.range' lo (hi - lo)
theorem zfB {lo hi b : Nat} : b ∈ rg lo hi ↔ lo ≤ b ∧ b < hi := by
  simp only [rg, List.mem_range'_1]
  omega
theorem zhy {x : Nat × T R} {v : Value} {F : List Nat} (h : Rep P E x.1 x.2 (fun b => b ∈ F) w v) (hl : ∀ b, b ∈ F → b < w.heap.size) : Sep [zlA P E x v F] w :=
  ⟨h, (fun b hb => by rcases hb with hb | hb; (cases hb); (exact hl b hb)), (fun _ h => by cases h), trivial⟩
theorem zhs {n : Nat} {t : T R} {v : Value} (hr : Rep P E n t (grow No w w') w' v) : Fresh [zlA P E (n, t) v (rg w.heap.size w'.heap.size)] w.heap.size w'.heap.size w' :=
  ⟨zhy (Rep.mono (fun b hb => zfB.2 (hb.resolve_left fun h => h)) (Same.refl _ _) (Nat.le_refl _) _ _ _ hr) fun b hb => (zfB.1 hb).2, fun c hc b hb => by
    rcases List.mem_singleton.1 hc with rfl
    rcases hb with hb | hb
    · cases hb
    · exact zfB.1 hb⟩
theorem Post.addProg {n : Nat} {t : T R} {v : Value} (h : Post Z L w0 w) (hb : Below w.heap.size w w') (hr : Rep P E n t (grow No w w') w' v) : Post Z (L ++ [zlA P E (n, t) v (rg w.heap.size w'.heap.size)]) w0 w' :=
  h.addL (l := [([zlA P E (n, t) v (rg w.heap.size w'.heap.size)], w.heap.size, w'.heap.size)]) hb ⟨zhs hr, Nat.le_refl _, zbl, trivial⟩
theorem Sep.beside {N L : List Ck} {lo hi B : Nat} (h1 : Fresh N lo hi w) (h2 : Sep L w) (h3 : ∀ c, c ∈ L → ∀ b, c.has b → b < B) (hB : B ≤ lo) : Sep (N ++ L) w :=
  h1.1.append h2 fun c hc d hd => ⟨fun b hb hb' => by have := h1.2 c hc b (.inl hb); have := h3 d hd b hb'; omega, fun b hb hb' => by have := h1.2 c hc b hb'; have := h3 d hd b (.inl hb); omega⟩
theorem Chg.kept {S : Nat → Prop} (h : Chg S w w') : Kept w.heap.size S 0 0 w w' := ⟨h.os, h.tape, h.output, h.size, fun b hb => h.block b (by omega) (by rcases hb with hb | hb; exact hb.2; omega)⟩
def T.res (d : R) : T R → R
  | .done r => r
  | _ => d
theorem Rep.zeE {n : Nat} {F : Nat → Prop} {v : Value} : ∀ {t : T R}, Rep P E n t F w v → v.cells[0]? = some (.bool t.zlF)
  | .cut, h => by unfold Rep at h; exact h.elim
  | .done r, h => by unfold Rep at h; subst h; rfl
  | .act .., h => by obtain ⟨_, _, _, _, rfl, _⟩ := h.zfz; rfl
theorem Rep.zkD {n : Nat} {F : Nat → Prop} {v : Value} {d : R} (hd : E.zero = E.cells d) : ∀ {t : T R}, Rep P E n t F w v → ((v.cells.toList.drop 1).take E.n) = E.cells (t.res d)
  | .cut, h => by unfold Rep at h; exact h.elim
  | .done r, h => by
    unfold Rep at h; subst h
    show ((E.cells r ++ _).take E.n) = E.cells r
    rw [← E.len r, List.take_left]
  | .act .., h => by
    obtain ⟨_, _, _, _, rfl, _⟩ := h.zfz
    show ((E.zero ++ _).take E.n) = E.cells d
    rw [hd, ← E.len d, List.take_left]
theorem zdI {a : Act} {d : Option Tmp} {ty : TypeId} {pos : String} {aft : Array Edge} {N : Nat} {s : SL} (hfr : Fr a N s) {x : Operand} {b : Nat} {t Et : TypeId} {v : Value} {Q : Value → World → Prop} (hv : Shape E v)
    (hx : lookO s x = .pointer (some ⟨b, 0, none⟩)) (h : w.heap[b]? = some (.cells v.cells Et (0, 0))) (ht : tyA P t (E.n + 6) = true) (hr : Q v w) : Yields P ⟨d, .load t x, ty, pos, aft, none⟩ a w Q := by
  obtain ⟨c, rfl, h1, h2⟩ := hv
  have hl : c.toList.length = E.n + 6 := by simpa using h1
  refine za7 hfr (cs := c.toList) (n := E.n + 6) hx h (by rw [hl]; exact ht) ?_ (by simpa using hr)
  show (c.toList.drop 0).take (E.n + 6) = c.toList
  rw [List.drop_zero, ← hl, List.take_length]
theorem Post.step {g : MG} {M : Mem} {x : Nat × T R} {v : Value} {F F' : List Nat} (h : Post Z L w0 w) (hi : L[i]? = some (memK g M)) (hr : Rep P E x.1 x.2 (fun b => b ∈ F') w v) (hl : ∀ b, b ∈ F' → b < w.heap.size)
    (hn : ∀ b, b ∈ F' → b ∉ g.bs) (hF : ∀ b, b ∈ F' → b ∈ F ∨ w0.heap.size ≤ b) : Done Z (fun b => b ∈ F) [memK g M, zlA P E x v F'] w0 w := by
  have hm : Post Z [memK g M] w0 w := h.pick [i] (by simp [distinctN]) (by simp [hi])
  refine ⟨⟨⟨hm.sep.1, hm.sep.2.1, fun d hd => ?_, zhy hr hl⟩, hm.chg, fun c hc b hb => ?_⟩, fun c hc b hb => ?_⟩
  · rcases List.mem_singleton.1 hd with rfl
    exact ⟨fun b hb hb' => by rcases hb' with hb' | hb'; (cases hb'); (exact hn b hb' hb), fun b hb => by cases hb⟩
  · rcases List.mem_cons.1 hc with rfl | hc
    · exact hm.mine _ (List.mem_singleton.2 rfl) b hb
    · rcases List.mem_singleton.1 hc with rfl; cases hb
  · rcases List.mem_cons.1 hc with rfl | hc
    · cases hb
    · rcases List.mem_singleton.1 hc with rfl; exact hF b hb
end
section
variable {R : Type} {P : Program} {E : Enc R} {w w' w0 : World} {L : List Ck} {Z : Nat → Prop} {i : Nat}
def T.acc : T R → Access
  | .act op at_ a b _ => ⟨op, at_, a, b⟩
  | _ => ⟨0, 0, 0, 0⟩
def T.next : T R → Int → T R
  | .act _ _ _ _ k, x => k x
  | _, _ => .cut
theorem Rep.zkY {n : Nat} {F : Nat → Prop} {v x : Value} {d : R} {t : T R} (hd : E.zero = E.cells d) (hx : E.cells (t.res d) = [x]) (h : Rep P E n t F w v) : v.cells[1]? = some x := by
  have h2 := h.zkD hd
  rw [hx] at h2
  have h3 : ((v.cells.toList.drop 1).take E.n)[0]? = some x := by rw [h2]; rfl
  rw [List.getElem?_take] at h3
  split at h3
  · simpa using h3
  · cases h3
theorem Rep.zjM {n : Nat} {F : Nat → Prop} {v : Value} {t : T R} (h : Rep P E n t F w v) (hd : t.zlF = false) : ((v.cells.toList.drop (1 + E.n)).take 4) = zlz t.acc := by
  cases t with
  | cut => unfold Rep at h; exact h.elim
  | done r => cases hd
  | act op at_ a b k =>
    obtain ⟨_, _, _, _, rfl, _⟩ := h.zfz
    show (((.bool false :: (E.zero ++ _)) : List Value).drop (1 + E.n)).take 4 = _
    rw [Nat.add_comm, List.drop_succ_cons, ← E.zlen, List.drop_left]
    rfl
theorem Rep.ziF {n : Nat} {F : Nat → Prop} {v : Value} {t : T R} (h : Rep P E n t F w v) (hd : t.zlF = false) : ∃ (f : FuncId) (first cap : List Value), v.cells[5 + E.n]? = some (.func (.func f) first.toArray cap.toArray) ∧ FnT P E u64 n F w (.func (.func f) first.toArray cap.toArray) t.next := by
  cases t with
  | cut => unfold Rep at h; exact h.elim
  | done r => cases hd
  | act op at_ a b k =>
    obtain ⟨f, first, cap, _, rfl, hf⟩ := h.zfz
    refine ⟨f, first, cap, ?_, hf⟩
    simp only [zlo, Value.cells, List.getElem?_toArray]
    rw [show 5 + E.n = (E.n + 4) + 1 from by omega, List.getElem?_cons_succ, List.getElem?_append_right (by rw [E.zlen]; omega), E.zlen]
    simp
def depthI : Nat → Option Nat
  | 0 => none
  | n + 1 => some n
theorem zgW {n m : Nat} (h : depthI n = some m) : n = m + 1 := by
  cases n with
  | zero => cases h
  | succ n => exact congrArg (· + 1) (Option.some.inj h)
theorem Post.addProgF {n : Nat} {t : T R} {v v0 : Value} {x : Nat × T R} {F : List Nat} {k : Nat} (h : Post Z L w0 w) (hk : L[k]? = some (zlA P E x v0 F)) (hb : Below w.heap.size w w') (hr : Rep P E n t (grow (fun b => b ∈ F) w w') w' v) :
    Post Z (L ++ [zlA P E (n, t) v (F ++ rg w.heap.size w'.heap.size)]) w0 w' := by
  have hz := hb.size
  have hlt : ∀ b, b ∈ F → b < w.heap.size := fun b hb => h.sep.lt hk (.inr hb)
  have hl : ∀ b, b ∈ F ++ rg w.heap.size w'.heap.size → b < w'.heap.size := fun b hb => by
    rcases List.mem_append.1 hb with hb | hb
    · exact Nat.lt_of_lt_of_le (hlt b hb) hz
    · exact (zfB.1 hb).2
  have hr' : Rep P E n t (fun b => b ∈ F ++ rg w.heap.size w'.heap.size) w' v := Rep.mono (fun b hb => List.mem_append.2 (hb.imp id zfB.2)) (Same.refl _ _) (Nat.le_refl _) _ _ _ hr
  refine ⟨(h.sep.below hb).append (zhy (x := (n, t)) hr' hl) fun d hd e he => ?_, h.chg.trans (Chg.of_below hb) (fun _ _ h => h.elim), fun d hd b hb => ?_⟩
  · rcases List.mem_singleton.1 he with rfl
    refine ⟨fun b hb1 hb2 => ?_, fun b hb => by cases hb⟩
    rcases hb2 with hb2 | hb2
    · cases hb2
    · rcases List.mem_append.1 hb2 with hb2 | hb2
      · obtain ⟨j, hj⟩ := List.mem_iff_getElem?.1 hd
        by_cases hjk : j = k
        · subst hjk
          rw [hj] at hk
          obtain rfl := Option.some.inj hk
          cases hb1
        · exact (h.sep.clear hj hk hjk).1 b hb1 (.inr hb2)
      · have := (zfB.1 hb2).1
        have := (h.sep.ok d hd).2 b (.inl hb1)
        omega
  · rcases List.mem_append.1 hd with hd | hd
    · exact h.mine d hd b hb
    · rcases List.mem_singleton.1 hd with rfl; cases hb
def PrP (P : Program) (E : Enc R) (x : Nat × T R) : Value → Nat → Nat → World → Prop := fun v lo hi w => Fresh [zlA P E x v (rg lo hi)] lo hi w
theorem PrP.st (x : Nat × T R) {B : Nat} {S : Nat → Prop} : ∀ v lo hi w1 w2, PrP P E x v lo hi w1 → Kept B S lo hi w1 w2 → PrP P E x v lo hi w2 := by
  rintro v lo hi w1 w2 ⟨hs, hb⟩ ⟨_, _, _, hz, hk⟩
  exact ⟨hs.keep hz fun c hc b hcb => hk b (.inr (hb c hc b hcb)), hb⟩
def guardI (b : Bool) : Option Unit := if b = true then some () else none
theorem zjo {p : Prop} [Decidable p] {u : Unit} (h : guardI (decide p) = some u) : p := by
  unfold guardI at h
  split at h
  · rename_i h1; exact of_decide_eq_true h1
  · cases h
theorem zdS {fn : Func} {a : Act} {n : Nat} {s : SL} (h : Fr a n s) {R : Ending → World → Prop} {w : World} {t t' t2 : Tmp} {ty : TypeId} {b : Nat} {c : Array Value} {E : TypeId} {fz : Nat × Nat} {k : Nat} {v' v2 : Value} (hf : fn.results = #[.cell t ty, .tmp t', .tmp t2])
    (hv : look s t = .pointer (some ⟨b, 0, none⟩)) (hv' : look s t' = v') (hv2 : look s t2 = v2) (hb : w.heap[b]? = some (.cells c E fz)) (hk : c.size = k) (ht : tyA P ty k = true) (hR : R (.returned (.tuple #[.agg c, v', v2])) w) : bodyPost P fn R .ret a w := by
  refine ⟨h.defers, _, ?_, hR⟩
  subst hk; subst hv'; subst hv2
  have hl : (loadVar ty ⟨b, 0, none⟩).run P w = .ok (.agg c) w := by
    have := ze0 (P := P) (t := ty) (zf1 hb (o := 0) (n := c.size) (cs := c.toList) (by rw [List.drop_zero]; exact List.take_of_length_le (by simp))) (by simpa using ht)
    simpa using this
  simp [results, hf, h.slot, hv, asAddr, hl]
end
/-! ### A memory that is made -/
section
variable {P : Program} {w w' w0 : World} {L : List Ck} {Z : Nat → Prop}
def oneI : List Int → Option Int
  | [n] => if 0 ≤ n ∧ n ≤ 16777216 then some n else none
  | _ => none
theorem zl1 {l : List Int} {n : Int} (h : oneI l = some n) : l = [n] ∧ 0 ≤ n ∧ n ≤ 16777216 := by
  unfold oneI at h
  split at h
  · split at h
    · rename_i m h1
      obtain rfl := Option.some.inj h
      exact ⟨rfl, h1⟩
    · cases h
  · cases h
def zerosI (n : Int) : List Int := List.replicate n.toNat 0
def WB (n : Int) (wb : Nat) (w : World) : Prop := w.heap[wb]? = some (.cells ((zerosI n).flatMap u64).toArray 40 (0, 0))
def W6 (B : Nat) (n : Int) : Value → Nat → Nat → World → Prop := fun v _ _ w => ∃ wb, v = .slice (some ⟨wb, 0, none⟩) n.toNat n.toNat ∧ WB n wb w ∧ B ≤ wb
def W7 (B : Nat) (n : Int) : Value → Nat → Nat → World → Prop := fun v _ _ w => ∃ wb, v = .agg #[.slice (some ⟨wb, 0, none⟩) n.toNat n.toNat, .int .u64 1] ∧ WB n wb w ∧ B ≤ wb
def RB (n : Int) (wb rb : Nat) (w : World) : Prop := w.heap[rb]? = some (.cells #[.slice (some ⟨wb, 0, none⟩) n.toNat n.toNat, .int .u64 1] 207 (0, 0))
def W8 (B : Nat) (n : Int) : Value → Nat → Nat → World → Prop := fun v _ _ w => ∃ wb rb, v = .pointer (some ⟨rb, 0, none⟩) ∧ WB n wb w ∧ RB n wb rb w ∧ B ≤ wb ∧ wb < rb
def W9 (B : Nat) (n : Int) : Value → Nat → Nat → World → Prop := fun v _ _ w => ∃ wb rb lb, v = .slice (some ⟨lb, 0, none⟩) 1 1 ∧ WB n wb w ∧ RB n wb rb w ∧ w.heap[lb]? = some (.cells #[.pointer (some ⟨rb, 0, none⟩)] 204 (0, 0)) ∧ B ≤ wb ∧ wb < rb ∧ rb < lb
def LB (rb lb : Nat) (w : World) : Prop := ∃ cur, w.heap[lb]? = some (.cells cur 204 (0, 0)) ∧ cur[0]? = some (.pointer (some ⟨rb, 0, none⟩))
def W10 (B : Nat) (n : Int) : Value → Nat → Nat → World → Prop := fun v _ _ w => ∃ wb rb lb cap, v = .slice (some ⟨lb, 0, none⟩) 1 cap ∧ WB n wb w ∧ RB n wb rb w ∧ LB rb lb w ∧ B ≤ wb ∧ wb < rb ∧ rb < lb
def W13 (B b : Nat) (n : Int) : Value → Nat → Nat → World → Prop := fun v _ _ w => v = undef ∧ ∃ wb rb lb cap, MemAt ⟨b, lb, rb, wb, cap⟩ ⟨zerosI n, 0⟩ w ∧ B ≤ wb ∧ B ≤ rb ∧ B ≤ lb
theorem WB.st {n : Int} {wb B : Nat} {S : Nat → Prop} (h : WB n wb w) (hk : KeptW B S w w') (hB : B ≤ wb) : WB n wb w' := (hk.2.2.2.2 wb (lt_of_block h) (by omega)).trans h
theorem RB.st {n : Int} {wb rb B : Nat} {S : Nat → Prop} (h : RB n wb rb w) (hk : KeptW B S w w') (hB : B ≤ rb) : RB n wb rb w' := (hk.2.2.2.2 rb (lt_of_block h) (by omega)).trans h
theorem LB.st {rb lb B : Nat} {S : Nat → Prop} (h : LB rb lb w) (hk : KeptW B S w w') (hB : B ≤ lb) : LB rb lb w' := by
  obtain ⟨cur, h1, h2⟩ := h
  exact ⟨cur, (hk.2.2.2.2 lb (lt_of_block h1) (by omega)).trans h1, h2⟩
theorem KeptW.of_below {B : Nat} {S : Nat → Prop} (h : Below w.heap.size w w') : KeptW B S w w' := ⟨h.os, h.tape, h.output, h.size, fun b hb _ => h.block b hb⟩
theorem W6.st (B : Nat) (n : Int) {S : Nat → Prop} : ∀ v lo hi w1 w2, W6 B n v lo hi w1 → KeptW B S w1 w2 → W6 B n v lo hi w2 := by
  rintro v lo hi w1 w2 ⟨wb, h1, h2, h3⟩ hk
  exact ⟨wb, h1, h2.st hk h3, h3⟩
theorem W7.st (B : Nat) (n : Int) {S : Nat → Prop} : ∀ v lo hi w1 w2, W7 B n v lo hi w1 → KeptW B S w1 w2 → W7 B n v lo hi w2 := by
  rintro v lo hi w1 w2 ⟨wb, h1, h2, h3⟩ hk
  exact ⟨wb, h1, h2.st hk h3, h3⟩
theorem W8.st (B : Nat) (n : Int) {S : Nat → Prop} : ∀ v lo hi w1 w2, W8 B n v lo hi w1 → KeptW B S w1 w2 → W8 B n v lo hi w2 := by
  rintro v lo hi w1 w2 ⟨wb, rb, h1, h2, h3, h4, h5⟩ hk
  exact ⟨wb, rb, h1, h2.st hk h4, h3.st hk (by omega), h4, h5⟩
theorem W9.st (B : Nat) (n : Int) {S : Nat → Prop} : ∀ v lo hi w1 w2, W9 B n v lo hi w1 → KeptW B S w1 w2 → W9 B n v lo hi w2 := by
  rintro v lo hi w1 w2 ⟨wb, rb, lb, h1, h2, h3, h4, h5, h6, h7⟩ hk
  exact ⟨wb, rb, lb, h1, h2.st hk h5, h3.st hk (by omega), (hk.2.2.2.2 lb (lt_of_block h4) (by omega)).trans h4, h5, h6, h7⟩
theorem W10.st (B : Nat) (n : Int) {S : Nat → Prop} : ∀ v lo hi w1 w2, W10 B n v lo hi w1 → KeptW B S w1 w2 → W10 B n v lo hi w2 := by
  rintro v lo hi w1 w2 ⟨wb, rb, lb, cap, h1, h2, h3, h4, h5, h6, h7⟩ hk
  exact ⟨wb, rb, lb, cap, h1, h2.st hk h5, h3.st hk (by omega), h4.st hk (by omega), h5, h6, h7⟩
theorem W13.st (B b : Nat) (n : Int) : ∀ v lo hi w1 w2, W13 B b n v lo hi w1 → KeptW B (fun _ => False) w1 w2 → W13 B b n v lo hi w2 := by
  rintro v lo hi w1 w2 ⟨h0, wb, rb, lb, cap, h1, h2, h3, h4⟩ hk
  exact ⟨h0, wb, rb, lb, cap, h1.st (fun c hc => hk.2.2.2.2 c (h1.lt c hc) (fun _ h => h)), h2, h3, h4⟩
section
variable {a : Act} {d : Option Tmp} {ty : TypeId} {pos : String} {aft : Array Edge} {N : Nat} {s : SL} (hfr : Fr a N s)
include hfr
theorem ziH {x y : Operand} {t : TypeId} {n : Int} {R : Value → World → Prop} (hT : rowTy P t 40 1 = true) (hz : zeroOf P 40 = some (.int .u64 0)) (hb : (match P.info? 40 with | some i => i.bytes == 8 | none => false) = true)
    (hx : lookO s x = .int .i64 n) (hy : lookO s y = .int .i64 n) (h0 : 0 ≤ n) (h1 : n ≤ 16777216)
    (hr : ∀ wb w', New w w' wb (.cells ((zerosI n).flatMap u64).toArray 40 (0, 0)) → R (.slice (some ⟨wb, 0, none⟩) n.toNat n.toNat) w') : Yields P ⟨d, .makeSlice t x y, ty, pos, aft, none⟩ a w R := by
  obtain ⟨ht, i, z, hi, hiz, hsz, _, _, _⟩ := zgG hT
  have hzz : z = .int .u64 0 := by
    unfold zeroOf at hz
    rw [hi] at hz
    simp only [hiz] at hz
    exact Option.some.inj hz
  subst hzz
  rw [hi] at hb
  have hb8 : i.bytes = 8 := by simpa using hb
  have hr1 := run_makeSlice (P := P) (w := w) t 40 i (.int .u64 0) ht hi hiz .i64 .i64 n n h0 (Int.le_refl _) (by rw [hsz]; omega) (by rw [hb8]; omega) (by omega)
  have hc : madeCells (Value.int .u64 0).cells (n.toNat * i.size) = ((zerosI n).flatMap u64).toArray := by
    rw [hsz, zfC, zerosI, List.map_replicate]
    apply Array.ext
    · simp [madeCells]
    · intro j h1 h2
      simp only [madeCells, Array.size_map, Array.size_range] at h1
      simp only [madeCells, Array.getElem_map, Array.getElem_range, List.getElem_toArray, List.getElem_replicate]
      have : j % (Value.int IntKind.u64 0).cells.size = 0 := by
        show j % 1 = 0
        omega
      rw [this]
      rfl
  rw [hc] at hr1
  refine .of_run (v := .slice (some ⟨w.heap.size, 0, none⟩) n.toNat n.toNat) (w' := w.alloc (.cells ((zerosI n).flatMap u64).toArray 40)) ?_ (hr _ _ (New.zfJ _ _))
  simp only [execOp, hfr.ev hx, hfr.ev hy, Sem.run_bind, hr1, Result.andThen_ok, Sem.run_pure]
theorem ziw {x y : Operand} {t e : TypeId} {lb : Nat} {u : Value} {R : Value → World → Prop} (hT : rowTy P t e 1 = true) (hx : lookO s x = .slice none 0 0) (hy : lookO s y = .slice (some ⟨lb, 0, none⟩) 1 1) (hl : w.heap[lb]? = some (.cells #[u] e (0, 0)))
    (hr : ∀ b cap cur w', New w w' b (.cells cur e (0, 0)) → cur[0]? = some u → R (.slice (some ⟨b, 0, none⟩) 1 cap) w') : Yields P ⟨d, .call ⟨.builtin .append, #[x, y], #[t, t]⟩, ty, pos, aft, none⟩ a w R := by
  obtain ⟨ht, i, z, hi, hiz, hsz, _, hby, _⟩ := zgG hT
  have hq := run_append_nil (P := P) w t ty e i z ht hi hiz ⟨lb, 0, none⟩ 1 1 [u] (by simp [hsz]) (fun j v hv => by
    rw [Addr.add_lit]
    simp only [World.cell?, hl]
    simpa using hv) (by omega) (by omega) (by omega)
  have hcur : ([u].toArray ++ Builtin.zeroCells z.cells (grownCap w 1 0 e - 1))[0]? = some u := by
    rw [Array.getElem?_append_left (by simp)]
    rfl
  refine .of_run (v := .slice (some ⟨w.heap.size, 0, none⟩) 1 (grownCap w 1 0 e)) (w' := w.drew.alloc (.cells ([u].toArray ++ Builtin.zeroCells z.cells (grownCap w 1 0 e - 1)) e)) ?_ (hr _ _ _ _ ⟨rfl, heap_alloc_new w.drew _, ⟨rfl, rfl, rfl, by simp, fun k hk => (heap_alloc_old (r := k) w.drew _ (by simpa using hk) : _)⟩, Array.size_push _⟩ hcur)
  have e2 : (#[x, y] : Array Operand).map a.eval = #[.slice none 0 0, .slice (some ⟨lb, 0, none⟩) 1 1] := hfr.evs (xs := [x, y]) (vs := [_, _]) (lc2 hx hy)
  simp only [execOp, resolve, e2, Sem.run_bind, Sem.run_pure, Result.andThen_ok, invoke, builtin, hq]
end
theorem Post.made {b : Nat} {n : Int} {cs : Array Value} {T : TypeId} {v : Value} {lo hi i : Nat} (h : Post Z L w0 w) (hi' : L[i]? = some (zlm b cs T)) (hk : Chg (fun k => k ∈ [b]) w w') (hm : W13 w.heap.size b n v lo hi w') : ∃ g : MG, g.mb = b ∧ Post Z (L.set i (memK g ⟨zerosI n, 0⟩)) w0 w' := by
  obtain ⟨_, wb, rb, lb, cap, h1, h2, h3, h4⟩ := hm
  refine ⟨⟨b, lb, rb, wb, cap⟩, rfl, ?_⟩
  have := h.set (N := []) hi' (c' := memK ⟨b, lb, rb, wb, cap⟩ ⟨zerosI n, 0⟩) ⟨⟨zjT h1, hk, fun c hc b' hb' => ?_⟩, fun c hc b' hb' => by rcases List.mem_singleton.1 hc with rfl; cases hb'⟩
  · rwa [List.append_nil] at this
  · rcases List.mem_singleton.1 hc with rfl
    simp only [memK, MG.bs, List.mem_cons, List.not_mem_nil, or_false] at hb'
    rcases hb' with rfl | rfl | rfl | rfl
    · exact .inl (List.mem_singleton.2 rfl)
    · exact .inr h4
    · exact .inr h3
    · exact .inr h2
end
end Go.Proofs.YtfpgnmhcfkikkaaGreat
/-! ### An effect that hands on a program -/
namespace Go.Proofs.YtfpgnmhcfkikkaaGreat
open Go.RowKit
section
variable {R : Type} {P : Program} {E : Enc R} {w w' w0 : World} {L : List Ck} {Z : Nat → Prop} {i k : Nat} {c c' e : Ck}
def EffR (P : Program) (E : Enc R) (B : Nat) (Y : List Nat) (c' : Ck) (x : Nat × T R) (u : Value) : Value → Nat → Nat → World → Prop :=
  fun v lo hi w => ∃ (y : Value) (F : List Nat), v = .tuple #[y, u] ∧ c'.ok w ∧ (∀ b, c'.has b → b < B) ∧ (∀ b, b ∈ Y → b < B) ∧ Rep P E x.1 x.2 (fun b => b ∈ F) w y ∧ ∀ b, b ∈ F → b ∉ c'.own ∧ (b ∈ Y ∨ (lo ≤ b ∧ b < hi))
theorem EffR.st {B : Nat} {Y : List Nat} {x : Nat × T R} {u : Value} : ∀ v lo hi w1 w2, EffR P E B Y c' x u v lo hi w1 → Kept B (fun _ => False) lo hi w1 w2 → EffR P E B Y c' x u v lo hi w2 := by
  rintro v lo hi w1 w2 ⟨y, F, hv, hc, hb, hY, hr, hF⟩ ⟨_, _, _, hz, hk⟩
  refine ⟨y, F, hv, c'.st _ _ (fun b h => hk b (.inl ⟨hb b h, fun h => h⟩)) hz hc, hb, hY, Rep.mono (fun _ h => h) (fun b hb' => ?_) hz _ _ _ hr, hF⟩
  rcases (hF b hb').2 with h | h
  · exact hk b (.inl ⟨hY b h, fun h => h⟩)
  · exact hk b (.inr h)
theorem EffR.of {B : Nat} {Y : List Nat} {x : Nat × T R} {u y : Value} {F : List Nat} (h : Done (fun b => b ∈ c.own) (fun b => b ∈ Y) [c', zlA P E x y F] w w') (hlt : ∀ b, c'.has b → b < B) (hY : ∀ b, b ∈ Y → b < B) :
    EffR P E B Y c' x u (.tuple #[y, u]) w.heap.size w'.heap.size w' := by
  have hm : zlA P E x y F ∈ [c', zlA P E x y F] := List.mem_cons_of_mem _ (List.mem_singleton.2 rfl)
  refine ⟨y, F, rfl, h.sep.1, hlt, hY, h.sep.2.2.2.1, fun b hb => ⟨fun hc => (h.sep.2.2.1 _ (List.mem_singleton.2 rfl)).1 b hc (.inr hb), ?_⟩⟩
  rcases h.rest _ hm b hb with h1 | h1
  · exact .inl h1
  · exact .inr ⟨h1, (h.sep.ok _ hm).2 b (.inr hb)⟩
end
end Go.Proofs.YtfpgnmhcfkikkaaGreat
/-! ### Appending to a literal of nothing, in a region that draws -/
namespace Go.Proofs.YtfpgnmhcfkikkaaGreat
open Go.RowKit
section
variable {α : Type} {P : Program} {T : TypeId} {sz : Nat} {f : α → List Value} {w w' : World} {ys zs : List α}
theorem ziu {t ty : TypeId} {v2 : Value} {ad : Option Addr} (hT : rowTy P t T sz = true) (hf : ∀ x, (f x).length = sz) (h1 : ∀ x, (f x).all Value.oneCell' = true) (hr2 : RoAt T sz f v2 ys w) (hz : appD [] ys = some zs) :
    ∃ v' w', (Builtin.append_ #[t, t] ty #[.slice ad 0 0, v2]).run P w = .ok v' w' ∧ Below w.heap.size w w' ∧ MkP (fun y : Value => y) (fun y => [rowK T sz f y zs]) v' w.heap.size w'.heap.size w' := by
  have hr : zlM T sz f (.slice ad 0 0) ([] : List α) w := .inl ⟨ad, rfl, rfl⟩
  obtain ⟨v', w', hq, ha⟩ := zhe (ty := ty) hT hf h1 hr hr2 hz
  have hb : Below w.heap.size w w' := ⟨ha.2.1.os, ha.2.1.tape, ha.2.1.output, ha.2.1.size, fun k hk => ha.2.1.block k hk (by rw [zfa]; exact fun h => by cases h)⟩
  refine ⟨v', w', hq, hb, _, rfl, zg9 ha.1, fun c hc b hbc => ?_⟩
  rcases List.mem_singleton.1 hc with rfl
  rcases hbc with hbc | hbc
  · rcases ha.2.2 b hbc with h | h
    · rw [zfa] at h; cases h
    · exact ⟨h, ha.1.lt b hbc⟩
  · cases hbc
end
section
variable {α : Type} {P : Program} {T : TypeId} {sz : Nat} {f : α → List Value} {w : World} {ys : List α} {a : Act} {d : Option Tmp} {ty : TypeId} {pos : String} {aft : Array Edge} {N : Nat} {s : SL} (hfr : Fr a N s)
include hfr
theorem zjW {x y : Operand} {t : TypeId} {v2 : Value} {zs : List α} {ad : Option Addr} {R : Value → World → Prop} (hT : rowTy P t T sz = true) (hf : ∀ x, (f x).length = sz) (h1 : ∀ x, (f x).all Value.oneCell' = true)
    (hr2 : RoAt T sz f v2 ys w) (hz : appD [] ys = .some zs) (hx : lookO s x = .slice ad 0 0) (hy : lookO s y = v2)
    (h : ∀ v' w', Below w.heap.size w w' → MkP (fun y : Value => y) (fun y => [rowK T sz f y zs]) v' w.heap.size w'.heap.size w' → R v' w') :
    Yields P ⟨d, .call ⟨.builtin .append, #[x, y], #[t, t]⟩, ty, pos, aft, none⟩ a w R := by
  obtain ⟨v', w', hq, h1', h2⟩ := ziu (ty := ty) (ad := ad) hT hf h1 hr2 hz
  refine .of_run (v := v') (w' := w') ?_ (h v' w' h1' h2)
  have e : (#[x, y] : Array Operand).map a.eval = #[.slice ad 0 0, v2] := hfr.evs (xs := [x, y]) (vs := [_, v2]) (lc2 hx hy)
  simp only [execOp, resolve, e, Sem.run_bind, Sem.run_pure, Result.andThen_ok, invoke, builtin, hq]
end
end Go.Proofs.YtfpgnmhcfkikkaaGreat

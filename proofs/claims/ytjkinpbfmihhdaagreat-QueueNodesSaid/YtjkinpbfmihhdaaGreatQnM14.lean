/- Some of our texts, one behind the other. -/
import Derived.Test.YtjkinpbfmihhdaaGreatQnM13
import Derived.WalkKit
import Derived.ProofKit
import Derived.OpenShut
import Derived.ShutString
import Derived.ChangeOld
import Derived.Below
import Derived.Carry
import Derived.SizedLaws
import Derived.Deep.Slices
import Derived.Deep.Fields
import Derived.ChangeSame
import Derived.Test.YtjkinpbfmihhdaaGreatRows
import Derived.ChangeSlices
import Derived.Test.YtjkinpbfmihhdaaGreatQnM3
set_option linter.all false
/- Ours. -/
set_option maxRecDepth 20000
set_option maxHeartbeats 2000000
namespace Go.Proofs.YtjkinpbfmihhdaaGreat.Wk
open Go.RowKit
theorem cl53 : znv Tryz.prog 53 = true := by kernel_rfl
theorem cl54 : znv Tryz.prog 54 = true := by kernel_rfl
theorem cl57 : znv Tryz.prog 57 = true := by kernel_rfl
theorem cl70 : znv Tryz.prog 70 = true := by kernel_rfl
theorem is90 : isSlice Tryz.prog 90 = true := by kernel_rfl
theorem sl90 : sliceTy Tryz.prog 90 1 = true := by kernel_rfl
theorem ti98 : intTy Tryz.prog 98 .i16 = true := by kernel_rfl
theorem to98 : tyO Tryz.prog 98 = true := by kernel_rfl
theorem ts29 : sized Tryz.prog 29 8 = true := by kernel_rfl
theorem tz29 : zeroOf Tryz.prog 29 = some (.agg (znR (⟨(⟨0, 0, 0, 0, 0, 0⟩ : Plan), 0, 0⟩ : Seat)).toArray) := by kernel_rfl
def D.zcb (fu : Nat) (a0 : Plan) (a1 : List Int) : Option (Bool) := (Option.bind ((D.zcl fu ).bind (fun (x6 : Bool) => (bif (!x6) then (some true) else (bif (!(D.zb7 a0)) then (some true) else (some (decide ((a1.length : Int) > 60))))))) (fun (x11 : Bool) => (bif x11 then ((D.zcl fu ).bind (fun (x15 : Bool) => (some x15))) else ((D.zcc fu a0).bind (fun (x17 : Mem) => (loopThen (fun (x27 : Bool × Int × Mem) => (bif (decide (x27.2.1 < (a1.length : Int))) then ((getI a1 x27.2.1).bind (fun (x42 : Int) => (Option.bind (bif (decide (x42 ≥ 0)) then ((getI a1 x27.2.1).bind (fun (x45 : Int) => (some (fu, (D.zbx (fu + 1) (⟨a0, 0, 0⟩ : Seat) 0 (IntKind.u64.wrap x45)))))) else (some (fu, (D.zcj (fu + 1) (⟨a0, 0, 0⟩ : Seat) 0)))) (fun (x50 : (Nat × T Res)) => ((D.zcr fu x27.2.2 0).bind (fun (x53 : Cap) => ((D.zdF fu x50 x27.2.2 x53 100000).bind (fun (x54 : Res × Int × Bool × Mem) => (loopThen (fun (x56 : Int × Int) => (bif (decide (x56.2 < a0.nodes)) then ((D.zb0 fu x54.2.2.2 0 (D.zaH a0 x56.2)).bind (fun (x62 : Int) => (Option.bind (bif ((((D.zan x62).1).mode) == 3) then (some (IntKind.i64.wrap (x56.1 + 1))) else (some x56.1)) (fun (x73 : Int) => (some (Lp.next (x73, (IntKind.i64.wrap (x56.2 + 1))))))))) else (some (Lp.brk (x56.1, x56.2))))) fu (0, 0) (fun (x76 : Int × Int) => ((D.zgm fu a0 x54.2.2.2 0).bind (fun (x79 : List Int) => ((D.zeX fu a0 x54.2.2.2 0 0).bind (fun (x82 : List Int) => ((D.zeM fu a0 x54.2.2.2 0 0).bind (fun (x85 : List Int) => (bif ((IntKind.i64.wrap ((IntKind.i64.wrap ((IntKind.i64.wrap ((IntKind.i64.wrap ((x79.length : Int) + (x82.length : Int))) + (x85.length : Int))) + 1)) + x76.1)) != a0.nodes) then (some (Lp.ret false)) else (loopThen (fun (x90 : Bool × Int) => (bif (decide (x90.2 < 3)) then ((D.zb0 fu x54.2.2.2 0 (D.zbc a0 0 x90.2)).bind (fun (x96 : Int) => (bif (x96 != 0) then (some (Lp.ret (Lp.ret false))) else (some (Lp.next (x90.1, (IntKind.i64.wrap (x90.2 + 1)))))))) else (some (Lp.brk (x90.1, x90.2))))) fu (x27.1, 0) (fun (x99 : Bool × Int) => (some (Lp.next (x99.1, (IntKind.i64.wrap (x27.2.1 + 1)), x54.2.2.2)))))))))))))))))))))) else (some (Lp.brk (x27.1, x27.2.1, x27.2.2))))) fu (false, 0, x17) (fun (x102 : Bool × Int × Mem) => (some true))))))))
theorem zfh {fu : Nat} (w0 : World) (a0 : Plan) {a1v : Value} (a1 : List Int) (a1h : RoAt 98 1 i16E a1v a1 w0) {res : Bool} (hD : D.zcb fu a0 a1 = some res) :
    Calls Tryz.prog 15 #[.agg (znu a0).toArray, a1v] w0 (znL (.bool res) w0) := by
 refine enter Tryz.func15 rfl 108 rfl rfl fun fr r => ?_
 have hP : Post No [] w0 w0 := Post.nil w0
 have hP : Post No [roK 98 1 i16E a1v a1] w0 w0 := hP.addRo zd2 a1h rfl a1h.lt
 unfold D.zcb at hD
 refine wsr ?_
 refine za5 (.cells ((znu a0)).toArray 25 (0, 0)) r (fun R => znF r (v := (.agg (znu a0).toArray)) rfl) rfl fun fr b1 w2 n3 r => ?_
 have hP : Post No [roK 98 1 i16E a1v a1, znw b1 ((znu a0)).toArray 25] w0 w2 := hP.new n3
 refine za0 (.bool false) r (fun R => za7 r rfl) rfl fun fr r => wn (wp_seq (wp_seq ?_))
 refine zbU (N := 108) (Y := Bool) (G := Unit) (fun x γ => [(0, (.agg (znu a0).toArray)), (1, a1v), (2, (zp b1)), (4, (.bool false)), (25, (.bool x))]) (fun x γ w => Post No [roK 98 1 i16E a1v a1, znw b1 ((znu a0)).toArray 25] w0 w) hD ?_ ?_
 ·
  rintro y5 RPy5 nxy5 hD
  refine wp_region_lit ?_
  obtain ⟨x6, hx6, hD⟩ := zap hD
  refine za8 r (zeB w2  hx6) (fun R hc => zac r rfl cl53 hc) rfl ?_
  rintro _ w7 ⟨rfl, hb⟩
  refine ⟨_, rfl, fun fr r => ?_⟩
  have hP : Post No [roK 98 1 i16E a1v a1, znw b1 ((znu a0)).toArray 25] w0 w7 := hP.below hb
  refine za0 (.bool (!x6)) r (fun R => y_un r (u := (.bool x6)) rfl rfl) rfl fun fr r => za0 (.bool (!x6)) r (fun R => za9 r rfl) rfl fun fr r => ?_
  refine zaF (!x6) (fun h8 => ?_) (fun h8 => ?_)
  ·
   have hD := (zaq h8).symm.trans hD
   refine s0 r h8 fun fr r => s0 r h8 fun fr r => s0 r h8 fun fr r => za0 (.bool true) r (fun R => zar r (b := true) (congrArg Value.bool h8) rfl) rfl fun fr r => za0 (.bool true) r (fun R => za9 r rfl) rfl fun fr r => s0 r (rfl : true = _) fun fr r => s0 r (rfl : true = _) fun fr r => s0 r (rfl : true = _) fun fr r => za0 (.bool true) r (fun R => zar r (b := true) (congrArg Value.bool (rfl : true = _)) rfl) rfl fun fr r => wn ?_
   exact nxy5 true () _ _ _ hD r (za1 rfl (za1 rfl (za1 rfl (za1 rfl (za1 rfl zaJ))))) (hP.pick [0, 1] rfl rfl)
  ·
   have hD := (zak h8).symm.trans hD
   refine s1 r h8 (za0 (.agg (znu a0).toArray) r (fun R => za6 r (cs := (znu a0)) (n := 6) rfl (hP.cell (i := 1) rfl) ta25 rfl) rfl fun fr r => s1 r h8 ?_)
   refine za8 r (zht w7 a0) (fun R hc => zac r rfl cl54 hc) rfl ?_
   rintro _ w9 ⟨rfl, hb⟩
   refine ⟨_, rfl, fun fr r => ?_⟩
   have hP : Post No [roK 98 1 i16E a1v a1, znw b1 ((znu a0)).toArray 25] w0 w9 := hP.below hb
   refine s1 r h8 (za0 (.bool (!(D.zb7 a0))) r (fun R => y_un r (u := (.bool (D.zb7 a0))) rfl rfl) rfl fun fr r => za0 (.bool (!(D.zb7 a0))) r (fun R => zar r (b := false) (congrArg Value.bool h8) rfl) rfl fun fr r => za0 (.bool (!(D.zb7 a0))) r (fun R => za9 r rfl) rfl fun fr r => ?_)
   refine zaF (!(D.zb7 a0)) (fun h10 => ?_) (fun h10 => ?_)
   ·
    have hD := (zaq h10).symm.trans hD
    refine s0 r h10 fun fr r => s0 r h10 fun fr r => s0 r h10 fun fr r => za0 (.bool true) r (fun R => zar r (b := true) (congrArg Value.bool h10) rfl) rfl fun fr r => wn ?_
    exact nxy5 true () _ _ _ hD r (za1 rfl (za1 rfl (za1 rfl (za1 rfl (za1 rfl zaJ))))) (hP.pick [0, 1] rfl rfl)
   ·
    have hD := (zak h10).symm.trans hD
    refine s1 r h10 (za0 a1v r (fun R => za9 r rfl) rfl fun fr r => s1 r h10 (za0 (I (a1.length : Int)) r (fun R => zcu r (hP.ro (i := 0) rfl) is90 rfl) rfl fun fr r => s1 r h10 (za0 _ r (fun R => znA r rfl rfl rfl rfl) rfl fun fr r => za0 (.bool (decide ((a1.length : Int) > 60))) r (fun R => zar r (b := false) (congrArg Value.bool h10) rfl) rfl fun fr r => wn ?_)))
    exact nxy5 (decide ((a1.length : Int) > 60)) () _ _ _ hD r (za1 rfl (za1 rfl (za1 rfl (za1 rfl (za1 rfl zaJ))))) (hP.pick [0, 1] rfl rfl)
 ·
  rintro x11 γ12 fr w13 g r hP hD
  have hP : Post No [roK 98 1 i16E a1v a1, znw b1 ((znu a0)).toArray 25] w0 w13 := hP
  refine wp_cond_split (t := x11) (r.ev rfl) (fun h14 => ?_) (fun h14 => ?_)
  ·
   have hD := (zaq h14).symm.trans hD
   refine wsr ?_
   obtain ⟨x15, hx15, hD⟩ := zap hD
   refine za8 r (zeB w13  hx15) (fun R hc => zac r rfl cl53 hc) rfl ?_
   rintro _ w16 ⟨rfl, hb⟩
   refine ⟨_, rfl, fun fr r => ?_⟩
   have hP : Post No [roK 98 1 i16E a1v a1, znw b1 ((znu a0)).toArray 25] w0 w16 := hP.below hb
   refine za0 (.bool x15) r (fun R => za7 r rfl) rfl fun fr r => wn (wp_ret ?_)
   have hv : x15 = res := Option.some.inj hD
   try dsimp only [Exit.then, Exit.inBlock]
   refine zaz (fn := Tryz.f15) r (t := 4) rfl (v := (.bool x15)) rfl ?_
   subst hv
   exact ⟨rfl, hP.chg.below⟩
  ·
   have hD := (zak h14).symm.trans hD
   refine wp_skip (wsr (za0 (.agg (znu a0).toArray) r (fun R => za6 r (cs := (znu a0)) (n := 6) rfl (hP.cell (i := 1) rfl) ta25 rfl) rfl fun fr r => ?_))
   obtain ⟨x17, hx17, hD⟩ := zap hD
   refine za8 r (zeU w13 a0 hx17) (fun R hc => zac r rfl cl55 hc) rfl ?_
   rintro _ w18 ⟨mg19, rfl, hq⟩
   refine ⟨_, rfl, fun fr r => ?_⟩
   have hP : Post No [roK 98 1 i16E a1v a1, znw b1 ((znu a0)).toArray 25, memK mg19 x17] w0 w18 := hP.add hq
   refine za0 (zp mg19.mb) r (fun R => za7 r rfl) rfl fun fr r => wn (wp_seq (wsr (za0 (zp mg19.mb) r (fun R => za9 r rfl) rfl fun fr r => za0 _ r (fun R => znA r rfl rfl rfl rfl) rfl fun fr r => wn ?_)))
   refine wp_cond_split (t := false) (r.ev rfl) (fun h => absurd ((rfl : false = _).symm.trans h) (by decide)) (fun _ => wp_skip (wsr (za0 (.agg (znu a0).toArray) r (fun R => za6 r (cs := (znu a0)) (n := 6) rfl (hP.cell (i := 1) rfl) ta25 rfl) rfl fun fr r => za0 (.agg (znR (⟨a0, 0, 0⟩ : Seat)).toArray) r (fun R => zaQ r (by kernel_rfl)) rfl fun fr r => ?_)))
   refine za5 (.cells ((znR (⟨(⟨0, 0, 0, 0, 0, 0⟩ : Plan), 0, 0⟩ : Seat))).toArray 29 (0, 0)) r (fun R => zag tz29) rfl fun fr b21 w22 n23 r => ?_
   have hP : Post No [roK 98 1 i16E a1v a1, znw b1 ((znu a0)).toArray 25, memK mg19 x17, znw b21 ((znR (⟨(⟨0, 0, 0, 0, 0, 0⟩ : Plan), 0, 0⟩ : Seat))).toArray 29] w0 w22 := hP.new n23
   refine zae (.cells ((znR (⟨a0, 0, 0⟩ : Seat))).toArray 29 (0, 0)) r (fun R => zaS r (o := 0) (v := (.agg (znR (⟨a0, 0, 0⟩ : Seat)).toArray)) rfl rfl (hP.cell (i := 3) rfl) ts29 (Nat.le_of_ble_eq_true rfl) rfl rfl) rfl fun fr w25 u26 r => ?_
   have hP : Post No [roK 98 1 i16E a1v a1, znw b1 ((znu a0)).toArray 25, memK mg19 x17, znw b21 ((znR (⟨a0, 0, 0⟩ : Seat))).toArray 29] w0 w25 := hP.upd (i := 3) rfl u26
   refine wn (wp_seq (wsr (za0 (I 0) r (fun R => za7 r rfl) rfl fun fr r => wn ?_)))
   refine zdd (X := Bool × Int × Mem) (G := Unit) (x0 := (false, 0, x17)) (fun x γ => [(0, (.agg (znu a0).toArray)), (1, a1v), (2, (zp b1)), (25, (.bool x11)), (5, (zp mg19.mb)), (30, (.bool false)), (6, (zp b21)), (4, (.bool x.1)), (7, (I x.2.1))]) (fun x γ w => Post No [roK 98 1 i16E a1v a1, znw b1 ((znu a0)).toArray 25, memK mg19 x.2.2, znw b21 ((znR (⟨a0, 0, 0⟩ : Seat))).toArray 29] w0 w) () r (za1 rfl (za1 rfl (za1 rfl (za1 rfl (za1 rfl (za1 rfl (za1 rfl (za1 rfl (za1 rfl zaJ))))))))) hP hD ?_ ?_
   ·
    rintro x27 γ28 fr w30 g y29 RPy29 nxy29 bky29 rty29 r hP hD
    have hP : Post No [roK 98 1 i16E a1v a1, znw b1 ((znu a0)).toArray 25, memK mg19 x27.2.2, znw b21 ((znR (⟨a0, 0, 0⟩ : Seat))).toArray 29] w0 w30 := hP
    refine wp_seq (wsr (za0 (I x27.2.1) r (fun R => za9 r rfl) rfl fun fr r => za0 a1v r (fun R => za9 r rfl) rfl fun fr r => za0 (I (a1.length : Int)) r (fun R => zcu r (hP.ro (i := 0) rfl) is90 rfl) rfl fun fr r => za0 _ r (fun R => znA r rfl rfl rfl rfl) rfl fun fr r => wn ?_))
    refine wp_cond_split (t := (decide (x27.2.1 < (a1.length : Int)))) (r.ev rfl) (fun h31 => ?_) (fun h31 => ?_)
    ·
     have hD := (zaq h31).symm.trans hD
     refine wp_skip (wp_seq (wp_block (wsr (za0 (.agg (znR (⟨a0, 0, 0⟩ : Seat)).toArray) r (fun R => za6 r (cs := (znR (⟨a0, 0, 0⟩ : Seat))) (n := 8) rfl (hP.cell (i := 3) rfl) ta29 rfl) rfl fun fr r => ?_))))
     refine za8 r (zkK (F := No) (n := fu) (j := fu + 1) (fun _ h => h.elim) (by omega) (⟨a0, 0, 0⟩ : Seat) 0) (fun R hc => zac r rfl cl57 hc) rfl ?_
     rintro _ w32 ⟨v33, rfl, hb, hr34⟩
     refine ⟨_, rfl, fun fr r => ?_⟩
     have hP : Post No [roK 98 1 i16E a1v a1, znw b1 ((znu a0)).toArray 25, memK mg19 x27.2.2, znw b21 ((znR (⟨a0, 0, 0⟩ : Seat))).toArray 29, znK Tryz.prog znx (fu, (D.zcj (fu + 1) (⟨a0, 0, 0⟩ : Seat) 0)) v33 (rg w30.heap.size w32.heap.size)] w0 w32 := hP.addProg hb hr34
     refine za5 (.cells (znt false znx.zero 0 0 0 0 .nilFunc) 39 (0, 0)) r (fun R => zag tz39) rfl fun fr b36 w37 n38 r => ?_
     have hP : Post No [roK 98 1 i16E a1v a1, znw b1 ((znu a0)).toArray 25, memK mg19 x27.2.2, znw b21 ((znR (⟨a0, 0, 0⟩ : Seat))).toArray 29, znK Tryz.prog znx (fu, (D.zcj (fu + 1) (⟨a0, 0, 0⟩ : Seat) 0)) v33 (rg w30.heap.size w32.heap.size), znw b36 (znt false znx.zero 0 0 0 0 .nilFunc) 39] w0 w37 := hP.new n38
     refine zae (.cells v33.cells 39 (0, 0)) r (fun R => zaf r (hP.prog (i := 4) rfl).shape rfl rfl (hP.cell (i := 5) rfl) ts39 rfl) rfl fun fr w40 u41 r => ?_
     have hP : Post No [roK 98 1 i16E a1v a1, znw b1 ((znu a0)).toArray 25, memK mg19 x27.2.2, znw b21 ((znR (⟨a0, 0, 0⟩ : Seat))).toArray 29, znK Tryz.prog znx (fu, (D.zcj (fu + 1) (⟨a0, 0, 0⟩ : Seat) 0)) v33 (rg w30.heap.size w32.heap.size), znw b36 v33.cells 39] w0 w40 := hP.upd (i := 5) rfl u41
     refine wn (wp_seq (wsr (za0 a1v r (fun R => za9 r rfl) rfl fun fr r => za0 (I x27.2.1) r (fun R => za9 r rfl) rfl fun fr r => ?_)))
     obtain ⟨x42, hx42, hD⟩ := zap hD
     refine za0 (.pointer (some ⟨rowB a1v, rowO a1v + x27.2.1.toNat * 1, none⟩)) r (fun R => zcT r (hP.ro (i := 0) rfl) hx42 sl90 rfl rfl) rfl fun fr r => za0 (.int .i16 x42) r (fun R => zcO r (u := (.int .i16 x42)) (RoAt.at_ (f := i16E) (x := x42) (hP.ro (i := 0) rfl) (fun _ => rfl) hx42) rfl to98) rfl fun fr r => za0 _ r (fun R => znA r rfl rfl rfl rfl) rfl fun fr r => wn ?_
     refine zbU (N := 108) (Y := (Nat × T Res)) (G := Value × List Nat) (fun x γ => [(0, (.agg (znu a0).toArray)), (1, a1v), (2, (zp b1)), (25, (.bool x11)), (5, (zp mg19.mb)), (30, (.bool false)), (6, (zp b21)), (4, (.bool x27.1)), (7, (I x27.2.1)), (36, (.bool (decide (x27.2.1 < (a1.length : Int))))), (8, (zp b36)), (45, (.bool (decide (x42 ≥ 0))))]) (fun x γ w => Post No [roK 98 1 i16E a1v a1, znw b1 ((znu a0)).toArray 25, memK mg19 x27.2.2, znw b21 ((znR (⟨a0, 0, 0⟩ : Seat))).toArray 29, znK Tryz.prog znx x γ.1 γ.2, znw b36 γ.1.cells 39] w0 w) hD ?_ ?_
     ·
      rintro y43 RPy43 nxy43 hD
      refine wp_cond_split (t := (decide (x42 ≥ 0))) (r.ev rfl) (fun h44 => ?_) (fun h44 => ?_)
      ·
       have hD := (zaq h44).symm.trans hD
       obtain ⟨x45, hx45, hD⟩ := zap hD
       refine zl5 7 [.val (.agg (znR (⟨a0, 0, 0⟩ : Seat)).toArray), .val a1v, .val (I x27.2.1), .val (.pointer (some ⟨rowB a1v, rowO a1v + x27.2.1.toNat * 1, none⟩)), .val (.int .i16 x45), .val (U (V x45)), .pred (PrP Tryz.prog znx (fu, (D.zbx (fu + 1) (⟨a0, 0, 0⟩ : Seat) 0 (V x45)))) (PrP.st _)] mixed r (by kernel_rfl) ?_ ?_
       ·
        refine fc r (fun fr1 g w' hb' hd r' => za6 r' (cs := (znR (⟨a0, 0, 0⟩ : Seat))) (n := 8) rfl ((hP.below (dr hb')).cell (i := 3) rfl) ta29 rfl bz) ?_
        refine fc r (fun fr1 g w' hb' hd r' => za9 r' rfl bz) ?_
        refine fc r (fun fr1 g w' hb' hd r' => za9 r' rfl bz) ?_
        refine fc r (fun fr1 g w' hb' hd r' => zcT r' ((hP.below (dr hb')).ro (i := 0) rfl) hx45 sl90 (hd 1 rfl).1 (hd 2 rfl).1 bz) ?_
        refine fc r (fun fr1 g w' hb' hd r' => zcO r' (u := (.int .i16 x45)) (RoAt.at_ (f := i16E) (x := x45) ((hP.below (dr hb')).ro (i := 0) rfl) (fun _ => rfl) hx45) (hd 3 rfl).1 to98 bz) ?_
        refine fc r (fun fr1 g w' hb' hd r' => zb8 r' (n := x45) (hd 4 rfl).1 ti98 ti22 bz) ?_
        refine fc r (fun fr1 g w' hb' hd r' => zac r' (args := [(.agg (znR (⟨a0, 0, 0⟩ : Seat)).toArray), (I 0), (U (V x45))]) (lc (hd 0 rfl).1 (lc rfl (lc (hd 5 rfl).1 l0))) cl59 ((ziT (F := No) (n := fu) (j := fu + 1) (fun _ h => h.elim) (by omega) (⟨a0, 0, 0⟩ : Seat) 0 (V x45)).mono (by rintro _ w2 ⟨y, rfl, hb2, hr2⟩; exact ⟨_, rfl, hb2, zhL hr2⟩))) ?_
        exact zbD
       ·
        intro fr gg w47 hb hΦ hap r
        obtain ⟨v46, hv6⟩ : ∃ v, v = (gg 6).v := ⟨_, rfl⟩
        have g6 : (gg 6).v = v46 := hv6.symm
        have hs6 : Fresh [znK Tryz.prog znx (fu, (D.zbx (fu + 1) (⟨a0, 0, 0⟩ : Seat) 0 (V x45))) v46 (rg (gg 6).lo (gg 6).hi)] (gg 6).lo (gg 6).hi w47 := by subst hv6; exact (hΦ 6 rfl).1
        have r := r.congr (sc g6 (sc ((hΦ 5 rfl).1) (sc ((hΦ 4 rfl).1) (sc ((hΦ 3 rfl).1) (sc ((hΦ 2 rfl).1) (sc ((hΦ 1 rfl).1) (sc ((hΦ 0 rfl).1) rfl)))))))
        have hP : Post No [roK 98 1 i16E a1v a1, znw b1 ((znu a0)).toArray 25, memK mg19 x27.2.2, znw b21 ((znR (⟨a0, 0, 0⟩ : Seat))).toArray 29, znK Tryz.prog znx (fu, (D.zcj (fu + 1) (⟨a0, 0, 0⟩ : Seat) 0)) v33 (rg w30.heap.size w32.heap.size), znw b36 v33.cells 39, znK Tryz.prog znx (fu, (D.zbx (fu + 1) (⟨a0, 0, 0⟩ : Seat) 0 (V x45))) v46 (rg (gg 6).lo (gg 6).hi)] w0 w47 := hP.addL (l := [([znK Tryz.prog znx (fu, (D.zbx (fu + 1) (⟨a0, 0, 0⟩ : Seat) 0 (V x45))) v46 (rg (gg 6).lo (gg 6).hi)], (gg 6).lo, (gg 6).hi)]) hb ⟨hs6, (hΦ 6 rfl).2.1, zeh, trivial⟩
        refine zae (.cells v46.cells 39 (0, 0)) r (fun R => zaf r (hP.prog (i := 6) rfl).shape rfl rfl (hP.cell (i := 5) rfl) ts39 (by have h := (hP.prog (i := 4) rfl).shape.cells.1; simpa using h)) rfl fun fr w48 u49 r => ?_
        have hP : Post No [roK 98 1 i16E a1v a1, znw b1 ((znu a0)).toArray 25, memK mg19 x27.2.2, znw b21 ((znR (⟨a0, 0, 0⟩ : Seat))).toArray 29, znK Tryz.prog znx (fu, (D.zcj (fu + 1) (⟨a0, 0, 0⟩ : Seat) 0)) v33 (rg w30.heap.size w32.heap.size), znw b36 v46.cells 39, znK Tryz.prog znx (fu, (D.zbx (fu + 1) (⟨a0, 0, 0⟩ : Seat) 0 (V x45))) v46 (rg (gg 6).lo (gg 6).hi)] w0 w48 := hP.upd (i := 5) rfl u49
        refine wn ?_
        exact nxy43 (fu, (D.zbx (fu + 1) (⟨a0, 0, 0⟩ : Seat) 0 (V x45))) (v46, (rg (gg 6).lo (gg 6).hi)) _ _ _ hD r (za1 rfl (za1 rfl (za1 rfl (za1 rfl (za1 rfl (za1 rfl (za1 rfl (za1 rfl (za1 rfl (za1 rfl (za1 rfl (za1 rfl zaJ)))))))))))) (hP.pick [0, 1, 2, 3, 6, 5] rfl rfl)
      ·
       have hD := (zak h44).symm.trans hD
       refine wp_skip ?_
       exact nxy43 (fu, (D.zcj (fu + 1) (⟨a0, 0, 0⟩ : Seat) 0)) (v33, (rg w30.heap.size w32.heap.size)) _ _ _ hD r (za1 rfl (za1 rfl (za1 rfl (za1 rfl (za1 rfl (za1 rfl (za1 rfl (za1 rfl (za1 rfl (za1 rfl (za1 rfl (za1 rfl zaJ)))))))))))) (hP.pick [0, 1, 2, 3, 4, 5] rfl rfl)
     ·
      rintro x50 γ51 fr w52 g r hP hD
      have hP : Post No [roK 98 1 i16E a1v a1, znw b1 ((znu a0)).toArray 25, memK mg19 x27.2.2, znw b21 ((znR (⟨a0, 0, 0⟩ : Seat))).toArray 29, znK Tryz.prog znx x50 γ51.1 γ51.2, znw b36 γ51.1.cells 39] w0 w52 := hP
      refine wp_seq ?_
      obtain ⟨x53, hx53, hD⟩ := zap hD
      obtain ⟨x54, hx54, hD⟩ := zap hD
      refine zhj mg19.bs [.val γ51.1, .val (zp mg19.mb), .val (zp mg19.mb), .val (.agg (capC x53).toArray), .eff (EffP w52.heap.size (memK mg19 x54.2.2.2) (fun _ : Unit => (.tuple #[(.agg (resC x54.1).toArray), (I x54.2.1), (.bool x54.2.2.1)])) (fun _ : Unit => [])) (EffP.st _ _ _ _)] mixed r (fun b hb => hP.sep.lt (i := 2) rfl (.inl hb)) (by kernel_rfl) ?_ ?_
      ·
       refine zbk r rfl (by kernel_rfl) (fun fr1 g w' hb' hd r' => ?_) ?_
       · exact zfN r' ((hP.below (dr hb')).prog (i := 4) rfl).shape rfl ((hP.below (dr hb')).cell (i := 5) rfl) ta39 ⟨Below.refl _ _, rfl⟩
       refine zbk r rfl (by kernel_rfl) (fun fr1 g w' hb' hd r' => ?_) ?_
       · exact za9 r' (v := (zp mg19.mb)) rfl ⟨Below.refl _ _, rfl⟩
       refine zaU r rfl (fun fr1 g w' hk' hd r' => ?_) ?_
       · exact za9 r' (v := (zp mg19.mb)) rfl ⟨Below.refl _ _, rfl⟩
       refine zbk r rfl (by kernel_rfl) (fun fr1 g w' hb' hd r' => ?_) ?_
       · exact zac r' (args := [(zp mg19.mb), (I 0)]) (lc (hd 2 rfl).1 (lc rfl l0)) cl31 ((zdw _ x27.2.2 ((hP.below (dr hb')).mem (i := 2) rfl) 0 hx53).mono (by rintro _ w2 ⟨rfl, hb2⟩; exact ⟨_, rfl, hb2, rfl⟩))
       refine zbk r rfl (by kernel_rfl) (fun fr1 g w' hb' hd r' => ?_) ?_
       · exact zac r' (args := [γ51.1, (zp mg19.mb), (.agg (capC x53).toArray), (I 100000)]) (lc (hd 0 rfl).1 (lc (hd 1 rfl).1 (lc (hd 3 rfl).1 (lc rfl l0)))) cl29 ((zfg _ x50 x27.2.2 x53 100000 ((hP.below (dr hb')).sep.pk [4, 2] rfl rfl) hx54).mono (by rintro _ w2 ⟨rfl, hq⟩; exact ⟨_, rfl, hq.chg.kept, EffP.of () hq rfl (fun b hb => hP.sep.lt (i := 2) rfl hb)⟩))
       exact zbD
      ·
       intro fr gg w55 hb hΦ hap r
       obtain ⟨⟨⟩, g4, hcE, _, hs4⟩ := (hΦ 4 rfl).1
       have r := r.congr (sc g4 (sc ((hΦ 3 rfl).1) (sc ((hΦ 2 rfl).1) (sc ((hΦ 1 rfl).1) (sc ((hΦ 0 rfl).1) rfl)))))
       have hP : Post No [roK 98 1 i16E a1v a1, znw b1 ((znu a0)).toArray 25, memK mg19 x54.2.2.2, znw b21 ((znR (⟨a0, 0, 0⟩ : Seat))).toArray 29, znK Tryz.prog znx x50 γ51.1 γ51.2, znw b36 γ51.1.cells 39] w0 w55 := hP.effL (i := 2) (l := []) rfl hb hcE rfl rfl trivial
       refine wsr (za0 (I 0) r (fun R => za7 r rfl) rfl fun fr r => wn (wp_seq (wsr (za0 (I 0) r (fun R => za7 r rfl) rfl fun fr r => wn ?_))))
       refine zdd (X := Int × Int) (G := Unit) (x0 := (0, 0)) (fun x γ => [(0, (.agg (znu a0).toArray)), (1, a1v), (2, (zp b1)), (25, (.bool x11)), (5, (zp mg19.mb)), (30, (.bool false)), (6, (zp b21)), (4, (.bool x27.1)), (7, (I x27.2.1)), (36, (.bool (decide (x27.2.1 < (a1.length : Int))))), (8, (zp b36)), (45, (.bool (decide (x42 ≥ 0)))), (9, (I x.1)), (10, (I x.2))]) (fun x γ w => Post No [roK 98 1 i16E a1v a1, znw b1 ((znu a0)).toArray 25, memK mg19 x54.2.2.2, znw b21 ((znR (⟨a0, 0, 0⟩ : Seat))).toArray 29, znK Tryz.prog znx x50 γ51.1 γ51.2, znw b36 γ51.1.cells 39] w0 w) () r (za1 rfl (za1 rfl (za1 rfl (za1 rfl (za1 rfl (za1 rfl (za1 rfl (za1 rfl (za1 rfl (za1 rfl (za1 rfl (za1 rfl (za1 rfl (za1 rfl zaJ)))))))))))))) hP hD ?_ ?_
       ·
        rintro x56 γ57 fr w59 g y58 RPy58 nxy58 bky58 rty58 r hP hD
        have hP : Post No [roK 98 1 i16E a1v a1, znw b1 ((znu a0)).toArray 25, memK mg19 x54.2.2.2, znw b21 ((znR (⟨a0, 0, 0⟩ : Seat))).toArray 29, znK Tryz.prog znx x50 γ51.1 γ51.2, znw b36 γ51.1.cells 39] w0 w59 := hP
        refine wp_seq (wsr (za0 (I x56.2) r (fun R => za9 r rfl) rfl fun fr r => za0 _ r (fun R => za4 r (o := 0) rfl zeD) rfl fun fr r => za0 (I a0.nodes) r (fun R => za3 r rfl (hP.cell (i := 1) rfl) to3 rfl) rfl fun fr r => za0 _ r (fun R => znA r rfl rfl rfl rfl) rfl fun fr r => wn ?_))
        refine wp_cond_split (t := (decide (x56.2 < a0.nodes))) (r.ev rfl) (fun h60 => ?_) (fun h60 => ?_)
        ·
         have hD := (zaq h60).symm.trans hD
         refine wp_skip (wp_seq (wp_block (wsr (za0 (zp mg19.mb) r (fun R => za9 r rfl) rfl fun fr r => za0 (.agg (znu a0).toArray) r (fun R => za6 r (cs := (znu a0)) (n := 6) rfl (hP.cell (i := 1) rfl) ta25 rfl) rfl fun fr r => za0 (I x56.2) r (fun R => za9 r rfl) rfl fun fr r => ?_))))
         refine za8 r (zbO w59 a0 x56.2) (fun R hc => zac r rfl cl68 hc) rfl ?_
         rintro _ w61 ⟨rfl, hb⟩
         refine ⟨_, rfl, fun fr r => ?_⟩
         have hP : Post No [roK 98 1 i16E a1v a1, znw b1 ((znu a0)).toArray 25, memK mg19 x54.2.2.2, znw b21 ((znR (⟨a0, 0, 0⟩ : Seat))).toArray 29, znK Tryz.prog znx x50 γ51.1 γ51.2, znw b36 γ51.1.cells 39] w0 w61 := hP.below hb
         obtain ⟨x62, hx62, hD⟩ := zap hD
         refine za8 r (zbr w61 x54.2.2.2 (hP.mem (i := 2) rfl) 0 (D.zaH a0 x56.2) hx62) (fun R hc => zac r rfl cl51 hc) rfl ?_
         rintro _ w63 ⟨rfl, hb⟩
         refine ⟨_, rfl, fun fr r => ?_⟩
         have hP : Post No [roK 98 1 i16E a1v a1, znw b1 ((znu a0)).toArray 25, memK mg19 x54.2.2.2, znw b21 ((znR (⟨a0, 0, 0⟩ : Seat))).toArray 29, znK Tryz.prog znx x50 γ51.1 γ51.2, znw b36 γ51.1.cells 39] w0 w63 := hP.below hb
         refine za8 r (zeK w63 x62) (fun R hc => zac r rfl cl67 hc) rfl ?_
         rintro _ w64 ⟨rfl, hb⟩
         refine ⟨_, rfl, fun fr r => ?_⟩
         have hP : Post No [roK 98 1 i16E a1v a1, znw b1 ((znu a0)).toArray 25, memK mg19 x54.2.2.2, znw b21 ((znR (⟨a0, 0, 0⟩ : Seat))).toArray 29, znK Tryz.prog znx x50 γ51.1 γ51.2, znw b36 γ51.1.cells 39] w0 w64 := hP.below hb
         refine za0 (.tuple #[(.agg (znD (D.zan x62).1).toArray), (.bool (D.zan x62).2)]) r (fun R => za9 r rfl) rfl fun fr r => za0 (.agg (znD (D.zan x62).1).toArray) r (fun R => zb5 r (vs := #[(.agg (znD (D.zan x62).1).toArray), (.bool (D.zan x62).2)]) rfl rfl) rfl fun fr r => za0 (.bool (D.zan x62).2) r (fun R => zb5 r (vs := #[(.agg (znD (D.zan x62).1).toArray), (.bool (D.zan x62).2)]) rfl rfl) rfl fun fr r => ?_
         refine za5 (.cells ((znD (⟨0, 0, 0⟩ : State))).toArray 118 (0, 0)) r (fun R => zag zoh) rfl fun fr b65 w66 n67 r => ?_
         have hP : Post No [roK 98 1 i16E a1v a1, znw b1 ((znu a0)).toArray 25, memK mg19 x54.2.2.2, znw b21 ((znR (⟨a0, 0, 0⟩ : Seat))).toArray 29, znK Tryz.prog znx x50 γ51.1 γ51.2, znw b36 γ51.1.cells 39, znw b65 ((znD (⟨0, 0, 0⟩ : State))).toArray 118] w0 w66 := hP.new n67
         refine zae (.cells ((znD ((D.zan x62).1))).toArray 118 (0, 0)) r (fun R => zaS r (o := 0) (v := (.agg (znD (D.zan x62).1).toArray)) rfl rfl (hP.cell (i := 6) rfl) zoa (Nat.le_of_ble_eq_true rfl) rfl rfl) rfl fun fr w69 u70 r => ?_
         have hP : Post No [roK 98 1 i16E a1v a1, znw b1 ((znu a0)).toArray 25, memK mg19 x54.2.2.2, znw b21 ((znR (⟨a0, 0, 0⟩ : Seat))).toArray 29, znK Tryz.prog znx x50 γ51.1 γ51.2, znw b36 γ51.1.cells 39, znw b65 ((znD ((D.zan x62).1))).toArray 118] w0 w69 := hP.upd (i := 6) rfl u70
         refine za0 (.bool (D.zan x62).2) r (fun R => za7 r rfl) rfl fun fr r => wn (wsr (za0 _ r (fun R => za4 r (o := 0) rfl zi1) rfl fun fr r => za0 (I ((D.zan x62).1).mode) r (fun R => za3 r rfl (hP.cell (i := 6) rfl) to3 rfl) rfl fun fr r => za0 _ r (fun R => znA r rfl rfl rfl rfl) rfl fun fr r => wn ?_))
         refine zbU (N := 108) (Y := Int) (G := Unit) (fun x γ => [(0, (.agg (znu a0).toArray)), (1, a1v), (2, (zp b1)), (25, (.bool x11)), (5, (zp mg19.mb)), (30, (.bool false)), (6, (zp b21)), (4, (.bool x27.1)), (7, (I x27.2.1)), (36, (.bool (decide (x27.2.1 < (a1.length : Int))))), (8, (zp b36)), (45, (.bool (decide (x42 ≥ 0)))), (10, (I x56.2)), (61, (.bool (decide (x56.2 < a0.nodes)))), (11, (zp b65)), (75, (.bool ((((D.zan x62).1).mode) == 3))), (9, (I x))]) (fun x γ w => Post No [roK 98 1 i16E a1v a1, znw b1 ((znu a0)).toArray 25, memK mg19 x54.2.2.2, znw b21 ((znR (⟨a0, 0, 0⟩ : Seat))).toArray 29, znK Tryz.prog znx x50 γ51.1 γ51.2, znw b36 γ51.1.cells 39, znw b65 ((znD ((D.zan x62).1))).toArray 118] w0 w) hD ?_ ?_
         ·
          rintro y71 RPy71 nxy71 hD
          refine wp_cond_split (t := ((((D.zan x62).1).mode) == 3)) (r.ev rfl) (fun h72 => ?_) (fun h72 => ?_)
          ·
           have hD := (zaq h72).symm.trans hD
           refine wp_region_lit (za0 (I x56.1) r (fun R => za9 r rfl) rfl fun fr r => za0 _ r (fun R => znA r rfl rfl rfl rfl) rfl fun fr r => za0 (I (W (x56.1 + 1))) r (fun R => za7 r rfl) rfl fun fr r => wn ?_)
           exact nxy71 (W (x56.1 + 1)) () _ _ _ hD r (za1 rfl (za1 rfl (za1 rfl (za1 rfl (za1 rfl (za1 rfl (za1 rfl (za1 rfl (za1 rfl (za1 rfl (za1 rfl (za1 rfl (za1 rfl (za1 rfl (za1 rfl (za1 rfl (za1 rfl zaJ))))))))))))))))) (hP.pick [0, 1, 2, 3, 4, 5, 6] rfl rfl)
          ·
           have hD := (zak h72).symm.trans hD
           refine wp_skip ?_
           exact nxy71 x56.1 () _ _ _ hD r (za1 rfl (za1 rfl (za1 rfl (za1 rfl (za1 rfl (za1 rfl (za1 rfl (za1 rfl (za1 rfl (za1 rfl (za1 rfl (za1 rfl (za1 rfl (za1 rfl (za1 rfl (za1 rfl (za1 rfl zaJ))))))))))))))))) (hP.pick [0, 1, 2, 3, 4, 5, 6] rfl rfl)
         ·
          rintro x73 γ74 fr w75 g r hP hD
          have hP : Post No [roK 98 1 i16E a1v a1, znw b1 ((znu a0)).toArray 25, memK mg19 x54.2.2.2, znw b21 ((znR (⟨a0, 0, 0⟩ : Seat))).toArray 29, znK Tryz.prog znx x50 γ51.1 γ51.2, znw b36 γ51.1.cells 39, znw b65 ((znD ((D.zan x62).1))).toArray 118] w0 w75 := hP
          refine wp_region_lit (za0 (I x56.2) r (fun R => za9 r rfl) rfl fun fr r => za0 _ r (fun R => znA r rfl rfl rfl rfl) rfl fun fr r => za0 (I (W (x56.2 + 1))) r (fun R => za7 r rfl) rfl fun fr r => wn ?_)
          exact nxy58 (x73, (W (x56.2 + 1))) () _ _ _ hD r (za1 rfl (za1 rfl (za1 rfl (za1 rfl (za1 rfl (za1 rfl (za1 rfl (za1 rfl (za1 rfl (za1 rfl (za1 rfl (za1 rfl (za1 rfl (za1 rfl zaJ)))))))))))))) (hP.pick [0, 1, 2, 3, 4, 5] rfl rfl)
        ·
         have hD := (zak h60).symm.trans hD
         refine wp_exit ?_
         exact bky58 (x56.1, x56.2) () _ _ _ hD r (za1 rfl (za1 rfl (za1 rfl (za1 rfl (za1 rfl (za1 rfl (za1 rfl (za1 rfl (za1 rfl (za1 rfl (za1 rfl (za1 rfl (za1 rfl (za1 rfl zaJ)))))))))))))) (hP.pick [0, 1, 2, 3, 4, 5] rfl rfl)
       ·
        rintro x76 γ77 fr w78 g r hP hD
        have hP : Post No [roK 98 1 i16E a1v a1, znw b1 ((znu a0)).toArray 25, memK mg19 x54.2.2.2, znw b21 ((znR (⟨a0, 0, 0⟩ : Seat))).toArray 29, znK Tryz.prog znx x50 γ51.1 γ51.2, znw b36 γ51.1.cells 39] w0 w78 := hP
        refine wp_seq (wp_seq ?_)
        obtain ⟨x79, hx79, hD⟩ := zap hD
        obtain ⟨x82, hx82, hD⟩ := zap hD
        obtain ⟨x85, hx85, hD⟩ := zap hD
        refine zdg [.val (.agg (znu a0).toArray), .val (zp mg19.mb), .pred (MkP (fun v80 : Value => v80) (fun v80 : Value => [rowK 3 1 i64 v80 x79])) (MkP.st _ _), .val (I (x79.length : Int)), .val (.agg (znu a0).toArray), .val (zp mg19.mb), .pred (MkP (fun v83 : Value => v83) (fun v83 : Value => [rowK 3 1 i64 v83 x82])) (MkP.st _ _), .val (I (x82.length : Int)), .val (I (W ((x79.length : Int) + (x82.length : Int)))), .val (.agg (znu a0).toArray), .val (zp mg19.mb), .pred (MkP (fun v86 : Value => v86) (fun v86 : Value => [rowK 22 1 u64 v86 x85])) (MkP.st _ _), .val (I (x85.length : Int)), .val (I (W ((W ((x79.length : Int) + (x82.length : Int))) + (x85.length : Int)))), .val (I (W ((W ((W ((x79.length : Int) + (x82.length : Int))) + (x85.length : Int))) + 1))), .val (I x76.1), .val (I (W ((W ((W ((W ((x79.length : Int) + (x82.length : Int))) + (x85.length : Int))) + 1)) + x76.1))), .val (zp b1), .val (I a0.nodes), .val (.bool ((W ((W ((W ((W ((x79.length : Int) + (x82.length : Int))) + (x85.length : Int))) + 1)) + x76.1)) != a0.nodes))] mixed r (by kernel_rfl) ?_ ?_
        ·
         refine fc r (fun fr1 g w' hb' hd r' => za6 r' (cs := (znu a0)) (n := 6) rfl ((hP.below (dr hb')).cell (i := 1) rfl) ta25 rfl bz) ?_
         refine fc r (fun fr1 g w' hb' hd r' => za9 r' rfl bz) ?_
         refine fc r (fun fr1 g w' hb' hd r' => zac r' (args := [(.agg (znu a0).toArray), (zp mg19.mb), (I 0)]) (lc (hd 0 rfl).1 (lc (hd 1 rfl).1 (lc rfl l0))) cl69 ((zkX _ a0 x54.2.2.2 ((hP.below (dr hb')).mem (i := 2) rfl) 0 hx79).mono (by rintro _ w2 ⟨y, rfl, hq⟩; exact ⟨_, rfl, hq.chg.below, MkP.of y hq⟩))) ?_
         refine zfr r rfl (fun fr1 g w' hb' hd r' => ?_) ?_
         · obtain ⟨y, hy, hs, _⟩ := (hd 2 rfl).1; exact zcu r' (RowAt.ro (hs.get (i := 0) rfl)) is72 hy ⟨Below.refl _ _, rfl⟩
         refine fc r (fun fr1 g w' hb' hd r' => za6 r' (cs := (znu a0)) (n := 6) rfl ((hP.below (dr hb')).cell (i := 1) rfl) ta25 rfl bz) ?_
         refine fc r (fun fr1 g w' hb' hd r' => za9 r' rfl bz) ?_
         refine fc r (fun fr1 g w' hb' hd r' => zac r' (args := [(.agg (znu a0).toArray), (zp mg19.mb), (I 0), (I 0)]) (lc (hd 4 rfl).1 (lc (hd 5 rfl).1 (lc rfl (lc rfl l0)))) cl70 ((zjY _ a0 x54.2.2.2 ((hP.below (dr hb')).mem (i := 2) rfl) 0 0 hx82).mono (by rintro _ w2 ⟨y, rfl, hq⟩; exact ⟨_, rfl, hq.chg.below, MkP.of y hq⟩))) ?_
         refine zfr r rfl (fun fr1 g w' hb' hd r' => ?_) ?_
         · obtain ⟨y, hy, hs, _⟩ := (hd 6 rfl).1; exact zcu r' (RowAt.ro (hs.get (i := 0) rfl)) is72 hy ⟨Below.refl _ _, rfl⟩
         refine fc r (fun fr1 g w' hb' hd r' => znA r' (hd 3 rfl).1 (hd 7 rfl).1 rfl rfl bz) ?_
         refine fc r (fun fr1 g w' hb' hd r' => za6 r' (cs := (znu a0)) (n := 6) rfl ((hP.below (dr hb')).cell (i := 1) rfl) ta25 rfl bz) ?_
         refine fc r (fun fr1 g w' hb' hd r' => za9 r' rfl bz) ?_
         refine fc r (fun fr1 g w' hb' hd r' => zac r' (args := [(.agg (znu a0).toArray), (zp mg19.mb), (I 0), (I 0)]) (lc (hd 9 rfl).1 (lc (hd 10 rfl).1 (lc rfl (lc rfl l0)))) cl62 ((zid _ a0 x54.2.2.2 ((hP.below (dr hb')).mem (i := 2) rfl) 0 0 hx85).mono (by rintro _ w2 ⟨y, rfl, hq⟩; exact ⟨_, rfl, hq.chg.below, MkP.of y hq⟩))) ?_
         refine zfr r rfl (fun fr1 g w' hb' hd r' => ?_) ?_
         · obtain ⟨y, hy, hs, _⟩ := (hd 11 rfl).1; exact zcu r' (RowAt.ro (hs.get (i := 0) rfl)) is49 hy ⟨Below.refl _ _, rfl⟩
         refine fc r (fun fr1 g w' hb' hd r' => znA r' (hd 8 rfl).1 (hd 12 rfl).1 rfl rfl bz) ?_
         refine fc r (fun fr1 g w' hb' hd r' => znA r' (hd 13 rfl).1 rfl rfl rfl bz) ?_
         refine fc r (fun fr1 g w' hb' hd r' => za9 r' rfl bz) ?_
         refine fc r (fun fr1 g w' hb' hd r' => znA r' (hd 14 rfl).1 (hd 15 rfl).1 rfl rfl bz) ?_
         refine fc r (fun fr1 g w' hb' hd r' => za4 r' (b := b1) (o := 0) rfl zeD bz) ?_
         refine fc r (fun fr1 g w' hb' hd r' => za3 r' (hd 17 rfl).1 ((hP.below (dr hb')).cell (i := 1) rfl) to3 rfl bz) ?_
         refine fc r (fun fr1 g w' hb' hd r' => znA r' (hd 16 rfl).1 (hd 18 rfl).1 rfl rfl bz) ?_
         exact zbD
        ·
         intro fr gg w88 hb hΦ hap r
         obtain ⟨v80, g2, hs2⟩ := (hΦ 2 rfl).1
         obtain ⟨v83, g6, hs6⟩ := (hΦ 6 rfl).1
         obtain ⟨v86, g11, hs11⟩ := (hΦ 11 rfl).1
         have r := r.congr (sc ((hΦ 19 rfl).1) (sc ((hΦ 18 rfl).1) (sc ((hΦ 17 rfl).1) (sc ((hΦ 16 rfl).1) (sc ((hΦ 15 rfl).1) (sc ((hΦ 14 rfl).1) (sc ((hΦ 13 rfl).1) (sc ((hΦ 12 rfl).1) (sc g11 (sc ((hΦ 10 rfl).1) (sc ((hΦ 9 rfl).1) (sc ((hΦ 8 rfl).1) (sc ((hΦ 7 rfl).1) (sc g6 (sc ((hΦ 5 rfl).1) (sc ((hΦ 4 rfl).1) (sc ((hΦ 3 rfl).1) (sc g2 (sc ((hΦ 1 rfl).1) (sc ((hΦ 0 rfl).1) rfl))))))))))))))))))))
         have hP : Post No [roK 98 1 i16E a1v a1, znw b1 ((znu a0)).toArray 25, memK mg19 x54.2.2.2, znw b21 ((znR (⟨a0, 0, 0⟩ : Seat))).toArray 29, znK Tryz.prog znx x50 γ51.1 γ51.2, znw b36 γ51.1.cells 39, rowK 3 1 i64 v80 x79, rowK 3 1 i64 v83 x82, rowK 22 1 u64 v86 x85] w0 w88 := hP.addL (l := [([rowK 3 1 i64 v80 x79], (gg 2).lo, (gg 2).hi), ([rowK 3 1 i64 v83 x82], (gg 6).lo, (gg 6).hi), ([rowK 22 1 u64 v86 x85], (gg 11).lo, (gg 11).hi)]) hb ⟨hs2, (hΦ 2 rfl).2.1, (zhr (hap 2 6 rfl) (zhr (hap 2 11 rfl) zeh)), ⟨hs6, (hΦ 6 rfl).2.1, (zhr (hap 6 11 rfl) zeh), ⟨hs11, (hΦ 11 rfl).2.1, zeh, trivial⟩⟩⟩
         refine wp_cond_split (t := ((W ((W ((W ((W ((x79.length : Int) + (x82.length : Int))) + (x85.length : Int))) + 1)) + x76.1)) != a0.nodes)) (r.ev rfl) (fun h89 => ?_) (fun h89 => ?_)
         ·
          have hD := (zaq h89).symm.trans hD
          refine wsr (za0 (.bool false) r (fun R => za7 r rfl) rfl fun fr r => wn (wp_ret ?_))
          refine rty29 false _ _ hD fun hD => ?_
          have hv : false = res := Option.some.inj hD
          try dsimp only [Exit.then, Exit.inBlock]
          refine zaz (fn := Tryz.f15) r (t := 4) rfl (v := (.bool false)) rfl ?_
          subst hv
          exact ⟨rfl, hP.chg.below⟩
         ·
          have hD := (zak h89).symm.trans hD
          refine wp_skip (wsr (za0 (I 0) r (fun R => za7 r rfl) rfl fun fr r => wn ?_))
          have hP : Post No [roK 98 1 i16E a1v a1, znw b1 ((znu a0)).toArray 25, memK mg19 x54.2.2.2, znw b21 ((znR (⟨a0, 0, 0⟩ : Seat))).toArray 29, znK Tryz.prog znx x50 γ51.1 γ51.2, znw b36 γ51.1.cells 39] w0 w88 := hP.pick [0, 1, 2, 3, 4, 5] rfl rfl
          refine zdd (X := Bool × Int) (G := Unit) (x0 := (x27.1, 0)) (fun x γ => [(0, (.agg (znu a0).toArray)), (1, a1v), (2, (zp b1)), (25, (.bool x11)), (5, (zp mg19.mb)), (30, (.bool false)), (6, (zp b21)), (7, (I x27.2.1)), (36, (.bool (decide (x27.2.1 < (a1.length : Int))))), (8, (zp b36)), (45, (.bool (decide (x42 ≥ 0)))), (9, (I x76.1)), (10, (I x76.2)), (97, (.bool ((W ((W ((W ((W ((x79.length : Int) + (x82.length : Int))) + (x85.length : Int))) + 1)) + x76.1)) != a0.nodes))), (4, (.bool x.1)), (13, (I x.2))]) (fun x γ w => Post No [roK 98 1 i16E a1v a1, znw b1 ((znu a0)).toArray 25, memK mg19 x54.2.2.2, znw b21 ((znR (⟨a0, 0, 0⟩ : Seat))).toArray 29, znK Tryz.prog znx x50 γ51.1 γ51.2, znw b36 γ51.1.cells 39] w0 w) () r (za1 rfl (za1 rfl (za1 rfl (za1 rfl (za1 rfl (za1 rfl (za1 rfl (za1 rfl (za1 rfl (za1 rfl (za1 rfl (za1 rfl (za1 rfl (za1 rfl (za1 rfl (za1 rfl zaJ)))))))))))))))) hP hD ?_ ?_
          ·
           rintro x90 γ91 fr w93 g y92 RPy92 nxy92 bky92 rty92 r hP hD
           have hP : Post No [roK 98 1 i16E a1v a1, znw b1 ((znu a0)).toArray 25, memK mg19 x54.2.2.2, znw b21 ((znR (⟨a0, 0, 0⟩ : Seat))).toArray 29, znK Tryz.prog znx x50 γ51.1 γ51.2, znw b36 γ51.1.cells 39] w0 w93 := hP
           refine wp_seq (wsr (za0 (I x90.2) r (fun R => za9 r rfl) rfl fun fr r => za0 _ r (fun R => znA r rfl rfl rfl rfl) rfl fun fr r => wn ?_))
           refine wp_cond_split (t := (decide (x90.2 < 3))) (r.ev rfl) (fun h94 => ?_) (fun h94 => ?_)
           ·
            have hD := (zaq h94).symm.trans hD
            refine wp_skip (wp_seq (wp_block (wsr (za0 (zp mg19.mb) r (fun R => za9 r rfl) rfl fun fr r => za0 (.agg (znu a0).toArray) r (fun R => za6 r (cs := (znu a0)) (n := 6) rfl (hP.cell (i := 1) rfl) ta25 rfl) rfl fun fr r => za0 (I x90.2) r (fun R => za9 r rfl) rfl fun fr r => ?_))))
            refine za8 r (zdP w93 a0 0 x90.2) (fun R hc => zac r rfl cl52 hc) rfl ?_
            rintro _ w95 ⟨rfl, hb⟩
            refine ⟨_, rfl, fun fr r => ?_⟩
            have hP : Post No [roK 98 1 i16E a1v a1, znw b1 ((znu a0)).toArray 25, memK mg19 x54.2.2.2, znw b21 ((znR (⟨a0, 0, 0⟩ : Seat))).toArray 29, znK Tryz.prog znx x50 γ51.1 γ51.2, znw b36 γ51.1.cells 39] w0 w95 := hP.below hb
            obtain ⟨x96, hx96, hD⟩ := zap hD
            refine za8 r (zbr w95 x54.2.2.2 (hP.mem (i := 2) rfl) 0 (D.zbc a0 0 x90.2) hx96) (fun R hc => zac r rfl cl51 hc) rfl ?_
            rintro _ w97 ⟨rfl, hb⟩
            refine ⟨_, rfl, fun fr r => ?_⟩
            have hP : Post No [roK 98 1 i16E a1v a1, znw b1 ((znu a0)).toArray 25, memK mg19 x54.2.2.2, znw b21 ((znR (⟨a0, 0, 0⟩ : Seat))).toArray 29, znK Tryz.prog znx x50 γ51.1 γ51.2, znw b36 γ51.1.cells 39] w0 w97 := hP.below hb
            refine za0 _ r (fun R => znA r rfl rfl rfl rfl) rfl fun fr r => wn ?_
            refine wp_cond_split (t := (x96 != 0)) (r.ev rfl) (fun h98 => ?_) (fun h98 => ?_)
            ·
             have hD := (zaq h98).symm.trans hD
             refine wsr (za0 (.bool false) r (fun R => za7 r rfl) rfl fun fr r => wn (wp_ret ?_))
             refine rty92 (Lp.ret false) _ _ hD fun hD => ?_
             refine rty29 false _ _ hD fun hD => ?_
             have hv : false = res := Option.some.inj hD
             try dsimp only [Exit.then, Exit.inBlock]
             refine zaz (fn := Tryz.f15) r (t := 4) rfl (v := (.bool false)) rfl ?_
             subst hv
             exact ⟨rfl, hP.chg.below⟩
            ·
             have hD := (zak h98).symm.trans hD
             refine wp_skip ?_
             refine wp_region_lit (za0 (I x90.2) r (fun R => za9 r rfl) rfl fun fr r => za0 _ r (fun R => znA r rfl rfl rfl rfl) rfl fun fr r => za0 (I (W (x90.2 + 1))) r (fun R => za7 r rfl) rfl fun fr r => wn ?_)
             exact nxy92 (x90.1, (W (x90.2 + 1))) () _ _ _ hD r (za1 rfl (za1 rfl (za1 rfl (za1 rfl (za1 rfl (za1 rfl (za1 rfl (za1 rfl (za1 rfl (za1 rfl (za1 rfl (za1 rfl (za1 rfl (za1 rfl (za1 rfl (za1 rfl zaJ)))))))))))))))) (hP.pick [0, 1, 2, 3, 4, 5] rfl rfl)
           ·
            have hD := (zak h94).symm.trans hD
            refine wp_exit ?_
            exact bky92 (x90.1, x90.2) () _ _ _ hD r (za1 rfl (za1 rfl (za1 rfl (za1 rfl (za1 rfl (za1 rfl (za1 rfl (za1 rfl (za1 rfl (za1 rfl (za1 rfl (za1 rfl (za1 rfl (za1 rfl (za1 rfl (za1 rfl zaJ)))))))))))))))) (hP.pick [0, 1, 2, 3, 4, 5] rfl rfl)
          ·
           rintro x99 γ100 fr w101 g r hP hD
           have hP : Post No [roK 98 1 i16E a1v a1, znw b1 ((znu a0)).toArray 25, memK mg19 x54.2.2.2, znw b21 ((znR (⟨a0, 0, 0⟩ : Seat))).toArray 29, znK Tryz.prog znx x50 γ51.1 γ51.2, znw b36 γ51.1.cells 39] w0 w101 := hP
           refine wp_region_lit (za0 (I x27.2.1) r (fun R => za9 r rfl) rfl fun fr r => za0 _ r (fun R => znA r rfl rfl rfl rfl) rfl fun fr r => za0 (I (W (x27.2.1 + 1))) r (fun R => za7 r rfl) rfl fun fr r => wn ?_)
           exact nxy29 (x99.1, (W (x27.2.1 + 1)), x54.2.2.2) () _ _ _ hD r (za1 rfl (za1 rfl (za1 rfl (za1 rfl (za1 rfl (za1 rfl (za1 rfl (za1 rfl (za1 rfl zaJ))))))))) (hP.pick [0, 1, 2, 3] rfl rfl)
    ·
     have hD := (zak h31).symm.trans hD
     refine wp_exit ?_
     exact bky29 (x27.1, x27.2.1, x27.2.2) () _ _ _ hD r (za1 rfl (za1 rfl (za1 rfl (za1 rfl (za1 rfl (za1 rfl (za1 rfl (za1 rfl (za1 rfl zaJ))))))))) (hP.pick [0, 1, 2, 3] rfl rfl)
   ·
    rintro x102 γ103 fr w104 g r hP hD
    have hP : Post No [roK 98 1 i16E a1v a1, znw b1 ((znu a0)).toArray 25, memK mg19 x102.2.2, znw b21 ((znR (⟨a0, 0, 0⟩ : Seat))).toArray 29] w0 w104 := hP
    refine wsr (za0 (.bool true) r (fun R => za7 r rfl) rfl fun fr r => wn (wp_ret ?_))
    have hv : true = res := Option.some.inj hD
    try dsimp only [Exit.then, Exit.inBlock]
    refine zaz (fn := Tryz.f15) r (t := 4) rfl (v := (.bool true)) rfl ?_
    subst hv
    exact ⟨rfl, hP.chg.below⟩
end Go.Proofs.YtjkinpbfmihhdaaGreat.Wk

/- Ours. -/
namespace Go.Proofs.YtjkinpbfmihhdaaGreat
open Go.RowKit
theorem znf (k : Nat) : sq 0 (k + 1) = sq 0 k ++ [(k : Int)] := by
  unfold sq
  rw [List.range'_1_concat, List.map_append]
  simp
theorem zn4 (p : Plan) : allN p = sq 0 p.nodes.toNat := rfl
theorem zmp {p : Plan} (hp : PF p) (hdm : 0 < p.domains) (hnn : p.nodes ≤ 40) {M : Mem} (hl : Len p M.ws) {a : Int} {r : List Int} (hd : rd M.ws 2 = a + 1) (hk : Link p M.ws a r) (hn : (a :: r).Nodup) (hr : ∀ q, q ∈ a :: r → 0 ≤ q ∧ q < p.nodes) :
    ∃ vs, D.zeM 4000 p M 0 0 = some vs ∧ vs.length = r.length := by
  have h4 := haz4 hp hdm
  obtain ⟨z1, z2, z3, z4⟩ := znX hp
  unfold Len at hl
  have hn1 := hp.n1
  have ht1 := hp.t1
  have hrl : ((a :: r).length : Int) ≤ p.nodes := by
    have := ziz (k := allN p) hn fun q hq => by
      have := hr q hq
      exact List.mem_map.2 ⟨q.toNat, List.mem_range'_1.2 (by omega), by omega⟩
    have h2 : (allN p).length = p.nodes.toNat := by unfold allN; simp
    omega
  unfold D.zeM
  rw [zj4 hp hdm (by omega), zgg (by omega) (by omega)]
  simp only [Option.bind_some]
  rw [show (2 : Int) + 0 = 2 from rfl, hd]
  have key : ∀ (s : List Int) (b : Int) (acc : List Int) (k : Nat), Link p M.ws b s → (∀ q, q ∈ b :: s → 0 ≤ q ∧ q < p.nodes) → (acc.length : Int) + s.length + 1 ≤ p.nodes → s.length < k →
      ∃ vs, (runLoop (fun (x9 : List Int × Int) => (bif (decide ((x9.1.length : Int) < p.nodes)) then ((D.zb0 4000 M 0 (D.zaw p (D.zay x9.2) 2)).bind (fun (x14 : Int) => (bif (x14 == 0) then (some (Lp.brk (Z := List Int) (x9.1, x14))) else ((D.zb0 4000 M 0 (D.zaw p (D.zay x14) 1)).bind (fun (x17 : Int) => ((appD x9.1 ([x17])).bind (fun (x21 : List Int) => (some (Lp.next (x21, x14)))))))))) else (some (Lp.brk (x9.1, x9.2))))) k (acc, b + 1)).bind (afterLoop fun (x25 : List Int × Int) => (some x25.1)) = some vs ∧ vs.length = acc.length + s.length := by
    intro s
    induction s with
    | nil =>
      intro b acc k hk hr hc hlt
      obtain ⟨k, rfl⟩ : ∃ q, k = q + 1 := ⟨k - 1, by omega⟩
      have hb := hr b (List.mem_cons_self ..)
      obtain ⟨q1, q2, q3⟩ := zo9 hp hb
      have hfp : fp p b 2 = sp p b + 2 + 2 := rfl
      refine ⟨acc, ?_, by simp⟩
      simp only [runLoop]
      rw [show decide ((acc.length : Int) < p.nodes) = true from by simp; simp at hc; omega]
      simp only [cond_true]
      rw [qnode (by omega) (by omega), show b + 1 - 1 = b from by omega, zoi hp hb (by omega), show D.zaa p + b * 5 + 2 + 2 = fp p b 2 from rfl, zgg (by omega) (by omega), hk.2]
      rfl
    | cons c s ih =>
      intro b acc k hk hr hc hlt
      obtain ⟨k, rfl⟩ : ∃ q, k = q + 1 := ⟨k - 1, by omega⟩
      have hb := hr b (List.mem_cons_self ..)
      have hcr := hr c (List.mem_cons_of_mem _ (List.mem_cons_self ..))
      obtain ⟨q1, q2, q3⟩ := zo9 hp hb
      obtain ⟨y1, y2, y3⟩ := zo9 hp hcr
      have hfp : fp p b 2 = sp p b + 2 + 2 := rfl
      have hfc : fp p c 1 = sp p c + 2 + 1 := rfl
      simp only [List.length_cons, Int.natCast_add, Int.natCast_one] at hc hlt
      obtain ⟨vs, h1, h2⟩ := ih c (acc ++ [rd M.ws (fp p c 1)]) k hk.2 (fun q hq => hr q (List.mem_cons_of_mem _ hq)) (by simp; omega) (by omega)
      refine ⟨vs, ?_, by rw [h2]; simp; omega⟩
      rw [← h1]
      simp only [runLoop]
      rw [show decide ((acc.length : Int) < p.nodes) = true from by simp; omega]
      simp only [cond_true]
      rw [qnode (by omega) (by omega), show b + 1 - 1 = b from by omega, zoi hp hb (by omega), show D.zaa p + b * 5 + 2 + 2 = fp p b 2 from rfl, zgg (by omega) (by omega), hk.1]
      simp only [Option.bind_some]
      rw [show (c + 1 == 0) = false from by simp; omega]
      simp only [cond_false]
      rw [qnode (by omega) (by omega), show c + 1 - 1 = c from by omega, zoi hp hcr (by omega), show D.zaa p + c * 5 + 2 + 1 = fp p c 1 from rfl, zgg (by omega) (by omega)]
      have ha : appD acc [rd M.ws (fp p c 1)] = some (acc ++ [rd M.ws (fp p c 1)]) := by unfold appD; rw [if_pos (by simp only [zjU, List.length_singleton]; omega)]
      simp only [Option.bind_some, ha, goOn]
  simp only [List.length_cons, Int.natCast_add, Int.natCast_one] at hrl
  obtain ⟨vs, h1, h2⟩ := key r a [] 4000 hk hr (by simp; omega) (by omega)
  exact ⟨vs, h1, by simpa using h2⟩
theorem ziM (p : Plan) (l : List Int) (_ : -9223372036854775808 ≤ p.nodes ∧ p.nodes ≤ 9223372036854775807) (_ : -9223372036854775808 ≤ p.threads ∧ p.threads ≤ 9223372036854775807)
    (_ : -9223372036854775808 ≤ p.retire ∧ p.retire ≤ 9223372036854775807) (_ : -9223372036854775808 ≤ p.domains ∧ p.domains ≤ 9223372036854775807) (_ : -9223372036854775808 ≤ p.buckets ∧ p.buckets ≤ 9223372036854775807)
    (_ : -9223372036854775808 ≤ p.gen ∧ p.gen ≤ 9223372036854775807) (hb : ∀ n, n ∈ l → -32768 ≤ n ∧ n ≤ 32767) : ∃ fu, Wk.D.zcb fu p l = some true := by
  refine ⟨4000, ?_⟩
  unfold Wk.D.zcb
  rw [zmf]
  simp only [Option.bind_some, Bool.not_true, cond_false]
  cases hfw : D.zb7 p
  case false => rfl
  simp only [Bool.not_true, cond_false, Option.bind_some]
  cases hl : decide ((l.length : Int) > 60)
  case true => rfl
  simp only [decide_eq_false_iff_not] at hl
  simp only [cond_false]
  obtain ⟨hp, hfw, hdm⟩ := zlH hfw
  have ht1 := hp.t1
  have hn1 := hp.n1
  have ht : (0 : Int) ≤ 0 ∧ 0 < p.threads := by omega
  obtain ⟨z1, z2, z3, z4⟩ := znX hp
  obtain ⟨M, st0, hM, hQ0, hm0⟩ := zno hp hfw hdm ht l
  rw [hM]
  simp only [Option.bind_some]
  have hC0 : CAt p 0 M.ws ⟨sq 1 (p.nodes.toNat - 1), [], st0⟩ 1 0 [] := by
    refine ⟨hQ0.pool, ⟨fun q q0 q1 => ?_, fun q _ => hm0 q, fun q hq => ?_⟩, by simp, fun q hq => ?_, by rw [hQ0.hd]; rfl, by rw [hQ0.tl]; rfl, hQ0.last⟩
    · by_cases e : q = 0
      · exact .inr (.inr (.inl (by simp [e])))
      · exact .inl (List.mem_map.2 ⟨q.toNat, List.mem_range'_1.2 (by omega), by omega⟩)
    · rw [List.mem_singleton.1 hq]
      exact hQ0.out 0 (by omega) (by omega)
    · rw [List.mem_singleton.1 hq]; omega
  refine ziG (fun o => o = some true) (fun (i : Nat) (x : Bool × Int × Mem) => x.2.1 = (i : Int) ∧ ∃ P g a r, g ≤ 1 + 100 * (i : Int) ∧ CAt p 0 x.2.2.ws P g a r) l.length 4000 ⟨rfl, _, 1, 0, [], by omega, hC0⟩ (by omega) ?_ ?_
  · rintro i ⟨b, x, M1⟩ hi ⟨rfl, P, g, a, r, hg, hC⟩
    simp only at hg hC ⊢
    rw [show decide ((i : Int) < (l.length : Int)) = true from by simp; omega]
    simp only [cond_true]
    rw [zmr hi]
    simp only [Option.bind_some]
    have hop : ∃ T : T Res, StepQ p 0 M1.ws g T ∧ (bif (decide (l[i] ≥ 0)) then (some ((4000 : Nat), (D.zbx (4000 + 1) (⟨p, 0, 0⟩ : Seat) 0 (IntKind.u64.wrap l[i])))) else (some (4000, (D.zcj (4000 + 1) (⟨p, 0, 0⟩ : Seat) 0)))) = some (4000, T) := by
      cases decide (l[i] ≥ 0)
      · exact ⟨_, hC.deqC hp hdm hfw.1 hfw.2.1 ht 4000 (by omega) (by omega), rfl⟩
      · exact ⟨_, hC.enqC hp hdm hfw.1 hfw.2.1 ht 4000 (by omega) (by omega) _, rfl⟩
    obtain ⟨T, ⟨m, res, ws', P', g', a', r', hm, hg', hr, hC'⟩, he⟩ := hop
    rw [he]
    simp only [Option.bind_some, zlv]
    obtain ⟨c, hc⟩ := runR (fu := 4000) (most := 100000) (M := M1) hr (by omega) (by omega) (by omega)
    rw [hc]
    simp only [Option.bind_some]
    have hlen := hC'.pool.free.len
    have hcnt := hC'.part.count hp hC'.pool hC'.nd hC'.rg
    obtain ⟨vs, hq1, hq2⟩ := zmp hp hdm hfw.1 (M := ⟨ws', c⟩) hC'.pool.free.len hC'.hd hC'.link hC'.nd hC'.rg
    have hfl := zn2 hp (M := ⟨ws', c⟩) hC'.pool.free (by omega) (by omega) (by omega) (fu := 4000) (by omega)
    have hrl := zmh hp (M := ⟨ws', c⟩) ht hlen hC'.pool.ret (by omega) (fu := 4000) (by omega)
    rw [hfl, hrl, hq1]
    simp only [Option.bind_some]
    have hgone : ∀ n : Nat, n ≤ p.nodes.toNat → ((sq 0 n).filter fun q => (P'.st q).mode == 3).length ≤ n := fun n _ => by
      refine Nat.le_trans (List.length_filter_le ..) ?_
      unfold sq; simp
    refine ziG (fun (o : Option (Lp (Bool × Int × Mem) Bool)) => ∃ x' : Bool × Int × Mem, o = some (Lp.next x') ∧ (x'.2.1 = ((i + 1 : Nat) : Int) ∧ ∃ P g a r, g ≤ 1 + 100 * ((i + 1 : Nat) : Int) ∧ CAt p 0 x'.2.2.ws P g a r))
      (fun (n : Nat) (x : Int × Int) => x.2 = (n : Int) ∧ x.1 = (((sq 0 n).filter fun q => (P'.st q).mode == 3).length : Int)) p.nodes.toNat 4000 ⟨rfl, rfl⟩ (by omega) ?_ ?_
    · rintro n ⟨x, y⟩ hn ⟨rfl, rfl⟩
      simp only
      rw [show decide ((n : Int) < p.nodes) = true from by simp; omega]
      simp only [cond_true]
      have hnR : 0 ≤ (n : Int) ∧ (n : Int) < p.nodes := by omega
      obtain ⟨q1, q2, q3⟩ := zo9 hp hnR
      have hst := hC'.pool.st n hnR.1 hnR.2
      rw [q3, zgg (by omega) (by simp only; omega)]
      simp only [Option.bind_some]
      rw [hst.of]
      have hg1 := hgone n (by omega)
      have hsn : (((sq 0 (n + 1)).filter fun q => (P'.st q).mode == 3).length : Int) = (((sq 0 n).filter fun q => (P'.st q).mode == 3).length : Int) + (if (P'.st n).mode = 3 then 1 else 0) := by
        rw [znf, List.filter_append, List.length_append]
        by_cases e : (P'.st n).mode = 3
        · simp [e]
        · simp [e]
      by_cases e : (P'.st n).mode = 3
      · rw [show ((P'.st n).mode == 3) = true from by simpa using e]
        simp only [cond_true, Option.bind_some]
        rw [zaN (show -1000000 ≤ (n : Int) + 1 by omega) (by omega), zaN (by omega) (by omega)]
        exact ⟨_, rfl, by simp, by rw [hsn, if_pos e]⟩
      · rw [show ((P'.st n).mode == 3) = false from by simpa using e]
        simp only [cond_false, Option.bind_some]
        rw [zaN (show -1000000 ≤ (n : Int) + 1 by omega) (by omega)]
        exact ⟨_, rfl, by simp, by rw [hsn, if_neg e]; omega⟩
    · rintro ⟨x, y⟩ ⟨rfl, rfl⟩
      simp only
      rw [show decide ((p.nodes.toNat : Int) < p.nodes) = false from by simp; omega]
      refine ⟨_, rfl, ?_⟩
      simp only
      rw [zn4] at hcnt
      simp only [List.length_cons] at hcnt
      generalize ((sq 0 p.nodes.toNat).filter fun q => (P'.st q).mode == 3).length = k at hcnt
      rw [zaN (x := (P'.fr.length : Int) + (P'.rt.length : Int)) (by omega) (by omega), zaN (x := (P'.fr.length : Int) + (P'.rt.length : Int) + (vs.length : Int)) (by omega) (by omega), zaN (x := (P'.fr.length : Int) + (P'.rt.length : Int) + (vs.length : Int) + 1) (by omega) (by omega), zaN (by omega) (by omega)]
      rw [show ((P'.fr.length : Int) + (P'.rt.length : Int) + (vs.length : Int) + 1 + (k : Int) != p.nodes) = false from by simp; omega]
      simp only [cond_false]
      refine ziG (fun (o : Option (Lp (Bool × Int × Mem) Bool)) => ∃ x' : Bool × Int × Mem, o = some (Lp.next x') ∧ (x'.2.1 = ((i + 1 : Nat) : Int) ∧ ∃ P g a r, g ≤ 1 + 100 * ((i + 1 : Nat) : Int) ∧ CAt p 0 x'.2.2.ws P g a r)) (fun (j : Nat) (x : Bool × Int) => x = (b, (j : Int))) 3 4000 rfl (by omega) ?_ ?_
      · rintro j x hj rfl
        simp only
        rw [show decide ((j : Int) < 3) = true from by simp; omega]
        simp only [cond_true]
        have hH : D.zbc p 0 (j : Int) = D.zab p + (j : Int) := by rw [zj7 hp, if_pos (by omega)]; omega
        unfold Len at hlen
        rw [hH, zgg (by omega) (by simp only; omega)]
        simp only [Option.bind_some]
        rw [hC'.pool.hz (j : Int) (by omega) (by omega)]
        simp only [bne_self_eq_false, cond_false]
        rw [zaN (show -1000000 ≤ (j : Int) + 1 by omega) (by omega)]
        exact ⟨_, rfl, by simp⟩
      · rintro x rfl
        refine ⟨_, rfl, ?_⟩
        simp only
        rw [zaN (show -1000000 ≤ (i : Int) + 1 by omega) (by omega)]
        exact ⟨_, rfl, by simp, P', g', a', r', by simp only [Int.natCast_add, Int.natCast_one]; omega, hC'⟩
  · rintro ⟨b, x, M1⟩ ⟨rfl, _⟩
    simp only
    rw [show decide ((l.length : Int) < (l.length : Int)) = false from by simp]
    exact ⟨_, rfl, trivial⟩
end Go.Proofs.YtjkinpbfmihhdaaGreat

/- Ours. -/
namespace Go.Proofs.YtjkinpbfmihhdaaGreat
open Go.ChangeShapes Go.WideShapes Go.RowKit Go.Deep Go.ChangeAt
section
variable {H : Type} {enc : TypeId × Value → H} {P : Program} {w : World} {base : Nat} {spare : Nat → Bool} {held : Bool}
theorem zkN {α : Type} {l : List α} {j : Nat} (h : j < l.length) : (l.drop j).take 1 = [l[j]] := by
  rw [List.drop_eq_getElem_cons h]
  rfl
theorem zka {r : Reach} {b0 : Nat} {t : TypeId} {fs : Array Go.Field} {v : Value} {d : DataW H} {p : List MemPlace} (ks : List IntKind) (hs : P.underlying t = some (.struct fs)) (hone : oneCellFields P fs = true)
    (hC : P.cellsOf t = fs.size) (hk : fs.toList.map (fun f => P.underlying f.type) = ks.map fun k => some (.int k))
    (hv : Value.okWide P w r b0 t v) (h : DataW.Trod enc P w base spare held t v d p) :
    ∃ ns : List Int, v = .agg (List.zipWith Value.int ks ns).toArray ∧ ns.length = ks.length ∧ ∀ q, q ∈ List.zip ks ns → (Lit.int q.1 q.2).wf = true := by
  obtain ⟨cs, rfl, hsz⟩ := okWide_struct hs hv
  obtain ⟨fuel, hf⟩ := h
  obtain ⟨xs, n, _, hx, hl, hlen, hfs⟩ := DataW.trod_struct hs hf
  have hkl : ks.length = fs.size := by
    have := congrArg List.length hk
    simpa using this.symm
  have hcl : cs.size = fs.size := hsz.trans hC
  have hat : ∀ j (hj : j < cs.size), ∃ (k : IntKind) (m : Int), ks[j]? = some k ∧ cs[j] = .int k m ∧ (Lit.int k m).wf = true := by
    intro j hj
    have hjf : fs[j]? = some fs[j] := by simp
    obtain ⟨ho, hc⟩ := hone_of hone j _ hjf
    have h1 := hfs j _ hjf
    rw [ho, hc] at h1
    have hcs : ((Value.agg cs).cells.toList.drop j).take 1 = [cs[j]] := by
      have := zkN (l := cs.toList) (j := j) (by simpa using hj)
      simpa [Value.cells] using this
    rw [hcs] at h1
    have hxs : xs[j]? = some (xs[j]'(by omega)) := by simp
    rw [hxs] at h1
    have hu : (fs.toList.map (fun f => P.underlying f.type))[j]? = some (P.underlying fs[j].type) := by simp [hjf]
    rw [hk] at hu
    obtain ⟨k, hk1, hk2⟩ : ∃ k, ks[j]? = some k ∧ some (.int k) = P.underlying fs[j].type := by
      simpa using hu
    obtain ⟨m, hm, _, hw⟩ := DataW.trod_int hk2.symm h1
    exact ⟨k, m, hk1, by simpa using hm, hw⟩
  refine ⟨cs.toList.map intOf, ?_, by simp; omega, ?_⟩
  · congr 1
    apply Array.ext_getElem?
    intro j
    rcases Nat.lt_or_ge j cs.size with hj | hj
    · obtain ⟨k, m, h1, h2, _⟩ := hat j hj
      simp [List.getElem?_zipWith, h1, hj, h2, intOf]
    · simp [List.getElem?_zipWith, hj]
  · intro q hq
    obtain ⟨j, hj, he⟩ := List.mem_iff_getElem.1 hq
    simp only [List.length_zip, List.length_map, Array.length_toList] at hj
    obtain ⟨k, m, h1, h2, h3⟩ := hat j (by omega)
    have hk3 : ks[j]'(by omega) = k := by
      have := List.getElem?_eq_getElem (l := ks) (i := j) (by omega)
      rw [h1] at this
      exact (Option.some.inj this).symm
    simp only [List.getElem_zip, List.getElem_map] at he
    rw [← he]
    simp only [hk3, Array.getElem_toList, h2, intOf]
    exact h3
end
theorem zrq {α : Type} {l : List α} (h : l.length = 6) : ∃ x0 x1 x2 x3 x4 x5, l = [x0, x1, x2, x3, x4, x5] := by
  match l, h with
  | [x0, x1, x2, x3, x4, x5], _ => exact ⟨x0, x1, x2, x3, x4, x5, rfl⟩
theorem laidOut : laidOutB Tryz.prog = true := by kernel_rfl
end Go.Proofs.YtjkinpbfmihhdaaGreat

/- Ours. -/
namespace Go.Proofs.YtjkinpbfmihhdaaGreat
open Go.ChangeShapes Go.WideShapes Go.ChangeAt Go.RowKit
def ioN : List Nat := [104, 97, 114, 110, 101, 115, 115, 32, 54, 98, 100, 53, 55, 52, 57, 55, 57, 102, 48, 50, 53, 98, 54, 54, 98, 99, 99, 51, 55, 98, 48, 57, 99, 51, 53, 101, 56, 53, 49, 100, 100, 102, 54, 101, 99, 57, 48, 98, 101, 48, 53, 49, 49, 98, 100, 55, 100, 48, 101, 52, 101, 97, 57, 57, 56, 49, 57, 57, 102, 57, 102, 50, 32, 99, 117, 116, 32, 97, 116, 32, 99, 117, 98, 105, 99, 108, 101, 47, 99, 117, 98, 105, 99, 108, 101, 108, 97, 119, 49, 51, 46, 67, 104, 101, 99, 107, 84, 119, 111, 32, 99, 117, 98, 105, 99, 108, 101, 47, 99, 117, 98, 105, 99, 108, 101, 108, 97, 119, 49, 51, 46, 67, 104, 101, 99, 107, 70, 114, 101, 115, 104, 32, 99, 117, 98, 105, 99, 108, 101, 47, 99, 117, 98, 105, 99, 108, 101, 108, 97, 119, 49, 51, 46, 67, 104, 101, 99, 107, 71, 117, 97, 114, 100, 101, 100, 32, 99, 117, 98, 105, 99, 108, 101, 47, 99, 117, 98, 105, 99, 108, 101, 108, 97, 119, 49, 51, 46, 67, 104, 101, 99, 107, 82, 97, 99, 101, 32, 99, 117, 98, 105, 99, 108, 101, 47, 99, 117, 98, 105, 99, 108, 101, 108, 97, 119, 49, 51, 46, 67, 104, 101, 99, 107, 70, 111, 114, 101, 105, 103, 110, 32, 99, 117, 98, 105, 99, 108, 101, 47, 99, 117, 98, 105, 99, 108, 101, 108, 97, 119, 49, 51, 46, 67, 104, 101, 99, 107, 65, 108, 111, 110, 101, 32, 99, 117, 98, 105, 99, 108, 101, 47, 99, 117, 98, 105, 99, 108, 101, 108, 97, 119, 49, 51, 46, 67, 104, 101, 99, 107, 67, 108, 101, 97, 114, 115, 32, 99, 117, 98, 105, 99, 108, 101, 47, 99, 117, 98, 105, 99, 108, 101, 108, 97, 119, 49, 52, 46, 81, 117, 101, 117, 101, 65, 108, 111, 110, 101, 32, 99, 117, 98, 105, 99, 108, 101, 47, 99, 117, 98, 105, 99, 108, 101, 108, 97, 119, 49, 52, 46, 81, 117, 101, 117, 101, 83, 116, 97, 108, 108, 115, 32, 99, 117, 98, 105, 99, 108, 101, 47, 99, 117, 98, 105, 99, 108, 101, 108, 97, 119, 49, 52, 46, 81, 117, 101, 117, 101, 79, 114, 100, 101, 114, 32, 99, 117, 98, 105, 99, 108, 101, 47, 99, 117, 98, 105, 99, 108, 101, 108, 97, 119, 49, 52, 46, 81, 117, 101, 117, 101, 82, 97, 99, 101, 32, 99, 117, 98, 105, 99, 108, 101, 47, 99, 117, 98, 105, 99, 108, 101, 108, 97, 119, 49, 52, 46, 81, 117, 101, 117, 101, 77, 97, 110, 121, 32, 99, 117, 98, 105, 99, 108, 101, 47, 99, 117, 98, 105, 99, 108, 101, 108, 97, 119, 49, 52, 46, 81, 117, 101, 117, 101, 78, 111, 100, 101, 115, 32, 99, 117, 98, 105, 99, 108, 101, 47, 99, 117, 98, 105, 99, 108, 101, 108, 97, 119, 49, 53, 46, 76, 105, 115, 116, 75, 101, 121, 115, 32, 99, 117, 98, 105, 99, 108, 101, 47, 99, 117, 98, 105, 99, 108, 101, 108, 97, 119, 49, 53, 46, 76, 105, 115, 116, 82, 97, 99, 101, 32, 99, 117, 98, 105, 99, 108, 101, 47, 99, 117, 98, 105, 99, 108, 101, 108, 97, 119, 49, 53, 46, 76, 105, 115, 116, 65, 108, 111, 110, 101, 32, 99, 117, 98, 105, 99, 108, 101, 47, 99, 117, 98, 105, 99, 108, 101, 108, 97, 119, 49, 53, 46, 76, 105, 115, 116, 83, 116, 97, 108, 108, 115, 32, 99, 117, 98, 105, 99, 108, 101, 47, 99, 117, 98, 105, 99, 108, 101, 108, 97, 119, 49, 53, 46, 76, 105, 115, 116, 77, 97, 110, 121, 32, 99, 117, 98, 105, 99, 108, 101, 47, 99, 117, 98, 105, 99, 108, 101, 108, 97, 119, 49, 53, 46, 76, 105, 115, 116, 78, 111, 100, 101, 115, 32, 99, 117, 98, 105, 99, 108, 101, 47, 99, 117, 98, 105, 99, 108, 101, 108, 97, 119, 49, 50, 46, 65, 108, 108, 111, 99, 65, 108, 111, 110, 101, 32, 99, 117, 98, 105, 99, 108, 101, 47, 99, 117, 98, 105, 99, 108, 101, 108, 97, 119, 49, 55, 46, 68, 111, 109, 97, 105, 110, 70, 117, 108, 108, 32, 99, 117, 98, 105, 99, 108, 101, 47, 99, 117, 98, 105, 99, 108, 101, 108, 97, 119, 49, 55, 46, 68, 111, 109, 97, 105, 110, 82, 97, 99, 101, 32, 99, 117, 98, 105, 99, 108, 101, 47, 99, 117, 98, 105, 99, 108, 101, 108, 97, 119, 49, 55, 46, 68, 111, 109, 97, 105, 110, 79, 100, 100, 32, 99, 117, 98, 105, 99, 108, 101, 47, 99, 117, 98, 105, 99, 108, 101, 108, 97, 119, 49, 54, 46, 68, 105, 99, 116, 67, 101, 108, 108, 115]
theorem io1 : Tryz.prog.initOrder = String.ofList (ioN.map Char.ofNat) := by kernel_rfl
theorem io2 : Tryz.prog.initOrder.toList = ioN.map Char.ofNat := by rw [io1, String.toList_ofList]
theorem io3 : behindMainWord (wordsSigns Tryz.prog.initOrder.toList) = (([99, 117, 116] : List Nat).map Char.ofNat) :: ([[97, 116], [99, 117, 98, 105, 99, 108, 101, 47, 99, 117, 98, 105, 99, 108, 101, 108, 97, 119, 49, 51, 46, 67, 104, 101, 99, 107, 84, 119, 111], [99, 117, 98, 105, 99, 108, 101, 47, 99, 117, 98, 105, 99, 108, 101, 108, 97, 119, 49, 51, 46, 67, 104, 101, 99, 107, 70, 114, 101, 115, 104], [99, 117, 98, 105, 99, 108, 101, 47, 99, 117, 98, 105, 99, 108, 101, 108, 97, 119, 49, 51, 46, 67, 104, 101, 99, 107, 71, 117, 97, 114, 100, 101, 100], [99, 117, 98, 105, 99, 108, 101, 47, 99, 117, 98, 105, 99, 108, 101, 108, 97, 119, 49, 51, 46, 67, 104, 101, 99, 107, 82, 97, 99, 101], [99, 117, 98, 105, 99, 108, 101, 47, 99, 117, 98, 105, 99, 108, 101, 108, 97, 119, 49, 51, 46, 67, 104, 101, 99, 107, 70, 111, 114, 101, 105, 103, 110], [99, 117, 98, 105, 99, 108, 101, 47, 99, 117, 98, 105, 99, 108, 101, 108, 97, 119, 49, 51, 46, 67, 104, 101, 99, 107, 65, 108, 111, 110, 101], [99, 117, 98, 105, 99, 108, 101, 47, 99, 117, 98, 105, 99, 108, 101, 108, 97, 119, 49, 51, 46, 67, 104, 101, 99, 107, 67, 108, 101, 97, 114, 115], [99, 117, 98, 105, 99, 108, 101, 47, 99, 117, 98, 105, 99, 108, 101, 108, 97, 119, 49, 52, 46, 81, 117, 101, 117, 101, 65, 108, 111, 110, 101], [99, 117, 98, 105, 99, 108, 101, 47, 99, 117, 98, 105, 99, 108, 101, 108, 97, 119, 49, 52, 46, 81, 117, 101, 117, 101, 83, 116, 97, 108, 108, 115], [99, 117, 98, 105, 99, 108, 101, 47, 99, 117, 98, 105, 99, 108, 101, 108, 97, 119, 49, 52, 46, 81, 117, 101, 117, 101, 79, 114, 100, 101, 114], [99, 117, 98, 105, 99, 108, 101, 47, 99, 117, 98, 105, 99, 108, 101, 108, 97, 119, 49, 52, 46, 81, 117, 101, 117, 101, 82, 97, 99, 101], [99, 117, 98, 105, 99, 108, 101, 47, 99, 117, 98, 105, 99, 108, 101, 108, 97, 119, 49, 52, 46, 81, 117, 101, 117, 101, 77, 97, 110, 121], [99, 117, 98, 105, 99, 108, 101, 47, 99, 117, 98, 105, 99, 108, 101, 108, 97, 119, 49, 52, 46, 81, 117, 101, 117, 101, 78, 111, 100, 101, 115], [99, 117, 98, 105, 99, 108, 101, 47, 99, 117, 98, 105, 99, 108, 101, 108, 97, 119, 49, 53, 46, 76, 105, 115, 116, 75, 101, 121, 115], [99, 117, 98, 105, 99, 108, 101, 47, 99, 117, 98, 105, 99, 108, 101, 108, 97, 119, 49, 53, 46, 76, 105, 115, 116, 82, 97, 99, 101], [99, 117, 98, 105, 99, 108, 101, 47, 99, 117, 98, 105, 99, 108, 101, 108, 97, 119, 49, 53, 46, 76, 105, 115, 116, 65, 108, 111, 110, 101], [99, 117, 98, 105, 99, 108, 101, 47, 99, 117, 98, 105, 99, 108, 101, 108, 97, 119, 49, 53, 46, 76, 105, 115, 116, 83, 116, 97, 108, 108, 115], [99, 117, 98, 105, 99, 108, 101, 47, 99, 117, 98, 105, 99, 108, 101, 108, 97, 119, 49, 53, 46, 76, 105, 115, 116, 77, 97, 110, 121], [99, 117, 98, 105, 99, 108, 101, 47, 99, 117, 98, 105, 99, 108, 101, 108, 97, 119, 49, 53, 46, 76, 105, 115, 116, 78, 111, 100, 101, 115], [99, 117, 98, 105, 99, 108, 101, 47, 99, 117, 98, 105, 99, 108, 101, 108, 97, 119, 49, 50, 46, 65, 108, 108, 111, 99, 65, 108, 111, 110, 101], [99, 117, 98, 105, 99, 108, 101, 47, 99, 117, 98, 105, 99, 108, 101, 108, 97, 119, 49, 55, 46, 68, 111, 109, 97, 105, 110, 70, 117, 108, 108], [99, 117, 98, 105, 99, 108, 101, 47, 99, 117, 98, 105, 99, 108, 101, 108, 97, 119, 49, 55, 46, 68, 111, 109, 97, 105, 110, 82, 97, 99, 101], [99, 117, 98, 105, 99, 108, 101, 47, 99, 117, 98, 105, 99, 108, 101, 108, 97, 119, 49, 55, 46, 68, 111, 109, 97, 105, 110, 79, 100, 100], [99, 117, 98, 105, 99, 108, 101, 47, 99, 117, 98, 105, 99, 108, 101, 108, 97, 119, 49, 54, 46, 68, 105, 99, 116, 67, 101, 108, 108, 115]] : List (List Nat)).map (List.map Char.ofNat) := by rw [io2]; kernel_rfl
theorem stripG (r : List (List Char)) : stripLifts liftWords (([99, 117, 116].map Char.ofNat) :: r) = ([], ([99, 117, 116].map Char.ofNat) :: r) := by rfl
theorem makeG {P : Program} {r : List (List Char)} (h : behindMainWord (wordsSigns P.initOrder.toList) = ([99, 117, 116].map Char.ofNat) :: r) : P.make = some .cut := by
  unfold Program.make
  rw [h]
  rfl
theorem liftsG {P : Program} {r : List (List Char)} (h : behindMainWord (wordsSigns P.initOrder.toList) = ([99, 117, 116].map Char.ofNat) :: r) : P.liftsFinal = false := by
  unfold Program.liftsFinal Program.headLifts
  rw [h, stripG]
  rfl
theorem enterG {P : Program} {r : List (List Char)} (h : behindMainWord (wordsSigns P.initOrder.toList) = ([99, 117, 116].map Char.ofNat) :: r) (h1 : P.laysLater = false) (h2 : P.bearsReflect = false) (h3 : P.doorFits [] = true) : P.mayEnter = true := by
  unfold Program.mayEnter
  rw [h]
  simp only [stripG, h1, h2, h3]
  rfl
theorem e1 : Tryz.prog.laysLater = false := by kernel_rfl
theorem e2 : Tryz.prog.bearsReflect = false := by kernel_rfl
theorem e3 : Tryz.prog.doorFits [] = true := by kernel_rfl
theorem zmN : Tryz.prog.make = some .cut := makeG io3
theorem zmi : Tryz.prog.liftsFinal = false := liftsG io3
theorem zmn : Tryz.prog.mayEnter = true := enterG io3 e1 e2 e3
theorem zmK : mapsRowed Tryz.prog = true := by kernel_rfl
theorem zmx : Tryz.prog.stopsHeard = true := by kernel_rfl
end Go.Proofs.YtjkinpbfmihhdaaGreat

/- Ours. -/
namespace Go.Proofs.YtjkinpbfmihhdaaGreat
open Go.ChangeShapes Go.WideShapes Go.RowKit Go.Deep Go.ChangeAt
section
variable {H : Type} {enc : TypeId × Value → H} {P : Program} {w : World} {base : Nat} {spare : Nat → Bool} {held : Bool}
def flatF (P : Program) (k : TypeId → Option (List IntKind)) : Nat → List Go.Field → Option (List IntKind)
  | _, [] => some []
  | off, f :: fs => if f.offset = off then (k f.type).bind fun ks => if ks.length = P.cellsOf f.type then (flatF P k (off + P.cellsOf f.type) fs).map (ks ++ ·) else none else none
def flatK (P : Program) : Nat → TypeId → Option (List IntKind)
  | 0, _ => none
  | n + 1, t => match P.underlying t with
    | some (.int k) => some [k]
    | some (.struct fs) => (flatF P (flatK P n) 0 fs.toList).bind fun ks => if ks.length = P.cellsOf t then some ks else none
    | _ => none
def Ints (ks : List IntKind) (cs : List Value) : Prop := ∃ ns : List Int, cs = List.zipWith Value.int ks ns ∧ ns.length = ks.length ∧ ∀ q, q ∈ List.zip ks ns → (Lit.int q.1 q.2).wf = true
theorem Ints.append {ks ks' : List IntKind} {cs cs' : List Value} (h : Ints ks cs) (h' : Ints ks' cs') : Ints (ks ++ ks') (cs ++ cs') := by
  obtain ⟨ns, rfl, h2, h3⟩ := h
  obtain ⟨ns', rfl, h2', h3'⟩ := h'
  refine ⟨ns ++ ns', (List.zipWith_append h2.symm).symm, by simp [h2, h2'], fun q hq => ?_⟩
  rw [List.zip_append h2.symm] at hq
  rcases List.mem_append.1 hq with hq | hq
  · exact h3 q hq
  · exact h3' q hq
theorem zji {k : TypeId → Option (List IntKind)} {m : Nat} {cs : List Value} (hk : ∀ t ks cs x, k t = some ks → DataW.trod enc P w base spare held m t cs = some x → Ints ks cs) : ∀ (fs : List Go.Field) (off : Nat) (ks : List IntKind), flatF P k off fs = some ks →
    (∀ f, f ∈ fs → ∃ y, DataW.trod enc P w base spare held m f.type ((cs.drop f.offset).take (P.cellsOf f.type)) = some y) → Ints ks ((cs.drop off).take ks.length)
  | [], off, ks, h, _ => by
    obtain rfl := Option.some.inj h
    exact ⟨[], by simp, rfl, fun q hq => by simp at hq⟩
  | f :: fs, off, ks, h, hf => by
    unfold flatF at h
    split at h
    · rename_i ho
      obtain ⟨k1, h1, h⟩ := Option.bind_eq_some_iff.1 h
      split at h
      · rename_i hl
        obtain ⟨k2, h2, rfl⟩ := Option.map_eq_some_iff.1 h
        obtain ⟨y, hy⟩ := hf f (List.mem_cons_self ..)
        have i1 := hk _ _ _ _ h1 hy
        have i2 := zji hk fs _ k2 h2 fun g hg => hf g (List.mem_cons_of_mem _ hg)
        rw [ho, ← hl] at i1
        rw [List.length_append, List.take_add, List.drop_drop, hl]
        rw [hl] at i1
        exact i1.append i2
      · cases h
    · cases h
theorem zkv : ∀ (n : Nat) (t : TypeId) (ks : List IntKind) (m : Nat) (cs : List Value) (x : DataW H × List MemPlace), flatK P n t = some ks → DataW.trod enc P w base spare held m t cs = some x → Ints ks cs
  | 0, _, _, _, _, _, h, _ => by cases h
  | n + 1, t, ks, m, cs, x, h, hd => by
    unfold flatK at h
    split at h
    · rename_i k hu
      obtain rfl := Option.some.inj h
      obtain ⟨z, h1, _, h2⟩ := DataW.trod_int hu hd
      subst h1
      exact ⟨[z], rfl, rfl, fun q hq => by
        rcases List.mem_singleton.1 hq with rfl
        exact h2⟩
    · rename_i fs hu
      obtain ⟨ks', h1, h2⟩ := Option.bind_eq_some_iff.1 h
      split at h2
      · rename_i hl
        obtain rfl := Option.some.inj h2
        obtain ⟨xs, m', _, hx, hcl, hlen, hfs⟩ := DataW.trod_struct hu hd
        have := zji (m := m') (cs := cs) (fun t ks cs x => zkv n t ks m' cs x) fs.toList 0 ks' h1 fun f hf => by
          obtain ⟨j, hj, he⟩ := List.mem_iff_getElem.1 hf
          have hj' : fs[j]? = some f := by rw [← he]; simp
          have h3 := hfs j f hj'
          have hjs : j < fs.size := by simpa using hj
          exact ⟨_, h3.trans (List.getElem?_eq_getElem (show j < xs.length by omega))⟩
        rw [List.drop_zero, List.take_of_length_le (by omega)] at this
        exact this
      · cases h2
    · cases h
theorem zlG {α : Type} {T : TypeId} {r : Reach} {b0 : Nat} {t e : TypeId} {v : Value} {d : DataW H} {p : List MemPlace} {sz : Nat} (f : α → List Value) (Pr : α → Prop) (z : α) (ht : P.underlying t = some (.slice e))
    (hel : ∀ m cs x, DataW.trod enc P w base spare held m e cs = some x → ∃ y, cs = f y ∧ Pr y) (hc : P.cellsOf e = sz) (hpos : 0 < sz) (hfl : ∀ x, (f x).length = sz)
    (hv : Value.okWide P w r b0 t v) (h : DataW.Trod enc P w base spare held t v d p) : ∃ xs : List α, RoAt T sz f v xs w ∧ ∀ x, x ∈ xs → Pr x := by
  obtain ⟨a, len, cap, rfl⟩ := okWide_slice ht hv
  obtain ⟨fuel, hd⟩ := h
  rcases open_slice ht hd with ⟨h1, _⟩ | ⟨ad, n', c, m, q, D, Pl, h1, _, hnc, _, hm, _, hcell⟩
  · simp only [Value.cells, List.cons.injEq, and_true] at h1
    injection h1 with h1 h2 h3
    subst h1; subst h2; subst h3
    exact ⟨[], .inl ⟨_, _, rfl, rfl⟩, fun _ h => by cases h⟩
  · simp only [Value.cells, List.cons.injEq, and_true] at h1
    injection h1 with h1 h2 h3
    subst h1; subst h2; subst h3
    have hlen : len ≤ m := by rw [hm]; split <;> omega
    have hI : ∀ i, i < len → ∃ y : α, w.cells? base (ad.add (i * sz)) sz = some (f y) ∧ Pr y := fun i hi => by
      obtain ⟨cs', h1, h2⟩ := hcell i (by omega)
      obtain ⟨y, h3, h4⟩ := hel q cs' _ h2
      rw [hc, h3] at h1
      exact ⟨y, h1, h4⟩
    obtain ⟨g, hg⟩ := Classical.axiomOfChoice (r := fun (i : Nat) (y : α) => i < len → w.cells? base (ad.add (i * sz)) sz = some (f y) ∧ Pr y)
      (fun i => by
        by_cases hi : i < len
        · obtain ⟨y, h⟩ := hI i hi; exact ⟨y, fun _ => h⟩
        · exact ⟨z, fun h => absurd h hi⟩)
    refine ⟨(List.range len).map fun i => g i, ?_, fun x hx => ?_⟩
    · cases len with
      | zero => exact .inl ⟨_, _, rfl, rfl⟩
      | succ m0 =>
        have hz : ∀ i, i < m0 + 1 → ∀ j u, (f ((g i)))[j]? = some u → w.cell? ((ad.add (i * sz)).add j) = some u := fun i hi j u hu => by
          obtain ⟨h1, _⟩ := hg i hi
          obtain ⟨_, h4, h5⟩ := World.cells?_some h1
          have hj : j < (f (g i)).length := (List.getElem?_eq_some_iff.1 hu).1
          rw [h5 j (by omega), hu]
        have h0 := hz 0 (by omega) 0 ((f ((g 0)))[0]'(by rw [hfl]; exact hpos)) (by simp)
        have hadd : (ad.add (0 * sz)).add 0 = ad := by rw [Nat.zero_mul]; rfl
        rw [hadd] at h0
        have hsp : ad.spot = none := by
          unfold World.cell? at h0
          split at h0
          · split at h0
            · cases h0
            · rename_i h; simpa using h
          · cases h0
        obtain ⟨gB, o, sp⟩ := ad
        simp only at hsp
        subst hsp
        have hx : ∃ cur E fz, w.heap[gB]? = some (.cells cur E fz) := by
          unfold World.cell? at h0
          split at h0
          · rename_i c' E fz hh; exact ⟨c', E, fz, hh⟩
          · cases h0
        obtain ⟨cur, E, fz, hh⟩ := hx
        refine .inr ⟨gB, o, cap, cur, E, fz, by simp, ?_, hh, ?_, by simpa using hnc⟩
        · intro he
          have := congrArg List.length he
          simp at this
        · have hll : ((List.range (m0 + 1)).map fun i => g i).length = m0 + 1 := by simp
          apply List.ext_getElem?
          intro q
          rw [hll]
          by_cases hq : q < (m0 + 1) * sz
          · have hi : q / sz < m0 + 1 := (Nat.div_lt_iff_lt_mul hpos).2 hq
            have hj : q % sz < sz := Nat.mod_lt _ hpos
            have hqq : q / sz * sz + q % sz = q := by rw [Nat.mul_comm]; exact Nat.div_add_mod q sz
            have h1 := hz (q / sz) hi (q % sz) ((f ((g (q / sz))))[q % sz]'(by rw [hfl]; exact hj)) (by simp)
            rw [Addr.add_lit, Addr.add_lit] at h1
            simp only [World.cell?, hh] at h1
            have h2 := zi4 hfl ((List.range (m0 + 1)).map fun i => g i) (q / sz) (by rw [hll]; exact hi) (q % sz) ((f ((g (q / sz))))[q % sz]'(by rw [hfl]; exact hj)) (by simp)
            rw [hqq] at h2
            rw [h2, List.getElem?_take, if_pos hq, List.getElem?_drop]
            rw [Nat.add_assoc, hqq] at h1
            simpa using h1
          · rw [List.getElem?_take, if_neg hq, List.getElem?_eq_none]
            rw [zdB hfl, hll]
            omega
    · obtain ⟨i, hi, rfl⟩ := List.mem_map.1 hx
      exact (hg i (List.mem_range.1 hi)).2
theorem zlw {α : Type} {T : TypeId} {r : Reach} {b0 : Nat} {t e : TypeId} {v : Value} {d : DataW H} {p : List MemPlace} (n : Nat) (ks : List IntKind) (f : α → List Value) (dec : List Int → α) (ht : P.underlying t = some (.slice e)) (hk : flatK P n e = some ks)
    (hc : P.cellsOf e = ks.length) (hdec : ∀ ns : List Int, ns.length = ks.length → f (dec ns) = List.zipWith Value.int ks ns) (hpos : 0 < ks.length) (hfl : ∀ x, (f x).length = ks.length)
    (hv : Value.okWide P w r b0 t v) (h : DataW.Trod enc P w base spare held t v d p) :
    ∃ xs : List α, RoAt T ks.length f v xs w ∧ ∀ x, x ∈ xs → ∃ ns : List Int, x = dec ns ∧ ns.length = ks.length ∧ ∀ q, q ∈ List.zip ks ns → (Lit.int q.1 q.2).wf = true :=
  zlG f (fun x => ∃ ns : List Int, x = dec ns ∧ ns.length = ks.length ∧ ∀ q, q ∈ List.zip ks ns → (Lit.int q.1 q.2).wf = true) (dec []) ht (fun m cs x hx => by
    obtain ⟨ns, h1, h2, h3⟩ := zkv n e ks m cs x hk hx
    exact ⟨dec ns, by rw [hdec ns h2]; exact h1, ns, rfl, h2, h3⟩) hc hpos hfl hv h
theorem zlB {T : TypeId} {r : Reach} {b0 : Nat} {t e : TypeId} {k : IntKind} {v : Value} {d : DataW H} {p : List MemPlace} (f : Int → List Value) (hf : ∀ x, f x = [.int k x]) (ht : P.underlying t = some (.slice e)) (he : P.underlying e = some (.int k)) (hc : P.cellsOf e = 1)
    (hv : Value.okWide P w r b0 t v) (h : DataW.Trod enc P w base spare held t v d p) : ∃ xs : List Int, RoAt T 1 f v xs w ∧ ∀ n, n ∈ xs → (Lit.int k n).wf = true := by
  obtain ⟨xs, h1, h2⟩ := zlw (T := T) 1 [k] f (fun ns => ns.headD 0) ht (by unfold flatK; rw [he]) hc (fun ns hn => by
    match ns, hn with
    | [x], _ => exact hf x) (by simp) (fun x => by rw [hf]; rfl) hv h
  refine ⟨xs, h1, fun n hn => ?_⟩
  obtain ⟨ns, rfl, h3, h4⟩ := h2 n hn
  match ns, h3 with
  | [x], _ => exact h4 (k, x) (by simp)
end
end Go.Proofs.YtjkinpbfmihhdaaGreat

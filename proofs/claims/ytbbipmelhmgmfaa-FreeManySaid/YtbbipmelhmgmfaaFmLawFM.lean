/- Written by a program of ours (wip/gen.py): a law -/
import Derived.Test.YtbbipmelhmgmfaaFmM7
set_option linter.all false
set_option linter.unusedVariables false
set_option maxRecDepth 20000
set_option maxHeartbeats 2000000
namespace Go.Proofs.Ytbbipmelhmgmfaa.Wk
open Go.RowKit
theorem cl11 : callable Try.prog 11 = true := by kernel_rfl

theorem cl19 : callable Try.prog 19 = true := by kernel_rfl

theorem cl20 : callable Try.prog 20 = true := by kernel_rfl

theorem cl4 : callable Try.prog 4 = true := by kernel_rfl

theorem cl5 : callable Try.prog 5 = true := by kernel_rfl

theorem cl8 : callable Try.prog 8 = true := by kernel_rfl

theorem cl9 : callable Try.prog 9 = true := by kernel_rfl

theorem fo41_0 : fieldOff Try.prog 41 0 0 = true := by kernel_rfl

theorem fo41_1 : fieldOff Try.prog 41 1 1 = true := by kernel_rfl

theorem fo41_2 : fieldOff Try.prog 41 2 2 = true := by kernel_rfl

theorem fo41_3 : fieldOff Try.prog 41 3 3 = true := by kernel_rfl

theorem fo41_4 : fieldOff Try.prog 41 4 4 = true := by kernel_rfl

theorem fo41_5 : fieldOff Try.prog 41 5 11 = true := by kernel_rfl

theorem is24 : isSlice Try.prog 24 = true := by kernel_rfl

theorem is25 : isSlice Try.prog 25 = true := by kernel_rfl

theorem is30 : isSlice Try.prog 30 = true := by kernel_rfl

theorem is31 : isSlice Try.prog 31 = true := by kernel_rfl

theorem rt30 : rowTy Try.prog 30 32 1 = true := by kernel_rfl

theorem rt31 : rowTy Try.prog 31 4 1 = true := by kernel_rfl

theorem sl24 : sliceTy Try.prog 24 1 = true := by kernel_rfl

theorem sl25 : sliceTy Try.prog 25 1 = true := by kernel_rfl

theorem sl30 : sliceTy Try.prog 30 1 = true := by kernel_rfl

theorem sl31 : sliceTy Try.prog 31 1 = true := by kernel_rfl

theorem sz1_4 : sized Try.prog 4 1 = true := by kernel_rfl

theorem ti5 : intTy Try.prog 5 .u8 = true := by kernel_rfl

theorem to31 : tyO Try.prog 31 = true := by kernel_rfl

theorem to32 : tyO Try.prog 32 = true := by kernel_rfl

theorem to39 : tyO Try.prog 39 = true := by kernel_rfl

theorem to5 : tyO Try.prog 5 = true := by kernel_rfl

theorem ts39 : sized Try.prog 39 1 = true := by kernel_rfl

theorem ts4 : sized Try.prog 4 1 = true := by kernel_rfl

theorem tz4 : zeroOf Try.prog 4 = some (.bool false) := by kernel_rfl

def D.cubiclelaw09_Thread_pick (fu : Nat) (a0 : TH9) (a1 : Plan) (a2 : Mem) : Option (Bool × TH9 × Mem) := (bif (!a0.2.2.1) then (bif (decide (a0.2.1 ≥ (a0.1.length : Int))) then (some (true, (a0.1, a0.2.1, a0.2.2.1, a0.2.2.2.1, a0.2.2.2.2.1, a0.2.2.2.2.2), a2)) else ((getI a0.1 a0.2.1).bind (fun (x8 : Bool) => (bif (!x8) then (bif ((a0.2.2.2.2.2.length : Int) == 0) then (some (true, (a0.1, (IntKind.i64.wrap (a0.2.1 + 1)), a0.2.2.1, x8, a0.2.2.2.2.1, a0.2.2.2.2.2), a2)) else ((getI a0.2.2.2.2.2 (IntKind.i64.wrap ((a0.2.2.2.2.2.length : Int) - 1))).bind (fun (x35 : Int) => ((D.mem_Memory_Cap fu a2 0).bind (fun (x52 : Cap) => ((D.prog_Prog_int_Step fu (fu, (D.free_Push (fu + 1) a1 x35)) a2 x52).bind (fun (x53 : (Nat × T Int) × Bool × Mem) => (bif (!x53.2.1) then (some (false, (a0.1, (IntKind.i64.wrap (a0.2.1 + 1)), true, x8, (fu, (D.free_Push (fu + 1) a1 x35)), a0.2.2.2.2.2), x53.2.2)) else ((D.prog_Prog_int_Over fu x53.1).bind (fun (x71 : Int × Bool) => (bif (!x71.2) then (some (true, (a0.1, (IntKind.i64.wrap (a0.2.1 + 1)), true, x8, x53.1, a0.2.2.2.2.2), x53.2.2)) else ((getI a0.2.2.2.2.2 (IntKind.i64.wrap ((a0.2.2.2.2.2.length : Int) - 1))).bind (fun (x76 : Int) => ((sliceD a0.2.2.2.2.2 0 (IntKind.i64.wrap ((a0.2.2.2.2.2.length : Int) - 1))).bind (fun (x78 : List Int) => (some ((x71.1 == x76), (a0.1, (IntKind.i64.wrap (a0.2.1 + 1)), false, x8, x53.1, x78), x53.2.2))))))))))))))))) else ((D.mem_Memory_Cap fu a2 0).bind (fun (x101 : Cap) => ((D.prog_Prog_int_Step fu (fu, (D.free_Pop (fu + 1) a1)) a2 x101).bind (fun (x102 : (Nat × T Int) × Bool × Mem) => (bif (!x102.2.1) then (some (false, (a0.1, (IntKind.i64.wrap (a0.2.1 + 1)), true, x8, (fu, (D.free_Pop (fu + 1) a1)), a0.2.2.2.2.2), x102.2.2)) else ((D.prog_Prog_int_Over fu x102.1).bind (fun (x120 : Int × Bool) => (bif (!x120.2) then (some (true, (a0.1, (IntKind.i64.wrap (a0.2.1 + 1)), true, x8, x102.1, a0.2.2.2.2.2), x102.2.2)) else (bif (decide (x120.1 ≥ 0)) then ((appD a0.2.2.2.2.2 ([x120.1])).bind (fun (x130 : List Int) => (bif (decide (x120.1 ≥ (-1))) then (some ((decide (x120.1 < a1.nodes)), (a0.1, (IntKind.i64.wrap (a0.2.1 + 1)), false, x8, x102.1, x130), x102.2.2)) else (some (false, (a0.1, (IntKind.i64.wrap (a0.2.1 + 1)), false, x8, x102.1, x130), x102.2.2))))) else (bif (decide (x120.1 ≥ (-1))) then (some ((decide (x120.1 < a1.nodes)), (a0.1, (IntKind.i64.wrap (a0.2.1 + 1)), false, x8, x102.1, a0.2.2.2.2.2), x102.2.2)) else (some (false, (a0.1, (IntKind.i64.wrap (a0.2.1 + 1)), false, x8, x102.1, a0.2.2.2.2.2), x102.2.2)))))))))))))))) else ((liveI a0.2.2.2.2.1).bind (fun (x138 : Unit) => ((D.mem_Memory_Cap fu a2 0).bind (fun (x140 : Cap) => ((D.prog_Prog_int_Step fu a0.2.2.2.2.1 a2 x140).bind (fun (x141 : (Nat × T Int) × Bool × Mem) => (bif (!x141.2.1) then (some (false, (a0.1, a0.2.1, a0.2.2.1, a0.2.2.2.1, a0.2.2.2.2.1, a0.2.2.2.2.2), x141.2.2)) else ((D.prog_Prog_int_Over fu x141.1).bind (fun (x160 : Int × Bool) => (bif (!x160.2) then (some (true, (a0.1, a0.2.1, a0.2.2.1, a0.2.2.2.1, x141.1, a0.2.2.2.2.2), x141.2.2)) else (bif a0.2.2.2.1 then (bif (decide (x160.1 ≥ 0)) then ((appD a0.2.2.2.2.2 ([x160.1])).bind (fun (x171 : List Int) => (bif (decide (x160.1 ≥ (-1))) then (some ((decide (x160.1 < a1.nodes)), (a0.1, a0.2.1, false, a0.2.2.2.1, x141.1, x171), x141.2.2)) else (some (false, (a0.1, a0.2.1, false, a0.2.2.2.1, x141.1, x171), x141.2.2))))) else (bif (decide (x160.1 ≥ (-1))) then (some ((decide (x160.1 < a1.nodes)), (a0.1, a0.2.1, false, a0.2.2.2.1, x141.1, a0.2.2.2.2.2), x141.2.2)) else (some (false, (a0.1, a0.2.1, false, a0.2.2.2.1, x141.1, a0.2.2.2.2.2), x141.2.2)))) else ((getI a0.2.2.2.2.2 (IntKind.i64.wrap ((a0.2.2.2.2.2.length : Int) - 1))).bind (fun (x179 : Int) => ((sliceD a0.2.2.2.2.2 0 (IntKind.i64.wrap ((a0.2.2.2.2.2.length : Int) - 1))).bind (fun (x181 : List Int) => (some ((x160.1 == x179), (a0.1, a0.2.1, false, a0.2.2.2.1, x141.1, x181), x141.2.2))))))))))))))))))

set_option maxRecDepth 20000 in
set_option maxHeartbeats 20000000 in
theorem c_cubiclelaw09_Thread_pick {fu : Nat} (w0 : World) {a0_b : Nat} {a0_v0 : Value} {a0_c4_0 a0_c4_1 a0_c4_2 a0_c4_3 a0_c4_4 a0_c4_5 a0_c4_6 : Value} {a0_F4 : List Nat} {a0_v5 : Value} (a0 : TH9) (a1 : Plan) {a2_g : MG} (a2 : Mem) (hS : Sep [cellC a0_b #[a0_v0, (.int .i64 a0.2.1), (.bool a0.2.2.1), (.bool a0.2.2.2.1), a0_c4_0, a0_c4_1, a0_c4_2, a0_c4_3, a0_c4_4, a0_c4_5, a0_c4_6, a0_v5] 41, roK 4 1 boolE a0_v0 a0.1, progO Try.prog encInt a0.2.2.2.2.1 (Value.agg #[a0_c4_0, a0_c4_1, a0_c4_2, a0_c4_3, a0_c4_4, a0_c4_5, a0_c4_6]) a0_F4, rowK 3 1 i64 a0_v5 a0.2.2.2.2.2, memK a2_g a2] w0) {Z Y : Nat → Prop} (hZ : ∀ c, c ∈ [cellC a0_b #[a0_v0, (.int .i64 a0.2.1), (.bool a0.2.2.1), (.bool a0.2.2.2.1), a0_c4_0, a0_c4_1, a0_c4_2, a0_c4_3, a0_c4_4, a0_c4_5, a0_c4_6, a0_v5] 41, roK 4 1 boolE a0_v0 a0.1, progO Try.prog encInt a0.2.2.2.2.1 (Value.agg #[a0_c4_0, a0_c4_1, a0_c4_2, a0_c4_3, a0_c4_4, a0_c4_5, a0_c4_6]) a0_F4, rowK 3 1 i64 a0_v5 a0.2.2.2.2.2, memK a2_g a2] → ∀ b, b ∈ c.own → Z b) (hY : ∀ c, c ∈ [cellC a0_b #[a0_v0, (.int .i64 a0.2.1), (.bool a0.2.2.1), (.bool a0.2.2.2.1), a0_c4_0, a0_c4_1, a0_c4_2, a0_c4_3, a0_c4_4, a0_c4_5, a0_c4_6, a0_v5] 41, roK 4 1 boolE a0_v0 a0.1, progO Try.prog encInt a0.2.2.2.2.1 (Value.agg #[a0_c4_0, a0_c4_1, a0_c4_2, a0_c4_3, a0_c4_4, a0_c4_5, a0_c4_6]) a0_F4, rowK 3 1 i64 a0_v5 a0.2.2.2.2.2, memK a2_g a2] → ∀ b, b ∈ c.ro → Y b) {res : Bool × TH9 × Mem} (hD : D.cubiclelaw09_Thread_pick fu a0 a1 a2 = some res) :
    Calls Try.prog 8 #[.pointer (some ⟨a0_b, 0, none⟩), .agg (planC a1).toArray, .pointer (some ⟨a2_g.mb, 0, none⟩)] w0 (fun e w' => ∃ g' : Gth9, g'.b = a0_b ∧ e = .returned (.bool res.1) ∧ Done Z Y (th9.L g' res.2.1 ++ [memK a2_g res.2.2]) w0 w') := by
 refine enter Try.func8 rfl 170 rfl rfl fun fr r => ?_
 have hP : Post Z [cellC a0_b #[a0_v0, (I a0.2.1), (.bool a0.2.2.1), (.bool a0.2.2.2.1), a0_c4_0, a0_c4_1, a0_c4_2, a0_c4_3, a0_c4_4, a0_c4_5, a0_c4_6, a0_v5] 41, roK 4 1 boolE a0_v0 a0.1, progO Try.prog encInt a0.2.2.2.2.1 (Value.agg #[a0_c4_0, a0_c4_1, a0_c4_2, a0_c4_3, a0_c4_4, a0_c4_5, a0_c4_6]) a0_F4, rowK 3 1 i64 a0_v5 a0.2.2.2.2.2, memK a2_g a2] w0 w0 := .start hS hZ
 unfold D.cubiclelaw09_Thread_pick at hD
 refine wsr ?_
 refine seq_new (.cells ((planC a1)).toArray 23 (0, 0)) r (fun R => y_box r (v := (.agg (planC a1).toArray)) rfl) rfl fun fr b1 w2 n3 r => ?_
 have hP : Post Z [cellC a0_b #[a0_v0, (I a0.2.1), (.bool a0.2.2.1), (.bool a0.2.2.2.1), a0_c4_0, a0_c4_1, a0_c4_2, a0_c4_3, a0_c4_4, a0_c4_5, a0_c4_6, a0_v5] 41, roK 4 1 boolE a0_v0 a0.1, progO Try.prog encInt a0.2.2.2.2.1 (Value.agg #[a0_c4_0, a0_c4_1, a0_c4_2, a0_c4_3, a0_c4_4, a0_c4_5, a0_c4_6]) a0_F4, rowK 3 1 i64 a0_v5 a0.2.2.2.2.2, memK a2_g a2, cellC b1 ((planC a1)).toArray 23] w0 w2 := hP.new n3
 refine seq_val (.bool false) r (fun R => y_assign r rfl) rfl fun fr r => ?_
 refine wn ?_
 refine wp_seq ?_
 refine wsr ?_
 refine seq_val (.pointer (some ⟨a0_b, 0, none⟩)) r (fun R => y_move r rfl) rfl fun fr r => ?_
 refine seq_val (.pointer (some ⟨a0_b, 0, none⟩)) r (fun R => y_nilCheck r rfl) rfl fun fr r => ?_
 refine seq_val _ r (fun R => y_fieldAddr r (o := 0) rfl fo41_2) rfl fun fr r => ?_
 refine seq_val (.bool a0.2.2.1) r (fun R => y_load_one r rfl (hP.cell (i := 0) rfl) to4 rfl) rfl fun fr r => ?_
 refine seq_val (.bool (!a0.2.2.1)) r (fun R => y_un r (u := (.bool a0.2.2.1)) rfl rfl) rfl fun fr r => ?_
 refine wn ?_
 refine wp_cond_split (t := (!a0.2.2.1)) (r.ev rfl) (fun h5 => ?_) (fun h5 => ?_)
 ·
  have hD := (cond_t h5).symm.trans hD
  refine wp_seq ?_
  refine wp_seq ?_
  refine wp_freeF [.val (.pointer (some ⟨a0_b, 0, none⟩)), .val (.pointer (some ⟨a0_b, 0, none⟩)), .val (.pointer (some ⟨a0_b, 1, none⟩)), .val (I a0.2.1), .val (.pointer (some ⟨a0_b, 0, none⟩)), .val (.pointer (some ⟨a0_b, 0, none⟩)), .val (.pointer (some ⟨a0_b, 0, none⟩)), .val a0_v0, .val (I (a0.1.length : Int)), .val (.bool (decide (a0.2.1 ≥ (a0.1.length : Int))))] mixed r (by kernel_rfl) ?_ ?_
  ·
   refine fc r (fun fr1 g w' hb' hd r' => y_move r' rfl bz) ?_
   refine fc r (fun fr1 g w' hb' hd r' => y_nilCheck r' (hd 0 rfl).1 bz) ?_
   refine fc r (fun fr1 g w' hb' hd r' => y_fieldAddr r' (b := a0_b) (o := 0) (hd 1 rfl).1 fo41_1 bz) ?_
   refine fc r (fun fr1 g w' hb' hd r' => y_load_one r' (hd 2 rfl).1 ((hP.below (dr hb')).cell (i := 0) rfl) to3 rfl bz) ?_
   refine fc r (fun fr1 g w' hb' hd r' => y_move r' rfl bz) ?_
   refine fc r (fun fr1 g w' hb' hd r' => y_nilCheck r' (hd 4 rfl).1 bz) ?_
   refine fc r (fun fr1 g w' hb' hd r' => y_fieldAddr r' (b := a0_b) (o := 0) (hd 5 rfl).1 fo41_0 bz) ?_
   refine fc r (fun fr1 g w' hb' hd r' => y_load_one r' (hd 6 rfl).1 ((hP.below (dr hb')).cell (i := 0) rfl) to31 rfl bz) ?_
   refine fc r (fun fr1 g w' hb' hd r' => y_rowLen r' ((hP.below (dr hb')).ro (i := 1) rfl) is31 (hd 7 rfl).1 bz) ?_
   refine fc r (fun fr1 g w' hb' hd r' => y_bin r' (hd 3 rfl).1 (hd 8 rfl).1 rfl rfl bz) ?_
   exact eachF_nil
  ·
   intro fr gg w6 hb hΦ hap r
   have r := r.congr (sc ((hΦ 9 rfl).1) (sc ((hΦ 8 rfl).1) (sc ((hΦ 7 rfl).1) (sc ((hΦ 6 rfl).1) (sc ((hΦ 5 rfl).1) (sc ((hΦ 4 rfl).1) (sc ((hΦ 3 rfl).1) (sc ((hΦ 2 rfl).1) (sc ((hΦ 1 rfl).1) (sc ((hΦ 0 rfl).1) rfl))))))))))
   have hP : Post Z [cellC a0_b #[a0_v0, (I a0.2.1), (.bool a0.2.2.1), (.bool a0.2.2.2.1), a0_c4_0, a0_c4_1, a0_c4_2, a0_c4_3, a0_c4_4, a0_c4_5, a0_c4_6, a0_v5] 41, roK 4 1 boolE a0_v0 a0.1, progO Try.prog encInt a0.2.2.2.2.1 (Value.agg #[a0_c4_0, a0_c4_1, a0_c4_2, a0_c4_3, a0_c4_4, a0_c4_5, a0_c4_6]) a0_F4, rowK 3 1 i64 a0_v5 a0.2.2.2.2.2, memK a2_g a2, cellC b1 ((planC a1)).toArray 23] w0 w6 := hP.below hb
   refine wp_cond_split (t := (decide (a0.2.1 ≥ (a0.1.length : Int)))) (r.ev rfl) (fun h7 => ?_) (fun h7 => ?_)
   ·
    have hD := (cond_t h7).symm.trans hD
    refine wsr ?_
    refine seq_val (.bool true) r (fun R => y_assign r rfl) rfl fun fr r => ?_
    refine wn ?_
    refine wp_ret ?_
    have hv : (true, (a0.1, a0.2.1, a0.2.2.1, a0.2.2.2.1, a0.2.2.2.2.1, a0.2.2.2.2.2), a2) = res := Option.some.inj hD
    try dsimp only [Exit.then, Exit.inBlock]
    refine ret_tmp (fn := Try.f8) r (t := 6) rfl (v := (.bool true)) rfl ?_
    subst hv
    exact ⟨(⟨a0_b, a0_v0, a0_c4_0, a0_c4_1, a0_c4_2, a0_c4_3, a0_c4_4, a0_c4_5, a0_c4_6, a0_F4, a0_v5⟩ : Gth9), rfl, rfl, (hP.pick [0, 1, 2, 3, 4] rfl rfl).done (rest_cons rfl (rest_consP (fun b h => .inl (hY _ (List.mem_cons_of_mem _ (List.mem_cons_self ..)) b h)) (rest_consP (fun b h => .inl (hY _ (List.mem_cons_of_mem _ (List.mem_cons_of_mem _ (List.mem_cons_self ..))) b h)) (rest_cons rfl (rest_cons rfl rest_nil)))))⟩
   ·
    have hD := (cond_f h7).symm.trans hD
    refine wp_skip ?_
    refine wp_seq ?_
    obtain ⟨x8, hx8, hD⟩ := bindD_elim hD
    refine wp_drawnF 13 [.val (.pointer (some ⟨a0_b, 0, none⟩)), .val (.pointer (some ⟨a0_b, 0, none⟩)), .val (.pointer (some ⟨a0_b, 0, none⟩)), .val (.pointer (some ⟨a0_b, 0, none⟩)), .val a0_v0, .val (.pointer (some ⟨a0_b, 0, none⟩)), .val (.pointer (some ⟨a0_b, 0, none⟩)), .val (.pointer (some ⟨a0_b, 1, none⟩)), .val (I a0.2.1), .val (.pointer (some ⟨rowB a0_v0, rowO a0_v0 + a0.2.1.toNat * 1, none⟩)), .val (.bool x8), .val (.pointer (some ⟨a0_b, 0, none⟩)), .val (.pointer (some ⟨a0_b, 3, none⟩))] mixed r (by kernel_rfl) (within_cons (by exact trivial) (within_cons (by exact trivial) (within_cons (by exact trivial) (within_cons (by exact trivial) (within_cons (by exact trivial) (within_cons (by exact trivial) (within_cons (by exact trivial) (within_cons (by exact trivial) (within_cons (by exact trivial) (within_cons (by exact trivial) (within_cons (by exact trivial) (within_cons (by exact trivial) (within_cons (by exact trivial) within_nil))))))))))))) ?_ ?_
    ·
     refine ec r (fun _ u _ b d s => y_move s rfl bz) ?_
     refine ec r (fun _ u _ b d s => y_move s rfl bz) ?_
     refine ec r (fun _ u _ b d s => y_nilCheck s d.1 bz) ?_
     refine ec r (fun _ u _ b d s => y_fieldAddr s (b := a0_b) (o := 0) d.1 fo41_0 bz) ?_
     refine ec r (fun _ u _ b d s => y_load_one s d.1 ((hP.below (dr b)).cell (i := 0) rfl) to31 rfl bz) ?_
     refine ec r (fun _ u _ b d s => y_move s rfl bz) ?_
     refine ec r (fun _ u _ b d s => y_nilCheck s d.1 bz) ?_
     refine ec r (fun _ u _ b d s => y_fieldAddr s (b := a0_b) (o := 0) d.1 fo41_1 bz) ?_
     refine ec r (fun _ u _ b d s => y_load_one s d.1 ((hP.below (dr b)).cell (i := 0) rfl) to3 rfl bz) ?_
     refine ec r (fun _ u _ b d s => y_rowAddr s ((hP.below (dr b)).ro (i := 1) rfl) hx8 sl31 d.1 d.2.1 bz) ?_
     refine ec r (fun fr1 u w' hb' hd r' => y_loadL_one r' (u := (.bool x8)) (RoAt.at_ (f := boolE) (x := x8) ((hP.below (dr hb')).ro (i := 1) rfl) (fun _ => rfl) hx8) hd.1 to4 bz) ?_
     refine ec r (fun _ u _ b d s => y_nilCheck s d.1 bz) ?_
     refine ec r (fun _ u _ b d s => y_fieldAddr s (b := a0_b) (o := 0) d.1 fo41_3 bz) ?_
     exact each_nil
    ·
     intro fr u w9 hb hΦ hne r
     have r := r.congr (sc (hΦ 12 (by decide)) (sc (hΦ 11 (by decide)) (sc (hΦ 10 (by decide)) (sc (hΦ 9 (by decide)) (sc (hΦ 8 (by decide)) (sc (hΦ 7 (by decide)) (sc (hΦ 6 (by decide)) (sc (hΦ 5 (by decide)) (sc (hΦ 4 (by decide)) (sc (hΦ 3 (by decide)) (sc (hΦ 2 (by decide)) (sc (hΦ 1 (by decide)) (sc (hΦ 0 (by decide)) rfl)))))))))))))
     have hP : Post Z [cellC a0_b #[a0_v0, (I a0.2.1), (.bool a0.2.2.1), (.bool a0.2.2.2.1), a0_c4_0, a0_c4_1, a0_c4_2, a0_c4_3, a0_c4_4, a0_c4_5, a0_c4_6, a0_v5] 41, roK 4 1 boolE a0_v0 a0.1, progO Try.prog encInt a0.2.2.2.2.1 (Value.agg #[a0_c4_0, a0_c4_1, a0_c4_2, a0_c4_3, a0_c4_4, a0_c4_5, a0_c4_6]) a0_F4, rowK 3 1 i64 a0_v5 a0.2.2.2.2.2, memK a2_g a2, cellC b1 ((planC a1)).toArray 23] w0 w9 := hP.below hb
     refine seq_upd (.cells #[a0_v0, (I a0.2.1), (.bool a0.2.2.1), (.bool x8), a0_c4_0, a0_c4_1, a0_c4_2, a0_c4_3, a0_c4_4, a0_c4_5, a0_c4_6, a0_v5] 41 (0, 0)) r (fun R => y_storeV r (o := 3) (n := 1) (v := (.bool x8)) (cs := [(.bool x8)]) rfl rfl rfl (pall_cons rfl pall_nil) rfl (hP.cell (i := 0) rfl) ts4 (Nat.le_of_ble_eq_true rfl) rfl) rfl fun fr w10 u11 r => ?_
     have hP : Post Z [cellC a0_b #[a0_v0, (I a0.2.1), (.bool a0.2.2.1), (.bool x8), a0_c4_0, a0_c4_1, a0_c4_2, a0_c4_3, a0_c4_4, a0_c4_5, a0_c4_6, a0_v5] 41, roK 4 1 boolE a0_v0 a0.1, progO Try.prog encInt a0.2.2.2.2.1 (Value.agg #[a0_c4_0, a0_c4_1, a0_c4_2, a0_c4_3, a0_c4_4, a0_c4_5, a0_c4_6]) a0_F4, rowK 3 1 i64 a0_v5 a0.2.2.2.2.2, memK a2_g a2, cellC b1 ((planC a1)).toArray 23] w0 w10 := hP.upd (i := 0) rfl u11
     refine wn ?_
     refine wsr ?_
     refine seq_val (.pointer (some ⟨a0_b, 0, none⟩)) r (fun R => y_move r rfl) rfl fun fr r => ?_
     refine seq_val (.pointer (some ⟨a0_b, 0, none⟩)) r (fun R => y_nilCheck r rfl) rfl fun fr r => ?_
     refine seq_val _ r (fun R => y_fieldAddr r (o := 0) rfl fo41_1) rfl fun fr r => ?_
     refine seq_val (I a0.2.1) r (fun R => y_load_one r rfl (hP.cell (i := 0) rfl) to3 rfl) rfl fun fr r => ?_
     refine seq_val _ r (fun R => y_bin r rfl rfl rfl rfl) rfl fun fr r => ?_
     refine seq_val (.pointer (some ⟨a0_b, 0, none⟩)) r (fun R => y_nilCheck r rfl) rfl fun fr r => ?_
     refine seq_val _ r (fun R => y_fieldAddr r (o := 0) rfl fo41_1) rfl fun fr r => ?_
     refine seq_upd (.cells #[a0_v0, (I (W (a0.2.1 + 1))), (.bool a0.2.2.1), (.bool x8), a0_c4_0, a0_c4_1, a0_c4_2, a0_c4_3, a0_c4_4, a0_c4_5, a0_c4_6, a0_v5] 41 (0, 0)) r (fun R => y_storeV r (o := 1) (n := 1) (v := (I (W (a0.2.1 + 1)))) (cs := [(I (W (a0.2.1 + 1)))]) rfl rfl rfl (pall_cons rfl pall_nil) rfl (hP.cell (i := 0) rfl) ts3 (Nat.le_of_ble_eq_true rfl) rfl) rfl fun fr w12 u13 r => ?_
     have hP : Post Z [cellC a0_b #[a0_v0, (I (W (a0.2.1 + 1))), (.bool a0.2.2.1), (.bool x8), a0_c4_0, a0_c4_1, a0_c4_2, a0_c4_3, a0_c4_4, a0_c4_5, a0_c4_6, a0_v5] 41, roK 4 1 boolE a0_v0 a0.1, progO Try.prog encInt a0.2.2.2.2.1 (Value.agg #[a0_c4_0, a0_c4_1, a0_c4_2, a0_c4_3, a0_c4_4, a0_c4_5, a0_c4_6]) a0_F4, rowK 3 1 i64 a0_v5 a0.2.2.2.2.2, memK a2_g a2, cellC b1 ((planC a1)).toArray 23] w0 w12 := hP.upd (i := 0) rfl u13
     refine wn ?_
     refine wp_seq ?_
     refine wsr ?_
     refine seq_val (.pointer (some ⟨a0_b, 0, none⟩)) r (fun R => y_move r rfl) rfl fun fr r => ?_
     refine seq_val (.pointer (some ⟨a0_b, 0, none⟩)) r (fun R => y_nilCheck r rfl) rfl fun fr r => ?_
     refine seq_val _ r (fun R => y_fieldAddr r (o := 0) rfl fo41_3) rfl fun fr r => ?_
     refine seq_val (.bool x8) r (fun R => y_load_one r rfl (hP.cell (i := 0) rfl) to4 rfl) rfl fun fr r => ?_
     refine seq_val (.bool (!x8)) r (fun R => y_un r (u := (.bool x8)) rfl rfl) rfl fun fr r => ?_
     refine seq_val (.bool (!x8)) r (fun R => y_move r rfl) rfl fun fr r => ?_
     refine seq_split (!x8) (fun h14 => ?_) (fun h14 => ?_)
     ·
      have hD := (cond_t h14).symm.trans hD
      refine s1 r h14 ?_
      refine seq_val (.pointer (some ⟨a0_b, 0, none⟩)) r (fun R => y_move r rfl) rfl fun fr r => ?_
      refine s1 r h14 ?_
      refine seq_val (.pointer (some ⟨a0_b, 0, none⟩)) r (fun R => y_nilCheck r rfl) rfl fun fr r => ?_
      refine s1 r h14 ?_
      refine seq_val _ r (fun R => y_fieldAddr r (o := 0) rfl fo41_5) rfl fun fr r => ?_
      refine s1 r h14 ?_
      refine seq_val a0_v5 r (fun R => y_load_one r rfl (hP.cell (i := 0) rfl) to39 rfl) rfl fun fr r => ?_
      refine s1 r h14 ?_
      refine seq_val (I (a0.2.2.2.2.2.length : Int)) r (fun R => y_rowLen r (hP.row (i := 3) rfl).ro is39 rfl) rfl fun fr r => ?_
      refine s1 r h14 ?_
      refine seq_val _ r (fun R => y_bin r rfl rfl rfl rfl) rfl fun fr r => ?_
      refine seq_val (.bool ((a0.2.2.2.2.2.length : Int) == 0)) r (fun R => y_pick r (b := true) (congrArg Value.bool h14) rfl) rfl fun fr r => ?_
      refine wn ?_
      refine wp_cond_split (t := ((a0.2.2.2.2.2.length : Int) == 0)) (r.ev rfl) (fun h15 => ?_) (fun h15 => ?_)
      ·
       have hD := (cond_t h15).symm.trans hD
       refine wsr ?_
       refine seq_val (.bool true) r (fun R => y_assign r rfl) rfl fun fr r => ?_
       refine wn ?_
       refine wp_ret ?_
       have hv : (true, (a0.1, (W (a0.2.1 + 1)), a0.2.2.1, x8, a0.2.2.2.2.1, a0.2.2.2.2.2), a2) = res := Option.some.inj hD
       try dsimp only [Exit.then, Exit.inBlock]
       refine ret_tmp (fn := Try.f8) r (t := 6) rfl (v := (.bool true)) rfl ?_
       subst hv
       exact ⟨(⟨a0_b, a0_v0, a0_c4_0, a0_c4_1, a0_c4_2, a0_c4_3, a0_c4_4, a0_c4_5, a0_c4_6, a0_F4, a0_v5⟩ : Gth9), rfl, rfl, (hP.pick [0, 1, 2, 3, 4] rfl rfl).done (rest_cons rfl (rest_consP (fun b h => .inl (hY _ (List.mem_cons_of_mem _ (List.mem_cons_self ..)) b h)) (rest_consP (fun b h => .inl (hY _ (List.mem_cons_of_mem _ (List.mem_cons_of_mem _ (List.mem_cons_self ..))) b h)) (rest_cons rfl (rest_cons rfl rest_nil)))))⟩
      ·
       have hD := (cond_f h15).symm.trans hD
       refine wp_skip ?_
       refine wsr ?_
       refine seq_val (.pointer (some ⟨a0_b, 0, none⟩)) r (fun R => y_move r rfl) rfl fun fr r => ?_
       refine seq_val (.pointer (some ⟨a0_b, 0, none⟩)) r (fun R => y_nilCheck r rfl) rfl fun fr r => ?_
       refine seq_val _ r (fun R => y_fieldAddr r (o := 0) rfl fo41_2) rfl fun fr r => ?_
       refine seq_upd (.cells #[a0_v0, (I (W (a0.2.1 + 1))), (.bool true), (.bool x8), a0_c4_0, a0_c4_1, a0_c4_2, a0_c4_3, a0_c4_4, a0_c4_5, a0_c4_6, a0_v5] 41 (0, 0)) r (fun R => y_storeV r (o := 2) (n := 1) (v := (.bool true)) (cs := [(.bool true)]) rfl rfl rfl (pall_cons rfl pall_nil) rfl (hP.cell (i := 0) rfl) ts4 (Nat.le_of_ble_eq_true rfl) rfl) rfl fun fr w16 u17 r => ?_
       have hP : Post Z [cellC a0_b #[a0_v0, (I (W (a0.2.1 + 1))), (.bool true), (.bool x8), a0_c4_0, a0_c4_1, a0_c4_2, a0_c4_3, a0_c4_4, a0_c4_5, a0_c4_6, a0_v5] 41, roK 4 1 boolE a0_v0 a0.1, progO Try.prog encInt a0.2.2.2.2.1 (Value.agg #[a0_c4_0, a0_c4_1, a0_c4_2, a0_c4_3, a0_c4_4, a0_c4_5, a0_c4_6]) a0_F4, rowK 3 1 i64 a0_v5 a0.2.2.2.2.2, memK a2_g a2, cellC b1 ((planC a1)).toArray 23] w0 w16 := hP.upd (i := 0) rfl u17
       refine wn ?_
       refine wsr ?_
       refine seq_val (.pointer (some ⟨a0_b, 0, none⟩)) r (fun R => y_move r rfl) rfl fun fr r => ?_
       refine seq_val (.agg (planC a1).toArray) r (fun R => y_load_agg r (cs := (planC a1)) (n := 6) rfl (hP.cell (i := 5) rfl) ta23 rfl) rfl fun fr r => ?_
       have z18 := hP.size
       refine seq_call r ((c_free_Pop (n := fu) (k := fu + 1) (by omega)) No w16 (fun _ h => h.elim) a1) (fun R hc => y_call r rfl cl17 hc) rfl ?_
       rintro _ w19 ⟨v20, rfl, hb, hr21⟩
       refine ⟨_, rfl, fun fr r => ?_⟩
       have hP : Post Z [cellC a0_b #[a0_v0, (I (W (a0.2.1 + 1))), (.bool true), (.bool x8), a0_c4_0, a0_c4_1, a0_c4_2, a0_c4_3, a0_c4_4, a0_c4_5, a0_c4_6, a0_v5] 41, roK 4 1 boolE a0_v0 a0.1, progO Try.prog encInt a0.2.2.2.2.1 (Value.agg #[a0_c4_0, a0_c4_1, a0_c4_2, a0_c4_3, a0_c4_4, a0_c4_5, a0_c4_6]) a0_F4, rowK 3 1 i64 a0_v5 a0.2.2.2.2.2, memK a2_g a2, cellC b1 ((planC a1)).toArray 23, progK Try.prog encInt (fu, (D.free_Pop (fu + 1) a1)) v20 (rg w16.heap.size w19.heap.size)] w0 w19 := hP.addProg hb hr21
       have fp23 : ∀ b, b ∈ (rg w16.heap.size w19.heap.size) → Y b ∨ w0.heap.size ≤ b := fun b h => .inr (Nat.le_trans z18 (mem_rg.1 h).1)
       refine seq_val (.pointer (some ⟨a0_b, 0, none⟩)) r (fun R => y_nilCheck r rfl) rfl fun fr r => ?_
       refine seq_val _ r (fun R => y_fieldAddr r (o := 0) rfl fo41_4) rfl fun fr r => ?_
       obtain ⟨c24, c25, c26, c27, c28, c29, c30, e31⟩ := shape7 (hP.prog (i := 6) rfl).shape rfl
       subst e31
       refine seq_upd (.cells #[a0_v0, (I (W (a0.2.1 + 1))), (.bool true), (.bool x8), c24, c25, c26, c27, c28, c29, c30, a0_v5] 41 (0, 0)) r (fun R => y_storeV r (o := 4) (n := 7) (v := (Value.agg #[c24, c25, c26, c27, c28, c29, c30])) (cs := [c24, c25, c26, c27, c28, c29, c30]) rfl rfl rfl (hP.prog (i := 6) rfl).shape.cells.2.1 rfl (hP.cell (i := 0) rfl) ts38 (Nat.le_of_ble_eq_true rfl) rfl) rfl fun fr w32 u33 r => ?_
       have hP : Post Z [cellC a0_b #[a0_v0, (I (W (a0.2.1 + 1))), (.bool true), (.bool x8), c24, c25, c26, c27, c28, c29, c30, a0_v5] 41, roK 4 1 boolE a0_v0 a0.1, progO Try.prog encInt a0.2.2.2.2.1 (Value.agg #[a0_c4_0, a0_c4_1, a0_c4_2, a0_c4_3, a0_c4_4, a0_c4_5, a0_c4_6]) a0_F4, rowK 3 1 i64 a0_v5 a0.2.2.2.2.2, memK a2_g a2, cellC b1 ((planC a1)).toArray 23, progK Try.prog encInt (fu, (D.free_Pop (fu + 1) a1)) (Value.agg #[c24, c25, c26, c27, c28, c29, c30]) (rg w16.heap.size w19.heap.size)] w0 w32 := hP.upd (i := 0) rfl u33
       refine wn ?_
       refine wsr ?_
       refine seq_val (.pointer (some ⟨a0_b, 0, none⟩)) r (fun R => y_move r rfl) rfl fun fr r => ?_
       refine seq_val (.pointer (some ⟨a0_b, 0, none⟩)) r (fun R => y_nilCheck r rfl) rfl fun fr r => ?_
       refine seq_val _ r (fun R => y_fieldAddr r (o := 0) rfl fo41_3) rfl fun fr r => ?_
       refine seq_val (.bool x8) r (fun R => y_load_one r rfl (hP.cell (i := 0) rfl) to4 rfl) rfl fun fr r => ?_
       refine seq_val (.bool (!x8)) r (fun R => y_un r (u := (.bool x8)) rfl rfl) rfl fun fr r => ?_
       refine wn ?_
       refine wp_cond_split (t := (!x8)) (r.ev rfl) (fun _ => ?_) (fun h => absurd (h14.symm.trans h) (by decide))
       have z34 := hP.size
       obtain ⟨x35, hx35, hD⟩ := bindD_elim hD
       refine wp_freeS 17 [.val (.pointer (some ⟨a0_b, 0, none⟩)), .val (.agg (planC a1).toArray), .val (.pointer (some ⟨a0_b, 0, none⟩)), .val (.pointer (some ⟨a0_b, 0, none⟩)), .val (.pointer (some ⟨a0_b, 11, none⟩)), .val a0_v5, .val (.pointer (some ⟨a0_b, 0, none⟩)), .val (.pointer (some ⟨a0_b, 0, none⟩)), .val (.pointer (some ⟨a0_b, 11, none⟩)), .val a0_v5, .val (I (a0.2.2.2.2.2.length : Int)), .val (I (W ((a0.2.2.2.2.2.length : Int) - 1))), .val (.pointer (some ⟨rowB a0_v5, rowO a0_v5 + (W ((a0.2.2.2.2.2.length : Int) - 1)).toNat * 1, none⟩)), .val (I x35), .pred (PrP Try.prog encInt (fu, (D.free_Push (fu + 1) a1 x35))) (PrP.st _), .val (.pointer (some ⟨a0_b, 0, none⟩)), .val (.pointer (some ⟨a0_b, 4, none⟩))] mixed r (by kernel_rfl) ?_ ?_
       ·
        refine fc r (fun fr1 g w' hb' hd r' => y_move r' rfl bz) ?_
        refine fc r (fun fr1 g w' hb' hd r' => y_load_agg r' (cs := (planC a1)) (n := 6) rfl ((hP.below (dr hb')).cell (i := 5) rfl) ta23 rfl bz) ?_
        refine fc r (fun fr1 g w' hb' hd r' => y_move r' rfl bz) ?_
        refine fc r (fun fr1 g w' hb' hd r' => y_nilCheck r' (hd 2 rfl).1 bz) ?_
        refine fc r (fun fr1 g w' hb' hd r' => y_fieldAddr r' (b := a0_b) (o := 0) (hd 3 rfl).1 fo41_5 bz) ?_
        refine fc r (fun fr1 g w' hb' hd r' => y_load_one r' (hd 4 rfl).1 ((hP.below (dr hb')).cell (i := 0) rfl) to39 rfl bz) ?_
        refine fc r (fun fr1 g w' hb' hd r' => y_move r' rfl bz) ?_
        refine fc r (fun fr1 g w' hb' hd r' => y_nilCheck r' (hd 6 rfl).1 bz) ?_
        refine fc r (fun fr1 g w' hb' hd r' => y_fieldAddr r' (b := a0_b) (o := 0) (hd 7 rfl).1 fo41_5 bz) ?_
        refine fc r (fun fr1 g w' hb' hd r' => y_load_one r' (hd 8 rfl).1 ((hP.below (dr hb')).cell (i := 0) rfl) to39 rfl bz) ?_
        refine fc r (fun fr1 g w' hb' hd r' => y_rowLen r' ((hP.below (dr hb')).row (i := 3) rfl).ro is39 (hd 9 rfl).1 bz) ?_
        refine fc r (fun fr1 g w' hb' hd r' => y_bin r' (hd 10 rfl).1 rfl rfl rfl bz) ?_
        refine fc r (fun fr1 g w' hb' hd r' => y_rowAddr r' ((hP.below (dr hb')).row (i := 3) rfl).ro hx35 sl39 (hd 5 rfl).1 (hd 11 rfl).1 bz) ?_
        refine fc r (fun fr1 g w' hb' hd r' => y_loadL_one r' (u := (I x35)) (RoAt.at_ (f := i64) (x := x35) ((hP.below (dr hb')).row (i := 3) rfl).ro (fun _ => rfl) hx35) (hd 12 rfl).1 to3 bz) ?_
        refine fc r (fun fr1 g w' hb' hd r' => y_call r' (args := [(.agg (planC a1).toArray), (I x35)]) (lc (hd 1 rfl).1 (lc (hd 13 rfl).1 l0)) cl18 (((c_free_Push (n := fu) (k := fu + 1) (by omega)) No _ (fun _ h => h.elim) a1 x35).mono (by rintro _ w2 ⟨y, rfl, hb2, hr2⟩; exact ⟨_, rfl, hb2, fresh_prog hr2⟩))) ?_
        refine fc r (fun fr1 g w' hb' hd r' => y_nilCheck r' (hd 0 rfl).1 bz) ?_
        refine fc r (fun fr1 g w' hb' hd r' => y_fieldAddr r' (b := a0_b) (o := 0) (hd 15 rfl).1 fo41_4 bz) ?_
        exact eachF_nil
       ·
        intro fr gg w37 hb hΦ hap r
        obtain ⟨v36, hv14⟩ : ∃ v, v = (gg 14).v := ⟨_, rfl⟩
        have g14 : (gg 14).v = v36 := hv14.symm
        obtain ⟨F38, eF38⟩ : ∃ F, F = rg (gg 14).lo (gg 14).hi := ⟨_, rfl⟩
        have hs14 : Fresh [progK Try.prog encInt (fu, (D.free_Push (fu + 1) a1 x35)) v36 F38] (gg 14).lo (gg 14).hi w37 := by subst hv14; subst eF38; exact (hΦ 14 rfl).1
        have r := r.congr (sc ((hΦ 16 rfl).1) (sc ((hΦ 15 rfl).1) (sc g14 (sc ((hΦ 13 rfl).1) (sc ((hΦ 12 rfl).1) (sc ((hΦ 11 rfl).1) (sc ((hΦ 10 rfl).1) (sc ((hΦ 9 rfl).1) (sc ((hΦ 8 rfl).1) (sc ((hΦ 7 rfl).1) (sc ((hΦ 6 rfl).1) (sc ((hΦ 5 rfl).1) (sc ((hΦ 4 rfl).1) (sc ((hΦ 3 rfl).1) (sc ((hΦ 2 rfl).1) (sc ((hΦ 1 rfl).1) (sc ((hΦ 0 rfl).1) rfl)))))))))))))))))
        have hP : Post Z [cellC a0_b #[a0_v0, (I (W (a0.2.1 + 1))), (.bool true), (.bool x8), c24, c25, c26, c27, c28, c29, c30, a0_v5] 41, roK 4 1 boolE a0_v0 a0.1, progO Try.prog encInt a0.2.2.2.2.1 (Value.agg #[a0_c4_0, a0_c4_1, a0_c4_2, a0_c4_3, a0_c4_4, a0_c4_5, a0_c4_6]) a0_F4, rowK 3 1 i64 a0_v5 a0.2.2.2.2.2, memK a2_g a2, cellC b1 ((planC a1)).toArray 23, progK Try.prog encInt (fu, (D.free_Pop (fu + 1) a1)) (Value.agg #[c24, c25, c26, c27, c28, c29, c30]) (rg w16.heap.size w19.heap.size), progK Try.prog encInt (fu, (D.free_Push (fu + 1) a1 x35)) v36 F38] w0 w37 := hP.addL (l := [([progK Try.prog encInt (fu, (D.free_Push (fu + 1) a1 x35)) v36 F38], (gg 14).lo, (gg 14).hi)]) hb ⟨hs14, (hΦ 14 rfl).2.1, disj_nil, trivial⟩
        obtain ⟨c39, c40, c41, c42, c43, c44, c45, e46⟩ := shape7 (hP.prog (i := 7) rfl).shape rfl
        subst e46
        refine seq_upd (.cells #[a0_v0, (I (W (a0.2.1 + 1))), (.bool true), (.bool x8), c39, c40, c41, c42, c43, c44, c45, a0_v5] 41 (0, 0)) r (fun R => y_storeV r (o := 4) (n := 7) (v := (Value.agg #[c39, c40, c41, c42, c43, c44, c45])) (cs := [c39, c40, c41, c42, c43, c44, c45]) rfl rfl rfl (hP.prog (i := 7) rfl).shape.cells.2.1 rfl (hP.cell (i := 0) rfl) ts38 (Nat.le_of_ble_eq_true rfl) rfl) rfl fun fr w47 u48 r => ?_
        have hP : Post Z [cellC a0_b #[a0_v0, (I (W (a0.2.1 + 1))), (.bool true), (.bool x8), c39, c40, c41, c42, c43, c44, c45, a0_v5] 41, roK 4 1 boolE a0_v0 a0.1, progO Try.prog encInt a0.2.2.2.2.1 (Value.agg #[a0_c4_0, a0_c4_1, a0_c4_2, a0_c4_3, a0_c4_4, a0_c4_5, a0_c4_6]) a0_F4, rowK 3 1 i64 a0_v5 a0.2.2.2.2.2, memK a2_g a2, cellC b1 ((planC a1)).toArray 23, progK Try.prog encInt (fu, (D.free_Pop (fu + 1) a1)) (Value.agg #[c24, c25, c26, c27, c28, c29, c30]) (rg w16.heap.size w19.heap.size), progK Try.prog encInt (fu, (D.free_Push (fu + 1) a1 x35)) (Value.agg #[c39, c40, c41, c42, c43, c44, c45]) F38] w0 w47 := hP.upd (i := 0) rfl u48
        refine wn ?_
        have fp49 : ∀ b, b ∈ F38 → Y b ∨ w0.heap.size ≤ b := fun b h => .inr (by rw [eF38] at h; have := (mem_rg.1 h).1; have := (hΦ 14 rfl).2.1; omega)
        refine wp_seq ?_
        have z51 := hP.size
        obtain ⟨x52, hx52, hD⟩ := bindD_elim hD
        obtain ⟨x53, hx53, hD⟩ := bindD_elim hD
        refine wp_freeE a2_g.bs [.val (.pointer (some ⟨a0_b, 0, none⟩)), .val (.pointer (some ⟨a0_b, 0, none⟩)), .val (.pointer (some ⟨a0_b, 4, none⟩)), .val (Value.agg #[c39, c40, c41, c42, c43, c44, c45]), .val (.pointer (some ⟨a2_g.mb, 0, none⟩)), .val (.pointer (some ⟨a2_g.mb, 0, none⟩)), .val (.agg (capC x52).toArray), .eff (EffR Try.prog encInt w47.heap.size F38 (memK a2_g x53.2.2) x53.1 (.bool x53.2.1)) EffR.st, .dep 7 (fun u v => v = u ∧ ∃ y, v = .tuple #[y, (.bool x53.2.1)] ∧ Shape encInt y), .dep 8 (fun u v => Shape encInt v ∧ u = .tuple #[v, (.bool x53.2.1)]), .val (.bool x53.2.1), .cell 38 7, .storedD 11 9 (fun v => v.cells) 38 7, .val (.bool x53.2.1)] mixed r (fun b hb => hP.sep.lt (i := 4) rfl (.inl hb)) (by kernel_rfl) ?_ ?_
        ·
         refine eachE_late r rfl (fun fr1 g w' hk' hd r' => ?_) ?_
         · exact y_move r' (v := (.pointer (some ⟨a0_b, 0, none⟩))) rfl ⟨Below.refl _ _, rfl⟩
         refine eachE_late r rfl (fun fr1 g w' hk' hd r' => ?_) ?_
         · exact y_nilCheck r' (hd 0 rfl).1 ⟨Below.refl _ _, rfl⟩
         refine eachE_late r rfl (fun fr1 g w' hk' hd r' => ?_) ?_
         · exact y_fieldAddr r' (b := a0_b) (o := 0) (k := 4) (hd 1 rfl).1 fo41_4 ⟨Below.refl _ _, rfl⟩
         refine eachE_early r rfl (by kernel_rfl) (fun fr1 g w' hb' hd r' => ?_) ?_
         · exact y_load_agg r' (cs := [c39, c40, c41, c42, c43, c44, c45]) (n := 7) (hd 2 rfl).1 ((hP.below (dr hb')).cell (i := 0) rfl) ta38 rfl ⟨Below.refl _ _, rfl⟩
         refine eachE_early r rfl (by kernel_rfl) (fun fr1 g w' hb' hd r' => ?_) ?_
         · exact y_move r' (v := (.pointer (some ⟨a2_g.mb, 0, none⟩))) rfl ⟨Below.refl _ _, rfl⟩
         refine eachE_late r rfl (fun fr1 g w' hk' hd r' => ?_) ?_
         · exact y_move r' (v := (.pointer (some ⟨a2_g.mb, 0, none⟩))) rfl ⟨Below.refl _ _, rfl⟩
         refine eachE_early r rfl (by kernel_rfl) (fun fr1 g w' hb' hd r' => ?_) ?_
         · exact y_call r' (args := [(.pointer (some ⟨a2_g.mb, 0, none⟩)), (I 0)]) (lc (hd 5 rfl).1 (lc rfl l0)) cl16 ((c_mem_Memory_Cap _ a2 ((hP.below (dr hb')).mem (i := 4) rfl) 0 hx52).mono (by rintro _ w2 ⟨rfl, hb2⟩; exact ⟨_, rfl, hb2, rfl⟩))
         refine eachE_early r rfl (by kernel_rfl) (fun fr1 g w' hb' hd r' => ?_) ?_
         · exact y_call r' (args := [(Value.agg #[c39, c40, c41, c42, c43, c44, c45]), (.pointer (some ⟨a2_g.mb, 0, none⟩)), (.agg (capC x52).toArray)]) (lc (hd 3 rfl).1 (lc (hd 4 rfl).1 (lc (hd 6 rfl).1 l0))) cl19 ((c_prog_Prog_int_Step _ (fu, (D.free_Push (fu + 1) a1 x35)) a2 x52 ((hP.below (dr hb')).sep.pk [7, 4] rfl rfl) hx53).mono (by rintro _ w2 ⟨y, F, rfl, hq⟩; exact ⟨_, rfl, hq.chg.kept, EffR.of hq (fun b hb => hP.sep.lt (i := 4) rfl hb) (fun b hb => hP.sep.lt (i := 7) rfl (.inr hb))⟩))
         refine eachE_late r rfl (fun fr1 g w' hk' hd r' => ?_) ?_
         · obtain ⟨y, F, hv, _, _, _, hr, _⟩ := (hd 7 rfl).1; exact y_move r' (v := (g 7).v) rfl ⟨Below.refl _ _, rfl, y, hv, hr.shape⟩
         refine eachE_late r rfl (fun fr1 g w' hk' hd r' => ?_) ?_
         · obtain ⟨_, y, hv, hs⟩ := (hd 8 rfl).1; exact y_extract r' (vs := #[y, (.bool x53.2.1)]) hv rfl ⟨Below.refl _ _, hs, hv⟩
         refine eachE_late r rfl (fun fr1 g w' hk' hd r' => ?_) ?_
         · obtain ⟨_, y, hv, hs⟩ := (hd 8 rfl).1; exact y_extract r' (vs := #[y, (.bool x53.2.1)]) hv rfl ⟨Below.refl _ _, rfl⟩
         refine eachE_late r rfl (fun fr1 g w' hk' hd r' => ?_) ?_
         · exact y_alloc tz38 (fun b w2 n2 => ⟨n2.below, b, rfl, n2.eq, _, n2.at_, rfl⟩)
         refine eachE_late r rfl (fun fr1 g w' hk' hd r' => ?_) ?_
         · obtain ⟨hp, _, c, hc, hn⟩ := (hd 11 rfl).1; obtain ⟨hs, _⟩ := (hd 9 rfl).1; exact y_storep r' hs hp rfl hc ts38 hn (fun w2 u2 => ⟨u2, rfl, hs.cells.1⟩)
         refine eachE_late r rfl (fun fr1 g w' hk' hd r' => ?_) ?_
         · exact y_assign r' (v := (.bool x53.2.1)) (hd 10 rfl).1 ⟨Below.refl _ _, rfl⟩
         exact eachF_nil
        ·
         intro fr gg w58 hb hΦ hap r
         obtain ⟨v54, F55, g7, hcE, _, _, hrE, hFE⟩ := (hΦ 7 rfl).1
         have g8 := (hΦ 8 rfl).1.1.trans g7
         have g9 : (gg 9).v = v54 := tup_eq ((hΦ 9 rfl).1.2.symm.trans g8)
         obtain ⟨b57, ee_b57⟩ : ∃ b, b = (gg 11).lo := ⟨_, rfl⟩
         have g11 : (gg 11).v = (.pointer (some ⟨b57, 0, none⟩)) := by rw [ee_b57]; exact (hΦ 11 rfl).1.1
         have h_b57 : w58.heap[b57]? = some (.cells v54.cells 38 (0, 0)) := by rw [ee_b57, ← g9]; exact (hΦ 12 rfl).1.2
         have hs11 : Fresh [cellC b57 v54.cells 38] (gg 11).lo (gg 11).hi w58 := by subst ee_b57; exact Fresh.cell (hΦ 11 rfl).1.2.1 h_b57
         have r := r.congr (sc ((hΦ 13 rfl).1) (sc g11 (sc ((hΦ 10 rfl).1) (sc g9 (sc g8 (sc g7 (sc ((hΦ 6 rfl).1) (sc ((hΦ 5 rfl).1) (sc ((hΦ 4 rfl).1) (sc ((hΦ 3 rfl).1) (sc ((hΦ 2 rfl).1) (sc ((hΦ 1 rfl).1) (sc ((hΦ 0 rfl).1) rfl)))))))))))))
         have hP : Post Z [cellC a0_b #[a0_v0, (I (W (a0.2.1 + 1))), (.bool true), (.bool x8), c39, c40, c41, c42, c43, c44, c45, a0_v5] 41, roK 4 1 boolE a0_v0 a0.1, progO Try.prog encInt a0.2.2.2.2.1 (Value.agg #[a0_c4_0, a0_c4_1, a0_c4_2, a0_c4_3, a0_c4_4, a0_c4_5, a0_c4_6]) a0_F4, rowK 3 1 i64 a0_v5 a0.2.2.2.2.2, memK a2_g x53.2.2, cellC b1 ((planC a1)).toArray 23, progK Try.prog encInt (fu, (D.free_Pop (fu + 1) a1)) (Value.agg #[c24, c25, c26, c27, c28, c29, c30]) (rg w16.heap.size w19.heap.size), progK Try.prog encInt (fu, (D.free_Push (fu + 1) a1 x35)) (Value.agg #[c39, c40, c41, c42, c43, c44, c45]) F38, progK Try.prog encInt x53.1 v54 F55, cellC b57 v54.cells 38] w0 w58 := hP.effR (i := 4) (k := 7) (l := [([cellC b57 v54.cells 38], (gg 11).lo, (gg 11).hi)]) rfl rfl rfl hb hcE rfl rfl rfl hrE hFE (hΦ 7 rfl).2.1 (hΦ 7 rfl).2.2.2 ⟨hs11, (hΦ 11 rfl).2.1, disj_nil, trivial⟩ (disj_cons (hap 7 11 rfl) disj_nil)
         have fp59 : ∀ b, b ∈ F55 → Y b ∨ w0.heap.size ≤ b := fun b h => (hFE b h).2.elim (fp49 b) (fun h1 => .inr (by have := h1.1; have := (hΦ 7 rfl).2.1; omega))
         refine wp_seq ?_
         refine wsr ?_
         refine seq_val (.bool x53.2.1) r (fun R => y_move r rfl) rfl fun fr r => ?_
         refine seq_val (.bool (!x53.2.1)) r (fun R => y_un r (u := (.bool x53.2.1)) rfl rfl) rfl fun fr r => ?_
         refine wn ?_
         refine wp_cond_split (t := (!x53.2.1)) (r.ev rfl) (fun h60 => ?_) (fun h60 => ?_)
         ·
          have hD := (cond_t h60).symm.trans hD
          refine wsr ?_
          refine seq_val (.bool false) r (fun R => y_assign r rfl) rfl fun fr r => ?_
          refine wn ?_
          refine wp_ret ?_
          have hP : Post Z [cellC a0_b #[a0_v0, (I (W (a0.2.1 + 1))), (.bool true), (.bool x8), c39, c40, c41, c42, c43, c44, c45, a0_v5] 41, roK 4 1 boolE a0_v0 a0.1, progO Try.prog encInt a0.2.2.2.2.1 (Value.agg #[a0_c4_0, a0_c4_1, a0_c4_2, a0_c4_3, a0_c4_4, a0_c4_5, a0_c4_6]) a0_F4, rowK 3 1 i64 a0_v5 a0.2.2.2.2.2, memK a2_g x53.2.2, cellC b1 ((planC a1)).toArray 23, progK Try.prog encInt (fu, (D.free_Pop (fu + 1) a1)) (Value.agg #[c24, c25, c26, c27, c28, c29, c30]) (rg w16.heap.size w19.heap.size), progO Try.prog encInt (fu, (D.free_Push (fu + 1) a1 x35)) (Value.agg #[c39, c40, c41, c42, c43, c44, c45]) F38, progK Try.prog encInt x53.1 v54 F55, cellC b57 v54.cells 38] w0 w58 := hP.toO (i := 7) rfl
          have hv : (false, (a0.1, (W (a0.2.1 + 1)), true, x8, (fu, (D.free_Push (fu + 1) a1 x35)), a0.2.2.2.2.2), x53.2.2) = res := Option.some.inj hD
          try dsimp only [Exit.then, Exit.inBlock]
          refine ret_tmp (fn := Try.f8) r (t := 6) rfl (v := (.bool false)) rfl ?_
          subst hv
          exact ⟨(⟨a0_b, a0_v0, c39, c40, c41, c42, c43, c44, c45, F38, a0_v5⟩ : Gth9), rfl, rfl, (hP.pick [0, 1, 7, 3, 4] rfl rfl).done (rest_cons rfl (rest_consP (fun b h => .inl (hY _ (List.mem_cons_of_mem _ (List.mem_cons_self ..)) b h)) (rest_consP fp49 (rest_cons rfl (rest_cons rfl rest_nil)))))⟩
         ·
          have hD := (cond_f h60).symm.trans hD
          refine wp_skip ?_
          refine wsr ?_
          refine seq_val (.pointer (some ⟨a0_b, 0, none⟩)) r (fun R => y_move r rfl) rfl fun fr r => ?_
          refine seq_val v54 r (fun R => y_loadp r (hP.prog (i := 8) rfl).shape rfl (hP.cell (i := 9) rfl) ta38) rfl fun fr r => ?_
          refine seq_val (.pointer (some ⟨a0_b, 0, none⟩)) r (fun R => y_nilCheck r rfl) rfl fun fr r => ?_
          refine seq_val _ r (fun R => y_fieldAddr r (o := 0) rfl fo41_4) rfl fun fr r => ?_
          obtain ⟨c61, c62, c63, c64, c65, c66, c67, e68⟩ := shape7 (hP.prog (i := 8) rfl).shape rfl
          subst e68
          refine seq_upd (.cells #[a0_v0, (I (W (a0.2.1 + 1))), (.bool true), (.bool x8), c61, c62, c63, c64, c65, c66, c67, a0_v5] 41 (0, 0)) r (fun R => y_storeV r (o := 4) (n := 7) (v := (Value.agg #[c61, c62, c63, c64, c65, c66, c67])) (cs := [c61, c62, c63, c64, c65, c66, c67]) rfl rfl rfl (hP.prog (i := 8) rfl).shape.cells.2.1 rfl (hP.cell (i := 0) rfl) ts38 (Nat.le_of_ble_eq_true rfl) rfl) rfl fun fr w69 u70 r => ?_
          have hP : Post Z [cellC a0_b #[a0_v0, (I (W (a0.2.1 + 1))), (.bool true), (.bool x8), c61, c62, c63, c64, c65, c66, c67, a0_v5] 41, roK 4 1 boolE a0_v0 a0.1, progO Try.prog encInt a0.2.2.2.2.1 (Value.agg #[a0_c4_0, a0_c4_1, a0_c4_2, a0_c4_3, a0_c4_4, a0_c4_5, a0_c4_6]) a0_F4, rowK 3 1 i64 a0_v5 a0.2.2.2.2.2, memK a2_g x53.2.2, cellC b1 ((planC a1)).toArray 23, progK Try.prog encInt (fu, (D.free_Pop (fu + 1) a1)) (Value.agg #[c24, c25, c26, c27, c28, c29, c30]) (rg w16.heap.size w19.heap.size), progK Try.prog encInt (fu, (D.free_Push (fu + 1) a1 x35)) (Value.agg #[c39, c40, c41, c42, c43, c44, c45]) F38, progK Try.prog encInt x53.1 (Value.agg #[c61, c62, c63, c64, c65, c66, c67]) F55, cellC b57 (Value.agg #[c61, c62, c63, c64, c65, c66, c67]).cells 38] w0 w69 := hP.upd (i := 0) rfl u70
          refine wn ?_
          refine wsr ?_
          refine seq_val (Value.agg #[c61, c62, c63, c64, c65, c66, c67]) r (fun R => y_loadp r (hP.prog (i := 8) rfl).shape rfl (hP.cell (i := 9) rfl) ta38) rfl fun fr r => ?_
          obtain ⟨x71, hx71, hD⟩ := bindD_elim hD
          refine seq_call r (c_prog_Prog_int_Over w69 x53.1 (hP.prog (i := 8) rfl) (fun b hb => hP.sep.lt (i := 8) rfl (.inr hb)) hx71) (fun R hc => y_call r rfl cl20 hc) rfl ?_
          rintro _ w72 ⟨rfl, hb⟩
          refine ⟨_, rfl, fun fr r => ?_⟩
          have hP : Post Z [cellC a0_b #[a0_v0, (I (W (a0.2.1 + 1))), (.bool true), (.bool x8), c61, c62, c63, c64, c65, c66, c67, a0_v5] 41, roK 4 1 boolE a0_v0 a0.1, progO Try.prog encInt a0.2.2.2.2.1 (Value.agg #[a0_c4_0, a0_c4_1, a0_c4_2, a0_c4_3, a0_c4_4, a0_c4_5, a0_c4_6]) a0_F4, rowK 3 1 i64 a0_v5 a0.2.2.2.2.2, memK a2_g x53.2.2, cellC b1 ((planC a1)).toArray 23, progK Try.prog encInt (fu, (D.free_Pop (fu + 1) a1)) (Value.agg #[c24, c25, c26, c27, c28, c29, c30]) (rg w16.heap.size w19.heap.size), progK Try.prog encInt (fu, (D.free_Push (fu + 1) a1 x35)) (Value.agg #[c39, c40, c41, c42, c43, c44, c45]) F38, progK Try.prog encInt x53.1 (Value.agg #[c61, c62, c63, c64, c65, c66, c67]) F55, cellC b57 (Value.agg #[c61, c62, c63, c64, c65, c66, c67]).cells 38] w0 w72 := hP.below hb
          refine seq_val (.tuple #[(I x71.1), (.bool x71.2)]) r (fun R => y_move r rfl) rfl fun fr r => ?_
          refine seq_val (I x71.1) r (fun R => y_extract r (vs := #[(I x71.1), (.bool x71.2)]) rfl rfl) rfl fun fr r => ?_
          refine seq_val (.bool x71.2) r (fun R => y_extract r (vs := #[(I x71.1), (.bool x71.2)]) rfl rfl) rfl fun fr r => ?_
          refine seq_val (I x71.1) r (fun R => y_assign r rfl) rfl fun fr r => ?_
          refine seq_val (.bool x71.2) r (fun R => y_assign r rfl) rfl fun fr r => ?_
          refine wn ?_
          refine wp_seq ?_
          refine wsr ?_
          refine seq_val (.bool x71.2) r (fun R => y_move r rfl) rfl fun fr r => ?_
          refine seq_val (.bool (!x71.2)) r (fun R => y_un r (u := (.bool x71.2)) rfl rfl) rfl fun fr r => ?_
          refine wn ?_
          refine wp_cond_split (t := (!x71.2)) (r.ev rfl) (fun h73 => ?_) (fun h73 => ?_)
          ·
           have hD := (cond_t h73).symm.trans hD
           refine wsr ?_
           refine seq_val (.bool true) r (fun R => y_assign r rfl) rfl fun fr r => ?_
           refine wn ?_
           refine wp_ret ?_
           have hP : Post Z [cellC a0_b #[a0_v0, (I (W (a0.2.1 + 1))), (.bool true), (.bool x8), c61, c62, c63, c64, c65, c66, c67, a0_v5] 41, roK 4 1 boolE a0_v0 a0.1, progO Try.prog encInt a0.2.2.2.2.1 (Value.agg #[a0_c4_0, a0_c4_1, a0_c4_2, a0_c4_3, a0_c4_4, a0_c4_5, a0_c4_6]) a0_F4, rowK 3 1 i64 a0_v5 a0.2.2.2.2.2, memK a2_g x53.2.2, cellC b1 ((planC a1)).toArray 23, progK Try.prog encInt (fu, (D.free_Pop (fu + 1) a1)) (Value.agg #[c24, c25, c26, c27, c28, c29, c30]) (rg w16.heap.size w19.heap.size), progK Try.prog encInt (fu, (D.free_Push (fu + 1) a1 x35)) (Value.agg #[c39, c40, c41, c42, c43, c44, c45]) F38, progO Try.prog encInt x53.1 (Value.agg #[c61, c62, c63, c64, c65, c66, c67]) F55, cellC b57 (Value.agg #[c61, c62, c63, c64, c65, c66, c67]).cells 38] w0 w72 := hP.toO (i := 8) rfl
           have hv : (true, (a0.1, (W (a0.2.1 + 1)), true, x8, x53.1, a0.2.2.2.2.2), x53.2.2) = res := Option.some.inj hD
           try dsimp only [Exit.then, Exit.inBlock]
           refine ret_tmp (fn := Try.f8) r (t := 6) rfl (v := (.bool true)) rfl ?_
           subst hv
           exact ⟨(⟨a0_b, a0_v0, c61, c62, c63, c64, c65, c66, c67, F55, a0_v5⟩ : Gth9), rfl, rfl, (hP.pick [0, 1, 8, 3, 4] rfl rfl).done (rest_cons rfl (rest_consP (fun b h => .inl (hY _ (List.mem_cons_of_mem _ (List.mem_cons_self ..)) b h)) (rest_consP fp59 (rest_cons rfl (rest_cons rfl rest_nil)))))⟩
          ·
           have hD := (cond_f h73).symm.trans hD
           refine wp_skip ?_
           refine wsr ?_
           refine seq_val (.pointer (some ⟨a0_b, 0, none⟩)) r (fun R => y_move r rfl) rfl fun fr r => ?_
           refine seq_val (.pointer (some ⟨a0_b, 0, none⟩)) r (fun R => y_nilCheck r rfl) rfl fun fr r => ?_
           refine seq_val _ r (fun R => y_fieldAddr r (o := 0) rfl fo41_2) rfl fun fr r => ?_
           refine seq_upd (.cells #[a0_v0, (I (W (a0.2.1 + 1))), (.bool false), (.bool x8), c61, c62, c63, c64, c65, c66, c67, a0_v5] 41 (0, 0)) r (fun R => y_storeV r (o := 2) (n := 1) (v := (.bool false)) (cs := [(.bool false)]) rfl rfl rfl (pall_cons rfl pall_nil) rfl (hP.cell (i := 0) rfl) ts4 (Nat.le_of_ble_eq_true rfl) rfl) rfl fun fr w74 u75 r => ?_
           have hP : Post Z [cellC a0_b #[a0_v0, (I (W (a0.2.1 + 1))), (.bool false), (.bool x8), c61, c62, c63, c64, c65, c66, c67, a0_v5] 41, roK 4 1 boolE a0_v0 a0.1, progO Try.prog encInt a0.2.2.2.2.1 (Value.agg #[a0_c4_0, a0_c4_1, a0_c4_2, a0_c4_3, a0_c4_4, a0_c4_5, a0_c4_6]) a0_F4, rowK 3 1 i64 a0_v5 a0.2.2.2.2.2, memK a2_g x53.2.2, cellC b1 ((planC a1)).toArray 23, progK Try.prog encInt (fu, (D.free_Pop (fu + 1) a1)) (Value.agg #[c24, c25, c26, c27, c28, c29, c30]) (rg w16.heap.size w19.heap.size), progK Try.prog encInt (fu, (D.free_Push (fu + 1) a1 x35)) (Value.agg #[c39, c40, c41, c42, c43, c44, c45]) F38, progK Try.prog encInt x53.1 (Value.agg #[c61, c62, c63, c64, c65, c66, c67]) F55, cellC b57 (Value.agg #[c61, c62, c63, c64, c65, c66, c67]).cells 38] w0 w74 := hP.upd (i := 0) rfl u75
           refine wn ?_
           refine wp_seq ?_
           refine wsr ?_
           refine seq_val (.pointer (some ⟨a0_b, 0, none⟩)) r (fun R => y_move r rfl) rfl fun fr r => ?_
           refine seq_val (.pointer (some ⟨a0_b, 0, none⟩)) r (fun R => y_nilCheck r rfl) rfl fun fr r => ?_
           refine seq_val _ r (fun R => y_fieldAddr r (o := 0) rfl fo41_3) rfl fun fr r => ?_
           refine seq_val (.bool x8) r (fun R => y_load_one r rfl (hP.cell (i := 0) rfl) to4 rfl) rfl fun fr r => ?_
           refine wn ?_
           refine wp_cond_split (t := x8) (r.ev rfl) (fun h => absurd ((show x8 = false from nt h14).symm.trans h) (by decide)) (fun _ => ?_)
           refine wp_skip ?_
           refine wp_seq ?_
           obtain ⟨x76, hx76, hD⟩ := bindD_elim hD
           refine wp_freeF [.val (.pointer (some ⟨a0_b, 0, none⟩)), .val (.pointer (some ⟨a0_b, 0, none⟩)), .val (.pointer (some ⟨a0_b, 11, none⟩)), .val a0_v5, .val (.pointer (some ⟨a0_b, 0, none⟩)), .val (.pointer (some ⟨a0_b, 0, none⟩)), .val (.pointer (some ⟨a0_b, 11, none⟩)), .val a0_v5, .val (I (a0.2.2.2.2.2.length : Int)), .val (I (W ((a0.2.2.2.2.2.length : Int) - 1))), .val (.pointer (some ⟨rowB a0_v5, rowO a0_v5 + (W ((a0.2.2.2.2.2.length : Int) - 1)).toNat * 1, none⟩)), .val (I x76), .val (I x76)] mixed r (by kernel_rfl) ?_ ?_
           ·
            refine fc r (fun fr1 g w' hb' hd r' => y_move r' rfl bz) ?_
            refine fc r (fun fr1 g w' hb' hd r' => y_nilCheck r' (hd 0 rfl).1 bz) ?_
            refine fc r (fun fr1 g w' hb' hd r' => y_fieldAddr r' (b := a0_b) (o := 0) (hd 1 rfl).1 fo41_5 bz) ?_
            refine fc r (fun fr1 g w' hb' hd r' => y_load_one r' (hd 2 rfl).1 ((hP.below (dr hb')).cell (i := 0) rfl) to39 rfl bz) ?_
            refine fc r (fun fr1 g w' hb' hd r' => y_move r' rfl bz) ?_
            refine fc r (fun fr1 g w' hb' hd r' => y_nilCheck r' (hd 4 rfl).1 bz) ?_
            refine fc r (fun fr1 g w' hb' hd r' => y_fieldAddr r' (b := a0_b) (o := 0) (hd 5 rfl).1 fo41_5 bz) ?_
            refine fc r (fun fr1 g w' hb' hd r' => y_load_one r' (hd 6 rfl).1 ((hP.below (dr hb')).cell (i := 0) rfl) to39 rfl bz) ?_
            refine fc r (fun fr1 g w' hb' hd r' => y_rowLen r' ((hP.below (dr hb')).row (i := 3) rfl).ro is39 (hd 7 rfl).1 bz) ?_
            refine fc r (fun fr1 g w' hb' hd r' => y_bin r' (hd 8 rfl).1 rfl rfl rfl bz) ?_
            refine fc r (fun fr1 g w' hb' hd r' => y_rowAddr r' ((hP.below (dr hb')).row (i := 3) rfl).ro hx76 sl39 (hd 3 rfl).1 (hd 9 rfl).1 bz) ?_
            refine fc r (fun fr1 g w' hb' hd r' => y_loadL_one r' (u := (I x76)) (RoAt.at_ (f := i64) (x := x76) ((hP.below (dr hb')).row (i := 3) rfl).ro (fun _ => rfl) hx76) (hd 10 rfl).1 to3 bz) ?_
            refine fc r (fun fr1 g w' hb' hd r' => y_assign r' (hd 11 rfl).1 bz) ?_
            exact eachF_nil
           ·
            intro fr gg w77 hb hΦ hap r
            have r := r.congr (sc ((hΦ 12 rfl).1) (sc ((hΦ 11 rfl).1) (sc ((hΦ 10 rfl).1) (sc ((hΦ 9 rfl).1) (sc ((hΦ 8 rfl).1) (sc ((hΦ 7 rfl).1) (sc ((hΦ 6 rfl).1) (sc ((hΦ 5 rfl).1) (sc ((hΦ 4 rfl).1) (sc ((hΦ 3 rfl).1) (sc ((hΦ 2 rfl).1) (sc ((hΦ 1 rfl).1) (sc ((hΦ 0 rfl).1) rfl)))))))))))))
            have hP : Post Z [cellC a0_b #[a0_v0, (I (W (a0.2.1 + 1))), (.bool false), (.bool x8), c61, c62, c63, c64, c65, c66, c67, a0_v5] 41, roK 4 1 boolE a0_v0 a0.1, progO Try.prog encInt a0.2.2.2.2.1 (Value.agg #[a0_c4_0, a0_c4_1, a0_c4_2, a0_c4_3, a0_c4_4, a0_c4_5, a0_c4_6]) a0_F4, rowK 3 1 i64 a0_v5 a0.2.2.2.2.2, memK a2_g x53.2.2, cellC b1 ((planC a1)).toArray 23, progK Try.prog encInt (fu, (D.free_Pop (fu + 1) a1)) (Value.agg #[c24, c25, c26, c27, c28, c29, c30]) (rg w16.heap.size w19.heap.size), progK Try.prog encInt (fu, (D.free_Push (fu + 1) a1 x35)) (Value.agg #[c39, c40, c41, c42, c43, c44, c45]) F38, progK Try.prog encInt x53.1 (Value.agg #[c61, c62, c63, c64, c65, c66, c67]) F55, cellC b57 (Value.agg #[c61, c62, c63, c64, c65, c66, c67]).cells 38] w0 w77 := hP.below hb
            refine wp_seq ?_
            obtain ⟨x78, hx78, hD⟩ := bindD_elim hD
            refine wp_drawnF 14 [.val (.pointer (some ⟨a0_b, 0, none⟩)), .val (.pointer (some ⟨a0_b, 0, none⟩)), .val (.pointer (some ⟨a0_b, 0, none⟩)), .val (.pointer (some ⟨a0_b, 11, none⟩)), .val a0_v5, .val (.pointer (some ⟨a0_b, 0, none⟩)), .val (.pointer (some ⟨a0_b, 0, none⟩)), .val (.pointer (some ⟨a0_b, 11, none⟩)), .val a0_v5, .val (I (a0.2.2.2.2.2.length : Int)), .val (I (W ((a0.2.2.2.2.2.length : Int) - 1))), .val (sliceV 1 a0_v5 (0 : Int).toNat (W ((a0.2.2.2.2.2.length : Int) - 1)).toNat), .val (.pointer (some ⟨a0_b, 0, none⟩)), .val (.pointer (some ⟨a0_b, 11, none⟩))] mixed r (by kernel_rfl) (within_cons (by exact trivial) (within_cons (by exact trivial) (within_cons (by exact trivial) (within_cons (by exact trivial) (within_cons (by exact trivial) (within_cons (by exact trivial) (within_cons (by exact trivial) (within_cons (by exact trivial) (within_cons (by exact trivial) (within_cons (by exact trivial) (within_cons (by exact trivial) (within_cons (by exact trivial) (within_cons (by exact trivial) (within_cons (by exact trivial) within_nil)))))))))))))) ?_ ?_
            ·
             refine ec r (fun _ u _ b d s => y_move s rfl bz) ?_
             refine ec r (fun _ u _ b d s => y_move s rfl bz) ?_
             refine ec r (fun _ u _ b d s => y_nilCheck s d.1 bz) ?_
             refine ec r (fun _ u _ b d s => y_fieldAddr s (b := a0_b) (o := 0) d.1 fo41_5 bz) ?_
             refine ec r (fun _ u _ b d s => y_load_one s d.1 ((hP.below (dr b)).cell (i := 0) rfl) to39 rfl bz) ?_
             refine ec r (fun _ u _ b d s => y_move s rfl bz) ?_
             refine ec r (fun _ u _ b d s => y_nilCheck s d.1 bz) ?_
             refine ec r (fun _ u _ b d s => y_fieldAddr s (b := a0_b) (o := 0) d.1 fo41_5 bz) ?_
             refine ec r (fun _ u _ b d s => y_load_one s d.1 ((hP.below (dr b)).cell (i := 0) rfl) to39 rfl bz) ?_
             refine ec r (fun _ u _ b d s => y_rowLen s ((hP.below (dr b)).row (i := 3) rfl).ro is39 d.1 bz) ?_
             refine ec r (fun _ u _ b d s => y_bin s d.1 rfl rfl rfl bz) ?_
             refine ec r (fun _ u _ b d s => y_cut s ((hP.below (dr b)).row (i := 3) rfl).ro sl39 d.1 rfl (congrArg some d.2.1) rfl rfl rfl rfl hx78 bz) ?_
             refine ec r (fun _ u _ b d s => y_nilCheck s d.1 bz) ?_
             refine ec r (fun _ u _ b d s => y_fieldAddr s (b := a0_b) (o := 0) d.1 fo41_5 bz) ?_
             exact each_nil
            ·
             intro fr u w79 hb hΦ hne r
             have r := r.congr (sc (hΦ 13 (by decide)) (sc (hΦ 12 (by decide)) (sc (hΦ 11 (by decide)) (sc (hΦ 10 (by decide)) (sc (hΦ 9 (by decide)) (sc (hΦ 8 (by decide)) (sc (hΦ 7 (by decide)) (sc (hΦ 6 (by decide)) (sc (hΦ 5 (by decide)) (sc (hΦ 4 (by decide)) (sc (hΦ 3 (by decide)) (sc (hΦ 2 (by decide)) (sc (hΦ 1 (by decide)) (sc (hΦ 0 (by decide)) rfl))))))))))))))
             have hP : Post Z [cellC a0_b #[a0_v0, (I (W (a0.2.1 + 1))), (.bool false), (.bool x8), c61, c62, c63, c64, c65, c66, c67, a0_v5] 41, roK 4 1 boolE a0_v0 a0.1, progO Try.prog encInt a0.2.2.2.2.1 (Value.agg #[a0_c4_0, a0_c4_1, a0_c4_2, a0_c4_3, a0_c4_4, a0_c4_5, a0_c4_6]) a0_F4, rowK 3 1 i64 a0_v5 a0.2.2.2.2.2, memK a2_g x53.2.2, cellC b1 ((planC a1)).toArray 23, progK Try.prog encInt (fu, (D.free_Pop (fu + 1) a1)) (Value.agg #[c24, c25, c26, c27, c28, c29, c30]) (rg w16.heap.size w19.heap.size), progK Try.prog encInt (fu, (D.free_Push (fu + 1) a1 x35)) (Value.agg #[c39, c40, c41, c42, c43, c44, c45]) F38, progK Try.prog encInt x53.1 (Value.agg #[c61, c62, c63, c64, c65, c66, c67]) F55, cellC b57 (Value.agg #[c61, c62, c63, c64, c65, c66, c67]).cells 38] w0 w79 := hP.below hb
             have hP : Post Z [cellC a0_b #[a0_v0, (I (W (a0.2.1 + 1))), (.bool false), (.bool x8), c61, c62, c63, c64, c65, c66, c67, a0_v5] 41, roK 4 1 boolE a0_v0 a0.1, progO Try.prog encInt a0.2.2.2.2.1 (Value.agg #[a0_c4_0, a0_c4_1, a0_c4_2, a0_c4_3, a0_c4_4, a0_c4_5, a0_c4_6]) a0_F4, rowK 3 1 i64 (sliceV 1 a0_v5 (0 : Int).toNat (W ((a0.2.2.2.2.2.length : Int) - 1)).toNat) x78, memK a2_g x53.2.2, cellC b1 ((planC a1)).toArray 23, progK Try.prog encInt (fu, (D.free_Pop (fu + 1) a1)) (Value.agg #[c24, c25, c26, c27, c28, c29, c30]) (rg w16.heap.size w19.heap.size), progK Try.prog encInt (fu, (D.free_Push (fu + 1) a1 x35)) (Value.agg #[c39, c40, c41, c42, c43, c44, c45]) F38, progK Try.prog encInt x53.1 (Value.agg #[c61, c62, c63, c64, c65, c66, c67]) F55, cellC b57 (Value.agg #[c61, c62, c63, c64, c65, c66, c67]).cells 38] w0 w79 := hP.narrow (i := 3) rfl (fun _ => rfl) hx78
             refine seq_upd (.cells #[a0_v0, (I (W (a0.2.1 + 1))), (.bool false), (.bool x8), c61, c62, c63, c64, c65, c66, c67, (sliceV 1 a0_v5 (0 : Int).toNat (W ((a0.2.2.2.2.2.length : Int) - 1)).toNat)] 41 (0, 0)) r (fun R => y_storeV r (o := 11) (n := 1) (v := (sliceV 1 a0_v5 (0 : Int).toNat (W ((a0.2.2.2.2.2.length : Int) - 1)).toNat)) (cs := [(sliceV 1 a0_v5 (0 : Int).toNat (W ((a0.2.2.2.2.2.length : Int) - 1)).toNat)]) rfl rfl (RoAt.cells1 (hP.row (i := 3) rfl).ro) (pall_cons (RoAt.plain (hP.row (i := 3) rfl).ro) pall_nil) rfl (hP.cell (i := 0) rfl) ts39 (Nat.le_of_ble_eq_true rfl) rfl) rfl fun fr w80 u81 r => ?_
             have hP : Post Z [cellC a0_b #[a0_v0, (I (W (a0.2.1 + 1))), (.bool false), (.bool x8), c61, c62, c63, c64, c65, c66, c67, (sliceV 1 a0_v5 (0 : Int).toNat (W ((a0.2.2.2.2.2.length : Int) - 1)).toNat)] 41, roK 4 1 boolE a0_v0 a0.1, progO Try.prog encInt a0.2.2.2.2.1 (Value.agg #[a0_c4_0, a0_c4_1, a0_c4_2, a0_c4_3, a0_c4_4, a0_c4_5, a0_c4_6]) a0_F4, rowK 3 1 i64 (sliceV 1 a0_v5 (0 : Int).toNat (W ((a0.2.2.2.2.2.length : Int) - 1)).toNat) x78, memK a2_g x53.2.2, cellC b1 ((planC a1)).toArray 23, progK Try.prog encInt (fu, (D.free_Pop (fu + 1) a1)) (Value.agg #[c24, c25, c26, c27, c28, c29, c30]) (rg w16.heap.size w19.heap.size), progK Try.prog encInt (fu, (D.free_Push (fu + 1) a1 x35)) (Value.agg #[c39, c40, c41, c42, c43, c44, c45]) F38, progK Try.prog encInt x53.1 (Value.agg #[c61, c62, c63, c64, c65, c66, c67]) F55, cellC b57 (Value.agg #[c61, c62, c63, c64, c65, c66, c67]).cells 38] w0 w80 := hP.upd (i := 0) rfl u81
             refine wn ?_
             refine wsr ?_
             refine seq_val (I x71.1) r (fun R => y_move r rfl) rfl fun fr r => ?_
             refine seq_val (I x76) r (fun R => y_move r rfl) rfl fun fr r => ?_
             refine seq_val _ r (fun R => y_bin r rfl rfl rfl rfl) rfl fun fr r => ?_
             refine seq_val (.bool (x71.1 == x76)) r (fun R => y_assign r rfl) rfl fun fr r => ?_
             refine wn ?_
             refine wp_ret ?_
             have hP : Post Z [cellC a0_b #[a0_v0, (I (W (a0.2.1 + 1))), (.bool false), (.bool x8), c61, c62, c63, c64, c65, c66, c67, (sliceV 1 a0_v5 (0 : Int).toNat (W ((a0.2.2.2.2.2.length : Int) - 1)).toNat)] 41, roK 4 1 boolE a0_v0 a0.1, progO Try.prog encInt a0.2.2.2.2.1 (Value.agg #[a0_c4_0, a0_c4_1, a0_c4_2, a0_c4_3, a0_c4_4, a0_c4_5, a0_c4_6]) a0_F4, rowK 3 1 i64 (sliceV 1 a0_v5 (0 : Int).toNat (W ((a0.2.2.2.2.2.length : Int) - 1)).toNat) x78, memK a2_g x53.2.2, cellC b1 ((planC a1)).toArray 23, progK Try.prog encInt (fu, (D.free_Pop (fu + 1) a1)) (Value.agg #[c24, c25, c26, c27, c28, c29, c30]) (rg w16.heap.size w19.heap.size), progK Try.prog encInt (fu, (D.free_Push (fu + 1) a1 x35)) (Value.agg #[c39, c40, c41, c42, c43, c44, c45]) F38, progO Try.prog encInt x53.1 (Value.agg #[c61, c62, c63, c64, c65, c66, c67]) F55, cellC b57 (Value.agg #[c61, c62, c63, c64, c65, c66, c67]).cells 38] w0 w80 := hP.toO (i := 8) rfl
             have hv : ((x71.1 == x76), (a0.1, (W (a0.2.1 + 1)), false, x8, x53.1, x78), x53.2.2) = res := Option.some.inj hD
             try dsimp only [Exit.then, Exit.inBlock]
             refine ret_tmp (fn := Try.f8) r (t := 6) rfl (v := (.bool (x71.1 == x76))) rfl ?_
             subst hv
             exact ⟨(⟨a0_b, a0_v0, c61, c62, c63, c64, c65, c66, c67, F55, (sliceV 1 a0_v5 (0 : Int).toNat (W ((a0.2.2.2.2.2.length : Int) - 1)).toNat)⟩ : Gth9), rfl, rfl, (hP.pick [0, 1, 8, 3, 4] rfl rfl).done (rest_cons rfl (rest_consP (fun b h => .inl (hY _ (List.mem_cons_of_mem _ (List.mem_cons_self ..)) b h)) (rest_consP fp59 (rest_cons rfl (rest_cons rfl rest_nil)))))⟩
     ·
      have hD := (cond_f h14).symm.trans hD
      refine s0 r h14 fun fr r => ?_
      refine s0 r h14 fun fr r => ?_
      refine s0 r h14 fun fr r => ?_
      refine s0 r h14 fun fr r => ?_
      refine s0 r h14 fun fr r => ?_
      refine s0 r h14 fun fr r => ?_
      refine seq_val (.bool false) r (fun R => y_pick r (b := false) (congrArg Value.bool h14) rfl) rfl fun fr r => ?_
      refine wn ?_
      refine wp_cond_split (t := false) (r.ev rfl) (fun h => absurd ((rfl : false = _).symm.trans h) (by decide)) (fun _ => ?_)
      refine wp_skip ?_
      refine wsr ?_
      refine seq_val (.pointer (some ⟨a0_b, 0, none⟩)) r (fun R => y_move r rfl) rfl fun fr r => ?_
      refine seq_val (.pointer (some ⟨a0_b, 0, none⟩)) r (fun R => y_nilCheck r rfl) rfl fun fr r => ?_
      refine seq_val _ r (fun R => y_fieldAddr r (o := 0) rfl fo41_2) rfl fun fr r => ?_
      refine seq_upd (.cells #[a0_v0, (I (W (a0.2.1 + 1))), (.bool true), (.bool x8), a0_c4_0, a0_c4_1, a0_c4_2, a0_c4_3, a0_c4_4, a0_c4_5, a0_c4_6, a0_v5] 41 (0, 0)) r (fun R => y_storeV r (o := 2) (n := 1) (v := (.bool true)) (cs := [(.bool true)]) rfl rfl rfl (pall_cons rfl pall_nil) rfl (hP.cell (i := 0) rfl) ts4 (Nat.le_of_ble_eq_true rfl) rfl) rfl fun fr w82 u83 r => ?_
      have hP : Post Z [cellC a0_b #[a0_v0, (I (W (a0.2.1 + 1))), (.bool true), (.bool x8), a0_c4_0, a0_c4_1, a0_c4_2, a0_c4_3, a0_c4_4, a0_c4_5, a0_c4_6, a0_v5] 41, roK 4 1 boolE a0_v0 a0.1, progO Try.prog encInt a0.2.2.2.2.1 (Value.agg #[a0_c4_0, a0_c4_1, a0_c4_2, a0_c4_3, a0_c4_4, a0_c4_5, a0_c4_6]) a0_F4, rowK 3 1 i64 a0_v5 a0.2.2.2.2.2, memK a2_g a2, cellC b1 ((planC a1)).toArray 23] w0 w82 := hP.upd (i := 0) rfl u83
      refine wn ?_
      refine wsr ?_
      refine seq_val (.pointer (some ⟨a0_b, 0, none⟩)) r (fun R => y_move r rfl) rfl fun fr r => ?_
      refine seq_val (.agg (planC a1).toArray) r (fun R => y_load_agg r (cs := (planC a1)) (n := 6) rfl (hP.cell (i := 5) rfl) ta23 rfl) rfl fun fr r => ?_
      have z84 := hP.size
      refine seq_call r ((c_free_Pop (n := fu) (k := fu + 1) (by omega)) No w82 (fun _ h => h.elim) a1) (fun R hc => y_call r rfl cl17 hc) rfl ?_
      rintro _ w85 ⟨v86, rfl, hb, hr87⟩
      refine ⟨_, rfl, fun fr r => ?_⟩
      have hP : Post Z [cellC a0_b #[a0_v0, (I (W (a0.2.1 + 1))), (.bool true), (.bool x8), a0_c4_0, a0_c4_1, a0_c4_2, a0_c4_3, a0_c4_4, a0_c4_5, a0_c4_6, a0_v5] 41, roK 4 1 boolE a0_v0 a0.1, progO Try.prog encInt a0.2.2.2.2.1 (Value.agg #[a0_c4_0, a0_c4_1, a0_c4_2, a0_c4_3, a0_c4_4, a0_c4_5, a0_c4_6]) a0_F4, rowK 3 1 i64 a0_v5 a0.2.2.2.2.2, memK a2_g a2, cellC b1 ((planC a1)).toArray 23, progK Try.prog encInt (fu, (D.free_Pop (fu + 1) a1)) v86 (rg w82.heap.size w85.heap.size)] w0 w85 := hP.addProg hb hr87
      have fp89 : ∀ b, b ∈ (rg w82.heap.size w85.heap.size) → Y b ∨ w0.heap.size ≤ b := fun b h => .inr (Nat.le_trans z84 (mem_rg.1 h).1)
      refine seq_val (.pointer (some ⟨a0_b, 0, none⟩)) r (fun R => y_nilCheck r rfl) rfl fun fr r => ?_
      refine seq_val _ r (fun R => y_fieldAddr r (o := 0) rfl fo41_4) rfl fun fr r => ?_
      obtain ⟨c90, c91, c92, c93, c94, c95, c96, e97⟩ := shape7 (hP.prog (i := 6) rfl).shape rfl
      subst e97
      refine seq_upd (.cells #[a0_v0, (I (W (a0.2.1 + 1))), (.bool true), (.bool x8), c90, c91, c92, c93, c94, c95, c96, a0_v5] 41 (0, 0)) r (fun R => y_storeV r (o := 4) (n := 7) (v := (Value.agg #[c90, c91, c92, c93, c94, c95, c96])) (cs := [c90, c91, c92, c93, c94, c95, c96]) rfl rfl rfl (hP.prog (i := 6) rfl).shape.cells.2.1 rfl (hP.cell (i := 0) rfl) ts38 (Nat.le_of_ble_eq_true rfl) rfl) rfl fun fr w98 u99 r => ?_
      have hP : Post Z [cellC a0_b #[a0_v0, (I (W (a0.2.1 + 1))), (.bool true), (.bool x8), c90, c91, c92, c93, c94, c95, c96, a0_v5] 41, roK 4 1 boolE a0_v0 a0.1, progO Try.prog encInt a0.2.2.2.2.1 (Value.agg #[a0_c4_0, a0_c4_1, a0_c4_2, a0_c4_3, a0_c4_4, a0_c4_5, a0_c4_6]) a0_F4, rowK 3 1 i64 a0_v5 a0.2.2.2.2.2, memK a2_g a2, cellC b1 ((planC a1)).toArray 23, progK Try.prog encInt (fu, (D.free_Pop (fu + 1) a1)) (Value.agg #[c90, c91, c92, c93, c94, c95, c96]) (rg w82.heap.size w85.heap.size)] w0 w98 := hP.upd (i := 0) rfl u99
      refine wn ?_
      refine wsr ?_
      refine seq_val (.pointer (some ⟨a0_b, 0, none⟩)) r (fun R => y_move r rfl) rfl fun fr r => ?_
      refine seq_val (.pointer (some ⟨a0_b, 0, none⟩)) r (fun R => y_nilCheck r rfl) rfl fun fr r => ?_
      refine seq_val _ r (fun R => y_fieldAddr r (o := 0) rfl fo41_3) rfl fun fr r => ?_
      refine seq_val (.bool x8) r (fun R => y_load_one r rfl (hP.cell (i := 0) rfl) to4 rfl) rfl fun fr r => ?_
      refine seq_val (.bool (!x8)) r (fun R => y_un r (u := (.bool x8)) rfl rfl) rfl fun fr r => ?_
      refine wn ?_
      refine wp_cond_split (t := (!x8)) (r.ev rfl) (fun h => absurd (h14.symm.trans h) (by decide)) (fun _ => ?_)
      refine wp_skip ?_
      refine wp_seq ?_
      have z100 := hP.size
      obtain ⟨x101, hx101, hD⟩ := bindD_elim hD
      obtain ⟨x102, hx102, hD⟩ := bindD_elim hD
      refine wp_freeE a2_g.bs [.val (.pointer (some ⟨a0_b, 0, none⟩)), .val (.pointer (some ⟨a0_b, 0, none⟩)), .val (.pointer (some ⟨a0_b, 4, none⟩)), .val (Value.agg #[c90, c91, c92, c93, c94, c95, c96]), .val (.pointer (some ⟨a2_g.mb, 0, none⟩)), .val (.pointer (some ⟨a2_g.mb, 0, none⟩)), .val (.agg (capC x101).toArray), .eff (EffR Try.prog encInt w98.heap.size (rg w82.heap.size w85.heap.size) (memK a2_g x102.2.2) x102.1 (.bool x102.2.1)) EffR.st, .dep 7 (fun u v => v = u ∧ ∃ y, v = .tuple #[y, (.bool x102.2.1)] ∧ Shape encInt y), .dep 8 (fun u v => Shape encInt v ∧ u = .tuple #[v, (.bool x102.2.1)]), .val (.bool x102.2.1), .cell 38 7, .storedD 11 9 (fun v => v.cells) 38 7, .val (.bool x102.2.1)] mixed r (fun b hb => hP.sep.lt (i := 4) rfl (.inl hb)) (by kernel_rfl) ?_ ?_
      ·
       refine eachE_late r rfl (fun fr1 g w' hk' hd r' => ?_) ?_
       · exact y_move r' (v := (.pointer (some ⟨a0_b, 0, none⟩))) rfl ⟨Below.refl _ _, rfl⟩
       refine eachE_late r rfl (fun fr1 g w' hk' hd r' => ?_) ?_
       · exact y_nilCheck r' (hd 0 rfl).1 ⟨Below.refl _ _, rfl⟩
       refine eachE_late r rfl (fun fr1 g w' hk' hd r' => ?_) ?_
       · exact y_fieldAddr r' (b := a0_b) (o := 0) (k := 4) (hd 1 rfl).1 fo41_4 ⟨Below.refl _ _, rfl⟩
       refine eachE_early r rfl (by kernel_rfl) (fun fr1 g w' hb' hd r' => ?_) ?_
       · exact y_load_agg r' (cs := [c90, c91, c92, c93, c94, c95, c96]) (n := 7) (hd 2 rfl).1 ((hP.below (dr hb')).cell (i := 0) rfl) ta38 rfl ⟨Below.refl _ _, rfl⟩
       refine eachE_early r rfl (by kernel_rfl) (fun fr1 g w' hb' hd r' => ?_) ?_
       · exact y_move r' (v := (.pointer (some ⟨a2_g.mb, 0, none⟩))) rfl ⟨Below.refl _ _, rfl⟩
       refine eachE_late r rfl (fun fr1 g w' hk' hd r' => ?_) ?_
       · exact y_move r' (v := (.pointer (some ⟨a2_g.mb, 0, none⟩))) rfl ⟨Below.refl _ _, rfl⟩
       refine eachE_early r rfl (by kernel_rfl) (fun fr1 g w' hb' hd r' => ?_) ?_
       · exact y_call r' (args := [(.pointer (some ⟨a2_g.mb, 0, none⟩)), (I 0)]) (lc (hd 5 rfl).1 (lc rfl l0)) cl16 ((c_mem_Memory_Cap _ a2 ((hP.below (dr hb')).mem (i := 4) rfl) 0 hx101).mono (by rintro _ w2 ⟨rfl, hb2⟩; exact ⟨_, rfl, hb2, rfl⟩))
       refine eachE_early r rfl (by kernel_rfl) (fun fr1 g w' hb' hd r' => ?_) ?_
       · exact y_call r' (args := [(Value.agg #[c90, c91, c92, c93, c94, c95, c96]), (.pointer (some ⟨a2_g.mb, 0, none⟩)), (.agg (capC x101).toArray)]) (lc (hd 3 rfl).1 (lc (hd 4 rfl).1 (lc (hd 6 rfl).1 l0))) cl19 ((c_prog_Prog_int_Step _ (fu, (D.free_Pop (fu + 1) a1)) a2 x101 ((hP.below (dr hb')).sep.pk [6, 4] rfl rfl) hx102).mono (by rintro _ w2 ⟨y, F, rfl, hq⟩; exact ⟨_, rfl, hq.chg.kept, EffR.of hq (fun b hb => hP.sep.lt (i := 4) rfl hb) (fun b hb => hP.sep.lt (i := 6) rfl (.inr hb))⟩))
       refine eachE_late r rfl (fun fr1 g w' hk' hd r' => ?_) ?_
       · obtain ⟨y, F, hv, _, _, _, hr, _⟩ := (hd 7 rfl).1; exact y_move r' (v := (g 7).v) rfl ⟨Below.refl _ _, rfl, y, hv, hr.shape⟩
       refine eachE_late r rfl (fun fr1 g w' hk' hd r' => ?_) ?_
       · obtain ⟨_, y, hv, hs⟩ := (hd 8 rfl).1; exact y_extract r' (vs := #[y, (.bool x102.2.1)]) hv rfl ⟨Below.refl _ _, hs, hv⟩
       refine eachE_late r rfl (fun fr1 g w' hk' hd r' => ?_) ?_
       · obtain ⟨_, y, hv, hs⟩ := (hd 8 rfl).1; exact y_extract r' (vs := #[y, (.bool x102.2.1)]) hv rfl ⟨Below.refl _ _, rfl⟩
       refine eachE_late r rfl (fun fr1 g w' hk' hd r' => ?_) ?_
       · exact y_alloc tz38 (fun b w2 n2 => ⟨n2.below, b, rfl, n2.eq, _, n2.at_, rfl⟩)
       refine eachE_late r rfl (fun fr1 g w' hk' hd r' => ?_) ?_
       · obtain ⟨hp, _, c, hc, hn⟩ := (hd 11 rfl).1; obtain ⟨hs, _⟩ := (hd 9 rfl).1; exact y_storep r' hs hp rfl hc ts38 hn (fun w2 u2 => ⟨u2, rfl, hs.cells.1⟩)
       refine eachE_late r rfl (fun fr1 g w' hk' hd r' => ?_) ?_
       · exact y_assign r' (v := (.bool x102.2.1)) (hd 10 rfl).1 ⟨Below.refl _ _, rfl⟩
       exact eachF_nil
      ·
       intro fr gg w107 hb hΦ hap r
       obtain ⟨v103, F104, g7, hcE, _, _, hrE, hFE⟩ := (hΦ 7 rfl).1
       have g8 := (hΦ 8 rfl).1.1.trans g7
       have g9 : (gg 9).v = v103 := tup_eq ((hΦ 9 rfl).1.2.symm.trans g8)
       obtain ⟨b106, ee_b106⟩ : ∃ b, b = (gg 11).lo := ⟨_, rfl⟩
       have g11 : (gg 11).v = (.pointer (some ⟨b106, 0, none⟩)) := by rw [ee_b106]; exact (hΦ 11 rfl).1.1
       have h_b106 : w107.heap[b106]? = some (.cells v103.cells 38 (0, 0)) := by rw [ee_b106, ← g9]; exact (hΦ 12 rfl).1.2
       have hs11 : Fresh [cellC b106 v103.cells 38] (gg 11).lo (gg 11).hi w107 := by subst ee_b106; exact Fresh.cell (hΦ 11 rfl).1.2.1 h_b106
       have r := r.congr (sc ((hΦ 13 rfl).1) (sc g11 (sc ((hΦ 10 rfl).1) (sc g9 (sc g8 (sc g7 (sc ((hΦ 6 rfl).1) (sc ((hΦ 5 rfl).1) (sc ((hΦ 4 rfl).1) (sc ((hΦ 3 rfl).1) (sc ((hΦ 2 rfl).1) (sc ((hΦ 1 rfl).1) (sc ((hΦ 0 rfl).1) rfl)))))))))))))
       have hP : Post Z [cellC a0_b #[a0_v0, (I (W (a0.2.1 + 1))), (.bool true), (.bool x8), c90, c91, c92, c93, c94, c95, c96, a0_v5] 41, roK 4 1 boolE a0_v0 a0.1, progO Try.prog encInt a0.2.2.2.2.1 (Value.agg #[a0_c4_0, a0_c4_1, a0_c4_2, a0_c4_3, a0_c4_4, a0_c4_5, a0_c4_6]) a0_F4, rowK 3 1 i64 a0_v5 a0.2.2.2.2.2, memK a2_g x102.2.2, cellC b1 ((planC a1)).toArray 23, progK Try.prog encInt (fu, (D.free_Pop (fu + 1) a1)) (Value.agg #[c90, c91, c92, c93, c94, c95, c96]) (rg w82.heap.size w85.heap.size), progK Try.prog encInt x102.1 v103 F104, cellC b106 v103.cells 38] w0 w107 := hP.effR (i := 4) (k := 6) (l := [([cellC b106 v103.cells 38], (gg 11).lo, (gg 11).hi)]) rfl rfl rfl hb hcE rfl rfl rfl hrE hFE (hΦ 7 rfl).2.1 (hΦ 7 rfl).2.2.2 ⟨hs11, (hΦ 11 rfl).2.1, disj_nil, trivial⟩ (disj_cons (hap 7 11 rfl) disj_nil)
       have fp108 : ∀ b, b ∈ F104 → Y b ∨ w0.heap.size ≤ b := fun b h => (hFE b h).2.elim (fp89 b) (fun h1 => .inr (by have := h1.1; have := (hΦ 7 rfl).2.1; omega))
       refine wp_seq ?_
       refine wsr ?_
       refine seq_val (.bool x102.2.1) r (fun R => y_move r rfl) rfl fun fr r => ?_
       refine seq_val (.bool (!x102.2.1)) r (fun R => y_un r (u := (.bool x102.2.1)) rfl rfl) rfl fun fr r => ?_
       refine wn ?_
       refine wp_cond_split (t := (!x102.2.1)) (r.ev rfl) (fun h109 => ?_) (fun h109 => ?_)
       ·
        have hD := (cond_t h109).symm.trans hD
        refine wsr ?_
        refine seq_val (.bool false) r (fun R => y_assign r rfl) rfl fun fr r => ?_
        refine wn ?_
        refine wp_ret ?_
        have hP : Post Z [cellC a0_b #[a0_v0, (I (W (a0.2.1 + 1))), (.bool true), (.bool x8), c90, c91, c92, c93, c94, c95, c96, a0_v5] 41, roK 4 1 boolE a0_v0 a0.1, progO Try.prog encInt a0.2.2.2.2.1 (Value.agg #[a0_c4_0, a0_c4_1, a0_c4_2, a0_c4_3, a0_c4_4, a0_c4_5, a0_c4_6]) a0_F4, rowK 3 1 i64 a0_v5 a0.2.2.2.2.2, memK a2_g x102.2.2, cellC b1 ((planC a1)).toArray 23, progO Try.prog encInt (fu, (D.free_Pop (fu + 1) a1)) (Value.agg #[c90, c91, c92, c93, c94, c95, c96]) (rg w82.heap.size w85.heap.size), progK Try.prog encInt x102.1 v103 F104, cellC b106 v103.cells 38] w0 w107 := hP.toO (i := 6) rfl
        have hv : (false, (a0.1, (W (a0.2.1 + 1)), true, x8, (fu, (D.free_Pop (fu + 1) a1)), a0.2.2.2.2.2), x102.2.2) = res := Option.some.inj hD
        try dsimp only [Exit.then, Exit.inBlock]
        refine ret_tmp (fn := Try.f8) r (t := 6) rfl (v := (.bool false)) rfl ?_
        subst hv
        exact ⟨(⟨a0_b, a0_v0, c90, c91, c92, c93, c94, c95, c96, (rg w82.heap.size w85.heap.size), a0_v5⟩ : Gth9), rfl, rfl, (hP.pick [0, 1, 6, 3, 4] rfl rfl).done (rest_cons rfl (rest_consP (fun b h => .inl (hY _ (List.mem_cons_of_mem _ (List.mem_cons_self ..)) b h)) (rest_consP fp89 (rest_cons rfl (rest_cons rfl rest_nil)))))⟩
       ·
        have hD := (cond_f h109).symm.trans hD
        refine wp_skip ?_
        refine wsr ?_
        refine seq_val (.pointer (some ⟨a0_b, 0, none⟩)) r (fun R => y_move r rfl) rfl fun fr r => ?_
        refine seq_val v103 r (fun R => y_loadp r (hP.prog (i := 7) rfl).shape rfl (hP.cell (i := 8) rfl) ta38) rfl fun fr r => ?_
        refine seq_val (.pointer (some ⟨a0_b, 0, none⟩)) r (fun R => y_nilCheck r rfl) rfl fun fr r => ?_
        refine seq_val _ r (fun R => y_fieldAddr r (o := 0) rfl fo41_4) rfl fun fr r => ?_
        obtain ⟨c110, c111, c112, c113, c114, c115, c116, e117⟩ := shape7 (hP.prog (i := 7) rfl).shape rfl
        subst e117
        refine seq_upd (.cells #[a0_v0, (I (W (a0.2.1 + 1))), (.bool true), (.bool x8), c110, c111, c112, c113, c114, c115, c116, a0_v5] 41 (0, 0)) r (fun R => y_storeV r (o := 4) (n := 7) (v := (Value.agg #[c110, c111, c112, c113, c114, c115, c116])) (cs := [c110, c111, c112, c113, c114, c115, c116]) rfl rfl rfl (hP.prog (i := 7) rfl).shape.cells.2.1 rfl (hP.cell (i := 0) rfl) ts38 (Nat.le_of_ble_eq_true rfl) rfl) rfl fun fr w118 u119 r => ?_
        have hP : Post Z [cellC a0_b #[a0_v0, (I (W (a0.2.1 + 1))), (.bool true), (.bool x8), c110, c111, c112, c113, c114, c115, c116, a0_v5] 41, roK 4 1 boolE a0_v0 a0.1, progO Try.prog encInt a0.2.2.2.2.1 (Value.agg #[a0_c4_0, a0_c4_1, a0_c4_2, a0_c4_3, a0_c4_4, a0_c4_5, a0_c4_6]) a0_F4, rowK 3 1 i64 a0_v5 a0.2.2.2.2.2, memK a2_g x102.2.2, cellC b1 ((planC a1)).toArray 23, progK Try.prog encInt (fu, (D.free_Pop (fu + 1) a1)) (Value.agg #[c90, c91, c92, c93, c94, c95, c96]) (rg w82.heap.size w85.heap.size), progK Try.prog encInt x102.1 (Value.agg #[c110, c111, c112, c113, c114, c115, c116]) F104, cellC b106 (Value.agg #[c110, c111, c112, c113, c114, c115, c116]).cells 38] w0 w118 := hP.upd (i := 0) rfl u119
        refine wn ?_
        refine wsr ?_
        refine seq_val (Value.agg #[c110, c111, c112, c113, c114, c115, c116]) r (fun R => y_loadp r (hP.prog (i := 7) rfl).shape rfl (hP.cell (i := 8) rfl) ta38) rfl fun fr r => ?_
        obtain ⟨x120, hx120, hD⟩ := bindD_elim hD
        refine seq_call r (c_prog_Prog_int_Over w118 x102.1 (hP.prog (i := 7) rfl) (fun b hb => hP.sep.lt (i := 7) rfl (.inr hb)) hx120) (fun R hc => y_call r rfl cl20 hc) rfl ?_
        rintro _ w121 ⟨rfl, hb⟩
        refine ⟨_, rfl, fun fr r => ?_⟩
        have hP : Post Z [cellC a0_b #[a0_v0, (I (W (a0.2.1 + 1))), (.bool true), (.bool x8), c110, c111, c112, c113, c114, c115, c116, a0_v5] 41, roK 4 1 boolE a0_v0 a0.1, progO Try.prog encInt a0.2.2.2.2.1 (Value.agg #[a0_c4_0, a0_c4_1, a0_c4_2, a0_c4_3, a0_c4_4, a0_c4_5, a0_c4_6]) a0_F4, rowK 3 1 i64 a0_v5 a0.2.2.2.2.2, memK a2_g x102.2.2, cellC b1 ((planC a1)).toArray 23, progK Try.prog encInt (fu, (D.free_Pop (fu + 1) a1)) (Value.agg #[c90, c91, c92, c93, c94, c95, c96]) (rg w82.heap.size w85.heap.size), progK Try.prog encInt x102.1 (Value.agg #[c110, c111, c112, c113, c114, c115, c116]) F104, cellC b106 (Value.agg #[c110, c111, c112, c113, c114, c115, c116]).cells 38] w0 w121 := hP.below hb
        refine seq_val (.tuple #[(I x120.1), (.bool x120.2)]) r (fun R => y_move r rfl) rfl fun fr r => ?_
        refine seq_val (I x120.1) r (fun R => y_extract r (vs := #[(I x120.1), (.bool x120.2)]) rfl rfl) rfl fun fr r => ?_
        refine seq_val (.bool x120.2) r (fun R => y_extract r (vs := #[(I x120.1), (.bool x120.2)]) rfl rfl) rfl fun fr r => ?_
        refine seq_val (I x120.1) r (fun R => y_assign r rfl) rfl fun fr r => ?_
        refine seq_val (.bool x120.2) r (fun R => y_assign r rfl) rfl fun fr r => ?_
        refine wn ?_
        refine wp_seq ?_
        refine wsr ?_
        refine seq_val (.bool x120.2) r (fun R => y_move r rfl) rfl fun fr r => ?_
        refine seq_val (.bool (!x120.2)) r (fun R => y_un r (u := (.bool x120.2)) rfl rfl) rfl fun fr r => ?_
        refine wn ?_
        refine wp_cond_split (t := (!x120.2)) (r.ev rfl) (fun h122 => ?_) (fun h122 => ?_)
        ·
         have hD := (cond_t h122).symm.trans hD
         refine wsr ?_
         refine seq_val (.bool true) r (fun R => y_assign r rfl) rfl fun fr r => ?_
         refine wn ?_
         refine wp_ret ?_
         have hP : Post Z [cellC a0_b #[a0_v0, (I (W (a0.2.1 + 1))), (.bool true), (.bool x8), c110, c111, c112, c113, c114, c115, c116, a0_v5] 41, roK 4 1 boolE a0_v0 a0.1, progO Try.prog encInt a0.2.2.2.2.1 (Value.agg #[a0_c4_0, a0_c4_1, a0_c4_2, a0_c4_3, a0_c4_4, a0_c4_5, a0_c4_6]) a0_F4, rowK 3 1 i64 a0_v5 a0.2.2.2.2.2, memK a2_g x102.2.2, cellC b1 ((planC a1)).toArray 23, progK Try.prog encInt (fu, (D.free_Pop (fu + 1) a1)) (Value.agg #[c90, c91, c92, c93, c94, c95, c96]) (rg w82.heap.size w85.heap.size), progO Try.prog encInt x102.1 (Value.agg #[c110, c111, c112, c113, c114, c115, c116]) F104, cellC b106 (Value.agg #[c110, c111, c112, c113, c114, c115, c116]).cells 38] w0 w121 := hP.toO (i := 7) rfl
         have hv : (true, (a0.1, (W (a0.2.1 + 1)), true, x8, x102.1, a0.2.2.2.2.2), x102.2.2) = res := Option.some.inj hD
         try dsimp only [Exit.then, Exit.inBlock]
         refine ret_tmp (fn := Try.f8) r (t := 6) rfl (v := (.bool true)) rfl ?_
         subst hv
         exact ⟨(⟨a0_b, a0_v0, c110, c111, c112, c113, c114, c115, c116, F104, a0_v5⟩ : Gth9), rfl, rfl, (hP.pick [0, 1, 7, 3, 4] rfl rfl).done (rest_cons rfl (rest_consP (fun b h => .inl (hY _ (List.mem_cons_of_mem _ (List.mem_cons_self ..)) b h)) (rest_consP fp108 (rest_cons rfl (rest_cons rfl rest_nil)))))⟩
        ·
         have hD := (cond_f h122).symm.trans hD
         refine wp_skip ?_
         refine wsr ?_
         refine seq_val (.pointer (some ⟨a0_b, 0, none⟩)) r (fun R => y_move r rfl) rfl fun fr r => ?_
         refine seq_val (.pointer (some ⟨a0_b, 0, none⟩)) r (fun R => y_nilCheck r rfl) rfl fun fr r => ?_
         refine seq_val _ r (fun R => y_fieldAddr r (o := 0) rfl fo41_2) rfl fun fr r => ?_
         refine seq_upd (.cells #[a0_v0, (I (W (a0.2.1 + 1))), (.bool false), (.bool x8), c110, c111, c112, c113, c114, c115, c116, a0_v5] 41 (0, 0)) r (fun R => y_storeV r (o := 2) (n := 1) (v := (.bool false)) (cs := [(.bool false)]) rfl rfl rfl (pall_cons rfl pall_nil) rfl (hP.cell (i := 0) rfl) ts4 (Nat.le_of_ble_eq_true rfl) rfl) rfl fun fr w123 u124 r => ?_
         have hP : Post Z [cellC a0_b #[a0_v0, (I (W (a0.2.1 + 1))), (.bool false), (.bool x8), c110, c111, c112, c113, c114, c115, c116, a0_v5] 41, roK 4 1 boolE a0_v0 a0.1, progO Try.prog encInt a0.2.2.2.2.1 (Value.agg #[a0_c4_0, a0_c4_1, a0_c4_2, a0_c4_3, a0_c4_4, a0_c4_5, a0_c4_6]) a0_F4, rowK 3 1 i64 a0_v5 a0.2.2.2.2.2, memK a2_g x102.2.2, cellC b1 ((planC a1)).toArray 23, progK Try.prog encInt (fu, (D.free_Pop (fu + 1) a1)) (Value.agg #[c90, c91, c92, c93, c94, c95, c96]) (rg w82.heap.size w85.heap.size), progK Try.prog encInt x102.1 (Value.agg #[c110, c111, c112, c113, c114, c115, c116]) F104, cellC b106 (Value.agg #[c110, c111, c112, c113, c114, c115, c116]).cells 38] w0 w123 := hP.upd (i := 0) rfl u124
         refine wn ?_
         refine wp_seq ?_
         refine wsr ?_
         refine seq_val (.pointer (some ⟨a0_b, 0, none⟩)) r (fun R => y_move r rfl) rfl fun fr r => ?_
         refine seq_val (.pointer (some ⟨a0_b, 0, none⟩)) r (fun R => y_nilCheck r rfl) rfl fun fr r => ?_
         refine seq_val _ r (fun R => y_fieldAddr r (o := 0) rfl fo41_3) rfl fun fr r => ?_
         refine seq_val (.bool x8) r (fun R => y_load_one r rfl (hP.cell (i := 0) rfl) to4 rfl) rfl fun fr r => ?_
         refine wn ?_
         refine wp_cond_split (t := x8) (r.ev rfl) (fun _ => ?_) (fun h => absurd ((show x8 = true from nt h14).symm.trans h) (by decide))
         refine wp_seq ?_
         refine wsr ?_
         refine seq_val (I x120.1) r (fun R => y_move r rfl) rfl fun fr r => ?_
         refine seq_val _ r (fun R => y_bin r rfl rfl rfl rfl) rfl fun fr r => ?_
         refine wn ?_
         refine wp_cond_split (t := (decide (x120.1 ≥ 0))) (r.ev rfl) (fun h125 => ?_) (fun h125 => ?_)
         ·
          have hD := (cond_t h125).symm.trans hD
          refine wp_region_lit ?_
          refine seq_val (.pointer (some ⟨a0_b, 0, none⟩)) r (fun R => y_move r rfl) rfl fun fr r => ?_
          refine seq_val (.pointer (some ⟨a0_b, 0, none⟩)) r (fun R => y_move r rfl) rfl fun fr r => ?_
          refine seq_val (.pointer (some ⟨a0_b, 0, none⟩)) r (fun R => y_nilCheck r rfl) rfl fun fr r => ?_
          refine seq_val _ r (fun R => y_fieldAddr r (o := 0) rfl fo41_5) rfl fun fr r => ?_
          refine seq_val a0_v5 r (fun R => y_load_one r rfl (hP.cell (i := 0) rfl) to39 rfl) rfl fun fr r => ?_
          refine seq_val (I x120.1) r (fun R => y_move r rfl) rfl fun fr r => ?_
          refine seq_newS (.cells (([x120.1]).flatMap i64).toArray 3 (0, 0)) 1 r (fun R => y_bslice r (by kernel_rfl)) rfl fun fr b126 w127 n128 r => ?_
          have hP : Post Z [cellC a0_b #[a0_v0, (I (W (a0.2.1 + 1))), (.bool false), (.bool x8), c110, c111, c112, c113, c114, c115, c116, a0_v5] 41, roK 4 1 boolE a0_v0 a0.1, progO Try.prog encInt a0.2.2.2.2.1 (Value.agg #[a0_c4_0, a0_c4_1, a0_c4_2, a0_c4_3, a0_c4_4, a0_c4_5, a0_c4_6]) a0_F4, rowK 3 1 i64 a0_v5 a0.2.2.2.2.2, memK a2_g x102.2.2, cellC b1 ((planC a1)).toArray 23, progK Try.prog encInt (fu, (D.free_Pop (fu + 1) a1)) (Value.agg #[c90, c91, c92, c93, c94, c95, c96]) (rg w82.heap.size w85.heap.size), progK Try.prog encInt x102.1 (Value.agg #[c110, c111, c112, c113, c114, c115, c116]) F104, cellC b106 (Value.agg #[c110, c111, c112, c113, c114, c115, c116]).cells 38, rowK 3 1 i64 (.slice (some ⟨b126, 0, none⟩) 1 1) ([x120.1])] w0 w127 := hP.newRow n128 (fun _ => rfl) rfl
          obtain ⟨x130, hx130, hD⟩ := bindD_elim hD
          refine seq_app 3 1 i64 a0_v5 r (fun R => y_append r rt39 (fun _ => rfl) (fun _ => rfl) (hP.row (i := 3) rfl) (hP.row (i := 9) rfl).ro hx130 rfl rfl) rfl fun fr v131 w132 ha133 r => ?_
          have hP : Post Z [cellC a0_b #[a0_v0, (I (W (a0.2.1 + 1))), (.bool false), (.bool x8), c110, c111, c112, c113, c114, c115, c116, a0_v5] 41, roK 4 1 boolE a0_v0 a0.1, progO Try.prog encInt a0.2.2.2.2.1 (Value.agg #[a0_c4_0, a0_c4_1, a0_c4_2, a0_c4_3, a0_c4_4, a0_c4_5, a0_c4_6]) a0_F4, rowK 3 1 i64 v131 x130, memK a2_g x102.2.2, cellC b1 ((planC a1)).toArray 23, progK Try.prog encInt (fu, (D.free_Pop (fu + 1) a1)) (Value.agg #[c90, c91, c92, c93, c94, c95, c96]) (rg w82.heap.size w85.heap.size), progK Try.prog encInt x102.1 (Value.agg #[c110, c111, c112, c113, c114, c115, c116]) F104, cellC b106 (Value.agg #[c110, c111, c112, c113, c114, c115, c116]).cells 38, rowK 3 1 i64 (.slice (some ⟨b126, 0, none⟩) 1 1) ([x120.1])] w0 w132 := hP.append (i := 3) rfl ha133
          refine seq_val (.pointer (some ⟨a0_b, 0, none⟩)) r (fun R => y_nilCheck r rfl) rfl fun fr r => ?_
          refine seq_val _ r (fun R => y_fieldAddr r (o := 0) rfl fo41_5) rfl fun fr r => ?_
          refine seq_upd (.cells #[a0_v0, (I (W (a0.2.1 + 1))), (.bool false), (.bool x8), c110, c111, c112, c113, c114, c115, c116, v131] 41 (0, 0)) r (fun R => y_storeV r (o := 11) (n := 1) (v := v131) (cs := [v131]) rfl rfl (RoAt.cells1 (hP.row (i := 3) rfl).ro) (pall_cons (RoAt.plain (hP.row (i := 3) rfl).ro) pall_nil) rfl (hP.cell (i := 0) rfl) ts39 (Nat.le_of_ble_eq_true rfl) rfl) rfl fun fr w134 u135 r => ?_
          have hP : Post Z [cellC a0_b #[a0_v0, (I (W (a0.2.1 + 1))), (.bool false), (.bool x8), c110, c111, c112, c113, c114, c115, c116, v131] 41, roK 4 1 boolE a0_v0 a0.1, progO Try.prog encInt a0.2.2.2.2.1 (Value.agg #[a0_c4_0, a0_c4_1, a0_c4_2, a0_c4_3, a0_c4_4, a0_c4_5, a0_c4_6]) a0_F4, rowK 3 1 i64 v131 x130, memK a2_g x102.2.2, cellC b1 ((planC a1)).toArray 23, progK Try.prog encInt (fu, (D.free_Pop (fu + 1) a1)) (Value.agg #[c90, c91, c92, c93, c94, c95, c96]) (rg w82.heap.size w85.heap.size), progK Try.prog encInt x102.1 (Value.agg #[c110, c111, c112, c113, c114, c115, c116]) F104, cellC b106 (Value.agg #[c110, c111, c112, c113, c114, c115, c116]).cells 38, rowK 3 1 i64 (.slice (some ⟨b126, 0, none⟩) 1 1) ([x120.1])] w0 w134 := hP.upd (i := 0) rfl u135
          refine wn ?_
          refine wsr ?_
          refine seq_val (I x120.1) r (fun R => y_move r rfl) rfl fun fr r => ?_
          refine seq_val _ r (fun R => y_bin r rfl rfl rfl rfl) rfl fun fr r => ?_
          refine seq_val (.bool (decide (x120.1 ≥ (-1)))) r (fun R => y_move r rfl) rfl fun fr r => ?_
          refine seq_split (decide (x120.1 ≥ (-1))) (fun h136 => ?_) (fun h136 => ?_)
          ·
           have hD := (cond_t h136).symm.trans hD
           refine s1 r h136 ?_
           refine seq_val (I x120.1) r (fun R => y_move r rfl) rfl fun fr r => ?_
           refine s1 r h136 ?_
           refine seq_val _ r (fun R => y_fieldAddr r (o := 0) rfl fo23_0) rfl fun fr r => ?_
           refine s1 r h136 ?_
           refine seq_val (I a1.nodes) r (fun R => y_load_one r rfl (hP.cell (i := 5) rfl) to3 rfl) rfl fun fr r => ?_
           refine s1 r h136 ?_
           refine seq_val _ r (fun R => y_bin r rfl rfl rfl rfl) rfl fun fr r => ?_
           refine seq_val (.bool (decide (x120.1 < a1.nodes))) r (fun R => y_pick r (b := true) (congrArg Value.bool h136) rfl) rfl fun fr r => ?_
           refine seq_val (.bool (decide (x120.1 < a1.nodes))) r (fun R => y_assign r rfl) rfl fun fr r => ?_
           refine wn ?_
           refine wp_ret ?_
           have hP : Post Z [cellC a0_b #[a0_v0, (I (W (a0.2.1 + 1))), (.bool false), (.bool x8), c110, c111, c112, c113, c114, c115, c116, v131] 41, roK 4 1 boolE a0_v0 a0.1, progO Try.prog encInt a0.2.2.2.2.1 (Value.agg #[a0_c4_0, a0_c4_1, a0_c4_2, a0_c4_3, a0_c4_4, a0_c4_5, a0_c4_6]) a0_F4, rowK 3 1 i64 v131 x130, memK a2_g x102.2.2, cellC b1 ((planC a1)).toArray 23, progK Try.prog encInt (fu, (D.free_Pop (fu + 1) a1)) (Value.agg #[c90, c91, c92, c93, c94, c95, c96]) (rg w82.heap.size w85.heap.size), progO Try.prog encInt x102.1 (Value.agg #[c110, c111, c112, c113, c114, c115, c116]) F104, cellC b106 (Value.agg #[c110, c111, c112, c113, c114, c115, c116]).cells 38, rowK 3 1 i64 (.slice (some ⟨b126, 0, none⟩) 1 1) ([x120.1])] w0 w134 := hP.toO (i := 7) rfl
           have hv : ((decide (x120.1 < a1.nodes)), (a0.1, (W (a0.2.1 + 1)), false, x8, x102.1, x130), x102.2.2) = res := Option.some.inj hD
           try dsimp only [Exit.then, Exit.inBlock]
           refine ret_tmp (fn := Try.f8) r (t := 6) rfl (v := (.bool (decide (x120.1 < a1.nodes)))) rfl ?_
           subst hv
           exact ⟨(⟨a0_b, a0_v0, c110, c111, c112, c113, c114, c115, c116, F104, v131⟩ : Gth9), rfl, rfl, (hP.pick [0, 1, 7, 3, 4] rfl rfl).done (rest_cons rfl (rest_consP (fun b h => .inl (hY _ (List.mem_cons_of_mem _ (List.mem_cons_self ..)) b h)) (rest_consP fp108 (rest_cons rfl (rest_cons rfl rest_nil)))))⟩
          ·
           have hD := (cond_f h136).symm.trans hD
           refine s0 r h136 fun fr r => ?_
           refine s0 r h136 fun fr r => ?_
           refine s0 r h136 fun fr r => ?_
           refine s0 r h136 fun fr r => ?_
           refine seq_val (.bool false) r (fun R => y_pick r (b := false) (congrArg Value.bool h136) rfl) rfl fun fr r => ?_
           refine seq_val (.bool false) r (fun R => y_assign r rfl) rfl fun fr r => ?_
           refine wn ?_
           refine wp_ret ?_
           have hP : Post Z [cellC a0_b #[a0_v0, (I (W (a0.2.1 + 1))), (.bool false), (.bool x8), c110, c111, c112, c113, c114, c115, c116, v131] 41, roK 4 1 boolE a0_v0 a0.1, progO Try.prog encInt a0.2.2.2.2.1 (Value.agg #[a0_c4_0, a0_c4_1, a0_c4_2, a0_c4_3, a0_c4_4, a0_c4_5, a0_c4_6]) a0_F4, rowK 3 1 i64 v131 x130, memK a2_g x102.2.2, cellC b1 ((planC a1)).toArray 23, progK Try.prog encInt (fu, (D.free_Pop (fu + 1) a1)) (Value.agg #[c90, c91, c92, c93, c94, c95, c96]) (rg w82.heap.size w85.heap.size), progO Try.prog encInt x102.1 (Value.agg #[c110, c111, c112, c113, c114, c115, c116]) F104, cellC b106 (Value.agg #[c110, c111, c112, c113, c114, c115, c116]).cells 38, rowK 3 1 i64 (.slice (some ⟨b126, 0, none⟩) 1 1) ([x120.1])] w0 w134 := hP.toO (i := 7) rfl
           have hv : (false, (a0.1, (W (a0.2.1 + 1)), false, x8, x102.1, x130), x102.2.2) = res := Option.some.inj hD
           try dsimp only [Exit.then, Exit.inBlock]
           refine ret_tmp (fn := Try.f8) r (t := 6) rfl (v := (.bool false)) rfl ?_
           subst hv
           exact ⟨(⟨a0_b, a0_v0, c110, c111, c112, c113, c114, c115, c116, F104, v131⟩ : Gth9), rfl, rfl, (hP.pick [0, 1, 7, 3, 4] rfl rfl).done (rest_cons rfl (rest_consP (fun b h => .inl (hY _ (List.mem_cons_of_mem _ (List.mem_cons_self ..)) b h)) (rest_consP fp108 (rest_cons rfl (rest_cons rfl rest_nil)))))⟩
         ·
          have hD := (cond_f h125).symm.trans hD
          refine wp_skip ?_
          refine wsr ?_
          refine seq_val (I x120.1) r (fun R => y_move r rfl) rfl fun fr r => ?_
          refine seq_val _ r (fun R => y_bin r rfl rfl rfl rfl) rfl fun fr r => ?_
          refine seq_val (.bool (decide (x120.1 ≥ (-1)))) r (fun R => y_move r rfl) rfl fun fr r => ?_
          refine seq_split (decide (x120.1 ≥ (-1))) (fun h137 => ?_) (fun h137 => ?_)
          ·
           have hD := (cond_t h137).symm.trans hD
           refine s1 r h137 ?_
           refine seq_val (I x120.1) r (fun R => y_move r rfl) rfl fun fr r => ?_
           refine s1 r h137 ?_
           refine seq_val _ r (fun R => y_fieldAddr r (o := 0) rfl fo23_0) rfl fun fr r => ?_
           refine s1 r h137 ?_
           refine seq_val (I a1.nodes) r (fun R => y_load_one r rfl (hP.cell (i := 5) rfl) to3 rfl) rfl fun fr r => ?_
           refine s1 r h137 ?_
           refine seq_val _ r (fun R => y_bin r rfl rfl rfl rfl) rfl fun fr r => ?_
           refine seq_val (.bool (decide (x120.1 < a1.nodes))) r (fun R => y_pick r (b := true) (congrArg Value.bool h137) rfl) rfl fun fr r => ?_
           refine seq_val (.bool (decide (x120.1 < a1.nodes))) r (fun R => y_assign r rfl) rfl fun fr r => ?_
           refine wn ?_
           refine wp_ret ?_
           have hP : Post Z [cellC a0_b #[a0_v0, (I (W (a0.2.1 + 1))), (.bool false), (.bool x8), c110, c111, c112, c113, c114, c115, c116, a0_v5] 41, roK 4 1 boolE a0_v0 a0.1, progO Try.prog encInt a0.2.2.2.2.1 (Value.agg #[a0_c4_0, a0_c4_1, a0_c4_2, a0_c4_3, a0_c4_4, a0_c4_5, a0_c4_6]) a0_F4, rowK 3 1 i64 a0_v5 a0.2.2.2.2.2, memK a2_g x102.2.2, cellC b1 ((planC a1)).toArray 23, progK Try.prog encInt (fu, (D.free_Pop (fu + 1) a1)) (Value.agg #[c90, c91, c92, c93, c94, c95, c96]) (rg w82.heap.size w85.heap.size), progO Try.prog encInt x102.1 (Value.agg #[c110, c111, c112, c113, c114, c115, c116]) F104, cellC b106 (Value.agg #[c110, c111, c112, c113, c114, c115, c116]).cells 38] w0 w123 := hP.toO (i := 7) rfl
           have hv : ((decide (x120.1 < a1.nodes)), (a0.1, (W (a0.2.1 + 1)), false, x8, x102.1, a0.2.2.2.2.2), x102.2.2) = res := Option.some.inj hD
           try dsimp only [Exit.then, Exit.inBlock]
           refine ret_tmp (fn := Try.f8) r (t := 6) rfl (v := (.bool (decide (x120.1 < a1.nodes)))) rfl ?_
           subst hv
           exact ⟨(⟨a0_b, a0_v0, c110, c111, c112, c113, c114, c115, c116, F104, a0_v5⟩ : Gth9), rfl, rfl, (hP.pick [0, 1, 7, 3, 4] rfl rfl).done (rest_cons rfl (rest_consP (fun b h => .inl (hY _ (List.mem_cons_of_mem _ (List.mem_cons_self ..)) b h)) (rest_consP fp108 (rest_cons rfl (rest_cons rfl rest_nil)))))⟩
          ·
           have hD := (cond_f h137).symm.trans hD
           refine s0 r h137 fun fr r => ?_
           refine s0 r h137 fun fr r => ?_
           refine s0 r h137 fun fr r => ?_
           refine s0 r h137 fun fr r => ?_
           refine seq_val (.bool false) r (fun R => y_pick r (b := false) (congrArg Value.bool h137) rfl) rfl fun fr r => ?_
           refine seq_val (.bool false) r (fun R => y_assign r rfl) rfl fun fr r => ?_
           refine wn ?_
           refine wp_ret ?_
           have hP : Post Z [cellC a0_b #[a0_v0, (I (W (a0.2.1 + 1))), (.bool false), (.bool x8), c110, c111, c112, c113, c114, c115, c116, a0_v5] 41, roK 4 1 boolE a0_v0 a0.1, progO Try.prog encInt a0.2.2.2.2.1 (Value.agg #[a0_c4_0, a0_c4_1, a0_c4_2, a0_c4_3, a0_c4_4, a0_c4_5, a0_c4_6]) a0_F4, rowK 3 1 i64 a0_v5 a0.2.2.2.2.2, memK a2_g x102.2.2, cellC b1 ((planC a1)).toArray 23, progK Try.prog encInt (fu, (D.free_Pop (fu + 1) a1)) (Value.agg #[c90, c91, c92, c93, c94, c95, c96]) (rg w82.heap.size w85.heap.size), progO Try.prog encInt x102.1 (Value.agg #[c110, c111, c112, c113, c114, c115, c116]) F104, cellC b106 (Value.agg #[c110, c111, c112, c113, c114, c115, c116]).cells 38] w0 w123 := hP.toO (i := 7) rfl
           have hv : (false, (a0.1, (W (a0.2.1 + 1)), false, x8, x102.1, a0.2.2.2.2.2), x102.2.2) = res := Option.some.inj hD
           try dsimp only [Exit.then, Exit.inBlock]
           refine ret_tmp (fn := Try.f8) r (t := 6) rfl (v := (.bool false)) rfl ?_
           subst hv
           exact ⟨(⟨a0_b, a0_v0, c110, c111, c112, c113, c114, c115, c116, F104, a0_v5⟩ : Gth9), rfl, rfl, (hP.pick [0, 1, 7, 3, 4] rfl rfl).done (rest_cons rfl (rest_consP (fun b h => .inl (hY _ (List.mem_cons_of_mem _ (List.mem_cons_self ..)) b h)) (rest_consP fp108 (rest_cons rfl (rest_cons rfl rest_nil)))))⟩
 ·
  have hD := (cond_f h5).symm.trans hD
  refine wp_skip ?_
  refine wp_seq ?_
  obtain ⟨x138, hx138, hD⟩ := bindD_elim hD
  have hP : Post Z [cellC a0_b #[a0_v0, (I a0.2.1), (.bool a0.2.2.1), (.bool a0.2.2.2.1), a0_c4_0, a0_c4_1, a0_c4_2, a0_c4_3, a0_c4_4, a0_c4_5, a0_c4_6, a0_v5] 41, roK 4 1 boolE a0_v0 a0.1, progK Try.prog encInt a0.2.2.2.2.1 (Value.agg #[a0_c4_0, a0_c4_1, a0_c4_2, a0_c4_3, a0_c4_4, a0_c4_5, a0_c4_6]) a0_F4, rowK 3 1 i64 a0_v5 a0.2.2.2.2.2, memK a2_g a2, cellC b1 ((planC a1)).toArray 23] w0 w2 := hP.live (i := 2) rfl hx138
  have z139 := hP.size
  obtain ⟨x140, hx140, hD⟩ := bindD_elim hD
  obtain ⟨x141, hx141, hD⟩ := bindD_elim hD
  refine wp_freeE a2_g.bs [.val (.pointer (some ⟨a0_b, 0, none⟩)), .val (.pointer (some ⟨a0_b, 0, none⟩)), .val (.pointer (some ⟨a0_b, 4, none⟩)), .val (Value.agg #[a0_c4_0, a0_c4_1, a0_c4_2, a0_c4_3, a0_c4_4, a0_c4_5, a0_c4_6]), .val (.pointer (some ⟨a2_g.mb, 0, none⟩)), .val (.pointer (some ⟨a2_g.mb, 0, none⟩)), .val (.agg (capC x140).toArray), .eff (EffR Try.prog encInt w2.heap.size a0_F4 (memK a2_g x141.2.2) x141.1 (.bool x141.2.1)) EffR.st, .dep 7 (fun u v => v = u ∧ ∃ y, v = .tuple #[y, (.bool x141.2.1)] ∧ Shape encInt y), .dep 8 (fun u v => Shape encInt v ∧ u = .tuple #[v, (.bool x141.2.1)]), .val (.bool x141.2.1), .cell 38 7, .storedD 11 9 (fun v => v.cells) 38 7, .val (.bool x141.2.1)] mixed r (fun b hb => hP.sep.lt (i := 4) rfl (.inl hb)) (by kernel_rfl) ?_ ?_
  ·
   refine eachE_late r rfl (fun fr1 g w' hk' hd r' => ?_) ?_
   · exact y_move r' (v := (.pointer (some ⟨a0_b, 0, none⟩))) rfl ⟨Below.refl _ _, rfl⟩
   refine eachE_late r rfl (fun fr1 g w' hk' hd r' => ?_) ?_
   · exact y_nilCheck r' (hd 0 rfl).1 ⟨Below.refl _ _, rfl⟩
   refine eachE_late r rfl (fun fr1 g w' hk' hd r' => ?_) ?_
   · exact y_fieldAddr r' (b := a0_b) (o := 0) (k := 4) (hd 1 rfl).1 fo41_4 ⟨Below.refl _ _, rfl⟩
   refine eachE_early r rfl (by kernel_rfl) (fun fr1 g w' hb' hd r' => ?_) ?_
   · exact y_load_agg r' (cs := [a0_c4_0, a0_c4_1, a0_c4_2, a0_c4_3, a0_c4_4, a0_c4_5, a0_c4_6]) (n := 7) (hd 2 rfl).1 ((hP.below (dr hb')).cell (i := 0) rfl) ta38 rfl ⟨Below.refl _ _, rfl⟩
   refine eachE_early r rfl (by kernel_rfl) (fun fr1 g w' hb' hd r' => ?_) ?_
   · exact y_move r' (v := (.pointer (some ⟨a2_g.mb, 0, none⟩))) rfl ⟨Below.refl _ _, rfl⟩
   refine eachE_late r rfl (fun fr1 g w' hk' hd r' => ?_) ?_
   · exact y_move r' (v := (.pointer (some ⟨a2_g.mb, 0, none⟩))) rfl ⟨Below.refl _ _, rfl⟩
   refine eachE_early r rfl (by kernel_rfl) (fun fr1 g w' hb' hd r' => ?_) ?_
   · exact y_call r' (args := [(.pointer (some ⟨a2_g.mb, 0, none⟩)), (I 0)]) (lc (hd 5 rfl).1 (lc rfl l0)) cl16 ((c_mem_Memory_Cap _ a2 ((hP.below (dr hb')).mem (i := 4) rfl) 0 hx140).mono (by rintro _ w2 ⟨rfl, hb2⟩; exact ⟨_, rfl, hb2, rfl⟩))
   refine eachE_early r rfl (by kernel_rfl) (fun fr1 g w' hb' hd r' => ?_) ?_
   · exact y_call r' (args := [(Value.agg #[a0_c4_0, a0_c4_1, a0_c4_2, a0_c4_3, a0_c4_4, a0_c4_5, a0_c4_6]), (.pointer (some ⟨a2_g.mb, 0, none⟩)), (.agg (capC x140).toArray)]) (lc (hd 3 rfl).1 (lc (hd 4 rfl).1 (lc (hd 6 rfl).1 l0))) cl19 ((c_prog_Prog_int_Step _ a0.2.2.2.2.1 a2 x140 ((hP.below (dr hb')).sep.pk [2, 4] rfl rfl) hx141).mono (by rintro _ w2 ⟨y, F, rfl, hq⟩; exact ⟨_, rfl, hq.chg.kept, EffR.of hq (fun b hb => hP.sep.lt (i := 4) rfl hb) (fun b hb => hP.sep.lt (i := 2) rfl (.inr hb))⟩))
   refine eachE_late r rfl (fun fr1 g w' hk' hd r' => ?_) ?_
   · obtain ⟨y, F, hv, _, _, _, hr, _⟩ := (hd 7 rfl).1; exact y_move r' (v := (g 7).v) rfl ⟨Below.refl _ _, rfl, y, hv, hr.shape⟩
   refine eachE_late r rfl (fun fr1 g w' hk' hd r' => ?_) ?_
   · obtain ⟨_, y, hv, hs⟩ := (hd 8 rfl).1; exact y_extract r' (vs := #[y, (.bool x141.2.1)]) hv rfl ⟨Below.refl _ _, hs, hv⟩
   refine eachE_late r rfl (fun fr1 g w' hk' hd r' => ?_) ?_
   · obtain ⟨_, y, hv, hs⟩ := (hd 8 rfl).1; exact y_extract r' (vs := #[y, (.bool x141.2.1)]) hv rfl ⟨Below.refl _ _, rfl⟩
   refine eachE_late r rfl (fun fr1 g w' hk' hd r' => ?_) ?_
   · exact y_alloc tz38 (fun b w2 n2 => ⟨n2.below, b, rfl, n2.eq, _, n2.at_, rfl⟩)
   refine eachE_late r rfl (fun fr1 g w' hk' hd r' => ?_) ?_
   · obtain ⟨hp, _, c, hc, hn⟩ := (hd 11 rfl).1; obtain ⟨hs, _⟩ := (hd 9 rfl).1; exact y_storep r' hs hp rfl hc ts38 hn (fun w2 u2 => ⟨u2, rfl, hs.cells.1⟩)
   refine eachE_late r rfl (fun fr1 g w' hk' hd r' => ?_) ?_
   · exact y_assign r' (v := (.bool x141.2.1)) (hd 10 rfl).1 ⟨Below.refl _ _, rfl⟩
   exact eachF_nil
  ·
   intro fr gg w146 hb hΦ hap r
   obtain ⟨v142, F143, g7, hcE, _, _, hrE, hFE⟩ := (hΦ 7 rfl).1
   have g8 := (hΦ 8 rfl).1.1.trans g7
   have g9 : (gg 9).v = v142 := tup_eq ((hΦ 9 rfl).1.2.symm.trans g8)
   obtain ⟨b145, ee_b145⟩ : ∃ b, b = (gg 11).lo := ⟨_, rfl⟩
   have g11 : (gg 11).v = (.pointer (some ⟨b145, 0, none⟩)) := by rw [ee_b145]; exact (hΦ 11 rfl).1.1
   have h_b145 : w146.heap[b145]? = some (.cells v142.cells 38 (0, 0)) := by rw [ee_b145, ← g9]; exact (hΦ 12 rfl).1.2
   have hs11 : Fresh [cellC b145 v142.cells 38] (gg 11).lo (gg 11).hi w146 := by subst ee_b145; exact Fresh.cell (hΦ 11 rfl).1.2.1 h_b145
   have r := r.congr (sc ((hΦ 13 rfl).1) (sc g11 (sc ((hΦ 10 rfl).1) (sc g9 (sc g8 (sc g7 (sc ((hΦ 6 rfl).1) (sc ((hΦ 5 rfl).1) (sc ((hΦ 4 rfl).1) (sc ((hΦ 3 rfl).1) (sc ((hΦ 2 rfl).1) (sc ((hΦ 1 rfl).1) (sc ((hΦ 0 rfl).1) rfl)))))))))))))
   have hP : Post Z [cellC a0_b #[a0_v0, (I a0.2.1), (.bool a0.2.2.1), (.bool a0.2.2.2.1), a0_c4_0, a0_c4_1, a0_c4_2, a0_c4_3, a0_c4_4, a0_c4_5, a0_c4_6, a0_v5] 41, roK 4 1 boolE a0_v0 a0.1, progK Try.prog encInt a0.2.2.2.2.1 (Value.agg #[a0_c4_0, a0_c4_1, a0_c4_2, a0_c4_3, a0_c4_4, a0_c4_5, a0_c4_6]) a0_F4, rowK 3 1 i64 a0_v5 a0.2.2.2.2.2, memK a2_g x141.2.2, cellC b1 ((planC a1)).toArray 23, progK Try.prog encInt x141.1 v142 F143, cellC b145 v142.cells 38] w0 w146 := hP.effR (i := 4) (k := 2) (l := [([cellC b145 v142.cells 38], (gg 11).lo, (gg 11).hi)]) rfl rfl rfl hb hcE rfl rfl rfl hrE hFE (hΦ 7 rfl).2.1 (hΦ 7 rfl).2.2.2 ⟨hs11, (hΦ 11 rfl).2.1, disj_nil, trivial⟩ (disj_cons (hap 7 11 rfl) disj_nil)
   have fp148 : ∀ b, b ∈ a0_F4 → Y b ∨ w0.heap.size ≤ b := fun b h => .inl (hY _ (List.mem_cons_of_mem _ (List.mem_cons_of_mem _ (List.mem_cons_self ..))) b h)
   have fp147 : ∀ b, b ∈ F143 → Y b ∨ w0.heap.size ≤ b := fun b h => (hFE b h).2.elim (fp148 b) (fun h1 => .inr (by have := h1.1; have := (hΦ 7 rfl).2.1; omega))
   refine wp_seq ?_
   refine wsr ?_
   refine seq_val (.bool x141.2.1) r (fun R => y_move r rfl) rfl fun fr r => ?_
   refine seq_val (.bool (!x141.2.1)) r (fun R => y_un r (u := (.bool x141.2.1)) rfl rfl) rfl fun fr r => ?_
   refine wn ?_
   refine wp_cond_split (t := (!x141.2.1)) (r.ev rfl) (fun h149 => ?_) (fun h149 => ?_)
   ·
    have hD := (cond_t h149).symm.trans hD
    refine wsr ?_
    refine seq_val (.bool false) r (fun R => y_assign r rfl) rfl fun fr r => ?_
    refine wn ?_
    refine wp_ret ?_
    have hP : Post Z [cellC a0_b #[a0_v0, (I a0.2.1), (.bool a0.2.2.1), (.bool a0.2.2.2.1), a0_c4_0, a0_c4_1, a0_c4_2, a0_c4_3, a0_c4_4, a0_c4_5, a0_c4_6, a0_v5] 41, roK 4 1 boolE a0_v0 a0.1, progO Try.prog encInt a0.2.2.2.2.1 (Value.agg #[a0_c4_0, a0_c4_1, a0_c4_2, a0_c4_3, a0_c4_4, a0_c4_5, a0_c4_6]) a0_F4, rowK 3 1 i64 a0_v5 a0.2.2.2.2.2, memK a2_g x141.2.2, cellC b1 ((planC a1)).toArray 23, progK Try.prog encInt x141.1 v142 F143, cellC b145 v142.cells 38] w0 w146 := hP.toO (i := 2) rfl
    have hv : (false, (a0.1, a0.2.1, a0.2.2.1, a0.2.2.2.1, a0.2.2.2.2.1, a0.2.2.2.2.2), x141.2.2) = res := Option.some.inj hD
    try dsimp only [Exit.then, Exit.inBlock]
    refine ret_tmp (fn := Try.f8) r (t := 6) rfl (v := (.bool false)) rfl ?_
    subst hv
    exact ⟨(⟨a0_b, a0_v0, a0_c4_0, a0_c4_1, a0_c4_2, a0_c4_3, a0_c4_4, a0_c4_5, a0_c4_6, a0_F4, a0_v5⟩ : Gth9), rfl, rfl, (hP.pick [0, 1, 2, 3, 4] rfl rfl).done (rest_cons rfl (rest_consP (fun b h => .inl (hY _ (List.mem_cons_of_mem _ (List.mem_cons_self ..)) b h)) (rest_consP (fun b h => .inl (hY _ (List.mem_cons_of_mem _ (List.mem_cons_of_mem _ (List.mem_cons_self ..))) b h)) (rest_cons rfl (rest_cons rfl rest_nil)))))⟩
   ·
    have hD := (cond_f h149).symm.trans hD
    refine wp_skip ?_
    refine wsr ?_
    refine seq_val (.pointer (some ⟨a0_b, 0, none⟩)) r (fun R => y_move r rfl) rfl fun fr r => ?_
    refine seq_val v142 r (fun R => y_loadp r (hP.prog (i := 6) rfl).shape rfl (hP.cell (i := 7) rfl) ta38) rfl fun fr r => ?_
    refine seq_val (.pointer (some ⟨a0_b, 0, none⟩)) r (fun R => y_nilCheck r rfl) rfl fun fr r => ?_
    refine seq_val _ r (fun R => y_fieldAddr r (o := 0) rfl fo41_4) rfl fun fr r => ?_
    obtain ⟨c150, c151, c152, c153, c154, c155, c156, e157⟩ := shape7 (hP.prog (i := 6) rfl).shape rfl
    subst e157
    refine seq_upd (.cells #[a0_v0, (I a0.2.1), (.bool a0.2.2.1), (.bool a0.2.2.2.1), c150, c151, c152, c153, c154, c155, c156, a0_v5] 41 (0, 0)) r (fun R => y_storeV r (o := 4) (n := 7) (v := (Value.agg #[c150, c151, c152, c153, c154, c155, c156])) (cs := [c150, c151, c152, c153, c154, c155, c156]) rfl rfl rfl (hP.prog (i := 6) rfl).shape.cells.2.1 rfl (hP.cell (i := 0) rfl) ts38 (Nat.le_of_ble_eq_true rfl) rfl) rfl fun fr w158 u159 r => ?_
    have hP : Post Z [cellC a0_b #[a0_v0, (I a0.2.1), (.bool a0.2.2.1), (.bool a0.2.2.2.1), c150, c151, c152, c153, c154, c155, c156, a0_v5] 41, roK 4 1 boolE a0_v0 a0.1, progK Try.prog encInt a0.2.2.2.2.1 (Value.agg #[a0_c4_0, a0_c4_1, a0_c4_2, a0_c4_3, a0_c4_4, a0_c4_5, a0_c4_6]) a0_F4, rowK 3 1 i64 a0_v5 a0.2.2.2.2.2, memK a2_g x141.2.2, cellC b1 ((planC a1)).toArray 23, progK Try.prog encInt x141.1 (Value.agg #[c150, c151, c152, c153, c154, c155, c156]) F143, cellC b145 (Value.agg #[c150, c151, c152, c153, c154, c155, c156]).cells 38] w0 w158 := hP.upd (i := 0) rfl u159
    refine wn ?_
    refine wsr ?_
    refine seq_val (Value.agg #[c150, c151, c152, c153, c154, c155, c156]) r (fun R => y_loadp r (hP.prog (i := 6) rfl).shape rfl (hP.cell (i := 7) rfl) ta38) rfl fun fr r => ?_
    obtain ⟨x160, hx160, hD⟩ := bindD_elim hD
    refine seq_call r (c_prog_Prog_int_Over w158 x141.1 (hP.prog (i := 6) rfl) (fun b hb => hP.sep.lt (i := 6) rfl (.inr hb)) hx160) (fun R hc => y_call r rfl cl20 hc) rfl ?_
    rintro _ w161 ⟨rfl, hb⟩
    refine ⟨_, rfl, fun fr r => ?_⟩
    have hP : Post Z [cellC a0_b #[a0_v0, (I a0.2.1), (.bool a0.2.2.1), (.bool a0.2.2.2.1), c150, c151, c152, c153, c154, c155, c156, a0_v5] 41, roK 4 1 boolE a0_v0 a0.1, progK Try.prog encInt a0.2.2.2.2.1 (Value.agg #[a0_c4_0, a0_c4_1, a0_c4_2, a0_c4_3, a0_c4_4, a0_c4_5, a0_c4_6]) a0_F4, rowK 3 1 i64 a0_v5 a0.2.2.2.2.2, memK a2_g x141.2.2, cellC b1 ((planC a1)).toArray 23, progK Try.prog encInt x141.1 (Value.agg #[c150, c151, c152, c153, c154, c155, c156]) F143, cellC b145 (Value.agg #[c150, c151, c152, c153, c154, c155, c156]).cells 38] w0 w161 := hP.below hb
    refine seq_val (.tuple #[(I x160.1), (.bool x160.2)]) r (fun R => y_move r rfl) rfl fun fr r => ?_
    refine seq_val (I x160.1) r (fun R => y_extract r (vs := #[(I x160.1), (.bool x160.2)]) rfl rfl) rfl fun fr r => ?_
    refine seq_val (.bool x160.2) r (fun R => y_extract r (vs := #[(I x160.1), (.bool x160.2)]) rfl rfl) rfl fun fr r => ?_
    refine seq_val (I x160.1) r (fun R => y_assign r rfl) rfl fun fr r => ?_
    refine seq_val (.bool x160.2) r (fun R => y_assign r rfl) rfl fun fr r => ?_
    refine wn ?_
    refine wp_seq ?_
    refine wsr ?_
    refine seq_val (.bool x160.2) r (fun R => y_move r rfl) rfl fun fr r => ?_
    refine seq_val (.bool (!x160.2)) r (fun R => y_un r (u := (.bool x160.2)) rfl rfl) rfl fun fr r => ?_
    refine wn ?_
    refine wp_cond_split (t := (!x160.2)) (r.ev rfl) (fun h162 => ?_) (fun h162 => ?_)
    ·
     have hD := (cond_t h162).symm.trans hD
     refine wsr ?_
     refine seq_val (.bool true) r (fun R => y_assign r rfl) rfl fun fr r => ?_
     refine wn ?_
     refine wp_ret ?_
     have hP : Post Z [cellC a0_b #[a0_v0, (I a0.2.1), (.bool a0.2.2.1), (.bool a0.2.2.2.1), c150, c151, c152, c153, c154, c155, c156, a0_v5] 41, roK 4 1 boolE a0_v0 a0.1, progK Try.prog encInt a0.2.2.2.2.1 (Value.agg #[a0_c4_0, a0_c4_1, a0_c4_2, a0_c4_3, a0_c4_4, a0_c4_5, a0_c4_6]) a0_F4, rowK 3 1 i64 a0_v5 a0.2.2.2.2.2, memK a2_g x141.2.2, cellC b1 ((planC a1)).toArray 23, progO Try.prog encInt x141.1 (Value.agg #[c150, c151, c152, c153, c154, c155, c156]) F143, cellC b145 (Value.agg #[c150, c151, c152, c153, c154, c155, c156]).cells 38] w0 w161 := hP.toO (i := 6) rfl
     have hv : (true, (a0.1, a0.2.1, a0.2.2.1, a0.2.2.2.1, x141.1, a0.2.2.2.2.2), x141.2.2) = res := Option.some.inj hD
     try dsimp only [Exit.then, Exit.inBlock]
     refine ret_tmp (fn := Try.f8) r (t := 6) rfl (v := (.bool true)) rfl ?_
     subst hv
     exact ⟨(⟨a0_b, a0_v0, c150, c151, c152, c153, c154, c155, c156, F143, a0_v5⟩ : Gth9), rfl, rfl, (hP.pick [0, 1, 6, 3, 4] rfl rfl).done (rest_cons rfl (rest_consP (fun b h => .inl (hY _ (List.mem_cons_of_mem _ (List.mem_cons_self ..)) b h)) (rest_consP fp147 (rest_cons rfl (rest_cons rfl rest_nil)))))⟩
    ·
     have hD := (cond_f h162).symm.trans hD
     refine wp_skip ?_
     refine wsr ?_
     refine seq_val (.pointer (some ⟨a0_b, 0, none⟩)) r (fun R => y_move r rfl) rfl fun fr r => ?_
     refine seq_val (.pointer (some ⟨a0_b, 0, none⟩)) r (fun R => y_nilCheck r rfl) rfl fun fr r => ?_
     refine seq_val _ r (fun R => y_fieldAddr r (o := 0) rfl fo41_2) rfl fun fr r => ?_
     refine seq_upd (.cells #[a0_v0, (I a0.2.1), (.bool false), (.bool a0.2.2.2.1), c150, c151, c152, c153, c154, c155, c156, a0_v5] 41 (0, 0)) r (fun R => y_storeV r (o := 2) (n := 1) (v := (.bool false)) (cs := [(.bool false)]) rfl rfl rfl (pall_cons rfl pall_nil) rfl (hP.cell (i := 0) rfl) ts4 (Nat.le_of_ble_eq_true rfl) rfl) rfl fun fr w163 u164 r => ?_
     have hP : Post Z [cellC a0_b #[a0_v0, (I a0.2.1), (.bool false), (.bool a0.2.2.2.1), c150, c151, c152, c153, c154, c155, c156, a0_v5] 41, roK 4 1 boolE a0_v0 a0.1, progK Try.prog encInt a0.2.2.2.2.1 (Value.agg #[a0_c4_0, a0_c4_1, a0_c4_2, a0_c4_3, a0_c4_4, a0_c4_5, a0_c4_6]) a0_F4, rowK 3 1 i64 a0_v5 a0.2.2.2.2.2, memK a2_g x141.2.2, cellC b1 ((planC a1)).toArray 23, progK Try.prog encInt x141.1 (Value.agg #[c150, c151, c152, c153, c154, c155, c156]) F143, cellC b145 (Value.agg #[c150, c151, c152, c153, c154, c155, c156]).cells 38] w0 w163 := hP.upd (i := 0) rfl u164
     refine wn ?_
     refine wp_seq ?_
     refine wsr ?_
     refine seq_val (.pointer (some ⟨a0_b, 0, none⟩)) r (fun R => y_move r rfl) rfl fun fr r => ?_
     refine seq_val (.pointer (some ⟨a0_b, 0, none⟩)) r (fun R => y_nilCheck r rfl) rfl fun fr r => ?_
     refine seq_val _ r (fun R => y_fieldAddr r (o := 0) rfl fo41_3) rfl fun fr r => ?_
     refine seq_val (.bool a0.2.2.2.1) r (fun R => y_load_one r rfl (hP.cell (i := 0) rfl) to4 rfl) rfl fun fr r => ?_
     refine wn ?_
     refine wp_cond_split (t := a0.2.2.2.1) (r.ev rfl) (fun h165 => ?_) (fun h165 => ?_)
     ·
      have hD := (cond_t h165).symm.trans hD
      refine wp_seq ?_
      refine wsr ?_
      refine seq_val (I x160.1) r (fun R => y_move r rfl) rfl fun fr r => ?_
      refine seq_val _ r (fun R => y_bin r rfl rfl rfl rfl) rfl fun fr r => ?_
      refine wn ?_
      refine wp_cond_split (t := (decide (x160.1 ≥ 0))) (r.ev rfl) (fun h166 => ?_) (fun h166 => ?_)
      ·
       have hD := (cond_t h166).symm.trans hD
       refine wp_region_lit ?_
       refine seq_val (.pointer (some ⟨a0_b, 0, none⟩)) r (fun R => y_move r rfl) rfl fun fr r => ?_
       refine seq_val (.pointer (some ⟨a0_b, 0, none⟩)) r (fun R => y_move r rfl) rfl fun fr r => ?_
       refine seq_val (.pointer (some ⟨a0_b, 0, none⟩)) r (fun R => y_nilCheck r rfl) rfl fun fr r => ?_
       refine seq_val _ r (fun R => y_fieldAddr r (o := 0) rfl fo41_5) rfl fun fr r => ?_
       refine seq_val a0_v5 r (fun R => y_load_one r rfl (hP.cell (i := 0) rfl) to39 rfl) rfl fun fr r => ?_
       refine seq_val (I x160.1) r (fun R => y_move r rfl) rfl fun fr r => ?_
       refine seq_newS (.cells (([x160.1]).flatMap i64).toArray 3 (0, 0)) 1 r (fun R => y_bslice r (by kernel_rfl)) rfl fun fr b167 w168 n169 r => ?_
       have hP : Post Z [cellC a0_b #[a0_v0, (I a0.2.1), (.bool false), (.bool a0.2.2.2.1), c150, c151, c152, c153, c154, c155, c156, a0_v5] 41, roK 4 1 boolE a0_v0 a0.1, progK Try.prog encInt a0.2.2.2.2.1 (Value.agg #[a0_c4_0, a0_c4_1, a0_c4_2, a0_c4_3, a0_c4_4, a0_c4_5, a0_c4_6]) a0_F4, rowK 3 1 i64 a0_v5 a0.2.2.2.2.2, memK a2_g x141.2.2, cellC b1 ((planC a1)).toArray 23, progK Try.prog encInt x141.1 (Value.agg #[c150, c151, c152, c153, c154, c155, c156]) F143, cellC b145 (Value.agg #[c150, c151, c152, c153, c154, c155, c156]).cells 38, rowK 3 1 i64 (.slice (some ⟨b167, 0, none⟩) 1 1) ([x160.1])] w0 w168 := hP.newRow n169 (fun _ => rfl) rfl
       obtain ⟨x171, hx171, hD⟩ := bindD_elim hD
       refine seq_app 3 1 i64 a0_v5 r (fun R => y_append r rt39 (fun _ => rfl) (fun _ => rfl) (hP.row (i := 3) rfl) (hP.row (i := 8) rfl).ro hx171 rfl rfl) rfl fun fr v172 w173 ha174 r => ?_
       have hP : Post Z [cellC a0_b #[a0_v0, (I a0.2.1), (.bool false), (.bool a0.2.2.2.1), c150, c151, c152, c153, c154, c155, c156, a0_v5] 41, roK 4 1 boolE a0_v0 a0.1, progK Try.prog encInt a0.2.2.2.2.1 (Value.agg #[a0_c4_0, a0_c4_1, a0_c4_2, a0_c4_3, a0_c4_4, a0_c4_5, a0_c4_6]) a0_F4, rowK 3 1 i64 v172 x171, memK a2_g x141.2.2, cellC b1 ((planC a1)).toArray 23, progK Try.prog encInt x141.1 (Value.agg #[c150, c151, c152, c153, c154, c155, c156]) F143, cellC b145 (Value.agg #[c150, c151, c152, c153, c154, c155, c156]).cells 38, rowK 3 1 i64 (.slice (some ⟨b167, 0, none⟩) 1 1) ([x160.1])] w0 w173 := hP.append (i := 3) rfl ha174
       refine seq_val (.pointer (some ⟨a0_b, 0, none⟩)) r (fun R => y_nilCheck r rfl) rfl fun fr r => ?_
       refine seq_val _ r (fun R => y_fieldAddr r (o := 0) rfl fo41_5) rfl fun fr r => ?_
       refine seq_upd (.cells #[a0_v0, (I a0.2.1), (.bool false), (.bool a0.2.2.2.1), c150, c151, c152, c153, c154, c155, c156, v172] 41 (0, 0)) r (fun R => y_storeV r (o := 11) (n := 1) (v := v172) (cs := [v172]) rfl rfl (RoAt.cells1 (hP.row (i := 3) rfl).ro) (pall_cons (RoAt.plain (hP.row (i := 3) rfl).ro) pall_nil) rfl (hP.cell (i := 0) rfl) ts39 (Nat.le_of_ble_eq_true rfl) rfl) rfl fun fr w175 u176 r => ?_
       have hP : Post Z [cellC a0_b #[a0_v0, (I a0.2.1), (.bool false), (.bool a0.2.2.2.1), c150, c151, c152, c153, c154, c155, c156, v172] 41, roK 4 1 boolE a0_v0 a0.1, progK Try.prog encInt a0.2.2.2.2.1 (Value.agg #[a0_c4_0, a0_c4_1, a0_c4_2, a0_c4_3, a0_c4_4, a0_c4_5, a0_c4_6]) a0_F4, rowK 3 1 i64 v172 x171, memK a2_g x141.2.2, cellC b1 ((planC a1)).toArray 23, progK Try.prog encInt x141.1 (Value.agg #[c150, c151, c152, c153, c154, c155, c156]) F143, cellC b145 (Value.agg #[c150, c151, c152, c153, c154, c155, c156]).cells 38, rowK 3 1 i64 (.slice (some ⟨b167, 0, none⟩) 1 1) ([x160.1])] w0 w175 := hP.upd (i := 0) rfl u176
       refine wn ?_
       refine wsr ?_
       refine seq_val (I x160.1) r (fun R => y_move r rfl) rfl fun fr r => ?_
       refine seq_val _ r (fun R => y_bin r rfl rfl rfl rfl) rfl fun fr r => ?_
       refine seq_val (.bool (decide (x160.1 ≥ (-1)))) r (fun R => y_move r rfl) rfl fun fr r => ?_
       refine seq_split (decide (x160.1 ≥ (-1))) (fun h177 => ?_) (fun h177 => ?_)
       ·
        have hD := (cond_t h177).symm.trans hD
        refine s1 r h177 ?_
        refine seq_val (I x160.1) r (fun R => y_move r rfl) rfl fun fr r => ?_
        refine s1 r h177 ?_
        refine seq_val _ r (fun R => y_fieldAddr r (o := 0) rfl fo23_0) rfl fun fr r => ?_
        refine s1 r h177 ?_
        refine seq_val (I a1.nodes) r (fun R => y_load_one r rfl (hP.cell (i := 5) rfl) to3 rfl) rfl fun fr r => ?_
        refine s1 r h177 ?_
        refine seq_val _ r (fun R => y_bin r rfl rfl rfl rfl) rfl fun fr r => ?_
        refine seq_val (.bool (decide (x160.1 < a1.nodes))) r (fun R => y_pick r (b := true) (congrArg Value.bool h177) rfl) rfl fun fr r => ?_
        refine seq_val (.bool (decide (x160.1 < a1.nodes))) r (fun R => y_assign r rfl) rfl fun fr r => ?_
        refine wn ?_
        refine wp_ret ?_
        have hP : Post Z [cellC a0_b #[a0_v0, (I a0.2.1), (.bool false), (.bool a0.2.2.2.1), c150, c151, c152, c153, c154, c155, c156, v172] 41, roK 4 1 boolE a0_v0 a0.1, progK Try.prog encInt a0.2.2.2.2.1 (Value.agg #[a0_c4_0, a0_c4_1, a0_c4_2, a0_c4_3, a0_c4_4, a0_c4_5, a0_c4_6]) a0_F4, rowK 3 1 i64 v172 x171, memK a2_g x141.2.2, cellC b1 ((planC a1)).toArray 23, progO Try.prog encInt x141.1 (Value.agg #[c150, c151, c152, c153, c154, c155, c156]) F143, cellC b145 (Value.agg #[c150, c151, c152, c153, c154, c155, c156]).cells 38, rowK 3 1 i64 (.slice (some ⟨b167, 0, none⟩) 1 1) ([x160.1])] w0 w175 := hP.toO (i := 6) rfl
        have hv : ((decide (x160.1 < a1.nodes)), (a0.1, a0.2.1, false, a0.2.2.2.1, x141.1, x171), x141.2.2) = res := Option.some.inj hD
        try dsimp only [Exit.then, Exit.inBlock]
        refine ret_tmp (fn := Try.f8) r (t := 6) rfl (v := (.bool (decide (x160.1 < a1.nodes)))) rfl ?_
        subst hv
        exact ⟨(⟨a0_b, a0_v0, c150, c151, c152, c153, c154, c155, c156, F143, v172⟩ : Gth9), rfl, rfl, (hP.pick [0, 1, 6, 3, 4] rfl rfl).done (rest_cons rfl (rest_consP (fun b h => .inl (hY _ (List.mem_cons_of_mem _ (List.mem_cons_self ..)) b h)) (rest_consP fp147 (rest_cons rfl (rest_cons rfl rest_nil)))))⟩
       ·
        have hD := (cond_f h177).symm.trans hD
        refine s0 r h177 fun fr r => ?_
        refine s0 r h177 fun fr r => ?_
        refine s0 r h177 fun fr r => ?_
        refine s0 r h177 fun fr r => ?_
        refine seq_val (.bool false) r (fun R => y_pick r (b := false) (congrArg Value.bool h177) rfl) rfl fun fr r => ?_
        refine seq_val (.bool false) r (fun R => y_assign r rfl) rfl fun fr r => ?_
        refine wn ?_
        refine wp_ret ?_
        have hP : Post Z [cellC a0_b #[a0_v0, (I a0.2.1), (.bool false), (.bool a0.2.2.2.1), c150, c151, c152, c153, c154, c155, c156, v172] 41, roK 4 1 boolE a0_v0 a0.1, progK Try.prog encInt a0.2.2.2.2.1 (Value.agg #[a0_c4_0, a0_c4_1, a0_c4_2, a0_c4_3, a0_c4_4, a0_c4_5, a0_c4_6]) a0_F4, rowK 3 1 i64 v172 x171, memK a2_g x141.2.2, cellC b1 ((planC a1)).toArray 23, progO Try.prog encInt x141.1 (Value.agg #[c150, c151, c152, c153, c154, c155, c156]) F143, cellC b145 (Value.agg #[c150, c151, c152, c153, c154, c155, c156]).cells 38, rowK 3 1 i64 (.slice (some ⟨b167, 0, none⟩) 1 1) ([x160.1])] w0 w175 := hP.toO (i := 6) rfl
        have hv : (false, (a0.1, a0.2.1, false, a0.2.2.2.1, x141.1, x171), x141.2.2) = res := Option.some.inj hD
        try dsimp only [Exit.then, Exit.inBlock]
        refine ret_tmp (fn := Try.f8) r (t := 6) rfl (v := (.bool false)) rfl ?_
        subst hv
        exact ⟨(⟨a0_b, a0_v0, c150, c151, c152, c153, c154, c155, c156, F143, v172⟩ : Gth9), rfl, rfl, (hP.pick [0, 1, 6, 3, 4] rfl rfl).done (rest_cons rfl (rest_consP (fun b h => .inl (hY _ (List.mem_cons_of_mem _ (List.mem_cons_self ..)) b h)) (rest_consP fp147 (rest_cons rfl (rest_cons rfl rest_nil)))))⟩
      ·
       have hD := (cond_f h166).symm.trans hD
       refine wp_skip ?_
       refine wsr ?_
       refine seq_val (I x160.1) r (fun R => y_move r rfl) rfl fun fr r => ?_
       refine seq_val _ r (fun R => y_bin r rfl rfl rfl rfl) rfl fun fr r => ?_
       refine seq_val (.bool (decide (x160.1 ≥ (-1)))) r (fun R => y_move r rfl) rfl fun fr r => ?_
       refine seq_split (decide (x160.1 ≥ (-1))) (fun h178 => ?_) (fun h178 => ?_)
       ·
        have hD := (cond_t h178).symm.trans hD
        refine s1 r h178 ?_
        refine seq_val (I x160.1) r (fun R => y_move r rfl) rfl fun fr r => ?_
        refine s1 r h178 ?_
        refine seq_val _ r (fun R => y_fieldAddr r (o := 0) rfl fo23_0) rfl fun fr r => ?_
        refine s1 r h178 ?_
        refine seq_val (I a1.nodes) r (fun R => y_load_one r rfl (hP.cell (i := 5) rfl) to3 rfl) rfl fun fr r => ?_
        refine s1 r h178 ?_
        refine seq_val _ r (fun R => y_bin r rfl rfl rfl rfl) rfl fun fr r => ?_
        refine seq_val (.bool (decide (x160.1 < a1.nodes))) r (fun R => y_pick r (b := true) (congrArg Value.bool h178) rfl) rfl fun fr r => ?_
        refine seq_val (.bool (decide (x160.1 < a1.nodes))) r (fun R => y_assign r rfl) rfl fun fr r => ?_
        refine wn ?_
        refine wp_ret ?_
        have hP : Post Z [cellC a0_b #[a0_v0, (I a0.2.1), (.bool false), (.bool a0.2.2.2.1), c150, c151, c152, c153, c154, c155, c156, a0_v5] 41, roK 4 1 boolE a0_v0 a0.1, progK Try.prog encInt a0.2.2.2.2.1 (Value.agg #[a0_c4_0, a0_c4_1, a0_c4_2, a0_c4_3, a0_c4_4, a0_c4_5, a0_c4_6]) a0_F4, rowK 3 1 i64 a0_v5 a0.2.2.2.2.2, memK a2_g x141.2.2, cellC b1 ((planC a1)).toArray 23, progO Try.prog encInt x141.1 (Value.agg #[c150, c151, c152, c153, c154, c155, c156]) F143, cellC b145 (Value.agg #[c150, c151, c152, c153, c154, c155, c156]).cells 38] w0 w163 := hP.toO (i := 6) rfl
        have hv : ((decide (x160.1 < a1.nodes)), (a0.1, a0.2.1, false, a0.2.2.2.1, x141.1, a0.2.2.2.2.2), x141.2.2) = res := Option.some.inj hD
        try dsimp only [Exit.then, Exit.inBlock]
        refine ret_tmp (fn := Try.f8) r (t := 6) rfl (v := (.bool (decide (x160.1 < a1.nodes)))) rfl ?_
        subst hv
        exact ⟨(⟨a0_b, a0_v0, c150, c151, c152, c153, c154, c155, c156, F143, a0_v5⟩ : Gth9), rfl, rfl, (hP.pick [0, 1, 6, 3, 4] rfl rfl).done (rest_cons rfl (rest_consP (fun b h => .inl (hY _ (List.mem_cons_of_mem _ (List.mem_cons_self ..)) b h)) (rest_consP fp147 (rest_cons rfl (rest_cons rfl rest_nil)))))⟩
       ·
        have hD := (cond_f h178).symm.trans hD
        refine s0 r h178 fun fr r => ?_
        refine s0 r h178 fun fr r => ?_
        refine s0 r h178 fun fr r => ?_
        refine s0 r h178 fun fr r => ?_
        refine seq_val (.bool false) r (fun R => y_pick r (b := false) (congrArg Value.bool h178) rfl) rfl fun fr r => ?_
        refine seq_val (.bool false) r (fun R => y_assign r rfl) rfl fun fr r => ?_
        refine wn ?_
        refine wp_ret ?_
        have hP : Post Z [cellC a0_b #[a0_v0, (I a0.2.1), (.bool false), (.bool a0.2.2.2.1), c150, c151, c152, c153, c154, c155, c156, a0_v5] 41, roK 4 1 boolE a0_v0 a0.1, progK Try.prog encInt a0.2.2.2.2.1 (Value.agg #[a0_c4_0, a0_c4_1, a0_c4_2, a0_c4_3, a0_c4_4, a0_c4_5, a0_c4_6]) a0_F4, rowK 3 1 i64 a0_v5 a0.2.2.2.2.2, memK a2_g x141.2.2, cellC b1 ((planC a1)).toArray 23, progO Try.prog encInt x141.1 (Value.agg #[c150, c151, c152, c153, c154, c155, c156]) F143, cellC b145 (Value.agg #[c150, c151, c152, c153, c154, c155, c156]).cells 38] w0 w163 := hP.toO (i := 6) rfl
        have hv : (false, (a0.1, a0.2.1, false, a0.2.2.2.1, x141.1, a0.2.2.2.2.2), x141.2.2) = res := Option.some.inj hD
        try dsimp only [Exit.then, Exit.inBlock]
        refine ret_tmp (fn := Try.f8) r (t := 6) rfl (v := (.bool false)) rfl ?_
        subst hv
        exact ⟨(⟨a0_b, a0_v0, c150, c151, c152, c153, c154, c155, c156, F143, a0_v5⟩ : Gth9), rfl, rfl, (hP.pick [0, 1, 6, 3, 4] rfl rfl).done (rest_cons rfl (rest_consP (fun b h => .inl (hY _ (List.mem_cons_of_mem _ (List.mem_cons_self ..)) b h)) (rest_consP fp147 (rest_cons rfl (rest_cons rfl rest_nil)))))⟩
     ·
      have hD := (cond_f h165).symm.trans hD
      refine wp_skip ?_
      refine wp_seq ?_
      obtain ⟨x179, hx179, hD⟩ := bindD_elim hD
      refine wp_freeF [.val (.pointer (some ⟨a0_b, 0, none⟩)), .val (.pointer (some ⟨a0_b, 0, none⟩)), .val (.pointer (some ⟨a0_b, 11, none⟩)), .val a0_v5, .val (.pointer (some ⟨a0_b, 0, none⟩)), .val (.pointer (some ⟨a0_b, 0, none⟩)), .val (.pointer (some ⟨a0_b, 11, none⟩)), .val a0_v5, .val (I (a0.2.2.2.2.2.length : Int)), .val (I (W ((a0.2.2.2.2.2.length : Int) - 1))), .val (.pointer (some ⟨rowB a0_v5, rowO a0_v5 + (W ((a0.2.2.2.2.2.length : Int) - 1)).toNat * 1, none⟩)), .val (I x179), .val (I x179)] mixed r (by kernel_rfl) ?_ ?_
      ·
       refine fc r (fun fr1 g w' hb' hd r' => y_move r' rfl bz) ?_
       refine fc r (fun fr1 g w' hb' hd r' => y_nilCheck r' (hd 0 rfl).1 bz) ?_
       refine fc r (fun fr1 g w' hb' hd r' => y_fieldAddr r' (b := a0_b) (o := 0) (hd 1 rfl).1 fo41_5 bz) ?_
       refine fc r (fun fr1 g w' hb' hd r' => y_load_one r' (hd 2 rfl).1 ((hP.below (dr hb')).cell (i := 0) rfl) to39 rfl bz) ?_
       refine fc r (fun fr1 g w' hb' hd r' => y_move r' rfl bz) ?_
       refine fc r (fun fr1 g w' hb' hd r' => y_nilCheck r' (hd 4 rfl).1 bz) ?_
       refine fc r (fun fr1 g w' hb' hd r' => y_fieldAddr r' (b := a0_b) (o := 0) (hd 5 rfl).1 fo41_5 bz) ?_
       refine fc r (fun fr1 g w' hb' hd r' => y_load_one r' (hd 6 rfl).1 ((hP.below (dr hb')).cell (i := 0) rfl) to39 rfl bz) ?_
       refine fc r (fun fr1 g w' hb' hd r' => y_rowLen r' ((hP.below (dr hb')).row (i := 3) rfl).ro is39 (hd 7 rfl).1 bz) ?_
       refine fc r (fun fr1 g w' hb' hd r' => y_bin r' (hd 8 rfl).1 rfl rfl rfl bz) ?_
       refine fc r (fun fr1 g w' hb' hd r' => y_rowAddr r' ((hP.below (dr hb')).row (i := 3) rfl).ro hx179 sl39 (hd 3 rfl).1 (hd 9 rfl).1 bz) ?_
       refine fc r (fun fr1 g w' hb' hd r' => y_loadL_one r' (u := (I x179)) (RoAt.at_ (f := i64) (x := x179) ((hP.below (dr hb')).row (i := 3) rfl).ro (fun _ => rfl) hx179) (hd 10 rfl).1 to3 bz) ?_
       refine fc r (fun fr1 g w' hb' hd r' => y_assign r' (hd 11 rfl).1 bz) ?_
       exact eachF_nil
      ·
       intro fr gg w180 hb hΦ hap r
       have r := r.congr (sc ((hΦ 12 rfl).1) (sc ((hΦ 11 rfl).1) (sc ((hΦ 10 rfl).1) (sc ((hΦ 9 rfl).1) (sc ((hΦ 8 rfl).1) (sc ((hΦ 7 rfl).1) (sc ((hΦ 6 rfl).1) (sc ((hΦ 5 rfl).1) (sc ((hΦ 4 rfl).1) (sc ((hΦ 3 rfl).1) (sc ((hΦ 2 rfl).1) (sc ((hΦ 1 rfl).1) (sc ((hΦ 0 rfl).1) rfl)))))))))))))
       have hP : Post Z [cellC a0_b #[a0_v0, (I a0.2.1), (.bool false), (.bool a0.2.2.2.1), c150, c151, c152, c153, c154, c155, c156, a0_v5] 41, roK 4 1 boolE a0_v0 a0.1, progK Try.prog encInt a0.2.2.2.2.1 (Value.agg #[a0_c4_0, a0_c4_1, a0_c4_2, a0_c4_3, a0_c4_4, a0_c4_5, a0_c4_6]) a0_F4, rowK 3 1 i64 a0_v5 a0.2.2.2.2.2, memK a2_g x141.2.2, cellC b1 ((planC a1)).toArray 23, progK Try.prog encInt x141.1 (Value.agg #[c150, c151, c152, c153, c154, c155, c156]) F143, cellC b145 (Value.agg #[c150, c151, c152, c153, c154, c155, c156]).cells 38] w0 w180 := hP.below hb
       refine wp_seq ?_
       obtain ⟨x181, hx181, hD⟩ := bindD_elim hD
       refine wp_drawnF 14 [.val (.pointer (some ⟨a0_b, 0, none⟩)), .val (.pointer (some ⟨a0_b, 0, none⟩)), .val (.pointer (some ⟨a0_b, 0, none⟩)), .val (.pointer (some ⟨a0_b, 11, none⟩)), .val a0_v5, .val (.pointer (some ⟨a0_b, 0, none⟩)), .val (.pointer (some ⟨a0_b, 0, none⟩)), .val (.pointer (some ⟨a0_b, 11, none⟩)), .val a0_v5, .val (I (a0.2.2.2.2.2.length : Int)), .val (I (W ((a0.2.2.2.2.2.length : Int) - 1))), .val (sliceV 1 a0_v5 (0 : Int).toNat (W ((a0.2.2.2.2.2.length : Int) - 1)).toNat), .val (.pointer (some ⟨a0_b, 0, none⟩)), .val (.pointer (some ⟨a0_b, 11, none⟩))] mixed r (by kernel_rfl) (within_cons (by exact trivial) (within_cons (by exact trivial) (within_cons (by exact trivial) (within_cons (by exact trivial) (within_cons (by exact trivial) (within_cons (by exact trivial) (within_cons (by exact trivial) (within_cons (by exact trivial) (within_cons (by exact trivial) (within_cons (by exact trivial) (within_cons (by exact trivial) (within_cons (by exact trivial) (within_cons (by exact trivial) (within_cons (by exact trivial) within_nil)))))))))))))) ?_ ?_
       ·
        refine ec r (fun _ u _ b d s => y_move s rfl bz) ?_
        refine ec r (fun _ u _ b d s => y_move s rfl bz) ?_
        refine ec r (fun _ u _ b d s => y_nilCheck s d.1 bz) ?_
        refine ec r (fun _ u _ b d s => y_fieldAddr s (b := a0_b) (o := 0) d.1 fo41_5 bz) ?_
        refine ec r (fun _ u _ b d s => y_load_one s d.1 ((hP.below (dr b)).cell (i := 0) rfl) to39 rfl bz) ?_
        refine ec r (fun _ u _ b d s => y_move s rfl bz) ?_
        refine ec r (fun _ u _ b d s => y_nilCheck s d.1 bz) ?_
        refine ec r (fun _ u _ b d s => y_fieldAddr s (b := a0_b) (o := 0) d.1 fo41_5 bz) ?_
        refine ec r (fun _ u _ b d s => y_load_one s d.1 ((hP.below (dr b)).cell (i := 0) rfl) to39 rfl bz) ?_
        refine ec r (fun _ u _ b d s => y_rowLen s ((hP.below (dr b)).row (i := 3) rfl).ro is39 d.1 bz) ?_
        refine ec r (fun _ u _ b d s => y_bin s d.1 rfl rfl rfl bz) ?_
        refine ec r (fun _ u _ b d s => y_cut s ((hP.below (dr b)).row (i := 3) rfl).ro sl39 d.1 rfl (congrArg some d.2.1) rfl rfl rfl rfl hx181 bz) ?_
        refine ec r (fun _ u _ b d s => y_nilCheck s d.1 bz) ?_
        refine ec r (fun _ u _ b d s => y_fieldAddr s (b := a0_b) (o := 0) d.1 fo41_5 bz) ?_
        exact each_nil
       ·
        intro fr u w182 hb hΦ hne r
        have r := r.congr (sc (hΦ 13 (by decide)) (sc (hΦ 12 (by decide)) (sc (hΦ 11 (by decide)) (sc (hΦ 10 (by decide)) (sc (hΦ 9 (by decide)) (sc (hΦ 8 (by decide)) (sc (hΦ 7 (by decide)) (sc (hΦ 6 (by decide)) (sc (hΦ 5 (by decide)) (sc (hΦ 4 (by decide)) (sc (hΦ 3 (by decide)) (sc (hΦ 2 (by decide)) (sc (hΦ 1 (by decide)) (sc (hΦ 0 (by decide)) rfl))))))))))))))
        have hP : Post Z [cellC a0_b #[a0_v0, (I a0.2.1), (.bool false), (.bool a0.2.2.2.1), c150, c151, c152, c153, c154, c155, c156, a0_v5] 41, roK 4 1 boolE a0_v0 a0.1, progK Try.prog encInt a0.2.2.2.2.1 (Value.agg #[a0_c4_0, a0_c4_1, a0_c4_2, a0_c4_3, a0_c4_4, a0_c4_5, a0_c4_6]) a0_F4, rowK 3 1 i64 a0_v5 a0.2.2.2.2.2, memK a2_g x141.2.2, cellC b1 ((planC a1)).toArray 23, progK Try.prog encInt x141.1 (Value.agg #[c150, c151, c152, c153, c154, c155, c156]) F143, cellC b145 (Value.agg #[c150, c151, c152, c153, c154, c155, c156]).cells 38] w0 w182 := hP.below hb
        have hP : Post Z [cellC a0_b #[a0_v0, (I a0.2.1), (.bool false), (.bool a0.2.2.2.1), c150, c151, c152, c153, c154, c155, c156, a0_v5] 41, roK 4 1 boolE a0_v0 a0.1, progK Try.prog encInt a0.2.2.2.2.1 (Value.agg #[a0_c4_0, a0_c4_1, a0_c4_2, a0_c4_3, a0_c4_4, a0_c4_5, a0_c4_6]) a0_F4, rowK 3 1 i64 (sliceV 1 a0_v5 (0 : Int).toNat (W ((a0.2.2.2.2.2.length : Int) - 1)).toNat) x181, memK a2_g x141.2.2, cellC b1 ((planC a1)).toArray 23, progK Try.prog encInt x141.1 (Value.agg #[c150, c151, c152, c153, c154, c155, c156]) F143, cellC b145 (Value.agg #[c150, c151, c152, c153, c154, c155, c156]).cells 38] w0 w182 := hP.narrow (i := 3) rfl (fun _ => rfl) hx181
        refine seq_upd (.cells #[a0_v0, (I a0.2.1), (.bool false), (.bool a0.2.2.2.1), c150, c151, c152, c153, c154, c155, c156, (sliceV 1 a0_v5 (0 : Int).toNat (W ((a0.2.2.2.2.2.length : Int) - 1)).toNat)] 41 (0, 0)) r (fun R => y_storeV r (o := 11) (n := 1) (v := (sliceV 1 a0_v5 (0 : Int).toNat (W ((a0.2.2.2.2.2.length : Int) - 1)).toNat)) (cs := [(sliceV 1 a0_v5 (0 : Int).toNat (W ((a0.2.2.2.2.2.length : Int) - 1)).toNat)]) rfl rfl (RoAt.cells1 (hP.row (i := 3) rfl).ro) (pall_cons (RoAt.plain (hP.row (i := 3) rfl).ro) pall_nil) rfl (hP.cell (i := 0) rfl) ts39 (Nat.le_of_ble_eq_true rfl) rfl) rfl fun fr w183 u184 r => ?_
        have hP : Post Z [cellC a0_b #[a0_v0, (I a0.2.1), (.bool false), (.bool a0.2.2.2.1), c150, c151, c152, c153, c154, c155, c156, (sliceV 1 a0_v5 (0 : Int).toNat (W ((a0.2.2.2.2.2.length : Int) - 1)).toNat)] 41, roK 4 1 boolE a0_v0 a0.1, progK Try.prog encInt a0.2.2.2.2.1 (Value.agg #[a0_c4_0, a0_c4_1, a0_c4_2, a0_c4_3, a0_c4_4, a0_c4_5, a0_c4_6]) a0_F4, rowK 3 1 i64 (sliceV 1 a0_v5 (0 : Int).toNat (W ((a0.2.2.2.2.2.length : Int) - 1)).toNat) x181, memK a2_g x141.2.2, cellC b1 ((planC a1)).toArray 23, progK Try.prog encInt x141.1 (Value.agg #[c150, c151, c152, c153, c154, c155, c156]) F143, cellC b145 (Value.agg #[c150, c151, c152, c153, c154, c155, c156]).cells 38] w0 w183 := hP.upd (i := 0) rfl u184
        refine wn ?_
        refine wsr ?_
        refine seq_val (I x160.1) r (fun R => y_move r rfl) rfl fun fr r => ?_
        refine seq_val (I x179) r (fun R => y_move r rfl) rfl fun fr r => ?_
        refine seq_val _ r (fun R => y_bin r rfl rfl rfl rfl) rfl fun fr r => ?_
        refine seq_val (.bool (x160.1 == x179)) r (fun R => y_assign r rfl) rfl fun fr r => ?_
        refine wn ?_
        refine wp_ret ?_
        have hP : Post Z [cellC a0_b #[a0_v0, (I a0.2.1), (.bool false), (.bool a0.2.2.2.1), c150, c151, c152, c153, c154, c155, c156, (sliceV 1 a0_v5 (0 : Int).toNat (W ((a0.2.2.2.2.2.length : Int) - 1)).toNat)] 41, roK 4 1 boolE a0_v0 a0.1, progK Try.prog encInt a0.2.2.2.2.1 (Value.agg #[a0_c4_0, a0_c4_1, a0_c4_2, a0_c4_3, a0_c4_4, a0_c4_5, a0_c4_6]) a0_F4, rowK 3 1 i64 (sliceV 1 a0_v5 (0 : Int).toNat (W ((a0.2.2.2.2.2.length : Int) - 1)).toNat) x181, memK a2_g x141.2.2, cellC b1 ((planC a1)).toArray 23, progO Try.prog encInt x141.1 (Value.agg #[c150, c151, c152, c153, c154, c155, c156]) F143, cellC b145 (Value.agg #[c150, c151, c152, c153, c154, c155, c156]).cells 38] w0 w183 := hP.toO (i := 6) rfl
        have hv : ((x160.1 == x179), (a0.1, a0.2.1, false, a0.2.2.2.1, x141.1, x181), x141.2.2) = res := Option.some.inj hD
        try dsimp only [Exit.then, Exit.inBlock]
        refine ret_tmp (fn := Try.f8) r (t := 6) rfl (v := (.bool (x160.1 == x179))) rfl ?_
        subst hv
        exact ⟨(⟨a0_b, a0_v0, c150, c151, c152, c153, c154, c155, c156, F143, (sliceV 1 a0_v5 (0 : Int).toNat (W ((a0.2.2.2.2.2.length : Int) - 1)).toNat)⟩ : Gth9), rfl, rfl, (hP.pick [0, 1, 6, 3, 4] rfl rfl).done (rest_cons rfl (rest_consP (fun b h => .inl (hY _ (List.mem_cons_of_mem _ (List.mem_cons_self ..)) b h)) (rest_consP fp147 (rest_cons rfl (rest_cons rfl rest_nil)))))⟩

def D.cubiclelaw09_apart (fu : Nat) (a0 : List TH9) (a1 : Int) : Option (Bool) := ((makeD (false : Bool) a1).bind (fun (x1 : List Bool) => (loopThen (fun (x6 : Bool × List Bool × Int) => (bif (decide (x6.2.2 < (a0.length : Int))) then (loopThen (fun (x11 : Bool × List Bool × Int) => ((getI a0 x6.2.2).bind (fun (x15 : TH9) => (bif (decide (x11.2.2 < (x15.2.2.2.2.2.length : Int))) then ((getI a0 x6.2.2).bind (fun (x17 : TH9) => ((getI x17.2.2.2.2.2 x11.2.2).bind (fun (x18 : Int) => ((getI x11.2.1 x18).bind (fun (x19 : Bool) => (bif x19 then (some (Lp.ret (Lp.ret false))) else ((getI x11.2.1 x18).bind (fun (x21 : Bool) => (some (Lp.next (x11.1, (x11.2.1.set x18.toNat true), (IntKind.i64.wrap (x11.2.2 + 1)))))))))))))) else (some (Lp.brk (x11.1, x11.2.1, x11.2.2))))))) fu (x6.1, x6.2.1, 0) (fun (x24 : Bool × List Bool × Int) => (some (Lp.next (x24.1, x24.2.1, (IntKind.i64.wrap (x6.2.2 + 1))))))) else (some (Lp.brk (x6.1, x6.2.1, x6.2.2))))) fu (false, x1, 0) (fun (x27 : Bool × List Bool × Int) => (some true)))))

set_option maxRecDepth 20000 in
set_option maxHeartbeats 20000000 in
theorem c_cubiclelaw09_apart {fu : Nat} (w0 : World) {a0_gs : List Gth9} {a0_v : Value} (a0 : List TH9) (a0_h : Sep (th9.all 32 a0_gs a0_v a0) w0) (a1 : Int) {res : Bool} (hD : D.cubiclelaw09_apart fu a0 a1 = some res) :
    Calls Try.prog 9 #[a0_v, .int .i64 a1] w0 (PureRes (.bool res) w0) := by
 refine enter Try.func9 rfl 46 rfl rfl fun fr r => ?_
 have hP : Post No [] w0 w0 := Post.nil w0
 have hP : Post No [thsR th9 32 a0_gs a0_v a0] w0 w0 := hP.addRo norw_nil a0_h rfl (thsR_lt a0_h)
 unfold D.cubiclelaw09_apart at hD
 refine wsr ?_
 refine seq_val (.bool false) r (fun R => y_assign r rfl) rfl fun fr r => ?_
 refine wn ?_
 refine wsr ?_
 refine seq_val (I a1) r (fun R => y_move r rfl) rfl fun fr r => ?_
 obtain ⟨x1, hx1, hD⟩ := bindD_elim hD
 refine seq_newS (.cells ((x1).flatMap boolE).toArray 4 (0, 0)) (a1.toNat) r (fun R => y_makeRow (f := boolE) r rt31 tz4 rfl rfl rfl rfl hx1) rfl fun fr b2 w3 n4 r => ?_
 have hP : Post No [thsR th9 32 a0_gs a0_v a0, rowK 4 1 boolE (.slice (some ⟨b2, 0, none⟩) (a1.toNat) (a1.toNat)) x1] w0 w3 := hP.newRow n4 (fun _ => rfl) (makeD_len hx1)
 refine seq_val (.slice (some ⟨b2, 0, none⟩) (a1.toNat) (a1.toNat)) r (fun R => y_assign r rfl) rfl fun fr r => ?_
 refine wn ?_
 refine wp_seq ?_
 refine wsr ?_
 refine seq_val (I 0) r (fun R => y_assign r rfl) rfl fun fr r => ?_
 refine wn ?_
 refine wp_loopG (X := Bool × List Bool × Int) (G := Value) (x0 := (false, x1, 0)) (fun x γ => [(0, a0_v), (1, (I a1)), (4, (.bool x.1)), (5, γ), (6, (I x.2.2))]) (fun x γ w => Post No [thsR th9 32 a0_gs a0_v a0, rowK 4 1 boolE γ x.2.1] w0 w) (.slice (some ⟨b2, 0, none⟩) (a1.toNat) (a1.toNat)) r (hs_cons rfl (hs_cons rfl (hs_cons rfl (hs_cons rfl (hs_cons rfl hs_nil))))) hP hD ?_ ?_
 ·
  rintro x6 γ7 fr w9 g y8 RPy8 nxy8 bky8 rty8 r hP hD
  have hP : Post No [thsR th9 32 a0_gs a0_v a0, rowK 4 1 boolE γ7 x6.2.1] w0 w9 := hP
  refine wp_seq ?_
  refine wsr ?_
  refine seq_val (I x6.2.2) r (fun R => y_move r rfl) rfl fun fr r => ?_
  refine seq_val a0_v r (fun R => y_move r rfl) rfl fun fr r => ?_
  refine seq_val (I (a0.length : Int)) r (fun R => y_rowsLen r (ths_len2 (ths_count (hP.thsr (i := 0) rfl)) (ths_outer (hP.thsr (i := 0) rfl)).ro) is30 rfl) rfl fun fr r => ?_
  refine seq_val _ r (fun R => y_bin r rfl rfl rfl rfl) rfl fun fr r => ?_
  refine wn ?_
  refine wp_cond_split (t := (decide (x6.2.2 < (a0.length : Int)))) (r.ev rfl) (fun h10 => ?_) (fun h10 => ?_)
  ·
   have hD := (cond_t h10).symm.trans hD
   refine wp_skip ?_
   refine wp_seq ?_
   refine wp_block ?_
   refine wsr ?_
   refine seq_val (I 0) r (fun R => y_assign r rfl) rfl fun fr r => ?_
   refine wn ?_
   refine wp_loopG (X := Bool × List Bool × Int) (G := Value) (x0 := (x6.1, x6.2.1, 0)) (fun x γ => [(0, a0_v), (1, (I a1)), (6, (I x6.2.2)), (14, (.bool (decide (x6.2.2 < (a0.length : Int))))), (4, (.bool x.1)), (5, γ), (7, (I x.2.2))]) (fun x γ w => Post No [thsR th9 32 a0_gs a0_v a0, rowK 4 1 boolE γ x.2.1] w0 w) γ7 r (hs_cons rfl (hs_cons rfl (hs_cons rfl (hs_cons rfl (hs_cons rfl (hs_cons rfl (hs_cons rfl hs_nil))))))) hP hD ?_ ?_
   ·
    rintro x11 γ12 fr w14 g y13 RPy13 nxy13 bky13 rty13 r hP hD
    have hP : Post No [thsR th9 32 a0_gs a0_v a0, rowK 4 1 boolE γ12 x11.2.1] w0 w14 := hP
    refine wp_seq ?_
    refine wsr ?_
    refine seq_val (I x11.2.2) r (fun R => y_move r rfl) rfl fun fr r => ?_
    refine seq_val a0_v r (fun R => y_move r rfl) rfl fun fr r => ?_
    refine seq_val (I x6.2.2) r (fun R => y_move r rfl) rfl fun fr r => ?_
    obtain ⟨x15, hx15, hD⟩ := bindD_elim hD
    refine seq_val (.pointer (some ⟨rowB a0_v, rowO a0_v + x6.2.2.toNat * 1, none⟩)) r (fun R => y_rowAddr r (ths_outer (hP.thsr (i := 0) rfl)).ro (ths_idx (hP.thsr (i := 0) rfl) hx15) sl30 rfl rfl) rfl fun fr r => ?_
    refine seq_val (.pointer (some ⟨th9.b (th9.at_ a0_gs x6.2.2), 0, none⟩)) r (fun R => y_loadL_one r (u := (.pointer (some ⟨th9.b (th9.at_ a0_gs x6.2.2), 0, none⟩))) (RoAt.at_ (f := ptrE) (x := th9.b (th9.at_ a0_gs x6.2.2)) (ths_outer (hP.thsr (i := 0) rfl)).ro (fun _ => rfl) (ths_idx (hP.thsr (i := 0) rfl) hx15)) rfl to32) rfl fun fr r => ?_
    refine seq_val (.pointer (some ⟨th9.b (th9.at_ a0_gs x6.2.2), 0, none⟩)) r (fun R => y_nilCheck r rfl) rfl fun fr r => ?_
    refine seq_val _ r (fun R => y_fieldAddr r (b := th9.b (th9.at_ a0_gs x6.2.2)) (o := 0) (k := 11) rfl fo41_5) rfl fun fr r => ?_
    refine seq_val ((th9.at_ a0_gs x6.2.2).v5) r (fun R => y_load_one r rfl (Sep.cell (i := 0) (ths_one (hP.thsr (i := 0) rfl) hx15) rfl) to39 rfl) rfl fun fr r => ?_
    refine seq_val (I (x15.2.2.2.2.2.length : Int)) r (fun R => y_rowLen r (Sep.row (i := 3) (ths_one (hP.thsr (i := 0) rfl) hx15) rfl).ro is39 rfl) rfl fun fr r => ?_
    refine seq_val _ r (fun R => y_bin r rfl rfl rfl rfl) rfl fun fr r => ?_
    refine wn ?_
    refine wp_cond_split (t := (decide (x11.2.2 < (x15.2.2.2.2.2.length : Int)))) (r.ev rfl) (fun h16 => ?_) (fun h16 => ?_)
    ·
     have hD := (cond_t h16).symm.trans hD
     refine wp_skip ?_
     refine wp_seq ?_
     refine wp_block ?_
     refine wsr ?_
     refine seq_val a0_v r (fun R => y_move r rfl) rfl fun fr r => ?_
     refine seq_val (I x6.2.2) r (fun R => y_move r rfl) rfl fun fr r => ?_
     obtain ⟨x17, hx17, hD⟩ := bindD_elim hD
     refine seq_val (.pointer (some ⟨rowB a0_v, rowO a0_v + x6.2.2.toNat * 1, none⟩)) r (fun R => y_rowAddr r (ths_outer (hP.thsr (i := 0) rfl)).ro (ths_idx (hP.thsr (i := 0) rfl) hx17) sl30 rfl rfl) rfl fun fr r => ?_
     refine seq_val (.pointer (some ⟨th9.b (th9.at_ a0_gs x6.2.2), 0, none⟩)) r (fun R => y_loadL_one r (u := (.pointer (some ⟨th9.b (th9.at_ a0_gs x6.2.2), 0, none⟩))) (RoAt.at_ (f := ptrE) (x := th9.b (th9.at_ a0_gs x6.2.2)) (ths_outer (hP.thsr (i := 0) rfl)).ro (fun _ => rfl) (ths_idx (hP.thsr (i := 0) rfl) hx17)) rfl to32) rfl fun fr r => ?_
     refine seq_val (.pointer (some ⟨th9.b (th9.at_ a0_gs x6.2.2), 0, none⟩)) r (fun R => y_nilCheck r rfl) rfl fun fr r => ?_
     refine seq_val _ r (fun R => y_fieldAddr r (b := th9.b (th9.at_ a0_gs x6.2.2)) (o := 0) (k := 11) rfl fo41_5) rfl fun fr r => ?_
     refine seq_val ((th9.at_ a0_gs x6.2.2).v5) r (fun R => y_load_one r rfl (Sep.cell (i := 0) (ths_one (hP.thsr (i := 0) rfl) hx17) rfl) to39 rfl) rfl fun fr r => ?_
     refine seq_val (I x11.2.2) r (fun R => y_move r rfl) rfl fun fr r => ?_
     obtain ⟨x18, hx18, hD⟩ := bindD_elim hD
     refine seq_val (.pointer (some ⟨rowB ((th9.at_ a0_gs x6.2.2).v5), rowO ((th9.at_ a0_gs x6.2.2).v5) + x11.2.2.toNat * 1, none⟩)) r (fun R => y_rowAddr r (Sep.row (i := 3) (ths_one (hP.thsr (i := 0) rfl) hx17) rfl).ro hx18 sl39 rfl rfl) rfl fun fr r => ?_
     refine seq_val (I x18) r (fun R => y_loadL_one r (u := (I x18)) (RoAt.at_ (f := i64) (x := x18) (Sep.row (i := 3) (ths_one (hP.thsr (i := 0) rfl) hx17) rfl).ro (fun _ => rfl) hx18) rfl to3) rfl fun fr r => ?_
     refine seq_val (I x18) r (fun R => y_assign r rfl) rfl fun fr r => ?_
     refine wn ?_
     refine wp_seq ?_
     refine wsr ?_
     refine seq_val γ12 r (fun R => y_move r rfl) rfl fun fr r => ?_
     refine seq_val (I x18) r (fun R => y_move r rfl) rfl fun fr r => ?_
     obtain ⟨x19, hx19, hD⟩ := bindD_elim hD
     refine seq_val (.pointer (some ⟨rowB γ12, rowO γ12 + x18.toNat * 1, none⟩)) r (fun R => y_rowAddr r (hP.row (i := 1) rfl).ro hx19 sl31 rfl rfl) rfl fun fr r => ?_
     refine seq_val (.bool x19) r (fun R => y_loadL_one r (u := (.bool x19)) (RoAt.at_ (f := boolE) (x := x19) (hP.row (i := 1) rfl).ro (fun _ => rfl) hx19) rfl to4) rfl fun fr r => ?_
     refine wn ?_
     refine wp_cond_split (t := x19) (r.ev rfl) (fun h20 => ?_) (fun h20 => ?_)
     ·
      have hD := (cond_t h20).symm.trans hD
      refine wsr ?_
      refine seq_val (.bool false) r (fun R => y_assign r rfl) rfl fun fr r => ?_
      refine wn ?_
      refine wp_ret ?_
      refine rty13 (Lp.ret false) _ _ hD fun hD => ?_
      refine rty8 false _ _ hD fun hD => ?_
      have hv : false = res := Option.some.inj hD
      try dsimp only [Exit.then, Exit.inBlock]
      refine ret_tmp (fn := Try.f9) r (t := 4) rfl (v := (.bool false)) rfl ?_
      subst hv
      exact ⟨rfl, hP.chg.below⟩
     ·
      have hD := (cond_f h20).symm.trans hD
      refine wp_skip ?_
      refine wp_region_lit ?_
      refine seq_val γ12 r (fun R => y_move r rfl) rfl fun fr r => ?_
      refine seq_val (I x18) r (fun R => y_move r rfl) rfl fun fr r => ?_
      obtain ⟨x21, hx21, hD⟩ := bindD_elim hD
      refine seq_val (.pointer (some ⟨rowB γ12, rowO γ12 + x18.toNat * 1, none⟩)) r (fun R => y_rowAddr r (hP.row (i := 1) rfl).ro hx21 sl31 rfl rfl) rfl fun fr r => ?_
      refine seq_set 4 boolE γ12 (x11.2.1.set x18.toNat true) r (fun R => y_setRow r (hP.row (i := 1) rfl) hx21 (fun _ => rfl) rfl rfl rfl rfl rfl sz1_4) rfl fun fr w22 ha23 r => ?_
      have hP : Post No [thsR th9 32 a0_gs a0_v a0, rowK 4 1 boolE γ12 (x11.2.1.set x18.toNat true)] w0 w22 := hP.append (i := 1) rfl ha23
      refine wn ?_
      refine wp_region_lit ?_
      refine seq_val (I x11.2.2) r (fun R => y_move r rfl) rfl fun fr r => ?_
      refine seq_val _ r (fun R => y_bin r rfl rfl rfl rfl) rfl fun fr r => ?_
      refine seq_val (I (W (x11.2.2 + 1))) r (fun R => y_assign r rfl) rfl fun fr r => ?_
      refine wn ?_
      exact nxy13 (x11.1, (x11.2.1.set x18.toNat true), (W (x11.2.2 + 1))) γ12 _ _ _ hD r (hs_cons rfl (hs_cons rfl (hs_cons rfl (hs_cons rfl (hs_cons rfl (hs_cons rfl (hs_cons rfl hs_nil))))))) (hP.pick [0, 1] rfl rfl)
    ·
     have hD := (cond_f h16).symm.trans hD
     refine wp_exit ?_
     exact bky13 (x11.1, x11.2.1, x11.2.2) γ12 _ _ _ hD r (hs_cons rfl (hs_cons rfl (hs_cons rfl (hs_cons rfl (hs_cons rfl (hs_cons rfl (hs_cons rfl hs_nil))))))) (hP.pick [0, 1] rfl rfl)
   ·
    rintro x24 γ25 fr w26 g r hP hD
    have hP : Post No [thsR th9 32 a0_gs a0_v a0, rowK 4 1 boolE γ25 x24.2.1] w0 w26 := hP
    refine wp_region_lit ?_
    refine seq_val (I x6.2.2) r (fun R => y_move r rfl) rfl fun fr r => ?_
    refine seq_val _ r (fun R => y_bin r rfl rfl rfl rfl) rfl fun fr r => ?_
    refine seq_val (I (W (x6.2.2 + 1))) r (fun R => y_assign r rfl) rfl fun fr r => ?_
    refine wn ?_
    exact nxy8 (x24.1, x24.2.1, (W (x6.2.2 + 1))) γ25 _ _ _ hD r (hs_cons rfl (hs_cons rfl (hs_cons rfl (hs_cons rfl (hs_cons rfl hs_nil))))) (hP.pick [0, 1] rfl rfl)
  ·
   have hD := (cond_f h10).symm.trans hD
   refine wp_exit ?_
   exact bky8 (x6.1, x6.2.1, x6.2.2) γ7 _ _ _ hD r (hs_cons rfl (hs_cons rfl (hs_cons rfl (hs_cons rfl (hs_cons rfl hs_nil))))) (hP.pick [0, 1] rfl rfl)
 ·
  rintro x27 γ28 fr w29 g r hP hD
  have hP : Post No [thsR th9 32 a0_gs a0_v a0, rowK 4 1 boolE γ28 x27.2.1] w0 w29 := hP
  refine wsr ?_
  refine seq_val (.bool true) r (fun R => y_assign r rfl) rfl fun fr r => ?_
  refine wn ?_
  refine wp_ret ?_
  have hv : true = res := Option.some.inj hD
  try dsimp only [Exit.then, Exit.inBlock]
  refine ret_tmp (fn := Try.f9) r (t := 4) rfl (v := (.bool true)) rfl ?_
  subst hv
  exact ⟨rfl, hP.chg.below⟩

def D.cubiclelaw09_FreeMany (fu : Nat) (a0 : Plan) (a1 : List (List Bool)) (a2 : List Int) : Option (Bool) := (Option.bind ((D.cubiclelaw09_awake fu ).bind (fun (x6 : Bool) => (bif (!x6) then (some true) else (bif (!(D.cubicleref06_Few a0)) then (some true) else (bif (!(D.cubicleref06_Formed a0)) then (some true) else (bif (decide ((a1.length : Int) > 4)) then (some true) else (bif ((a1.length : Int) == 0) then (some true) else (some (decide ((a2.length : Int) > 200)))))))))) (fun (x15 : Bool) => (bif x15 then ((D.cubiclelaw09_awake fu ).bind (fun (x19 : Bool) => (some x19))) else ((D.cubiclelaw09_Laid fu a0).bind (fun (x21 : Mem) => (loopThen (fun (x26 : Bool × List TH9 × Int) => (bif (decide (x26.2.2 < (a1.length : Int))) then ((getI a1 x26.2.2).bind (fun (x31 : List Bool) => (bif (decide ((x31.length : Int) > 12)) then (some (Lp.ret true)) else ((getI a1 x26.2.2).bind (fun (x33 : List Bool) => ((appD x26.2.1 [((x33, 0, false, false, ((0, .cut) : Nat × T Int), []) : TH9)]).bind (fun (x48 : List TH9) => (some (Lp.next (x26.1, x48, (IntKind.i64.wrap (x26.2.2 + 1)))))))))))) else (some (Lp.brk (x26.1, x26.2.1, x26.2.2))))) fu (false, [], 0) (fun (x53 : Bool × List TH9 × Int) => (loopThen (fun (x56 : Bool × List TH9 × Int × Mem) => (bif (decide (x56.2.2.1 < (IntKind.i64.wrap ((a2.length : Int) + 400)))) then ((guardI (decide ((x56.2.1.length : Int) ≠ 0))).bind (fun (x61 : Unit) => ((getI x56.2.1 (x56.2.2.1.tmod (x56.2.1.length : Int))).bind (fun (x62 : TH9) => (Option.bind (bif (decide (x56.2.2.1 < (a2.length : Int))) then ((getI a2 x56.2.2.1).bind (fun (x65 : Int) => ((guardI (decide ((x56.2.1.length : Int) ≠ 0))).bind (fun (x66 : Unit) => ((getI x56.2.1 ((IntKind.i64.wrap x65).tmod (x56.2.1.length : Int))).bind (fun (x67 : TH9) => (some ((IntKind.i64.wrap x65).tmod (x56.2.1.length : Int))))))))) else (Option.bind (bif (decide ((IntKind.i64.wrap ((IntKind.i64.wrap (x56.2.2.1 - (a2.length : Int))).tdiv 100)) < (x56.2.1.length : Int))) then ((getI x56.2.1 (IntKind.i64.wrap ((IntKind.i64.wrap (x56.2.2.1 - (a2.length : Int))).tdiv 100))).bind (fun (x70 : TH9) => (some (IntKind.i64.wrap ((IntKind.i64.wrap (x56.2.2.1 - (a2.length : Int))).tdiv 100))))) else (some (x56.2.2.1.tmod (x56.2.1.length : Int)))) (fun (x71 : Int) => (some x71)))) (fun (x74 : Int) => (Option.bind ((getI x56.2.1 x74).bind (fun (x78 : TH9) => ((D.cubiclelaw09_Thread_pick fu x78 a0 x56.2.2.2).bind (fun (x79 : Bool × TH9 × Mem) => (bif (!x79.1) then (some (x56.2.1.set x74.toNat x79.2.1, x79.2.2, true)) else ((D.cubiclelaw09_apart fu (x56.2.1.set x74.toNat x79.2.1) a0.nodes).bind (fun (x84 : Bool) => (some (x56.2.1.set x74.toNat x79.2.1, x79.2.2, (!x84)))))))))) (fun (x86 : List TH9 × Mem × Bool) => (bif x86.2.2 then (some (Lp.ret false)) else (some (Lp.next (x56.1, x86.1, (IntKind.i64.wrap (x56.2.2.1 + 1)), x86.2.1)))))))))))) else (some (Lp.brk (x56.1, x56.2.1, x56.2.2.1, x56.2.2.2))))) fu (x53.1, x53.2.1, 0, x21) (fun (x90 : Bool × List TH9 × Int × Mem) => ((D.free_List fu a0 x90.2.2.2 0).bind (fun (x93 : List Int) => (loopThen (fun (x97 : Bool × Int) => (bif (decide (x97.2 < a0.nodes)) then (loopThen (fun (x102 : Bool × Int × Int) => (bif (decide (x102.2.2 < (x90.2.1.length : Int))) then (Option.bind ((getI x90.2.1 x102.2.2).bind (fun (x108 : TH9) => (bif x108.2.2.1 then (some true) else ((getI x90.2.1 x102.2.2).bind (fun (x111 : TH9) => ((getI x90.2.1 x102.2.2).bind (fun (x112 : TH9) => (some (decide (x111.2.1 < (x112.1.length : Int))))))))))) (fun (x114 : Bool) => (bif x114 then (some (Lp.ret (Lp.ret false))) else ((getI x90.2.1 x102.2.2).bind (fun (x118 : TH9) => ((D.cubicleref09_Has fu x118.2.2.2.2.2 x97.2).bind (fun (x119 : Bool) => (Option.bind (bif x119 then (some (IntKind.i64.wrap (x102.2.1 + 1))) else (some x102.2.1)) (fun (x123 : Int) => (some (Lp.next (x102.1, x123, (IntKind.i64.wrap (x102.2.2 + 1)))))))))))))) else (some (Lp.brk (x102.1, x102.2.1, x102.2.2))))) fu (x97.1, 0, 0) (fun (x126 : Bool × Int × Int) => (loopThen (fun (x129 : Int × Int) => (bif (decide (x129.2 < (x93.length : Int))) then ((getI x93 x129.2).bind (fun (x134 : Int) => (Option.bind (bif (x134 == x97.2) then (some (IntKind.i64.wrap (x129.1 + 1))) else (some x129.1)) (fun (x137 : Int) => (some (Lp.next (x137, (IntKind.i64.wrap (x129.2 + 1))))))))) else (some (Lp.brk (x129.1, x129.2))))) fu (x126.2.1, 0) (fun (x140 : Int × Int) => (bif (x140.1 != 1) then (some (Lp.ret false)) else (some (Lp.next (x126.1, (IntKind.i64.wrap (x97.2 + 1)))))))))) else (some (Lp.brk (x97.1, x97.2))))) fu (x90.1, 0) (fun (x144 : Bool × Int) => (some true))))))))))))))

set_option maxRecDepth 20000 in
set_option maxHeartbeats 20000000 in
theorem c_cubiclelaw09_FreeMany {fu : Nat} (w0 : World) (a0 : Plan) {a1_vs : List Value} {a1_v : Value} (a1 : List (List Bool)) (a1_h : RowsAt 4 1 boolE a1_vs a1_v a1 w0) {a2_v : Value} (a2 : List Int) (a2_h : RoAt 5 1 u8E a2_v a2 w0) {res : Bool} (hD : D.cubiclelaw09_FreeMany fu a0 a1 a2 = some res) :
    Calls Try.prog 3 #[.agg (planC a0).toArray, a1_v, a2_v] w0 (PureRes (.bool res) w0) := by
 refine enter Try.func3 rfl 192 rfl rfl fun fr r => ?_
 have hP : Post No [] w0 w0 := Post.nil w0
 have hP : Post No [rowsR 4 1 boolE a1_vs a1_v a1] w0 w0 := hP.addRo norw_nil a1_h rfl a1_h.lt
 have hP : Post No [rowsR 4 1 boolE a1_vs a1_v a1, roK 5 1 u8E a2_v a2] w0 w0 := hP.addRo (norw_cons rfl norw_nil) a2_h rfl a2_h.lt
 unfold D.cubiclelaw09_FreeMany at hD
 refine wsr ?_
 refine seq_new (.cells ((planC a0)).toArray 23 (0, 0)) r (fun R => y_box r (v := (.agg (planC a0).toArray)) rfl) rfl fun fr b1 w2 n3 r => ?_
 have hP : Post No [rowsR 4 1 boolE a1_vs a1_v a1, roK 5 1 u8E a2_v a2, cellC b1 ((planC a0)).toArray 23] w0 w2 := hP.new n3
 refine seq_val (.bool false) r (fun R => y_assign r rfl) rfl fun fr r => ?_
 refine wn ?_
 refine wp_seq ?_
 refine wp_seq ?_
 refine wp_joinG (N := 192) (Y := Bool) (G := Unit) (fun x γ => [(0, (.agg (planC a0).toArray)), (1, a1_v), (2, a2_v), (3, (.pointer (some ⟨b1, 0, none⟩))), (6, (.bool false)), (44, (.bool x))]) (fun x γ w => Post No [rowsR 4 1 boolE a1_vs a1_v a1, roK 5 1 u8E a2_v a2, cellC b1 ((planC a0)).toArray 23] w0 w) hD ?_ ?_
 ·
  rintro y5 RPy5 nxy5 hD
  refine wp_region_lit ?_
  obtain ⟨x6, hx6, hD⟩ := bindD_elim hD
  refine seq_call r (c_cubiclelaw09_awake w2  hx6) (fun R hc => y_call r rfl cl4 hc) rfl ?_
  rintro _ w7 ⟨rfl, hb⟩
  refine ⟨_, rfl, fun fr r => ?_⟩
  have hP : Post No [rowsR 4 1 boolE a1_vs a1_v a1, roK 5 1 u8E a2_v a2, cellC b1 ((planC a0)).toArray 23] w0 w7 := hP.below hb
  refine seq_val (.bool (!x6)) r (fun R => y_un r (u := (.bool x6)) rfl rfl) rfl fun fr r => ?_
  refine seq_val (.bool (!x6)) r (fun R => y_move r rfl) rfl fun fr r => ?_
  refine seq_split (!x6) (fun h8 => ?_) (fun h8 => ?_)
  ·
   have hD := (cond_t h8).symm.trans hD
   refine s0 r h8 fun fr r => ?_
   refine s0 r h8 fun fr r => ?_
   refine s0 r h8 fun fr r => ?_
   refine seq_val (.bool true) r (fun R => y_pick r (b := true) (congrArg Value.bool h8) rfl) rfl fun fr r => ?_
   refine seq_val (.bool true) r (fun R => y_move r rfl) rfl fun fr r => ?_
   refine s0 r (rfl : true = _) fun fr r => ?_
   refine s0 r (rfl : true = _) fun fr r => ?_
   refine s0 r (rfl : true = _) fun fr r => ?_
   refine seq_val (.bool true) r (fun R => y_pick r (b := true) (congrArg Value.bool (rfl : true = _)) rfl) rfl fun fr r => ?_
   refine seq_val (.bool true) r (fun R => y_move r rfl) rfl fun fr r => ?_
   refine s0 r (rfl : true = _) fun fr r => ?_
   refine s0 r (rfl : true = _) fun fr r => ?_
   refine s0 r (rfl : true = _) fun fr r => ?_
   refine seq_val (.bool true) r (fun R => y_pick r (b := true) (congrArg Value.bool (rfl : true = _)) rfl) rfl fun fr r => ?_
   refine seq_val (.bool true) r (fun R => y_move r rfl) rfl fun fr r => ?_
   refine s0 r (rfl : true = _) fun fr r => ?_
   refine s0 r (rfl : true = _) fun fr r => ?_
   refine s0 r (rfl : true = _) fun fr r => ?_
   refine seq_val (.bool true) r (fun R => y_pick r (b := true) (congrArg Value.bool (rfl : true = _)) rfl) rfl fun fr r => ?_
   refine seq_val (.bool true) r (fun R => y_move r rfl) rfl fun fr r => ?_
   refine s0 r (rfl : true = _) fun fr r => ?_
   refine s0 r (rfl : true = _) fun fr r => ?_
   refine s0 r (rfl : true = _) fun fr r => ?_
   refine seq_val (.bool true) r (fun R => y_pick r (b := true) (congrArg Value.bool (rfl : true = _)) rfl) rfl fun fr r => ?_
   refine wn ?_
   exact nxy5 true () _ _ _ hD r (hs_cons rfl (hs_cons rfl (hs_cons rfl (hs_cons rfl (hs_cons rfl (hs_cons rfl hs_nil)))))) (hP.pick [0, 1, 2] rfl rfl)
  ·
   have hD := (cond_f h8).symm.trans hD
   refine s1 r h8 ?_
   refine seq_val (.agg (planC a0).toArray) r (fun R => y_load_agg r (cs := (planC a0)) (n := 6) rfl (hP.cell (i := 2) rfl) ta23 rfl) rfl fun fr r => ?_
   refine s1 r h8 ?_
   refine seq_call r (c_cubicleref06_Few w7 a0) (fun R hc => y_call r rfl cl5 hc) rfl ?_
   rintro _ w9 ⟨rfl, hb⟩
   refine ⟨_, rfl, fun fr r => ?_⟩
   have hP : Post No [rowsR 4 1 boolE a1_vs a1_v a1, roK 5 1 u8E a2_v a2, cellC b1 ((planC a0)).toArray 23] w0 w9 := hP.below hb
   refine s1 r h8 ?_
   refine seq_val (.bool (!(D.cubicleref06_Few a0))) r (fun R => y_un r (u := (.bool (D.cubicleref06_Few a0))) rfl rfl) rfl fun fr r => ?_
   refine seq_val (.bool (!(D.cubicleref06_Few a0))) r (fun R => y_pick r (b := false) (congrArg Value.bool h8) rfl) rfl fun fr r => ?_
   refine seq_val (.bool (!(D.cubicleref06_Few a0))) r (fun R => y_move r rfl) rfl fun fr r => ?_
   refine seq_split (!(D.cubicleref06_Few a0)) (fun h10 => ?_) (fun h10 => ?_)
   ·
    have hD := (cond_t h10).symm.trans hD
    refine s0 r h10 fun fr r => ?_
    refine s0 r h10 fun fr r => ?_
    refine s0 r h10 fun fr r => ?_
    refine seq_val (.bool true) r (fun R => y_pick r (b := true) (congrArg Value.bool h10) rfl) rfl fun fr r => ?_
    refine seq_val (.bool true) r (fun R => y_move r rfl) rfl fun fr r => ?_
    refine s0 r (rfl : true = _) fun fr r => ?_
    refine s0 r (rfl : true = _) fun fr r => ?_
    refine s0 r (rfl : true = _) fun fr r => ?_
    refine seq_val (.bool true) r (fun R => y_pick r (b := true) (congrArg Value.bool (rfl : true = _)) rfl) rfl fun fr r => ?_
    refine seq_val (.bool true) r (fun R => y_move r rfl) rfl fun fr r => ?_
    refine s0 r (rfl : true = _) fun fr r => ?_
    refine s0 r (rfl : true = _) fun fr r => ?_
    refine s0 r (rfl : true = _) fun fr r => ?_
    refine seq_val (.bool true) r (fun R => y_pick r (b := true) (congrArg Value.bool (rfl : true = _)) rfl) rfl fun fr r => ?_
    refine seq_val (.bool true) r (fun R => y_move r rfl) rfl fun fr r => ?_
    refine s0 r (rfl : true = _) fun fr r => ?_
    refine s0 r (rfl : true = _) fun fr r => ?_
    refine s0 r (rfl : true = _) fun fr r => ?_
    refine seq_val (.bool true) r (fun R => y_pick r (b := true) (congrArg Value.bool (rfl : true = _)) rfl) rfl fun fr r => ?_
    refine wn ?_
    exact nxy5 true () _ _ _ hD r (hs_cons rfl (hs_cons rfl (hs_cons rfl (hs_cons rfl (hs_cons rfl (hs_cons rfl hs_nil)))))) (hP.pick [0, 1, 2] rfl rfl)
   ·
    have hD := (cond_f h10).symm.trans hD
    refine s1 r h10 ?_
    refine seq_val (.agg (planC a0).toArray) r (fun R => y_load_agg r (cs := (planC a0)) (n := 6) rfl (hP.cell (i := 2) rfl) ta23 rfl) rfl fun fr r => ?_
    refine s1 r h10 ?_
    refine seq_call r (c_cubicleref06_Formed w9 a0) (fun R hc => y_call r rfl cl6 hc) rfl ?_
    rintro _ w11 ⟨rfl, hb⟩
    refine ⟨_, rfl, fun fr r => ?_⟩
    have hP : Post No [rowsR 4 1 boolE a1_vs a1_v a1, roK 5 1 u8E a2_v a2, cellC b1 ((planC a0)).toArray 23] w0 w11 := hP.below hb
    refine s1 r h10 ?_
    refine seq_val (.bool (!(D.cubicleref06_Formed a0))) r (fun R => y_un r (u := (.bool (D.cubicleref06_Formed a0))) rfl rfl) rfl fun fr r => ?_
    refine seq_val (.bool (!(D.cubicleref06_Formed a0))) r (fun R => y_pick r (b := false) (congrArg Value.bool h10) rfl) rfl fun fr r => ?_
    refine seq_val (.bool (!(D.cubicleref06_Formed a0))) r (fun R => y_move r rfl) rfl fun fr r => ?_
    refine seq_split (!(D.cubicleref06_Formed a0)) (fun h12 => ?_) (fun h12 => ?_)
    ·
     have hD := (cond_t h12).symm.trans hD
     refine s0 r h12 fun fr r => ?_
     refine s0 r h12 fun fr r => ?_
     refine s0 r h12 fun fr r => ?_
     refine seq_val (.bool true) r (fun R => y_pick r (b := true) (congrArg Value.bool h12) rfl) rfl fun fr r => ?_
     refine seq_val (.bool true) r (fun R => y_move r rfl) rfl fun fr r => ?_
     refine s0 r (rfl : true = _) fun fr r => ?_
     refine s0 r (rfl : true = _) fun fr r => ?_
     refine s0 r (rfl : true = _) fun fr r => ?_
     refine seq_val (.bool true) r (fun R => y_pick r (b := true) (congrArg Value.bool (rfl : true = _)) rfl) rfl fun fr r => ?_
     refine seq_val (.bool true) r (fun R => y_move r rfl) rfl fun fr r => ?_
     refine s0 r (rfl : true = _) fun fr r => ?_
     refine s0 r (rfl : true = _) fun fr r => ?_
     refine s0 r (rfl : true = _) fun fr r => ?_
     refine seq_val (.bool true) r (fun R => y_pick r (b := true) (congrArg Value.bool (rfl : true = _)) rfl) rfl fun fr r => ?_
     refine wn ?_
     exact nxy5 true () _ _ _ hD r (hs_cons rfl (hs_cons rfl (hs_cons rfl (hs_cons rfl (hs_cons rfl (hs_cons rfl hs_nil)))))) (hP.pick [0, 1, 2] rfl rfl)
    ·
     have hD := (cond_f h12).symm.trans hD
     refine s1 r h12 ?_
     refine seq_val a1_v r (fun R => y_move r rfl) rfl fun fr r => ?_
     refine s1 r h12 ?_
     refine seq_val (I (a1.length : Int)) r (fun R => y_rowsLen r (hP.rows (i := 0) rfl).len is24 rfl) rfl fun fr r => ?_
     refine s1 r h12 ?_
     refine seq_val _ r (fun R => y_bin r rfl rfl rfl rfl) rfl fun fr r => ?_
     refine seq_val (.bool (decide ((a1.length : Int) > 4))) r (fun R => y_pick r (b := false) (congrArg Value.bool h12) rfl) rfl fun fr r => ?_
     refine seq_val (.bool (decide ((a1.length : Int) > 4))) r (fun R => y_move r rfl) rfl fun fr r => ?_
     refine seq_split (decide ((a1.length : Int) > 4)) (fun h13 => ?_) (fun h13 => ?_)
     ·
      have hD := (cond_t h13).symm.trans hD
      refine s0 r h13 fun fr r => ?_
      refine s0 r h13 fun fr r => ?_
      refine s0 r h13 fun fr r => ?_
      refine seq_val (.bool true) r (fun R => y_pick r (b := true) (congrArg Value.bool h13) rfl) rfl fun fr r => ?_
      refine seq_val (.bool true) r (fun R => y_move r rfl) rfl fun fr r => ?_
      refine s0 r (rfl : true = _) fun fr r => ?_
      refine s0 r (rfl : true = _) fun fr r => ?_
      refine s0 r (rfl : true = _) fun fr r => ?_
      refine seq_val (.bool true) r (fun R => y_pick r (b := true) (congrArg Value.bool (rfl : true = _)) rfl) rfl fun fr r => ?_
      refine wn ?_
      exact nxy5 true () _ _ _ hD r (hs_cons rfl (hs_cons rfl (hs_cons rfl (hs_cons rfl (hs_cons rfl (hs_cons rfl hs_nil)))))) (hP.pick [0, 1, 2] rfl rfl)
     ·
      have hD := (cond_f h13).symm.trans hD
      refine s1 r h13 ?_
      refine seq_val a1_v r (fun R => y_move r rfl) rfl fun fr r => ?_
      refine s1 r h13 ?_
      refine seq_val (I (a1.length : Int)) r (fun R => y_rowsLen r (hP.rows (i := 0) rfl).len is24 rfl) rfl fun fr r => ?_
      refine s1 r h13 ?_
      refine seq_val _ r (fun R => y_bin r rfl rfl rfl rfl) rfl fun fr r => ?_
      refine seq_val (.bool ((a1.length : Int) == 0)) r (fun R => y_pick r (b := false) (congrArg Value.bool h13) rfl) rfl fun fr r => ?_
      refine seq_val (.bool ((a1.length : Int) == 0)) r (fun R => y_move r rfl) rfl fun fr r => ?_
      refine seq_split ((a1.length : Int) == 0) (fun h14 => ?_) (fun h14 => ?_)
      ·
       have hD := (cond_t h14).symm.trans hD
       refine s0 r h14 fun fr r => ?_
       refine s0 r h14 fun fr r => ?_
       refine s0 r h14 fun fr r => ?_
       refine seq_val (.bool true) r (fun R => y_pick r (b := true) (congrArg Value.bool h14) rfl) rfl fun fr r => ?_
       refine wn ?_
       exact nxy5 true () _ _ _ hD r (hs_cons rfl (hs_cons rfl (hs_cons rfl (hs_cons rfl (hs_cons rfl (hs_cons rfl hs_nil)))))) (hP.pick [0, 1, 2] rfl rfl)
      ·
       have hD := (cond_f h14).symm.trans hD
       refine s1 r h14 ?_
       refine seq_val a2_v r (fun R => y_move r rfl) rfl fun fr r => ?_
       refine s1 r h14 ?_
       refine seq_val (I (a2.length : Int)) r (fun R => y_rowLen r (hP.ro (i := 1) rfl) is25 rfl) rfl fun fr r => ?_
       refine s1 r h14 ?_
       refine seq_val _ r (fun R => y_bin r rfl rfl rfl rfl) rfl fun fr r => ?_
       refine seq_val (.bool (decide ((a2.length : Int) > 200))) r (fun R => y_pick r (b := false) (congrArg Value.bool h14) rfl) rfl fun fr r => ?_
       refine wn ?_
       exact nxy5 (decide ((a2.length : Int) > 200)) () _ _ _ hD r (hs_cons rfl (hs_cons rfl (hs_cons rfl (hs_cons rfl (hs_cons rfl (hs_cons rfl hs_nil)))))) (hP.pick [0, 1, 2] rfl rfl)
 ·
  rintro x15 γ16 fr w17 g r hP hD
  have hP : Post No [rowsR 4 1 boolE a1_vs a1_v a1, roK 5 1 u8E a2_v a2, cellC b1 ((planC a0)).toArray 23] w0 w17 := hP
  refine wp_cond_split (t := x15) (r.ev rfl) (fun h18 => ?_) (fun h18 => ?_)
  ·
   have hD := (cond_t h18).symm.trans hD
   refine wsr ?_
   obtain ⟨x19, hx19, hD⟩ := bindD_elim hD
   refine seq_call r (c_cubiclelaw09_awake w17  hx19) (fun R hc => y_call r rfl cl4 hc) rfl ?_
   rintro _ w20 ⟨rfl, hb⟩
   refine ⟨_, rfl, fun fr r => ?_⟩
   have hP : Post No [rowsR 4 1 boolE a1_vs a1_v a1, roK 5 1 u8E a2_v a2, cellC b1 ((planC a0)).toArray 23] w0 w20 := hP.below hb
   refine seq_val (.bool x19) r (fun R => y_assign r rfl) rfl fun fr r => ?_
   refine wn ?_
   refine wp_ret ?_
   have hv : x19 = res := Option.some.inj hD
   try dsimp only [Exit.then, Exit.inBlock]
   refine ret_tmp (fn := Try.f3) r (t := 6) rfl (v := (.bool x19)) rfl ?_
   subst hv
   exact ⟨rfl, hP.chg.below⟩
  ·
   have hD := (cond_f h18).symm.trans hD
   refine wp_skip ?_
   refine wsr ?_
   refine seq_val (.agg (planC a0).toArray) r (fun R => y_load_agg r (cs := (planC a0)) (n := 6) rfl (hP.cell (i := 2) rfl) ta23 rfl) rfl fun fr r => ?_
   obtain ⟨x21, hx21, hD⟩ := bindD_elim hD
   refine seq_call r (c_cubiclelaw09_Laid w17 a0 hx21) (fun R hc => y_call r rfl cl7 hc) rfl ?_
   rintro _ w22 ⟨mg23, rfl, hq⟩
   refine ⟨_, rfl, fun fr r => ?_⟩
   have hP : Post No [rowsR 4 1 boolE a1_vs a1_v a1, roK 5 1 u8E a2_v a2, cellC b1 ((planC a0)).toArray 23, memK mg23 x21] w0 w22 := hP.add hq
   refine seq_val (.pointer (some ⟨mg23.mb, 0, none⟩)) r (fun R => y_assign r rfl) rfl fun fr r => ?_
   refine wn ?_
   refine wp_seq ?_
   refine wsr ?_
   refine seq_val (.pointer (some ⟨mg23.mb, 0, none⟩)) r (fun R => y_move r rfl) rfl fun fr r => ?_
   refine seq_val _ r (fun R => y_bin r rfl rfl rfl rfl) rfl fun fr r => ?_
   refine wn ?_
   refine wp_cond_split (t := false) (r.ev rfl) (fun h => absurd ((rfl : false = _).symm.trans h) (by decide)) (fun _ => ?_)
   refine wp_skip ?_
   refine wsr ?_
   refine seq_val (Value.slice none 0 0) r (fun R => y_assign r rfl) rfl fun fr r => ?_
   have hP : Post No [rowsR 4 1 boolE a1_vs a1_v a1, roK 5 1 u8E a2_v a2, cellC b1 ((planC a0)).toArray 23, memK mg23 x21, thsK th9 32 ([]) (Value.slice none 0 0) ([])] w0 w22 := thNil th9 32 hP
   refine wn ?_
   refine wp_seq ?_
   refine wsr ?_
   refine seq_val (I 0) r (fun R => y_assign r rfl) rfl fun fr r => ?_
   refine wn ?_
   refine wp_loopG (X := Bool × List TH9 × Int) (G := Value × List Gth9) (x0 := (false, [], 0)) (fun x γ => [(0, (.agg (planC a0).toArray)), (1, a1_v), (2, a2_v), (3, (.pointer (some ⟨b1, 0, none⟩))), (44, (.bool x15)), (7, (.pointer (some ⟨mg23.mb, 0, none⟩))), (49, (.bool false)), (6, (.bool x.1)), (9, (I x.2.2)), (8, γ.1)]) (fun x γ w => Post No [rowsR 4 1 boolE a1_vs a1_v a1, roK 5 1 u8E a2_v a2, cellC b1 ((planC a0)).toArray 23, memK mg23 x21, thsK th9 32 γ.2 γ.1 x.2.1] w0 w) ((Value.slice none 0 0), ([])) r (hs_cons rfl (hs_cons rfl (hs_cons rfl (hs_cons rfl (hs_cons rfl (hs_cons rfl (hs_cons rfl (hs_cons rfl (hs_cons rfl (hs_cons rfl hs_nil)))))))))) hP hD ?_ ?_
   ·
    rintro x26 γ27 fr w29 g y28 RPy28 nxy28 bky28 rty28 r hP hD
    have hP : Post No [rowsR 4 1 boolE a1_vs a1_v a1, roK 5 1 u8E a2_v a2, cellC b1 ((planC a0)).toArray 23, memK mg23 x21, thsK th9 32 γ27.2 γ27.1 x26.2.1] w0 w29 := hP
    refine wp_seq ?_
    refine wsr ?_
    refine seq_val (I x26.2.2) r (fun R => y_move r rfl) rfl fun fr r => ?_
    refine seq_val a1_v r (fun R => y_move r rfl) rfl fun fr r => ?_
    refine seq_val (I (a1.length : Int)) r (fun R => y_rowsLen r (hP.rows (i := 0) rfl).len is24 rfl) rfl fun fr r => ?_
    refine seq_val _ r (fun R => y_bin r rfl rfl rfl rfl) rfl fun fr r => ?_
    refine wn ?_
    refine wp_cond_split (t := (decide (x26.2.2 < (a1.length : Int)))) (r.ev rfl) (fun h30 => ?_) (fun h30 => ?_)
    ·
     have hD := (cond_t h30).symm.trans hD
     refine wp_skip ?_
     refine wp_seq ?_
     refine wp_block ?_
     refine wp_seq ?_
     refine wsr ?_
     refine seq_val a1_v r (fun R => y_move r rfl) rfl fun fr r => ?_
     refine seq_val (I x26.2.2) r (fun R => y_move r rfl) rfl fun fr r => ?_
     obtain ⟨x31, hx31, hD⟩ := bindD_elim hD
     refine seq_val (.pointer (some ⟨rowB a1_v, rowO a1_v + x26.2.2.toNat * 1, none⟩)) r (fun R => y_rowAddr r (hP.rows (i := 0) rfl).1 (RowsAt.idx (hP.rows (i := 0) rfl) hx31) sl24 rfl rfl) rfl fun fr r => ?_
     refine seq_val (vAt a1_vs x26.2.2) r (fun R => y_loadL_one r (u := (vAt a1_vs x26.2.2)) (RoAt.at_ (f := oneE) (x := (vAt a1_vs x26.2.2)) (hP.rows (i := 0) rfl).1 (fun _ => rfl) (RowsAt.idx (hP.rows (i := 0) rfl) hx31)) rfl to31) rfl fun fr r => ?_
     refine seq_val (I (x31.length : Int)) r (fun R => y_rowLen r (RowsAt.row (hP.rows (i := 0) rfl) hx31) is31 rfl) rfl fun fr r => ?_
     refine seq_val _ r (fun R => y_bin r rfl rfl rfl rfl) rfl fun fr r => ?_
     refine wn ?_
     refine wp_cond_split (t := (decide ((x31.length : Int) > 12))) (r.ev rfl) (fun h32 => ?_) (fun h32 => ?_)
     ·
      have hD := (cond_t h32).symm.trans hD
      refine wsr ?_
      refine seq_val (.bool true) r (fun R => y_assign r rfl) rfl fun fr r => ?_
      refine wn ?_
      refine wp_ret ?_
      refine rty28 true _ _ hD fun hD => ?_
      have hv : true = res := Option.some.inj hD
      try dsimp only [Exit.then, Exit.inBlock]
      refine ret_tmp (fn := Try.f3) r (t := 6) rfl (v := (.bool true)) rfl ?_
      subst hv
      exact ⟨rfl, hP.chg.below⟩
     ·
      have hD := (cond_f h32).symm.trans hD
      refine wp_skip ?_
      refine wp_region_lit ?_
      refine seq_val γ27.1 r (fun R => y_move r rfl) rfl fun fr r => ?_
      refine seq_val a1_v r (fun R => y_move r rfl) rfl fun fr r => ?_
      refine seq_val (I x26.2.2) r (fun R => y_move r rfl) rfl fun fr r => ?_
      obtain ⟨x33, hx33, hD⟩ := bindD_elim hD
      refine seq_val (.pointer (some ⟨rowB a1_v, rowO a1_v + x26.2.2.toNat * 1, none⟩)) r (fun R => y_rowAddr r (hP.rows (i := 0) rfl).1 (RowsAt.idx (hP.rows (i := 0) rfl) hx33) sl24 rfl rfl) rfl fun fr r => ?_
      refine seq_val (vAt a1_vs x26.2.2) r (fun R => y_loadL_one r (u := (vAt a1_vs x26.2.2)) (RoAt.at_ (f := oneE) (x := (vAt a1_vs x26.2.2)) (hP.rows (i := 0) rfl).1 (fun _ => rfl) (RowsAt.idx (hP.rows (i := 0) rfl) hx33)) rfl to31) rfl fun fr r => ?_
      have hP : Post No [rowsR 4 1 boolE a1_vs a1_v a1, roK 5 1 u8E a2_v a2, cellC b1 ((planC a0)).toArray 23, memK mg23 x21, thsK th9 32 γ27.2 γ27.1 x26.2.1, roK 4 1 boolE (vAt a1_vs x26.2.2) x33] w0 w29 := hP.rowsAdd (k := 0) rfl hx33
      obtain ⟨ad35, cp36, ev37⟩ := (hP.ro (i := 5) rfl).len
      rw [ev37] at r hP
      have hP : Post No [rowsR 4 1 boolE a1_vs a1_v a1, roK 5 1 u8E a2_v a2, cellC b1 ((planC a0)).toArray 23, memK mg23 x21, thsK th9 32 γ27.2 γ27.1 x26.2.1, roK 4 1 boolE (Value.slice ad35 x33.length cp36) x33, progO Try.prog encInt ((0, .cut) : Nat × T Int) (Value.agg #[(.bool false), (I 0), (I 0), (I 0), (U 0), (U 0), .nilFunc]) ([])] w0 w29 := hP.zeroO Try.prog ⟨_, rfl, rfl, rfl⟩
      have hP : Post No [rowsR 4 1 boolE a1_vs a1_v a1, roK 5 1 u8E a2_v a2, cellC b1 ((planC a0)).toArray 23, memK mg23 x21, thsK th9 32 γ27.2 γ27.1 x26.2.1, roK 4 1 boolE (Value.slice ad35 x33.length cp36) x33, progO Try.prog encInt ((0, .cut) : Nat × T Int) (Value.agg #[(.bool false), (I 0), (I 0), (I 0), (U 0), (U 0), .nilFunc]) ([]), rowK 3 1 i64 (Value.slice none 0 0) ([])] w0 w29 := hP.nilRow 3 1 i64
      refine seq_val (.agg #[(Value.slice ad35 x33.length cp36), (I 0), (.bool false), (.bool false), (.bool false), (I 0), (I 0), (I 0), (U 0), (U 0), .nilFunc, (Value.slice none 0 0)]) r (fun R => y_build r (by kernel_rfl)) rfl fun fr r => ?_
      refine seq_new (.cells #[(Value.slice ad35 x33.length cp36), (I 0), (.bool false), (.bool false), (.bool false), (I 0), (I 0), (I 0), (U 0), (U 0), .nilFunc, (Value.slice none 0 0)] 41 (0, 0)) r (fun R => y_box r (v := (.agg #[(Value.slice ad35 x33.length cp36), (I 0), (.bool false), (.bool false), (.bool false), (I 0), (I 0), (I 0), (U 0), (U 0), .nilFunc, (Value.slice none 0 0)])) rfl) rfl fun fr b40 w41 n42 r => ?_
      have hP : Post No [rowsR 4 1 boolE a1_vs a1_v a1, roK 5 1 u8E a2_v a2, cellC b1 ((planC a0)).toArray 23, memK mg23 x21, thsK th9 32 γ27.2 γ27.1 x26.2.1, roK 4 1 boolE (Value.slice ad35 x33.length cp36) x33, progO Try.prog encInt ((0, .cut) : Nat × T Int) (Value.agg #[(.bool false), (I 0), (I 0), (I 0), (U 0), (U 0), .nilFunc]) ([]), rowK 3 1 i64 (Value.slice none 0 0) ([]), cellC b40 #[(Value.slice ad35 x33.length cp36), (I 0), (.bool false), (.bool false), (.bool false), (I 0), (I 0), (I 0), (U 0), (U 0), .nilFunc, (Value.slice none 0 0)] 41] w0 w41 := hP.new n42
      refine seq_newS (.cells (([b40]).flatMap ptrE).toArray 32 (0, 0)) 1 r (fun R => y_bslice r (by kernel_rfl)) rfl fun fr b44 w45 n46 r => ?_
      have hP : Post No [rowsR 4 1 boolE a1_vs a1_v a1, roK 5 1 u8E a2_v a2, cellC b1 ((planC a0)).toArray 23, memK mg23 x21, thsK th9 32 γ27.2 γ27.1 x26.2.1, roK 4 1 boolE (Value.slice ad35 x33.length cp36) x33, progO Try.prog encInt ((0, .cut) : Nat × T Int) (Value.agg #[(.bool false), (I 0), (I 0), (I 0), (U 0), (U 0), .nilFunc]) ([]), rowK 3 1 i64 (Value.slice none 0 0) ([]), cellC b40 #[(Value.slice ad35 x33.length cp36), (I 0), (.bool false), (.bool false), (.bool false), (I 0), (I 0), (I 0), (U 0), (U 0), .nilFunc, (Value.slice none 0 0)] 41, rowK 32 1 ptrE (.slice (some ⟨b44, 0, none⟩) 1 1) ([b40])] w0 w45 := hP.newRow n46 (fun _ => rfl) rfl
      obtain ⟨x48, hx48, hD⟩ := bindD_elim hD
      have hz52 := thAppD (S := th9) (g := (⟨b40, (Value.slice ad35 x33.length cp36), (.bool false), (I 0), (I 0), (I 0), (U 0), (U 0), .nilFunc, ([]), (Value.slice none 0 0)⟩ : Gth9)) (hP.ths (i := 4) rfl) hx48
      refine seq_app 32 1 ptrE γ27.1 r (fun R => y_append r rt30 (fun _ => rfl) (fun _ => rfl) (ths_outer (hP.ths (i := 4) rfl)) (hP.row (i := 9) rfl).ro hz52.1 rfl rfl) rfl fun fr v49 w50 ha51 r => ?_
      have hP : Post No [rowsR 4 1 boolE a1_vs a1_v a1, roK 5 1 u8E a2_v a2, cellC b1 ((planC a0)).toArray 23, memK mg23 x21, rowK 32 1 ptrE (.slice (some ⟨b44, 0, none⟩) 1 1) ([b40]), thsK th9 32 (γ27.2 ++ [(⟨b40, (Value.slice ad35 x33.length cp36), (.bool false), (I 0), (I 0), (I 0), (U 0), (U 0), .nilFunc, ([]), (Value.slice none 0 0)⟩ : Gth9)]) v49 x48] w0 w50 := thApp (S := th9) (g := (⟨b40, (Value.slice ad35 x33.length cp36), (.bool false), (I 0), (I 0), (I 0), (U 0), (U 0), .nilFunc, ([]), (Value.slice none 0 0)⟩ : Gth9)) (x := ((x33, 0, false, false, ((0, .cut) : Nat × T Int), []) : TH9)) (A := [rowsR 4 1 boolE a1_vs a1_v a1, roK 5 1 u8E a2_v a2, cellC b1 ((planC a0)).toArray 23, memK mg23 x21, rowK 32 1 ptrE (.slice (some ⟨b44, 0, none⟩) 1 1) ([b40])]) (hP.pick [0, 1, 2, 3, 9, 4, 8, 5, 6, 7] rfl rfl) rfl ha51 hz52.2
      refine seq_val v49 r (fun R => y_assign r rfl) rfl fun fr r => ?_
      refine wn ?_
      refine wp_region_lit ?_
      refine seq_val (I x26.2.2) r (fun R => y_move r rfl) rfl fun fr r => ?_
      refine seq_val _ r (fun R => y_bin r rfl rfl rfl rfl) rfl fun fr r => ?_
      refine seq_val (I (W (x26.2.2 + 1))) r (fun R => y_assign r rfl) rfl fun fr r => ?_
      refine wn ?_
      exact nxy28 (x26.1, x48, (W (x26.2.2 + 1))) (v49, (γ27.2 ++ [(⟨b40, (Value.slice ad35 x33.length cp36), (.bool false), (I 0), (I 0), (I 0), (U 0), (U 0), .nilFunc, ([]), (Value.slice none 0 0)⟩ : Gth9)])) _ _ _ hD r (hs_cons rfl (hs_cons rfl (hs_cons rfl (hs_cons rfl (hs_cons rfl (hs_cons rfl (hs_cons rfl (hs_cons rfl (hs_cons rfl (hs_cons rfl hs_nil)))))))))) (hP.pick [0, 1, 2, 3, 5] rfl rfl)
    ·
     have hD := (cond_f h30).symm.trans hD
     refine wp_exit ?_
     exact bky28 (x26.1, x26.2.1, x26.2.2) (γ27.1, γ27.2) _ _ _ hD r (hs_cons rfl (hs_cons rfl (hs_cons rfl (hs_cons rfl (hs_cons rfl (hs_cons rfl (hs_cons rfl (hs_cons rfl (hs_cons rfl (hs_cons rfl hs_nil)))))))))) (hP.pick [0, 1, 2, 3, 4] rfl rfl)
   ·
    rintro x53 γ54 fr w55 g r hP hD
    have hP : Post No [rowsR 4 1 boolE a1_vs a1_v a1, roK 5 1 u8E a2_v a2, cellC b1 ((planC a0)).toArray 23, memK mg23 x21, thsK th9 32 γ54.2 γ54.1 x53.2.1] w0 w55 := hP
    refine wp_seq ?_
    refine wsr ?_
    refine seq_val (I 0) r (fun R => y_assign r rfl) rfl fun fr r => ?_
    refine wn ?_
    refine wp_loopG (X := Bool × List TH9 × Int × Mem) (G := Value × List Gth9) (x0 := (x53.1, x53.2.1, 0, x21)) (fun x γ => [(0, (.agg (planC a0).toArray)), (1, a1_v), (2, a2_v), (3, (.pointer (some ⟨b1, 0, none⟩))), (44, (.bool x15)), (7, (.pointer (some ⟨mg23.mb, 0, none⟩))), (49, (.bool false)), (9, (I x53.2.2)), (6, (.bool x.1)), (10, (I x.2.2.1)), (8, γ.1)]) (fun x γ w => Post No [rowsR 4 1 boolE a1_vs a1_v a1, roK 5 1 u8E a2_v a2, cellC b1 ((planC a0)).toArray 23, memK mg23 x.2.2.2, thsK th9 32 γ.2 γ.1 x.2.1] w0 w) (γ54.1, γ54.2) r (hs_cons rfl (hs_cons rfl (hs_cons rfl (hs_cons rfl (hs_cons rfl (hs_cons rfl (hs_cons rfl (hs_cons rfl (hs_cons rfl (hs_cons rfl (hs_cons rfl hs_nil))))))))))) hP hD ?_ ?_
    ·
     rintro x56 γ57 fr w59 g y58 RPy58 nxy58 bky58 rty58 r hP hD
     have hP : Post No [rowsR 4 1 boolE a1_vs a1_v a1, roK 5 1 u8E a2_v a2, cellC b1 ((planC a0)).toArray 23, memK mg23 x56.2.2.2, thsK th9 32 γ57.2 γ57.1 x56.2.1] w0 w59 := hP
     refine wp_seq ?_
     refine wsr ?_
     refine seq_val (I x56.2.2.1) r (fun R => y_move r rfl) rfl fun fr r => ?_
     refine seq_val a2_v r (fun R => y_move r rfl) rfl fun fr r => ?_
     refine seq_val (I (a2.length : Int)) r (fun R => y_rowLen r (hP.ro (i := 1) rfl) is25 rfl) rfl fun fr r => ?_
     refine seq_val _ r (fun R => y_bin r rfl rfl rfl rfl) rfl fun fr r => ?_
     refine seq_val _ r (fun R => y_bin r rfl rfl rfl rfl) rfl fun fr r => ?_
     refine wn ?_
     refine wp_cond_split (t := (decide (x56.2.2.1 < (W ((a2.length : Int) + 400))))) (r.ev rfl) (fun h60 => ?_) (fun h60 => ?_)
     ·
      have hD := (cond_t h60).symm.trans hD
      refine wp_skip ?_
      refine wp_seq ?_
      refine wp_block ?_
      refine wsr ?_
      refine seq_val γ57.1 r (fun R => y_move r rfl) rfl fun fr r => ?_
      refine seq_val (I x56.2.2.1) r (fun R => y_move r rfl) rfl fun fr r => ?_
      refine seq_val γ57.1 r (fun R => y_move r rfl) rfl fun fr r => ?_
      refine seq_val (I (x56.2.1.length : Int)) r (fun R => y_rowsLen r (ths_len2 (ths_count (hP.ths (i := 4) rfl)) (ths_outer (hP.ths (i := 4) rfl)).ro) is30 rfl) rfl fun fr r => ?_
      obtain ⟨x61, hx61, hD⟩ := bindD_elim hD
      refine seq_val _ r (fun R => y_bin r rfl rfl rfl (bin_rem (guardI_eq hx61))) rfl fun fr r => ?_
      obtain ⟨x62, hx62, hD⟩ := bindD_elim hD
      refine seq_val (.pointer (some ⟨rowB γ57.1, rowO γ57.1 + (x56.2.2.1.tmod (x56.2.1.length : Int)).toNat * 1, none⟩)) r (fun R => y_rowAddr r (ths_outer (hP.ths (i := 4) rfl)).ro (ths_idx (hP.ths (i := 4) rfl) hx62) sl30 rfl rfl) rfl fun fr r => ?_
      refine seq_val (.pointer (some ⟨th9.b (th9.at_ γ57.2 (x56.2.2.1.tmod (x56.2.1.length : Int))), 0, none⟩)) r (fun R => y_loadL_one r (u := (.pointer (some ⟨th9.b (th9.at_ γ57.2 (x56.2.2.1.tmod (x56.2.1.length : Int))), 0, none⟩))) (RoAt.at_ (f := ptrE) (x := th9.b (th9.at_ γ57.2 (x56.2.2.1.tmod (x56.2.1.length : Int)))) (ths_outer (hP.ths (i := 4) rfl)).ro (fun _ => rfl) (ths_idx (hP.ths (i := 4) rfl) hx62)) rfl to32) rfl fun fr r => ?_
      refine seq_val (.pointer (some ⟨th9.b (th9.at_ γ57.2 (x56.2.2.1.tmod (x56.2.1.length : Int))), 0, none⟩)) r (fun R => y_assign r rfl) rfl fun fr r => ?_
      refine wn ?_
      refine wp_seq ?_
      refine wsr ?_
      refine seq_val (I x56.2.2.1) r (fun R => y_move r rfl) rfl fun fr r => ?_
      refine seq_val a2_v r (fun R => y_move r rfl) rfl fun fr r => ?_
      refine seq_val (I (a2.length : Int)) r (fun R => y_rowLen r (hP.ro (i := 1) rfl) is25 rfl) rfl fun fr r => ?_
      refine seq_val _ r (fun R => y_bin r rfl rfl rfl rfl) rfl fun fr r => ?_
      refine wn ?_
      refine wp_joinG (N := 192) (Y := Int) (G := Unit) (fun x γ => [(0, (.agg (planC a0).toArray)), (1, a1_v), (2, a2_v), (3, (.pointer (some ⟨b1, 0, none⟩))), (44, (.bool x15)), (7, (.pointer (some ⟨mg23.mb, 0, none⟩))), (49, (.bool false)), (9, (I x53.2.2)), (6, (.bool x56.1)), (10, (I x56.2.2.1)), (8, γ57.1), (75, (.bool (decide (x56.2.2.1 < (W ((a2.length : Int) + 400)))))), (88, (.bool (decide (x56.2.2.1 < (a2.length : Int))))), (11, (.pointer (some ⟨th9.b (th9.at_ γ57.2 x), 0, none⟩)))]) (fun x γ w => Post No [rowsR 4 1 boolE a1_vs a1_v a1, roK 5 1 u8E a2_v a2, cellC b1 ((planC a0)).toArray 23, memK mg23 x56.2.2.2, thsK th9 32 γ57.2 γ57.1 x56.2.1] w0 w) hD ?_ ?_
      ·
       rintro y63 RPy63 nxy63 hD
       refine wp_cond_split (t := (decide (x56.2.2.1 < (a2.length : Int)))) (r.ev rfl) (fun h64 => ?_) (fun h64 => ?_)
       ·
        have hD := (cond_t h64).symm.trans hD
        refine wp_region_lit ?_
        refine seq_val γ57.1 r (fun R => y_move r rfl) rfl fun fr r => ?_
        refine seq_val a2_v r (fun R => y_move r rfl) rfl fun fr r => ?_
        refine seq_val (I x56.2.2.1) r (fun R => y_move r rfl) rfl fun fr r => ?_
        obtain ⟨x65, hx65, hD⟩ := bindD_elim hD
        refine seq_val (.pointer (some ⟨rowB a2_v, rowO a2_v + x56.2.2.1.toNat * 1, none⟩)) r (fun R => y_rowAddr r (hP.ro (i := 1) rfl) hx65 sl25 rfl rfl) rfl fun fr r => ?_
        refine seq_val (.int .u8 x65) r (fun R => y_loadL_one r (u := (.int .u8 x65)) (RoAt.at_ (f := u8E) (x := x65) (hP.ro (i := 1) rfl) (fun _ => rfl) hx65) rfl to5) rfl fun fr r => ?_
        refine seq_val (I (W x65)) r (fun R => y_convert r rfl ti5 ti3) rfl fun fr r => ?_
        refine seq_val γ57.1 r (fun R => y_move r rfl) rfl fun fr r => ?_
        refine seq_val (I (x56.2.1.length : Int)) r (fun R => y_rowsLen r (ths_len2 (ths_count (hP.ths (i := 4) rfl)) (ths_outer (hP.ths (i := 4) rfl)).ro) is30 rfl) rfl fun fr r => ?_
        obtain ⟨x66, hx66, hD⟩ := bindD_elim hD
        refine seq_val _ r (fun R => y_bin r rfl rfl rfl (bin_rem (guardI_eq hx66))) rfl fun fr r => ?_
        obtain ⟨x67, hx67, hD⟩ := bindD_elim hD
        refine seq_val (.pointer (some ⟨rowB γ57.1, rowO γ57.1 + ((W x65).tmod (x56.2.1.length : Int)).toNat * 1, none⟩)) r (fun R => y_rowAddr r (ths_outer (hP.ths (i := 4) rfl)).ro (ths_idx (hP.ths (i := 4) rfl) hx67) sl30 rfl rfl) rfl fun fr r => ?_
        refine seq_val (.pointer (some ⟨th9.b (th9.at_ γ57.2 ((W x65).tmod (x56.2.1.length : Int))), 0, none⟩)) r (fun R => y_loadL_one r (u := (.pointer (some ⟨th9.b (th9.at_ γ57.2 ((W x65).tmod (x56.2.1.length : Int))), 0, none⟩))) (RoAt.at_ (f := ptrE) (x := th9.b (th9.at_ γ57.2 ((W x65).tmod (x56.2.1.length : Int)))) (ths_outer (hP.ths (i := 4) rfl)).ro (fun _ => rfl) (ths_idx (hP.ths (i := 4) rfl) hx67)) rfl to32) rfl fun fr r => ?_
        refine seq_val (.pointer (some ⟨th9.b (th9.at_ γ57.2 ((W x65).tmod (x56.2.1.length : Int))), 0, none⟩)) r (fun R => y_assign r rfl) rfl fun fr r => ?_
        refine wn ?_
        exact nxy63 ((W x65).tmod (x56.2.1.length : Int)) () _ _ _ hD r (hs_cons rfl (hs_cons rfl (hs_cons rfl (hs_cons rfl (hs_cons rfl (hs_cons rfl (hs_cons rfl (hs_cons rfl (hs_cons rfl (hs_cons rfl (hs_cons rfl (hs_cons rfl (hs_cons rfl (hs_cons rfl hs_nil)))))))))))))) (hP.pick [0, 1, 2, 3, 4] rfl rfl)
       ·
        have hD := (cond_f h64).symm.trans hD
        refine wsr ?_
        refine seq_val (I x56.2.2.1) r (fun R => y_move r rfl) rfl fun fr r => ?_
        refine seq_val a2_v r (fun R => y_move r rfl) rfl fun fr r => ?_
        refine seq_val (I (a2.length : Int)) r (fun R => y_rowLen r (hP.ro (i := 1) rfl) is25 rfl) rfl fun fr r => ?_
        refine seq_val _ r (fun R => y_bin r rfl rfl rfl rfl) rfl fun fr r => ?_
        refine seq_val _ r (fun R => y_bin r rfl rfl rfl rfl) rfl fun fr r => ?_
        refine seq_val (I (W ((W (x56.2.2.1 - (a2.length : Int))).tdiv 100))) r (fun R => y_assign r rfl) rfl fun fr r => ?_
        refine wn ?_
        refine wsr ?_
        refine seq_val (I (W ((W (x56.2.2.1 - (a2.length : Int))).tdiv 100))) r (fun R => y_move r rfl) rfl fun fr r => ?_
        refine seq_val γ57.1 r (fun R => y_move r rfl) rfl fun fr r => ?_
        refine seq_val (I (x56.2.1.length : Int)) r (fun R => y_rowsLen r (ths_len2 (ths_count (hP.ths (i := 4) rfl)) (ths_outer (hP.ths (i := 4) rfl)).ro) is30 rfl) rfl fun fr r => ?_
        refine seq_val _ r (fun R => y_bin r rfl rfl rfl rfl) rfl fun fr r => ?_
        refine wn ?_
        refine wp_joinG (N := 192) (Y := Int) (G := Unit) (fun x γ => [(0, (.agg (planC a0).toArray)), (1, a1_v), (2, a2_v), (3, (.pointer (some ⟨b1, 0, none⟩))), (44, (.bool x15)), (7, (.pointer (some ⟨mg23.mb, 0, none⟩))), (49, (.bool false)), (9, (I x53.2.2)), (6, (.bool x56.1)), (10, (I x56.2.2.1)), (8, γ57.1), (75, (.bool (decide (x56.2.2.1 < (W ((a2.length : Int) + 400)))))), (88, (.bool (decide (x56.2.2.1 < (a2.length : Int))))), (12, (I (W ((W (x56.2.2.1 - (a2.length : Int))).tdiv 100)))), (108, (.bool (decide ((W ((W (x56.2.2.1 - (a2.length : Int))).tdiv 100)) < (x56.2.1.length : Int))))), (11, (.pointer (some ⟨th9.b (th9.at_ γ57.2 x), 0, none⟩)))]) (fun x γ w => Post No [rowsR 4 1 boolE a1_vs a1_v a1, roK 5 1 u8E a2_v a2, cellC b1 ((planC a0)).toArray 23, memK mg23 x56.2.2.2, thsK th9 32 γ57.2 γ57.1 x56.2.1] w0 w) hD ?_ ?_
        ·
         rintro y68 RPy68 nxy68 hD
         refine wp_cond_split (t := (decide ((W ((W (x56.2.2.1 - (a2.length : Int))).tdiv 100)) < (x56.2.1.length : Int)))) (r.ev rfl) (fun h69 => ?_) (fun h69 => ?_)
         ·
          have hD := (cond_t h69).symm.trans hD
          refine wp_region_lit ?_
          refine seq_val γ57.1 r (fun R => y_move r rfl) rfl fun fr r => ?_
          refine seq_val (I (W ((W (x56.2.2.1 - (a2.length : Int))).tdiv 100))) r (fun R => y_move r rfl) rfl fun fr r => ?_
          obtain ⟨x70, hx70, hD⟩ := bindD_elim hD
          refine seq_val (.pointer (some ⟨rowB γ57.1, rowO γ57.1 + (W ((W (x56.2.2.1 - (a2.length : Int))).tdiv 100)).toNat * 1, none⟩)) r (fun R => y_rowAddr r (ths_outer (hP.ths (i := 4) rfl)).ro (ths_idx (hP.ths (i := 4) rfl) hx70) sl30 rfl rfl) rfl fun fr r => ?_
          refine seq_val (.pointer (some ⟨th9.b (th9.at_ γ57.2 (W ((W (x56.2.2.1 - (a2.length : Int))).tdiv 100))), 0, none⟩)) r (fun R => y_loadL_one r (u := (.pointer (some ⟨th9.b (th9.at_ γ57.2 (W ((W (x56.2.2.1 - (a2.length : Int))).tdiv 100))), 0, none⟩))) (RoAt.at_ (f := ptrE) (x := th9.b (th9.at_ γ57.2 (W ((W (x56.2.2.1 - (a2.length : Int))).tdiv 100)))) (ths_outer (hP.ths (i := 4) rfl)).ro (fun _ => rfl) (ths_idx (hP.ths (i := 4) rfl) hx70)) rfl to32) rfl fun fr r => ?_
          refine seq_val (.pointer (some ⟨th9.b (th9.at_ γ57.2 (W ((W (x56.2.2.1 - (a2.length : Int))).tdiv 100))), 0, none⟩)) r (fun R => y_assign r rfl) rfl fun fr r => ?_
          refine wn ?_
          exact nxy68 (W ((W (x56.2.2.1 - (a2.length : Int))).tdiv 100)) () _ _ _ hD r (hs_cons rfl (hs_cons rfl (hs_cons rfl (hs_cons rfl (hs_cons rfl (hs_cons rfl (hs_cons rfl (hs_cons rfl (hs_cons rfl (hs_cons rfl (hs_cons rfl (hs_cons rfl (hs_cons rfl (hs_cons rfl (hs_cons rfl (hs_cons rfl hs_nil)))))))))))))))) (hP.pick [0, 1, 2, 3, 4] rfl rfl)
         ·
          have hD := (cond_f h69).symm.trans hD
          refine wp_skip ?_
          exact nxy68 (x56.2.2.1.tmod (x56.2.1.length : Int)) () _ _ _ hD r (hs_cons rfl (hs_cons rfl (hs_cons rfl (hs_cons rfl (hs_cons rfl (hs_cons rfl (hs_cons rfl (hs_cons rfl (hs_cons rfl (hs_cons rfl (hs_cons rfl (hs_cons rfl (hs_cons rfl (hs_cons rfl (hs_cons rfl (hs_cons rfl hs_nil)))))))))))))))) (hP.pick [0, 1, 2, 3, 4] rfl rfl)
        ·
         rintro x71 γ72 fr w73 g r hP hD
         have hP : Post No [rowsR 4 1 boolE a1_vs a1_v a1, roK 5 1 u8E a2_v a2, cellC b1 ((planC a0)).toArray 23, memK mg23 x56.2.2.2, thsK th9 32 γ57.2 γ57.1 x56.2.1] w0 w73 := hP
         exact nxy63 x71 () _ _ _ hD r (hs_cons rfl (hs_cons rfl (hs_cons rfl (hs_cons rfl (hs_cons rfl (hs_cons rfl (hs_cons rfl (hs_cons rfl (hs_cons rfl (hs_cons rfl (hs_cons rfl (hs_cons rfl (hs_cons rfl (hs_cons rfl hs_nil)))))))))))))) (hP.pick [0, 1, 2, 3, 4] rfl rfl)
      ·
       rintro x74 γ75 fr w76 g r hP hD
       have hP : Post No [rowsR 4 1 boolE a1_vs a1_v a1, roK 5 1 u8E a2_v a2, cellC b1 ((planC a0)).toArray 23, memK mg23 x56.2.2.2, thsK th9 32 γ57.2 γ57.1 x56.2.1] w0 w76 := hP
       refine wp_seq ?_
       refine wp_joinG (N := 192) (Y := List TH9 × Mem × Bool) (G := Value × List Gth9) (fun x γ => [(0, (.agg (planC a0).toArray)), (1, a1_v), (2, a2_v), (3, (.pointer (some ⟨b1, 0, none⟩))), (44, (.bool x15)), (7, (.pointer (some ⟨mg23.mb, 0, none⟩))), (49, (.bool false)), (9, (I x53.2.2)), (6, (.bool x56.1)), (10, (I x56.2.2.1)), (75, (.bool (decide (x56.2.2.1 < (W ((a2.length : Int) + 400)))))), (88, (.bool (decide (x56.2.2.1 < (a2.length : Int))))), (124, (.bool x.2.2)), (8, γ.1)]) (fun x γ w => Post No [rowsR 4 1 boolE a1_vs a1_v a1, roK 5 1 u8E a2_v a2, cellC b1 ((planC a0)).toArray 23, memK mg23 x.2.1, thsK th9 32 γ.2 γ.1 x.1] w0 w) hD ?_ ?_
       ·
        rintro y77 RPy77 nxy77 hD
        refine wp_region_lit ?_
        refine seq_val (.pointer (some ⟨th9.b (th9.at_ γ57.2 x74), 0, none⟩)) r (fun R => y_move r rfl) rfl fun fr r => ?_
        refine seq_val (.agg (planC a0).toArray) r (fun R => y_load_agg r (cs := (planC a0)) (n := 6) rfl (hP.cell (i := 2) rfl) ta23 rfl) rfl fun fr r => ?_
        refine seq_val (.pointer (some ⟨mg23.mb, 0, none⟩)) r (fun R => y_move r rfl) rfl fun fr r => ?_
        obtain ⟨x78, hx78, hD⟩ := bindD_elim hD
        obtain ⟨x79, hx79, hD⟩ := bindD_elim hD
        refine seq_call r (c_cubiclelaw09_Thread_pick w76 x78 a0 x56.2.2.2 (thSep (A := [rowsR 4 1 boolE a1_vs a1_v a1, roK 5 1 u8E a2_v a2, cellC b1 ((planC a0)).toArray 23]) (hP.pick [0, 1, 2, 4, 3] rfl rfl) hx78) (fun c hc b hb => packK_own.2 ⟨c, hc, hb⟩) (fun c hc b hb => packK_has.2 ⟨c, hc, .inr hb⟩) hx79) (fun R hc => y_call r rfl cl8 hc) rfl ?_
        rintro _ w80 ⟨g81, h82, rfl, hq⟩
        refine ⟨_, rfl, fun fr r => ?_⟩
        have hP : Post No [rowsR 4 1 boolE a1_vs a1_v a1, roK 5 1 u8E a2_v a2, cellC b1 ((planC a0)).toArray 23, memK mg23 x79.2.2, thsK th9 32 (γ57.2.set x74.toNat g81) γ57.1 (x56.2.1.set x74.toNat x79.2.1)] w0 w80 := (thBack (S := th9) (A := [rowsR 4 1 boolE a1_vs a1_v a1, roK 5 1 u8E a2_v a2, cellC b1 ((planC a0)).toArray 23]) (hP.pick [0, 1, 2, 4, 3] rfl rfl) hx78 h82 hq).pick [0, 1, 2, 4, 3] rfl rfl
        refine seq_val (.bool (!x79.1)) r (fun R => y_un r (u := (.bool x79.1)) rfl rfl) rfl fun fr r => ?_
        refine seq_val (.bool (!x79.1)) r (fun R => y_move r rfl) rfl fun fr r => ?_
        refine seq_split (!x79.1) (fun h83 => ?_) (fun h83 => ?_)
        ·
         have hD := (cond_t h83).symm.trans hD
         refine s0 r h83 fun fr r => ?_
         refine s0 r h83 fun fr r => ?_
         refine s0 r h83 fun fr r => ?_
         refine s0 r h83 fun fr r => ?_
         refine s0 r h83 fun fr r => ?_
         refine seq_val (.bool true) r (fun R => y_pick r (b := true) (congrArg Value.bool h83) rfl) rfl fun fr r => ?_
         refine wn ?_
         exact nxy77 (x56.2.1.set x74.toNat x79.2.1, x79.2.2, true) (γ57.1, (γ57.2.set x74.toNat g81)) _ _ _ hD r (hs_cons rfl (hs_cons rfl (hs_cons rfl (hs_cons rfl (hs_cons rfl (hs_cons rfl (hs_cons rfl (hs_cons rfl (hs_cons rfl (hs_cons rfl (hs_cons rfl (hs_cons rfl (hs_cons rfl (hs_cons rfl hs_nil)))))))))))))) (hP.pick [0, 1, 2, 3, 4] rfl rfl)
        ·
         have hD := (cond_f h83).symm.trans hD
         refine s1 r h83 ?_
         refine seq_val γ57.1 r (fun R => y_move r rfl) rfl fun fr r => ?_
         refine s1 r h83 ?_
         refine seq_val _ r (fun R => y_fieldAddr r (o := 0) rfl fo23_0) rfl fun fr r => ?_
         refine s1 r h83 ?_
         refine seq_val (I a0.nodes) r (fun R => y_load_one r rfl (hP.cell (i := 2) rfl) to3 rfl) rfl fun fr r => ?_
         refine s1 r h83 ?_
         obtain ⟨x84, hx84, hD⟩ := bindD_elim hD
         refine seq_call r (c_cubiclelaw09_apart w80 (x56.2.1.set x74.toNat x79.2.1) (hP.ths (i := 4) rfl) a0.nodes hx84) (fun R hc => y_call r rfl cl9 hc) rfl ?_
         rintro _ w85 ⟨rfl, hb⟩
         refine ⟨_, rfl, fun fr r => ?_⟩
         have hP : Post No [rowsR 4 1 boolE a1_vs a1_v a1, roK 5 1 u8E a2_v a2, cellC b1 ((planC a0)).toArray 23, memK mg23 x79.2.2, thsK th9 32 (γ57.2.set x74.toNat g81) γ57.1 (x56.2.1.set x74.toNat x79.2.1)] w0 w85 := hP.below hb
         refine s1 r h83 ?_
         refine seq_val (.bool (!x84)) r (fun R => y_un r (u := (.bool x84)) rfl rfl) rfl fun fr r => ?_
         refine seq_val (.bool (!x84)) r (fun R => y_pick r (b := false) (congrArg Value.bool h83) rfl) rfl fun fr r => ?_
         refine wn ?_
         exact nxy77 (x56.2.1.set x74.toNat x79.2.1, x79.2.2, (!x84)) (γ57.1, (γ57.2.set x74.toNat g81)) _ _ _ hD r (hs_cons rfl (hs_cons rfl (hs_cons rfl (hs_cons rfl (hs_cons rfl (hs_cons rfl (hs_cons rfl (hs_cons rfl (hs_cons rfl (hs_cons rfl (hs_cons rfl (hs_cons rfl (hs_cons rfl (hs_cons rfl hs_nil)))))))))))))) (hP.pick [0, 1, 2, 3, 4] rfl rfl)
       ·
        rintro x86 γ87 fr w88 g r hP hD
        have hP : Post No [rowsR 4 1 boolE a1_vs a1_v a1, roK 5 1 u8E a2_v a2, cellC b1 ((planC a0)).toArray 23, memK mg23 x86.2.1, thsK th9 32 γ87.2 γ87.1 x86.1] w0 w88 := hP
        refine wp_cond_split (t := x86.2.2) (r.ev rfl) (fun h89 => ?_) (fun h89 => ?_)
        ·
         have hD := (cond_t h89).symm.trans hD
         refine wsr ?_
         refine seq_val (.bool false) r (fun R => y_assign r rfl) rfl fun fr r => ?_
         refine wn ?_
         refine wp_ret ?_
         refine rty58 false _ _ hD fun hD => ?_
         have hv : false = res := Option.some.inj hD
         try dsimp only [Exit.then, Exit.inBlock]
         refine ret_tmp (fn := Try.f3) r (t := 6) rfl (v := (.bool false)) rfl ?_
         subst hv
         exact ⟨rfl, hP.chg.below⟩
        ·
         have hD := (cond_f h89).symm.trans hD
         refine wp_skip ?_
         refine wp_region_lit ?_
         refine seq_val (I x56.2.2.1) r (fun R => y_move r rfl) rfl fun fr r => ?_
         refine seq_val _ r (fun R => y_bin r rfl rfl rfl rfl) rfl fun fr r => ?_
         refine seq_val (I (W (x56.2.2.1 + 1))) r (fun R => y_assign r rfl) rfl fun fr r => ?_
         refine wn ?_
         exact nxy58 (x56.1, x86.1, (W (x56.2.2.1 + 1)), x86.2.1) (γ87.1, γ87.2) _ _ _ hD r (hs_cons rfl (hs_cons rfl (hs_cons rfl (hs_cons rfl (hs_cons rfl (hs_cons rfl (hs_cons rfl (hs_cons rfl (hs_cons rfl (hs_cons rfl (hs_cons rfl hs_nil))))))))))) (hP.pick [0, 1, 2, 3, 4] rfl rfl)
     ·
      have hD := (cond_f h60).symm.trans hD
      refine wp_exit ?_
      exact bky58 (x56.1, x56.2.1, x56.2.2.1, x56.2.2.2) (γ57.1, γ57.2) _ _ _ hD r (hs_cons rfl (hs_cons rfl (hs_cons rfl (hs_cons rfl (hs_cons rfl (hs_cons rfl (hs_cons rfl (hs_cons rfl (hs_cons rfl (hs_cons rfl (hs_cons rfl hs_nil))))))))))) (hP.pick [0, 1, 2, 3, 4] rfl rfl)
    ·
     rintro x90 γ91 fr w92 g r hP hD
     have hP : Post No [rowsR 4 1 boolE a1_vs a1_v a1, roK 5 1 u8E a2_v a2, cellC b1 ((planC a0)).toArray 23, memK mg23 x90.2.2.2, thsK th9 32 γ91.2 γ91.1 x90.2.1] w0 w92 := hP
     refine wsr ?_
     refine seq_val (.agg (planC a0).toArray) r (fun R => y_load_agg r (cs := (planC a0)) (n := 6) rfl (hP.cell (i := 2) rfl) ta23 rfl) rfl fun fr r => ?_
     refine seq_val (.pointer (some ⟨mg23.mb, 0, none⟩)) r (fun R => y_move r rfl) rfl fun fr r => ?_
     obtain ⟨x93, hx93, hD⟩ := bindD_elim hD
     refine seq_call r (c_free_List w92 a0 x90.2.2.2 (hP.mem (i := 3) rfl) 0 hx93) (fun R hc => y_call r rfl cl10 hc) rfl ?_
     rintro _ w94 ⟨v95, rfl, hq⟩
     refine ⟨_, rfl, fun fr r => ?_⟩
     have hP : Post No [rowsR 4 1 boolE a1_vs a1_v a1, roK 5 1 u8E a2_v a2, cellC b1 ((planC a0)).toArray 23, memK mg23 x90.2.2.2, thsK th9 32 γ91.2 γ91.1 x90.2.1, rowK 3 1 i64 v95 x93] w0 w94 := hP.add hq
     refine seq_val v95 r (fun R => y_assign r rfl) rfl fun fr r => ?_
     refine wn ?_
     refine wp_seq ?_
     refine wsr ?_
     refine seq_val (I 0) r (fun R => y_assign r rfl) rfl fun fr r => ?_
     refine wn ?_
     refine wp_loopG (X := Bool × Int) (G := Unit) (x0 := (x90.1, 0)) (fun x γ => [(0, (.agg (planC a0).toArray)), (1, a1_v), (2, a2_v), (3, (.pointer (some ⟨b1, 0, none⟩))), (44, (.bool x15)), (7, (.pointer (some ⟨mg23.mb, 0, none⟩))), (49, (.bool false)), (9, (I x53.2.2)), (10, (I x90.2.2.1)), (8, γ91.1), (13, v95), (6, (.bool x.1)), (14, (I x.2))]) (fun x γ w => Post No [rowsR 4 1 boolE a1_vs a1_v a1, roK 5 1 u8E a2_v a2, cellC b1 ((planC a0)).toArray 23, memK mg23 x90.2.2.2, thsK th9 32 γ91.2 γ91.1 x90.2.1, rowK 3 1 i64 v95 x93] w0 w) () r (hs_cons rfl (hs_cons rfl (hs_cons rfl (hs_cons rfl (hs_cons rfl (hs_cons rfl (hs_cons rfl (hs_cons rfl (hs_cons rfl (hs_cons rfl (hs_cons rfl (hs_cons rfl (hs_cons rfl hs_nil))))))))))))) hP hD ?_ ?_
     ·
      rintro x97 γ98 fr w100 g y99 RPy99 nxy99 bky99 rty99 r hP hD
      have hP : Post No [rowsR 4 1 boolE a1_vs a1_v a1, roK 5 1 u8E a2_v a2, cellC b1 ((planC a0)).toArray 23, memK mg23 x90.2.2.2, thsK th9 32 γ91.2 γ91.1 x90.2.1, rowK 3 1 i64 v95 x93] w0 w100 := hP
      refine wp_seq ?_
      refine wsr ?_
      refine seq_val (I x97.2) r (fun R => y_move r rfl) rfl fun fr r => ?_
      refine seq_val _ r (fun R => y_fieldAddr r (o := 0) rfl fo23_0) rfl fun fr r => ?_
      refine seq_val (I a0.nodes) r (fun R => y_load_one r rfl (hP.cell (i := 2) rfl) to3 rfl) rfl fun fr r => ?_
      refine seq_val _ r (fun R => y_bin r rfl rfl rfl rfl) rfl fun fr r => ?_
      refine wn ?_
      refine wp_cond_split (t := (decide (x97.2 < a0.nodes))) (r.ev rfl) (fun h101 => ?_) (fun h101 => ?_)
      ·
       have hD := (cond_t h101).symm.trans hD
       refine wp_skip ?_
       refine wp_seq ?_
       refine wp_block ?_
       refine wsr ?_
       refine seq_val (I 0) r (fun R => y_assign r rfl) rfl fun fr r => ?_
       refine wn ?_
       refine wp_seq ?_
       refine wsr ?_
       refine seq_val (I 0) r (fun R => y_assign r rfl) rfl fun fr r => ?_
       refine wn ?_
       refine wp_loopG (X := Bool × Int × Int) (G := Unit) (x0 := (x97.1, 0, 0)) (fun x γ => [(0, (.agg (planC a0).toArray)), (1, a1_v), (2, a2_v), (3, (.pointer (some ⟨b1, 0, none⟩))), (44, (.bool x15)), (7, (.pointer (some ⟨mg23.mb, 0, none⟩))), (49, (.bool false)), (9, (I x53.2.2)), (10, (I x90.2.2.1)), (8, γ91.1), (13, v95), (14, (I x97.2)), (131, (.bool (decide (x97.2 < a0.nodes)))), (6, (.bool x.1)), (15, (I x.2.1)), (16, (I x.2.2))]) (fun x γ w => Post No [rowsR 4 1 boolE a1_vs a1_v a1, roK 5 1 u8E a2_v a2, cellC b1 ((planC a0)).toArray 23, memK mg23 x90.2.2.2, thsK th9 32 γ91.2 γ91.1 x90.2.1, rowK 3 1 i64 v95 x93] w0 w) () r (hs_cons rfl (hs_cons rfl (hs_cons rfl (hs_cons rfl (hs_cons rfl (hs_cons rfl (hs_cons rfl (hs_cons rfl (hs_cons rfl (hs_cons rfl (hs_cons rfl (hs_cons rfl (hs_cons rfl (hs_cons rfl (hs_cons rfl (hs_cons rfl hs_nil)))))))))))))))) hP hD ?_ ?_
       ·
        rintro x102 γ103 fr w105 g y104 RPy104 nxy104 bky104 rty104 r hP hD
        have hP : Post No [rowsR 4 1 boolE a1_vs a1_v a1, roK 5 1 u8E a2_v a2, cellC b1 ((planC a0)).toArray 23, memK mg23 x90.2.2.2, thsK th9 32 γ91.2 γ91.1 x90.2.1, rowK 3 1 i64 v95 x93] w0 w105 := hP
        refine wp_seq ?_
        refine wsr ?_
        refine seq_val (I x102.2.2) r (fun R => y_move r rfl) rfl fun fr r => ?_
        refine seq_val γ91.1 r (fun R => y_move r rfl) rfl fun fr r => ?_
        refine seq_val (I (x90.2.1.length : Int)) r (fun R => y_rowsLen r (ths_len2 (ths_count (hP.ths (i := 4) rfl)) (ths_outer (hP.ths (i := 4) rfl)).ro) is30 rfl) rfl fun fr r => ?_
        refine seq_val _ r (fun R => y_bin r rfl rfl rfl rfl) rfl fun fr r => ?_
        refine wn ?_
        refine wp_cond_split (t := (decide (x102.2.2 < (x90.2.1.length : Int)))) (r.ev rfl) (fun h106 => ?_) (fun h106 => ?_)
        ·
         have hD := (cond_t h106).symm.trans hD
         refine wp_skip ?_
         refine wp_seq ?_
         refine wp_block ?_
         refine wp_seq ?_
         refine wp_seq ?_
         refine wp_joinG (N := 192) (Y := Bool) (G := Unit) (fun x γ => [(0, (.agg (planC a0).toArray)), (1, a1_v), (2, a2_v), (3, (.pointer (some ⟨b1, 0, none⟩))), (44, (.bool x15)), (7, (.pointer (some ⟨mg23.mb, 0, none⟩))), (49, (.bool false)), (9, (I x53.2.2)), (10, (I x90.2.2.1)), (8, γ91.1), (13, v95), (14, (I x97.2)), (131, (.bool (decide (x97.2 < a0.nodes)))), (6, (.bool x102.1)), (15, (I x102.2.1)), (16, (I x102.2.2)), (137, (.bool (decide (x102.2.2 < (x90.2.1.length : Int))))), (164, (.bool x))]) (fun x γ w => Post No [rowsR 4 1 boolE a1_vs a1_v a1, roK 5 1 u8E a2_v a2, cellC b1 ((planC a0)).toArray 23, memK mg23 x90.2.2.2, thsK th9 32 γ91.2 γ91.1 x90.2.1, rowK 3 1 i64 v95 x93] w0 w) hD ?_ ?_
         ·
          rintro y107 RPy107 nxy107 hD
          obtain ⟨x108, hx108, hD⟩ := bindD_elim hD
          refine seq_split x108.2.2.1 (fun h109 => ?_) (fun h109 => ?_)
          ·
           have hD := (cond_t h109).symm.trans hD
           refine wp_freeF [.val γ91.1, .val (I x102.2.2), .val (.pointer (some ⟨rowB γ91.1, rowO γ91.1 + x102.2.2.toNat * 1, none⟩)), .val (.pointer (some ⟨th9.b (th9.at_ γ91.2 x102.2.2), 0, none⟩)), .val (.pointer (some ⟨th9.b (th9.at_ γ91.2 x102.2.2), 0, none⟩)), .val (.pointer (some ⟨th9.b (th9.at_ γ91.2 x102.2.2), 2, none⟩)), .val (.bool x108.2.2.1), .val (.bool x108.2.2.1), .val undef, .val undef, .val undef, .val undef, .val undef, .val undef, .val undef, .val undef, .val undef, .val undef, .val undef, .val undef, .val undef, .val undef, .val undef, .val undef, .val (.bool true)] mixed r (by kernel_rfl) ?_ ?_
           ·
            refine fc r (fun fr1 g w' hb' hd r' => y_move r' rfl bz) ?_
            refine fc r (fun fr1 g w' hb' hd r' => y_move r' rfl bz) ?_
            refine fc r (fun fr1 g w' hb' hd r' => y_rowAddr r' (ths_outer ((hP.below (dr hb')).ths (i := 4) rfl)).ro (ths_idx ((hP.below (dr hb')).ths (i := 4) rfl) hx108) sl30 (hd 0 rfl).1 (hd 1 rfl).1 bz) ?_
            refine fc r (fun fr1 g w' hb' hd r' => y_loadL_one r' (u := (.pointer (some ⟨th9.b (th9.at_ γ91.2 x102.2.2), 0, none⟩))) (RoAt.at_ (f := ptrE) (x := th9.b (th9.at_ γ91.2 x102.2.2)) (ths_outer ((hP.below (dr hb')).ths (i := 4) rfl)).ro (fun _ => rfl) (ths_idx ((hP.below (dr hb')).ths (i := 4) rfl) hx108)) (hd 2 rfl).1 to32 bz) ?_
            refine fc r (fun fr1 g w' hb' hd r' => y_nilCheck r' (hd 3 rfl).1 bz) ?_
            refine fc r (fun fr1 g w' hb' hd r' => y_fieldAddr r' (b := th9.b (th9.at_ γ91.2 x102.2.2)) (o := 0) (hd 4 rfl).1 fo41_2 bz) ?_
            refine fc r (fun fr1 g w' hb' hd r' => y_load_one r' (hd 5 rfl).1 (Sep.cell (i := 0) (ths_one ((hP.below (dr hb')).ths (i := 4) rfl) hx108) rfl) to4 rfl bz) ?_
            refine fc r (fun fr1 g w' hb' hd r' => y_move r' (hd 6 rfl).1 bz) ?_
            refine eachF_skip false (.bool true) r rfl rfl rfl (fun g w' hd => Eq.trans (show (g 7).v = .bool x108.2.2.1 from (hd 7 rfl).1) (congrArg Value.bool h109)) (by simp [boolOf]) (fun _ _ => ⟨Below.refl _ _, rfl⟩) ?_
            refine eachF_skip false (.bool true) r rfl rfl rfl (fun g w' hd => Eq.trans (show (g 7).v = .bool x108.2.2.1 from (hd 7 rfl).1) (congrArg Value.bool h109)) (by simp [boolOf]) (fun _ _ => ⟨Below.refl _ _, rfl⟩) ?_
            refine eachF_skip false (.bool true) r rfl rfl rfl (fun g w' hd => Eq.trans (show (g 7).v = .bool x108.2.2.1 from (hd 7 rfl).1) (congrArg Value.bool h109)) (by simp [boolOf]) (fun _ _ => ⟨Below.refl _ _, rfl⟩) ?_
            refine eachF_skip false (.bool true) r rfl rfl rfl (fun g w' hd => Eq.trans (show (g 7).v = .bool x108.2.2.1 from (hd 7 rfl).1) (congrArg Value.bool h109)) (by simp [boolOf]) (fun _ _ => ⟨Below.refl _ _, rfl⟩) ?_
            refine eachF_skip false (.bool true) r rfl rfl rfl (fun g w' hd => Eq.trans (show (g 7).v = .bool x108.2.2.1 from (hd 7 rfl).1) (congrArg Value.bool h109)) (by simp [boolOf]) (fun _ _ => ⟨Below.refl _ _, rfl⟩) ?_
            refine eachF_skip false (.bool true) r rfl rfl rfl (fun g w' hd => Eq.trans (show (g 7).v = .bool x108.2.2.1 from (hd 7 rfl).1) (congrArg Value.bool h109)) (by simp [boolOf]) (fun _ _ => ⟨Below.refl _ _, rfl⟩) ?_
            refine eachF_skip false (.bool true) r rfl rfl rfl (fun g w' hd => Eq.trans (show (g 7).v = .bool x108.2.2.1 from (hd 7 rfl).1) (congrArg Value.bool h109)) (by simp [boolOf]) (fun _ _ => ⟨Below.refl _ _, rfl⟩) ?_
            refine eachF_skip false (.bool true) r rfl rfl rfl (fun g w' hd => Eq.trans (show (g 7).v = .bool x108.2.2.1 from (hd 7 rfl).1) (congrArg Value.bool h109)) (by simp [boolOf]) (fun _ _ => ⟨Below.refl _ _, rfl⟩) ?_
            refine eachF_skip false (.bool true) r rfl rfl rfl (fun g w' hd => Eq.trans (show (g 7).v = .bool x108.2.2.1 from (hd 7 rfl).1) (congrArg Value.bool h109)) (by simp [boolOf]) (fun _ _ => ⟨Below.refl _ _, rfl⟩) ?_
            refine eachF_skip false (.bool true) r rfl rfl rfl (fun g w' hd => Eq.trans (show (g 7).v = .bool x108.2.2.1 from (hd 7 rfl).1) (congrArg Value.bool h109)) (by simp [boolOf]) (fun _ _ => ⟨Below.refl _ _, rfl⟩) ?_
            refine eachF_skip false (.bool true) r rfl rfl rfl (fun g w' hd => Eq.trans (show (g 7).v = .bool x108.2.2.1 from (hd 7 rfl).1) (congrArg Value.bool h109)) (by simp [boolOf]) (fun _ _ => ⟨Below.refl _ _, rfl⟩) ?_
            refine eachF_skip false (.bool true) r rfl rfl rfl (fun g w' hd => Eq.trans (show (g 7).v = .bool x108.2.2.1 from (hd 7 rfl).1) (congrArg Value.bool h109)) (by simp [boolOf]) (fun _ _ => ⟨Below.refl _ _, rfl⟩) ?_
            refine eachF_skip false (.bool true) r rfl rfl rfl (fun g w' hd => Eq.trans (show (g 7).v = .bool x108.2.2.1 from (hd 7 rfl).1) (congrArg Value.bool h109)) (by simp [boolOf]) (fun _ _ => ⟨Below.refl _ _, rfl⟩) ?_
            refine eachF_skip false (.bool true) r rfl rfl rfl (fun g w' hd => Eq.trans (show (g 7).v = .bool x108.2.2.1 from (hd 7 rfl).1) (congrArg Value.bool h109)) (by simp [boolOf]) (fun _ _ => ⟨Below.refl _ _, rfl⟩) ?_
            refine eachF_skip false (.bool true) r rfl rfl rfl (fun g w' hd => Eq.trans (show (g 7).v = .bool x108.2.2.1 from (hd 7 rfl).1) (congrArg Value.bool h109)) (by simp [boolOf]) (fun _ _ => ⟨Below.refl _ _, rfl⟩) ?_
            refine eachF_skip false (.bool true) r rfl rfl rfl (fun g w' hd => Eq.trans (show (g 7).v = .bool x108.2.2.1 from (hd 7 rfl).1) (congrArg Value.bool h109)) (by simp [boolOf]) (fun _ _ => ⟨Below.refl _ _, rfl⟩) ?_
            refine fc r (fun fr1 g w' hb' hd r' => y_pick r' (b := true) (v := (.bool true)) (Eq.trans (show (g 7).v = .bool x108.2.2.1 from (hd 7 rfl).1) (congrArg Value.bool h109)) rfl bz) ?_
            exact eachF_nil
           ·
            intro fr gg w110 hb hΦ hap r
            have r := r.congr (sc ((hΦ 24 rfl).1) (sc ((hΦ 23 rfl).1) (sc ((hΦ 22 rfl).1) (sc ((hΦ 21 rfl).1) (sc ((hΦ 20 rfl).1) (sc ((hΦ 19 rfl).1) (sc ((hΦ 18 rfl).1) (sc ((hΦ 17 rfl).1) (sc ((hΦ 16 rfl).1) (sc ((hΦ 15 rfl).1) (sc ((hΦ 14 rfl).1) (sc ((hΦ 13 rfl).1) (sc ((hΦ 12 rfl).1) (sc ((hΦ 11 rfl).1) (sc ((hΦ 10 rfl).1) (sc ((hΦ 9 rfl).1) (sc ((hΦ 8 rfl).1) (sc ((hΦ 7 rfl).1) (sc ((hΦ 6 rfl).1) (sc ((hΦ 5 rfl).1) (sc ((hΦ 4 rfl).1) (sc ((hΦ 3 rfl).1) (sc ((hΦ 2 rfl).1) (sc ((hΦ 1 rfl).1) (sc ((hΦ 0 rfl).1) rfl)))))))))))))))))))))))))
            have hP : Post No [rowsR 4 1 boolE a1_vs a1_v a1, roK 5 1 u8E a2_v a2, cellC b1 ((planC a0)).toArray 23, memK mg23 x90.2.2.2, thsK th9 32 γ91.2 γ91.1 x90.2.1, rowK 3 1 i64 v95 x93] w0 w110 := hP.below hb
            exact nxy107 true () _ _ _ hD r (hs_cons rfl (hs_cons rfl (hs_cons rfl (hs_cons rfl (hs_cons rfl (hs_cons rfl (hs_cons rfl (hs_cons rfl (hs_cons rfl (hs_cons rfl (hs_cons rfl (hs_cons rfl (hs_cons rfl (hs_cons rfl (hs_cons rfl (hs_cons rfl (hs_cons rfl (hs_cons rfl hs_nil)))))))))))))))))) (hP.pick [0, 1, 2, 3, 4, 5] rfl rfl)
          ·
           have hD := (cond_f h109).symm.trans hD
           obtain ⟨x111, hx111, hD⟩ := bindD_elim hD
           obtain ⟨x112, hx112, hD⟩ := bindD_elim hD
           refine wp_freeF [.val γ91.1, .val (I x102.2.2), .val (.pointer (some ⟨rowB γ91.1, rowO γ91.1 + x102.2.2.toNat * 1, none⟩)), .val (.pointer (some ⟨th9.b (th9.at_ γ91.2 x102.2.2), 0, none⟩)), .val (.pointer (some ⟨th9.b (th9.at_ γ91.2 x102.2.2), 0, none⟩)), .val (.pointer (some ⟨th9.b (th9.at_ γ91.2 x102.2.2), 2, none⟩)), .val (.bool x108.2.2.1), .val (.bool x108.2.2.1), .val γ91.1, .val (I x102.2.2), .val (.pointer (some ⟨rowB γ91.1, rowO γ91.1 + x102.2.2.toNat * 1, none⟩)), .val (.pointer (some ⟨th9.b (th9.at_ γ91.2 x102.2.2), 0, none⟩)), .val (.pointer (some ⟨th9.b (th9.at_ γ91.2 x102.2.2), 0, none⟩)), .val (.pointer (some ⟨th9.b (th9.at_ γ91.2 x102.2.2), 1, none⟩)), .val (I x111.2.1), .val γ91.1, .val (I x102.2.2), .val (.pointer (some ⟨rowB γ91.1, rowO γ91.1 + x102.2.2.toNat * 1, none⟩)), .val (.pointer (some ⟨th9.b (th9.at_ γ91.2 x102.2.2), 0, none⟩)), .val (.pointer (some ⟨th9.b (th9.at_ γ91.2 x102.2.2), 0, none⟩)), .val (.pointer (some ⟨th9.b (th9.at_ γ91.2 x102.2.2), 0, none⟩)), .val ((th9.at_ γ91.2 x102.2.2).v0), .val (I (x112.1.length : Int)), .val (.bool (decide (x111.2.1 < (x112.1.length : Int)))), .val (.bool (decide (x111.2.1 < (x112.1.length : Int))))] mixed r (by kernel_rfl) ?_ ?_
           ·
            refine fc r (fun fr1 g w' hb' hd r' => y_move r' rfl bz) ?_
            refine fc r (fun fr1 g w' hb' hd r' => y_move r' rfl bz) ?_
            refine fc r (fun fr1 g w' hb' hd r' => y_rowAddr r' (ths_outer ((hP.below (dr hb')).ths (i := 4) rfl)).ro (ths_idx ((hP.below (dr hb')).ths (i := 4) rfl) hx108) sl30 (hd 0 rfl).1 (hd 1 rfl).1 bz) ?_
            refine fc r (fun fr1 g w' hb' hd r' => y_loadL_one r' (u := (.pointer (some ⟨th9.b (th9.at_ γ91.2 x102.2.2), 0, none⟩))) (RoAt.at_ (f := ptrE) (x := th9.b (th9.at_ γ91.2 x102.2.2)) (ths_outer ((hP.below (dr hb')).ths (i := 4) rfl)).ro (fun _ => rfl) (ths_idx ((hP.below (dr hb')).ths (i := 4) rfl) hx108)) (hd 2 rfl).1 to32 bz) ?_
            refine fc r (fun fr1 g w' hb' hd r' => y_nilCheck r' (hd 3 rfl).1 bz) ?_
            refine fc r (fun fr1 g w' hb' hd r' => y_fieldAddr r' (b := th9.b (th9.at_ γ91.2 x102.2.2)) (o := 0) (hd 4 rfl).1 fo41_2 bz) ?_
            refine fc r (fun fr1 g w' hb' hd r' => y_load_one r' (hd 5 rfl).1 (Sep.cell (i := 0) (ths_one ((hP.below (dr hb')).ths (i := 4) rfl) hx108) rfl) to4 rfl bz) ?_
            refine fc r (fun fr1 g w' hb' hd r' => y_move r' (hd 6 rfl).1 bz) ?_
            refine eachF_want false r rfl rfl rfl (fun g w' hd => Eq.trans (show (g 7).v = .bool x108.2.2.1 from (hd 7 rfl).1) (congrArg Value.bool h109)) (fun fr1 g w' hb' hd r' => ?_) ?_
            · exact y_move r' (v := γ91.1) rfl ⟨Below.refl _ _, rfl⟩
            refine eachF_want false r rfl rfl rfl (fun g w' hd => Eq.trans (show (g 7).v = .bool x108.2.2.1 from (hd 7 rfl).1) (congrArg Value.bool h109)) (fun fr1 g w' hb' hd r' => ?_) ?_
            · exact y_move r' (v := (I x102.2.2)) rfl ⟨Below.refl _ _, rfl⟩
            refine eachF_want false r rfl rfl rfl (fun g w' hd => Eq.trans (show (g 7).v = .bool x108.2.2.1 from (hd 7 rfl).1) (congrArg Value.bool h109)) (fun fr1 g w' hb' hd r' => ?_) ?_
            · exact y_rowAddr r' (ths_outer ((hP.below (dr hb')).ths (i := 4) rfl)).ro (ths_idx ((hP.below (dr hb')).ths (i := 4) rfl) hx111) sl30 (hd 8 rfl).1 (hd 9 rfl).1 ⟨Below.refl _ _, rfl⟩
            refine eachF_want false r rfl rfl rfl (fun g w' hd => Eq.trans (show (g 7).v = .bool x108.2.2.1 from (hd 7 rfl).1) (congrArg Value.bool h109)) (fun fr1 g w' hb' hd r' => ?_) ?_
            · exact y_loadL_one r' (u := (.pointer (some ⟨th9.b (th9.at_ γ91.2 x102.2.2), 0, none⟩))) (RoAt.at_ (f := ptrE) (x := th9.b (th9.at_ γ91.2 x102.2.2)) (ths_outer ((hP.below (dr hb')).ths (i := 4) rfl)).ro (fun _ => rfl) (ths_idx ((hP.below (dr hb')).ths (i := 4) rfl) hx111)) (hd 10 rfl).1 to32 ⟨Below.refl _ _, rfl⟩
            refine eachF_want false r rfl rfl rfl (fun g w' hd => Eq.trans (show (g 7).v = .bool x108.2.2.1 from (hd 7 rfl).1) (congrArg Value.bool h109)) (fun fr1 g w' hb' hd r' => ?_) ?_
            · exact y_nilCheck r' (hd 11 rfl).1 ⟨Below.refl _ _, rfl⟩
            refine eachF_want false r rfl rfl rfl (fun g w' hd => Eq.trans (show (g 7).v = .bool x108.2.2.1 from (hd 7 rfl).1) (congrArg Value.bool h109)) (fun fr1 g w' hb' hd r' => ?_) ?_
            · exact y_fieldAddr r' (b := th9.b (th9.at_ γ91.2 x102.2.2)) (o := 0) (k := 1) (hd 12 rfl).1 fo41_1 ⟨Below.refl _ _, rfl⟩
            refine eachF_want false r rfl rfl rfl (fun g w' hd => Eq.trans (show (g 7).v = .bool x108.2.2.1 from (hd 7 rfl).1) (congrArg Value.bool h109)) (fun fr1 g w' hb' hd r' => ?_) ?_
            · exact y_load_one r' (v := (I x111.2.1)) (hd 13 rfl).1 (Sep.cell (i := 0) (ths_one ((hP.below (dr hb')).ths (i := 4) rfl) hx111) rfl) to3 rfl ⟨Below.refl _ _, rfl⟩
            refine eachF_want false r rfl rfl rfl (fun g w' hd => Eq.trans (show (g 7).v = .bool x108.2.2.1 from (hd 7 rfl).1) (congrArg Value.bool h109)) (fun fr1 g w' hb' hd r' => ?_) ?_
            · exact y_move r' (v := γ91.1) rfl ⟨Below.refl _ _, rfl⟩
            refine eachF_want false r rfl rfl rfl (fun g w' hd => Eq.trans (show (g 7).v = .bool x108.2.2.1 from (hd 7 rfl).1) (congrArg Value.bool h109)) (fun fr1 g w' hb' hd r' => ?_) ?_
            · exact y_move r' (v := (I x102.2.2)) rfl ⟨Below.refl _ _, rfl⟩
            refine eachF_want false r rfl rfl rfl (fun g w' hd => Eq.trans (show (g 7).v = .bool x108.2.2.1 from (hd 7 rfl).1) (congrArg Value.bool h109)) (fun fr1 g w' hb' hd r' => ?_) ?_
            · exact y_rowAddr r' (ths_outer ((hP.below (dr hb')).ths (i := 4) rfl)).ro (ths_idx ((hP.below (dr hb')).ths (i := 4) rfl) hx112) sl30 (hd 15 rfl).1 (hd 16 rfl).1 ⟨Below.refl _ _, rfl⟩
            refine eachF_want false r rfl rfl rfl (fun g w' hd => Eq.trans (show (g 7).v = .bool x108.2.2.1 from (hd 7 rfl).1) (congrArg Value.bool h109)) (fun fr1 g w' hb' hd r' => ?_) ?_
            · exact y_loadL_one r' (u := (.pointer (some ⟨th9.b (th9.at_ γ91.2 x102.2.2), 0, none⟩))) (RoAt.at_ (f := ptrE) (x := th9.b (th9.at_ γ91.2 x102.2.2)) (ths_outer ((hP.below (dr hb')).ths (i := 4) rfl)).ro (fun _ => rfl) (ths_idx ((hP.below (dr hb')).ths (i := 4) rfl) hx112)) (hd 17 rfl).1 to32 ⟨Below.refl _ _, rfl⟩
            refine eachF_want false r rfl rfl rfl (fun g w' hd => Eq.trans (show (g 7).v = .bool x108.2.2.1 from (hd 7 rfl).1) (congrArg Value.bool h109)) (fun fr1 g w' hb' hd r' => ?_) ?_
            · exact y_nilCheck r' (hd 18 rfl).1 ⟨Below.refl _ _, rfl⟩
            refine eachF_want false r rfl rfl rfl (fun g w' hd => Eq.trans (show (g 7).v = .bool x108.2.2.1 from (hd 7 rfl).1) (congrArg Value.bool h109)) (fun fr1 g w' hb' hd r' => ?_) ?_
            · exact y_fieldAddr r' (b := th9.b (th9.at_ γ91.2 x102.2.2)) (o := 0) (k := 0) (hd 19 rfl).1 fo41_0 ⟨Below.refl _ _, rfl⟩
            refine eachF_want false r rfl rfl rfl (fun g w' hd => Eq.trans (show (g 7).v = .bool x108.2.2.1 from (hd 7 rfl).1) (congrArg Value.bool h109)) (fun fr1 g w' hb' hd r' => ?_) ?_
            · exact y_load_one r' (v := ((th9.at_ γ91.2 x102.2.2).v0)) (hd 20 rfl).1 (Sep.cell (i := 0) (ths_one ((hP.below (dr hb')).ths (i := 4) rfl) hx112) rfl) to31 rfl ⟨Below.refl _ _, rfl⟩
            refine eachF_want false r rfl rfl rfl (fun g w' hd => Eq.trans (show (g 7).v = .bool x108.2.2.1 from (hd 7 rfl).1) (congrArg Value.bool h109)) (fun fr1 g w' hb' hd r' => ?_) ?_
            · exact y_rowLen r' (Sep.ro (i := 1) (ths_one ((hP.below (dr hb')).ths (i := 4) rfl) hx112) rfl) is31 (hd 21 rfl).1 ⟨Below.refl _ _, rfl⟩
            refine eachF_want false r rfl rfl rfl (fun g w' hd => Eq.trans (show (g 7).v = .bool x108.2.2.1 from (hd 7 rfl).1) (congrArg Value.bool h109)) (fun fr1 g w' hb' hd r' => ?_) ?_
            · exact y_bin r' (u := (I x111.2.1)) (u' := (I (x112.1.length : Int))) (v := (.bool (decide (x111.2.1 < (x112.1.length : Int))))) (hd 14 rfl).1 (hd 22 rfl).1 rfl rfl ⟨Below.refl _ _, rfl⟩
            refine fc r (fun fr1 g w' hb' hd r' => y_pick r' (b := false) (v := (.bool (decide (x111.2.1 < (x112.1.length : Int))))) (Eq.trans (show (g 7).v = .bool x108.2.2.1 from (hd 7 rfl).1) (congrArg Value.bool h109)) (hd 23 rfl).1 bz) ?_
            exact eachF_nil
           ·
            intro fr gg w113 hb hΦ hap r
            have r := r.congr (sc ((hΦ 24 rfl).1) (sc ((hΦ 23 rfl).1) (sc ((hΦ 22 rfl).1) (sc ((hΦ 21 rfl).1) (sc ((hΦ 20 rfl).1) (sc ((hΦ 19 rfl).1) (sc ((hΦ 18 rfl).1) (sc ((hΦ 17 rfl).1) (sc ((hΦ 16 rfl).1) (sc ((hΦ 15 rfl).1) (sc ((hΦ 14 rfl).1) (sc ((hΦ 13 rfl).1) (sc ((hΦ 12 rfl).1) (sc ((hΦ 11 rfl).1) (sc ((hΦ 10 rfl).1) (sc ((hΦ 9 rfl).1) (sc ((hΦ 8 rfl).1) (sc ((hΦ 7 rfl).1) (sc ((hΦ 6 rfl).1) (sc ((hΦ 5 rfl).1) (sc ((hΦ 4 rfl).1) (sc ((hΦ 3 rfl).1) (sc ((hΦ 2 rfl).1) (sc ((hΦ 1 rfl).1) (sc ((hΦ 0 rfl).1) rfl)))))))))))))))))))))))))
            have hP : Post No [rowsR 4 1 boolE a1_vs a1_v a1, roK 5 1 u8E a2_v a2, cellC b1 ((planC a0)).toArray 23, memK mg23 x90.2.2.2, thsK th9 32 γ91.2 γ91.1 x90.2.1, rowK 3 1 i64 v95 x93] w0 w113 := hP.below hb
            exact nxy107 (decide (x111.2.1 < (x112.1.length : Int))) () _ _ _ hD r (hs_cons rfl (hs_cons rfl (hs_cons rfl (hs_cons rfl (hs_cons rfl (hs_cons rfl (hs_cons rfl (hs_cons rfl (hs_cons rfl (hs_cons rfl (hs_cons rfl (hs_cons rfl (hs_cons rfl (hs_cons rfl (hs_cons rfl (hs_cons rfl (hs_cons rfl (hs_cons rfl hs_nil)))))))))))))))))) (hP.pick [0, 1, 2, 3, 4, 5] rfl rfl)
         ·
          rintro x114 γ115 fr w116 g r hP hD
          have hP : Post No [rowsR 4 1 boolE a1_vs a1_v a1, roK 5 1 u8E a2_v a2, cellC b1 ((planC a0)).toArray 23, memK mg23 x90.2.2.2, thsK th9 32 γ91.2 γ91.1 x90.2.1, rowK 3 1 i64 v95 x93] w0 w116 := hP
          refine wp_cond_split (t := x114) (r.ev rfl) (fun h117 => ?_) (fun h117 => ?_)
          ·
           have hD := (cond_t h117).symm.trans hD
           refine wsr ?_
           refine seq_val (.bool false) r (fun R => y_assign r rfl) rfl fun fr r => ?_
           refine wn ?_
           refine wp_ret ?_
           refine rty104 (Lp.ret false) _ _ hD fun hD => ?_
           refine rty99 false _ _ hD fun hD => ?_
           have hv : false = res := Option.some.inj hD
           try dsimp only [Exit.then, Exit.inBlock]
           refine ret_tmp (fn := Try.f3) r (t := 6) rfl (v := (.bool false)) rfl ?_
           subst hv
           exact ⟨rfl, hP.chg.below⟩
          ·
           have hD := (cond_f h117).symm.trans hD
           refine wp_skip ?_
           refine wsr ?_
           refine seq_val γ91.1 r (fun R => y_move r rfl) rfl fun fr r => ?_
           refine seq_val (I x102.2.2) r (fun R => y_move r rfl) rfl fun fr r => ?_
           obtain ⟨x118, hx118, hD⟩ := bindD_elim hD
           refine seq_val (.pointer (some ⟨rowB γ91.1, rowO γ91.1 + x102.2.2.toNat * 1, none⟩)) r (fun R => y_rowAddr r (ths_outer (hP.ths (i := 4) rfl)).ro (ths_idx (hP.ths (i := 4) rfl) hx118) sl30 rfl rfl) rfl fun fr r => ?_
           refine seq_val (.pointer (some ⟨th9.b (th9.at_ γ91.2 x102.2.2), 0, none⟩)) r (fun R => y_loadL_one r (u := (.pointer (some ⟨th9.b (th9.at_ γ91.2 x102.2.2), 0, none⟩))) (RoAt.at_ (f := ptrE) (x := th9.b (th9.at_ γ91.2 x102.2.2)) (ths_outer (hP.ths (i := 4) rfl)).ro (fun _ => rfl) (ths_idx (hP.ths (i := 4) rfl) hx118)) rfl to32) rfl fun fr r => ?_
           refine seq_val (.pointer (some ⟨th9.b (th9.at_ γ91.2 x102.2.2), 0, none⟩)) r (fun R => y_nilCheck r rfl) rfl fun fr r => ?_
           refine seq_val _ r (fun R => y_fieldAddr r (b := th9.b (th9.at_ γ91.2 x102.2.2)) (o := 0) (k := 11) rfl fo41_5) rfl fun fr r => ?_
           refine seq_val ((th9.at_ γ91.2 x102.2.2).v5) r (fun R => y_load_one r rfl (Sep.cell (i := 0) (ths_one (hP.ths (i := 4) rfl) hx118) rfl) to39 rfl) rfl fun fr r => ?_
           refine seq_val (I x97.2) r (fun R => y_move r rfl) rfl fun fr r => ?_
           obtain ⟨x119, hx119, hD⟩ := bindD_elim hD
           refine seq_call r (c_cubicleref09_Has w116 x118.2.2.2.2.2 (Sep.row (i := 3) (ths_one (hP.ths (i := 4) rfl) hx118) rfl).ro x97.2 hx119) (fun R hc => y_call r rfl cl11 hc) rfl ?_
           rintro _ w120 ⟨rfl, hb⟩
           refine ⟨_, rfl, fun fr r => ?_⟩
           have hP : Post No [rowsR 4 1 boolE a1_vs a1_v a1, roK 5 1 u8E a2_v a2, cellC b1 ((planC a0)).toArray 23, memK mg23 x90.2.2.2, thsK th9 32 γ91.2 γ91.1 x90.2.1, rowK 3 1 i64 v95 x93] w0 w120 := hP.below hb
           refine wn ?_
           refine wp_joinG (N := 192) (Y := Int) (G := Unit) (fun x γ => [(0, (.agg (planC a0).toArray)), (1, a1_v), (2, a2_v), (3, (.pointer (some ⟨b1, 0, none⟩))), (44, (.bool x15)), (7, (.pointer (some ⟨mg23.mb, 0, none⟩))), (49, (.bool false)), (9, (I x53.2.2)), (10, (I x90.2.2.1)), (8, γ91.1), (13, v95), (14, (I x97.2)), (131, (.bool (decide (x97.2 < a0.nodes)))), (6, (.bool x102.1)), (16, (I x102.2.2)), (137, (.bool (decide (x102.2.2 < (x90.2.1.length : Int))))), (164, (.bool x114)), (173, (.bool x119)), (15, (I x))]) (fun x γ w => Post No [rowsR 4 1 boolE a1_vs a1_v a1, roK 5 1 u8E a2_v a2, cellC b1 ((planC a0)).toArray 23, memK mg23 x90.2.2.2, thsK th9 32 γ91.2 γ91.1 x90.2.1, rowK 3 1 i64 v95 x93] w0 w) hD ?_ ?_
           ·
            rintro y121 RPy121 nxy121 hD
            refine wp_cond_split (t := x119) (r.ev rfl) (fun h122 => ?_) (fun h122 => ?_)
            ·
             have hD := (cond_t h122).symm.trans hD
             refine wp_region_lit ?_
             refine seq_val (I x102.2.1) r (fun R => y_move r rfl) rfl fun fr r => ?_
             refine seq_val _ r (fun R => y_bin r rfl rfl rfl rfl) rfl fun fr r => ?_
             refine seq_val (I (W (x102.2.1 + 1))) r (fun R => y_assign r rfl) rfl fun fr r => ?_
             refine wn ?_
             exact nxy121 (W (x102.2.1 + 1)) () _ _ _ hD r (hs_cons rfl (hs_cons rfl (hs_cons rfl (hs_cons rfl (hs_cons rfl (hs_cons rfl (hs_cons rfl (hs_cons rfl (hs_cons rfl (hs_cons rfl (hs_cons rfl (hs_cons rfl (hs_cons rfl (hs_cons rfl (hs_cons rfl (hs_cons rfl (hs_cons rfl (hs_cons rfl (hs_cons rfl hs_nil))))))))))))))))))) (hP.pick [0, 1, 2, 3, 4, 5] rfl rfl)
            ·
             have hD := (cond_f h122).symm.trans hD
             refine wp_skip ?_
             exact nxy121 x102.2.1 () _ _ _ hD r (hs_cons rfl (hs_cons rfl (hs_cons rfl (hs_cons rfl (hs_cons rfl (hs_cons rfl (hs_cons rfl (hs_cons rfl (hs_cons rfl (hs_cons rfl (hs_cons rfl (hs_cons rfl (hs_cons rfl (hs_cons rfl (hs_cons rfl (hs_cons rfl (hs_cons rfl (hs_cons rfl (hs_cons rfl hs_nil))))))))))))))))))) (hP.pick [0, 1, 2, 3, 4, 5] rfl rfl)
           ·
            rintro x123 γ124 fr w125 g r hP hD
            have hP : Post No [rowsR 4 1 boolE a1_vs a1_v a1, roK 5 1 u8E a2_v a2, cellC b1 ((planC a0)).toArray 23, memK mg23 x90.2.2.2, thsK th9 32 γ91.2 γ91.1 x90.2.1, rowK 3 1 i64 v95 x93] w0 w125 := hP
            refine wp_region_lit ?_
            refine seq_val (I x102.2.2) r (fun R => y_move r rfl) rfl fun fr r => ?_
            refine seq_val _ r (fun R => y_bin r rfl rfl rfl rfl) rfl fun fr r => ?_
            refine seq_val (I (W (x102.2.2 + 1))) r (fun R => y_assign r rfl) rfl fun fr r => ?_
            refine wn ?_
            exact nxy104 (x102.1, x123, (W (x102.2.2 + 1))) () _ _ _ hD r (hs_cons rfl (hs_cons rfl (hs_cons rfl (hs_cons rfl (hs_cons rfl (hs_cons rfl (hs_cons rfl (hs_cons rfl (hs_cons rfl (hs_cons rfl (hs_cons rfl (hs_cons rfl (hs_cons rfl (hs_cons rfl (hs_cons rfl (hs_cons rfl hs_nil)))))))))))))))) (hP.pick [0, 1, 2, 3, 4, 5] rfl rfl)
        ·
         have hD := (cond_f h106).symm.trans hD
         refine wp_exit ?_
         exact bky104 (x102.1, x102.2.1, x102.2.2) () _ _ _ hD r (hs_cons rfl (hs_cons rfl (hs_cons rfl (hs_cons rfl (hs_cons rfl (hs_cons rfl (hs_cons rfl (hs_cons rfl (hs_cons rfl (hs_cons rfl (hs_cons rfl (hs_cons rfl (hs_cons rfl (hs_cons rfl (hs_cons rfl (hs_cons rfl hs_nil)))))))))))))))) (hP.pick [0, 1, 2, 3, 4, 5] rfl rfl)
       ·
        rintro x126 γ127 fr w128 g r hP hD
        have hP : Post No [rowsR 4 1 boolE a1_vs a1_v a1, roK 5 1 u8E a2_v a2, cellC b1 ((planC a0)).toArray 23, memK mg23 x90.2.2.2, thsK th9 32 γ91.2 γ91.1 x90.2.1, rowK 3 1 i64 v95 x93] w0 w128 := hP
        refine wp_seq ?_
        refine wsr ?_
        refine seq_val (I 0) r (fun R => y_assign r rfl) rfl fun fr r => ?_
        refine wn ?_
        refine wp_loopG (X := Int × Int) (G := Unit) (x0 := (x126.2.1, 0)) (fun x γ => [(0, (.agg (planC a0).toArray)), (1, a1_v), (2, a2_v), (3, (.pointer (some ⟨b1, 0, none⟩))), (44, (.bool x15)), (7, (.pointer (some ⟨mg23.mb, 0, none⟩))), (49, (.bool false)), (9, (I x53.2.2)), (10, (I x90.2.2.1)), (8, γ91.1), (13, v95), (14, (I x97.2)), (131, (.bool (decide (x97.2 < a0.nodes)))), (6, (.bool x126.1)), (16, (I x126.2.2)), (15, (I x.1)), (17, (I x.2))]) (fun x γ w => Post No [rowsR 4 1 boolE a1_vs a1_v a1, roK 5 1 u8E a2_v a2, cellC b1 ((planC a0)).toArray 23, memK mg23 x90.2.2.2, thsK th9 32 γ91.2 γ91.1 x90.2.1, rowK 3 1 i64 v95 x93] w0 w) () r (hs_cons rfl (hs_cons rfl (hs_cons rfl (hs_cons rfl (hs_cons rfl (hs_cons rfl (hs_cons rfl (hs_cons rfl (hs_cons rfl (hs_cons rfl (hs_cons rfl (hs_cons rfl (hs_cons rfl (hs_cons rfl (hs_cons rfl (hs_cons rfl (hs_cons rfl hs_nil))))))))))))))))) hP hD ?_ ?_
        ·
         rintro x129 γ130 fr w132 g y131 RPy131 nxy131 bky131 rty131 r hP hD
         have hP : Post No [rowsR 4 1 boolE a1_vs a1_v a1, roK 5 1 u8E a2_v a2, cellC b1 ((planC a0)).toArray 23, memK mg23 x90.2.2.2, thsK th9 32 γ91.2 γ91.1 x90.2.1, rowK 3 1 i64 v95 x93] w0 w132 := hP
         refine wp_seq ?_
         refine wsr ?_
         refine seq_val (I x129.2) r (fun R => y_move r rfl) rfl fun fr r => ?_
         refine seq_val v95 r (fun R => y_move r rfl) rfl fun fr r => ?_
         refine seq_val (I (x93.length : Int)) r (fun R => y_rowLen r (hP.row (i := 5) rfl).ro is39 rfl) rfl fun fr r => ?_
         refine seq_val _ r (fun R => y_bin r rfl rfl rfl rfl) rfl fun fr r => ?_
         refine wn ?_
         refine wp_cond_split (t := (decide (x129.2 < (x93.length : Int)))) (r.ev rfl) (fun h133 => ?_) (fun h133 => ?_)
         ·
          have hD := (cond_t h133).symm.trans hD
          refine wp_skip ?_
          refine wp_seq ?_
          refine wp_block ?_
          refine wsr ?_
          refine seq_val v95 r (fun R => y_move r rfl) rfl fun fr r => ?_
          refine seq_val (I x129.2) r (fun R => y_move r rfl) rfl fun fr r => ?_
          obtain ⟨x134, hx134, hD⟩ := bindD_elim hD
          refine seq_val (.pointer (some ⟨rowB v95, rowO v95 + x129.2.toNat * 1, none⟩)) r (fun R => y_rowAddr r (hP.row (i := 5) rfl).ro hx134 sl39 rfl rfl) rfl fun fr r => ?_
          refine seq_val (I x134) r (fun R => y_loadL_one r (u := (I x134)) (RoAt.at_ (f := i64) (x := x134) (hP.row (i := 5) rfl).ro (fun _ => rfl) hx134) rfl to3) rfl fun fr r => ?_
          refine seq_val (I x97.2) r (fun R => y_move r rfl) rfl fun fr r => ?_
          refine seq_val _ r (fun R => y_bin r rfl rfl rfl rfl) rfl fun fr r => ?_
          refine wn ?_
          refine wp_joinG (N := 192) (Y := Int) (G := Unit) (fun x γ => [(0, (.agg (planC a0).toArray)), (1, a1_v), (2, a2_v), (3, (.pointer (some ⟨b1, 0, none⟩))), (44, (.bool x15)), (7, (.pointer (some ⟨mg23.mb, 0, none⟩))), (49, (.bool false)), (9, (I x53.2.2)), (10, (I x90.2.2.1)), (8, γ91.1), (13, v95), (14, (I x97.2)), (131, (.bool (decide (x97.2 < a0.nodes)))), (6, (.bool x126.1)), (16, (I x126.2.2)), (17, (I x129.2)), (179, (.bool (decide (x129.2 < (x93.length : Int))))), (187, (.bool (x134 == x97.2))), (15, (I x))]) (fun x γ w => Post No [rowsR 4 1 boolE a1_vs a1_v a1, roK 5 1 u8E a2_v a2, cellC b1 ((planC a0)).toArray 23, memK mg23 x90.2.2.2, thsK th9 32 γ91.2 γ91.1 x90.2.1, rowK 3 1 i64 v95 x93] w0 w) hD ?_ ?_
          ·
           rintro y135 RPy135 nxy135 hD
           refine wp_cond_split (t := (x134 == x97.2)) (r.ev rfl) (fun h136 => ?_) (fun h136 => ?_)
           ·
            have hD := (cond_t h136).symm.trans hD
            refine wp_region_lit ?_
            refine seq_val (I x129.1) r (fun R => y_move r rfl) rfl fun fr r => ?_
            refine seq_val _ r (fun R => y_bin r rfl rfl rfl rfl) rfl fun fr r => ?_
            refine seq_val (I (W (x129.1 + 1))) r (fun R => y_assign r rfl) rfl fun fr r => ?_
            refine wn ?_
            exact nxy135 (W (x129.1 + 1)) () _ _ _ hD r (hs_cons rfl (hs_cons rfl (hs_cons rfl (hs_cons rfl (hs_cons rfl (hs_cons rfl (hs_cons rfl (hs_cons rfl (hs_cons rfl (hs_cons rfl (hs_cons rfl (hs_cons rfl (hs_cons rfl (hs_cons rfl (hs_cons rfl (hs_cons rfl (hs_cons rfl (hs_cons rfl (hs_cons rfl hs_nil))))))))))))))))))) (hP.pick [0, 1, 2, 3, 4, 5] rfl rfl)
           ·
            have hD := (cond_f h136).symm.trans hD
            refine wp_skip ?_
            exact nxy135 x129.1 () _ _ _ hD r (hs_cons rfl (hs_cons rfl (hs_cons rfl (hs_cons rfl (hs_cons rfl (hs_cons rfl (hs_cons rfl (hs_cons rfl (hs_cons rfl (hs_cons rfl (hs_cons rfl (hs_cons rfl (hs_cons rfl (hs_cons rfl (hs_cons rfl (hs_cons rfl (hs_cons rfl (hs_cons rfl (hs_cons rfl hs_nil))))))))))))))))))) (hP.pick [0, 1, 2, 3, 4, 5] rfl rfl)
          ·
           rintro x137 γ138 fr w139 g r hP hD
           have hP : Post No [rowsR 4 1 boolE a1_vs a1_v a1, roK 5 1 u8E a2_v a2, cellC b1 ((planC a0)).toArray 23, memK mg23 x90.2.2.2, thsK th9 32 γ91.2 γ91.1 x90.2.1, rowK 3 1 i64 v95 x93] w0 w139 := hP
           refine wp_region_lit ?_
           refine seq_val (I x129.2) r (fun R => y_move r rfl) rfl fun fr r => ?_
           refine seq_val _ r (fun R => y_bin r rfl rfl rfl rfl) rfl fun fr r => ?_
           refine seq_val (I (W (x129.2 + 1))) r (fun R => y_assign r rfl) rfl fun fr r => ?_
           refine wn ?_
           exact nxy131 (x137, (W (x129.2 + 1))) () _ _ _ hD r (hs_cons rfl (hs_cons rfl (hs_cons rfl (hs_cons rfl (hs_cons rfl (hs_cons rfl (hs_cons rfl (hs_cons rfl (hs_cons rfl (hs_cons rfl (hs_cons rfl (hs_cons rfl (hs_cons rfl (hs_cons rfl (hs_cons rfl (hs_cons rfl (hs_cons rfl hs_nil))))))))))))))))) (hP.pick [0, 1, 2, 3, 4, 5] rfl rfl)
         ·
          have hD := (cond_f h133).symm.trans hD
          refine wp_exit ?_
          exact bky131 (x129.1, x129.2) () _ _ _ hD r (hs_cons rfl (hs_cons rfl (hs_cons rfl (hs_cons rfl (hs_cons rfl (hs_cons rfl (hs_cons rfl (hs_cons rfl (hs_cons rfl (hs_cons rfl (hs_cons rfl (hs_cons rfl (hs_cons rfl (hs_cons rfl (hs_cons rfl (hs_cons rfl (hs_cons rfl hs_nil))))))))))))))))) (hP.pick [0, 1, 2, 3, 4, 5] rfl rfl)
        ·
         rintro x140 γ141 fr w142 g r hP hD
         have hP : Post No [rowsR 4 1 boolE a1_vs a1_v a1, roK 5 1 u8E a2_v a2, cellC b1 ((planC a0)).toArray 23, memK mg23 x90.2.2.2, thsK th9 32 γ91.2 γ91.1 x90.2.1, rowK 3 1 i64 v95 x93] w0 w142 := hP
         refine wsr ?_
         refine seq_val (I x140.1) r (fun R => y_move r rfl) rfl fun fr r => ?_
         refine seq_val _ r (fun R => y_bin r rfl rfl rfl rfl) rfl fun fr r => ?_
         refine wn ?_
         refine wp_cond_split (t := (x140.1 != 1)) (r.ev rfl) (fun h143 => ?_) (fun h143 => ?_)
         ·
          have hD := (cond_t h143).symm.trans hD
          refine wsr ?_
          refine seq_val (.bool false) r (fun R => y_assign r rfl) rfl fun fr r => ?_
          refine wn ?_
          refine wp_ret ?_
          refine rty99 false _ _ hD fun hD => ?_
          have hv : false = res := Option.some.inj hD
          try dsimp only [Exit.then, Exit.inBlock]
          refine ret_tmp (fn := Try.f3) r (t := 6) rfl (v := (.bool false)) rfl ?_
          subst hv
          exact ⟨rfl, hP.chg.below⟩
         ·
          have hD := (cond_f h143).symm.trans hD
          refine wp_skip ?_
          refine wp_region_lit ?_
          refine seq_val (I x97.2) r (fun R => y_move r rfl) rfl fun fr r => ?_
          refine seq_val _ r (fun R => y_bin r rfl rfl rfl rfl) rfl fun fr r => ?_
          refine seq_val (I (W (x97.2 + 1))) r (fun R => y_assign r rfl) rfl fun fr r => ?_
          refine wn ?_
          exact nxy99 (x126.1, (W (x97.2 + 1))) () _ _ _ hD r (hs_cons rfl (hs_cons rfl (hs_cons rfl (hs_cons rfl (hs_cons rfl (hs_cons rfl (hs_cons rfl (hs_cons rfl (hs_cons rfl (hs_cons rfl (hs_cons rfl (hs_cons rfl (hs_cons rfl hs_nil))))))))))))) (hP.pick [0, 1, 2, 3, 4, 5] rfl rfl)
      ·
       have hD := (cond_f h101).symm.trans hD
       refine wp_exit ?_
       exact bky99 (x97.1, x97.2) () _ _ _ hD r (hs_cons rfl (hs_cons rfl (hs_cons rfl (hs_cons rfl (hs_cons rfl (hs_cons rfl (hs_cons rfl (hs_cons rfl (hs_cons rfl (hs_cons rfl (hs_cons rfl (hs_cons rfl (hs_cons rfl hs_nil))))))))))))) (hP.pick [0, 1, 2, 3, 4, 5] rfl rfl)
     ·
      rintro x144 γ145 fr w146 g r hP hD
      have hP : Post No [rowsR 4 1 boolE a1_vs a1_v a1, roK 5 1 u8E a2_v a2, cellC b1 ((planC a0)).toArray 23, memK mg23 x90.2.2.2, thsK th9 32 γ91.2 γ91.1 x90.2.1, rowK 3 1 i64 v95 x93] w0 w146 := hP
      refine wsr ?_
      refine seq_val (.bool true) r (fun R => y_assign r rfl) rfl fun fr r => ?_
      refine wn ?_
      refine wp_ret ?_
      have hv : true = res := Option.some.inj hD
      try dsimp only [Exit.then, Exit.inBlock]
      refine ret_tmp (fn := Try.f3) r (t := 6) rfl (v := (.bool true)) rfl ?_
      subst hv
      exact ⟨rfl, hP.chg.below⟩

end Go.Proofs.Ytbbipmelhmgmfaa.Wk

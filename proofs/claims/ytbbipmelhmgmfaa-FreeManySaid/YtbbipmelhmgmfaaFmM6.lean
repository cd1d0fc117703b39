/- Some of our texts, one behind the other. -/
import Derived.Test.YtbbipmelhmgmfaaFmMems
import Derived.Test.YtbbipmelhmgmfaaFmM5
import Derived.Test.YtbbipmelhmgmfaaFmM4
import Derived.Test.YtbbipmelhmgmfaaFmM2
set_option linter.all false
/- Written by a program of ours (wip/gen.py): programs run -/
set_option linter.unusedVariables false
set_option maxRecDepth 20000
set_option maxHeartbeats 2000000
namespace Go.Proofs.Ytbbipmelhmgmfaa
open Go.RowKit
theorem cl28 : callable Try.prog 28 = true := by kernel_rfl

theorem cl43 : callable Try.prog 43 = true := by kernel_rfl

theorem fo38_0 : fieldOff Try.prog 38 0 0 = true := by kernel_rfl

theorem fo38_1 : fieldOff Try.prog 38 1 1 = true := by kernel_rfl

theorem fo38_2 : fieldOff Try.prog 38 2 2 = true := by kernel_rfl

theorem fo38_3 : fieldOff Try.prog 38 3 6 = true := by kernel_rfl

theorem fo57_0 : fieldOff Try.prog 57 0 0 = true := by kernel_rfl

theorem fo57_2 : fieldOff Try.prog 57 2 1 = true := by kernel_rfl

theorem fo57_3 : fieldOff Try.prog 57 3 5 = true := by kernel_rfl

theorem fz57 : fieldZ Try.prog 57 1 1 = true := by kernel_rfl

theorem to36 : tyO Try.prog 36 = true := by kernel_rfl

theorem to4 : tyO Try.prog 4 = true := by kernel_rfl

theorem to55 : tyO Try.prog 55 = true := by kernel_rfl

theorem ts52 : sized Try.prog 52 0 = true := by kernel_rfl

theorem tz52 : zeroOf Try.prog 52 = some (.agg #[]) := by kernel_rfl

def D.prog_Prog_None_Step (fu : Nat) (a0 : Nat × T Unit) (a1 : Mem) (a2 : Cap) : Option ((Nat × T Unit) × Bool × Mem) := (bif a0.2.isDone then (some (a0, false, a1)) else ((D.mem_Memory_Do fu a1 a2 (T.acc a0.2)).bind (fun (x16 : Int × Bool × Mem) => (bif (!x16.2.1) then (some (a0, false, x16.2.2)) else ((depthI a0.1).bind (fun (x26 : Nat) => (some ((x26, T.next a0.2 x16.1), true, x16.2.2))))))))

set_option maxRecDepth 20000 in
set_option maxHeartbeats 20000000 in
theorem c_prog_Prog_None_Step {fu : Nat} (w0 : World) {a0_v : Value} {a0_F : List Nat} (a0 : Nat × T Unit) {a1_g : MG} (a1 : Mem) (a2 : Cap) (hS : Sep [progK Try.prog encNone a0 a0_v a0_F, memK a1_g a1] w0) {res : (Nat × T Unit) × Bool × Mem} (hD : D.prog_Prog_None_Step fu a0 a1 a2 = some res) :
    Calls Try.prog 28 #[a0_v, .pointer (some ⟨a1_g.mb, 0, none⟩), .agg (capC a2).toArray] w0 (fun e w' => ∃ (v0 : Value) (F0 : List Nat), e = .returned (.tuple #[v0, (.bool res.2.1)]) ∧ Done (fun b => b ∈ (memK a1_g a1).own) (fun b => b ∈ a0_F) [memK a1_g res.2.2, progK Try.prog encNone res.1 v0 F0] w0 w') := by
 refine enter Try.func28 rfl 28 rfl rfl fun fr r => ?_
 have hP : Post (fun b => b ∈ (memK a1_g a1).own) [progK Try.prog encNone a0 a0_v a0_F, memK a1_g a1] w0 w0 := .start hS (by simp [memK, progK])
 unfold D.prog_Prog_None_Step at hD
 refine wsr ?_
 refine seq_new (.cells a0_v.cells 57 (0, 0)) r (fun R => y_box r (v := a0_v) rfl) rfl fun fr b1 w2 n3 r => ?_
 have hP : Post (fun b => b ∈ (memK a1_g a1).own) [progK Try.prog encNone a0 a0_v a0_F, memK a1_g a1, cellC b1 a0_v.cells 57] w0 w2 := hP.new n3
 refine seq_new (.cells ((capC a2)).toArray 60 (0, 0)) r (fun R => y_box r (v := (.agg (capC a2).toArray)) rfl) rfl fun fr b5 w6 n7 r => ?_
 have hP : Post (fun b => b ∈ (memK a1_g a1).own) [progK Try.prog encNone a0 a0_v a0_F, memK a1_g a1, cellC b1 a0_v.cells 57, cellC b5 ((capC a2)).toArray 60] w0 w6 := hP.new n7
 refine seq_new (.cells (progCells false encNone.zero 0 0 0 0 .nilFunc) 57 (0, 0)) r (fun R => y_alloc tz57) rfl fun fr b9 w10 n11 r => ?_
 have hP : Post (fun b => b ∈ (memK a1_g a1).own) [progK Try.prog encNone a0 a0_v a0_F, memK a1_g a1, cellC b1 a0_v.cells 57, cellC b5 ((capC a2)).toArray 60, cellC b9 (progCells false encNone.zero 0 0 0 0 .nilFunc) 57] w0 w10 := hP.new n11
 refine seq_val (.bool false) r (fun R => y_assign r rfl) rfl fun fr r => ?_
 refine wn ?_
 refine wp_seq ?_
 refine wsr ?_
 refine seq_val _ r (fun R => y_fieldAddr r (b := b1) (o := 0) (k := 0) rfl fo57_0) rfl fun fr r => ?_
 refine seq_val (.bool a0.2.isDone) r (fun R => y_load_one r rfl (hP.cell (i := 2) rfl) to4 (Rep.over_at (hP.prog (i := 0) rfl))) rfl fun fr r => ?_
 refine wn ?_
 refine wp_cond_split (t := a0.2.isDone) (r.ev rfl) (fun h13 => ?_) (fun h13 => ?_)
 ·
  have hD := (cond_t h13).symm.trans hD
  refine wsr ?_
  refine seq_val a0_v r (fun R => y_loadp r (hP.prog (i := 0) rfl).shape rfl (hP.cell (i := 2) rfl) ta57) rfl fun fr r => ?_
  refine seq_upd (.cells a0_v.cells 57 (0, 0)) r (fun R => y_storep r (hP.prog (i := 0) rfl).shape rfl rfl (hP.cell (i := 4) rfl) ts57 rfl) rfl fun fr w14 u15 r => ?_
  have hP : Post (fun b => b ∈ (memK a1_g a1).own) [progK Try.prog encNone a0 a0_v a0_F, memK a1_g a1, cellC b1 a0_v.cells 57, cellC b5 ((capC a2)).toArray 60, cellC b9 a0_v.cells 57] w0 w14 := hP.upd (i := 4) rfl u15
  refine seq_val (.bool false) r (fun R => y_assign r rfl) rfl fun fr r => ?_
  refine wn ?_
  refine wp_ret ?_
  have hv : (a0, false, a1) = res := Option.some.inj hD
  try dsimp only [Exit.then, Exit.inBlock]
  have hs := (hP.prog (i := 0) rfl).shape.cells
  refine ret_cell_tmp (fn := Try.f28) r rfl rfl (v' := (.bool false)) rfl (hP.cell (i := 4) rfl) (k := 6) hs.1 ta57 ?_
  rw [← hs.2.2]
  subst hv
  exact ⟨a0_v, a0_F, rfl, (hP.pick [1, 0] rfl rfl).done (rest_cons rfl (rest_consP (fun b h => .inl h) rest_nil))⟩
 ·
  have hD := (cond_f h13).symm.trans hD
  refine wp_skip ?_
  refine wsr ?_
  refine seq_val (.pointer (some ⟨a1_g.mb, 0, none⟩)) r (fun R => y_move r rfl) rfl fun fr r => ?_
  refine seq_val (.agg (capC a2).toArray) r (fun R => y_load_agg r (cs := (capC a2)) (n := 2) rfl (hP.cell (i := 3) rfl) ta60 rfl) rfl fun fr r => ?_
  refine seq_val _ r (fun R => y_fieldAddr r (b := b1) (o := 0) (k := 1) rfl fo57_2) rfl fun fr r => ?_
  refine seq_val (.agg (accessC (T.acc a0.2)).toArray) r (fun R => y_load_agg r (cs := (accessC (T.acc a0.2))) (n := 4) rfl (hP.cell (i := 2) rfl) ta35 (Rep.acc_at (hP.prog (i := 0) rfl) h13)) rfl fun fr r => ?_
  obtain ⟨x16, hx16, hD⟩ := bindD_elim hD
  refine seq_call r (c_mem_Memory_Do w10 a1 a2 (T.acc a0.2) (hP.sep.pk [1] rfl rfl) hx16) (fun R hc => y_call r rfl cl43 hc) rfl ?_
  rintro _ w17 ⟨rfl, hq⟩
  refine ⟨_, rfl, fun fr r => ?_⟩
  have hP : Post (fun b => b ∈ (memK a1_g a1).own) [progK Try.prog encNone a0 a0_v a0_F, memK a1_g x16.2.2, cellC b1 a0_v.cells 57, cellC b5 ((capC a2)).toArray 60, cellC b9 (progCells false encNone.zero 0 0 0 0 .nilFunc) 57] w0 w17 := hP.setN (i := 1) rfl hq
  refine seq_val (.tuple #[(U x16.1), (.bool x16.2.1)]) r (fun R => y_move r rfl) rfl fun fr r => ?_
  refine seq_val (U x16.1) r (fun R => y_extract r (vs := #[(U x16.1), (.bool x16.2.1)]) rfl rfl) rfl fun fr r => ?_
  refine seq_val (.bool x16.2.1) r (fun R => y_extract r (vs := #[(U x16.1), (.bool x16.2.1)]) rfl rfl) rfl fun fr r => ?_
  refine seq_val (U x16.1) r (fun R => y_assign r rfl) rfl fun fr r => ?_
  refine seq_val (.bool x16.2.1) r (fun R => y_assign r rfl) rfl fun fr r => ?_
  refine wn ?_
  refine wp_seq ?_
  refine wsr ?_
  refine seq_val (.bool x16.2.1) r (fun R => y_move r rfl) rfl fun fr r => ?_
  refine seq_val (.bool (!x16.2.1)) r (fun R => y_un r (u := (.bool x16.2.1)) rfl rfl) rfl fun fr r => ?_
  refine wn ?_
  refine wp_cond_split (t := (!x16.2.1)) (r.ev rfl) (fun h18 => ?_) (fun h18 => ?_)
  ·
   have hD := (cond_t h18).symm.trans hD
   refine wsr ?_
   refine seq_val a0_v r (fun R => y_loadp r (hP.prog (i := 0) rfl).shape rfl (hP.cell (i := 2) rfl) ta57) rfl fun fr r => ?_
   refine seq_upd (.cells a0_v.cells 57 (0, 0)) r (fun R => y_storep r (hP.prog (i := 0) rfl).shape rfl rfl (hP.cell (i := 4) rfl) ts57 rfl) rfl fun fr w19 u20 r => ?_
   have hP : Post (fun b => b ∈ (memK a1_g a1).own) [progK Try.prog encNone a0 a0_v a0_F, memK a1_g x16.2.2, cellC b1 a0_v.cells 57, cellC b5 ((capC a2)).toArray 60, cellC b9 a0_v.cells 57] w0 w19 := hP.upd (i := 4) rfl u20
   refine seq_val (.bool false) r (fun R => y_assign r rfl) rfl fun fr r => ?_
   refine wn ?_
   refine wp_ret ?_
   have hv : (a0, false, x16.2.2) = res := Option.some.inj hD
   try dsimp only [Exit.then, Exit.inBlock]
   have hs := (hP.prog (i := 0) rfl).shape.cells
   refine ret_cell_tmp (fn := Try.f28) r rfl rfl (v' := (.bool false)) rfl (hP.cell (i := 4) rfl) (k := 6) hs.1 ta57 ?_
   rw [← hs.2.2]
   subst hv
   exact ⟨a0_v, a0_F, rfl, (hP.pick [1, 0] rfl rfl).done (rest_cons rfl (rest_consP (fun b h => .inl h) rest_nil))⟩
  ·
   have hD := (cond_f h18).symm.trans hD
   refine wp_skip ?_
   refine wsr ?_
   refine seq_val _ r (fun R => y_fieldAddr r (b := b1) (o := 0) (k := 5) rfl fo57_3) rfl fun fr r => ?_
   obtain ⟨nf21, n122, n223, hv24, hk25⟩ := Rep.next_at (hP.prog (i := 0) rfl) h13
   refine seq_val (.func (.func nf21) n122.toArray n223.toArray) r (fun R => y_load_one r rfl (hP.cell (i := 2) rfl) to55 hv24) rfl fun fr r => ?_
   refine seq_val (U x16.1) r (fun R => y_move r rfl) rfl fun fr r => ?_
   obtain ⟨x26, hx26, hD⟩ := bindD_elim hD
   refine seq_call r (hk25.at_.2 x26 (by rw [depthI_eq hx26]; exact Nat.lt_succ_self _) x16.1 w17 (Same.refl _ _) (Nat.le_refl _)) (fun R hc => y_callv1 r rfl rfl hk25.at_.1 hc) rfl ?_
   rintro _ w27 ⟨v28, rfl, hb, hr29⟩
   refine ⟨_, rfl, fun fr r => ?_⟩
   have zw27 := hP.size
   have hP : Post (fun b => b ∈ (memK a1_g a1).own) [progK Try.prog encNone a0 a0_v a0_F, memK a1_g x16.2.2, cellC b1 a0_v.cells 57, cellC b5 ((capC a2)).toArray 60, cellC b9 (progCells false encNone.zero 0 0 0 0 .nilFunc) 57, progK Try.prog encNone (x26, T.next a0.2 x16.1) v28 (a0_F ++ rg w17.heap.size w27.heap.size)] w0 w27 := hP.addProgF (k := 0) rfl hb hr29
   refine seq_upd (.cells v28.cells 57 (0, 0)) r (fun R => y_storep r (hP.prog (i := 5) rfl).shape rfl rfl (hP.cell (i := 4) rfl) ts57 rfl) rfl fun fr w31 u32 r => ?_
   have hP : Post (fun b => b ∈ (memK a1_g a1).own) [progK Try.prog encNone a0 a0_v a0_F, memK a1_g x16.2.2, cellC b1 a0_v.cells 57, cellC b5 ((capC a2)).toArray 60, cellC b9 v28.cells 57, progK Try.prog encNone (x26, T.next a0.2 x16.1) v28 (a0_F ++ rg w17.heap.size w27.heap.size)] w0 w31 := hP.upd (i := 4) rfl u32
   refine seq_val (.bool true) r (fun R => y_assign r rfl) rfl fun fr r => ?_
   refine wn ?_
   refine wp_ret ?_
   have hv : ((x26, T.next a0.2 x16.1), true, x16.2.2) = res := Option.some.inj hD
   try dsimp only [Exit.then, Exit.inBlock]
   have hs := (hP.prog (i := 5) rfl).shape.cells
   refine ret_cell_tmp (fn := Try.f28) r rfl rfl (v' := (.bool true)) rfl (hP.cell (i := 4) rfl) (k := 6) hs.1 ta57 ?_
   rw [← hs.2.2]
   subst hv
   exact ⟨v28, (a0_F ++ rg w17.heap.size w27.heap.size), rfl, (hP.pick [1, 5] rfl rfl).done (rest_cons rfl (rest_consP (fun b h => (List.mem_append.1 h).elim .inl (fun h => .inr (by have := (mem_rg.1 h).1; omega))) rest_nil))⟩

def D.prog_Run_None (fu : Nat) (a0 : Nat × T Unit) (a1 : Mem) (a2 : Cap) (a3 : Int) : Option (Unit × Int × Bool × Mem) := (loopThen (fun (x13 : Int × Mem × (Nat × T Unit)) => (Option.bind (bif (decide (x13.1 < a3)) then (some (!x13.2.2.2.isDone)) else (some false)) (fun (x19 : Bool) => (bif x19 then ((D.prog_Prog_None_Step fu x13.2.2 x13.2.1 a2).bind (fun (x23 : (Nat × T Unit) × Bool × Mem) => (bif (!x23.2.1) then (some (Lp.brk (x13.1, x23.2.2, x13.2.2))) else (some (Lp.next ((IntKind.i64.wrap (x13.1 + 1)), x23.2.2, x23.1)))))) else (some (Lp.brk (x13.1, x13.2.1, x13.2.2))))))) fu (0, a1, a0) (fun (x37 : Int × Mem × (Nat × T Unit)) => (some ((), x37.1, x37.2.2.2.isDone, x37.2.1))))

set_option maxRecDepth 20000 in
set_option maxHeartbeats 20000000 in
theorem c_prog_Run_None {fu : Nat} (w0 : World) {a0_v : Value} {a0_F : List Nat} (a0 : Nat × T Unit) {a1_g : MG} (a1 : Mem) (a2 : Cap) (a3 : Int) (hS : Sep [progK Try.prog encNone a0 a0_v a0_F, memK a1_g a1] w0) {res : Unit × Int × Bool × Mem} (hD : D.prog_Run_None fu a0 a1 a2 a3 = some res) :
    Calls Try.prog 14 #[a0_v, .pointer (some ⟨a1_g.mb, 0, none⟩), .agg (capC a2).toArray, .int .i64 a3] w0 (fun e w' => e = .returned (.tuple #[(.agg #[]), (.int .i64 res.2.1), (.bool res.2.2.1)]) ∧ Done (fun b => b ∈ (memK a1_g a1).own) No [memK a1_g res.2.2.2] w0 w') := by
 refine enter Try.func14 rfl 39 rfl rfl fun fr r => ?_
 have hP : Post (fun b => b ∈ (memK a1_g a1).own) [progK Try.prog encNone a0 a0_v a0_F, memK a1_g a1] w0 w0 := .start hS (by simp [memK, progK])
 unfold D.prog_Run_None at hD
 refine wsr ?_
 refine seq_new (.cells a0_v.cells 57 (0, 0)) r (fun R => y_box r (v := a0_v) rfl) rfl fun fr b1 w2 n3 r => ?_
 have hP : Post (fun b => b ∈ (memK a1_g a1).own) [progK Try.prog encNone a0 a0_v a0_F, memK a1_g a1, cellC b1 a0_v.cells 57] w0 w2 := hP.new n3
 refine seq_new (.cells ((capC a2)).toArray 60 (0, 0)) r (fun R => y_box r (v := (.agg (capC a2).toArray)) rfl) rfl fun fr b5 w6 n7 r => ?_
 have hP : Post (fun b => b ∈ (memK a1_g a1).own) [progK Try.prog encNone a0 a0_v a0_F, memK a1_g a1, cellC b1 a0_v.cells 57, cellC b5 ((capC a2)).toArray 60] w0 w6 := hP.new n7
 refine seq_new (.cells #[] 52 (0, 0)) r (fun R => y_alloc tz52) rfl fun fr b9 w10 n11 r => ?_
 have hP : Post (fun b => b ∈ (memK a1_g a1).own) [progK Try.prog encNone a0 a0_v a0_F, memK a1_g a1, cellC b1 a0_v.cells 57, cellC b5 ((capC a2)).toArray 60, cellC b9 #[] 52] w0 w10 := hP.new n11
 refine seq_val (I 0) r (fun R => y_assign r rfl) rfl fun fr r => ?_
 refine seq_val (.bool false) r (fun R => y_assign r rfl) rfl fun fr r => ?_
 refine wn ?_
 refine wsr ?_
 refine seq_val (I 0) r (fun R => y_assign r rfl) rfl fun fr r => ?_
 refine wn ?_
 refine wp_seq ?_
 refine wp_loopG (X := Int × Mem × (Nat × T Unit)) (G := Value × List Nat) (x0 := (0, a1, a0)) (fun x γ => [(0, a0_v), (1, (.pointer (some ⟨a1_g.mb, 0, none⟩))), (2, (.agg (capC a2).toArray)), (3, (I a3)), (4, (.pointer (some ⟨b1, 0, none⟩))), (6, (.pointer (some ⟨b5, 0, none⟩))), (8, (.pointer (some ⟨b9, 0, none⟩))), (9, (I 0)), (10, (.bool false)), (11, (I x.1))]) (fun x γ w => Post (fun b => b ∈ (memK a1_g a1).own) [progK Try.prog encNone x.2.2 γ.1 γ.2, memK a1_g x.2.1, cellC b1 γ.1.cells 57, cellC b5 ((capC a2)).toArray 60, cellC b9 #[] 52] w0 w) (a0_v, a0_F) r (hs_cons rfl (hs_cons rfl (hs_cons rfl (hs_cons rfl (hs_cons rfl (hs_cons rfl (hs_cons rfl (hs_cons rfl (hs_cons rfl (hs_cons rfl hs_nil)))))))))) hP hD ?_ ?_
 ·
  rintro x13 γ14 fr w16 g y15 RPy15 nxy15 bky15 rty15 r hP hD
  have hP : Post (fun b => b ∈ (memK a1_g a1).own) [progK Try.prog encNone x13.2.2 γ14.1 γ14.2, memK a1_g x13.2.1, cellC b1 γ14.1.cells 57, cellC b5 ((capC a2)).toArray 60, cellC b9 #[] 52] w0 w16 := hP
  refine wp_seq ?_
  refine wp_seq ?_
  refine wp_joinG (N := 39) (Y := Bool) (G := Unit) (fun x γ => [(0, a0_v), (1, (.pointer (some ⟨a1_g.mb, 0, none⟩))), (2, (.agg (capC a2).toArray)), (3, (I a3)), (4, (.pointer (some ⟨b1, 0, none⟩))), (6, (.pointer (some ⟨b5, 0, none⟩))), (8, (.pointer (some ⟨b9, 0, none⟩))), (9, (I 0)), (10, (.bool false)), (11, (I x13.1)), (21, (.bool x))]) (fun x γ w => Post (fun b => b ∈ (memK a1_g a1).own) [progK Try.prog encNone x13.2.2 γ14.1 γ14.2, memK a1_g x13.2.1, cellC b1 γ14.1.cells 57, cellC b5 ((capC a2)).toArray 60, cellC b9 #[] 52] w0 w) hD ?_ ?_
  ·
   rintro y17 RPy17 nxy17 hD
   refine wp_region_lit ?_
   refine seq_val (I x13.1) r (fun R => y_move r rfl) rfl fun fr r => ?_
   refine seq_val (I a3) r (fun R => y_move r rfl) rfl fun fr r => ?_
   refine seq_val _ r (fun R => y_bin r rfl rfl rfl rfl) rfl fun fr r => ?_
   refine seq_val (.bool (decide (x13.1 < a3))) r (fun R => y_move r rfl) rfl fun fr r => ?_
   refine seq_split (decide (x13.1 < a3)) (fun h18 => ?_) (fun h18 => ?_)
   ·
    have hD := (cond_t h18).symm.trans hD
    refine s1 r h18 ?_
    refine seq_val _ r (fun R => y_fieldAddr r (b := b1) (o := 0) (k := 0) rfl fo57_0) rfl fun fr r => ?_
    refine s1 r h18 ?_
    refine seq_val (.bool x13.2.2.2.isDone) r (fun R => y_load_one r rfl (hP.cell (i := 2) rfl) to4 (Rep.over_at (hP.prog (i := 0) rfl))) rfl fun fr r => ?_
    refine s1 r h18 ?_
    refine seq_val (.bool (!x13.2.2.2.isDone)) r (fun R => y_un r (u := (.bool x13.2.2.2.isDone)) rfl rfl) rfl fun fr r => ?_
    refine seq_val (.bool (!x13.2.2.2.isDone)) r (fun R => y_pick r (b := true) (congrArg Value.bool h18) rfl) rfl fun fr r => ?_
    refine wn ?_
    exact nxy17 (!x13.2.2.2.isDone) () _ _ _ hD r (hs_cons rfl (hs_cons rfl (hs_cons rfl (hs_cons rfl (hs_cons rfl (hs_cons rfl (hs_cons rfl (hs_cons rfl (hs_cons rfl (hs_cons rfl (hs_cons rfl hs_nil))))))))))) (hP.pick [0, 1, 2, 3, 4] rfl rfl)
   ·
    have hD := (cond_f h18).symm.trans hD
    refine s0 r h18 fun fr r => ?_
    refine s0 r h18 fun fr r => ?_
    refine s0 r h18 fun fr r => ?_
    refine seq_val (.bool false) r (fun R => y_pick r (b := false) (congrArg Value.bool h18) rfl) rfl fun fr r => ?_
    refine wn ?_
    exact nxy17 false () _ _ _ hD r (hs_cons rfl (hs_cons rfl (hs_cons rfl (hs_cons rfl (hs_cons rfl (hs_cons rfl (hs_cons rfl (hs_cons rfl (hs_cons rfl (hs_cons rfl (hs_cons rfl hs_nil))))))))))) (hP.pick [0, 1, 2, 3, 4] rfl rfl)
  ·
   rintro x19 γ20 fr w21 g r hP hD
   have hP : Post (fun b => b ∈ (memK a1_g a1).own) [progK Try.prog encNone x13.2.2 γ14.1 γ14.2, memK a1_g x13.2.1, cellC b1 γ14.1.cells 57, cellC b5 ((capC a2)).toArray 60, cellC b9 #[] 52] w0 w21 := hP
   refine wp_cond_split (t := x19) (r.ev rfl) (fun h22 => ?_) (fun h22 => ?_)
   ·
    have hD := (cond_t h22).symm.trans hD
    refine wp_skip ?_
    refine wp_block ?_
    refine wsr ?_
    refine seq_val γ14.1 r (fun R => y_loadp r (hP.prog (i := 0) rfl).shape rfl (hP.cell (i := 2) rfl) ta57) rfl fun fr r => ?_
    refine seq_val (.pointer (some ⟨a1_g.mb, 0, none⟩)) r (fun R => y_move r rfl) rfl fun fr r => ?_
    refine seq_val (.agg (capC a2).toArray) r (fun R => y_load_agg r (cs := (capC a2)) (n := 2) rfl (hP.cell (i := 3) rfl) ta60 rfl) rfl fun fr r => ?_
    obtain ⟨x23, hx23, hD⟩ := bindD_elim hD
    refine seq_call r (c_prog_Prog_None_Step w21 x13.2.2 x13.2.1 a2 (hP.sep.pk [0, 1] rfl rfl) hx23) (fun R hc => y_call r rfl cl28 hc) rfl ?_
    rintro _ w24 ⟨v25, F26, rfl, hq⟩
    refine ⟨_, rfl, fun fr r => ?_⟩
    have hP : Post (fun b => b ∈ (memK a1_g a1).own) [progK Try.prog encNone x13.2.2 γ14.1 γ14.2, memK a1_g x23.2.2, cellC b1 γ14.1.cells 57, cellC b5 ((capC a2)).toArray 60, cellC b9 #[] 52, progK Try.prog encNone x23.1 v25 F26] w0 w24 := hP.setR (i := 1) (k := 0) rfl rfl rfl hq
    refine seq_val (.tuple #[v25, (.bool x23.2.1)]) r (fun R => y_move r rfl) rfl fun fr r => ?_
    refine seq_val v25 r (fun R => y_extract r (vs := #[v25, (.bool x23.2.1)]) rfl rfl) rfl fun fr r => ?_
    refine seq_val (.bool x23.2.1) r (fun R => y_extract r (vs := #[v25, (.bool x23.2.1)]) rfl rfl) rfl fun fr r => ?_
    refine seq_new (.cells (progCells false encNone.zero 0 0 0 0 .nilFunc) 57 (0, 0)) r (fun R => y_alloc tz57) rfl fun fr b28 w29 n30 r => ?_
    have hP : Post (fun b => b ∈ (memK a1_g a1).own) [progK Try.prog encNone x13.2.2 γ14.1 γ14.2, memK a1_g x23.2.2, cellC b1 γ14.1.cells 57, cellC b5 ((capC a2)).toArray 60, cellC b9 #[] 52, progK Try.prog encNone x23.1 v25 F26, cellC b28 (progCells false encNone.zero 0 0 0 0 .nilFunc) 57] w0 w29 := hP.new n30
    refine seq_upd (.cells v25.cells 57 (0, 0)) r (fun R => y_storep r (hP.prog (i := 5) rfl).shape rfl rfl (hP.cell (i := 6) rfl) ts57 rfl) rfl fun fr w32 u33 r => ?_
    have hP : Post (fun b => b ∈ (memK a1_g a1).own) [progK Try.prog encNone x13.2.2 γ14.1 γ14.2, memK a1_g x23.2.2, cellC b1 γ14.1.cells 57, cellC b5 ((capC a2)).toArray 60, cellC b9 #[] 52, progK Try.prog encNone x23.1 v25 F26, cellC b28 v25.cells 57] w0 w32 := hP.upd (i := 6) rfl u33
    refine seq_val (.bool x23.2.1) r (fun R => y_assign r rfl) rfl fun fr r => ?_
    refine wn ?_
    refine wp_seq ?_
    refine wsr ?_
    refine seq_val (.bool x23.2.1) r (fun R => y_move r rfl) rfl fun fr r => ?_
    refine seq_val (.bool (!x23.2.1)) r (fun R => y_un r (u := (.bool x23.2.1)) rfl rfl) rfl fun fr r => ?_
    refine wn ?_
    refine wp_cond_split (t := (!x23.2.1)) (r.ev rfl) (fun h34 => ?_) (fun h34 => ?_)
    ·
     have hD := (cond_t h34).symm.trans hD
     refine wp_exit ?_
     exact bky15 (x13.1, x23.2.2, x13.2.2) (γ14.1, γ14.2) _ _ _ hD r (hs_cons rfl (hs_cons rfl (hs_cons rfl (hs_cons rfl (hs_cons rfl (hs_cons rfl (hs_cons rfl (hs_cons rfl (hs_cons rfl (hs_cons rfl hs_nil)))))))))) (hP.pick [0, 1, 2, 3, 4] rfl rfl)
    ·
     have hD := (cond_f h34).symm.trans hD
     refine wp_skip ?_
     refine wsr ?_
     refine seq_val v25 r (fun R => y_loadp r (hP.prog (i := 5) rfl).shape rfl (hP.cell (i := 6) rfl) ta57) rfl fun fr r => ?_
     refine seq_upd (.cells v25.cells 57 (0, 0)) r (fun R => y_storep r (hP.prog (i := 5) rfl).shape rfl rfl (hP.cell (i := 2) rfl) ts57 (by have h := (hP.prog (i := 0) rfl).shape.cells.1; simpa using h)) rfl fun fr w35 u36 r => ?_
     have hP : Post (fun b => b ∈ (memK a1_g a1).own) [progK Try.prog encNone x13.2.2 γ14.1 γ14.2, memK a1_g x23.2.2, cellC b1 v25.cells 57, cellC b5 ((capC a2)).toArray 60, cellC b9 #[] 52, progK Try.prog encNone x23.1 v25 F26, cellC b28 v25.cells 57] w0 w35 := hP.upd (i := 2) rfl u36
     refine wn ?_
     refine wp_region_lit ?_
     refine seq_val (I x13.1) r (fun R => y_move r rfl) rfl fun fr r => ?_
     refine seq_val _ r (fun R => y_bin r rfl rfl rfl rfl) rfl fun fr r => ?_
     refine seq_val (I (W (x13.1 + 1))) r (fun R => y_assign r rfl) rfl fun fr r => ?_
     refine wn ?_
     exact nxy15 ((W (x13.1 + 1)), x23.2.2, x23.1) (v25, F26) _ _ _ hD r (hs_cons rfl (hs_cons rfl (hs_cons rfl (hs_cons rfl (hs_cons rfl (hs_cons rfl (hs_cons rfl (hs_cons rfl (hs_cons rfl (hs_cons rfl hs_nil)))))))))) (hP.pick [5, 1, 2, 3, 4] rfl rfl)
   ·
    have hD := (cond_f h22).symm.trans hD
    refine wp_exit ?_
    exact bky15 (x13.1, x13.2.1, x13.2.2) (γ14.1, γ14.2) _ _ _ hD r (hs_cons rfl (hs_cons rfl (hs_cons rfl (hs_cons rfl (hs_cons rfl (hs_cons rfl (hs_cons rfl (hs_cons rfl (hs_cons rfl (hs_cons rfl hs_nil)))))))))) (hP.pick [0, 1, 2, 3, 4] rfl rfl)
 ·
  rintro x37 γ38 fr w39 g r hP hD
  have hP : Post (fun b => b ∈ (memK a1_g a1).own) [progK Try.prog encNone x37.2.2 γ38.1 γ38.2, memK a1_g x37.2.1, cellC b1 γ38.1.cells 57, cellC b5 ((capC a2)).toArray 60, cellC b9 #[] 52] w0 w39 := hP
  refine wp_seq ?_
  refine wp_freeE [b9] [.pred (fun v _ _ _ => ∃ sp, v = .pointer (some ⟨b1, 1, sp⟩)) (fun _ _ _ _ _ h _ => h), .val (.agg #[]), .val (I x37.1), .val (.pointer (some ⟨b1, 0, none⟩)), .val (.bool x37.2.2.2.isDone), .eff (EffP w39.heap.size (cellC b9 #[] 52) (fun _ : Unit => undef) (fun _ : Unit => [])) (EffP.st _ _ _ _), .val (I x37.1), .val (.bool x37.2.2.2.isDone)] mixed r (fun b hb => hP.sep.lt (i := 4) rfl (.inl hb)) (by kernel_rfl) ?_ ?_
  ·
   refine eachE_early r rfl (by kernel_rfl) (fun fr1 g w' hb' hd r' => ?_) ?_
   · exact y_fieldAddrZ r' rfl fz57 ((hP.below (dr hb')).cell (i := 2) rfl) (fun sp => ⟨Below.refl _ _, sp, rfl⟩)
   refine eachE_early r rfl (by kernel_rfl) (fun fr1 g w' hb' hd r' => ?_) ?_
   · obtain ⟨sp, hsp⟩ := (hd 0 rfl).1; exact y_load_zero r' hsp ta52 ⟨Below.refl _ _, rfl⟩
   refine eachE_late r rfl (fun fr1 g w' hk' hd r' => ?_) ?_
   · exact y_move r' (v := (I x37.1)) rfl ⟨Below.refl _ _, rfl⟩
   refine eachE_late r rfl (fun fr1 g w' hk' hd r' => ?_) ?_
   · exact y_fieldAddr r' (b := b1) (o := 0) (k := 0) rfl fo57_0 ⟨Below.refl _ _, rfl⟩
   refine eachE_late r rfl (fun fr1 g w' hk' hd r' => ?_) ?_
   · exact y_load_one r' (v := (.bool x37.2.2.2.isDone)) (hd 3 rfl).1 (hP.cellK (j := 4) rfl (drK hk') (i := 2) rfl rfl) to4 (Rep.over_at (show Rep _ _ _ _ _ _ _ from hP.okK (j := 4) rfl (drK hk') (i := 0) rfl rfl)) ⟨Below.refl _ _, rfl⟩
   refine eachE_early r rfl (by kernel_rfl) (fun fr1 g w' hb' hd r' => ?_) ?_
   · exact y_store r' (o := 0) (v := (.agg #[])) rfl (hd 1 rfl).1 ((hP.below (dr hb')).cell (i := 4) rfl) ts52 (Nat.le_of_ble_eq_true rfl) rfl rfl (fun w2 u2 => ⟨u2.kept, (), rfl, u2.at_, (fun b hb => hP.sep.lt (i := 4) rfl hb), fresh_nil⟩)
   refine eachE_late r rfl (fun fr1 g w' hk' hd r' => ?_) ?_
   · exact y_assign r' (v := (I x37.1)) (hd 2 rfl).1 ⟨Below.refl _ _, rfl⟩
   refine eachE_late r rfl (fun fr1 g w' hk' hd r' => ?_) ?_
   · exact y_assign r' (v := (.bool x37.2.2.2.isDone)) (hd 4 rfl).1 ⟨Below.refl _ _, rfl⟩
   exact eachF_nil
  ·
   intro fr gg w40 hb hΦ hap r
   obtain ⟨⟨⟩, g5, hcE, _, hs5⟩ := (hΦ 5 rfl).1
   have r := r.congr (sc ((hΦ 7 rfl).1) (sc ((hΦ 6 rfl).1) (sc ((hΦ 4 rfl).1) (sc ((hΦ 3 rfl).1) (sc ((hΦ 2 rfl).1) (sc ((hΦ 1 rfl).1) (sc rfl rfl)))))))
   have hP : Post (fun b => b ∈ (memK a1_g a1).own) [progK Try.prog encNone x37.2.2 γ38.1 γ38.2, memK a1_g x37.2.1, cellC b1 γ38.1.cells 57, cellC b5 ((capC a2)).toArray 60, cellC b9 #[] 52] w0 w40 := hP.effL (i := 4) (l := []) rfl hb hcE rfl rfl trivial
   refine wp_ret ?_
   have hv : ((), x37.1, x37.2.2.2.isDone, x37.2.1) = res := Option.some.inj hD
   try dsimp only [Exit.then, Exit.inBlock]
   refine ret_cell_tmp2 (fn := Try.f14) r rfl rfl (v' := (I x37.1)) (v2 := (.bool x37.2.2.2.isDone)) rfl rfl (hP.cell (i := 4) rfl) (k := 0) rfl ta52 ?_
   subst hv
   exact ⟨rfl, (hP.pick [1] rfl rfl).done (rest_cons rfl rest_nil)⟩

def D.prog_Prog_int_Step (fu : Nat) (a0 : Nat × T Int) (a1 : Mem) (a2 : Cap) : Option ((Nat × T Int) × Bool × Mem) := (bif a0.2.isDone then (some (a0, false, a1)) else ((D.mem_Memory_Do fu a1 a2 (T.acc a0.2)).bind (fun (x16 : Int × Bool × Mem) => (bif (!x16.2.1) then (some (a0, false, x16.2.2)) else ((depthI a0.1).bind (fun (x26 : Nat) => (some ((x26, T.next a0.2 x16.1), true, x16.2.2))))))))

set_option maxRecDepth 20000 in
set_option maxHeartbeats 20000000 in
theorem c_prog_Prog_int_Step {fu : Nat} (w0 : World) {a0_v : Value} {a0_F : List Nat} (a0 : Nat × T Int) {a1_g : MG} (a1 : Mem) (a2 : Cap) (hS : Sep [progK Try.prog encInt a0 a0_v a0_F, memK a1_g a1] w0) {res : (Nat × T Int) × Bool × Mem} (hD : D.prog_Prog_int_Step fu a0 a1 a2 = some res) :
    Calls Try.prog 19 #[a0_v, .pointer (some ⟨a1_g.mb, 0, none⟩), .agg (capC a2).toArray] w0 (fun e w' => ∃ (v0 : Value) (F0 : List Nat), e = .returned (.tuple #[v0, (.bool res.2.1)]) ∧ Done (fun b => b ∈ (memK a1_g a1).own) (fun b => b ∈ a0_F) [memK a1_g res.2.2, progK Try.prog encInt res.1 v0 F0] w0 w') := by
 refine enter Try.func19 rfl 28 rfl rfl fun fr r => ?_
 have hP : Post (fun b => b ∈ (memK a1_g a1).own) [progK Try.prog encInt a0 a0_v a0_F, memK a1_g a1] w0 w0 := .start hS (by simp [memK, progK])
 unfold D.prog_Prog_int_Step at hD
 refine wsr ?_
 refine seq_new (.cells a0_v.cells 38 (0, 0)) r (fun R => y_box r (v := a0_v) rfl) rfl fun fr b1 w2 n3 r => ?_
 have hP : Post (fun b => b ∈ (memK a1_g a1).own) [progK Try.prog encInt a0 a0_v a0_F, memK a1_g a1, cellC b1 a0_v.cells 38] w0 w2 := hP.new n3
 refine seq_new (.cells ((capC a2)).toArray 60 (0, 0)) r (fun R => y_box r (v := (.agg (capC a2).toArray)) rfl) rfl fun fr b5 w6 n7 r => ?_
 have hP : Post (fun b => b ∈ (memK a1_g a1).own) [progK Try.prog encInt a0 a0_v a0_F, memK a1_g a1, cellC b1 a0_v.cells 38, cellC b5 ((capC a2)).toArray 60] w0 w6 := hP.new n7
 refine seq_new (.cells (progCells false encInt.zero 0 0 0 0 .nilFunc) 38 (0, 0)) r (fun R => y_alloc tz38) rfl fun fr b9 w10 n11 r => ?_
 have hP : Post (fun b => b ∈ (memK a1_g a1).own) [progK Try.prog encInt a0 a0_v a0_F, memK a1_g a1, cellC b1 a0_v.cells 38, cellC b5 ((capC a2)).toArray 60, cellC b9 (progCells false encInt.zero 0 0 0 0 .nilFunc) 38] w0 w10 := hP.new n11
 refine seq_val (.bool false) r (fun R => y_assign r rfl) rfl fun fr r => ?_
 refine wn ?_
 refine wp_seq ?_
 refine wsr ?_
 refine seq_val _ r (fun R => y_fieldAddr r (b := b1) (o := 0) (k := 0) rfl fo38_0) rfl fun fr r => ?_
 refine seq_val (.bool a0.2.isDone) r (fun R => y_load_one r rfl (hP.cell (i := 2) rfl) to4 (Rep.over_at (hP.prog (i := 0) rfl))) rfl fun fr r => ?_
 refine wn ?_
 refine wp_cond_split (t := a0.2.isDone) (r.ev rfl) (fun h13 => ?_) (fun h13 => ?_)
 ·
  have hD := (cond_t h13).symm.trans hD
  refine wsr ?_
  refine seq_val a0_v r (fun R => y_loadp r (hP.prog (i := 0) rfl).shape rfl (hP.cell (i := 2) rfl) ta38) rfl fun fr r => ?_
  refine seq_upd (.cells a0_v.cells 38 (0, 0)) r (fun R => y_storep r (hP.prog (i := 0) rfl).shape rfl rfl (hP.cell (i := 4) rfl) ts38 rfl) rfl fun fr w14 u15 r => ?_
  have hP : Post (fun b => b ∈ (memK a1_g a1).own) [progK Try.prog encInt a0 a0_v a0_F, memK a1_g a1, cellC b1 a0_v.cells 38, cellC b5 ((capC a2)).toArray 60, cellC b9 a0_v.cells 38] w0 w14 := hP.upd (i := 4) rfl u15
  refine seq_val (.bool false) r (fun R => y_assign r rfl) rfl fun fr r => ?_
  refine wn ?_
  refine wp_ret ?_
  have hv : (a0, false, a1) = res := Option.some.inj hD
  try dsimp only [Exit.then, Exit.inBlock]
  have hs := (hP.prog (i := 0) rfl).shape.cells
  refine ret_cell_tmp (fn := Try.f19) r rfl rfl (v' := (.bool false)) rfl (hP.cell (i := 4) rfl) (k := 7) hs.1 ta38 ?_
  rw [← hs.2.2]
  subst hv
  exact ⟨a0_v, a0_F, rfl, (hP.pick [1, 0] rfl rfl).done (rest_cons rfl (rest_consP (fun b h => .inl h) rest_nil))⟩
 ·
  have hD := (cond_f h13).symm.trans hD
  refine wp_skip ?_
  refine wsr ?_
  refine seq_val (.pointer (some ⟨a1_g.mb, 0, none⟩)) r (fun R => y_move r rfl) rfl fun fr r => ?_
  refine seq_val (.agg (capC a2).toArray) r (fun R => y_load_agg r (cs := (capC a2)) (n := 2) rfl (hP.cell (i := 3) rfl) ta60 rfl) rfl fun fr r => ?_
  refine seq_val _ r (fun R => y_fieldAddr r (b := b1) (o := 0) (k := 2) rfl fo38_2) rfl fun fr r => ?_
  refine seq_val (.agg (accessC (T.acc a0.2)).toArray) r (fun R => y_load_agg r (cs := (accessC (T.acc a0.2))) (n := 4) rfl (hP.cell (i := 2) rfl) ta35 (Rep.acc_at (hP.prog (i := 0) rfl) h13)) rfl fun fr r => ?_
  obtain ⟨x16, hx16, hD⟩ := bindD_elim hD
  refine seq_call r (c_mem_Memory_Do w10 a1 a2 (T.acc a0.2) (hP.sep.pk [1] rfl rfl) hx16) (fun R hc => y_call r rfl cl43 hc) rfl ?_
  rintro _ w17 ⟨rfl, hq⟩
  refine ⟨_, rfl, fun fr r => ?_⟩
  have hP : Post (fun b => b ∈ (memK a1_g a1).own) [progK Try.prog encInt a0 a0_v a0_F, memK a1_g x16.2.2, cellC b1 a0_v.cells 38, cellC b5 ((capC a2)).toArray 60, cellC b9 (progCells false encInt.zero 0 0 0 0 .nilFunc) 38] w0 w17 := hP.setN (i := 1) rfl hq
  refine seq_val (.tuple #[(U x16.1), (.bool x16.2.1)]) r (fun R => y_move r rfl) rfl fun fr r => ?_
  refine seq_val (U x16.1) r (fun R => y_extract r (vs := #[(U x16.1), (.bool x16.2.1)]) rfl rfl) rfl fun fr r => ?_
  refine seq_val (.bool x16.2.1) r (fun R => y_extract r (vs := #[(U x16.1), (.bool x16.2.1)]) rfl rfl) rfl fun fr r => ?_
  refine seq_val (U x16.1) r (fun R => y_assign r rfl) rfl fun fr r => ?_
  refine seq_val (.bool x16.2.1) r (fun R => y_assign r rfl) rfl fun fr r => ?_
  refine wn ?_
  refine wp_seq ?_
  refine wsr ?_
  refine seq_val (.bool x16.2.1) r (fun R => y_move r rfl) rfl fun fr r => ?_
  refine seq_val (.bool (!x16.2.1)) r (fun R => y_un r (u := (.bool x16.2.1)) rfl rfl) rfl fun fr r => ?_
  refine wn ?_
  refine wp_cond_split (t := (!x16.2.1)) (r.ev rfl) (fun h18 => ?_) (fun h18 => ?_)
  ·
   have hD := (cond_t h18).symm.trans hD
   refine wsr ?_
   refine seq_val a0_v r (fun R => y_loadp r (hP.prog (i := 0) rfl).shape rfl (hP.cell (i := 2) rfl) ta38) rfl fun fr r => ?_
   refine seq_upd (.cells a0_v.cells 38 (0, 0)) r (fun R => y_storep r (hP.prog (i := 0) rfl).shape rfl rfl (hP.cell (i := 4) rfl) ts38 rfl) rfl fun fr w19 u20 r => ?_
   have hP : Post (fun b => b ∈ (memK a1_g a1).own) [progK Try.prog encInt a0 a0_v a0_F, memK a1_g x16.2.2, cellC b1 a0_v.cells 38, cellC b5 ((capC a2)).toArray 60, cellC b9 a0_v.cells 38] w0 w19 := hP.upd (i := 4) rfl u20
   refine seq_val (.bool false) r (fun R => y_assign r rfl) rfl fun fr r => ?_
   refine wn ?_
   refine wp_ret ?_
   have hv : (a0, false, x16.2.2) = res := Option.some.inj hD
   try dsimp only [Exit.then, Exit.inBlock]
   have hs := (hP.prog (i := 0) rfl).shape.cells
   refine ret_cell_tmp (fn := Try.f19) r rfl rfl (v' := (.bool false)) rfl (hP.cell (i := 4) rfl) (k := 7) hs.1 ta38 ?_
   rw [← hs.2.2]
   subst hv
   exact ⟨a0_v, a0_F, rfl, (hP.pick [1, 0] rfl rfl).done (rest_cons rfl (rest_consP (fun b h => .inl h) rest_nil))⟩
  ·
   have hD := (cond_f h18).symm.trans hD
   refine wp_skip ?_
   refine wsr ?_
   refine seq_val _ r (fun R => y_fieldAddr r (b := b1) (o := 0) (k := 6) rfl fo38_3) rfl fun fr r => ?_
   obtain ⟨nf21, n122, n223, hv24, hk25⟩ := Rep.next_at (hP.prog (i := 0) rfl) h13
   refine seq_val (.func (.func nf21) n122.toArray n223.toArray) r (fun R => y_load_one r rfl (hP.cell (i := 2) rfl) to36 hv24) rfl fun fr r => ?_
   refine seq_val (U x16.1) r (fun R => y_move r rfl) rfl fun fr r => ?_
   obtain ⟨x26, hx26, hD⟩ := bindD_elim hD
   refine seq_call r (hk25.at_.2 x26 (by rw [depthI_eq hx26]; exact Nat.lt_succ_self _) x16.1 w17 (Same.refl _ _) (Nat.le_refl _)) (fun R hc => y_callv1 r rfl rfl hk25.at_.1 hc) rfl ?_
   rintro _ w27 ⟨v28, rfl, hb, hr29⟩
   refine ⟨_, rfl, fun fr r => ?_⟩
   have zw27 := hP.size
   have hP : Post (fun b => b ∈ (memK a1_g a1).own) [progK Try.prog encInt a0 a0_v a0_F, memK a1_g x16.2.2, cellC b1 a0_v.cells 38, cellC b5 ((capC a2)).toArray 60, cellC b9 (progCells false encInt.zero 0 0 0 0 .nilFunc) 38, progK Try.prog encInt (x26, T.next a0.2 x16.1) v28 (a0_F ++ rg w17.heap.size w27.heap.size)] w0 w27 := hP.addProgF (k := 0) rfl hb hr29
   refine seq_upd (.cells v28.cells 38 (0, 0)) r (fun R => y_storep r (hP.prog (i := 5) rfl).shape rfl rfl (hP.cell (i := 4) rfl) ts38 rfl) rfl fun fr w31 u32 r => ?_
   have hP : Post (fun b => b ∈ (memK a1_g a1).own) [progK Try.prog encInt a0 a0_v a0_F, memK a1_g x16.2.2, cellC b1 a0_v.cells 38, cellC b5 ((capC a2)).toArray 60, cellC b9 v28.cells 38, progK Try.prog encInt (x26, T.next a0.2 x16.1) v28 (a0_F ++ rg w17.heap.size w27.heap.size)] w0 w31 := hP.upd (i := 4) rfl u32
   refine seq_val (.bool true) r (fun R => y_assign r rfl) rfl fun fr r => ?_
   refine wn ?_
   refine wp_ret ?_
   have hv : ((x26, T.next a0.2 x16.1), true, x16.2.2) = res := Option.some.inj hD
   try dsimp only [Exit.then, Exit.inBlock]
   have hs := (hP.prog (i := 5) rfl).shape.cells
   refine ret_cell_tmp (fn := Try.f19) r rfl rfl (v' := (.bool true)) rfl (hP.cell (i := 4) rfl) (k := 7) hs.1 ta38 ?_
   rw [← hs.2.2]
   subst hv
   exact ⟨v28, (a0_F ++ rg w17.heap.size w27.heap.size), rfl, (hP.pick [1, 5] rfl rfl).done (rest_cons rfl (rest_consP (fun b h => (List.mem_append.1 h).elim .inl (fun h => .inr (by have := (mem_rg.1 h).1; omega))) rest_nil))⟩

def D.prog_Prog_int_Over (fu : Nat) (a0 : Nat × T Int) : Option (Int × Bool) := (some ((T.res 0 a0.2), a0.2.isDone))

set_option maxRecDepth 20000 in
set_option maxHeartbeats 20000000 in
theorem c_prog_Prog_int_Over {fu : Nat} (w0 : World) {a0_v : Value} {a0_F : List Nat} (a0 : Nat × T Int) (a0_h : Rep Try.prog encInt a0.1 a0.2 (fun b => b ∈ a0_F) w0 a0_v) (a0_l : ∀ b, b ∈ a0_F → b < w0.heap.size) {res : Int × Bool} (hD : D.prog_Prog_int_Over fu a0 = some res) :
    Calls Try.prog 20 #[a0_v] w0 (PureRes (.tuple #[(.int .i64 res.1), (.bool res.2)]) w0) := by
 refine enter Try.func20 rfl 8 rfl rfl fun fr r => ?_
 have hP : Post No [] w0 w0 := Post.nil w0
 have hP : Post No [progK Try.prog encInt a0 a0_v a0_F] w0 w0 := hP.addRo norw_nil a0_h rfl a0_l
 unfold D.prog_Prog_int_Over at hD
 refine wsr ?_
 refine seq_new (.cells a0_v.cells 38 (0, 0)) r (fun R => y_box r (v := a0_v) rfl) rfl fun fr b1 w2 n3 r => ?_
 have hP : Post No [progK Try.prog encInt a0 a0_v a0_F, cellC b1 a0_v.cells 38] w0 w2 := hP.new n3
 refine seq_val (I 0) r (fun R => y_assign r rfl) rfl fun fr r => ?_
 refine seq_val (.bool false) r (fun R => y_assign r rfl) rfl fun fr r => ?_
 refine wn ?_
 refine wp_seq ?_
 refine wp_freeF [.val (.pointer (some ⟨b1, 1, none⟩)), .val (I (T.res 0 a0.2)), .val (.pointer (some ⟨b1, 0, none⟩)), .val (.bool a0.2.isDone), .val (I (T.res 0 a0.2)), .val (.bool a0.2.isDone)] mixed r (by kernel_rfl) ?_ ?_
 ·
  refine fc r (fun fr1 g w' hb' hd r' => y_fieldAddr r' (b := b1) (o := 0) rfl fo38_1 bz) ?_
  refine fc r (fun fr1 g w' hb' hd r' => y_load_one r' (hd 0 rfl).1 ((hP.below (dr hb')).cell (i := 1) rfl) to3 (Rep.res_at1 (d := 0) rfl rfl ((hP.below (dr hb')).prog (i := 0) rfl)) bz) ?_
  refine fc r (fun fr1 g w' hb' hd r' => y_fieldAddr r' (b := b1) (o := 0) rfl fo38_0 bz) ?_
  refine fc r (fun fr1 g w' hb' hd r' => y_load_one r' (hd 2 rfl).1 ((hP.below (dr hb')).cell (i := 1) rfl) to4 (Rep.over_at ((hP.below (dr hb')).prog (i := 0) rfl)) bz) ?_
  refine fc r (fun fr1 g w' hb' hd r' => y_assign r' (hd 1 rfl).1 bz) ?_
  refine fc r (fun fr1 g w' hb' hd r' => y_assign r' (hd 3 rfl).1 bz) ?_
  exact eachF_nil
 ·
  intro fr gg w5 hb hΦ hap r
  have r := r.congr (sc ((hΦ 5 rfl).1) (sc ((hΦ 4 rfl).1) (sc ((hΦ 3 rfl).1) (sc ((hΦ 2 rfl).1) (sc ((hΦ 1 rfl).1) (sc ((hΦ 0 rfl).1) rfl))))))
  have hP : Post No [progK Try.prog encInt a0 a0_v a0_F, cellC b1 a0_v.cells 38] w0 w5 := hP.below hb
  refine wp_ret ?_
  have hv : ((T.res 0 a0.2), a0.2.isDone) = res := Option.some.inj hD
  try dsimp only [Exit.then, Exit.inBlock]
  refine ret_tmp2 (fn := Try.f20) r (t := 2) (t' := 3) rfl (v := (I (T.res 0 a0.2))) (v' := (.bool a0.2.isDone)) rfl rfl ?_
  subst hv
  exact ⟨rfl, hP.chg.below⟩

end Go.Proofs.Ytbbipmelhmgmfaa

/- Written by a program of ours (wip/gen.py): a memory that is laid out -/
set_option linter.unusedVariables false
set_option maxRecDepth 20000
set_option maxHeartbeats 2000000
namespace Go.Proofs.Ytbbipmelhmgmfaa
open Go.RowKit
theorem cl12 : callable Try.prog 12 = true := by kernel_rfl

theorem cl13 : callable Try.prog 13 = true := by kernel_rfl

theorem cl14 : callable Try.prog 14 = true := by kernel_rfl

theorem cl15 : callable Try.prog 15 = true := by kernel_rfl

theorem cl16 : callable Try.prog 16 = true := by kernel_rfl

def D.cubiclelaw09_Laid (fu : Nat) (a0 : Plan) : Option (Mem) := ((D.mem_New fu ([(D.plan_Plan_Size a0)])).bind (fun (x10 : Mem × Int) => (Option.bind (bif (x10.2 != 0) then (some true) else (some false)) (fun (x16 : Bool) => (bif x16 then none else ((D.mem_Memory_Cap fu x10.1 0).bind (fun (x21 : Cap) => ((D.prog_Run_None fu (fu, (D.free_Fresh (fu + 1) a0)) x10.1 x21 (IntKind.i64.wrap (a0.nodes + 1))).bind (fun (x22 : Unit × Int × Bool × Mem) => (bif (!x22.2.2.1) then none else (some x22.2.2.2)))))))))))

set_option maxRecDepth 20000 in
set_option maxHeartbeats 20000000 in
theorem c_cubiclelaw09_Laid {fu : Nat} (w0 : World) (a0 : Plan) {res : Mem} (hD : D.cubiclelaw09_Laid fu a0 = some res) :
    Calls Try.prog 7 #[.agg (planC a0).toArray] w0 (fun e w' => ∃ (g0 : MG), e = .returned (.pointer (some ⟨g0.mb, 0, none⟩)) ∧ Done No No [memK g0 res] w0 w') := by
 refine enter Try.func7 rfl 37 rfl rfl fun fr r => ?_
 have hP : Post No [] w0 w0 := Post.nil w0
 unfold D.cubiclelaw09_Laid at hD
 refine wsr ?_
 refine seq_new (.cells ((planC a0)).toArray 23 (0, 0)) r (fun R => y_box r (v := (.agg (planC a0).toArray)) rfl) rfl fun fr b1 w2 n3 r => ?_
 have hP : Post No [cellC b1 ((planC a0)).toArray 23] w0 w2 := hP.new n3
 refine seq_val (.pointer none) r (fun R => y_assign r rfl) rfl fun fr r => ?_
 refine wn ?_
 refine wsr ?_
 refine seq_val (.agg (planC a0).toArray) r (fun R => y_load_agg r (cs := (planC a0)) (n := 6) rfl (hP.cell (i := 0) rfl) ta23 rfl) rfl fun fr r => ?_
 refine seq_call r (c_plan_Plan_Size w2 a0) (fun R hc => y_call r rfl cl13 hc) rfl ?_
 rintro _ w5 ⟨rfl, hb⟩
 refine ⟨_, rfl, fun fr r => ?_⟩
 have hP : Post No [cellC b1 ((planC a0)).toArray 23] w0 w5 := hP.below hb
 refine seq_newS (.cells (([(D.plan_Plan_Size a0)]).flatMap i64).toArray 3 (0, 0)) 1 r (fun R => y_bslice r (by kernel_rfl)) rfl fun fr b6 w7 n8 r => ?_
 have hP : Post No [cellC b1 ((planC a0)).toArray 23, rowK 3 1 i64 (.slice (some ⟨b6, 0, none⟩) 1 1) ([(D.plan_Plan_Size a0)])] w0 w7 := hP.newRow n8 (fun _ => rfl) rfl
 obtain ⟨x10, hx10, hD⟩ := bindD_elim hD
 refine seq_call r (c_mem_New w7 ([(D.plan_Plan_Size a0)]) (hP.row (i := 1) rfl).ro hx10) (fun R hc => y_call r rfl cl12 hc) rfl ?_
 rintro _ w11 ⟨mg12, rfl, hq⟩
 refine ⟨_, rfl, fun fr r => ?_⟩
 have hP : Post No [cellC b1 ((planC a0)).toArray 23, rowK 3 1 i64 (.slice (some ⟨b6, 0, none⟩) 1 1) ([(D.plan_Plan_Size a0)]), memK mg12 x10.1] w0 w11 := hP.add hq
 refine seq_val (.tuple #[(.pointer (some ⟨mg12.mb, 0, none⟩)), (I x10.2)]) r (fun R => y_move r rfl) rfl fun fr r => ?_
 refine seq_val (.pointer (some ⟨mg12.mb, 0, none⟩)) r (fun R => y_extract r (vs := #[(.pointer (some ⟨mg12.mb, 0, none⟩)), (I x10.2)]) rfl rfl) rfl fun fr r => ?_
 refine seq_val (I x10.2) r (fun R => y_extract r (vs := #[(.pointer (some ⟨mg12.mb, 0, none⟩)), (I x10.2)]) rfl rfl) rfl fun fr r => ?_
 refine seq_val (.pointer (some ⟨mg12.mb, 0, none⟩)) r (fun R => y_assign r rfl) rfl fun fr r => ?_
 refine seq_val (I x10.2) r (fun R => y_assign r rfl) rfl fun fr r => ?_
 refine wn ?_
 refine wp_seq ?_
 refine wp_seq ?_
 have hP : Post No [cellC b1 ((planC a0)).toArray 23, memK mg12 x10.1] w0 w11 := hP.pick [0, 2] rfl rfl
 refine wp_joinG (N := 37) (Y := Bool) (G := Unit) (fun x γ => [(0, (.agg (planC a0).toArray)), (1, (.pointer (some ⟨b1, 0, none⟩))), (2, (.pointer none)), (3, (.pointer (some ⟨mg12.mb, 0, none⟩))), (4, (I x10.2)), (20, (.bool x))]) (fun x γ w => Post No [cellC b1 ((planC a0)).toArray 23, memK mg12 x10.1] w0 w) hD ?_ ?_
 ·
  rintro y14 RPy14 nxy14 hD
  refine wp_region_lit ?_
  refine seq_val (I x10.2) r (fun R => y_move r rfl) rfl fun fr r => ?_
  refine seq_val _ r (fun R => y_bin r rfl rfl rfl rfl) rfl fun fr r => ?_
  refine seq_val (.bool (x10.2 != 0)) r (fun R => y_move r rfl) rfl fun fr r => ?_
  refine seq_split (x10.2 != 0) (fun h15 => ?_) (fun h15 => ?_)
  ·
   have hD := (cond_t h15).symm.trans hD
   refine s0 r h15 fun fr r => ?_
   refine s0 r h15 fun fr r => ?_
   refine seq_val (.bool true) r (fun R => y_pick r (b := true) (congrArg Value.bool h15) rfl) rfl fun fr r => ?_
   refine wn ?_
   exact nxy14 true () _ _ _ hD r (hs_cons rfl (hs_cons rfl (hs_cons rfl (hs_cons rfl (hs_cons rfl (hs_cons rfl hs_nil)))))) (hP.pick [0, 1] rfl rfl)
  ·
   have hD := (cond_f h15).symm.trans hD
   refine s1 r h15 ?_
   refine seq_val (.pointer (some ⟨mg12.mb, 0, none⟩)) r (fun R => y_move r rfl) rfl fun fr r => ?_
   refine s1 r h15 ?_
   refine seq_val _ r (fun R => y_bin r rfl rfl rfl rfl) rfl fun fr r => ?_
   refine seq_val (.bool false) r (fun R => y_pick r (b := false) (congrArg Value.bool h15) rfl) rfl fun fr r => ?_
   refine wn ?_
   exact nxy14 false () _ _ _ hD r (hs_cons rfl (hs_cons rfl (hs_cons rfl (hs_cons rfl (hs_cons rfl (hs_cons rfl hs_nil)))))) (hP.pick [0, 1] rfl rfl)
 ·
  rintro x16 γ17 fr w18 g r hP hD
  have hP : Post No [cellC b1 ((planC a0)).toArray 23, memK mg12 x10.1] w0 w18 := hP
  refine wp_cond_split (t := x16) (r.ev rfl) (fun h19 => ?_) (fun h19 => ?_)
  ·
   have hD := (cond_t h19).symm.trans hD
   refine wsr ?_
   refine seq_val (.pointer none) r (fun R => y_assign r rfl) rfl fun fr r => ?_
   refine wn ?_
   refine wp_ret ?_
   exact nomatch hD
  ·
   have hD := (cond_f h19).symm.trans hD
   refine wp_skip ?_
   refine wp_seq ?_
   obtain ⟨x21, hx21, hD⟩ := bindD_elim hD
   obtain ⟨x22, hx22, hD⟩ := bindD_elim hD
   refine wp_freeE mg12.bs [.val (.agg (planC a0).toArray), .pred (PrP Try.prog encNone (fu, (D.free_Fresh (fu + 1) a0))) (PrP.st _), .val (.pointer (some ⟨mg12.mb, 0, none⟩)), .val (.pointer (some ⟨mg12.mb, 0, none⟩)), .val (.agg (capC x21).toArray), .val (.pointer (some ⟨b1, 0, none⟩)), .val (I a0.nodes), .val (I (W (a0.nodes + 1))), .eff (EffP w18.heap.size (memK mg12 x22.2.2.2) (fun _ : Unit => (.tuple #[(.agg #[]), (I x22.2.1), (.bool x22.2.2.1)])) (fun _ : Unit => [])) (EffP.st _ _ _ _), .val (.tuple #[(.agg #[]), (I x22.2.1), (.bool x22.2.2.1)]), .val (.agg #[]), .val (I x22.2.1), .val (.bool x22.2.2.1), .cell 52 0, .stored 13 #[] 52 0 rfl, .val (I x22.2.1), .val (.bool x22.2.2.1)] mixed r (fun b hb => hP.sep.lt (i := 1) rfl (.inl hb)) (by kernel_rfl) ?_ ?_
   ·
    refine eachE_late r rfl (fun fr1 g w' hk' hd r' => ?_) ?_
    · exact y_load_agg r' (cs := (planC a0)) (n := 6) rfl (hP.cellK (j := 1) rfl (drK hk') (i := 0) rfl rfl) ta23 rfl ⟨Below.refl _ _, rfl⟩
    refine eachE_early r rfl (by kernel_rfl) (fun fr1 g w' hb' hd r' => ?_) ?_
    · exact y_call r' (args := [(.agg (planC a0).toArray)]) (lc (hd 0 rfl).1 l0) cl15 ((c_free_Fresh (F := No) (n := fu) (j := fu + 1) (fun _ h => h.elim) (by omega) a0).mono (by rintro _ w2 ⟨y, rfl, hb2, hr2⟩; exact ⟨_, rfl, hb2, fresh_prog hr2⟩))
    refine eachE_early r rfl (by kernel_rfl) (fun fr1 g w' hb' hd r' => ?_) ?_
    · exact y_move r' (v := (.pointer (some ⟨mg12.mb, 0, none⟩))) rfl ⟨Below.refl _ _, rfl⟩
    refine eachE_late r rfl (fun fr1 g w' hk' hd r' => ?_) ?_
    · exact y_move r' (v := (.pointer (some ⟨mg12.mb, 0, none⟩))) rfl ⟨Below.refl _ _, rfl⟩
    refine eachE_early r rfl (by kernel_rfl) (fun fr1 g w' hb' hd r' => ?_) ?_
    · exact y_call r' (args := [(.pointer (some ⟨mg12.mb, 0, none⟩)), (I 0)]) (lc (hd 3 rfl).1 (lc rfl l0)) cl16 ((c_mem_Memory_Cap _ x10.1 ((hP.below (dr hb')).mem (i := 1) rfl) 0 hx21).mono (by rintro _ w2 ⟨rfl, hb2⟩; exact ⟨_, rfl, hb2, rfl⟩))
    refine eachE_late r rfl (fun fr1 g w' hk' hd r' => ?_) ?_
    · exact y_fieldAddr r' (b := b1) (o := 0) (k := 0) rfl fo23_0 ⟨Below.refl _ _, rfl⟩
    refine eachE_late r rfl (fun fr1 g w' hk' hd r' => ?_) ?_
    · exact y_load_one r' (v := (I a0.nodes)) (hd 5 rfl).1 (hP.cellK (j := 1) rfl (drK hk') (i := 0) rfl rfl) to3 rfl ⟨Below.refl _ _, rfl⟩
    refine eachE_early r rfl (by kernel_rfl) (fun fr1 g w' hb' hd r' => ?_) ?_
    · exact y_bin r' (u := (I a0.nodes)) (u' := (I 1)) (v := (I (W (a0.nodes + 1)))) (hd 6 rfl).1 rfl rfl rfl ⟨Below.refl _ _, rfl⟩
    refine eachE_early r rfl (by kernel_rfl) (fun fr1 g w' hb' hd r' => ?_) ?_
    · exact y_call r' (args := [(g 1).v, (.pointer (some ⟨mg12.mb, 0, none⟩)), (.agg (capC x21).toArray), (I (W (a0.nodes + 1)))]) (lc rfl (lc (hd 2 rfl).1 (lc (hd 4 rfl).1 (lc (hd 7 rfl).1 l0)))) cl14 ((c_prog_Run_None _ (fu, (D.free_Fresh (fu + 1) a0)) x10.1 x21 (W (a0.nodes + 1)) (Sep.beside (hd 1 rfl).1 ((hP.below (dr hb')).sep.pk [1] rfl rfl) (by intro c hc b hb; simp only [List.mem_cons, List.not_mem_nil, or_false] at hc; rcases hc with rfl; exact hP.sep.lt (i := 1) rfl hb) (hd 1 rfl).2.1) hx22).mono (by rintro _ w2 ⟨rfl, hq⟩; exact ⟨_, rfl, hq.chg.kept, EffP.of () hq rfl (fun b hb => hP.sep.lt (i := 1) rfl hb)⟩))
    refine eachE_late r rfl (fun fr1 g w' hk' hd r' => ?_) ?_
    · exact y_move r' (v := (.tuple #[(.agg #[]), (I x22.2.1), (.bool x22.2.2.1)])) (EffP.val (hd 8 rfl).1) ⟨Below.refl _ _, rfl⟩
    refine eachE_late r rfl (fun fr1 g w' hk' hd r' => ?_) ?_
    · exact y_extract r' (vs := #[(.agg #[]), (I x22.2.1), (.bool x22.2.2.1)]) (hd 9 rfl).1 rfl ⟨Below.refl _ _, rfl⟩
    refine eachE_late r rfl (fun fr1 g w' hk' hd r' => ?_) ?_
    · exact y_extract r' (vs := #[(.agg #[]), (I x22.2.1), (.bool x22.2.2.1)]) (hd 9 rfl).1 rfl ⟨Below.refl _ _, rfl⟩
    refine eachE_late r rfl (fun fr1 g w' hk' hd r' => ?_) ?_
    · exact y_extract r' (vs := #[(.agg #[]), (I x22.2.1), (.bool x22.2.2.1)]) (hd 9 rfl).1 rfl ⟨Below.refl _ _, rfl⟩
    refine eachE_late r rfl (fun fr1 g w' hk' hd r' => ?_) ?_
    · exact y_alloc tz52 (fun b w2 n2 => ⟨n2.below, b, rfl, n2.eq, _, n2.at_, rfl⟩)
    refine eachE_late r rfl (fun fr1 g w' hk' hd r' => ?_) ?_
    · obtain ⟨hp, _, c, hc, hn⟩ := (hd 13 rfl).1; exact y_store r' (o := 0) (c := c) (v := (.agg #[])) hp (hd 10 rfl).1 hc ts52 (by rw [hn]; exact Nat.le_of_ble_eq_true rfl) rfl (over2_full (hn.trans rfl)) (fun w2 u2 => ⟨u2, rfl⟩)
    refine eachE_late r rfl (fun fr1 g w' hk' hd r' => ?_) ?_
    · exact y_assign r' (v := (I x22.2.1)) (hd 11 rfl).1 ⟨Below.refl _ _, rfl⟩
    refine eachE_late r rfl (fun fr1 g w' hk' hd r' => ?_) ?_
    · exact y_assign r' (v := (.bool x22.2.2.1)) (hd 12 rfl).1 ⟨Below.refl _ _, rfl⟩
    exact eachF_nil
   ·
    intro fr gg w24 hb hΦ hap r
    obtain ⟨v20, hv1⟩ : ∃ v, v = (gg 1).v := ⟨_, rfl⟩
    have g1 : (gg 1).v = v20 := hv1.symm
    obtain ⟨F25, eF25⟩ : ∃ F, F = rg (gg 1).lo (gg 1).hi := ⟨_, rfl⟩
    have hs1 : Fresh [progK Try.prog encNone (fu, (D.free_Fresh (fu + 1) a0)) v20 F25] (gg 1).lo (gg 1).hi w24 := by subst hv1; subst eF25; exact (hΦ 1 rfl).1
    obtain ⟨⟨⟩, g8, hcE, _, hs8⟩ := (hΦ 8 rfl).1
    obtain ⟨b23, ee_b23⟩ : ∃ b, b = (gg 13).lo := ⟨_, rfl⟩
    have g13 : (gg 13).v = (.pointer (some ⟨b23, 0, none⟩)) := by rw [ee_b23]; exact (hΦ 13 rfl).1.1
    have h_b23 : w24.heap[b23]? = some (.cells #[] 52 (0, 0)) := by rw [ee_b23]; exact (hΦ 14 rfl).1.2
    have hs13 : Fresh [cellC b23 #[] 52] (gg 13).lo (gg 13).hi w24 := by subst ee_b23; exact Fresh.cell (hΦ 13 rfl).1.2.1 h_b23
    have r := r.congr (sc ((hΦ 16 rfl).1) (sc ((hΦ 15 rfl).1) (sc g13 (sc ((hΦ 12 rfl).1) (sc ((hΦ 11 rfl).1) (sc ((hΦ 10 rfl).1) (sc ((hΦ 9 rfl).1) (sc g8 (sc ((hΦ 7 rfl).1) (sc ((hΦ 6 rfl).1) (sc ((hΦ 5 rfl).1) (sc ((hΦ 4 rfl).1) (sc ((hΦ 3 rfl).1) (sc ((hΦ 2 rfl).1) (sc g1 (sc ((hΦ 0 rfl).1) rfl))))))))))))))))
    have hP : Post No [cellC b1 ((planC a0)).toArray 23, memK mg12 x22.2.2.2, progK Try.prog encNone (fu, (D.free_Fresh (fu + 1) a0)) v20 F25, cellC b23 #[] 52] w0 w24 := hP.effL (i := 1) (l := [([progK Try.prog encNone (fu, (D.free_Fresh (fu + 1) a0)) v20 F25], (gg 1).lo, (gg 1).hi), ([cellC b23 #[] 52], (gg 13).lo, (gg 13).hi)]) rfl hb hcE rfl rfl ⟨hs1, (hΦ 1 rfl).2.1, (disj_cons (hap 1 13 rfl) disj_nil), ⟨hs13, (hΦ 13 rfl).2.1, disj_nil, trivial⟩⟩
    refine wp_seq ?_
    refine wsr ?_
    refine seq_val (.bool x22.2.2.1) r (fun R => y_move r rfl) rfl fun fr r => ?_
    refine seq_val (.bool (!x22.2.2.1)) r (fun R => y_un r (u := (.bool x22.2.2.1)) rfl rfl) rfl fun fr r => ?_
    refine wn ?_
    refine wp_cond_split (t := (!x22.2.2.1)) (r.ev rfl) (fun h26 => ?_) (fun h26 => ?_)
    ·
     have hD := (cond_t h26).symm.trans hD
     refine wsr ?_
     refine seq_val (.pointer none) r (fun R => y_assign r rfl) rfl fun fr r => ?_
     refine wn ?_
     refine wp_ret ?_
     exact nomatch hD
    ·
     have hD := (cond_f h26).symm.trans hD
     refine wp_skip ?_
     refine wsr ?_
     refine seq_val (.pointer (some ⟨mg12.mb, 0, none⟩)) r (fun R => y_move r rfl) rfl fun fr r => ?_
     refine seq_val (.pointer (some ⟨mg12.mb, 0, none⟩)) r (fun R => y_assign r rfl) rfl fun fr r => ?_
     refine wn ?_
     refine wp_ret ?_
     have hv : x22.2.2.2 = res := Option.some.inj hD
     try dsimp only [Exit.then, Exit.inBlock]
     refine ret_tmp (fn := Try.f7) r (t := 2) rfl (v := (.pointer (some ⟨mg12.mb, 0, none⟩))) rfl ?_
     subst hv
     exact ⟨mg12, rfl, (hP.pick [1] rfl rfl).done (rest_cons rfl rest_nil)⟩

end Go.Proofs.Ytbbipmelhmgmfaa

/- The numbers of formed plans. -/
namespace Go.Proofs.Ytbbipmelhmgmfaa
open Go.RowKit
theorem wrap_id {x : Int} (h0 : -9223372036854775808 ≤ x) (h1 : x ≤ 9223372036854775807) : IntKind.i64.wrap x = x := by
  simp only [IntKind.wrap]
  simp [IntKind.signed, IntKind.bits]
  omega

structure PF (p : Plan) : Prop where
  n1 : 1 ≤ p.nodes
  n2 : p.nodes ≤ 1048576
  t1 : 1 ≤ p.threads
  t2 : p.threads ≤ 16
  d1 : 0 ≤ p.domains
  d2 : p.domains ≤ 64
  b1 : 1 ≤ p.buckets
  b2 : p.buckets ≤ 256
  g1 : 1 ≤ p.gen
  g2 : p.gen ≤ 1073741823
  r1 : 3 * p.threads + 1 ≤ p.retire
  r2 : p.retire ≤ 1024

theorem all_nil {α : Type} {P : α → Prop} : (∀ b, b ∈ ([] : List α) → P b) ↔ True := ⟨fun _ => trivial, fun _ _ hb => nomatch hb⟩

theorem all_cons {α : Type} {P : α → Prop} {x : α} {l : List α} : (∀ b, b ∈ x :: l → P b) ↔ P x ∧ ∀ b, b ∈ l → P b := List.forall_mem_cons

theorem within_iff {l : List Bound} : D.plan_within l = true ↔ ∀ b, b ∈ l → b.least ≤ b.n ∧ b.n ≤ b.most := by
  unfold D.plan_within
  rw [List.all_eq_true]
  constructor
  · intro h b hb
    have := h b hb
    simp only [Bool.and_eq_true, Bool.not_eq_true', decide_eq_false_iff_not] at this
    omega
  · intro h b hb
    have := h b hb
    simp only [Bool.and_eq_true, Bool.not_eq_true', decide_eq_false_iff_not]
    omega

theorem plan_formed {p : Plan} : D.plan_Plan_Formed p = true ↔ PF p := by
  unfold D.plan_Plan_Formed
  constructor
  · intro h
    cases h1 : D.plan_within [(⟨p.nodes, 1, 1048576⟩ : Bound), ⟨p.threads, 1, 16⟩, ⟨p.domains, 0, 64⟩, ⟨p.buckets, 1, 256⟩, ⟨p.gen, 1, 1073741823⟩]
    · rw [h1] at h; cases h
    · rw [h1] at h
      simp only [cond_true] at h
      have h1 := within_iff.1 h1
      have h := within_iff.1 h
      simp only [all_cons, all_nil, and_true] at h1 h
      have hw : IntKind.i64.wrap (IntKind.i64.wrap (3 * p.threads) + 1) = 3 * p.threads + 1 := by
        rw [wrap_id (x := 3 * p.threads) (by omega) (by omega), wrap_id (by omega) (by omega)]
      rw [hw] at h
      constructor <;> omega
  · intro h
    obtain ⟨n1, n2, t1, t2, d1, d2, b1, b2, g1, g2, r1, r2⟩ := h
    have h1 : D.plan_within [(⟨p.nodes, 1, 1048576⟩ : Bound), ⟨p.threads, 1, 16⟩, ⟨p.domains, 0, 64⟩, ⟨p.buckets, 1, 256⟩, ⟨p.gen, 1, 1073741823⟩] = true := by
      rw [within_iff]
      simp only [all_cons, all_nil, and_true]
      omega
    rw [h1]
    simp only [cond_true]
    have hw : IntKind.i64.wrap (IntKind.i64.wrap (3 * p.threads) + 1) = 3 * p.threads + 1 := by
      rw [wrap_id (x := 3 * p.threads) (by omega) (by omega), wrap_id (by omega) (by omega)]
    rw [hw, within_iff]
    simp only [all_cons, all_nil, and_true]
    omega

theorem ref_formed {p : Plan} (h : D.cubicleref06_Formed p = true) : PF p := by
  unfold D.cubicleref06_Formed at h
  simp only [cond_eq_ite, decide_eq_true_eq, Bool.if_false_left, Bool.if_false_right, Bool.and_eq_true, Bool.not_eq_true', decide_eq_false_iff_not] at h
  obtain ⟨h1, h2, h3, h4, h5, h6, h7, h8, h9, h10, h11, h12⟩ := h
  rw [wrap_id (by omega) (by omega)] at h11
  constructor <;> omega

theorem ref_formed_iff {p : Plan} : D.cubicleref06_Formed p = true ↔ PF p := by
  refine ⟨ref_formed, fun h => ?_⟩
  obtain ⟨n1, n2, t1, t2, d1, d2, b1, b2, g1, g2, r1, r2⟩ := h
  unfold D.cubicleref06_Formed
  simp only [cond_eq_ite, decide_eq_true_eq, Bool.if_false_left, Bool.if_false_right, Bool.and_eq_true, Bool.not_eq_true', decide_eq_false_iff_not]
  rw [wrap_id (by omega) (by omega)]
  omega

theorem ref_few {p : Plan} (hp : PF p) (h : D.cubicleref06_Few p = true) : p.nodes ≤ 40 ∧ p.retire ≤ 40 ∧ p.domains ≤ 6 ∧ p.buckets ≤ 10 := by
  unfold D.cubicleref06_Few at h
  rw [ref_formed_iff.2 hp, Bool.not_true, cond_false] at h
  simpa only [cond_eq_ite, decide_eq_true_eq, Bool.if_false_left, Bool.if_false_right, Bool.and_eq_true] using h

section
variable {p : Plan} (hp : PF p)
include hp
theorem cells_le : 2 ≤ D.plan_Plan_cells p ∧ D.plan_Plan_cells p ≤ 256 := by
  obtain ⟨n1, n2, t1, t2, d1, d2, b1, b2, g1, g2, r1, r2⟩ := hp
  unfold D.plan_Plan_cells maxI
  split <;> omega

theorem hz_le : 0 ≤ p.domains * (1 + D.plan_Plan_cells p) ∧ p.domains * (1 + D.plan_Plan_cells p) ≤ 64 * 257 := by
  have h := cells_le hp
  obtain ⟨n1, n2, t1, t2, d1, d2, b1, b2, g1, g2, r1, r2⟩ := hp
  exact ⟨Int.mul_nonneg d1 (by omega), Int.mul_le_mul d2 (by omega) (by omega) (by omega)⟩

theorem rt_le : 0 ≤ p.threads * (1 + p.retire) ∧ p.threads * (1 + p.retire) ≤ 16 * 1025 := by
  obtain ⟨n1, n2, t1, t2, d1, d2, b1, b2, g1, g2, r1, r2⟩ := hp
  exact ⟨Int.mul_nonneg (by omega) (by omega), Int.mul_le_mul t2 (by omega) (by omega) (by omega)⟩

theorem hazards_eq : D.plan_Plan_hazards p = 1 + p.domains * (1 + D.plan_Plan_cells p) := by
  have h := hz_le hp
  have hc := cells_le hp
  unfold D.plan_Plan_hazards
  rw [wrap_id (x := 1 + D.plan_Plan_cells p) (by omega) (by omega), wrap_id (x := p.domains * _) (by omega) (by omega), wrap_id (by omega) (by omega)]

theorem counts_eq : D.plan_Plan_counts p = 1 + p.domains * (1 + D.plan_Plan_cells p) + p.threads * 3 := by
  have h := hz_le hp
  have t1 := hp.t1
  have t2 := hp.t2
  unfold D.plan_Plan_counts
  rw [hazards_eq hp, wrap_id (x := p.threads * 3) (by omega) (by omega), wrap_id (by omega) (by omega)]

theorem nodes_eq : D.plan_Plan_nodes p = 1 + p.domains * (1 + D.plan_Plan_cells p) + p.threads * 3 + p.threads * (1 + p.retire) := by
  have h := hz_le hp
  have h2 := rt_le hp
  have t1 := hp.t1
  have t2 := hp.t2
  have r1 := hp.r1
  have r2 := hp.r2
  unfold D.plan_Plan_nodes
  rw [counts_eq hp, wrap_id (x := 1 + p.retire) (by omega) (by omega), wrap_id (x := p.threads * (1 + p.retire)) (by omega) (by omega), wrap_id (by omega) (by omega)]

theorem nodes_le : 1 ≤ D.plan_Plan_nodes p ∧ D.plan_Plan_nodes p ≤ 40000 := by
  have h := hz_le hp
  have h2 := rt_le hp
  have t1 := hp.t1
  have t2 := hp.t2
  rw [nodes_eq hp]
  omega

theorem place_in {x : Int} {l : List Bound} (h : ∀ b, b ∈ l → b.least ≤ b.n ∧ b.n ≤ b.most) : D.plan_Plan_place p x l = x := by
  unfold D.plan_Plan_place
  rw [plan_formed.2 hp, within_iff.2 h]
  rfl

theorem place_out {x : Int} {l : List Bound} (h : ¬ ∀ b, b ∈ l → b.least ≤ b.n ∧ b.n ≤ b.most) : D.plan_Plan_place p x l = -1 := by
  unfold D.plan_Plan_place
  have hw : D.plan_within l = false := by
    cases hw : D.plan_within l
    · rfl
    · exact absurd (within_iff.1 hw) h
  rw [plan_formed.2 hp, hw]
  rfl

theorem Size_eq : D.plan_Plan_Size p = D.plan_Plan_nodes p + p.nodes * 5 := by
  have h := nodes_le hp
  have n1 := hp.n1
  have n2 := hp.n2
  unfold D.plan_Plan_Size
  rw [plan_formed.2 hp]
  simp only [Bool.not_true, cond_false]
  rw [wrap_id (x := p.nodes * 5) (by omega) (by omega), wrap_id (by omega) (by omega)]

theorem Head_eq : D.plan_Plan_Head p = 0 := by
  unfold D.plan_Plan_Head
  exact place_in hp (by simp)

theorem place_if {x y : Int} {l : List Bound} {c : Prop} [Decidable c] (h : (∀ b, b ∈ l → b.least ≤ b.n ∧ b.n ≤ b.most) ↔ c) (hx : c → x = y) : D.plan_Plan_place p x l = if c then y else -1 := by
  by_cases hc : c
  · rw [if_pos hc, place_in hp (h.2 hc), hx hc]
  · rw [if_neg hc, place_out hp (fun q => hc (h.1 q))]

theorem Next_eq (n : Int) : D.plan_Plan_Next p n = if 0 ≤ n ∧ n < p.nodes then D.plan_Plan_nodes p + n * 5 + 1 else -1 := by
  have h := nodes_le hp
  have n1 := hp.n1
  have n2 := hp.n2
  unfold D.plan_Plan_Next D.plan_Plan_node
  refine place_if hp ?_ ?_
  · simp only [all_cons, all_nil, and_true]
    rw [wrap_id (by omega) (by omega)]
    omega
  · intro hc
    rw [wrap_id (x := n * 5) (by omega) (by omega), wrap_id (x := D.plan_Plan_nodes p + n * 5) (by omega) (by omega), wrap_id (by omega) (by omega)]

end
end Go.Proofs.Ytbbipmelhmgmfaa

/- Loops that are computed, by what holds at each round; small numbers. -/
namespace Go.Proofs.Ytbbipmelhmgmfaa
open Go.RowKit
theorem loop_inv {X Z : Type} {body : X → Option (Lp X Z)} {f : X → Option Z} {x0 : X} (Q : Option Z → Prop) (I : Nat → X → Prop) (n k : Nat) (h0 : I 0 x0) (hk : n < k)
    (hs : ∀ i x, i < n → I i x → ∃ x', body x = some (.next x') ∧ I (i + 1) x') (he : ∀ x, I n x → ∃ x', body x = some (.brk x') ∧ Q (f x')) : Q (loopThen body k x0 f) := by
  have h : ∀ d i x, i + d = n → I i x → ∀ k, d < k → Q ((runLoop body k x).bind (afterLoop f)) := by
    intro d
    induction d with
    | zero =>
      intro i x hi hI k hk
      obtain ⟨k, rfl⟩ : ∃ q, k = q + 1 := ⟨k - 1, by omega⟩
      obtain rfl : i = n := by omega
      obtain ⟨x', hb, hf⟩ := he x hI
      simp only [runLoop, hb, Option.bind_some, goOn, afterLoop]
      exact hf
    | succ d ih =>
      intro i x hi hI k hk
      obtain ⟨k, rfl⟩ : ∃ q, k = q + 1 := ⟨k - 1, by omega⟩
      obtain ⟨x', hb, hI'⟩ := hs i x (by omega) hI
      simp only [runLoop, hb, Option.bind_some, goOn]
      exact ih (i + 1) x' (by omega) hI' k (by omega)
  exact h n 0 x0 (by omega) h0 k hk

theorem getI_nat {α : Type} {l : List α} {i : Nat} (h : i < l.length) : getI l i = some l[i] := by
  unfold getI
  rw [if_pos (by omega), Int.toNat_natCast, List.getElem?_eq_getElem h]

theorem loop_invR {X Z : Type} {body : X → Option (Lp X Z)} {f : X → Option Z} {x0 : X} (Q : Option Z → Prop) (I : Nat → X → Prop) (n k : Nat) (h0 : I 0 x0) (hk : n < k)
    (hs : ∀ i x, i < n → I i x → (∃ x', body x = some (.next x') ∧ I (i + 1) x') ∨ ∃ z, body x = some (.ret z) ∧ Q (some z)) (he : ∀ x, I n x → ∃ x', body x = some (.brk x') ∧ Q (f x')) : Q (loopThen body k x0 f) := by
  have h : ∀ d i x, i + d = n → I i x → ∀ k, d < k → Q ((runLoop body k x).bind (afterLoop f)) := by
    intro d
    induction d with
    | zero =>
      intro i x hi hI k hk
      obtain ⟨k, rfl⟩ : ∃ q, k = q + 1 := ⟨k - 1, by omega⟩
      obtain rfl : i = n := by omega
      obtain ⟨x', hb, hf⟩ := he x hI
      simp only [runLoop, hb, Option.bind_some, goOn, afterLoop]
      exact hf
    | succ d ih =>
      intro i x hi hI k hk
      obtain ⟨k, rfl⟩ : ∃ q, k = q + 1 := ⟨k - 1, by omega⟩
      rcases hs i x (by omega) hI with ⟨x', hb, hI'⟩ | ⟨z, hb, hq⟩
      · simp only [runLoop, hb, Option.bind_some, goOn]
        exact ih (i + 1) x' (by omega) hI' k (by omega)
      · simp only [runLoop, hb, Option.bind_some, goOn, afterLoop]
        exact hq
  exact h n 0 x0 (by omega) h0 k hk

theorem wrap_small {x : Int} (h0 : -1000000 ≤ x) (h1 : x ≤ 1000000) : IntKind.i64.wrap x = x := wrap_id (by omega) (by omega)

end Go.Proofs.Ytbbipmelhmgmfaa

/- Programs' trees run on words: what a run of a program comes to, without the code. -/
namespace Go.Proofs.Ytbbipmelhmgmfaa
open Go.RowKit

/-- The words behind an access that is done. -/
def acted (op at_ a b x : Int) (ws : List Int) : List Int :=
  if op = 1 then ws.set at_.toNat a else if op = 2 then (if x = a then ws.set at_.toNat b else ws) else if op = 3 then ws.set at_.toNat (IntKind.u64.wrap (x + a)) else ws

/-- A tree comes to its end, in so many steps. -/
inductive Runs {R : Type} : T R → List Int → Nat → R → List Int → Prop
  | done (r : R) (ws : List Int) : Runs (.done r) ws 0 r ws
  | act {op at_ a b x : Int} {k : Int → T R} {ws ws' : List Int} {n : Nat} {r : R} (h1 : 0 ≤ op ∧ op ≤ 3) (h2 : getI ws at_ = some x) (h : Runs (k x) (acted op at_ a b x ws) n r ws') : Runs (.act op at_ a b k) ws (n + 1) r ws'

theorem Runs.bind {A B : Type} {t : T A} {g : A → T B} {ws ws' ws'' : List Int} {n m : Nat} {a : A} {b : B} (h : Runs t ws n a ws') (h2 : Runs (g a) ws' m b ws'') : Runs (t.bind g) ws (n + m) b ws'' := by
  induction h with
  | done r ws => simpa [T.bind] using h2
  | @act op at_ a b x k ws ws' n r h1 h3 _ ih =>
    have := Runs.act (k := fun x => (k x).bind g) h1 h3 (ih h2)
    rw [show n + 1 + m = n + m + 1 from by omega]
    exact this

/-- The good capability. -/
def cap0 : Cap := ⟨0, 1⟩

theorem Cap_eq (fu : Nat) (M : Mem) : D.mem_Memory_Cap fu M 0 = some cap0 := rfl

theorem Do_ok {fu : Nat} {M : Mem} {op at_ a b x : Int} (h1 : 0 ≤ op ∧ op ≤ 3) (h2 : getI M.ws at_ = some x) : ∃ c, D.mem_Memory_Do fu M cap0 ⟨op, at_, a, b⟩ = some (x, true, ⟨acted op at_ a b x M.ws, c⟩) := by
  obtain ⟨h3, h4, _, _⟩ := getI_lt h2
  refine ⟨IntKind.i64.wrap (M.cnt + 1), ?_⟩
  unfold D.mem_Memory_Do
  have hG : D.mem_Memory_Good fu M cap0 = some true := rfl
  have hS : D.mem_Memory_Size fu M cap0.region = some (M.ws.length : Int) := rfl
  simp only [hG, hS, Option.bind_some, Bool.not_true, cond_false]
  rw [show decide (at_ < 0) = false from by simp; omega, show decide (at_ ≥ (M.ws.length : Int)) = false from by simp; omega, show decide (op < 0) = false from by simp; omega, show decide (op > 3) = false from by simp; omega]
  simp only [cond_false, Option.bind_some]
  rw [show zeroI cap0.region = some () from rfl, h2]
  simp only [Option.bind_some]
  by_cases e1 : op = 1
  · subst e1
    simp [acted, Mem.put]
  rw [show (op == 1) = false from by simpa using e1]
  by_cases e2 : op = 2
  · subst e2
    by_cases e3 : x = a
    · subst e3; simp [acted, Mem.put]
    · rw [show (x == a) = false from by simpa using e3]
      simp [acted, e3]
  rw [show (op == 2) = false from by simpa using e2]
  by_cases e3 : op = 3
  · subst e3; simp [acted, Mem.put]
  rw [show (op == 3) = false from by simpa using e3]
  simp [acted, e1, e2, e3]

section
variable {R : Type}
/-- A step, for whatever comes out. -/
def stepG (fu : Nat) (a0 : Nat × T R) (a1 : Mem) (a2 : Cap) : Option ((Nat × T R) × Bool × Mem) := (bif a0.2.isDone then (some (a0, false, a1)) else ((D.mem_Memory_Do fu a1 a2 (T.acc a0.2)).bind (fun (x16 : Int × Bool × Mem) => (bif (!x16.2.1) then (some (a0, false, x16.2.2)) else ((depthI a0.1).bind (fun (x26 : Nat) => (some ((x26, T.next a0.2 x16.1), true, x16.2.2))))))))

def runG (z : R) (fu : Nat) (a0 : Nat × T R) (a1 : Mem) (a2 : Cap) (a3 : Int) : Option (R × Int × Bool × Mem) := (loopThen (fun (x13 : Int × Mem × (Nat × T R)) => (Option.bind (bif (decide (x13.1 < a3)) then (some (!x13.2.2.2.isDone)) else (some false)) (fun (x19 : Bool) => (bif x19 then ((stepG fu x13.2.2 x13.2.1 a2).bind (fun (x23 : (Nat × T R) × Bool × Mem) => (bif (!x23.2.1) then (some (Lp.brk (x13.1, x23.2.2, x13.2.2))) else (some (Lp.next ((IntKind.i64.wrap (x13.1 + 1)), x23.2.2, x23.1)))))) else (some (Lp.brk (x13.1, x13.2.1, x13.2.2))))))) fu (0, a1, a0) (fun (x37 : Int × Mem × (Nat × T R)) => (some (T.res z x37.2.2.2, x37.1, x37.2.2.2.isDone, x37.2.1))))

theorem stepG_ok {fu d : Nat} {M : Mem} {op at_ a b x : Int} {k : Int → T R} (h1 : 0 ≤ op ∧ op ≤ 3) (h2 : getI M.ws at_ = some x) : ∃ c, stepG fu (d + 1, .act op at_ a b k) M cap0 = some ((d, k x), true, ⟨acted op at_ a b x M.ws, c⟩) := by
  obtain ⟨c, hc⟩ := Do_ok (fu := fu) (a := a) (b := b) h1 h2
  refine ⟨c, ?_⟩
  unfold stepG
  show ((D.mem_Memory_Do fu M cap0 ⟨op, at_, a, b⟩).bind _) = _
  rw [hc]
  rfl

theorem runG_loop {z r : R} {fu : Nat} {most : Int} {ws' : List Int} {t : T R} {ws : List Int} {n : Nat} (h : Runs t ws n r ws') : ∀ (i : Int) (c : Int) (d q : Nat), 0 ≤ i → i + n ≤ most → most ≤ 1000000 → n ≤ d → n < q →
    ∃ c', loopThen (fun (x13 : Int × Mem × (Nat × T R)) => (Option.bind (bif (decide (x13.1 < most)) then (some (!x13.2.2.2.isDone)) else (some false)) (fun (x19 : Bool) => (bif x19 then ((stepG fu x13.2.2 x13.2.1 cap0).bind (fun (x23 : (Nat × T R) × Bool × Mem) => (bif (!x23.2.1) then (some (Lp.brk (x13.1, x23.2.2, x13.2.2))) else (some (Lp.next ((IntKind.i64.wrap (x13.1 + 1)), x23.2.2, x23.1)))))) else (some (Lp.brk (x13.1, x13.2.1, x13.2.2))))))) q (i, ⟨ws, c⟩, (d, t))
      (fun (x37 : Int × Mem × (Nat × T R)) => (some (T.res z x37.2.2.2, x37.1, x37.2.2.2.isDone, x37.2.1))) = some (r, i + n, true, ⟨ws', c'⟩) := by
  induction h with
  | done r ws =>
    intro i c d q _ _ _ _ hq
    obtain ⟨q, rfl⟩ : ∃ p, q = p + 1 := ⟨q - 1, by omega⟩
    refine ⟨c, ?_⟩
    have hb : ∀ b : Bool, ((bif b then some (!(T.done r).isDone) else some false) : Option Bool) = some false := fun b => by cases b <;> rfl
    simp only [loopThen, runLoop, hb, Option.bind_some, cond_false, goOn, afterLoop]
    simp [T.res, T.isDone]
  | @act op at_ a b x k ws ws' n r h1 h2 h ih =>
    intro i c d q hi hm hm2 hd hq
    obtain ⟨q, rfl⟩ : ∃ p, q = p + 1 := ⟨q - 1, by omega⟩
    obtain ⟨d, rfl⟩ : ∃ p, d = p + 1 := ⟨d - 1, by omega⟩
    obtain ⟨c1, hc1⟩ := stepG_ok (fu := fu) (d := d) (M := ⟨ws, c⟩) (a := a) (b := b) (k := k) h1 h2
    obtain ⟨c2, hc2⟩ := ih (i + 1) c1 d q (by omega) (by omega) hm2 (by omega) (by omega)
    refine ⟨c2, ?_⟩
    rw [show (i + ((n + 1 : Nat) : Int)) = i + 1 + n from by omega, ← hc2]
    simp only [loopThen, runLoop]
    rw [show decide (i < most) = true from by simp; omega]
    rw [show (!(T.act op at_ a b k).isDone) = true from rfl]
    simp only [cond_true, Option.bind_some, hc1, Bool.not_true, cond_false, goOn, wrap_small (show -1000000 ≤ i + 1 by omega) (by omega)]

theorem runG_eq {z r : R} {fu d : Nat} {most : Int} {t : T R} {M : Mem} {ws' : List Int} {n : Nat} (h : Runs t M.ws n r ws') (hm : (n : Int) ≤ most) (hm2 : most ≤ 1000000) (hd : n ≤ d) (hf : n < fu) : ∃ c', runG z fu (d, t) M cap0 most = some (r, (n : Int), true, ⟨ws', c'⟩) := by
  obtain ⟨c', hc⟩ := runG_loop (z := z) (fu := fu) (most := most) h 0 M.cnt d fu (by omega) (by omega) hm2 hd hf
  refine ⟨c', ?_⟩
  rw [Int.zero_add] at hc
  exact hc

end
theorem run_None {fu : Nat} {a0 : Nat × T Unit} {M : Mem} {c : Cap} {m : Int} : D.prog_Run_None fu a0 M c m = runG () fu a0 M c m := rfl

/-! ### Words by their places -/
/-- The word at a place. -/
def rd (ws : List Int) (i : Int) : Int := ws.getD i.toNat 0

theorem getI_rd {ws : List Int} {i : Int} (h0 : 0 ≤ i) (h1 : i < ws.length) : getI ws i = some (rd ws i) := by
  unfold getI rd
  rw [if_pos h0, List.getD_eq_getElem?_getD, List.getElem?_eq_getElem (by omega)]
  rfl

theorem rd_set {ws : List Int} {i j v : Int} (h0 : 0 ≤ i) (h1 : i < ws.length) (hj : 0 ≤ j) : rd (ws.set i.toNat v) j = if j = i then v else rd ws j := by
  unfold rd
  simp only [List.getD_eq_getElem?_getD, List.getElem?_set]
  by_cases h : j = i
  · subst h
    simp [show j.toNat < ws.length from by omega]
  · rw [if_neg (by omega), if_neg h]

theorem Runs.load {R : Type} {at_ : Int} {k : Int → T R} {ws ws' : List Int} {n : Nat} {r : R} (h0 : 0 ≤ at_) (h1 : at_ < ws.length) (h : Runs (k (rd ws at_)) ws n r ws') : Runs (.act 0 at_ 0 0 k) ws (n + 1) r ws' :=
  .act (by omega) (getI_rd h0 h1) (by simpa [acted] using h)

theorem Runs.store {R : Type} {at_ w : Int} {k : Int → T R} {ws ws' : List Int} {n : Nat} {r : R} (h0 : 0 ≤ at_) (h1 : at_ < ws.length) (h : Runs (k (rd ws at_)) (ws.set at_.toNat w) n r ws') : Runs (.act 1 at_ w 0 k) ws (n + 1) r ws' :=
  .act (by omega) (getI_rd h0 h1) (by simpa [acted] using h)

theorem wrapu_id {x : Int} (h0 : 0 ≤ x) (h1 : x < 18446744073709551616) : IntKind.u64.wrap x = x := by
  simp only [IntKind.wrap]
  simp [IntKind.signed, IntKind.bits]
  omega

theorem set_runs {at_ w : Int} {ws : List Int} (h0 : 0 ≤ at_) (h1 : at_ < ws.length) : Runs (D.prog_Set at_ w) ws 1 () (ws.set at_.toNat w) := .store h0 h1 (.done _ _)

/-! ### A memory that is laid out -/
theorem Size_le {p : Plan} (hp : PF p) (hfw : p.nodes ≤ 40 ∧ p.retire ≤ 40 ∧ p.domains ≤ 6 ∧ p.buckets ≤ 10) : D.plan_Plan_Size p ≤ 5000 ∧ 1 ≤ D.plan_Plan_nodes p := by
  have hc := cells_le hp
  have hcells : D.plan_Plan_cells p ≤ 10 := by
    unfold D.plan_Plan_cells maxI
    split <;> omega
  have hdm : p.domains * (1 + D.plan_Plan_cells p) ≤ 6 * 11 := Int.mul_le_mul hfw.2.2.1 (by omega) (by omega) (by omega)
  have htr : p.threads * (1 + p.retire) ≤ 16 * 41 := Int.mul_le_mul hp.t2 (by omega) (by have := hp.r1; have := hp.t1; omega) (by omega)
  have := hp.t2
  have hN := nodes_le hp
  rw [Size_eq hp]
  have := nodes_eq hp
  exact ⟨by omega, hN.1⟩

theorem fresh_runs {p : Plan} (hp : PF p) (hfw : p.nodes ≤ 40) : ∀ (d : Nat) (n : Int) (k : Nat) (ws : List Int), n + d = p.nodes → 0 ≤ n → d < k → (ws.length : Int) = D.plan_Plan_Size p →
    ∃ ws', Runs (D.free_fresh k p n) ws (d + 1) () ws' ∧ ws'.length = ws.length ∧ rd ws' 0 = 1 ∧
      (∀ m, n ≤ m → m < p.nodes → rd ws' (D.plan_Plan_nodes p + m * 5 + 1) = if m + 1 = p.nodes then 0 else m + 2) ∧
      ∀ j, 0 < j → (∀ m, n ≤ m → m < p.nodes → j ≠ D.plan_Plan_nodes p + m * 5 + 1) → rd ws' j = rd ws j := by
  have hN := nodes_le hp
  have hS := Size_eq hp
  have hn1 := hp.n1
  intro d
  induction d with
  | zero =>
    intro n k ws hnd hn hk hl
    obtain ⟨k, rfl⟩ : ∃ q, k = q + 1 := ⟨k - 1, by omega⟩
    have hnn : n = p.nodes := by omega
    subst hnn
    refine ⟨ws.set (0 : Int).toNat 1, ?_, by simp, ?_, fun m h1 h2 => by omega, fun j hj _ => ?_⟩
    · show Runs (D.free_fresh_body (D.free_fresh k) p p.nodes) ws 1 () _
      unfold D.free_fresh_body
      rw [show (p.nodes == p.nodes) = true from by simp]
      simp only [cond_true]
      rw [Head_eq hp]
      exact set_runs (by omega) (by omega)
    · rw [rd_set (by omega) (by omega) (by omega), if_pos rfl]
    · rw [rd_set (by omega) (by omega) (by omega), if_neg (by omega)]
  | succ d ih =>
    intro n k ws hnd hn hk hl
    obtain ⟨k, rfl⟩ : ∃ q, k = q + 1 := ⟨k - 1, by omega⟩
    have hnx : D.plan_Plan_Next p n = D.plan_Plan_nodes p + n * 5 + 1 := by rw [Next_eq hp, if_pos (by omega)]
    obtain ⟨v, hv⟩ : ∃ v, v = (if n + 1 = p.nodes then (0 : Int) else n + 2) := ⟨_, rfl⟩
    obtain ⟨ws', h1, h2, h3, h4, h5⟩ := ih (n + 1) k (ws.set (D.plan_Plan_nodes p + n * 5 + 1).toNat v) (by omega) (by omega) (by omega) (by simpa using hl)
    refine ⟨ws', ?_, by simpa using h2, h3, fun m hm1 hm2 => ?_, fun j hj hno => ?_⟩
    · show Runs (D.free_fresh_body (D.free_fresh k) p n) ws (d + 1 + 1) () _
      unfold D.free_fresh_body
      rw [show (n == p.nodes) = false from by simp; omega, wrap_small (show -1000000 ≤ n + 1 by omega) (by omega), hnx]
      simp only [cond_false]
      have hx : (bif n + 1 == p.nodes then 0 else D.free_link (n + 1)) = v := by
        rw [hv]
        by_cases e : n + 1 = p.nodes
        · rw [if_pos e, show (n + 1 == p.nodes) = true from by simpa using e]; rfl
        · rw [if_neg e, show (n + 1 == p.nodes) = false from by simpa using e]
          show D.free_link (n + 1) = n + 2
          unfold D.free_link
          rw [wrap_small (by omega) (by omega), wrapu_id (by omega) (by omega)]
          omega
      rw [hx]
      show Runs (.act 1 (D.plan_Plan_nodes p + n * 5 + 1) v 0 _) ws (d + 1 + 1) () _
      refine Runs.store (by omega) (by omega) ?_
      show Runs (D.free_fresh k p (IntKind.i64.wrap (n + 1))) _ _ _ _
      rw [wrap_small (by omega) (by omega)]
      exact h1
    · by_cases hmn : m = n
      · subst hmn
        rw [h5 _ (by omega) (fun q hq1 hq2 => by omega), rd_set (by omega) (by omega) (by omega), if_pos rfl, hv]
      · exact h4 m (by omega) hm2
    · rw [h5 j hj (fun m hm1 hm2 => hno m (by omega) hm2), rd_set (by omega) (by omega) (by omega), if_neg]
      exact hno n (by omega) (by omega)

/-- What is laid out: the list of free nodes; all else is 0. -/
structure LaidAt (p : Plan) (ws : List Int) : Prop where
  len : (ws.length : Int) = D.plan_Plan_Size p
  head : rd ws 0 = 1
  next : ∀ m, 0 ≤ m → m < p.nodes → rd ws (D.plan_Plan_nodes p + m * 5 + 1) = if m + 1 = p.nodes then 0 else m + 2
  zero : ∀ j, 0 < j → (∀ m, 0 ≤ m → m < p.nodes → j ≠ D.plan_Plan_nodes p + m * 5 + 1) → rd ws j = 0

theorem New_eq {fu : Nat} {n : Int} (hf : 3 ≤ fu) (h0 : 0 ≤ n) (h1 : n ≤ 16777216) : D.mem_New fu [n] = some (⟨zerosI n, 0⟩, 0) := by
  obtain ⟨k, rfl⟩ : ∃ k, fu = k + 3 := ⟨fu - 3, by omega⟩
  unfold D.mem_New
  have e0 : oneI [n] = some n := by
    show (if 0 ≤ n ∧ n ≤ 16777216 then some n else none) = some n
    rw [if_pos ⟨h0, h1⟩]
  simp only [loopThen, runLoop, e0]
  simp only [List.length_singleton, Int.natCast_one, Int.reduceLT, decide_true, decide_false, cond_true, cond_false, getI, List.getElem?_cons_zero, Option.bind_some, Int.toNat_zero, Int.le_refl, if_true, Int.reduceGT]
  rw [show decide (n < 0) = false from by simp; omega, show decide (n > 16777216) = false from by simp; omega]
  rfl

theorem laid_eq {p : Plan} (hp : PF p) (hfw : p.nodes ≤ 40 ∧ p.retire ≤ 40 ∧ p.domains ≤ 6 ∧ p.buckets ≤ 10) {fu : Nat} (hfu : 100 < fu) : ∃ M, D.cubiclelaw09_Laid fu p = some M ∧ LaidAt p M.ws := by
  obtain ⟨hs1, hs2⟩ := Size_le hp hfw
  have hn1 := hp.n1
  have hS := Size_eq hp
  have hl : ((zerosI (D.plan_Plan_Size p)).length : Int) = D.plan_Plan_Size p := by simp [zerosI]; omega
  obtain ⟨ws', h1, h2, h3, h4, h5⟩ := fresh_runs hp hfw.1 p.nodes.toNat 0 (fu + 1) (zerosI (D.plan_Plan_Size p)) (by omega) (by omega) (by omega) hl
  obtain ⟨c, hc⟩ := runG_eq (z := ()) (fu := fu) (d := fu) (most := p.nodes + 1) (M := ⟨zerosI (D.plan_Plan_Size p), 0⟩) h1 (by omega) (by omega) (by omega) (by omega)
  refine ⟨⟨ws', c⟩, ?_, by rw [← hl, ← h2], h3, h4, fun j hj hno => ?_⟩
  · unfold D.cubiclelaw09_Laid
    rw [New_eq (by omega) (by omega) (by omega)]
    simp only [Option.bind_some]
    rw [show ((0 : Int) != 0) = false from rfl]
    simp only [cond_false, Option.bind_some, Cap_eq, wrap_small (show -1000000 ≤ p.nodes + 1 by omega) (by omega)]
    rw [run_None]
    show (runG () fu (fu, D.free_fresh (fu + 1) p 0) _ _ _).bind _ = _
    rw [hc]
    rfl
  · rw [h5 j hj hno]
    unfold rd zerosI
    rw [List.getD_eq_getElem?_getD, List.getElem?_replicate]
    split <;> rfl

end Go.Proofs.Ytbbipmelhmgmfaa

/- Written by a program of ours (wip/gen.py): lists of nodes -/
set_option linter.unusedVariables false
set_option maxRecDepth 20000
set_option maxHeartbeats 2000000
namespace Go.Proofs.Ytbbipmelhmgmfaa
open Go.RowKit
theorem cl10 : callable Try.prog 10 = true := by kernel_rfl

theorem cl23 : callable Try.prog 23 = true := by kernel_rfl

theorem cl7 : callable Try.prog 7 = true := by kernel_rfl

theorem rt39 : rowTy Try.prog 39 3 1 = true := by kernel_rfl

theorem ts23 : sized Try.prog 23 6 = true := by kernel_rfl

theorem tz23 : zeroOf Try.prog 23 = some (.agg (planC (⟨0, 0, 0, 0, 0, 0⟩ : Plan)).toArray) := by kernel_rfl

def D.free_List (fu : Nat) (a0 : Plan) (a1 : Mem) (a2 : Int) : Option (List Int) := ((D.mem_Memory_Peek fu a1 a2 (D.plan_Plan_Head a0)).bind (fun (x5 : Int) => (loopThen (fun (x8 : List Int × Int) => (Option.bind (bif (decide ((x8.1.length : Int) < a0.nodes)) then (bif (decide (x8.2 > 0)) then (some (decide (x8.2 ≤ (IntKind.u64.wrap a0.nodes)))) else (some false)) else (some false)) (fun (x15 : Bool) => (bif x15 then ((appD x8.1 ([(IntKind.i64.wrap ((IntKind.i64.wrap x8.2) - 1))])).bind (fun (x23 : List Int) => ((D.mem_Memory_Peek fu a1 a2 (D.plan_Plan_Next a0 (IntKind.i64.wrap ((IntKind.i64.wrap x8.2) - 1)))).bind (fun (x28 : Int) => (some (Lp.next (x23, x28))))))) else (some (Lp.brk (x8.1, x8.2))))))) fu ([], (D.field_Field_Get D.free_node x5)) (fun (x30 : List Int × Int) => (some x30.1)))))

set_option maxRecDepth 20000 in
set_option maxHeartbeats 20000000 in
theorem c_free_List {fu : Nat} (w0 : World) (a0 : Plan) {a1_g : MG} (a1 : Mem) (a1_h : MemAt a1_g a1 w0) (a2 : Int) {res : List Int} (hD : D.free_List fu a0 a1 a2 = some res) :
    Calls Try.prog 10 #[.agg (planC a0).toArray, .pointer (some ⟨a1_g.mb, 0, none⟩), .int .i64 a2] w0 (fun e w' => ∃ (v0 : Value), e = .returned v0 ∧ Done No No [rowK 3 1 i64 v0 res] w0 w') := by
 refine enter Try.func10 rfl 47 rfl rfl fun fr r => ?_
 have hP : Post No [] w0 w0 := Post.nil w0
 have hP : Post No [memR a1_g a1] w0 w0 := hP.addRo norw_nil a1_h rfl a1_h.lt
 unfold D.free_List at hD
 refine wsr ?_
 refine seq_new (.cells ((planC a0)).toArray 23 (0, 0)) r (fun R => y_box r (v := (.agg (planC a0).toArray)) rfl) rfl fun fr b1 w2 n3 r => ?_
 have hP : Post No [memR a1_g a1, cellC b1 ((planC a0)).toArray 23] w0 w2 := hP.new n3
 refine seq_val (Value.slice none 0 0) r (fun R => y_assign r rfl) rfl fun fr r => ?_
 refine wn ?_
 refine wsr ?_
 refine seq_val (Value.slice none 0 0) r (fun R => y_assign r rfl) rfl fun fr r => ?_
 refine wn ?_
 refine wp_seq ?_
 obtain ⟨x5, hx5, hD⟩ := bindD_elim hD
 refine wp_freeF [.val (.agg (fieldC D.free_node).toArray), .val (.pointer (some ⟨a1_g.mb, 0, none⟩)), .val (I a2), .val (.agg (planC a0).toArray), .val (I (D.plan_Plan_Head a0)), .val (U x5), .val (U (D.field_Field_Get D.free_node x5)), .val (U (D.field_Field_Get D.free_node x5))] mixed r (by kernel_rfl) ?_ ?_
 ·
  refine fc r (fun fr1 g w' hb' hd r' => y_call r' (args := []) (l0) cl21 ((c_free_node _ ).mono (by rintro _ w2 ⟨rfl, hb2⟩; exact ⟨_, rfl, hb2, rfl⟩))) ?_
  refine fc r (fun fr1 g w' hb' hd r' => y_move r' rfl bz) ?_
  refine fc r (fun fr1 g w' hb' hd r' => y_move r' rfl bz) ?_
  refine fc r (fun fr1 g w' hb' hd r' => y_load_agg r' (cs := (planC a0)) (n := 6) rfl ((hP.below (dr hb')).cell (i := 1) rfl) ta23 rfl bz) ?_
  refine fc r (fun fr1 g w' hb' hd r' => y_call r' (args := [(.agg (planC a0).toArray)]) (lc (hd 3 rfl).1 l0) cl24 ((c_plan_Plan_Head _ a0).mono (by rintro _ w2 ⟨rfl, hb2⟩; exact ⟨_, rfl, hb2, rfl⟩))) ?_
  refine fc r (fun fr1 g w' hb' hd r' => y_call r' (args := [(.pointer (some ⟨a1_g.mb, 0, none⟩)), (I a2), (I (D.plan_Plan_Head a0))]) (lc (hd 1 rfl).1 (lc (hd 2 rfl).1 (lc (hd 4 rfl).1 l0))) cl23 ((c_mem_Memory_Peek _ a1 ((hP.below (dr hb')).memr (i := 0) rfl) a2 (D.plan_Plan_Head a0) hx5).mono (by rintro _ w2 ⟨rfl, hb2⟩; exact ⟨_, rfl, hb2, rfl⟩))) ?_
  refine fc r (fun fr1 g w' hb' hd r' => y_call r' (args := [(.agg (fieldC D.free_node).toArray), (U x5)]) (lc (hd 0 rfl).1 (lc (hd 5 rfl).1 l0)) cl22 ((c_field_Field_Get _ D.free_node x5).mono (by rintro _ w2 ⟨rfl, hb2⟩; exact ⟨_, rfl, hb2, rfl⟩))) ?_
  refine fc r (fun fr1 g w' hb' hd r' => y_assign r' (hd 6 rfl).1 bz) ?_
  exact eachF_nil
 ·
  intro fr gg w6 hb hΦ hap r
  have r := r.congr (sc ((hΦ 7 rfl).1) (sc ((hΦ 6 rfl).1) (sc ((hΦ 5 rfl).1) (sc ((hΦ 4 rfl).1) (sc ((hΦ 3 rfl).1) (sc ((hΦ 2 rfl).1) (sc ((hΦ 1 rfl).1) (sc ((hΦ 0 rfl).1) rfl))))))))
  have hP : Post No [memR a1_g a1, cellC b1 ((planC a0)).toArray 23] w0 w6 := hP.below hb
  refine wp_seq ?_
  have hP : Post No [memR a1_g a1, cellC b1 ((planC a0)).toArray 23, rowK 3 1 i64 (Value.slice none 0 0) ([])] w0 w6 := hP.nilRow 3 1 i64
  refine wp_loopG (X := List Int × Int) (G := Value) (x0 := ([], (D.field_Field_Get D.free_node x5))) (fun x γ => [(0, (.agg (planC a0).toArray)), (1, (.pointer (some ⟨a1_g.mb, 0, none⟩))), (2, (I a2)), (3, (.pointer (some ⟨b1, 0, none⟩))), (6, (Value.slice none 0 0)), (7, γ), (8, (U x.2))]) (fun x γ w => Post No [memR a1_g a1, cellC b1 ((planC a0)).toArray 23, rowK 3 1 i64 γ x.1] w0 w) (Value.slice none 0 0) r (hs_cons rfl (hs_cons rfl (hs_cons rfl (hs_cons rfl (hs_cons rfl (hs_cons rfl (hs_cons rfl hs_nil))))))) hP hD ?_ ?_
  ·
   rintro x8 γ9 fr w11 g y10 RPy10 nxy10 bky10 rty10 r hP hD
   have hP : Post No [memR a1_g a1, cellC b1 ((planC a0)).toArray 23, rowK 3 1 i64 γ9 x8.1] w0 w11 := hP
   refine wp_seq ?_
   refine wp_seq ?_
   refine wp_joinG (N := 47) (Y := Bool) (G := Unit) (fun x γ => [(0, (.agg (planC a0).toArray)), (1, (.pointer (some ⟨a1_g.mb, 0, none⟩))), (2, (I a2)), (3, (.pointer (some ⟨b1, 0, none⟩))), (6, (Value.slice none 0 0)), (7, γ9), (8, (U x8.2)), (32, (.bool x))]) (fun x γ w => Post No [memR a1_g a1, cellC b1 ((planC a0)).toArray 23, rowK 3 1 i64 γ9 x8.1] w0 w) hD ?_ ?_
   ·
    rintro y12 RPy12 nxy12 hD
    refine wp_region_lit ?_
    refine seq_val γ9 r (fun R => y_move r rfl) rfl fun fr r => ?_
    refine seq_val (I (x8.1.length : Int)) r (fun R => y_rowLen r (hP.row (i := 2) rfl).ro is39 rfl) rfl fun fr r => ?_
    refine seq_val _ r (fun R => y_fieldAddr r (o := 0) rfl fo23_0) rfl fun fr r => ?_
    refine seq_val (I a0.nodes) r (fun R => y_load_one r rfl (hP.cell (i := 1) rfl) to3 rfl) rfl fun fr r => ?_
    refine seq_val _ r (fun R => y_bin r rfl rfl rfl rfl) rfl fun fr r => ?_
    refine seq_val (.bool (decide ((x8.1.length : Int) < a0.nodes))) r (fun R => y_move r rfl) rfl fun fr r => ?_
    refine seq_split (decide ((x8.1.length : Int) < a0.nodes)) (fun h13 => ?_) (fun h13 => ?_)
    ·
     have hD := (cond_t h13).symm.trans hD
     refine s1 r h13 ?_
     refine seq_val (U x8.2) r (fun R => y_move r rfl) rfl fun fr r => ?_
     refine s1 r h13 ?_
     refine seq_val _ r (fun R => y_bin r rfl rfl rfl rfl) rfl fun fr r => ?_
     refine seq_val (.bool (decide (x8.2 > 0))) r (fun R => y_pick r (b := true) (congrArg Value.bool h13) rfl) rfl fun fr r => ?_
     refine seq_val (.bool (decide (x8.2 > 0))) r (fun R => y_move r rfl) rfl fun fr r => ?_
     refine seq_split (decide (x8.2 > 0)) (fun h14 => ?_) (fun h14 => ?_)
     ·
      have hD := (cond_t h14).symm.trans hD
      refine s1 r h14 ?_
      refine seq_val (U x8.2) r (fun R => y_move r rfl) rfl fun fr r => ?_
      refine s1 r h14 ?_
      refine seq_val _ r (fun R => y_fieldAddr r (o := 0) rfl fo23_0) rfl fun fr r => ?_
      refine s1 r h14 ?_
      refine seq_val (I a0.nodes) r (fun R => y_load_one r rfl (hP.cell (i := 1) rfl) to3 rfl) rfl fun fr r => ?_
      refine s1 r h14 ?_
      refine seq_val (U (V a0.nodes)) r (fun R => y_convert r rfl ti3 ti33) rfl fun fr r => ?_
      refine s1 r h14 ?_
      refine seq_val _ r (fun R => y_bin r rfl rfl rfl rfl) rfl fun fr r => ?_
      refine seq_val (.bool (decide (x8.2 ≤ (V a0.nodes)))) r (fun R => y_pick r (b := true) (congrArg Value.bool h14) rfl) rfl fun fr r => ?_
      refine wn ?_
      exact nxy12 (decide (x8.2 ≤ (V a0.nodes))) () _ _ _ hD r (hs_cons rfl (hs_cons rfl (hs_cons rfl (hs_cons rfl (hs_cons rfl (hs_cons rfl (hs_cons rfl (hs_cons rfl hs_nil)))))))) (hP.pick [0, 1, 2] rfl rfl)
     ·
      have hD := (cond_f h14).symm.trans hD
      refine s0 r h14 fun fr r => ?_
      refine s0 r h14 fun fr r => ?_
      refine s0 r h14 fun fr r => ?_
      refine s0 r h14 fun fr r => ?_
      refine s0 r h14 fun fr r => ?_
      refine seq_val (.bool false) r (fun R => y_pick r (b := false) (congrArg Value.bool h14) rfl) rfl fun fr r => ?_
      refine wn ?_
      exact nxy12 false () _ _ _ hD r (hs_cons rfl (hs_cons rfl (hs_cons rfl (hs_cons rfl (hs_cons rfl (hs_cons rfl (hs_cons rfl (hs_cons rfl hs_nil)))))))) (hP.pick [0, 1, 2] rfl rfl)
    ·
     have hD := (cond_f h13).symm.trans hD
     refine s0 r h13 fun fr r => ?_
     refine s0 r h13 fun fr r => ?_
     refine seq_val (.bool false) r (fun R => y_pick r (b := false) (congrArg Value.bool h13) rfl) rfl fun fr r => ?_
     refine seq_val (.bool false) r (fun R => y_move r rfl) rfl fun fr r => ?_
     refine s0 r (rfl : false = _) fun fr r => ?_
     refine s0 r (rfl : false = _) fun fr r => ?_
     refine s0 r (rfl : false = _) fun fr r => ?_
     refine s0 r (rfl : false = _) fun fr r => ?_
     refine s0 r (rfl : false = _) fun fr r => ?_
     refine seq_val (.bool false) r (fun R => y_pick r (b := false) (congrArg Value.bool (rfl : false = _)) rfl) rfl fun fr r => ?_
     refine wn ?_
     exact nxy12 false () _ _ _ hD r (hs_cons rfl (hs_cons rfl (hs_cons rfl (hs_cons rfl (hs_cons rfl (hs_cons rfl (hs_cons rfl (hs_cons rfl hs_nil)))))))) (hP.pick [0, 1, 2] rfl rfl)
   ·
    rintro x15 γ16 fr w17 g r hP hD
    have hP : Post No [memR a1_g a1, cellC b1 ((planC a0)).toArray 23, rowK 3 1 i64 γ9 x8.1] w0 w17 := hP
    refine wp_cond_split (t := x15) (r.ev rfl) (fun h18 => ?_) (fun h18 => ?_)
    ·
     have hD := (cond_t h18).symm.trans hD
     refine wp_skip ?_
     refine wp_block ?_
     refine wsr ?_
     refine seq_val (U x8.2) r (fun R => y_move r rfl) rfl fun fr r => ?_
     refine seq_val (I (W x8.2)) r (fun R => y_convert r rfl ti33 ti3) rfl fun fr r => ?_
     refine seq_val _ r (fun R => y_bin r rfl rfl rfl rfl) rfl fun fr r => ?_
     refine seq_val (I (W ((W x8.2) - 1))) r (fun R => y_assign r rfl) rfl fun fr r => ?_
     refine wn ?_
     refine wsr ?_
     refine seq_val γ9 r (fun R => y_move r rfl) rfl fun fr r => ?_
     refine seq_val (I (W ((W x8.2) - 1))) r (fun R => y_move r rfl) rfl fun fr r => ?_
     refine seq_newS (.cells (([(W ((W x8.2) - 1))]).flatMap i64).toArray 3 (0, 0)) 1 r (fun R => y_bslice r (by kernel_rfl)) rfl fun fr b19 w20 n21 r => ?_
     have hP : Post No [memR a1_g a1, cellC b1 ((planC a0)).toArray 23, rowK 3 1 i64 γ9 x8.1, rowK 3 1 i64 (.slice (some ⟨b19, 0, none⟩) 1 1) ([(W ((W x8.2) - 1))])] w0 w20 := hP.newRow n21 (fun _ => rfl) rfl
     obtain ⟨x23, hx23, hD⟩ := bindD_elim hD
     refine seq_app 3 1 i64 γ9 r (fun R => y_append r rt39 (fun _ => rfl) (fun _ => rfl) (hP.row (i := 2) rfl) (hP.row (i := 3) rfl).ro hx23 rfl rfl) rfl fun fr v24 w25 ha26 r => ?_
     have hP : Post No [memR a1_g a1, cellC b1 ((planC a0)).toArray 23, rowK 3 1 i64 v24 x23, rowK 3 1 i64 (.slice (some ⟨b19, 0, none⟩) 1 1) ([(W ((W x8.2) - 1))])] w0 w25 := hP.append (i := 2) rfl ha26
     refine seq_val v24 r (fun R => y_assign r rfl) rfl fun fr r => ?_
     refine wn ?_
     refine wp_region_lit ?_
     refine seq_val (.pointer (some ⟨a1_g.mb, 0, none⟩)) r (fun R => y_move r rfl) rfl fun fr r => ?_
     refine seq_val (I a2) r (fun R => y_move r rfl) rfl fun fr r => ?_
     refine seq_val (.agg (planC a0).toArray) r (fun R => y_load_agg r (cs := (planC a0)) (n := 6) rfl (hP.cell (i := 1) rfl) ta23 rfl) rfl fun fr r => ?_
     refine seq_val (I (W ((W x8.2) - 1))) r (fun R => y_move r rfl) rfl fun fr r => ?_
     refine seq_call r (c_plan_Plan_Next w25 a0 (W ((W x8.2) - 1))) (fun R hc => y_call r rfl cl25 hc) rfl ?_
     rintro _ w27 ⟨rfl, hb⟩
     refine ⟨_, rfl, fun fr r => ?_⟩
     have hP : Post No [memR a1_g a1, cellC b1 ((planC a0)).toArray 23, rowK 3 1 i64 v24 x23, rowK 3 1 i64 (.slice (some ⟨b19, 0, none⟩) 1 1) ([(W ((W x8.2) - 1))])] w0 w27 := hP.below hb
     obtain ⟨x28, hx28, hD⟩ := bindD_elim hD
     refine seq_call r (c_mem_Memory_Peek w27 a1 (hP.memr (i := 0) rfl) a2 (D.plan_Plan_Next a0 (W ((W x8.2) - 1))) hx28) (fun R hc => y_call r rfl cl23 hc) rfl ?_
     rintro _ w29 ⟨rfl, hb⟩
     refine ⟨_, rfl, fun fr r => ?_⟩
     have hP : Post No [memR a1_g a1, cellC b1 ((planC a0)).toArray 23, rowK 3 1 i64 v24 x23, rowK 3 1 i64 (.slice (some ⟨b19, 0, none⟩) 1 1) ([(W ((W x8.2) - 1))])] w0 w29 := hP.below hb
     refine seq_val (U x28) r (fun R => y_assign r rfl) rfl fun fr r => ?_
     refine wn ?_
     exact nxy10 (x23, x28) v24 _ _ _ hD r (hs_cons rfl (hs_cons rfl (hs_cons rfl (hs_cons rfl (hs_cons rfl (hs_cons rfl (hs_cons rfl hs_nil))))))) (hP.pick [0, 1, 2] rfl rfl)
    ·
     have hD := (cond_f h18).symm.trans hD
     refine wp_exit ?_
     exact bky10 (x8.1, x8.2) γ9 _ _ _ hD r (hs_cons rfl (hs_cons rfl (hs_cons rfl (hs_cons rfl (hs_cons rfl (hs_cons rfl (hs_cons rfl hs_nil))))))) (hP.pick [0, 1, 2] rfl rfl)
  ·
   rintro x30 γ31 fr w32 g r hP hD
   have hP : Post No [memR a1_g a1, cellC b1 ((planC a0)).toArray 23, rowK 3 1 i64 γ31 x30.1] w0 w32 := hP
   refine wsr ?_
   refine seq_val γ31 r (fun R => y_move r rfl) rfl fun fr r => ?_
   refine seq_val γ31 r (fun R => y_assign r rfl) rfl fun fr r => ?_
   refine wn ?_
   refine wp_ret ?_
   have hv : x30.1 = res := Option.some.inj hD
   try dsimp only [Exit.then, Exit.inBlock]
   refine ret_tmp (fn := Try.f10) r (t := 6) rfl (v := γ31) rfl ?_
   subst hv
   exact ⟨γ31, rfl, (hP.pick [2] rfl rfl).done (rest_cons rfl rest_nil)⟩

def D.cubiclelaw09_awake (fu : Nat)  : Option (Bool) := ((D.cubiclelaw09_Laid fu (⟨2, 1, 4, 0, 1, 1⟩ : Plan)).bind (fun (x7 : Mem) => ((D.free_List fu (⟨2, 1, 4, 0, 1, 1⟩ : Plan) x7 0).bind (fun (x11 : List Int) => (some ((x11.length : Int) == 2))))))

set_option maxRecDepth 20000 in
set_option maxHeartbeats 20000000 in
theorem c_cubiclelaw09_awake {fu : Nat} (w0 : World) {res : Bool} (hD : D.cubiclelaw09_awake fu  = some res) :
    Calls Try.prog 4 #[] w0 (PureRes (.bool res) w0) := by
 refine enter Try.func4 rfl 15 rfl rfl fun fr r => ?_
 have hP : Post No [] w0 w0 := Post.nil w0
 unfold D.cubiclelaw09_awake at hD
 refine wsr ?_
 refine seq_val (.bool false) r (fun R => y_assign r rfl) rfl fun fr r => ?_
 refine wn ?_
 refine wsr ?_
 refine seq_val (.agg (planC (⟨2, 1, 4, 0, 1, 1⟩ : Plan)).toArray) r (fun R => y_build r (by kernel_rfl)) rfl fun fr r => ?_
 refine seq_new (.cells ((planC (⟨0, 0, 0, 0, 0, 0⟩ : Plan))).toArray 23 (0, 0)) r (fun R => y_alloc tz23) rfl fun fr b1 w2 n3 r => ?_
 have hP : Post No [cellC b1 ((planC (⟨0, 0, 0, 0, 0, 0⟩ : Plan))).toArray 23] w0 w2 := hP.new n3
 refine seq_upd (.cells ((planC (⟨2, 1, 4, 0, 1, 1⟩ : Plan))).toArray 23 (0, 0)) r (fun R => y_store r (o := 0) (v := (.agg (planC (⟨2, 1, 4, 0, 1, 1⟩ : Plan)).toArray)) rfl rfl (hP.cell (i := 0) rfl) ts23 (Nat.le_of_ble_eq_true rfl) rfl rfl) rfl fun fr w5 u6 r => ?_
 have hP : Post No [cellC b1 ((planC (⟨2, 1, 4, 0, 1, 1⟩ : Plan))).toArray 23] w0 w5 := hP.upd (i := 0) rfl u6
 refine wn ?_
 refine wsr ?_
 refine seq_val (.agg (planC (⟨2, 1, 4, 0, 1, 1⟩ : Plan)).toArray) r (fun R => y_load_agg r (cs := (planC (⟨2, 1, 4, 0, 1, 1⟩ : Plan))) (n := 6) rfl (hP.cell (i := 0) rfl) ta23 rfl) rfl fun fr r => ?_
 obtain ⟨x7, hx7, hD⟩ := bindD_elim hD
 refine seq_call r (c_cubiclelaw09_Laid w5 (⟨2, 1, 4, 0, 1, 1⟩ : Plan) hx7) (fun R hc => y_call r rfl cl7 hc) rfl ?_
 rintro _ w8 ⟨mg9, rfl, hq⟩
 refine ⟨_, rfl, fun fr r => ?_⟩
 have hP : Post No [cellC b1 ((planC (⟨2, 1, 4, 0, 1, 1⟩ : Plan))).toArray 23, memK mg9 x7] w0 w8 := hP.add hq
 refine seq_val (.pointer (some ⟨mg9.mb, 0, none⟩)) r (fun R => y_assign r rfl) rfl fun fr r => ?_
 refine wn ?_
 refine wsr ?_
 refine seq_val (.pointer (some ⟨mg9.mb, 0, none⟩)) r (fun R => y_move r rfl) rfl fun fr r => ?_
 refine seq_val _ r (fun R => y_bin r rfl rfl rfl rfl) rfl fun fr r => ?_
 refine seq_val (.bool true) r (fun R => y_move r rfl) rfl fun fr r => ?_
 refine s1 r (rfl : true = _) ?_
 refine seq_val (.agg (planC (⟨2, 1, 4, 0, 1, 1⟩ : Plan)).toArray) r (fun R => y_load_agg r (cs := (planC (⟨2, 1, 4, 0, 1, 1⟩ : Plan))) (n := 6) rfl (hP.cell (i := 0) rfl) ta23 rfl) rfl fun fr r => ?_
 refine s1 r (rfl : true = _) ?_
 refine seq_val (.pointer (some ⟨mg9.mb, 0, none⟩)) r (fun R => y_move r rfl) rfl fun fr r => ?_
 refine s1 r (rfl : true = _) ?_
 obtain ⟨x11, hx11, hD⟩ := bindD_elim hD
 refine seq_call r (c_free_List w8 (⟨2, 1, 4, 0, 1, 1⟩ : Plan) x7 (hP.mem (i := 1) rfl) 0 hx11) (fun R hc => y_call r rfl cl10 hc) rfl ?_
 rintro _ w12 ⟨v13, rfl, hq⟩
 refine ⟨_, rfl, fun fr r => ?_⟩
 have hP : Post No [cellC b1 ((planC (⟨2, 1, 4, 0, 1, 1⟩ : Plan))).toArray 23, memK mg9 x7, rowK 3 1 i64 v13 x11] w0 w12 := hP.add hq
 refine s1 r (rfl : true = _) ?_
 refine seq_val (I (x11.length : Int)) r (fun R => y_rowLen r (hP.row (i := 2) rfl).ro is39 rfl) rfl fun fr r => ?_
 refine s1 r (rfl : true = _) ?_
 refine seq_val _ r (fun R => y_bin r rfl rfl rfl rfl) rfl fun fr r => ?_
 refine seq_val (.bool ((x11.length : Int) == 2)) r (fun R => y_pick r (b := true) (congrArg Value.bool (rfl : true = _)) rfl) rfl fun fr r => ?_
 refine seq_val (.bool ((x11.length : Int) == 2)) r (fun R => y_assign r rfl) rfl fun fr r => ?_
 refine wn ?_
 refine wp_ret ?_
 have hv : ((x11.length : Int) == 2) = res := Option.some.inj hD
 try dsimp only [Exit.then, Exit.inBlock]
 refine ret_tmp (fn := Try.f4) r (t := 0) rfl (v := (.bool ((x11.length : Int) == 2))) rfl ?_
 subst hv
 exact ⟨rfl, hP.chg.below⟩

def D.cubicleref09_Has (fu : Nat) (a0 : List Int) (a1 : Int) : Option (Bool) := (loopThen (fun (x1 : Bool × Int) => (bif (decide (x1.2 < (a0.length : Int))) then ((getI a0 x1.2).bind (fun (x6 : Int) => (bif (x6 == a1) then (some (Lp.ret true)) else (some (Lp.next (x1.1, (IntKind.i64.wrap (x1.2 + 1)))))))) else (some (Lp.brk (x1.1, x1.2))))) fu (false, 0) (fun (x8 : Bool × Int) => (some false)))

set_option maxRecDepth 20000 in
set_option maxHeartbeats 20000000 in
theorem c_cubicleref09_Has {fu : Nat} (w0 : World) {a0_v : Value} (a0 : List Int) (a0_h : RoAt 3 1 i64 a0_v a0 w0) (a1 : Int) {res : Bool} (hD : D.cubicleref09_Has fu a0 a1 = some res) :
    Calls Try.prog 11 #[a0_v, .int .i64 a1] w0 (PureRes (.bool res) w0) := by
 refine enter Try.func11 rfl 18 rfl rfl fun fr r => ?_
 have hP : Post No [] w0 w0 := Post.nil w0
 have hP : Post No [roK 3 1 i64 a0_v a0] w0 w0 := hP.addRo norw_nil a0_h rfl a0_h.lt
 unfold D.cubicleref09_Has at hD
 refine wsr ?_
 refine seq_val (.bool false) r (fun R => y_assign r rfl) rfl fun fr r => ?_
 refine wn ?_
 refine wp_seq ?_
 refine wsr ?_
 refine seq_val (I 0) r (fun R => y_assign r rfl) rfl fun fr r => ?_
 refine wn ?_
 refine wp_loopG (X := Bool × Int) (G := Unit) (x0 := (false, 0)) (fun x γ => [(0, a0_v), (1, (I a1)), (4, (.bool x.1)), (5, (I x.2))]) (fun x γ w => Post No [roK 3 1 i64 a0_v a0] w0 w) () r (hs_cons rfl (hs_cons rfl (hs_cons rfl (hs_cons rfl hs_nil)))) hP hD ?_ ?_
 ·
  rintro x1 γ2 fr w4 g y3 RPy3 nxy3 bky3 rty3 r hP hD
  have hP : Post No [roK 3 1 i64 a0_v a0] w0 w4 := hP
  refine wp_seq ?_
  refine wsr ?_
  refine seq_val (I x1.2) r (fun R => y_move r rfl) rfl fun fr r => ?_
  refine seq_val a0_v r (fun R => y_move r rfl) rfl fun fr r => ?_
  refine seq_val (I (a0.length : Int)) r (fun R => y_rowLen r (hP.ro (i := 0) rfl) is39 rfl) rfl fun fr r => ?_
  refine seq_val _ r (fun R => y_bin r rfl rfl rfl rfl) rfl fun fr r => ?_
  refine wn ?_
  refine wp_cond_split (t := (decide (x1.2 < (a0.length : Int)))) (r.ev rfl) (fun h5 => ?_) (fun h5 => ?_)
  ·
   have hD := (cond_t h5).symm.trans hD
   refine wp_skip ?_
   refine wp_seq ?_
   refine wp_block ?_
   refine wsr ?_
   refine seq_val a0_v r (fun R => y_move r rfl) rfl fun fr r => ?_
   refine seq_val (I x1.2) r (fun R => y_move r rfl) rfl fun fr r => ?_
   obtain ⟨x6, hx6, hD⟩ := bindD_elim hD
   refine seq_val (.pointer (some ⟨rowB a0_v, rowO a0_v + x1.2.toNat * 1, none⟩)) r (fun R => y_rowAddr r (hP.ro (i := 0) rfl) hx6 sl39 rfl rfl) rfl fun fr r => ?_
   refine seq_val (I x6) r (fun R => y_loadL_one r (u := (I x6)) (RoAt.at_ (f := i64) (x := x6) (hP.ro (i := 0) rfl) (fun _ => rfl) hx6) rfl to3) rfl fun fr r => ?_
   refine seq_val (I a1) r (fun R => y_move r rfl) rfl fun fr r => ?_
   refine seq_val _ r (fun R => y_bin r rfl rfl rfl rfl) rfl fun fr r => ?_
   refine wn ?_
   refine wp_cond_split (t := (x6 == a1)) (r.ev rfl) (fun h7 => ?_) (fun h7 => ?_)
   ·
    have hD := (cond_t h7).symm.trans hD
    refine wsr ?_
    refine seq_val (.bool true) r (fun R => y_assign r rfl) rfl fun fr r => ?_
    refine wn ?_
    refine wp_ret ?_
    refine rty3 true _ _ hD fun hD => ?_
    have hv : true = res := Option.some.inj hD
    try dsimp only [Exit.then, Exit.inBlock]
    refine ret_tmp (fn := Try.f11) r (t := 4) rfl (v := (.bool true)) rfl ?_
    subst hv
    exact ⟨rfl, hP.chg.below⟩
   ·
    have hD := (cond_f h7).symm.trans hD
    refine wp_skip ?_
    refine wp_region_lit ?_
    refine seq_val (I x1.2) r (fun R => y_move r rfl) rfl fun fr r => ?_
    refine seq_val _ r (fun R => y_bin r rfl rfl rfl rfl) rfl fun fr r => ?_
    refine seq_val (I (W (x1.2 + 1))) r (fun R => y_assign r rfl) rfl fun fr r => ?_
    refine wn ?_
    exact nxy3 (x1.1, (W (x1.2 + 1))) () _ _ _ hD r (hs_cons rfl (hs_cons rfl (hs_cons rfl (hs_cons rfl hs_nil)))) (hP.pick [0] rfl rfl)
  ·
   have hD := (cond_f h5).symm.trans hD
   refine wp_exit ?_
   exact bky3 (x1.1, x1.2) () _ _ _ hD r (hs_cons rfl (hs_cons rfl (hs_cons rfl (hs_cons rfl hs_nil)))) (hP.pick [0] rfl rfl)
 ·
  rintro x8 γ9 fr w10 g r hP hD
  have hP : Post No [roK 3 1 i64 a0_v a0] w0 w10 := hP
  refine wsr ?_
  refine seq_val (.bool false) r (fun R => y_assign r rfl) rfl fun fr r => ?_
  refine wn ?_
  refine wp_ret ?_
  have hv : false = res := Option.some.inj hD
  try dsimp only [Exit.then, Exit.inBlock]
  refine ret_tmp (fn := Try.f11) r (t := 4) rfl (v := (.bool false)) rfl ?_
  subst hv
  exact ⟨rfl, hP.chg.below⟩

end Go.Proofs.Ytbbipmelhmgmfaa

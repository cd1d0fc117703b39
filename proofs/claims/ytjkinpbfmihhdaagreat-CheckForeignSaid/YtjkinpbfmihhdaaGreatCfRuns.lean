/- Written by a program of ours (wip/gen.py): programs run -/
import Derived.Test.YtjkinpbfmihhdaaGreatCfMems
import Derived.Test.YtjkinpbfmihhdaaGreatCfHazards
set_option linter.unusedVariables false
set_option maxRecDepth 20000
set_option maxHeartbeats 2000000
namespace Go.Proofs.YtjkinpbfmihhdaaGreat
open Go.RowKit
theorem cl135 : callable Tryz.prog 135 = true := by kernel_rfl

theorem cl209 : callable Tryz.prog 209 = true := by kernel_rfl

theorem cl37 : callable Tryz.prog 37 = true := by kernel_rfl

theorem ts181 : sized Tryz.prog 181 0 = true := by kernel_rfl

theorem ts32 : sized Tryz.prog 32 2 = true := by kernel_rfl

theorem tz181 : zeroOf Tryz.prog 181 = some (.agg #[]) := by kernel_rfl

theorem tz32 : zeroOf Tryz.prog 32 = some (.agg (resC (⟨0, 0⟩ : Res)).toArray) := by kernel_rfl

def D.prog_Prog_None_Step (fu : Nat) (a0 : Nat × T Unit) (a1 : Mem) (a2 : Cap) : Option ((Nat × T Unit) × Bool × Mem) := (bif a0.2.isDone then (some (a0, false, a1)) else ((D.mem_Memory_Do fu a1 a2 (T.acc a0.2)).bind (fun (x16 : Int × Bool × Mem) => (bif (!x16.2.1) then (some (a0, false, x16.2.2)) else ((depthI a0.1).bind (fun (x26 : Nat) => (some ((x26, T.next a0.2 x16.1), true, x16.2.2))))))))

theorem c_prog_Prog_None_Step {fu : Nat} (w0 : World) {a0_v : Value} {a0_F : List Nat} (a0 : Nat × T Unit) {a1_g : MG} (a1 : Mem) (a2 : Cap) (hS : Sep [progK Tryz.prog encNone a0 a0_v a0_F, memK a1_g a1] w0) {res : (Nat × T Unit) × Bool × Mem} (hD : D.prog_Prog_None_Step fu a0 a1 a2 = some res) :
    Calls Tryz.prog 209 #[a0_v, .pointer (some ⟨a1_g.mb, 0, none⟩), .agg (capC a2).toArray] w0 (fun e w' => ∃ (v0 : Value) (F0 : List Nat), e = .returned (.tuple #[v0, (.bool res.2.1)]) ∧ Done (fun b => b ∈ (memK a1_g a1).own) (fun b => b ∈ a0_F) [memK a1_g res.2.2, progK Tryz.prog encNone res.1 v0 F0] w0 w') := by
 refine enter Tryz.func209 rfl 28 rfl rfl fun fr r => ?_
 have hP : Post (fun b => b ∈ (memK a1_g a1).own) [progK Tryz.prog encNone a0 a0_v a0_F, memK a1_g a1] w0 w0 := .start hS (by simp [memK, progK])
 unfold D.prog_Prog_None_Step at hD
 refine wsr ?_
 refine seq_new (.cells a0_v.cells 186 (0, 0)) r (fun R => y_box r (v := a0_v) rfl) rfl fun fr b1 w2 n3 r => ?_
 have hP : Post (fun b => b ∈ (memK a1_g a1).own) [progK Tryz.prog encNone a0 a0_v a0_F, memK a1_g a1, cellC b1 a0_v.cells 186] w0 w2 := hP.new n3
 refine seq_new (.cells ((capC a2)).toArray 42 (0, 0)) r (fun R => y_box r (v := (.agg (capC a2).toArray)) rfl) rfl fun fr b5 w6 n7 r => ?_
 have hP : Post (fun b => b ∈ (memK a1_g a1).own) [progK Tryz.prog encNone a0 a0_v a0_F, memK a1_g a1, cellC b1 a0_v.cells 186, cellC b5 ((capC a2)).toArray 42] w0 w6 := hP.new n7
 refine seq_new (.cells (progCells false encNone.zero 0 0 0 0 .nilFunc) 186 (0, 0)) r (fun R => y_alloc tz186) rfl fun fr b9 w10 n11 r => ?_
 have hP : Post (fun b => b ∈ (memK a1_g a1).own) [progK Tryz.prog encNone a0 a0_v a0_F, memK a1_g a1, cellC b1 a0_v.cells 186, cellC b5 ((capC a2)).toArray 42, cellC b9 (progCells false encNone.zero 0 0 0 0 .nilFunc) 186] w0 w10 := hP.new n11
 refine seq_val (.bool false) r (fun R => y_assign r rfl) rfl fun fr r => ?_
 refine wn ?_
 refine wp_seq ?_
 refine wsr ?_
 refine seq_val _ r (fun R => y_fieldAddr r (b := b1) (o := 0) (k := 0) rfl fo186_0) rfl fun fr r => ?_
 refine seq_val (.bool a0.2.isDone) r (fun R => y_load_one r rfl (hP.cell (i := 2) rfl) to4 (Rep.over_at (hP.prog (i := 0) rfl))) rfl fun fr r => ?_
 refine wn ?_
 refine wp_cond_split (t := a0.2.isDone) (r.ev rfl) (fun h13 => ?_) (fun h13 => ?_)
 ·
  have hD := (cond_t h13).symm.trans hD
  refine wsr ?_
  refine seq_val a0_v r (fun R => y_loadp r (hP.prog (i := 0) rfl).shape rfl (hP.cell (i := 2) rfl) ta186) rfl fun fr r => ?_
  refine seq_upd (.cells a0_v.cells 186 (0, 0)) r (fun R => y_storep r (hP.prog (i := 0) rfl).shape rfl rfl (hP.cell (i := 4) rfl) ts186 rfl) rfl fun fr w14 u15 r => ?_
  have hP : Post (fun b => b ∈ (memK a1_g a1).own) [progK Tryz.prog encNone a0 a0_v a0_F, memK a1_g a1, cellC b1 a0_v.cells 186, cellC b5 ((capC a2)).toArray 42, cellC b9 a0_v.cells 186] w0 w14 := hP.upd (i := 4) rfl u15
  refine seq_val (.bool false) r (fun R => y_assign r rfl) rfl fun fr r => ?_
  refine wn ?_
  refine wp_ret ?_
  have hv : (a0, false, a1) = res := Option.some.inj hD
  try dsimp only [Exit.then, Exit.inBlock]
  have hs := (hP.prog (i := 0) rfl).shape.cells
  refine ret_cell_tmp (fn := Tryz.f209) r rfl rfl (v' := (.bool false)) rfl (hP.cell (i := 4) rfl) (k := 6) hs.1 ta186 ?_
  rw [← hs.2.2]
  subst hv
  exact ⟨a0_v, a0_F, rfl, (hP.pick [1, 0] rfl rfl).done (rest_cons rfl (rest_consP (fun b h => .inl h) rest_nil))⟩
 ·
  have hD := (cond_f h13).symm.trans hD
  refine wp_skip ?_
  refine wsr ?_
  refine seq_val (.pointer (some ⟨a1_g.mb, 0, none⟩)) r (fun R => y_move r rfl) rfl fun fr r => ?_
  refine seq_val (.agg (capC a2).toArray) r (fun R => y_load_agg r (cs := (capC a2)) (n := 2) rfl (hP.cell (i := 3) rfl) ta42 rfl) rfl fun fr r => ?_
  refine seq_val _ r (fun R => y_fieldAddr r (b := b1) (o := 0) (k := 1) rfl fo186_2) rfl fun fr r => ?_
  refine seq_val (.agg (accessC (T.acc a0.2)).toArray) r (fun R => y_load_agg r (cs := (accessC (T.acc a0.2))) (n := 4) rfl (hP.cell (i := 2) rfl) ta36 (Rep.acc_at (hP.prog (i := 0) rfl) h13)) rfl fun fr r => ?_
  obtain ⟨x16, hx16, hD⟩ := bindD_elim hD
  refine seq_call r (c_mem_Memory_Do w10 a1 a2 (T.acc a0.2) (hP.sep.pk [1] rfl rfl) hx16) (fun R hc => y_call r rfl cl135 hc) rfl ?_
  rintro _ w17 ⟨rfl, hq⟩
  refine ⟨_, rfl, fun fr r => ?_⟩
  have hP : Post (fun b => b ∈ (memK a1_g a1).own) [progK Tryz.prog encNone a0 a0_v a0_F, memK a1_g x16.2.2, cellC b1 a0_v.cells 186, cellC b5 ((capC a2)).toArray 42, cellC b9 (progCells false encNone.zero 0 0 0 0 .nilFunc) 186] w0 w17 := hP.setN (i := 1) rfl hq
  refine seq_val (.tuple #[(U x16.1), (.bool x16.2.1)]) r (fun R => y_move r rfl) rfl fun fr r => ?_
  refine seq_val (U x16.1) r (fun R => y_extract r (vs := #[(U x16.1), (.bool x16.2.1)]) rfl rfl) rfl fun fr r => ?_
  refine seq_val (.bool x16.2.1) r (fun R => y_extract r (vs := #[(U x16.1), (.bool x16.2.1)]) rfl rfl) rfl fun fr r => ?_
  refine seq_val (U x16.1) r (fun R => y_assign r rfl) rfl fun fr r => ?_
  refine seq_val (.bool x16.2.1) r (fun R => y_assign r rfl) rfl fun fr r => ?_
  refine wn ?_
  refine wp_seq ?_
  refine wsr ?_
  refine seq_val (.bool x16.2.1) r (fun R => y_move r rfl) rfl fun fr r => ?_
  refine seq_val (.bool (!x16.2.1)) r (fun R => y_un r (u := (.bool x16.2.1)) rfl rfl) rfl fun fr r => ?_
  refine wn ?_
  refine wp_cond_split (t := (!x16.2.1)) (r.ev rfl) (fun h18 => ?_) (fun h18 => ?_)
  ·
   have hD := (cond_t h18).symm.trans hD
   refine wsr ?_
   refine seq_val a0_v r (fun R => y_loadp r (hP.prog (i := 0) rfl).shape rfl (hP.cell (i := 2) rfl) ta186) rfl fun fr r => ?_
   refine seq_upd (.cells a0_v.cells 186 (0, 0)) r (fun R => y_storep r (hP.prog (i := 0) rfl).shape rfl rfl (hP.cell (i := 4) rfl) ts186 rfl) rfl fun fr w19 u20 r => ?_
   have hP : Post (fun b => b ∈ (memK a1_g a1).own) [progK Tryz.prog encNone a0 a0_v a0_F, memK a1_g x16.2.2, cellC b1 a0_v.cells 186, cellC b5 ((capC a2)).toArray 42, cellC b9 a0_v.cells 186] w0 w19 := hP.upd (i := 4) rfl u20
   refine seq_val (.bool false) r (fun R => y_assign r rfl) rfl fun fr r => ?_
   refine wn ?_
   refine wp_ret ?_
   have hv : (a0, false, x16.2.2) = res := Option.some.inj hD
   try dsimp only [Exit.then, Exit.inBlock]
   have hs := (hP.prog (i := 0) rfl).shape.cells
   refine ret_cell_tmp (fn := Tryz.f209) r rfl rfl (v' := (.bool false)) rfl (hP.cell (i := 4) rfl) (k := 6) hs.1 ta186 ?_
   rw [← hs.2.2]
   subst hv
   exact ⟨a0_v, a0_F, rfl, (hP.pick [1, 0] rfl rfl).done (rest_cons rfl (rest_consP (fun b h => .inl h) rest_nil))⟩
  ·
   have hD := (cond_f h18).symm.trans hD
   refine wp_skip ?_
   refine wsr ?_
   refine seq_val _ r (fun R => y_fieldAddr r (b := b1) (o := 0) (k := 5) rfl fo186_3) rfl fun fr r => ?_
   obtain ⟨nf21, n122, n223, hv24, hk25⟩ := Rep.next_at (hP.prog (i := 0) rfl) h13
   refine seq_val (.func (.func nf21) n122.toArray n223.toArray) r (fun R => y_load_one r rfl (hP.cell (i := 2) rfl) to184 hv24) rfl fun fr r => ?_
   refine seq_val (U x16.1) r (fun R => y_move r rfl) rfl fun fr r => ?_
   obtain ⟨x26, hx26, hD⟩ := bindD_elim hD
   refine seq_call r (hk25.at_.2 x26 (by rw [depthI_eq hx26]; exact Nat.lt_succ_self _) x16.1 w17 (Same.refl _ _) (Nat.le_refl _)) (fun R hc => y_callv1 r rfl rfl hk25.at_.1 hc) rfl ?_
   rintro _ w27 ⟨v28, rfl, hb, hr29⟩
   refine ⟨_, rfl, fun fr r => ?_⟩
   have zw27 := hP.size
   have hP : Post (fun b => b ∈ (memK a1_g a1).own) [progK Tryz.prog encNone a0 a0_v a0_F, memK a1_g x16.2.2, cellC b1 a0_v.cells 186, cellC b5 ((capC a2)).toArray 42, cellC b9 (progCells false encNone.zero 0 0 0 0 .nilFunc) 186, progK Tryz.prog encNone (x26, T.next a0.2 x16.1) v28 (a0_F ++ rg w17.heap.size w27.heap.size)] w0 w27 := hP.addProgF (k := 0) rfl hb hr29
   refine seq_upd (.cells v28.cells 186 (0, 0)) r (fun R => y_storep r (hP.prog (i := 5) rfl).shape rfl rfl (hP.cell (i := 4) rfl) ts186 rfl) rfl fun fr w31 u32 r => ?_
   have hP : Post (fun b => b ∈ (memK a1_g a1).own) [progK Tryz.prog encNone a0 a0_v a0_F, memK a1_g x16.2.2, cellC b1 a0_v.cells 186, cellC b5 ((capC a2)).toArray 42, cellC b9 v28.cells 186, progK Tryz.prog encNone (x26, T.next a0.2 x16.1) v28 (a0_F ++ rg w17.heap.size w27.heap.size)] w0 w31 := hP.upd (i := 4) rfl u32
   refine seq_val (.bool true) r (fun R => y_assign r rfl) rfl fun fr r => ?_
   refine wn ?_
   refine wp_ret ?_
   have hv : ((x26, T.next a0.2 x16.1), true, x16.2.2) = res := Option.some.inj hD
   try dsimp only [Exit.then, Exit.inBlock]
   have hs := (hP.prog (i := 5) rfl).shape.cells
   refine ret_cell_tmp (fn := Tryz.f209) r rfl rfl (v' := (.bool true)) rfl (hP.cell (i := 4) rfl) (k := 6) hs.1 ta186 ?_
   rw [← hs.2.2]
   subst hv
   exact ⟨v28, (a0_F ++ rg w17.heap.size w27.heap.size), rfl, (hP.pick [1, 5] rfl rfl).done (rest_cons rfl (rest_consP (fun b h => (List.mem_append.1 h).elim .inl (fun h => .inr (by have := (mem_rg.1 h).1; omega))) rest_nil))⟩

def D.prog_Run_None (fu : Nat) (a0 : Nat × T Unit) (a1 : Mem) (a2 : Cap) (a3 : Int) : Option (Unit × Int × Bool × Mem) := (loopThen (fun (x13 : Int × Mem × (Nat × T Unit)) => (Option.bind (bif (decide (x13.1 < a3)) then (some (!x13.2.2.2.isDone)) else (some false)) (fun (x19 : Bool) => (bif x19 then ((D.prog_Prog_None_Step fu x13.2.2 x13.2.1 a2).bind (fun (x23 : (Nat × T Unit) × Bool × Mem) => (bif (!x23.2.1) then (some (Lp.brk (x13.1, x23.2.2, x13.2.2))) else (some (Lp.next ((IntKind.i64.wrap (x13.1 + 1)), x23.2.2, x23.1)))))) else (some (Lp.brk (x13.1, x13.2.1, x13.2.2))))))) fu (0, a1, a0) (fun (x37 : Int × Mem × (Nat × T Unit)) => (some ((), x37.1, x37.2.2.2.isDone, x37.2.1))))

theorem c_prog_Run_None {fu : Nat} (w0 : World) {a0_v : Value} {a0_F : List Nat} (a0 : Nat × T Unit) {a1_g : MG} (a1 : Mem) (a2 : Cap) (a3 : Int) (hS : Sep [progK Tryz.prog encNone a0 a0_v a0_F, memK a1_g a1] w0) {res : Unit × Int × Bool × Mem} (hD : D.prog_Run_None fu a0 a1 a2 a3 = some res) :
    Calls Tryz.prog 110 #[a0_v, .pointer (some ⟨a1_g.mb, 0, none⟩), .agg (capC a2).toArray, .int .i64 a3] w0 (fun e w' => e = .returned (.tuple #[(.agg #[]), (.int .i64 res.2.1), (.bool res.2.2.1)]) ∧ Done (fun b => b ∈ (memK a1_g a1).own) No [memK a1_g res.2.2.2] w0 w') := by
 refine enter Tryz.func110 rfl 39 rfl rfl fun fr r => ?_
 have hP : Post (fun b => b ∈ (memK a1_g a1).own) [progK Tryz.prog encNone a0 a0_v a0_F, memK a1_g a1] w0 w0 := .start hS (by simp [memK, progK])
 unfold D.prog_Run_None at hD
 refine wsr ?_
 refine seq_new (.cells a0_v.cells 186 (0, 0)) r (fun R => y_box r (v := a0_v) rfl) rfl fun fr b1 w2 n3 r => ?_
 have hP : Post (fun b => b ∈ (memK a1_g a1).own) [progK Tryz.prog encNone a0 a0_v a0_F, memK a1_g a1, cellC b1 a0_v.cells 186] w0 w2 := hP.new n3
 refine seq_new (.cells ((capC a2)).toArray 42 (0, 0)) r (fun R => y_box r (v := (.agg (capC a2).toArray)) rfl) rfl fun fr b5 w6 n7 r => ?_
 have hP : Post (fun b => b ∈ (memK a1_g a1).own) [progK Tryz.prog encNone a0 a0_v a0_F, memK a1_g a1, cellC b1 a0_v.cells 186, cellC b5 ((capC a2)).toArray 42] w0 w6 := hP.new n7
 refine seq_new (.cells #[] 181 (0, 0)) r (fun R => y_alloc tz181) rfl fun fr b9 w10 n11 r => ?_
 have hP : Post (fun b => b ∈ (memK a1_g a1).own) [progK Tryz.prog encNone a0 a0_v a0_F, memK a1_g a1, cellC b1 a0_v.cells 186, cellC b5 ((capC a2)).toArray 42, cellC b9 #[] 181] w0 w10 := hP.new n11
 refine seq_val (I 0) r (fun R => y_assign r rfl) rfl fun fr r => ?_
 refine seq_val (.bool false) r (fun R => y_assign r rfl) rfl fun fr r => ?_
 refine wn ?_
 refine wsr ?_
 refine seq_val (I 0) r (fun R => y_assign r rfl) rfl fun fr r => ?_
 refine wn ?_
 refine wp_seq ?_
 refine wp_loopG (X := Int × Mem × (Nat × T Unit)) (G := Value × List Nat) (x0 := (0, a1, a0)) (fun x γ => [(0, a0_v), (1, (.pointer (some ⟨a1_g.mb, 0, none⟩))), (2, (.agg (capC a2).toArray)), (3, (I a3)), (4, (.pointer (some ⟨b1, 0, none⟩))), (6, (.pointer (some ⟨b5, 0, none⟩))), (8, (.pointer (some ⟨b9, 0, none⟩))), (9, (I 0)), (10, (.bool false)), (11, (I x.1))]) (fun x γ w => Post (fun b => b ∈ (memK a1_g a1).own) [progK Tryz.prog encNone x.2.2 γ.1 γ.2, memK a1_g x.2.1, cellC b1 γ.1.cells 186, cellC b5 ((capC a2)).toArray 42, cellC b9 #[] 181] w0 w) (a0_v, a0_F) r (hs_cons rfl (hs_cons rfl (hs_cons rfl (hs_cons rfl (hs_cons rfl (hs_cons rfl (hs_cons rfl (hs_cons rfl (hs_cons rfl (hs_cons rfl hs_nil)))))))))) hP hD ?_ ?_
 ·
  rintro x13 γ14 fr w16 g y15 RPy15 nxy15 bky15 rty15 r hP hD
  have hP : Post (fun b => b ∈ (memK a1_g a1).own) [progK Tryz.prog encNone x13.2.2 γ14.1 γ14.2, memK a1_g x13.2.1, cellC b1 γ14.1.cells 186, cellC b5 ((capC a2)).toArray 42, cellC b9 #[] 181] w0 w16 := hP
  refine wp_seq ?_
  refine wp_seq ?_
  refine wp_joinG (N := 39) (Y := Bool) (G := Unit) (fun x γ => [(0, a0_v), (1, (.pointer (some ⟨a1_g.mb, 0, none⟩))), (2, (.agg (capC a2).toArray)), (3, (I a3)), (4, (.pointer (some ⟨b1, 0, none⟩))), (6, (.pointer (some ⟨b5, 0, none⟩))), (8, (.pointer (some ⟨b9, 0, none⟩))), (9, (I 0)), (10, (.bool false)), (11, (I x13.1)), (21, (.bool x))]) (fun x γ w => Post (fun b => b ∈ (memK a1_g a1).own) [progK Tryz.prog encNone x13.2.2 γ14.1 γ14.2, memK a1_g x13.2.1, cellC b1 γ14.1.cells 186, cellC b5 ((capC a2)).toArray 42, cellC b9 #[] 181] w0 w) hD ?_ ?_
  ·
   rintro y17 RPy17 nxy17 hD
   refine wp_region_lit ?_
   refine seq_val (I x13.1) r (fun R => y_move r rfl) rfl fun fr r => ?_
   refine seq_val (I a3) r (fun R => y_move r rfl) rfl fun fr r => ?_
   refine seq_val _ r (fun R => y_bin r rfl rfl rfl rfl) rfl fun fr r => ?_
   refine seq_val (.bool (decide (x13.1 < a3))) r (fun R => y_move r rfl) rfl fun fr r => ?_
   refine seq_split (decide (x13.1 < a3)) (fun h18 => ?_) (fun h18 => ?_)
   ·
    have hD := (cond_t h18).symm.trans hD
    refine s1 r h18 ?_
    refine seq_val _ r (fun R => y_fieldAddr r (b := b1) (o := 0) (k := 0) rfl fo186_0) rfl fun fr r => ?_
    refine s1 r h18 ?_
    refine seq_val (.bool x13.2.2.2.isDone) r (fun R => y_load_one r rfl (hP.cell (i := 2) rfl) to4 (Rep.over_at (hP.prog (i := 0) rfl))) rfl fun fr r => ?_
    refine s1 r h18 ?_
    refine seq_val (.bool (!x13.2.2.2.isDone)) r (fun R => y_un r (u := (.bool x13.2.2.2.isDone)) rfl rfl) rfl fun fr r => ?_
    refine seq_val (.bool (!x13.2.2.2.isDone)) r (fun R => y_pick r (b := true) (congrArg Value.bool h18) rfl) rfl fun fr r => ?_
    refine wn ?_
    exact nxy17 (!x13.2.2.2.isDone) () _ _ _ hD r (hs_cons rfl (hs_cons rfl (hs_cons rfl (hs_cons rfl (hs_cons rfl (hs_cons rfl (hs_cons rfl (hs_cons rfl (hs_cons rfl (hs_cons rfl (hs_cons rfl hs_nil))))))))))) (hP.pick [0, 1, 2, 3, 4] rfl rfl)
   ·
    have hD := (cond_f h18).symm.trans hD
    refine s0 r h18 fun fr r => ?_
    refine s0 r h18 fun fr r => ?_
    refine s0 r h18 fun fr r => ?_
    refine seq_val (.bool false) r (fun R => y_pick r (b := false) (congrArg Value.bool h18) rfl) rfl fun fr r => ?_
    refine wn ?_
    exact nxy17 false () _ _ _ hD r (hs_cons rfl (hs_cons rfl (hs_cons rfl (hs_cons rfl (hs_cons rfl (hs_cons rfl (hs_cons rfl (hs_cons rfl (hs_cons rfl (hs_cons rfl (hs_cons rfl hs_nil))))))))))) (hP.pick [0, 1, 2, 3, 4] rfl rfl)
  ·
   rintro x19 γ20 fr w21 g r hP hD
   have hP : Post (fun b => b ∈ (memK a1_g a1).own) [progK Tryz.prog encNone x13.2.2 γ14.1 γ14.2, memK a1_g x13.2.1, cellC b1 γ14.1.cells 186, cellC b5 ((capC a2)).toArray 42, cellC b9 #[] 181] w0 w21 := hP
   refine wp_cond_split (t := x19) (r.ev rfl) (fun h22 => ?_) (fun h22 => ?_)
   ·
    have hD := (cond_t h22).symm.trans hD
    refine wp_skip ?_
    refine wp_block ?_
    refine wsr ?_
    refine seq_val γ14.1 r (fun R => y_loadp r (hP.prog (i := 0) rfl).shape rfl (hP.cell (i := 2) rfl) ta186) rfl fun fr r => ?_
    refine seq_val (.pointer (some ⟨a1_g.mb, 0, none⟩)) r (fun R => y_move r rfl) rfl fun fr r => ?_
    refine seq_val (.agg (capC a2).toArray) r (fun R => y_load_agg r (cs := (capC a2)) (n := 2) rfl (hP.cell (i := 3) rfl) ta42 rfl) rfl fun fr r => ?_
    obtain ⟨x23, hx23, hD⟩ := bindD_elim hD
    refine seq_call r (c_prog_Prog_None_Step w21 x13.2.2 x13.2.1 a2 (hP.sep.pk [0, 1] rfl rfl) hx23) (fun R hc => y_call r rfl cl209 hc) rfl ?_
    rintro _ w24 ⟨v25, F26, rfl, hq⟩
    refine ⟨_, rfl, fun fr r => ?_⟩
    have hP : Post (fun b => b ∈ (memK a1_g a1).own) [progK Tryz.prog encNone x13.2.2 γ14.1 γ14.2, memK a1_g x23.2.2, cellC b1 γ14.1.cells 186, cellC b5 ((capC a2)).toArray 42, cellC b9 #[] 181, progK Tryz.prog encNone x23.1 v25 F26] w0 w24 := hP.setR (i := 1) (k := 0) rfl rfl rfl hq
    refine seq_val (.tuple #[v25, (.bool x23.2.1)]) r (fun R => y_move r rfl) rfl fun fr r => ?_
    refine seq_val v25 r (fun R => y_extract r (vs := #[v25, (.bool x23.2.1)]) rfl rfl) rfl fun fr r => ?_
    refine seq_val (.bool x23.2.1) r (fun R => y_extract r (vs := #[v25, (.bool x23.2.1)]) rfl rfl) rfl fun fr r => ?_
    refine seq_new (.cells (progCells false encNone.zero 0 0 0 0 .nilFunc) 186 (0, 0)) r (fun R => y_alloc tz186) rfl fun fr b28 w29 n30 r => ?_
    have hP : Post (fun b => b ∈ (memK a1_g a1).own) [progK Tryz.prog encNone x13.2.2 γ14.1 γ14.2, memK a1_g x23.2.2, cellC b1 γ14.1.cells 186, cellC b5 ((capC a2)).toArray 42, cellC b9 #[] 181, progK Tryz.prog encNone x23.1 v25 F26, cellC b28 (progCells false encNone.zero 0 0 0 0 .nilFunc) 186] w0 w29 := hP.new n30
    refine seq_upd (.cells v25.cells 186 (0, 0)) r (fun R => y_storep r (hP.prog (i := 5) rfl).shape rfl rfl (hP.cell (i := 6) rfl) ts186 rfl) rfl fun fr w32 u33 r => ?_
    have hP : Post (fun b => b ∈ (memK a1_g a1).own) [progK Tryz.prog encNone x13.2.2 γ14.1 γ14.2, memK a1_g x23.2.2, cellC b1 γ14.1.cells 186, cellC b5 ((capC a2)).toArray 42, cellC b9 #[] 181, progK Tryz.prog encNone x23.1 v25 F26, cellC b28 v25.cells 186] w0 w32 := hP.upd (i := 6) rfl u33
    refine seq_val (.bool x23.2.1) r (fun R => y_assign r rfl) rfl fun fr r => ?_
    refine wn ?_
    refine wp_seq ?_
    refine wsr ?_
    refine seq_val (.bool x23.2.1) r (fun R => y_move r rfl) rfl fun fr r => ?_
    refine seq_val (.bool (!x23.2.1)) r (fun R => y_un r (u := (.bool x23.2.1)) rfl rfl) rfl fun fr r => ?_
    refine wn ?_
    refine wp_cond_split (t := (!x23.2.1)) (r.ev rfl) (fun h34 => ?_) (fun h34 => ?_)
    ·
     have hD := (cond_t h34).symm.trans hD
     refine wp_exit ?_
     exact bky15 (x13.1, x23.2.2, x13.2.2) (γ14.1, γ14.2) _ _ _ hD r (hs_cons rfl (hs_cons rfl (hs_cons rfl (hs_cons rfl (hs_cons rfl (hs_cons rfl (hs_cons rfl (hs_cons rfl (hs_cons rfl (hs_cons rfl hs_nil)))))))))) (hP.pick [0, 1, 2, 3, 4] rfl rfl)
    ·
     have hD := (cond_f h34).symm.trans hD
     refine wp_skip ?_
     refine wsr ?_
     refine seq_val v25 r (fun R => y_loadp r (hP.prog (i := 5) rfl).shape rfl (hP.cell (i := 6) rfl) ta186) rfl fun fr r => ?_
     refine seq_upd (.cells v25.cells 186 (0, 0)) r (fun R => y_storep r (hP.prog (i := 5) rfl).shape rfl rfl (hP.cell (i := 2) rfl) ts186 (by have h := (hP.prog (i := 0) rfl).shape.cells.1; simpa using h)) rfl fun fr w35 u36 r => ?_
     have hP : Post (fun b => b ∈ (memK a1_g a1).own) [progK Tryz.prog encNone x13.2.2 γ14.1 γ14.2, memK a1_g x23.2.2, cellC b1 v25.cells 186, cellC b5 ((capC a2)).toArray 42, cellC b9 #[] 181, progK Tryz.prog encNone x23.1 v25 F26, cellC b28 v25.cells 186] w0 w35 := hP.upd (i := 2) rfl u36
     refine wn ?_
     refine wp_region_lit ?_
     refine seq_val (I x13.1) r (fun R => y_move r rfl) rfl fun fr r => ?_
     refine seq_val _ r (fun R => y_bin r rfl rfl rfl rfl) rfl fun fr r => ?_
     refine seq_val (I (W (x13.1 + 1))) r (fun R => y_assign r rfl) rfl fun fr r => ?_
     refine wn ?_
     exact nxy15 ((W (x13.1 + 1)), x23.2.2, x23.1) (v25, F26) _ _ _ hD r (hs_cons rfl (hs_cons rfl (hs_cons rfl (hs_cons rfl (hs_cons rfl (hs_cons rfl (hs_cons rfl (hs_cons rfl (hs_cons rfl (hs_cons rfl hs_nil)))))))))) (hP.pick [5, 1, 2, 3, 4] rfl rfl)
   ·
    have hD := (cond_f h22).symm.trans hD
    refine wp_exit ?_
    exact bky15 (x13.1, x13.2.1, x13.2.2) (γ14.1, γ14.2) _ _ _ hD r (hs_cons rfl (hs_cons rfl (hs_cons rfl (hs_cons rfl (hs_cons rfl (hs_cons rfl (hs_cons rfl (hs_cons rfl (hs_cons rfl (hs_cons rfl hs_nil)))))))))) (hP.pick [0, 1, 2, 3, 4] rfl rfl)
 ·
  rintro x37 γ38 fr w39 g r hP hD
  have hP : Post (fun b => b ∈ (memK a1_g a1).own) [progK Tryz.prog encNone x37.2.2 γ38.1 γ38.2, memK a1_g x37.2.1, cellC b1 γ38.1.cells 186, cellC b5 ((capC a2)).toArray 42, cellC b9 #[] 181] w0 w39 := hP
  refine wp_seq ?_
  refine wp_freeE [b9] [.pred (fun v _ _ _ => ∃ sp, v = .pointer (some ⟨b1, 1, sp⟩)) (fun _ _ _ _ _ h _ => h), .val (.agg #[]), .val (I x37.1), .val (.pointer (some ⟨b1, 0, none⟩)), .val (.bool x37.2.2.2.isDone), .eff (EffP w39.heap.size (cellC b9 #[] 181) (fun _ : Unit => undef) (fun _ : Unit => [])) (EffP.st _ _ _ _), .val (I x37.1), .val (.bool x37.2.2.2.isDone)] mixed r (fun b hb => hP.sep.lt (i := 4) rfl (.inl hb)) (by kernel_rfl) ?_ ?_
  ·
   refine eachE_early r rfl (by kernel_rfl) (fun fr1 g w' hb' hd r' => ?_) ?_
   · exact y_fieldAddrZ r' rfl fz186 ((hP.below (dr hb')).cell (i := 2) rfl) (fun sp => ⟨Below.refl _ _, sp, rfl⟩)
   refine eachE_early r rfl (by kernel_rfl) (fun fr1 g w' hb' hd r' => ?_) ?_
   · obtain ⟨sp, hsp⟩ := (hd 0 rfl).1; exact y_load_zero r' hsp ta181 ⟨Below.refl _ _, rfl⟩
   refine eachE_late r rfl (fun fr1 g w' hk' hd r' => ?_) ?_
   · exact y_move r' (v := (I x37.1)) rfl ⟨Below.refl _ _, rfl⟩
   refine eachE_late r rfl (fun fr1 g w' hk' hd r' => ?_) ?_
   · exact y_fieldAddr r' (b := b1) (o := 0) (k := 0) rfl fo186_0 ⟨Below.refl _ _, rfl⟩
   refine eachE_late r rfl (fun fr1 g w' hk' hd r' => ?_) ?_
   · exact y_load_one r' (v := (.bool x37.2.2.2.isDone)) (hd 3 rfl).1 (hP.cellK (j := 4) rfl (drK hk') (i := 2) rfl rfl) to4 (Rep.over_at (show Rep _ _ _ _ _ _ _ from hP.okK (j := 4) rfl (drK hk') (i := 0) rfl rfl)) ⟨Below.refl _ _, rfl⟩
   refine eachE_early r rfl (by kernel_rfl) (fun fr1 g w' hb' hd r' => ?_) ?_
   · exact y_store r' (o := 0) (v := (.agg #[])) rfl (hd 1 rfl).1 ((hP.below (dr hb')).cell (i := 4) rfl) ts181 (Nat.le_of_ble_eq_true rfl) rfl rfl (fun w2 u2 => ⟨u2.kept, (), rfl, u2.at_, (fun b hb => hP.sep.lt (i := 4) rfl hb), fresh_nil⟩)
   refine eachE_late r rfl (fun fr1 g w' hk' hd r' => ?_) ?_
   · exact y_assign r' (v := (I x37.1)) (hd 2 rfl).1 ⟨Below.refl _ _, rfl⟩
   refine eachE_late r rfl (fun fr1 g w' hk' hd r' => ?_) ?_
   · exact y_assign r' (v := (.bool x37.2.2.2.isDone)) (hd 4 rfl).1 ⟨Below.refl _ _, rfl⟩
   exact eachF_nil
  ·
   intro fr gg w40 hb hΦ hap r
   obtain ⟨⟨⟩, g5, hcE, _, hs5⟩ := (hΦ 5 rfl).1
   have r := r.congr (sc ((hΦ 7 rfl).1) (sc ((hΦ 6 rfl).1) (sc ((hΦ 4 rfl).1) (sc ((hΦ 3 rfl).1) (sc ((hΦ 2 rfl).1) (sc ((hΦ 1 rfl).1) (sc rfl rfl)))))))
   have hP : Post (fun b => b ∈ (memK a1_g a1).own) [progK Tryz.prog encNone x37.2.2 γ38.1 γ38.2, memK a1_g x37.2.1, cellC b1 γ38.1.cells 186, cellC b5 ((capC a2)).toArray 42, cellC b9 #[] 181] w0 w40 := hP.effL (i := 4) (l := []) rfl hb hcE rfl rfl trivial
   refine wp_ret ?_
   have hv : ((), x37.1, x37.2.2.2.isDone, x37.2.1) = res := Option.some.inj hD
   try dsimp only [Exit.then, Exit.inBlock]
   refine ret_cell_tmp2 (fn := Tryz.f110) r rfl rfl (v' := (I x37.1)) (v2 := (.bool x37.2.2.2.isDone)) rfl rfl (hP.cell (i := 4) rfl) (k := 0) rfl ta181 ?_
   subst hv
   exact ⟨rfl, (hP.pick [1] rfl rfl).done (rest_cons rfl rest_nil)⟩

def D.prog_Prog_Res_Step (fu : Nat) (a0 : Nat × T Res) (a1 : Mem) (a2 : Cap) : Option ((Nat × T Res) × Bool × Mem) := (bif a0.2.isDone then (some (a0, false, a1)) else ((D.mem_Memory_Do fu a1 a2 (T.acc a0.2)).bind (fun (x16 : Int × Bool × Mem) => (bif (!x16.2.1) then (some (a0, false, x16.2.2)) else ((depthI a0.1).bind (fun (x26 : Nat) => (some ((x26, T.next a0.2 x16.1), true, x16.2.2))))))))

theorem c_prog_Prog_Res_Step {fu : Nat} (w0 : World) {a0_v : Value} {a0_F : List Nat} (a0 : Nat × T Res) {a1_g : MG} (a1 : Mem) (a2 : Cap) (hS : Sep [progK Tryz.prog encRes a0 a0_v a0_F, memK a1_g a1] w0) {res : (Nat × T Res) × Bool × Mem} (hD : D.prog_Prog_Res_Step fu a0 a1 a2 = some res) :
    Calls Tryz.prog 37 #[a0_v, .pointer (some ⟨a1_g.mb, 0, none⟩), .agg (capC a2).toArray] w0 (fun e w' => ∃ (v0 : Value) (F0 : List Nat), e = .returned (.tuple #[v0, (.bool res.2.1)]) ∧ Done (fun b => b ∈ (memK a1_g a1).own) (fun b => b ∈ a0_F) [memK a1_g res.2.2, progK Tryz.prog encRes res.1 v0 F0] w0 w') := by
 refine enter Tryz.func37 rfl 28 rfl rfl fun fr r => ?_
 have hP : Post (fun b => b ∈ (memK a1_g a1).own) [progK Tryz.prog encRes a0 a0_v a0_F, memK a1_g a1] w0 w0 := .start hS (by simp [memK, progK])
 unfold D.prog_Prog_Res_Step at hD
 refine wsr ?_
 refine seq_new (.cells a0_v.cells 39 (0, 0)) r (fun R => y_box r (v := a0_v) rfl) rfl fun fr b1 w2 n3 r => ?_
 have hP : Post (fun b => b ∈ (memK a1_g a1).own) [progK Tryz.prog encRes a0 a0_v a0_F, memK a1_g a1, cellC b1 a0_v.cells 39] w0 w2 := hP.new n3
 refine seq_new (.cells ((capC a2)).toArray 42 (0, 0)) r (fun R => y_box r (v := (.agg (capC a2).toArray)) rfl) rfl fun fr b5 w6 n7 r => ?_
 have hP : Post (fun b => b ∈ (memK a1_g a1).own) [progK Tryz.prog encRes a0 a0_v a0_F, memK a1_g a1, cellC b1 a0_v.cells 39, cellC b5 ((capC a2)).toArray 42] w0 w6 := hP.new n7
 refine seq_new (.cells (progCells false encRes.zero 0 0 0 0 .nilFunc) 39 (0, 0)) r (fun R => y_alloc tz39) rfl fun fr b9 w10 n11 r => ?_
 have hP : Post (fun b => b ∈ (memK a1_g a1).own) [progK Tryz.prog encRes a0 a0_v a0_F, memK a1_g a1, cellC b1 a0_v.cells 39, cellC b5 ((capC a2)).toArray 42, cellC b9 (progCells false encRes.zero 0 0 0 0 .nilFunc) 39] w0 w10 := hP.new n11
 refine seq_val (.bool false) r (fun R => y_assign r rfl) rfl fun fr r => ?_
 refine wn ?_
 refine wp_seq ?_
 refine wsr ?_
 refine seq_val _ r (fun R => y_fieldAddr r (b := b1) (o := 0) (k := 0) rfl fo39_0) rfl fun fr r => ?_
 refine seq_val (.bool a0.2.isDone) r (fun R => y_load_one r rfl (hP.cell (i := 2) rfl) to4 (Rep.over_at (hP.prog (i := 0) rfl))) rfl fun fr r => ?_
 refine wn ?_
 refine wp_cond_split (t := a0.2.isDone) (r.ev rfl) (fun h13 => ?_) (fun h13 => ?_)
 ·
  have hD := (cond_t h13).symm.trans hD
  refine wsr ?_
  refine seq_val a0_v r (fun R => y_loadp r (hP.prog (i := 0) rfl).shape rfl (hP.cell (i := 2) rfl) ta39) rfl fun fr r => ?_
  refine seq_upd (.cells a0_v.cells 39 (0, 0)) r (fun R => y_storep r (hP.prog (i := 0) rfl).shape rfl rfl (hP.cell (i := 4) rfl) ts39 rfl) rfl fun fr w14 u15 r => ?_
  have hP : Post (fun b => b ∈ (memK a1_g a1).own) [progK Tryz.prog encRes a0 a0_v a0_F, memK a1_g a1, cellC b1 a0_v.cells 39, cellC b5 ((capC a2)).toArray 42, cellC b9 a0_v.cells 39] w0 w14 := hP.upd (i := 4) rfl u15
  refine seq_val (.bool false) r (fun R => y_assign r rfl) rfl fun fr r => ?_
  refine wn ?_
  refine wp_ret ?_
  have hv : (a0, false, a1) = res := Option.some.inj hD
  try dsimp only [Exit.then, Exit.inBlock]
  have hs := (hP.prog (i := 0) rfl).shape.cells
  refine ret_cell_tmp (fn := Tryz.f37) r rfl rfl (v' := (.bool false)) rfl (hP.cell (i := 4) rfl) (k := 8) hs.1 ta39 ?_
  rw [← hs.2.2]
  subst hv
  exact ⟨a0_v, a0_F, rfl, (hP.pick [1, 0] rfl rfl).done (rest_cons rfl (rest_consP (fun b h => .inl h) rest_nil))⟩
 ·
  have hD := (cond_f h13).symm.trans hD
  refine wp_skip ?_
  refine wsr ?_
  refine seq_val (.pointer (some ⟨a1_g.mb, 0, none⟩)) r (fun R => y_move r rfl) rfl fun fr r => ?_
  refine seq_val (.agg (capC a2).toArray) r (fun R => y_load_agg r (cs := (capC a2)) (n := 2) rfl (hP.cell (i := 3) rfl) ta42 rfl) rfl fun fr r => ?_
  refine seq_val _ r (fun R => y_fieldAddr r (b := b1) (o := 0) (k := 3) rfl fo39_2) rfl fun fr r => ?_
  refine seq_val (.agg (accessC (T.acc a0.2)).toArray) r (fun R => y_load_agg r (cs := (accessC (T.acc a0.2))) (n := 4) rfl (hP.cell (i := 2) rfl) ta36 (Rep.acc_at (hP.prog (i := 0) rfl) h13)) rfl fun fr r => ?_
  obtain ⟨x16, hx16, hD⟩ := bindD_elim hD
  refine seq_call r (c_mem_Memory_Do w10 a1 a2 (T.acc a0.2) (hP.sep.pk [1] rfl rfl) hx16) (fun R hc => y_call r rfl cl135 hc) rfl ?_
  rintro _ w17 ⟨rfl, hq⟩
  refine ⟨_, rfl, fun fr r => ?_⟩
  have hP : Post (fun b => b ∈ (memK a1_g a1).own) [progK Tryz.prog encRes a0 a0_v a0_F, memK a1_g x16.2.2, cellC b1 a0_v.cells 39, cellC b5 ((capC a2)).toArray 42, cellC b9 (progCells false encRes.zero 0 0 0 0 .nilFunc) 39] w0 w17 := hP.setN (i := 1) rfl hq
  refine seq_val (.tuple #[(U x16.1), (.bool x16.2.1)]) r (fun R => y_move r rfl) rfl fun fr r => ?_
  refine seq_val (U x16.1) r (fun R => y_extract r (vs := #[(U x16.1), (.bool x16.2.1)]) rfl rfl) rfl fun fr r => ?_
  refine seq_val (.bool x16.2.1) r (fun R => y_extract r (vs := #[(U x16.1), (.bool x16.2.1)]) rfl rfl) rfl fun fr r => ?_
  refine seq_val (U x16.1) r (fun R => y_assign r rfl) rfl fun fr r => ?_
  refine seq_val (.bool x16.2.1) r (fun R => y_assign r rfl) rfl fun fr r => ?_
  refine wn ?_
  refine wp_seq ?_
  refine wsr ?_
  refine seq_val (.bool x16.2.1) r (fun R => y_move r rfl) rfl fun fr r => ?_
  refine seq_val (.bool (!x16.2.1)) r (fun R => y_un r (u := (.bool x16.2.1)) rfl rfl) rfl fun fr r => ?_
  refine wn ?_
  refine wp_cond_split (t := (!x16.2.1)) (r.ev rfl) (fun h18 => ?_) (fun h18 => ?_)
  ·
   have hD := (cond_t h18).symm.trans hD
   refine wsr ?_
   refine seq_val a0_v r (fun R => y_loadp r (hP.prog (i := 0) rfl).shape rfl (hP.cell (i := 2) rfl) ta39) rfl fun fr r => ?_
   refine seq_upd (.cells a0_v.cells 39 (0, 0)) r (fun R => y_storep r (hP.prog (i := 0) rfl).shape rfl rfl (hP.cell (i := 4) rfl) ts39 rfl) rfl fun fr w19 u20 r => ?_
   have hP : Post (fun b => b ∈ (memK a1_g a1).own) [progK Tryz.prog encRes a0 a0_v a0_F, memK a1_g x16.2.2, cellC b1 a0_v.cells 39, cellC b5 ((capC a2)).toArray 42, cellC b9 a0_v.cells 39] w0 w19 := hP.upd (i := 4) rfl u20
   refine seq_val (.bool false) r (fun R => y_assign r rfl) rfl fun fr r => ?_
   refine wn ?_
   refine wp_ret ?_
   have hv : (a0, false, x16.2.2) = res := Option.some.inj hD
   try dsimp only [Exit.then, Exit.inBlock]
   have hs := (hP.prog (i := 0) rfl).shape.cells
   refine ret_cell_tmp (fn := Tryz.f37) r rfl rfl (v' := (.bool false)) rfl (hP.cell (i := 4) rfl) (k := 8) hs.1 ta39 ?_
   rw [← hs.2.2]
   subst hv
   exact ⟨a0_v, a0_F, rfl, (hP.pick [1, 0] rfl rfl).done (rest_cons rfl (rest_consP (fun b h => .inl h) rest_nil))⟩
  ·
   have hD := (cond_f h18).symm.trans hD
   refine wp_skip ?_
   refine wsr ?_
   refine seq_val _ r (fun R => y_fieldAddr r (b := b1) (o := 0) (k := 7) rfl fo39_3) rfl fun fr r => ?_
   obtain ⟨nf21, n122, n223, hv24, hk25⟩ := Rep.next_at (hP.prog (i := 0) rfl) h13
   refine seq_val (.func (.func nf21) n122.toArray n223.toArray) r (fun R => y_load_one r rfl (hP.cell (i := 2) rfl) to37 hv24) rfl fun fr r => ?_
   refine seq_val (U x16.1) r (fun R => y_move r rfl) rfl fun fr r => ?_
   obtain ⟨x26, hx26, hD⟩ := bindD_elim hD
   refine seq_call r (hk25.at_.2 x26 (by rw [depthI_eq hx26]; exact Nat.lt_succ_self _) x16.1 w17 (Same.refl _ _) (Nat.le_refl _)) (fun R hc => y_callv1 r rfl rfl hk25.at_.1 hc) rfl ?_
   rintro _ w27 ⟨v28, rfl, hb, hr29⟩
   refine ⟨_, rfl, fun fr r => ?_⟩
   have zw27 := hP.size
   have hP : Post (fun b => b ∈ (memK a1_g a1).own) [progK Tryz.prog encRes a0 a0_v a0_F, memK a1_g x16.2.2, cellC b1 a0_v.cells 39, cellC b5 ((capC a2)).toArray 42, cellC b9 (progCells false encRes.zero 0 0 0 0 .nilFunc) 39, progK Tryz.prog encRes (x26, T.next a0.2 x16.1) v28 (a0_F ++ rg w17.heap.size w27.heap.size)] w0 w27 := hP.addProgF (k := 0) rfl hb hr29
   refine seq_upd (.cells v28.cells 39 (0, 0)) r (fun R => y_storep r (hP.prog (i := 5) rfl).shape rfl rfl (hP.cell (i := 4) rfl) ts39 rfl) rfl fun fr w31 u32 r => ?_
   have hP : Post (fun b => b ∈ (memK a1_g a1).own) [progK Tryz.prog encRes a0 a0_v a0_F, memK a1_g x16.2.2, cellC b1 a0_v.cells 39, cellC b5 ((capC a2)).toArray 42, cellC b9 v28.cells 39, progK Tryz.prog encRes (x26, T.next a0.2 x16.1) v28 (a0_F ++ rg w17.heap.size w27.heap.size)] w0 w31 := hP.upd (i := 4) rfl u32
   refine seq_val (.bool true) r (fun R => y_assign r rfl) rfl fun fr r => ?_
   refine wn ?_
   refine wp_ret ?_
   have hv : ((x26, T.next a0.2 x16.1), true, x16.2.2) = res := Option.some.inj hD
   try dsimp only [Exit.then, Exit.inBlock]
   have hs := (hP.prog (i := 5) rfl).shape.cells
   refine ret_cell_tmp (fn := Tryz.f37) r rfl rfl (v' := (.bool true)) rfl (hP.cell (i := 4) rfl) (k := 8) hs.1 ta39 ?_
   rw [← hs.2.2]
   subst hv
   exact ⟨v28, (a0_F ++ rg w17.heap.size w27.heap.size), rfl, (hP.pick [1, 5] rfl rfl).done (rest_cons rfl (rest_consP (fun b h => (List.mem_append.1 h).elim .inl (fun h => .inr (by have := (mem_rg.1 h).1; omega))) rest_nil))⟩

def D.prog_Run_Res (fu : Nat) (a0 : Nat × T Res) (a1 : Mem) (a2 : Cap) (a3 : Int) : Option (Res × Int × Bool × Mem) := (loopThen (fun (x13 : Int × Mem × (Nat × T Res)) => (Option.bind (bif (decide (x13.1 < a3)) then (some (!x13.2.2.2.isDone)) else (some false)) (fun (x19 : Bool) => (bif x19 then ((D.prog_Prog_Res_Step fu x13.2.2 x13.2.1 a2).bind (fun (x23 : (Nat × T Res) × Bool × Mem) => (bif (!x23.2.1) then (some (Lp.brk (x13.1, x23.2.2, x13.2.2))) else (some (Lp.next ((IntKind.i64.wrap (x13.1 + 1)), x23.2.2, x23.1)))))) else (some (Lp.brk (x13.1, x13.2.1, x13.2.2))))))) fu (0, a1, a0) (fun (x37 : Int × Mem × (Nat × T Res)) => (some ((T.res (⟨0, 0⟩ : Res) x37.2.2.2), x37.1, x37.2.2.2.isDone, x37.2.1))))

theorem c_prog_Run_Res {fu : Nat} (w0 : World) {a0_v : Value} {a0_F : List Nat} (a0 : Nat × T Res) {a1_g : MG} (a1 : Mem) (a2 : Cap) (a3 : Int) (hS : Sep [progK Tryz.prog encRes a0 a0_v a0_F, memK a1_g a1] w0) {res : Res × Int × Bool × Mem} (hD : D.prog_Run_Res fu a0 a1 a2 a3 = some res) :
    Calls Tryz.prog 29 #[a0_v, .pointer (some ⟨a1_g.mb, 0, none⟩), .agg (capC a2).toArray, .int .i64 a3] w0 (fun e w' => e = .returned (.tuple #[(.agg (resC res.1).toArray), (.int .i64 res.2.1), (.bool res.2.2.1)]) ∧ Done (fun b => b ∈ (memK a1_g a1).own) No [memK a1_g res.2.2.2] w0 w') := by
 refine enter Tryz.func29 rfl 39 rfl rfl fun fr r => ?_
 have hP : Post (fun b => b ∈ (memK a1_g a1).own) [progK Tryz.prog encRes a0 a0_v a0_F, memK a1_g a1] w0 w0 := .start hS (by simp [memK, progK])
 unfold D.prog_Run_Res at hD
 refine wsr ?_
 refine seq_new (.cells a0_v.cells 39 (0, 0)) r (fun R => y_box r (v := a0_v) rfl) rfl fun fr b1 w2 n3 r => ?_
 have hP : Post (fun b => b ∈ (memK a1_g a1).own) [progK Tryz.prog encRes a0 a0_v a0_F, memK a1_g a1, cellC b1 a0_v.cells 39] w0 w2 := hP.new n3
 refine seq_new (.cells ((capC a2)).toArray 42 (0, 0)) r (fun R => y_box r (v := (.agg (capC a2).toArray)) rfl) rfl fun fr b5 w6 n7 r => ?_
 have hP : Post (fun b => b ∈ (memK a1_g a1).own) [progK Tryz.prog encRes a0 a0_v a0_F, memK a1_g a1, cellC b1 a0_v.cells 39, cellC b5 ((capC a2)).toArray 42] w0 w6 := hP.new n7
 refine seq_new (.cells ((resC (⟨0, 0⟩ : Res))).toArray 32 (0, 0)) r (fun R => y_alloc tz32) rfl fun fr b9 w10 n11 r => ?_
 have hP : Post (fun b => b ∈ (memK a1_g a1).own) [progK Tryz.prog encRes a0 a0_v a0_F, memK a1_g a1, cellC b1 a0_v.cells 39, cellC b5 ((capC a2)).toArray 42, cellC b9 ((resC (⟨0, 0⟩ : Res))).toArray 32] w0 w10 := hP.new n11
 refine seq_val (I 0) r (fun R => y_assign r rfl) rfl fun fr r => ?_
 refine seq_val (.bool false) r (fun R => y_assign r rfl) rfl fun fr r => ?_
 refine wn ?_
 refine wsr ?_
 refine seq_val (I 0) r (fun R => y_assign r rfl) rfl fun fr r => ?_
 refine wn ?_
 refine wp_seq ?_
 refine wp_loopG (X := Int × Mem × (Nat × T Res)) (G := Value × List Nat) (x0 := (0, a1, a0)) (fun x γ => [(0, a0_v), (1, (.pointer (some ⟨a1_g.mb, 0, none⟩))), (2, (.agg (capC a2).toArray)), (3, (I a3)), (4, (.pointer (some ⟨b1, 0, none⟩))), (6, (.pointer (some ⟨b5, 0, none⟩))), (8, (.pointer (some ⟨b9, 0, none⟩))), (9, (I 0)), (10, (.bool false)), (11, (I x.1))]) (fun x γ w => Post (fun b => b ∈ (memK a1_g a1).own) [progK Tryz.prog encRes x.2.2 γ.1 γ.2, memK a1_g x.2.1, cellC b1 γ.1.cells 39, cellC b5 ((capC a2)).toArray 42, cellC b9 ((resC (⟨0, 0⟩ : Res))).toArray 32] w0 w) (a0_v, a0_F) r (hs_cons rfl (hs_cons rfl (hs_cons rfl (hs_cons rfl (hs_cons rfl (hs_cons rfl (hs_cons rfl (hs_cons rfl (hs_cons rfl (hs_cons rfl hs_nil)))))))))) hP hD ?_ ?_
 ·
  rintro x13 γ14 fr w16 g y15 RPy15 nxy15 bky15 rty15 r hP hD
  have hP : Post (fun b => b ∈ (memK a1_g a1).own) [progK Tryz.prog encRes x13.2.2 γ14.1 γ14.2, memK a1_g x13.2.1, cellC b1 γ14.1.cells 39, cellC b5 ((capC a2)).toArray 42, cellC b9 ((resC (⟨0, 0⟩ : Res))).toArray 32] w0 w16 := hP
  refine wp_seq ?_
  refine wp_seq ?_
  refine wp_joinG (N := 39) (Y := Bool) (G := Unit) (fun x γ => [(0, a0_v), (1, (.pointer (some ⟨a1_g.mb, 0, none⟩))), (2, (.agg (capC a2).toArray)), (3, (I a3)), (4, (.pointer (some ⟨b1, 0, none⟩))), (6, (.pointer (some ⟨b5, 0, none⟩))), (8, (.pointer (some ⟨b9, 0, none⟩))), (9, (I 0)), (10, (.bool false)), (11, (I x13.1)), (21, (.bool x))]) (fun x γ w => Post (fun b => b ∈ (memK a1_g a1).own) [progK Tryz.prog encRes x13.2.2 γ14.1 γ14.2, memK a1_g x13.2.1, cellC b1 γ14.1.cells 39, cellC b5 ((capC a2)).toArray 42, cellC b9 ((resC (⟨0, 0⟩ : Res))).toArray 32] w0 w) hD ?_ ?_
  ·
   rintro y17 RPy17 nxy17 hD
   refine wp_region_lit ?_
   refine seq_val (I x13.1) r (fun R => y_move r rfl) rfl fun fr r => ?_
   refine seq_val (I a3) r (fun R => y_move r rfl) rfl fun fr r => ?_
   refine seq_val _ r (fun R => y_bin r rfl rfl rfl rfl) rfl fun fr r => ?_
   refine seq_val (.bool (decide (x13.1 < a3))) r (fun R => y_move r rfl) rfl fun fr r => ?_
   refine seq_split (decide (x13.1 < a3)) (fun h18 => ?_) (fun h18 => ?_)
   ·
    have hD := (cond_t h18).symm.trans hD
    refine s1 r h18 ?_
    refine seq_val _ r (fun R => y_fieldAddr r (b := b1) (o := 0) (k := 0) rfl fo39_0) rfl fun fr r => ?_
    refine s1 r h18 ?_
    refine seq_val (.bool x13.2.2.2.isDone) r (fun R => y_load_one r rfl (hP.cell (i := 2) rfl) to4 (Rep.over_at (hP.prog (i := 0) rfl))) rfl fun fr r => ?_
    refine s1 r h18 ?_
    refine seq_val (.bool (!x13.2.2.2.isDone)) r (fun R => y_un r (u := (.bool x13.2.2.2.isDone)) rfl rfl) rfl fun fr r => ?_
    refine seq_val (.bool (!x13.2.2.2.isDone)) r (fun R => y_pick r (b := true) (congrArg Value.bool h18) rfl) rfl fun fr r => ?_
    refine wn ?_
    exact nxy17 (!x13.2.2.2.isDone) () _ _ _ hD r (hs_cons rfl (hs_cons rfl (hs_cons rfl (hs_cons rfl (hs_cons rfl (hs_cons rfl (hs_cons rfl (hs_cons rfl (hs_cons rfl (hs_cons rfl (hs_cons rfl hs_nil))))))))))) (hP.pick [0, 1, 2, 3, 4] rfl rfl)
   ·
    have hD := (cond_f h18).symm.trans hD
    refine s0 r h18 fun fr r => ?_
    refine s0 r h18 fun fr r => ?_
    refine s0 r h18 fun fr r => ?_
    refine seq_val (.bool false) r (fun R => y_pick r (b := false) (congrArg Value.bool h18) rfl) rfl fun fr r => ?_
    refine wn ?_
    exact nxy17 false () _ _ _ hD r (hs_cons rfl (hs_cons rfl (hs_cons rfl (hs_cons rfl (hs_cons rfl (hs_cons rfl (hs_cons rfl (hs_cons rfl (hs_cons rfl (hs_cons rfl (hs_cons rfl hs_nil))))))))))) (hP.pick [0, 1, 2, 3, 4] rfl rfl)
  ·
   rintro x19 γ20 fr w21 g r hP hD
   have hP : Post (fun b => b ∈ (memK a1_g a1).own) [progK Tryz.prog encRes x13.2.2 γ14.1 γ14.2, memK a1_g x13.2.1, cellC b1 γ14.1.cells 39, cellC b5 ((capC a2)).toArray 42, cellC b9 ((resC (⟨0, 0⟩ : Res))).toArray 32] w0 w21 := hP
   refine wp_cond_split (t := x19) (r.ev rfl) (fun h22 => ?_) (fun h22 => ?_)
   ·
    have hD := (cond_t h22).symm.trans hD
    refine wp_skip ?_
    refine wp_block ?_
    refine wsr ?_
    refine seq_val γ14.1 r (fun R => y_loadp r (hP.prog (i := 0) rfl).shape rfl (hP.cell (i := 2) rfl) ta39) rfl fun fr r => ?_
    refine seq_val (.pointer (some ⟨a1_g.mb, 0, none⟩)) r (fun R => y_move r rfl) rfl fun fr r => ?_
    refine seq_val (.agg (capC a2).toArray) r (fun R => y_load_agg r (cs := (capC a2)) (n := 2) rfl (hP.cell (i := 3) rfl) ta42 rfl) rfl fun fr r => ?_
    obtain ⟨x23, hx23, hD⟩ := bindD_elim hD
    refine seq_call r (c_prog_Prog_Res_Step w21 x13.2.2 x13.2.1 a2 (hP.sep.pk [0, 1] rfl rfl) hx23) (fun R hc => y_call r rfl cl37 hc) rfl ?_
    rintro _ w24 ⟨v25, F26, rfl, hq⟩
    refine ⟨_, rfl, fun fr r => ?_⟩
    have hP : Post (fun b => b ∈ (memK a1_g a1).own) [progK Tryz.prog encRes x13.2.2 γ14.1 γ14.2, memK a1_g x23.2.2, cellC b1 γ14.1.cells 39, cellC b5 ((capC a2)).toArray 42, cellC b9 ((resC (⟨0, 0⟩ : Res))).toArray 32, progK Tryz.prog encRes x23.1 v25 F26] w0 w24 := hP.setR (i := 1) (k := 0) rfl rfl rfl hq
    refine seq_val (.tuple #[v25, (.bool x23.2.1)]) r (fun R => y_move r rfl) rfl fun fr r => ?_
    refine seq_val v25 r (fun R => y_extract r (vs := #[v25, (.bool x23.2.1)]) rfl rfl) rfl fun fr r => ?_
    refine seq_val (.bool x23.2.1) r (fun R => y_extract r (vs := #[v25, (.bool x23.2.1)]) rfl rfl) rfl fun fr r => ?_
    refine seq_new (.cells (progCells false encRes.zero 0 0 0 0 .nilFunc) 39 (0, 0)) r (fun R => y_alloc tz39) rfl fun fr b28 w29 n30 r => ?_
    have hP : Post (fun b => b ∈ (memK a1_g a1).own) [progK Tryz.prog encRes x13.2.2 γ14.1 γ14.2, memK a1_g x23.2.2, cellC b1 γ14.1.cells 39, cellC b5 ((capC a2)).toArray 42, cellC b9 ((resC (⟨0, 0⟩ : Res))).toArray 32, progK Tryz.prog encRes x23.1 v25 F26, cellC b28 (progCells false encRes.zero 0 0 0 0 .nilFunc) 39] w0 w29 := hP.new n30
    refine seq_upd (.cells v25.cells 39 (0, 0)) r (fun R => y_storep r (hP.prog (i := 5) rfl).shape rfl rfl (hP.cell (i := 6) rfl) ts39 rfl) rfl fun fr w32 u33 r => ?_
    have hP : Post (fun b => b ∈ (memK a1_g a1).own) [progK Tryz.prog encRes x13.2.2 γ14.1 γ14.2, memK a1_g x23.2.2, cellC b1 γ14.1.cells 39, cellC b5 ((capC a2)).toArray 42, cellC b9 ((resC (⟨0, 0⟩ : Res))).toArray 32, progK Tryz.prog encRes x23.1 v25 F26, cellC b28 v25.cells 39] w0 w32 := hP.upd (i := 6) rfl u33
    refine seq_val (.bool x23.2.1) r (fun R => y_assign r rfl) rfl fun fr r => ?_
    refine wn ?_
    refine wp_seq ?_
    refine wsr ?_
    refine seq_val (.bool x23.2.1) r (fun R => y_move r rfl) rfl fun fr r => ?_
    refine seq_val (.bool (!x23.2.1)) r (fun R => y_un r (u := (.bool x23.2.1)) rfl rfl) rfl fun fr r => ?_
    refine wn ?_
    refine wp_cond_split (t := (!x23.2.1)) (r.ev rfl) (fun h34 => ?_) (fun h34 => ?_)
    ·
     have hD := (cond_t h34).symm.trans hD
     refine wp_exit ?_
     exact bky15 (x13.1, x23.2.2, x13.2.2) (γ14.1, γ14.2) _ _ _ hD r (hs_cons rfl (hs_cons rfl (hs_cons rfl (hs_cons rfl (hs_cons rfl (hs_cons rfl (hs_cons rfl (hs_cons rfl (hs_cons rfl (hs_cons rfl hs_nil)))))))))) (hP.pick [0, 1, 2, 3, 4] rfl rfl)
    ·
     have hD := (cond_f h34).symm.trans hD
     refine wp_skip ?_
     refine wsr ?_
     refine seq_val v25 r (fun R => y_loadp r (hP.prog (i := 5) rfl).shape rfl (hP.cell (i := 6) rfl) ta39) rfl fun fr r => ?_
     refine seq_upd (.cells v25.cells 39 (0, 0)) r (fun R => y_storep r (hP.prog (i := 5) rfl).shape rfl rfl (hP.cell (i := 2) rfl) ts39 (by have h := (hP.prog (i := 0) rfl).shape.cells.1; simpa using h)) rfl fun fr w35 u36 r => ?_
     have hP : Post (fun b => b ∈ (memK a1_g a1).own) [progK Tryz.prog encRes x13.2.2 γ14.1 γ14.2, memK a1_g x23.2.2, cellC b1 v25.cells 39, cellC b5 ((capC a2)).toArray 42, cellC b9 ((resC (⟨0, 0⟩ : Res))).toArray 32, progK Tryz.prog encRes x23.1 v25 F26, cellC b28 v25.cells 39] w0 w35 := hP.upd (i := 2) rfl u36
     refine wn ?_
     refine wp_region_lit ?_
     refine seq_val (I x13.1) r (fun R => y_move r rfl) rfl fun fr r => ?_
     refine seq_val _ r (fun R => y_bin r rfl rfl rfl rfl) rfl fun fr r => ?_
     refine seq_val (I (W (x13.1 + 1))) r (fun R => y_assign r rfl) rfl fun fr r => ?_
     refine wn ?_
     exact nxy15 ((W (x13.1 + 1)), x23.2.2, x23.1) (v25, F26) _ _ _ hD r (hs_cons rfl (hs_cons rfl (hs_cons rfl (hs_cons rfl (hs_cons rfl (hs_cons rfl (hs_cons rfl (hs_cons rfl (hs_cons rfl (hs_cons rfl hs_nil)))))))))) (hP.pick [5, 1, 2, 3, 4] rfl rfl)
   ·
    have hD := (cond_f h22).symm.trans hD
    refine wp_exit ?_
    exact bky15 (x13.1, x13.2.1, x13.2.2) (γ14.1, γ14.2) _ _ _ hD r (hs_cons rfl (hs_cons rfl (hs_cons rfl (hs_cons rfl (hs_cons rfl (hs_cons rfl (hs_cons rfl (hs_cons rfl (hs_cons rfl (hs_cons rfl hs_nil)))))))))) (hP.pick [0, 1, 2, 3, 4] rfl rfl)
 ·
  rintro x37 γ38 fr w39 g r hP hD
  have hP : Post (fun b => b ∈ (memK a1_g a1).own) [progK Tryz.prog encRes x37.2.2 γ38.1 γ38.2, memK a1_g x37.2.1, cellC b1 γ38.1.cells 39, cellC b5 ((capC a2)).toArray 42, cellC b9 ((resC (⟨0, 0⟩ : Res))).toArray 32] w0 w39 := hP
  refine wp_seq ?_
  refine wp_freeE [b9] [.val (.pointer (some ⟨b1, 1, none⟩)), .val (.agg (resC (T.res (⟨0, 0⟩ : Res) x37.2.2.2)).toArray), .val (I x37.1), .val (.pointer (some ⟨b1, 0, none⟩)), .val (.bool x37.2.2.2.isDone), .eff (EffP w39.heap.size (cellC b9 ((resC (T.res (⟨0, 0⟩ : Res) x37.2.2.2))).toArray 32) (fun _ : Unit => undef) (fun _ : Unit => [])) (EffP.st _ _ _ _), .val (I x37.1), .val (.bool x37.2.2.2.isDone)] mixed r (fun b hb => hP.sep.lt (i := 4) rfl (.inl hb)) (by kernel_rfl) ?_ ?_
  ·
   refine eachE_early r rfl (by kernel_rfl) (fun fr1 g w' hb' hd r' => ?_) ?_
   · exact y_fieldAddr r' (b := b1) (o := 0) (k := 1) rfl fo39_1 ⟨Below.refl _ _, rfl⟩
   refine eachE_early r rfl (by kernel_rfl) (fun fr1 g w' hb' hd r' => ?_) ?_
   · exact y_load_agg r' (cs := (resC (T.res (⟨0, 0⟩ : Res) x37.2.2.2))) (n := 2) (hd 0 rfl).1 ((hP.below (dr hb')).cell (i := 2) rfl) ta32 (Rep.res_at (d := (⟨0, 0⟩ : Res)) rfl ((hP.below (dr hb')).prog (i := 0) rfl)) ⟨Below.refl _ _, rfl⟩
   refine eachE_late r rfl (fun fr1 g w' hk' hd r' => ?_) ?_
   · exact y_move r' (v := (I x37.1)) rfl ⟨Below.refl _ _, rfl⟩
   refine eachE_late r rfl (fun fr1 g w' hk' hd r' => ?_) ?_
   · exact y_fieldAddr r' (b := b1) (o := 0) (k := 0) rfl fo39_0 ⟨Below.refl _ _, rfl⟩
   refine eachE_late r rfl (fun fr1 g w' hk' hd r' => ?_) ?_
   · exact y_load_one r' (v := (.bool x37.2.2.2.isDone)) (hd 3 rfl).1 (hP.cellK (j := 4) rfl (drK hk') (i := 2) rfl rfl) to4 (Rep.over_at (show Rep _ _ _ _ _ _ _ from hP.okK (j := 4) rfl (drK hk') (i := 0) rfl rfl)) ⟨Below.refl _ _, rfl⟩
   refine eachE_early r rfl (by kernel_rfl) (fun fr1 g w' hb' hd r' => ?_) ?_
   · exact y_store r' (o := 0) (v := (.agg (resC (T.res (⟨0, 0⟩ : Res) x37.2.2.2)).toArray)) rfl (hd 1 rfl).1 ((hP.below (dr hb')).cell (i := 4) rfl) ts32 (Nat.le_of_ble_eq_true rfl) rfl rfl (fun w2 u2 => ⟨u2.kept, (), rfl, u2.at_, (fun b hb => hP.sep.lt (i := 4) rfl hb), fresh_nil⟩)
   refine eachE_late r rfl (fun fr1 g w' hk' hd r' => ?_) ?_
   · exact y_assign r' (v := (I x37.1)) (hd 2 rfl).1 ⟨Below.refl _ _, rfl⟩
   refine eachE_late r rfl (fun fr1 g w' hk' hd r' => ?_) ?_
   · exact y_assign r' (v := (.bool x37.2.2.2.isDone)) (hd 4 rfl).1 ⟨Below.refl _ _, rfl⟩
   exact eachF_nil
  ·
   intro fr gg w40 hb hΦ hap r
   obtain ⟨⟨⟩, g5, hcE, _, hs5⟩ := (hΦ 5 rfl).1
   have r := r.congr (sc ((hΦ 7 rfl).1) (sc ((hΦ 6 rfl).1) (sc ((hΦ 4 rfl).1) (sc ((hΦ 3 rfl).1) (sc ((hΦ 2 rfl).1) (sc ((hΦ 1 rfl).1) (sc ((hΦ 0 rfl).1) rfl)))))))
   have hP : Post (fun b => b ∈ (memK a1_g a1).own) [progK Tryz.prog encRes x37.2.2 γ38.1 γ38.2, memK a1_g x37.2.1, cellC b1 γ38.1.cells 39, cellC b5 ((capC a2)).toArray 42, cellC b9 ((resC (T.res (⟨0, 0⟩ : Res) x37.2.2.2))).toArray 32] w0 w40 := hP.effL (i := 4) (l := []) rfl hb hcE rfl rfl trivial
   refine wp_ret ?_
   have hv : ((T.res (⟨0, 0⟩ : Res) x37.2.2.2), x37.1, x37.2.2.2.isDone, x37.2.1) = res := Option.some.inj hD
   try dsimp only [Exit.then, Exit.inBlock]
   refine ret_cell_tmp2 (fn := Tryz.f29) r rfl rfl (v' := (I x37.1)) (v2 := (.bool x37.2.2.2.isDone)) rfl rfl (hP.cell (i := 4) rfl) (k := 2) rfl ta32 ?_
   subst hv
   exact ⟨rfl, (hP.pick [1] rfl rfl).done (rest_cons rfl rest_nil)⟩

def D.prog_Prog_Res_Over (fu : Nat) (a0 : Nat × T Res) : Option (Res × Bool) := (some ((T.res (⟨0, 0⟩ : Res) a0.2), a0.2.isDone))

theorem c_prog_Prog_Res_Over {fu : Nat} (w0 : World) {a0_v : Value} {a0_F : List Nat} (a0 : Nat × T Res) (a0_h : Rep Tryz.prog encRes a0.1 a0.2 (fun b => b ∈ a0_F) w0 a0_v) (a0_l : ∀ b, b ∈ a0_F → b < w0.heap.size) {res : Res × Bool} (hD : D.prog_Prog_Res_Over fu a0 = some res) :
    Calls Tryz.prog 44 #[a0_v] w0 (PureRes (.tuple #[(.agg (resC res.1).toArray), (.bool res.2)]) w0) := by
 refine enter Tryz.func44 rfl 8 rfl rfl fun fr r => ?_
 have hP : Post No [] w0 w0 := Post.nil w0
 have hP : Post No [progK Tryz.prog encRes a0 a0_v a0_F] w0 w0 := hP.addRo norw_nil a0_h rfl a0_l
 unfold D.prog_Prog_Res_Over at hD
 refine wsr ?_
 refine seq_new (.cells a0_v.cells 39 (0, 0)) r (fun R => y_box r (v := a0_v) rfl) rfl fun fr b1 w2 n3 r => ?_
 have hP : Post No [progK Tryz.prog encRes a0 a0_v a0_F, cellC b1 a0_v.cells 39] w0 w2 := hP.new n3
 refine seq_new (.cells ((resC (⟨0, 0⟩ : Res))).toArray 32 (0, 0)) r (fun R => y_alloc tz32) rfl fun fr b5 w6 n7 r => ?_
 have hP : Post No [progK Tryz.prog encRes a0 a0_v a0_F, cellC b1 a0_v.cells 39, cellC b5 ((resC (⟨0, 0⟩ : Res))).toArray 32] w0 w6 := hP.new n7
 refine seq_val (.bool false) r (fun R => y_assign r rfl) rfl fun fr r => ?_
 refine wn ?_
 refine wp_seq ?_
 refine wp_freeE [b5] [.val (.pointer (some ⟨b1, 1, none⟩)), .val (.agg (resC (T.res (⟨0, 0⟩ : Res) a0.2)).toArray), .val (.pointer (some ⟨b1, 0, none⟩)), .val (.bool a0.2.isDone), .eff (EffP w6.heap.size (cellC b5 ((resC (T.res (⟨0, 0⟩ : Res) a0.2))).toArray 32) (fun _ : Unit => undef) (fun _ : Unit => [])) (EffP.st _ _ _ _), .val (.bool a0.2.isDone)] mixed r (fun b hb => hP.sep.lt (i := 2) rfl (.inl hb)) (by kernel_rfl) ?_ ?_
 ·
  refine eachE_early r rfl (by kernel_rfl) (fun fr1 g w' hb' hd r' => ?_) ?_
  · exact y_fieldAddr r' (b := b1) (o := 0) (k := 1) rfl fo39_1 ⟨Below.refl _ _, rfl⟩
  refine eachE_early r rfl (by kernel_rfl) (fun fr1 g w' hb' hd r' => ?_) ?_
  · exact y_load_agg r' (cs := (resC (T.res (⟨0, 0⟩ : Res) a0.2))) (n := 2) (hd 0 rfl).1 ((hP.below (dr hb')).cell (i := 1) rfl) ta32 (Rep.res_at (d := (⟨0, 0⟩ : Res)) rfl ((hP.below (dr hb')).prog (i := 0) rfl)) ⟨Below.refl _ _, rfl⟩
  refine eachE_late r rfl (fun fr1 g w' hk' hd r' => ?_) ?_
  · exact y_fieldAddr r' (b := b1) (o := 0) (k := 0) rfl fo39_0 ⟨Below.refl _ _, rfl⟩
  refine eachE_late r rfl (fun fr1 g w' hk' hd r' => ?_) ?_
  · exact y_load_one r' (v := (.bool a0.2.isDone)) (hd 2 rfl).1 (hP.cellK (j := 2) rfl (drK hk') (i := 1) rfl rfl) to4 (Rep.over_at (show Rep _ _ _ _ _ _ _ from hP.okK (j := 2) rfl (drK hk') (i := 0) rfl rfl)) ⟨Below.refl _ _, rfl⟩
  refine eachE_early r rfl (by kernel_rfl) (fun fr1 g w' hb' hd r' => ?_) ?_
  · exact y_store r' (o := 0) (v := (.agg (resC (T.res (⟨0, 0⟩ : Res) a0.2)).toArray)) rfl (hd 1 rfl).1 ((hP.below (dr hb')).cell (i := 2) rfl) ts32 (Nat.le_of_ble_eq_true rfl) rfl rfl (fun w2 u2 => ⟨u2.kept, (), rfl, u2.at_, (fun b hb => hP.sep.lt (i := 2) rfl hb), fresh_nil⟩)
  refine eachE_late r rfl (fun fr1 g w' hk' hd r' => ?_) ?_
  · exact y_assign r' (v := (.bool a0.2.isDone)) (hd 3 rfl).1 ⟨Below.refl _ _, rfl⟩
  exact eachF_nil
 ·
  intro fr gg w9 hb hΦ hap r
  obtain ⟨⟨⟩, g4, hcE, _, hs4⟩ := (hΦ 4 rfl).1
  have r := r.congr (sc ((hΦ 5 rfl).1) (sc ((hΦ 3 rfl).1) (sc ((hΦ 2 rfl).1) (sc ((hΦ 1 rfl).1) (sc ((hΦ 0 rfl).1) rfl)))))
  have hP : Post No [progK Tryz.prog encRes a0 a0_v a0_F, cellC b1 a0_v.cells 39, cellC b5 ((resC (T.res (⟨0, 0⟩ : Res) a0.2))).toArray 32] w0 w9 := hP.effL (i := 2) (l := []) rfl hb hcE rfl rfl trivial
  refine wp_ret ?_
  have hv : ((T.res (⟨0, 0⟩ : Res) a0.2), a0.2.isDone) = res := Option.some.inj hD
  try dsimp only [Exit.then, Exit.inBlock]
  refine ret_cell_tmp (fn := Tryz.f44) r rfl rfl (v' := (.bool a0.2.isDone)) rfl (hP.cell (i := 2) rfl) (k := 2) rfl ta32 ?_
  subst hv
  exact ⟨rfl, hP.chg.below⟩

end Go.Proofs.YtjkinpbfmihhdaaGreat

/- Some of our texts, one behind the other. -/
import Derived.Test.YtbbipmelhmgmfaaFmM4
import Derived.Test.YtbbipmelhmgmfaaFmMems
set_option linter.all false
/- Written by a program of ours (wip/gen.py): programs made, and one behind the other -/
set_option linter.unusedVariables false
set_option maxRecDepth 20000
set_option maxHeartbeats 2000000
namespace Go.Proofs.Ytbbipmelhmgmfaa
open Go.RowKit
theorem ta35 : tyA Try.prog 35 4 = true := by kernel_rfl

theorem ta38 : tyA Try.prog 38 7 = true := by kernel_rfl

theorem ta52 : tyA Try.prog 52 0 = true := by kernel_rfl

theorem ta57 : tyA Try.prog 57 6 = true := by kernel_rfl

theorem ts38 : sized Try.prog 38 7 = true := by kernel_rfl

theorem ts57 : sized Try.prog 57 6 = true := by kernel_rfl

theorem tz38 : zeroOf Try.prog 38 = some (.agg (progCells false encInt.zero 0 0 0 0 .nilFunc)) := by kernel_rfl

theorem tz57 : zeroOf Try.prog 57 = some (.agg (progCells false encNone.zero 0 0 0 0 .nilFunc)) := by kernel_rfl

def D.prog_Do_None (a0 : Access) (a1 : (Int → T Unit)) : T Unit := (T.act a0.op a0.at_ a0.a a0.b a1)

theorem c_prog_Do_None {n : Nat} {F : Nat → Prop} {w0 : World} (hF : ∀ b, F b → b < w0.heap.size)
    (a0 : Access) {a1_f : FuncId} {a1_1 a1_2 : List Value} {a1 : (Int → T Unit)} (a1_n : FnT Try.prog encNone u64 (n) F w0 (.func (.func a1_f) a1_1.toArray a1_2.toArray) a1) :
    Calls Try.prog 63 #[.agg (accessC a0).toArray, .func (.func a1_f) a1_1.toArray a1_2.toArray] w0 (RepRes Try.prog encNone n (D.prog_Do_None a0 a1) F w0) := by
 refine enter Try.func63 rfl 8 rfl rfl fun fr r => ?_
 have hB := Below.refl w0.heap.size w0
 refine wsr ?_
 refine seq_new (.cells ((accessC a0)).toArray 35 (0, 0)) r (fun R => y_box r (v := (.agg (accessC a0).toArray)) rfl) rfl fun fr b1 w2 n3 r => ?_
 obtain ⟨e_b1, z_w2, h_b1, hB, zB⟩ := n3.all hB
 refine seq_new (.cells (progCells false encNone.zero 0 0 0 0 .nilFunc) 57 (0, 0)) r (fun R => y_alloc tz57) rfl fun fr b4 w5 n6 r => ?_
 have h_b1 := keep n6.below h_b1
 obtain ⟨e_b4, z_w5, h_b4, hB, zB⟩ := n6.all hB
 refine wn ?_
 refine wsr ?_
 refine seq_val (.agg (accessC a0).toArray) r (fun R => y_load_agg r (cs := (accessC a0)) (n := 4) rfl h_b1 ta35 rfl) rfl fun fr r => ?_
 refine seq_val (.func (.func a1_f) a1_1.toArray a1_2.toArray) r (fun R => y_move r rfl) rfl fun fr r => ?_
 refine seq_val (.agg (progCells false encNone.zero a0.op a0.at_ a0.a a0.b (.func (.func a1_f) a1_1.toArray a1_2.toArray))) r (fun R => y_build r (by kernel_rfl)) rfl fun fr r => ?_
 refine seq_upd (.cells (progCells false encNone.zero a0.op a0.at_ a0.a a0.b (.func (.func a1_f) a1_1.toArray a1_2.toArray)) 57 (0, 0)) r (fun R => y_store r (o := 0) (v := (.agg (progCells false encNone.zero a0.op a0.at_ a0.a a0.b (.func (.func a1_f) a1_1.toArray a1_2.toArray)))) rfl rfl h_b4 ts57 (Nat.le_of_ble_eq_true rfl) rfl rfl) rfl fun fr w7 u8 r => ?_
 have z_w7 := u8.size
 have h_b1 := u8.keep h_b1 (by omega)
 have h_b4 := u8.at_
 obtain ⟨hB, zB⟩ := u8.on hB (by omega)
 refine wn ?_
 refine wp_ret ?_
 refine ret_cell r rfl rfl h_b4 (k := 6) rfl ta57 ?_
 exact ⟨_, rfl, hB, Rep.act_of (a1_n.mono (Nat.le_refl _) (fun b hb => .inl hb) (Same.below hB hF) hB.size)⟩

def D.prog_Done_None  : T Unit := (T.done ())

theorem c_prog_Done_None {n : Nat} {F : Nat → Prop} {w0 : World} (hF : ∀ b, F b → b < w0.heap.size)
     :
    Calls Try.prog 62 #[.agg #[]] w0 (RepRes Try.prog encNone n D.prog_Done_None F w0) := by
 refine enter Try.func62 rfl 5 rfl rfl fun fr r => ?_
 have hB := Below.refl w0.heap.size w0
 refine wsr ?_
 refine seq_new (.cells #[] 52 (0, 0)) r (fun R => y_box r (v := (.agg #[])) rfl) rfl fun fr b1 w2 n3 r => ?_
 obtain ⟨e_b1, z_w2, h_b1, hB, zB⟩ := n3.all hB
 refine seq_new (.cells (progCells false encNone.zero 0 0 0 0 .nilFunc) 57 (0, 0)) r (fun R => y_alloc tz57) rfl fun fr b4 w5 n6 r => ?_
 have h_b1 := keep n6.below h_b1
 obtain ⟨e_b4, z_w5, h_b4, hB, zB⟩ := n6.all hB
 refine wn ?_
 refine wsr ?_
 refine seq_val (.agg #[]) r (fun R => y_load_agg r (cs := []) (n := 0) rfl h_b1 ta52 rfl) rfl fun fr r => ?_
 refine seq_val (.agg (progCells true (encNone.cells ()) 0 0 0 0 .nilFunc)) r (fun R => y_build r (by kernel_rfl)) rfl fun fr r => ?_
 refine seq_upd (.cells (progCells true (encNone.cells ()) 0 0 0 0 .nilFunc) 57 (0, 0)) r (fun R => y_store r (o := 0) (v := (.agg (progCells true (encNone.cells ()) 0 0 0 0 .nilFunc))) rfl rfl h_b4 ts57 (Nat.le_of_ble_eq_true rfl) rfl rfl) rfl fun fr w7 u8 r => ?_
 have z_w7 := u8.size
 have h_b1 := u8.keep h_b1 (by omega)
 have h_b4 := u8.at_
 obtain ⟨hB, zB⟩ := u8.on hB (by omega)
 refine wn ?_
 refine wp_ret ?_
 refine ret_cell r rfl rfl h_b4 (k := 6) rfl ta57 ?_
 exact ⟨_, rfl, hB, Rep.done_of⟩

def D.prog_Do_int (a0 : Access) (a1 : (Int → T Int)) : T Int := (T.act a0.op a0.at_ a0.a a0.b a1)

theorem c_prog_Do_int {n : Nat} {F : Nat → Prop} {w0 : World} (hF : ∀ b, F b → b < w0.heap.size)
    (a0 : Access) {a1_f : FuncId} {a1_1 a1_2 : List Value} {a1 : (Int → T Int)} (a1_n : FnT Try.prog encInt u64 (n) F w0 (.func (.func a1_f) a1_1.toArray a1_2.toArray) a1) :
    Calls Try.prog 54 #[.agg (accessC a0).toArray, .func (.func a1_f) a1_1.toArray a1_2.toArray] w0 (RepRes Try.prog encInt n (D.prog_Do_int a0 a1) F w0) := by
 refine enter Try.func54 rfl 8 rfl rfl fun fr r => ?_
 have hB := Below.refl w0.heap.size w0
 refine wsr ?_
 refine seq_new (.cells ((accessC a0)).toArray 35 (0, 0)) r (fun R => y_box r (v := (.agg (accessC a0).toArray)) rfl) rfl fun fr b1 w2 n3 r => ?_
 obtain ⟨e_b1, z_w2, h_b1, hB, zB⟩ := n3.all hB
 refine seq_new (.cells (progCells false encInt.zero 0 0 0 0 .nilFunc) 38 (0, 0)) r (fun R => y_alloc tz38) rfl fun fr b4 w5 n6 r => ?_
 have h_b1 := keep n6.below h_b1
 obtain ⟨e_b4, z_w5, h_b4, hB, zB⟩ := n6.all hB
 refine wn ?_
 refine wsr ?_
 refine seq_val (.agg (accessC a0).toArray) r (fun R => y_load_agg r (cs := (accessC a0)) (n := 4) rfl h_b1 ta35 rfl) rfl fun fr r => ?_
 refine seq_val (.func (.func a1_f) a1_1.toArray a1_2.toArray) r (fun R => y_move r rfl) rfl fun fr r => ?_
 refine seq_val (.agg (progCells false encInt.zero a0.op a0.at_ a0.a a0.b (.func (.func a1_f) a1_1.toArray a1_2.toArray))) r (fun R => y_build r (by kernel_rfl)) rfl fun fr r => ?_
 refine seq_upd (.cells (progCells false encInt.zero a0.op a0.at_ a0.a a0.b (.func (.func a1_f) a1_1.toArray a1_2.toArray)) 38 (0, 0)) r (fun R => y_store r (o := 0) (v := (.agg (progCells false encInt.zero a0.op a0.at_ a0.a a0.b (.func (.func a1_f) a1_1.toArray a1_2.toArray)))) rfl rfl h_b4 ts38 (Nat.le_of_ble_eq_true rfl) rfl rfl) rfl fun fr w7 u8 r => ?_
 have z_w7 := u8.size
 have h_b1 := u8.keep h_b1 (by omega)
 have h_b4 := u8.at_
 obtain ⟨hB, zB⟩ := u8.on hB (by omega)
 refine wn ?_
 refine wp_ret ?_
 refine ret_cell r rfl rfl h_b4 (k := 7) rfl ta38 ?_
 exact ⟨_, rfl, hB, Rep.act_of (a1_n.mono (Nat.le_refl _) (fun b hb => .inl hb) (Same.below hB hF) hB.size)⟩

def D.prog_Done_int (a0 : Int) : T Int := (T.done a0)

theorem c_prog_Done_int {n : Nat} {F : Nat → Prop} {w0 : World} (hF : ∀ b, F b → b < w0.heap.size)
    (a0 : Int) :
    Calls Try.prog 33 #[.int .i64 a0] w0 (RepRes Try.prog encInt n (D.prog_Done_int a0) F w0) := by
 refine enter Try.func33 rfl 5 rfl rfl fun fr r => ?_
 have hB := Below.refl w0.heap.size w0
 refine wsr ?_
 refine seq_new (.cells (progCells false encInt.zero 0 0 0 0 .nilFunc) 38 (0, 0)) r (fun R => y_alloc tz38) rfl fun fr b1 w2 n3 r => ?_
 obtain ⟨e_b1, z_w2, h_b1, hB, zB⟩ := n3.all hB
 refine wn ?_
 refine wsr ?_
 refine seq_val (I a0) r (fun R => y_move r rfl) rfl fun fr r => ?_
 refine seq_val (.agg (progCells true (encInt.cells a0) 0 0 0 0 .nilFunc)) r (fun R => y_build r (by kernel_rfl)) rfl fun fr r => ?_
 refine seq_upd (.cells (progCells true (encInt.cells a0) 0 0 0 0 .nilFunc) 38 (0, 0)) r (fun R => y_store r (o := 0) (v := (.agg (progCells true (encInt.cells a0) 0 0 0 0 .nilFunc))) rfl rfl h_b1 ts38 (Nat.le_of_ble_eq_true rfl) rfl rfl) rfl fun fr w4 u5 r => ?_
 have z_w4 := u5.size
 have h_b1 := u5.at_
 obtain ⟨hB, zB⟩ := u5.on hB (by omega)
 refine wn ?_
 refine wp_ret ?_
 refine ret_cell r rfl rfl h_b1 (k := 7) rfl ta38 ?_
 exact ⟨_, rfl, hB, Rep.done_of⟩

end Go.Proofs.Ytbbipmelhmgmfaa

/- Written by a program of ours (wip/gen.py): programs of one access -/
set_option linter.unusedVariables false
set_option maxRecDepth 20000
set_option maxHeartbeats 2000000
namespace Go.Proofs.Ytbbipmelhmgmfaa
open Go.RowKit
theorem cl52 : callable Try.prog 52 = true := by kernel_rfl

theorem cl54 : callable Try.prog 54 = true := by kernel_rfl

theorem cl55 : callable Try.prog 55 = true := by kernel_rfl

theorem cl58 : callable Try.prog 58 = true := by kernel_rfl

theorem cl61 : callable Try.prog 61 = true := by kernel_rfl

theorem cl62 : callable Try.prog 62 = true := by kernel_rfl

theorem cl63 : callable Try.prog 63 = true := by kernel_rfl

theorem cl64 : callable Try.prog 64 = true := by kernel_rfl

theorem to103 : tyO Try.prog 103 = true := by kernel_rfl

theorem to89 : tyO Try.prog 89 = true := by kernel_rfl

theorem to92 : tyO Try.prog 92 = true := by kernel_rfl

def D.prog_Store_None_1 (c0 : (Unit → T Unit)) (a0 : Int) : T Unit := (c0 ())

theorem c_prog_Store_None_1 {n : Nat} {F : Nat → Prop} {w0 : World} (hF : ∀ b, F b → b < w0.heap.size)
    {c0_f : FuncId} {c0_1 c0_2 : List Value} {c0 : (Unit → T Unit)} {c0_b : Nat} (c0_F : F c0_b) (c0_h : w0.heap[c0_b]? = some (.cells #[.func (.func c0_f) c0_1.toArray c0_2.toArray] 103 (0, 0))) (c0_n : FnT Try.prog encNone unitE (n + 1) F w0 (.func (.func c0_f) c0_1.toArray c0_2.toArray) c0) (a0 : Int) :
    Calls Try.prog 64 #[.int .u64 a0, .pointer (some ⟨c0_b, 0, none⟩)] w0 (RepRes Try.prog encNone n (D.prog_Store_None_1 c0 a0) F w0) := by
 refine enter Try.func64 rfl 6 rfl rfl fun fr r => ?_
 have hB := Below.refl w0.heap.size w0
 have l_c0_b := lt_of_block c0_h
 refine wsr ?_
 refine seq_new (.cells (progCells false encNone.zero 0 0 0 0 .nilFunc) 57 (0, 0)) r (fun R => y_alloc tz57) rfl fun fr b1 w2 n3 r => ?_
 obtain ⟨e_b1, z_w2, h_b1, hB, zB⟩ := n3.all hB
 refine wn ?_
 refine wsr ?_
 refine seq_val (.func (.func c0_f) c0_1.toArray c0_2.toArray) r (fun R => y_load_one r rfl (keep hB c0_h) to103 rfl) rfl fun fr r => ?_
 refine seq_call r (c0_n.at_.2 n (Nat.lt_succ_self n) () w2 (Same.below hB hF) hB.size) (fun R hc => y_callv0 r rfl c0_n.at_.1 hc) rfl ?_
 rintro _ w4 ⟨v5, rfl, hb, hr6⟩
 refine ⟨_, rfl, fun fr r => ?_⟩
 have z_w4 := hb.size
 have h_b1 := keep hb h_b1
 obtain ⟨hB, zB⟩ := bon hb hB
 refine seq_upd (.cells v5.cells 57 (0, 0)) r (fun R => y_storep r hr6.shape rfl rfl h_b1 ts57 rfl) rfl fun fr w7 u8 r => ?_
 have z_w7 := u8.size
 have h_b1 := u8.at_
 obtain ⟨hB, zB⟩ := u8.on hB (by omega)
 refine wn ?_
 refine wp_ret ?_
 have hs := hr6.shape.cells
 refine ret_cell r rfl rfl h_b1 (k := 6) hs.1 ta57 ?_
 rw [← hs.2.2]
 exact RepRes.fin hB hr6 u8 (fun b hb => .inl hb) (fun h => by have := hF _ h; omega) (by omega) (by omega) (by omega)

def D.prog_Store_None (a0 : Int) (a1 : Int) (a2 : (Unit → T Unit)) : T Unit := (D.prog_Do_None (⟨1, a0, a1, 0⟩ : Access) (fun x => (D.prog_Store_None_1 a2 x)))

theorem c_prog_Store_None {n : Nat} {F : Nat → Prop} {w0 : World} (hF : ∀ b, F b → b < w0.heap.size)
    (a0 : Int) (a1 : Int) {a2_f : FuncId} {a2_1 a2_2 : List Value} {a2 : (Unit → T Unit)} (a2_n : FnT Try.prog encNone unitE (n) F w0 (.func (.func a2_f) a2_1.toArray a2_2.toArray) a2) :
    Calls Try.prog 52 #[.int .i64 a0, .int .u64 a1, .func (.func a2_f) a2_1.toArray a2_2.toArray] w0 (RepRes Try.prog encNone n (D.prog_Store_None a0 a1 a2) F w0) := by
 refine enter Try.func52 rfl 12 rfl rfl fun fr r => ?_
 have hB := Below.refl w0.heap.size w0
 refine wsr ?_
 refine seq_new (.cells #[.func (.func a2_f) a2_1.toArray a2_2.toArray] 103 (0, 0)) r (fun R => y_box r (v := (.func (.func a2_f) a2_1.toArray a2_2.toArray)) rfl) rfl fun fr b1 w2 n3 r => ?_
 obtain ⟨e_b1, z_w2, h_b1, hB, zB⟩ := n3.all hB
 refine seq_new (.cells (progCells false encNone.zero 0 0 0 0 .nilFunc) 57 (0, 0)) r (fun R => y_alloc tz57) rfl fun fr b4 w5 n6 r => ?_
 have h_b1 := keep n6.below h_b1
 obtain ⟨e_b4, z_w5, h_b4, hB, zB⟩ := n6.all hB
 refine wn ?_
 refine wsr ?_
 refine seq_val (I a0) r (fun R => y_move r rfl) rfl fun fr r => ?_
 refine seq_val (U a1) r (fun R => y_move r rfl) rfl fun fr r => ?_
 refine seq_val (.agg (accessC (⟨1, a0, a1, 0⟩ : Access)).toArray) r (fun R => y_build r (by kernel_rfl)) rfl fun fr r => ?_
 refine seq_val (.func (.func 64) #[] #[.pointer (some ⟨b1, 0, none⟩)]) r (fun R => y_makeFunc r rfl) rfl fun fr r => ?_
 have hF1 := fgrow hF hB b4
 have f7 : ((fun b => F b ∨ (w0.heap.size ≤ b ∧ b < w5.heap.size ∧ b ≠ b4))) b1 := (.inr ⟨by omega, by omega, by omega⟩)
 refine seq_call r (c_prog_Do_None (F := (fun b => F b ∨ (w0.heap.size ≤ b ∧ b < w5.heap.size ∧ b ≠ b4))) (n := n) hF1 (⟨1, a0, a1, 0⟩ : Access) ⟨64, [], [.pointer (some ⟨b1, 0, none⟩)], cl64, rfl, fun m hm x w' hs hz => c_prog_Store_None_1 (fun b hb => Nat.lt_of_lt_of_le (hF1 b hb) hz) f7 (hs.at_ f7 h_b1) (a2_n.mono (by omega) (fun b h => .inl h) ((Same.below hB hF).trans (hs.sub (fun b h => .inl h))) (Nat.le_trans hB.size hz)) x⟩) (fun R hc => y_call r rfl cl63 hc) rfl ?_
 rintro _ w8 ⟨v9, rfl, hb, hr10⟩
 refine ⟨_, rfl, fun fr r => ?_⟩
 have z_w8 := hb.size
 have h_b1 := keep hb h_b1
 have h_b4 := keep hb h_b4
 obtain ⟨hB, zB⟩ := bon hb hB
 refine seq_upd (.cells v9.cells 57 (0, 0)) r (fun R => y_storep r hr10.shape rfl rfl h_b4 ts57 rfl) rfl fun fr w11 u12 r => ?_
 have z_w11 := u12.size
 have h_b1 := u12.keep h_b1 (by omega)
 have h_b4 := u12.at_
 obtain ⟨hB, zB⟩ := u12.on hB (by omega)
 refine wn ?_
 refine wp_ret ?_
 have hs := hr10.shape.cells
 refine ret_cell r rfl rfl h_b4 (k := 6) hs.1 ta57 ?_
 rw [← hs.2.2]
 exact rfin hF hB hr10 u12 (by omega) (by omega) (by omega)

def D.prog_Set_1  : T Unit := D.prog_Done_None

theorem c_prog_Set_1 {n : Nat} {F : Nat → Prop} {w0 : World} (hF : ∀ b, F b → b < w0.heap.size)
     :
    Calls Try.prog 61 #[] w0 (RepRes Try.prog encNone n D.prog_Set_1 F w0) := by
 refine enter Try.func61 rfl 3 rfl rfl fun fr r => ?_
 have hB := Below.refl w0.heap.size w0
 refine wsr ?_
 refine seq_new (.cells (progCells false encNone.zero 0 0 0 0 .nilFunc) 57 (0, 0)) r (fun R => y_alloc tz57) rfl fun fr b1 w2 n3 r => ?_
 obtain ⟨e_b1, z_w2, h_b1, hB, zB⟩ := n3.all hB
 refine wn ?_
 refine wsr ?_
 refine seq_val (.agg #[]) r (fun R => y_build r (by kernel_rfl)) rfl fun fr r => ?_
 have hF1 := fgrow hF hB b1
 refine seq_call r (c_prog_Done_None (F := (fun b => F b ∨ (w0.heap.size ≤ b ∧ b < w2.heap.size ∧ b ≠ b1))) (n := n) hF1 ) (fun R hc => y_call r rfl cl62 hc) rfl ?_
 rintro _ w4 ⟨v5, rfl, hb, hr6⟩
 refine ⟨_, rfl, fun fr r => ?_⟩
 have z_w4 := hb.size
 have h_b1 := keep hb h_b1
 obtain ⟨hB, zB⟩ := bon hb hB
 refine seq_upd (.cells v5.cells 57 (0, 0)) r (fun R => y_storep r hr6.shape rfl rfl h_b1 ts57 rfl) rfl fun fr w7 u8 r => ?_
 have z_w7 := u8.size
 have h_b1 := u8.at_
 obtain ⟨hB, zB⟩ := u8.on hB (by omega)
 refine wn ?_
 refine wp_ret ?_
 have hs := hr6.shape.cells
 refine ret_cell r rfl rfl h_b1 (k := 6) hs.1 ta57 ?_
 rw [← hs.2.2]
 exact rfin hF hB hr6 u8 (by omega) (by omega) (by omega)

def D.prog_Set (a0 : Int) (a1 : Int) : T Unit := (D.prog_Store_None a0 a1 (fun _ => D.prog_Set_1))

theorem c_prog_Set {n : Nat} {F : Nat → Prop} {w0 : World} (hF : ∀ b, F b → b < w0.heap.size)
    (a0 : Int) (a1 : Int) :
    Calls Try.prog 51 #[.int .i64 a0, .int .u64 a1] w0 (RepRes Try.prog encNone n (D.prog_Set a0 a1) F w0) := by
 refine enter Try.func51 rfl 8 rfl rfl fun fr r => ?_
 have hB := Below.refl w0.heap.size w0
 refine wsr ?_
 refine seq_new (.cells (progCells false encNone.zero 0 0 0 0 .nilFunc) 57 (0, 0)) r (fun R => y_alloc tz57) rfl fun fr b1 w2 n3 r => ?_
 obtain ⟨e_b1, z_w2, h_b1, hB, zB⟩ := n3.all hB
 refine wn ?_
 refine wsr ?_
 refine seq_val (I a0) r (fun R => y_move r rfl) rfl fun fr r => ?_
 refine seq_val (U a1) r (fun R => y_move r rfl) rfl fun fr r => ?_
 have hF1 := fgrow hF hB b1
 refine seq_call r (c_prog_Store_None (F := (fun b => F b ∨ (w0.heap.size ≤ b ∧ b < w2.heap.size ∧ b ≠ b1))) (n := n) hF1 a0 a1 ⟨61, [], [], cl61, rfl, fun m hm _ w' hs hz => c_prog_Set_1 (fun b hb => Nat.lt_of_lt_of_le (hF1 b hb) hz) ⟩) (fun R hc => y_call r rfl cl52 hc) rfl ?_
 rintro _ w4 ⟨v5, rfl, hb, hr6⟩
 refine ⟨_, rfl, fun fr r => ?_⟩
 have z_w4 := hb.size
 have h_b1 := keep hb h_b1
 obtain ⟨hB, zB⟩ := bon hb hB
 refine seq_upd (.cells v5.cells 57 (0, 0)) r (fun R => y_storep r hr6.shape rfl rfl h_b1 ts57 rfl) rfl fun fr w7 u8 r => ?_
 have z_w7 := u8.size
 have h_b1 := u8.at_
 obtain ⟨hB, zB⟩ := u8.on hB (by omega)
 refine wn ?_
 refine wp_ret ?_
 have hs := hr6.shape.cells
 refine ret_cell r rfl rfl h_b1 (k := 6) hs.1 ta57 ?_
 rw [← hs.2.2]
 exact rfin hF hB hr6 u8 (by omega) (by omega) (by omega)

def D.prog_Load_int (a0 : Int) (a1 : (Int → T Int)) : T Int := (D.prog_Do_int (⟨0, a0, 0, 0⟩ : Access) a1)

theorem c_prog_Load_int {n : Nat} {F : Nat → Prop} {w0 : World} (hF : ∀ b, F b → b < w0.heap.size)
    (a0 : Int) {a1_f : FuncId} {a1_1 a1_2 : List Value} {a1 : (Int → T Int)} (a1_n : FnT Try.prog encInt u64 (n) F w0 (.func (.func a1_f) a1_1.toArray a1_2.toArray) a1) :
    Calls Try.prog 31 #[.int .i64 a0, .func (.func a1_f) a1_1.toArray a1_2.toArray] w0 (RepRes Try.prog encInt n (D.prog_Load_int a0 a1) F w0) := by
 refine enter Try.func31 rfl 9 rfl rfl fun fr r => ?_
 have hB := Below.refl w0.heap.size w0
 refine wsr ?_
 refine seq_new (.cells (progCells false encInt.zero 0 0 0 0 .nilFunc) 38 (0, 0)) r (fun R => y_alloc tz38) rfl fun fr b1 w2 n3 r => ?_
 obtain ⟨e_b1, z_w2, h_b1, hB, zB⟩ := n3.all hB
 refine wn ?_
 refine wsr ?_
 refine seq_val (I a0) r (fun R => y_move r rfl) rfl fun fr r => ?_
 refine seq_val (.agg (accessC (⟨0, a0, 0, 0⟩ : Access)).toArray) r (fun R => y_build r (by kernel_rfl)) rfl fun fr r => ?_
 refine seq_val (.func (.func a1_f) a1_1.toArray a1_2.toArray) r (fun R => y_move r rfl) rfl fun fr r => ?_
 have hF1 := fgrow hF hB b1
 refine seq_call r (c_prog_Do_int (F := (fun b => F b ∨ (w0.heap.size ≤ b ∧ b < w2.heap.size ∧ b ≠ b1))) (n := n) hF1 (⟨0, a0, 0, 0⟩ : Access) (a1_n.mono (by omega) (fun b h => .inl h) (Same.below hB hF) hB.size)) (fun R hc => y_call r rfl cl54 hc) rfl ?_
 rintro _ w4 ⟨v5, rfl, hb, hr6⟩
 refine ⟨_, rfl, fun fr r => ?_⟩
 have z_w4 := hb.size
 have h_b1 := keep hb h_b1
 obtain ⟨hB, zB⟩ := bon hb hB
 refine seq_upd (.cells v5.cells 38 (0, 0)) r (fun R => y_storep r hr6.shape rfl rfl h_b1 ts38 rfl) rfl fun fr w7 u8 r => ?_
 have z_w7 := u8.size
 have h_b1 := u8.at_
 obtain ⟨hB, zB⟩ := u8.on hB (by omega)
 refine wn ?_
 refine wp_ret ?_
 have hs := hr6.shape.cells
 refine ret_cell r rfl rfl h_b1 (k := 7) hs.1 ta38 ?_
 rw [← hs.2.2]
 exact rfin hF hB hr6 u8 (by omega) (by omega) (by omega)

def D.prog_Swap_int_1 (c0 : (Bool → T Int)) (c1 : Int) (a0 : Int) : T Int := (c0 (a0 == c1))

theorem c_prog_Swap_int_1 {n : Nat} {F : Nat → Prop} {w0 : World} (hF : ∀ b, F b → b < w0.heap.size)
    {c0_f : FuncId} {c0_1 c0_2 : List Value} {c0 : (Bool → T Int)} {c0_b : Nat} (c0_F : F c0_b) (c0_h : w0.heap[c0_b]? = some (.cells #[.func (.func c0_f) c0_1.toArray c0_2.toArray] 89 (0, 0))) (c0_n : FnT Try.prog encInt boolE (n + 1) F w0 (.func (.func c0_f) c0_1.toArray c0_2.toArray) c0) (c1 : Int) {c1_b : Nat} (c1_F : F c1_b) (c1_h : w0.heap[c1_b]? = some (.cells ([(.int .u64 c1)]).toArray 33 (0, 0))) (a0 : Int) :
    Calls Try.prog 55 #[.int .u64 a0, .pointer (some ⟨c0_b, 0, none⟩), .pointer (some ⟨c1_b, 0, none⟩)] w0 (RepRes Try.prog encInt n (D.prog_Swap_int_1 c0 c1 a0) F w0) := by
 refine enter Try.func55 rfl 10 rfl rfl fun fr r => ?_
 have hB := Below.refl w0.heap.size w0
 have l_c0_b := lt_of_block c0_h
 have l_c1_b := lt_of_block c1_h
 refine wsr ?_
 refine seq_new (.cells (progCells false encInt.zero 0 0 0 0 .nilFunc) 38 (0, 0)) r (fun R => y_alloc tz38) rfl fun fr b1 w2 n3 r => ?_
 obtain ⟨e_b1, z_w2, h_b1, hB, zB⟩ := n3.all hB
 refine wn ?_
 refine wsr ?_
 refine seq_val (.func (.func c0_f) c0_1.toArray c0_2.toArray) r (fun R => y_load_one r rfl (keep hB c0_h) to89 rfl) rfl fun fr r => ?_
 refine seq_val (U a0) r (fun R => y_move r rfl) rfl fun fr r => ?_
 refine seq_val (U c1) r (fun R => y_load_one r rfl (keep hB c1_h) to33 rfl) rfl fun fr r => ?_
 refine seq_val _ r (fun R => y_bin r rfl rfl rfl rfl) rfl fun fr r => ?_
 refine seq_call r (c0_n.at_.2 n (Nat.lt_succ_self n) (a0 == c1) w2 (Same.below hB hF) hB.size) (fun R hc => y_callv1 r rfl rfl c0_n.at_.1 hc) rfl ?_
 rintro _ w4 ⟨v5, rfl, hb, hr6⟩
 refine ⟨_, rfl, fun fr r => ?_⟩
 have z_w4 := hb.size
 have h_b1 := keep hb h_b1
 obtain ⟨hB, zB⟩ := bon hb hB
 refine seq_upd (.cells v5.cells 38 (0, 0)) r (fun R => y_storep r hr6.shape rfl rfl h_b1 ts38 rfl) rfl fun fr w7 u8 r => ?_
 have z_w7 := u8.size
 have h_b1 := u8.at_
 obtain ⟨hB, zB⟩ := u8.on hB (by omega)
 refine wn ?_
 refine wp_ret ?_
 have hs := hr6.shape.cells
 refine ret_cell r rfl rfl h_b1 (k := 7) hs.1 ta38 ?_
 rw [← hs.2.2]
 exact RepRes.fin hB hr6 u8 (fun b hb => .inl hb) (fun h => by have := hF _ h; omega) (by omega) (by omega) (by omega)

def D.prog_Swap_int (a0 : Int) (a1 : Int) (a2 : Int) (a3 : (Bool → T Int)) : T Int := (D.prog_Do_int (⟨2, a0, a1, a2⟩ : Access) (fun x => (D.prog_Swap_int_1 a3 a1 x)))

theorem c_prog_Swap_int {n : Nat} {F : Nat → Prop} {w0 : World} (hF : ∀ b, F b → b < w0.heap.size)
    (a0 : Int) (a1 : Int) (a2 : Int) {a3_f : FuncId} {a3_1 a3_2 : List Value} {a3 : (Bool → T Int)} (a3_n : FnT Try.prog encInt boolE (n) F w0 (.func (.func a3_f) a3_1.toArray a3_2.toArray) a3) :
    Calls Try.prog 35 #[.int .i64 a0, .int .u64 a1, .int .u64 a2, .func (.func a3_f) a3_1.toArray a3_2.toArray] w0 (RepRes Try.prog encInt n (D.prog_Swap_int a0 a1 a2 a3) F w0) := by
 refine enter Try.func35 rfl 15 rfl rfl fun fr r => ?_
 have hB := Below.refl w0.heap.size w0
 refine wsr ?_
 refine seq_new (.cells #[(U a1)] 33 (0, 0)) r (fun R => y_box r (v := (U a1)) rfl) rfl fun fr b1 w2 n3 r => ?_
 obtain ⟨e_b1, z_w2, h_b1, hB, zB⟩ := n3.all hB
 refine seq_new (.cells #[.func (.func a3_f) a3_1.toArray a3_2.toArray] 89 (0, 0)) r (fun R => y_box r (v := (.func (.func a3_f) a3_1.toArray a3_2.toArray)) rfl) rfl fun fr b4 w5 n6 r => ?_
 have h_b1 := keep n6.below h_b1
 obtain ⟨e_b4, z_w5, h_b4, hB, zB⟩ := n6.all hB
 refine seq_new (.cells (progCells false encInt.zero 0 0 0 0 .nilFunc) 38 (0, 0)) r (fun R => y_alloc tz38) rfl fun fr b7 w8 n9 r => ?_
 have h_b1 := keep n9.below h_b1
 have h_b4 := keep n9.below h_b4
 obtain ⟨e_b7, z_w8, h_b7, hB, zB⟩ := n9.all hB
 refine wn ?_
 refine wsr ?_
 refine seq_val (I a0) r (fun R => y_move r rfl) rfl fun fr r => ?_
 refine seq_val (U a1) r (fun R => y_load_one r rfl h_b1 to33 rfl) rfl fun fr r => ?_
 refine seq_val (U a2) r (fun R => y_move r rfl) rfl fun fr r => ?_
 refine seq_val (.agg (accessC (⟨2, a0, a1, a2⟩ : Access)).toArray) r (fun R => y_build r (by kernel_rfl)) rfl fun fr r => ?_
 refine seq_val (.func (.func 55) #[] #[.pointer (some ⟨b4, 0, none⟩), .pointer (some ⟨b1, 0, none⟩)]) r (fun R => y_makeFunc r rfl) rfl fun fr r => ?_
 have hF1 := fgrow hF hB b7
 have f10 : ((fun b => F b ∨ (w0.heap.size ≤ b ∧ b < w8.heap.size ∧ b ≠ b7))) b4 := (.inr ⟨by omega, by omega, by omega⟩)
 have f11 : ((fun b => F b ∨ (w0.heap.size ≤ b ∧ b < w8.heap.size ∧ b ≠ b7))) b1 := (.inr ⟨by omega, by omega, by omega⟩)
 refine seq_call r (c_prog_Do_int (F := (fun b => F b ∨ (w0.heap.size ≤ b ∧ b < w8.heap.size ∧ b ≠ b7))) (n := n) hF1 (⟨2, a0, a1, a2⟩ : Access) ⟨55, [], [.pointer (some ⟨b4, 0, none⟩), .pointer (some ⟨b1, 0, none⟩)], cl55, rfl, fun m hm x w' hs hz => c_prog_Swap_int_1 (fun b hb => Nat.lt_of_lt_of_le (hF1 b hb) hz) f10 (hs.at_ f10 h_b4) (a3_n.mono (by omega) (fun b h => .inl h) ((Same.below hB hF).trans (hs.sub (fun b h => .inl h))) (Nat.le_trans hB.size hz)) a1 f11 (hs.at_ f11 h_b1) x⟩) (fun R hc => y_call r rfl cl54 hc) rfl ?_
 rintro _ w12 ⟨v13, rfl, hb, hr14⟩
 refine ⟨_, rfl, fun fr r => ?_⟩
 have z_w12 := hb.size
 have h_b1 := keep hb h_b1
 have h_b4 := keep hb h_b4
 have h_b7 := keep hb h_b7
 obtain ⟨hB, zB⟩ := bon hb hB
 refine seq_upd (.cells v13.cells 38 (0, 0)) r (fun R => y_storep r hr14.shape rfl rfl h_b7 ts38 rfl) rfl fun fr w15 u16 r => ?_
 have z_w15 := u16.size
 have h_b1 := u16.keep h_b1 (by omega)
 have h_b4 := u16.keep h_b4 (by omega)
 have h_b7 := u16.at_
 obtain ⟨hB, zB⟩ := u16.on hB (by omega)
 refine wn ?_
 refine wp_ret ?_
 have hs := hr14.shape.cells
 refine ret_cell r rfl rfl h_b7 (k := 7) hs.1 ta38 ?_
 rw [← hs.2.2]
 exact rfin hF hB hr14 u16 (by omega) (by omega) (by omega)

def D.prog_Store_int_1 (c0 : (Unit → T Int)) (a0 : Int) : T Int := (c0 ())

theorem c_prog_Store_int_1 {n : Nat} {F : Nat → Prop} {w0 : World} (hF : ∀ b, F b → b < w0.heap.size)
    {c0_f : FuncId} {c0_1 c0_2 : List Value} {c0 : (Unit → T Int)} {c0_b : Nat} (c0_F : F c0_b) (c0_h : w0.heap[c0_b]? = some (.cells #[.func (.func c0_f) c0_1.toArray c0_2.toArray] 92 (0, 0))) (c0_n : FnT Try.prog encInt unitE (n + 1) F w0 (.func (.func c0_f) c0_1.toArray c0_2.toArray) c0) (a0 : Int) :
    Calls Try.prog 58 #[.int .u64 a0, .pointer (some ⟨c0_b, 0, none⟩)] w0 (RepRes Try.prog encInt n (D.prog_Store_int_1 c0 a0) F w0) := by
 refine enter Try.func58 rfl 6 rfl rfl fun fr r => ?_
 have hB := Below.refl w0.heap.size w0
 have l_c0_b := lt_of_block c0_h
 refine wsr ?_
 refine seq_new (.cells (progCells false encInt.zero 0 0 0 0 .nilFunc) 38 (0, 0)) r (fun R => y_alloc tz38) rfl fun fr b1 w2 n3 r => ?_
 obtain ⟨e_b1, z_w2, h_b1, hB, zB⟩ := n3.all hB
 refine wn ?_
 refine wsr ?_
 refine seq_val (.func (.func c0_f) c0_1.toArray c0_2.toArray) r (fun R => y_load_one r rfl (keep hB c0_h) to92 rfl) rfl fun fr r => ?_
 refine seq_call r (c0_n.at_.2 n (Nat.lt_succ_self n) () w2 (Same.below hB hF) hB.size) (fun R hc => y_callv0 r rfl c0_n.at_.1 hc) rfl ?_
 rintro _ w4 ⟨v5, rfl, hb, hr6⟩
 refine ⟨_, rfl, fun fr r => ?_⟩
 have z_w4 := hb.size
 have h_b1 := keep hb h_b1
 obtain ⟨hB, zB⟩ := bon hb hB
 refine seq_upd (.cells v5.cells 38 (0, 0)) r (fun R => y_storep r hr6.shape rfl rfl h_b1 ts38 rfl) rfl fun fr w7 u8 r => ?_
 have z_w7 := u8.size
 have h_b1 := u8.at_
 obtain ⟨hB, zB⟩ := u8.on hB (by omega)
 refine wn ?_
 refine wp_ret ?_
 have hs := hr6.shape.cells
 refine ret_cell r rfl rfl h_b1 (k := 7) hs.1 ta38 ?_
 rw [← hs.2.2]
 exact RepRes.fin hB hr6 u8 (fun b hb => .inl hb) (fun h => by have := hF _ h; omega) (by omega) (by omega) (by omega)

def D.prog_Store_int (a0 : Int) (a1 : Int) (a2 : (Unit → T Int)) : T Int := (D.prog_Do_int (⟨1, a0, a1, 0⟩ : Access) (fun x => (D.prog_Store_int_1 a2 x)))

theorem c_prog_Store_int {n : Nat} {F : Nat → Prop} {w0 : World} (hF : ∀ b, F b → b < w0.heap.size)
    (a0 : Int) (a1 : Int) {a2_f : FuncId} {a2_1 a2_2 : List Value} {a2 : (Unit → T Int)} (a2_n : FnT Try.prog encInt unitE (n) F w0 (.func (.func a2_f) a2_1.toArray a2_2.toArray) a2) :
    Calls Try.prog 39 #[.int .i64 a0, .int .u64 a1, .func (.func a2_f) a2_1.toArray a2_2.toArray] w0 (RepRes Try.prog encInt n (D.prog_Store_int a0 a1 a2) F w0) := by
 refine enter Try.func39 rfl 12 rfl rfl fun fr r => ?_
 have hB := Below.refl w0.heap.size w0
 refine wsr ?_
 refine seq_new (.cells #[.func (.func a2_f) a2_1.toArray a2_2.toArray] 92 (0, 0)) r (fun R => y_box r (v := (.func (.func a2_f) a2_1.toArray a2_2.toArray)) rfl) rfl fun fr b1 w2 n3 r => ?_
 obtain ⟨e_b1, z_w2, h_b1, hB, zB⟩ := n3.all hB
 refine seq_new (.cells (progCells false encInt.zero 0 0 0 0 .nilFunc) 38 (0, 0)) r (fun R => y_alloc tz38) rfl fun fr b4 w5 n6 r => ?_
 have h_b1 := keep n6.below h_b1
 obtain ⟨e_b4, z_w5, h_b4, hB, zB⟩ := n6.all hB
 refine wn ?_
 refine wsr ?_
 refine seq_val (I a0) r (fun R => y_move r rfl) rfl fun fr r => ?_
 refine seq_val (U a1) r (fun R => y_move r rfl) rfl fun fr r => ?_
 refine seq_val (.agg (accessC (⟨1, a0, a1, 0⟩ : Access)).toArray) r (fun R => y_build r (by kernel_rfl)) rfl fun fr r => ?_
 refine seq_val (.func (.func 58) #[] #[.pointer (some ⟨b1, 0, none⟩)]) r (fun R => y_makeFunc r rfl) rfl fun fr r => ?_
 have hF1 := fgrow hF hB b4
 have f7 : ((fun b => F b ∨ (w0.heap.size ≤ b ∧ b < w5.heap.size ∧ b ≠ b4))) b1 := (.inr ⟨by omega, by omega, by omega⟩)
 refine seq_call r (c_prog_Do_int (F := (fun b => F b ∨ (w0.heap.size ≤ b ∧ b < w5.heap.size ∧ b ≠ b4))) (n := n) hF1 (⟨1, a0, a1, 0⟩ : Access) ⟨58, [], [.pointer (some ⟨b1, 0, none⟩)], cl58, rfl, fun m hm x w' hs hz => c_prog_Store_int_1 (fun b hb => Nat.lt_of_lt_of_le (hF1 b hb) hz) f7 (hs.at_ f7 h_b1) (a2_n.mono (by omega) (fun b h => .inl h) ((Same.below hB hF).trans (hs.sub (fun b h => .inl h))) (Nat.le_trans hB.size hz)) x⟩) (fun R hc => y_call r rfl cl54 hc) rfl ?_
 rintro _ w8 ⟨v9, rfl, hb, hr10⟩
 refine ⟨_, rfl, fun fr r => ?_⟩
 have z_w8 := hb.size
 have h_b1 := keep hb h_b1
 have h_b4 := keep hb h_b4
 obtain ⟨hB, zB⟩ := bon hb hB
 refine seq_upd (.cells v9.cells 38 (0, 0)) r (fun R => y_storep r hr10.shape rfl rfl h_b4 ts38 rfl) rfl fun fr w11 u12 r => ?_
 have z_w11 := u12.size
 have h_b1 := u12.keep h_b1 (by omega)
 have h_b4 := u12.at_
 obtain ⟨hB, zB⟩ := u12.on hB (by omega)
 refine wn ?_
 refine wp_ret ?_
 have hs := hr10.shape.cells
 refine ret_cell r rfl rfl h_b4 (k := 7) hs.1 ta38 ?_
 rw [← hs.2.2]
 exact rfin hF hB hr10 u12 (by omega) (by omega) (by omega)

end Go.Proofs.Ytbbipmelhmgmfaa

/- Written by a program of ours (wip/gen.py): the list of free nodes -/
set_option linter.unusedVariables false
set_option maxRecDepth 20000
set_option maxHeartbeats 2000000
namespace Go.Proofs.Ytbbipmelhmgmfaa
open Go.RowKit
theorem cl17 : callable Try.prog 17 = true := by kernel_rfl

theorem cl18 : callable Try.prog 18 = true := by kernel_rfl

theorem cl21 : callable Try.prog 21 = true := by kernel_rfl

theorem cl22 : callable Try.prog 22 = true := by kernel_rfl

theorem cl24 : callable Try.prog 24 = true := by kernel_rfl

theorem cl25 : callable Try.prog 25 = true := by kernel_rfl

theorem cl29 : callable Try.prog 29 = true := by kernel_rfl

theorem cl31 : callable Try.prog 31 = true := by kernel_rfl

theorem cl32 : callable Try.prog 32 = true := by kernel_rfl

theorem cl33 : callable Try.prog 33 = true := by kernel_rfl

theorem cl34 : callable Try.prog 34 = true := by kernel_rfl

theorem cl35 : callable Try.prog 35 = true := by kernel_rfl

theorem cl36 : callable Try.prog 36 = true := by kernel_rfl

theorem cl37 : callable Try.prog 37 = true := by kernel_rfl

theorem cl38 : callable Try.prog 38 = true := by kernel_rfl

theorem cl39 : callable Try.prog 39 = true := by kernel_rfl

theorem cl40 : callable Try.prog 40 = true := by kernel_rfl

theorem cl41 : callable Try.prog 41 = true := by kernel_rfl

theorem cl42 : callable Try.prog 42 = true := by kernel_rfl

theorem cl51 : callable Try.prog 51 = true := by kernel_rfl

theorem cl53 : callable Try.prog 53 = true := by kernel_rfl

theorem cl56 : callable Try.prog 56 = true := by kernel_rfl

theorem cl57 : callable Try.prog 57 = true := by kernel_rfl

theorem ti3 : intTy Try.prog 3 .i64 = true := by kernel_rfl

theorem ti33 : intTy Try.prog 33 .u64 = true := by kernel_rfl

theorem ts69 : sized Try.prog 69 2 = true := by kernel_rfl

theorem tz3 : zeroOf Try.prog 3 = some (.int .i64 0) := by kernel_rfl

theorem tz69 : zeroOf Try.prog 69 = some (.agg (fieldC (⟨0, 0⟩ : Field)).toArray) := by kernel_rfl

def D.free_link (a0 : Int) : Int := (IntKind.u64.wrap (IntKind.i64.wrap (a0 + 1)))

theorem c_free_link (w0 : World) 
    (a0 : Int) :
    Calls Try.prog 41 #[.int .i64 a0] w0 (PureRes (.int .u64 (D.free_link a0)) w0) := by
 refine enter Try.func41 rfl 6 rfl rfl fun fr r => ?_
 have hB := Below.refl w0.heap.size w0
 refine wsr ?_
 refine seq_val (U 0) r (fun R => y_assign r rfl) rfl fun fr r => ?_
 refine wn ?_
 refine wsr ?_
 refine seq_val (I a0) r (fun R => y_move r rfl) rfl fun fr r => ?_
 refine seq_val _ r (fun R => y_bin r rfl rfl rfl rfl) rfl fun fr r => ?_
 refine seq_val (U (V (W (a0 + 1)))) r (fun R => y_convert r rfl ti3 ti33) rfl fun fr r => ?_
 refine seq_val (U (V (W (a0 + 1)))) r (fun R => y_assign r rfl) rfl fun fr r => ?_
 refine wn ?_
 refine wp_ret ?_
 refine ret_tmp r rfl rfl ?_
 exact ⟨rfl, hB⟩

def D.free_fresh_1 (r_free_fresh : Plan → Int → T Unit) (c0 : Plan) (c1 : Int) : T Unit := (r_free_fresh c0 (IntKind.i64.wrap (c1 + 1)))

def D.free_fresh_body (r_free_fresh : Plan → Int → T Unit) (a0 : Plan) (a1 : Int) : T Unit := (bif (a1 == a0.nodes) then (D.prog_Set (D.plan_Plan_Head a0) (D.free_link 0)) else (let x19 : Int := (bif ((IntKind.i64.wrap (a1 + 1)) == a0.nodes) then 0 else (D.free_link (IntKind.i64.wrap (a1 + 1)))); (D.prog_Store_None (D.plan_Plan_Next a0 a1) x19 (fun _ => (D.free_fresh_1 r_free_fresh a0 a1)))))

def D.free_fresh : Nat → Plan → Int → T Unit
  | 0, _, _ => .cut
  | k + 1, a0, a1 => D.free_fresh_body (D.free_fresh k) a0 a1

def Spec_free_fresh (r : Plan → Int → T Unit) (n : Nat) : Prop := ∀ (F : Nat → Prop) (w0 : World), (∀ b, F b → b < w0.heap.size) → ∀ (a0 : Plan) (a1 : Int), Calls Try.prog 29 #[.agg (planC a0).toArray, .int .i64 a1] w0 (RepRes Try.prog encNone n (r a0 a1) F w0)

theorem c_free_fresh_1 {n : Nat} {F : Nat → Prop} {r_free_fresh : Plan → Int → T Unit} {w0 : World} (hF : ∀ b, F b → b < w0.heap.size) (ih_free_fresh : ∀ m, m ≤ n → Spec_free_fresh r_free_fresh m)
    (c0 : Plan) {c0_b : Nat} (c0_F : F c0_b) (c0_h : w0.heap[c0_b]? = some (.cells ((planC c0)).toArray 23 (0, 0))) (c1 : Int) {c1_b : Nat} (c1_F : F c1_b) (c1_h : w0.heap[c1_b]? = some (.cells ([(.int .i64 c1)]).toArray 3 (0, 0))) :
    Calls Try.prog 53 #[.pointer (some ⟨c0_b, 0, none⟩), .pointer (some ⟨c1_b, 0, none⟩)] w0 (RepRes Try.prog encNone n (D.free_fresh_1 r_free_fresh c0 c1) F w0) := by
 refine enter Try.func53 rfl 7 rfl rfl fun fr r => ?_
 have hB := Below.refl w0.heap.size w0
 have l_c0_b := lt_of_block c0_h
 have l_c1_b := lt_of_block c1_h
 refine wsr ?_
 refine seq_new (.cells (progCells false encNone.zero 0 0 0 0 .nilFunc) 57 (0, 0)) r (fun R => y_alloc tz57) rfl fun fr b1 w2 n3 r => ?_
 obtain ⟨e_b1, z_w2, h_b1, hB, zB⟩ := n3.all hB
 refine wn ?_
 refine wsr ?_
 refine seq_val (.agg (planC c0).toArray) r (fun R => y_load_agg r (cs := (planC c0)) (n := 6) rfl (keep hB c0_h) ta23 rfl) rfl fun fr r => ?_
 refine seq_val (I c1) r (fun R => y_load_one r rfl (keep hB c1_h) to3 rfl) rfl fun fr r => ?_
 refine seq_val _ r (fun R => y_bin r rfl rfl rfl rfl) rfl fun fr r => ?_
 have hF1 := fgrow hF hB b1
 refine seq_call r ((ih_free_fresh n (by omega)) (fun b => F b ∨ (w0.heap.size ≤ b ∧ b < w2.heap.size ∧ b ≠ b1)) _ hF1 c0 (W (c1 + 1))) (fun R hc => y_call r rfl cl29 hc) rfl ?_
 rintro _ w4 ⟨v5, rfl, hb, hr6⟩
 refine ⟨_, rfl, fun fr r => ?_⟩
 have z_w4 := hb.size
 have h_b1 := keep hb h_b1
 obtain ⟨hB, zB⟩ := bon hb hB
 refine seq_upd (.cells v5.cells 57 (0, 0)) r (fun R => y_storep r hr6.shape rfl rfl h_b1 ts57 rfl) rfl fun fr w7 u8 r => ?_
 have z_w7 := u8.size
 have h_b1 := u8.at_
 obtain ⟨hB, zB⟩ := u8.on hB (by omega)
 refine wn ?_
 refine wp_ret ?_
 have hs := hr6.shape.cells
 refine ret_cell r rfl rfl h_b1 (k := 6) hs.1 ta57 ?_
 rw [← hs.2.2]
 exact rfin hF hB hr6 u8 (by omega) (by omega) (by omega)

theorem b_free_fresh {n : Nat} {F : Nat → Prop} {r_free_fresh : Plan → Int → T Unit} {w0 : World} (hF : ∀ b, F b → b < w0.heap.size) (ih_free_fresh : ∀ m, m < n → Spec_free_fresh r_free_fresh m)
    (a0 : Plan) (a1 : Int) :
    Calls Try.prog 29 #[.agg (planC a0).toArray, .int .i64 a1] w0 (RepRes Try.prog encNone n (D.free_fresh_body r_free_fresh a0 a1) F w0) := by
 refine enter Try.func29 rfl 28 rfl rfl fun fr r => ?_
 have hB := Below.refl w0.heap.size w0
 refine wsr ?_
 refine seq_new (.cells ((planC a0)).toArray 23 (0, 0)) r (fun R => y_box r (v := (.agg (planC a0).toArray)) rfl) rfl fun fr b1 w2 n3 r => ?_
 obtain ⟨e_b1, z_w2, h_b1, hB, zB⟩ := n3.all hB
 refine seq_new (.cells #[(I a1)] 3 (0, 0)) r (fun R => y_box r (v := (I a1)) rfl) rfl fun fr b4 w5 n6 r => ?_
 have h_b1 := keep n6.below h_b1
 obtain ⟨e_b4, z_w5, h_b4, hB, zB⟩ := n6.all hB
 refine seq_new (.cells (progCells false encNone.zero 0 0 0 0 .nilFunc) 57 (0, 0)) r (fun R => y_alloc tz57) rfl fun fr b7 w8 n9 r => ?_
 have h_b1 := keep n9.below h_b1
 have h_b4 := keep n9.below h_b4
 obtain ⟨e_b7, z_w8, h_b7, hB, zB⟩ := n9.all hB
 refine wn ?_
 refine wp_seq ?_
 refine wsr ?_
 refine seq_val (I a1) r (fun R => y_load_one r rfl h_b4 to3 rfl) rfl fun fr r => ?_
 refine seq_val _ r (fun R => y_fieldAddr r (o := 0) rfl fo23_0) rfl fun fr r => ?_
 refine seq_val (I a0.nodes) r (fun R => y_load_one r rfl h_b1 to3 rfl) rfl fun fr r => ?_
 refine seq_val _ r (fun R => y_bin r rfl rfl rfl rfl) rfl fun fr r => ?_
 refine wn ?_
 refine wp_cond_split (t := (a1 == a0.nodes)) (r.ev rfl) (fun h10 => ?_) (fun h10 => ?_)
 ·
  refine wsr ?_
  refine seq_val (.agg (planC a0).toArray) r (fun R => y_load_agg r (cs := (planC a0)) (n := 6) rfl h_b1 ta23 rfl) rfl fun fr r => ?_
  refine seq_call r (c_plan_Plan_Head w8 a0) (fun R hc => y_call r rfl cl24 hc) rfl ?_
  rintro _ w11 ⟨rfl, hb⟩
  refine ⟨_, rfl, fun fr r => ?_⟩
  have z_w11 := hb.size
  have h_b1 := keep hb h_b1
  have h_b4 := keep hb h_b4
  have h_b7 := keep hb h_b7
  obtain ⟨hB, zB⟩ := bon hb hB
  refine seq_call r (c_free_link w11 0) (fun R hc => y_call r rfl cl41 hc) rfl ?_
  rintro _ w12 ⟨rfl, hb⟩
  refine ⟨_, rfl, fun fr r => ?_⟩
  have z_w12 := hb.size
  have h_b1 := keep hb h_b1
  have h_b4 := keep hb h_b4
  have h_b7 := keep hb h_b7
  obtain ⟨hB, zB⟩ := bon hb hB
  have hF1 := fgrow hF hB b7
  refine seq_call r (c_prog_Set (F := (fun b => F b ∨ (w0.heap.size ≤ b ∧ b < w12.heap.size ∧ b ≠ b7))) (n := n) hF1 (D.plan_Plan_Head a0) (D.free_link 0)) (fun R hc => y_call r rfl cl51 hc) rfl ?_
  rintro _ w13 ⟨v14, rfl, hb, hr15⟩
  refine ⟨_, rfl, fun fr r => ?_⟩
  have z_w13 := hb.size
  have h_b1 := keep hb h_b1
  have h_b4 := keep hb h_b4
  have h_b7 := keep hb h_b7
  obtain ⟨hB, zB⟩ := bon hb hB
  refine seq_upd (.cells v14.cells 57 (0, 0)) r (fun R => y_storep r hr15.shape rfl rfl h_b7 ts57 rfl) rfl fun fr w16 u17 r => ?_
  have z_w16 := u17.size
  have h_b1 := u17.keep h_b1 (by omega)
  have h_b4 := u17.keep h_b4 (by omega)
  have h_b7 := u17.at_
  obtain ⟨hB, zB⟩ := u17.on hB (by omega)
  refine wn ?_
  refine wp_ret ?_
  have hd : D.free_fresh_body r_free_fresh a0 a1 = (D.prog_Set (D.plan_Plan_Head a0) (D.free_link 0)) := (cond_t h10).trans (rfl)
  have hs := hr15.shape.cells
  refine ret_cell r rfl rfl h_b7 (k := 6) hs.1 ta57 ?_
  rw [← hs.2.2, hd]
  exact rfin hF hB hr15 u17 (by omega) (by omega) (by omega)
 ·
  refine wp_skip ?_
  refine wsr ?_
  refine seq_val (I a1) r (fun R => y_load_one r rfl h_b4 to3 rfl) rfl fun fr r => ?_
  refine seq_val _ r (fun R => y_bin r rfl rfl rfl rfl) rfl fun fr r => ?_
  refine seq_call r (c_free_link w8 (W (a1 + 1))) (fun R hc => y_call r rfl cl41 hc) rfl ?_
  rintro _ w18 ⟨rfl, hb⟩
  refine ⟨_, rfl, fun fr r => ?_⟩
  have z_w18 := hb.size
  have h_b1 := keep hb h_b1
  have h_b4 := keep hb h_b4
  have h_b7 := keep hb h_b7
  obtain ⟨hB, zB⟩ := bon hb hB
  refine seq_val (U (D.free_link (W (a1 + 1)))) r (fun R => y_assign r rfl) rfl fun fr r => ?_
  refine wn ?_
  refine wp_seq ?_
  refine wsr ?_
  refine seq_val (I a1) r (fun R => y_load_one r rfl h_b4 to3 rfl) rfl fun fr r => ?_
  refine seq_val _ r (fun R => y_bin r rfl rfl rfl rfl) rfl fun fr r => ?_
  refine seq_val _ r (fun R => y_fieldAddr r (o := 0) rfl fo23_0) rfl fun fr r => ?_
  refine seq_val (I a0.nodes) r (fun R => y_load_one r rfl h_b1 to3 rfl) rfl fun fr r => ?_
  refine seq_val _ r (fun R => y_bin r rfl rfl rfl rfl) rfl fun fr r => ?_
  refine wn ?_
  obtain ⟨x19, hx19⟩ : ∃ x : Int, x = (bif ((W (a1 + 1)) == a0.nodes) then 0 else (D.free_link (W (a1 + 1)))) := ⟨_, rfl⟩
  refine wp_join (N := 28) [(0, (.agg (planC a0).toArray)), (1, (I a1)), (2, (.pointer (some ⟨b1, 0, none⟩))), (3, (.pointer (some ⟨b4, 0, none⟩))), (4, (.pointer (some ⟨b7, 0, none⟩))), (5, (U x19))] (fun w => Below w0.heap.size w0 w ∧ w18.heap.size ≤ w.heap.size ∧ w.heap[b1]? = some (.cells ((planC a0)).toArray 23 (0, 0)) ∧ w.heap[b4]? = some (.cells #[(I a1)] 3 (0, 0)) ∧ w.heap[b7]? = some (.cells (progCells false encNone.zero 0 0 0 0 .nilFunc) 57 (0, 0))) ?_ ?_
  ·
   refine wp_cond_split (t := ((W (a1 + 1)) == a0.nodes)) (r.ev rfl) (fun h20 => ?_) (fun h20 => ?_)
   ·
    refine wp_region_lit ?_
    refine seq_val (U 0) r (fun R => y_assign r rfl) rfl fun fr r => ?_
    refine wn ?_
    exact ⟨rfl, _, r, (hs_cons rfl (hs_cons rfl (hs_cons rfl (hs_cons rfl (hs_cons rfl (hs_cons (by rw [hx19, cond_t h20]; rfl) hs_nil)))))), hB, (by omega), h_b1, h_b4, h_b7⟩
   ·
    refine wp_skip ?_
    exact ⟨rfl, _, r, (hs_cons rfl (hs_cons rfl (hs_cons rfl (hs_cons rfl (hs_cons rfl (hs_cons (by rw [hx19, cond_f h20]; rfl) hs_nil)))))), hB, (by omega), h_b1, h_b4, h_b7⟩
  ·
   rintro fr w21 g r ⟨hB, z_w21, h_b1, h_b4, h_b7⟩
   have zB := hB.size
   refine wsr ?_
   refine seq_val (.agg (planC a0).toArray) r (fun R => y_load_agg r (cs := (planC a0)) (n := 6) rfl h_b1 ta23 rfl) rfl fun fr r => ?_
   refine seq_val (I a1) r (fun R => y_load_one r rfl h_b4 to3 rfl) rfl fun fr r => ?_
   refine seq_call r (c_plan_Plan_Next w21 a0 a1) (fun R hc => y_call r rfl cl25 hc) rfl ?_
   rintro _ w22 ⟨rfl, hb⟩
   refine ⟨_, rfl, fun fr r => ?_⟩
   have z_w22 := hb.size
   have h_b1 := keep hb h_b1
   have h_b4 := keep hb h_b4
   have h_b7 := keep hb h_b7
   obtain ⟨hB, zB⟩ := bon hb hB
   refine seq_val (U x19) r (fun R => y_move r rfl) rfl fun fr r => ?_
   refine seq_val (.func (.func 53) #[] #[.pointer (some ⟨b1, 0, none⟩), .pointer (some ⟨b4, 0, none⟩)]) r (fun R => y_makeFunc r rfl) rfl fun fr r => ?_
   have hF1 := fgrow hF hB b7
   have f23 : ((fun b => F b ∨ (w0.heap.size ≤ b ∧ b < w22.heap.size ∧ b ≠ b7))) b1 := (.inr ⟨by omega, by omega, by omega⟩)
   have f24 : ((fun b => F b ∨ (w0.heap.size ≤ b ∧ b < w22.heap.size ∧ b ≠ b7))) b4 := (.inr ⟨by omega, by omega, by omega⟩)
   refine seq_call r (c_prog_Store_None (F := (fun b => F b ∨ (w0.heap.size ≤ b ∧ b < w22.heap.size ∧ b ≠ b7))) (n := n) hF1 (D.plan_Plan_Next a0 a1) x19 ⟨53, [], [.pointer (some ⟨b1, 0, none⟩), .pointer (some ⟨b4, 0, none⟩)], cl53, rfl, fun m hm _ w' hs hz => c_free_fresh_1 (fun b hb => Nat.lt_of_lt_of_le (hF1 b hb) hz) (fun m' hm' => ih_free_fresh m' (by omega)) a0 f23 (hs.at_ f23 h_b1) a1 f24 (hs.at_ f24 h_b4)⟩) (fun R hc => y_call r rfl cl52 hc) rfl ?_
   rintro _ w25 ⟨v26, rfl, hb, hr27⟩
   refine ⟨_, rfl, fun fr r => ?_⟩
   have z_w25 := hb.size
   have h_b1 := keep hb h_b1
   have h_b4 := keep hb h_b4
   have h_b7 := keep hb h_b7
   obtain ⟨hB, zB⟩ := bon hb hB
   refine seq_upd (.cells v26.cells 57 (0, 0)) r (fun R => y_storep r hr27.shape rfl rfl h_b7 ts57 rfl) rfl fun fr w28 u29 r => ?_
   have z_w28 := u29.size
   have h_b1 := u29.keep h_b1 (by omega)
   have h_b4 := u29.keep h_b4 (by omega)
   have h_b7 := u29.at_
   obtain ⟨hB, zB⟩ := u29.on hB (by omega)
   refine wn ?_
   refine wp_ret ?_
   have hd : D.free_fresh_body r_free_fresh a0 a1 = (D.prog_Store_None (D.plan_Plan_Next a0 a1) x19 (fun _ => (D.free_fresh_1 r_free_fresh a0 a1))) := by subst hx19; exact (cond_f h10).trans (rfl)
   have hs := hr27.shape.cells
   refine ret_cell r rfl rfl h_b7 (k := 6) hs.1 ta57 ?_
   rw [← hs.2.2, hd]
   exact rfin hF hB hr27 u29 (by omega) (by omega) (by omega)

theorem c_free_fresh {n : Nat} {k : Nat} (hk : n < k) : Spec_free_fresh (D.free_fresh k) n := by
  induction n using Nat.strongRecOn generalizing k with
  | _ n ih =>
    obtain ⟨k, rfl⟩ : ∃ q, k = q + 1 := ⟨k - 1, by omega⟩
    intro F w0 hF
    have h := @b_free_fresh n F (D.free_fresh k) w0 hF (fun m hm => ih m hm (by omega))
    exact h

def D.free_Fresh (j : Nat) (a0 : Plan) : T Unit := (D.free_fresh j a0 0)

theorem c_free_Fresh {n : Nat} {F : Nat → Prop} {j : Nat} {w0 : World} (hF : ∀ b, F b → b < w0.heap.size) (hj : n < j)
    (a0 : Plan) :
    Calls Try.prog 15 #[.agg (planC a0).toArray] w0 (RepRes Try.prog encNone n (D.free_Fresh j a0) F w0) := by
 refine enter Try.func15 rfl 5 rfl rfl fun fr r => ?_
 have hB := Below.refl w0.heap.size w0
 refine wsr ?_
 refine seq_new (.cells ((planC a0)).toArray 23 (0, 0)) r (fun R => y_box r (v := (.agg (planC a0).toArray)) rfl) rfl fun fr b1 w2 n3 r => ?_
 obtain ⟨e_b1, z_w2, h_b1, hB, zB⟩ := n3.all hB
 refine seq_new (.cells (progCells false encNone.zero 0 0 0 0 .nilFunc) 57 (0, 0)) r (fun R => y_alloc tz57) rfl fun fr b4 w5 n6 r => ?_
 have h_b1 := keep n6.below h_b1
 obtain ⟨e_b4, z_w5, h_b4, hB, zB⟩ := n6.all hB
 refine wn ?_
 refine wsr ?_
 refine seq_val (.agg (planC a0).toArray) r (fun R => y_load_agg r (cs := (planC a0)) (n := 6) rfl h_b1 ta23 rfl) rfl fun fr r => ?_
 have hF1 := fgrow hF hB b4
 refine seq_call r ((c_free_fresh (k := j) (n := n) (by omega)) (fun b => F b ∨ (w0.heap.size ≤ b ∧ b < w5.heap.size ∧ b ≠ b4)) _ hF1 a0 0) (fun R hc => y_call r rfl cl29 hc) rfl ?_
 rintro _ w7 ⟨v8, rfl, hb, hr9⟩
 refine ⟨_, rfl, fun fr r => ?_⟩
 have z_w7 := hb.size
 have h_b1 := keep hb h_b1
 have h_b4 := keep hb h_b4
 obtain ⟨hB, zB⟩ := bon hb hB
 refine seq_upd (.cells v8.cells 57 (0, 0)) r (fun R => y_storep r hr9.shape rfl rfl h_b4 ts57 rfl) rfl fun fr w10 u11 r => ?_
 have z_w10 := u11.size
 have h_b1 := u11.keep h_b1 (by omega)
 have h_b4 := u11.at_
 obtain ⟨hB, zB⟩ := u11.on hB (by omega)
 refine wn ?_
 refine wp_ret ?_
 have hs := hr9.shape.cells
 refine ret_cell r rfl rfl h_b4 (k := 6) hs.1 ta57 ?_
 rw [← hs.2.2]
 exact rfin hF hB hr9 u11 (by omega) (by omega) (by omega)

def D.free_node  : Field := (⟨0, 21⟩ : Field)

theorem c_free_node (w0 : World) 
     :
    Calls Try.prog 21 #[] w0 (PureRes (.agg (fieldC D.free_node).toArray) w0) := by
 refine enter Try.func21 rfl 2 rfl rfl fun fr r => ?_
 have hB := Below.refl w0.heap.size w0
 refine wsr ?_
 refine seq_new (.cells ((fieldC (⟨0, 0⟩ : Field))).toArray 69 (0, 0)) r (fun R => y_alloc tz69) rfl fun fr b1 w2 n3 r => ?_
 obtain ⟨e_b1, z_w2, h_b1, hB, zB⟩ := n3.all hB
 refine wn ?_
 refine wsr ?_
 refine seq_val (.agg (fieldC (⟨0, 21⟩ : Field)).toArray) r (fun R => y_build r (by kernel_rfl)) rfl fun fr r => ?_
 refine seq_upd (.cells ((fieldC (⟨0, 21⟩ : Field))).toArray 69 (0, 0)) r (fun R => y_store r (o := 0) (v := (.agg (fieldC (⟨0, 21⟩ : Field)).toArray)) rfl rfl h_b1 ts69 (Nat.le_of_ble_eq_true rfl) rfl rfl) rfl fun fr w4 u5 r => ?_
 have z_w4 := u5.size
 have h_b1 := u5.at_
 obtain ⟨hB, zB⟩ := u5.on hB (by omega)
 refine wn ?_
 refine wp_ret ?_
 refine ret_cell r rfl rfl h_b1 (k := 2) rfl ta69 ?_
 exact ⟨rfl, hB⟩

def D.free_tag  : Field := (⟨21, 43⟩ : Field)

theorem c_free_tag (w0 : World) 
     :
    Calls Try.prog 56 #[] w0 (PureRes (.agg (fieldC D.free_tag).toArray) w0) := by
 refine enter Try.func56 rfl 2 rfl rfl fun fr r => ?_
 have hB := Below.refl w0.heap.size w0
 refine wsr ?_
 refine seq_new (.cells ((fieldC (⟨0, 0⟩ : Field))).toArray 69 (0, 0)) r (fun R => y_alloc tz69) rfl fun fr b1 w2 n3 r => ?_
 obtain ⟨e_b1, z_w2, h_b1, hB, zB⟩ := n3.all hB
 refine wn ?_
 refine wsr ?_
 refine seq_val (.agg (fieldC (⟨21, 43⟩ : Field)).toArray) r (fun R => y_build r (by kernel_rfl)) rfl fun fr r => ?_
 refine seq_upd (.cells ((fieldC (⟨21, 43⟩ : Field))).toArray 69 (0, 0)) r (fun R => y_store r (o := 0) (v := (.agg (fieldC (⟨21, 43⟩ : Field)).toArray)) rfl rfl h_b1 ts69 (Nat.le_of_ble_eq_true rfl) rfl rfl) rfl fun fr w4 u5 r => ?_
 have z_w4 := u5.size
 have h_b1 := u5.at_
 obtain ⟨hB, zB⟩ := u5.on hB (by omega)
 refine wn ?_
 refine wp_ret ?_
 refine ret_cell r rfl rfl h_b1 (k := 2) rfl ta69 ?_
 exact ⟨rfl, hB⟩

def D.free_turned (a0 : Int) (a1 : Int) : Int := (D.field_Field_Put D.free_tag (D.field_Field_Put D.free_node 0 a1) (IntKind.u64.wrap ((D.field_Field_Get D.free_tag a0) + 1)))

theorem c_free_turned (w0 : World) 
    (a0 : Int) (a1 : Int) :
    Calls Try.prog 36 #[.int .u64 a0, .int .u64 a1] w0 (PureRes (.int .u64 (D.free_turned a0 a1)) w0) := by
 refine enter Try.func36 rfl 14 rfl rfl fun fr r => ?_
 have hB := Below.refl w0.heap.size w0
 refine wsr ?_
 refine seq_val (U 0) r (fun R => y_assign r rfl) rfl fun fr r => ?_
 refine wn ?_
 refine wsr ?_
 refine seq_call r (c_free_tag w0 ) (fun R hc => y_call r rfl cl56 hc) rfl ?_
 rintro _ w1 ⟨rfl, hb⟩
 refine ⟨_, rfl, fun fr r => ?_⟩
 have z_w1 := hb.size
 obtain ⟨hB, zB⟩ := bon hb hB
 refine seq_call r (c_free_node w1 ) (fun R hc => y_call r rfl cl21 hc) rfl ?_
 rintro _ w2 ⟨rfl, hb⟩
 refine ⟨_, rfl, fun fr r => ?_⟩
 have z_w2 := hb.size
 obtain ⟨hB, zB⟩ := bon hb hB
 refine seq_val (U a1) r (fun R => y_move r rfl) rfl fun fr r => ?_
 refine seq_call r (c_field_Field_Put w2 D.free_node 0 a1) (fun R hc => y_call r rfl cl57 hc) rfl ?_
 rintro _ w3 ⟨rfl, hb⟩
 refine ⟨_, rfl, fun fr r => ?_⟩
 have z_w3 := hb.size
 obtain ⟨hB, zB⟩ := bon hb hB
 refine seq_call r (c_free_tag w3 ) (fun R hc => y_call r rfl cl56 hc) rfl ?_
 rintro _ w4 ⟨rfl, hb⟩
 refine ⟨_, rfl, fun fr r => ?_⟩
 have z_w4 := hb.size
 obtain ⟨hB, zB⟩ := bon hb hB
 refine seq_val (U a0) r (fun R => y_move r rfl) rfl fun fr r => ?_
 refine seq_call r (c_field_Field_Get w4 D.free_tag a0) (fun R hc => y_call r rfl cl22 hc) rfl ?_
 rintro _ w5 ⟨rfl, hb⟩
 refine ⟨_, rfl, fun fr r => ?_⟩
 have z_w5 := hb.size
 obtain ⟨hB, zB⟩ := bon hb hB
 refine seq_val _ r (fun R => y_bin r rfl rfl rfl rfl) rfl fun fr r => ?_
 refine seq_call r (c_field_Field_Put w5 D.free_tag (D.field_Field_Put D.free_node 0 a1) (V ((D.field_Field_Get D.free_tag a0) + 1))) (fun R hc => y_call r rfl cl57 hc) rfl ?_
 rintro _ w6 ⟨rfl, hb⟩
 refine ⟨_, rfl, fun fr r => ?_⟩
 have z_w6 := hb.size
 obtain ⟨hB, zB⟩ := bon hb hB
 refine seq_val (U (D.field_Field_Put D.free_tag (D.field_Field_Put D.free_node 0 a1) (V ((D.field_Field_Get D.free_tag a0) + 1)))) r (fun R => y_assign r rfl) rfl fun fr r => ?_
 refine wn ?_
 refine wp_ret ?_
 refine ret_tmp r rfl rfl ?_
 exact ⟨rfl, hB⟩

def D.free_Pop_1_1_1 (r_free_Pop : Plan → T Int) (c0 : Plan) (c1 : Int) (a0 : Bool) : T Int := (bif (!a0) then (r_free_Pop c0) else (D.prog_Done_int c1))

def D.free_Pop_1_1 (r_free_Pop : Plan → T Int) (c0 : Plan) (c1 : Int) (c2 : Int) (a0 : Int) : T Int := (D.prog_Swap_int (D.plan_Plan_Head c0) c1 (D.free_turned c1 a0) (fun x => (D.free_Pop_1_1_1 r_free_Pop c0 c2 x)))

def D.free_Pop_1 (r_free_Pop : Plan → T Int) (c0 : Plan) (a0 : Int) : T Int := (bif (decide ((IntKind.i64.wrap ((IntKind.i64.wrap (D.field_Field_Get D.free_node a0)) - 1)) < 0)) then (D.prog_Done_int (-1)) else (D.prog_Load_int (D.plan_Plan_Next c0 (IntKind.i64.wrap ((IntKind.i64.wrap (D.field_Field_Get D.free_node a0)) - 1))) (fun x => (D.free_Pop_1_1 r_free_Pop c0 a0 (IntKind.i64.wrap ((IntKind.i64.wrap (D.field_Field_Get D.free_node a0)) - 1)) x))))

def D.free_Pop_body (r_free_Pop : Plan → T Int) (a0 : Plan) : T Int := (D.prog_Load_int (D.plan_Plan_Head a0) (fun x => (D.free_Pop_1 r_free_Pop a0 x)))

def D.free_Pop : Nat → Plan → T Int
  | 0, _ => .cut
  | k + 1, a0 => D.free_Pop_body (D.free_Pop k) a0

def Spec_free_Pop (r : Plan → T Int) (n : Nat) : Prop := ∀ (F : Nat → Prop) (w0 : World), (∀ b, F b → b < w0.heap.size) → ∀ (a0 : Plan), Calls Try.prog 17 #[.agg (planC a0).toArray] w0 (RepRes Try.prog encInt n (r a0) F w0)

theorem c_free_Pop_1_1_1 {n : Nat} {F : Nat → Prop} {r_free_Pop : Plan → T Int} {w0 : World} (hF : ∀ b, F b → b < w0.heap.size) (ih_free_Pop : ∀ m, m ≤ n → Spec_free_Pop r_free_Pop m)
    (c0 : Plan) {c0_b : Nat} (c0_F : F c0_b) (c0_h : w0.heap[c0_b]? = some (.cells ((planC c0)).toArray 23 (0, 0))) (c1 : Int) {c1_b : Nat} (c1_F : F c1_b) (c1_h : w0.heap[c1_b]? = some (.cells ([(.int .i64 c1)]).toArray 3 (0, 0))) (a0 : Bool) :
    Calls Try.prog 37 #[.bool a0, .pointer (some ⟨c0_b, 0, none⟩), .pointer (some ⟨c1_b, 0, none⟩)] w0 (RepRes Try.prog encInt n (D.free_Pop_1_1_1 r_free_Pop c0 c1 a0) F w0) := by
 refine enter Try.func37 rfl 11 rfl rfl fun fr r => ?_
 have hB := Below.refl w0.heap.size w0
 have l_c0_b := lt_of_block c0_h
 have l_c1_b := lt_of_block c1_h
 refine wsr ?_
 refine seq_new (.cells (progCells false encInt.zero 0 0 0 0 .nilFunc) 38 (0, 0)) r (fun R => y_alloc tz38) rfl fun fr b1 w2 n3 r => ?_
 obtain ⟨e_b1, z_w2, h_b1, hB, zB⟩ := n3.all hB
 refine wn ?_
 refine wp_seq ?_
 refine wsr ?_
 refine seq_val (.bool a0) r (fun R => y_move r rfl) rfl fun fr r => ?_
 refine seq_val (.bool (!a0)) r (fun R => y_un r (u := (.bool a0)) rfl rfl) rfl fun fr r => ?_
 refine wn ?_
 refine wp_cond_split (t := (!a0)) (r.ev rfl) (fun h4 => ?_) (fun h4 => ?_)
 ·
  refine wsr ?_
  refine seq_val (.agg (planC c0).toArray) r (fun R => y_load_agg r (cs := (planC c0)) (n := 6) rfl (keep hB c0_h) ta23 rfl) rfl fun fr r => ?_
  have hF1 := fgrow hF hB b1
  refine seq_call r ((ih_free_Pop n (by omega)) (fun b => F b ∨ (w0.heap.size ≤ b ∧ b < w2.heap.size ∧ b ≠ b1)) _ hF1 c0) (fun R hc => y_call r rfl cl17 hc) rfl ?_
  rintro _ w5 ⟨v6, rfl, hb, hr7⟩
  refine ⟨_, rfl, fun fr r => ?_⟩
  have z_w5 := hb.size
  have h_b1 := keep hb h_b1
  obtain ⟨hB, zB⟩ := bon hb hB
  refine seq_upd (.cells v6.cells 38 (0, 0)) r (fun R => y_storep r hr7.shape rfl rfl h_b1 ts38 rfl) rfl fun fr w8 u9 r => ?_
  have z_w8 := u9.size
  have h_b1 := u9.at_
  obtain ⟨hB, zB⟩ := u9.on hB (by omega)
  refine wn ?_
  refine wp_ret ?_
  have hd : D.free_Pop_1_1_1 r_free_Pop c0 c1 a0 = (r_free_Pop c0) := (cond_t h4).trans (rfl)
  have hs := hr7.shape.cells
  refine ret_cell r rfl rfl h_b1 (k := 7) hs.1 ta38 ?_
  rw [← hs.2.2, hd]
  exact rfin hF hB hr7 u9 (by omega) (by omega) (by omega)
 ·
  refine wp_skip ?_
  refine wsr ?_
  refine seq_val (I c1) r (fun R => y_load_one r rfl (keep hB c1_h) to3 rfl) rfl fun fr r => ?_
  have hF1 := fgrow hF hB b1
  refine seq_call r (c_prog_Done_int (F := (fun b => F b ∨ (w0.heap.size ≤ b ∧ b < w2.heap.size ∧ b ≠ b1))) (n := n) hF1 c1) (fun R hc => y_call r rfl cl33 hc) rfl ?_
  rintro _ w10 ⟨v11, rfl, hb, hr12⟩
  refine ⟨_, rfl, fun fr r => ?_⟩
  have z_w10 := hb.size
  have h_b1 := keep hb h_b1
  obtain ⟨hB, zB⟩ := bon hb hB
  refine seq_upd (.cells v11.cells 38 (0, 0)) r (fun R => y_storep r hr12.shape rfl rfl h_b1 ts38 rfl) rfl fun fr w13 u14 r => ?_
  have z_w13 := u14.size
  have h_b1 := u14.at_
  obtain ⟨hB, zB⟩ := u14.on hB (by omega)
  refine wn ?_
  refine wp_ret ?_
  have hd : D.free_Pop_1_1_1 r_free_Pop c0 c1 a0 = (D.prog_Done_int c1) := (cond_f h4).trans (rfl)
  have hs := hr12.shape.cells
  refine ret_cell r rfl rfl h_b1 (k := 7) hs.1 ta38 ?_
  rw [← hs.2.2, hd]
  exact rfin hF hB hr12 u14 (by omega) (by omega) (by omega)

theorem c_free_Pop_1_1 {n : Nat} {F : Nat → Prop} {r_free_Pop : Plan → T Int} {w0 : World} (hF : ∀ b, F b → b < w0.heap.size) (ih_free_Pop : ∀ m, m < n → Spec_free_Pop r_free_Pop m)
    (c0 : Plan) {c0_b : Nat} (c0_F : F c0_b) (c0_h : w0.heap[c0_b]? = some (.cells ((planC c0)).toArray 23 (0, 0))) (c1 : Int) {c1_b : Nat} (c1_F : F c1_b) (c1_h : w0.heap[c1_b]? = some (.cells ([(.int .u64 c1)]).toArray 33 (0, 0))) (c2 : Int) {c2_b : Nat} (c2_F : F c2_b) (c2_h : w0.heap[c2_b]? = some (.cells ([(.int .i64 c2)]).toArray 3 (0, 0))) (a0 : Int) :
    Calls Try.prog 34 #[.int .u64 a0, .pointer (some ⟨c0_b, 0, none⟩), .pointer (some ⟨c1_b, 0, none⟩), .pointer (some ⟨c2_b, 0, none⟩)] w0 (RepRes Try.prog encInt n (D.free_Pop_1_1 r_free_Pop c0 c1 c2 a0) F w0) := by
 refine enter Try.func34 rfl 14 rfl rfl fun fr r => ?_
 have hB := Below.refl w0.heap.size w0
 have l_c0_b := lt_of_block c0_h
 have l_c1_b := lt_of_block c1_h
 have l_c2_b := lt_of_block c2_h
 refine wsr ?_
 refine seq_new (.cells (progCells false encInt.zero 0 0 0 0 .nilFunc) 38 (0, 0)) r (fun R => y_alloc tz38) rfl fun fr b1 w2 n3 r => ?_
 obtain ⟨e_b1, z_w2, h_b1, hB, zB⟩ := n3.all hB
 refine wn ?_
 refine wp_seq ?_
 refine wp_drawnF 7 [.val (.agg (planC c0).toArray), .val (I (D.plan_Plan_Head c0)), .val (U c1), .val (U c1), .val (U a0), .val (U (D.free_turned c1 a0)), .val (.func (.func 37) #[] #[.pointer (some ⟨c0_b, 0, none⟩), .pointer (some ⟨c2_b, 0, none⟩)])] mixed r (by kernel_rfl) (within_cons (by exact trivial) (within_cons (by exact trivial) (within_cons (by exact trivial) (within_cons (by exact trivial) (within_cons (by exact trivial) (within_cons (by exact trivial) (within_cons (by exact trivial) within_nil))))))) ?_ ?_
 ·
  refine ec r (fun _ u _ b d s => y_load_agg s (cs := (planC c0)) (n := 6) rfl (keep2 hB b c0_h) ta23 rfl bz) ?_
  refine ec r (fun fr1 u w' hb' hd r' => y_call r' (args := [(.agg (planC c0).toArray)]) (lc hd.1 l0) cl24 ((c_plan_Plan_Head _ c0).mono (by rintro _ w2 ⟨rfl, hb2⟩; exact ⟨_, rfl, hb2, rfl⟩))) ?_
  refine ec r (fun _ u _ b d s => y_load_one s rfl (keep2 hB b c1_h) to33 rfl bz) ?_
  refine ec r (fun _ u _ b d s => y_load_one s rfl (keep2 hB b c1_h) to33 rfl bz) ?_
  refine ec r (fun _ u _ b d s => y_move s rfl bz) ?_
  refine ec r (fun fr1 u w' hb' hd r' => y_call r' (args := [(U c1), (U a0)]) (lc hd.1 (lc hd.2.1 l0)) cl36 ((c_free_turned _ c1 a0).mono (by rintro _ w2 ⟨rfl, hb2⟩; exact ⟨_, rfl, hb2, rfl⟩))) ?_
  refine ec r (fun _ u _ b d s => y_makeFunc s (v := (.func (.func 37) #[] #[.pointer (some ⟨c0_b, 0, none⟩), .pointer (some ⟨c2_b, 0, none⟩)])) rfl bz) ?_
  exact each_nil
 ·
  intro fr u w4 hb hΦ hne r
  have r := r.congr (sc (hΦ 6 (by decide)) (sc (hΦ 5 (by decide)) (sc (hΦ 4 (by decide)) (sc (hΦ 3 (by decide)) (sc (hΦ 2 (by decide)) (sc (hΦ 1 (by decide)) (sc (hΦ 0 (by decide)) rfl)))))))
  have z_w4 := hb.size
  have h_b1 := keep hb h_b1
  obtain ⟨hB, zB⟩ := bon hb hB
  have hF1 := fgrow hF hB b1
  have f5 : ((fun b => F b ∨ (w0.heap.size ≤ b ∧ b < w4.heap.size ∧ b ≠ b1))) c0_b := (.inl c0_F)
  have f6 : ((fun b => F b ∨ (w0.heap.size ≤ b ∧ b < w4.heap.size ∧ b ≠ b1))) c2_b := (.inl c2_F)
  refine seq_call r (c_prog_Swap_int (F := (fun b => F b ∨ (w0.heap.size ≤ b ∧ b < w4.heap.size ∧ b ≠ b1))) (n := n) hF1 (D.plan_Plan_Head c0) c1 (D.free_turned c1 a0) ⟨37, [], [.pointer (some ⟨c0_b, 0, none⟩), .pointer (some ⟨c2_b, 0, none⟩)], cl37, rfl, fun m hm x w' hs hz => c_free_Pop_1_1_1 (fun b hb => Nat.lt_of_lt_of_le (hF1 b hb) hz) (fun m' hm' => ih_free_Pop m' (by omega)) c0 f5 (hs.at_ f5 (keep hB c0_h)) c2 f6 (hs.at_ f6 (keep hB c2_h)) x⟩) (fun R hc => y_call r rfl cl35 hc) rfl ?_
  rintro _ w7 ⟨v8, rfl, hb, hr9⟩
  refine ⟨_, rfl, fun fr r => ?_⟩
  have z_w7 := hb.size
  have h_b1 := keep hb h_b1
  obtain ⟨hB, zB⟩ := bon hb hB
  refine seq_upd (.cells v8.cells 38 (0, 0)) r (fun R => y_storep r hr9.shape rfl rfl h_b1 ts38 rfl) rfl fun fr w10 u11 r => ?_
  have z_w10 := u11.size
  have h_b1 := u11.at_
  obtain ⟨hB, zB⟩ := u11.on hB (by omega)
  refine wn ?_
  refine wp_ret ?_
  have hs := hr9.shape.cells
  refine ret_cell r rfl rfl h_b1 (k := 7) hs.1 ta38 ?_
  rw [← hs.2.2]
  exact rfin hF hB hr9 u11 (by omega) (by omega) (by omega)

theorem c_free_Pop_1 {n : Nat} {F : Nat → Prop} {r_free_Pop : Plan → T Int} {w0 : World} (hF : ∀ b, F b → b < w0.heap.size) (ih_free_Pop : ∀ m, m < n → Spec_free_Pop r_free_Pop m)
    (c0 : Plan) {c0_b : Nat} (c0_F : F c0_b) (c0_h : w0.heap[c0_b]? = some (.cells ((planC c0)).toArray 23 (0, 0))) (a0 : Int) :
    Calls Try.prog 32 #[.int .u64 a0, .pointer (some ⟨c0_b, 0, none⟩)] w0 (RepRes Try.prog encInt n (D.free_Pop_1 r_free_Pop c0 a0) F w0) := by
 refine enter Try.func32 rfl 18 rfl rfl fun fr r => ?_
 have hB := Below.refl w0.heap.size w0
 have l_c0_b := lt_of_block c0_h
 refine wsr ?_
 refine seq_new (.cells #[(U a0)] 33 (0, 0)) r (fun R => y_box r (v := (U a0)) rfl) rfl fun fr b1 w2 n3 r => ?_
 obtain ⟨e_b1, z_w2, h_b1, hB, zB⟩ := n3.all hB
 refine seq_new (.cells (progCells false encInt.zero 0 0 0 0 .nilFunc) 38 (0, 0)) r (fun R => y_alloc tz38) rfl fun fr b4 w5 n6 r => ?_
 have h_b1 := keep n6.below h_b1
 obtain ⟨e_b4, z_w5, h_b4, hB, zB⟩ := n6.all hB
 refine wn ?_
 refine wp_seq ?_
 refine wp_drawnF 6 [.val (.agg (fieldC D.free_node).toArray), .val (U a0), .val (U (D.field_Field_Get D.free_node a0)), .val (I (W (D.field_Field_Get D.free_node a0))), .val (I (W ((W (D.field_Field_Get D.free_node a0)) - 1))), .new w5.heap.size (.cells #[(I 0)] 3 (0, 0))] mixed r (by kernel_rfl) (within_cons (by exact trivial) (within_cons (by exact trivial) (within_cons (by exact trivial) (within_cons (by exact trivial) (within_cons (by exact trivial) (within_cons (Nat.le_refl _) within_nil)))))) ?_ ?_
 ·
  refine ec r (fun fr1 u w' hb' hd r' => y_call r' (args := []) (l0) cl21 ((c_free_node _ ).mono (by rintro _ w2 ⟨rfl, hb2⟩; exact ⟨_, rfl, hb2, rfl⟩))) ?_
  refine ec r (fun _ u _ b d s => y_load_one s rfl (keep b h_b1) to33 rfl bz) ?_
  refine ec r (fun fr1 u w' hb' hd r' => y_call r' (args := [(.agg (fieldC D.free_node).toArray), (U a0)]) (lc hd.1 (lc hd.2.1 l0)) cl22 ((c_field_Field_Get _ D.free_node a0).mono (by rintro _ w2 ⟨rfl, hb2⟩; exact ⟨_, rfl, hb2, rfl⟩))) ?_
  refine ec r (fun _ u _ b d s => y_convert s (n := (D.field_Field_Get D.free_node a0)) d.1 ti33 ti3 bz) ?_
  refine ec r (fun _ u _ b d s => y_bin s d.1 rfl rfl rfl bz) ?_
  refine ec r (fun fr1 u w' hb' hd r' => y_alloc tz3 (fun b w2 n2 => ⟨n2.below, b, rfl, Nat.le_of_eq n2.eq.symm, n2.at_⟩)) ?_
  exact each_nil
 ·
  intro fr u w7 hb hΦ hne r
  obtain ⟨b8, g5, e_b8, h_b8⟩ := hΦ 5 (by decide)
  have l_b8 := lt_of_block h_b8
  have r := r.congr (sc g5 (sc (hΦ 4 (by decide)) (sc (hΦ 3 (by decide)) (sc (hΦ 2 (by decide)) (sc (hΦ 1 (by decide)) (sc (hΦ 0 (by decide)) rfl))))))
  have z_w7 := hb.size
  have h_b1 := keep hb h_b1
  have h_b4 := keep hb h_b4
  obtain ⟨hB, zB⟩ := bon hb hB
  refine seq_upd (.cells #[(I (W ((W (D.field_Field_Get D.free_node a0)) - 1)))] 3 (0, 0)) r (fun R => y_store r (o := 0) (v := (I (W ((W (D.field_Field_Get D.free_node a0)) - 1)))) rfl rfl h_b8 ts3 (Nat.le_of_ble_eq_true rfl) rfl rfl) rfl fun fr w9 u10 r => ?_
  have z_w9 := u10.size
  have h_b1 := u10.keep h_b1 (by omega)
  have h_b4 := u10.keep h_b4 (by omega)
  have h_b8 := u10.at_
  obtain ⟨hB, zB⟩ := u10.on hB (by omega)
  refine wn ?_
  refine wp_seq ?_
  refine wsr ?_
  refine seq_val (I (W ((W (D.field_Field_Get D.free_node a0)) - 1))) r (fun R => y_load_one r rfl h_b8 to3 rfl) rfl fun fr r => ?_
  refine seq_val _ r (fun R => y_bin r rfl rfl rfl rfl) rfl fun fr r => ?_
  refine wn ?_
  refine wp_cond_split (t := (decide ((W ((W (D.field_Field_Get D.free_node a0)) - 1)) < 0))) (r.ev rfl) (fun h11 => ?_) (fun h11 => ?_)
  ·
   refine wsr ?_
   have hF1 := fgrow hF hB b4
   refine seq_call r (c_prog_Done_int (F := (fun b => F b ∨ (w0.heap.size ≤ b ∧ b < w9.heap.size ∧ b ≠ b4))) (n := n) hF1 (-1)) (fun R hc => y_call r rfl cl33 hc) rfl ?_
   rintro _ w12 ⟨v13, rfl, hb, hr14⟩
   refine ⟨_, rfl, fun fr r => ?_⟩
   have z_w12 := hb.size
   have h_b1 := keep hb h_b1
   have h_b4 := keep hb h_b4
   have h_b8 := keep hb h_b8
   obtain ⟨hB, zB⟩ := bon hb hB
   refine seq_upd (.cells v13.cells 38 (0, 0)) r (fun R => y_storep r hr14.shape rfl rfl h_b4 ts38 rfl) rfl fun fr w15 u16 r => ?_
   have z_w15 := u16.size
   have h_b1 := u16.keep h_b1 (by omega)
   have h_b8 := u16.keep h_b8 (by omega)
   have h_b4 := u16.at_
   obtain ⟨hB, zB⟩ := u16.on hB (by omega)
   refine wn ?_
   refine wp_ret ?_
   have hd : D.free_Pop_1 r_free_Pop c0 a0 = (D.prog_Done_int (-1)) := (cond_t h11).trans (rfl)
   have hs := hr14.shape.cells
   refine ret_cell r rfl rfl h_b4 (k := 7) hs.1 ta38 ?_
   rw [← hs.2.2, hd]
   exact rfin hF hB hr14 u16 (by omega) (by omega) (by omega)
  ·
   refine wp_skip ?_
   refine wsr ?_
   refine seq_val (.agg (planC c0).toArray) r (fun R => y_load_agg r (cs := (planC c0)) (n := 6) rfl (keep hB c0_h) ta23 rfl) rfl fun fr r => ?_
   refine seq_val (I (W ((W (D.field_Field_Get D.free_node a0)) - 1))) r (fun R => y_load_one r rfl h_b8 to3 rfl) rfl fun fr r => ?_
   refine seq_call r (c_plan_Plan_Next w9 c0 (W ((W (D.field_Field_Get D.free_node a0)) - 1))) (fun R hc => y_call r rfl cl25 hc) rfl ?_
   rintro _ w17 ⟨rfl, hb⟩
   refine ⟨_, rfl, fun fr r => ?_⟩
   have z_w17 := hb.size
   have h_b1 := keep hb h_b1
   have h_b4 := keep hb h_b4
   have h_b8 := keep hb h_b8
   obtain ⟨hB, zB⟩ := bon hb hB
   refine seq_val (.func (.func 34) #[] #[.pointer (some ⟨c0_b, 0, none⟩), .pointer (some ⟨b1, 0, none⟩), .pointer (some ⟨b8, 0, none⟩)]) r (fun R => y_makeFunc r rfl) rfl fun fr r => ?_
   have hF1 := fgrow hF hB b4
   have f18 : ((fun b => F b ∨ (w0.heap.size ≤ b ∧ b < w17.heap.size ∧ b ≠ b4))) c0_b := (.inl c0_F)
   have f19 : ((fun b => F b ∨ (w0.heap.size ≤ b ∧ b < w17.heap.size ∧ b ≠ b4))) b1 := (.inr ⟨by omega, by omega, by omega⟩)
   have f20 : ((fun b => F b ∨ (w0.heap.size ≤ b ∧ b < w17.heap.size ∧ b ≠ b4))) b8 := (.inr ⟨by omega, by omega, by omega⟩)
   refine seq_call r (c_prog_Load_int (F := (fun b => F b ∨ (w0.heap.size ≤ b ∧ b < w17.heap.size ∧ b ≠ b4))) (n := n) hF1 (D.plan_Plan_Next c0 (W ((W (D.field_Field_Get D.free_node a0)) - 1))) ⟨34, [], [.pointer (some ⟨c0_b, 0, none⟩), .pointer (some ⟨b1, 0, none⟩), .pointer (some ⟨b8, 0, none⟩)], cl34, rfl, fun m hm x w' hs hz => c_free_Pop_1_1 (fun b hb => Nat.lt_of_lt_of_le (hF1 b hb) hz) (fun m' hm' => ih_free_Pop m' (by omega)) c0 f18 (hs.at_ f18 (keep hB c0_h)) a0 f19 (hs.at_ f19 h_b1) (W ((W (D.field_Field_Get D.free_node a0)) - 1)) f20 (hs.at_ f20 h_b8) x⟩) (fun R hc => y_call r rfl cl31 hc) rfl ?_
   rintro _ w21 ⟨v22, rfl, hb, hr23⟩
   refine ⟨_, rfl, fun fr r => ?_⟩
   have z_w21 := hb.size
   have h_b1 := keep hb h_b1
   have h_b4 := keep hb h_b4
   have h_b8 := keep hb h_b8
   obtain ⟨hB, zB⟩ := bon hb hB
   refine seq_upd (.cells v22.cells 38 (0, 0)) r (fun R => y_storep r hr23.shape rfl rfl h_b4 ts38 rfl) rfl fun fr w24 u25 r => ?_
   have z_w24 := u25.size
   have h_b1 := u25.keep h_b1 (by omega)
   have h_b8 := u25.keep h_b8 (by omega)
   have h_b4 := u25.at_
   obtain ⟨hB, zB⟩ := u25.on hB (by omega)
   refine wn ?_
   refine wp_ret ?_
   have hd : D.free_Pop_1 r_free_Pop c0 a0 = (D.prog_Load_int (D.plan_Plan_Next c0 (W ((W (D.field_Field_Get D.free_node a0)) - 1))) (fun x => (D.free_Pop_1_1 r_free_Pop c0 a0 (W ((W (D.field_Field_Get D.free_node a0)) - 1)) x))) := (cond_f h11).trans (rfl)
   have hs := hr23.shape.cells
   refine ret_cell r rfl rfl h_b4 (k := 7) hs.1 ta38 ?_
   rw [← hs.2.2, hd]
   exact rfin hF hB hr23 u25 (by omega) (by omega) (by omega)

theorem b_free_Pop {n : Nat} {F : Nat → Prop} {r_free_Pop : Plan → T Int} {w0 : World} (hF : ∀ b, F b → b < w0.heap.size) (ih_free_Pop : ∀ m, m < n → Spec_free_Pop r_free_Pop m)
    (a0 : Plan) :
    Calls Try.prog 17 #[.agg (planC a0).toArray] w0 (RepRes Try.prog encInt n (D.free_Pop_body r_free_Pop a0) F w0) := by
 refine enter Try.func17 rfl 7 rfl rfl fun fr r => ?_
 have hB := Below.refl w0.heap.size w0
 refine wsr ?_
 refine seq_new (.cells ((planC a0)).toArray 23 (0, 0)) r (fun R => y_box r (v := (.agg (planC a0).toArray)) rfl) rfl fun fr b1 w2 n3 r => ?_
 obtain ⟨e_b1, z_w2, h_b1, hB, zB⟩ := n3.all hB
 refine seq_new (.cells (progCells false encInt.zero 0 0 0 0 .nilFunc) 38 (0, 0)) r (fun R => y_alloc tz38) rfl fun fr b4 w5 n6 r => ?_
 have h_b1 := keep n6.below h_b1
 obtain ⟨e_b4, z_w5, h_b4, hB, zB⟩ := n6.all hB
 refine wn ?_
 refine wsr ?_
 refine seq_val (.agg (planC a0).toArray) r (fun R => y_load_agg r (cs := (planC a0)) (n := 6) rfl h_b1 ta23 rfl) rfl fun fr r => ?_
 refine seq_call r (c_plan_Plan_Head w5 a0) (fun R hc => y_call r rfl cl24 hc) rfl ?_
 rintro _ w7 ⟨rfl, hb⟩
 refine ⟨_, rfl, fun fr r => ?_⟩
 have z_w7 := hb.size
 have h_b1 := keep hb h_b1
 have h_b4 := keep hb h_b4
 obtain ⟨hB, zB⟩ := bon hb hB
 refine seq_val (.func (.func 32) #[] #[.pointer (some ⟨b1, 0, none⟩)]) r (fun R => y_makeFunc r rfl) rfl fun fr r => ?_
 have hF1 := fgrow hF hB b4
 have f8 : ((fun b => F b ∨ (w0.heap.size ≤ b ∧ b < w7.heap.size ∧ b ≠ b4))) b1 := (.inr ⟨by omega, by omega, by omega⟩)
 refine seq_call r (c_prog_Load_int (F := (fun b => F b ∨ (w0.heap.size ≤ b ∧ b < w7.heap.size ∧ b ≠ b4))) (n := n) hF1 (D.plan_Plan_Head a0) ⟨32, [], [.pointer (some ⟨b1, 0, none⟩)], cl32, rfl, fun m hm x w' hs hz => c_free_Pop_1 (fun b hb => Nat.lt_of_lt_of_le (hF1 b hb) hz) (fun m' hm' => ih_free_Pop m' (by omega)) a0 f8 (hs.at_ f8 h_b1) x⟩) (fun R hc => y_call r rfl cl31 hc) rfl ?_
 rintro _ w9 ⟨v10, rfl, hb, hr11⟩
 refine ⟨_, rfl, fun fr r => ?_⟩
 have z_w9 := hb.size
 have h_b1 := keep hb h_b1
 have h_b4 := keep hb h_b4
 obtain ⟨hB, zB⟩ := bon hb hB
 refine seq_upd (.cells v10.cells 38 (0, 0)) r (fun R => y_storep r hr11.shape rfl rfl h_b4 ts38 rfl) rfl fun fr w12 u13 r => ?_
 have z_w12 := u13.size
 have h_b1 := u13.keep h_b1 (by omega)
 have h_b4 := u13.at_
 obtain ⟨hB, zB⟩ := u13.on hB (by omega)
 refine wn ?_
 refine wp_ret ?_
 have hs := hr11.shape.cells
 refine ret_cell r rfl rfl h_b4 (k := 7) hs.1 ta38 ?_
 rw [← hs.2.2]
 exact rfin hF hB hr11 u13 (by omega) (by omega) (by omega)

theorem c_free_Pop {n : Nat} {k : Nat} (hk : n < k) : Spec_free_Pop (D.free_Pop k) n := by
  induction n using Nat.strongRecOn generalizing k with
  | _ n ih =>
    obtain ⟨k, rfl⟩ : ∃ q, k = q + 1 := ⟨k - 1, by omega⟩
    intro F w0 hF
    have h := @b_free_Pop n F (D.free_Pop k) w0 hF (fun m hm => ih m hm (by omega))
    exact h

def D.free_Push_1_1_1 (r_free_Push : Plan → Int → T Int) (c0 : Plan) (c1 : Int) (a0 : Bool) : T Int := (bif (!a0) then (r_free_Push c0 c1) else (D.prog_Done_int c1))

def D.free_Push_1_1 (r_free_Push : Plan → Int → T Int) (c0 : Plan) (c1 : Int) (c2 : Int) : T Int := (D.prog_Swap_int (D.plan_Plan_Head c0) c1 (D.free_turned c1 (D.free_link c2)) (fun x => (D.free_Push_1_1_1 r_free_Push c0 c2 x)))

def D.free_Push_1 (r_free_Push : Plan → Int → T Int) (c0 : Plan) (c1 : Int) (a0 : Int) : T Int := (D.prog_Store_int (D.plan_Plan_Next c0 c1) (D.field_Field_Get D.free_node a0) (fun _ => (D.free_Push_1_1 r_free_Push c0 a0 c1)))

def D.free_Push_body (r_free_Push : Plan → Int → T Int) (a0 : Plan) (a1 : Int) : T Int := (bif ((D.plan_Plan_Next a0 a1) == (-1)) then (D.prog_Done_int (-1)) else (D.prog_Load_int (D.plan_Plan_Head a0) (fun x => (D.free_Push_1 r_free_Push a0 a1 x))))

def D.free_Push : Nat → Plan → Int → T Int
  | 0, _, _ => .cut
  | k + 1, a0, a1 => D.free_Push_body (D.free_Push k) a0 a1

def Spec_free_Push (r : Plan → Int → T Int) (n : Nat) : Prop := ∀ (F : Nat → Prop) (w0 : World), (∀ b, F b → b < w0.heap.size) → ∀ (a0 : Plan) (a1 : Int), Calls Try.prog 18 #[.agg (planC a0).toArray, .int .i64 a1] w0 (RepRes Try.prog encInt n (r a0 a1) F w0)

theorem c_free_Push_1_1_1 {n : Nat} {F : Nat → Prop} {r_free_Push : Plan → Int → T Int} {w0 : World} (hF : ∀ b, F b → b < w0.heap.size) (ih_free_Push : ∀ m, m ≤ n → Spec_free_Push r_free_Push m)
    (c0 : Plan) {c0_b : Nat} (c0_F : F c0_b) (c0_h : w0.heap[c0_b]? = some (.cells ((planC c0)).toArray 23 (0, 0))) (c1 : Int) {c1_b : Nat} (c1_F : F c1_b) (c1_h : w0.heap[c1_b]? = some (.cells ([(.int .i64 c1)]).toArray 3 (0, 0))) (a0 : Bool) :
    Calls Try.prog 42 #[.bool a0, .pointer (some ⟨c0_b, 0, none⟩), .pointer (some ⟨c1_b, 0, none⟩)] w0 (RepRes Try.prog encInt n (D.free_Push_1_1_1 r_free_Push c0 c1 a0) F w0) := by
 refine enter Try.func42 rfl 12 rfl rfl fun fr r => ?_
 have hB := Below.refl w0.heap.size w0
 have l_c0_b := lt_of_block c0_h
 have l_c1_b := lt_of_block c1_h
 refine wsr ?_
 refine seq_new (.cells (progCells false encInt.zero 0 0 0 0 .nilFunc) 38 (0, 0)) r (fun R => y_alloc tz38) rfl fun fr b1 w2 n3 r => ?_
 obtain ⟨e_b1, z_w2, h_b1, hB, zB⟩ := n3.all hB
 refine wn ?_
 refine wp_seq ?_
 refine wsr ?_
 refine seq_val (.bool a0) r (fun R => y_move r rfl) rfl fun fr r => ?_
 refine seq_val (.bool (!a0)) r (fun R => y_un r (u := (.bool a0)) rfl rfl) rfl fun fr r => ?_
 refine wn ?_
 refine wp_cond_split (t := (!a0)) (r.ev rfl) (fun h4 => ?_) (fun h4 => ?_)
 ·
  refine wsr ?_
  refine seq_val (.agg (planC c0).toArray) r (fun R => y_load_agg r (cs := (planC c0)) (n := 6) rfl (keep hB c0_h) ta23 rfl) rfl fun fr r => ?_
  refine seq_val (I c1) r (fun R => y_load_one r rfl (keep hB c1_h) to3 rfl) rfl fun fr r => ?_
  have hF1 := fgrow hF hB b1
  refine seq_call r ((ih_free_Push n (by omega)) (fun b => F b ∨ (w0.heap.size ≤ b ∧ b < w2.heap.size ∧ b ≠ b1)) _ hF1 c0 c1) (fun R hc => y_call r rfl cl18 hc) rfl ?_
  rintro _ w5 ⟨v6, rfl, hb, hr7⟩
  refine ⟨_, rfl, fun fr r => ?_⟩
  have z_w5 := hb.size
  have h_b1 := keep hb h_b1
  obtain ⟨hB, zB⟩ := bon hb hB
  refine seq_upd (.cells v6.cells 38 (0, 0)) r (fun R => y_storep r hr7.shape rfl rfl h_b1 ts38 rfl) rfl fun fr w8 u9 r => ?_
  have z_w8 := u9.size
  have h_b1 := u9.at_
  obtain ⟨hB, zB⟩ := u9.on hB (by omega)
  refine wn ?_
  refine wp_ret ?_
  have hd : D.free_Push_1_1_1 r_free_Push c0 c1 a0 = (r_free_Push c0 c1) := (cond_t h4).trans (rfl)
  have hs := hr7.shape.cells
  refine ret_cell r rfl rfl h_b1 (k := 7) hs.1 ta38 ?_
  rw [← hs.2.2, hd]
  exact rfin hF hB hr7 u9 (by omega) (by omega) (by omega)
 ·
  refine wp_skip ?_
  refine wsr ?_
  refine seq_val (I c1) r (fun R => y_load_one r rfl (keep hB c1_h) to3 rfl) rfl fun fr r => ?_
  have hF1 := fgrow hF hB b1
  refine seq_call r (c_prog_Done_int (F := (fun b => F b ∨ (w0.heap.size ≤ b ∧ b < w2.heap.size ∧ b ≠ b1))) (n := n) hF1 c1) (fun R hc => y_call r rfl cl33 hc) rfl ?_
  rintro _ w10 ⟨v11, rfl, hb, hr12⟩
  refine ⟨_, rfl, fun fr r => ?_⟩
  have z_w10 := hb.size
  have h_b1 := keep hb h_b1
  obtain ⟨hB, zB⟩ := bon hb hB
  refine seq_upd (.cells v11.cells 38 (0, 0)) r (fun R => y_storep r hr12.shape rfl rfl h_b1 ts38 rfl) rfl fun fr w13 u14 r => ?_
  have z_w13 := u14.size
  have h_b1 := u14.at_
  obtain ⟨hB, zB⟩ := u14.on hB (by omega)
  refine wn ?_
  refine wp_ret ?_
  have hd : D.free_Push_1_1_1 r_free_Push c0 c1 a0 = (D.prog_Done_int c1) := (cond_f h4).trans (rfl)
  have hs := hr12.shape.cells
  refine ret_cell r rfl rfl h_b1 (k := 7) hs.1 ta38 ?_
  rw [← hs.2.2, hd]
  exact rfin hF hB hr12 u14 (by omega) (by omega) (by omega)

theorem c_free_Push_1_1 {n : Nat} {F : Nat → Prop} {r_free_Push : Plan → Int → T Int} {w0 : World} (hF : ∀ b, F b → b < w0.heap.size) (ih_free_Push : ∀ m, m < n → Spec_free_Push r_free_Push m)
    (c0 : Plan) {c0_b : Nat} (c0_F : F c0_b) (c0_h : w0.heap[c0_b]? = some (.cells ((planC c0)).toArray 23 (0, 0))) (c1 : Int) {c1_b : Nat} (c1_F : F c1_b) (c1_h : w0.heap[c1_b]? = some (.cells ([(.int .u64 c1)]).toArray 33 (0, 0))) (c2 : Int) {c2_b : Nat} (c2_F : F c2_b) (c2_h : w0.heap[c2_b]? = some (.cells ([(.int .i64 c2)]).toArray 3 (0, 0))) :
    Calls Try.prog 40 #[.pointer (some ⟨c0_b, 0, none⟩), .pointer (some ⟨c1_b, 0, none⟩), .pointer (some ⟨c2_b, 0, none⟩)] w0 (RepRes Try.prog encInt n (D.free_Push_1_1 r_free_Push c0 c1 c2) F w0) := by
 refine enter Try.func40 rfl 13 rfl rfl fun fr r => ?_
 have hB := Below.refl w0.heap.size w0
 have l_c0_b := lt_of_block c0_h
 have l_c1_b := lt_of_block c1_h
 have l_c2_b := lt_of_block c2_h
 refine wsr ?_
 refine seq_new (.cells (progCells false encInt.zero 0 0 0 0 .nilFunc) 38 (0, 0)) r (fun R => y_alloc tz38) rfl fun fr b1 w2 n3 r => ?_
 obtain ⟨e_b1, z_w2, h_b1, hB, zB⟩ := n3.all hB
 refine wn ?_
 refine wp_seq ?_
 refine wp_drawnF 8 [.val (.agg (planC c0).toArray), .val (I (D.plan_Plan_Head c0)), .val (U c1), .val (U c1), .val (I c2), .val (U (D.free_link c2)), .val (U (D.free_turned c1 (D.free_link c2))), .val (.func (.func 42) #[] #[.pointer (some ⟨c0_b, 0, none⟩), .pointer (some ⟨c2_b, 0, none⟩)])] mixed r (by kernel_rfl) (within_cons (by exact trivial) (within_cons (by exact trivial) (within_cons (by exact trivial) (within_cons (by exact trivial) (within_cons (by exact trivial) (within_cons (by exact trivial) (within_cons (by exact trivial) (within_cons (by exact trivial) within_nil)))))))) ?_ ?_
 ·
  refine ec r (fun _ u _ b d s => y_load_agg s (cs := (planC c0)) (n := 6) rfl (keep2 hB b c0_h) ta23 rfl bz) ?_
  refine ec r (fun fr1 u w' hb' hd r' => y_call r' (args := [(.agg (planC c0).toArray)]) (lc hd.1 l0) cl24 ((c_plan_Plan_Head _ c0).mono (by rintro _ w2 ⟨rfl, hb2⟩; exact ⟨_, rfl, hb2, rfl⟩))) ?_
  refine ec r (fun _ u _ b d s => y_load_one s rfl (keep2 hB b c1_h) to33 rfl bz) ?_
  refine ec r (fun _ u _ b d s => y_load_one s rfl (keep2 hB b c1_h) to33 rfl bz) ?_
  refine ec r (fun _ u _ b d s => y_load_one s rfl (keep2 hB b c2_h) to3 rfl bz) ?_
  refine ec r (fun fr1 u w' hb' hd r' => y_call r' (args := [(I c2)]) (lc hd.1 l0) cl41 ((c_free_link _ c2).mono (by rintro _ w2 ⟨rfl, hb2⟩; exact ⟨_, rfl, hb2, rfl⟩))) ?_
  refine ec r (fun fr1 u w' hb' hd r' => y_call r' (args := [(U c1), (U (D.free_link c2))]) (lc hd.1 (lc hd.2.1 l0)) cl36 ((c_free_turned _ c1 (D.free_link c2)).mono (by rintro _ w2 ⟨rfl, hb2⟩; exact ⟨_, rfl, hb2, rfl⟩))) ?_
  refine ec r (fun _ u _ b d s => y_makeFunc s (v := (.func (.func 42) #[] #[.pointer (some ⟨c0_b, 0, none⟩), .pointer (some ⟨c2_b, 0, none⟩)])) rfl bz) ?_
  exact each_nil
 ·
  intro fr u w4 hb hΦ hne r
  have r := r.congr (sc (hΦ 7 (by decide)) (sc (hΦ 6 (by decide)) (sc (hΦ 5 (by decide)) (sc (hΦ 4 (by decide)) (sc (hΦ 3 (by decide)) (sc (hΦ 2 (by decide)) (sc (hΦ 1 (by decide)) (sc (hΦ 0 (by decide)) rfl))))))))
  have z_w4 := hb.size
  have h_b1 := keep hb h_b1
  obtain ⟨hB, zB⟩ := bon hb hB
  have hF1 := fgrow hF hB b1
  have f5 : ((fun b => F b ∨ (w0.heap.size ≤ b ∧ b < w4.heap.size ∧ b ≠ b1))) c0_b := (.inl c0_F)
  have f6 : ((fun b => F b ∨ (w0.heap.size ≤ b ∧ b < w4.heap.size ∧ b ≠ b1))) c2_b := (.inl c2_F)
  refine seq_call r (c_prog_Swap_int (F := (fun b => F b ∨ (w0.heap.size ≤ b ∧ b < w4.heap.size ∧ b ≠ b1))) (n := n) hF1 (D.plan_Plan_Head c0) c1 (D.free_turned c1 (D.free_link c2)) ⟨42, [], [.pointer (some ⟨c0_b, 0, none⟩), .pointer (some ⟨c2_b, 0, none⟩)], cl42, rfl, fun m hm x w' hs hz => c_free_Push_1_1_1 (fun b hb => Nat.lt_of_lt_of_le (hF1 b hb) hz) (fun m' hm' => ih_free_Push m' (by omega)) c0 f5 (hs.at_ f5 (keep hB c0_h)) c2 f6 (hs.at_ f6 (keep hB c2_h)) x⟩) (fun R hc => y_call r rfl cl35 hc) rfl ?_
  rintro _ w7 ⟨v8, rfl, hb, hr9⟩
  refine ⟨_, rfl, fun fr r => ?_⟩
  have z_w7 := hb.size
  have h_b1 := keep hb h_b1
  obtain ⟨hB, zB⟩ := bon hb hB
  refine seq_upd (.cells v8.cells 38 (0, 0)) r (fun R => y_storep r hr9.shape rfl rfl h_b1 ts38 rfl) rfl fun fr w10 u11 r => ?_
  have z_w10 := u11.size
  have h_b1 := u11.at_
  obtain ⟨hB, zB⟩ := u11.on hB (by omega)
  refine wn ?_
  refine wp_ret ?_
  have hs := hr9.shape.cells
  refine ret_cell r rfl rfl h_b1 (k := 7) hs.1 ta38 ?_
  rw [← hs.2.2]
  exact rfin hF hB hr9 u11 (by omega) (by omega) (by omega)

theorem c_free_Push_1 {n : Nat} {F : Nat → Prop} {r_free_Push : Plan → Int → T Int} {w0 : World} (hF : ∀ b, F b → b < w0.heap.size) (ih_free_Push : ∀ m, m < n → Spec_free_Push r_free_Push m)
    (c0 : Plan) {c0_b : Nat} (c0_F : F c0_b) (c0_h : w0.heap[c0_b]? = some (.cells ((planC c0)).toArray 23 (0, 0))) (c1 : Int) {c1_b : Nat} (c1_F : F c1_b) (c1_h : w0.heap[c1_b]? = some (.cells ([(.int .i64 c1)]).toArray 3 (0, 0))) (a0 : Int) :
    Calls Try.prog 38 #[.int .u64 a0, .pointer (some ⟨c0_b, 0, none⟩), .pointer (some ⟨c1_b, 0, none⟩)] w0 (RepRes Try.prog encInt n (D.free_Push_1 r_free_Push c0 c1 a0) F w0) := by
 refine enter Try.func38 rfl 13 rfl rfl fun fr r => ?_
 have hB := Below.refl w0.heap.size w0
 have l_c0_b := lt_of_block c0_h
 have l_c1_b := lt_of_block c1_h
 refine wsr ?_
 refine seq_new (.cells #[(U a0)] 33 (0, 0)) r (fun R => y_box r (v := (U a0)) rfl) rfl fun fr b1 w2 n3 r => ?_
 obtain ⟨e_b1, z_w2, h_b1, hB, zB⟩ := n3.all hB
 refine seq_new (.cells (progCells false encInt.zero 0 0 0 0 .nilFunc) 38 (0, 0)) r (fun R => y_alloc tz38) rfl fun fr b4 w5 n6 r => ?_
 have h_b1 := keep n6.below h_b1
 obtain ⟨e_b4, z_w5, h_b4, hB, zB⟩ := n6.all hB
 refine wn ?_
 refine wp_seq ?_
 refine wp_drawnF 7 [.val (.agg (planC c0).toArray), .val (I c1), .val (I (D.plan_Plan_Next c0 c1)), .val (.agg (fieldC D.free_node).toArray), .val (U a0), .val (U (D.field_Field_Get D.free_node a0)), .val (.func (.func 40) #[] #[.pointer (some ⟨c0_b, 0, none⟩), .pointer (some ⟨b1, 0, none⟩), .pointer (some ⟨c1_b, 0, none⟩)])] mixed r (by kernel_rfl) (within_cons (by exact trivial) (within_cons (by exact trivial) (within_cons (by exact trivial) (within_cons (by exact trivial) (within_cons (by exact trivial) (within_cons (by exact trivial) (within_cons (by exact trivial) within_nil))))))) ?_ ?_
 ·
  refine ec r (fun _ u _ b d s => y_load_agg s (cs := (planC c0)) (n := 6) rfl (keep2 hB b c0_h) ta23 rfl bz) ?_
  refine ec r (fun _ u _ b d s => y_load_one s rfl (keep2 hB b c1_h) to3 rfl bz) ?_
  refine ec r (fun fr1 u w' hb' hd r' => y_call r' (args := [(.agg (planC c0).toArray), (I c1)]) (lc hd.1 (lc hd.2.1 l0)) cl25 ((c_plan_Plan_Next _ c0 c1).mono (by rintro _ w2 ⟨rfl, hb2⟩; exact ⟨_, rfl, hb2, rfl⟩))) ?_
  refine ec r (fun fr1 u w' hb' hd r' => y_call r' (args := []) (l0) cl21 ((c_free_node _ ).mono (by rintro _ w2 ⟨rfl, hb2⟩; exact ⟨_, rfl, hb2, rfl⟩))) ?_
  refine ec r (fun _ u _ b d s => y_load_one s rfl (keep b h_b1) to33 rfl bz) ?_
  refine ec r (fun fr1 u w' hb' hd r' => y_call r' (args := [(.agg (fieldC D.free_node).toArray), (U a0)]) (lc hd.1 (lc hd.2.1 l0)) cl22 ((c_field_Field_Get _ D.free_node a0).mono (by rintro _ w2 ⟨rfl, hb2⟩; exact ⟨_, rfl, hb2, rfl⟩))) ?_
  refine ec r (fun _ u _ b d s => y_makeFunc s (v := (.func (.func 40) #[] #[.pointer (some ⟨c0_b, 0, none⟩), .pointer (some ⟨b1, 0, none⟩), .pointer (some ⟨c1_b, 0, none⟩)])) rfl bz) ?_
  exact each_nil
 ·
  intro fr u w7 hb hΦ hne r
  have r := r.congr (sc (hΦ 6 (by decide)) (sc (hΦ 5 (by decide)) (sc (hΦ 4 (by decide)) (sc (hΦ 3 (by decide)) (sc (hΦ 2 (by decide)) (sc (hΦ 1 (by decide)) (sc (hΦ 0 (by decide)) rfl)))))))
  have z_w7 := hb.size
  have h_b1 := keep hb h_b1
  have h_b4 := keep hb h_b4
  obtain ⟨hB, zB⟩ := bon hb hB
  have hF1 := fgrow hF hB b4
  have f8 : ((fun b => F b ∨ (w0.heap.size ≤ b ∧ b < w7.heap.size ∧ b ≠ b4))) c0_b := (.inl c0_F)
  have f9 : ((fun b => F b ∨ (w0.heap.size ≤ b ∧ b < w7.heap.size ∧ b ≠ b4))) b1 := (.inr ⟨by omega, by omega, by omega⟩)
  have f10 : ((fun b => F b ∨ (w0.heap.size ≤ b ∧ b < w7.heap.size ∧ b ≠ b4))) c1_b := (.inl c1_F)
  refine seq_call r (c_prog_Store_int (F := (fun b => F b ∨ (w0.heap.size ≤ b ∧ b < w7.heap.size ∧ b ≠ b4))) (n := n) hF1 (D.plan_Plan_Next c0 c1) (D.field_Field_Get D.free_node a0) ⟨40, [], [.pointer (some ⟨c0_b, 0, none⟩), .pointer (some ⟨b1, 0, none⟩), .pointer (some ⟨c1_b, 0, none⟩)], cl40, rfl, fun m hm _ w' hs hz => c_free_Push_1_1 (fun b hb => Nat.lt_of_lt_of_le (hF1 b hb) hz) (fun m' hm' => ih_free_Push m' (by omega)) c0 f8 (hs.at_ f8 (keep hB c0_h)) a0 f9 (hs.at_ f9 h_b1) c1 f10 (hs.at_ f10 (keep hB c1_h))⟩) (fun R hc => y_call r rfl cl39 hc) rfl ?_
  rintro _ w11 ⟨v12, rfl, hb, hr13⟩
  refine ⟨_, rfl, fun fr r => ?_⟩
  have z_w11 := hb.size
  have h_b1 := keep hb h_b1
  have h_b4 := keep hb h_b4
  obtain ⟨hB, zB⟩ := bon hb hB
  refine seq_upd (.cells v12.cells 38 (0, 0)) r (fun R => y_storep r hr13.shape rfl rfl h_b4 ts38 rfl) rfl fun fr w14 u15 r => ?_
  have z_w14 := u15.size
  have h_b1 := u15.keep h_b1 (by omega)
  have h_b4 := u15.at_
  obtain ⟨hB, zB⟩ := u15.on hB (by omega)
  refine wn ?_
  refine wp_ret ?_
  have hs := hr13.shape.cells
  refine ret_cell r rfl rfl h_b4 (k := 7) hs.1 ta38 ?_
  rw [← hs.2.2]
  exact rfin hF hB hr13 u15 (by omega) (by omega) (by omega)

theorem b_free_Push {n : Nat} {F : Nat → Prop} {r_free_Push : Plan → Int → T Int} {w0 : World} (hF : ∀ b, F b → b < w0.heap.size) (ih_free_Push : ∀ m, m < n → Spec_free_Push r_free_Push m)
    (a0 : Plan) (a1 : Int) :
    Calls Try.prog 18 #[.agg (planC a0).toArray, .int .i64 a1] w0 (RepRes Try.prog encInt n (D.free_Push_body r_free_Push a0 a1) F w0) := by
 refine enter Try.func18 rfl 14 rfl rfl fun fr r => ?_
 have hB := Below.refl w0.heap.size w0
 refine wsr ?_
 refine seq_new (.cells ((planC a0)).toArray 23 (0, 0)) r (fun R => y_box r (v := (.agg (planC a0).toArray)) rfl) rfl fun fr b1 w2 n3 r => ?_
 obtain ⟨e_b1, z_w2, h_b1, hB, zB⟩ := n3.all hB
 refine seq_new (.cells #[(I a1)] 3 (0, 0)) r (fun R => y_box r (v := (I a1)) rfl) rfl fun fr b4 w5 n6 r => ?_
 have h_b1 := keep n6.below h_b1
 obtain ⟨e_b4, z_w5, h_b4, hB, zB⟩ := n6.all hB
 refine seq_new (.cells (progCells false encInt.zero 0 0 0 0 .nilFunc) 38 (0, 0)) r (fun R => y_alloc tz38) rfl fun fr b7 w8 n9 r => ?_
 have h_b1 := keep n9.below h_b1
 have h_b4 := keep n9.below h_b4
 obtain ⟨e_b7, z_w8, h_b7, hB, zB⟩ := n9.all hB
 refine wn ?_
 refine wp_seq ?_
 refine wsr ?_
 refine seq_val (.agg (planC a0).toArray) r (fun R => y_load_agg r (cs := (planC a0)) (n := 6) rfl h_b1 ta23 rfl) rfl fun fr r => ?_
 refine seq_val (I a1) r (fun R => y_load_one r rfl h_b4 to3 rfl) rfl fun fr r => ?_
 refine seq_call r (c_plan_Plan_Next w8 a0 a1) (fun R hc => y_call r rfl cl25 hc) rfl ?_
 rintro _ w10 ⟨rfl, hb⟩
 refine ⟨_, rfl, fun fr r => ?_⟩
 have z_w10 := hb.size
 have h_b1 := keep hb h_b1
 have h_b4 := keep hb h_b4
 have h_b7 := keep hb h_b7
 obtain ⟨hB, zB⟩ := bon hb hB
 refine seq_val _ r (fun R => y_bin r rfl rfl rfl rfl) rfl fun fr r => ?_
 refine wn ?_
 refine wp_cond_split (t := ((D.plan_Plan_Next a0 a1) == (-1))) (r.ev rfl) (fun h11 => ?_) (fun h11 => ?_)
 ·
  refine wsr ?_
  have hF1 := fgrow hF hB b7
  refine seq_call r (c_prog_Done_int (F := (fun b => F b ∨ (w0.heap.size ≤ b ∧ b < w10.heap.size ∧ b ≠ b7))) (n := n) hF1 (-1)) (fun R hc => y_call r rfl cl33 hc) rfl ?_
  rintro _ w12 ⟨v13, rfl, hb, hr14⟩
  refine ⟨_, rfl, fun fr r => ?_⟩
  have z_w12 := hb.size
  have h_b1 := keep hb h_b1
  have h_b4 := keep hb h_b4
  have h_b7 := keep hb h_b7
  obtain ⟨hB, zB⟩ := bon hb hB
  refine seq_upd (.cells v13.cells 38 (0, 0)) r (fun R => y_storep r hr14.shape rfl rfl h_b7 ts38 rfl) rfl fun fr w15 u16 r => ?_
  have z_w15 := u16.size
  have h_b1 := u16.keep h_b1 (by omega)
  have h_b4 := u16.keep h_b4 (by omega)
  have h_b7 := u16.at_
  obtain ⟨hB, zB⟩ := u16.on hB (by omega)
  refine wn ?_
  refine wp_ret ?_
  have hd : D.free_Push_body r_free_Push a0 a1 = (D.prog_Done_int (-1)) := (cond_t h11).trans (rfl)
  have hs := hr14.shape.cells
  refine ret_cell r rfl rfl h_b7 (k := 7) hs.1 ta38 ?_
  rw [← hs.2.2, hd]
  exact rfin hF hB hr14 u16 (by omega) (by omega) (by omega)
 ·
  refine wp_skip ?_
  refine wsr ?_
  refine seq_val (.agg (planC a0).toArray) r (fun R => y_load_agg r (cs := (planC a0)) (n := 6) rfl h_b1 ta23 rfl) rfl fun fr r => ?_
  refine seq_call r (c_plan_Plan_Head w10 a0) (fun R hc => y_call r rfl cl24 hc) rfl ?_
  rintro _ w17 ⟨rfl, hb⟩
  refine ⟨_, rfl, fun fr r => ?_⟩
  have z_w17 := hb.size
  have h_b1 := keep hb h_b1
  have h_b4 := keep hb h_b4
  have h_b7 := keep hb h_b7
  obtain ⟨hB, zB⟩ := bon hb hB
  refine seq_val (.func (.func 38) #[] #[.pointer (some ⟨b1, 0, none⟩), .pointer (some ⟨b4, 0, none⟩)]) r (fun R => y_makeFunc r rfl) rfl fun fr r => ?_
  have hF1 := fgrow hF hB b7
  have f18 : ((fun b => F b ∨ (w0.heap.size ≤ b ∧ b < w17.heap.size ∧ b ≠ b7))) b1 := (.inr ⟨by omega, by omega, by omega⟩)
  have f19 : ((fun b => F b ∨ (w0.heap.size ≤ b ∧ b < w17.heap.size ∧ b ≠ b7))) b4 := (.inr ⟨by omega, by omega, by omega⟩)
  refine seq_call r (c_prog_Load_int (F := (fun b => F b ∨ (w0.heap.size ≤ b ∧ b < w17.heap.size ∧ b ≠ b7))) (n := n) hF1 (D.plan_Plan_Head a0) ⟨38, [], [.pointer (some ⟨b1, 0, none⟩), .pointer (some ⟨b4, 0, none⟩)], cl38, rfl, fun m hm x w' hs hz => c_free_Push_1 (fun b hb => Nat.lt_of_lt_of_le (hF1 b hb) hz) (fun m' hm' => ih_free_Push m' (by omega)) a0 f18 (hs.at_ f18 h_b1) a1 f19 (hs.at_ f19 h_b4) x⟩) (fun R hc => y_call r rfl cl31 hc) rfl ?_
  rintro _ w20 ⟨v21, rfl, hb, hr22⟩
  refine ⟨_, rfl, fun fr r => ?_⟩
  have z_w20 := hb.size
  have h_b1 := keep hb h_b1
  have h_b4 := keep hb h_b4
  have h_b7 := keep hb h_b7
  obtain ⟨hB, zB⟩ := bon hb hB
  refine seq_upd (.cells v21.cells 38 (0, 0)) r (fun R => y_storep r hr22.shape rfl rfl h_b7 ts38 rfl) rfl fun fr w23 u24 r => ?_
  have z_w23 := u24.size
  have h_b1 := u24.keep h_b1 (by omega)
  have h_b4 := u24.keep h_b4 (by omega)
  have h_b7 := u24.at_
  obtain ⟨hB, zB⟩ := u24.on hB (by omega)
  refine wn ?_
  refine wp_ret ?_
  have hd : D.free_Push_body r_free_Push a0 a1 = (D.prog_Load_int (D.plan_Plan_Head a0) (fun x => (D.free_Push_1 r_free_Push a0 a1 x))) := (cond_f h11).trans (rfl)
  have hs := hr22.shape.cells
  refine ret_cell r rfl rfl h_b7 (k := 7) hs.1 ta38 ?_
  rw [← hs.2.2, hd]
  exact rfin hF hB hr22 u24 (by omega) (by omega) (by omega)

theorem c_free_Push {n : Nat} {k : Nat} (hk : n < k) : Spec_free_Push (D.free_Push k) n := by
  induction n using Nat.strongRecOn generalizing k with
  | _ n ih =>
    obtain ⟨k, rfl⟩ : ∃ q, k = q + 1 := ⟨k - 1, by omega⟩
    intro F w0 hF
    have h := @b_free_Push n F (D.free_Push k) w0 hF (fun m hm => ih m hm (by omega))
    exact h

end Go.Proofs.Ytbbipmelhmgmfaa

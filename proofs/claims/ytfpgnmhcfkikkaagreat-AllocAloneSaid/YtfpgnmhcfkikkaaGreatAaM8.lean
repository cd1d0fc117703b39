/- Some of our texts, one behind the other. -/
import Derived.Test.YtfpgnmhcfkikkaaGreatAaMems
import Derived.Test.YtfpgnmhcfkikkaaGreatAaM7
set_option linter.all false
/- Ours. -/
set_option maxRecDepth 20000
set_option maxHeartbeats 2000000
namespace Go.Proofs.YtfpgnmhcfkikkaaGreat
open Go.RowKit
theorem zo4 : zlp Tryz.prog 108 = true := by kernel_rfl
theorem zoI : zlp Tryz.prog 126 = true := by kernel_rfl
theorem zmw : zlp Tryz.prog 141 = true := by kernel_rfl
theorem zos : zlp Tryz.prog 203 = true := by kernel_rfl
theorem znd : sized Tryz.prog 190 0 = true := by kernel_rfl
theorem ts37 : sized Tryz.prog 37 3 = true := by kernel_rfl
theorem znq : zeroOf Tryz.prog 190 = some (.agg #[]) := by kernel_rfl
theorem tz37 : zeroOf Tryz.prog 37 = some (.agg (zlD (⟨0, 0, 0⟩ : Grant)).toArray) := by kernel_rfl
def D.zd3 (fu : Nat) (a0 : Nat × T Unit) (a1 : Mem) (a2 : Cap) : Option ((Nat × T Unit) × Bool × Mem) := (bif a0.2.zlF then (some (a0, false, a1)) else ((D.zc3 fu a1 a2 (T.acc a0.2)).bind (fun (x16 : Int × Bool × Mem) => (bif (!x16.2.1) then (some (a0, false, x16.2.2)) else ((depthI a0.1).bind (fun (x26 : Nat) => (some ((x26, T.next a0.2 x16.1), true, x16.2.2))))))))
theorem zeW {fu : Nat} (w0 : World) {a0v : Value} {a0F : List Nat} (a0 : Nat × T Unit) {a1g : MG} (a1 : Mem) (a2 : Cap) (hS : Sep [zlA Tryz.prog zly a0 a0v a0F, memK a1g a1] w0) {res : (Nat × T Unit) × Bool × Mem} (hD : D.zd3 fu a0 a1 a2 = some res) :
    Calls Tryz.prog 203 #[a0v, zp a1g.mb, .agg (capC a2).toArray] w0 (fun e w' => ∃ (v0 : Value) (F0 : List Nat), e = .returned (.tuple #[v0, (.bool res.2.1)]) ∧ Done (fun b => b ∈ (memK a1g a1).own) (fun b => b ∈ a0F) [memK a1g res.2.2, zlA Tryz.prog zly res.1 v0 F0] w0 w') := by
 refine enter Tryz.func203 rfl 28 rfl rfl fun fr r => ?_
 have hP : Post (fun b => b ∈ (memK a1g a1).own) [zlA Tryz.prog zly a0 a0v a0F, memK a1g a1] w0 w0 := .start hS (by simp [memK, zlA])
 unfold D.zd3 at hD
 refine wsr ?_
 refine zaa (.cells a0v.cells 195 (0, 0)) r (fun R => zlC r (v := a0v) rfl) rfl fun fr b1 w2 n3 r => ?_
 have hP : Post (fun b => b ∈ (memK a1g a1).own) [zlA Tryz.prog zly a0 a0v a0F, memK a1g a1, zlm b1 a0v.cells 195] w0 w2 := hP.new n3
 refine zaa (.cells ((capC a2)).toArray 48 (0, 0)) r (fun R => zlC r (v := (.agg (capC a2).toArray)) rfl) rfl fun fr b5 w6 n7 r => ?_
 have hP : Post (fun b => b ∈ (memK a1g a1).own) [zlA Tryz.prog zly a0 a0v a0F, memK a1g a1, zlm b1 a0v.cells 195, zlm b5 ((capC a2)).toArray 48] w0 w6 := hP.new n7
 refine zaa (.cells (zlo false zly.zero 0 0 0 0 .nilFunc) 195 (0, 0)) r (fun R => zar zlT) rfl fun fr b9 w10 n11 r => ?_
 have hP : Post (fun b => b ∈ (memK a1g a1).own) [zlA Tryz.prog zly a0 a0v a0F, memK a1g a1, zlm b1 a0v.cells 195, zlm b5 ((capC a2)).toArray 48, zlm b9 (zlo false zly.zero 0 0 0 0 .nilFunc) 195] w0 w10 := hP.new n11
 refine za0 (.bool false) r (fun R => za6 r rfl) rfl fun fr r => wn (wp_seq (wsr (za0 _ r (fun R => za4 r (b := b1) (o := 0) (k := 0) rfl ziz) rfl fun fr r => za0 (.bool a0.2.zlF) r (fun R => za2 r rfl (hP.cell (i := 2) rfl) to4 (Rep.zeE (hP.prog (i := 0) rfl))) rfl fun fr r => wn ?_)))
 refine wp_cond_split (t := a0.2.zlF) (r.ev rfl) (fun h13 => ?_) (fun h13 => ?_)
 ·
  have hD := (zao h13).symm.trans hD
  refine wsr (za0 a0v r (fun R => zdI r (hP.prog (i := 0) rfl).shape rfl (hP.cell (i := 2) rfl) zlO) rfl fun fr r => ?_)
  refine zaf (.cells a0v.cells 195 (0, 0)) r (fun R => zaq r (hP.prog (i := 0) rfl).shape rfl rfl (hP.cell (i := 4) rfl) zlP rfl) rfl fun fr w14 u15 r => ?_
  have hP : Post (fun b => b ∈ (memK a1g a1).own) [zlA Tryz.prog zly a0 a0v a0F, memK a1g a1, zlm b1 a0v.cells 195, zlm b5 ((capC a2)).toArray 48, zlm b9 a0v.cells 195] w0 w14 := hP.upd (i := 4) rfl u15
  refine za0 (.bool false) r (fun R => za6 r rfl) rfl fun fr r => wn (wp_ret ?_)
  have hv : (a0, false, a1) = res := Option.some.inj hD
  try dsimp only [Exit.then, Exit.inBlock]
  have hs := (hP.prog (i := 0) rfl).shape.cells
  refine zbJ (fn := Tryz.f203) r rfl rfl (v' := (.bool false)) rfl (hP.cell (i := 4) rfl) (k := 6) hs.1 zlO ?_
  rw [← hs.2.2]
  subst hv
  exact ⟨a0v, a0F, rfl, (hP.pick [1, 0] rfl rfl).done (zbq rfl (zaN (fun b h => .inl h) zbi))⟩
 ·
  have hD := (zah h13).symm.trans hD
  refine wp_skip (wsr (za0 (zp a1g.mb) r (fun R => za5 r rfl) rfl fun fr r => za0 (.agg (capC a2).toArray) r (fun R => za7 r (cs := (capC a2)) (n := 2) rfl (hP.cell (i := 3) rfl) ta48 rfl) rfl fun fr r => za0 _ r (fun R => za4 r (b := b1) (o := 0) (k := 1) rfl zkM) rfl fun fr r => za0 (.agg (zlz (T.acc a0.2)).toArray) r (fun R => za7 r (cs := (zlz (T.acc a0.2))) (n := 4) rfl (hP.cell (i := 2) rfl) ta42 (Rep.zjM (hP.prog (i := 0) rfl) h13)) rfl fun fr r => ?_))
  obtain ⟨x16, hx16, hD⟩ := zad hD
  refine za9 r (zdY w10 a1 a2 (T.acc a0.2) (hP.sep.pk [1] rfl rfl) hx16) (fun R hc => zac r rfl zmw hc) rfl ?_
  rintro _ w17 ⟨rfl, hq⟩
  refine ⟨_, rfl, fun fr r => ?_⟩
  have hP : Post (fun b => b ∈ (memK a1g a1).own) [zlA Tryz.prog zly a0 a0v a0F, memK a1g x16.2.2, zlm b1 a0v.cells 195, zlm b5 ((capC a2)).toArray 48, zlm b9 (zlo false zly.zero 0 0 0 0 .nilFunc) 195] w0 w17 := hP.setN (i := 1) rfl hq
  refine za0 (.tuple #[(U x16.1), (.bool x16.2.1)]) r (fun R => za5 r rfl) rfl fun fr r => za0 (U x16.1) r (fun R => zaQ r (vs := #[(U x16.1), (.bool x16.2.1)]) rfl rfl) rfl fun fr r => za0 (.bool x16.2.1) r (fun R => zaQ r (vs := #[(U x16.1), (.bool x16.2.1)]) rfl rfl) rfl fun fr r => za0 (U x16.1) r (fun R => za6 r rfl) rfl fun fr r => za0 (.bool x16.2.1) r (fun R => za6 r rfl) rfl fun fr r => wn (wp_seq (wsr (za0 (.bool x16.2.1) r (fun R => za5 r rfl) rfl fun fr r => za0 (.bool (!x16.2.1)) r (fun R => y_un r (u := (.bool x16.2.1)) rfl rfl) rfl fun fr r => wn ?_)))
  refine wp_cond_split (t := (!x16.2.1)) (r.ev rfl) (fun h18 => ?_) (fun h18 => ?_)
  ·
   have hD := (zao h18).symm.trans hD
   refine wsr (za0 a0v r (fun R => zdI r (hP.prog (i := 0) rfl).shape rfl (hP.cell (i := 2) rfl) zlO) rfl fun fr r => ?_)
   refine zaf (.cells a0v.cells 195 (0, 0)) r (fun R => zaq r (hP.prog (i := 0) rfl).shape rfl rfl (hP.cell (i := 4) rfl) zlP rfl) rfl fun fr w19 u20 r => ?_
   have hP : Post (fun b => b ∈ (memK a1g a1).own) [zlA Tryz.prog zly a0 a0v a0F, memK a1g x16.2.2, zlm b1 a0v.cells 195, zlm b5 ((capC a2)).toArray 48, zlm b9 a0v.cells 195] w0 w19 := hP.upd (i := 4) rfl u20
   refine za0 (.bool false) r (fun R => za6 r rfl) rfl fun fr r => wn (wp_ret ?_)
   have hv : (a0, false, x16.2.2) = res := Option.some.inj hD
   try dsimp only [Exit.then, Exit.inBlock]
   have hs := (hP.prog (i := 0) rfl).shape.cells
   refine zbJ (fn := Tryz.f203) r rfl rfl (v' := (.bool false)) rfl (hP.cell (i := 4) rfl) (k := 6) hs.1 zlO ?_
   rw [← hs.2.2]
   subst hv
   exact ⟨a0v, a0F, rfl, (hP.pick [1, 0] rfl rfl).done (zbq rfl (zaN (fun b h => .inl h) zbi))⟩
  ·
   have hD := (zah h18).symm.trans hD
   refine wp_skip (wsr (za0 _ r (fun R => za4 r (b := b1) (o := 0) (k := 5) rfl zkI) rfl fun fr r => ?_))
   obtain ⟨nf21, n122, n223, hv24, hk25⟩ := Rep.ziF (hP.prog (i := 0) rfl) h13
   refine za0 (.func (.func nf21) n122.toArray n223.toArray) r (fun R => za2 r rfl (hP.cell (i := 2) rfl) znP hv24) rfl fun fr r => za0 (U x16.1) r (fun R => za5 r rfl) rfl fun fr r => ?_
   obtain ⟨x26, hx26, hD⟩ := zad hD
   refine za9 r (hk25.at_.2 x26 (by rw [zgW hx26]; exact Nat.lt_succ_self _) x16.1 w17 (Same.refl _ _) (Nat.le_refl _)) (fun R hc => zew r rfl rfl hk25.at_.1 hc) rfl ?_
   rintro _ w27 ⟨v28, rfl, hb, hr29⟩
   refine ⟨_, rfl, fun fr r => ?_⟩
   have zw27 := hP.size
   have hP : Post (fun b => b ∈ (memK a1g a1).own) [zlA Tryz.prog zly a0 a0v a0F, memK a1g x16.2.2, zlm b1 a0v.cells 195, zlm b5 ((capC a2)).toArray 48, zlm b9 (zlo false zly.zero 0 0 0 0 .nilFunc) 195, zlA Tryz.prog zly (x26, T.next a0.2 x16.1) v28 (a0F ++ rg w17.heap.size w27.heap.size)] w0 w27 := hP.addProgF (k := 0) rfl hb hr29
   refine zaf (.cells v28.cells 195 (0, 0)) r (fun R => zaq r (hP.prog (i := 5) rfl).shape rfl rfl (hP.cell (i := 4) rfl) zlP rfl) rfl fun fr w31 u32 r => ?_
   have hP : Post (fun b => b ∈ (memK a1g a1).own) [zlA Tryz.prog zly a0 a0v a0F, memK a1g x16.2.2, zlm b1 a0v.cells 195, zlm b5 ((capC a2)).toArray 48, zlm b9 v28.cells 195, zlA Tryz.prog zly (x26, T.next a0.2 x16.1) v28 (a0F ++ rg w17.heap.size w27.heap.size)] w0 w31 := hP.upd (i := 4) rfl u32
   refine za0 (.bool true) r (fun R => za6 r rfl) rfl fun fr r => wn (wp_ret ?_)
   have hv : ((x26, T.next a0.2 x16.1), true, x16.2.2) = res := Option.some.inj hD
   try dsimp only [Exit.then, Exit.inBlock]
   have hs := (hP.prog (i := 5) rfl).shape.cells
   refine zbJ (fn := Tryz.f203) r rfl rfl (v' := (.bool true)) rfl (hP.cell (i := 4) rfl) (k := 6) hs.1 zlO ?_
   rw [← hs.2.2]
   subst hv
   exact ⟨v28, (a0F ++ rg w17.heap.size w27.heap.size), rfl, (hP.pick [1, 5] rfl rfl).done (zbq rfl (zaN (fun b h => (List.mem_append.1 h).elim .inl (fun h => .inr (by have := (zfB.1 h).1; omega))) zbi))⟩
def D.zdP (fu : Nat) (a0 : Nat × T Unit) (a1 : Mem) (a2 : Cap) (a3 : Int) : Option (Unit × Int × Bool × Mem) := (loopThen (fun (x13 : Int × Mem × (Nat × T Unit)) => (Option.bind (bif (decide (x13.1 < a3)) then (some (!x13.2.2.2.zlF)) else (some false)) (fun (x19 : Bool) => (bif x19 then ((D.zd3 fu x13.2.2 x13.2.1 a2).bind (fun (x23 : (Nat × T Unit) × Bool × Mem) => (bif (!x23.2.1) then (some (Lp.brk (x13.1, x23.2.2, x13.2.2))) else (some (Lp.next ((IntKind.i64.wrap (x13.1 + 1)), x23.2.2, x23.1)))))) else (some (Lp.brk (x13.1, x13.2.1, x13.2.2))))))) fu (0, a1, a0) (fun (x37 : Int × Mem × (Nat × T Unit)) => (some ((), x37.1, x37.2.2.2.zlF, x37.2.1))))
theorem zh2 {fu : Nat} (w0 : World) {a0v : Value} {a0F : List Nat} (a0 : Nat × T Unit) {a1g : MG} (a1 : Mem) (a2 : Cap) (a3 : Int) (hS : Sep [zlA Tryz.prog zly a0 a0v a0F, memK a1g a1] w0) {res : Unit × Int × Bool × Mem} (hD : D.zdP fu a0 a1 a2 a3 = some res) :
    Calls Tryz.prog 106 #[a0v, zp a1g.mb, .agg (capC a2).toArray, .int .i64 a3] w0 (fun e w' => e = .returned (.tuple #[(.agg #[]), (.int .i64 res.2.1), (.bool res.2.2.1)]) ∧ Done (fun b => b ∈ (memK a1g a1).own) No [memK a1g res.2.2.2] w0 w') := by
 refine enter Tryz.func106 rfl 39 rfl rfl fun fr r => ?_
 have hP : Post (fun b => b ∈ (memK a1g a1).own) [zlA Tryz.prog zly a0 a0v a0F, memK a1g a1] w0 w0 := .start hS (by simp [memK, zlA])
 unfold D.zdP at hD
 refine wsr ?_
 refine zaa (.cells a0v.cells 195 (0, 0)) r (fun R => zlC r (v := a0v) rfl) rfl fun fr b1 w2 n3 r => ?_
 have hP : Post (fun b => b ∈ (memK a1g a1).own) [zlA Tryz.prog zly a0 a0v a0F, memK a1g a1, zlm b1 a0v.cells 195] w0 w2 := hP.new n3
 refine zaa (.cells ((capC a2)).toArray 48 (0, 0)) r (fun R => zlC r (v := (.agg (capC a2).toArray)) rfl) rfl fun fr b5 w6 n7 r => ?_
 have hP : Post (fun b => b ∈ (memK a1g a1).own) [zlA Tryz.prog zly a0 a0v a0F, memK a1g a1, zlm b1 a0v.cells 195, zlm b5 ((capC a2)).toArray 48] w0 w6 := hP.new n7
 refine zaa (.cells #[] 190 (0, 0)) r (fun R => zar znq) rfl fun fr b9 w10 n11 r => ?_
 have hP : Post (fun b => b ∈ (memK a1g a1).own) [zlA Tryz.prog zly a0 a0v a0F, memK a1g a1, zlm b1 a0v.cells 195, zlm b5 ((capC a2)).toArray 48, zlm b9 #[] 190] w0 w10 := hP.new n11
 refine za0 (I 0) r (fun R => za6 r rfl) rfl fun fr r => za0 (.bool false) r (fun R => za6 r rfl) rfl fun fr r => wn (wsr (za0 (I 0) r (fun R => za6 r rfl) rfl fun fr r => wn (wp_seq ?_)))
 refine zcu (X := Int × Mem × (Nat × T Unit)) (G := Value × List Nat) (x0 := (0, a1, a0)) (fun x γ => [(0, a0v), (1, (zp a1g.mb)), (2, (.agg (capC a2).toArray)), (3, (I a3)), (4, (zp b1)), (6, (zp b5)), (8, (zp b9)), (9, (I 0)), (10, (.bool false)), (11, (I x.1))]) (fun x γ w => Post (fun b => b ∈ (memK a1g a1).own) [zlA Tryz.prog zly x.2.2 γ.1 γ.2, memK a1g x.2.1, zlm b1 γ.1.cells 195, zlm b5 ((capC a2)).toArray 48, zlm b9 #[] 190] w0 w) (a0v, a0F) r (za1 rfl (za1 rfl (za1 rfl (za1 rfl (za1 rfl (za1 rfl (za1 rfl (za1 rfl (za1 rfl (za1 rfl zaz)))))))))) hP hD ?_ ?_
 ·
  rintro x13 γ14 fr w16 g y15 RPy15 nxy15 bky15 rty15 r hP hD
  have hP : Post (fun b => b ∈ (memK a1g a1).own) [zlA Tryz.prog zly x13.2.2 γ14.1 γ14.2, memK a1g x13.2.1, zlm b1 γ14.1.cells 195, zlm b5 ((capC a2)).toArray 48, zlm b9 #[] 190] w0 w16 := hP
  refine wp_seq (wp_seq ?_)
  refine zbo (N := 39) (Y := Bool) (G := Unit) (fun x γ => [(0, a0v), (1, (zp a1g.mb)), (2, (.agg (capC a2).toArray)), (3, (I a3)), (4, (zp b1)), (6, (zp b5)), (8, (zp b9)), (9, (I 0)), (10, (.bool false)), (11, (I x13.1)), (21, (.bool x))]) (fun x γ w => Post (fun b => b ∈ (memK a1g a1).own) [zlA Tryz.prog zly x13.2.2 γ14.1 γ14.2, memK a1g x13.2.1, zlm b1 γ14.1.cells 195, zlm b5 ((capC a2)).toArray 48, zlm b9 #[] 190] w0 w) hD ?_ ?_
  ·
   rintro y17 RPy17 nxy17 hD
   refine wp_region_lit (za0 (I x13.1) r (fun R => za5 r rfl) rfl fun fr r => za0 (I a3) r (fun R => za5 r rfl) rfl fun fr r => za0 _ r (fun R => zlt r rfl rfl rfl rfl) rfl fun fr r => za0 (.bool (decide (x13.1 < a3))) r (fun R => za5 r rfl) rfl fun fr r => ?_)
   refine zay (decide (x13.1 < a3)) (fun h18 => ?_) (fun h18 => ?_)
   ·
    have hD := (zao h18).symm.trans hD
    refine s1 r h18 (za0 _ r (fun R => za4 r (b := b1) (o := 0) (k := 0) rfl ziz) rfl fun fr r => s1 r h18 (za0 (.bool x13.2.2.2.zlF) r (fun R => za2 r rfl (hP.cell (i := 2) rfl) to4 (Rep.zeE (hP.prog (i := 0) rfl))) rfl fun fr r => s1 r h18 (za0 (.bool (!x13.2.2.2.zlF)) r (fun R => y_un r (u := (.bool x13.2.2.2.zlF)) rfl rfl) rfl fun fr r => za0 (.bool (!x13.2.2.2.zlF)) r (fun R => zai r (b := true) (congrArg Value.bool h18) rfl) rfl fun fr r => wn ?_)))
    exact nxy17 (!x13.2.2.2.zlF) () _ _ _ hD r (za1 rfl (za1 rfl (za1 rfl (za1 rfl (za1 rfl (za1 rfl (za1 rfl (za1 rfl (za1 rfl (za1 rfl (za1 rfl zaz))))))))))) (hP.pick [0, 1, 2, 3, 4] rfl rfl)
   ·
    have hD := (zah h18).symm.trans hD
    refine s0 r h18 fun fr r => s0 r h18 fun fr r => s0 r h18 fun fr r => za0 (.bool false) r (fun R => zai r (b := false) (congrArg Value.bool h18) rfl) rfl fun fr r => wn ?_
    exact nxy17 false () _ _ _ hD r (za1 rfl (za1 rfl (za1 rfl (za1 rfl (za1 rfl (za1 rfl (za1 rfl (za1 rfl (za1 rfl (za1 rfl (za1 rfl zaz))))))))))) (hP.pick [0, 1, 2, 3, 4] rfl rfl)
  ·
   rintro x19 γ20 fr w21 g r hP hD
   have hP : Post (fun b => b ∈ (memK a1g a1).own) [zlA Tryz.prog zly x13.2.2 γ14.1 γ14.2, memK a1g x13.2.1, zlm b1 γ14.1.cells 195, zlm b5 ((capC a2)).toArray 48, zlm b9 #[] 190] w0 w21 := hP
   refine wp_cond_split (t := x19) (r.ev rfl) (fun h22 => ?_) (fun h22 => ?_)
   ·
    have hD := (zao h22).symm.trans hD
    refine wp_skip (wp_block (wsr (za0 γ14.1 r (fun R => zdI r (hP.prog (i := 0) rfl).shape rfl (hP.cell (i := 2) rfl) zlO) rfl fun fr r => za0 (zp a1g.mb) r (fun R => za5 r rfl) rfl fun fr r => za0 (.agg (capC a2).toArray) r (fun R => za7 r (cs := (capC a2)) (n := 2) rfl (hP.cell (i := 3) rfl) ta48 rfl) rfl fun fr r => ?_)))
    obtain ⟨x23, hx23, hD⟩ := zad hD
    refine za9 r (zeW w21 x13.2.2 x13.2.1 a2 (hP.sep.pk [0, 1] rfl rfl) hx23) (fun R hc => zac r rfl zos hc) rfl ?_
    rintro _ w24 ⟨v25, F26, rfl, hq⟩
    refine ⟨_, rfl, fun fr r => ?_⟩
    have hP : Post (fun b => b ∈ (memK a1g a1).own) [zlA Tryz.prog zly x13.2.2 γ14.1 γ14.2, memK a1g x23.2.2, zlm b1 γ14.1.cells 195, zlm b5 ((capC a2)).toArray 48, zlm b9 #[] 190, zlA Tryz.prog zly x23.1 v25 F26] w0 w24 := hP.setR (i := 1) (k := 0) rfl rfl rfl hq
    refine za0 (.tuple #[v25, (.bool x23.2.1)]) r (fun R => za5 r rfl) rfl fun fr r => za0 v25 r (fun R => zaQ r (vs := #[v25, (.bool x23.2.1)]) rfl rfl) rfl fun fr r => za0 (.bool x23.2.1) r (fun R => zaQ r (vs := #[v25, (.bool x23.2.1)]) rfl rfl) rfl fun fr r => ?_
    refine zaa (.cells (zlo false zly.zero 0 0 0 0 .nilFunc) 195 (0, 0)) r (fun R => zar zlT) rfl fun fr b28 w29 n30 r => ?_
    have hP : Post (fun b => b ∈ (memK a1g a1).own) [zlA Tryz.prog zly x13.2.2 γ14.1 γ14.2, memK a1g x23.2.2, zlm b1 γ14.1.cells 195, zlm b5 ((capC a2)).toArray 48, zlm b9 #[] 190, zlA Tryz.prog zly x23.1 v25 F26, zlm b28 (zlo false zly.zero 0 0 0 0 .nilFunc) 195] w0 w29 := hP.new n30
    refine zaf (.cells v25.cells 195 (0, 0)) r (fun R => zaq r (hP.prog (i := 5) rfl).shape rfl rfl (hP.cell (i := 6) rfl) zlP rfl) rfl fun fr w32 u33 r => ?_
    have hP : Post (fun b => b ∈ (memK a1g a1).own) [zlA Tryz.prog zly x13.2.2 γ14.1 γ14.2, memK a1g x23.2.2, zlm b1 γ14.1.cells 195, zlm b5 ((capC a2)).toArray 48, zlm b9 #[] 190, zlA Tryz.prog zly x23.1 v25 F26, zlm b28 v25.cells 195] w0 w32 := hP.upd (i := 6) rfl u33
    refine za0 (.bool x23.2.1) r (fun R => za6 r rfl) rfl fun fr r => wn (wp_seq (wsr (za0 (.bool x23.2.1) r (fun R => za5 r rfl) rfl fun fr r => za0 (.bool (!x23.2.1)) r (fun R => y_un r (u := (.bool x23.2.1)) rfl rfl) rfl fun fr r => wn ?_)))
    refine wp_cond_split (t := (!x23.2.1)) (r.ev rfl) (fun h34 => ?_) (fun h34 => ?_)
    ·
     have hD := (zao h34).symm.trans hD
     refine wp_exit ?_
     exact bky15 (x13.1, x23.2.2, x13.2.2) (γ14.1, γ14.2) _ _ _ hD r (za1 rfl (za1 rfl (za1 rfl (za1 rfl (za1 rfl (za1 rfl (za1 rfl (za1 rfl (za1 rfl (za1 rfl zaz)))))))))) (hP.pick [0, 1, 2, 3, 4] rfl rfl)
    ·
     have hD := (zah h34).symm.trans hD
     refine wp_skip (wsr (za0 v25 r (fun R => zdI r (hP.prog (i := 5) rfl).shape rfl (hP.cell (i := 6) rfl) zlO) rfl fun fr r => ?_))
     refine zaf (.cells v25.cells 195 (0, 0)) r (fun R => zaq r (hP.prog (i := 5) rfl).shape rfl rfl (hP.cell (i := 2) rfl) zlP (by have h := (hP.prog (i := 0) rfl).shape.cells.1; simpa using h)) rfl fun fr w35 u36 r => ?_
     have hP : Post (fun b => b ∈ (memK a1g a1).own) [zlA Tryz.prog zly x13.2.2 γ14.1 γ14.2, memK a1g x23.2.2, zlm b1 v25.cells 195, zlm b5 ((capC a2)).toArray 48, zlm b9 #[] 190, zlA Tryz.prog zly x23.1 v25 F26, zlm b28 v25.cells 195] w0 w35 := hP.upd (i := 2) rfl u36
     refine wn ?_
     refine wp_region_lit (za0 (I x13.1) r (fun R => za5 r rfl) rfl fun fr r => za0 _ r (fun R => zlt r rfl rfl rfl rfl) rfl fun fr r => za0 (I (W (x13.1 + 1))) r (fun R => za6 r rfl) rfl fun fr r => wn ?_)
     exact nxy15 ((W (x13.1 + 1)), x23.2.2, x23.1) (v25, F26) _ _ _ hD r (za1 rfl (za1 rfl (za1 rfl (za1 rfl (za1 rfl (za1 rfl (za1 rfl (za1 rfl (za1 rfl (za1 rfl zaz)))))))))) (hP.pick [5, 1, 2, 3, 4] rfl rfl)
   ·
    have hD := (zah h22).symm.trans hD
    refine wp_exit ?_
    exact bky15 (x13.1, x13.2.1, x13.2.2) (γ14.1, γ14.2) _ _ _ hD r (za1 rfl (za1 rfl (za1 rfl (za1 rfl (za1 rfl (za1 rfl (za1 rfl (za1 rfl (za1 rfl (za1 rfl zaz)))))))))) (hP.pick [0, 1, 2, 3, 4] rfl rfl)
 ·
  rintro x37 γ38 fr w39 g r hP hD
  have hP : Post (fun b => b ∈ (memK a1g a1).own) [zlA Tryz.prog zly x37.2.2 γ38.1 γ38.2, memK a1g x37.2.1, zlm b1 γ38.1.cells 195, zlm b5 ((capC a2)).toArray 48, zlm b9 #[] 190] w0 w39 := hP
  refine wp_seq ?_
  refine zfK [b9] [.pred (fun v _ _ _ => ∃ sp, v = .pointer (some ⟨b1, 1, sp⟩)) (fun _ _ _ _ _ h _ => h), .val (.agg #[]), .val (I x37.1), .val (zp b1), .val (.bool x37.2.2.2.zlF), .eff (EffP w39.heap.size (zlm b9 #[] 190) (fun _ : Unit => undef) (fun _ : Unit => [])) (EffP.st _ _ _ _), .val (I x37.1), .val (.bool x37.2.2.2.zlF)] mixed r (fun b hb => hP.sep.lt (i := 4) rfl (.inl hb)) (by kernel_rfl) ?_ ?_
  ·
   refine zbB r rfl (by kernel_rfl) (fun fr1 g w' hb' hd r' => ?_) ?_
   · exact zhW r' rfl zon ((hP.below (dr hb')).cell (i := 2) rfl) (fun sp => ⟨Below.refl _ _, sp, rfl⟩)
   refine zbB r rfl (by kernel_rfl) (fun fr1 g w' hb' hd r' => ?_) ?_
   · obtain ⟨sp, hsp⟩ := (hd 0 rfl).1; exact zit r' hsp zmH ⟨Below.refl _ _, rfl⟩
   refine zaG r rfl (fun fr1 g w' hk' hd r' => ?_) ?_
   · exact za5 r' (v := (I x37.1)) rfl ⟨Below.refl _ _, rfl⟩
   refine zaG r rfl (fun fr1 g w' hk' hd r' => ?_) ?_
   · exact za4 r' (b := b1) (o := 0) (k := 0) rfl ziz ⟨Below.refl _ _, rfl⟩
   refine zaG r rfl (fun fr1 g w' hk' hd r' => ?_) ?_
   · exact za2 r' (v := (.bool x37.2.2.2.zlF)) (hd 3 rfl).1 (hP.cellK (j := 4) rfl (drK hk') (i := 2) rfl rfl) to4 (Rep.zeE (show Rep _ _ _ _ _ _ _ from hP.okK (j := 4) rfl (drK hk') (i := 0) rfl rfl)) ⟨Below.refl _ _, rfl⟩
   refine zbB r rfl (by kernel_rfl) (fun fr1 g w' hb' hd r' => ?_) ?_
   · exact zb0 r' (o := 0) (v := (.agg #[])) rfl (hd 1 rfl).1 ((hP.below (dr hb')).cell (i := 4) rfl) znd (Nat.le_of_ble_eq_true rfl) rfl rfl (fun w2 u2 => ⟨u2.kept, (), rfl, u2.at_, (fun b hb => hP.sep.lt (i := 4) rfl hb), zgI⟩)
   refine zaG r rfl (fun fr1 g w' hk' hd r' => ?_) ?_
   · exact za6 r' (v := (I x37.1)) (hd 2 rfl).1 ⟨Below.refl _ _, rfl⟩
   refine zaG r rfl (fun fr1 g w' hk' hd r' => ?_) ?_
   · exact za6 r' (v := (.bool x37.2.2.2.zlF)) (hd 4 rfl).1 ⟨Below.refl _ _, rfl⟩
   exact zb1
  ·
   intro fr gg w40 hb hΦ hap r
   obtain ⟨⟨⟩, g5, hcE, _, hs5⟩ := (hΦ 5 rfl).1
   have r := r.congr (sc ((hΦ 7 rfl).1) (sc ((hΦ 6 rfl).1) (sc ((hΦ 4 rfl).1) (sc ((hΦ 3 rfl).1) (sc ((hΦ 2 rfl).1) (sc ((hΦ 1 rfl).1) (sc rfl rfl)))))))
   have hP : Post (fun b => b ∈ (memK a1g a1).own) [zlA Tryz.prog zly x37.2.2 γ38.1 γ38.2, memK a1g x37.2.1, zlm b1 γ38.1.cells 195, zlm b5 ((capC a2)).toArray 48, zlm b9 #[] 190] w0 w40 := hP.effL (i := 4) (l := []) rfl hb hcE rfl rfl trivial
   refine wp_ret ?_
   have hv : ((), x37.1, x37.2.2.2.zlF, x37.2.1) = res := Option.some.inj hD
   try dsimp only [Exit.then, Exit.inBlock]
   refine zdS (fn := Tryz.f106) r rfl rfl (v' := (I x37.1)) (v2 := (.bool x37.2.2.2.zlF)) rfl rfl (hP.cell (i := 4) rfl) (k := 0) rfl zmH ?_
   subst hv
   exact ⟨rfl, (hP.pick [1] rfl rfl).done (zbq rfl zbi)⟩
def D.zcU (fu : Nat) (a0 : Nat × T Grant) (a1 : Mem) (a2 : Cap) : Option ((Nat × T Grant) × Bool × Mem) := (bif a0.2.zlF then (some (a0, false, a1)) else ((D.zc3 fu a1 a2 (T.acc a0.2)).bind (fun (x16 : Int × Bool × Mem) => (bif (!x16.2.1) then (some (a0, false, x16.2.2)) else ((depthI a0.1).bind (fun (x26 : Nat) => (some ((x26, T.next a0.2 x16.1), true, x16.2.2))))))))
theorem zeM {fu : Nat} (w0 : World) {a0v : Value} {a0F : List Nat} (a0 : Nat × T Grant) {a1g : MG} (a1 : Mem) (a2 : Cap) (hS : Sep [zlA Tryz.prog zls a0 a0v a0F, memK a1g a1] w0) {res : (Nat × T Grant) × Bool × Mem} (hD : D.zcU fu a0 a1 a2 = some res) :
    Calls Tryz.prog 108 #[a0v, zp a1g.mb, .agg (capC a2).toArray] w0 (fun e w' => ∃ (v0 : Value) (F0 : List Nat), e = .returned (.tuple #[v0, (.bool res.2.1)]) ∧ Done (fun b => b ∈ (memK a1g a1).own) (fun b => b ∈ a0F) [memK a1g res.2.2, zlA Tryz.prog zls res.1 v0 F0] w0 w') := by
 refine enter Tryz.func108 rfl 28 rfl rfl fun fr r => ?_
 have hP : Post (fun b => b ∈ (memK a1g a1).own) [zlA Tryz.prog zls a0 a0v a0F, memK a1g a1] w0 w0 := .start hS (by simp [memK, zlA])
 unfold D.zcU at hD
 refine wsr ?_
 refine zaa (.cells a0v.cells 45 (0, 0)) r (fun R => zlC r (v := a0v) rfl) rfl fun fr b1 w2 n3 r => ?_
 have hP : Post (fun b => b ∈ (memK a1g a1).own) [zlA Tryz.prog zls a0 a0v a0F, memK a1g a1, zlm b1 a0v.cells 45] w0 w2 := hP.new n3
 refine zaa (.cells ((capC a2)).toArray 48 (0, 0)) r (fun R => zlC r (v := (.agg (capC a2).toArray)) rfl) rfl fun fr b5 w6 n7 r => ?_
 have hP : Post (fun b => b ∈ (memK a1g a1).own) [zlA Tryz.prog zls a0 a0v a0F, memK a1g a1, zlm b1 a0v.cells 45, zlm b5 ((capC a2)).toArray 48] w0 w6 := hP.new n7
 refine zaa (.cells (zlo false zls.zero 0 0 0 0 .nilFunc) 45 (0, 0)) r (fun R => zar tz45) rfl fun fr b9 w10 n11 r => ?_
 have hP : Post (fun b => b ∈ (memK a1g a1).own) [zlA Tryz.prog zls a0 a0v a0F, memK a1g a1, zlm b1 a0v.cells 45, zlm b5 ((capC a2)).toArray 48, zlm b9 (zlo false zls.zero 0 0 0 0 .nilFunc) 45] w0 w10 := hP.new n11
 refine za0 (.bool false) r (fun R => za6 r rfl) rfl fun fr r => wn (wp_seq (wsr (za0 _ r (fun R => za4 r (b := b1) (o := 0) (k := 0) rfl zjp) rfl fun fr r => za0 (.bool a0.2.zlF) r (fun R => za2 r rfl (hP.cell (i := 2) rfl) to4 (Rep.zeE (hP.prog (i := 0) rfl))) rfl fun fr r => wn ?_)))
 refine wp_cond_split (t := a0.2.zlF) (r.ev rfl) (fun h13 => ?_) (fun h13 => ?_)
 ·
  have hD := (zao h13).symm.trans hD
  refine wsr (za0 a0v r (fun R => zdI r (hP.prog (i := 0) rfl).shape rfl (hP.cell (i := 2) rfl) ta45) rfl fun fr r => ?_)
  refine zaf (.cells a0v.cells 45 (0, 0)) r (fun R => zaq r (hP.prog (i := 0) rfl).shape rfl rfl (hP.cell (i := 4) rfl) ts45 rfl) rfl fun fr w14 u15 r => ?_
  have hP : Post (fun b => b ∈ (memK a1g a1).own) [zlA Tryz.prog zls a0 a0v a0F, memK a1g a1, zlm b1 a0v.cells 45, zlm b5 ((capC a2)).toArray 48, zlm b9 a0v.cells 45] w0 w14 := hP.upd (i := 4) rfl u15
  refine za0 (.bool false) r (fun R => za6 r rfl) rfl fun fr r => wn (wp_ret ?_)
  have hv : (a0, false, a1) = res := Option.some.inj hD
  try dsimp only [Exit.then, Exit.inBlock]
  have hs := (hP.prog (i := 0) rfl).shape.cells
  refine zbJ (fn := Tryz.f108) r rfl rfl (v' := (.bool false)) rfl (hP.cell (i := 4) rfl) (k := 9) hs.1 ta45 ?_
  rw [← hs.2.2]
  subst hv
  exact ⟨a0v, a0F, rfl, (hP.pick [1, 0] rfl rfl).done (zbq rfl (zaN (fun b h => .inl h) zbi))⟩
 ·
  have hD := (zah h13).symm.trans hD
  refine wp_skip (wsr (za0 (zp a1g.mb) r (fun R => za5 r rfl) rfl fun fr r => za0 (.agg (capC a2).toArray) r (fun R => za7 r (cs := (capC a2)) (n := 2) rfl (hP.cell (i := 3) rfl) ta48 rfl) rfl fun fr r => za0 _ r (fun R => za4 r (b := b1) (o := 0) (k := 4) rfl zlc) rfl fun fr r => za0 (.agg (zlz (T.acc a0.2)).toArray) r (fun R => za7 r (cs := (zlz (T.acc a0.2))) (n := 4) rfl (hP.cell (i := 2) rfl) ta42 (Rep.zjM (hP.prog (i := 0) rfl) h13)) rfl fun fr r => ?_))
  obtain ⟨x16, hx16, hD⟩ := zad hD
  refine za9 r (zdY w10 a1 a2 (T.acc a0.2) (hP.sep.pk [1] rfl rfl) hx16) (fun R hc => zac r rfl zmw hc) rfl ?_
  rintro _ w17 ⟨rfl, hq⟩
  refine ⟨_, rfl, fun fr r => ?_⟩
  have hP : Post (fun b => b ∈ (memK a1g a1).own) [zlA Tryz.prog zls a0 a0v a0F, memK a1g x16.2.2, zlm b1 a0v.cells 45, zlm b5 ((capC a2)).toArray 48, zlm b9 (zlo false zls.zero 0 0 0 0 .nilFunc) 45] w0 w17 := hP.setN (i := 1) rfl hq
  refine za0 (.tuple #[(U x16.1), (.bool x16.2.1)]) r (fun R => za5 r rfl) rfl fun fr r => za0 (U x16.1) r (fun R => zaQ r (vs := #[(U x16.1), (.bool x16.2.1)]) rfl rfl) rfl fun fr r => za0 (.bool x16.2.1) r (fun R => zaQ r (vs := #[(U x16.1), (.bool x16.2.1)]) rfl rfl) rfl fun fr r => za0 (U x16.1) r (fun R => za6 r rfl) rfl fun fr r => za0 (.bool x16.2.1) r (fun R => za6 r rfl) rfl fun fr r => wn (wp_seq (wsr (za0 (.bool x16.2.1) r (fun R => za5 r rfl) rfl fun fr r => za0 (.bool (!x16.2.1)) r (fun R => y_un r (u := (.bool x16.2.1)) rfl rfl) rfl fun fr r => wn ?_)))
  refine wp_cond_split (t := (!x16.2.1)) (r.ev rfl) (fun h18 => ?_) (fun h18 => ?_)
  ·
   have hD := (zao h18).symm.trans hD
   refine wsr (za0 a0v r (fun R => zdI r (hP.prog (i := 0) rfl).shape rfl (hP.cell (i := 2) rfl) ta45) rfl fun fr r => ?_)
   refine zaf (.cells a0v.cells 45 (0, 0)) r (fun R => zaq r (hP.prog (i := 0) rfl).shape rfl rfl (hP.cell (i := 4) rfl) ts45 rfl) rfl fun fr w19 u20 r => ?_
   have hP : Post (fun b => b ∈ (memK a1g a1).own) [zlA Tryz.prog zls a0 a0v a0F, memK a1g x16.2.2, zlm b1 a0v.cells 45, zlm b5 ((capC a2)).toArray 48, zlm b9 a0v.cells 45] w0 w19 := hP.upd (i := 4) rfl u20
   refine za0 (.bool false) r (fun R => za6 r rfl) rfl fun fr r => wn (wp_ret ?_)
   have hv : (a0, false, x16.2.2) = res := Option.some.inj hD
   try dsimp only [Exit.then, Exit.inBlock]
   have hs := (hP.prog (i := 0) rfl).shape.cells
   refine zbJ (fn := Tryz.f108) r rfl rfl (v' := (.bool false)) rfl (hP.cell (i := 4) rfl) (k := 9) hs.1 ta45 ?_
   rw [← hs.2.2]
   subst hv
   exact ⟨a0v, a0F, rfl, (hP.pick [1, 0] rfl rfl).done (zbq rfl (zaN (fun b h => .inl h) zbi))⟩
  ·
   have hD := (zah h18).symm.trans hD
   refine wp_skip (wsr (za0 _ r (fun R => za4 r (b := b1) (o := 0) (k := 8) rfl zlj) rfl fun fr r => ?_))
   obtain ⟨nf21, n122, n223, hv24, hk25⟩ := Rep.ziF (hP.prog (i := 0) rfl) h13
   refine za0 (.func (.func nf21) n122.toArray n223.toArray) r (fun R => za2 r rfl (hP.cell (i := 2) rfl) to43 hv24) rfl fun fr r => za0 (U x16.1) r (fun R => za5 r rfl) rfl fun fr r => ?_
   obtain ⟨x26, hx26, hD⟩ := zad hD
   refine za9 r (hk25.at_.2 x26 (by rw [zgW hx26]; exact Nat.lt_succ_self _) x16.1 w17 (Same.refl _ _) (Nat.le_refl _)) (fun R hc => zew r rfl rfl hk25.at_.1 hc) rfl ?_
   rintro _ w27 ⟨v28, rfl, hb, hr29⟩
   refine ⟨_, rfl, fun fr r => ?_⟩
   have zw27 := hP.size
   have hP : Post (fun b => b ∈ (memK a1g a1).own) [zlA Tryz.prog zls a0 a0v a0F, memK a1g x16.2.2, zlm b1 a0v.cells 45, zlm b5 ((capC a2)).toArray 48, zlm b9 (zlo false zls.zero 0 0 0 0 .nilFunc) 45, zlA Tryz.prog zls (x26, T.next a0.2 x16.1) v28 (a0F ++ rg w17.heap.size w27.heap.size)] w0 w27 := hP.addProgF (k := 0) rfl hb hr29
   refine zaf (.cells v28.cells 45 (0, 0)) r (fun R => zaq r (hP.prog (i := 5) rfl).shape rfl rfl (hP.cell (i := 4) rfl) ts45 rfl) rfl fun fr w31 u32 r => ?_
   have hP : Post (fun b => b ∈ (memK a1g a1).own) [zlA Tryz.prog zls a0 a0v a0F, memK a1g x16.2.2, zlm b1 a0v.cells 45, zlm b5 ((capC a2)).toArray 48, zlm b9 v28.cells 45, zlA Tryz.prog zls (x26, T.next a0.2 x16.1) v28 (a0F ++ rg w17.heap.size w27.heap.size)] w0 w31 := hP.upd (i := 4) rfl u32
   refine za0 (.bool true) r (fun R => za6 r rfl) rfl fun fr r => wn (wp_ret ?_)
   have hv : ((x26, T.next a0.2 x16.1), true, x16.2.2) = res := Option.some.inj hD
   try dsimp only [Exit.then, Exit.inBlock]
   have hs := (hP.prog (i := 5) rfl).shape.cells
   refine zbJ (fn := Tryz.f108) r rfl rfl (v' := (.bool true)) rfl (hP.cell (i := 4) rfl) (k := 9) hs.1 ta45 ?_
   rw [← hs.2.2]
   subst hv
   exact ⟨v28, (a0F ++ rg w17.heap.size w27.heap.size), rfl, (hP.pick [1, 5] rfl rfl).done (zbq rfl (zaN (fun b h => (List.mem_append.1 h).elim .inl (fun h => .inr (by have := (zfB.1 h).1; omega))) zbi))⟩
def D.zcX (fu : Nat) (a0 : Nat × T Grant) (a1 : Mem) (a2 : Cap) (a3 : Int) : Option (Grant × Int × Bool × Mem) := (loopThen (fun (x13 : Int × Mem × (Nat × T Grant)) => (Option.bind (bif (decide (x13.1 < a3)) then (some (!x13.2.2.2.zlF)) else (some false)) (fun (x19 : Bool) => (bif x19 then ((D.zcU fu x13.2.2 x13.2.1 a2).bind (fun (x23 : (Nat × T Grant) × Bool × Mem) => (bif (!x23.2.1) then (some (Lp.brk (x13.1, x23.2.2, x13.2.2))) else (some (Lp.next ((IntKind.i64.wrap (x13.1 + 1)), x23.2.2, x23.1)))))) else (some (Lp.brk (x13.1, x13.2.1, x13.2.2))))))) fu (0, a1, a0) (fun (x37 : Int × Mem × (Nat × T Grant)) => (some ((T.res (⟨0, 0, 0⟩ : Grant) x37.2.2.2), x37.1, x37.2.2.2.zlF, x37.2.1))))
theorem zeK {fu : Nat} (w0 : World) {a0v : Value} {a0F : List Nat} (a0 : Nat × T Grant) {a1g : MG} (a1 : Mem) (a2 : Cap) (a3 : Int) (hS : Sep [zlA Tryz.prog zls a0 a0v a0F, memK a1g a1] w0) {res : Grant × Int × Bool × Mem} (hD : D.zcX fu a0 a1 a2 a3 = some res) :
    Calls Tryz.prog 26 #[a0v, zp a1g.mb, .agg (capC a2).toArray, .int .i64 a3] w0 (fun e w' => e = .returned (.tuple #[(.agg (zlD res.1).toArray), (.int .i64 res.2.1), (.bool res.2.2.1)]) ∧ Done (fun b => b ∈ (memK a1g a1).own) No [memK a1g res.2.2.2] w0 w') := by
 refine enter Tryz.func26 rfl 39 rfl rfl fun fr r => ?_
 have hP : Post (fun b => b ∈ (memK a1g a1).own) [zlA Tryz.prog zls a0 a0v a0F, memK a1g a1] w0 w0 := .start hS (by simp [memK, zlA])
 unfold D.zcX at hD
 refine wsr ?_
 refine zaa (.cells a0v.cells 45 (0, 0)) r (fun R => zlC r (v := a0v) rfl) rfl fun fr b1 w2 n3 r => ?_
 have hP : Post (fun b => b ∈ (memK a1g a1).own) [zlA Tryz.prog zls a0 a0v a0F, memK a1g a1, zlm b1 a0v.cells 45] w0 w2 := hP.new n3
 refine zaa (.cells ((capC a2)).toArray 48 (0, 0)) r (fun R => zlC r (v := (.agg (capC a2).toArray)) rfl) rfl fun fr b5 w6 n7 r => ?_
 have hP : Post (fun b => b ∈ (memK a1g a1).own) [zlA Tryz.prog zls a0 a0v a0F, memK a1g a1, zlm b1 a0v.cells 45, zlm b5 ((capC a2)).toArray 48] w0 w6 := hP.new n7
 refine zaa (.cells ((zlD (⟨0, 0, 0⟩ : Grant))).toArray 37 (0, 0)) r (fun R => zar tz37) rfl fun fr b9 w10 n11 r => ?_
 have hP : Post (fun b => b ∈ (memK a1g a1).own) [zlA Tryz.prog zls a0 a0v a0F, memK a1g a1, zlm b1 a0v.cells 45, zlm b5 ((capC a2)).toArray 48, zlm b9 ((zlD (⟨0, 0, 0⟩ : Grant))).toArray 37] w0 w10 := hP.new n11
 refine za0 (I 0) r (fun R => za6 r rfl) rfl fun fr r => za0 (.bool false) r (fun R => za6 r rfl) rfl fun fr r => wn (wsr (za0 (I 0) r (fun R => za6 r rfl) rfl fun fr r => wn (wp_seq ?_)))
 refine zcu (X := Int × Mem × (Nat × T Grant)) (G := Value × List Nat) (x0 := (0, a1, a0)) (fun x γ => [(0, a0v), (1, (zp a1g.mb)), (2, (.agg (capC a2).toArray)), (3, (I a3)), (4, (zp b1)), (6, (zp b5)), (8, (zp b9)), (9, (I 0)), (10, (.bool false)), (11, (I x.1))]) (fun x γ w => Post (fun b => b ∈ (memK a1g a1).own) [zlA Tryz.prog zls x.2.2 γ.1 γ.2, memK a1g x.2.1, zlm b1 γ.1.cells 45, zlm b5 ((capC a2)).toArray 48, zlm b9 ((zlD (⟨0, 0, 0⟩ : Grant))).toArray 37] w0 w) (a0v, a0F) r (za1 rfl (za1 rfl (za1 rfl (za1 rfl (za1 rfl (za1 rfl (za1 rfl (za1 rfl (za1 rfl (za1 rfl zaz)))))))))) hP hD ?_ ?_
 ·
  rintro x13 γ14 fr w16 g y15 RPy15 nxy15 bky15 rty15 r hP hD
  have hP : Post (fun b => b ∈ (memK a1g a1).own) [zlA Tryz.prog zls x13.2.2 γ14.1 γ14.2, memK a1g x13.2.1, zlm b1 γ14.1.cells 45, zlm b5 ((capC a2)).toArray 48, zlm b9 ((zlD (⟨0, 0, 0⟩ : Grant))).toArray 37] w0 w16 := hP
  refine wp_seq (wp_seq ?_)
  refine zbo (N := 39) (Y := Bool) (G := Unit) (fun x γ => [(0, a0v), (1, (zp a1g.mb)), (2, (.agg (capC a2).toArray)), (3, (I a3)), (4, (zp b1)), (6, (zp b5)), (8, (zp b9)), (9, (I 0)), (10, (.bool false)), (11, (I x13.1)), (21, (.bool x))]) (fun x γ w => Post (fun b => b ∈ (memK a1g a1).own) [zlA Tryz.prog zls x13.2.2 γ14.1 γ14.2, memK a1g x13.2.1, zlm b1 γ14.1.cells 45, zlm b5 ((capC a2)).toArray 48, zlm b9 ((zlD (⟨0, 0, 0⟩ : Grant))).toArray 37] w0 w) hD ?_ ?_
  ·
   rintro y17 RPy17 nxy17 hD
   refine wp_region_lit (za0 (I x13.1) r (fun R => za5 r rfl) rfl fun fr r => za0 (I a3) r (fun R => za5 r rfl) rfl fun fr r => za0 _ r (fun R => zlt r rfl rfl rfl rfl) rfl fun fr r => za0 (.bool (decide (x13.1 < a3))) r (fun R => za5 r rfl) rfl fun fr r => ?_)
   refine zay (decide (x13.1 < a3)) (fun h18 => ?_) (fun h18 => ?_)
   ·
    have hD := (zao h18).symm.trans hD
    refine s1 r h18 (za0 _ r (fun R => za4 r (b := b1) (o := 0) (k := 0) rfl zjp) rfl fun fr r => s1 r h18 (za0 (.bool x13.2.2.2.zlF) r (fun R => za2 r rfl (hP.cell (i := 2) rfl) to4 (Rep.zeE (hP.prog (i := 0) rfl))) rfl fun fr r => s1 r h18 (za0 (.bool (!x13.2.2.2.zlF)) r (fun R => y_un r (u := (.bool x13.2.2.2.zlF)) rfl rfl) rfl fun fr r => za0 (.bool (!x13.2.2.2.zlF)) r (fun R => zai r (b := true) (congrArg Value.bool h18) rfl) rfl fun fr r => wn ?_)))
    exact nxy17 (!x13.2.2.2.zlF) () _ _ _ hD r (za1 rfl (za1 rfl (za1 rfl (za1 rfl (za1 rfl (za1 rfl (za1 rfl (za1 rfl (za1 rfl (za1 rfl (za1 rfl zaz))))))))))) (hP.pick [0, 1, 2, 3, 4] rfl rfl)
   ·
    have hD := (zah h18).symm.trans hD
    refine s0 r h18 fun fr r => s0 r h18 fun fr r => s0 r h18 fun fr r => za0 (.bool false) r (fun R => zai r (b := false) (congrArg Value.bool h18) rfl) rfl fun fr r => wn ?_
    exact nxy17 false () _ _ _ hD r (za1 rfl (za1 rfl (za1 rfl (za1 rfl (za1 rfl (za1 rfl (za1 rfl (za1 rfl (za1 rfl (za1 rfl (za1 rfl zaz))))))))))) (hP.pick [0, 1, 2, 3, 4] rfl rfl)
  ·
   rintro x19 γ20 fr w21 g r hP hD
   have hP : Post (fun b => b ∈ (memK a1g a1).own) [zlA Tryz.prog zls x13.2.2 γ14.1 γ14.2, memK a1g x13.2.1, zlm b1 γ14.1.cells 45, zlm b5 ((capC a2)).toArray 48, zlm b9 ((zlD (⟨0, 0, 0⟩ : Grant))).toArray 37] w0 w21 := hP
   refine wp_cond_split (t := x19) (r.ev rfl) (fun h22 => ?_) (fun h22 => ?_)
   ·
    have hD := (zao h22).symm.trans hD
    refine wp_skip (wp_block (wsr (za0 γ14.1 r (fun R => zdI r (hP.prog (i := 0) rfl).shape rfl (hP.cell (i := 2) rfl) ta45) rfl fun fr r => za0 (zp a1g.mb) r (fun R => za5 r rfl) rfl fun fr r => za0 (.agg (capC a2).toArray) r (fun R => za7 r (cs := (capC a2)) (n := 2) rfl (hP.cell (i := 3) rfl) ta48 rfl) rfl fun fr r => ?_)))
    obtain ⟨x23, hx23, hD⟩ := zad hD
    refine za9 r (zeM w21 x13.2.2 x13.2.1 a2 (hP.sep.pk [0, 1] rfl rfl) hx23) (fun R hc => zac r rfl zo4 hc) rfl ?_
    rintro _ w24 ⟨v25, F26, rfl, hq⟩
    refine ⟨_, rfl, fun fr r => ?_⟩
    have hP : Post (fun b => b ∈ (memK a1g a1).own) [zlA Tryz.prog zls x13.2.2 γ14.1 γ14.2, memK a1g x23.2.2, zlm b1 γ14.1.cells 45, zlm b5 ((capC a2)).toArray 48, zlm b9 ((zlD (⟨0, 0, 0⟩ : Grant))).toArray 37, zlA Tryz.prog zls x23.1 v25 F26] w0 w24 := hP.setR (i := 1) (k := 0) rfl rfl rfl hq
    refine za0 (.tuple #[v25, (.bool x23.2.1)]) r (fun R => za5 r rfl) rfl fun fr r => za0 v25 r (fun R => zaQ r (vs := #[v25, (.bool x23.2.1)]) rfl rfl) rfl fun fr r => za0 (.bool x23.2.1) r (fun R => zaQ r (vs := #[v25, (.bool x23.2.1)]) rfl rfl) rfl fun fr r => ?_
    refine zaa (.cells (zlo false zls.zero 0 0 0 0 .nilFunc) 45 (0, 0)) r (fun R => zar tz45) rfl fun fr b28 w29 n30 r => ?_
    have hP : Post (fun b => b ∈ (memK a1g a1).own) [zlA Tryz.prog zls x13.2.2 γ14.1 γ14.2, memK a1g x23.2.2, zlm b1 γ14.1.cells 45, zlm b5 ((capC a2)).toArray 48, zlm b9 ((zlD (⟨0, 0, 0⟩ : Grant))).toArray 37, zlA Tryz.prog zls x23.1 v25 F26, zlm b28 (zlo false zls.zero 0 0 0 0 .nilFunc) 45] w0 w29 := hP.new n30
    refine zaf (.cells v25.cells 45 (0, 0)) r (fun R => zaq r (hP.prog (i := 5) rfl).shape rfl rfl (hP.cell (i := 6) rfl) ts45 rfl) rfl fun fr w32 u33 r => ?_
    have hP : Post (fun b => b ∈ (memK a1g a1).own) [zlA Tryz.prog zls x13.2.2 γ14.1 γ14.2, memK a1g x23.2.2, zlm b1 γ14.1.cells 45, zlm b5 ((capC a2)).toArray 48, zlm b9 ((zlD (⟨0, 0, 0⟩ : Grant))).toArray 37, zlA Tryz.prog zls x23.1 v25 F26, zlm b28 v25.cells 45] w0 w32 := hP.upd (i := 6) rfl u33
    refine za0 (.bool x23.2.1) r (fun R => za6 r rfl) rfl fun fr r => wn (wp_seq (wsr (za0 (.bool x23.2.1) r (fun R => za5 r rfl) rfl fun fr r => za0 (.bool (!x23.2.1)) r (fun R => y_un r (u := (.bool x23.2.1)) rfl rfl) rfl fun fr r => wn ?_)))
    refine wp_cond_split (t := (!x23.2.1)) (r.ev rfl) (fun h34 => ?_) (fun h34 => ?_)
    ·
     have hD := (zao h34).symm.trans hD
     refine wp_exit ?_
     exact bky15 (x13.1, x23.2.2, x13.2.2) (γ14.1, γ14.2) _ _ _ hD r (za1 rfl (za1 rfl (za1 rfl (za1 rfl (za1 rfl (za1 rfl (za1 rfl (za1 rfl (za1 rfl (za1 rfl zaz)))))))))) (hP.pick [0, 1, 2, 3, 4] rfl rfl)
    ·
     have hD := (zah h34).symm.trans hD
     refine wp_skip (wsr (za0 v25 r (fun R => zdI r (hP.prog (i := 5) rfl).shape rfl (hP.cell (i := 6) rfl) ta45) rfl fun fr r => ?_))
     refine zaf (.cells v25.cells 45 (0, 0)) r (fun R => zaq r (hP.prog (i := 5) rfl).shape rfl rfl (hP.cell (i := 2) rfl) ts45 (by have h := (hP.prog (i := 0) rfl).shape.cells.1; simpa using h)) rfl fun fr w35 u36 r => ?_
     have hP : Post (fun b => b ∈ (memK a1g a1).own) [zlA Tryz.prog zls x13.2.2 γ14.1 γ14.2, memK a1g x23.2.2, zlm b1 v25.cells 45, zlm b5 ((capC a2)).toArray 48, zlm b9 ((zlD (⟨0, 0, 0⟩ : Grant))).toArray 37, zlA Tryz.prog zls x23.1 v25 F26, zlm b28 v25.cells 45] w0 w35 := hP.upd (i := 2) rfl u36
     refine wn ?_
     refine wp_region_lit (za0 (I x13.1) r (fun R => za5 r rfl) rfl fun fr r => za0 _ r (fun R => zlt r rfl rfl rfl rfl) rfl fun fr r => za0 (I (W (x13.1 + 1))) r (fun R => za6 r rfl) rfl fun fr r => wn ?_)
     exact nxy15 ((W (x13.1 + 1)), x23.2.2, x23.1) (v25, F26) _ _ _ hD r (za1 rfl (za1 rfl (za1 rfl (za1 rfl (za1 rfl (za1 rfl (za1 rfl (za1 rfl (za1 rfl (za1 rfl zaz)))))))))) (hP.pick [5, 1, 2, 3, 4] rfl rfl)
   ·
    have hD := (zah h22).symm.trans hD
    refine wp_exit ?_
    exact bky15 (x13.1, x13.2.1, x13.2.2) (γ14.1, γ14.2) _ _ _ hD r (za1 rfl (za1 rfl (za1 rfl (za1 rfl (za1 rfl (za1 rfl (za1 rfl (za1 rfl (za1 rfl (za1 rfl zaz)))))))))) (hP.pick [0, 1, 2, 3, 4] rfl rfl)
 ·
  rintro x37 γ38 fr w39 g r hP hD
  have hP : Post (fun b => b ∈ (memK a1g a1).own) [zlA Tryz.prog zls x37.2.2 γ38.1 γ38.2, memK a1g x37.2.1, zlm b1 γ38.1.cells 45, zlm b5 ((capC a2)).toArray 48, zlm b9 ((zlD (⟨0, 0, 0⟩ : Grant))).toArray 37] w0 w39 := hP
  refine wp_seq ?_
  refine zfK [b9] [.val (.pointer (some ⟨b1, 1, none⟩)), .val (.agg (zlD (T.res (⟨0, 0, 0⟩ : Grant) x37.2.2.2)).toArray), .val (I x37.1), .val (zp b1), .val (.bool x37.2.2.2.zlF), .eff (EffP w39.heap.size (zlm b9 ((zlD (T.res (⟨0, 0, 0⟩ : Grant) x37.2.2.2))).toArray 37) (fun _ : Unit => undef) (fun _ : Unit => [])) (EffP.st _ _ _ _), .val (I x37.1), .val (.bool x37.2.2.2.zlF)] mixed r (fun b hb => hP.sep.lt (i := 4) rfl (.inl hb)) (by kernel_rfl) ?_ ?_
  ·
   refine zbB r rfl (by kernel_rfl) (fun fr1 g w' hb' hd r' => ?_) ?_
   · exact za4 r' (b := b1) (o := 0) (k := 1) rfl zlf ⟨Below.refl _ _, rfl⟩
   refine zbB r rfl (by kernel_rfl) (fun fr1 g w' hb' hd r' => ?_) ?_
   · exact za7 r' (cs := (zlD (T.res (⟨0, 0, 0⟩ : Grant) x37.2.2.2))) (n := 3) (hd 0 rfl).1 ((hP.below (dr hb')).cell (i := 2) rfl) ta37 (Rep.zkD (d := (⟨0, 0, 0⟩ : Grant)) rfl ((hP.below (dr hb')).prog (i := 0) rfl)) ⟨Below.refl _ _, rfl⟩
   refine zaG r rfl (fun fr1 g w' hk' hd r' => ?_) ?_
   · exact za5 r' (v := (I x37.1)) rfl ⟨Below.refl _ _, rfl⟩
   refine zaG r rfl (fun fr1 g w' hk' hd r' => ?_) ?_
   · exact za4 r' (b := b1) (o := 0) (k := 0) rfl zjp ⟨Below.refl _ _, rfl⟩
   refine zaG r rfl (fun fr1 g w' hk' hd r' => ?_) ?_
   · exact za2 r' (v := (.bool x37.2.2.2.zlF)) (hd 3 rfl).1 (hP.cellK (j := 4) rfl (drK hk') (i := 2) rfl rfl) to4 (Rep.zeE (show Rep _ _ _ _ _ _ _ from hP.okK (j := 4) rfl (drK hk') (i := 0) rfl rfl)) ⟨Below.refl _ _, rfl⟩
   refine zbB r rfl (by kernel_rfl) (fun fr1 g w' hb' hd r' => ?_) ?_
   · exact zb0 r' (o := 0) (v := (.agg (zlD (T.res (⟨0, 0, 0⟩ : Grant) x37.2.2.2)).toArray)) rfl (hd 1 rfl).1 ((hP.below (dr hb')).cell (i := 4) rfl) ts37 (Nat.le_of_ble_eq_true rfl) rfl rfl (fun w2 u2 => ⟨u2.kept, (), rfl, u2.at_, (fun b hb => hP.sep.lt (i := 4) rfl hb), zgI⟩)
   refine zaG r rfl (fun fr1 g w' hk' hd r' => ?_) ?_
   · exact za6 r' (v := (I x37.1)) (hd 2 rfl).1 ⟨Below.refl _ _, rfl⟩
   refine zaG r rfl (fun fr1 g w' hk' hd r' => ?_) ?_
   · exact za6 r' (v := (.bool x37.2.2.2.zlF)) (hd 4 rfl).1 ⟨Below.refl _ _, rfl⟩
   exact zb1
  ·
   intro fr gg w40 hb hΦ hap r
   obtain ⟨⟨⟩, g5, hcE, _, hs5⟩ := (hΦ 5 rfl).1
   have r := r.congr (sc ((hΦ 7 rfl).1) (sc ((hΦ 6 rfl).1) (sc ((hΦ 4 rfl).1) (sc ((hΦ 3 rfl).1) (sc ((hΦ 2 rfl).1) (sc ((hΦ 1 rfl).1) (sc ((hΦ 0 rfl).1) rfl)))))))
   have hP : Post (fun b => b ∈ (memK a1g a1).own) [zlA Tryz.prog zls x37.2.2 γ38.1 γ38.2, memK a1g x37.2.1, zlm b1 γ38.1.cells 45, zlm b5 ((capC a2)).toArray 48, zlm b9 ((zlD (T.res (⟨0, 0, 0⟩ : Grant) x37.2.2.2))).toArray 37] w0 w40 := hP.effL (i := 4) (l := []) rfl hb hcE rfl rfl trivial
   refine wp_ret ?_
   have hv : ((T.res (⟨0, 0, 0⟩ : Grant) x37.2.2.2), x37.1, x37.2.2.2.zlF, x37.2.1) = res := Option.some.inj hD
   try dsimp only [Exit.then, Exit.inBlock]
   refine zdS (fn := Tryz.f26) r rfl rfl (v' := (I x37.1)) (v2 := (.bool x37.2.2.2.zlF)) rfl rfl (hP.cell (i := 4) rfl) (k := 3) rfl ta37 ?_
   subst hv
   exact ⟨rfl, (hP.pick [1] rfl rfl).done (zbq rfl zbi)⟩
def D.zdi (fu : Nat) (a0 : Nat × T Int) (a1 : Mem) (a2 : Cap) : Option ((Nat × T Int) × Bool × Mem) := (bif a0.2.zlF then (some (a0, false, a1)) else ((D.zc3 fu a1 a2 (T.acc a0.2)).bind (fun (x16 : Int × Bool × Mem) => (bif (!x16.2.1) then (some (a0, false, x16.2.2)) else ((depthI a0.1).bind (fun (x26 : Nat) => (some ((x26, T.next a0.2 x16.1), true, x16.2.2))))))))
theorem zfd {fu : Nat} (w0 : World) {a0v : Value} {a0F : List Nat} (a0 : Nat × T Int) {a1g : MG} (a1 : Mem) (a2 : Cap) (hS : Sep [zlA Tryz.prog zlq a0 a0v a0F, memK a1g a1] w0) {res : (Nat × T Int) × Bool × Mem} (hD : D.zdi fu a0 a1 a2 = some res) :
    Calls Tryz.prog 126 #[a0v, zp a1g.mb, .agg (capC a2).toArray] w0 (fun e w' => ∃ (v0 : Value) (F0 : List Nat), e = .returned (.tuple #[v0, (.bool res.2.1)]) ∧ Done (fun b => b ∈ (memK a1g a1).own) (fun b => b ∈ a0F) [memK a1g res.2.2, zlA Tryz.prog zlq res.1 v0 F0] w0 w') := by
 refine enter Tryz.func126 rfl 28 rfl rfl fun fr r => ?_
 have hP : Post (fun b => b ∈ (memK a1g a1).own) [zlA Tryz.prog zlq a0 a0v a0F, memK a1g a1] w0 w0 := .start hS (by simp [memK, zlA])
 unfold D.zdi at hD
 refine wsr ?_
 refine zaa (.cells a0v.cells 61 (0, 0)) r (fun R => zlC r (v := a0v) rfl) rfl fun fr b1 w2 n3 r => ?_
 have hP : Post (fun b => b ∈ (memK a1g a1).own) [zlA Tryz.prog zlq a0 a0v a0F, memK a1g a1, zlm b1 a0v.cells 61] w0 w2 := hP.new n3
 refine zaa (.cells ((capC a2)).toArray 48 (0, 0)) r (fun R => zlC r (v := (.agg (capC a2).toArray)) rfl) rfl fun fr b5 w6 n7 r => ?_
 have hP : Post (fun b => b ∈ (memK a1g a1).own) [zlA Tryz.prog zlq a0 a0v a0F, memK a1g a1, zlm b1 a0v.cells 61, zlm b5 ((capC a2)).toArray 48] w0 w6 := hP.new n7
 refine zaa (.cells (zlo false zlq.zero 0 0 0 0 .nilFunc) 61 (0, 0)) r (fun R => zar tz61) rfl fun fr b9 w10 n11 r => ?_
 have hP : Post (fun b => b ∈ (memK a1g a1).own) [zlA Tryz.prog zlq a0 a0v a0F, memK a1g a1, zlm b1 a0v.cells 61, zlm b5 ((capC a2)).toArray 48, zlm b9 (zlo false zlq.zero 0 0 0 0 .nilFunc) 61] w0 w10 := hP.new n11
 refine za0 (.bool false) r (fun R => za6 r rfl) rfl fun fr r => wn (wp_seq (wsr (za0 _ r (fun R => za4 r (b := b1) (o := 0) (k := 0) rfl zh0) rfl fun fr r => za0 (.bool a0.2.zlF) r (fun R => za2 r rfl (hP.cell (i := 2) rfl) to4 (Rep.zeE (hP.prog (i := 0) rfl))) rfl fun fr r => wn ?_)))
 refine wp_cond_split (t := a0.2.zlF) (r.ev rfl) (fun h13 => ?_) (fun h13 => ?_)
 ·
  have hD := (zao h13).symm.trans hD
  refine wsr (za0 a0v r (fun R => zdI r (hP.prog (i := 0) rfl).shape rfl (hP.cell (i := 2) rfl) ta61) rfl fun fr r => ?_)
  refine zaf (.cells a0v.cells 61 (0, 0)) r (fun R => zaq r (hP.prog (i := 0) rfl).shape rfl rfl (hP.cell (i := 4) rfl) ts61 rfl) rfl fun fr w14 u15 r => ?_
  have hP : Post (fun b => b ∈ (memK a1g a1).own) [zlA Tryz.prog zlq a0 a0v a0F, memK a1g a1, zlm b1 a0v.cells 61, zlm b5 ((capC a2)).toArray 48, zlm b9 a0v.cells 61] w0 w14 := hP.upd (i := 4) rfl u15
  refine za0 (.bool false) r (fun R => za6 r rfl) rfl fun fr r => wn (wp_ret ?_)
  have hv : (a0, false, a1) = res := Option.some.inj hD
  try dsimp only [Exit.then, Exit.inBlock]
  have hs := (hP.prog (i := 0) rfl).shape.cells
  refine zbJ (fn := Tryz.f126) r rfl rfl (v' := (.bool false)) rfl (hP.cell (i := 4) rfl) (k := 7) hs.1 ta61 ?_
  rw [← hs.2.2]
  subst hv
  exact ⟨a0v, a0F, rfl, (hP.pick [1, 0] rfl rfl).done (zbq rfl (zaN (fun b h => .inl h) zbi))⟩
 ·
  have hD := (zah h13).symm.trans hD
  refine wp_skip (wsr (za0 (zp a1g.mb) r (fun R => za5 r rfl) rfl fun fr r => za0 (.agg (capC a2).toArray) r (fun R => za7 r (cs := (capC a2)) (n := 2) rfl (hP.cell (i := 3) rfl) ta48 rfl) rfl fun fr r => za0 _ r (fun R => za4 r (b := b1) (o := 0) (k := 2) rfl zk8) rfl fun fr r => za0 (.agg (zlz (T.acc a0.2)).toArray) r (fun R => za7 r (cs := (zlz (T.acc a0.2))) (n := 4) rfl (hP.cell (i := 2) rfl) ta42 (Rep.zjM (hP.prog (i := 0) rfl) h13)) rfl fun fr r => ?_))
  obtain ⟨x16, hx16, hD⟩ := zad hD
  refine za9 r (zdY w10 a1 a2 (T.acc a0.2) (hP.sep.pk [1] rfl rfl) hx16) (fun R hc => zac r rfl zmw hc) rfl ?_
  rintro _ w17 ⟨rfl, hq⟩
  refine ⟨_, rfl, fun fr r => ?_⟩
  have hP : Post (fun b => b ∈ (memK a1g a1).own) [zlA Tryz.prog zlq a0 a0v a0F, memK a1g x16.2.2, zlm b1 a0v.cells 61, zlm b5 ((capC a2)).toArray 48, zlm b9 (zlo false zlq.zero 0 0 0 0 .nilFunc) 61] w0 w17 := hP.setN (i := 1) rfl hq
  refine za0 (.tuple #[(U x16.1), (.bool x16.2.1)]) r (fun R => za5 r rfl) rfl fun fr r => za0 (U x16.1) r (fun R => zaQ r (vs := #[(U x16.1), (.bool x16.2.1)]) rfl rfl) rfl fun fr r => za0 (.bool x16.2.1) r (fun R => zaQ r (vs := #[(U x16.1), (.bool x16.2.1)]) rfl rfl) rfl fun fr r => za0 (U x16.1) r (fun R => za6 r rfl) rfl fun fr r => za0 (.bool x16.2.1) r (fun R => za6 r rfl) rfl fun fr r => wn (wp_seq (wsr (za0 (.bool x16.2.1) r (fun R => za5 r rfl) rfl fun fr r => za0 (.bool (!x16.2.1)) r (fun R => y_un r (u := (.bool x16.2.1)) rfl rfl) rfl fun fr r => wn ?_)))
  refine wp_cond_split (t := (!x16.2.1)) (r.ev rfl) (fun h18 => ?_) (fun h18 => ?_)
  ·
   have hD := (zao h18).symm.trans hD
   refine wsr (za0 a0v r (fun R => zdI r (hP.prog (i := 0) rfl).shape rfl (hP.cell (i := 2) rfl) ta61) rfl fun fr r => ?_)
   refine zaf (.cells a0v.cells 61 (0, 0)) r (fun R => zaq r (hP.prog (i := 0) rfl).shape rfl rfl (hP.cell (i := 4) rfl) ts61 rfl) rfl fun fr w19 u20 r => ?_
   have hP : Post (fun b => b ∈ (memK a1g a1).own) [zlA Tryz.prog zlq a0 a0v a0F, memK a1g x16.2.2, zlm b1 a0v.cells 61, zlm b5 ((capC a2)).toArray 48, zlm b9 a0v.cells 61] w0 w19 := hP.upd (i := 4) rfl u20
   refine za0 (.bool false) r (fun R => za6 r rfl) rfl fun fr r => wn (wp_ret ?_)
   have hv : (a0, false, x16.2.2) = res := Option.some.inj hD
   try dsimp only [Exit.then, Exit.inBlock]
   have hs := (hP.prog (i := 0) rfl).shape.cells
   refine zbJ (fn := Tryz.f126) r rfl rfl (v' := (.bool false)) rfl (hP.cell (i := 4) rfl) (k := 7) hs.1 ta61 ?_
   rw [← hs.2.2]
   subst hv
   exact ⟨a0v, a0F, rfl, (hP.pick [1, 0] rfl rfl).done (zbq rfl (zaN (fun b h => .inl h) zbi))⟩
  ·
   have hD := (zah h18).symm.trans hD
   refine wp_skip (wsr (za0 _ r (fun R => za4 r (b := b1) (o := 0) (k := 6) rfl zjP) rfl fun fr r => ?_))
   obtain ⟨nf21, n122, n223, hv24, hk25⟩ := Rep.ziF (hP.prog (i := 0) rfl) h13
   refine za0 (.func (.func nf21) n122.toArray n223.toArray) r (fun R => za2 r rfl (hP.cell (i := 2) rfl) to59 hv24) rfl fun fr r => za0 (U x16.1) r (fun R => za5 r rfl) rfl fun fr r => ?_
   obtain ⟨x26, hx26, hD⟩ := zad hD
   refine za9 r (hk25.at_.2 x26 (by rw [zgW hx26]; exact Nat.lt_succ_self _) x16.1 w17 (Same.refl _ _) (Nat.le_refl _)) (fun R hc => zew r rfl rfl hk25.at_.1 hc) rfl ?_
   rintro _ w27 ⟨v28, rfl, hb, hr29⟩
   refine ⟨_, rfl, fun fr r => ?_⟩
   have zw27 := hP.size
   have hP : Post (fun b => b ∈ (memK a1g a1).own) [zlA Tryz.prog zlq a0 a0v a0F, memK a1g x16.2.2, zlm b1 a0v.cells 61, zlm b5 ((capC a2)).toArray 48, zlm b9 (zlo false zlq.zero 0 0 0 0 .nilFunc) 61, zlA Tryz.prog zlq (x26, T.next a0.2 x16.1) v28 (a0F ++ rg w17.heap.size w27.heap.size)] w0 w27 := hP.addProgF (k := 0) rfl hb hr29
   refine zaf (.cells v28.cells 61 (0, 0)) r (fun R => zaq r (hP.prog (i := 5) rfl).shape rfl rfl (hP.cell (i := 4) rfl) ts61 rfl) rfl fun fr w31 u32 r => ?_
   have hP : Post (fun b => b ∈ (memK a1g a1).own) [zlA Tryz.prog zlq a0 a0v a0F, memK a1g x16.2.2, zlm b1 a0v.cells 61, zlm b5 ((capC a2)).toArray 48, zlm b9 v28.cells 61, zlA Tryz.prog zlq (x26, T.next a0.2 x16.1) v28 (a0F ++ rg w17.heap.size w27.heap.size)] w0 w31 := hP.upd (i := 4) rfl u32
   refine za0 (.bool true) r (fun R => za6 r rfl) rfl fun fr r => wn (wp_ret ?_)
   have hv : ((x26, T.next a0.2 x16.1), true, x16.2.2) = res := Option.some.inj hD
   try dsimp only [Exit.then, Exit.inBlock]
   have hs := (hP.prog (i := 5) rfl).shape.cells
   refine zbJ (fn := Tryz.f126) r rfl rfl (v' := (.bool true)) rfl (hP.cell (i := 4) rfl) (k := 7) hs.1 ta61 ?_
   rw [← hs.2.2]
   subst hv
   exact ⟨v28, (a0F ++ rg w17.heap.size w27.heap.size), rfl, (hP.pick [1, 5] rfl rfl).done (zbq rfl (zaN (fun b h => (List.mem_append.1 h).elim .inl (fun h => .inr (by have := (zfB.1 h).1; omega))) zbi))⟩
def D.zeb (fu : Nat) (a0 : Nat × T Int) (a1 : Mem) (a2 : Cap) (a3 : Int) : Option (Int × Int × Bool × Mem) := (loopThen (fun (x9 : Int × Mem × (Nat × T Int)) => (Option.bind (bif (decide (x9.1 < a3)) then (some (!x9.2.2.2.zlF)) else (some false)) (fun (x15 : Bool) => (bif x15 then ((D.zdi fu x9.2.2 x9.2.1 a2).bind (fun (x19 : (Nat × T Int) × Bool × Mem) => (bif (!x19.2.1) then (some (Lp.brk (x9.1, x19.2.2, x9.2.2))) else (some (Lp.next ((IntKind.i64.wrap (x9.1 + 1)), x19.2.2, x19.1)))))) else (some (Lp.brk (x9.1, x9.2.1, x9.2.2))))))) fu (0, a1, a0) (fun (x33 : Int × Mem × (Nat × T Int)) => (some ((T.res 0 x33.2.2.2), x33.1, x33.2.2.2.zlF, x33.2.1))))
theorem zh6 {fu : Nat} (w0 : World) {a0v : Value} {a0F : List Nat} (a0 : Nat × T Int) {a1g : MG} (a1 : Mem) (a2 : Cap) (a3 : Int) (hS : Sep [zlA Tryz.prog zlq a0 a0v a0F, memK a1g a1] w0) {res : Int × Int × Bool × Mem} (hD : D.zeb fu a0 a1 a2 a3 = some res) :
    Calls Tryz.prog 33 #[a0v, zp a1g.mb, .agg (capC a2).toArray, .int .i64 a3] w0 (fun e w' => e = .returned (.tuple #[(.int .i64 res.1), (.int .i64 res.2.1), (.bool res.2.2.1)]) ∧ Done (fun b => b ∈ (memK a1g a1).own) No [memK a1g res.2.2.2] w0 w') := by
 refine enter Tryz.func33 rfl 39 rfl rfl fun fr r => ?_
 have hP : Post (fun b => b ∈ (memK a1g a1).own) [zlA Tryz.prog zlq a0 a0v a0F, memK a1g a1] w0 w0 := .start hS (by simp [memK, zlA])
 unfold D.zeb at hD
 refine wsr ?_
 refine zaa (.cells a0v.cells 61 (0, 0)) r (fun R => zlC r (v := a0v) rfl) rfl fun fr b1 w2 n3 r => ?_
 have hP : Post (fun b => b ∈ (memK a1g a1).own) [zlA Tryz.prog zlq a0 a0v a0F, memK a1g a1, zlm b1 a0v.cells 61] w0 w2 := hP.new n3
 refine zaa (.cells ((capC a2)).toArray 48 (0, 0)) r (fun R => zlC r (v := (.agg (capC a2).toArray)) rfl) rfl fun fr b5 w6 n7 r => ?_
 have hP : Post (fun b => b ∈ (memK a1g a1).own) [zlA Tryz.prog zlq a0 a0v a0F, memK a1g a1, zlm b1 a0v.cells 61, zlm b5 ((capC a2)).toArray 48] w0 w6 := hP.new n7
 refine za0 (I 0) r (fun R => za6 r rfl) rfl fun fr r => za0 (I 0) r (fun R => za6 r rfl) rfl fun fr r => za0 (.bool false) r (fun R => za6 r rfl) rfl fun fr r => wn (wsr (za0 (I 0) r (fun R => za6 r rfl) rfl fun fr r => wn (wp_seq ?_)))
 refine zcu (X := Int × Mem × (Nat × T Int)) (G := Value × List Nat) (x0 := (0, a1, a0)) (fun x γ => [(0, a0v), (1, (zp a1g.mb)), (2, (.agg (capC a2).toArray)), (3, (I a3)), (4, (zp b1)), (6, (zp b5)), (8, (I 0)), (9, (I 0)), (10, (.bool false)), (11, (I x.1))]) (fun x γ w => Post (fun b => b ∈ (memK a1g a1).own) [zlA Tryz.prog zlq x.2.2 γ.1 γ.2, memK a1g x.2.1, zlm b1 γ.1.cells 61, zlm b5 ((capC a2)).toArray 48] w0 w) (a0v, a0F) r (za1 rfl (za1 rfl (za1 rfl (za1 rfl (za1 rfl (za1 rfl (za1 rfl (za1 rfl (za1 rfl (za1 rfl zaz)))))))))) hP hD ?_ ?_
 ·
  rintro x9 γ10 fr w12 g y11 RPy11 nxy11 bky11 rty11 r hP hD
  have hP : Post (fun b => b ∈ (memK a1g a1).own) [zlA Tryz.prog zlq x9.2.2 γ10.1 γ10.2, memK a1g x9.2.1, zlm b1 γ10.1.cells 61, zlm b5 ((capC a2)).toArray 48] w0 w12 := hP
  refine wp_seq (wp_seq ?_)
  refine zbo (N := 39) (Y := Bool) (G := Unit) (fun x γ => [(0, a0v), (1, (zp a1g.mb)), (2, (.agg (capC a2).toArray)), (3, (I a3)), (4, (zp b1)), (6, (zp b5)), (8, (I 0)), (9, (I 0)), (10, (.bool false)), (11, (I x9.1)), (21, (.bool x))]) (fun x γ w => Post (fun b => b ∈ (memK a1g a1).own) [zlA Tryz.prog zlq x9.2.2 γ10.1 γ10.2, memK a1g x9.2.1, zlm b1 γ10.1.cells 61, zlm b5 ((capC a2)).toArray 48] w0 w) hD ?_ ?_
  ·
   rintro y13 RPy13 nxy13 hD
   refine wp_region_lit (za0 (I x9.1) r (fun R => za5 r rfl) rfl fun fr r => za0 (I a3) r (fun R => za5 r rfl) rfl fun fr r => za0 _ r (fun R => zlt r rfl rfl rfl rfl) rfl fun fr r => za0 (.bool (decide (x9.1 < a3))) r (fun R => za5 r rfl) rfl fun fr r => ?_)
   refine zay (decide (x9.1 < a3)) (fun h14 => ?_) (fun h14 => ?_)
   ·
    have hD := (zao h14).symm.trans hD
    refine s1 r h14 (za0 _ r (fun R => za4 r (b := b1) (o := 0) (k := 0) rfl zh0) rfl fun fr r => s1 r h14 (za0 (.bool x9.2.2.2.zlF) r (fun R => za2 r rfl (hP.cell (i := 2) rfl) to4 (Rep.zeE (hP.prog (i := 0) rfl))) rfl fun fr r => s1 r h14 (za0 (.bool (!x9.2.2.2.zlF)) r (fun R => y_un r (u := (.bool x9.2.2.2.zlF)) rfl rfl) rfl fun fr r => za0 (.bool (!x9.2.2.2.zlF)) r (fun R => zai r (b := true) (congrArg Value.bool h14) rfl) rfl fun fr r => wn ?_)))
    exact nxy13 (!x9.2.2.2.zlF) () _ _ _ hD r (za1 rfl (za1 rfl (za1 rfl (za1 rfl (za1 rfl (za1 rfl (za1 rfl (za1 rfl (za1 rfl (za1 rfl (za1 rfl zaz))))))))))) (hP.pick [0, 1, 2, 3] rfl rfl)
   ·
    have hD := (zah h14).symm.trans hD
    refine s0 r h14 fun fr r => s0 r h14 fun fr r => s0 r h14 fun fr r => za0 (.bool false) r (fun R => zai r (b := false) (congrArg Value.bool h14) rfl) rfl fun fr r => wn ?_
    exact nxy13 false () _ _ _ hD r (za1 rfl (za1 rfl (za1 rfl (za1 rfl (za1 rfl (za1 rfl (za1 rfl (za1 rfl (za1 rfl (za1 rfl (za1 rfl zaz))))))))))) (hP.pick [0, 1, 2, 3] rfl rfl)
  ·
   rintro x15 γ16 fr w17 g r hP hD
   have hP : Post (fun b => b ∈ (memK a1g a1).own) [zlA Tryz.prog zlq x9.2.2 γ10.1 γ10.2, memK a1g x9.2.1, zlm b1 γ10.1.cells 61, zlm b5 ((capC a2)).toArray 48] w0 w17 := hP
   refine wp_cond_split (t := x15) (r.ev rfl) (fun h18 => ?_) (fun h18 => ?_)
   ·
    have hD := (zao h18).symm.trans hD
    refine wp_skip (wp_block (wsr (za0 γ10.1 r (fun R => zdI r (hP.prog (i := 0) rfl).shape rfl (hP.cell (i := 2) rfl) ta61) rfl fun fr r => za0 (zp a1g.mb) r (fun R => za5 r rfl) rfl fun fr r => za0 (.agg (capC a2).toArray) r (fun R => za7 r (cs := (capC a2)) (n := 2) rfl (hP.cell (i := 3) rfl) ta48 rfl) rfl fun fr r => ?_)))
    obtain ⟨x19, hx19, hD⟩ := zad hD
    refine za9 r (zfd w17 x9.2.2 x9.2.1 a2 (hP.sep.pk [0, 1] rfl rfl) hx19) (fun R hc => zac r rfl zoI hc) rfl ?_
    rintro _ w20 ⟨v21, F22, rfl, hq⟩
    refine ⟨_, rfl, fun fr r => ?_⟩
    have hP : Post (fun b => b ∈ (memK a1g a1).own) [zlA Tryz.prog zlq x9.2.2 γ10.1 γ10.2, memK a1g x19.2.2, zlm b1 γ10.1.cells 61, zlm b5 ((capC a2)).toArray 48, zlA Tryz.prog zlq x19.1 v21 F22] w0 w20 := hP.setR (i := 1) (k := 0) rfl rfl rfl hq
    refine za0 (.tuple #[v21, (.bool x19.2.1)]) r (fun R => za5 r rfl) rfl fun fr r => za0 v21 r (fun R => zaQ r (vs := #[v21, (.bool x19.2.1)]) rfl rfl) rfl fun fr r => za0 (.bool x19.2.1) r (fun R => zaQ r (vs := #[v21, (.bool x19.2.1)]) rfl rfl) rfl fun fr r => ?_
    refine zaa (.cells (zlo false zlq.zero 0 0 0 0 .nilFunc) 61 (0, 0)) r (fun R => zar tz61) rfl fun fr b24 w25 n26 r => ?_
    have hP : Post (fun b => b ∈ (memK a1g a1).own) [zlA Tryz.prog zlq x9.2.2 γ10.1 γ10.2, memK a1g x19.2.2, zlm b1 γ10.1.cells 61, zlm b5 ((capC a2)).toArray 48, zlA Tryz.prog zlq x19.1 v21 F22, zlm b24 (zlo false zlq.zero 0 0 0 0 .nilFunc) 61] w0 w25 := hP.new n26
    refine zaf (.cells v21.cells 61 (0, 0)) r (fun R => zaq r (hP.prog (i := 4) rfl).shape rfl rfl (hP.cell (i := 5) rfl) ts61 rfl) rfl fun fr w28 u29 r => ?_
    have hP : Post (fun b => b ∈ (memK a1g a1).own) [zlA Tryz.prog zlq x9.2.2 γ10.1 γ10.2, memK a1g x19.2.2, zlm b1 γ10.1.cells 61, zlm b5 ((capC a2)).toArray 48, zlA Tryz.prog zlq x19.1 v21 F22, zlm b24 v21.cells 61] w0 w28 := hP.upd (i := 5) rfl u29
    refine za0 (.bool x19.2.1) r (fun R => za6 r rfl) rfl fun fr r => wn (wp_seq (wsr (za0 (.bool x19.2.1) r (fun R => za5 r rfl) rfl fun fr r => za0 (.bool (!x19.2.1)) r (fun R => y_un r (u := (.bool x19.2.1)) rfl rfl) rfl fun fr r => wn ?_)))
    refine wp_cond_split (t := (!x19.2.1)) (r.ev rfl) (fun h30 => ?_) (fun h30 => ?_)
    ·
     have hD := (zao h30).symm.trans hD
     refine wp_exit ?_
     exact bky11 (x9.1, x19.2.2, x9.2.2) (γ10.1, γ10.2) _ _ _ hD r (za1 rfl (za1 rfl (za1 rfl (za1 rfl (za1 rfl (za1 rfl (za1 rfl (za1 rfl (za1 rfl (za1 rfl zaz)))))))))) (hP.pick [0, 1, 2, 3] rfl rfl)
    ·
     have hD := (zah h30).symm.trans hD
     refine wp_skip (wsr (za0 v21 r (fun R => zdI r (hP.prog (i := 4) rfl).shape rfl (hP.cell (i := 5) rfl) ta61) rfl fun fr r => ?_))
     refine zaf (.cells v21.cells 61 (0, 0)) r (fun R => zaq r (hP.prog (i := 4) rfl).shape rfl rfl (hP.cell (i := 2) rfl) ts61 (by have h := (hP.prog (i := 0) rfl).shape.cells.1; simpa using h)) rfl fun fr w31 u32 r => ?_
     have hP : Post (fun b => b ∈ (memK a1g a1).own) [zlA Tryz.prog zlq x9.2.2 γ10.1 γ10.2, memK a1g x19.2.2, zlm b1 v21.cells 61, zlm b5 ((capC a2)).toArray 48, zlA Tryz.prog zlq x19.1 v21 F22, zlm b24 v21.cells 61] w0 w31 := hP.upd (i := 2) rfl u32
     refine wn ?_
     refine wp_region_lit (za0 (I x9.1) r (fun R => za5 r rfl) rfl fun fr r => za0 _ r (fun R => zlt r rfl rfl rfl rfl) rfl fun fr r => za0 (I (W (x9.1 + 1))) r (fun R => za6 r rfl) rfl fun fr r => wn ?_)
     exact nxy11 ((W (x9.1 + 1)), x19.2.2, x19.1) (v21, F22) _ _ _ hD r (za1 rfl (za1 rfl (za1 rfl (za1 rfl (za1 rfl (za1 rfl (za1 rfl (za1 rfl (za1 rfl (za1 rfl zaz)))))))))) (hP.pick [4, 1, 2, 3] rfl rfl)
   ·
    have hD := (zah h18).symm.trans hD
    refine wp_exit ?_
    exact bky11 (x9.1, x9.2.1, x9.2.2) (γ10.1, γ10.2) _ _ _ hD r (za1 rfl (za1 rfl (za1 rfl (za1 rfl (za1 rfl (za1 rfl (za1 rfl (za1 rfl (za1 rfl (za1 rfl zaz)))))))))) (hP.pick [0, 1, 2, 3] rfl rfl)
 ·
  rintro x33 γ34 fr w35 g r hP hD
  have hP : Post (fun b => b ∈ (memK a1g a1).own) [zlA Tryz.prog zlq x33.2.2 γ34.1 γ34.2, memK a1g x33.2.1, zlm b1 γ34.1.cells 61, zlm b5 ((capC a2)).toArray 48] w0 w35 := hP
  refine wp_seq ?_
  refine zbn [.val (.pointer (some ⟨b1, 1, none⟩)), .val (I (T.res 0 x33.2.2.2)), .val (I x33.1), .val (zp b1), .val (.bool x33.2.2.2.zlF), .val (I (T.res 0 x33.2.2.2)), .val (I x33.1), .val (.bool x33.2.2.2.zlF)] mixed r (by kernel_rfl) ?_ ?_
  ·
   refine fc r (fun fr1 g w' hb' hd r' => za4 r' (b := b1) (o := 0) rfl zjv bz) ?_
   refine fc r (fun fr1 g w' hb' hd r' => za2 r' (hd 0 rfl).1 ((hP.below (dr hb')).cell (i := 2) rfl) to3 (Rep.zkY (d := 0) rfl rfl ((hP.below (dr hb')).prog (i := 0) rfl)) bz) ?_
   refine fc r (fun fr1 g w' hb' hd r' => za5 r' rfl bz) ?_
   refine fc r (fun fr1 g w' hb' hd r' => za4 r' (b := b1) (o := 0) rfl zh0 bz) ?_
   refine fc r (fun fr1 g w' hb' hd r' => za2 r' (hd 3 rfl).1 ((hP.below (dr hb')).cell (i := 2) rfl) to4 (Rep.zeE ((hP.below (dr hb')).prog (i := 0) rfl)) bz) ?_
   refine fc r (fun fr1 g w' hb' hd r' => za6 r' (hd 1 rfl).1 bz) ?_
   refine fc r (fun fr1 g w' hb' hd r' => za6 r' (hd 2 rfl).1 bz) ?_
   refine fc r (fun fr1 g w' hb' hd r' => za6 r' (hd 4 rfl).1 bz) ?_
   exact zb1
  ·
   intro fr gg w36 hb hΦ hap r
   have r := r.congr (sc ((hΦ 7 rfl).1) (sc ((hΦ 6 rfl).1) (sc ((hΦ 5 rfl).1) (sc ((hΦ 4 rfl).1) (sc ((hΦ 3 rfl).1) (sc ((hΦ 2 rfl).1) (sc ((hΦ 1 rfl).1) (sc ((hΦ 0 rfl).1) rfl))))))))
   have hP : Post (fun b => b ∈ (memK a1g a1).own) [zlA Tryz.prog zlq x33.2.2 γ34.1 γ34.2, memK a1g x33.2.1, zlm b1 γ34.1.cells 61, zlm b5 ((capC a2)).toArray 48] w0 w36 := hP.below hb
   refine wp_ret ?_
   have hv : ((T.res 0 x33.2.2.2), x33.1, x33.2.2.2.zlF, x33.2.1) = res := Option.some.inj hD
   try dsimp only [Exit.then, Exit.inBlock]
   refine zko (fn := Tryz.f33) r (t := 8) (t' := 9) (t3 := 10) rfl (v := (I (T.res 0 x33.2.2.2))) (v' := (I x33.1)) (v3 := (.bool x33.2.2.2.zlF)) rfl rfl rfl ?_
   subst hv
   exact ⟨rfl, (hP.pick [1] rfl rfl).done (zbq rfl zbi)⟩
end Go.Proofs.YtfpgnmhcfkikkaaGreat

/- Ours. -/
set_option maxRecDepth 20000
set_option maxHeartbeats 2000000
namespace Go.Proofs.YtfpgnmhcfkikkaaGreat
open Go.RowKit
theorem zoH : zlp Tryz.prog 104 = true := by kernel_rfl
theorem zoL : zlp Tryz.prog 105 = true := by kernel_rfl
theorem znB : zlp Tryz.prog 106 = true := by kernel_rfl
theorem zoV : zlp Tryz.prog 107 = true := by kernel_rfl
theorem cl28 : zlp Tryz.prog 28 = true := by kernel_rfl
def D.zc7 (fu : Nat) (a0 : Plan) : Option (Mem) := ((D.zgM fu ([(D.zaD a0)])).bind (fun (x10 : Mem × Int) => (Option.bind (bif (x10.2 != 0) then (some true) else (some false)) (fun (x16 : Bool) => (bif x16 then none else ((D.zcf fu x10.1 0).bind (fun (x21 : Cap) => ((D.zdP fu (fu, (D.zds (fu + 1) a0)) x10.1 x21 (IntKind.i64.wrap (a0.nodes + 1))).bind (fun (x22 : Unit × Int × Bool × Mem) => (bif (!x22.2.2.1) then none else (some x22.2.2.2)))))))))))
theorem ze5 {fu : Nat} (w0 : World) (a0 : Plan) {res : Mem} (hD : D.zc7 fu a0 = some res) :
    Calls Tryz.prog 24 #[.agg (zln a0).toArray] w0 (fun e w' => ∃ (g0 : MG), e = .returned (zp g0.mb) ∧ Done No No [memK g0 res] w0 w') := by
 refine enter Tryz.func24 rfl 37 rfl rfl fun fr r => ?_
 have hP : Post No [] w0 w0 := Post.nil w0
 unfold D.zc7 at hD
 refine wsr ?_
 refine zaa (.cells ((zln a0)).toArray 23 (0, 0)) r (fun R => zlC r (v := (.agg (zln a0).toArray)) rfl) rfl fun fr b1 w2 n3 r => ?_
 have hP : Post No [zlm b1 ((zln a0)).toArray 23] w0 w2 := hP.new n3
 refine za0 (.pointer none) r (fun R => za6 r rfl) rfl fun fr r => wn (wsr (za0 (.agg (zln a0).toArray) r (fun R => za7 r (cs := (zln a0)) (n := 6) rfl (hP.cell (i := 0) rfl) ta23 rfl) rfl fun fr r => ?_))
 refine za9 r (zgy w2 a0) (fun R hc => zac r rfl zoL hc) rfl ?_
 rintro _ w5 ⟨rfl, hb⟩
 refine ⟨_, rfl, fun fr r => ?_⟩
 have hP : Post No [zlm b1 ((zln a0)).toArray 23] w0 w5 := hP.below hb
 refine zch (.cells (([(D.zaD a0)]).flatMap i64).toArray 3 (0, 0)) 1 r (fun R => zbz r (by kernel_rfl)) rfl fun fr b6 w7 n8 r => ?_
 have hP : Post No [zlm b1 ((zln a0)).toArray 23, rowK 3 1 i64 (.slice (some ⟨b6, 0, none⟩) 1 1) ([(D.zaD a0)])] w0 w7 := hP.newRow n8 (fun _ => rfl) rfl
 obtain ⟨x10, hx10, hD⟩ := zad hD
 refine za9 r (zju w7 ([(D.zaD a0)]) (hP.row (i := 1) rfl).ro hx10) (fun R hc => zac r rfl zoH hc) rfl ?_
 rintro _ w11 ⟨mg12, rfl, hq⟩
 refine ⟨_, rfl, fun fr r => ?_⟩
 have hP : Post No [zlm b1 ((zln a0)).toArray 23, rowK 3 1 i64 (.slice (some ⟨b6, 0, none⟩) 1 1) ([(D.zaD a0)]), memK mg12 x10.1] w0 w11 := hP.add hq
 refine za0 (.tuple #[(zp mg12.mb), (I x10.2)]) r (fun R => za5 r rfl) rfl fun fr r => za0 (zp mg12.mb) r (fun R => zaQ r (vs := #[(zp mg12.mb), (I x10.2)]) rfl rfl) rfl fun fr r => za0 (I x10.2) r (fun R => zaQ r (vs := #[(zp mg12.mb), (I x10.2)]) rfl rfl) rfl fun fr r => za0 (zp mg12.mb) r (fun R => za6 r rfl) rfl fun fr r => za0 (I x10.2) r (fun R => za6 r rfl) rfl fun fr r => wn (wp_seq (wp_seq ?_))
 have hP : Post No [zlm b1 ((zln a0)).toArray 23, memK mg12 x10.1] w0 w11 := hP.pick [0, 2] rfl rfl
 refine zbo (N := 37) (Y := Bool) (G := Unit) (fun x γ => [(0, (.agg (zln a0).toArray)), (1, (zp b1)), (2, (.pointer none)), (3, (zp mg12.mb)), (4, (I x10.2)), (20, (.bool x))]) (fun x γ w => Post No [zlm b1 ((zln a0)).toArray 23, memK mg12 x10.1] w0 w) hD ?_ ?_
 ·
  rintro y14 RPy14 nxy14 hD
  refine wp_region_lit (za0 (I x10.2) r (fun R => za5 r rfl) rfl fun fr r => za0 _ r (fun R => zlt r rfl rfl rfl rfl) rfl fun fr r => za0 (.bool (x10.2 != 0)) r (fun R => za5 r rfl) rfl fun fr r => ?_)
  refine zay (x10.2 != 0) (fun h15 => ?_) (fun h15 => ?_)
  ·
   have hD := (zao h15).symm.trans hD
   refine s0 r h15 fun fr r => s0 r h15 fun fr r => za0 (.bool true) r (fun R => zai r (b := true) (congrArg Value.bool h15) rfl) rfl fun fr r => wn ?_
   exact nxy14 true () _ _ _ hD r (za1 rfl (za1 rfl (za1 rfl (za1 rfl (za1 rfl (za1 rfl zaz)))))) (hP.pick [0, 1] rfl rfl)
  ·
   have hD := (zah h15).symm.trans hD
   refine s1 r h15 (za0 (zp mg12.mb) r (fun R => za5 r rfl) rfl fun fr r => s1 r h15 (za0 _ r (fun R => zlt r rfl rfl rfl rfl) rfl fun fr r => za0 (.bool false) r (fun R => zai r (b := false) (congrArg Value.bool h15) rfl) rfl fun fr r => wn ?_))
   exact nxy14 false () _ _ _ hD r (za1 rfl (za1 rfl (za1 rfl (za1 rfl (za1 rfl (za1 rfl zaz)))))) (hP.pick [0, 1] rfl rfl)
 ·
  rintro x16 γ17 fr w18 g r hP hD
  have hP : Post No [zlm b1 ((zln a0)).toArray 23, memK mg12 x10.1] w0 w18 := hP
  refine wp_cond_split (t := x16) (r.ev rfl) (fun h19 => ?_) (fun h19 => ?_)
  ·
   have hD := (zao h19).symm.trans hD
   refine wsr (za0 (.pointer none) r (fun R => za6 r rfl) rfl fun fr r => wn (wp_ret ?_))
   exact nomatch hD
  ·
   have hD := (zah h19).symm.trans hD
   refine wp_skip (wp_seq ?_)
   obtain ⟨x21, hx21, hD⟩ := zad hD
   obtain ⟨x22, hx22, hD⟩ := zad hD
   refine zfK mg12.bs [.val (.agg (zln a0).toArray), .pred (PrP Tryz.prog zly (fu, (D.zds (fu + 1) a0))) (PrP.st _), .val (zp mg12.mb), .val (zp mg12.mb), .val (.agg (capC x21).toArray), .val (zp b1), .val (I a0.nodes), .val (I (W (a0.nodes + 1))), .eff (EffP w18.heap.size (memK mg12 x22.2.2.2) (fun _ : Unit => (.tuple #[(.agg #[]), (I x22.2.1), (.bool x22.2.2.1)])) (fun _ : Unit => [])) (EffP.st _ _ _ _), .val (.tuple #[(.agg #[]), (I x22.2.1), (.bool x22.2.2.1)]), .val (.agg #[]), .val (I x22.2.1), .val (.bool x22.2.2.1), .cell 190 0, .stored 13 #[] 190 0 rfl, .val (I x22.2.1), .val (.bool x22.2.2.1)] mixed r (fun b hb => hP.sep.lt (i := 1) rfl (.inl hb)) (by kernel_rfl) ?_ ?_
   ·
    refine zaG r rfl (fun fr1 g w' hk' hd r' => ?_) ?_
    · exact za7 r' (cs := (zln a0)) (n := 6) rfl (hP.cellK (j := 1) rfl (drK hk') (i := 0) rfl rfl) ta23 rfl ⟨Below.refl _ _, rfl⟩
    refine zbB r rfl (by kernel_rfl) (fun fr1 g w' hb' hd r' => ?_) ?_
    · exact zac r' (args := [(.agg (zln a0).toArray)]) (lc (hd 0 rfl).1 l0) zoV ((zil (F := No) (n := fu) (j := fu + 1) (fun _ h => h.elim) (by omega) a0).mono (by rintro _ w2 ⟨y, rfl, hb2, hr2⟩; exact ⟨_, rfl, hb2, zhs hr2⟩))
    refine zbB r rfl (by kernel_rfl) (fun fr1 g w' hb' hd r' => ?_) ?_
    · exact za5 r' (v := (zp mg12.mb)) rfl ⟨Below.refl _ _, rfl⟩
    refine zaG r rfl (fun fr1 g w' hk' hd r' => ?_) ?_
    · exact za5 r' (v := (zp mg12.mb)) rfl ⟨Below.refl _ _, rfl⟩
    refine zbB r rfl (by kernel_rfl) (fun fr1 g w' hb' hd r' => ?_) ?_
    · exact zac r' (args := [(zp mg12.mb), (I 0)]) (lc (hd 3 rfl).1 (lc rfl l0)) cl28 ((zd0 _ x10.1 ((hP.below (dr hb')).mem (i := 1) rfl) 0 hx21).mono (by rintro _ w2 ⟨rfl, hb2⟩; exact ⟨_, rfl, hb2, rfl⟩))
    refine zaG r rfl (fun fr1 g w' hk' hd r' => ?_) ?_
    · exact za4 r' (b := b1) (o := 0) (k := 0) rfl zec ⟨Below.refl _ _, rfl⟩
    refine zaG r rfl (fun fr1 g w' hk' hd r' => ?_) ?_
    · exact za2 r' (v := (I a0.nodes)) (hd 5 rfl).1 (hP.cellK (j := 1) rfl (drK hk') (i := 0) rfl rfl) to3 rfl ⟨Below.refl _ _, rfl⟩
    refine zbB r rfl (by kernel_rfl) (fun fr1 g w' hb' hd r' => ?_) ?_
    · exact zlt r' (u := (I a0.nodes)) (u' := (I 1)) (v := (I (W (a0.nodes + 1)))) (hd 6 rfl).1 rfl rfl rfl ⟨Below.refl _ _, rfl⟩
    refine zbB r rfl (by kernel_rfl) (fun fr1 g w' hb' hd r' => ?_) ?_
    · exact zac r' (args := [(g 1).v, (zp mg12.mb), (.agg (capC x21).toArray), (I (W (a0.nodes + 1)))]) (lc rfl (lc (hd 2 rfl).1 (lc (hd 4 rfl).1 (lc (hd 7 rfl).1 l0)))) znB ((zh2 _ (fu, (D.zds (fu + 1) a0)) x10.1 x21 (W (a0.nodes + 1)) (Sep.beside (hd 1 rfl).1 ((hP.below (dr hb')).sep.pk [1] rfl rfl) (by intro c hc b hb; simp only [List.mem_cons, List.not_mem_nil, or_false] at hc; rcases hc with rfl; exact hP.sep.lt (i := 1) rfl hb) (hd 1 rfl).2.1) hx22).mono (by rintro _ w2 ⟨rfl, hq⟩; exact ⟨_, rfl, hq.chg.kept, EffP.of () hq rfl (fun b hb => hP.sep.lt (i := 1) rfl hb)⟩))
    refine zaG r rfl (fun fr1 g w' hk' hd r' => ?_) ?_
    · exact za5 r' (v := (.tuple #[(.agg #[]), (I x22.2.1), (.bool x22.2.2.1)])) (EffP.val (hd 8 rfl).1) ⟨Below.refl _ _, rfl⟩
    refine zaG r rfl (fun fr1 g w' hk' hd r' => ?_) ?_
    · exact zaQ r' (vs := #[(.agg #[]), (I x22.2.1), (.bool x22.2.2.1)]) (hd 9 rfl).1 rfl ⟨Below.refl _ _, rfl⟩
    refine zaG r rfl (fun fr1 g w' hk' hd r' => ?_) ?_
    · exact zaQ r' (vs := #[(.agg #[]), (I x22.2.1), (.bool x22.2.2.1)]) (hd 9 rfl).1 rfl ⟨Below.refl _ _, rfl⟩
    refine zaG r rfl (fun fr1 g w' hk' hd r' => ?_) ?_
    · exact zaQ r' (vs := #[(.agg #[]), (I x22.2.1), (.bool x22.2.2.1)]) (hd 9 rfl).1 rfl ⟨Below.refl _ _, rfl⟩
    refine zaG r rfl (fun fr1 g w' hk' hd r' => ?_) ?_
    · exact zar znq (fun b w2 n2 => ⟨n2.below, b, rfl, n2.eq, _, n2.at_, rfl⟩)
    refine zaG r rfl (fun fr1 g w' hk' hd r' => ?_) ?_
    · obtain ⟨hp, _, c, hc, hn⟩ := (hd 13 rfl).1; exact zb0 r' (o := 0) (c := c) (v := (.agg #[])) hp (hd 10 rfl).1 hc znd (by rw [hn]; exact Nat.le_of_ble_eq_true rfl) rfl (zg3 (hn.trans rfl)) (fun w2 u2 => ⟨u2, rfl⟩)
    refine zaG r rfl (fun fr1 g w' hk' hd r' => ?_) ?_
    · exact za6 r' (v := (I x22.2.1)) (hd 11 rfl).1 ⟨Below.refl _ _, rfl⟩
    refine zaG r rfl (fun fr1 g w' hk' hd r' => ?_) ?_
    · exact za6 r' (v := (.bool x22.2.2.1)) (hd 12 rfl).1 ⟨Below.refl _ _, rfl⟩
    exact zb1
   ·
    intro fr gg w24 hb hΦ hap r
    obtain ⟨v20, hv1⟩ : ∃ v, v = (gg 1).v := ⟨_, rfl⟩
    have g1 : (gg 1).v = v20 := hv1.symm
    obtain ⟨F25, eF25⟩ : ∃ F, F = rg (gg 1).lo (gg 1).hi := ⟨_, rfl⟩
    have hs1 : Fresh [zlA Tryz.prog zly (fu, (D.zds (fu + 1) a0)) v20 F25] (gg 1).lo (gg 1).hi w24 := by subst hv1; subst eF25; exact (hΦ 1 rfl).1
    obtain ⟨⟨⟩, g8, hcE, _, hs8⟩ := (hΦ 8 rfl).1
    obtain ⟨b23, ee_b23⟩ : ∃ b, b = (gg 13).lo := ⟨_, rfl⟩
    have g13 : (gg 13).v = (zp b23) := by rw [ee_b23]; exact (hΦ 13 rfl).1.1
    have h_b23 : w24.heap[b23]? = some (.cells #[] 190 (0, 0)) := by rw [ee_b23]; exact (hΦ 14 rfl).1.2
    have hs13 : Fresh [zlm b23 #[] 190] (gg 13).lo (gg 13).hi w24 := by subst ee_b23; exact Fresh.cell (hΦ 13 rfl).1.2.1 h_b23
    have r := r.congr (sc ((hΦ 16 rfl).1) (sc ((hΦ 15 rfl).1) (sc g13 (sc ((hΦ 12 rfl).1) (sc ((hΦ 11 rfl).1) (sc ((hΦ 10 rfl).1) (sc ((hΦ 9 rfl).1) (sc g8 (sc ((hΦ 7 rfl).1) (sc ((hΦ 6 rfl).1) (sc ((hΦ 5 rfl).1) (sc ((hΦ 4 rfl).1) (sc ((hΦ 3 rfl).1) (sc ((hΦ 2 rfl).1) (sc g1 (sc ((hΦ 0 rfl).1) rfl))))))))))))))))
    have hP : Post No [zlm b1 ((zln a0)).toArray 23, memK mg12 x22.2.2.2, zlA Tryz.prog zly (fu, (D.zds (fu + 1) a0)) v20 F25, zlm b23 #[] 190] w0 w24 := hP.effL (i := 1) (l := [([zlA Tryz.prog zly (fu, (D.zds (fu + 1) a0)) v20 F25], (gg 1).lo, (gg 1).hi), ([zlm b23 #[] 190], (gg 13).lo, (gg 13).hi)]) rfl hb hcE rfl rfl ⟨hs1, (hΦ 1 rfl).2.1, (zcA (hap 1 13 rfl) zbl), ⟨hs13, (hΦ 13 rfl).2.1, zbl, trivial⟩⟩
    refine wp_seq (wsr (za0 (.bool x22.2.2.1) r (fun R => za5 r rfl) rfl fun fr r => za0 (.bool (!x22.2.2.1)) r (fun R => y_un r (u := (.bool x22.2.2.1)) rfl rfl) rfl fun fr r => wn ?_))
    refine wp_cond_split (t := (!x22.2.2.1)) (r.ev rfl) (fun h26 => ?_) (fun h26 => ?_)
    ·
     have hD := (zao h26).symm.trans hD
     refine wsr (za0 (.pointer none) r (fun R => za6 r rfl) rfl fun fr r => wn (wp_ret ?_))
     exact nomatch hD
    ·
     have hD := (zah h26).symm.trans hD
     refine wp_skip (wsr (za0 (zp mg12.mb) r (fun R => za5 r rfl) rfl fun fr r => za0 (zp mg12.mb) r (fun R => za6 r rfl) rfl fun fr r => wn (wp_ret ?_)))
     have hv : x22.2.2.2 = res := Option.some.inj hD
     try dsimp only [Exit.then, Exit.inBlock]
     refine zaA (fn := Tryz.f24) r (t := 2) rfl (v := (zp mg12.mb)) rfl ?_
     subst hv
     exact ⟨mg12, rfl, (hP.pick [1] rfl rfl).done (zbq rfl zbi)⟩
end Go.Proofs.YtfpgnmhcfkikkaaGreat

/- Ours. -/
set_option maxRecDepth 20000
set_option maxHeartbeats 2000000
namespace Go.Proofs.YtfpgnmhcfkikkaaGreat
open Go.RowKit
theorem cl30 : zlp Tryz.prog 30 = true := by kernel_rfl
theorem rt29 : rowTy Tryz.prog 29 3 1 = true := by kernel_rfl
def D.zcV (fu : Nat) (a0 : Plan) (a1 : Mem) (a2 : Int) : Option (List Int) := ((D.zbg fu a1 a2 (D.zaT a0)).bind (fun (x5 : Int) => (loopThen (fun (x8 : List Int × Int) => (Option.bind (bif (decide ((x8.1.length : Int) < a0.nodes)) then (bif (decide (x8.2 > 0)) then (some (decide (x8.2 ≤ (IntKind.u64.wrap a0.nodes)))) else (some false)) else (some false)) (fun (x15 : Bool) => (bif x15 then ((appD x8.1 ([(IntKind.i64.wrap ((IntKind.i64.wrap x8.2) - 1))])).bind (fun (x23 : List Int) => ((D.zbg fu a1 a2 (D.zaY a0 (IntKind.i64.wrap ((IntKind.i64.wrap x8.2) - 1)))).bind (fun (x28 : Int) => (some (Lp.next (x23, x28))))))) else (some (Lp.brk (x8.1, x8.2))))))) fu ([], (D.zag D.zaO x5)) (fun (x30 : List Int × Int) => (some x30.1)))))
theorem zbP {fu : Nat} (w0 : World) (a0 : Plan) {a1g : MG} (a1 : Mem) (a1h : MemAt a1g a1 w0) (a2 : Int) {res : List Int} (hD : D.zcV fu a0 a1 a2 = some res) :
    Calls Tryz.prog 37 #[.agg (zln a0).toArray, zp a1g.mb, .int .i64 a2] w0 (fun e w' => ∃ (v0 : Value), e = .returned v0 ∧ Done No No [rowK 3 1 i64 v0 res] w0 w') := by
 refine enter Tryz.func37 rfl 47 rfl rfl fun fr r => ?_
 have hP : Post No [] w0 w0 := Post.nil w0
 have hP : Post No [memR a1g a1] w0 w0 := hP.addRo zb3 a1h rfl a1h.lt
 unfold D.zcV at hD
 refine wsr ?_
 refine zaa (.cells ((zln a0)).toArray 23 (0, 0)) r (fun R => zlC r (v := (.agg (zln a0).toArray)) rfl) rfl fun fr b1 w2 n3 r => ?_
 have hP : Post No [memR a1g a1, zlm b1 ((zln a0)).toArray 23] w0 w2 := hP.new n3
 refine za0 (Value.slice none 0 0) r (fun R => za6 r rfl) rfl fun fr r => wn (wsr (za0 (Value.slice none 0 0) r (fun R => za6 r rfl) rfl fun fr r => wn (wp_seq ?_)))
 obtain ⟨x5, hx5, hD⟩ := zad hD
 refine zbn [.val (.agg (zlv D.zaO).toArray), .val (zp a1g.mb), .val (I a2), .val (.agg (zln a0).toArray), .val (I (D.zaT a0)), .val (U x5), .val (U (D.zag D.zaO x5)), .val (U (D.zag D.zaO x5))] mixed r (by kernel_rfl) ?_ ?_
 ·
  refine fc r (fun fr1 g w' hb' hd r' => zac r' (args := []) (l0) zms ((zez _ ).mono (by rintro _ w2 ⟨rfl, hb2⟩; exact ⟨_, rfl, hb2, rfl⟩))) ?_
  refine fc r (fun fr1 g w' hb' hd r' => za5 r' rfl bz) ?_
  refine fc r (fun fr1 g w' hb' hd r' => za5 r' rfl bz) ?_
  refine fc r (fun fr1 g w' hb' hd r' => za7 r' (cs := (zln a0)) (n := 6) rfl ((hP.below (dr hb')).cell (i := 1) rfl) ta23 rfl bz) ?_
  refine fc r (fun fr1 g w' hb' hd r' => zac r' (args := [(.agg (zln a0).toArray)]) (lc (hd 3 rfl).1 l0) zm1 ((zcb _ a0).mono (by rintro _ w2 ⟨rfl, hb2⟩; exact ⟨_, rfl, hb2, rfl⟩))) ?_
  refine fc r (fun fr1 g w' hb' hd r' => zac r' (args := [(zp a1g.mb), (I a2), (I (D.zaT a0))]) (lc (hd 1 rfl).1 (lc (hd 2 rfl).1 (lc (hd 4 rfl).1 l0))) cl30 ((zcs _ a1 ((hP.below (dr hb')).memr (i := 0) rfl) a2 (D.zaT a0) hx5).mono (by rintro _ w2 ⟨rfl, hb2⟩; exact ⟨_, rfl, hb2, rfl⟩))) ?_
  refine fc r (fun fr1 g w' hb' hd r' => zac r' (args := [(.agg (zlv D.zaO).toArray), (U x5)]) (lc (hd 0 rfl).1 (lc (hd 5 rfl).1 l0)) zm5 ((zct _ D.zaO x5).mono (by rintro _ w2 ⟨rfl, hb2⟩; exact ⟨_, rfl, hb2, rfl⟩))) ?_
  refine fc r (fun fr1 g w' hb' hd r' => za6 r' (hd 6 rfl).1 bz) ?_
  exact zb1
 ·
  intro fr gg w6 hb hΦ hap r
  have r := r.congr (sc ((hΦ 7 rfl).1) (sc ((hΦ 6 rfl).1) (sc ((hΦ 5 rfl).1) (sc ((hΦ 4 rfl).1) (sc ((hΦ 3 rfl).1) (sc ((hΦ 2 rfl).1) (sc ((hΦ 1 rfl).1) (sc ((hΦ 0 rfl).1) rfl))))))))
  have hP : Post No [memR a1g a1, zlm b1 ((zln a0)).toArray 23] w0 w6 := hP.below hb
  refine wp_seq ?_
  have hP : Post No [memR a1g a1, zlm b1 ((zln a0)).toArray 23, rowK 3 1 i64 (Value.slice none 0 0) ([])] w0 w6 := hP.nilRow 3 1 i64
  refine zcu (X := List Int × Int) (G := Value) (x0 := ([], (D.zag D.zaO x5))) (fun x γ => [(0, (.agg (zln a0).toArray)), (1, (zp a1g.mb)), (2, (I a2)), (3, (zp b1)), (6, (Value.slice none 0 0)), (7, γ), (8, (U x.2))]) (fun x γ w => Post No [memR a1g a1, zlm b1 ((zln a0)).toArray 23, rowK 3 1 i64 γ x.1] w0 w) (Value.slice none 0 0) r (za1 rfl (za1 rfl (za1 rfl (za1 rfl (za1 rfl (za1 rfl (za1 rfl zaz))))))) hP hD ?_ ?_
  ·
   rintro x8 γ9 fr w11 g y10 RPy10 nxy10 bky10 rty10 r hP hD
   have hP : Post No [memR a1g a1, zlm b1 ((zln a0)).toArray 23, rowK 3 1 i64 γ9 x8.1] w0 w11 := hP
   refine wp_seq (wp_seq ?_)
   refine zbo (N := 47) (Y := Bool) (G := Unit) (fun x γ => [(0, (.agg (zln a0).toArray)), (1, (zp a1g.mb)), (2, (I a2)), (3, (zp b1)), (6, (Value.slice none 0 0)), (7, γ9), (8, (U x8.2)), (32, (.bool x))]) (fun x γ w => Post No [memR a1g a1, zlm b1 ((zln a0)).toArray 23, rowK 3 1 i64 γ9 x8.1] w0 w) hD ?_ ?_
   ·
    rintro y12 RPy12 nxy12 hD
    refine wp_region_lit (za0 γ9 r (fun R => za5 r rfl) rfl fun fr r => za0 (I (x8.1.length : Int)) r (fun R => zbj r (hP.row (i := 2) rfl).ro is29 rfl) rfl fun fr r => za0 _ r (fun R => za4 r (o := 0) rfl zec) rfl fun fr r => za0 (I a0.nodes) r (fun R => za2 r rfl (hP.cell (i := 1) rfl) to3 rfl) rfl fun fr r => za0 _ r (fun R => zlt r rfl rfl rfl rfl) rfl fun fr r => za0 (.bool (decide ((x8.1.length : Int) < a0.nodes))) r (fun R => za5 r rfl) rfl fun fr r => ?_)
    refine zay (decide ((x8.1.length : Int) < a0.nodes)) (fun h13 => ?_) (fun h13 => ?_)
    ·
     have hD := (zao h13).symm.trans hD
     refine s1 r h13 (za0 (U x8.2) r (fun R => za5 r rfl) rfl fun fr r => s1 r h13 (za0 _ r (fun R => zlt r rfl rfl rfl rfl) rfl fun fr r => za0 (.bool (decide (x8.2 > 0))) r (fun R => zai r (b := true) (congrArg Value.bool h13) rfl) rfl fun fr r => za0 (.bool (decide (x8.2 > 0))) r (fun R => za5 r rfl) rfl fun fr r => ?_))
     refine zay (decide (x8.2 > 0)) (fun h14 => ?_) (fun h14 => ?_)
     ·
      have hD := (zao h14).symm.trans hD
      refine s1 r h14 (za0 (U x8.2) r (fun R => za5 r rfl) rfl fun fr r => s1 r h14 (za0 _ r (fun R => za4 r (o := 0) rfl zec) rfl fun fr r => s1 r h14 (za0 (I a0.nodes) r (fun R => za2 r rfl (hP.cell (i := 1) rfl) to3 rfl) rfl fun fr r => s1 r h14 (za0 (U (V a0.nodes)) r (fun R => zbf r rfl ti3 ti40) rfl fun fr r => s1 r h14 (za0 _ r (fun R => zlt r rfl rfl rfl rfl) rfl fun fr r => za0 (.bool (decide (x8.2 ≤ (V a0.nodes)))) r (fun R => zai r (b := true) (congrArg Value.bool h14) rfl) rfl fun fr r => wn ?_)))))
      exact nxy12 (decide (x8.2 ≤ (V a0.nodes))) () _ _ _ hD r (za1 rfl (za1 rfl (za1 rfl (za1 rfl (za1 rfl (za1 rfl (za1 rfl (za1 rfl zaz)))))))) (hP.pick [0, 1, 2] rfl rfl)
     ·
      have hD := (zah h14).symm.trans hD
      refine s0 r h14 fun fr r => s0 r h14 fun fr r => s0 r h14 fun fr r => s0 r h14 fun fr r => s0 r h14 fun fr r => za0 (.bool false) r (fun R => zai r (b := false) (congrArg Value.bool h14) rfl) rfl fun fr r => wn ?_
      exact nxy12 false () _ _ _ hD r (za1 rfl (za1 rfl (za1 rfl (za1 rfl (za1 rfl (za1 rfl (za1 rfl (za1 rfl zaz)))))))) (hP.pick [0, 1, 2] rfl rfl)
    ·
     have hD := (zah h13).symm.trans hD
     refine s0 r h13 fun fr r => s0 r h13 fun fr r => za0 (.bool false) r (fun R => zai r (b := false) (congrArg Value.bool h13) rfl) rfl fun fr r => za0 (.bool false) r (fun R => za5 r rfl) rfl fun fr r => s0 r (rfl : false = _) fun fr r => s0 r (rfl : false = _) fun fr r => s0 r (rfl : false = _) fun fr r => s0 r (rfl : false = _) fun fr r => s0 r (rfl : false = _) fun fr r => za0 (.bool false) r (fun R => zai r (b := false) (congrArg Value.bool (rfl : false = _)) rfl) rfl fun fr r => wn ?_
     exact nxy12 false () _ _ _ hD r (za1 rfl (za1 rfl (za1 rfl (za1 rfl (za1 rfl (za1 rfl (za1 rfl (za1 rfl zaz)))))))) (hP.pick [0, 1, 2] rfl rfl)
   ·
    rintro x15 γ16 fr w17 g r hP hD
    have hP : Post No [memR a1g a1, zlm b1 ((zln a0)).toArray 23, rowK 3 1 i64 γ9 x8.1] w0 w17 := hP
    refine wp_cond_split (t := x15) (r.ev rfl) (fun h18 => ?_) (fun h18 => ?_)
    ·
     have hD := (zao h18).symm.trans hD
     refine wp_skip (wp_block (wsr (za0 (U x8.2) r (fun R => za5 r rfl) rfl fun fr r => za0 (I (W x8.2)) r (fun R => zbf r rfl ti40 ti3) rfl fun fr r => za0 _ r (fun R => zlt r rfl rfl rfl rfl) rfl fun fr r => za0 (I (W ((W x8.2) - 1))) r (fun R => za6 r rfl) rfl fun fr r => wn (wsr (za0 γ9 r (fun R => za5 r rfl) rfl fun fr r => za0 (I (W ((W x8.2) - 1))) r (fun R => za5 r rfl) rfl fun fr r => ?_)))))
     refine zch (.cells (([(W ((W x8.2) - 1))]).flatMap i64).toArray 3 (0, 0)) 1 r (fun R => zbz r (by kernel_rfl)) rfl fun fr b19 w20 n21 r => ?_
     have hP : Post No [memR a1g a1, zlm b1 ((zln a0)).toArray 23, rowK 3 1 i64 γ9 x8.1, rowK 3 1 i64 (.slice (some ⟨b19, 0, none⟩) 1 1) ([(W ((W x8.2) - 1))])] w0 w20 := hP.newRow n21 (fun _ => rfl) rfl
     obtain ⟨x23, hx23, hD⟩ := zad hD
     refine zdg 3 1 i64 γ9 r (fun R => zcH r rt29 (fun _ => rfl) (fun _ => rfl) (hP.row (i := 2) rfl) (hP.row (i := 3) rfl).ro hx23 rfl rfl) rfl fun fr v24 w25 ha26 r => ?_
     have hP : Post No [memR a1g a1, zlm b1 ((zln a0)).toArray 23, rowK 3 1 i64 v24 x23, rowK 3 1 i64 (.slice (some ⟨b19, 0, none⟩) 1 1) ([(W ((W x8.2) - 1))])] w0 w25 := hP.append (i := 2) rfl ha26
     refine za0 v24 r (fun R => za6 r rfl) rfl fun fr r => wn ?_
     refine wp_region_lit (za0 (zp a1g.mb) r (fun R => za5 r rfl) rfl fun fr r => za0 (I a2) r (fun R => za5 r rfl) rfl fun fr r => za0 (.agg (zln a0).toArray) r (fun R => za7 r (cs := (zln a0)) (n := 6) rfl (hP.cell (i := 1) rfl) ta23 rfl) rfl fun fr r => za0 (I (W ((W x8.2) - 1))) r (fun R => za5 r rfl) rfl fun fr r => ?_)
     refine za9 r (zcy w25 a0 (W ((W x8.2) - 1))) (fun R hc => zac r rfl zmh hc) rfl ?_
     rintro _ w27 ⟨rfl, hb⟩
     refine ⟨_, rfl, fun fr r => ?_⟩
     have hP : Post No [memR a1g a1, zlm b1 ((zln a0)).toArray 23, rowK 3 1 i64 v24 x23, rowK 3 1 i64 (.slice (some ⟨b19, 0, none⟩) 1 1) ([(W ((W x8.2) - 1))])] w0 w27 := hP.below hb
     obtain ⟨x28, hx28, hD⟩ := zad hD
     refine za9 r (zcs w27 a1 (hP.memr (i := 0) rfl) a2 (D.zaY a0 (W ((W x8.2) - 1))) hx28) (fun R hc => zac r rfl cl30 hc) rfl ?_
     rintro _ w29 ⟨rfl, hb⟩
     refine ⟨_, rfl, fun fr r => ?_⟩
     have hP : Post No [memR a1g a1, zlm b1 ((zln a0)).toArray 23, rowK 3 1 i64 v24 x23, rowK 3 1 i64 (.slice (some ⟨b19, 0, none⟩) 1 1) ([(W ((W x8.2) - 1))])] w0 w29 := hP.below hb
     refine za0 (U x28) r (fun R => za6 r rfl) rfl fun fr r => wn ?_
     exact nxy10 (x23, x28) v24 _ _ _ hD r (za1 rfl (za1 rfl (za1 rfl (za1 rfl (za1 rfl (za1 rfl (za1 rfl zaz))))))) (hP.pick [0, 1, 2] rfl rfl)
    ·
     have hD := (zah h18).symm.trans hD
     refine wp_exit ?_
     exact bky10 (x8.1, x8.2) γ9 _ _ _ hD r (za1 rfl (za1 rfl (za1 rfl (za1 rfl (za1 rfl (za1 rfl (za1 rfl zaz))))))) (hP.pick [0, 1, 2] rfl rfl)
  ·
   rintro x30 γ31 fr w32 g r hP hD
   have hP : Post No [memR a1g a1, zlm b1 ((zln a0)).toArray 23, rowK 3 1 i64 γ31 x30.1] w0 w32 := hP
   refine wsr (za0 γ31 r (fun R => za5 r rfl) rfl fun fr r => za0 γ31 r (fun R => za6 r rfl) rfl fun fr r => wn (wp_ret ?_))
   have hv : x30.1 = res := Option.some.inj hD
   try dsimp only [Exit.then, Exit.inBlock]
   refine zaA (fn := Tryz.f37) r (t := 6) rfl (v := γ31) rfl ?_
   subst hv
   exact ⟨γ31, rfl, (hP.pick [2] rfl rfl).done (zbq rfl zbi)⟩
def D.zb2 (fu : Nat) (a0 : List Int) (a1 : List Int) : Option (Bool) := (bif ((a0.length : Int) != (a1.length : Int)) then (some false) else (loopThen (fun (x2 : Bool × Int) => (bif (decide (x2.2 < (a0.length : Int))) then ((getI a0 x2.2).bind (fun (x7 : Int) => ((getI a1 x2.2).bind (fun (x8 : Int) => (bif (x7 != x8) then (some (Lp.ret false)) else (some (Lp.next (x2.1, (IntKind.i64.wrap (x2.2 + 1)))))))))) else (some (Lp.brk (x2.1, x2.2))))) fu (false, 0) (fun (x11 : Bool × Int) => (some true))))
theorem zaC {fu : Nat} (w0 : World) {a0v : Value} (a0 : List Int) (a0h : RoAt 3 1 i64 a0v a0 w0) {a1v : Value} (a1 : List Int) (a1h : RoAt 3 1 i64 a1v a1 w0) {res : Bool} (hD : D.zb2 fu a0 a1 = some res) :
    Calls Tryz.prog 36 #[a0v, a1v] w0 (zlE (.bool res) w0) := by
 refine enter Tryz.func36 rfl 26 rfl rfl fun fr r => ?_
 have hP : Post No [] w0 w0 := Post.nil w0
 have hP : Post No [roK 3 1 i64 a0v a0] w0 w0 := hP.addRo zb3 a0h rfl a0h.lt
 have hP : Post No [roK 3 1 i64 a0v a0, roK 3 1 i64 a1v a1] w0 w0 := hP.addRo (zaF rfl zb3) a1h rfl a1h.lt
 unfold D.zb2 at hD
 refine wsr (za0 (.bool false) r (fun R => za6 r rfl) rfl fun fr r => wn (wp_seq (wsr (za0 a0v r (fun R => za5 r rfl) rfl fun fr r => za0 (I (a0.length : Int)) r (fun R => zbj r (hP.ro (i := 0) rfl) is29 rfl) rfl fun fr r => za0 a1v r (fun R => za5 r rfl) rfl fun fr r => za0 (I (a1.length : Int)) r (fun R => zbj r (hP.ro (i := 1) rfl) is29 rfl) rfl fun fr r => za0 _ r (fun R => zlt r rfl rfl rfl rfl) rfl fun fr r => wn ?_))))
 refine wp_cond_split (t := ((a0.length : Int) != (a1.length : Int))) (r.ev rfl) (fun h1 => ?_) (fun h1 => ?_)
 ·
  have hD := (zao h1).symm.trans hD
  refine wsr (za0 (.bool false) r (fun R => za6 r rfl) rfl fun fr r => wn (wp_ret ?_))
  have hv : false = res := Option.some.inj hD
  try dsimp only [Exit.then, Exit.inBlock]
  refine zaA (fn := Tryz.f36) r (t := 4) rfl (v := (.bool false)) rfl ?_
  subst hv
  exact ⟨rfl, hP.chg.below⟩
 ·
  have hD := (zah h1).symm.trans hD
  refine wp_skip (wp_seq (wsr (za0 (I 0) r (fun R => za6 r rfl) rfl fun fr r => wn ?_)))
  refine zcu (X := Bool × Int) (G := Unit) (x0 := (false, 0)) (fun x γ => [(0, a0v), (1, a1v), (10, (.bool ((a0.length : Int) != (a1.length : Int)))), (4, (.bool x.1)), (5, (I x.2))]) (fun x γ w => Post No [roK 3 1 i64 a0v a0, roK 3 1 i64 a1v a1] w0 w) () r (za1 rfl (za1 rfl (za1 rfl (za1 rfl (za1 rfl zaz))))) hP hD ?_ ?_
  ·
   rintro x2 γ3 fr w5 g y4 RPy4 nxy4 bky4 rty4 r hP hD
   have hP : Post No [roK 3 1 i64 a0v a0, roK 3 1 i64 a1v a1] w0 w5 := hP
   refine wp_seq (wsr (za0 (I x2.2) r (fun R => za5 r rfl) rfl fun fr r => za0 a0v r (fun R => za5 r rfl) rfl fun fr r => za0 (I (a0.length : Int)) r (fun R => zbj r (hP.ro (i := 0) rfl) is29 rfl) rfl fun fr r => za0 _ r (fun R => zlt r rfl rfl rfl rfl) rfl fun fr r => wn ?_))
   refine wp_cond_split (t := (decide (x2.2 < (a0.length : Int)))) (r.ev rfl) (fun h6 => ?_) (fun h6 => ?_)
   ·
    have hD := (zao h6).symm.trans hD
    refine wp_skip (wp_seq (wp_block (wp_seq ?_)))
    obtain ⟨x7, hx7, hD⟩ := zad hD
    obtain ⟨x8, hx8, hD⟩ := zad hD
    refine zbn [.val a0v, .val (I x2.2), .val (.pointer (some ⟨rowB a0v, rowO a0v + x2.2.toNat * 1, none⟩)), .val (I x7), .val a1v, .val (I x2.2), .val (.pointer (some ⟨rowB a1v, rowO a1v + x2.2.toNat * 1, none⟩)), .val (I x8), .val (.bool (x7 != x8))] mixed r (by kernel_rfl) ?_ ?_
    ·
     refine fc r (fun fr1 g w' hb' hd r' => za5 r' rfl bz) ?_
     refine fc r (fun fr1 g w' hb' hd r' => za5 r' rfl bz) ?_
     refine fc r (fun fr1 g w' hb' hd r' => zbe r' ((hP.below (dr hb')).ro (i := 0) rfl) hx7 sl29 (hd 0 rfl).1 (hd 1 rfl).1 bz) ?_
     refine fc r (fun fr1 g w' hb' hd r' => zba r' (u := (I x7)) (RoAt.at_ (f := i64) (x := x7) ((hP.below (dr hb')).ro (i := 0) rfl) (fun _ => rfl) hx7) (hd 2 rfl).1 to3 bz) ?_
     refine fc r (fun fr1 g w' hb' hd r' => za5 r' rfl bz) ?_
     refine fc r (fun fr1 g w' hb' hd r' => za5 r' rfl bz) ?_
     refine fc r (fun fr1 g w' hb' hd r' => zbe r' ((hP.below (dr hb')).ro (i := 1) rfl) hx8 sl29 (hd 4 rfl).1 (hd 5 rfl).1 bz) ?_
     refine fc r (fun fr1 g w' hb' hd r' => zba r' (u := (I x8)) (RoAt.at_ (f := i64) (x := x8) ((hP.below (dr hb')).ro (i := 1) rfl) (fun _ => rfl) hx8) (hd 6 rfl).1 to3 bz) ?_
     refine fc r (fun fr1 g w' hb' hd r' => zlt r' (hd 3 rfl).1 (hd 7 rfl).1 rfl rfl bz) ?_
     exact zb1
    ·
     intro fr gg w9 hb hΦ hap r
     have r := r.congr (sc ((hΦ 8 rfl).1) (sc ((hΦ 7 rfl).1) (sc ((hΦ 6 rfl).1) (sc ((hΦ 5 rfl).1) (sc ((hΦ 4 rfl).1) (sc ((hΦ 3 rfl).1) (sc ((hΦ 2 rfl).1) (sc ((hΦ 1 rfl).1) (sc ((hΦ 0 rfl).1) rfl)))))))))
     have hP : Post No [roK 3 1 i64 a0v a0, roK 3 1 i64 a1v a1] w0 w9 := hP.below hb
     refine wp_cond_split (t := (x7 != x8)) (r.ev rfl) (fun h10 => ?_) (fun h10 => ?_)
     ·
      have hD := (zao h10).symm.trans hD
      refine wsr (za0 (.bool false) r (fun R => za6 r rfl) rfl fun fr r => wn (wp_ret ?_))
      refine rty4 false _ _ hD fun hD => ?_
      have hv : false = res := Option.some.inj hD
      try dsimp only [Exit.then, Exit.inBlock]
      refine zaA (fn := Tryz.f36) r (t := 4) rfl (v := (.bool false)) rfl ?_
      subst hv
      exact ⟨rfl, hP.chg.below⟩
     ·
      have hD := (zah h10).symm.trans hD
      refine wp_skip ?_
      refine wp_region_lit (za0 (I x2.2) r (fun R => za5 r rfl) rfl fun fr r => za0 _ r (fun R => zlt r rfl rfl rfl rfl) rfl fun fr r => za0 (I (W (x2.2 + 1))) r (fun R => za6 r rfl) rfl fun fr r => wn ?_)
      exact nxy4 (x2.1, (W (x2.2 + 1))) () _ _ _ hD r (za1 rfl (za1 rfl (za1 rfl (za1 rfl (za1 rfl zaz))))) (hP.pick [0, 1] rfl rfl)
   ·
    have hD := (zah h6).symm.trans hD
    refine wp_exit ?_
    exact bky4 (x2.1, x2.2) () _ _ _ hD r (za1 rfl (za1 rfl (za1 rfl (za1 rfl (za1 rfl zaz))))) (hP.pick [0, 1] rfl rfl)
  ·
   rintro x11 γ12 fr w13 g r hP hD
   have hP : Post No [roK 3 1 i64 a0v a0, roK 3 1 i64 a1v a1] w0 w13 := hP
   refine wsr (za0 (.bool true) r (fun R => za6 r rfl) rfl fun fr r => wn (wp_ret ?_))
   have hv : true = res := Option.some.inj hD
   try dsimp only [Exit.then, Exit.inBlock]
   refine zaA (fn := Tryz.f36) r (t := 4) rfl (v := (.bool true)) rfl ?_
   subst hv
   exact ⟨rfl, hP.chg.below⟩
end Go.Proofs.YtfpgnmhcfkikkaaGreat

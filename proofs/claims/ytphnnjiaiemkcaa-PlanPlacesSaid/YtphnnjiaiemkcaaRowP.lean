/- Written by a program of ours (wip/gen.py): the words of a plan, one by one -/
import Derived.Test.YtphnnjiaiemkcaaPlans
import Derived.Test.YtphnnjiaiemkcaaTypes2
set_option linter.unusedVariables false
namespace Go.Proofs.Ytphnnjiaiemkcaa
open Go.RowKit
theorem cl20 : callable Try.prog 20 = true := by kernel_rfl
theorem cl22 : callable Try.prog 22 = true := by kernel_rfl
theorem cl26 : callable Try.prog 26 = true := by kernel_rfl
theorem cl27 : callable Try.prog 27 = true := by kernel_rfl
theorem cl28 : callable Try.prog 28 = true := by kernel_rfl
theorem cl29 : callable Try.prog 29 = true := by kernel_rfl
theorem cl31 : callable Try.prog 31 = true := by kernel_rfl
theorem cl35 : callable Try.prog 35 = true := by kernel_rfl
theorem cl84 : callable Try.prog 84 = true := by kernel_rfl
theorem eg35 : Try.prog.eqGuardType Try.prog.depth 35 = false := by kernel_rfl
theorem eqs35 (x y : WordP) (w : World) : (binOp .eql 35 (.agg (wordPC x).toArray) (.agg (wordPC y).toArray)).run Try.prog w = .ok (.bool (x == y)) w ∧ (binOp .neq 35 (.agg (wordPC x).toArray) (.agg (wordPC y).toArray)).run Try.prog w = .ok (.bool (!(x == y))) w :=
  eq_ints [(.i64, x.sort, y.sort), (.i64, x.a, y.a), (.i64, x.b, y.b)] (by kernel_rfl) (by kernel_rfl) (by kernel_rfl) (by kernel_rfl) (by cases x; cases y; rw [Bool.eq_iff_iff]; simp)
theorem fo35_0 : fieldOff Try.prog 35 0 0 = true := by kernel_rfl
theorem fo35_1 : fieldOff Try.prog 35 1 1 = true := by kernel_rfl
theorem fo35_2 : fieldOff Try.prog 35 2 2 = true := by kernel_rfl
theorem is31 : isSlice Try.prog 31 = true := by kernel_rfl
theorem rt31 : rowTy Try.prog 31 35 3 = true := by kernel_rfl
theorem rt36 : rowTy Try.prog 36 3 1 = true := by kernel_rfl
theorem sl31 : sliceTy Try.prog 31 3 = true := by kernel_rfl
theorem ta35 : tyA Try.prog 35 3 = true := by kernel_rfl

def D.cubicleref06_Words (fu : Nat) (a0 : Plan) : Option (List WordP) := (loopThen (fun (x9 : List WordP × Int) => (bif (decide (x9.2 < a0.domains)) then ((appD x9.1 ([(⟨1, x9.2, 0⟩ : WordP)])).bind (fun (x18 : List WordP) => (loopThen (fun (x22 : List WordP × Int) => (bif (decide (x22.2 < (D.cubicleref06_Cells a0))) then ((appD x22.1 ([(⟨2, x9.2, x22.2⟩ : WordP)])).bind (fun (x32 : List WordP) => (some (Lp.next (x32, (IntKind.i64.wrap (x22.2 + 1))))))) else (some (Lp.brk (x22.1, x22.2))))) fu (x18, 0) (fun (x36 : List WordP × Int) => (some (Lp.next (x36.1, (IntKind.i64.wrap (x9.2 + 1))))))))) else (some (Lp.brk (x9.1, x9.2))))) fu ([(⟨0, 0, 0⟩ : WordP)], 0) (fun (x39 : List WordP × Int) => (loopThen (fun (x42 : List WordP × Int) => (bif (decide (x42.2 < a0.threads)) then (loopThen (fun (x47 : List WordP × Int) => (bif (decide (x47.2 < 3)) then ((appD x47.1 ([(⟨3, x42.2, x47.2⟩ : WordP)])).bind (fun (x56 : List WordP) => (some (Lp.next (x56, (IntKind.i64.wrap (x47.2 + 1))))))) else (some (Lp.brk (x47.1, x47.2))))) fu (x42.1, 0) (fun (x60 : List WordP × Int) => (some (Lp.next (x60.1, (IntKind.i64.wrap (x42.2 + 1))))))) else (some (Lp.brk (x42.1, x42.2))))) fu (x39.1, 0) (fun (x63 : List WordP × Int) => (loopThen (fun (x66 : List WordP × Int) => (bif (decide (x66.2 < a0.threads)) then ((appD x66.1 ([(⟨4, x66.2, 0⟩ : WordP)])).bind (fun (x75 : List WordP) => (loopThen (fun (x79 : List WordP × Int) => (bif (decide (x79.2 < a0.retire)) then ((appD x79.1 ([(⟨5, x66.2, x79.2⟩ : WordP)])).bind (fun (x88 : List WordP) => (some (Lp.next (x88, (IntKind.i64.wrap (x79.2 + 1))))))) else (some (Lp.brk (x79.1, x79.2))))) fu (x75, 0) (fun (x92 : List WordP × Int) => (some (Lp.next (x92.1, (IntKind.i64.wrap (x66.2 + 1))))))))) else (some (Lp.brk (x66.1, x66.2))))) fu (x63.1, 0) (fun (x95 : List WordP × Int) => (loopThen (fun (x98 : List WordP × Int) => (bif (decide (x98.2 < a0.nodes)) then ((appD x98.1 ([(⟨6, x98.2, 0⟩ : WordP), (⟨7, x98.2, 0⟩ : WordP)])).bind (fun (x107 : List WordP) => (loopThen (fun (x111 : List WordP × Int) => (bif (decide (x111.2 < 3)) then ((appD x111.1 ([(⟨8, x98.2, x111.2⟩ : WordP)])).bind (fun (x120 : List WordP) => (some (Lp.next (x120, (IntKind.i64.wrap (x111.2 + 1))))))) else (some (Lp.brk (x111.1, x111.2))))) fu (x107, 0) (fun (x124 : List WordP × Int) => (some (Lp.next (x124.1, (IntKind.i64.wrap (x98.2 + 1))))))))) else (some (Lp.brk (x98.1, x98.2))))) fu (x95.1, 0) (fun (x127 : List WordP × Int) => (some x127.1)))))))))

set_option maxRecDepth 20000 in
set_option maxHeartbeats 2000000 in
theorem c_cubicleref06_Words {fu : Nat} (w0 : World) (a0 : Plan) {res : List WordP} (hD : D.cubicleref06_Words fu a0 = some res) :
    Calls Try.prog 32 #[.agg (planC a0).toArray] w0 (fun e w' => ∃ (v0 : Value), e = .returned v0 ∧ Done No No [rowK 35 3 wordPC v0 res] w0 w') := by
  refine enter (l := [.agg (planC a0).toArray]) Try.func32 rfl 100 rfl rfl fun fr r => ?_
  have hP : Post No [] w0 w0 := Post.nil w0
  unfold D.cubicleref06_Words at hD
  refine wp_seq ?_
  refine wp_region_lit ?_
  refine seq_new (.cells ((planC a0)).toArray 24 (0, 0)) r (fun R => y_box r (v := (.agg (planC a0).toArray)) rfl) rfl fun fr b1 w2 n3 r => ?_
  have hP : Post No [cellC b1 ((planC a0)).toArray 24] w0 w2 := hP.new n3
  refine seq_val (Value.slice none 0 0) r (fun R => y_assign r rfl) rfl fun fr r => ?_
  refine wpList_nil ?_
  refine wp_seq ?_
  refine wp_region_lit ?_
  refine seq_val (.agg (wordPC (⟨0, 0, 0⟩ : WordP)).toArray) r (fun R => y_build r (by kernel_rfl)) rfl fun fr r => ?_
  refine seq_newS (.cells (([(⟨0, 0, 0⟩ : WordP)]).flatMap wordPC).toArray 35 (0, 0)) 1 r (fun R => y_bslice r (by kernel_rfl)) rfl fun fr b5 w6 n7 r => ?_
  have hP : Post No [cellC b1 ((planC a0)).toArray 24, rowK 35 3 wordPC (.slice (some ⟨b5, 0, none⟩) 1 1) ([(⟨0, 0, 0⟩ : WordP)])] w0 w6 := hP.newRow n7 (fun _ => rfl) rfl
  refine seq_val (.slice (some ⟨b5, 0, none⟩) 1 1) r (fun R => y_assign r rfl) rfl fun fr r => ?_
  refine wpList_nil ?_
  refine wp_seq ?_
  refine wp_seq ?_
  refine wp_region_lit ?_
  refine seq_val (.int .i64 0) r (fun R => y_assign r rfl) rfl fun fr r => ?_
  refine wpList_nil ?_
  refine wp_loopG (X := List WordP × Int) (G := Value) (x0 := ([(⟨0, 0, 0⟩ : WordP)], 0)) (fun x γ => [(0, (.agg (planC a0).toArray)), (1, (.pointer (some ⟨b1, 0, none⟩))), (2, (Value.slice none 0 0)), (3, γ), (4, (.int .i64 x.2))]) (fun x γ w => Post No [cellC b1 ((planC a0)).toArray 24, rowK 35 3 wordPC γ x.1] w0 w) (.slice (some ⟨b5, 0, none⟩) 1 1) r (hs_cons rfl (hs_cons rfl (hs_cons rfl (hs_cons rfl (hs_cons rfl hs_nil))))) hP hD ?_ ?_
  · skip
    rintro x9 γ10 fr w12 g y11 RPy11 nxy11 bky11 rty11 r hP hD
    have hP : Post No [cellC b1 ((planC a0)).toArray 24, rowK 35 3 wordPC γ10 x9.1] w0 w12 := hP
    refine wp_seq ?_
    refine wp_seq ?_
    refine wp_region_lit ?_
    refine seq_val (.int .i64 x9.2) r (fun R => y_move r rfl) rfl fun fr r => ?_
    refine seq_val (.pointer (some ⟨b1, 3, none⟩)) r (fun R => y_fieldAddr r (o := 0) rfl fo24_3) rfl fun fr r => ?_
    refine seq_val (.int .i64 a0.domains) r (fun R => y_load_one r (v := (.int .i64 a0.domains)) rfl (hP.cell (i := 0) rfl) to3 rfl) rfl fun fr r => ?_
    refine seq_val (.bool (decide (x9.2 < a0.domains))) r (fun R => y_bin r (u := (.int .i64 x9.2)) (u' := (.int .i64 a0.domains)) rfl rfl rfl rfl) rfl fun fr r => ?_
    refine wpList_nil ?_
    refine wp_cond_split (t := (decide (x9.2 < a0.domains))) (r.ev rfl) (fun h13 => ?_) (fun h13 => ?_)
    · skip
      have hD := (cond_t h13).symm.trans hD
      refine wp_skip ?_
      refine wp_seq ?_
      refine wp_block ?_
      refine wp_seq ?_
      refine wp_region_lit ?_
      refine seq_val γ10 r (fun R => y_move r rfl) rfl fun fr r => ?_
      refine seq_val (.int .i64 x9.2) r (fun R => y_move r rfl) rfl fun fr r => ?_
      refine seq_val (.agg (wordPC (⟨1, x9.2, 0⟩ : WordP)).toArray) r (fun R => y_build r (by kernel_rfl)) rfl fun fr r => ?_
      refine seq_newS (.cells (([(⟨1, x9.2, 0⟩ : WordP)]).flatMap wordPC).toArray 35 (0, 0)) 1 r (fun R => y_bslice r (by kernel_rfl)) rfl fun fr b14 w15 n16 r => ?_
      have hP : Post No [cellC b1 ((planC a0)).toArray 24, rowK 35 3 wordPC γ10 x9.1, rowK 35 3 wordPC (.slice (some ⟨b14, 0, none⟩) 1 1) ([(⟨1, x9.2, 0⟩ : WordP)])] w0 w15 := hP.newRow n16 (fun _ => rfl) rfl
      obtain ⟨x18, hx18, hD⟩ := bindD_elim hD
      refine seq_app 35 3 wordPC γ10 r (fun R => y_append r rt31 (fun _ => rfl) (fun _ => rfl) (hP.row (i := 1) rfl) (hP.row (i := 2) rfl) hx18 rfl rfl) rfl fun fr v19 w20 ha21 r => ?_
      have hP : Post No [cellC b1 ((planC a0)).toArray 24, rowK 35 3 wordPC v19 x18, rowK 35 3 wordPC (.slice (some ⟨b14, 0, none⟩) 1 1) ([(⟨1, x9.2, 0⟩ : WordP)])] w0 w20 := hP.append (i := 1) rfl ha21
      refine seq_val v19 r (fun R => y_assign r rfl) rfl fun fr r => ?_
      refine wpList_nil ?_
      refine wp_seq ?_
      refine wp_region_lit ?_
      refine seq_val (.int .i64 0) r (fun R => y_assign r rfl) rfl fun fr r => ?_
      refine wpList_nil ?_
      have hP : Post No [cellC b1 ((planC a0)).toArray 24, rowK 35 3 wordPC v19 x18] w0 w20 := hP.pick [0, 1] rfl rfl
      refine wp_loopG (X := List WordP × Int) (G := Value) (x0 := (x18, 0)) (fun x γ => [(0, (.agg (planC a0).toArray)), (1, (.pointer (some ⟨b1, 0, none⟩))), (2, (Value.slice none 0 0)), (4, (.int .i64 x9.2)), (17, (.bool (decide (x9.2 < a0.domains)))), (3, γ), (5, (.int .i64 x.2))]) (fun x γ w => Post No [cellC b1 ((planC a0)).toArray 24, rowK 35 3 wordPC γ x.1] w0 w) v19 r (hs_cons rfl (hs_cons rfl (hs_cons rfl (hs_cons rfl (hs_cons rfl (hs_cons rfl (hs_cons rfl hs_nil))))))) hP hD ?_ ?_
      · skip
        rintro x22 γ23 fr w25 g y24 RPy24 nxy24 bky24 rty24 r hP hD
        have hP : Post No [cellC b1 ((planC a0)).toArray 24, rowK 35 3 wordPC γ23 x22.1] w0 w25 := hP
        refine wp_seq ?_
        refine wp_seq ?_
        refine wp_region_lit ?_
        refine seq_val (.int .i64 x22.2) r (fun R => y_move r rfl) rfl fun fr r => ?_
        refine seq_val (.agg (planC a0).toArray) r (fun R => y_load_agg r (cs := (planC a0)) (n := 6) rfl (hP.cell (i := 0) rfl) ta24 rfl) rfl fun fr r => ?_
        refine seq_call r (c_cubicleref06_Cells w25 a0) (fun R hc => y_call r rfl cl35 hc) rfl ?_
        rintro _ w26 ⟨rfl, hb⟩
        refine ⟨_, rfl, fun fr r => ?_⟩
        have hP : Post No [cellC b1 ((planC a0)).toArray 24, rowK 35 3 wordPC γ23 x22.1] w0 w26 := hP.below hb
        refine seq_val (.bool (decide (x22.2 < (D.cubicleref06_Cells a0)))) r (fun R => y_bin r (u := (.int .i64 x22.2)) (u' := (.int .i64 (D.cubicleref06_Cells a0))) rfl rfl rfl rfl) rfl fun fr r => ?_
        refine wpList_nil ?_
        refine wp_cond_split (t := (decide (x22.2 < (D.cubicleref06_Cells a0)))) (r.ev rfl) (fun h27 => ?_) (fun h27 => ?_)
        · skip
          have hD := (cond_t h27).symm.trans hD
          refine wp_skip ?_
          refine wp_seq ?_
          refine wp_block ?_
          refine wp_region_lit ?_
          refine seq_val γ23 r (fun R => y_move r rfl) rfl fun fr r => ?_
          refine seq_val (.int .i64 x9.2) r (fun R => y_move r rfl) rfl fun fr r => ?_
          refine seq_val (.int .i64 x22.2) r (fun R => y_move r rfl) rfl fun fr r => ?_
          refine seq_val (.agg (wordPC (⟨2, x9.2, x22.2⟩ : WordP)).toArray) r (fun R => y_build r (by kernel_rfl)) rfl fun fr r => ?_
          refine seq_newS (.cells (([(⟨2, x9.2, x22.2⟩ : WordP)]).flatMap wordPC).toArray 35 (0, 0)) 1 r (fun R => y_bslice r (by kernel_rfl)) rfl fun fr b28 w29 n30 r => ?_
          have hP : Post No [cellC b1 ((planC a0)).toArray 24, rowK 35 3 wordPC γ23 x22.1, rowK 35 3 wordPC (.slice (some ⟨b28, 0, none⟩) 1 1) ([(⟨2, x9.2, x22.2⟩ : WordP)])] w0 w29 := hP.newRow n30 (fun _ => rfl) rfl
          obtain ⟨x32, hx32, hD⟩ := bindD_elim hD
          refine seq_app 35 3 wordPC γ23 r (fun R => y_append r rt31 (fun _ => rfl) (fun _ => rfl) (hP.row (i := 1) rfl) (hP.row (i := 2) rfl) hx32 rfl rfl) rfl fun fr v33 w34 ha35 r => ?_
          have hP : Post No [cellC b1 ((planC a0)).toArray 24, rowK 35 3 wordPC v33 x32, rowK 35 3 wordPC (.slice (some ⟨b28, 0, none⟩) 1 1) ([(⟨2, x9.2, x22.2⟩ : WordP)])] w0 w34 := hP.append (i := 1) rfl ha35
          refine seq_val v33 r (fun R => y_assign r rfl) rfl fun fr r => ?_
          refine wpList_nil ?_
          refine wp_region_lit ?_
          refine seq_val (.int .i64 x22.2) r (fun R => y_move r rfl) rfl fun fr r => ?_
          refine seq_val (.int .i64 (IntKind.i64.wrap (x22.2 + 1))) r (fun R => y_bin r (u := (.int .i64 x22.2)) (u' := (.int .i64 1)) rfl rfl rfl rfl) rfl fun fr r => ?_
          refine seq_val (.int .i64 (IntKind.i64.wrap (x22.2 + 1))) r (fun R => y_assign r rfl) rfl fun fr r => ?_
          refine wpList_nil ?_
          exact nxy24 (x32, (IntKind.i64.wrap (x22.2 + 1))) v33 _ _ _ hD r (hs_cons rfl (hs_cons rfl (hs_cons rfl (hs_cons rfl (hs_cons rfl (hs_cons rfl (hs_cons rfl hs_nil))))))) (hP.pick [0, 1] rfl rfl)
        · skip
          have hD := (cond_f h27).symm.trans hD
          refine wp_exit ?_
          exact bky24 (x22.1, x22.2) γ23 _ _ _ hD r (hs_cons rfl (hs_cons rfl (hs_cons rfl (hs_cons rfl (hs_cons rfl (hs_cons rfl (hs_cons rfl hs_nil))))))) (hP.pick [0, 1] rfl rfl)
      · skip
        rintro x36 γ37 fr w38 g r hP hD
        have hP : Post No [cellC b1 ((planC a0)).toArray 24, rowK 35 3 wordPC γ37 x36.1] w0 w38 := hP
        refine wp_region_lit ?_
        refine seq_val (.int .i64 x9.2) r (fun R => y_move r rfl) rfl fun fr r => ?_
        refine seq_val (.int .i64 (IntKind.i64.wrap (x9.2 + 1))) r (fun R => y_bin r (u := (.int .i64 x9.2)) (u' := (.int .i64 1)) rfl rfl rfl rfl) rfl fun fr r => ?_
        refine seq_val (.int .i64 (IntKind.i64.wrap (x9.2 + 1))) r (fun R => y_assign r rfl) rfl fun fr r => ?_
        refine wpList_nil ?_
        exact nxy11 (x36.1, (IntKind.i64.wrap (x9.2 + 1))) γ37 _ _ _ hD r (hs_cons rfl (hs_cons rfl (hs_cons rfl (hs_cons rfl (hs_cons rfl hs_nil))))) (hP.pick [0, 1] rfl rfl)
    · skip
      have hD := (cond_f h13).symm.trans hD
      refine wp_exit ?_
      exact bky11 (x9.1, x9.2) γ10 _ _ _ hD r (hs_cons rfl (hs_cons rfl (hs_cons rfl (hs_cons rfl (hs_cons rfl hs_nil))))) (hP.pick [0, 1] rfl rfl)
  · skip
    rintro x39 γ40 fr w41 g r hP hD
    have hP : Post No [cellC b1 ((planC a0)).toArray 24, rowK 35 3 wordPC γ40 x39.1] w0 w41 := hP
    refine wp_seq ?_
    refine wp_seq ?_
    refine wp_region_lit ?_
    refine seq_val (.int .i64 0) r (fun R => y_assign r rfl) rfl fun fr r => ?_
    refine wpList_nil ?_
    refine wp_loopG (X := List WordP × Int) (G := Value) (x0 := (x39.1, 0)) (fun x γ => [(0, (.agg (planC a0).toArray)), (1, (.pointer (some ⟨b1, 0, none⟩))), (2, (Value.slice none 0 0)), (4, (.int .i64 x39.2)), (3, γ), (6, (.int .i64 x.2))]) (fun x γ w => Post No [cellC b1 ((planC a0)).toArray 24, rowK 35 3 wordPC γ x.1] w0 w) γ40 r (hs_cons rfl (hs_cons rfl (hs_cons rfl (hs_cons rfl (hs_cons rfl (hs_cons rfl hs_nil)))))) hP hD ?_ ?_
    · skip
      rintro x42 γ43 fr w45 g y44 RPy44 nxy44 bky44 rty44 r hP hD
      have hP : Post No [cellC b1 ((planC a0)).toArray 24, rowK 35 3 wordPC γ43 x42.1] w0 w45 := hP
      refine wp_seq ?_
      refine wp_seq ?_
      refine wp_region_lit ?_
      refine seq_val (.int .i64 x42.2) r (fun R => y_move r rfl) rfl fun fr r => ?_
      refine seq_val (.pointer (some ⟨b1, 1, none⟩)) r (fun R => y_fieldAddr r (o := 0) rfl fo24_1) rfl fun fr r => ?_
      refine seq_val (.int .i64 a0.threads) r (fun R => y_load_one r (v := (.int .i64 a0.threads)) rfl (hP.cell (i := 0) rfl) to3 rfl) rfl fun fr r => ?_
      refine seq_val (.bool (decide (x42.2 < a0.threads))) r (fun R => y_bin r (u := (.int .i64 x42.2)) (u' := (.int .i64 a0.threads)) rfl rfl rfl rfl) rfl fun fr r => ?_
      refine wpList_nil ?_
      refine wp_cond_split (t := (decide (x42.2 < a0.threads))) (r.ev rfl) (fun h46 => ?_) (fun h46 => ?_)
      · skip
        have hD := (cond_t h46).symm.trans hD
        refine wp_skip ?_
        refine wp_seq ?_
        refine wp_block ?_
        refine wp_seq ?_
        refine wp_region_lit ?_
        refine seq_val (.int .i64 0) r (fun R => y_assign r rfl) rfl fun fr r => ?_
        refine wpList_nil ?_
        refine wp_loopG (X := List WordP × Int) (G := Value) (x0 := (x42.1, 0)) (fun x γ => [(0, (.agg (planC a0).toArray)), (1, (.pointer (some ⟨b1, 0, none⟩))), (2, (Value.slice none 0 0)), (4, (.int .i64 x39.2)), (6, (.int .i64 x42.2)), (40, (.bool (decide (x42.2 < a0.threads)))), (3, γ), (7, (.int .i64 x.2))]) (fun x γ w => Post No [cellC b1 ((planC a0)).toArray 24, rowK 35 3 wordPC γ x.1] w0 w) γ43 r (hs_cons rfl (hs_cons rfl (hs_cons rfl (hs_cons rfl (hs_cons rfl (hs_cons rfl (hs_cons rfl (hs_cons rfl hs_nil)))))))) hP hD ?_ ?_
        · skip
          rintro x47 γ48 fr w50 g y49 RPy49 nxy49 bky49 rty49 r hP hD
          have hP : Post No [cellC b1 ((planC a0)).toArray 24, rowK 35 3 wordPC γ48 x47.1] w0 w50 := hP
          refine wp_seq ?_
          refine wp_seq ?_
          refine wp_region_lit ?_
          refine seq_val (.int .i64 x47.2) r (fun R => y_move r rfl) rfl fun fr r => ?_
          refine seq_val (.bool (decide (x47.2 < 3))) r (fun R => y_bin r (u := (.int .i64 x47.2)) (u' := (.int .i64 3)) rfl rfl rfl rfl) rfl fun fr r => ?_
          refine wpList_nil ?_
          refine wp_cond_split (t := (decide (x47.2 < 3))) (r.ev rfl) (fun h51 => ?_) (fun h51 => ?_)
          · skip
            have hD := (cond_t h51).symm.trans hD
            refine wp_skip ?_
            refine wp_seq ?_
            refine wp_block ?_
            refine wp_region_lit ?_
            refine seq_val γ48 r (fun R => y_move r rfl) rfl fun fr r => ?_
            refine seq_val (.int .i64 x42.2) r (fun R => y_move r rfl) rfl fun fr r => ?_
            refine seq_val (.int .i64 x47.2) r (fun R => y_move r rfl) rfl fun fr r => ?_
            refine seq_val (.agg (wordPC (⟨3, x42.2, x47.2⟩ : WordP)).toArray) r (fun R => y_build r (by kernel_rfl)) rfl fun fr r => ?_
            refine seq_newS (.cells (([(⟨3, x42.2, x47.2⟩ : WordP)]).flatMap wordPC).toArray 35 (0, 0)) 1 r (fun R => y_bslice r (by kernel_rfl)) rfl fun fr b52 w53 n54 r => ?_
            have hP : Post No [cellC b1 ((planC a0)).toArray 24, rowK 35 3 wordPC γ48 x47.1, rowK 35 3 wordPC (.slice (some ⟨b52, 0, none⟩) 1 1) ([(⟨3, x42.2, x47.2⟩ : WordP)])] w0 w53 := hP.newRow n54 (fun _ => rfl) rfl
            obtain ⟨x56, hx56, hD⟩ := bindD_elim hD
            refine seq_app 35 3 wordPC γ48 r (fun R => y_append r rt31 (fun _ => rfl) (fun _ => rfl) (hP.row (i := 1) rfl) (hP.row (i := 2) rfl) hx56 rfl rfl) rfl fun fr v57 w58 ha59 r => ?_
            have hP : Post No [cellC b1 ((planC a0)).toArray 24, rowK 35 3 wordPC v57 x56, rowK 35 3 wordPC (.slice (some ⟨b52, 0, none⟩) 1 1) ([(⟨3, x42.2, x47.2⟩ : WordP)])] w0 w58 := hP.append (i := 1) rfl ha59
            refine seq_val v57 r (fun R => y_assign r rfl) rfl fun fr r => ?_
            refine wpList_nil ?_
            refine wp_region_lit ?_
            refine seq_val (.int .i64 x47.2) r (fun R => y_move r rfl) rfl fun fr r => ?_
            refine seq_val (.int .i64 (IntKind.i64.wrap (x47.2 + 1))) r (fun R => y_bin r (u := (.int .i64 x47.2)) (u' := (.int .i64 1)) rfl rfl rfl rfl) rfl fun fr r => ?_
            refine seq_val (.int .i64 (IntKind.i64.wrap (x47.2 + 1))) r (fun R => y_assign r rfl) rfl fun fr r => ?_
            refine wpList_nil ?_
            exact nxy49 (x56, (IntKind.i64.wrap (x47.2 + 1))) v57 _ _ _ hD r (hs_cons rfl (hs_cons rfl (hs_cons rfl (hs_cons rfl (hs_cons rfl (hs_cons rfl (hs_cons rfl (hs_cons rfl hs_nil)))))))) (hP.pick [0, 1] rfl rfl)
          · skip
            have hD := (cond_f h51).symm.trans hD
            refine wp_exit ?_
            exact bky49 (x47.1, x47.2) γ48 _ _ _ hD r (hs_cons rfl (hs_cons rfl (hs_cons rfl (hs_cons rfl (hs_cons rfl (hs_cons rfl (hs_cons rfl (hs_cons rfl hs_nil)))))))) (hP.pick [0, 1] rfl rfl)
        · skip
          rintro x60 γ61 fr w62 g r hP hD
          have hP : Post No [cellC b1 ((planC a0)).toArray 24, rowK 35 3 wordPC γ61 x60.1] w0 w62 := hP
          refine wp_region_lit ?_
          refine seq_val (.int .i64 x42.2) r (fun R => y_move r rfl) rfl fun fr r => ?_
          refine seq_val (.int .i64 (IntKind.i64.wrap (x42.2 + 1))) r (fun R => y_bin r (u := (.int .i64 x42.2)) (u' := (.int .i64 1)) rfl rfl rfl rfl) rfl fun fr r => ?_
          refine seq_val (.int .i64 (IntKind.i64.wrap (x42.2 + 1))) r (fun R => y_assign r rfl) rfl fun fr r => ?_
          refine wpList_nil ?_
          exact nxy44 (x60.1, (IntKind.i64.wrap (x42.2 + 1))) γ61 _ _ _ hD r (hs_cons rfl (hs_cons rfl (hs_cons rfl (hs_cons rfl (hs_cons rfl (hs_cons rfl hs_nil)))))) (hP.pick [0, 1] rfl rfl)
      · skip
        have hD := (cond_f h46).symm.trans hD
        refine wp_exit ?_
        exact bky44 (x42.1, x42.2) γ43 _ _ _ hD r (hs_cons rfl (hs_cons rfl (hs_cons rfl (hs_cons rfl (hs_cons rfl (hs_cons rfl hs_nil)))))) (hP.pick [0, 1] rfl rfl)
    · skip
      rintro x63 γ64 fr w65 g r hP hD
      have hP : Post No [cellC b1 ((planC a0)).toArray 24, rowK 35 3 wordPC γ64 x63.1] w0 w65 := hP
      refine wp_seq ?_
      refine wp_seq ?_
      refine wp_region_lit ?_
      refine seq_val (.int .i64 0) r (fun R => y_assign r rfl) rfl fun fr r => ?_
      refine wpList_nil ?_
      refine wp_loopG (X := List WordP × Int) (G := Value) (x0 := (x63.1, 0)) (fun x γ => [(0, (.agg (planC a0).toArray)), (1, (.pointer (some ⟨b1, 0, none⟩))), (2, (Value.slice none 0 0)), (4, (.int .i64 x39.2)), (6, (.int .i64 x63.2)), (3, γ), (8, (.int .i64 x.2))]) (fun x γ w => Post No [cellC b1 ((planC a0)).toArray 24, rowK 35 3 wordPC γ x.1] w0 w) γ64 r (hs_cons rfl (hs_cons rfl (hs_cons rfl (hs_cons rfl (hs_cons rfl (hs_cons rfl (hs_cons rfl hs_nil))))))) hP hD ?_ ?_
      · skip
        rintro x66 γ67 fr w69 g y68 RPy68 nxy68 bky68 rty68 r hP hD
        have hP : Post No [cellC b1 ((planC a0)).toArray 24, rowK 35 3 wordPC γ67 x66.1] w0 w69 := hP
        refine wp_seq ?_
        refine wp_seq ?_
        refine wp_region_lit ?_
        refine seq_val (.int .i64 x66.2) r (fun R => y_move r rfl) rfl fun fr r => ?_
        refine seq_val (.pointer (some ⟨b1, 1, none⟩)) r (fun R => y_fieldAddr r (o := 0) rfl fo24_1) rfl fun fr r => ?_
        refine seq_val (.int .i64 a0.threads) r (fun R => y_load_one r (v := (.int .i64 a0.threads)) rfl (hP.cell (i := 0) rfl) to3 rfl) rfl fun fr r => ?_
        refine seq_val (.bool (decide (x66.2 < a0.threads))) r (fun R => y_bin r (u := (.int .i64 x66.2)) (u' := (.int .i64 a0.threads)) rfl rfl rfl rfl) rfl fun fr r => ?_
        refine wpList_nil ?_
        refine wp_cond_split (t := (decide (x66.2 < a0.threads))) (r.ev rfl) (fun h70 => ?_) (fun h70 => ?_)
        · skip
          have hD := (cond_t h70).symm.trans hD
          refine wp_skip ?_
          refine wp_seq ?_
          refine wp_block ?_
          refine wp_seq ?_
          refine wp_region_lit ?_
          refine seq_val γ67 r (fun R => y_move r rfl) rfl fun fr r => ?_
          refine seq_val (.int .i64 x66.2) r (fun R => y_move r rfl) rfl fun fr r => ?_
          refine seq_val (.agg (wordPC (⟨4, x66.2, 0⟩ : WordP)).toArray) r (fun R => y_build r (by kernel_rfl)) rfl fun fr r => ?_
          refine seq_newS (.cells (([(⟨4, x66.2, 0⟩ : WordP)]).flatMap wordPC).toArray 35 (0, 0)) 1 r (fun R => y_bslice r (by kernel_rfl)) rfl fun fr b71 w72 n73 r => ?_
          have hP : Post No [cellC b1 ((planC a0)).toArray 24, rowK 35 3 wordPC γ67 x66.1, rowK 35 3 wordPC (.slice (some ⟨b71, 0, none⟩) 1 1) ([(⟨4, x66.2, 0⟩ : WordP)])] w0 w72 := hP.newRow n73 (fun _ => rfl) rfl
          obtain ⟨x75, hx75, hD⟩ := bindD_elim hD
          refine seq_app 35 3 wordPC γ67 r (fun R => y_append r rt31 (fun _ => rfl) (fun _ => rfl) (hP.row (i := 1) rfl) (hP.row (i := 2) rfl) hx75 rfl rfl) rfl fun fr v76 w77 ha78 r => ?_
          have hP : Post No [cellC b1 ((planC a0)).toArray 24, rowK 35 3 wordPC v76 x75, rowK 35 3 wordPC (.slice (some ⟨b71, 0, none⟩) 1 1) ([(⟨4, x66.2, 0⟩ : WordP)])] w0 w77 := hP.append (i := 1) rfl ha78
          refine seq_val v76 r (fun R => y_assign r rfl) rfl fun fr r => ?_
          refine wpList_nil ?_
          refine wp_seq ?_
          refine wp_region_lit ?_
          refine seq_val (.int .i64 0) r (fun R => y_assign r rfl) rfl fun fr r => ?_
          refine wpList_nil ?_
          have hP : Post No [cellC b1 ((planC a0)).toArray 24, rowK 35 3 wordPC v76 x75] w0 w77 := hP.pick [0, 1] rfl rfl
          refine wp_loopG (X := List WordP × Int) (G := Value) (x0 := (x75, 0)) (fun x γ => [(0, (.agg (planC a0).toArray)), (1, (.pointer (some ⟨b1, 0, none⟩))), (2, (Value.slice none 0 0)), (4, (.int .i64 x39.2)), (6, (.int .i64 x63.2)), (8, (.int .i64 x66.2)), (56, (.bool (decide (x66.2 < a0.threads)))), (3, γ), (9, (.int .i64 x.2))]) (fun x γ w => Post No [cellC b1 ((planC a0)).toArray 24, rowK 35 3 wordPC γ x.1] w0 w) v76 r (hs_cons rfl (hs_cons rfl (hs_cons rfl (hs_cons rfl (hs_cons rfl (hs_cons rfl (hs_cons rfl (hs_cons rfl (hs_cons rfl hs_nil))))))))) hP hD ?_ ?_
          · skip
            rintro x79 γ80 fr w82 g y81 RPy81 nxy81 bky81 rty81 r hP hD
            have hP : Post No [cellC b1 ((planC a0)).toArray 24, rowK 35 3 wordPC γ80 x79.1] w0 w82 := hP
            refine wp_seq ?_
            refine wp_seq ?_
            refine wp_region_lit ?_
            refine seq_val (.int .i64 x79.2) r (fun R => y_move r rfl) rfl fun fr r => ?_
            refine seq_val (.pointer (some ⟨b1, 2, none⟩)) r (fun R => y_fieldAddr r (o := 0) rfl fo24_2) rfl fun fr r => ?_
            refine seq_val (.int .i64 a0.retire) r (fun R => y_load_one r (v := (.int .i64 a0.retire)) rfl (hP.cell (i := 0) rfl) to3 rfl) rfl fun fr r => ?_
            refine seq_val (.bool (decide (x79.2 < a0.retire))) r (fun R => y_bin r (u := (.int .i64 x79.2)) (u' := (.int .i64 a0.retire)) rfl rfl rfl rfl) rfl fun fr r => ?_
            refine wpList_nil ?_
            refine wp_cond_split (t := (decide (x79.2 < a0.retire))) (r.ev rfl) (fun h83 => ?_) (fun h83 => ?_)
            · skip
              have hD := (cond_t h83).symm.trans hD
              refine wp_skip ?_
              refine wp_seq ?_
              refine wp_block ?_
              refine wp_region_lit ?_
              refine seq_val γ80 r (fun R => y_move r rfl) rfl fun fr r => ?_
              refine seq_val (.int .i64 x66.2) r (fun R => y_move r rfl) rfl fun fr r => ?_
              refine seq_val (.int .i64 x79.2) r (fun R => y_move r rfl) rfl fun fr r => ?_
              refine seq_val (.agg (wordPC (⟨5, x66.2, x79.2⟩ : WordP)).toArray) r (fun R => y_build r (by kernel_rfl)) rfl fun fr r => ?_
              refine seq_newS (.cells (([(⟨5, x66.2, x79.2⟩ : WordP)]).flatMap wordPC).toArray 35 (0, 0)) 1 r (fun R => y_bslice r (by kernel_rfl)) rfl fun fr b84 w85 n86 r => ?_
              have hP : Post No [cellC b1 ((planC a0)).toArray 24, rowK 35 3 wordPC γ80 x79.1, rowK 35 3 wordPC (.slice (some ⟨b84, 0, none⟩) 1 1) ([(⟨5, x66.2, x79.2⟩ : WordP)])] w0 w85 := hP.newRow n86 (fun _ => rfl) rfl
              obtain ⟨x88, hx88, hD⟩ := bindD_elim hD
              refine seq_app 35 3 wordPC γ80 r (fun R => y_append r rt31 (fun _ => rfl) (fun _ => rfl) (hP.row (i := 1) rfl) (hP.row (i := 2) rfl) hx88 rfl rfl) rfl fun fr v89 w90 ha91 r => ?_
              have hP : Post No [cellC b1 ((planC a0)).toArray 24, rowK 35 3 wordPC v89 x88, rowK 35 3 wordPC (.slice (some ⟨b84, 0, none⟩) 1 1) ([(⟨5, x66.2, x79.2⟩ : WordP)])] w0 w90 := hP.append (i := 1) rfl ha91
              refine seq_val v89 r (fun R => y_assign r rfl) rfl fun fr r => ?_
              refine wpList_nil ?_
              refine wp_region_lit ?_
              refine seq_val (.int .i64 x79.2) r (fun R => y_move r rfl) rfl fun fr r => ?_
              refine seq_val (.int .i64 (IntKind.i64.wrap (x79.2 + 1))) r (fun R => y_bin r (u := (.int .i64 x79.2)) (u' := (.int .i64 1)) rfl rfl rfl rfl) rfl fun fr r => ?_
              refine seq_val (.int .i64 (IntKind.i64.wrap (x79.2 + 1))) r (fun R => y_assign r rfl) rfl fun fr r => ?_
              refine wpList_nil ?_
              exact nxy81 (x88, (IntKind.i64.wrap (x79.2 + 1))) v89 _ _ _ hD r (hs_cons rfl (hs_cons rfl (hs_cons rfl (hs_cons rfl (hs_cons rfl (hs_cons rfl (hs_cons rfl (hs_cons rfl (hs_cons rfl hs_nil))))))))) (hP.pick [0, 1] rfl rfl)
            · skip
              have hD := (cond_f h83).symm.trans hD
              refine wp_exit ?_
              exact bky81 (x79.1, x79.2) γ80 _ _ _ hD r (hs_cons rfl (hs_cons rfl (hs_cons rfl (hs_cons rfl (hs_cons rfl (hs_cons rfl (hs_cons rfl (hs_cons rfl (hs_cons rfl hs_nil))))))))) (hP.pick [0, 1] rfl rfl)
          · skip
            rintro x92 γ93 fr w94 g r hP hD
            have hP : Post No [cellC b1 ((planC a0)).toArray 24, rowK 35 3 wordPC γ93 x92.1] w0 w94 := hP
            refine wp_region_lit ?_
            refine seq_val (.int .i64 x66.2) r (fun R => y_move r rfl) rfl fun fr r => ?_
            refine seq_val (.int .i64 (IntKind.i64.wrap (x66.2 + 1))) r (fun R => y_bin r (u := (.int .i64 x66.2)) (u' := (.int .i64 1)) rfl rfl rfl rfl) rfl fun fr r => ?_
            refine seq_val (.int .i64 (IntKind.i64.wrap (x66.2 + 1))) r (fun R => y_assign r rfl) rfl fun fr r => ?_
            refine wpList_nil ?_
            exact nxy68 (x92.1, (IntKind.i64.wrap (x66.2 + 1))) γ93 _ _ _ hD r (hs_cons rfl (hs_cons rfl (hs_cons rfl (hs_cons rfl (hs_cons rfl (hs_cons rfl (hs_cons rfl hs_nil))))))) (hP.pick [0, 1] rfl rfl)
        · skip
          have hD := (cond_f h70).symm.trans hD
          refine wp_exit ?_
          exact bky68 (x66.1, x66.2) γ67 _ _ _ hD r (hs_cons rfl (hs_cons rfl (hs_cons rfl (hs_cons rfl (hs_cons rfl (hs_cons rfl (hs_cons rfl hs_nil))))))) (hP.pick [0, 1] rfl rfl)
      · skip
        rintro x95 γ96 fr w97 g r hP hD
        have hP : Post No [cellC b1 ((planC a0)).toArray 24, rowK 35 3 wordPC γ96 x95.1] w0 w97 := hP
        refine wp_seq ?_
        refine wp_seq ?_
        refine wp_region_lit ?_
        refine seq_val (.int .i64 0) r (fun R => y_assign r rfl) rfl fun fr r => ?_
        refine wpList_nil ?_
        refine wp_loopG (X := List WordP × Int) (G := Value) (x0 := (x95.1, 0)) (fun x γ => [(0, (.agg (planC a0).toArray)), (1, (.pointer (some ⟨b1, 0, none⟩))), (2, (Value.slice none 0 0)), (4, (.int .i64 x39.2)), (6, (.int .i64 x63.2)), (8, (.int .i64 x95.2)), (3, γ), (10, (.int .i64 x.2))]) (fun x γ w => Post No [cellC b1 ((planC a0)).toArray 24, rowK 35 3 wordPC γ x.1] w0 w) γ96 r (hs_cons rfl (hs_cons rfl (hs_cons rfl (hs_cons rfl (hs_cons rfl (hs_cons rfl (hs_cons rfl (hs_cons rfl hs_nil)))))))) hP hD ?_ ?_
        · skip
          rintro x98 γ99 fr w101 g y100 RPy100 nxy100 bky100 rty100 r hP hD
          have hP : Post No [cellC b1 ((planC a0)).toArray 24, rowK 35 3 wordPC γ99 x98.1] w0 w101 := hP
          refine wp_seq ?_
          refine wp_seq ?_
          refine wp_region_lit ?_
          refine seq_val (.int .i64 x98.2) r (fun R => y_move r rfl) rfl fun fr r => ?_
          refine seq_val (.pointer (some ⟨b1, 0, none⟩)) r (fun R => y_fieldAddr r (o := 0) rfl fo24_0) rfl fun fr r => ?_
          refine seq_val (.int .i64 a0.nodes) r (fun R => y_load_one r (v := (.int .i64 a0.nodes)) rfl (hP.cell (i := 0) rfl) to3 rfl) rfl fun fr r => ?_
          refine seq_val (.bool (decide (x98.2 < a0.nodes))) r (fun R => y_bin r (u := (.int .i64 x98.2)) (u' := (.int .i64 a0.nodes)) rfl rfl rfl rfl) rfl fun fr r => ?_
          refine wpList_nil ?_
          refine wp_cond_split (t := (decide (x98.2 < a0.nodes))) (r.ev rfl) (fun h102 => ?_) (fun h102 => ?_)
          · skip
            have hD := (cond_t h102).symm.trans hD
            refine wp_skip ?_
            refine wp_seq ?_
            refine wp_block ?_
            refine wp_seq ?_
            refine wp_region_lit ?_
            refine seq_val γ99 r (fun R => y_move r rfl) rfl fun fr r => ?_
            refine seq_val (.int .i64 x98.2) r (fun R => y_move r rfl) rfl fun fr r => ?_
            refine seq_val (.agg (wordPC (⟨6, x98.2, 0⟩ : WordP)).toArray) r (fun R => y_build r (by kernel_rfl)) rfl fun fr r => ?_
            refine seq_val (.int .i64 x98.2) r (fun R => y_move r rfl) rfl fun fr r => ?_
            refine seq_val (.agg (wordPC (⟨7, x98.2, 0⟩ : WordP)).toArray) r (fun R => y_build r (by kernel_rfl)) rfl fun fr r => ?_
            refine seq_newS (.cells (([(⟨6, x98.2, 0⟩ : WordP), (⟨7, x98.2, 0⟩ : WordP)]).flatMap wordPC).toArray 35 (0, 0)) 2 r (fun R => y_bslice r (by kernel_rfl)) rfl fun fr b103 w104 n105 r => ?_
            have hP : Post No [cellC b1 ((planC a0)).toArray 24, rowK 35 3 wordPC γ99 x98.1, rowK 35 3 wordPC (.slice (some ⟨b103, 0, none⟩) 2 2) ([(⟨6, x98.2, 0⟩ : WordP), (⟨7, x98.2, 0⟩ : WordP)])] w0 w104 := hP.newRow n105 (fun _ => rfl) rfl
            obtain ⟨x107, hx107, hD⟩ := bindD_elim hD
            refine seq_app 35 3 wordPC γ99 r (fun R => y_append r rt31 (fun _ => rfl) (fun _ => rfl) (hP.row (i := 1) rfl) (hP.row (i := 2) rfl) hx107 rfl rfl) rfl fun fr v108 w109 ha110 r => ?_
            have hP : Post No [cellC b1 ((planC a0)).toArray 24, rowK 35 3 wordPC v108 x107, rowK 35 3 wordPC (.slice (some ⟨b103, 0, none⟩) 2 2) ([(⟨6, x98.2, 0⟩ : WordP), (⟨7, x98.2, 0⟩ : WordP)])] w0 w109 := hP.append (i := 1) rfl ha110
            refine seq_val v108 r (fun R => y_assign r rfl) rfl fun fr r => ?_
            refine wpList_nil ?_
            refine wp_seq ?_
            refine wp_region_lit ?_
            refine seq_val (.int .i64 0) r (fun R => y_assign r rfl) rfl fun fr r => ?_
            refine wpList_nil ?_
            have hP : Post No [cellC b1 ((planC a0)).toArray 24, rowK 35 3 wordPC v108 x107] w0 w109 := hP.pick [0, 1] rfl rfl
            refine wp_loopG (X := List WordP × Int) (G := Value) (x0 := (x107, 0)) (fun x γ => [(0, (.agg (planC a0).toArray)), (1, (.pointer (some ⟨b1, 0, none⟩))), (2, (Value.slice none 0 0)), (4, (.int .i64 x39.2)), (6, (.int .i64 x63.2)), (8, (.int .i64 x95.2)), (10, (.int .i64 x98.2)), (79, (.bool (decide (x98.2 < a0.nodes)))), (3, γ), (11, (.int .i64 x.2))]) (fun x γ w => Post No [cellC b1 ((planC a0)).toArray 24, rowK 35 3 wordPC γ x.1] w0 w) v108 r (hs_cons rfl (hs_cons rfl (hs_cons rfl (hs_cons rfl (hs_cons rfl (hs_cons rfl (hs_cons rfl (hs_cons rfl (hs_cons rfl (hs_cons rfl hs_nil)))))))))) hP hD ?_ ?_
            · skip
              rintro x111 γ112 fr w114 g y113 RPy113 nxy113 bky113 rty113 r hP hD
              have hP : Post No [cellC b1 ((planC a0)).toArray 24, rowK 35 3 wordPC γ112 x111.1] w0 w114 := hP
              refine wp_seq ?_
              refine wp_seq ?_
              refine wp_region_lit ?_
              refine seq_val (.int .i64 x111.2) r (fun R => y_move r rfl) rfl fun fr r => ?_
              refine seq_val (.bool (decide (x111.2 < 3))) r (fun R => y_bin r (u := (.int .i64 x111.2)) (u' := (.int .i64 3)) rfl rfl rfl rfl) rfl fun fr r => ?_
              refine wpList_nil ?_
              refine wp_cond_split (t := (decide (x111.2 < 3))) (r.ev rfl) (fun h115 => ?_) (fun h115 => ?_)
              · skip
                have hD := (cond_t h115).symm.trans hD
                refine wp_skip ?_
                refine wp_seq ?_
                refine wp_block ?_
                refine wp_region_lit ?_
                refine seq_val γ112 r (fun R => y_move r rfl) rfl fun fr r => ?_
                refine seq_val (.int .i64 x98.2) r (fun R => y_move r rfl) rfl fun fr r => ?_
                refine seq_val (.int .i64 x111.2) r (fun R => y_move r rfl) rfl fun fr r => ?_
                refine seq_val (.agg (wordPC (⟨8, x98.2, x111.2⟩ : WordP)).toArray) r (fun R => y_build r (by kernel_rfl)) rfl fun fr r => ?_
                refine seq_newS (.cells (([(⟨8, x98.2, x111.2⟩ : WordP)]).flatMap wordPC).toArray 35 (0, 0)) 1 r (fun R => y_bslice r (by kernel_rfl)) rfl fun fr b116 w117 n118 r => ?_
                have hP : Post No [cellC b1 ((planC a0)).toArray 24, rowK 35 3 wordPC γ112 x111.1, rowK 35 3 wordPC (.slice (some ⟨b116, 0, none⟩) 1 1) ([(⟨8, x98.2, x111.2⟩ : WordP)])] w0 w117 := hP.newRow n118 (fun _ => rfl) rfl
                obtain ⟨x120, hx120, hD⟩ := bindD_elim hD
                refine seq_app 35 3 wordPC γ112 r (fun R => y_append r rt31 (fun _ => rfl) (fun _ => rfl) (hP.row (i := 1) rfl) (hP.row (i := 2) rfl) hx120 rfl rfl) rfl fun fr v121 w122 ha123 r => ?_
                have hP : Post No [cellC b1 ((planC a0)).toArray 24, rowK 35 3 wordPC v121 x120, rowK 35 3 wordPC (.slice (some ⟨b116, 0, none⟩) 1 1) ([(⟨8, x98.2, x111.2⟩ : WordP)])] w0 w122 := hP.append (i := 1) rfl ha123
                refine seq_val v121 r (fun R => y_assign r rfl) rfl fun fr r => ?_
                refine wpList_nil ?_
                refine wp_region_lit ?_
                refine seq_val (.int .i64 x111.2) r (fun R => y_move r rfl) rfl fun fr r => ?_
                refine seq_val (.int .i64 (IntKind.i64.wrap (x111.2 + 1))) r (fun R => y_bin r (u := (.int .i64 x111.2)) (u' := (.int .i64 1)) rfl rfl rfl rfl) rfl fun fr r => ?_
                refine seq_val (.int .i64 (IntKind.i64.wrap (x111.2 + 1))) r (fun R => y_assign r rfl) rfl fun fr r => ?_
                refine wpList_nil ?_
                exact nxy113 (x120, (IntKind.i64.wrap (x111.2 + 1))) v121 _ _ _ hD r (hs_cons rfl (hs_cons rfl (hs_cons rfl (hs_cons rfl (hs_cons rfl (hs_cons rfl (hs_cons rfl (hs_cons rfl (hs_cons rfl (hs_cons rfl hs_nil)))))))))) (hP.pick [0, 1] rfl rfl)
              · skip
                have hD := (cond_f h115).symm.trans hD
                refine wp_exit ?_
                exact bky113 (x111.1, x111.2) γ112 _ _ _ hD r (hs_cons rfl (hs_cons rfl (hs_cons rfl (hs_cons rfl (hs_cons rfl (hs_cons rfl (hs_cons rfl (hs_cons rfl (hs_cons rfl (hs_cons rfl hs_nil)))))))))) (hP.pick [0, 1] rfl rfl)
            · skip
              rintro x124 γ125 fr w126 g r hP hD
              have hP : Post No [cellC b1 ((planC a0)).toArray 24, rowK 35 3 wordPC γ125 x124.1] w0 w126 := hP
              refine wp_region_lit ?_
              refine seq_val (.int .i64 x98.2) r (fun R => y_move r rfl) rfl fun fr r => ?_
              refine seq_val (.int .i64 (IntKind.i64.wrap (x98.2 + 1))) r (fun R => y_bin r (u := (.int .i64 x98.2)) (u' := (.int .i64 1)) rfl rfl rfl rfl) rfl fun fr r => ?_
              refine seq_val (.int .i64 (IntKind.i64.wrap (x98.2 + 1))) r (fun R => y_assign r rfl) rfl fun fr r => ?_
              refine wpList_nil ?_
              exact nxy100 (x124.1, (IntKind.i64.wrap (x98.2 + 1))) γ125 _ _ _ hD r (hs_cons rfl (hs_cons rfl (hs_cons rfl (hs_cons rfl (hs_cons rfl (hs_cons rfl (hs_cons rfl (hs_cons rfl hs_nil)))))))) (hP.pick [0, 1] rfl rfl)
          · skip
            have hD := (cond_f h102).symm.trans hD
            refine wp_exit ?_
            exact bky100 (x98.1, x98.2) γ99 _ _ _ hD r (hs_cons rfl (hs_cons rfl (hs_cons rfl (hs_cons rfl (hs_cons rfl (hs_cons rfl (hs_cons rfl (hs_cons rfl hs_nil)))))))) (hP.pick [0, 1] rfl rfl)
        · skip
          rintro x127 γ128 fr w129 g r hP hD
          have hP : Post No [cellC b1 ((planC a0)).toArray 24, rowK 35 3 wordPC γ128 x127.1] w0 w129 := hP
          refine wp_seq ?_
          refine wp_region_lit ?_
          refine seq_val γ128 r (fun R => y_move r rfl) rfl fun fr r => ?_
          refine seq_val γ128 r (fun R => y_assign r rfl) rfl fun fr r => ?_
          refine wpList_nil ?_
          refine wp_ret ?_
          have hv : x127.1 = res := Option.some.inj hD
          try dsimp only [Exit.then, Exit.inBlock]
          refine ret_tmp (fn := Try.f32) r (t := 2) rfl (v := γ128) rfl ?_
          subst hv
          exact ⟨γ128, rfl, (hP.pick [1] rfl rfl).done (rest_cons rfl rest_nil)⟩

def D.cubiclelaw06_told (a0 : Plan) (a1 : WordP) : Int := (bif (a1.sort == 0) then (D.plan_Plan_Head a0) else (bif (a1.sort == 1) then (D.plan_Plan_Kind a0 a1.a) else (bif (a1.sort == 2) then (D.plan_Plan_Cell a0 a1.a a1.b) else (bif (a1.sort == 3) then (D.plan_Plan_Hazard a0 a1.a a1.b) else (bif (a1.sort == 4) then (D.plan_Plan_Count a0 a1.a) else (bif (a1.sort == 5) then (D.plan_Plan_Retired a0 a1.a a1.b) else (bif (a1.sort == 6) then (D.plan_Plan_State a0 a1.a) else (bif (a1.sort == 7) then (D.plan_Plan_Next a0 a1.a) else (D.plan_Plan_Field a0 a1.a a1.b)))))))))

set_option maxRecDepth 20000 in
set_option maxHeartbeats 1000000 in
theorem c_cubiclelaw06_told (w0 : World) 
    (a0 : Plan) (a1 : WordP) :
    Calls Try.prog 33 #[.agg (planC a0).toArray, .agg (wordPC a1).toArray] w0 (PureRes (.int .i64 (D.cubiclelaw06_told a0 a1)) w0) := by
  refine enter (l := [.agg (planC a0).toArray, .agg (wordPC a1).toArray]) Try.func33 rfl 65 rfl rfl fun fr r => ?_
  have hB := Below.refl w0.heap.size w0
  refine wp_seq ?_
  refine wp_region_lit ?_
  refine seq_new (.cells ((planC a0)).toArray 24 (0, 0)) r (fun R => y_box r (v := (.agg (planC a0).toArray)) rfl) rfl fun fr b1 w2 n3 r => ?_
  have e_b1 := n3.eq
  have z_w2 := n3.size
  have h_b1 := n3.at_
  have hB := hB.trans (n3.below.mono hB.size)
  have zB := hB.size
  refine seq_new (.cells ((wordPC a1)).toArray 35 (0, 0)) r (fun R => y_box r (v := (.agg (wordPC a1).toArray)) rfl) rfl fun fr b4 w5 n6 r => ?_
  have h_b1 := keep n6.below h_b1
  have e_b4 := n6.eq
  have z_w5 := n6.size
  have h_b4 := n6.at_
  have hB := hB.trans (n6.below.mono hB.size)
  have zB := hB.size
  refine seq_val (.int .i64 0) r (fun R => y_assign r rfl) rfl fun fr r => ?_
  refine wpList_nil ?_
  refine wp_seq ?_
  refine wp_seq ?_
  refine wp_region_lit ?_
  refine seq_val (.pointer (some ⟨b4, 0, none⟩)) r (fun R => y_fieldAddr r (o := 0) rfl fo35_0) rfl fun fr r => ?_
  refine seq_val (.int .i64 a1.sort) r (fun R => y_load_one r (v := (.int .i64 a1.sort)) rfl h_b4 to3 rfl) rfl fun fr r => ?_
  refine wpList_nil ?_
  refine wp_block ?_
  refine wp_seq ?_
  refine wp_region_lit ?_
  refine seq_val (.bool (a1.sort == 0)) r (fun R => y_bin r (u := (.int .i64 a1.sort)) (u' := (.int .i64 0)) rfl rfl rfl rfl) rfl fun fr r => ?_
  refine seq_val (.bool (a1.sort == 0)) r (fun R => y_assign r rfl) rfl fun fr r => ?_
  refine wpList_nil ?_
  refine wp_cond_split (t := (a1.sort == 0)) (r.ev rfl) (fun h7 => ?_) (fun h7 => ?_)
  · skip
    refine wp_seq ?_
    refine wp_region_lit ?_
    refine seq_val (.agg (planC a0).toArray) r (fun R => y_load_agg r (cs := (planC a0)) (n := 6) rfl h_b1 ta24 rfl) rfl fun fr r => ?_
    refine seq_call r (c_plan_Plan_Head w5 a0) (fun R hc => y_call r rfl cl22 hc) rfl ?_
    rintro _ w8 ⟨rfl, hb⟩
    refine ⟨_, rfl, fun fr r => ?_⟩
    have z_w8 := hb.size
    have h_b1 := keep hb h_b1
    have h_b4 := keep hb h_b4
    have hB := hB.trans (hb.mono hB.size)
    have zB := hB.size
    refine seq_val (.int .i64 (D.plan_Plan_Head a0)) r (fun R => y_assign r rfl) rfl fun fr r => ?_
    refine wpList_nil ?_
    refine wp_ret ?_
    have hd : D.cubiclelaw06_told a0 a1 = (D.plan_Plan_Head a0) := (cond_t h7).trans (rfl)
    refine ret_tmp r rfl (v := (.int .i64 (D.plan_Plan_Head a0))) rfl ?_
    rw [hd]
    exact ⟨rfl, hB⟩
  · skip
    refine wp_seq ?_
    refine wp_region_lit ?_
    refine seq_val (.bool (a1.sort == 1)) r (fun R => y_bin r (u := (.int .i64 a1.sort)) (u' := (.int .i64 1)) rfl rfl rfl rfl) rfl fun fr r => ?_
    refine seq_val (.bool (a1.sort == 1)) r (fun R => y_assign r rfl) rfl fun fr r => ?_
    refine wpList_nil ?_
    refine wp_cond_split (t := (a1.sort == 1)) (r.ev rfl) (fun h9 => ?_) (fun h9 => ?_)
    · skip
      refine wp_seq ?_
      refine wp_region_lit ?_
      refine seq_val (.agg (planC a0).toArray) r (fun R => y_load_agg r (cs := (planC a0)) (n := 6) rfl h_b1 ta24 rfl) rfl fun fr r => ?_
      refine seq_val (.pointer (some ⟨b4, 1, none⟩)) r (fun R => y_fieldAddr r (o := 0) rfl fo35_1) rfl fun fr r => ?_
      refine seq_val (.int .i64 a1.a) r (fun R => y_load_one r (v := (.int .i64 a1.a)) rfl h_b4 to3 rfl) rfl fun fr r => ?_
      refine seq_call r (c_plan_Plan_Kind w5 a0 a1.a) (fun R hc => y_call r rfl cl31 hc) rfl ?_
      rintro _ w10 ⟨rfl, hb⟩
      refine ⟨_, rfl, fun fr r => ?_⟩
      have z_w10 := hb.size
      have h_b1 := keep hb h_b1
      have h_b4 := keep hb h_b4
      have hB := hB.trans (hb.mono hB.size)
      have zB := hB.size
      refine seq_val (.int .i64 (D.plan_Plan_Kind a0 a1.a)) r (fun R => y_assign r rfl) rfl fun fr r => ?_
      refine wpList_nil ?_
      refine wp_ret ?_
      have hd : D.cubiclelaw06_told a0 a1 = (D.plan_Plan_Kind a0 a1.a) := (cond_f h7).trans ((cond_t h9).trans (rfl))
      refine ret_tmp r rfl (v := (.int .i64 (D.plan_Plan_Kind a0 a1.a))) rfl ?_
      rw [hd]
      exact ⟨rfl, hB⟩
    · skip
      refine wp_seq ?_
      refine wp_region_lit ?_
      refine seq_val (.bool (a1.sort == 2)) r (fun R => y_bin r (u := (.int .i64 a1.sort)) (u' := (.int .i64 2)) rfl rfl rfl rfl) rfl fun fr r => ?_
      refine seq_val (.bool (a1.sort == 2)) r (fun R => y_assign r rfl) rfl fun fr r => ?_
      refine wpList_nil ?_
      refine wp_cond_split (t := (a1.sort == 2)) (r.ev rfl) (fun h11 => ?_) (fun h11 => ?_)
      · skip
        refine wp_seq ?_
        refine wp_region_lit ?_
        refine seq_val (.agg (planC a0).toArray) r (fun R => y_load_agg r (cs := (planC a0)) (n := 6) rfl h_b1 ta24 rfl) rfl fun fr r => ?_
        refine seq_val (.pointer (some ⟨b4, 1, none⟩)) r (fun R => y_fieldAddr r (o := 0) rfl fo35_1) rfl fun fr r => ?_
        refine seq_val (.int .i64 a1.a) r (fun R => y_load_one r (v := (.int .i64 a1.a)) rfl h_b4 to3 rfl) rfl fun fr r => ?_
        refine seq_val (.pointer (some ⟨b4, 2, none⟩)) r (fun R => y_fieldAddr r (o := 0) rfl fo35_2) rfl fun fr r => ?_
        refine seq_val (.int .i64 a1.b) r (fun R => y_load_one r (v := (.int .i64 a1.b)) rfl h_b4 to3 rfl) rfl fun fr r => ?_
        refine seq_call r (c_plan_Plan_Cell w5 a0 a1.a a1.b) (fun R hc => y_call r rfl cl84 hc) rfl ?_
        rintro _ w12 ⟨rfl, hb⟩
        refine ⟨_, rfl, fun fr r => ?_⟩
        have z_w12 := hb.size
        have h_b1 := keep hb h_b1
        have h_b4 := keep hb h_b4
        have hB := hB.trans (hb.mono hB.size)
        have zB := hB.size
        refine seq_val (.int .i64 (D.plan_Plan_Cell a0 a1.a a1.b)) r (fun R => y_assign r rfl) rfl fun fr r => ?_
        refine wpList_nil ?_
        refine wp_ret ?_
        have hd : D.cubiclelaw06_told a0 a1 = (D.plan_Plan_Cell a0 a1.a a1.b) := (cond_f h7).trans ((cond_f h9).trans ((cond_t h11).trans (rfl)))
        refine ret_tmp r rfl (v := (.int .i64 (D.plan_Plan_Cell a0 a1.a a1.b))) rfl ?_
        rw [hd]
        exact ⟨rfl, hB⟩
      · skip
        refine wp_seq ?_
        refine wp_region_lit ?_
        refine seq_val (.bool (a1.sort == 3)) r (fun R => y_bin r (u := (.int .i64 a1.sort)) (u' := (.int .i64 3)) rfl rfl rfl rfl) rfl fun fr r => ?_
        refine seq_val (.bool (a1.sort == 3)) r (fun R => y_assign r rfl) rfl fun fr r => ?_
        refine wpList_nil ?_
        refine wp_cond_split (t := (a1.sort == 3)) (r.ev rfl) (fun h13 => ?_) (fun h13 => ?_)
        · skip
          refine wp_seq ?_
          refine wp_region_lit ?_
          refine seq_val (.agg (planC a0).toArray) r (fun R => y_load_agg r (cs := (planC a0)) (n := 6) rfl h_b1 ta24 rfl) rfl fun fr r => ?_
          refine seq_val (.pointer (some ⟨b4, 1, none⟩)) r (fun R => y_fieldAddr r (o := 0) rfl fo35_1) rfl fun fr r => ?_
          refine seq_val (.int .i64 a1.a) r (fun R => y_load_one r (v := (.int .i64 a1.a)) rfl h_b4 to3 rfl) rfl fun fr r => ?_
          refine seq_val (.pointer (some ⟨b4, 2, none⟩)) r (fun R => y_fieldAddr r (o := 0) rfl fo35_2) rfl fun fr r => ?_
          refine seq_val (.int .i64 a1.b) r (fun R => y_load_one r (v := (.int .i64 a1.b)) rfl h_b4 to3 rfl) rfl fun fr r => ?_
          refine seq_call r (c_plan_Plan_Hazard w5 a0 a1.a a1.b) (fun R hc => y_call r rfl cl27 hc) rfl ?_
          rintro _ w14 ⟨rfl, hb⟩
          refine ⟨_, rfl, fun fr r => ?_⟩
          have z_w14 := hb.size
          have h_b1 := keep hb h_b1
          have h_b4 := keep hb h_b4
          have hB := hB.trans (hb.mono hB.size)
          have zB := hB.size
          refine seq_val (.int .i64 (D.plan_Plan_Hazard a0 a1.a a1.b)) r (fun R => y_assign r rfl) rfl fun fr r => ?_
          refine wpList_nil ?_
          refine wp_ret ?_
          have hd : D.cubiclelaw06_told a0 a1 = (D.plan_Plan_Hazard a0 a1.a a1.b) := (cond_f h7).trans ((cond_f h9).trans ((cond_f h11).trans ((cond_t h13).trans (rfl))))
          refine ret_tmp r rfl (v := (.int .i64 (D.plan_Plan_Hazard a0 a1.a a1.b))) rfl ?_
          rw [hd]
          exact ⟨rfl, hB⟩
        · skip
          refine wp_seq ?_
          refine wp_region_lit ?_
          refine seq_val (.bool (a1.sort == 4)) r (fun R => y_bin r (u := (.int .i64 a1.sort)) (u' := (.int .i64 4)) rfl rfl rfl rfl) rfl fun fr r => ?_
          refine seq_val (.bool (a1.sort == 4)) r (fun R => y_assign r rfl) rfl fun fr r => ?_
          refine wpList_nil ?_
          refine wp_cond_split (t := (a1.sort == 4)) (r.ev rfl) (fun h15 => ?_) (fun h15 => ?_)
          · skip
            refine wp_seq ?_
            refine wp_region_lit ?_
            refine seq_val (.agg (planC a0).toArray) r (fun R => y_load_agg r (cs := (planC a0)) (n := 6) rfl h_b1 ta24 rfl) rfl fun fr r => ?_
            refine seq_val (.pointer (some ⟨b4, 1, none⟩)) r (fun R => y_fieldAddr r (o := 0) rfl fo35_1) rfl fun fr r => ?_
            refine seq_val (.int .i64 a1.a) r (fun R => y_load_one r (v := (.int .i64 a1.a)) rfl h_b4 to3 rfl) rfl fun fr r => ?_
            refine seq_call r (c_plan_Plan_Count w5 a0 a1.a) (fun R hc => y_call r rfl cl29 hc) rfl ?_
            rintro _ w16 ⟨rfl, hb⟩
            refine ⟨_, rfl, fun fr r => ?_⟩
            have z_w16 := hb.size
            have h_b1 := keep hb h_b1
            have h_b4 := keep hb h_b4
            have hB := hB.trans (hb.mono hB.size)
            have zB := hB.size
            refine seq_val (.int .i64 (D.plan_Plan_Count a0 a1.a)) r (fun R => y_assign r rfl) rfl fun fr r => ?_
            refine wpList_nil ?_
            refine wp_ret ?_
            have hd : D.cubiclelaw06_told a0 a1 = (D.plan_Plan_Count a0 a1.a) := (cond_f h7).trans ((cond_f h9).trans ((cond_f h11).trans ((cond_f h13).trans ((cond_t h15).trans (rfl)))))
            refine ret_tmp r rfl (v := (.int .i64 (D.plan_Plan_Count a0 a1.a))) rfl ?_
            rw [hd]
            exact ⟨rfl, hB⟩
          · skip
            refine wp_seq ?_
            refine wp_region_lit ?_
            refine seq_val (.bool (a1.sort == 5)) r (fun R => y_bin r (u := (.int .i64 a1.sort)) (u' := (.int .i64 5)) rfl rfl rfl rfl) rfl fun fr r => ?_
            refine seq_val (.bool (a1.sort == 5)) r (fun R => y_assign r rfl) rfl fun fr r => ?_
            refine wpList_nil ?_
            refine wp_cond_split (t := (a1.sort == 5)) (r.ev rfl) (fun h17 => ?_) (fun h17 => ?_)
            · skip
              refine wp_seq ?_
              refine wp_region_lit ?_
              refine seq_val (.agg (planC a0).toArray) r (fun R => y_load_agg r (cs := (planC a0)) (n := 6) rfl h_b1 ta24 rfl) rfl fun fr r => ?_
              refine seq_val (.pointer (some ⟨b4, 1, none⟩)) r (fun R => y_fieldAddr r (o := 0) rfl fo35_1) rfl fun fr r => ?_
              refine seq_val (.int .i64 a1.a) r (fun R => y_load_one r (v := (.int .i64 a1.a)) rfl h_b4 to3 rfl) rfl fun fr r => ?_
              refine seq_val (.pointer (some ⟨b4, 2, none⟩)) r (fun R => y_fieldAddr r (o := 0) rfl fo35_2) rfl fun fr r => ?_
              refine seq_val (.int .i64 a1.b) r (fun R => y_load_one r (v := (.int .i64 a1.b)) rfl h_b4 to3 rfl) rfl fun fr r => ?_
              refine seq_call r (c_plan_Plan_Retired w5 a0 a1.a a1.b) (fun R hc => y_call r rfl cl28 hc) rfl ?_
              rintro _ w18 ⟨rfl, hb⟩
              refine ⟨_, rfl, fun fr r => ?_⟩
              have z_w18 := hb.size
              have h_b1 := keep hb h_b1
              have h_b4 := keep hb h_b4
              have hB := hB.trans (hb.mono hB.size)
              have zB := hB.size
              refine seq_val (.int .i64 (D.plan_Plan_Retired a0 a1.a a1.b)) r (fun R => y_assign r rfl) rfl fun fr r => ?_
              refine wpList_nil ?_
              refine wp_ret ?_
              have hd : D.cubiclelaw06_told a0 a1 = (D.plan_Plan_Retired a0 a1.a a1.b) := (cond_f h7).trans ((cond_f h9).trans ((cond_f h11).trans ((cond_f h13).trans ((cond_f h15).trans ((cond_t h17).trans (rfl))))))
              refine ret_tmp r rfl (v := (.int .i64 (D.plan_Plan_Retired a0 a1.a a1.b))) rfl ?_
              rw [hd]
              exact ⟨rfl, hB⟩
            · skip
              refine wp_seq ?_
              refine wp_region_lit ?_
              refine seq_val (.bool (a1.sort == 6)) r (fun R => y_bin r (u := (.int .i64 a1.sort)) (u' := (.int .i64 6)) rfl rfl rfl rfl) rfl fun fr r => ?_
              refine seq_val (.bool (a1.sort == 6)) r (fun R => y_assign r rfl) rfl fun fr r => ?_
              refine wpList_nil ?_
              refine wp_cond_split (t := (a1.sort == 6)) (r.ev rfl) (fun h19 => ?_) (fun h19 => ?_)
              · skip
                refine wp_seq ?_
                refine wp_region_lit ?_
                refine seq_val (.agg (planC a0).toArray) r (fun R => y_load_agg r (cs := (planC a0)) (n := 6) rfl h_b1 ta24 rfl) rfl fun fr r => ?_
                refine seq_val (.pointer (some ⟨b4, 1, none⟩)) r (fun R => y_fieldAddr r (o := 0) rfl fo35_1) rfl fun fr r => ?_
                refine seq_val (.int .i64 a1.a) r (fun R => y_load_one r (v := (.int .i64 a1.a)) rfl h_b4 to3 rfl) rfl fun fr r => ?_
                refine seq_call r (c_plan_Plan_State w5 a0 a1.a) (fun R hc => y_call r rfl cl25 hc) rfl ?_
                rintro _ w20 ⟨rfl, hb⟩
                refine ⟨_, rfl, fun fr r => ?_⟩
                have z_w20 := hb.size
                have h_b1 := keep hb h_b1
                have h_b4 := keep hb h_b4
                have hB := hB.trans (hb.mono hB.size)
                have zB := hB.size
                refine seq_val (.int .i64 (D.plan_Plan_State a0 a1.a)) r (fun R => y_assign r rfl) rfl fun fr r => ?_
                refine wpList_nil ?_
                refine wp_ret ?_
                have hd : D.cubiclelaw06_told a0 a1 = (D.plan_Plan_State a0 a1.a) := (cond_f h7).trans ((cond_f h9).trans ((cond_f h11).trans ((cond_f h13).trans ((cond_f h15).trans ((cond_f h17).trans ((cond_t h19).trans (rfl)))))))
                refine ret_tmp r rfl (v := (.int .i64 (D.plan_Plan_State a0 a1.a))) rfl ?_
                rw [hd]
                exact ⟨rfl, hB⟩
              · skip
                refine wp_seq ?_
                refine wp_region_lit ?_
                refine seq_val (.bool (a1.sort == 7)) r (fun R => y_bin r (u := (.int .i64 a1.sort)) (u' := (.int .i64 7)) rfl rfl rfl rfl) rfl fun fr r => ?_
                refine seq_val (.bool (a1.sort == 7)) r (fun R => y_assign r rfl) rfl fun fr r => ?_
                refine wpList_nil ?_
                refine wp_cond_split (t := (a1.sort == 7)) (r.ev rfl) (fun h21 => ?_) (fun h21 => ?_)
                · skip
                  refine wp_seq ?_
                  refine wp_region_lit ?_
                  refine seq_val (.agg (planC a0).toArray) r (fun R => y_load_agg r (cs := (planC a0)) (n := 6) rfl h_b1 ta24 rfl) rfl fun fr r => ?_
                  refine seq_val (.pointer (some ⟨b4, 1, none⟩)) r (fun R => y_fieldAddr r (o := 0) rfl fo35_1) rfl fun fr r => ?_
                  refine seq_val (.int .i64 a1.a) r (fun R => y_load_one r (v := (.int .i64 a1.a)) rfl h_b4 to3 rfl) rfl fun fr r => ?_
                  refine seq_call r (c_plan_Plan_Next w5 a0 a1.a) (fun R hc => y_call r rfl cl26 hc) rfl ?_
                  rintro _ w22 ⟨rfl, hb⟩
                  refine ⟨_, rfl, fun fr r => ?_⟩
                  have z_w22 := hb.size
                  have h_b1 := keep hb h_b1
                  have h_b4 := keep hb h_b4
                  have hB := hB.trans (hb.mono hB.size)
                  have zB := hB.size
                  refine seq_val (.int .i64 (D.plan_Plan_Next a0 a1.a)) r (fun R => y_assign r rfl) rfl fun fr r => ?_
                  refine wpList_nil ?_
                  refine wp_ret ?_
                  have hd : D.cubiclelaw06_told a0 a1 = (D.plan_Plan_Next a0 a1.a) := (cond_f h7).trans ((cond_f h9).trans ((cond_f h11).trans ((cond_f h13).trans ((cond_f h15).trans ((cond_f h17).trans ((cond_f h19).trans ((cond_t h21).trans (rfl))))))))
                  refine ret_tmp r rfl (v := (.int .i64 (D.plan_Plan_Next a0 a1.a))) rfl ?_
                  rw [hd]
                  exact ⟨rfl, hB⟩
                · skip
                  refine wp_skip ?_
                  refine wp_seq ?_
                  refine wp_region_lit ?_
                  refine seq_val (.agg (planC a0).toArray) r (fun R => y_load_agg r (cs := (planC a0)) (n := 6) rfl h_b1 ta24 rfl) rfl fun fr r => ?_
                  refine seq_val (.pointer (some ⟨b4, 1, none⟩)) r (fun R => y_fieldAddr r (o := 0) rfl fo35_1) rfl fun fr r => ?_
                  refine seq_val (.int .i64 a1.a) r (fun R => y_load_one r (v := (.int .i64 a1.a)) rfl h_b4 to3 rfl) rfl fun fr r => ?_
                  refine seq_val (.pointer (some ⟨b4, 2, none⟩)) r (fun R => y_fieldAddr r (o := 0) rfl fo35_2) rfl fun fr r => ?_
                  refine seq_val (.int .i64 a1.b) r (fun R => y_load_one r (v := (.int .i64 a1.b)) rfl h_b4 to3 rfl) rfl fun fr r => ?_
                  refine seq_call r (c_plan_Plan_Field w5 a0 a1.a a1.b) (fun R hc => y_call r rfl cl20 hc) rfl ?_
                  rintro _ w23 ⟨rfl, hb⟩
                  refine ⟨_, rfl, fun fr r => ?_⟩
                  have z_w23 := hb.size
                  have h_b1 := keep hb h_b1
                  have h_b4 := keep hb h_b4
                  have hB := hB.trans (hb.mono hB.size)
                  have zB := hB.size
                  refine seq_val (.int .i64 (D.plan_Plan_Field a0 a1.a a1.b)) r (fun R => y_assign r rfl) rfl fun fr r => ?_
                  refine wpList_nil ?_
                  refine wp_ret ?_
                  have hd : D.cubiclelaw06_told a0 a1 = (D.plan_Plan_Field a0 a1.a a1.b) := (cond_f h7).trans ((cond_f h9).trans ((cond_f h11).trans ((cond_f h13).trans ((cond_f h15).trans ((cond_f h17).trans ((cond_f h19).trans ((cond_f h21).trans (rfl))))))))
                  refine ret_tmp r rfl (v := (.int .i64 (D.plan_Plan_Field a0 a1.a a1.b))) rfl ?_
                  rw [hd]
                  exact ⟨rfl, hB⟩

def D.plan_Plan_Words (fu : Nat) (a0 : Plan) (a1 : Int) : Option (List Int) := (bif ((D.plan_Plan_State a0 a1) == (-1)) then (some ([])) else (loopThen (fun (x9 : List Int × Int) => (bif (decide (x9.2 < 3)) then ((appD x9.1 ([(D.plan_Plan_Field a0 a1 x9.2)])).bind (fun (x19 : List Int) => (some (Lp.next (x19, (IntKind.i64.wrap (x9.2 + 1))))))) else (some (Lp.brk (x9.1, x9.2))))) fu ([], 0) (fun (x23 : List Int × Int) => (some x23.1))))

set_option maxRecDepth 20000 in
set_option maxHeartbeats 2000000 in
theorem c_plan_Plan_Words {fu : Nat} (w0 : World) (a0 : Plan) (a1 : Int) {res : List Int} (hD : D.plan_Plan_Words fu a0 a1 = some res) :
    Calls Try.prog 34 #[.agg (planC a0).toArray, .int .i64 a1] w0 (fun e w' => ∃ (v0 : Value), e = .returned v0 ∧ Done No No [rowK 3 1 i64 v0 res] w0 w') := by
  refine enter (l := [.agg (planC a0).toArray, .int .i64 a1]) Try.func34 rfl 23 rfl rfl fun fr r => ?_
  have hP : Post No [] w0 w0 := Post.nil w0
  unfold D.plan_Plan_Words at hD
  refine wp_seq ?_
  refine wp_region_lit ?_
  refine seq_new (.cells ((planC a0)).toArray 24 (0, 0)) r (fun R => y_box r (v := (.agg (planC a0).toArray)) rfl) rfl fun fr b1 w2 n3 r => ?_
  have hP : Post No [cellC b1 ((planC a0)).toArray 24] w0 w2 := hP.new n3
  refine seq_val (Value.slice none 0 0) r (fun R => y_assign r rfl) rfl fun fr r => ?_
  refine wpList_nil ?_
  refine wp_seq ?_
  refine wp_seq ?_
  refine wp_region_lit ?_
  refine seq_val (.agg (planC a0).toArray) r (fun R => y_load_agg r (cs := (planC a0)) (n := 6) rfl (hP.cell (i := 0) rfl) ta24 rfl) rfl fun fr r => ?_
  refine seq_val (.int .i64 a1) r (fun R => y_move r rfl) rfl fun fr r => ?_
  refine seq_call r (c_plan_Plan_State w2 a0 a1) (fun R hc => y_call r rfl cl25 hc) rfl ?_
  rintro _ w5 ⟨rfl, hb⟩
  refine ⟨_, rfl, fun fr r => ?_⟩
  have hP : Post No [cellC b1 ((planC a0)).toArray 24] w0 w5 := hP.below hb
  refine seq_val (.bool ((D.plan_Plan_State a0 a1) == (-1))) r (fun R => y_bin r (u := (.int .i64 (D.plan_Plan_State a0 a1))) (u' := (.int .i64 (-1))) rfl rfl rfl rfl) rfl fun fr r => ?_
  refine wpList_nil ?_
  refine wp_cond_split (t := ((D.plan_Plan_State a0 a1) == (-1))) (r.ev rfl) (fun h6 => ?_) (fun h6 => ?_)
  · skip
    have hD := (cond_t h6).symm.trans hD
    refine wp_seq ?_
    refine wp_region_lit ?_
    refine seq_val (Value.slice none 0 0) r (fun R => y_assign r rfl) rfl fun fr r => ?_
    refine wpList_nil ?_
    refine wp_ret ?_
    have hP : Post No [cellC b1 ((planC a0)).toArray 24, rowK 3 1 i64 (Value.slice none 0 0) ([])] w0 w5 := hP.nilRow 3 1 i64
    have hv : [] = res := Option.some.inj hD
    try dsimp only [Exit.then, Exit.inBlock]
    refine ret_tmp (fn := Try.f34) r (t := 4) rfl (v := (Value.slice none 0 0)) rfl ?_
    subst hv
    exact ⟨(Value.slice none 0 0), rfl, (hP.pick [1] rfl rfl).done (rest_cons rfl rest_nil)⟩
  · skip
    have hD := (cond_f h6).symm.trans hD
    refine wp_skip ?_
    refine wp_seq ?_
    refine wp_region_lit ?_
    refine seq_val (Value.slice none 0 0) r (fun R => y_assign r rfl) rfl fun fr r => ?_
    refine wpList_nil ?_
    refine wp_seq ?_
    refine wp_seq ?_
    refine wp_region_lit ?_
    refine seq_val (.int .i64 0) r (fun R => y_move r rfl) rfl fun fr r => ?_
    refine wpList_nil ?_
    have hP : Post No [cellC b1 ((planC a0)).toArray 24, rowK 3 1 i64 (Value.slice none 0 0) ([])] w0 w5 := hP.nilRow 3 1 i64
    refine wp_loopG (X := List Int × Int) (G := Value) (x0 := ([], 0)) (fun x γ => [(0, (.agg (planC a0).toArray)), (1, (.int .i64 a1)), (2, (.pointer (some ⟨b1, 0, none⟩))), (4, (Value.slice none 0 0)), (10, (.bool ((D.plan_Plan_State a0 a1) == (-1)))), (5, γ), (11, (.int .i64 x.2))]) (fun x γ w => Post No [cellC b1 ((planC a0)).toArray 24, rowK 3 1 i64 γ x.1] w0 w) (Value.slice none 0 0) r (hs_cons rfl (hs_cons rfl (hs_cons rfl (hs_cons rfl (hs_cons rfl (hs_cons rfl (hs_cons rfl hs_nil))))))) hP hD ?_ ?_
    · skip
      rintro x9 γ10 fr w12 g y11 RPy11 nxy11 bky11 rty11 r hP hD
      have hP : Post No [cellC b1 ((planC a0)).toArray 24, rowK 3 1 i64 γ10 x9.1] w0 w12 := hP
      refine wp_seq ?_
      refine wp_region_lit ?_
      refine seq_val (.bool (decide (x9.2 < 3))) r (fun R => y_bin r (u := (.int .i64 x9.2)) (u' := (.int .i64 3)) rfl rfl rfl rfl) rfl fun fr r => ?_
      refine wpList_nil ?_
      refine wp_seq ?_
      refine wp_cond_split (t := (decide (x9.2 < 3))) (r.ev rfl) (fun h13 => ?_) (fun h13 => ?_)
      · skip
        have hD := (cond_t h13).symm.trans hD
        refine wp_skip ?_
        refine wp_seq ?_
        refine wp_block ?_
        refine wp_seq ?_
        refine wp_region_lit ?_
        refine seq_val (.int .i64 x9.2) r (fun R => y_move r rfl) rfl fun fr r => ?_
        refine seq_val (.int .i64 x9.2) r (fun R => y_assign r rfl) rfl fun fr r => ?_
        refine wpList_nil ?_
        refine wp_region_lit ?_
        refine seq_val γ10 r (fun R => y_move r rfl) rfl fun fr r => ?_
        refine seq_val (.agg (planC a0).toArray) r (fun R => y_load_agg r (cs := (planC a0)) (n := 6) rfl (hP.cell (i := 0) rfl) ta24 rfl) rfl fun fr r => ?_
        refine seq_val (.int .i64 a1) r (fun R => y_move r rfl) rfl fun fr r => ?_
        refine seq_val (.int .i64 x9.2) r (fun R => y_move r rfl) rfl fun fr r => ?_
        refine seq_call r (c_plan_Plan_Field w12 a0 a1 x9.2) (fun R hc => y_call r rfl cl20 hc) rfl ?_
        rintro _ w14 ⟨rfl, hb⟩
        refine ⟨_, rfl, fun fr r => ?_⟩
        have hP : Post No [cellC b1 ((planC a0)).toArray 24, rowK 3 1 i64 γ10 x9.1] w0 w14 := hP.below hb
        refine seq_newS (.cells (([(D.plan_Plan_Field a0 a1 x9.2)]).flatMap i64).toArray 3 (0, 0)) 1 r (fun R => y_bslice r (by kernel_rfl)) rfl fun fr b15 w16 n17 r => ?_
        have hP : Post No [cellC b1 ((planC a0)).toArray 24, rowK 3 1 i64 γ10 x9.1, rowK 3 1 i64 (.slice (some ⟨b15, 0, none⟩) 1 1) ([(D.plan_Plan_Field a0 a1 x9.2)])] w0 w16 := hP.newRow n17 (fun _ => rfl) rfl
        obtain ⟨x19, hx19, hD⟩ := bindD_elim hD
        refine seq_app 3 1 i64 γ10 r (fun R => y_append r rt36 (fun _ => rfl) (fun _ => rfl) (hP.row (i := 1) rfl) (hP.row (i := 2) rfl) hx19 rfl rfl) rfl fun fr v20 w21 ha22 r => ?_
        have hP : Post No [cellC b1 ((planC a0)).toArray 24, rowK 3 1 i64 v20 x19, rowK 3 1 i64 (.slice (some ⟨b15, 0, none⟩) 1 1) ([(D.plan_Plan_Field a0 a1 x9.2)])] w0 w21 := hP.append (i := 1) rfl ha22
        refine seq_val v20 r (fun R => y_assign r rfl) rfl fun fr r => ?_
        refine wpList_nil ?_
        refine wp_region_lit ?_
        refine seq_val (.int .i64 (IntKind.i64.wrap (x9.2 + 1))) r (fun R => y_bin r (u := (.int .i64 x9.2)) (u' := (.int .i64 1)) rfl rfl rfl rfl) rfl fun fr r => ?_
        refine seq_val (.int .i64 (IntKind.i64.wrap (x9.2 + 1))) r (fun R => y_move r rfl) rfl fun fr r => ?_
        refine wpList_nil ?_
        exact nxy11 (x19, (IntKind.i64.wrap (x9.2 + 1))) v20 _ _ _ hD r (hs_cons rfl (hs_cons rfl (hs_cons rfl (hs_cons rfl (hs_cons rfl (hs_cons rfl (hs_cons rfl hs_nil))))))) (hP.pick [0, 1] rfl rfl)
      · skip
        have hD := (cond_f h13).symm.trans hD
        refine wp_exit ?_
        exact bky11 (x9.1, x9.2) γ10 _ _ _ hD r (hs_cons rfl (hs_cons rfl (hs_cons rfl (hs_cons rfl (hs_cons rfl (hs_cons rfl (hs_cons rfl hs_nil))))))) (hP.pick [0, 1] rfl rfl)
    · skip
      rintro x23 γ24 fr w25 g r hP hD
      have hP : Post No [cellC b1 ((planC a0)).toArray 24, rowK 3 1 i64 γ24 x23.1] w0 w25 := hP
      refine wp_seq ?_
      refine wp_region_lit ?_
      refine seq_val γ24 r (fun R => y_move r rfl) rfl fun fr r => ?_
      refine seq_val γ24 r (fun R => y_assign r rfl) rfl fun fr r => ?_
      refine wpList_nil ?_
      refine wp_ret ?_
      have hv : x23.1 = res := Option.some.inj hD
      try dsimp only [Exit.then, Exit.inBlock]
      refine ret_tmp (fn := Try.f34) r (t := 4) rfl (v := γ24) rfl ?_
      subst hv
      exact ⟨γ24, rfl, (hP.pick [1] rfl rfl).done (rest_cons rfl rest_nil)⟩

def D.cubicleref06_Place (fu : Nat) (a0 : List WordP) (a1 : WordP) : Option (Int) := (loopThen (fun (x5 : Int × Int) => (bif (decide (x5.2 < (a0.length : Int))) then ((getI a0 x5.2).bind (fun (x10 : WordP) => (bif (x10 == a1) then (some (Lp.ret x5.2)) else (some (Lp.next (x5.1, (IntKind.i64.wrap (x5.2 + 1)))))))) else (some (Lp.brk (x5.1, x5.2))))) fu (0, 0) (fun (x13 : Int × Int) => (some (-1))))

set_option maxRecDepth 20000 in
set_option maxHeartbeats 2000000 in
theorem c_cubicleref06_Place {fu : Nat} (w0 : World) {a0_v : Value} (a0 : List WordP) (a0_h : RowAt 35 3 wordPC a0_v a0 w0) (a1 : WordP) {res : Int} (hD : D.cubicleref06_Place fu a0 a1 = some res) :
    Calls Try.prog 36 #[a0_v, .agg (wordPC a1).toArray] w0 (PureRes (.int .i64 res) w0) := by
  refine enter (l := [a0_v, .agg (wordPC a1).toArray]) Try.func36 rfl 19 rfl rfl fun fr r => ?_
  have hP : Post No [] w0 w0 := Post.nil w0
  have hP : Post No [roK 35 3 wordPC a0_v a0] w0 w0 := hP.addRo norw_nil a0_h rfl a0_h.lt
  unfold D.cubicleref06_Place at hD
  refine wp_seq ?_
  refine wp_region_lit ?_
  refine seq_new (.cells ((wordPC a1)).toArray 35 (0, 0)) r (fun R => y_box r (v := (.agg (wordPC a1).toArray)) rfl) rfl fun fr b1 w2 n3 r => ?_
  have hP : Post No [roK 35 3 wordPC a0_v a0, cellC b1 ((wordPC a1)).toArray 35] w0 w2 := hP.new n3
  refine seq_val (.int .i64 0) r (fun R => y_assign r rfl) rfl fun fr r => ?_
  refine wpList_nil ?_
  refine wp_seq ?_
  refine wp_seq ?_
  refine wp_region_lit ?_
  refine seq_val (.int .i64 0) r (fun R => y_assign r rfl) rfl fun fr r => ?_
  refine wpList_nil ?_
  refine wp_loopG (X := Int × Int) (G := Unit) (x0 := (0, 0)) (fun x γ => [(0, a0_v), (1, (.agg (wordPC a1).toArray)), (3, (.pointer (some ⟨b1, 0, none⟩))), (4, (.int .i64 x.1)), (5, (.int .i64 x.2))]) (fun x γ w => Post No [roK 35 3 wordPC a0_v a0, cellC b1 ((wordPC a1)).toArray 35] w0 w) () r (hs_cons rfl (hs_cons rfl (hs_cons rfl (hs_cons rfl (hs_cons rfl hs_nil))))) hP hD ?_ ?_
  · skip
    rintro x5 γ6 fr w8 g y7 RPy7 nxy7 bky7 rty7 r hP hD
    have hP : Post No [roK 35 3 wordPC a0_v a0, cellC b1 ((wordPC a1)).toArray 35] w0 w8 := hP
    refine wp_seq ?_
    refine wp_seq ?_
    refine wp_region_lit ?_
    refine seq_val (.int .i64 x5.2) r (fun R => y_move r rfl) rfl fun fr r => ?_
    refine seq_val a0_v r (fun R => y_move r rfl) rfl fun fr r => ?_
    refine seq_val (.int .i64 (a0.length : Int)) r (fun R => y_rowLen r (hP.ro (i := 0) rfl) is31 rfl) rfl fun fr r => ?_
    refine seq_val (.bool (decide (x5.2 < (a0.length : Int)))) r (fun R => y_bin r (u := (.int .i64 x5.2)) (u' := (.int .i64 (a0.length : Int))) rfl rfl rfl rfl) rfl fun fr r => ?_
    refine wpList_nil ?_
    refine wp_cond_split (t := (decide (x5.2 < (a0.length : Int)))) (r.ev rfl) (fun h9 => ?_) (fun h9 => ?_)
    · skip
      have hD := (cond_t h9).symm.trans hD
      refine wp_skip ?_
      refine wp_seq ?_
      refine wp_block ?_
      refine wp_seq ?_
      obtain ⟨x10, hx10, hD⟩ := bindD_elim hD
      refine wp_freeF [.val a0_v, .val (.int .i64 x5.2), .val (.pointer (some ⟨rowB a0_v, rowO a0_v + x5.2.toNat * 3, none⟩)), .val (.agg (wordPC x10).toArray), .val (.agg (wordPC a1).toArray), .val (.bool (x10 == a1))] mixed r (by kernel_rfl) ?_ ?_
      · skip
        refine eachF_cons r rfl (fun fr1 g w' hb' hd r' => ?_) ?_
        · exact y_move r' (v := a0_v) rfl ⟨Below.refl _ _, rfl⟩
        refine eachF_cons r rfl (fun fr1 g w' hb' hd r' => ?_) ?_
        · exact y_move r' (v := (.int .i64 x5.2)) rfl ⟨Below.refl _ _, rfl⟩
        refine eachF_cons r rfl (fun fr1 g w' hb' hd r' => ?_) ?_
        · exact y_rowAddr r' ((hP.below (dr hb')).ro (i := 0) rfl) hx10 sl31 (hd 0 rfl).1 (hd 1 rfl).1 ⟨Below.refl _ _, rfl⟩
        refine eachF_cons r rfl (fun fr1 g w' hb' hd r' => ?_) ?_
        · exact y_loadL_agg r' (cs := (wordPC x10)) (RowAt.at_ (f := wordPC) (x := x10) ((hP.below (dr hb')).ro (i := 0) rfl) (fun _ => rfl) hx10) (hd 2 rfl).1 ta35 ⟨Below.refl _ _, rfl⟩
        refine eachF_cons r rfl (fun fr1 g w' hb' hd r' => ?_) ?_
        · exact y_load_agg r' (cs := (wordPC a1)) (n := 3) rfl ((hP.below (dr hb')).cell (i := 1) rfl) ta35 rfl ⟨Below.refl _ _, rfl⟩
        refine eachF_cons r rfl (fun fr1 g w' hb' hd r' => ?_) ?_
        · exact y_bin r' (u := (.agg (wordPC x10).toArray)) (u' := (.agg (wordPC a1).toArray)) (v := (.bool (x10 == a1))) (hd 3 rfl).1 (hd 4 rfl).1 (run_eqGuard_agg _ _ _ _ _ _ _ eg35) (eqs35 _ _ _).1 ⟨Below.refl _ _, rfl⟩
        exact eachF_nil
      · skip
        intro fr gg w11 hb hΦ hap r
        have g0 : (gg 0).v = a0_v := (hΦ 0 rfl).1
        have g1 : (gg 1).v = (.int .i64 x5.2) := (hΦ 1 rfl).1
        have g2 : (gg 2).v = (.pointer (some ⟨rowB a0_v, rowO a0_v + x5.2.toNat * 3, none⟩)) := (hΦ 2 rfl).1
        have g3 : (gg 3).v = (.agg (wordPC x10).toArray) := (hΦ 3 rfl).1
        have g4 : (gg 4).v = (.agg (wordPC a1).toArray) := (hΦ 4 rfl).1
        have g5 : (gg 5).v = (.bool (x10 == a1)) := (hΦ 5 rfl).1
        have r := r.congr (sc g5 (sc g4 (sc g3 (sc g2 (sc g1 (sc g0 rfl))))))
        have hP : Post No [roK 35 3 wordPC a0_v a0, cellC b1 ((wordPC a1)).toArray 35] w0 w11 := hP.below hb
        refine wp_cond_split (t := (x10 == a1)) (r.ev rfl) (fun h12 => ?_) (fun h12 => ?_)
        · skip
          have hD := (cond_t h12).symm.trans hD
          refine wp_seq ?_
          refine wp_region_lit ?_
          refine seq_val (.int .i64 x5.2) r (fun R => y_move r rfl) rfl fun fr r => ?_
          refine seq_val (.int .i64 x5.2) r (fun R => y_assign r rfl) rfl fun fr r => ?_
          refine wpList_nil ?_
          refine wp_ret ?_
          refine rty7 x5.2 _ _ hD fun hD => ?_
          have hv : x5.2 = res := Option.some.inj hD
          try dsimp only [Exit.then, Exit.inBlock]
          refine ret_tmp (fn := Try.f36) r (t := 4) rfl (v := (.int .i64 x5.2)) rfl ?_
          subst hv
          exact ⟨rfl, hP.chg.below⟩
        · skip
          have hD := (cond_f h12).symm.trans hD
          refine wp_skip ?_
          refine wp_region_lit ?_
          refine seq_val (.int .i64 x5.2) r (fun R => y_move r rfl) rfl fun fr r => ?_
          refine seq_val (.int .i64 (IntKind.i64.wrap (x5.2 + 1))) r (fun R => y_bin r (u := (.int .i64 x5.2)) (u' := (.int .i64 1)) rfl rfl rfl rfl) rfl fun fr r => ?_
          refine seq_val (.int .i64 (IntKind.i64.wrap (x5.2 + 1))) r (fun R => y_assign r rfl) rfl fun fr r => ?_
          refine wpList_nil ?_
          exact nxy7 (x5.1, (IntKind.i64.wrap (x5.2 + 1))) () _ _ _ hD r (hs_cons rfl (hs_cons rfl (hs_cons rfl (hs_cons rfl (hs_cons rfl hs_nil))))) (hP.pick [0, 1] rfl rfl)
    · skip
      have hD := (cond_f h9).symm.trans hD
      refine wp_exit ?_
      exact bky7 (x5.1, x5.2) () _ _ _ hD r (hs_cons rfl (hs_cons rfl (hs_cons rfl (hs_cons rfl (hs_cons rfl hs_nil))))) (hP.pick [0, 1] rfl rfl)
  · skip
    rintro x13 γ14 fr w15 g r hP hD
    have hP : Post No [roK 35 3 wordPC a0_v a0, cellC b1 ((wordPC a1)).toArray 35] w0 w15 := hP
    refine wp_seq ?_
    refine wp_region_lit ?_
    refine seq_val (.int .i64 (-1)) r (fun R => y_assign r rfl) rfl fun fr r => ?_
    refine wpList_nil ?_
    refine wp_ret ?_
    have hv : (-1) = res := Option.some.inj hD
    try dsimp only [Exit.then, Exit.inBlock]
    refine ret_tmp (fn := Try.f36) r (t := 4) rfl (v := (.int .i64 (-1))) rfl ?_
    subst hv
    exact ⟨rfl, hP.chg.below⟩

end Go.Proofs.Ytphnnjiaiemkcaa

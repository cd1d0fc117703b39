/- FreeMany holds of every input. -/
import Derived.Test.YtbbipmelhmgmfaaFmM9
set_option linter.all false
namespace Go.Proofs.Ytbbipmelhmgmfaa.freeMany
open Go.ChangeShapes Go.WideShapes Go.ChangeAt Go.RowKit
set_option linter.unusedVariables false
theorem own : ownKnob Try.prog.godebug = none := by kernel_rfl

set_option maxRecDepth 100000 in
theorem lifted (os : Os) (started : os.Started) (H : Type) (enc : TypeId × Value → H) :
    ReturnsInHanded {} Try.checked os 3 .any (Rows.freeManySpec.pre6 enc Try.prog Try.f3 Rows.freeManyRow.domain false) (Rows.freeManySpec.post enc Try.prog Try.f3 false true false false) := by
  refine returnsInHanded_of_change_sized (C := Try.checked) own started (by kernel_rfl) Try.func3
    (ChangeSpec.witness6 (enc := enc) (C := Try.checked) false ⟨#[], #[.agg #[.int .i64 0, .int .i64 0, .int .i64 0, .int .i64 0, .int .i64 0, .int .i64 0], .slice none 0 0, .slice none 0 0], []⟩ 8 (by kernel_rfl) (by kernel_rfl) (by kernel_rfl) (by kernel_rfl)) ?_
  intro W base args ds gs before hval0 hW hcnd hsz0 _
  have hval : ∀ (j : Nat) t v, Try.f3.params[j]? = some t → args[j]? = some v → Value.okWide Try.prog W .any base t v := hval0
  have hW' := hW
  obtain ⟨p, q, hA0, hV, rfl, hfz, hnd⟩ := hW
  have hA : DataW.TrodAll enc Try.prog W 0 (fun _ => true) true Try.f3.params.toList args.toList ds p := hA0
  have hlt : ∀ x, x ∈ p → x.block < W.heap.size := hA.lt
  rw [Try.params3] at hA hval
  obtain ⟨v0, vs0, d0, ds0, p0, q0, hargs0, rfl, rfl, h0, r0⟩ := trodAll_cons hA
  obtain ⟨v1, vs1, d1, ds1, p1, q1, hargs1, rfl, rfl, h1, r1⟩ := trodAll_cons r0
  obtain ⟨v2, vs2, d2, ds2, p2, q2, hargs2, rfl, rfl, h2, r2⟩ := trodAll_cons r1
  obtain ⟨rfl, rfl, rfl⟩ := trodAll_nil r2
  subst hargs1
  subst hargs2
  obtain rfl : args = #[v0, v1, v2] := by cases args; simp_all
  obtain ⟨rfl, rfl, rfl⟩ := trodVars_none hV
  have k0 := h0
  obtain ⟨l0, rfl, g0, w0⟩ := open_structI [.i64, .i64, .i64, .i64, .i64, .i64] Try.underlying23 (by kernel_rfl) (by kernel_rfl) (by kernel_rfl) (hval 0 23 v0 rfl rfl) h0
  obtain ⟨x0_0, x0_1, x0_2, x0_3, x0_4, x0_5, rfl⟩ := list6 g0
  have w0_0 := Go.bounds_i64 (w0 (_, x0_0) (by simp))
  have w0_1 := Go.bounds_i64 (w0 (_, x0_1) (by simp))
  have w0_2 := Go.bounds_i64 (w0 (_, x0_2) (by simp))
  have w0_3 := Go.bounds_i64 (w0 (_, x0_3) (by simp))
  have w0_4 := Go.bounds_i64 (w0 (_, x0_4) (by simp))
  have w0_5 := Go.bounds_i64 (w0 (_, x0_5) (by simp))
  have k1 := h1
  obtain ⟨vv1, a1, rr1⟩ := open_rowsB (T' := 4) Try.underlying24 Try.underlying31 Try.underlying4 (by kernel_rfl) (by kernel_rfl) (hval 1 24 v1 rfl rfl) h1
  have k2 := h2
  obtain ⟨a2, rr2, w2⟩ := open_rowI (T := 5) u8E (fun _ => rfl) Try.underlying25 Try.underlying5 (by kernel_rfl) (hval 2 25 v2 rfl rfl) h2
  obtain ⟨fu, hp⟩ := pure_FreeMany (⟨x0_0, x0_1, x0_2, x0_3, x0_4, x0_5⟩ : Plan) a1 a2 w0_0 w0_1 w0_2 w0_3 w0_4 w0_5 (fun n hn => Go.bounds_u8 (w2 n hn))
  refine (Wk.c_cubiclelaw09_FreeMany W (⟨x0_0, x0_1, x0_2, x0_3, x0_4, x0_5⟩ : Plan) a1 rr1 a2 rr2 hp).mono fun e W' ⟨he, bel⟩ => ?_
  subst he
  exact ⟨_, rfl, _, _, _, [], _, [], hW', trodAll_mk1 (shut_bool Try.underlying4 _), (trodAll_cons_mk (Below.trod laidOut (by kernel_rfl) (of_decide_eq_true (by kernel_rfl)) k0 bel fun x hx => hlt x (List.mem_append_left _ hx)) (trodAll_cons_mk (Below.trod laidOut (by kernel_rfl) (of_decide_eq_true (by kernel_rfl)) k1 bel fun x hx => hlt x (List.mem_append_right _ (List.mem_append_left _ hx))) (trodAll_cons_mk (Below.trod laidOut (by kernel_rfl) (of_decide_eq_true (by kernel_rfl)) k2 bel fun x hx => hlt x (List.mem_append_right _ (List.mem_append_right _ (List.mem_append_left _ hx)))) trodAll_mk0))), rfl, bel.frame _, fun h => by cases h⟩

set_option maxRecDepth 100000 in
set_option maxHeartbeats 20000000 in
theorem closed : joinedFacts Try.pinned.checked.prog 3 Try.f3 Rows.freeManySpec Rows.freeManyRow = true := by
  unfold joinedFacts
  simp only [Bool.and_eq_true]
  and_intros
  · as_aux_lemma => kernel_rfl
  · exact laidOut
  · exact io_maps
  · as_aux_lemma => kernel_rfl
  · as_aux_lemma => kernel_rfl
  · as_aux_lemma => kernel_rfl
  · as_aux_lemma => kernel_rfl
  · as_aux_lemma => kernel_rfl
  · as_aux_lemma => kernel_rfl
  · as_aux_lemma => kernel_rfl
  · as_aux_lemma => kernel_rfl
  · as_aux_lemma => kernel_rfl
  · as_aux_lemma => kernel_rfl
  · as_aux_lemma => kernel_rfl
  · as_aux_lemma => kernel_rfl
  · as_aux_lemma => kernel_rfl
  · as_aux_lemma => kernel_rfl
  · as_aux_lemma => kernel_rfl
  · as_aux_lemma => kernel_rfl
  · as_aux_lemma => kernel_rfl
  · as_aux_lemma => kernel_rfl
  · as_aux_lemma => kernel_rfl
  · as_aux_lemma => kernel_rfl
  · as_aux_lemma => kernel_rfl
  · exact io_heard
  · exact io_enter
  · rw [show Try.pinned.checked.prog.liftsFinal = false from io_lifts]; kernel_rfl
  · rw [show Try.pinned.checked.prog.make = some .cut from io_make]; kernel_rfl
  · as_aux_lemma => kernel_rfl
  · as_aux_lemma => kernel_rfl
  · as_aux_lemma => kernel_rfl
  · as_aux_lemma => kernel_rfl

theorem named : Try.pinned.checked.prog.funcNamed Rows.freeManyRow.func = some 3 := by kernel_rfl

theorem over : Rows.freeManyRow.holds Try.pinned (OpenSpec.ofChange Rows.freeManySpec) :=
  OpenClaim.holds_of_wide 3 Try.f3 rfl rfl rfl rfl rfl rfl rfl ⟨rfl, rfl, rfl, rfl, rfl⟩ rfl rfl rfl rfl rfl named Try.func3 closed
    (of_decide_eq_true (by kernel_rfl)) (by unfold Func.isWrapper; first | (rw [if_pos (by decide +kernel)]; kernel_rfl) | (rw [if_neg (by decide +kernel)]; exact ⟨rfl, rfl⟩))
    (fun os started H enc _ => lifted os started H enc)

end Go.Proofs.Ytbbipmelhmgmfaa.freeMany
namespace Go.Proofs.Ytbbipmelhmgmfaa
/-- The row, under a short name, for the claim. -/
theorem freeMany_holds : Rows.FreeManySaid := freeMany.over
#print axioms freeMany_holds

end Go.Proofs.Ytbbipmelhmgmfaa

/- QueueRace holds of every input. -/
import Derived.Test.YtjkinpbfmihhdaaGreatQrM13
import Derived.Test.YtjkinpbfmihhdaaGreatQrTopS
set_option linter.all false
namespace Go.Proofs.YtjkinpbfmihhdaaGreat.queueRace
open Go.ChangeShapes Go.WideShapes Go.ChangeAt Go.RowKit
set_option linter.unusedVariables false
theorem own : ownKnob Tryz.prog.godebug = none := by kernel_rfl

set_option maxRecDepth 100000 in
theorem lifted (os : Os) (started : os.Started) (H : Type) (enc : TypeId × Value → H) :
    ReturnsInHanded {} Tryz.checked os 13 .any (Rows.queueRaceSpec.pre6 enc Tryz.prog Tryz.f13 Rows.queueRaceRow.domain false) (Rows.queueRaceSpec.post enc Tryz.prog Tryz.f13 false true false false) := by
  refine returnsInHanded_of_change_sized (C := Tryz.checked) own started (by kernel_rfl) Tryz.func13
    (ChangeSpec.witness6 (enc := enc) (C := Tryz.checked) false ⟨#[], #[.slice none 0 0, .slice none 0 0], []⟩ 8 (by kernel_rfl) (by kernel_rfl) (by kernel_rfl) (by kernel_rfl)) ?_
  intro W base args ds gs before hval0 hW hcnd hsz0 _
  have hval : ∀ (j : Nat) t v, Tryz.f13.params[j]? = some t → args[j]? = some v → Value.okWide Tryz.prog W .any base t v := hval0
  have hW' := hW
  obtain ⟨p, q, hA0, hV, rfl, hfz, hnd⟩ := hW
  have hA : DataW.TrodAll enc Tryz.prog W 0 (fun _ => true) true Tryz.f13.params.toList args.toList ds p := hA0
  have hlt : ∀ x, x ∈ p → x.block < W.heap.size := hA.lt
  rw [Tryz.params13] at hA hval
  obtain ⟨v0, vs0, d0, ds0, p0, q0, hargs0, rfl, rfl, h0, r0⟩ := trodAll_cons hA
  obtain ⟨v1, vs1, d1, ds1, p1, q1, hargs1, rfl, rfl, h1, r1⟩ := trodAll_cons r0
  obtain ⟨rfl, rfl, rfl⟩ := trodAll_nil r1
  subst hargs1
  obtain rfl : args = #[v0, v1] := by cases args; simp_all
  obtain ⟨rfl, rfl, rfl⟩ := trodVars_none hV
  have k0 := h0
  obtain ⟨a0, rr0⟩ := zzep (T := 4) Tryz.underlying55 Tryz.underlying4 (by kernel_rfl) (hval 0 55 v0 rfl rfl) h0
  have k1 := h1
  obtain ⟨a1, rr1⟩ := zzep (T := 4) Tryz.underlying55 Tryz.underlying4 (by kernel_rfl) (hval 1 55 v1 rfl rfl) h1
  obtain ⟨fu, hp⟩ := zzdg a0 a1
  refine (Wk.zz7k W a0 rr0 a1 rr1 hp).mono fun e W' ⟨he, bel⟩ => ?_
  subst he
  exact ⟨_, rfl, _, _, _, [], _, [], hW', trodAll_mk1 (shut_bool Tryz.underlying4 _), (trodAll_cons_mk (Below.trod laidOut (by kernel_rfl) (of_decide_eq_true (by kernel_rfl)) k0 bel fun x hx => hlt x (List.mem_append_left _ hx)) (trodAll_cons_mk (Below.trod laidOut (by kernel_rfl) (of_decide_eq_true (by kernel_rfl)) k1 bel fun x hx => hlt x (List.mem_append_right _ (List.mem_append_left _ hx))) trodAll_mk0)), rfl, bel.frame _, fun h => by cases h⟩

set_option maxRecDepth 100000 in
set_option maxHeartbeats 20000000 in
theorem closed : joinedFacts Tryz.pinned.checked.prog 13 Tryz.f13 Rows.queueRaceSpec Rows.queueRaceRow = true := by
  unfold joinedFacts
  simp only [Bool.and_eq_true]
  and_intros
  · as_aux_lemma => kernel_rfl
  · exact laidOut
  · exact io_maps
  · as_aux_lemma => kernel_rfl
  · as_aux_lemma => kernel_rfl
  · as_aux_lemma => kernel_rfl
  · as_aux_lemma => kernel_rfl
  · as_aux_lemma => kernel_rfl
  · as_aux_lemma => kernel_rfl
  · as_aux_lemma => kernel_rfl
  · as_aux_lemma => kernel_rfl
  · as_aux_lemma => kernel_rfl
  · as_aux_lemma => kernel_rfl
  · as_aux_lemma => kernel_rfl
  · as_aux_lemma => kernel_rfl
  · as_aux_lemma => kernel_rfl
  · as_aux_lemma => kernel_rfl
  · as_aux_lemma => kernel_rfl
  · as_aux_lemma => kernel_rfl
  · as_aux_lemma => kernel_rfl
  · as_aux_lemma => kernel_rfl
  · as_aux_lemma => kernel_rfl
  · as_aux_lemma => kernel_rfl
  · as_aux_lemma => kernel_rfl
  · exact zzg6
  · exact zzgc
  · rw [show Tryz.pinned.checked.prog.liftsFinal = false from zzgg]; kernel_rfl
  · rw [show Tryz.pinned.checked.prog.make = some .cut from io_make]; kernel_rfl
  · as_aux_lemma => kernel_rfl
  · as_aux_lemma => kernel_rfl
  · as_aux_lemma => kernel_rfl
  · as_aux_lemma => kernel_rfl

theorem named : Tryz.pinned.checked.prog.funcNamed Rows.queueRaceRow.func = some 13 := by kernel_rfl

theorem over : Rows.queueRaceRow.holds Tryz.pinned (OpenSpec.ofChange Rows.queueRaceSpec) :=
  OpenClaim.holds_of_wide 13 Tryz.f13 rfl rfl rfl rfl rfl rfl rfl ⟨rfl, rfl, rfl, rfl, rfl⟩ rfl rfl rfl rfl rfl named Tryz.func13 closed
    (of_decide_eq_true (by kernel_rfl)) (by unfold Func.isWrapper; first | (rw [if_pos (by decide +kernel)]; kernel_rfl) | (rw [if_neg (by decide +kernel)]; exact ⟨rfl, rfl⟩))
    (fun os started H enc _ => lifted os started H enc)

end Go.Proofs.YtjkinpbfmihhdaaGreat.queueRace
namespace Go.Proofs.YtjkinpbfmihhdaaGreat
/-- The row, under a short name, for the claim. -/
theorem queueRace_holds : Rows.QueueRaceSaid := queueRace.over
#print axioms queueRace_holds

end Go.Proofs.YtjkinpbfmihhdaaGreat

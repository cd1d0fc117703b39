/- Ours. -/
import Derived.Test.YtikjpdpgdmbdpaaGreatLkM28
set_option linter.all false
namespace Go.Proofs.YtikjpdpgdmbdpaaGreat.listKeys
open Go.ChangeShapes Go.WideShapes Go.ChangeAt Go.RowKit
theorem own:ownKnob Tryz.prog.godebug=none:=by kernel_rfl
set_option maxRecDepth 100000 in
theorem lifted (os:Os) (started:os.Started) (H:Type) (enc:TypeId × Value→H) :
    ReturnsInHanded {} Tryz.checked os 7 .any (Rows.listKeysSpec.pre6 enc Tryz.prog Tryz.f7 Rows.listKeysRow.domain false) (Rows.listKeysSpec.post enc Tryz.prog Tryz.f7 false true false false):=by
  refine returnsInHanded_of_change_sized (C:=Tryz.checked) own started (by kernel_rfl) Tryz.func7
    (ChangeSpec.witness6 (enc:=enc) (C:=Tryz.checked) false ⟨#[],#[.slice none 0 0],[]⟩ 8 (by kernel_rfl) (by kernel_rfl) (by kernel_rfl) (by kernel_rfl)) ?_
  intro W base args ds gs before hval0 hW hcnd hsz0 _;have hval:∀ (j:Nat) t v,Tryz.f7.params[j]?=some t→args[j]?=some v→Value.okWide Tryz.prog W .any base t v:=hval0;have hW':=hW;obtain ⟨p,q,hA0,hV,rfl,hfz,hnd⟩:=hW;have hA:DataW.TrodAll enc Tryz.prog W 0 (fun _=>true) true Tryz.f7.params.toList args.toList ds p:=hA0
  have hlt:∀ x,x∈p→x.block<W.heap.size:=hA.lt;rw [Tryz.params7] at hA hval
  obtain ⟨v0,vs0,d0,ds0,p0,q0,hargs0,rfl,rfl,h0,r0⟩:=trodAll_cons hA;obtain ⟨rfl,rfl,rfl⟩:=trodAll_nil r0;obtain rfl:args=#[v0]:=by cases args; simp_all
  obtain ⟨rfl,rfl,rfl⟩:=trodVars_none hV;have k0:=h0;obtain ⟨a0,rr0,w0⟩:=AU (T:=36) u64 (fun _=>rfl) Tryz.underlying81 Tryz.underlying36 (by kernel_rfl) (hval 0 81 v0 rfl rfl) h0
  obtain ⟨fu,hp⟩:=zK a0 (fun n hn=>Go.bounds_u64 (w0 n hn))
  refine (Wk.wZ W a0 rr0 hp).mono fun e W' ⟨he,bel⟩=>?_;subst he
  exact ⟨_,rfl,_,_,_,[],_,[],hW',trodAll_mk1 (shut_bool Tryz.underlying4 _),(trodAll_cons_mk (Below.trod laidOut (by kernel_rfl) (of_decide_eq_true (by kernel_rfl)) k0 bel fun x hx=>hlt x (List.mem_append_left _ hx)) trodAll_mk0),rfl,bel.frame _,fun h=>by cases h⟩
set_option maxRecDepth 100000 in
set_option maxHeartbeats 20000000 in
theorem closed:joinedFacts Tryz.pinned.checked.prog 7 Tryz.f7 Rows.listKeysSpec Rows.listKeysRow=true:=by
  unfold joinedFacts;simp only [Bool.and_eq_true]
  and_intros
  · as_aux_lemma=>kernel_rfl
  · exact laidOut
  · exact BV
  · as_aux_lemma=>kernel_rfl
  · as_aux_lemma=>kernel_rfl
  · as_aux_lemma=>kernel_rfl
  · as_aux_lemma=>kernel_rfl
  · as_aux_lemma=>kernel_rfl
  · as_aux_lemma=>kernel_rfl
  · as_aux_lemma=>kernel_rfl
  · as_aux_lemma=>kernel_rfl
  · as_aux_lemma=>kernel_rfl
  · as_aux_lemma=>kernel_rfl
  · as_aux_lemma=>kernel_rfl
  · as_aux_lemma=>kernel_rfl
  · as_aux_lemma=>kernel_rfl
  · as_aux_lemma=>kernel_rfl
  · as_aux_lemma=>kernel_rfl
  · as_aux_lemma=>kernel_rfl
  · as_aux_lemma=>kernel_rfl
  · as_aux_lemma=>kernel_rfl
  · as_aux_lemma=>kernel_rfl
  · as_aux_lemma=>kernel_rfl
  · as_aux_lemma=>kernel_rfl
  · exact Bp
  · exact Bv
  · rw [show Tryz.pinned.checked.prog.liftsFinal=false from Bq]; kernel_rfl
  · rw [show Tryz.pinned.checked.prog.make=some .cut from BK]; kernel_rfl
  · as_aux_lemma=>kernel_rfl
  · as_aux_lemma=>kernel_rfl
  · as_aux_lemma=>kernel_rfl
  · as_aux_lemma=>kernel_rfl
theorem named:Tryz.pinned.checked.prog.funcNamed Rows.listKeysRow.func=some 7:=by kernel_rfl
theorem over:Rows.listKeysRow.holds Tryz.pinned (OpenSpec.ofChange Rows.listKeysSpec):=
  OpenClaim.holds_of_wide 7 Tryz.f7 rfl rfl rfl rfl rfl rfl rfl ⟨rfl,rfl,rfl,rfl,rfl⟩ rfl rfl rfl rfl rfl named Tryz.func7 closed
    (of_decide_eq_true (by kernel_rfl)) (by unfold Func.isWrapper; first | (rw [if_pos (by decide +kernel)]; kernel_rfl) | (rw [if_neg (by decide +kernel)]; exact ⟨rfl,rfl⟩))
    (fun os started H enc _=>lifted os started H enc)
end Go.Proofs.YtikjpdpgdmbdpaaGreat.listKeys
namespace Go.Proofs.YtikjpdpgdmbdpaaGreat
theorem listKeys_holds:Rows.ListKeysSaid:=listKeys.over
#print axioms listKeys_holds
end Go.Proofs.YtikjpdpgdmbdpaaGreat

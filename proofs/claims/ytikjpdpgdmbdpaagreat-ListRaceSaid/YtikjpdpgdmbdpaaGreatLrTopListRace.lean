/- Ours. -/
import Derived.Test.YtikjpdpgdmbdpaaGreatLrM28
set_option linter.all false
namespace Go.Proofs.YtikjpdpgdmbdpaaGreat.listRace
open Go.ChangeShapes Go.WideShapes Go.ChangeAt Go.RowKit
theorem own:ownKnob Tryz.prog.godebug=none:=kz
set_option maxRecDepth 100000 in
theorem lifted (os:Os) (started:os.Started) (H:Type) (enc:TypeId × Value→H) :
    ReturnsInHanded {} Tryz.checked os 8 .any (Rows.listRaceSpec.pre6 enc Tryz.prog Tryz.f8 Rows.listRaceRow.domain false) (Rows.listRaceSpec.post enc Tryz.prog Tryz.f8 false true false false):=by
  refine returnsInHanded_of_change_sized (C:=Tryz.checked) own started kz Tryz.func8
    (ChangeSpec.witness6 (enc:=enc) (C:=Tryz.checked) false ⟨#[],#[.int .u64 0,.slice none 0 0,.slice none 0 0],[]⟩ 8 kz kz kz kz) ?_
  intro W base args ds gs before hval0 hW hcnd hsz0 _;have hval:∀ (j:Nat) t v,Tryz.f8.params[j]?=some t→args[j]?=some v→Value.okWide Tryz.prog W .any base t v:=hval0;have hW':=hW;obtain ⟨p,q,hA0,hV,rfl,hfz,hnd⟩:=hW;have hA:DataW.TrodAll enc Tryz.prog W 0 (fun _=>true) true Tryz.f8.params.toList args.toList ds p:=hA0
  have hlt:∀ x,x∈p→x.block<W.heap.size:=hA.lt;rw [Tryz.params8] at hA hval
  obtain ⟨v0,vs0,d0,ds0,p0,q0,hargs0,rfl,rfl,h0,r0⟩:=trodAll_cons hA;obtain ⟨v1,vs1,d1,ds1,p1,q1,hargs1,rfl,rfl,h1,r1⟩:=trodAll_cons r0;obtain ⟨v2,vs2,d2,ds2,p2,q2,hargs2,rfl,rfl,h2,r2⟩:=trodAll_cons r1;obtain ⟨rfl,rfl,rfl⟩:=trodAll_nil r2;subst hargs1;subst hargs2;obtain rfl:args=#[v0,v1,v2]:=by cases args; simp_all
  obtain ⟨rfl,rfl,rfl⟩:=trodVars_none hV;have k0:=h0;obtain ⟨a0,rfl,rfl,rfl,w0⟩:=open_int Tryz.underlying36 (hval 0 36 v0 rfl rfl) h0;have k1:=h1;obtain ⟨a1,rr1⟩:=uc (T:=4) Tryz.underlying31 Tryz.underlying4 kz (hval 1 31 v1 rfl rfl) h1;have k2:=h2;obtain ⟨a2,rr2⟩:=uc (T:=4) Tryz.underlying31 Tryz.underlying4 kz (hval 2 31 v2 rfl rfl) h2;obtain ⟨fu,hp⟩:=AC a0 a1 a2 (Go.bounds_u64 w0);refine (Wk.xN W a0 a1 rr1 a2 rr2 hp).mono fun e W' ⟨he,bel⟩=>?_;subst he
  exact ⟨_,rfl,_,_,_,[],_,[],hW',trodAll_mk1 (shut_bool Tryz.underlying4 _),(trodAll_cons_mk (Below.trod laidOut kz (of_decide_eq_true kz) k0 bel fun x hx=>hlt x (List.mem_append_left _ hx)) (trodAll_cons_mk (Below.trod laidOut kz (of_decide_eq_true kz) k1 bel fun x hx=>hlt x (List.mem_append_right _ (List.mem_append_left _ hx))) (trodAll_cons_mk (Below.trod laidOut kz (of_decide_eq_true kz) k2 bel fun x hx=>hlt x (List.mem_append_right _ (List.mem_append_right _ (List.mem_append_left _ hx)))) trodAll_mk0))),rfl,bel.frame _,fun h=>by cases h⟩
set_option maxRecDepth 100000 in
set_option maxHeartbeats 20000000 in
theorem closed:joinedFacts Tryz.pinned.checked.prog 8 Tryz.f8 Rows.listRaceSpec Rows.listRaceRow=true:=by
  unfold joinedFacts;simp only [Bool.and_eq_true]
  and_intros
  · as_aux_lemma=>kernel_rfl
  · exact laidOut
  · exact CE
  · as_aux_lemma=>kernel_rfl
  · as_aux_lemma=>kernel_rfl
  · as_aux_lemma=>kernel_rfl
  · as_aux_lemma=>kernel_rfl
  · as_aux_lemma=>kernel_rfl
  · as_aux_lemma=>kernel_rfl
  · as_aux_lemma=>kernel_rfl
  · as_aux_lemma=>kernel_rfl
  · as_aux_lemma=>kernel_rfl
  · as_aux_lemma=>kernel_rfl
  · as_aux_lemma=>kernel_rfl
  · as_aux_lemma=>kernel_rfl
  · as_aux_lemma=>kernel_rfl
  · as_aux_lemma=>kernel_rfl
  · as_aux_lemma=>kernel_rfl
  · as_aux_lemma=>kernel_rfl
  · as_aux_lemma=>kernel_rfl
  · as_aux_lemma=>kernel_rfl
  · as_aux_lemma=>kernel_rfl
  · as_aux_lemma=>kernel_rfl
  · as_aux_lemma=>kernel_rfl
  · exact C0
  · exact Cc
  · rw [show Tryz.pinned.checked.prog.liftsFinal=false from Ce]; kernel_rfl
  · rw [show Tryz.pinned.checked.prog.make=some .cut from CN]; kernel_rfl
  · as_aux_lemma=>kernel_rfl
  · as_aux_lemma=>kernel_rfl
  · as_aux_lemma=>kernel_rfl
  · as_aux_lemma=>kernel_rfl
theorem named:Tryz.pinned.checked.prog.funcNamed Rows.listRaceRow.func=some 8:=kz
theorem over:Rows.listRaceRow.holds Tryz.pinned (OpenSpec.ofChange Rows.listRaceSpec):=
  OpenClaim.holds_of_wide 8 Tryz.f8 rfl rfl rfl rfl rfl rfl rfl ⟨rfl,rfl,rfl,rfl,rfl⟩ rfl rfl rfl rfl rfl named Tryz.func8 closed
    (of_decide_eq_true kz) (by unfold Func.isWrapper; first | (rw [if_pos (by decide +kernel)]; kernel_rfl) | (rw [if_neg (by decide +kernel)]; exact ⟨rfl,rfl⟩))
    (fun os started H enc _=>lifted os started H enc)
end Go.Proofs.YtikjpdpgdmbdpaaGreat.listRace
namespace Go.Proofs.YtikjpdpgdmbdpaaGreat
theorem listRace_holds:Rows.ListRaceSaid:=listRace.over
#print axioms listRace_holds
end Go.Proofs.YtikjpdpgdmbdpaaGreat

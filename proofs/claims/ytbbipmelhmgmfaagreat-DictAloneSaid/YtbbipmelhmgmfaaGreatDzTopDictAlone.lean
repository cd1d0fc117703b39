/- Ours. -/
import Derived.Test.YtbbipmelhmgmfaaGreatDzM29
set_option linter.all false
namespace Go.Proofs.YtbbipmelhmgmfaaGreat.dictAlone
open Go.ChangeShapes Go.WideShapes Go.ChangeAt Go.RowKit
theorem own:ownKnob Tryz.prog.godebug=none:=kz
set_option maxRecDepth 100000 in
theorem lifted (os:Os) (started:os.Started) (H:Type) (enc:TypeId × Value→H) :
    ReturnsInHanded {} Tryz.checked os 9 .any (Rows.dictAloneSpec.pre6 enc Tryz.prog Tryz.f9 Rows.dictAloneRow.domain false) (Rows.dictAloneSpec.post enc Tryz.prog Tryz.f9 false true false false):=by
  refine returnsInHanded_of_change_sized (C:=Tryz.checked) own started kz Tryz.func9
    (ChangeSpec.witness6 (enc:=enc) (C:=Tryz.checked) false ⟨#[],#[.agg #[.int .i64 0,.int .i64 0,.int .i64 0,.int .i64 0,.int .i64 0,.int .i64 0],.slice none 0 0],[]⟩ 8 kz kz kz kz) ?_
  intro W base args ds gs before hval0 hW hcnd hsz0 _;have hval:∀ (j:Nat) t v,Tryz.f9.params[j]?=some t→args[j]?=some v→Value.okWide Tryz.prog W .any base t v:=hval0;have hW':=hW;obtain ⟨p,q,hA0,hV,rfl,hfz,hnd⟩:=hW;have hA:DataW.TrodAll enc Tryz.prog W 0 (fun _=>true) true Tryz.f9.params.toList args.toList ds p:=hA0
  have hlt:∀ x,x∈p→x.block<W.heap.size:=hA.lt;rw [Tryz.params9] at hA hval
  obtain ⟨v0,vs0,d0,ds0,p0,q0,hargs0,rfl,rfl,h0,r0⟩:=trodAll_cons hA;obtain ⟨v1,vs1,d1,ds1,p1,q1,hargs1,rfl,rfl,h1,r1⟩:=trodAll_cons r0;obtain ⟨rfl,rfl,rfl⟩:=trodAll_nil r1;subst hargs1;obtain rfl:args=#[v0,v1]:=by cases args; simp_all
  obtain ⟨rfl,rfl,rfl⟩:=trodVars_none hV;have k0:=h0;obtain ⟨l0,rfl,g0,w0⟩:=Cd [.i64,.i64,.i64,.i64,.i64,.i64] Tryz.underlying23 kz kz kz (hval 0 23 v0 rfl rfl) h0;obtain ⟨x0_0,x0_1,x0_2,x0_3,x0_4,x0_5,rfl⟩:=GU g0;have w0_0:=Go.bounds_i64 (w0 (_,x0_0) yas);have w0_1:=Go.bounds_i64 (w0 (_,x0_1) yas);have w0_2:=Go.bounds_i64 (w0 (_,x0_2) yas);have w0_3:=Go.bounds_i64 (w0 (_,x0_3) yas);have w0_4:=Go.bounds_i64 (w0 (_,x0_4) yas);have w0_5:=Go.bounds_i64 (w0 (_,x0_5) yas);have k1:=h1;obtain ⟨a1,rr1,w1⟩:=D2 (T:=101) 3 [.u8,.u64,.u64] dx (fun ns=>match ns with | [y0,y1,y2]=>(⟨y0,y1,y2⟩:CallD) | _=>(⟨0,0,0⟩:CallD)) Tryz.underlying98 kz kz (fun ns hn=>by obtain ⟨y0,y1,y2,rfl⟩:=xn hn; rfl) ke (fun _=>rfl) (hval 1 98 v1 rfl rfl) h1
  obtain ⟨fu,hp⟩:=BC (⟨x0_0,x0_1,x0_2,x0_3,x0_4,x0_5⟩:Plan) a1 w0_0 w0_1 w0_2 w0_3 w0_4 w0_5 (fun x hx=>by obtain ⟨ns,rfl,hl,hw⟩:=w1 x hx; obtain ⟨y0,y1,y2,rfl⟩:=xn hl; exact ⟨Go.bounds_u8 (hw (_,y0) yas),Go.bounds_u64 (hw (_,y1) yas),Go.bounds_u64 (hw (_,y2) yas)⟩)
  refine (Wk.zf W (⟨x0_0,x0_1,x0_2,x0_3,x0_4,x0_5⟩:Plan) a1 rr1 hp).mono fun e W' ⟨he,bel⟩=>?_;subst he
  exact ⟨_,rfl,_,_,_,[],_,[],hW',trodAll_mk1 (shut_bool Tryz.underlying4 _),(trodAll_cons_mk (Below.trod laidOut kz (of_decide_eq_true kz) k0 bel fun x hx=>hlt x (List.mem_append_left _ hx)) (trodAll_cons_mk (Below.trod laidOut kz (of_decide_eq_true kz) k1 bel fun x hx=>hlt x (List.mem_append_right _ (List.mem_append_left _ hx))) trodAll_mk0)),rfl,bel.frame _,fun h=>by cases h⟩
set_option maxRecDepth 100000 in
set_option maxHeartbeats 20000000 in
theorem closed:joinedFacts Tryz.pinned.checked.prog 9 Tryz.f9 Rows.dictAloneSpec Rows.dictAloneRow=true:=by
  unfold joinedFacts;simp only [Bool.and_eq_true]
  and_intros
  · as_aux_lemma=>kernel_rfl
  · exact laidOut
  · exact Eb
  · as_aux_lemma=>kernel_rfl
  · as_aux_lemma=>kernel_rfl
  · as_aux_lemma=>kernel_rfl
  · as_aux_lemma=>kernel_rfl
  · as_aux_lemma=>kernel_rfl
  · as_aux_lemma=>kernel_rfl
  · as_aux_lemma=>kernel_rfl
  · as_aux_lemma=>kernel_rfl
  · as_aux_lemma=>kernel_rfl
  · as_aux_lemma=>kernel_rfl
  · as_aux_lemma=>kernel_rfl
  · as_aux_lemma=>kernel_rfl
  · as_aux_lemma=>kernel_rfl
  · as_aux_lemma=>kernel_rfl
  · as_aux_lemma=>kernel_rfl
  · as_aux_lemma=>kernel_rfl
  · as_aux_lemma=>kernel_rfl
  · as_aux_lemma=>kernel_rfl
  · as_aux_lemma=>kernel_rfl
  · as_aux_lemma=>kernel_rfl
  · as_aux_lemma=>kernel_rfl
  · exact Dw
  · exact Dt
  · rw [show Tryz.pinned.checked.prog.liftsFinal=false from DG]; kernel_rfl
  · rw [show Tryz.pinned.checked.prog.make=some .cut from Ei]; kernel_rfl
  · as_aux_lemma=>kernel_rfl
  · as_aux_lemma=>kernel_rfl
  · as_aux_lemma=>kernel_rfl
  · as_aux_lemma=>kernel_rfl
theorem named:Tryz.pinned.checked.prog.funcNamed Rows.dictAloneRow.func=some 9:=kz
theorem over:Rows.dictAloneRow.holds Tryz.pinned (OpenSpec.ofChange Rows.dictAloneSpec):=
  OpenClaim.holds_of_wide 9 Tryz.f9 rfl rfl rfl rfl rfl rfl rfl ⟨rfl,rfl,rfl,rfl,rfl⟩ rfl rfl rfl rfl rfl named Tryz.func9 closed
    (of_decide_eq_true kz) (by unfold Func.isWrapper; first | (rw [if_pos (by decide +kernel)]; kernel_rfl) | (rw [if_neg (by decide +kernel)]; exact ⟨rfl,rfl⟩))
    (fun os started H enc _=>lifted os started H enc)
end Go.Proofs.YtbbipmelhmgmfaaGreat.dictAlone
namespace Go.Proofs.YtbbipmelhmgmfaaGreat
theorem dictAlone_holds:Rows.DictAloneSaid:=dictAlone.over
#print axioms dictAlone_holds
end Go.Proofs.YtbbipmelhmgmfaaGreat

/- Ours. -/
import Derived.Test.YtbbipmelhmgmfaaGreatTcM22
set_option linter.all false
namespace Go.Proofs.YtbbipmelhmgmfaaGreat.dictCells
open Go.ChangeShapes Go.WideShapes Go.ChangeAt Go.RowKit
theorem own:ownKnob Tryz.prog.godebug=none:=by kernel_rfl
set_option maxRecDepth 100000 in
theorem lifted (os:Os) (started:os.Started) (H:Type) (enc:TypeId × Value→H) :
    ReturnsInHanded {} Tryz.checked os 6 .any (Rows.dictCellsSpec.pre6 enc Tryz.prog Tryz.f6 Rows.dictCellsRow.domain false) (Rows.dictCellsSpec.post enc Tryz.prog Tryz.f6 false true false false):=by
  refine returnsInHanded_of_change_sized (C:=Tryz.checked) own started (by kernel_rfl) Tryz.func6
    (ChangeSpec.witness6 (enc:=enc) (C:=Tryz.checked) false ⟨#[],#[.agg #[.int .i64 0,.int .i64 0,.int .i64 0,.int .i64 0,.int .i64 0,.int .i64 0],.int .i64 0,.int .u64 0],[]⟩ 8 (by kernel_rfl) (by kernel_rfl) (by kernel_rfl) (by kernel_rfl)) ?_
  intro W base args ds gs before hval0 hW hcnd hsz0 _;have hval:∀ (j:Nat) t v,Tryz.f6.params[j]?=some t→args[j]?=some v→Value.okWide Tryz.prog W .any base t v:=hval0;have hW':=hW;obtain ⟨p,q,hA0,hV,rfl,hfz,hnd⟩:=hW;have hA:DataW.TrodAll enc Tryz.prog W 0 (fun _=>true) true Tryz.f6.params.toList args.toList ds p:=hA0
  have hlt:∀ x,x∈p→x.block<W.heap.size:=hA.lt;rw [Tryz.params6] at hA hval
  obtain ⟨v0,vs0,d0,ds0,p0,q0,hargs0,rfl,rfl,h0,r0⟩:=trodAll_cons hA;obtain ⟨v1,vs1,d1,ds1,p1,q1,hargs1,rfl,rfl,h1,r1⟩:=trodAll_cons r0;obtain ⟨v2,vs2,d2,ds2,p2,q2,hargs2,rfl,rfl,h2,r2⟩:=trodAll_cons r1;obtain ⟨rfl,rfl,rfl⟩:=trodAll_nil r2;subst hargs1;subst hargs2;obtain rfl:args=#[v0,v1,v2]:=by cases args; simp_all
  obtain ⟨rfl,rfl,rfl⟩:=trodVars_none hV;have k0:=h0;obtain ⟨l0,rfl,g0,w0⟩:=open_structI [.i64,.i64,.i64,.i64,.i64,.i64] Tryz.underlying23 (by kernel_rfl) (by kernel_rfl) (by kernel_rfl) (hval 0 23 v0 rfl rfl) h0;obtain ⟨x0_0,x0_1,x0_2,x0_3,x0_4,x0_5,rfl⟩:=list6 g0;have w0_0:=Go.bounds_i64 (w0 (_,x0_0) (by simp));have w0_1:=Go.bounds_i64 (w0 (_,x0_1) (by simp));have w0_2:=Go.bounds_i64 (w0 (_,x0_2) (by simp));have w0_3:=Go.bounds_i64 (w0 (_,x0_3) (by simp));have w0_4:=Go.bounds_i64 (w0 (_,x0_4) (by simp));have w0_5:=Go.bounds_i64 (w0 (_,x0_5) (by simp));have k1:=h1;obtain ⟨a1,rfl,rfl,rfl,w1⟩:=open_int Tryz.underlying3 (hval 1 3 v1 rfl rfl) h1;have k2:=h2;obtain ⟨a2,rfl,rfl,rfl,w2⟩:=open_int Tryz.underlying34 (hval 2 34 v2 rfl rfl) h2;obtain ⟨fu,hp⟩:=pure_DictCells (⟨x0_0,x0_1,x0_2,x0_3,x0_4,x0_5⟩:Plan) a1 a2 w0_0 w0_1 w0_2 w0_3 w0_4 w0_5 (Go.bounds_i64 w1) (Go.bounds_u64 w2);refine (Wk.c_cubiclelaw16_DictCells W (⟨x0_0,x0_1,x0_2,x0_3,x0_4,x0_5⟩:Plan) a1 a2 hp).mono fun e W' ⟨he,bel⟩=>?_;subst he
  exact ⟨_,rfl,_,_,_,[],_,[],hW',trodAll_mk1 (shut_bool Tryz.underlying4 _),(trodAll_cons_mk (Below.trod laidOut (by kernel_rfl) (of_decide_eq_true (by kernel_rfl)) k0 bel fun x hx=>hlt x (List.mem_append_left _ hx)) (trodAll_cons_mk (Below.trod laidOut (by kernel_rfl) (of_decide_eq_true (by kernel_rfl)) k1 bel fun x hx=>hlt x (List.mem_append_right _ (List.mem_append_left _ hx))) (trodAll_cons_mk (Below.trod laidOut (by kernel_rfl) (of_decide_eq_true (by kernel_rfl)) k2 bel fun x hx=>hlt x (List.mem_append_right _ (List.mem_append_right _ (List.mem_append_left _ hx)))) trodAll_mk0))),rfl,bel.frame _,fun h=>by cases h⟩
set_option maxRecDepth 100000 in
set_option maxHeartbeats 20000000 in
theorem closed:joinedFacts Tryz.pinned.checked.prog 6 Tryz.f6 Rows.dictCellsSpec Rows.dictCellsRow=true:=by
  unfold joinedFacts;simp only [Bool.and_eq_true]
  and_intros
  · as_aux_lemma=>kernel_rfl
  · exact laidOut
  · exact io_maps
  · as_aux_lemma=>kernel_rfl
  · as_aux_lemma=>kernel_rfl
  · as_aux_lemma=>kernel_rfl
  · as_aux_lemma=>kernel_rfl
  · as_aux_lemma=>kernel_rfl
  · as_aux_lemma=>kernel_rfl
  · as_aux_lemma=>kernel_rfl
  · as_aux_lemma=>kernel_rfl
  · as_aux_lemma=>kernel_rfl
  · as_aux_lemma=>kernel_rfl
  · as_aux_lemma=>kernel_rfl
  · as_aux_lemma=>kernel_rfl
  · as_aux_lemma=>kernel_rfl
  · as_aux_lemma=>kernel_rfl
  · as_aux_lemma=>kernel_rfl
  · as_aux_lemma=>kernel_rfl
  · as_aux_lemma=>kernel_rfl
  · as_aux_lemma=>kernel_rfl
  · as_aux_lemma=>kernel_rfl
  · as_aux_lemma=>kernel_rfl
  · as_aux_lemma=>kernel_rfl
  · exact io_heard
  · exact io_enter
  · rw [show Tryz.pinned.checked.prog.liftsFinal=false from io_lifts]; kernel_rfl
  · rw [show Tryz.pinned.checked.prog.make=some .cut from io_make]; kernel_rfl
  · as_aux_lemma=>kernel_rfl
  · as_aux_lemma=>kernel_rfl
  · as_aux_lemma=>kernel_rfl
  · as_aux_lemma=>kernel_rfl
theorem named:Tryz.pinned.checked.prog.funcNamed Rows.dictCellsRow.func=some 6:=by kernel_rfl
theorem over:Rows.dictCellsRow.holds Tryz.pinned (OpenSpec.ofChange Rows.dictCellsSpec):=
  OpenClaim.holds_of_wide 6 Tryz.f6 rfl rfl rfl rfl rfl rfl rfl ⟨rfl,rfl,rfl,rfl,rfl⟩ rfl rfl rfl rfl rfl named Tryz.func6 closed
    (of_decide_eq_true (by kernel_rfl)) (by unfold Func.isWrapper; first | (rw [if_pos (by decide +kernel)]; kernel_rfl) | (rw [if_neg (by decide +kernel)]; exact ⟨rfl,rfl⟩))
    (fun os started H enc _=>lifted os started H enc)
end Go.Proofs.YtbbipmelhmgmfaaGreat.dictCells
namespace Go.Proofs.YtbbipmelhmgmfaaGreat
theorem dictCells_holds:Rows.DictCellsSaid:=dictCells.over
#print axioms dictCells_holds
end Go.Proofs.YtbbipmelhmgmfaaGreat

/- Ours. -/
import Derived.Test.YtbbipmelhmgmfaaGreatDpM25
import Derived.Test.YtbbipmelhmgmfaaGreatDpM26
set_option linter.all false
namespace Go.Proofs.YtbbipmelhmgmfaaGreat.dictApart
open Go.ChangeShapes Go.WideShapes Go.ChangeAt Go.RowKit
theorem own:ownKnob Tryz.prog.godebug=none:=kz
set_option maxRecDepth 100000 in
theorem lifted (os:Os) (started:os.Started) (H:Type) (enc:TypeId × Value→H) :
    ReturnsInHanded {} Tryz.checked os 8 .any (Rows.dictApartSpec.pre6 enc Tryz.prog Tryz.f8 Rows.dictApartRow.domain false) (Rows.dictApartSpec.post enc Tryz.prog Tryz.f8 false true false false):=by
  refine returnsInHanded_of_change_sized (C:=Tryz.checked) own started kz Tryz.func8
    (ChangeSpec.witness6 (enc:=enc) (C:=Tryz.checked) false ⟨#[],#[.slice none 0 0,.slice none 0 0,.int .u8 0],[]⟩ 8 kz kz kz kz) ?_
  intro W base args ds gs before hval0 hW hcnd hsz0 _;have hval:∀ (j:Nat) t v,Tryz.f8.params[j]?=some t→args[j]?=some v→Value.okWide Tryz.prog W .any base t v:=hval0;have hW':=hW;obtain ⟨p,q,hA0,hV,rfl,hfz,hnd⟩:=hW;have hA:DataW.TrodAll enc Tryz.prog W 0 (fun _=>true) true Tryz.f8.params.toList args.toList ds p:=hA0
  have hlt:∀ x,x∈p→x.block<W.heap.size:=hA.lt;rw [Tryz.params8] at hA hval
  obtain ⟨v0,vs0,d0,ds0,p0,q0,hargs0,rfl,rfl,h0,r0⟩:=trodAll_cons hA;obtain ⟨v1,vs1,d1,ds1,p1,q1,hargs1,rfl,rfl,h1,r1⟩:=trodAll_cons r0;obtain ⟨v2,vs2,d2,ds2,p2,q2,hargs2,rfl,rfl,h2,r2⟩:=trodAll_cons r1;obtain ⟨rfl,rfl,rfl⟩:=trodAll_nil r2;subst hargs1;subst hargs2;obtain rfl:args=#[v0,v1,v2]:=by cases args; simp_all
  obtain ⟨rfl,rfl,rfl⟩:=trodVars_none hV;have k0:=h0;obtain ⟨a0,rr0,w0⟩:=zly (T:=101) 3 [.u8,.u64,.u64] zpm (fun ns=>match ns with | [y0,y1,y2]=>(⟨y0,y1,y2⟩:CallD) | _=>(⟨0,0,0⟩:CallD)) Tryz.underlying98 kz kz (fun ns hn=>by obtain ⟨y0,y1,y2,rfl⟩:=zr3 hn; rfl) ke (fun _=>rfl) (hval 0 98 v0 rfl rfl) h0
  have k1:=h1;obtain ⟨a1,rr1,w1⟩:=zly (T:=101) 3 [.u8,.u64,.u64] zpm (fun ns=>match ns with | [y0,y1,y2]=>(⟨y0,y1,y2⟩:CallD) | _=>(⟨0,0,0⟩:CallD)) Tryz.underlying98 kz kz (fun ns hn=>by obtain ⟨y0,y1,y2,rfl⟩:=zr3 hn; rfl) ke (fun _=>rfl) (hval 1 98 v1 rfl rfl) h1
  have k2:=h2;obtain ⟨a2,rfl,rfl,rfl,w2⟩:=open_int Tryz.underlying5 (hval 2 5 v2 rfl rfl) h2;obtain ⟨fu,hp⟩:=zk8 a0 a1 a2 (fun x hx=>by obtain ⟨ns,rfl,hl,hw⟩:=w0 x hx; obtain ⟨y0,y1,y2,rfl⟩:=zr3 hl; exact ⟨Go.bounds_u8 (hw (_,y0) yat),Go.bounds_u64 (hw (_,y1) yat),Go.bounds_u64 (hw (_,y2) yat)⟩) (fun x hx=>by obtain ⟨ns,rfl,hl,hw⟩:=w1 x hx; obtain ⟨y0,y1,y2,rfl⟩:=zr3 hl; exact ⟨Go.bounds_u8 (hw (_,y0) yat),Go.bounds_u64 (hw (_,y1) yat),Go.bounds_u64 (hw (_,y2) yat)⟩) (Go.bounds_u8 w2)
  refine (Wk.zfM W a0 rr0 a1 rr1 a2 hp).mono fun e W' ⟨he,bel⟩=>?_;subst he
  exact ⟨_,rfl,_,_,_,[],_,[],hW',trodAll_mk1 (shut_bool Tryz.underlying4 _),(trodAll_cons_mk (Below.trod laidOut kz (of_decide_eq_true kz) k0 bel fun x hx=>hlt x (List.mem_append_left _ hx)) (trodAll_cons_mk (Below.trod laidOut kz (of_decide_eq_true kz) k1 bel fun x hx=>hlt x (List.mem_append_right _ (List.mem_append_left _ hx))) (trodAll_cons_mk (Below.trod laidOut kz (of_decide_eq_true kz) k2 bel fun x hx=>hlt x (List.mem_append_right _ (List.mem_append_right _ (List.mem_append_left _ hx)))) trodAll_mk0))),rfl,bel.frame _,fun h=>by cases h⟩
set_option maxRecDepth 100000 in
set_option maxHeartbeats 20000000 in
theorem closed:joinedFacts Tryz.pinned.checked.prog 8 Tryz.f8 Rows.dictApartSpec Rows.dictApartRow=true:=by
  unfold joinedFacts;simp only [Bool.and_eq_true]
  and_intros
  · as_aux_lemma=>kernel_rfl
  · exact laidOut
  · exact zoD
  · as_aux_lemma=>kernel_rfl
  · as_aux_lemma=>kernel_rfl
  · as_aux_lemma=>kernel_rfl
  · as_aux_lemma=>kernel_rfl
  · as_aux_lemma=>kernel_rfl
  · as_aux_lemma=>kernel_rfl
  · as_aux_lemma=>kernel_rfl
  · as_aux_lemma=>kernel_rfl
  · as_aux_lemma=>kernel_rfl
  · as_aux_lemma=>kernel_rfl
  · as_aux_lemma=>kernel_rfl
  · as_aux_lemma=>kernel_rfl
  · as_aux_lemma=>kernel_rfl
  · as_aux_lemma=>kernel_rfl
  · as_aux_lemma=>kernel_rfl
  · as_aux_lemma=>kernel_rfl
  · as_aux_lemma=>kernel_rfl
  · as_aux_lemma=>kernel_rfl
  · as_aux_lemma=>kernel_rfl
  · as_aux_lemma=>kernel_rfl
  · as_aux_lemma=>kernel_rfl
  · exact znX
  · exact znU
  · rw [show Tryz.pinned.checked.prog.liftsFinal=false from zo7]; kernel_rfl
  · rw [show Tryz.pinned.checked.prog.make=some .cut from zoW]; kernel_rfl
  · as_aux_lemma=>kernel_rfl
  · as_aux_lemma=>kernel_rfl
  · as_aux_lemma=>kernel_rfl
  · as_aux_lemma=>kernel_rfl
theorem named:Tryz.pinned.checked.prog.funcNamed Rows.dictApartRow.func=some 8:=kz
theorem over:Rows.dictApartRow.holds Tryz.pinned (OpenSpec.ofChange Rows.dictApartSpec):=
  OpenClaim.holds_of_wide 8 Tryz.f8 rfl rfl rfl rfl rfl rfl rfl ⟨rfl,rfl,rfl,rfl,rfl⟩ rfl rfl rfl rfl rfl named Tryz.func8 closed
    (of_decide_eq_true kz) (by unfold Func.isWrapper; first | (rw [if_pos (by decide +kernel)]; kernel_rfl) | (rw [if_neg (by decide +kernel)]; exact ⟨rfl,rfl⟩))
    (fun os started H enc _=>lifted os started H enc)
end Go.Proofs.YtbbipmelhmgmfaaGreat.dictApart
namespace Go.Proofs.YtbbipmelhmgmfaaGreat
theorem dictApart_holds:Rows.DictApartSaid:=dictApart.over
#print axioms dictApart_holds
end Go.Proofs.YtbbipmelhmgmfaaGreat

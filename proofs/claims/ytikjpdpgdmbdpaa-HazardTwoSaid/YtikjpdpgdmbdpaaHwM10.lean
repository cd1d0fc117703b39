/- Some of our texts, one behind the other. -/
import Derived.Test.YtikjpdpgdmbdpaaHwRuns
import Derived.Test.YtikjpdpgdmbdpaaHwM6
import Derived.Test.YtikjpdpgdmbdpaaHwM3
import Derived.Test.YtikjpdpgdmbdpaaHwM4
set_option linter.all false
/- Written by a program of ours (wip/gen.py): a memory that is laid out -/
set_option linter.unusedVariables false
set_option maxRecDepth 20000
set_option maxHeartbeats 2000000
namespace Go.Proofs.Ytikjpdpgdmbdpaa
open Go.RowKit
theorem cl23:callable Try.prog 23=true:=by kernel_rfl

theorem cl25:callable Try.prog 25=true:=by kernel_rfl

theorem cl26:callable Try.prog 26=true:=by kernel_rfl

theorem cl27:callable Try.prog 27=true:=by kernel_rfl

theorem cl28:callable Try.prog 28=true:=by kernel_rfl

theorem cl29:callable Try.prog 29=true:=by kernel_rfl

theorem cl6:callable Try.prog 6=true:=by kernel_rfl

theorem cl9:callable Try.prog 9=true:=by kernel_rfl

theorem ts26:sized Try.prog 26 6=true:=by kernel_rfl

theorem tz26:zeroOf Try.prog 26=some (.agg (planC (⟨0,0,0,0,0,0⟩:Plan)).toArray):=by kernel_rfl

def D.cubiclelaw09_Laid (fu:Nat) (a0:Plan):Option (Mem):=((D.mem_New fu ([(D.plan_Plan_Size a0)])).bind (fun (x10:Mem × Int)=>(Option.bind (bif (x10.2 !=0) then (some true) else (some false)) (fun (x16:Bool)=>(bif x16 then none else ((D.mem_Memory_Cap fu x10.1 0).bind (fun (x21:Cap)=>((D.prog_Run_None fu (fu,(D.free_Fresh (fu+1) a0)) x10.1 x21 (IntKind.i64.wrap (a0.nodes+1))).bind (fun (x22:Unit × Int × Bool × Mem)=>(bif (!x22.2.2.1) then none else (some x22.2.2.2)))))))))))

set_option maxRecDepth 20000 in
set_option maxHeartbeats 20000000 in
theorem c_cubiclelaw09_Laid {fu:Nat} (w0:World) (a0:Plan) {res:Mem} (hD:D.cubiclelaw09_Laid fu a0=some res) :
    Calls Try.prog 6 #[.agg (planC a0).toArray] w0 (fun e w'=>∃ (g0:MG),e=.returned (.pointer (some ⟨g0.mb,0,none⟩))∧Done No No [memK g0 res] w0 w'):=by
 refine enter Try.func6 rfl 37 rfl rfl fun fr r=>?_;have hP:Post No [] w0 w0:=Post.nil w0
 unfold D.cubiclelaw09_Laid at hD
 refine wsr ?_;refine seq_new (.cells ((planC a0)).toArray 26 (0,0)) r (fun R=>y_box r (v:=(.agg (planC a0).toArray)) rfl) rfl fun fr b1 w2 n3 r=>?_;have hP:Post No [cellC b1 ((planC a0)).toArray 26] w0 w2:=hP.new n3
 refine seq_val (.pointer none) r (fun R=>y_assign r rfl) rfl fun fr r=>?_;refine wn ?_
 refine wsr ?_;refine seq_val (.agg (planC a0).toArray) r (fun R=>y_load_agg r (cs:=(planC a0)) (n:=6) rfl (hP.cell (i:=0) rfl) ta26 rfl) rfl fun fr r=>?_;refine seq_call r (c_plan_Plan_Size w2 a0) (fun R hc=>y_call r rfl cl28 hc) rfl ?_
 rintro _ w5 ⟨rfl,hb⟩;refine ⟨_,rfl,fun fr r=>?_⟩
 have hP:Post No [cellC b1 ((planC a0)).toArray 26] w0 w5:=hP.below hb;refine seq_newS (.cells (([(D.plan_Plan_Size a0)]).flatMap i64).toArray 3 (0,0)) 1 r (fun R=>y_bslice r (by kernel_rfl)) rfl fun fr b6 w7 n8 r=>?_;have hP:Post No [cellC b1 ((planC a0)).toArray 26,rowK 3 1 i64 (.slice (some ⟨b6,0,none⟩) 1 1) ([(D.plan_Plan_Size a0)])] w0 w7:=hP.newRow n8 (fun _=>rfl) rfl
 obtain ⟨x10,hx10,hD⟩:=bindD_elim hD;refine seq_call r (c_mem_New w7 ([(D.plan_Plan_Size a0)]) (hP.row (i:=1) rfl).ro hx10) (fun R hc=>y_call r rfl cl27 hc) rfl ?_;rintro _ w11 ⟨mg12,rfl,hq⟩
 refine ⟨_,rfl,fun fr r=>?_⟩
 have hP:Post No [cellC b1 ((planC a0)).toArray 26,rowK 3 1 i64 (.slice (some ⟨b6,0,none⟩) 1 1) ([(D.plan_Plan_Size a0)]),memK mg12 x10.1] w0 w11:=hP.add hq;refine seq_val (.tuple #[(.pointer (some ⟨mg12.mb,0,none⟩)),(I x10.2)]) r (fun R=>y_move r rfl) rfl fun fr r=>?_;refine seq_val (.pointer (some ⟨mg12.mb,0,none⟩)) r (fun R=>y_extract r (vs:=#[(.pointer (some ⟨mg12.mb,0,none⟩)),(I x10.2)]) rfl rfl) rfl fun fr r=>?_
 refine seq_val (I x10.2) r (fun R=>y_extract r (vs:=#[(.pointer (some ⟨mg12.mb,0,none⟩)),(I x10.2)]) rfl rfl) rfl fun fr r=>?_;refine seq_val (.pointer (some ⟨mg12.mb,0,none⟩)) r (fun R=>y_assign r rfl) rfl fun fr r=>?_
 refine seq_val (I x10.2) r (fun R=>y_assign r rfl) rfl fun fr r=>?_;refine wn ?_
 refine wp_seq ?_;refine wp_seq ?_;have hP:Post No [cellC b1 ((planC a0)).toArray 26,memK mg12 x10.1] w0 w11:=hP.pick [0,2] rfl rfl;refine wp_joinG (N:=37) (Y:=Bool) (G:=Unit) (fun x γ=>[(0,(.agg (planC a0).toArray)),(1,(.pointer (some ⟨b1,0,none⟩))),(2,(.pointer none)),(3,(.pointer (some ⟨mg12.mb,0,none⟩))),(4,(I x10.2)),(20,(.bool x))]) (fun x γ w=>Post No [cellC b1 ((planC a0)).toArray 26,memK mg12 x10.1] w0 w) hD ?_ ?_
 ·
  rintro y14 RPy14 nxy14 hD;refine wp_region_lit ?_;refine seq_val (I x10.2) r (fun R=>y_move r rfl) rfl fun fr r=>?_;refine seq_val _ r (fun R=>y_bin r rfl rfl rfl rfl) rfl fun fr r=>?_
  refine seq_val (.bool (x10.2 !=0)) r (fun R=>y_move r rfl) rfl fun fr r=>?_;refine seq_split (x10.2 !=0) (fun h15=>?_) (fun h15=>?_)
  ·
   have hD:=(cond_t h15).symm.trans hD;refine s0 r h15 fun fr r=>?_;refine s0 r h15 fun fr r=>?_
   refine seq_val (.bool true) r (fun R=>y_pick r (b:=true) (congrArg Value.bool h15) rfl) rfl fun fr r=>?_;refine wn ?_
   exact nxy14 true () _ _ _ hD r (hs_cons rfl (hs_cons rfl (hs_cons rfl (hs_cons rfl (hs_cons rfl (hs_cons rfl hs_nil)))))) (hP.pick [0,1] rfl rfl)
  have hD:=(cond_f h15).symm.trans hD;refine s1 r h15 ?_;refine seq_val (.pointer (some ⟨mg12.mb,0,none⟩)) r (fun R=>y_move r rfl) rfl fun fr r=>?_;refine s1 r h15 ?_
  refine seq_val _ r (fun R=>y_bin r rfl rfl rfl rfl) rfl fun fr r=>?_;refine seq_val (.bool false) r (fun R=>y_pick r (b:=false) (congrArg Value.bool h15) rfl) rfl fun fr r=>?_
  refine wn ?_;exact nxy14 false () _ _ _ hD r (hs_cons rfl (hs_cons rfl (hs_cons rfl (hs_cons rfl (hs_cons rfl (hs_cons rfl hs_nil)))))) (hP.pick [0,1] rfl rfl)
 rintro x16 γ17 fr w18 g r hP hD;have hP:Post No [cellC b1 ((planC a0)).toArray 26,memK mg12 x10.1] w0 w18:=hP;refine wp_cond_split (t:=x16) (r.ev rfl) (fun h19=>?_) (fun h19=>?_)
 ·
  have hD:=(cond_t h19).symm.trans hD;refine wsr ?_;refine seq_val (.pointer none) r (fun R=>y_assign r rfl) rfl fun fr r=>?_;refine wn ?_
  refine wp_ret ?_;exact nomatch hD
 have hD:=(cond_f h19).symm.trans hD;refine wp_skip ?_;refine wp_seq ?_;obtain ⟨x21,hx21,hD⟩:=bindD_elim hD;obtain ⟨x22,hx22,hD⟩:=bindD_elim hD;refine wp_freeE mg12.bs [.val (.agg (planC a0).toArray),.pred (PrP Try.prog encNone (fu,(D.free_Fresh (fu+1) a0))) (PrP.st _),.val (.pointer (some ⟨mg12.mb,0,none⟩)),.val (.pointer (some ⟨mg12.mb,0,none⟩)),.val (.agg (capC x21).toArray),.val (.pointer (some ⟨b1,0,none⟩)),.val (I a0.nodes),.val (I (W (a0.nodes+1))),.eff (EffP w18.heap.size (memK mg12 x22.2.2.2) (fun _:Unit=>(.tuple #[(.agg #[]),(I x22.2.1),(.bool x22.2.2.1)])) (fun _:Unit=>[])) (EffP.st _ _ _ _),.val (.tuple #[(.agg #[]),(I x22.2.1),(.bool x22.2.2.1)]),.val (.agg #[]),.val (I x22.2.1),.val (.bool x22.2.2.1),.cell 65 0,.stored 13 #[] 65 0 rfl,.val (I x22.2.1),.val (.bool x22.2.2.1)] mixed r (fun b hb=>hP.sep.lt (i:=1) rfl (.inl hb)) (by kernel_rfl) ?_ ?_
 ·
  refine eachE_late r rfl (fun fr1 g w' hk' hd r'=>?_) ?_
  · exact y_load_agg r' (cs:=(planC a0)) (n:=6) rfl (hP.cellK (j:=1) rfl (drK hk') (i:=0) rfl rfl) ta26 rfl ⟨Below.refl _ _,rfl⟩
  refine eachE_early r rfl (by kernel_rfl) (fun fr1 g w' hb' hd r'=>?_) ?_
  · exact y_call r' (args:=[(.agg (planC a0).toArray)]) (lc (hd 0 rfl).1 l0) cl29 ((c_free_Fresh (F:=No) (n:=fu) (j:=fu+1) (fun _ h=>h.elim) (by omega) a0).mono (by rintro _ w2 ⟨y,rfl,hb2,hr2⟩; exact ⟨_,rfl,hb2,fresh_prog hr2⟩))
  refine eachE_early r rfl (by kernel_rfl) (fun fr1 g w' hb' hd r'=>?_) ?_
  · exact y_move r' (v:=(.pointer (some ⟨mg12.mb,0,none⟩))) rfl ⟨Below.refl _ _,rfl⟩
  refine eachE_late r rfl (fun fr1 g w' hk' hd r'=>?_) ?_
  · exact y_move r' (v:=(.pointer (some ⟨mg12.mb,0,none⟩))) rfl ⟨Below.refl _ _,rfl⟩
  refine eachE_early r rfl (by kernel_rfl) (fun fr1 g w' hb' hd r'=>?_) ?_
  · exact y_call r' (args:=[(.pointer (some ⟨mg12.mb,0,none⟩)),(I 0)]) (lc (hd 3 rfl).1 (lc rfl l0)) cl9 ((c_mem_Memory_Cap _ x10.1 ((hP.below (dr hb')).mem (i:=1) rfl) 0 hx21).mono (by rintro _ w2 ⟨rfl,hb2⟩; exact ⟨_,rfl,hb2,rfl⟩))
  refine eachE_late r rfl (fun fr1 g w' hk' hd r'=>?_) ?_
  · exact y_fieldAddr r' (b:=b1) (o:=0) (k:=0) rfl fo26_0 ⟨Below.refl _ _,rfl⟩
  refine eachE_late r rfl (fun fr1 g w' hk' hd r'=>?_) ?_
  · exact y_load_one r' (v:=(I a0.nodes)) (hd 5 rfl).1 (hP.cellK (j:=1) rfl (drK hk') (i:=0) rfl rfl) to3 rfl ⟨Below.refl _ _,rfl⟩
  refine eachE_early r rfl (by kernel_rfl) (fun fr1 g w' hb' hd r'=>?_) ?_
  · exact y_bin r' (u:=(I a0.nodes)) (u':=(I 1)) (v:=(I (W (a0.nodes+1)))) (hd 6 rfl).1 rfl rfl rfl ⟨Below.refl _ _,rfl⟩
  refine eachE_early r rfl (by kernel_rfl) (fun fr1 g w' hb' hd r'=>?_) ?_
  · exact y_call r' (args:=[(g 1).v,(.pointer (some ⟨mg12.mb,0,none⟩)),(.agg (capC x21).toArray),(I (W (a0.nodes+1)))]) (lc rfl (lc (hd 2 rfl).1 (lc (hd 4 rfl).1 (lc (hd 7 rfl).1 l0)))) cl23 ((c_prog_Run_None _ (fu,(D.free_Fresh (fu+1) a0)) x10.1 x21 (W (a0.nodes+1)) (Sep.beside (hd 1 rfl).1 ((hP.below (dr hb')).sep.pk [1] rfl rfl) (by intro c hc b hb; simp only [List.mem_cons,List.not_mem_nil,or_false] at hc; rcases hc with rfl; exact hP.sep.lt (i:=1) rfl hb) (hd 1 rfl).2.1) hx22).mono (by rintro _ w2 ⟨rfl,hq⟩; exact ⟨_,rfl,hq.chg.kept,EffP.of () hq rfl (fun b hb=>hP.sep.lt (i:=1) rfl hb)⟩))
  refine eachE_late r rfl (fun fr1 g w' hk' hd r'=>?_) ?_
  · exact y_move r' (v:=(.tuple #[(.agg #[]),(I x22.2.1),(.bool x22.2.2.1)])) (EffP.val (hd 8 rfl).1) ⟨Below.refl _ _,rfl⟩
  refine eachE_late r rfl (fun fr1 g w' hk' hd r'=>?_) ?_
  · exact y_extract r' (vs:=#[(.agg #[]),(I x22.2.1),(.bool x22.2.2.1)]) (hd 9 rfl).1 rfl ⟨Below.refl _ _,rfl⟩
  refine eachE_late r rfl (fun fr1 g w' hk' hd r'=>?_) ?_
  · exact y_extract r' (vs:=#[(.agg #[]),(I x22.2.1),(.bool x22.2.2.1)]) (hd 9 rfl).1 rfl ⟨Below.refl _ _,rfl⟩
  refine eachE_late r rfl (fun fr1 g w' hk' hd r'=>?_) ?_
  · exact y_extract r' (vs:=#[(.agg #[]),(I x22.2.1),(.bool x22.2.2.1)]) (hd 9 rfl).1 rfl ⟨Below.refl _ _,rfl⟩
  refine eachE_late r rfl (fun fr1 g w' hk' hd r'=>?_) ?_
  · exact y_alloc tz65 (fun b w2 n2=>⟨n2.below,b,rfl,n2.eq,_,n2.at_,rfl⟩)
  refine eachE_late r rfl (fun fr1 g w' hk' hd r'=>?_) ?_
  · obtain ⟨hp,_,c,hc,hn⟩:=(hd 13 rfl).1; exact y_store r' (o:=0) (c:=c) (v:=(.agg #[])) hp (hd 10 rfl).1 hc ts65 (by rw [hn]; exact Nat.le_of_ble_eq_true rfl) rfl (over2_full (hn.trans rfl)) (fun w2 u2=>⟨u2,rfl⟩)
  refine eachE_late r rfl (fun fr1 g w' hk' hd r'=>?_) ?_
  · exact y_assign r' (v:=(I x22.2.1)) (hd 11 rfl).1 ⟨Below.refl _ _,rfl⟩
  refine eachE_late r rfl (fun fr1 g w' hk' hd r'=>?_) ?_
  · exact y_assign r' (v:=(.bool x22.2.2.1)) (hd 12 rfl).1 ⟨Below.refl _ _,rfl⟩
  exact eachF_nil
 intro fr gg w24 hb hΦ hap r;obtain ⟨v20,hv1⟩:∃ v,v=(gg 1).v:=⟨_,rfl⟩;have g1:(gg 1).v=v20:=hv1.symm;obtain ⟨F25,eF25⟩:∃ F,F=rg (gg 1).lo (gg 1).hi:=⟨_,rfl⟩;have hs1:Fresh [progK Try.prog encNone (fu,(D.free_Fresh (fu+1) a0)) v20 F25] (gg 1).lo (gg 1).hi w24:=by subst hv1; subst eF25; exact (hΦ 1 rfl).1
 obtain ⟨⟨⟩,g8,hcE,_,hs8⟩:=(hΦ 8 rfl).1;obtain ⟨b23,ee_b23⟩:∃ b,b=(gg 13).lo:=⟨_,rfl⟩;have g13:(gg 13).v=(.pointer (some ⟨b23,0,none⟩)):=by rw [ee_b23]; exact (hΦ 13 rfl).1.1
 have h_b23:w24.heap[b23]?=some (.cells #[] 65 (0,0)):=by rw [ee_b23]; exact (hΦ 14 rfl).1.2
 have hs13:Fresh [cellC b23 #[] 65] (gg 13).lo (gg 13).hi w24:=by subst ee_b23; exact Fresh.cell (hΦ 13 rfl).1.2.1 h_b23
 have r:=r.congr (sc ((hΦ 16 rfl).1) (sc ((hΦ 15 rfl).1) (sc g13 (sc ((hΦ 12 rfl).1) (sc ((hΦ 11 rfl).1) (sc ((hΦ 10 rfl).1) (sc ((hΦ 9 rfl).1) (sc g8 (sc ((hΦ 7 rfl).1) (sc ((hΦ 6 rfl).1) (sc ((hΦ 5 rfl).1) (sc ((hΦ 4 rfl).1) (sc ((hΦ 3 rfl).1) (sc ((hΦ 2 rfl).1) (sc g1 (sc ((hΦ 0 rfl).1) rfl))))))))))))))));have hP:Post No [cellC b1 ((planC a0)).toArray 26,memK mg12 x22.2.2.2,progK Try.prog encNone (fu,(D.free_Fresh (fu+1) a0)) v20 F25,cellC b23 #[] 65] w0 w24:=hP.effL (i:=1) (l:=[([progK Try.prog encNone (fu,(D.free_Fresh (fu+1) a0)) v20 F25],(gg 1).lo,(gg 1).hi),([cellC b23 #[] 65],(gg 13).lo,(gg 13).hi)]) rfl hb hcE rfl rfl ⟨hs1,(hΦ 1 rfl).2.1,(disj_cons (hap 1 13 rfl) disj_nil),⟨hs13,(hΦ 13 rfl).2.1,disj_nil,trivial⟩⟩;refine wp_seq ?_;refine wsr ?_;refine seq_val (.bool x22.2.2.1) r (fun R=>y_move r rfl) rfl fun fr r=>?_;refine seq_val (.bool (!x22.2.2.1)) r (fun R=>y_un r (u:=(.bool x22.2.2.1)) rfl rfl) rfl fun fr r=>?_
 refine wn ?_;refine wp_cond_split (t:=(!x22.2.2.1)) (r.ev rfl) (fun h26=>?_) (fun h26=>?_)
 ·
  have hD:=(cond_t h26).symm.trans hD;refine wsr ?_;refine seq_val (.pointer none) r (fun R=>y_assign r rfl) rfl fun fr r=>?_;refine wn ?_
  refine wp_ret ?_;exact nomatch hD
 have hD:=(cond_f h26).symm.trans hD;refine wp_skip ?_;refine wsr ?_;refine seq_val (.pointer (some ⟨mg12.mb,0,none⟩)) r (fun R=>y_move r rfl) rfl fun fr r=>?_;refine seq_val (.pointer (some ⟨mg12.mb,0,none⟩)) r (fun R=>y_assign r rfl) rfl fun fr r=>?_
 refine wn ?_;refine wp_ret ?_;have hv:x22.2.2.2=res:=Option.some.inj hD
 try dsimp only [Exit.then,Exit.inBlock]
 refine ret_tmp (fn:=Try.f6) r (t:=2) rfl (v:=(.pointer (some ⟨mg12.mb,0,none⟩))) rfl ?_;subst hv;exact ⟨mg12,rfl,(hP.pick [1] rfl rfl).done (rest_cons rfl rest_nil)⟩

def D.cubiclelaw10_awake (fu:Nat) :Option (Bool):=((D.cubiclelaw09_Laid fu (⟨2,1,4,0,1,1⟩:Plan)).bind (fun (x7:Mem)=>((D.mem_Memory_Cap fu x7 0).bind (fun (x15:Cap)=>((D.prog_Run_None fu (fu,(D.hazard_Set (⟨2,1,4,0,1,1⟩:Plan) 0 1 1)) x7 x15 9).bind (fun (x17:Unit × Int × Bool × Mem)=>((D.mem_Memory_Cap fu x17.2.2.2 0).bind (fun (x23:Cap)=>((D.prog_Run_bool fu (fu,(D.hazard_Held (fu+1) (⟨2,1,4,0,1,1⟩:Plan) 1)) x17.2.2.2 x23 9).bind (fun (x25:Bool × Int × Bool × Mem)=>(Option.bind (bif x25.1 then (some x25.2.2.1) else (some false)) (fun (x29:Bool)=>(some x29)))))))))))))

set_option maxRecDepth 20000 in
set_option maxHeartbeats 20000000 in
theorem c_cubiclelaw10_awake {fu:Nat} (w0:World) {res:Bool} (hD:D.cubiclelaw10_awake fu =some res) :
    Calls Try.prog 5 #[] w0 (PureRes (.bool res) w0):=by
 refine enter Try.func5 rfl 31 rfl rfl fun fr r=>?_;have hP:Post No [] w0 w0:=Post.nil w0
 unfold D.cubiclelaw10_awake at hD
 refine wsr ?_;refine seq_val (.bool false) r (fun R=>y_assign r rfl) rfl fun fr r=>?_;refine wn ?_
 refine wsr ?_;refine seq_val (.agg (planC (⟨2,1,4,0,1,1⟩:Plan)).toArray) r (fun R=>y_build r (by kernel_rfl)) rfl fun fr r=>?_;refine seq_new (.cells ((planC (⟨0,0,0,0,0,0⟩:Plan))).toArray 26 (0,0)) r (fun R=>y_alloc tz26) rfl fun fr b1 w2 n3 r=>?_
 have hP:Post No [cellC b1 ((planC (⟨0,0,0,0,0,0⟩:Plan))).toArray 26] w0 w2:=hP.new n3;refine seq_upd (.cells ((planC (⟨2,1,4,0,1,1⟩:Plan))).toArray 26 (0,0)) r (fun R=>y_store r (o:=0) (v:=(.agg (planC (⟨2,1,4,0,1,1⟩:Plan)).toArray)) rfl rfl (hP.cell (i:=0) rfl) ts26 (Nat.le_of_ble_eq_true rfl) rfl rfl) rfl fun fr w5 u6 r=>?_;have hP:Post No [cellC b1 ((planC (⟨2,1,4,0,1,1⟩:Plan))).toArray 26] w0 w5:=hP.upd (i:=0) rfl u6
 refine wn ?_;refine wsr ?_;refine seq_val (.agg (planC (⟨2,1,4,0,1,1⟩:Plan)).toArray) r (fun R=>y_load_agg r (cs:=(planC (⟨2,1,4,0,1,1⟩:Plan))) (n:=6) rfl (hP.cell (i:=0) rfl) ta26 rfl) rfl fun fr r=>?_;obtain ⟨x7,hx7,hD⟩:=bindD_elim hD
 refine seq_call r (c_cubiclelaw09_Laid w5 (⟨2,1,4,0,1,1⟩:Plan) hx7) (fun R hc=>y_call r rfl cl6 hc) rfl ?_;rintro _ w8 ⟨mg9,rfl,hq⟩
 refine ⟨_,rfl,fun fr r=>?_⟩
 have hP:Post No [cellC b1 ((planC (⟨2,1,4,0,1,1⟩:Plan))).toArray 26,memK mg9 x7] w0 w8:=hP.add hq;refine seq_val (.pointer (some ⟨mg9.mb,0,none⟩)) r (fun R=>y_assign r rfl) rfl fun fr r=>?_;refine wn ?_
 refine wp_seq ?_;refine wsr ?_;refine seq_val (.pointer (some ⟨mg9.mb,0,none⟩)) r (fun R=>y_move r rfl) rfl fun fr r=>?_;refine seq_val _ r (fun R=>y_bin r rfl rfl rfl rfl) rfl fun fr r=>?_
 refine wn ?_;refine wp_cond_split (t:=false) (r.ev rfl) (fun h=>absurd ((rfl:false=_).symm.trans h) (by decide)) (fun _=>?_);refine wp_skip ?_
 refine wsr ?_;refine seq_val (.agg (planC (⟨2,1,4,0,1,1⟩:Plan)).toArray) r (fun R=>y_load_agg r (cs:=(planC (⟨2,1,4,0,1,1⟩:Plan))) (n:=6) rfl (hP.cell (i:=0) rfl) ta26 rfl) rfl fun fr r=>?_;refine seq_call r (c_hazard_Set (F:=No) (n:=fu) (fun _ h=>h.elim) (⟨2,1,4,0,1,1⟩:Plan) 0 1 1) (fun R hc=>y_call r rfl cl24 hc) rfl ?_
 rintro _ w11 ⟨v12,rfl,hb,hr13⟩;refine ⟨_,rfl,fun fr r=>?_⟩
 have hP:Post No [cellC b1 ((planC (⟨2,1,4,0,1,1⟩:Plan))).toArray 26,memK mg9 x7,progK Try.prog encNone (fu,(D.hazard_Set (⟨2,1,4,0,1,1⟩:Plan) 0 1 1)) v12 (rg w8.heap.size w11.heap.size)] w0 w11:=hP.addProg hb hr13;refine seq_val (.pointer (some ⟨mg9.mb,0,none⟩)) r (fun R=>y_move r rfl) rfl fun fr r=>?_;refine seq_val (.pointer (some ⟨mg9.mb,0,none⟩)) r (fun R=>y_move r rfl) rfl fun fr r=>?_
 obtain ⟨x15,hx15,hD⟩:=bindD_elim hD;refine seq_call r (c_mem_Memory_Cap w11 x7 (hP.mem (i:=1) rfl) 0 hx15) (fun R hc=>y_call r rfl cl9 hc) rfl ?_;rintro _ w16 ⟨rfl,hb⟩
 refine ⟨_,rfl,fun fr r=>?_⟩
 have hP:Post No [cellC b1 ((planC (⟨2,1,4,0,1,1⟩:Plan))).toArray 26,memK mg9 x7,progK Try.prog encNone (fu,(D.hazard_Set (⟨2,1,4,0,1,1⟩:Plan) 0 1 1)) v12 (rg w8.heap.size w11.heap.size)] w0 w16:=hP.below hb;obtain ⟨x17,hx17,hD⟩:=bindD_elim hD;refine seq_call r (c_prog_Run_None w16 (fu,(D.hazard_Set (⟨2,1,4,0,1,1⟩:Plan) 0 1 1)) x7 x15 9 (hP.sep.pk [2,1] rfl rfl) hx17) (fun R hc=>y_call r rfl cl23 hc) rfl ?_;rintro _ w18 ⟨rfl,hq⟩
 refine ⟨_,rfl,fun fr r=>?_⟩
 have hP:Post No [cellC b1 ((planC (⟨2,1,4,0,1,1⟩:Plan))).toArray 26,memK mg9 x17.2.2.2,progK Try.prog encNone (fu,(D.hazard_Set (⟨2,1,4,0,1,1⟩:Plan) 0 1 1)) v12 (rg w8.heap.size w11.heap.size)] w0 w18:=hP.setN (i:=1) rfl hq;refine wn ?_;refine wsr ?_;refine seq_val (.agg (planC (⟨2,1,4,0,1,1⟩:Plan)).toArray) r (fun R=>y_load_agg r (cs:=(planC (⟨2,1,4,0,1,1⟩:Plan))) (n:=6) rfl (hP.cell (i:=0) rfl) ta26 rfl) rfl fun fr r=>?_;refine seq_call r (c_hazard_Held (F:=No) (n:=fu) (j:=fu+1) (fun _ h=>h.elim) (by omega) (⟨2,1,4,0,1,1⟩:Plan) 1) (fun R hc=>y_call r rfl cl26 hc) rfl ?_
 rintro _ w19 ⟨v20,rfl,hb,hr21⟩;refine ⟨_,rfl,fun fr r=>?_⟩
 have hP:Post No [cellC b1 ((planC (⟨2,1,4,0,1,1⟩:Plan))).toArray 26,memK mg9 x17.2.2.2,progK Try.prog encNone (fu,(D.hazard_Set (⟨2,1,4,0,1,1⟩:Plan) 0 1 1)) v12 (rg w8.heap.size w11.heap.size),progK Try.prog encBool (fu,(D.hazard_Held (fu+1) (⟨2,1,4,0,1,1⟩:Plan) 1)) v20 (rg w18.heap.size w19.heap.size)] w0 w19:=hP.addProg hb hr21;refine seq_val (.pointer (some ⟨mg9.mb,0,none⟩)) r (fun R=>y_move r rfl) rfl fun fr r=>?_;refine seq_val (.pointer (some ⟨mg9.mb,0,none⟩)) r (fun R=>y_move r rfl) rfl fun fr r=>?_
 obtain ⟨x23,hx23,hD⟩:=bindD_elim hD;refine seq_call r (c_mem_Memory_Cap w19 x17.2.2.2 (hP.mem (i:=1) rfl) 0 hx23) (fun R hc=>y_call r rfl cl9 hc) rfl ?_;rintro _ w24 ⟨rfl,hb⟩
 refine ⟨_,rfl,fun fr r=>?_⟩
 have hP:Post No [cellC b1 ((planC (⟨2,1,4,0,1,1⟩:Plan))).toArray 26,memK mg9 x17.2.2.2,progK Try.prog encNone (fu,(D.hazard_Set (⟨2,1,4,0,1,1⟩:Plan) 0 1 1)) v12 (rg w8.heap.size w11.heap.size),progK Try.prog encBool (fu,(D.hazard_Held (fu+1) (⟨2,1,4,0,1,1⟩:Plan) 1)) v20 (rg w18.heap.size w19.heap.size)] w0 w24:=hP.below hb;obtain ⟨x25,hx25,hD⟩:=bindD_elim hD;refine seq_call r (c_prog_Run_bool w24 (fu,(D.hazard_Held (fu+1) (⟨2,1,4,0,1,1⟩:Plan) 1)) x17.2.2.2 x23 9 (hP.sep.pk [3,1] rfl rfl) hx25) (fun R hc=>y_call r rfl cl25 hc) rfl ?_;rintro _ w26 ⟨rfl,hq⟩
 refine ⟨_,rfl,fun fr r=>?_⟩
 have hP:Post No [cellC b1 ((planC (⟨2,1,4,0,1,1⟩:Plan))).toArray 26,memK mg9 x25.2.2.2,progK Try.prog encNone (fu,(D.hazard_Set (⟨2,1,4,0,1,1⟩:Plan) 0 1 1)) v12 (rg w8.heap.size w11.heap.size),progK Try.prog encBool (fu,(D.hazard_Held (fu+1) (⟨2,1,4,0,1,1⟩:Plan) 1)) v20 (rg w18.heap.size w19.heap.size)] w0 w26:=hP.setN (i:=1) rfl hq;refine seq_val (.tuple #[(.bool x25.1),(I x25.2.1),(.bool x25.2.2.1)]) r (fun R=>y_move r rfl) rfl fun fr r=>?_;refine seq_val (.bool x25.1) r (fun R=>y_extract r (vs:=#[(.bool x25.1),(I x25.2.1),(.bool x25.2.2.1)]) rfl rfl) rfl fun fr r=>?_
 refine seq_val (I x25.2.1) r (fun R=>y_extract r (vs:=#[(.bool x25.1),(I x25.2.1),(.bool x25.2.2.1)]) rfl rfl) rfl fun fr r=>?_;refine seq_val (.bool x25.2.2.1) r (fun R=>y_extract r (vs:=#[(.bool x25.1),(I x25.2.1),(.bool x25.2.2.1)]) rfl rfl) rfl fun fr r=>?_
 refine seq_val (.bool x25.1) r (fun R=>y_assign r rfl) rfl fun fr r=>?_;refine seq_val (I x25.2.1) r (fun R=>y_assign r rfl) rfl fun fr r=>?_
 refine seq_val (.bool x25.2.2.1) r (fun R=>y_assign r rfl) rfl fun fr r=>?_;refine wn ?_
 refine wp_seq ?_;have hP:Post No [cellC b1 ((planC (⟨2,1,4,0,1,1⟩:Plan))).toArray 26,memK mg9 x25.2.2.2] w0 w26:=hP.pick [0,1] rfl rfl;refine wp_joinG (N:=31) (Y:=Bool) (G:=Unit) (fun x γ=>[(1,(.pointer (some ⟨b1,0,none⟩))),(2,(.pointer (some ⟨mg9.mb,0,none⟩))),(10,(.bool false)),(3,(.bool x25.1)),(5,(.bool x25.2.2.1)),(0,(.bool x))]) (fun x γ w=>Post No [cellC b1 ((planC (⟨2,1,4,0,1,1⟩:Plan))).toArray 26,memK mg9 x25.2.2.2] w0 w) hD ?_ ?_
 ·
  rintro y27 RPy27 nxy27 hD;refine wp_region_lit ?_;refine seq_val (.bool x25.1) r (fun R=>y_move r rfl) rfl fun fr r=>?_;refine seq_val (.bool x25.1) r (fun R=>y_move r rfl) rfl fun fr r=>?_
  refine seq_split x25.1 (fun h28=>?_) (fun h28=>?_)
  ·
   have hD:=(cond_t h28).symm.trans hD;refine s1 r h28 ?_;refine seq_val (.bool x25.2.2.1) r (fun R=>y_move r rfl) rfl fun fr r=>?_;refine seq_val (.bool x25.2.2.1) r (fun R=>y_pick r (b:=true) (congrArg Value.bool h28) rfl) rfl fun fr r=>?_
   refine seq_val (.bool x25.2.2.1) r (fun R=>y_assign r rfl) rfl fun fr r=>?_;refine wn ?_
   exact nxy27 x25.2.2.1 () _ _ _ hD r (hs_cons rfl (hs_cons rfl (hs_cons rfl (hs_cons rfl (hs_cons rfl (hs_cons rfl hs_nil)))))) (hP.pick [0,1] rfl rfl)
  have hD:=(cond_f h28).symm.trans hD;refine s0 r h28 fun fr r=>?_;refine seq_val (.bool false) r (fun R=>y_pick r (b:=false) (congrArg Value.bool h28) rfl) rfl fun fr r=>?_
  refine seq_val (.bool false) r (fun R=>y_assign r rfl) rfl fun fr r=>?_;refine wn ?_
  exact nxy27 false () _ _ _ hD r (hs_cons rfl (hs_cons rfl (hs_cons rfl (hs_cons rfl (hs_cons rfl (hs_cons rfl hs_nil)))))) (hP.pick [0,1] rfl rfl)
 rintro x29 γ30 fr w31 g r hP hD;have hP:Post No [cellC b1 ((planC (⟨2,1,4,0,1,1⟩:Plan))).toArray 26,memK mg9 x25.2.2.2] w0 w31:=hP;refine wp_ret ?_;have hv:x29=res:=Option.some.inj hD
 try dsimp only [Exit.then,Exit.inBlock]
 refine ret_tmp (fn:=Try.f5) r (t:=0) rfl (v:=(.bool x29)) rfl ?_;subst hv;exact ⟨rfl,hP.chg.below⟩

def D.cubicleref10_Named (a0:Int) (a1:Int):Int:=(IntKind.i64.wrap ((IntKind.i64.wrap (shrI .u64 a0 a1)) - 1))

theorem c_cubicleref10_Named (w0:World) 
    (a0:Int) (a1:Int) (pre0:0≤a1) :
    Calls Try.prog 13 #[.int .u64 a0,.int .i64 a1] w0 (PureRes (.int .i64 (D.cubicleref10_Named a0 a1)) w0):=by
 refine enter Try.func13 rfl 10 rfl rfl fun fr r=>?_;have hB:=Below.refl w0.heap.size w0
 refine wsr ?_;refine seq_val (I 0) r (fun R=>y_assign r rfl) rfl fun fr r=>?_;refine wn ?_
 refine wsr ?_;refine seq_val (U a0) r (fun R=>y_move r rfl) rfl fun fr r=>?_;refine seq_val (I a1) r (fun R=>y_move r rfl) rfl fun fr r=>?_
 refine seq_val _ r (fun R=>y_bin r rfl rfl rfl (bin_shr (by first | assumption | decide))) rfl fun fr r=>?_;refine seq_val (I (W (shrI .u64 a0 a1))) r (fun R=>y_convert r rfl ti22 ti3) rfl fun fr r=>?_
 refine seq_val _ r (fun R=>y_bin r rfl rfl rfl rfl) rfl fun fr r=>?_;refine seq_val (I (W ((W (shrI .u64 a0 a1)) - 1))) r (fun R=>y_assign r rfl) rfl fun fr r=>?_
 refine wn ?_;refine wp_ret ?_;refine ret_tmp r rfl rfl ?_;exact ⟨rfl,hB⟩

end Go.Proofs.Ytikjpdpgdmbdpaa

/- The numbers of formed plans. -/
namespace Go.Proofs.Ytikjpdpgdmbdpaa
open Go.RowKit
theorem wrap_id {x:Int} (h0:-9223372036854775808≤x) (h1:x≤9223372036854775807):IntKind.i64.wrap x=x:=by
  simp only [IntKind.wrap]
  simp [IntKind.signed,IntKind.bits]
  omega

structure PF (p:Plan):Prop where
  n1:1≤p.nodes
  n2:p.nodes≤1048576
  t1:1≤p.threads
  t2:p.threads≤16
  d1:0≤p.domains
  d2:p.domains≤64
  b1:1≤p.buckets
  b2:p.buckets≤256
  g1:1≤p.gen
  g2:p.gen≤1073741823
  r1:3 * p.threads+1≤p.retire
  r2:p.retire≤1024

theorem all_nil {α:Type} {P:α→Prop}:(∀ b,b∈([]:List α)→P b)↔True:=⟨fun _=>trivial,fun _ _ hb=>nomatch hb⟩

theorem all_cons {α:Type} {P:α→Prop} {x:α} {l:List α}:(∀ b,b∈x::l→P b)↔P x∧∀ b,b∈l→P b:=List.forall_mem_cons

section
variable {p : Plan} (hp : PF p)
include hp
end
end Go.Proofs.Ytikjpdpgdmbdpaa

/- Loops that are computed, by what holds at each round; small numbers. -/
namespace Go.Proofs.Ytikjpdpgdmbdpaa
open Go.RowKit
theorem loop_inv {X Z:Type} {body:X→Option (Lp X Z)} {f:X→Option Z} {x0:X} (Q:Option Z→Prop) (I:Nat→X→Prop) (n k:Nat) (h0:I 0 x0) (hk:n<k)
    (hs:∀ i x,i<n→I i x→∃ x',body x=some (.next x')∧I (i+1) x') (he:∀ x,I n x→∃ x',body x=some (.brk x')∧Q (f x')):Q (loopThen body k x0 f):=by
  have h:∀ d i x,i+d=n→I i x→∀ k,d<k→Q ((runLoop body k x).bind (afterLoop f)):=by
    intro d
    induction d with
    | zero=>
      intro i x hi hI k hk;obtain ⟨k,rfl⟩:∃ q,k=q+1:=⟨k - 1,by omega⟩
      obtain rfl:i=n:=by omega
      obtain ⟨x',hb,hf⟩:=he x hI;simp only [runLoop,hb,Option.bind_some,goOn,afterLoop];exact hf
    | succ d ih=>
      intro i x hi hI k hk;obtain ⟨k,rfl⟩:∃ q,k=q+1:=⟨k - 1,by omega⟩
      obtain ⟨x',hb,hI'⟩:=hs i x (by omega) hI;simp only [runLoop,hb,Option.bind_some,goOn];exact ih (i+1) x' (by omega) hI' k (by omega)
  exact h n 0 x0 (by omega) h0 k hk

theorem getI_nat {α:Type} {l:List α} {i:Nat} (h:i<l.length):getI l i=some l[i]:=by
  unfold getI;rw [if_pos (by omega),Int.toNat_natCast,List.getElem?_eq_getElem h]

theorem wrap_small {x:Int} (h0:-1000000≤x) (h1:x≤1000000):IntKind.i64.wrap x=x:=wrap_id (by omega) (by omega)

end Go.Proofs.Ytikjpdpgdmbdpaa

/- Programs' trees run on words: what a run of a program comes to, without the code. -/
namespace Go.Proofs.Ytikjpdpgdmbdpaa
open Go.RowKit

/-- The words behind an access that is done. -/
def acted (op at_ a b x:Int) (ws:List Int):List Int:=
  if op=1 then ws.set at_.toNat a else if op=2 then (if x=a then ws.set at_.toNat b else ws) else if op=3 then ws.set at_.toNat (IntKind.u64.wrap (x+a)) else ws

/-- A tree comes to its end, in so many steps. -/
inductive Runs {R:Type}:T R→List Int→Nat→R→List Int→Prop
  | done (r:R) (ws:List Int):Runs (.done r) ws 0 r ws
  | act {op at_ a b x:Int} {k:Int→T R} {ws ws':List Int} {n:Nat} {r:R} (h1:0≤op∧op≤3) (h2:getI ws at_=some x) (h:Runs (k x) (acted op at_ a b x ws) n r ws'):Runs (.act op at_ a b k) ws (n+1) r ws'

theorem Runs.bind {A B:Type} {t:T A} {g:A→T B} {ws ws' ws'':List Int} {n m:Nat} {a:A} {b:B} (h:Runs t ws n a ws') (h2:Runs (g a) ws' m b ws''):Runs (t.bind g) ws (n+m) b ws'':=by
  induction h with
  | done r ws=>simpa [T.bind] using h2
  | @act op at_ a b x k ws ws' n r h1 h3 _ ih=>
    have:=Runs.act (k:=fun x=>(k x).bind g) h1 h3 (ih h2)
    rw [show n+1+m=n+m+1 from by omega]
    exact this

/-- The good capability. -/
def cap0:Cap:=⟨0,1⟩

theorem Cap_eq (fu:Nat) (M:Mem):D.mem_Memory_Cap fu M 0=some cap0:=rfl

theorem Do_ok {fu:Nat} {M:Mem} {op at_ a b x:Int} (h1:0≤op∧op≤3) (h2:getI M.ws at_=some x):∃ c,D.mem_Memory_Do fu M cap0 ⟨op,at_,a,b⟩=some (x,true,⟨acted op at_ a b x M.ws,c⟩):=by
  obtain ⟨h3,h4,_,_⟩:=getI_lt h2;refine ⟨IntKind.i64.wrap (M.cnt+1),?_⟩;unfold D.mem_Memory_Do;have hG:D.mem_Memory_Good fu M cap0=some true:=rfl;have hS:D.mem_Memory_Size fu M cap0.region=some (M.ws.length:Int):=rfl;simp only [hG,hS,Option.bind_some,Bool.not_true,cond_false];rw [show decide (at_<0)=false from by simp; omega,show decide (at_≥(M.ws.length:Int))=false from by simp; omega,show decide (op<0)=false from by simp; omega,show decide (op > 3)=false from by simp; omega]
  simp only [cond_false,Option.bind_some]
  rw [show zeroI cap0.region=some () from rfl,h2]
  simp only [Option.bind_some]
  by_cases e1:op=1
  · subst e1
    simp [acted,Mem.put]
  rw [show (op==1)=false from by simpa using e1]
  by_cases e2:op=2
  · subst e2
    by_cases e3:x=a
    · subst e3; simp [acted,Mem.put]
    · rw [show (x==a)=false from by simpa using e3]
      simp [acted,e3]
  rw [show (op==2)=false from by simpa using e2]
  by_cases e3:op=3
  · subst e3; simp [acted,Mem.put]
  rw [show (op==3)=false from by simpa using e3]
  simp [acted,e1,e2,e3]

section
variable {R : Type}
/-- A step, for whatever comes out. -/
def stepG (fu:Nat) (a0:Nat × T R) (a1:Mem) (a2:Cap):Option ((Nat × T R) × Bool × Mem):=(bif a0.2.isDone then (some (a0,false,a1)) else ((D.mem_Memory_Do fu a1 a2 (T.acc a0.2)).bind (fun (x16:Int × Bool × Mem)=>(bif (!x16.2.1) then (some (a0,false,x16.2.2)) else ((depthI a0.1).bind (fun (x26:Nat)=>(some ((x26,T.next a0.2 x16.1),true,x16.2.2))))))))

theorem stepG_ok {fu d:Nat} {M:Mem} {op at_ a b x:Int} {k:Int→T R} (h1:0≤op∧op≤3) (h2:getI M.ws at_=some x):∃ c,stepG fu (d+1,.act op at_ a b k) M cap0=some ((d,k x),true,⟨acted op at_ a b x M.ws,c⟩):=by
  obtain ⟨c,hc⟩:=Do_ok (fu:=fu) (a:=a) (b:=b) h1 h2;refine ⟨c,?_⟩;unfold stepG;show ((D.mem_Memory_Do fu M cap0 ⟨op,at_,a,b⟩).bind _)=_
  rw [hc]
  rfl

end
/-! ### Words by their places -/
/-- The word at a place. -/
def rd (ws:List Int) (i:Int):Int:=ws.getD i.toNat 0

theorem getI_rd {ws:List Int} {i:Int} (h0:0≤i) (h1:i<ws.length):getI ws i=some (rd ws i):=by
  unfold getI rd;rw [if_pos h0,List.getD_eq_getElem?_getD,List.getElem?_eq_getElem (by omega)]
  rfl

theorem rd_set {ws:List Int} {i j v:Int} (h0:0≤i) (h1:i<ws.length) (hj:0≤j):rd (ws.set i.toNat v) j=if j=i then v else rd ws j:=by
  unfold rd;simp only [List.getD_eq_getElem?_getD,List.getElem?_set]
  by_cases h:j=i
  · subst h
    simp [show j.toNat<ws.length from by omega]
  · rw [if_neg (by omega),if_neg h]

theorem Runs.load {R:Type} {at_:Int} {k:Int→T R} {ws ws':List Int} {n:Nat} {r:R} (h0:0≤at_) (h1:at_<ws.length) (h:Runs (k (rd ws at_)) ws n r ws'):Runs (.act 0 at_ 0 0 k) ws (n+1) r ws':=
  .act (by omega) (getI_rd h0 h1) (by simpa [acted] using h)

theorem Runs.store {R:Type} {at_ w:Int} {k:Int→T R} {ws ws':List Int} {n:Nat} {r:R} (h0:0≤at_) (h1:at_<ws.length) (h:Runs (k (rd ws at_)) (ws.set at_.toNat w) n r ws'):Runs (.act 1 at_ w 0 k) ws (n+1) r ws':=
  .act (by omega) (getI_rd h0 h1) (by simpa [acted] using h)

theorem wrapu_id {x:Int} (h0:0≤x) (h1:x<18446744073709551616):IntKind.u64.wrap x=x:=by
  simp only [IntKind.wrap]
  simp [IntKind.signed,IntKind.bits]
  omega

/-! ### A memory that is laid out -/
/-- What is laid out: the list of free nodes; all else is 0. -/
structure LaidAt (p:Plan) (ws:List Int):Prop where
  len:(ws.length:Int)=D.plan_Plan_Size p
  head:rd ws 0=1
  next:∀ m,0≤m→m<p.nodes→rd ws (D.plan_Plan_nodes p+m * 5+1)=if m+1=p.nodes then 0 else m+2
  zero:∀ j,0<j→(∀ m,0≤m→m<p.nodes→j≠D.plan_Plan_nodes p+m * 5+1)→rd ws j=0

end Go.Proofs.Ytikjpdpgdmbdpaa

/- Hazards' programs: what they come to, without the code. -/
namespace Go.Proofs.Ytikjpdpgdmbdpaa
open Go.RowKit

theorem word_eq {n:Int} (h0:-1≤n) (h1:n≤1000000000000000000):D.hazard_word n=n+1:=by
  unfold D.hazard_word;have h2:IntKind.i64.wrap (n+1)=n+1:=wrap_id (by omega) (by omega);rw [h2];exact wrapu_id (by omega) (by omega)

theorem Peek_eq {fu:Nat} {M:Mem} {i:Int} (h0:0≤i) (h1:i<M.ws.length):D.mem_Memory_Peek fu M 0 i=some (rd M.ws i):=by
  unfold D.mem_Memory_Peek;have hS:D.mem_Memory_Size fu M 0=some (M.ws.length:Int):=rfl;rw [show decide (i<0)=false from by simp; omega]
  simp only [cond_false,hS,Option.bind_some]
  rw [show decide (i≥(M.ws.length:Int))=false from by simp; omega,show zeroI 0=some () from rfl,getI_rd h0 h1]
  rfl

theorem shr_eq {w sh:Int} (h0:0≤w) (h:0≤sh∧sh<3):shrI .u64 w sh=w / 2 ^ sh.toNat∧0≤w / 2 ^ sh.toNat∧w / 2 ^ sh.toNat≤w:=by
  have hp:(0:Int)<2 ^ sh.toNat:=Int.pow_pos (by omega)
  refine ⟨?_,Int.ediv_nonneg h0 (by omega),Int.ediv_le_self _ h0⟩;unfold shrI;rw [show min sh.toNat IntKind.u64.bits=sh.toNat from by simp [IntKind.bits]; omega]
  exact Int.fdiv_eq_ediv_of_nonneg _ (by omega)

end Go.Proofs.Ytikjpdpgdmbdpaa

/- Two programs side by side in one block. -/
set_option linter.unusedVariables false
namespace Go.Proofs.Ytikjpdpgdmbdpaa
open Go.RowKit
theorem arr7 {α:Type} {c:Array α} (h:c.size=7):∃ x0 x1 x2 x3 x4 x5 x6,c=#[x0,x1,x2,x3,x4,x5,x6]:=by
  obtain ⟨l⟩:=c
  match l,h with
  | [x0,x1,x2,x3,x4,x5,x6],_=>exact ⟨x0,x1,x2,x3,x4,x5,x6,rfl⟩

theorem over_end {c:Array Value}:∀ {l pre mid suf:List Value},c=(pre++mid++suf).toArray→l.length=mid.length→over c pre.length l=(pre++l++suf).toArray
  | [],pre,[],suf,hc,_=>by subst hc; rfl
  | v::l,pre,m::mid,suf,hc,hl=>by
    unfold over;have h1:c.setIfInBounds pre.length v=((pre++[v])++mid++suf).toArray:=by
      subst hc;simp
    rw [h1]
    have:=over_end (c:=((pre++[v])++mid++suf).toArray) (l:=l) (pre:=pre++[v]) (mid:=mid) (suf:=suf) rfl (by simpa using hl)
    rw [List.length_append,List.length_singleton] at this
    rw [this]
    simp

section
variable {R : Type} {E : Enc R} {P : Program} {w : World} {a : Act} {d : Option Tmp} {ty : TypeId} {pos : String} {aft : Array Edge} {N : Nat} {s : SL}
theorem y_progAt {x y:Operand} {t:TypeId} {b n k:Nat} {Q:Value→World→Prop} (hfr:Fr a N s) (j:Nat) (ht:sliceTy P t k=true) (hx:lookO s x=.slice (some ⟨b,0,none⟩) n n) (hy:lookO s y=.int .i64 (j:Int)) (h1:j<n)
    (hr:Q (.pointer (some ⟨b,j * k,none⟩)) w):Yields P ⟨d,.indexAddr t x y,ty,pos,aft,none⟩ a w Q:=
  y_indexAddr hfr ht hx hy (by omega) (by omega) (by rw [Nat.zero_add,Int.toNat_natCast]; exact hr)

theorem y_loadp1 {x:Operand} {b:Nat} {t Et:TypeId} {v0 v1:Value} {Q:Value→World→Prop} (hfr:Fr a N s) (h0:Shape E v0) (h1:Shape E v1)
    (hx:lookO s x=.pointer (some ⟨b,0,none⟩)) (h:w.heap[b]?=some (.cells (v0.cells++v1.cells) Et (0,0))) (ht:tyA P t (E.n+6)=true) (hr:Q v0 w):Yields P ⟨d,.load t x,ty,pos,aft,none⟩ a w Q:=by
  obtain ⟨c,rfl,g1,g2⟩:=h0;have hl:c.toList.length=E.n+6:=by simpa using g1
  refine y_load_agg hfr (cs:=c.toList) (n:=E.n+6) hx h (by rw [hl]; exact ht) ?_ (by simpa using hr);show ((c++v1.cells).toList.drop 0).take (E.n+6)=c.toList
  rw [List.drop_zero,Array.toList_append,←hl,List.take_left]

theorem y_loadp2 {x:Operand} {b o:Nat} {t Et:TypeId} {v0 v1:Value} {Q:Value→World→Prop} (hfr:Fr a N s) (h0:Shape E v0) (h1:Shape E v1)
    (hx:lookO s x=.pointer (some ⟨b,o,none⟩)) (h:w.heap[b]?=some (.cells (v0.cells++v1.cells) Et (0,0))) (ht:tyA P t (E.n+6)=true) (ho:o=E.n+6) (hr:Q v1 w):Yields P ⟨d,.load t x,ty,pos,aft,none⟩ a w Q:=by
  obtain ⟨c,rfl,g1,g2⟩:=h1;have hl:c.toList.length=E.n+6:=by simpa using g1
  have hl0:v0.cells.toList.length=o:=by rw [ho]; simpa using h0.cells.1
  refine y_load_agg hfr (cs:=c.toList) (n:=E.n+6) hx h (by rw [hl]; exact ht) ?_ (by simpa using hr);show ((v0.cells++c).toList.drop o).take (E.n+6)=c.toList
  rw [Array.toList_append,←hl0,List.drop_left,←hl,List.take_length]

theorem y_storep1 {x y:Operand} {b:Nat} {t Et:TypeId} {v v0 v1:Value} {Q:Value→World→Prop} (hfr:Fr a N s) (hv:Shape E v) (h0:Shape E v0) (h1:Shape E v1)
    (hx:lookO s x=.pointer (some ⟨b,0,none⟩)) (hy:lookO s y=v) (h:w.heap[b]?=some (.cells (v0.cells++v1.cells) Et (0,0))) (ht:sized P t (E.n+6)=true)
    (hr:∀ w',Upd w w' b (.cells (v.cells++v1.cells) Et (0,0))→Q undef w'):Yields P ⟨d,.store t x y,ty,pos,aft,none⟩ a w Q:=by
  have e:=hv.cells; have e0:=h0.cells;refine y_store hfr hx hy h (by rw [e.1]; exact ht) (by rw [e.1,Array.size_append,e0.1]; omega) e.2.1 ?_ hr
  have:=over_end (c:=v0.cells++v1.cells) (l:=v.cells.toList) (pre:=[]) (mid:=v0.cells.toList) (suf:=v1.cells.toList) (by rw [←Array.toList_inj]; simp) (by simp [e.1,e0.1])
  rw [List.length_nil] at this
  rw [this,←Array.toList_inj]
  simp

theorem y_storep2 {x y:Operand} {b o:Nat} {t Et:TypeId} {v v0 v1:Value} {Q:Value→World→Prop} (hfr:Fr a N s) (hv:Shape E v) (h0:Shape E v0) (h1:Shape E v1)
    (hx:lookO s x=.pointer (some ⟨b,o,none⟩)) (hy:lookO s y=v) (h:w.heap[b]?=some (.cells (v0.cells++v1.cells) Et (0,0))) (ht:sized P t (E.n+6)=true) (ho:o=E.n+6)
    (hr:∀ w',Upd w w' b (.cells (v0.cells++v.cells) Et (0,0))→Q undef w'):Yields P ⟨d,.store t x y,ty,pos,aft,none⟩ a w Q:=by
  have e:=hv.cells; have e0:=h0.cells; have e1:=h1.cells;refine y_store hfr hx hy h (by rw [e.1]; exact ht) (by rw [e.1,Array.size_append,e0.1,e1.1]; omega) e.2.1 ?_ hr
  have:=over_end (c:=v0.cells++v1.cells) (l:=v.cells.toList) (pre:=v0.cells.toList) (mid:=v1.cells.toList) (suf:=[]) (by rw [←Array.toList_inj]; simp) (by simp [e.1,e1.1])
  have hl0:v0.cells.toList.length=o:=by rw [ho]; simpa using e0.1
  rw [hl0] at this
  rw [this,←Array.toList_inj]
  simp

end
end Go.Proofs.Ytikjpdpgdmbdpaa

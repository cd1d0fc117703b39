/- Written by a program of ours (wip/gen.py): a law -/
import Derived.Test.YtikjpdpgdmbdpaaHwM10
set_option linter.all false
set_option linter.unusedVariables false
set_option maxRecDepth 20000
set_option maxHeartbeats 2000000
namespace Go.Proofs.Ytikjpdpgdmbdpaa.Wk
open Go.RowKit
theorem bp41 {v0 v1:Value} {w:World} (h0:Shape encWord v0) (h1:Shape encWord v1):(Instr.buildSlice 41 2 [(0,v0),(1,v1)].toArray).run Try.prog w=.ok (.slice (some ⟨w.heap.size,0,none⟩) 2 2) (w.alloc (.cells (v0.cells++v1.cells) 39)):=by
  obtain ⟨c0,rfl,a0,_⟩:=h0;obtain ⟨c1,rfl,a1,_⟩:=h1;obtain ⟨x0,x1,x2,x3,x4,x5,x6,rfl⟩:=arr7 a0;obtain ⟨y0,y1,y2,y3,y4,y5,y6,rfl⟩:=arr7 a1
  kernel_rfl

theorem cl10:callable Try.prog 10=true:=by kernel_rfl

theorem cl11:callable Try.prog 11=true:=by kernel_rfl

theorem cl12:callable Try.prog 12=true:=by kernel_rfl

theorem cl13:callable Try.prog 13=true:=by kernel_rfl

theorem cl14:callable Try.prog 14=true:=by kernel_rfl

theorem cl5:callable Try.prog 5=true:=by kernel_rfl

theorem cl7:callable Try.prog 7=true:=by kernel_rfl

theorem is23:isSlice Try.prog 23=true:=by kernel_rfl

theorem sl23:sliceTy Try.prog 23 1=true:=by kernel_rfl

theorem sl41:sliceTy Try.prog 41 7=true:=by kernel_rfl

theorem ti5:intTy Try.prog 5 .u8=true:=by kernel_rfl

def D.cubiclelaw10_HazardTwo (fu:Nat) (a0:Int) (a1:Int) (a2:List Bool):Option (Bool):=(Option.bind ((D.cubiclelaw10_awake fu ).bind (fun (x2:Bool)=>(bif (!x2) then (some true) else (some (decide ((a2.length:Int) > 20)))))) (fun (x5:Bool)=>(bif x5 then ((D.cubiclelaw10_awake fu ).bind (fun (x9:Bool)=>(some x9))) else ((D.cubiclelaw09_Laid fu (⟨4,2,7,0,1,9⟩:Plan)).bind (fun (x17:Mem)=>((D.mem_Memory_Cap fu x17 0).bind (fun (x22:Cap)=>((D.mem_Memory_Do fu x17 x22 (⟨1,(D.plan_Plan_Field (⟨4,2,7,0,1,9⟩:Plan) 3 0),(a0.tmod 1099511627776),0⟩:Access)).bind (fun (x24:Int × Bool × Mem)=>((guardI (decide (0≤(IntKind.i64.wrap (a1.tmod 3))))).bind (fun (x26:Unit)=>((guardI (decide (0≤(IntKind.i64.wrap (a1.tmod 3))))).bind (fun (x28:Unit)=>(loopThen (fun (x39:Int × Mem × ((Nat × T Int) × (Nat × T Int)))=>(bif (decide (x39.1<(IntKind.i64.wrap ((a2.length:Int)+8)))) then (Option.bind (bif (decide (x39.1<(a2.length:Int))) then ((getI a2 x39.1).bind (fun (x46:Bool)=>(some x46))) else (some false)) (fun (x47:Bool)=>(Option.bind (bif x47 then (some 1) else (Option.bind (bif (decide (x39.1<(a2.length:Int))) then (some 0) else (some (x39.1.tmod 2))) (fun (x54:Int)=>(some x54)))) (fun (x57:Int)=>(bif (x57==0) then ((D.mem_Memory_Cap fu x39.2.1 0).bind (fun (x61:Cap)=>((D.prog_Prog_uint64_Step fu x39.2.2.1 x39.2.1 x61).bind (fun (x62:(Nat × T Int) × Bool × Mem)=>(some (Lp.next ((IntKind.i64.wrap (x39.1+1)),x62.2.2,(x62.1,x39.2.2.2)))))))) else (bif (x57==1) then ((D.mem_Memory_Cap fu x39.2.1 0).bind (fun (x71:Cap)=>((D.prog_Prog_uint64_Step fu x39.2.2.2 x39.2.1 x71).bind (fun (x72:(Nat × T Int) × Bool × Mem)=>(some (Lp.next ((IntKind.i64.wrap (x39.1+1)),x72.2.2,(x39.2.2.1,x72.1)))))))) else none)))))) else (some (Lp.brk (x39.1,x39.2.1,(x39.2.2.1,x39.2.2.2)))))) fu (0,x24.2.2,((fu,(D.hazard_Guard (fu+1) (⟨4,2,7,0,1,9⟩:Plan) 0 1 (D.plan_Plan_Field (⟨4,2,7,0,1,9⟩:Plan) 3 0) (IntKind.i64.wrap (a1.tmod 3)))),(fu,(D.hazard_Guard (fu+1) (⟨4,2,7,0,1,9⟩:Plan) 1 2 (D.plan_Plan_Field (⟨4,2,7,0,1,9⟩:Plan) 3 0) (IntKind.i64.wrap (a1.tmod 3)))))) (fun (x80:Int × Mem × ((Nat × T Int) × (Nat × T Int)))=>((D.prog_Prog_uint64_Over fu x80.2.2.1).bind (fun (x83:Int × Bool)=>((D.prog_Prog_uint64_Over fu x80.2.2.2).bind (fun (x85:Int × Bool)=>(Option.bind (bif x83.2 then (bif x85.2 then (bif (x83.1==(a0.tmod 1099511627776)) then (bif (x85.1==(a0.tmod 1099511627776)) then ((D.mem_Memory_Peek fu x80.2.1 0 (D.plan_Plan_Hazard (⟨4,2,7,0,1,9⟩:Plan) 0 1)).bind (fun (x94:Int)=>(bif (x94==(IntKind.u64.wrap (IntKind.i64.wrap ((D.cubicleref10_Named (a0.tmod 1099511627776) (IntKind.i64.wrap (a1.tmod 3)))+1)))) then ((D.mem_Memory_Peek fu x80.2.1 0 (D.plan_Plan_Hazard (⟨4,2,7,0,1,9⟩:Plan) 1 2)).bind (fun (x98:Int)=>(some (x98==(IntKind.u64.wrap (IntKind.i64.wrap ((D.cubicleref10_Named (a0.tmod 1099511627776) (IntKind.i64.wrap (a1.tmod 3)))+1))))))) else (some false)))) else (some false)) else (some false)) else (some false)) else (some false)) (fun (x100:Bool)=>(some x100))))))))))))))))))))))

set_option maxRecDepth 20000 in
set_option maxHeartbeats 20000000 in
theorem c_cubiclelaw10_HazardTwo {fu:Nat} (w0:World) (a0:Int) (a1:Int) {a2_v:Value} (a2:List Bool) (a2_h:RoAt 4 1 boolE a2_v a2 w0) {res:Bool} (hD:D.cubiclelaw10_HazardTwo fu a0 a1 a2=some res) :
    Calls Try.prog 3 #[.int .u64 a0,.int .u8 a1,a2_v] w0 (PureRes (.bool res) w0):=by
 refine enter Try.func3 rfl 144 rfl rfl fun fr r=>?_;have hP:Post No [] w0 w0:=Post.nil w0
 have hP:Post No [roK 4 1 boolE a2_v a2] w0 w0:=hP.addRo norw_nil a2_h rfl a2_h.lt;unfold D.cubiclelaw10_HazardTwo at hD
 refine wsr ?_;refine seq_val (.bool false) r (fun R=>y_assign r rfl) rfl fun fr r=>?_;refine wn ?_
 refine wp_seq ?_;refine wp_seq ?_;refine wp_joinG (N:=144) (Y:=Bool) (G:=Unit) (fun x γ=>[(0,(U a0)),(1,(.int .u8 a1)),(2,a2_v),(6,(.bool false)),(27,(.bool x))]) (fun x γ w=>Post No [roK 4 1 boolE a2_v a2] w0 w) hD ?_ ?_
 ·
  rintro y1 RPy1 nxy1 hD;refine wp_region_lit ?_;obtain ⟨x2,hx2,hD⟩:=bindD_elim hD;refine seq_call r (c_cubiclelaw10_awake w0  hx2) (fun R hc=>y_call r rfl cl5 hc) rfl ?_;rintro _ w3 ⟨rfl,hb⟩
  refine ⟨_,rfl,fun fr r=>?_⟩
  have hP:Post No [roK 4 1 boolE a2_v a2] w0 w3:=hP.below hb;refine seq_val (.bool (!x2)) r (fun R=>y_un r (u:=(.bool x2)) rfl rfl) rfl fun fr r=>?_;refine seq_val (.bool (!x2)) r (fun R=>y_move r rfl) rfl fun fr r=>?_
  refine seq_split (!x2) (fun h4=>?_) (fun h4=>?_)
  ·
   have hD:=(cond_t h4).symm.trans hD;refine s0 r h4 fun fr r=>?_;refine s0 r h4 fun fr r=>?_
   refine s0 r h4 fun fr r=>?_;refine seq_val (.bool true) r (fun R=>y_pick r (b:=true) (congrArg Value.bool h4) rfl) rfl fun fr r=>?_
   refine wn ?_;exact nxy1 true () _ _ _ hD r (hs_cons rfl (hs_cons rfl (hs_cons rfl (hs_cons rfl (hs_cons rfl hs_nil))))) (hP.pick [0] rfl rfl)
  have hD:=(cond_f h4).symm.trans hD;refine s1 r h4 ?_;refine seq_val a2_v r (fun R=>y_move r rfl) rfl fun fr r=>?_;refine s1 r h4 ?_
  refine seq_val (I (a2.length:Int)) r (fun R=>y_rowLen r (hP.ro (i:=0) rfl) is23 rfl) rfl fun fr r=>?_;refine s1 r h4 ?_
  refine seq_val _ r (fun R=>y_bin r rfl rfl rfl rfl) rfl fun fr r=>?_;refine seq_val (.bool (decide ((a2.length:Int) > 20))) r (fun R=>y_pick r (b:=false) (congrArg Value.bool h4) rfl) rfl fun fr r=>?_
  refine wn ?_;exact nxy1 (decide ((a2.length:Int) > 20)) () _ _ _ hD r (hs_cons rfl (hs_cons rfl (hs_cons rfl (hs_cons rfl (hs_cons rfl hs_nil))))) (hP.pick [0] rfl rfl)
 rintro x5 γ6 fr w7 g r hP hD;have hP:Post No [roK 4 1 boolE a2_v a2] w0 w7:=hP;refine wp_cond_split (t:=x5) (r.ev rfl) (fun h8=>?_) (fun h8=>?_)
 ·
  have hD:=(cond_t h8).symm.trans hD;refine wsr ?_;obtain ⟨x9,hx9,hD⟩:=bindD_elim hD;refine seq_call r (c_cubiclelaw10_awake w7  hx9) (fun R hc=>y_call r rfl cl5 hc) rfl ?_;rintro _ w10 ⟨rfl,hb⟩
  refine ⟨_,rfl,fun fr r=>?_⟩
  have hP:Post No [roK 4 1 boolE a2_v a2] w0 w10:=hP.below hb;refine seq_val (.bool x9) r (fun R=>y_assign r rfl) rfl fun fr r=>?_;refine wn ?_
  refine wp_ret ?_;have hv:x9=res:=Option.some.inj hD
  try dsimp only [Exit.then,Exit.inBlock]
  refine ret_tmp (fn:=Try.f3) r (t:=6) rfl (v:=(.bool x9)) rfl ?_;subst hv;exact ⟨rfl,hP.chg.below⟩
 have hD:=(cond_f h8).symm.trans hD;refine wp_skip ?_;refine wsr ?_;refine seq_val (.agg (planC (⟨4,2,7,0,1,9⟩:Plan)).toArray) r (fun R=>y_build r (by kernel_rfl)) rfl fun fr r=>?_;refine seq_new (.cells ((planC (⟨0,0,0,0,0,0⟩:Plan))).toArray 26 (0,0)) r (fun R=>y_alloc tz26) rfl fun fr b11 w12 n13 r=>?_
 have hP:Post No [roK 4 1 boolE a2_v a2,cellC b11 ((planC (⟨0,0,0,0,0,0⟩:Plan))).toArray 26] w0 w12:=hP.new n13;refine seq_upd (.cells ((planC (⟨4,2,7,0,1,9⟩:Plan))).toArray 26 (0,0)) r (fun R=>y_store r (o:=0) (v:=(.agg (planC (⟨4,2,7,0,1,9⟩:Plan)).toArray)) rfl rfl (hP.cell (i:=1) rfl) ts26 (Nat.le_of_ble_eq_true rfl) rfl rfl) rfl fun fr w15 u16 r=>?_;have hP:Post No [roK 4 1 boolE a2_v a2,cellC b11 ((planC (⟨4,2,7,0,1,9⟩:Plan))).toArray 26] w0 w15:=hP.upd (i:=1) rfl u16
 refine wn ?_;refine wsr ?_;refine seq_val (.agg (planC (⟨4,2,7,0,1,9⟩:Plan)).toArray) r (fun R=>y_load_agg r (cs:=(planC (⟨4,2,7,0,1,9⟩:Plan))) (n:=6) rfl (hP.cell (i:=1) rfl) ta26 rfl) rfl fun fr r=>?_;obtain ⟨x17,hx17,hD⟩:=bindD_elim hD
 refine seq_call r (c_cubiclelaw09_Laid w15 (⟨4,2,7,0,1,9⟩:Plan) hx17) (fun R hc=>y_call r rfl cl6 hc) rfl ?_;rintro _ w18 ⟨mg19,rfl,hq⟩
 refine ⟨_,rfl,fun fr r=>?_⟩
 have hP:Post No [roK 4 1 boolE a2_v a2,cellC b11 ((planC (⟨4,2,7,0,1,9⟩:Plan))).toArray 26,memK mg19 x17] w0 w18:=hP.add hq;refine seq_val (.pointer (some ⟨mg19.mb,0,none⟩)) r (fun R=>y_assign r rfl) rfl fun fr r=>?_;refine wn ?_
 refine wp_seq ?_;refine wsr ?_;refine seq_val (.pointer (some ⟨mg19.mb,0,none⟩)) r (fun R=>y_move r rfl) rfl fun fr r=>?_;refine seq_val _ r (fun R=>y_bin r rfl rfl rfl rfl) rfl fun fr r=>?_
 refine wn ?_;refine wp_cond_split (t:=false) (r.ev rfl) (fun h=>absurd ((rfl:false=_).symm.trans h) (by decide)) (fun _=>?_);refine wp_skip ?_
 refine wsr ?_;refine seq_val (U a0) r (fun R=>y_move r rfl) rfl fun fr r=>?_;refine seq_val _ r (fun R=>y_bin r rfl rfl rfl rfl) rfl fun fr r=>?_
 refine seq_val (U (a0.tmod 1099511627776)) r (fun R=>y_assign r rfl) rfl fun fr r=>?_;refine wn ?_
 refine wsr ?_;refine seq_val (.int .u8 a1) r (fun R=>y_move r rfl) rfl fun fr r=>?_;refine seq_val _ r (fun R=>y_bin r rfl rfl rfl rfl) rfl fun fr r=>?_
 refine seq_val (I (W (a1.tmod 3))) r (fun R=>y_convert r rfl ti5 ti3) rfl fun fr r=>?_;refine seq_val (.agg (planC (⟨4,2,7,0,1,9⟩:Plan)).toArray) r (fun R=>y_load_agg r (cs:=(planC (⟨4,2,7,0,1,9⟩:Plan))) (n:=6) rfl (hP.cell (i:=1) rfl) ta26 rfl) rfl fun fr r=>?_
 refine seq_call r (c_plan_Plan_Field w18 (⟨4,2,7,0,1,9⟩:Plan) 3 0) (fun R hc=>y_call r rfl cl7 hc) rfl ?_;rintro _ w21 ⟨rfl,hb⟩
 refine ⟨_,rfl,fun fr r=>?_⟩
 have hP:Post No [roK 4 1 boolE a2_v a2,cellC b11 ((planC (⟨4,2,7,0,1,9⟩:Plan))).toArray 26,memK mg19 x17] w0 w21:=hP.below hb;refine seq_val (I (W (a1.tmod 3))) r (fun R=>y_assign r rfl) rfl fun fr r=>?_;refine seq_val (I (D.plan_Plan_Field (⟨4,2,7,0,1,9⟩:Plan) 3 0)) r (fun R=>y_assign r rfl) rfl fun fr r=>?_
 refine wn ?_;refine wsr ?_;refine seq_val (.pointer (some ⟨mg19.mb,0,none⟩)) r (fun R=>y_move r rfl) rfl fun fr r=>?_;refine seq_val (.pointer (some ⟨mg19.mb,0,none⟩)) r (fun R=>y_move r rfl) rfl fun fr r=>?_
 obtain ⟨x22,hx22,hD⟩:=bindD_elim hD;refine seq_call r (c_mem_Memory_Cap w21 x17 (hP.mem (i:=2) rfl) 0 hx22) (fun R hc=>y_call r rfl cl9 hc) rfl ?_;rintro _ w23 ⟨rfl,hb⟩
 refine ⟨_,rfl,fun fr r=>?_⟩
 have hP:Post No [roK 4 1 boolE a2_v a2,cellC b11 ((planC (⟨4,2,7,0,1,9⟩:Plan))).toArray 26,memK mg19 x17] w0 w23:=hP.below hb;refine seq_val (I (D.plan_Plan_Field (⟨4,2,7,0,1,9⟩:Plan) 3 0)) r (fun R=>y_move r rfl) rfl fun fr r=>?_;refine seq_val (U (a0.tmod 1099511627776)) r (fun R=>y_move r rfl) rfl fun fr r=>?_
 refine seq_val (.agg (accessC (⟨1,(D.plan_Plan_Field (⟨4,2,7,0,1,9⟩:Plan) 3 0),(a0.tmod 1099511627776),0⟩:Access)).toArray) r (fun R=>y_build r (by kernel_rfl)) rfl fun fr r=>?_;obtain ⟨x24,hx24,hD⟩:=bindD_elim hD
 refine seq_call r (c_mem_Memory_Do w23 x17 x22 (⟨1,(D.plan_Plan_Field (⟨4,2,7,0,1,9⟩:Plan) 3 0),(a0.tmod 1099511627776),0⟩:Access) (hP.sep.pk [2] rfl rfl) hx24) (fun R hc=>y_call r rfl cl8 hc) rfl ?_;rintro _ w25 ⟨rfl,hq⟩
 refine ⟨_,rfl,fun fr r=>?_⟩
 have hP:Post No [roK 4 1 boolE a2_v a2,cellC b11 ((planC (⟨4,2,7,0,1,9⟩:Plan))).toArray 26,memK mg19 x24.2.2] w0 w25:=hP.setN (i:=2) rfl hq;refine wn ?_;refine wp_seq ?_;obtain ⟨x26,hx26,hD⟩:=bindD_elim hD;obtain ⟨x28,hx28,hD⟩:=bindD_elim hD;refine wp_freeS 8 [.val (.agg (planC (⟨4,2,7,0,1,9⟩:Plan)).toArray),.val (I (D.plan_Plan_Field (⟨4,2,7,0,1,9⟩:Plan) 3 0)),.val (I (W (a1.tmod 3))),.pred (PrP Try.prog encWord (fu,(D.hazard_Guard (fu+1) (⟨4,2,7,0,1,9⟩:Plan) 0 1 (D.plan_Plan_Field (⟨4,2,7,0,1,9⟩:Plan) 3 0) (W (a1.tmod 3))))) (PrP.st _),.val (.agg (planC (⟨4,2,7,0,1,9⟩:Plan)).toArray),.val (I (D.plan_Plan_Field (⟨4,2,7,0,1,9⟩:Plan) 3 0)),.val (I (W (a1.tmod 3))),.pred (PrP Try.prog encWord (fu,(D.hazard_Guard (fu+1) (⟨4,2,7,0,1,9⟩:Plan) 1 2 (D.plan_Plan_Field (⟨4,2,7,0,1,9⟩:Plan) 3 0) (W (a1.tmod 3))))) (PrP.st _)] mixed r (by kernel_rfl) ?_ ?_
 ·
  refine fc r (fun fr1 g w' hb' hd r'=>y_load_agg r' (cs:=(planC (⟨4,2,7,0,1,9⟩:Plan))) (n:=6) rfl ((hP.below (dr hb')).cell (i:=1) rfl) ta26 rfl bz) ?_;refine fc r (fun fr1 g w' hb' hd r'=>y_move r' rfl bz) ?_
  refine fc r (fun fr1 g w' hb' hd r'=>y_move r' rfl bz) ?_;refine fc r (fun fr1 g w' hb' hd r'=>y_call r' (args:=[(.agg (planC (⟨4,2,7,0,1,9⟩:Plan)).toArray),(I 0),(I 1),(I (D.plan_Plan_Field (⟨4,2,7,0,1,9⟩:Plan) 3 0)),(I (W (a1.tmod 3)))]) (lc (hd 0 rfl).1 (lc rfl (lc rfl (lc (hd 1 rfl).1 (lc (hd 2 rfl).1 l0))))) cl10 ((c_hazard_Guard (F:=No) (n:=fu) (j:=fu+1) (fun _ h=>h.elim) (by omega) (⟨4,2,7,0,1,9⟩:Plan) 0 1 (D.plan_Plan_Field (⟨4,2,7,0,1,9⟩:Plan) 3 0) (W (a1.tmod 3)) (guardI_eq hx26)).mono (by rintro _ w2 ⟨y,rfl,hb2,hr2⟩; exact ⟨_,rfl,hb2,fresh_prog hr2⟩))) ?_
  refine fc r (fun fr1 g w' hb' hd r'=>y_load_agg r' (cs:=(planC (⟨4,2,7,0,1,9⟩:Plan))) (n:=6) rfl ((hP.below (dr hb')).cell (i:=1) rfl) ta26 rfl bz) ?_;refine fc r (fun fr1 g w' hb' hd r'=>y_move r' rfl bz) ?_
  refine fc r (fun fr1 g w' hb' hd r'=>y_move r' rfl bz) ?_;refine fc r (fun fr1 g w' hb' hd r'=>y_call r' (args:=[(.agg (planC (⟨4,2,7,0,1,9⟩:Plan)).toArray),(I 1),(I 2),(I (D.plan_Plan_Field (⟨4,2,7,0,1,9⟩:Plan) 3 0)),(I (W (a1.tmod 3)))]) (lc (hd 4 rfl).1 (lc rfl (lc rfl (lc (hd 5 rfl).1 (lc (hd 6 rfl).1 l0))))) cl10 ((c_hazard_Guard (F:=No) (n:=fu) (j:=fu+1) (fun _ h=>h.elim) (by omega) (⟨4,2,7,0,1,9⟩:Plan) 1 2 (D.plan_Plan_Field (⟨4,2,7,0,1,9⟩:Plan) 3 0) (W (a1.tmod 3)) (guardI_eq hx28)).mono (by rintro _ w2 ⟨y,rfl,hb2,hr2⟩; exact ⟨_,rfl,hb2,fresh_prog hr2⟩))) ?_
  exact eachF_nil
 intro fr gg w30 hb hΦ hap r;obtain ⟨v27,hv3⟩:∃ v,v=(gg 3).v:=⟨_,rfl⟩;have g3:(gg 3).v=v27:=hv3.symm;obtain ⟨F31,eF31⟩:∃ F,F=rg (gg 3).lo (gg 3).hi:=⟨_,rfl⟩;have hs3:Fresh [progK Try.prog encWord (fu,(D.hazard_Guard (fu+1) (⟨4,2,7,0,1,9⟩:Plan) 0 1 (D.plan_Plan_Field (⟨4,2,7,0,1,9⟩:Plan) 3 0) (W (a1.tmod 3)))) v27 F31] (gg 3).lo (gg 3).hi w30:=by subst hv3; subst eF31; exact (hΦ 3 rfl).1
 obtain ⟨v29,hv7⟩:∃ v,v=(gg 7).v:=⟨_,rfl⟩;have g7:(gg 7).v=v29:=hv7.symm;obtain ⟨F32,eF32⟩:∃ F,F=rg (gg 7).lo (gg 7).hi:=⟨_,rfl⟩;have hs7:Fresh [progK Try.prog encWord (fu,(D.hazard_Guard (fu+1) (⟨4,2,7,0,1,9⟩:Plan) 1 2 (D.plan_Plan_Field (⟨4,2,7,0,1,9⟩:Plan) 3 0) (W (a1.tmod 3)))) v29 F32] (gg 7).lo (gg 7).hi w30:=by subst hv7; subst eF32; exact (hΦ 7 rfl).1
 have r:=r.congr (sc g7 (sc ((hΦ 6 rfl).1) (sc ((hΦ 5 rfl).1) (sc ((hΦ 4 rfl).1) (sc g3 (sc ((hΦ 2 rfl).1) (sc ((hΦ 1 rfl).1) (sc ((hΦ 0 rfl).1) rfl))))))));have hP:Post No [roK 4 1 boolE a2_v a2,cellC b11 ((planC (⟨4,2,7,0,1,9⟩:Plan))).toArray 26,memK mg19 x24.2.2,progK Try.prog encWord (fu,(D.hazard_Guard (fu+1) (⟨4,2,7,0,1,9⟩:Plan) 0 1 (D.plan_Plan_Field (⟨4,2,7,0,1,9⟩:Plan) 3 0) (W (a1.tmod 3)))) v27 F31,progK Try.prog encWord (fu,(D.hazard_Guard (fu+1) (⟨4,2,7,0,1,9⟩:Plan) 1 2 (D.plan_Plan_Field (⟨4,2,7,0,1,9⟩:Plan) 3 0) (W (a1.tmod 3)))) v29 F32] w0 w30:=hP.addL (l:=[([progK Try.prog encWord (fu,(D.hazard_Guard (fu+1) (⟨4,2,7,0,1,9⟩:Plan) 0 1 (D.plan_Plan_Field (⟨4,2,7,0,1,9⟩:Plan) 3 0) (W (a1.tmod 3)))) v27 F31],(gg 3).lo,(gg 3).hi),([progK Try.prog encWord (fu,(D.hazard_Guard (fu+1) (⟨4,2,7,0,1,9⟩:Plan) 1 2 (D.plan_Plan_Field (⟨4,2,7,0,1,9⟩:Plan) 3 0) (W (a1.tmod 3)))) v29 F32],(gg 7).lo,(gg 7).hi)]) hb ⟨hs3,(hΦ 3 rfl).2.1,(disj_cons (hap 3 7 rfl) disj_nil),⟨hs7,(hΦ 7 rfl).2.1,disj_nil,trivial⟩⟩;refine seq_newS (.cells (v27.cells++v29.cells) 39 (0,0)) 2 r (fun R=>y_bslice r (bp41 (hP.prog (i:=3) rfl).shape (hP.prog (i:=4) rfl).shape)) rfl fun fr b35 w36 n37 r=>?_
 have hP:Post No [roK 4 1 boolE a2_v a2,cellC b11 ((planC (⟨4,2,7,0,1,9⟩:Plan))).toArray 26,memK mg19 x24.2.2,progK Try.prog encWord (fu,(D.hazard_Guard (fu+1) (⟨4,2,7,0,1,9⟩:Plan) 0 1 (D.plan_Plan_Field (⟨4,2,7,0,1,9⟩:Plan) 3 0) (W (a1.tmod 3)))) v27 F31,progK Try.prog encWord (fu,(D.hazard_Guard (fu+1) (⟨4,2,7,0,1,9⟩:Plan) 1 2 (D.plan_Plan_Field (⟨4,2,7,0,1,9⟩:Plan) 3 0) (W (a1.tmod 3)))) v29 F32,cellC b35 (v27.cells++v29.cells) 39] w0 w36:=hP.new n37;refine seq_val (.slice (some ⟨b35,0,none⟩) 2 2) r (fun R=>y_assign r rfl) rfl fun fr r=>?_;refine wn ?_
 refine wp_seq ?_;refine wsr ?_;refine seq_val (I 0) r (fun R=>y_assign r rfl) rfl fun fr r=>?_;refine wn ?_
 refine wp_loopG (X:=Int × Mem × ((Nat × T Int) × (Nat × T Int))) (G:=Value × List Nat × Value × List Nat) (x0:=(0,x24.2.2,((fu,(D.hazard_Guard (fu+1) (⟨4,2,7,0,1,9⟩:Plan) 0 1 (D.plan_Plan_Field (⟨4,2,7,0,1,9⟩:Plan) 3 0) (W (a1.tmod 3)))),(fu,(D.hazard_Guard (fu+1) (⟨4,2,7,0,1,9⟩:Plan) 1 2 (D.plan_Plan_Field (⟨4,2,7,0,1,9⟩:Plan) 3 0) (W (a1.tmod 3))))))) (fun x γ=>[(0,(U (a0.tmod 1099511627776))),(1,(.int .u8 a1)),(2,a2_v),(6,(.bool false)),(27,(.bool x5)),(7,(.pointer (some ⟨b11,0,none⟩))),(8,(.pointer (some ⟨mg19.mb,0,none⟩))),(33,(.bool false)),(9,(I (W (a1.tmod 3)))),(10,(I (D.plan_Plan_Field (⟨4,2,7,0,1,9⟩:Plan) 3 0))),(11,(.slice (some ⟨b35,0,none⟩) 2 2)),(12,(I x.1))]) (fun x γ w=>Post No [roK 4 1 boolE a2_v a2,cellC b11 ((planC (⟨4,2,7,0,1,9⟩:Plan))).toArray 26,memK mg19 x.2.1,progK Try.prog encWord x.2.2.1 γ.1 γ.2.1,progK Try.prog encWord x.2.2.2 γ.2.2.1 γ.2.2.2,cellC b35 (γ.1.cells++γ.2.2.1.cells) 39] w0 w) (v27,F31,v29,F32) r (hs_cons rfl (hs_cons rfl (hs_cons rfl (hs_cons rfl (hs_cons rfl (hs_cons rfl (hs_cons rfl (hs_cons rfl (hs_cons rfl (hs_cons rfl (hs_cons rfl (hs_cons rfl hs_nil)))))))))))) hP hD ?_ ?_
 ·
  rintro x39 γ40 fr w42 g y41 RPy41 nxy41 bky41 rty41 r hP hD;have hP:Post No [roK 4 1 boolE a2_v a2,cellC b11 ((planC (⟨4,2,7,0,1,9⟩:Plan))).toArray 26,memK mg19 x39.2.1,progK Try.prog encWord x39.2.2.1 γ40.1 γ40.2.1,progK Try.prog encWord x39.2.2.2 γ40.2.2.1 γ40.2.2.2,cellC b35 (γ40.1.cells++γ40.2.2.1.cells) 39] w0 w42:=hP;refine wp_seq ?_;refine wsr ?_;refine seq_val (I x39.1) r (fun R=>y_move r rfl) rfl fun fr r=>?_;refine seq_val a2_v r (fun R=>y_move r rfl) rfl fun fr r=>?_
  refine seq_val (I (a2.length:Int)) r (fun R=>y_rowLen r (hP.ro (i:=0) rfl) is23 rfl) rfl fun fr r=>?_;refine seq_val _ r (fun R=>y_bin r rfl rfl rfl rfl) rfl fun fr r=>?_
  refine seq_val _ r (fun R=>y_bin r rfl rfl rfl rfl) rfl fun fr r=>?_;refine wn ?_
  refine wp_cond_split (t:=(decide (x39.1<(W ((a2.length:Int)+8))))) (r.ev rfl) (fun h43=>?_) (fun h43=>?_)
  ·
   have hD:=(cond_t h43).symm.trans hD;refine wp_skip ?_;refine wp_seq ?_;refine wp_block ?_;refine wsr ?_;refine seq_val (I x39.1) r (fun R=>y_move r rfl) rfl fun fr r=>?_;refine seq_val _ r (fun R=>y_bin r rfl rfl rfl rfl) rfl fun fr r=>?_
   refine seq_val (I (x39.1.tmod 2)) r (fun R=>y_assign r rfl) rfl fun fr r=>?_;refine wn ?_
   refine wp_seq ?_;refine wp_seq ?_;refine wp_joinG (N:=144) (Y:=Bool) (G:=Unit) (fun x γ=>[(0,(U (a0.tmod 1099511627776))),(1,(.int .u8 a1)),(2,a2_v),(6,(.bool false)),(27,(.bool x5)),(7,(.pointer (some ⟨b11,0,none⟩))),(8,(.pointer (some ⟨mg19.mb,0,none⟩))),(33,(.bool false)),(9,(I (W (a1.tmod 3)))),(10,(I (D.plan_Plan_Field (⟨4,2,7,0,1,9⟩:Plan) 3 0))),(11,(.slice (some ⟨b35,0,none⟩) 2 2)),(12,(I x39.1)),(61,(.bool (decide (x39.1<(W ((a2.length:Int)+8)))))),(13,(I (x39.1.tmod 2))),(75,(.bool x))]) (fun x γ w=>Post No [roK 4 1 boolE a2_v a2,cellC b11 ((planC (⟨4,2,7,0,1,9⟩:Plan))).toArray 26,memK mg19 x39.2.1,progK Try.prog encWord x39.2.2.1 γ40.1 γ40.2.1,progK Try.prog encWord x39.2.2.2 γ40.2.2.1 γ40.2.2.2,cellC b35 (γ40.1.cells++γ40.2.2.1.cells) 39] w0 w) hD ?_ ?_
   ·
    rintro y44 RPy44 nxy44 hD;refine wp_region_lit ?_;refine seq_val (I x39.1) r (fun R=>y_move r rfl) rfl fun fr r=>?_;refine seq_val a2_v r (fun R=>y_move r rfl) rfl fun fr r=>?_
    refine seq_val (I (a2.length:Int)) r (fun R=>y_rowLen r (hP.ro (i:=0) rfl) is23 rfl) rfl fun fr r=>?_;refine seq_val _ r (fun R=>y_bin r rfl rfl rfl rfl) rfl fun fr r=>?_
    refine seq_val (.bool (decide (x39.1<(a2.length:Int)))) r (fun R=>y_move r rfl) rfl fun fr r=>?_;refine seq_split (decide (x39.1<(a2.length:Int))) (fun h45=>?_) (fun h45=>?_)
    ·
     have hD:=(cond_t h45).symm.trans hD;refine s1 r h45 ?_;refine seq_val a2_v r (fun R=>y_move r rfl) rfl fun fr r=>?_;refine s1 r h45 ?_
     refine seq_val (I x39.1) r (fun R=>y_move r rfl) rfl fun fr r=>?_;refine s1 r h45 ?_
     obtain ⟨x46,hx46,hD⟩:=bindD_elim hD;refine seq_val (.pointer (some ⟨rowB a2_v,rowO a2_v+x39.1.toNat * 1,none⟩)) r (fun R=>y_rowAddr r (hP.ro (i:=0) rfl) hx46 sl23 rfl rfl) rfl fun fr r=>?_;refine s1 r h45 ?_
     refine seq_val (.bool x46) r (fun R=>y_loadL_one r (u:=(.bool x46)) (RoAt.at_ (f:=boolE) (x:=x46) (hP.ro (i:=0) rfl) (fun _=>rfl) hx46) rfl to4) rfl fun fr r=>?_;refine seq_val (.bool x46) r (fun R=>y_pick r (b:=true) (congrArg Value.bool h45) rfl) rfl fun fr r=>?_
     refine wn ?_;exact nxy44 x46 () _ _ _ hD r (hs_cons rfl (hs_cons rfl (hs_cons rfl (hs_cons rfl (hs_cons rfl (hs_cons rfl (hs_cons rfl (hs_cons rfl (hs_cons rfl (hs_cons rfl (hs_cons rfl (hs_cons rfl (hs_cons rfl (hs_cons rfl (hs_cons rfl hs_nil))))))))))))))) (hP.pick [0,1,2,3,4,5] rfl rfl)
    have hD:=(cond_f h45).symm.trans hD;refine s0 r h45 fun fr r=>?_;refine s0 r h45 fun fr r=>?_
    refine s0 r h45 fun fr r=>?_;refine s0 r h45 fun fr r=>?_
    refine seq_val (.bool false) r (fun R=>y_pick r (b:=false) (congrArg Value.bool h45) rfl) rfl fun fr r=>?_;refine wn ?_
    exact nxy44 false () _ _ _ hD r (hs_cons rfl (hs_cons rfl (hs_cons rfl (hs_cons rfl (hs_cons rfl (hs_cons rfl (hs_cons rfl (hs_cons rfl (hs_cons rfl (hs_cons rfl (hs_cons rfl (hs_cons rfl (hs_cons rfl (hs_cons rfl (hs_cons rfl hs_nil))))))))))))))) (hP.pick [0,1,2,3,4,5] rfl rfl)
   rintro x47 γ48 fr w49 g r hP hD;have hP:Post No [roK 4 1 boolE a2_v a2,cellC b11 ((planC (⟨4,2,7,0,1,9⟩:Plan))).toArray 26,memK mg19 x39.2.1,progK Try.prog encWord x39.2.2.1 γ40.1 γ40.2.1,progK Try.prog encWord x39.2.2.2 γ40.2.2.1 γ40.2.2.2,cellC b35 (γ40.1.cells++γ40.2.2.1.cells) 39] w0 w49:=hP;refine wp_joinG (N:=144) (Y:=Int) (G:=Unit) (fun x γ=>[(0,(U (a0.tmod 1099511627776))),(1,(.int .u8 a1)),(2,a2_v),(6,(.bool false)),(27,(.bool x5)),(7,(.pointer (some ⟨b11,0,none⟩))),(8,(.pointer (some ⟨mg19.mb,0,none⟩))),(33,(.bool false)),(9,(I (W (a1.tmod 3)))),(10,(I (D.plan_Plan_Field (⟨4,2,7,0,1,9⟩:Plan) 3 0))),(11,(.slice (some ⟨b35,0,none⟩) 2 2)),(12,(I x39.1)),(61,(.bool (decide (x39.1<(W ((a2.length:Int)+8)))))),(75,(.bool x47)),(13,(I x))]) (fun x γ w=>Post No [roK 4 1 boolE a2_v a2,cellC b11 ((planC (⟨4,2,7,0,1,9⟩:Plan))).toArray 26,memK mg19 x39.2.1,progK Try.prog encWord x39.2.2.1 γ40.1 γ40.2.1,progK Try.prog encWord x39.2.2.2 γ40.2.2.1 γ40.2.2.2,cellC b35 (γ40.1.cells++γ40.2.2.1.cells) 39] w0 w) hD ?_ ?_
   ·
    rintro y50 RPy50 nxy50 hD;refine wp_cond_split (t:=x47) (r.ev rfl) (fun h51=>?_) (fun h51=>?_)
    ·
     have hD:=(cond_t h51).symm.trans hD;refine wp_region_lit ?_;refine seq_val (I 1) r (fun R=>y_assign r rfl) rfl fun fr r=>?_;refine wn ?_
     exact nxy50 1 () _ _ _ hD r (hs_cons rfl (hs_cons rfl (hs_cons rfl (hs_cons rfl (hs_cons rfl (hs_cons rfl (hs_cons rfl (hs_cons rfl (hs_cons rfl (hs_cons rfl (hs_cons rfl (hs_cons rfl (hs_cons rfl (hs_cons rfl (hs_cons rfl hs_nil))))))))))))))) (hP.pick [0,1,2,3,4,5] rfl rfl)
    have hD:=(cond_f h51).symm.trans hD;refine wsr ?_;refine seq_val (I x39.1) r (fun R=>y_move r rfl) rfl fun fr r=>?_;refine seq_val a2_v r (fun R=>y_move r rfl) rfl fun fr r=>?_
    refine seq_val (I (a2.length:Int)) r (fun R=>y_rowLen r (hP.ro (i:=0) rfl) is23 rfl) rfl fun fr r=>?_;refine seq_val _ r (fun R=>y_bin r rfl rfl rfl rfl) rfl fun fr r=>?_
    refine wn ?_;refine wp_joinG (N:=144) (Y:=Int) (G:=Unit) (fun x γ=>[(0,(U (a0.tmod 1099511627776))),(1,(.int .u8 a1)),(2,a2_v),(6,(.bool false)),(27,(.bool x5)),(7,(.pointer (some ⟨b11,0,none⟩))),(8,(.pointer (some ⟨mg19.mb,0,none⟩))),(33,(.bool false)),(9,(I (W (a1.tmod 3)))),(10,(I (D.plan_Plan_Field (⟨4,2,7,0,1,9⟩:Plan) 3 0))),(11,(.slice (some ⟨b35,0,none⟩) 2 2)),(12,(I x39.1)),(61,(.bool (decide (x39.1<(W ((a2.length:Int)+8)))))),(75,(.bool x47)),(79,(.bool (decide (x39.1<(a2.length:Int))))),(13,(I x))]) (fun x γ w=>Post No [roK 4 1 boolE a2_v a2,cellC b11 ((planC (⟨4,2,7,0,1,9⟩:Plan))).toArray 26,memK mg19 x39.2.1,progK Try.prog encWord x39.2.2.1 γ40.1 γ40.2.1,progK Try.prog encWord x39.2.2.2 γ40.2.2.1 γ40.2.2.2,cellC b35 (γ40.1.cells++γ40.2.2.1.cells) 39] w0 w) hD ?_ ?_
    ·
     rintro y52 RPy52 nxy52 hD;refine wp_cond_split (t:=(decide (x39.1<(a2.length:Int)))) (r.ev rfl) (fun h53=>?_) (fun h53=>?_)
     ·
      have hD:=(cond_t h53).symm.trans hD;refine wp_region_lit ?_;refine seq_val (I 0) r (fun R=>y_assign r rfl) rfl fun fr r=>?_;refine wn ?_
      exact nxy52 0 () _ _ _ hD r (hs_cons rfl (hs_cons rfl (hs_cons rfl (hs_cons rfl (hs_cons rfl (hs_cons rfl (hs_cons rfl (hs_cons rfl (hs_cons rfl (hs_cons rfl (hs_cons rfl (hs_cons rfl (hs_cons rfl (hs_cons rfl (hs_cons rfl (hs_cons rfl hs_nil)))))))))))))))) (hP.pick [0,1,2,3,4,5] rfl rfl)
     have hD:=(cond_f h53).symm.trans hD;refine wp_skip ?_;exact nxy52 (x39.1.tmod 2) () _ _ _ hD r (hs_cons rfl (hs_cons rfl (hs_cons rfl (hs_cons rfl (hs_cons rfl (hs_cons rfl (hs_cons rfl (hs_cons rfl (hs_cons rfl (hs_cons rfl (hs_cons rfl (hs_cons rfl (hs_cons rfl (hs_cons rfl (hs_cons rfl (hs_cons rfl hs_nil)))))))))))))))) (hP.pick [0,1,2,3,4,5] rfl rfl)
    rintro x54 γ55 fr w56 g r hP hD;have hP:Post No [roK 4 1 boolE a2_v a2,cellC b11 ((planC (⟨4,2,7,0,1,9⟩:Plan))).toArray 26,memK mg19 x39.2.1,progK Try.prog encWord x39.2.2.1 γ40.1 γ40.2.1,progK Try.prog encWord x39.2.2.2 γ40.2.2.1 γ40.2.2.2,cellC b35 (γ40.1.cells++γ40.2.2.1.cells) 39] w0 w56:=hP;exact nxy50 x54 () _ _ _ hD r (hs_cons rfl (hs_cons rfl (hs_cons rfl (hs_cons rfl (hs_cons rfl (hs_cons rfl (hs_cons rfl (hs_cons rfl (hs_cons rfl (hs_cons rfl (hs_cons rfl (hs_cons rfl (hs_cons rfl (hs_cons rfl (hs_cons rfl hs_nil))))))))))))))) (hP.pick [0,1,2,3,4,5] rfl rfl)
   rintro x57 γ58 fr w59 g r hP hD;have hP:Post No [roK 4 1 boolE a2_v a2,cellC b11 ((planC (⟨4,2,7,0,1,9⟩:Plan))).toArray 26,memK mg19 x39.2.1,progK Try.prog encWord x39.2.2.1 γ40.1 γ40.2.1,progK Try.prog encWord x39.2.2.2 γ40.2.2.1 γ40.2.2.2,cellC b35 (γ40.1.cells++γ40.2.2.1.cells) 39] w0 w59:=hP;refine wp_seq ?_;refine seq_split (x57==0) (fun h60=>?_) (fun h60=>?_)
   ·
    have hD:=(cond_t h60).symm.trans hD;obtain ⟨x61,hx61,hD⟩:=bindD_elim hD;obtain ⟨x62,hx62,hD⟩:=bindD_elim hD;refine wp_freeE mg19.bs [.val (.slice (some ⟨b35,0,none⟩) 2 2),.val (I x57),.val (.pointer (some ⟨b35,0,none⟩)),.val γ40.1,.val (.pointer (some ⟨mg19.mb,0,none⟩)),.val (.pointer (some ⟨mg19.mb,0,none⟩)),.val (.agg (capC x61).toArray),.eff (EffR Try.prog encWord w59.heap.size γ40.2.1 (memK mg19 x62.2.2) x62.1 (.bool x62.2.1)) EffR.st,.dep 7 (fun u v=>v=u∧∃ y,v=.tuple #[y,(.bool x62.2.1)]∧Shape encWord y),.dep 8 (fun u v=>Shape encWord v∧u=.tuple #[v,(.bool x62.2.1)]),.val (.bool x62.2.1),.cell 39 7,.storedD 11 9 (fun v=>v.cells) 39 7,.val (.bool x62.2.1)] mixed r (fun b hb=>hP.sep.lt (i:=2) rfl (.inl hb)) (by kernel_rfl) ?_ ?_
    ·
     refine eachE_late r rfl (fun fr1 g w' hk' hd r'=>?_) ?_
     · exact y_move r' (v:=(.slice (some ⟨b35,0,none⟩) 2 2)) rfl ⟨Below.refl _ _,rfl⟩
     refine eachE_late r rfl (fun fr1 g w' hk' hd r'=>?_) ?_
     · exact y_move r' (v:=(I x57)) rfl ⟨Below.refl _ _,rfl⟩
     refine eachE_late r rfl (fun fr1 g w' hk' hd r'=>?_) ?_
     · exact y_progAt r' 0 sl41 (hd 0 rfl).1 (Eq.trans (hd 1 rfl).1 (congrArg (Value.int .i64) (beq_iff_eq.1 h60))) (by decide) ⟨Below.refl _ _,rfl⟩
     refine eachE_early r rfl (by kernel_rfl) (fun fr1 g w' hb' hd r'=>?_) ?_
     · exact y_loadp1 r' ((hP.below (dr hb')).prog (i:=3) rfl).shape ((hP.below (dr hb')).prog (i:=4) rfl).shape (hd 2 rfl).1 ((hP.below (dr hb')).cell (i:=5) rfl) ta39 ⟨Below.refl _ _,rfl⟩
     refine eachE_early r rfl (by kernel_rfl) (fun fr1 g w' hb' hd r'=>?_) ?_
     · exact y_move r' (v:=(.pointer (some ⟨mg19.mb,0,none⟩))) rfl ⟨Below.refl _ _,rfl⟩
     refine eachE_late r rfl (fun fr1 g w' hk' hd r'=>?_) ?_
     · exact y_move r' (v:=(.pointer (some ⟨mg19.mb,0,none⟩))) rfl ⟨Below.refl _ _,rfl⟩
     refine eachE_early r rfl (by kernel_rfl) (fun fr1 g w' hb' hd r'=>?_) ?_
     · exact y_call r' (args:=[(.pointer (some ⟨mg19.mb,0,none⟩)),(I 0)]) (lc (hd 5 rfl).1 (lc rfl l0)) cl9 ((c_mem_Memory_Cap _ x39.2.1 ((hP.below (dr hb')).mem (i:=2) rfl) 0 hx61).mono (by rintro _ w2 ⟨rfl,hb2⟩; exact ⟨_,rfl,hb2,rfl⟩))
     refine eachE_early r rfl (by kernel_rfl) (fun fr1 g w' hb' hd r'=>?_) ?_
     · exact y_call r' (args:=[γ40.1,(.pointer (some ⟨mg19.mb,0,none⟩)),(.agg (capC x61).toArray)]) (lc (hd 3 rfl).1 (lc (hd 4 rfl).1 (lc (hd 6 rfl).1 l0))) cl11 ((c_prog_Prog_uint64_Step _ x39.2.2.1 x39.2.1 x61 ((hP.below (dr hb')).sep.pk [3,2] rfl rfl) hx62).mono (by rintro _ w2 ⟨y,F,rfl,hq⟩; exact ⟨_,rfl,hq.chg.kept,EffR.of hq (fun b hb=>hP.sep.lt (i:=2) rfl hb) (fun b hb=>hP.sep.lt (i:=3) rfl (.inr hb))⟩))
     refine eachE_late r rfl (fun fr1 g w' hk' hd r'=>?_) ?_
     · obtain ⟨y,F,hv,_,_,_,hr,_⟩:=(hd 7 rfl).1; exact y_move r' (v:=(g 7).v) rfl ⟨Below.refl _ _,rfl,y,hv,hr.shape⟩
     refine eachE_late r rfl (fun fr1 g w' hk' hd r'=>?_) ?_
     · obtain ⟨_,y,hv,hs⟩:=(hd 8 rfl).1; exact y_extract r' (vs:=#[y,(.bool x62.2.1)]) hv rfl ⟨Below.refl _ _,hs,hv⟩
     refine eachE_late r rfl (fun fr1 g w' hk' hd r'=>?_) ?_
     · obtain ⟨_,y,hv,hs⟩:=(hd 8 rfl).1; exact y_extract r' (vs:=#[y,(.bool x62.2.1)]) hv rfl ⟨Below.refl _ _,rfl⟩
     refine eachE_late r rfl (fun fr1 g w' hk' hd r'=>?_) ?_
     · exact y_alloc tz39 (fun b w2 n2=>⟨n2.below,b,rfl,n2.eq,_,n2.at_,rfl⟩)
     refine eachE_late r rfl (fun fr1 g w' hk' hd r'=>?_) ?_
     · obtain ⟨hp,_,c,hc,hn⟩:=(hd 11 rfl).1; obtain ⟨hs,_⟩:=(hd 9 rfl).1; exact y_storep r' hs hp rfl hc ts39 hn (fun w2 u2=>⟨u2,rfl,hs.cells.1⟩)
     refine eachE_late r rfl (fun fr1 g w' hk' hd r'=>?_) ?_
     · exact y_assign r' (v:=(.bool x62.2.1)) (hd 10 rfl).1 ⟨Below.refl _ _,rfl⟩
     exact eachF_nil
    intro fr gg w67 hb hΦ hap r;obtain ⟨v63,F64,g7,hcE,_,_,hrE,hFE⟩:=(hΦ 7 rfl).1;have g8:=(hΦ 8 rfl).1.1.trans g7;have g9:(gg 9).v=v63:=tup_eq ((hΦ 9 rfl).1.2.symm.trans g8);obtain ⟨b66,ee_b66⟩:∃ b,b=(gg 11).lo:=⟨_,rfl⟩;have g11:(gg 11).v=(.pointer (some ⟨b66,0,none⟩)):=by rw [ee_b66]; exact (hΦ 11 rfl).1.1
    have h_b66:w67.heap[b66]?=some (.cells v63.cells 39 (0,0)):=by rw [ee_b66,←g9]; exact (hΦ 12 rfl).1.2
    have hs11:Fresh [cellC b66 v63.cells 39] (gg 11).lo (gg 11).hi w67:=by subst ee_b66; exact Fresh.cell (hΦ 11 rfl).1.2.1 h_b66
    have r:=r.congr (sc ((hΦ 13 rfl).1) (sc g11 (sc ((hΦ 10 rfl).1) (sc g9 (sc g8 (sc g7 (sc ((hΦ 6 rfl).1) (sc ((hΦ 5 rfl).1) (sc ((hΦ 4 rfl).1) (sc ((hΦ 3 rfl).1) (sc ((hΦ 2 rfl).1) (sc ((hΦ 1 rfl).1) (sc ((hΦ 0 rfl).1) rfl)))))))))))));have hP:Post No [roK 4 1 boolE a2_v a2,cellC b11 ((planC (⟨4,2,7,0,1,9⟩:Plan))).toArray 26,memK mg19 x62.2.2,progK Try.prog encWord x39.2.2.1 γ40.1 γ40.2.1,progK Try.prog encWord x39.2.2.2 γ40.2.2.1 γ40.2.2.2,cellC b35 (γ40.1.cells++γ40.2.2.1.cells) 39,progK Try.prog encWord x62.1 v63 F64,cellC b66 v63.cells 39] w0 w67:=hP.effR (i:=2) (k:=3) (l:=[([cellC b66 v63.cells 39],(gg 11).lo,(gg 11).hi)]) rfl rfl rfl hb hcE rfl rfl rfl hrE hFE (hΦ 7 rfl).2.1 (hΦ 7 rfl).2.2.2 ⟨hs11,(hΦ 11 rfl).2.1,disj_nil,trivial⟩ (disj_cons (hap 7 11 rfl) disj_nil);refine wp_region_lit ?_;refine seq_val (.slice (some ⟨b35,0,none⟩) 2 2) r (fun R=>y_move r rfl) rfl fun fr r=>?_;refine seq_val (I x57) r (fun R=>y_move r rfl) rfl fun fr r=>?_
    refine seq_val v63 r (fun R=>y_loadp r (hP.prog (i:=6) rfl).shape rfl (hP.cell (i:=7) rfl) ta39) rfl fun fr r=>?_;refine seq_val (.pointer (some ⟨b35,0,none⟩)) r (fun R=>y_progAt r 0 sl41 rfl (congrArg (Value.int .i64) (beq_iff_eq.1 h60)) (by decide)) rfl fun fr r=>?_
    refine seq_upd (.cells (v63.cells++γ40.2.2.1.cells) 39 (0,0)) r (fun R=>y_storep1 r (hP.prog (i:=6) rfl).shape (hP.prog (i:=3) rfl).shape (hP.prog (i:=4) rfl).shape rfl rfl (hP.cell (i:=5) rfl) ts39) rfl fun fr w68 u69 r=>?_;have hP:Post No [roK 4 1 boolE a2_v a2,cellC b11 ((planC (⟨4,2,7,0,1,9⟩:Plan))).toArray 26,memK mg19 x62.2.2,progK Try.prog encWord x39.2.2.1 γ40.1 γ40.2.1,progK Try.prog encWord x39.2.2.2 γ40.2.2.1 γ40.2.2.2,cellC b35 (v63.cells++γ40.2.2.1.cells) 39,progK Try.prog encWord x62.1 v63 F64,cellC b66 v63.cells 39] w0 w68:=hP.upd (i:=5) rfl u69
    refine wn ?_;refine wp_region_lit ?_;refine seq_val (I x39.1) r (fun R=>y_move r rfl) rfl fun fr r=>?_;refine seq_val _ r (fun R=>y_bin r rfl rfl rfl rfl) rfl fun fr r=>?_
    refine seq_val (I (W (x39.1+1))) r (fun R=>y_assign r rfl) rfl fun fr r=>?_;refine wn ?_
    exact nxy41 ((W (x39.1+1)),x62.2.2,(x62.1,x39.2.2.2)) (v63,F64,γ40.2.2.1,γ40.2.2.2) _ _ _ hD r (hs_cons rfl (hs_cons rfl (hs_cons rfl (hs_cons rfl (hs_cons rfl (hs_cons rfl (hs_cons rfl (hs_cons rfl (hs_cons rfl (hs_cons rfl (hs_cons rfl (hs_cons rfl hs_nil)))))))))))) (hP.pick [0,1,2,6,4,5] rfl rfl)
   have hD:=(cond_f h60).symm.trans hD;refine seq_split (x57==1) (fun h70=>?_) (fun h70=>?_)
   ·
    have hD:=(cond_t h70).symm.trans hD;obtain ⟨x71,hx71,hD⟩:=bindD_elim hD;obtain ⟨x72,hx72,hD⟩:=bindD_elim hD;refine wp_freeE mg19.bs [.val (.slice (some ⟨b35,0,none⟩) 2 2),.val (I x57),.val (.pointer (some ⟨b35,7,none⟩)),.val γ40.2.2.1,.val (.pointer (some ⟨mg19.mb,0,none⟩)),.val (.pointer (some ⟨mg19.mb,0,none⟩)),.val (.agg (capC x71).toArray),.eff (EffR Try.prog encWord w59.heap.size γ40.2.2.2 (memK mg19 x72.2.2) x72.1 (.bool x72.2.1)) EffR.st,.dep 7 (fun u v=>v=u∧∃ y,v=.tuple #[y,(.bool x72.2.1)]∧Shape encWord y),.dep 8 (fun u v=>Shape encWord v∧u=.tuple #[v,(.bool x72.2.1)]),.val (.bool x72.2.1),.cell 39 7,.storedD 11 9 (fun v=>v.cells) 39 7,.val (.bool x72.2.1)] mixed r (fun b hb=>hP.sep.lt (i:=2) rfl (.inl hb)) (by kernel_rfl) ?_ ?_
    ·
     refine eachE_late r rfl (fun fr1 g w' hk' hd r'=>?_) ?_
     · exact y_move r' (v:=(.slice (some ⟨b35,0,none⟩) 2 2)) rfl ⟨Below.refl _ _,rfl⟩
     refine eachE_late r rfl (fun fr1 g w' hk' hd r'=>?_) ?_
     · exact y_move r' (v:=(I x57)) rfl ⟨Below.refl _ _,rfl⟩
     refine eachE_late r rfl (fun fr1 g w' hk' hd r'=>?_) ?_
     · exact y_progAt r' 1 sl41 (hd 0 rfl).1 (Eq.trans (hd 1 rfl).1 (congrArg (Value.int .i64) (beq_iff_eq.1 h70))) (by decide) ⟨Below.refl _ _,rfl⟩
     refine eachE_early r rfl (by kernel_rfl) (fun fr1 g w' hb' hd r'=>?_) ?_
     · exact y_loadp2 r' ((hP.below (dr hb')).prog (i:=3) rfl).shape ((hP.below (dr hb')).prog (i:=4) rfl).shape (hd 2 rfl).1 ((hP.below (dr hb')).cell (i:=5) rfl) ta39 rfl ⟨Below.refl _ _,rfl⟩
     refine eachE_early r rfl (by kernel_rfl) (fun fr1 g w' hb' hd r'=>?_) ?_
     · exact y_move r' (v:=(.pointer (some ⟨mg19.mb,0,none⟩))) rfl ⟨Below.refl _ _,rfl⟩
     refine eachE_late r rfl (fun fr1 g w' hk' hd r'=>?_) ?_
     · exact y_move r' (v:=(.pointer (some ⟨mg19.mb,0,none⟩))) rfl ⟨Below.refl _ _,rfl⟩
     refine eachE_early r rfl (by kernel_rfl) (fun fr1 g w' hb' hd r'=>?_) ?_
     · exact y_call r' (args:=[(.pointer (some ⟨mg19.mb,0,none⟩)),(I 0)]) (lc (hd 5 rfl).1 (lc rfl l0)) cl9 ((c_mem_Memory_Cap _ x39.2.1 ((hP.below (dr hb')).mem (i:=2) rfl) 0 hx71).mono (by rintro _ w2 ⟨rfl,hb2⟩; exact ⟨_,rfl,hb2,rfl⟩))
     refine eachE_early r rfl (by kernel_rfl) (fun fr1 g w' hb' hd r'=>?_) ?_
     · exact y_call r' (args:=[γ40.2.2.1,(.pointer (some ⟨mg19.mb,0,none⟩)),(.agg (capC x71).toArray)]) (lc (hd 3 rfl).1 (lc (hd 4 rfl).1 (lc (hd 6 rfl).1 l0))) cl11 ((c_prog_Prog_uint64_Step _ x39.2.2.2 x39.2.1 x71 ((hP.below (dr hb')).sep.pk [4,2] rfl rfl) hx72).mono (by rintro _ w2 ⟨y,F,rfl,hq⟩; exact ⟨_,rfl,hq.chg.kept,EffR.of hq (fun b hb=>hP.sep.lt (i:=2) rfl hb) (fun b hb=>hP.sep.lt (i:=4) rfl (.inr hb))⟩))
     refine eachE_late r rfl (fun fr1 g w' hk' hd r'=>?_) ?_
     · obtain ⟨y,F,hv,_,_,_,hr,_⟩:=(hd 7 rfl).1; exact y_move r' (v:=(g 7).v) rfl ⟨Below.refl _ _,rfl,y,hv,hr.shape⟩
     refine eachE_late r rfl (fun fr1 g w' hk' hd r'=>?_) ?_
     · obtain ⟨_,y,hv,hs⟩:=(hd 8 rfl).1; exact y_extract r' (vs:=#[y,(.bool x72.2.1)]) hv rfl ⟨Below.refl _ _,hs,hv⟩
     refine eachE_late r rfl (fun fr1 g w' hk' hd r'=>?_) ?_
     · obtain ⟨_,y,hv,hs⟩:=(hd 8 rfl).1; exact y_extract r' (vs:=#[y,(.bool x72.2.1)]) hv rfl ⟨Below.refl _ _,rfl⟩
     refine eachE_late r rfl (fun fr1 g w' hk' hd r'=>?_) ?_
     · exact y_alloc tz39 (fun b w2 n2=>⟨n2.below,b,rfl,n2.eq,_,n2.at_,rfl⟩)
     refine eachE_late r rfl (fun fr1 g w' hk' hd r'=>?_) ?_
     · obtain ⟨hp,_,c,hc,hn⟩:=(hd 11 rfl).1; obtain ⟨hs,_⟩:=(hd 9 rfl).1; exact y_storep r' hs hp rfl hc ts39 hn (fun w2 u2=>⟨u2,rfl,hs.cells.1⟩)
     refine eachE_late r rfl (fun fr1 g w' hk' hd r'=>?_) ?_
     · exact y_assign r' (v:=(.bool x72.2.1)) (hd 10 rfl).1 ⟨Below.refl _ _,rfl⟩
     exact eachF_nil
    intro fr gg w77 hb hΦ hap r;obtain ⟨v73,F74,g7,hcE,_,_,hrE,hFE⟩:=(hΦ 7 rfl).1;have g8:=(hΦ 8 rfl).1.1.trans g7;have g9:(gg 9).v=v73:=tup_eq ((hΦ 9 rfl).1.2.symm.trans g8);obtain ⟨b76,ee_b76⟩:∃ b,b=(gg 11).lo:=⟨_,rfl⟩;have g11:(gg 11).v=(.pointer (some ⟨b76,0,none⟩)):=by rw [ee_b76]; exact (hΦ 11 rfl).1.1
    have h_b76:w77.heap[b76]?=some (.cells v73.cells 39 (0,0)):=by rw [ee_b76,←g9]; exact (hΦ 12 rfl).1.2
    have hs11:Fresh [cellC b76 v73.cells 39] (gg 11).lo (gg 11).hi w77:=by subst ee_b76; exact Fresh.cell (hΦ 11 rfl).1.2.1 h_b76
    have r:=r.congr (sc ((hΦ 13 rfl).1) (sc g11 (sc ((hΦ 10 rfl).1) (sc g9 (sc g8 (sc g7 (sc ((hΦ 6 rfl).1) (sc ((hΦ 5 rfl).1) (sc ((hΦ 4 rfl).1) (sc ((hΦ 3 rfl).1) (sc ((hΦ 2 rfl).1) (sc ((hΦ 1 rfl).1) (sc ((hΦ 0 rfl).1) rfl)))))))))))));have hP:Post No [roK 4 1 boolE a2_v a2,cellC b11 ((planC (⟨4,2,7,0,1,9⟩:Plan))).toArray 26,memK mg19 x72.2.2,progK Try.prog encWord x39.2.2.1 γ40.1 γ40.2.1,progK Try.prog encWord x39.2.2.2 γ40.2.2.1 γ40.2.2.2,cellC b35 (γ40.1.cells++γ40.2.2.1.cells) 39,progK Try.prog encWord x72.1 v73 F74,cellC b76 v73.cells 39] w0 w77:=hP.effR (i:=2) (k:=4) (l:=[([cellC b76 v73.cells 39],(gg 11).lo,(gg 11).hi)]) rfl rfl rfl hb hcE rfl rfl rfl hrE hFE (hΦ 7 rfl).2.1 (hΦ 7 rfl).2.2.2 ⟨hs11,(hΦ 11 rfl).2.1,disj_nil,trivial⟩ (disj_cons (hap 7 11 rfl) disj_nil);refine wp_region_lit ?_;refine seq_val (.slice (some ⟨b35,0,none⟩) 2 2) r (fun R=>y_move r rfl) rfl fun fr r=>?_;refine seq_val (I x57) r (fun R=>y_move r rfl) rfl fun fr r=>?_
    refine seq_val v73 r (fun R=>y_loadp r (hP.prog (i:=6) rfl).shape rfl (hP.cell (i:=7) rfl) ta39) rfl fun fr r=>?_;refine seq_val (.pointer (some ⟨b35,7,none⟩)) r (fun R=>y_progAt r 1 sl41 rfl (congrArg (Value.int .i64) (beq_iff_eq.1 h70)) (by decide)) rfl fun fr r=>?_
    refine seq_upd (.cells (γ40.1.cells++v73.cells) 39 (0,0)) r (fun R=>y_storep2 r (hP.prog (i:=6) rfl).shape (hP.prog (i:=3) rfl).shape (hP.prog (i:=4) rfl).shape rfl rfl (hP.cell (i:=5) rfl) ts39 rfl) rfl fun fr w78 u79 r=>?_;have hP:Post No [roK 4 1 boolE a2_v a2,cellC b11 ((planC (⟨4,2,7,0,1,9⟩:Plan))).toArray 26,memK mg19 x72.2.2,progK Try.prog encWord x39.2.2.1 γ40.1 γ40.2.1,progK Try.prog encWord x39.2.2.2 γ40.2.2.1 γ40.2.2.2,cellC b35 (γ40.1.cells++v73.cells) 39,progK Try.prog encWord x72.1 v73 F74,cellC b76 v73.cells 39] w0 w78:=hP.upd (i:=5) rfl u79
    refine wn ?_;refine wp_region_lit ?_;refine seq_val (I x39.1) r (fun R=>y_move r rfl) rfl fun fr r=>?_;refine seq_val _ r (fun R=>y_bin r rfl rfl rfl rfl) rfl fun fr r=>?_
    refine seq_val (I (W (x39.1+1))) r (fun R=>y_assign r rfl) rfl fun fr r=>?_;refine wn ?_
    exact nxy41 ((W (x39.1+1)),x72.2.2,(x39.2.2.1,x72.1)) (γ40.1,γ40.2.1,v73,F74) _ _ _ hD r (hs_cons rfl (hs_cons rfl (hs_cons rfl (hs_cons rfl (hs_cons rfl (hs_cons rfl (hs_cons rfl (hs_cons rfl (hs_cons rfl (hs_cons rfl (hs_cons rfl (hs_cons rfl hs_nil)))))))))))) (hP.pick [0,1,2,3,6,5] rfl rfl)
   have hD:=(cond_f h70).symm.trans hD;exact nomatch hD
  have hD:=(cond_f h43).symm.trans hD;refine wp_exit ?_;exact bky41 (x39.1,x39.2.1,(x39.2.2.1,x39.2.2.2)) (γ40.1,γ40.2.1,γ40.2.2.1,γ40.2.2.2) _ _ _ hD r (hs_cons rfl (hs_cons rfl (hs_cons rfl (hs_cons rfl (hs_cons rfl (hs_cons rfl (hs_cons rfl (hs_cons rfl (hs_cons rfl (hs_cons rfl (hs_cons rfl (hs_cons rfl hs_nil)))))))))))) (hP.pick [0,1,2,3,4,5] rfl rfl)
 rintro x80 γ81 fr w82 g r hP hD;have hP:Post No [roK 4 1 boolE a2_v a2,cellC b11 ((planC (⟨4,2,7,0,1,9⟩:Plan))).toArray 26,memK mg19 x80.2.1,progK Try.prog encWord x80.2.2.1 γ81.1 γ81.2.1,progK Try.prog encWord x80.2.2.2 γ81.2.2.1 γ81.2.2.2,cellC b35 (γ81.1.cells++γ81.2.2.1.cells) 39] w0 w82:=hP;refine wsr ?_;refine seq_val (.slice (some ⟨b35,0,none⟩) 2 2) r (fun R=>y_move r rfl) rfl fun fr r=>?_;refine seq_val (.pointer (some ⟨b35,0,none⟩)) r (fun R=>y_progAt r 0 sl41 rfl rfl (by decide)) rfl fun fr r=>?_
 refine seq_val γ81.1 r (fun R=>y_loadp1 r (hP.prog (i:=3) rfl).shape (hP.prog (i:=4) rfl).shape rfl (hP.cell (i:=5) rfl) ta39) rfl fun fr r=>?_;obtain ⟨x83,hx83,hD⟩:=bindD_elim hD
 refine seq_call r (c_prog_Prog_uint64_Over w82 x80.2.2.1 (hP.prog (i:=3) rfl) (fun b hb=>hP.sep.lt (i:=3) rfl (.inr hb)) hx83) (fun R hc=>y_call r rfl cl12 hc) rfl ?_;rintro _ w84 ⟨rfl,hb⟩
 refine ⟨_,rfl,fun fr r=>?_⟩
 have hP:Post No [roK 4 1 boolE a2_v a2,cellC b11 ((planC (⟨4,2,7,0,1,9⟩:Plan))).toArray 26,memK mg19 x80.2.1,progK Try.prog encWord x80.2.2.1 γ81.1 γ81.2.1,progK Try.prog encWord x80.2.2.2 γ81.2.2.1 γ81.2.2.2,cellC b35 (γ81.1.cells++γ81.2.2.1.cells) 39] w0 w84:=hP.below hb;refine seq_val (.tuple #[(U x83.1),(.bool x83.2)]) r (fun R=>y_move r rfl) rfl fun fr r=>?_;refine seq_val (U x83.1) r (fun R=>y_extract r (vs:=#[(U x83.1),(.bool x83.2)]) rfl rfl) rfl fun fr r=>?_
 refine seq_val (.bool x83.2) r (fun R=>y_extract r (vs:=#[(U x83.1),(.bool x83.2)]) rfl rfl) rfl fun fr r=>?_;refine seq_val (U x83.1) r (fun R=>y_assign r rfl) rfl fun fr r=>?_
 refine seq_val (.bool x83.2) r (fun R=>y_assign r rfl) rfl fun fr r=>?_;refine wn ?_
 refine wsr ?_;refine seq_val (.slice (some ⟨b35,0,none⟩) 2 2) r (fun R=>y_move r rfl) rfl fun fr r=>?_;refine seq_val (.pointer (some ⟨b35,7,none⟩)) r (fun R=>y_progAt r 1 sl41 rfl rfl (by decide)) rfl fun fr r=>?_
 refine seq_val γ81.2.2.1 r (fun R=>y_loadp2 r (hP.prog (i:=3) rfl).shape (hP.prog (i:=4) rfl).shape rfl (hP.cell (i:=5) rfl) ta39 rfl) rfl fun fr r=>?_;obtain ⟨x85,hx85,hD⟩:=bindD_elim hD
 refine seq_call r (c_prog_Prog_uint64_Over w84 x80.2.2.2 (hP.prog (i:=4) rfl) (fun b hb=>hP.sep.lt (i:=4) rfl (.inr hb)) hx85) (fun R hc=>y_call r rfl cl12 hc) rfl ?_;rintro _ w86 ⟨rfl,hb⟩
 refine ⟨_,rfl,fun fr r=>?_⟩
 have hP:Post No [roK 4 1 boolE a2_v a2,cellC b11 ((planC (⟨4,2,7,0,1,9⟩:Plan))).toArray 26,memK mg19 x80.2.1,progK Try.prog encWord x80.2.2.1 γ81.1 γ81.2.1,progK Try.prog encWord x80.2.2.2 γ81.2.2.1 γ81.2.2.2,cellC b35 (γ81.1.cells++γ81.2.2.1.cells) 39] w0 w86:=hP.below hb;refine seq_val (.tuple #[(U x85.1),(.bool x85.2)]) r (fun R=>y_move r rfl) rfl fun fr r=>?_;refine seq_val (U x85.1) r (fun R=>y_extract r (vs:=#[(U x85.1),(.bool x85.2)]) rfl rfl) rfl fun fr r=>?_
 refine seq_val (.bool x85.2) r (fun R=>y_extract r (vs:=#[(U x85.1),(.bool x85.2)]) rfl rfl) rfl fun fr r=>?_;refine seq_val (U x85.1) r (fun R=>y_assign r rfl) rfl fun fr r=>?_
 refine seq_val (.bool x85.2) r (fun R=>y_assign r rfl) rfl fun fr r=>?_;refine wn ?_
 refine wsr ?_;refine seq_val (U (a0.tmod 1099511627776)) r (fun R=>y_move r rfl) rfl fun fr r=>?_;refine seq_val (I (W (a1.tmod 3))) r (fun R=>y_move r rfl) rfl fun fr r=>?_
 refine seq_call r (c_cubicleref10_Named w86 (a0.tmod 1099511627776) (W (a1.tmod 3)) (by first | assumption | decide | exact guardI_eq (by assumption) | (simp; done))) (fun R hc=>y_call r rfl cl13 hc) rfl ?_
 rintro _ w87 ⟨rfl,hb⟩;refine ⟨_,rfl,fun fr r=>?_⟩
 have hP:Post No [roK 4 1 boolE a2_v a2,cellC b11 ((planC (⟨4,2,7,0,1,9⟩:Plan))).toArray 26,memK mg19 x80.2.1,progK Try.prog encWord x80.2.2.1 γ81.1 γ81.2.1,progK Try.prog encWord x80.2.2.2 γ81.2.2.1 γ81.2.2.2,cellC b35 (γ81.1.cells++γ81.2.2.1.cells) 39] w0 w87:=hP.below hb;refine seq_val _ r (fun R=>y_bin r rfl rfl rfl rfl) rfl fun fr r=>?_;refine seq_val (U (V (W ((D.cubicleref10_Named (a0.tmod 1099511627776) (W (a1.tmod 3)))+1)))) r (fun R=>y_convert r rfl ti3 ti22) rfl fun fr r=>?_
 refine seq_val (U (V (W ((D.cubicleref10_Named (a0.tmod 1099511627776) (W (a1.tmod 3)))+1)))) r (fun R=>y_assign r rfl) rfl fun fr r=>?_;refine wn ?_
 refine wp_seq ?_;refine wp_joinG (N:=144) (Y:=Bool) (G:=Unit) (fun x γ=>[(0,(U (a0.tmod 1099511627776))),(1,(.int .u8 a1)),(2,a2_v),(27,(.bool x5)),(7,(.pointer (some ⟨b11,0,none⟩))),(8,(.pointer (some ⟨mg19.mb,0,none⟩))),(33,(.bool false)),(9,(I (W (a1.tmod 3)))),(10,(I (D.plan_Plan_Field (⟨4,2,7,0,1,9⟩:Plan) 3 0))),(11,(.slice (some ⟨b35,0,none⟩) 2 2)),(12,(I x80.1)),(16,(U x83.1)),(17,(.bool x83.2)),(18,(U x85.1)),(19,(.bool x85.2)),(20,(U (V (W ((D.cubicleref10_Named (a0.tmod 1099511627776) (W (a1.tmod 3)))+1))))),(6,(.bool x))]) (fun x γ w=>Post No [roK 4 1 boolE a2_v a2,cellC b11 ((planC (⟨4,2,7,0,1,9⟩:Plan))).toArray 26,memK mg19 x80.2.1,progK Try.prog encWord x80.2.2.1 γ81.1 γ81.2.1,progK Try.prog encWord x80.2.2.2 γ81.2.2.1 γ81.2.2.2,cellC b35 (γ81.1.cells++γ81.2.2.1.cells) 39] w0 w) hD ?_ ?_
 ·
  rintro y88 RPy88 nxy88 hD;refine wp_region_lit ?_;refine seq_val (.bool x83.2) r (fun R=>y_move r rfl) rfl fun fr r=>?_;refine seq_val (.bool x83.2) r (fun R=>y_move r rfl) rfl fun fr r=>?_
  refine seq_split x83.2 (fun h89=>?_) (fun h89=>?_)
  ·
   have hD:=(cond_t h89).symm.trans hD;refine s1 r h89 ?_;refine seq_val (.bool x85.2) r (fun R=>y_move r rfl) rfl fun fr r=>?_;refine seq_val (.bool x85.2) r (fun R=>y_pick r (b:=true) (congrArg Value.bool h89) rfl) rfl fun fr r=>?_
   refine seq_val (.bool x85.2) r (fun R=>y_move r rfl) rfl fun fr r=>?_;refine seq_split x85.2 (fun h90=>?_) (fun h90=>?_)
   ·
    have hD:=(cond_t h90).symm.trans hD;refine s1 r h90 ?_;refine seq_val (U x83.1) r (fun R=>y_move r rfl) rfl fun fr r=>?_;refine s1 r h90 ?_
    refine seq_val (U (a0.tmod 1099511627776)) r (fun R=>y_move r rfl) rfl fun fr r=>?_;refine s1 r h90 ?_
    refine seq_val _ r (fun R=>y_bin r rfl rfl rfl rfl) rfl fun fr r=>?_;refine seq_val (.bool (x83.1==(a0.tmod 1099511627776))) r (fun R=>y_pick r (b:=true) (congrArg Value.bool h90) rfl) rfl fun fr r=>?_
    refine seq_val (.bool (x83.1==(a0.tmod 1099511627776))) r (fun R=>y_move r rfl) rfl fun fr r=>?_;refine seq_split (x83.1==(a0.tmod 1099511627776)) (fun h91=>?_) (fun h91=>?_)
    ·
     have hD:=(cond_t h91).symm.trans hD;refine s1 r h91 ?_;refine seq_val (U x85.1) r (fun R=>y_move r rfl) rfl fun fr r=>?_;refine s1 r h91 ?_
     refine seq_val (U (a0.tmod 1099511627776)) r (fun R=>y_move r rfl) rfl fun fr r=>?_;refine s1 r h91 ?_
     refine seq_val _ r (fun R=>y_bin r rfl rfl rfl rfl) rfl fun fr r=>?_;refine seq_val (.bool (x85.1==(a0.tmod 1099511627776))) r (fun R=>y_pick r (b:=true) (congrArg Value.bool h91) rfl) rfl fun fr r=>?_
     refine seq_val (.bool (x85.1==(a0.tmod 1099511627776))) r (fun R=>y_move r rfl) rfl fun fr r=>?_;refine seq_split (x85.1==(a0.tmod 1099511627776)) (fun h92=>?_) (fun h92=>?_)
     ·
      have hD:=(cond_t h92).symm.trans hD;refine s1 r h92 ?_;refine seq_val (.pointer (some ⟨mg19.mb,0,none⟩)) r (fun R=>y_move r rfl) rfl fun fr r=>?_;refine s1 r h92 ?_
      refine seq_val (.agg (planC (⟨4,2,7,0,1,9⟩:Plan)).toArray) r (fun R=>y_load_agg r (cs:=(planC (⟨4,2,7,0,1,9⟩:Plan))) (n:=6) rfl (hP.cell (i:=1) rfl) ta26 rfl) rfl fun fr r=>?_;refine s1 r h92 ?_
      refine seq_call r (c_plan_Plan_Hazard w87 (⟨4,2,7,0,1,9⟩:Plan) 0 1) (fun R hc=>y_call r rfl cl15 hc) rfl ?_;rintro _ w93 ⟨rfl,hb⟩
      refine ⟨_,rfl,fun fr r=>?_⟩
      have hP:Post No [roK 4 1 boolE a2_v a2,cellC b11 ((planC (⟨4,2,7,0,1,9⟩:Plan))).toArray 26,memK mg19 x80.2.1,progK Try.prog encWord x80.2.2.1 γ81.1 γ81.2.1,progK Try.prog encWord x80.2.2.2 γ81.2.2.1 γ81.2.2.2,cellC b35 (γ81.1.cells++γ81.2.2.1.cells) 39] w0 w93:=hP.below hb;refine s1 r h92 ?_;obtain ⟨x94,hx94,hD⟩:=bindD_elim hD;refine seq_call r (c_mem_Memory_Peek w93 x80.2.1 (hP.mem (i:=2) rfl) 0 (D.plan_Plan_Hazard (⟨4,2,7,0,1,9⟩:Plan) 0 1) hx94) (fun R hc=>y_call r rfl cl14 hc) rfl ?_;rintro _ w95 ⟨rfl,hb⟩
      refine ⟨_,rfl,fun fr r=>?_⟩
      have hP:Post No [roK 4 1 boolE a2_v a2,cellC b11 ((planC (⟨4,2,7,0,1,9⟩:Plan))).toArray 26,memK mg19 x80.2.1,progK Try.prog encWord x80.2.2.1 γ81.1 γ81.2.1,progK Try.prog encWord x80.2.2.2 γ81.2.2.1 γ81.2.2.2,cellC b35 (γ81.1.cells++γ81.2.2.1.cells) 39] w0 w95:=hP.below hb;refine s1 r h92 ?_;refine seq_val (U (V (W ((D.cubicleref10_Named (a0.tmod 1099511627776) (W (a1.tmod 3)))+1)))) r (fun R=>y_move r rfl) rfl fun fr r=>?_;refine s1 r h92 ?_
      refine seq_val _ r (fun R=>y_bin r rfl rfl rfl rfl) rfl fun fr r=>?_;refine seq_val (.bool (x94==(V (W ((D.cubicleref10_Named (a0.tmod 1099511627776) (W (a1.tmod 3)))+1))))) r (fun R=>y_pick r (b:=true) (congrArg Value.bool h92) rfl) rfl fun fr r=>?_
      refine seq_val (.bool (x94==(V (W ((D.cubicleref10_Named (a0.tmod 1099511627776) (W (a1.tmod 3)))+1))))) r (fun R=>y_move r rfl) rfl fun fr r=>?_;refine seq_split (x94==(V (W ((D.cubicleref10_Named (a0.tmod 1099511627776) (W (a1.tmod 3)))+1)))) (fun h96=>?_) (fun h96=>?_)
      ·
       have hD:=(cond_t h96).symm.trans hD;refine s1 r h96 ?_;refine seq_val (.pointer (some ⟨mg19.mb,0,none⟩)) r (fun R=>y_move r rfl) rfl fun fr r=>?_;refine s1 r h96 ?_
       refine seq_val (.agg (planC (⟨4,2,7,0,1,9⟩:Plan)).toArray) r (fun R=>y_load_agg r (cs:=(planC (⟨4,2,7,0,1,9⟩:Plan))) (n:=6) rfl (hP.cell (i:=1) rfl) ta26 rfl) rfl fun fr r=>?_;refine s1 r h96 ?_
       refine seq_call r (c_plan_Plan_Hazard w95 (⟨4,2,7,0,1,9⟩:Plan) 1 2) (fun R hc=>y_call r rfl cl15 hc) rfl ?_;rintro _ w97 ⟨rfl,hb⟩
       refine ⟨_,rfl,fun fr r=>?_⟩
       have hP:Post No [roK 4 1 boolE a2_v a2,cellC b11 ((planC (⟨4,2,7,0,1,9⟩:Plan))).toArray 26,memK mg19 x80.2.1,progK Try.prog encWord x80.2.2.1 γ81.1 γ81.2.1,progK Try.prog encWord x80.2.2.2 γ81.2.2.1 γ81.2.2.2,cellC b35 (γ81.1.cells++γ81.2.2.1.cells) 39] w0 w97:=hP.below hb;refine s1 r h96 ?_;obtain ⟨x98,hx98,hD⟩:=bindD_elim hD;refine seq_call r (c_mem_Memory_Peek w97 x80.2.1 (hP.mem (i:=2) rfl) 0 (D.plan_Plan_Hazard (⟨4,2,7,0,1,9⟩:Plan) 1 2) hx98) (fun R hc=>y_call r rfl cl14 hc) rfl ?_;rintro _ w99 ⟨rfl,hb⟩
       refine ⟨_,rfl,fun fr r=>?_⟩
       have hP:Post No [roK 4 1 boolE a2_v a2,cellC b11 ((planC (⟨4,2,7,0,1,9⟩:Plan))).toArray 26,memK mg19 x80.2.1,progK Try.prog encWord x80.2.2.1 γ81.1 γ81.2.1,progK Try.prog encWord x80.2.2.2 γ81.2.2.1 γ81.2.2.2,cellC b35 (γ81.1.cells++γ81.2.2.1.cells) 39] w0 w99:=hP.below hb;refine s1 r h96 ?_;refine seq_val (U (V (W ((D.cubicleref10_Named (a0.tmod 1099511627776) (W (a1.tmod 3)))+1)))) r (fun R=>y_move r rfl) rfl fun fr r=>?_;refine s1 r h96 ?_
       refine seq_val _ r (fun R=>y_bin r rfl rfl rfl rfl) rfl fun fr r=>?_;refine seq_val (.bool (x98==(V (W ((D.cubicleref10_Named (a0.tmod 1099511627776) (W (a1.tmod 3)))+1))))) r (fun R=>y_pick r (b:=true) (congrArg Value.bool h96) rfl) rfl fun fr r=>?_
       refine seq_val (.bool (x98==(V (W ((D.cubicleref10_Named (a0.tmod 1099511627776) (W (a1.tmod 3)))+1))))) r (fun R=>y_assign r rfl) rfl fun fr r=>?_;refine wn ?_
       exact nxy88 (x98==(V (W ((D.cubicleref10_Named (a0.tmod 1099511627776) (W (a1.tmod 3)))+1)))) () _ _ _ hD r (hs_cons rfl (hs_cons rfl (hs_cons rfl (hs_cons rfl (hs_cons rfl (hs_cons rfl (hs_cons rfl (hs_cons rfl (hs_cons rfl (hs_cons rfl (hs_cons rfl (hs_cons rfl (hs_cons rfl (hs_cons rfl (hs_cons rfl (hs_cons rfl (hs_cons rfl hs_nil))))))))))))))))) (hP.pick [0,1,2,3,4,5] rfl rfl)
      have hD:=(cond_f h96).symm.trans hD;refine s0 r h96 fun fr r=>?_;refine s0 r h96 fun fr r=>?_
      refine s0 r h96 fun fr r=>?_;refine s0 r h96 fun fr r=>?_
      refine s0 r h96 fun fr r=>?_;refine s0 r h96 fun fr r=>?_
      refine seq_val (.bool false) r (fun R=>y_pick r (b:=false) (congrArg Value.bool h96) rfl) rfl fun fr r=>?_;refine seq_val (.bool false) r (fun R=>y_assign r rfl) rfl fun fr r=>?_
      refine wn ?_;exact nxy88 false () _ _ _ hD r (hs_cons rfl (hs_cons rfl (hs_cons rfl (hs_cons rfl (hs_cons rfl (hs_cons rfl (hs_cons rfl (hs_cons rfl (hs_cons rfl (hs_cons rfl (hs_cons rfl (hs_cons rfl (hs_cons rfl (hs_cons rfl (hs_cons rfl (hs_cons rfl (hs_cons rfl hs_nil))))))))))))))))) (hP.pick [0,1,2,3,4,5] rfl rfl)
     have hD:=(cond_f h92).symm.trans hD;refine s0 r h92 fun fr r=>?_;refine s0 r h92 fun fr r=>?_
     refine s0 r h92 fun fr r=>?_;refine s0 r h92 fun fr r=>?_
     refine s0 r h92 fun fr r=>?_;refine s0 r h92 fun fr r=>?_
     refine seq_val (.bool false) r (fun R=>y_pick r (b:=false) (congrArg Value.bool h92) rfl) rfl fun fr r=>?_;refine seq_val (.bool false) r (fun R=>y_move r rfl) rfl fun fr r=>?_
     refine s0 r (rfl:false=_) fun fr r=>?_;refine s0 r (rfl:false=_) fun fr r=>?_
     refine s0 r (rfl:false=_) fun fr r=>?_;refine s0 r (rfl:false=_) fun fr r=>?_
     refine s0 r (rfl:false=_) fun fr r=>?_;refine s0 r (rfl:false=_) fun fr r=>?_
     refine seq_val (.bool false) r (fun R=>y_pick r (b:=false) (congrArg Value.bool (rfl:false=_)) rfl) rfl fun fr r=>?_;refine seq_val (.bool false) r (fun R=>y_assign r rfl) rfl fun fr r=>?_
     refine wn ?_;exact nxy88 false () _ _ _ hD r (hs_cons rfl (hs_cons rfl (hs_cons rfl (hs_cons rfl (hs_cons rfl (hs_cons rfl (hs_cons rfl (hs_cons rfl (hs_cons rfl (hs_cons rfl (hs_cons rfl (hs_cons rfl (hs_cons rfl (hs_cons rfl (hs_cons rfl (hs_cons rfl (hs_cons rfl hs_nil))))))))))))))))) (hP.pick [0,1,2,3,4,5] rfl rfl)
    have hD:=(cond_f h91).symm.trans hD;refine s0 r h91 fun fr r=>?_;refine s0 r h91 fun fr r=>?_
    refine s0 r h91 fun fr r=>?_;refine seq_val (.bool false) r (fun R=>y_pick r (b:=false) (congrArg Value.bool h91) rfl) rfl fun fr r=>?_
    refine seq_val (.bool false) r (fun R=>y_move r rfl) rfl fun fr r=>?_;refine s0 r (rfl:false=_) fun fr r=>?_
    refine s0 r (rfl:false=_) fun fr r=>?_;refine s0 r (rfl:false=_) fun fr r=>?_
    refine s0 r (rfl:false=_) fun fr r=>?_;refine s0 r (rfl:false=_) fun fr r=>?_
    refine s0 r (rfl:false=_) fun fr r=>?_;refine seq_val (.bool false) r (fun R=>y_pick r (b:=false) (congrArg Value.bool (rfl:false=_)) rfl) rfl fun fr r=>?_
    refine seq_val (.bool false) r (fun R=>y_move r rfl) rfl fun fr r=>?_;refine s0 r (rfl:false=_) fun fr r=>?_
    refine s0 r (rfl:false=_) fun fr r=>?_;refine s0 r (rfl:false=_) fun fr r=>?_
    refine s0 r (rfl:false=_) fun fr r=>?_;refine s0 r (rfl:false=_) fun fr r=>?_
    refine s0 r (rfl:false=_) fun fr r=>?_;refine seq_val (.bool false) r (fun R=>y_pick r (b:=false) (congrArg Value.bool (rfl:false=_)) rfl) rfl fun fr r=>?_
    refine seq_val (.bool false) r (fun R=>y_assign r rfl) rfl fun fr r=>?_;refine wn ?_
    exact nxy88 false () _ _ _ hD r (hs_cons rfl (hs_cons rfl (hs_cons rfl (hs_cons rfl (hs_cons rfl (hs_cons rfl (hs_cons rfl (hs_cons rfl (hs_cons rfl (hs_cons rfl (hs_cons rfl (hs_cons rfl (hs_cons rfl (hs_cons rfl (hs_cons rfl (hs_cons rfl (hs_cons rfl hs_nil))))))))))))))))) (hP.pick [0,1,2,3,4,5] rfl rfl)
   have hD:=(cond_f h90).symm.trans hD;refine s0 r h90 fun fr r=>?_;refine s0 r h90 fun fr r=>?_
   refine s0 r h90 fun fr r=>?_;refine seq_val (.bool false) r (fun R=>y_pick r (b:=false) (congrArg Value.bool h90) rfl) rfl fun fr r=>?_
   refine seq_val (.bool false) r (fun R=>y_move r rfl) rfl fun fr r=>?_;refine s0 r (rfl:false=_) fun fr r=>?_
   refine s0 r (rfl:false=_) fun fr r=>?_;refine s0 r (rfl:false=_) fun fr r=>?_
   refine seq_val (.bool false) r (fun R=>y_pick r (b:=false) (congrArg Value.bool (rfl:false=_)) rfl) rfl fun fr r=>?_;refine seq_val (.bool false) r (fun R=>y_move r rfl) rfl fun fr r=>?_
   refine s0 r (rfl:false=_) fun fr r=>?_;refine s0 r (rfl:false=_) fun fr r=>?_
   refine s0 r (rfl:false=_) fun fr r=>?_;refine s0 r (rfl:false=_) fun fr r=>?_
   refine s0 r (rfl:false=_) fun fr r=>?_;refine s0 r (rfl:false=_) fun fr r=>?_
   refine seq_val (.bool false) r (fun R=>y_pick r (b:=false) (congrArg Value.bool (rfl:false=_)) rfl) rfl fun fr r=>?_;refine seq_val (.bool false) r (fun R=>y_move r rfl) rfl fun fr r=>?_
   refine s0 r (rfl:false=_) fun fr r=>?_;refine s0 r (rfl:false=_) fun fr r=>?_
   refine s0 r (rfl:false=_) fun fr r=>?_;refine s0 r (rfl:false=_) fun fr r=>?_
   refine s0 r (rfl:false=_) fun fr r=>?_;refine s0 r (rfl:false=_) fun fr r=>?_
   refine seq_val (.bool false) r (fun R=>y_pick r (b:=false) (congrArg Value.bool (rfl:false=_)) rfl) rfl fun fr r=>?_;refine seq_val (.bool false) r (fun R=>y_assign r rfl) rfl fun fr r=>?_
   refine wn ?_;exact nxy88 false () _ _ _ hD r (hs_cons rfl (hs_cons rfl (hs_cons rfl (hs_cons rfl (hs_cons rfl (hs_cons rfl (hs_cons rfl (hs_cons rfl (hs_cons rfl (hs_cons rfl (hs_cons rfl (hs_cons rfl (hs_cons rfl (hs_cons rfl (hs_cons rfl (hs_cons rfl (hs_cons rfl hs_nil))))))))))))))))) (hP.pick [0,1,2,3,4,5] rfl rfl)
  have hD:=(cond_f h89).symm.trans hD;refine s0 r h89 fun fr r=>?_;refine seq_val (.bool false) r (fun R=>y_pick r (b:=false) (congrArg Value.bool h89) rfl) rfl fun fr r=>?_
  refine seq_val (.bool false) r (fun R=>y_move r rfl) rfl fun fr r=>?_;refine s0 r (rfl:false=_) fun fr r=>?_
  refine s0 r (rfl:false=_) fun fr r=>?_;refine s0 r (rfl:false=_) fun fr r=>?_
  refine seq_val (.bool false) r (fun R=>y_pick r (b:=false) (congrArg Value.bool (rfl:false=_)) rfl) rfl fun fr r=>?_;refine seq_val (.bool false) r (fun R=>y_move r rfl) rfl fun fr r=>?_
  refine s0 r (rfl:false=_) fun fr r=>?_;refine s0 r (rfl:false=_) fun fr r=>?_
  refine s0 r (rfl:false=_) fun fr r=>?_;refine seq_val (.bool false) r (fun R=>y_pick r (b:=false) (congrArg Value.bool (rfl:false=_)) rfl) rfl fun fr r=>?_
  refine seq_val (.bool false) r (fun R=>y_move r rfl) rfl fun fr r=>?_;refine s0 r (rfl:false=_) fun fr r=>?_
  refine s0 r (rfl:false=_) fun fr r=>?_;refine s0 r (rfl:false=_) fun fr r=>?_
  refine s0 r (rfl:false=_) fun fr r=>?_;refine s0 r (rfl:false=_) fun fr r=>?_
  refine s0 r (rfl:false=_) fun fr r=>?_;refine seq_val (.bool false) r (fun R=>y_pick r (b:=false) (congrArg Value.bool (rfl:false=_)) rfl) rfl fun fr r=>?_
  refine seq_val (.bool false) r (fun R=>y_move r rfl) rfl fun fr r=>?_;refine s0 r (rfl:false=_) fun fr r=>?_
  refine s0 r (rfl:false=_) fun fr r=>?_;refine s0 r (rfl:false=_) fun fr r=>?_
  refine s0 r (rfl:false=_) fun fr r=>?_;refine s0 r (rfl:false=_) fun fr r=>?_
  refine s0 r (rfl:false=_) fun fr r=>?_;refine seq_val (.bool false) r (fun R=>y_pick r (b:=false) (congrArg Value.bool (rfl:false=_)) rfl) rfl fun fr r=>?_
  refine seq_val (.bool false) r (fun R=>y_assign r rfl) rfl fun fr r=>?_;refine wn ?_
  exact nxy88 false () _ _ _ hD r (hs_cons rfl (hs_cons rfl (hs_cons rfl (hs_cons rfl (hs_cons rfl (hs_cons rfl (hs_cons rfl (hs_cons rfl (hs_cons rfl (hs_cons rfl (hs_cons rfl (hs_cons rfl (hs_cons rfl (hs_cons rfl (hs_cons rfl (hs_cons rfl (hs_cons rfl hs_nil))))))))))))))))) (hP.pick [0,1,2,3,4,5] rfl rfl)
 rintro x100 γ101 fr w102 g r hP hD;have hP:Post No [roK 4 1 boolE a2_v a2,cellC b11 ((planC (⟨4,2,7,0,1,9⟩:Plan))).toArray 26,memK mg19 x80.2.1,progK Try.prog encWord x80.2.2.1 γ81.1 γ81.2.1,progK Try.prog encWord x80.2.2.2 γ81.2.2.1 γ81.2.2.2,cellC b35 (γ81.1.cells++γ81.2.2.1.cells) 39] w0 w102:=hP;refine wp_ret ?_;have hv:x100=res:=Option.some.inj hD
 try dsimp only [Exit.then,Exit.inBlock]
 refine ret_tmp (fn:=Try.f3) r (t:=6) rfl (v:=(.bool x100)) rfl ?_;subst hv;exact ⟨rfl,hP.chg.below⟩

end Go.Proofs.Ytikjpdpgdmbdpaa.Wk

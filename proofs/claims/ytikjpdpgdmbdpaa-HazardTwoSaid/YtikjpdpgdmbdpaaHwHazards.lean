/- Written by a program of ours (wip/gen.py): hazards -/
import Derived.Test.YtikjpdpgdmbdpaaHwM7
set_option linter.all false
set_option linter.unusedVariables false
set_option maxRecDepth 20000
set_option maxHeartbeats 2000000
namespace Go.Proofs.Ytikjpdpgdmbdpaa
open Go.RowKit
theorem cl15:callable Try.prog 15=true:=by kernel_rfl

theorem cl24:callable Try.prog 24=true:=by kernel_rfl

theorem cl36:callable Try.prog 36=true:=by kernel_rfl

theorem cl37:callable Try.prog 37=true:=by kernel_rfl

theorem cl38:callable Try.prog 38=true:=by kernel_rfl

theorem cl51:callable Try.prog 51=true:=by kernel_rfl

theorem cl53:callable Try.prog 53=true:=by kernel_rfl

theorem cl59:callable Try.prog 59=true:=by kernel_rfl

theorem cl61:callable Try.prog 61=true:=by kernel_rfl

theorem cl62:callable Try.prog 62=true:=by kernel_rfl

theorem cl81:callable Try.prog 81=true:=by kernel_rfl

theorem cl82:callable Try.prog 82=true:=by kernel_rfl

theorem cl83:callable Try.prog 83=true:=by kernel_rfl

def D.hazard_word (a0:Int):Int:=(IntKind.u64.wrap (IntKind.i64.wrap (a0+1)))

theorem c_hazard_word (w0:World) 
    (a0:Int) :
    Calls Try.prog 51 #[.int .i64 a0] w0 (PureRes (.int .u64 (D.hazard_word a0)) w0):=by
 refine enter Try.func51 rfl 6 rfl rfl fun fr r=>?_;have hB:=Below.refl w0.heap.size w0
 refine wsr ?_;refine seq_val (U 0) r (fun R=>y_assign r rfl) rfl fun fr r=>?_;refine wn ?_
 refine wsr ?_;refine seq_val (I a0) r (fun R=>y_move r rfl) rfl fun fr r=>?_;refine seq_val _ r (fun R=>y_bin r rfl rfl rfl rfl) rfl fun fr r=>?_
 refine seq_val (U (V (W (a0+1)))) r (fun R=>y_convert r rfl ti3 ti22) rfl fun fr r=>?_;refine seq_val (U (V (W (a0+1)))) r (fun R=>y_assign r rfl) rfl fun fr r=>?_
 refine wn ?_;refine wp_ret ?_;refine ret_tmp r rfl rfl ?_;exact ⟨rfl,hB⟩

def D.hazard_Set (a0:Plan) (a1:Int) (a2:Int) (a3:Int):T Unit:=(D.prog_Set (D.plan_Plan_Hazard a0 a1 a2) (D.hazard_word a3))

theorem c_hazard_Set {n:Nat} {F:Nat→Prop} {w0:World} (hF:∀ b,F b→b<w0.heap.size)
    (a0:Plan) (a1:Int) (a2:Int) (a3:Int) :
    Calls Try.prog 24 #[.agg (planC a0).toArray,.int .i64 a1,.int .i64 a2,.int .i64 a3] w0 (RepRes Try.prog encNone n (D.hazard_Set a0 a1 a2 a3) F w0):=by
 refine enter Try.func24 rfl 16 rfl rfl fun fr r=>?_;have hB:=Below.refl w0.heap.size w0
 refine wsr ?_;refine seq_new (.cells ((planC a0)).toArray 26 (0,0)) r (fun R=>y_box r (v:=(.agg (planC a0).toArray)) rfl) rfl fun fr b1 w2 n3 r=>?_;obtain ⟨e_b1,z_w2,h_b1,hB,zB⟩:=n3.all hB
 refine seq_new (.cells (progCells false encNone.zero 0 0 0 0 .nilFunc) 70 (0,0)) r (fun R=>y_alloc tz70) rfl fun fr b4 w5 n6 r=>?_;have h_b1:=keep n6.below h_b1
 obtain ⟨e_b4,z_w5,h_b4,hB,zB⟩:=n6.all hB;refine wn ?_;refine wsr ?_;refine seq_val (.agg (planC a0).toArray) r (fun R=>y_load_agg r (cs:=(planC a0)) (n:=6) rfl h_b1 ta26 rfl) rfl fun fr r=>?_;refine seq_val (I a1) r (fun R=>y_move r rfl) rfl fun fr r=>?_
 refine seq_val (I a2) r (fun R=>y_move r rfl) rfl fun fr r=>?_;refine seq_call r (c_plan_Plan_Hazard w5 a0 a1 a2) (fun R hc=>y_call r rfl cl15 hc) rfl ?_
 rintro _ w7 ⟨rfl,hb⟩;refine ⟨_,rfl,fun fr r=>?_⟩
 have z_w7:=hb.size;have h_b1:=keep hb h_b1;have h_b4:=keep hb h_b4;obtain ⟨hB,zB⟩:=bon hb hB;refine seq_val (I a3) r (fun R=>y_move r rfl) rfl fun fr r=>?_;refine seq_call r (c_hazard_word w7 a3) (fun R hc=>y_call r rfl cl51 hc) rfl ?_
 rintro _ w8 ⟨rfl,hb⟩;refine ⟨_,rfl,fun fr r=>?_⟩
 have z_w8:=hb.size;have h_b1:=keep hb h_b1;have h_b4:=keep hb h_b4;obtain ⟨hB,zB⟩:=bon hb hB;have hF1:=fgrow hF hB b4;refine seq_call r (c_prog_Set (F:=(fun b=>F b∨(w0.heap.size≤b∧b<w8.heap.size∧b≠b4))) (n:=n) hF1 (D.plan_Plan_Hazard a0 a1 a2) (D.hazard_word a3)) (fun R hc=>y_call r rfl cl50 hc) rfl ?_;rintro _ w9 ⟨v10,rfl,hb,hr11⟩
 refine ⟨_,rfl,fun fr r=>?_⟩
 have z_w9:=hb.size;have h_b1:=keep hb h_b1;have h_b4:=keep hb h_b4;obtain ⟨hB,zB⟩:=bon hb hB;refine seq_upd (.cells v10.cells 70 (0,0)) r (fun R=>y_storep r hr11.shape rfl rfl h_b4 ts70 rfl) rfl fun fr w12 u13 r=>?_;have z_w12:=u13.size
 have h_b1:=u13.keep h_b1 (by omega)
 have h_b4:=u13.at_;obtain ⟨hB,zB⟩:=u13.on hB (by omega)
 refine wn ?_;refine wp_ret ?_;have hs:=hr11.shape.cells;refine ret_cell r rfl rfl h_b4 (k:=6) hs.1 ta70 ?_;rw [←hs.2.2];exact rfin hF hB hr11 u13 (by omega) (by omega) (by omega)

def D.hazard_held_1 (r_hazard_held:Plan→Int→Int→T Bool) (c0:Int) (c1:Plan) (c2:Int) (a0:Int):T Bool:=(bif (a0==(D.hazard_word c0)) then (D.prog_Done_bool true) else (r_hazard_held c1 c0 (IntKind.i64.wrap (c2+1))))

def D.hazard_held_body (r_hazard_held:Plan→Int→Int→T Bool) (a0:Plan) (a1:Int) (a2:Int):T Bool:=(bif (a2==(IntKind.i64.wrap (a0.threads * 3))) then (D.prog_Done_bool false) else (D.prog_Load_bool (D.plan_Plan_Hazard a0 (IntKind.i64.wrap (a2.tdiv 3)) (a2.tmod 3)) (fun x=>(D.hazard_held_1 r_hazard_held a1 a0 a2 x))))

def D.hazard_held:Nat→Plan→Int→Int→T Bool
  | 0,_,_,_=>.cut
  | k+1,a0,a1,a2=>D.hazard_held_body (D.hazard_held k) a0 a1 a2

def Spec_hazard_held (r:Plan→Int→Int→T Bool) (n:Nat):Prop:=∀ (F:Nat→Prop) (w0:World),(∀ b,F b→b<w0.heap.size)→∀ (a0:Plan) (a1:Int) (a2:Int),Calls Try.prog 53 #[.agg (planC a0).toArray,.int .i64 a1,.int .i64 a2] w0 (RepRes Try.prog encBool n (r a0 a1 a2) F w0)

theorem c_hazard_held_1 {n:Nat} {F:Nat→Prop} {r_hazard_held:Plan→Int→Int→T Bool} {w0:World} (hF:∀ b,F b→b<w0.heap.size) (ih_hazard_held:∀ m,m≤n→Spec_hazard_held r_hazard_held m)
    (c0:Int) {c0_b:Nat} (c0_F:F c0_b) (c0_h:w0.heap[c0_b]?=some (.cells ([(.int .i64 c0)]).toArray 3 (0,0))) (c1:Plan) {c1_b:Nat} (c1_F:F c1_b) (c1_h:w0.heap[c1_b]?=some (.cells ((planC c1)).toArray 26 (0,0))) (c2:Int) {c2_b:Nat} (c2_F:F c2_b) (c2_h:w0.heap[c2_b]?=some (.cells ([(.int .i64 c2)]).toArray 3 (0,0))) (a0:Int) :
    Calls Try.prog 83 #[.int .u64 a0,.pointer (some ⟨c0_b,0,none⟩),.pointer (some ⟨c1_b,0,none⟩),.pointer (some ⟨c2_b,0,none⟩)] w0 (RepRes Try.prog encBool n (D.hazard_held_1 r_hazard_held c0 c1 c2 a0) F w0):=by
 refine enter Try.func83 rfl 16 rfl rfl fun fr r=>?_;have hB:=Below.refl w0.heap.size w0
 have l_c0_b:=lt_of_block c0_h;have l_c1_b:=lt_of_block c1_h;have l_c2_b:=lt_of_block c2_h;refine wsr ?_;refine seq_new (.cells (progCells false encBool.zero 0 0 0 0 .nilFunc) 76 (0,0)) r (fun R=>y_alloc tz76) rfl fun fr b1 w2 n3 r=>?_;obtain ⟨e_b1,z_w2,h_b1,hB,zB⟩:=n3.all hB
 refine wn ?_;refine wp_seq ?_;refine wsr ?_;refine seq_val (U a0) r (fun R=>y_move r rfl) rfl fun fr r=>?_;refine seq_val (I c0) r (fun R=>y_load_one r rfl (keep hB c0_h) to3 rfl) rfl fun fr r=>?_
 refine seq_call r (c_hazard_word w2 c0) (fun R hc=>y_call r rfl cl51 hc) rfl ?_;rintro _ w4 ⟨rfl,hb⟩
 refine ⟨_,rfl,fun fr r=>?_⟩
 have z_w4:=hb.size;have h_b1:=keep hb h_b1;obtain ⟨hB,zB⟩:=bon hb hB;refine seq_val _ r (fun R=>y_bin r rfl rfl rfl rfl) rfl fun fr r=>?_;refine wn ?_
 refine wp_cond_split (t:=(a0==(D.hazard_word c0))) (r.ev rfl) (fun h5=>?_) (fun h5=>?_)
 ·
  refine wsr ?_;have hF1:=fgrow hF hB b1;refine seq_call r (c_prog_Done_bool (F:=(fun b=>F b∨(w0.heap.size≤b∧b<w4.heap.size∧b≠b1))) (n:=n) hF1 true) (fun R hc=>y_call r rfl cl81 hc) rfl ?_;rintro _ w6 ⟨v7,rfl,hb,hr8⟩
  refine ⟨_,rfl,fun fr r=>?_⟩
  have z_w6:=hb.size;have h_b1:=keep hb h_b1;obtain ⟨hB,zB⟩:=bon hb hB;refine seq_upd (.cells v7.cells 76 (0,0)) r (fun R=>y_storep r hr8.shape rfl rfl h_b1 ts76 rfl) rfl fun fr w9 u10 r=>?_;have z_w9:=u10.size
  have h_b1:=u10.at_;obtain ⟨hB,zB⟩:=u10.on hB (by omega)
  refine wn ?_;refine wp_ret ?_;have hd:D.hazard_held_1 r_hazard_held c0 c1 c2 a0=(D.prog_Done_bool true):=(cond_t h5).trans (rfl);have hs:=hr8.shape.cells;refine ret_cell r rfl rfl h_b1 (k:=7) hs.1 ta76 ?_;rw [←hs.2.2,hd];exact rfin hF hB hr8 u10 (by omega) (by omega) (by omega)
 refine wp_skip ?_;refine wsr ?_;refine seq_val (.agg (planC c1).toArray) r (fun R=>y_load_agg r (cs:=(planC c1)) (n:=6) rfl (keep hB c1_h) ta26 rfl) rfl fun fr r=>?_;refine seq_val (I c0) r (fun R=>y_load_one r rfl (keep hB c0_h) to3 rfl) rfl fun fr r=>?_
 refine seq_val (I c2) r (fun R=>y_load_one r rfl (keep hB c2_h) to3 rfl) rfl fun fr r=>?_;refine seq_val _ r (fun R=>y_bin r rfl rfl rfl rfl) rfl fun fr r=>?_
 have hF1:=fgrow hF hB b1;refine seq_call r ((ih_hazard_held n (by omega)) (fun b=>F b∨(w0.heap.size≤b∧b<w4.heap.size∧b≠b1)) _ hF1 c1 c0 (W (c2+1))) (fun R hc=>y_call r rfl cl53 hc) rfl ?_
 rintro _ w11 ⟨v12,rfl,hb,hr13⟩;refine ⟨_,rfl,fun fr r=>?_⟩
 have z_w11:=hb.size;have h_b1:=keep hb h_b1;obtain ⟨hB,zB⟩:=bon hb hB;refine seq_upd (.cells v12.cells 76 (0,0)) r (fun R=>y_storep r hr13.shape rfl rfl h_b1 ts76 rfl) rfl fun fr w14 u15 r=>?_;have z_w14:=u15.size
 have h_b1:=u15.at_;obtain ⟨hB,zB⟩:=u15.on hB (by omega)
 refine wn ?_;refine wp_ret ?_;have hd:D.hazard_held_1 r_hazard_held c0 c1 c2 a0=(r_hazard_held c1 c0 (W (c2+1))):=(cond_f h5).trans (rfl);have hs:=hr13.shape.cells;refine ret_cell r rfl rfl h_b1 (k:=7) hs.1 ta76 ?_;rw [←hs.2.2,hd];exact rfin hF hB hr13 u15 (by omega) (by omega) (by omega)

theorem b_hazard_held {n:Nat} {F:Nat→Prop} {r_hazard_held:Plan→Int→Int→T Bool} {w0:World} (hF:∀ b,F b→b<w0.heap.size) (ih_hazard_held:∀ m,m<n→Spec_hazard_held r_hazard_held m)
    (a0:Plan) (a1:Int) (a2:Int) :
    Calls Try.prog 53 #[.agg (planC a0).toArray,.int .i64 a1,.int .i64 a2] w0 (RepRes Try.prog encBool n (D.hazard_held_body r_hazard_held a0 a1 a2) F w0):=by
 refine enter Try.func53 rfl 21 rfl rfl fun fr r=>?_;have hB:=Below.refl w0.heap.size w0
 refine wsr ?_;refine seq_new (.cells ((planC a0)).toArray 26 (0,0)) r (fun R=>y_box r (v:=(.agg (planC a0).toArray)) rfl) rfl fun fr b1 w2 n3 r=>?_;obtain ⟨e_b1,z_w2,h_b1,hB,zB⟩:=n3.all hB
 refine seq_new (.cells #[(I a1)] 3 (0,0)) r (fun R=>y_box r (v:=(I a1)) rfl) rfl fun fr b4 w5 n6 r=>?_;have h_b1:=keep n6.below h_b1
 obtain ⟨e_b4,z_w5,h_b4,hB,zB⟩:=n6.all hB;refine seq_new (.cells #[(I a2)] 3 (0,0)) r (fun R=>y_box r (v:=(I a2)) rfl) rfl fun fr b7 w8 n9 r=>?_;have h_b1:=keep n9.below h_b1
 have h_b4:=keep n9.below h_b4;obtain ⟨e_b7,z_w8,h_b7,hB,zB⟩:=n9.all hB;refine seq_new (.cells (progCells false encBool.zero 0 0 0 0 .nilFunc) 76 (0,0)) r (fun R=>y_alloc tz76) rfl fun fr b10 w11 n12 r=>?_;have h_b1:=keep n12.below h_b1
 have h_b4:=keep n12.below h_b4;have h_b7:=keep n12.below h_b7;obtain ⟨e_b10,z_w11,h_b10,hB,zB⟩:=n12.all hB;refine wn ?_;refine wp_seq ?_;refine wsr ?_;refine seq_val (I a2) r (fun R=>y_load_one r rfl h_b7 to3 rfl) rfl fun fr r=>?_;refine seq_val _ r (fun R=>y_fieldAddr r (o:=0) rfl fo26_1) rfl fun fr r=>?_
 refine seq_val (I a0.threads) r (fun R=>y_load_one r rfl h_b1 to3 rfl) rfl fun fr r=>?_;refine seq_val _ r (fun R=>y_bin r rfl rfl rfl rfl) rfl fun fr r=>?_
 refine seq_val _ r (fun R=>y_bin r rfl rfl rfl rfl) rfl fun fr r=>?_;refine wn ?_
 refine wp_cond_split (t:=(a2==(W (a0.threads * 3)))) (r.ev rfl) (fun h13=>?_) (fun h13=>?_)
 ·
  refine wsr ?_;have hF1:=fgrow hF hB b10;refine seq_call r (c_prog_Done_bool (F:=(fun b=>F b∨(w0.heap.size≤b∧b<w11.heap.size∧b≠b10))) (n:=n) hF1 false) (fun R hc=>y_call r rfl cl81 hc) rfl ?_;rintro _ w14 ⟨v15,rfl,hb,hr16⟩
  refine ⟨_,rfl,fun fr r=>?_⟩
  have z_w14:=hb.size;have h_b1:=keep hb h_b1;have h_b4:=keep hb h_b4;have h_b7:=keep hb h_b7;have h_b10:=keep hb h_b10;obtain ⟨hB,zB⟩:=bon hb hB;refine seq_upd (.cells v15.cells 76 (0,0)) r (fun R=>y_storep r hr16.shape rfl rfl h_b10 ts76 rfl) rfl fun fr w17 u18 r=>?_;have z_w17:=u18.size
  have h_b1:=u18.keep h_b1 (by omega)
  have h_b4:=u18.keep h_b4 (by omega)
  have h_b7:=u18.keep h_b7 (by omega)
  have h_b10:=u18.at_;obtain ⟨hB,zB⟩:=u18.on hB (by omega)
  refine wn ?_;refine wp_ret ?_;have hd:D.hazard_held_body r_hazard_held a0 a1 a2=(D.prog_Done_bool false):=(cond_t h13).trans (rfl);have hs:=hr16.shape.cells;refine ret_cell r rfl rfl h_b10 (k:=7) hs.1 ta76 ?_;rw [←hs.2.2,hd];exact rfin hF hB hr16 u18 (by omega) (by omega) (by omega)
 refine wp_skip ?_;refine wsr ?_;refine seq_val (.agg (planC a0).toArray) r (fun R=>y_load_agg r (cs:=(planC a0)) (n:=6) rfl h_b1 ta26 rfl) rfl fun fr r=>?_;refine seq_val (I a2) r (fun R=>y_load_one r rfl h_b7 to3 rfl) rfl fun fr r=>?_
 refine seq_val _ r (fun R=>y_bin r rfl rfl rfl rfl) rfl fun fr r=>?_;refine seq_val (I a2) r (fun R=>y_load_one r rfl h_b7 to3 rfl) rfl fun fr r=>?_
 refine seq_val _ r (fun R=>y_bin r rfl rfl rfl rfl) rfl fun fr r=>?_;refine seq_call r (c_plan_Plan_Hazard w11 a0 (W (a2.tdiv 3)) (a2.tmod 3)) (fun R hc=>y_call r rfl cl15 hc) rfl ?_
 rintro _ w19 ⟨rfl,hb⟩;refine ⟨_,rfl,fun fr r=>?_⟩
 have z_w19:=hb.size;have h_b1:=keep hb h_b1;have h_b4:=keep hb h_b4;have h_b7:=keep hb h_b7;have h_b10:=keep hb h_b10;obtain ⟨hB,zB⟩:=bon hb hB;refine seq_val (.func (.func 83) #[] #[.pointer (some ⟨b4,0,none⟩),.pointer (some ⟨b1,0,none⟩),.pointer (some ⟨b7,0,none⟩)]) r (fun R=>y_makeFunc r rfl) rfl fun fr r=>?_;have hF1:=fgrow hF hB b10
 have f20:((fun b=>F b∨(w0.heap.size≤b∧b<w19.heap.size∧b≠b10))) b4:=(.inr ⟨by omega,by omega,by omega⟩)
 have f21:((fun b=>F b∨(w0.heap.size≤b∧b<w19.heap.size∧b≠b10))) b1:=(.inr ⟨by omega,by omega,by omega⟩)
 have f22:((fun b=>F b∨(w0.heap.size≤b∧b<w19.heap.size∧b≠b10))) b7:=(.inr ⟨by omega,by omega,by omega⟩)
 refine seq_call r (c_prog_Load_bool (F:=(fun b=>F b∨(w0.heap.size≤b∧b<w19.heap.size∧b≠b10))) (n:=n) hF1 (D.plan_Plan_Hazard a0 (W (a2.tdiv 3)) (a2.tmod 3)) ⟨83,[],[.pointer (some ⟨b4,0,none⟩),.pointer (some ⟨b1,0,none⟩),.pointer (some ⟨b7,0,none⟩)],cl83,rfl,fun m hm x w' hs hz=>c_hazard_held_1 (fun b hb=>Nat.lt_of_lt_of_le (hF1 b hb) hz) (fun m' hm'=>ih_hazard_held m' (by omega)) a1 f20 (hs.at_ f20 h_b4) a0 f21 (hs.at_ f21 h_b1) a2 f22 (hs.at_ f22 h_b7) x⟩) (fun R hc=>y_call r rfl cl82 hc) rfl ?_;rintro _ w23 ⟨v24,rfl,hb,hr25⟩
 refine ⟨_,rfl,fun fr r=>?_⟩
 have z_w23:=hb.size;have h_b1:=keep hb h_b1;have h_b4:=keep hb h_b4;have h_b7:=keep hb h_b7;have h_b10:=keep hb h_b10;obtain ⟨hB,zB⟩:=bon hb hB;refine seq_upd (.cells v24.cells 76 (0,0)) r (fun R=>y_storep r hr25.shape rfl rfl h_b10 ts76 rfl) rfl fun fr w26 u27 r=>?_;have z_w26:=u27.size
 have h_b1:=u27.keep h_b1 (by omega)
 have h_b4:=u27.keep h_b4 (by omega)
 have h_b7:=u27.keep h_b7 (by omega)
 have h_b10:=u27.at_;obtain ⟨hB,zB⟩:=u27.on hB (by omega)
 refine wn ?_;refine wp_ret ?_;have hd:D.hazard_held_body r_hazard_held a0 a1 a2=(D.prog_Load_bool (D.plan_Plan_Hazard a0 (W (a2.tdiv 3)) (a2.tmod 3)) (fun x=>(D.hazard_held_1 r_hazard_held a1 a0 a2 x))):=(cond_f h13).trans (rfl)
 have hs:=hr25.shape.cells;refine ret_cell r rfl rfl h_b10 (k:=7) hs.1 ta76 ?_;rw [←hs.2.2,hd];exact rfin hF hB hr25 u27 (by omega) (by omega) (by omega)

theorem c_hazard_held {n:Nat} {k:Nat} (hk:n<k):Spec_hazard_held (D.hazard_held k) n:=by
  induction n using Nat.strongRecOn generalizing k with
  | _ n ih=>
    obtain ⟨k,rfl⟩:∃ q,k=q+1:=⟨k - 1,by omega⟩
    intro F w0 hF;have h:=@b_hazard_held n F (D.hazard_held k) w0 hF (fun m hm=>ih m hm (by omega))
    exact h

def D.hazard_Held (j:Nat) (a0:Plan) (a1:Int):T Bool:=(D.hazard_held j a0 a1 0)

theorem c_hazard_Held {n:Nat} {F:Nat→Prop} {j:Nat} {w0:World} (hF:∀ b,F b→b<w0.heap.size) (hj:n<j)
    (a0:Plan) (a1:Int) :
    Calls Try.prog 26 #[.agg (planC a0).toArray,.int .i64 a1] w0 (RepRes Try.prog encBool n (D.hazard_Held j a0 a1) F w0):=by
 refine enter Try.func26 rfl 8 rfl rfl fun fr r=>?_;have hB:=Below.refl w0.heap.size w0
 refine wsr ?_;refine seq_new (.cells ((planC a0)).toArray 26 (0,0)) r (fun R=>y_box r (v:=(.agg (planC a0).toArray)) rfl) rfl fun fr b1 w2 n3 r=>?_;obtain ⟨e_b1,z_w2,h_b1,hB,zB⟩:=n3.all hB
 refine seq_new (.cells (progCells false encBool.zero 0 0 0 0 .nilFunc) 76 (0,0)) r (fun R=>y_alloc tz76) rfl fun fr b4 w5 n6 r=>?_;have h_b1:=keep n6.below h_b1
 obtain ⟨e_b4,z_w5,h_b4,hB,zB⟩:=n6.all hB;refine wn ?_;refine wsr ?_;refine seq_val (.agg (planC a0).toArray) r (fun R=>y_load_agg r (cs:=(planC a0)) (n:=6) rfl h_b1 ta26 rfl) rfl fun fr r=>?_;refine seq_val (I a1) r (fun R=>y_move r rfl) rfl fun fr r=>?_
 have hF1:=fgrow hF hB b4;refine seq_call r ((c_hazard_held (k:=j) (n:=n) (by omega)) (fun b=>F b∨(w0.heap.size≤b∧b<w5.heap.size∧b≠b4)) _ hF1 a0 a1 0) (fun R hc=>y_call r rfl cl53 hc) rfl ?_
 rintro _ w7 ⟨v8,rfl,hb,hr9⟩;refine ⟨_,rfl,fun fr r=>?_⟩
 have z_w7:=hb.size;have h_b1:=keep hb h_b1;have h_b4:=keep hb h_b4;obtain ⟨hB,zB⟩:=bon hb hB;refine seq_upd (.cells v8.cells 76 (0,0)) r (fun R=>y_storep r hr9.shape rfl rfl h_b4 ts76 rfl) rfl fun fr w10 u11 r=>?_;have z_w10:=u11.size
 have h_b1:=u11.keep h_b1 (by omega)
 have h_b4:=u11.at_;obtain ⟨hB,zB⟩:=u11.on hB (by omega)
 refine wn ?_;refine wp_ret ?_;have hs:=hr9.shape.cells;refine ret_cell r rfl rfl h_b4 (k:=7) hs.1 ta76 ?_;rw [←hs.2.2];exact rfin hF hB hr9 u11 (by omega) (by omega) (by omega)

def D.hazard_guard_1_1 (r_hazard_guard:Plan→Int→Int→Int→Int→Int→T Int) (c0:Int) (c1:Plan) (c2:Int) (c3:Int) (c4:Int) (c5:Int) (a0:Int):T Int:=(bif (a0==c0) then (D.prog_Done_uint64 c0) else (r_hazard_guard c1 c2 c3 c4 c5 a0))

def D.hazard_guard_1 (r_hazard_guard:Plan→Int→Int→Int→Int→Int→T Int) (c0:Int) (c1:Int) (c2:Plan) (c3:Int) (c4:Int) (c5:Int):T Int:=(D.prog_Load_uint64 c0 (fun x=>(D.hazard_guard_1_1 r_hazard_guard c1 c2 c3 c4 c0 c5 x)))

def D.hazard_guard_body (r_hazard_guard:Plan→Int→Int→Int→Int→Int→T Int) (a0:Plan) (a1:Int) (a2:Int) (a3:Int) (a4:Int) (a5:Int):T Int:=(bif (decide ((IntKind.i64.wrap ((IntKind.i64.wrap (shrI .u64 a5 a4)) - 1))<0)) then (D.prog_Done_uint64 a5) else (T.bind (D.hazard_Set a0 a1 a2 (IntKind.i64.wrap ((IntKind.i64.wrap (shrI .u64 a5 a4)) - 1))) (fun _=>(D.hazard_guard_1 r_hazard_guard a3 a5 a0 a1 a2 a4))))

def D.hazard_guard:Nat→Plan→Int→Int→Int→Int→Int→T Int
  | 0,_,_,_,_,_,_=>.cut
  | k+1,a0,a1,a2,a3,a4,a5=>D.hazard_guard_body (D.hazard_guard k) a0 a1 a2 a3 a4 a5

def Spec_hazard_guard (r:Plan→Int→Int→Int→Int→Int→T Int) (n:Nat):Prop:=∀ (F:Nat→Prop) (w0:World),(∀ b,F b→b<w0.heap.size)→∀ (a0:Plan) (a1:Int) (a2:Int) (a3:Int) (a4:Int) (a5:Int) (_:0≤a4),Calls Try.prog 38 #[.agg (planC a0).toArray,.int .i64 a1,.int .i64 a2,.int .i64 a3,.int .i64 a4,.int .u64 a5] w0 (RepRes Try.prog encWord n (r a0 a1 a2 a3 a4 a5) F w0)

theorem c_hazard_guard_1_1 {n:Nat} {F:Nat→Prop} {r_hazard_guard:Plan→Int→Int→Int→Int→Int→T Int} {w0:World} (hF:∀ b,F b→b<w0.heap.size) (ih_hazard_guard:∀ m,m≤n→Spec_hazard_guard r_hazard_guard m)
    (c0:Int) {c0_b:Nat} (c0_F:F c0_b) (c0_h:w0.heap[c0_b]?=some (.cells ([(.int .u64 c0)]).toArray 22 (0,0))) (c1:Plan) {c1_b:Nat} (c1_F:F c1_b) (c1_h:w0.heap[c1_b]?=some (.cells ((planC c1)).toArray 26 (0,0))) (c2:Int) {c2_b:Nat} (c2_F:F c2_b) (c2_h:w0.heap[c2_b]?=some (.cells ([(.int .i64 c2)]).toArray 3 (0,0))) (c3:Int) {c3_b:Nat} (c3_F:F c3_b) (c3_h:w0.heap[c3_b]?=some (.cells ([(.int .i64 c3)]).toArray 3 (0,0))) (c4:Int) {c4_b:Nat} (c4_F:F c4_b) (c4_h:w0.heap[c4_b]?=some (.cells ([(.int .i64 c4)]).toArray 3 (0,0))) (c5:Int) {c5_b:Nat} (c5_F:F c5_b) (c5_h:w0.heap[c5_b]?=some (.cells ([(.int .i64 c5)]).toArray 3 (0,0))) (a0:Int) (pre0:0≤c5) :
    Calls Try.prog 62 #[.int .u64 a0,.pointer (some ⟨c0_b,0,none⟩),.pointer (some ⟨c1_b,0,none⟩),.pointer (some ⟨c2_b,0,none⟩),.pointer (some ⟨c3_b,0,none⟩),.pointer (some ⟨c4_b,0,none⟩),.pointer (some ⟨c5_b,0,none⟩)] w0 (RepRes Try.prog encWord n (D.hazard_guard_1_1 r_hazard_guard c0 c1 c2 c3 c4 c5 a0) F w0):=by
 refine enter Try.func62 rfl 21 rfl rfl fun fr r=>?_;have hB:=Below.refl w0.heap.size w0
 have l_c0_b:=lt_of_block c0_h;have l_c1_b:=lt_of_block c1_h;have l_c2_b:=lt_of_block c2_h;have l_c3_b:=lt_of_block c3_h;have l_c4_b:=lt_of_block c4_h;have l_c5_b:=lt_of_block c5_h;refine wsr ?_;refine seq_new (.cells (progCells false encWord.zero 0 0 0 0 .nilFunc) 39 (0,0)) r (fun R=>y_alloc tz39) rfl fun fr b1 w2 n3 r=>?_;obtain ⟨e_b1,z_w2,h_b1,hB,zB⟩:=n3.all hB
 refine wn ?_;refine wp_seq ?_;refine wsr ?_;refine seq_val (U a0) r (fun R=>y_move r rfl) rfl fun fr r=>?_;refine seq_val (U c0) r (fun R=>y_load_one r rfl (keep hB c0_h) to22 rfl) rfl fun fr r=>?_
 refine seq_val _ r (fun R=>y_bin r rfl rfl rfl rfl) rfl fun fr r=>?_;refine wn ?_
 refine wp_cond_split (t:=(a0==c0)) (r.ev rfl) (fun h4=>?_) (fun h4=>?_)
 ·
  refine wsr ?_;refine seq_val (U c0) r (fun R=>y_load_one r rfl (keep hB c0_h) to22 rfl) rfl fun fr r=>?_;have hF1:=fgrow hF hB b1
  refine seq_call r (c_prog_Done_uint64 (F:=(fun b=>F b∨(w0.heap.size≤b∧b<w2.heap.size∧b≠b1))) (n:=n) hF1 c0) (fun R hc=>y_call r rfl cl59 hc) rfl ?_;rintro _ w5 ⟨v6,rfl,hb,hr7⟩
  refine ⟨_,rfl,fun fr r=>?_⟩
  have z_w5:=hb.size;have h_b1:=keep hb h_b1;obtain ⟨hB,zB⟩:=bon hb hB;refine seq_upd (.cells v6.cells 39 (0,0)) r (fun R=>y_storep r hr7.shape rfl rfl h_b1 ts39 rfl) rfl fun fr w8 u9 r=>?_;have z_w8:=u9.size
  have h_b1:=u9.at_;obtain ⟨hB,zB⟩:=u9.on hB (by omega)
  refine wn ?_;refine wp_ret ?_;have hd:D.hazard_guard_1_1 r_hazard_guard c0 c1 c2 c3 c4 c5 a0=(D.prog_Done_uint64 c0):=(cond_t h4).trans (rfl);have hs:=hr7.shape.cells;refine ret_cell r rfl rfl h_b1 (k:=7) hs.1 ta39 ?_;rw [←hs.2.2,hd];exact rfin hF hB hr7 u9 (by omega) (by omega) (by omega)
 refine wp_skip ?_;refine wsr ?_;refine seq_val (.agg (planC c1).toArray) r (fun R=>y_load_agg r (cs:=(planC c1)) (n:=6) rfl (keep hB c1_h) ta26 rfl) rfl fun fr r=>?_;refine seq_val (I c2) r (fun R=>y_load_one r rfl (keep hB c2_h) to3 rfl) rfl fun fr r=>?_
 refine seq_val (I c3) r (fun R=>y_load_one r rfl (keep hB c3_h) to3 rfl) rfl fun fr r=>?_;refine seq_val (I c4) r (fun R=>y_load_one r rfl (keep hB c4_h) to3 rfl) rfl fun fr r=>?_
 refine seq_val (I c5) r (fun R=>y_load_one r rfl (keep hB c5_h) to3 rfl) rfl fun fr r=>?_;refine seq_val (U a0) r (fun R=>y_move r rfl) rfl fun fr r=>?_
 have hF1:=fgrow hF hB b1;refine seq_call r ((ih_hazard_guard n (by omega)) (fun b=>F b∨(w0.heap.size≤b∧b<w2.heap.size∧b≠b1)) _ hF1 c1 c2 c3 c4 c5 a0 (by first | assumption | decide)) (fun R hc=>y_call r rfl cl38 hc) rfl ?_
 rintro _ w10 ⟨v11,rfl,hb,hr12⟩;refine ⟨_,rfl,fun fr r=>?_⟩
 have z_w10:=hb.size;have h_b1:=keep hb h_b1;obtain ⟨hB,zB⟩:=bon hb hB;refine seq_upd (.cells v11.cells 39 (0,0)) r (fun R=>y_storep r hr12.shape rfl rfl h_b1 ts39 rfl) rfl fun fr w13 u14 r=>?_;have z_w13:=u14.size
 have h_b1:=u14.at_;obtain ⟨hB,zB⟩:=u14.on hB (by omega)
 refine wn ?_;refine wp_ret ?_;have hd:D.hazard_guard_1_1 r_hazard_guard c0 c1 c2 c3 c4 c5 a0=(r_hazard_guard c1 c2 c3 c4 c5 a0):=(cond_f h4).trans (rfl);have hs:=hr12.shape.cells;refine ret_cell r rfl rfl h_b1 (k:=7) hs.1 ta39 ?_;rw [←hs.2.2,hd];exact rfin hF hB hr12 u14 (by omega) (by omega) (by omega)

theorem c_hazard_guard_1 {n:Nat} {F:Nat→Prop} {r_hazard_guard:Plan→Int→Int→Int→Int→Int→T Int} {w0:World} (hF:∀ b,F b→b<w0.heap.size) (ih_hazard_guard:∀ m,m<n→Spec_hazard_guard r_hazard_guard m)
    (c0:Int) {c0_b:Nat} (c0_F:F c0_b) (c0_h:w0.heap[c0_b]?=some (.cells ([(.int .i64 c0)]).toArray 3 (0,0))) (c1:Int) {c1_b:Nat} (c1_F:F c1_b) (c1_h:w0.heap[c1_b]?=some (.cells ([(.int .u64 c1)]).toArray 22 (0,0))) (c2:Plan) {c2_b:Nat} (c2_F:F c2_b) (c2_h:w0.heap[c2_b]?=some (.cells ((planC c2)).toArray 26 (0,0))) (c3:Int) {c3_b:Nat} (c3_F:F c3_b) (c3_h:w0.heap[c3_b]?=some (.cells ([(.int .i64 c3)]).toArray 3 (0,0))) (c4:Int) {c4_b:Nat} (c4_F:F c4_b) (c4_h:w0.heap[c4_b]?=some (.cells ([(.int .i64 c4)]).toArray 3 (0,0))) (c5:Int) {c5_b:Nat} (c5_F:F c5_b) (c5_h:w0.heap[c5_b]?=some (.cells ([(.int .i64 c5)]).toArray 3 (0,0))) (pre0:0≤c5) :
    Calls Try.prog 61 #[.agg #[],.pointer (some ⟨c0_b,0,none⟩),.pointer (some ⟨c1_b,0,none⟩),.pointer (some ⟨c2_b,0,none⟩),.pointer (some ⟨c3_b,0,none⟩),.pointer (some ⟨c4_b,0,none⟩),.pointer (some ⟨c5_b,0,none⟩)] w0 (RepRes Try.prog encWord n (D.hazard_guard_1 r_hazard_guard c0 c1 c2 c3 c4 c5) F w0):=by
 refine enter Try.func61 rfl 12 rfl rfl fun fr r=>?_;have hB:=Below.refl w0.heap.size w0
 have l_c0_b:=lt_of_block c0_h;have l_c1_b:=lt_of_block c1_h;have l_c2_b:=lt_of_block c2_h;have l_c3_b:=lt_of_block c3_h;have l_c4_b:=lt_of_block c4_h;have l_c5_b:=lt_of_block c5_h;refine wsr ?_;refine seq_new (.cells #[] 65 (0,0)) r (fun R=>y_box r (v:=(.agg #[])) rfl) rfl fun fr b1 w2 n3 r=>?_;obtain ⟨e_b1,z_w2,h_b1,hB,zB⟩:=n3.all hB
 refine seq_new (.cells (progCells false encWord.zero 0 0 0 0 .nilFunc) 39 (0,0)) r (fun R=>y_alloc tz39) rfl fun fr b4 w5 n6 r=>?_;have h_b1:=keep n6.below h_b1
 obtain ⟨e_b4,z_w5,h_b4,hB,zB⟩:=n6.all hB;refine wn ?_;refine wsr ?_;refine seq_val (I c0) r (fun R=>y_load_one r rfl (keep hB c0_h) to3 rfl) rfl fun fr r=>?_;refine seq_val (.func (.func 62) #[] #[.pointer (some ⟨c1_b,0,none⟩),.pointer (some ⟨c2_b,0,none⟩),.pointer (some ⟨c3_b,0,none⟩),.pointer (some ⟨c4_b,0,none⟩),.pointer (some ⟨c0_b,0,none⟩),.pointer (some ⟨c5_b,0,none⟩)]) r (fun R=>y_makeFunc r rfl) rfl fun fr r=>?_
 have hF1:=fgrow hF hB b4;have f7:((fun b=>F b∨(w0.heap.size≤b∧b<w5.heap.size∧b≠b4))) c1_b:=(.inl c1_F)
 have f8:((fun b=>F b∨(w0.heap.size≤b∧b<w5.heap.size∧b≠b4))) c2_b:=(.inl c2_F)
 have f9:((fun b=>F b∨(w0.heap.size≤b∧b<w5.heap.size∧b≠b4))) c3_b:=(.inl c3_F)
 have f10:((fun b=>F b∨(w0.heap.size≤b∧b<w5.heap.size∧b≠b4))) c4_b:=(.inl c4_F)
 have f11:((fun b=>F b∨(w0.heap.size≤b∧b<w5.heap.size∧b≠b4))) c0_b:=(.inl c0_F)
 have f12:((fun b=>F b∨(w0.heap.size≤b∧b<w5.heap.size∧b≠b4))) c5_b:=(.inl c5_F)
 refine seq_call r (c_prog_Load_uint64 (F:=(fun b=>F b∨(w0.heap.size≤b∧b<w5.heap.size∧b≠b4))) (n:=n) hF1 c0 ⟨62,[],[.pointer (some ⟨c1_b,0,none⟩),.pointer (some ⟨c2_b,0,none⟩),.pointer (some ⟨c3_b,0,none⟩),.pointer (some ⟨c4_b,0,none⟩),.pointer (some ⟨c0_b,0,none⟩),.pointer (some ⟨c5_b,0,none⟩)],cl62,rfl,fun m hm x w' hs hz=>c_hazard_guard_1_1 (fun b hb=>Nat.lt_of_lt_of_le (hF1 b hb) hz) (fun m' hm'=>ih_hazard_guard m' (by omega)) c1 f7 (hs.at_ f7 (keep hB c1_h)) c2 f8 (hs.at_ f8 (keep hB c2_h)) c3 f9 (hs.at_ f9 (keep hB c3_h)) c4 f10 (hs.at_ f10 (keep hB c4_h)) c0 f11 (hs.at_ f11 (keep hB c0_h)) c5 f12 (hs.at_ f12 (keep hB c5_h)) x (by first | assumption | decide)⟩) (fun R hc=>y_call r rfl cl36 hc) rfl ?_;rintro _ w13 ⟨v14,rfl,hb,hr15⟩
 refine ⟨_,rfl,fun fr r=>?_⟩
 have z_w13:=hb.size;have h_b1:=keep hb h_b1;have h_b4:=keep hb h_b4;obtain ⟨hB,zB⟩:=bon hb hB;refine seq_upd (.cells v14.cells 39 (0,0)) r (fun R=>y_storep r hr15.shape rfl rfl h_b4 ts39 rfl) rfl fun fr w16 u17 r=>?_;have z_w16:=u17.size
 have h_b1:=u17.keep h_b1 (by omega)
 have h_b4:=u17.at_;obtain ⟨hB,zB⟩:=u17.on hB (by omega)
 refine wn ?_;refine wp_ret ?_;have hs:=hr15.shape.cells;refine ret_cell r rfl rfl h_b4 (k:=7) hs.1 ta39 ?_;rw [←hs.2.2];exact rfin hF hB hr15 u17 (by omega) (by omega) (by omega)

theorem b_hazard_guard {n:Nat} {F:Nat→Prop} {r_hazard_guard:Plan→Int→Int→Int→Int→Int→T Int} {w0:World} (hF:∀ b,F b→b<w0.heap.size) (ih_hazard_guard:∀ m,m<n→Spec_hazard_guard r_hazard_guard m)
    (a0:Plan) (a1:Int) (a2:Int) (a3:Int) (a4:Int) (a5:Int) (pre0:0≤a4) :
    Calls Try.prog 38 #[.agg (planC a0).toArray,.int .i64 a1,.int .i64 a2,.int .i64 a3,.int .i64 a4,.int .u64 a5] w0 (RepRes Try.prog encWord n (D.hazard_guard_body r_hazard_guard a0 a1 a2 a3 a4 a5) F w0):=by
 refine enter Try.func38 rfl 30 rfl rfl fun fr r=>?_;have hB:=Below.refl w0.heap.size w0
 refine wsr ?_;refine seq_new (.cells ((planC a0)).toArray 26 (0,0)) r (fun R=>y_box r (v:=(.agg (planC a0).toArray)) rfl) rfl fun fr b1 w2 n3 r=>?_;obtain ⟨e_b1,z_w2,h_b1,hB,zB⟩:=n3.all hB
 refine seq_new (.cells #[(I a1)] 3 (0,0)) r (fun R=>y_box r (v:=(I a1)) rfl) rfl fun fr b4 w5 n6 r=>?_;have h_b1:=keep n6.below h_b1
 obtain ⟨e_b4,z_w5,h_b4,hB,zB⟩:=n6.all hB;refine seq_new (.cells #[(I a2)] 3 (0,0)) r (fun R=>y_box r (v:=(I a2)) rfl) rfl fun fr b7 w8 n9 r=>?_;have h_b1:=keep n9.below h_b1
 have h_b4:=keep n9.below h_b4;obtain ⟨e_b7,z_w8,h_b7,hB,zB⟩:=n9.all hB;refine seq_new (.cells #[(I a3)] 3 (0,0)) r (fun R=>y_box r (v:=(I a3)) rfl) rfl fun fr b10 w11 n12 r=>?_;have h_b1:=keep n12.below h_b1
 have h_b4:=keep n12.below h_b4;have h_b7:=keep n12.below h_b7;obtain ⟨e_b10,z_w11,h_b10,hB,zB⟩:=n12.all hB;refine seq_new (.cells #[(I a4)] 3 (0,0)) r (fun R=>y_box r (v:=(I a4)) rfl) rfl fun fr b13 w14 n15 r=>?_;have h_b1:=keep n15.below h_b1
 have h_b4:=keep n15.below h_b4;have h_b7:=keep n15.below h_b7;have h_b10:=keep n15.below h_b10;obtain ⟨e_b13,z_w14,h_b13,hB,zB⟩:=n15.all hB;refine seq_new (.cells #[(U a5)] 22 (0,0)) r (fun R=>y_box r (v:=(U a5)) rfl) rfl fun fr b16 w17 n18 r=>?_;have h_b1:=keep n18.below h_b1
 have h_b4:=keep n18.below h_b4;have h_b7:=keep n18.below h_b7;have h_b10:=keep n18.below h_b10;have h_b13:=keep n18.below h_b13;obtain ⟨e_b16,z_w17,h_b16,hB,zB⟩:=n18.all hB;refine seq_new (.cells (progCells false encWord.zero 0 0 0 0 .nilFunc) 39 (0,0)) r (fun R=>y_alloc tz39) rfl fun fr b19 w20 n21 r=>?_;have h_b1:=keep n21.below h_b1
 have h_b4:=keep n21.below h_b4;have h_b7:=keep n21.below h_b7;have h_b10:=keep n21.below h_b10;have h_b13:=keep n21.below h_b13;have h_b16:=keep n21.below h_b16;obtain ⟨e_b19,z_w20,h_b19,hB,zB⟩:=n21.all hB;refine wn ?_;refine wsr ?_;refine seq_val (U a5) r (fun R=>y_load_one r rfl h_b16 to22 rfl) rfl fun fr r=>?_;refine seq_val (I a4) r (fun R=>y_load_one r rfl h_b13 to3 rfl) rfl fun fr r=>?_
 refine seq_val _ r (fun R=>y_bin r rfl rfl rfl (bin_shr (by first | assumption | decide))) rfl fun fr r=>?_;refine seq_val (I (W (shrI .u64 a5 a4))) r (fun R=>y_convert r rfl ti22 ti3) rfl fun fr r=>?_
 refine seq_val _ r (fun R=>y_bin r rfl rfl rfl rfl) rfl fun fr r=>?_;refine seq_val (I (W ((W (shrI .u64 a5 a4)) - 1))) r (fun R=>y_assign r rfl) rfl fun fr r=>?_
 refine wn ?_;refine wp_seq ?_;refine wsr ?_;refine seq_val (I (W ((W (shrI .u64 a5 a4)) - 1))) r (fun R=>y_move r rfl) rfl fun fr r=>?_;refine seq_val _ r (fun R=>y_bin r rfl rfl rfl rfl) rfl fun fr r=>?_
 refine wn ?_;refine wp_cond_split (t:=(decide ((W ((W (shrI .u64 a5 a4)) - 1))<0))) (r.ev rfl) (fun h22=>?_) (fun h22=>?_)
 ·
  refine wsr ?_;refine seq_val (U a5) r (fun R=>y_load_one r rfl h_b16 to22 rfl) rfl fun fr r=>?_;have hF1:=fgrow hF hB b19
  refine seq_call r (c_prog_Done_uint64 (F:=(fun b=>F b∨(w0.heap.size≤b∧b<w20.heap.size∧b≠b19))) (n:=n) hF1 a5) (fun R hc=>y_call r rfl cl59 hc) rfl ?_;rintro _ w23 ⟨v24,rfl,hb,hr25⟩
  refine ⟨_,rfl,fun fr r=>?_⟩
  have z_w23:=hb.size;have h_b1:=keep hb h_b1;have h_b4:=keep hb h_b4;have h_b7:=keep hb h_b7;have h_b10:=keep hb h_b10;have h_b13:=keep hb h_b13;have h_b16:=keep hb h_b16;have h_b19:=keep hb h_b19;obtain ⟨hB,zB⟩:=bon hb hB;refine seq_upd (.cells v24.cells 39 (0,0)) r (fun R=>y_storep r hr25.shape rfl rfl h_b19 ts39 rfl) rfl fun fr w26 u27 r=>?_;have z_w26:=u27.size
  have h_b1:=u27.keep h_b1 (by omega)
  have h_b4:=u27.keep h_b4 (by omega)
  have h_b7:=u27.keep h_b7 (by omega)
  have h_b10:=u27.keep h_b10 (by omega)
  have h_b13:=u27.keep h_b13 (by omega)
  have h_b16:=u27.keep h_b16 (by omega)
  have h_b19:=u27.at_;obtain ⟨hB,zB⟩:=u27.on hB (by omega)
  refine wn ?_;refine wp_ret ?_;have hd:D.hazard_guard_body r_hazard_guard a0 a1 a2 a3 a4 a5=(D.prog_Done_uint64 a5):=(cond_t h22).trans (rfl);have hs:=hr25.shape.cells;refine ret_cell r rfl rfl h_b19 (k:=7) hs.1 ta39 ?_;rw [←hs.2.2,hd];exact rfin hF hB hr25 u27 (by omega) (by omega) (by omega)
 refine wp_skip ?_;refine wsr ?_;refine seq_val (.agg (planC a0).toArray) r (fun R=>y_load_agg r (cs:=(planC a0)) (n:=6) rfl h_b1 ta26 rfl) rfl fun fr r=>?_;refine seq_val (I a1) r (fun R=>y_load_one r rfl h_b4 to3 rfl) rfl fun fr r=>?_
 refine seq_val (I a2) r (fun R=>y_load_one r rfl h_b7 to3 rfl) rfl fun fr r=>?_;refine seq_val (I (W ((W (shrI .u64 a5 a4)) - 1))) r (fun R=>y_move r rfl) rfl fun fr r=>?_
 have hF1:=fgrow hF hB b19;refine seq_call r (c_hazard_Set (F:=(fun b=>F b∨(w0.heap.size≤b∧b<w20.heap.size∧b≠b19))) (n:=n) hF1 a0 a1 a2 (W ((W (shrI .u64 a5 a4)) - 1))) (fun R hc=>y_call r rfl cl24 hc) rfl ?_;rintro _ w28 ⟨v29,rfl,hb,hr30⟩
 refine ⟨_,rfl,fun fr r=>?_⟩
 have z_w28:=hb.size;have h_b1:=keep hb h_b1;have h_b4:=keep hb h_b4;have h_b7:=keep hb h_b7;have h_b10:=keep hb h_b10;have h_b13:=keep hb h_b13;have h_b16:=keep hb h_b16;have h_b19:=keep hb h_b19;obtain ⟨hB,zB⟩:=bon hb hB;refine seq_val (.func (.func 61) #[] #[.pointer (some ⟨b10,0,none⟩),.pointer (some ⟨b16,0,none⟩),.pointer (some ⟨b1,0,none⟩),.pointer (some ⟨b4,0,none⟩),.pointer (some ⟨b7,0,none⟩),.pointer (some ⟨b13,0,none⟩)]) r (fun R=>y_makeFunc r rfl) rfl fun fr r=>?_;have hF1:=fgrow hF hB b19
 have f31:((fun b=>F b∨(w0.heap.size≤b∧b<w28.heap.size∧b≠b19))) b10:=(.inr ⟨by omega,by omega,by omega⟩)
 have f32:((fun b=>F b∨(w0.heap.size≤b∧b<w28.heap.size∧b≠b19))) b16:=(.inr ⟨by omega,by omega,by omega⟩)
 have f33:((fun b=>F b∨(w0.heap.size≤b∧b<w28.heap.size∧b≠b19))) b1:=(.inr ⟨by omega,by omega,by omega⟩)
 have f34:((fun b=>F b∨(w0.heap.size≤b∧b<w28.heap.size∧b≠b19))) b4:=(.inr ⟨by omega,by omega,by omega⟩)
 have f35:((fun b=>F b∨(w0.heap.size≤b∧b<w28.heap.size∧b≠b19))) b7:=(.inr ⟨by omega,by omega,by omega⟩)
 have f36:((fun b=>F b∨(w0.heap.size≤b∧b<w28.heap.size∧b≠b19))) b13:=(.inr ⟨by omega,by omega,by omega⟩)
 refine seq_call r (c_prog_Then_None_uint64_le (F:=(fun b=>F b∨(w0.heap.size≤b∧b<w28.heap.size∧b≠b19))) (n:=n) hF1 (Rep.mono (by rintro b (h | h); (rcases h with h | ⟨h1,h2,h3⟩; exact .inl h; exact .inr ⟨h1,by omega,h3⟩); exact .inr ⟨by omega,by omega,by omega⟩) (Same.refl _ _) (by omega) n _ _ hr30) ⟨61,[],[.pointer (some ⟨b10,0,none⟩),.pointer (some ⟨b16,0,none⟩),.pointer (some ⟨b1,0,none⟩),.pointer (some ⟨b4,0,none⟩),.pointer (some ⟨b7,0,none⟩),.pointer (some ⟨b13,0,none⟩)],cl61,rfl,fun m hm _ w' hs hz=>c_hazard_guard_1 (fun b hb=>Nat.lt_of_lt_of_le (hF1 b hb) hz) (fun m' hm'=>ih_hazard_guard m' (by omega)) a3 f31 (hs.at_ f31 h_b10) a5 f32 (hs.at_ f32 h_b16) a0 f33 (hs.at_ f33 h_b1) a1 f34 (hs.at_ f34 h_b4) a2 f35 (hs.at_ f35 h_b7) a4 f36 (hs.at_ f36 h_b13) (by first | assumption | decide)⟩) (fun R hc=>y_call r rfl cl60 hc) rfl ?_;rintro _ w37 ⟨v38,rfl,hb,hr39⟩
 refine ⟨_,rfl,fun fr r=>?_⟩
 have z_w37:=hb.size;have h_b1:=keep hb h_b1;have h_b4:=keep hb h_b4;have h_b7:=keep hb h_b7;have h_b10:=keep hb h_b10;have h_b13:=keep hb h_b13;have h_b16:=keep hb h_b16;have h_b19:=keep hb h_b19;obtain ⟨hB,zB⟩:=bon hb hB;refine seq_upd (.cells v38.cells 39 (0,0)) r (fun R=>y_storep r hr39.shape rfl rfl h_b19 ts39 rfl) rfl fun fr w40 u41 r=>?_;have z_w40:=u41.size
 have h_b1:=u41.keep h_b1 (by omega)
 have h_b4:=u41.keep h_b4 (by omega)
 have h_b7:=u41.keep h_b7 (by omega)
 have h_b10:=u41.keep h_b10 (by omega)
 have h_b13:=u41.keep h_b13 (by omega)
 have h_b16:=u41.keep h_b16 (by omega)
 have h_b19:=u41.at_;obtain ⟨hB,zB⟩:=u41.on hB (by omega)
 refine wn ?_;refine wp_ret ?_;have hd:D.hazard_guard_body r_hazard_guard a0 a1 a2 a3 a4 a5=(T.bind (D.hazard_Set a0 a1 a2 (W ((W (shrI .u64 a5 a4)) - 1))) (fun _=>(D.hazard_guard_1 r_hazard_guard a3 a5 a0 a1 a2 a4))):=(cond_f h22).trans (rfl)
 have hs:=hr39.shape.cells;refine ret_cell r rfl rfl h_b19 (k:=7) hs.1 ta39 ?_;rw [←hs.2.2,hd];exact rfin hF hB hr39 u41 (by omega) (by omega) (by omega)

theorem c_hazard_guard {n:Nat} {k:Nat} (hk:n<k):Spec_hazard_guard (D.hazard_guard k) n:=by
  induction n using Nat.strongRecOn generalizing k with
  | _ n ih=>
    obtain ⟨k,rfl⟩:∃ q,k=q+1:=⟨k - 1,by omega⟩
    intro F w0 hF;have h:=@b_hazard_guard n F (D.hazard_guard k) w0 hF (fun m hm=>ih m hm (by omega))
    exact h

def D.hazard_Guard_1 (j:Nat) (c0:Plan) (c1:Int) (c2:Int) (c3:Int) (c4:Int) (a0:Int):T Int:=(D.hazard_guard j c0 c1 c2 c3 c4 a0)

theorem c_hazard_Guard_1 {n:Nat} {F:Nat→Prop} {j:Nat} {w0:World} (hF:∀ b,F b→b<w0.heap.size) (hj:n<j)
    (c0:Plan) {c0_b:Nat} (c0_F:F c0_b) (c0_h:w0.heap[c0_b]?=some (.cells ((planC c0)).toArray 26 (0,0))) (c1:Int) {c1_b:Nat} (c1_F:F c1_b) (c1_h:w0.heap[c1_b]?=some (.cells ([(.int .i64 c1)]).toArray 3 (0,0))) (c2:Int) {c2_b:Nat} (c2_F:F c2_b) (c2_h:w0.heap[c2_b]?=some (.cells ([(.int .i64 c2)]).toArray 3 (0,0))) (c3:Int) {c3_b:Nat} (c3_F:F c3_b) (c3_h:w0.heap[c3_b]?=some (.cells ([(.int .i64 c3)]).toArray 3 (0,0))) (c4:Int) {c4_b:Nat} (c4_F:F c4_b) (c4_h:w0.heap[c4_b]?=some (.cells ([(.int .i64 c4)]).toArray 3 (0,0))) (a0:Int) (pre0:0≤c4) :
    Calls Try.prog 37 #[.int .u64 a0,.pointer (some ⟨c0_b,0,none⟩),.pointer (some ⟨c1_b,0,none⟩),.pointer (some ⟨c2_b,0,none⟩),.pointer (some ⟨c3_b,0,none⟩),.pointer (some ⟨c4_b,0,none⟩)] w0 (RepRes Try.prog encWord n (D.hazard_Guard_1 j c0 c1 c2 c3 c4 a0) F w0):=by
 refine enter Try.func37 rfl 15 rfl rfl fun fr r=>?_;have hB:=Below.refl w0.heap.size w0
 have l_c0_b:=lt_of_block c0_h;have l_c1_b:=lt_of_block c1_h;have l_c2_b:=lt_of_block c2_h;have l_c3_b:=lt_of_block c3_h;have l_c4_b:=lt_of_block c4_h;refine wsr ?_;refine seq_new (.cells (progCells false encWord.zero 0 0 0 0 .nilFunc) 39 (0,0)) r (fun R=>y_alloc tz39) rfl fun fr b1 w2 n3 r=>?_;obtain ⟨e_b1,z_w2,h_b1,hB,zB⟩:=n3.all hB
 refine wn ?_;refine wsr ?_;refine seq_val (.agg (planC c0).toArray) r (fun R=>y_load_agg r (cs:=(planC c0)) (n:=6) rfl (keep hB c0_h) ta26 rfl) rfl fun fr r=>?_;refine seq_val (I c1) r (fun R=>y_load_one r rfl (keep hB c1_h) to3 rfl) rfl fun fr r=>?_
 refine seq_val (I c2) r (fun R=>y_load_one r rfl (keep hB c2_h) to3 rfl) rfl fun fr r=>?_;refine seq_val (I c3) r (fun R=>y_load_one r rfl (keep hB c3_h) to3 rfl) rfl fun fr r=>?_
 refine seq_val (I c4) r (fun R=>y_load_one r rfl (keep hB c4_h) to3 rfl) rfl fun fr r=>?_;refine seq_val (U a0) r (fun R=>y_move r rfl) rfl fun fr r=>?_
 have hF1:=fgrow hF hB b1;refine seq_call r ((c_hazard_guard (k:=j) (n:=n) (by omega)) (fun b=>F b∨(w0.heap.size≤b∧b<w2.heap.size∧b≠b1)) _ hF1 c0 c1 c2 c3 c4 a0 (by first | assumption | decide)) (fun R hc=>y_call r rfl cl38 hc) rfl ?_
 rintro _ w4 ⟨v5,rfl,hb,hr6⟩;refine ⟨_,rfl,fun fr r=>?_⟩
 have z_w4:=hb.size;have h_b1:=keep hb h_b1;obtain ⟨hB,zB⟩:=bon hb hB;refine seq_upd (.cells v5.cells 39 (0,0)) r (fun R=>y_storep r hr6.shape rfl rfl h_b1 ts39 rfl) rfl fun fr w7 u8 r=>?_;have z_w7:=u8.size
 have h_b1:=u8.at_;obtain ⟨hB,zB⟩:=u8.on hB (by omega)
 refine wn ?_;refine wp_ret ?_;have hs:=hr6.shape.cells;refine ret_cell r rfl rfl h_b1 (k:=7) hs.1 ta39 ?_;rw [←hs.2.2];exact rfin hF hB hr6 u8 (by omega) (by omega) (by omega)

def D.hazard_Guard (j:Nat) (a0:Plan) (a1:Int) (a2:Int) (a3:Int) (a4:Int):T Int:=(D.prog_Load_uint64 a3 (fun x=>(D.hazard_Guard_1 j a0 a1 a2 a3 a4 x)))

theorem c_hazard_Guard {n:Nat} {F:Nat→Prop} {j:Nat} {w0:World} (hF:∀ b,F b→b<w0.heap.size) (hj:n<j)
    (a0:Plan) (a1:Int) (a2:Int) (a3:Int) (a4:Int) (pre0:0≤a4) :
    Calls Try.prog 10 #[.agg (planC a0).toArray,.int .i64 a1,.int .i64 a2,.int .i64 a3,.int .i64 a4] w0 (RepRes Try.prog encWord n (D.hazard_Guard j a0 a1 a2 a3 a4) F w0):=by
 refine enter Try.func10 rfl 14 rfl rfl fun fr r=>?_;have hB:=Below.refl w0.heap.size w0
 refine wsr ?_;refine seq_new (.cells ((planC a0)).toArray 26 (0,0)) r (fun R=>y_box r (v:=(.agg (planC a0).toArray)) rfl) rfl fun fr b1 w2 n3 r=>?_;obtain ⟨e_b1,z_w2,h_b1,hB,zB⟩:=n3.all hB
 refine seq_new (.cells #[(I a1)] 3 (0,0)) r (fun R=>y_box r (v:=(I a1)) rfl) rfl fun fr b4 w5 n6 r=>?_;have h_b1:=keep n6.below h_b1
 obtain ⟨e_b4,z_w5,h_b4,hB,zB⟩:=n6.all hB;refine seq_new (.cells #[(I a2)] 3 (0,0)) r (fun R=>y_box r (v:=(I a2)) rfl) rfl fun fr b7 w8 n9 r=>?_;have h_b1:=keep n9.below h_b1
 have h_b4:=keep n9.below h_b4;obtain ⟨e_b7,z_w8,h_b7,hB,zB⟩:=n9.all hB;refine seq_new (.cells #[(I a3)] 3 (0,0)) r (fun R=>y_box r (v:=(I a3)) rfl) rfl fun fr b10 w11 n12 r=>?_;have h_b1:=keep n12.below h_b1
 have h_b4:=keep n12.below h_b4;have h_b7:=keep n12.below h_b7;obtain ⟨e_b10,z_w11,h_b10,hB,zB⟩:=n12.all hB;refine seq_new (.cells #[(I a4)] 3 (0,0)) r (fun R=>y_box r (v:=(I a4)) rfl) rfl fun fr b13 w14 n15 r=>?_;have h_b1:=keep n15.below h_b1
 have h_b4:=keep n15.below h_b4;have h_b7:=keep n15.below h_b7;have h_b10:=keep n15.below h_b10;obtain ⟨e_b13,z_w14,h_b13,hB,zB⟩:=n15.all hB;refine seq_new (.cells (progCells false encWord.zero 0 0 0 0 .nilFunc) 39 (0,0)) r (fun R=>y_alloc tz39) rfl fun fr b16 w17 n18 r=>?_;have h_b1:=keep n18.below h_b1
 have h_b4:=keep n18.below h_b4;have h_b7:=keep n18.below h_b7;have h_b10:=keep n18.below h_b10;have h_b13:=keep n18.below h_b13;obtain ⟨e_b16,z_w17,h_b16,hB,zB⟩:=n18.all hB;refine wn ?_;refine wsr ?_;refine seq_val (I a3) r (fun R=>y_load_one r rfl h_b10 to3 rfl) rfl fun fr r=>?_;refine seq_val (.func (.func 37) #[] #[.pointer (some ⟨b1,0,none⟩),.pointer (some ⟨b4,0,none⟩),.pointer (some ⟨b7,0,none⟩),.pointer (some ⟨b10,0,none⟩),.pointer (some ⟨b13,0,none⟩)]) r (fun R=>y_makeFunc r rfl) rfl fun fr r=>?_
 have hF1:=fgrow hF hB b16;have f19:((fun b=>F b∨(w0.heap.size≤b∧b<w17.heap.size∧b≠b16))) b1:=(.inr ⟨by omega,by omega,by omega⟩)
 have f20:((fun b=>F b∨(w0.heap.size≤b∧b<w17.heap.size∧b≠b16))) b4:=(.inr ⟨by omega,by omega,by omega⟩)
 have f21:((fun b=>F b∨(w0.heap.size≤b∧b<w17.heap.size∧b≠b16))) b7:=(.inr ⟨by omega,by omega,by omega⟩)
 have f22:((fun b=>F b∨(w0.heap.size≤b∧b<w17.heap.size∧b≠b16))) b10:=(.inr ⟨by omega,by omega,by omega⟩)
 have f23:((fun b=>F b∨(w0.heap.size≤b∧b<w17.heap.size∧b≠b16))) b13:=(.inr ⟨by omega,by omega,by omega⟩)
 refine seq_call r (c_prog_Load_uint64 (F:=(fun b=>F b∨(w0.heap.size≤b∧b<w17.heap.size∧b≠b16))) (n:=n) hF1 a3 ⟨37,[],[.pointer (some ⟨b1,0,none⟩),.pointer (some ⟨b4,0,none⟩),.pointer (some ⟨b7,0,none⟩),.pointer (some ⟨b10,0,none⟩),.pointer (some ⟨b13,0,none⟩)],cl37,rfl,fun m hm x w' hs hz=>c_hazard_Guard_1 (j:=j) (fun b hb=>Nat.lt_of_lt_of_le (hF1 b hb) hz) (by omega) a0 f19 (hs.at_ f19 h_b1) a1 f20 (hs.at_ f20 h_b4) a2 f21 (hs.at_ f21 h_b7) a3 f22 (hs.at_ f22 h_b10) a4 f23 (hs.at_ f23 h_b13) x (by first | assumption | decide)⟩) (fun R hc=>y_call r rfl cl36 hc) rfl ?_;rintro _ w24 ⟨v25,rfl,hb,hr26⟩
 refine ⟨_,rfl,fun fr r=>?_⟩
 have z_w24:=hb.size;have h_b1:=keep hb h_b1;have h_b4:=keep hb h_b4;have h_b7:=keep hb h_b7;have h_b10:=keep hb h_b10;have h_b13:=keep hb h_b13;have h_b16:=keep hb h_b16;obtain ⟨hB,zB⟩:=bon hb hB;refine seq_upd (.cells v25.cells 39 (0,0)) r (fun R=>y_storep r hr26.shape rfl rfl h_b16 ts39 rfl) rfl fun fr w27 u28 r=>?_;have z_w27:=u28.size
 have h_b1:=u28.keep h_b1 (by omega)
 have h_b4:=u28.keep h_b4 (by omega)
 have h_b7:=u28.keep h_b7 (by omega)
 have h_b10:=u28.keep h_b10 (by omega)
 have h_b13:=u28.keep h_b13 (by omega)
 have h_b16:=u28.at_;obtain ⟨hB,zB⟩:=u28.on hB (by omega)
 refine wn ?_;refine wp_ret ?_;have hs:=hr26.shape.cells;refine ret_cell r rfl rfl h_b16 (k:=7) hs.1 ta39 ?_;rw [←hs.2.2];exact rfin hF hB hr26 u28 (by omega) (by omega) (by omega)

end Go.Proofs.Ytikjpdpgdmbdpaa

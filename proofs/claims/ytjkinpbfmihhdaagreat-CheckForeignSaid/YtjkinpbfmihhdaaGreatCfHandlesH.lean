/- Written by a program of ours (wip/gen.py): handles and their words -/
import Derived.Test.YtjkinpbfmihhdaaGreatCfStatesH
import Derived.Test.YtjkinpbfmihhdaaGreatCfHandles0
set_option linter.unusedVariables false
set_option maxRecDepth 20000
set_option maxHeartbeats 2000000
namespace Go.Proofs.YtjkinpbfmihhdaaGreat.St
open Go.RowKit
theorem cl214 : callable Tryz.prog 214 = true := by kernel_rfl

theorem cl215 : callable Tryz.prog 215 = true := by kernel_rfl

theorem ta63 : tyA Tryz.prog 63 3 = true := by kernel_rfl

theorem ts63 : sized Tryz.prog 63 3 = true := by kernel_rfl

theorem tz63 : zeroOf Tryz.prog 63 = some (.agg (handleC (⟨0, 0, 0⟩ : Handle)).toArray) := by kernel_rfl

def D.handle_layout (fu : Nat)  : Option (List Field) := (some ([(⟨0, 20⟩ : Field), (⟨20, 30⟩ : Field), (⟨50, 6⟩ : Field), (⟨58, 6⟩ : Field)]))

theorem c_handle_layout {fu : Nat} (w0 : World) {res : List Field} (hD : D.handle_layout fu  = some res) :
    Calls Tryz.prog 215 #[] w0 (fun e w' => ∃ (v0 : Value), e = .returned v0 ∧ Done No No [rowK 223 2 fieldC v0 res] w0 w') := by
 refine enter Tryz.func215 rfl 6 rfl rfl fun fr r => ?_
 have hP : Post No [] w0 w0 := Post.nil w0
 unfold D.handle_layout at hD
 refine wsr ?_
 refine seq_val (Value.slice none 0 0) r (fun R => y_assign r rfl) rfl fun fr r => ?_
 refine wn ?_
 refine wsr ?_
 refine seq_val (.agg (fieldC (⟨0, 20⟩ : Field)).toArray) r (fun R => y_build r (by kernel_rfl)) rfl fun fr r => ?_
 refine seq_val (.agg (fieldC (⟨20, 30⟩ : Field)).toArray) r (fun R => y_build r (by kernel_rfl)) rfl fun fr r => ?_
 refine seq_val (.agg (fieldC (⟨50, 6⟩ : Field)).toArray) r (fun R => y_build r (by kernel_rfl)) rfl fun fr r => ?_
 refine seq_val (.agg (fieldC (⟨58, 6⟩ : Field)).toArray) r (fun R => y_build r (by kernel_rfl)) rfl fun fr r => ?_
 refine seq_newS (.cells (([(⟨0, 20⟩ : Field), (⟨20, 30⟩ : Field), (⟨50, 6⟩ : Field), (⟨58, 6⟩ : Field)]).flatMap fieldC).toArray 223 (0, 0)) 4 r (fun R => y_bslice r (by kernel_rfl)) rfl fun fr b1 w2 n3 r => ?_
 have hP : Post No [rowK 223 2 fieldC (.slice (some ⟨b1, 0, none⟩) 4 4) ([(⟨0, 20⟩ : Field), (⟨20, 30⟩ : Field), (⟨50, 6⟩ : Field), (⟨58, 6⟩ : Field)])] w0 w2 := hP.newRow n3 (fun _ => rfl) rfl
 refine seq_val (.slice (some ⟨b1, 0, none⟩) 4 4) r (fun R => y_assign r rfl) rfl fun fr r => ?_
 refine wn ?_
 refine wp_ret ?_
 have hv : [(⟨0, 20⟩ : Field), (⟨20, 30⟩ : Field), (⟨50, 6⟩ : Field), (⟨58, 6⟩ : Field)] = res := Option.some.inj hD
 try dsimp only [Exit.then, Exit.inBlock]
 refine ret_tmp (fn := Tryz.f215) r (t := 0) rfl (v := (.slice (some ⟨b1, 0, none⟩) 4 4)) rfl ?_
 subst hv
 exact ⟨(.slice (some ⟨b1, 0, none⟩) 4 4), rfl, (hP.pick [0] rfl rfl).done (rest_cons rfl rest_nil)⟩

def D.handle_Handle_Word (fu : Nat) (a0 : Handle) : Option (Int) := (bif (!(D.handle_Handle_Formed a0)) then (some 0) else ((D.handle_layout fu ).bind (fun (x7 : List Field) => ((D.field_Pack fu x7 ([(IntKind.u64.wrap a0.index), (IntKind.u64.wrap a0.gen), (IntKind.u64.wrap a0.tenant), 42])).bind (fun (x12 : Int × Int) => (some x12.1))))))

theorem c_handle_Handle_Word {fu : Nat} (w0 : World) (a0 : Handle) {res : Int} (hD : D.handle_Handle_Word fu a0 = some res) :
    Calls Tryz.prog 116 #[.agg (handleC a0).toArray] w0 (PureRes (.int .u64 res) w0) := by
 refine enter Tryz.func116 rfl 24 rfl rfl fun fr r => ?_
 have hP : Post No [] w0 w0 := Post.nil w0
 unfold D.handle_Handle_Word at hD
 refine wsr ?_
 refine seq_new (.cells ((handleC a0)).toArray 63 (0, 0)) r (fun R => y_box r (v := (.agg (handleC a0).toArray)) rfl) rfl fun fr b1 w2 n3 r => ?_
 have hP : Post No [cellC b1 ((handleC a0)).toArray 63] w0 w2 := hP.new n3
 refine seq_val (U 0) r (fun R => y_assign r rfl) rfl fun fr r => ?_
 refine wn ?_
 refine wp_seq ?_
 refine wsr ?_
 refine seq_val (.agg (handleC a0).toArray) r (fun R => y_load_agg r (cs := (handleC a0)) (n := 3) rfl (hP.cell (i := 0) rfl) ta63 rfl) rfl fun fr r => ?_
 refine seq_call r (c_handle_Handle_Formed w2 a0) (fun R hc => y_call r rfl cl214 hc) rfl ?_
 rintro _ w5 ⟨rfl, hb⟩
 refine ⟨_, rfl, fun fr r => ?_⟩
 have hP : Post No [cellC b1 ((handleC a0)).toArray 63] w0 w5 := hP.below hb
 refine seq_val (.bool (!(D.handle_Handle_Formed a0))) r (fun R => y_un r (u := (.bool (D.handle_Handle_Formed a0))) rfl rfl) rfl fun fr r => ?_
 refine wn ?_
 refine wp_cond_split (t := (!(D.handle_Handle_Formed a0))) (r.ev rfl) (fun h6 => ?_) (fun h6 => ?_)
 ·
  have hD := (cond_t h6).symm.trans hD
  refine wsr ?_
  refine seq_val (U 0) r (fun R => y_assign r rfl) rfl fun fr r => ?_
  refine wn ?_
  refine wp_ret ?_
  have hv : 0 = res := Option.some.inj hD
  try dsimp only [Exit.then, Exit.inBlock]
  refine ret_tmp (fn := Tryz.f116) r (t := 2) rfl (v := (U 0)) rfl ?_
  subst hv
  exact ⟨rfl, hP.chg.below⟩
 ·
  have hD := (cond_f h6).symm.trans hD
  refine wp_skip ?_
  refine wp_seq ?_
  obtain ⟨x7, hx7, hD⟩ := bindD_elim hD
  obtain ⟨x12, hx12, hD⟩ := bindD_elim hD
  refine wp_freeF [.pred (MkP (fun v8 : Value => v8) (fun v8 : Value => [rowK 223 2 fieldC v8 x7])) (MkP.st _ _), .val (.pointer (some ⟨b1, 0, none⟩)), .val (I a0.index), .val (U (V a0.index)), .val (.pointer (some ⟨b1, 1, none⟩)), .val (I a0.gen), .val (U (V a0.gen)), .val (.pointer (some ⟨b1, 2, none⟩)), .val (I a0.tenant), .val (U (V a0.tenant)), .pred (MkP (fun v : Value => v) (fun v : Value => [rowK 22 1 u64 v ([(V a0.index), (V a0.gen), (V a0.tenant), 42])])) (MkP.st _ _), .val (.tuple #[(U x12.1), (I x12.2)]), .val (.tuple #[(U x12.1), (I x12.2)]), .val (U x12.1), .val (I x12.2), .val (U x12.1), .val (I x12.2)] mixed r (by kernel_rfl) ?_ ?_
  ·
   refine fc r (fun fr1 g w' hb' hd r' => y_call r' (args := []) (l0) cl215 ((c_handle_layout _ hx7).mono (by rintro _ w2 ⟨y, rfl, hq⟩; exact ⟨_, rfl, hq.chg.below, MkP.of y hq⟩))) ?_
   refine fc r (fun fr1 g w' hb' hd r' => y_fieldAddr r' (b := b1) (o := 0) rfl fo63_0 bz) ?_
   refine fc r (fun fr1 g w' hb' hd r' => y_load_one r' (hd 1 rfl).1 ((hP.below (dr hb')).cell (i := 0) rfl) to3 rfl bz) ?_
   refine fc r (fun fr1 g w' hb' hd r' => y_convert r' (n := a0.index) (hd 2 rfl).1 ti3 ti22 bz) ?_
   refine fc r (fun fr1 g w' hb' hd r' => y_fieldAddr r' (b := b1) (o := 0) rfl fo63_1 bz) ?_
   refine fc r (fun fr1 g w' hb' hd r' => y_load_one r' (hd 4 rfl).1 ((hP.below (dr hb')).cell (i := 0) rfl) to3 rfl bz) ?_
   refine fc r (fun fr1 g w' hb' hd r' => y_convert r' (n := a0.gen) (hd 5 rfl).1 ti3 ti22 bz) ?_
   refine fc r (fun fr1 g w' hb' hd r' => y_fieldAddr r' (b := b1) (o := 0) rfl fo63_2 bz) ?_
   refine fc r (fun fr1 g w' hb' hd r' => y_load_one r' (hd 7 rfl).1 ((hP.below (dr hb')).cell (i := 0) rfl) to3 rfl bz) ?_
   refine fc r (fun fr1 g w' hb' hd r' => y_convert r' (n := a0.tenant) (hd 8 rfl).1 ti3 ti22 bz) ?_
   refine fc r (fun fr1 g w' hb' hd r' => y_bslice r' (c := (([(V a0.index), (V a0.gen), (V a0.tenant), 42]).flatMap u64).toArray) (E := 22) (bs4 (congrArg (fun z => (0, z)) (hd 3 rfl).1) (congrArg (fun z => (1, z)) (hd 6 rfl).1) (congrArg (fun z => (2, z)) (hd 9 rfl).1) (rfl) (by kernel_rfl)) (fun b w2 n2 => ⟨n2.below, MkP.newRow n2 (fun _ => rfl) rfl⟩)) ?_
   refine fc r (fun fr1 g w' hb' hd r' => y_call r' (args := [(g 0).v, (g 10).v]) (lc rfl (lc rfl l0)) cl196 ((c_field_Pack _ x7 (MkP.row (hd 0 rfl).1) ([(V a0.index), (V a0.gen), (V a0.tenant), 42]) (MkP.row (hd 10 rfl).1) hx12).mono (by rintro _ w2 ⟨rfl, hb2⟩; exact ⟨_, rfl, hb2, rfl⟩))) ?_
   refine fc r (fun fr1 g w' hb' hd r' => y_move r' (hd 11 rfl).1 bz) ?_
   refine fc r (fun fr1 g w' hb' hd r' => y_extract r' (vs := #[(U x12.1), (I x12.2)]) (hd 12 rfl).1 rfl bz) ?_
   refine fc r (fun fr1 g w' hb' hd r' => y_extract r' (vs := #[(U x12.1), (I x12.2)]) (hd 12 rfl).1 rfl bz) ?_
   refine fc r (fun fr1 g w' hb' hd r' => y_assign r' (hd 13 rfl).1 bz) ?_
   refine fc r (fun fr1 g w' hb' hd r' => y_assign r' (hd 14 rfl).1 bz) ?_
   exact eachF_nil
  ·
   intro fr gg w13 hb hΦ hap r
   obtain ⟨v8, g0, hs0⟩ := (hΦ 0 rfl).1
   obtain ⟨v10, g10, hs10⟩ := (hΦ 10 rfl).1
   have r := r.congr (sc ((hΦ 16 rfl).1) (sc ((hΦ 15 rfl).1) (sc ((hΦ 14 rfl).1) (sc ((hΦ 13 rfl).1) (sc ((hΦ 12 rfl).1) (sc ((hΦ 11 rfl).1) (sc g10 (sc ((hΦ 9 rfl).1) (sc ((hΦ 8 rfl).1) (sc ((hΦ 7 rfl).1) (sc ((hΦ 6 rfl).1) (sc ((hΦ 5 rfl).1) (sc ((hΦ 4 rfl).1) (sc ((hΦ 3 rfl).1) (sc ((hΦ 2 rfl).1) (sc ((hΦ 1 rfl).1) (sc g0 rfl)))))))))))))))))
   have hP : Post No [cellC b1 ((handleC a0)).toArray 63, rowK 223 2 fieldC v8 x7, rowK 22 1 u64 v10 ([(V a0.index), (V a0.gen), (V a0.tenant), 42])] w0 w13 := hP.addL (l := [([rowK 223 2 fieldC v8 x7], (gg 0).lo, (gg 0).hi), ([rowK 22 1 u64 v10 ([(V a0.index), (V a0.gen), (V a0.tenant), 42])], (gg 10).lo, (gg 10).hi)]) hb ⟨hs0, (hΦ 0 rfl).2.1, (disj_cons (hap 0 10 rfl) disj_nil), ⟨hs10, (hΦ 10 rfl).2.1, disj_nil, trivial⟩⟩
   refine wsr ?_
   refine seq_val (U x12.1) r (fun R => y_move r rfl) rfl fun fr r => ?_
   refine seq_val (U x12.1) r (fun R => y_assign r rfl) rfl fun fr r => ?_
   refine wn ?_
   refine wp_ret ?_
   have hv : x12.1 = res := Option.some.inj hD
   try dsimp only [Exit.then, Exit.inBlock]
   refine ret_tmp (fn := Tryz.f116) r (t := 2) rfl (v := (U x12.1)) rfl ?_
   subst hv
   exact ⟨rfl, hP.chg.below⟩

def D.handle_Of (fu : Nat) (a0 : Int) : Option (Handle × Bool) := ((D.handle_layout fu ).bind (fun (x5 : List Field) => ((D.field_Split fu x5 a0).bind (fun (x9 : List Int × Int) => (Option.bind (bif (x9.2 != 0) then (some true) else ((getI x9.1 3).bind (fun (x15 : Int) => (some (x15 != 42))))) (fun (x16 : Bool) => (bif x16 then (some ((⟨0, 0, 0⟩ : Handle), false)) else ((getI x9.1 0).bind (fun (x22 : Int) => ((getI x9.1 1).bind (fun (x23 : Int) => ((getI x9.1 2).bind (fun (x24 : Int) => (some ((⟨(IntKind.i64.wrap x22), (IntKind.i64.wrap x23), (IntKind.i64.wrap x24)⟩ : Handle), true)))))))))))))))

theorem c_handle_Of {fu : Nat} (w0 : World) (a0 : Int) {res : Handle × Bool} (hD : D.handle_Of fu a0 = some res) :
    Calls Tryz.prog 226 #[.int .u64 a0] w0 (PureRes (.tuple #[(.agg (handleC res.1).toArray), (.bool res.2)]) w0) := by
 refine enter Tryz.func226 rfl 34 rfl rfl fun fr r => ?_
 have hP : Post No [] w0 w0 := Post.nil w0
 unfold D.handle_Of at hD
 refine wsr ?_
 refine seq_new (.cells ((handleC (⟨0, 0, 0⟩ : Handle))).toArray 63 (0, 0)) r (fun R => y_alloc tz63) rfl fun fr b1 w2 n3 r => ?_
 have hP : Post No [cellC b1 ((handleC (⟨0, 0, 0⟩ : Handle))).toArray 63] w0 w2 := hP.new n3
 refine seq_val (.bool false) r (fun R => y_assign r rfl) rfl fun fr r => ?_
 refine wn ?_
 refine wsr ?_
 obtain ⟨x5, hx5, hD⟩ := bindD_elim hD
 refine seq_call r (c_handle_layout w2  hx5) (fun R hc => y_call r rfl cl215 hc) rfl ?_
 rintro _ w6 ⟨v7, rfl, hq⟩
 refine ⟨_, rfl, fun fr r => ?_⟩
 have hP : Post No [cellC b1 ((handleC (⟨0, 0, 0⟩ : Handle))).toArray 63, rowK 223 2 fieldC v7 x5] w0 w6 := hP.add hq
 refine seq_val (U a0) r (fun R => y_move r rfl) rfl fun fr r => ?_
 obtain ⟨x9, hx9, hD⟩ := bindD_elim hD
 refine seq_call r (c_field_Split w6 x5 (hP.row (i := 1) rfl).ro a0 hx9) (fun R hc => y_call r rfl cl156 hc) rfl ?_
 rintro _ w10 ⟨v11, rfl, hq⟩
 refine ⟨_, rfl, fun fr r => ?_⟩
 have hP : Post No [cellC b1 ((handleC (⟨0, 0, 0⟩ : Handle))).toArray 63, rowK 223 2 fieldC v7 x5, rowK 22 1 u64 v11 x9.1] w0 w10 := hP.add hq
 refine seq_val (.tuple #[v11, (I x9.2)]) r (fun R => y_move r rfl) rfl fun fr r => ?_
 refine seq_val v11 r (fun R => y_extract r (vs := #[v11, (I x9.2)]) rfl rfl) rfl fun fr r => ?_
 refine seq_val (I x9.2) r (fun R => y_extract r (vs := #[v11, (I x9.2)]) rfl rfl) rfl fun fr r => ?_
 refine seq_val v11 r (fun R => y_assign r rfl) rfl fun fr r => ?_
 refine seq_val (I x9.2) r (fun R => y_assign r rfl) rfl fun fr r => ?_
 refine wn ?_
 refine wp_seq ?_
 refine wp_seq ?_
 have hP : Post No [cellC b1 ((handleC (⟨0, 0, 0⟩ : Handle))).toArray 63, rowK 22 1 u64 v11 x9.1] w0 w10 := hP.pick [0, 2] rfl rfl
 refine wp_joinG (N := 34) (Y := Bool) (G := Unit) (fun x γ => [(0, (U a0)), (2, (.pointer (some ⟨b1, 0, none⟩))), (3, (.bool false)), (4, v11), (5, (I x9.2)), (19, (.bool x))]) (fun x γ w => Post No [cellC b1 ((handleC (⟨0, 0, 0⟩ : Handle))).toArray 63, rowK 22 1 u64 v11 x9.1] w0 w) hD ?_ ?_
 ·
  rintro y13 RPy13 nxy13 hD
  refine wp_region_lit ?_
  refine seq_val (I x9.2) r (fun R => y_move r rfl) rfl fun fr r => ?_
  refine seq_val _ r (fun R => y_bin r rfl rfl rfl rfl) rfl fun fr r => ?_
  refine seq_val (.bool (x9.2 != 0)) r (fun R => y_move r rfl) rfl fun fr r => ?_
  refine seq_split (x9.2 != 0) (fun h14 => ?_) (fun h14 => ?_)
  ·
   have hD := (cond_t h14).symm.trans hD
   refine s0 r h14 fun fr r => ?_
   refine s0 r h14 fun fr r => ?_
   refine s0 r h14 fun fr r => ?_
   refine s0 r h14 fun fr r => ?_
   refine seq_val (.bool true) r (fun R => y_pick r (b := true) (congrArg Value.bool h14) rfl) rfl fun fr r => ?_
   refine wn ?_
   exact nxy13 true () _ _ _ hD r (hs_cons rfl (hs_cons rfl (hs_cons rfl (hs_cons rfl (hs_cons rfl (hs_cons rfl hs_nil)))))) (hP.pick [0, 1] rfl rfl)
  ·
   have hD := (cond_f h14).symm.trans hD
   refine s1 r h14 ?_
   refine seq_val v11 r (fun R => y_move r rfl) rfl fun fr r => ?_
   refine s1 r h14 ?_
   obtain ⟨x15, hx15, hD⟩ := bindD_elim hD
   refine seq_val (.pointer (some ⟨rowB v11, rowO v11 + (3 : Int).toNat * 1, none⟩)) r (fun R => y_rowAddr r (hP.row (i := 1) rfl).ro hx15 sl49 rfl rfl) rfl fun fr r => ?_
   refine s1 r h14 ?_
   refine seq_val (U x15) r (fun R => y_loadL_one r (u := (U x15)) (RoAt.at_ (f := u64) (x := x15) (hP.row (i := 1) rfl).ro (fun _ => rfl) hx15) rfl to22) rfl fun fr r => ?_
   refine s1 r h14 ?_
   refine seq_val _ r (fun R => y_bin r rfl rfl rfl rfl) rfl fun fr r => ?_
   refine seq_val (.bool (x15 != 42)) r (fun R => y_pick r (b := false) (congrArg Value.bool h14) rfl) rfl fun fr r => ?_
   refine wn ?_
   exact nxy13 (x15 != 42) () _ _ _ hD r (hs_cons rfl (hs_cons rfl (hs_cons rfl (hs_cons rfl (hs_cons rfl (hs_cons rfl hs_nil)))))) (hP.pick [0, 1] rfl rfl)
 ·
  rintro x16 γ17 fr w18 g r hP hD
  have hP : Post No [cellC b1 ((handleC (⟨0, 0, 0⟩ : Handle))).toArray 63, rowK 22 1 u64 v11 x9.1] w0 w18 := hP
  refine wp_cond_split (t := x16) (r.ev rfl) (fun h19 => ?_) (fun h19 => ?_)
  ·
   have hD := (cond_t h19).symm.trans hD
   refine wsr ?_
   refine seq_val (.agg (handleC (⟨0, 0, 0⟩ : Handle)).toArray) r (fun R => y_build r (by kernel_rfl)) rfl fun fr r => ?_
   refine seq_upd (.cells ((handleC (⟨0, 0, 0⟩ : Handle))).toArray 63 (0, 0)) r (fun R => y_store r (o := 0) (v := (.agg (handleC (⟨0, 0, 0⟩ : Handle)).toArray)) rfl rfl (hP.cell (i := 0) rfl) ts63 (Nat.le_of_ble_eq_true rfl) rfl rfl) rfl fun fr w20 u21 r => ?_
   have hP : Post No [cellC b1 ((handleC (⟨0, 0, 0⟩ : Handle))).toArray 63, rowK 22 1 u64 v11 x9.1] w0 w20 := hP.upd (i := 0) rfl u21
   refine seq_val (.bool false) r (fun R => y_assign r rfl) rfl fun fr r => ?_
   refine wn ?_
   refine wp_ret ?_
   have hv : ((⟨0, 0, 0⟩ : Handle), false) = res := Option.some.inj hD
   try dsimp only [Exit.then, Exit.inBlock]
   refine ret_cell_tmp (fn := Tryz.f226) r rfl rfl (v' := (.bool false)) rfl (hP.cell (i := 0) rfl) (k := 3) rfl ta63 ?_
   subst hv
   exact ⟨rfl, hP.chg.below⟩
  ·
   have hD := (cond_f h19).symm.trans hD
   refine wp_skip ?_
   refine wp_seq ?_
   obtain ⟨x22, hx22, hD⟩ := bindD_elim hD
   obtain ⟨x23, hx23, hD⟩ := bindD_elim hD
   obtain ⟨x24, hx24, hD⟩ := bindD_elim hD
   refine wp_freeE [b1] [.val v11, .val (.pointer (some ⟨rowB v11, rowO v11 + (0 : Int).toNat * 1, none⟩)), .val (U x22), .val (I (W x22)), .val v11, .val (.pointer (some ⟨rowB v11, rowO v11 + (1 : Int).toNat * 1, none⟩)), .val (U x23), .val (I (W x23)), .val v11, .val (.pointer (some ⟨rowB v11, rowO v11 + (2 : Int).toNat * 1, none⟩)), .val (U x24), .val (I (W x24)), .val (.agg (handleC (⟨(W x22), (W x23), (W x24)⟩ : Handle)).toArray), .eff (EffP w18.heap.size (cellC b1 ((handleC (⟨(W x22), (W x23), (W x24)⟩ : Handle))).toArray 63) (fun _ : Unit => undef) (fun _ : Unit => [])) (EffP.st _ _ _ _), .val (.bool true)] mixed r (fun b hb => hP.sep.lt (i := 0) rfl (.inl hb)) (by kernel_rfl) ?_ ?_
   ·
    refine eachE_early r rfl (by kernel_rfl) (fun fr1 g w' hb' hd r' => ?_) ?_
    · exact y_move r' (v := v11) rfl ⟨Below.refl _ _, rfl⟩
    refine eachE_early r rfl (by kernel_rfl) (fun fr1 g w' hb' hd r' => ?_) ?_
    · exact y_rowAddr r' ((hP.below (dr hb')).row (i := 1) rfl).ro hx22 sl49 (hd 0 rfl).1 rfl ⟨Below.refl _ _, rfl⟩
    refine eachE_early r rfl (by kernel_rfl) (fun fr1 g w' hb' hd r' => ?_) ?_
    · exact y_loadL_one r' (u := (U x22)) (RoAt.at_ (f := u64) (x := x22) ((hP.below (dr hb')).row (i := 1) rfl).ro (fun _ => rfl) hx22) (hd 1 rfl).1 to22 ⟨Below.refl _ _, rfl⟩
    refine eachE_early r rfl (by kernel_rfl) (fun fr1 g w' hb' hd r' => ?_) ?_
    · exact y_convert r' (n := x22) (hd 2 rfl).1 ti22 ti3 ⟨Below.refl _ _, rfl⟩
    refine eachE_early r rfl (by kernel_rfl) (fun fr1 g w' hb' hd r' => ?_) ?_
    · exact y_move r' (v := v11) rfl ⟨Below.refl _ _, rfl⟩
    refine eachE_early r rfl (by kernel_rfl) (fun fr1 g w' hb' hd r' => ?_) ?_
    · exact y_rowAddr r' ((hP.below (dr hb')).row (i := 1) rfl).ro hx23 sl49 (hd 4 rfl).1 rfl ⟨Below.refl _ _, rfl⟩
    refine eachE_early r rfl (by kernel_rfl) (fun fr1 g w' hb' hd r' => ?_) ?_
    · exact y_loadL_one r' (u := (U x23)) (RoAt.at_ (f := u64) (x := x23) ((hP.below (dr hb')).row (i := 1) rfl).ro (fun _ => rfl) hx23) (hd 5 rfl).1 to22 ⟨Below.refl _ _, rfl⟩
    refine eachE_early r rfl (by kernel_rfl) (fun fr1 g w' hb' hd r' => ?_) ?_
    · exact y_convert r' (n := x23) (hd 6 rfl).1 ti22 ti3 ⟨Below.refl _ _, rfl⟩
    refine eachE_early r rfl (by kernel_rfl) (fun fr1 g w' hb' hd r' => ?_) ?_
    · exact y_move r' (v := v11) rfl ⟨Below.refl _ _, rfl⟩
    refine eachE_early r rfl (by kernel_rfl) (fun fr1 g w' hb' hd r' => ?_) ?_
    · exact y_rowAddr r' ((hP.below (dr hb')).row (i := 1) rfl).ro hx24 sl49 (hd 8 rfl).1 rfl ⟨Below.refl _ _, rfl⟩
    refine eachE_early r rfl (by kernel_rfl) (fun fr1 g w' hb' hd r' => ?_) ?_
    · exact y_loadL_one r' (u := (U x24)) (RoAt.at_ (f := u64) (x := x24) ((hP.below (dr hb')).row (i := 1) rfl).ro (fun _ => rfl) hx24) (hd 9 rfl).1 to22 ⟨Below.refl _ _, rfl⟩
    refine eachE_early r rfl (by kernel_rfl) (fun fr1 g w' hb' hd r' => ?_) ?_
    · exact y_convert r' (n := x24) (hd 10 rfl).1 ti22 ti3 ⟨Below.refl _ _, rfl⟩
    refine eachE_early r rfl (by kernel_rfl) (fun fr1 g w' hb' hd r' => ?_) ?_
    · exact y_build r' (v := (.agg (handleC (⟨(W x22), (W x23), (W x24)⟩ : Handle)).toArray)) (bs3 (congrArg (fun z => (0, z)) (hd 3 rfl).1) (congrArg (fun z => (1, z)) (hd 7 rfl).1) (congrArg (fun z => (2, z)) (hd 11 rfl).1) (by kernel_rfl)) ⟨Below.refl _ _, rfl⟩
    refine eachE_early r rfl (by kernel_rfl) (fun fr1 g w' hb' hd r' => ?_) ?_
    · exact y_store r' (o := 0) (v := (.agg (handleC (⟨(W x22), (W x23), (W x24)⟩ : Handle)).toArray)) rfl (hd 12 rfl).1 ((hP.below (dr hb')).cell (i := 0) rfl) ts63 (Nat.le_of_ble_eq_true rfl) rfl rfl (fun w2 u2 => ⟨u2.kept, (), rfl, u2.at_, (fun b hb => hP.sep.lt (i := 0) rfl hb), fresh_nil⟩)
    refine eachE_late r rfl (fun fr1 g w' hk' hd r' => ?_) ?_
    · exact y_assign r' (v := (.bool true)) rfl ⟨Below.refl _ _, rfl⟩
    exact eachF_nil
   ·
    intro fr gg w25 hb hΦ hap r
    obtain ⟨⟨⟩, g13, hcE, _, hs13⟩ := (hΦ 13 rfl).1
    have r := r.congr (sc ((hΦ 14 rfl).1) (sc ((hΦ 12 rfl).1) (sc ((hΦ 11 rfl).1) (sc ((hΦ 10 rfl).1) (sc ((hΦ 9 rfl).1) (sc ((hΦ 8 rfl).1) (sc ((hΦ 7 rfl).1) (sc ((hΦ 6 rfl).1) (sc ((hΦ 5 rfl).1) (sc ((hΦ 4 rfl).1) (sc ((hΦ 3 rfl).1) (sc ((hΦ 2 rfl).1) (sc ((hΦ 1 rfl).1) (sc ((hΦ 0 rfl).1) rfl))))))))))))))
    have hP : Post No [cellC b1 ((handleC (⟨(W x22), (W x23), (W x24)⟩ : Handle))).toArray 63, rowK 22 1 u64 v11 x9.1] w0 w25 := hP.effL (i := 0) (l := []) rfl hb hcE rfl rfl trivial
    refine wp_ret ?_
    have hv : ((⟨(W x22), (W x23), (W x24)⟩ : Handle), true) = res := Option.some.inj hD
    try dsimp only [Exit.then, Exit.inBlock]
    refine ret_cell_tmp (fn := Tryz.f226) r rfl rfl (v' := (.bool true)) rfl (hP.cell (i := 0) rfl) (k := 3) rfl ta63 ?_
    subst hv
    exact ⟨rfl, hP.chg.below⟩

end Go.Proofs.YtjkinpbfmihhdaaGreat.St

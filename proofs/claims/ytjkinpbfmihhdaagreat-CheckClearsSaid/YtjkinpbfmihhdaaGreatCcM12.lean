/- Some of our texts, one behind the other. -/
import Derived.Test.YtjkinpbfmihhdaaGreatCcM4
import Derived.Test.YtjkinpbfmihhdaaGreatCcM11
import Derived.Test.YtjkinpbfmihhdaaGreatCcM0
set_option linter.all false
/- Written by a program of ours (wip/gen.py): handles and their words -/
set_option linter.unusedVariables false
set_option maxRecDepth 20000
set_option maxHeartbeats 2000000
namespace Go.Proofs.YtjkinpbfmihhdaaGreat.St
open Go.RowKit
theorem cl214 : callable Tryz.prog 214 = true := by kernel_rfl

theorem cl215 : callable Tryz.prog 215 = true := by kernel_rfl

theorem ta63 : tyA Tryz.prog 63 3 = true := by kernel_rfl

theorem ts63 : sized Tryz.prog 63 3 = true := by kernel_rfl

theorem tz63 : zeroOf Tryz.prog 63 = some (.agg (handleC (⟨0, 0, 0⟩ : Handle)).toArray) := by kernel_rfl

def D.zz6a (fu : Nat)  : Option (List Field) := (some ([(⟨0, 20⟩ : Field), (⟨20, 30⟩ : Field), (⟨50, 6⟩ : Field), (⟨58, 6⟩ : Field)]))

theorem zz86 {fu : Nat} (w0 : World) {res : List Field} (hD : D.zz6a fu  = some res) :
    Calls Tryz.prog 215 #[] w0 (fun e w' => ∃ (v0 : Value), e = .returned v0 ∧ Done No No [rowK 223 2 fieldC v0 res] w0 w') := by
 refine enter Tryz.func215 rfl 6 rfl rfl fun fr r => ?_
 have hP : Post No [] w0 w0 := Post.nil w0
 unfold D.zz6a at hD
 refine wsr ?_
 refine seq_val (Value.slice none 0 0) r (fun R => zz03 r rfl) rfl fun fr r => ?_
 refine wn ?_
 refine wsr ?_
 refine seq_val (.agg (fieldC (⟨0, 20⟩ : Field)).toArray) r (fun R => y_build r (by kernel_rfl)) rfl fun fr r => ?_
 refine seq_val (.agg (fieldC (⟨20, 30⟩ : Field)).toArray) r (fun R => y_build r (by kernel_rfl)) rfl fun fr r => ?_
 refine seq_val (.agg (fieldC (⟨50, 6⟩ : Field)).toArray) r (fun R => y_build r (by kernel_rfl)) rfl fun fr r => ?_
 refine seq_val (.agg (fieldC (⟨58, 6⟩ : Field)).toArray) r (fun R => y_build r (by kernel_rfl)) rfl fun fr r => ?_
 refine zz9c (.cells (([(⟨0, 20⟩ : Field), (⟨20, 30⟩ : Field), (⟨50, 6⟩ : Field), (⟨58, 6⟩ : Field)]).flatMap fieldC).toArray 223 (0, 0)) 4 r (fun R => zz40 r (by kernel_rfl)) rfl fun fr b1 w2 n3 r => ?_
 have hP : Post No [rowK 223 2 fieldC (.slice (some ⟨b1, 0, none⟩) 4 4) ([(⟨0, 20⟩ : Field), (⟨20, 30⟩ : Field), (⟨50, 6⟩ : Field), (⟨58, 6⟩ : Field)])] w0 w2 := hP.newRow n3 (fun _ => rfl) rfl
 refine seq_val (.slice (some ⟨b1, 0, none⟩) 4 4) r (fun R => zz03 r rfl) rfl fun fr r => ?_
 refine wn ?_
 refine wp_ret ?_
 have hv : [(⟨0, 20⟩ : Field), (⟨20, 30⟩ : Field), (⟨50, 6⟩ : Field), (⟨58, 6⟩ : Field)] = res := Option.some.inj hD
 try dsimp only [Exit.then, Exit.inBlock]
 refine ret_tmp (fn := Tryz.f215) r (t := 0) rfl (v := (.slice (some ⟨b1, 0, none⟩) 4 4)) rfl ?_
 subst hv
 exact ⟨(.slice (some ⟨b1, 0, none⟩) 4 4), rfl, (hP.pick [0] rfl rfl).done (zz2x rfl zz3u)⟩

def D.zz0u (fu : Nat) (a0 : Handle) : Option (Int) := (bif (!(D.zz0w a0)) then (some 0) else ((D.zz6a fu ).bind (fun (x7 : List Field) => ((D.zz38 fu x7 ([(IntKind.u64.wrap a0.index), (IntKind.u64.wrap a0.gen), (IntKind.u64.wrap a0.tenant), 42])).bind (fun (x12 : Int × Int) => (some x12.1))))))

theorem zz42 {fu : Nat} (w0 : World) (a0 : Handle) {res : Int} (hD : D.zz0u fu a0 = some res) :
    Calls Tryz.prog 116 #[.agg (handleC a0).toArray] w0 (PureRes (.int .u64 res) w0) := by
 refine enter Tryz.func116 rfl 24 rfl rfl fun fr r => ?_
 have hP : Post No [] w0 w0 := Post.nil w0
 unfold D.zz0u at hD
 refine wsr ?_
 refine seq_new (.cells ((handleC a0)).toArray 63 (0, 0)) r (fun R => y_box r (v := (.agg (handleC a0).toArray)) rfl) rfl fun fr b1 w2 n3 r => ?_
 have hP : Post No [cellC b1 ((handleC a0)).toArray 63] w0 w2 := hP.new n3
 refine seq_val (U 0) r (fun R => zz03 r rfl) rfl fun fr r => ?_
 refine wn ?_
 refine wp_seq ?_
 refine wsr ?_
 refine seq_val (.agg (handleC a0).toArray) r (fun R => zz05 r (cs := (handleC a0)) (n := 3) rfl (hP.cell (i := 0) rfl) ta63 rfl) rfl fun fr r => ?_
 refine zz06 r (zz79 w2 a0) (fun R hc => y_call r rfl cl214 hc) rfl ?_
 rintro _ w5 ⟨rfl, hb⟩
 refine ⟨_, rfl, fun fr r => ?_⟩
 have hP : Post No [cellC b1 ((handleC a0)).toArray 63] w0 w5 := hP.below hb
 refine seq_val (.bool (!(D.zz0w a0))) r (fun R => y_un r (u := (.bool (D.zz0w a0))) rfl rfl) rfl fun fr r => ?_
 refine wn ?_
 refine wp_cond_split (t := (!(D.zz0w a0))) (r.ev rfl) (fun h6 => ?_) (fun h6 => ?_)
 ·
  have hD := (cond_t h6).symm.trans hD
  refine wsr ?_
  refine seq_val (U 0) r (fun R => zz03 r rfl) rfl fun fr r => ?_
  refine wn ?_
  refine wp_ret ?_
  have hv : 0 = res := Option.some.inj hD
  try dsimp only [Exit.then, Exit.inBlock]
  refine ret_tmp (fn := Tryz.f116) r (t := 2) rfl (v := (U 0)) rfl ?_
  subst hv
  exact ⟨rfl, hP.chg.below⟩
 ·
  have hD := (cond_f h6).symm.trans hD
  refine wp_skip ?_
  refine wp_seq ?_
  obtain ⟨x7, hx7, hD⟩ := zz0k hD
  obtain ⟨x12, hx12, hD⟩ := zz0k hD
  refine zz4u [.pred (MkP (fun v8 : Value => v8) (fun v8 : Value => [rowK 223 2 fieldC v8 x7])) (MkP.st _ _), .val (.pointer (some ⟨b1, 0, none⟩)), .val (I a0.index), .val (U (V a0.index)), .val (.pointer (some ⟨b1, 1, none⟩)), .val (I a0.gen), .val (U (V a0.gen)), .val (.pointer (some ⟨b1, 2, none⟩)), .val (I a0.tenant), .val (U (V a0.tenant)), .pred (MkP (fun v : Value => v) (fun v : Value => [rowK 22 1 u64 v ([(V a0.index), (V a0.gen), (V a0.tenant), 42])])) (MkP.st _ _), .val (.tuple #[(U x12.1), (I x12.2)]), .val (.tuple #[(U x12.1), (I x12.2)]), .val (U x12.1), .val (I x12.2), .val (U x12.1), .val (I x12.2)] mixed r (by kernel_rfl) ?_ ?_
  ·
   refine fc r (fun fr1 g w' hb' hd r' => y_call r' (args := []) (l0) cl215 ((zz86 _ hx7).mono (by rintro _ w2 ⟨y, rfl, hq⟩; exact ⟨_, rfl, hq.chg.below, MkP.of y hq⟩))) ?_
   refine fc r (fun fr1 g w' hb' hd r' => zz02 r' (b := b1) (o := 0) rfl fo63_0 bz) ?_
   refine fc r (fun fr1 g w' hb' hd r' => zz00 r' (hd 1 rfl).1 ((hP.below (dr hb')).cell (i := 0) rfl) to3 rfl bz) ?_
   refine fc r (fun fr1 g w' hb' hd r' => zz1w r' (n := a0.index) (hd 2 rfl).1 ti3 ti22 bz) ?_
   refine fc r (fun fr1 g w' hb' hd r' => zz02 r' (b := b1) (o := 0) rfl fo63_1 bz) ?_
   refine fc r (fun fr1 g w' hb' hd r' => zz00 r' (hd 4 rfl).1 ((hP.below (dr hb')).cell (i := 0) rfl) to3 rfl bz) ?_
   refine fc r (fun fr1 g w' hb' hd r' => zz1w r' (n := a0.gen) (hd 5 rfl).1 ti3 ti22 bz) ?_
   refine fc r (fun fr1 g w' hb' hd r' => zz02 r' (b := b1) (o := 0) rfl fo63_2 bz) ?_
   refine fc r (fun fr1 g w' hb' hd r' => zz00 r' (hd 7 rfl).1 ((hP.below (dr hb')).cell (i := 0) rfl) to3 rfl bz) ?_
   refine fc r (fun fr1 g w' hb' hd r' => zz1w r' (n := a0.tenant) (hd 8 rfl).1 ti3 ti22 bz) ?_
   refine fc r (fun fr1 g w' hb' hd r' => zz40 r' (c := (([(V a0.index), (V a0.gen), (V a0.tenant), 42]).flatMap u64).toArray) (E := 22) (bs4 (congrArg (fun z => (0, z)) (hd 3 rfl).1) (congrArg (fun z => (1, z)) (hd 6 rfl).1) (congrArg (fun z => (2, z)) (hd 9 rfl).1) (rfl) (by kernel_rfl)) (fun b w2 n2 => ⟨n2.below, MkP.newRow n2 (fun _ => rfl) rfl⟩)) ?_
   refine fc r (fun fr1 g w' hb' hd r' => y_call r' (args := [(g 0).v, (g 10).v]) (lc rfl (lc rfl l0)) cl196 ((zzb6 _ x7 (MkP.row (hd 0 rfl).1) ([(V a0.index), (V a0.gen), (V a0.tenant), 42]) (MkP.row (hd 10 rfl).1) hx12).mono (by rintro _ w2 ⟨rfl, hb2⟩; exact ⟨_, rfl, hb2, rfl⟩))) ?_
   refine fc r (fun fr1 g w' hb' hd r' => y_move r' (hd 11 rfl).1 bz) ?_
   refine fc r (fun fr1 g w' hb' hd r' => zz1c r' (vs := #[(U x12.1), (I x12.2)]) (hd 12 rfl).1 rfl bz) ?_
   refine fc r (fun fr1 g w' hb' hd r' => zz1c r' (vs := #[(U x12.1), (I x12.2)]) (hd 12 rfl).1 rfl bz) ?_
   refine fc r (fun fr1 g w' hb' hd r' => zz03 r' (hd 13 rfl).1 bz) ?_
   refine fc r (fun fr1 g w' hb' hd r' => zz03 r' (hd 14 rfl).1 bz) ?_
   exact zz2q
  ·
   intro fr gg w13 hb hΦ hap r
   obtain ⟨v8, g0, hs0⟩ := (hΦ 0 rfl).1
   obtain ⟨v10, g10, hs10⟩ := (hΦ 10 rfl).1
   have r := r.congr (sc ((hΦ 16 rfl).1) (sc ((hΦ 15 rfl).1) (sc ((hΦ 14 rfl).1) (sc ((hΦ 13 rfl).1) (sc ((hΦ 12 rfl).1) (sc ((hΦ 11 rfl).1) (sc g10 (sc ((hΦ 9 rfl).1) (sc ((hΦ 8 rfl).1) (sc ((hΦ 7 rfl).1) (sc ((hΦ 6 rfl).1) (sc ((hΦ 5 rfl).1) (sc ((hΦ 4 rfl).1) (sc ((hΦ 3 rfl).1) (sc ((hΦ 2 rfl).1) (sc ((hΦ 1 rfl).1) (sc g0 rfl)))))))))))))))))
   have hP : Post No [cellC b1 ((handleC a0)).toArray 63, rowK 223 2 fieldC v8 x7, rowK 22 1 u64 v10 ([(V a0.index), (V a0.gen), (V a0.tenant), 42])] w0 w13 := hP.addL (l := [([rowK 223 2 fieldC v8 x7], (gg 0).lo, (gg 0).hi), ([rowK 22 1 u64 v10 ([(V a0.index), (V a0.gen), (V a0.tenant), 42])], (gg 10).lo, (gg 10).hi)]) hb ⟨hs0, (hΦ 0 rfl).2.1, (zzdz (hap 0 10 rfl) zz8p), ⟨hs10, (hΦ 10 rfl).2.1, zz8p, trivial⟩⟩
   refine wsr ?_
   refine seq_val (U x12.1) r (fun R => y_move r rfl) rfl fun fr r => ?_
   refine seq_val (U x12.1) r (fun R => zz03 r rfl) rfl fun fr r => ?_
   refine wn ?_
   refine wp_ret ?_
   have hv : x12.1 = res := Option.some.inj hD
   try dsimp only [Exit.then, Exit.inBlock]
   refine ret_tmp (fn := Tryz.f116) r (t := 2) rfl (v := (U x12.1)) rfl ?_
   subst hv
   exact ⟨rfl, hP.chg.below⟩

def D.zz12 (fu : Nat) (a0 : Int) : Option (Handle × Bool) := ((D.zz6a fu ).bind (fun (x5 : List Field) => ((D.zz2s fu x5 a0).bind (fun (x9 : List Int × Int) => (Option.bind (bif (x9.2 != 0) then (some true) else ((getI x9.1 3).bind (fun (x15 : Int) => (some (x15 != 42))))) (fun (x16 : Bool) => (bif x16 then (some ((⟨0, 0, 0⟩ : Handle), false)) else ((getI x9.1 0).bind (fun (x22 : Int) => ((getI x9.1 1).bind (fun (x23 : Int) => ((getI x9.1 2).bind (fun (x24 : Int) => (some ((⟨(IntKind.i64.wrap x22), (IntKind.i64.wrap x23), (IntKind.i64.wrap x24)⟩ : Handle), true)))))))))))))))

theorem zz9j {fu : Nat} (w0 : World) (a0 : Int) {res : Handle × Bool} (hD : D.zz12 fu a0 = some res) :
    Calls Tryz.prog 226 #[.int .u64 a0] w0 (PureRes (.tuple #[(.agg (handleC res.1).toArray), (.bool res.2)]) w0) := by
 refine enter Tryz.func226 rfl 34 rfl rfl fun fr r => ?_
 have hP : Post No [] w0 w0 := Post.nil w0
 unfold D.zz12 at hD
 refine wsr ?_
 refine seq_new (.cells ((handleC (⟨0, 0, 0⟩ : Handle))).toArray 63 (0, 0)) r (fun R => y_alloc tz63) rfl fun fr b1 w2 n3 r => ?_
 have hP : Post No [cellC b1 ((handleC (⟨0, 0, 0⟩ : Handle))).toArray 63] w0 w2 := hP.new n3
 refine seq_val (.bool false) r (fun R => zz03 r rfl) rfl fun fr r => ?_
 refine wn ?_
 refine wsr ?_
 obtain ⟨x5, hx5, hD⟩ := zz0k hD
 refine zz06 r (zz86 w2  hx5) (fun R hc => y_call r rfl cl215 hc) rfl ?_
 rintro _ w6 ⟨v7, rfl, hq⟩
 refine ⟨_, rfl, fun fr r => ?_⟩
 have hP : Post No [cellC b1 ((handleC (⟨0, 0, 0⟩ : Handle))).toArray 63, rowK 223 2 fieldC v7 x5] w0 w6 := hP.add hq
 refine seq_val (U a0) r (fun R => y_move r rfl) rfl fun fr r => ?_
 obtain ⟨x9, hx9, hD⟩ := zz0k hD
 refine zz06 r (zz9y w6 x5 (hP.row (i := 1) rfl).ro a0 hx9) (fun R hc => y_call r rfl cl156 hc) rfl ?_
 rintro _ w10 ⟨v11, rfl, hq⟩
 refine ⟨_, rfl, fun fr r => ?_⟩
 have hP : Post No [cellC b1 ((handleC (⟨0, 0, 0⟩ : Handle))).toArray 63, rowK 223 2 fieldC v7 x5, rowK 22 1 u64 v11 x9.1] w0 w10 := hP.add hq
 refine seq_val (.tuple #[v11, (I x9.2)]) r (fun R => y_move r rfl) rfl fun fr r => ?_
 refine seq_val v11 r (fun R => zz1c r (vs := #[v11, (I x9.2)]) rfl rfl) rfl fun fr r => ?_
 refine seq_val (I x9.2) r (fun R => zz1c r (vs := #[v11, (I x9.2)]) rfl rfl) rfl fun fr r => ?_
 refine seq_val v11 r (fun R => zz03 r rfl) rfl fun fr r => ?_
 refine seq_val (I x9.2) r (fun R => zz03 r rfl) rfl fun fr r => ?_
 refine wn ?_
 refine wp_seq ?_
 refine wp_seq ?_
 have hP : Post No [cellC b1 ((handleC (⟨0, 0, 0⟩ : Handle))).toArray 63, rowK 22 1 u64 v11 x9.1] w0 w10 := hP.pick [0, 2] rfl rfl
 refine zz2w (N := 34) (Y := Bool) (G := Unit) (fun x γ => [(0, (U a0)), (2, (.pointer (some ⟨b1, 0, none⟩))), (3, (.bool false)), (4, v11), (5, (I x9.2)), (19, (.bool x))]) (fun x γ w => Post No [cellC b1 ((handleC (⟨0, 0, 0⟩ : Handle))).toArray 63, rowK 22 1 u64 v11 x9.1] w0 w) hD ?_ ?_
 ·
  rintro y13 RPy13 nxy13 hD
  refine wp_region_lit ?_
  refine seq_val (I x9.2) r (fun R => y_move r rfl) rfl fun fr r => ?_
  refine seq_val _ r (fun R => y_bin r rfl rfl rfl rfl) rfl fun fr r => ?_
  refine seq_val (.bool (x9.2 != 0)) r (fun R => y_move r rfl) rfl fun fr r => ?_
  refine zz0p (x9.2 != 0) (fun h14 => ?_) (fun h14 => ?_)
  ·
   have hD := (cond_t h14).symm.trans hD
   refine s0 r h14 fun fr r => ?_
   refine s0 r h14 fun fr r => ?_
   refine s0 r h14 fun fr r => ?_
   refine s0 r h14 fun fr r => ?_
   refine seq_val (.bool true) r (fun R => y_pick r (b := true) (congrArg Value.bool h14) rfl) rfl fun fr r => ?_
   refine wn ?_
   exact nxy13 true () _ _ _ hD r (hs_cons rfl (hs_cons rfl (hs_cons rfl (hs_cons rfl (hs_cons rfl (hs_cons rfl hs_nil)))))) (hP.pick [0, 1] rfl rfl)
  ·
   have hD := (cond_f h14).symm.trans hD
   refine s1 r h14 ?_
   refine seq_val v11 r (fun R => y_move r rfl) rfl fun fr r => ?_
   refine s1 r h14 ?_
   obtain ⟨x15, hx15, hD⟩ := zz0k hD
   refine seq_val (.pointer (some ⟨rowB v11, rowO v11 + (3 : Int).toNat * 1, none⟩)) r (fun R => zz2d r (hP.row (i := 1) rfl).ro hx15 sl49 rfl rfl) rfl fun fr r => ?_
   refine s1 r h14 ?_
   refine seq_val (U x15) r (fun R => zz26 r (u := (U x15)) (RoAt.at_ (f := u64) (x := x15) (hP.row (i := 1) rfl).ro (fun _ => rfl) hx15) rfl to22) rfl fun fr r => ?_
   refine s1 r h14 ?_
   refine seq_val _ r (fun R => y_bin r rfl rfl rfl rfl) rfl fun fr r => ?_
   refine seq_val (.bool (x15 != 42)) r (fun R => y_pick r (b := false) (congrArg Value.bool h14) rfl) rfl fun fr r => ?_
   refine wn ?_
   exact nxy13 (x15 != 42) () _ _ _ hD r (hs_cons rfl (hs_cons rfl (hs_cons rfl (hs_cons rfl (hs_cons rfl (hs_cons rfl hs_nil)))))) (hP.pick [0, 1] rfl rfl)
 ·
  rintro x16 γ17 fr w18 g r hP hD
  have hP : Post No [cellC b1 ((handleC (⟨0, 0, 0⟩ : Handle))).toArray 63, rowK 22 1 u64 v11 x9.1] w0 w18 := hP
  refine wp_cond_split (t := x16) (r.ev rfl) (fun h19 => ?_) (fun h19 => ?_)
  ·
   have hD := (cond_t h19).symm.trans hD
   refine wsr ?_
   refine seq_val (.agg (handleC (⟨0, 0, 0⟩ : Handle)).toArray) r (fun R => y_build r (by kernel_rfl)) rfl fun fr r => ?_
   refine seq_upd (.cells ((handleC (⟨0, 0, 0⟩ : Handle))).toArray 63 (0, 0)) r (fun R => y_store r (o := 0) (v := (.agg (handleC (⟨0, 0, 0⟩ : Handle)).toArray)) rfl rfl (hP.cell (i := 0) rfl) ts63 (Nat.le_of_ble_eq_true rfl) rfl rfl) rfl fun fr w20 u21 r => ?_
   have hP : Post No [cellC b1 ((handleC (⟨0, 0, 0⟩ : Handle))).toArray 63, rowK 22 1 u64 v11 x9.1] w0 w20 := hP.upd (i := 0) rfl u21
   refine seq_val (.bool false) r (fun R => zz03 r rfl) rfl fun fr r => ?_
   refine wn ?_
   refine wp_ret ?_
   have hv : ((⟨0, 0, 0⟩ : Handle), false) = res := Option.some.inj hD
   try dsimp only [Exit.then, Exit.inBlock]
   refine zz22 (fn := Tryz.f226) r rfl rfl (v' := (.bool false)) rfl (hP.cell (i := 0) rfl) (k := 3) rfl ta63 ?_
   subst hv
   exact ⟨rfl, hP.chg.below⟩
  ·
   have hD := (cond_f h19).symm.trans hD
   refine wp_skip ?_
   refine wp_seq ?_
   obtain ⟨x22, hx22, hD⟩ := zz0k hD
   obtain ⟨x23, hx23, hD⟩ := zz0k hD
   obtain ⟨x24, hx24, hD⟩ := zz0k hD
   refine zzb0 [b1] [.val v11, .val (.pointer (some ⟨rowB v11, rowO v11 + (0 : Int).toNat * 1, none⟩)), .val (U x22), .val (I (W x22)), .val v11, .val (.pointer (some ⟨rowB v11, rowO v11 + (1 : Int).toNat * 1, none⟩)), .val (U x23), .val (I (W x23)), .val v11, .val (.pointer (some ⟨rowB v11, rowO v11 + (2 : Int).toNat * 1, none⟩)), .val (U x24), .val (I (W x24)), .val (.agg (handleC (⟨(W x22), (W x23), (W x24)⟩ : Handle)).toArray), .eff (EffP w18.heap.size (cellC b1 ((handleC (⟨(W x22), (W x23), (W x24)⟩ : Handle))).toArray 63) (fun _ : Unit => undef) (fun _ : Unit => [])) (EffP.st _ _ _ _), .val (.bool true)] mixed r (fun b hb => hP.sep.lt (i := 0) rfl (.inl hb)) (by kernel_rfl) ?_ ?_
   ·
    refine zz1b r rfl (by kernel_rfl) (fun fr1 g w' hb' hd r' => ?_) ?_
    · exact y_move r' (v := v11) rfl ⟨Below.refl _ _, rfl⟩
    refine zz1b r rfl (by kernel_rfl) (fun fr1 g w' hb' hd r' => ?_) ?_
    · exact zz2d r' ((hP.below (dr hb')).row (i := 1) rfl).ro hx22 sl49 (hd 0 rfl).1 rfl ⟨Below.refl _ _, rfl⟩
    refine zz1b r rfl (by kernel_rfl) (fun fr1 g w' hb' hd r' => ?_) ?_
    · exact zz26 r' (u := (U x22)) (RoAt.at_ (f := u64) (x := x22) ((hP.below (dr hb')).row (i := 1) rfl).ro (fun _ => rfl) hx22) (hd 1 rfl).1 to22 ⟨Below.refl _ _, rfl⟩
    refine zz1b r rfl (by kernel_rfl) (fun fr1 g w' hb' hd r' => ?_) ?_
    · exact zz1w r' (n := x22) (hd 2 rfl).1 ti22 ti3 ⟨Below.refl _ _, rfl⟩
    refine zz1b r rfl (by kernel_rfl) (fun fr1 g w' hb' hd r' => ?_) ?_
    · exact y_move r' (v := v11) rfl ⟨Below.refl _ _, rfl⟩
    refine zz1b r rfl (by kernel_rfl) (fun fr1 g w' hb' hd r' => ?_) ?_
    · exact zz2d r' ((hP.below (dr hb')).row (i := 1) rfl).ro hx23 sl49 (hd 4 rfl).1 rfl ⟨Below.refl _ _, rfl⟩
    refine zz1b r rfl (by kernel_rfl) (fun fr1 g w' hb' hd r' => ?_) ?_
    · exact zz26 r' (u := (U x23)) (RoAt.at_ (f := u64) (x := x23) ((hP.below (dr hb')).row (i := 1) rfl).ro (fun _ => rfl) hx23) (hd 5 rfl).1 to22 ⟨Below.refl _ _, rfl⟩
    refine zz1b r rfl (by kernel_rfl) (fun fr1 g w' hb' hd r' => ?_) ?_
    · exact zz1w r' (n := x23) (hd 6 rfl).1 ti22 ti3 ⟨Below.refl _ _, rfl⟩
    refine zz1b r rfl (by kernel_rfl) (fun fr1 g w' hb' hd r' => ?_) ?_
    · exact y_move r' (v := v11) rfl ⟨Below.refl _ _, rfl⟩
    refine zz1b r rfl (by kernel_rfl) (fun fr1 g w' hb' hd r' => ?_) ?_
    · exact zz2d r' ((hP.below (dr hb')).row (i := 1) rfl).ro hx24 sl49 (hd 8 rfl).1 rfl ⟨Below.refl _ _, rfl⟩
    refine zz1b r rfl (by kernel_rfl) (fun fr1 g w' hb' hd r' => ?_) ?_
    · exact zz26 r' (u := (U x24)) (RoAt.at_ (f := u64) (x := x24) ((hP.below (dr hb')).row (i := 1) rfl).ro (fun _ => rfl) hx24) (hd 9 rfl).1 to22 ⟨Below.refl _ _, rfl⟩
    refine zz1b r rfl (by kernel_rfl) (fun fr1 g w' hb' hd r' => ?_) ?_
    · exact zz1w r' (n := x24) (hd 10 rfl).1 ti22 ti3 ⟨Below.refl _ _, rfl⟩
    refine zz1b r rfl (by kernel_rfl) (fun fr1 g w' hb' hd r' => ?_) ?_
    · exact y_build r' (v := (.agg (handleC (⟨(W x22), (W x23), (W x24)⟩ : Handle)).toArray)) (bs3 (congrArg (fun z => (0, z)) (hd 3 rfl).1) (congrArg (fun z => (1, z)) (hd 7 rfl).1) (congrArg (fun z => (2, z)) (hd 11 rfl).1) (by kernel_rfl)) ⟨Below.refl _ _, rfl⟩
    refine zz1b r rfl (by kernel_rfl) (fun fr1 g w' hb' hd r' => ?_) ?_
    · exact y_store r' (o := 0) (v := (.agg (handleC (⟨(W x22), (W x23), (W x24)⟩ : Handle)).toArray)) rfl (hd 12 rfl).1 ((hP.below (dr hb')).cell (i := 0) rfl) ts63 (Nat.le_of_ble_eq_true rfl) rfl rfl (fun w2 u2 => ⟨u2.kept, (), rfl, u2.at_, (fun b hb => hP.sep.lt (i := 0) rfl hb), zzcd⟩)
    refine zz17 r rfl (fun fr1 g w' hk' hd r' => ?_) ?_
    · exact zz03 r' (v := (.bool true)) rfl ⟨Below.refl _ _, rfl⟩
    exact zz2q
   ·
    intro fr gg w25 hb hΦ hap r
    obtain ⟨⟨⟩, g13, hcE, _, hs13⟩ := (hΦ 13 rfl).1
    have r := r.congr (sc ((hΦ 14 rfl).1) (sc ((hΦ 12 rfl).1) (sc ((hΦ 11 rfl).1) (sc ((hΦ 10 rfl).1) (sc ((hΦ 9 rfl).1) (sc ((hΦ 8 rfl).1) (sc ((hΦ 7 rfl).1) (sc ((hΦ 6 rfl).1) (sc ((hΦ 5 rfl).1) (sc ((hΦ 4 rfl).1) (sc ((hΦ 3 rfl).1) (sc ((hΦ 2 rfl).1) (sc ((hΦ 1 rfl).1) (sc ((hΦ 0 rfl).1) rfl))))))))))))))
    have hP : Post No [cellC b1 ((handleC (⟨(W x22), (W x23), (W x24)⟩ : Handle))).toArray 63, rowK 22 1 u64 v11 x9.1] w0 w25 := hP.effL (i := 0) (l := []) rfl hb hcE rfl rfl trivial
    refine wp_ret ?_
    have hv : ((⟨(W x22), (W x23), (W x24)⟩ : Handle), true) = res := Option.some.inj hD
    try dsimp only [Exit.then, Exit.inBlock]
    refine zz22 (fn := Tryz.f226) r rfl rfl (v' := (.bool true)) rfl (hP.cell (i := 0) rfl) (k := 3) rfl ta63 ?_
    subst hv
    exact ⟨rfl, hP.chg.below⟩

end Go.Proofs.YtjkinpbfmihhdaaGreat.St

/- Handles' words: the code's answers by closed forms. -/
namespace Go.Proofs.YtjkinpbfmihhdaaGreat
open Go.RowKit

def hIdx : Field := ⟨0, 20⟩

def hGen : Field := ⟨20, 30⟩

def hTen : Field := ⟨50, 6⟩

def hSeal : Field := ⟨58, 6⟩

theorem zzbt : St.D.zz4r 10 [hIdx, hGen, hTen, hSeal] = some true := by decide +kernel

theorem hsplit (w : Int) : St.D.zz2s 10 [hIdx, hGen, hTen, hSeal] w = bif (zz0z .u64 (zz0z .u64 (zz0z .u64 (zz0z .u64 w (D.zz0e hIdx)) (D.zz0e hGen)) (D.zz0e hTen)) (D.zz0e hSeal) != 0) then some ([], 10)
    else some ([D.zz09 hIdx w, D.zz09 hGen w, D.zz09 hTen w, D.zz09 hSeal w], 0) := by
  unfold St.D.zz2s
  rw [zzbt]
  rfl

theorem hpack (a b c d : Int) : St.D.zz38 10 [hIdx, hGen, hTen, hSeal] [a, b, c, d] = bif (decide (a > D.zz0a hIdx)) then some (0, 1) else bif (decide (b > D.zz0a hGen)) then some (0, 1) else bif (decide (c > D.zz0a hTen)) then some (0, 1)
    else bif (decide (d > D.zz0a hSeal)) then some (0, 1) else some (D.zz0m hSeal (D.zz0m hTen (D.zz0m hGen (D.zz0m hIdx 0 a) b) c) d, 0) := by
  unfold St.D.zz38
  rw [zzbt]
  have w1 : IntKind.i64.wrap ((0 : Int) + 1) = 1 := rfl
  have w2 : IntKind.i64.wrap ((1 : Int) + 1) = 2 := rfl
  have w3 : IntKind.i64.wrap ((2 : Int) + 1) = 3 := rfl
  have w4 : IntKind.i64.wrap ((3 : Int) + 1) = 4 := rfl
  have g0 : ∀ {α : Type} (x y z u : α), getI [x, y, z, u] 0 = some x := fun _ _ _ _ => rfl
  have g1 : ∀ {α : Type} (x y z u : α), getI [x, y, z, u] 1 = some y := fun _ _ _ _ => rfl
  have g2 : ∀ {α : Type} (x y z u : α), getI [x, y, z, u] 2 = some z := fun _ _ _ _ => rfl
  have g3 : ∀ {α : Type} (x y z u : α), getI [x, y, z, u] 3 = some u := fun _ _ _ _ => rfl
  have l4 : ∀ {α : Type} (x y z u : α), (([x, y, z, u] : List α).length : Int) = 4 := fun _ _ _ _ => rfl
  cases h1 : decide (a > D.zz0a hIdx) <;> cases h2 : decide (b > D.zz0a hGen) <;> cases h3 : decide (c > D.zz0a hTen) <;> cases h4 : decide (d > D.zz0a hSeal) <;>
    simp only [loopThen, runLoop, goOn, afterLoop, w1, w2, w3, w4, g0, g1, g2, g3, l4, h1, h2, h3, h4, Option.bind_some, cond_true, cond_false, Bool.not_true, bne_self_eq_false, show decide ((0 : Int) < 4) = true from rfl, show decide ((1 : Int) < 4) = true from rfl, show decide ((2 : Int) < 4) = true from rfl, show decide ((3 : Int) < 4) = true from rfl, show decide ((4 : Int) < 4) = false from rfl]

/-- A handle's word. -/
def D.zz0u (h : Handle) : Int := (St.D.zz0u 10 h).getD 0

/-- A word's handle, and if it is one. -/
def D.zz12 (w : Int) : Handle × Bool := (St.D.zz12 10 w).getD (⟨0, 0, 0⟩, false)

theorem zzf6 (h : Handle) : ∃ r, St.D.zz0u 10 h = some r := by
  unfold St.D.zz0u
  cases (!(D.zz0w h))
  · show ∃ r, (((St.D.zz38 10 [hIdx, hGen, hTen, hSeal] [IntKind.u64.wrap h.index, IntKind.u64.wrap h.gen, IntKind.u64.wrap h.tenant, 42]).bind (fun (x17 : Int × Int) => (some x17.1)))) = some r
    rw [hpack]
    generalize decide (IntKind.u64.wrap h.index > D.zz0a hIdx) = b1
    generalize decide (IntKind.u64.wrap h.gen > D.zz0a hGen) = b2
    generalize decide (IntKind.u64.wrap h.tenant > D.zz0a hTen) = b3
    generalize decide ((42 : Int) > D.zz0a hSeal) = b4
    cases b1 <;> cases b2 <;> cases b3 <;> cases b4 <;> exact ⟨_, rfl⟩
  · exact ⟨_, rfl⟩

theorem zzgg (w : Int) : ∃ r, St.D.zz12 10 w = some r := by
  unfold St.D.zz12
  show ∃ r, (St.D.zz2s 10 [hIdx, hGen, hTen, hSeal] w).bind _ = some r
  rw [hsplit]
  generalize (zz0z .u64 (zz0z .u64 (zz0z .u64 (zz0z .u64 w (D.zz0e hIdx)) (D.zz0e hGen)) (D.zz0e hTen)) (D.zz0e hSeal) != 0) = b
  cases b
  · show ∃ r, (bif (D.zz09 hSeal w != 42) then _ else _) = some r
    generalize (D.zz09 hSeal w != 42) = b
    cases b <;> exact ⟨_, rfl⟩
  · exact ⟨_, rfl⟩

theorem zz42 (w0 : World) (a0 : Handle) : Calls Tryz.prog 116 #[.agg (handleC a0).toArray] w0 (PureRes (.int .u64 (D.zz0u a0)) w0) := by
  obtain ⟨r, hr⟩ := zzf6 a0
  unfold D.zz0u
  rw [hr]
  exact St.zz42 w0 a0 hr

theorem zz9j (w0 : World) (a0 : Int) : Calls Tryz.prog 226 #[.int .u64 a0] w0 (PureRes (.tuple #[(.agg (handleC (D.zz12 a0).1).toArray), (.bool (D.zz12 a0).2)]) w0) := by
  obtain ⟨r, hr⟩ := zzgg a0
  unfold D.zz12
  rw [hr]
  exact St.zz9j w0 a0 hr

end Go.Proofs.YtjkinpbfmihhdaaGreat

/- Written by a program of ours (wip/gen.py): handles -/
set_option linter.unusedVariables false
set_option maxRecDepth 20000
set_option maxHeartbeats 2000000
namespace Go.Proofs.YtjkinpbfmihhdaaGreat
open Go.RowKit
theorem cl226 : callable Tryz.prog 226 = true := by kernel_rfl

theorem ta63 : tyA Tryz.prog 63 3 = true := by kernel_rfl

theorem ts63 : sized Tryz.prog 63 3 = true := by kernel_rfl

theorem tz63 : zeroOf Tryz.prog 63 = some (.agg (handleC (⟨0, 0, 0⟩ : Handle)).toArray) := by kernel_rfl

def D.zz08 (a0 : Int) (a1 : Int) (a2 : Int) : Handle × Bool := (bif (!((D.zz12 a0).2)) then ((⟨0, 0, 0⟩ : Handle), false) else (bif ((((D.zz12 a0).1).tenant) != a1) then ((⟨0, 0, 0⟩ : Handle), false) else (bif (decide ((((D.zz12 a0).1).index) ≥ a2)) then ((⟨0, 0, 0⟩ : Handle), false) else ((D.zz12 a0).1, true))))

theorem zz9w (w0 : World) 
    (a0 : Int) (a1 : Int) (a2 : Int) :
    Calls Tryz.prog 127 #[.int .u64 a0, .int .i64 a1, .int .i64 a2] w0 (PureRes (.tuple #[(.agg (handleC (D.zz08 a0 a1 a2).1).toArray), (.bool (D.zz08 a0 a1 a2).2)]) w0) := by
 refine enter Tryz.func127 rfl 31 rfl rfl fun fr r => ?_
 have hB := Below.refl w0.heap.size w0
 refine wsr ?_
 refine seq_new (.cells ((handleC (⟨0, 0, 0⟩ : Handle))).toArray 63 (0, 0)) r (fun R => y_alloc tz63) rfl fun fr b1 w2 n3 r => ?_
 obtain ⟨e_b1, z_w2, h_b1, hB, zB⟩ := n3.all hB
 refine seq_val (.bool false) r (fun R => zz03 r rfl) rfl fun fr r => ?_
 refine wn ?_
 refine wsr ?_
 refine seq_val (U a0) r (fun R => y_move r rfl) rfl fun fr r => ?_
 refine zz06 r (zz9j w2 a0) (fun R hc => y_call r rfl cl226 hc) rfl ?_
 rintro _ w4 ⟨rfl, hb⟩
 refine ⟨_, rfl, fun fr r => ?_⟩
 have z_w4 := hb.size
 have h_b1 := keep hb h_b1
 obtain ⟨hB, zB⟩ := bon hb hB
 refine seq_val (.tuple #[(.agg (handleC (D.zz12 a0).1).toArray), (.bool (D.zz12 a0).2)]) r (fun R => y_move r rfl) rfl fun fr r => ?_
 refine seq_val (.agg (handleC (D.zz12 a0).1).toArray) r (fun R => zz1c r (vs := #[(.agg (handleC (D.zz12 a0).1).toArray), (.bool (D.zz12 a0).2)]) rfl rfl) rfl fun fr r => ?_
 refine seq_val (.bool (D.zz12 a0).2) r (fun R => zz1c r (vs := #[(.agg (handleC (D.zz12 a0).1).toArray), (.bool (D.zz12 a0).2)]) rfl rfl) rfl fun fr r => ?_
 refine seq_new (.cells ((handleC (⟨0, 0, 0⟩ : Handle))).toArray 63 (0, 0)) r (fun R => y_alloc tz63) rfl fun fr b5 w6 n7 r => ?_
 have h_b1 := keep n7.below h_b1
 obtain ⟨e_b5, z_w6, h_b5, hB, zB⟩ := n7.all hB
 refine seq_upd (.cells ((handleC ((D.zz12 a0).1))).toArray 63 (0, 0)) r (fun R => y_store r (o := 0) (v := (.agg (handleC (D.zz12 a0).1).toArray)) rfl rfl h_b5 ts63 (Nat.le_of_ble_eq_true rfl) rfl rfl) rfl fun fr w8 u9 r => ?_
 have z_w8 := u9.size
 have h_b1 := u9.keep h_b1 (by omega)
 have h_b5 := u9.at_
 obtain ⟨hB, zB⟩ := u9.on hB (by omega)
 refine seq_val (.bool (D.zz12 a0).2) r (fun R => zz03 r rfl) rfl fun fr r => ?_
 refine wn ?_
 refine wp_seq ?_
 refine wsr ?_
 refine seq_val (.bool (D.zz12 a0).2) r (fun R => y_move r rfl) rfl fun fr r => ?_
 refine seq_val (.bool (!((D.zz12 a0).2))) r (fun R => y_un r (u := (.bool (D.zz12 a0).2)) rfl rfl) rfl fun fr r => ?_
 refine seq_val (.bool (!((D.zz12 a0).2))) r (fun R => y_move r rfl) rfl fun fr r => ?_
 refine zz0p (!((D.zz12 a0).2)) (fun h10 => ?_) (fun h10 => ?_)
 ·
  refine s0 r h10 fun fr r => ?_
  refine s0 r h10 fun fr r => ?_
  refine s0 r h10 fun fr r => ?_
  refine s0 r h10 fun fr r => ?_
  refine seq_val (.bool true) r (fun R => y_pick r (b := true) (congrArg Value.bool h10) rfl) rfl fun fr r => ?_
  refine seq_val (.bool true) r (fun R => y_move r rfl) rfl fun fr r => ?_
  refine s0 r (rfl : true = _) fun fr r => ?_
  refine s0 r (rfl : true = _) fun fr r => ?_
  refine s0 r (rfl : true = _) fun fr r => ?_
  refine s0 r (rfl : true = _) fun fr r => ?_
  refine seq_val (.bool true) r (fun R => y_pick r (b := true) (congrArg Value.bool (rfl : true = _)) rfl) rfl fun fr r => ?_
  refine wn ?_
  refine wp_cond_split (t := true) (r.ev rfl) (fun _ => ?_) (fun h => absurd ((rfl : true = _).symm.trans h) (by decide))
  refine wsr ?_
  refine seq_val (.agg (handleC (⟨0, 0, 0⟩ : Handle)).toArray) r (fun R => y_build r (by kernel_rfl)) rfl fun fr r => ?_
  refine seq_upd (.cells ((handleC (⟨0, 0, 0⟩ : Handle))).toArray 63 (0, 0)) r (fun R => y_store r (o := 0) (v := (.agg (handleC (⟨0, 0, 0⟩ : Handle)).toArray)) rfl rfl h_b1 ts63 (Nat.le_of_ble_eq_true rfl) rfl rfl) rfl fun fr w11 u12 r => ?_
  have z_w11 := u12.size
  have h_b5 := u12.keep h_b5 (by omega)
  have h_b1 := u12.at_
  obtain ⟨hB, zB⟩ := u12.on hB (by omega)
  refine seq_val (.bool false) r (fun R => zz03 r rfl) rfl fun fr r => ?_
  refine wn ?_
  refine wp_ret ?_
  have hd : D.zz08 a0 a1 a2 = ((⟨0, 0, 0⟩ : Handle), false) := (cond_t h10).trans (rfl)
  refine zz22 r rfl rfl (v' := (.bool false)) rfl h_b1 (k := 3) rfl ta63 ?_
  rw [hd]
  exact ⟨rfl, hB⟩
 ·
  refine s1 r h10 ?_
  refine seq_val _ r (fun R => zz02 r (o := 0) rfl fo63_2) rfl fun fr r => ?_
  refine s1 r h10 ?_
  refine seq_val (I ((D.zz12 a0).1).tenant) r (fun R => zz00 r rfl h_b5 to3 rfl) rfl fun fr r => ?_
  refine s1 r h10 ?_
  refine seq_val (I a1) r (fun R => y_move r rfl) rfl fun fr r => ?_
  refine s1 r h10 ?_
  refine seq_val _ r (fun R => y_bin r rfl rfl rfl rfl) rfl fun fr r => ?_
  refine seq_val (.bool ((((D.zz12 a0).1).tenant) != a1)) r (fun R => y_pick r (b := false) (congrArg Value.bool h10) rfl) rfl fun fr r => ?_
  refine seq_val (.bool ((((D.zz12 a0).1).tenant) != a1)) r (fun R => y_move r rfl) rfl fun fr r => ?_
  refine zz0p ((((D.zz12 a0).1).tenant) != a1) (fun h13 => ?_) (fun h13 => ?_)
  ·
   refine s0 r h13 fun fr r => ?_
   refine s0 r h13 fun fr r => ?_
   refine s0 r h13 fun fr r => ?_
   refine s0 r h13 fun fr r => ?_
   refine seq_val (.bool true) r (fun R => y_pick r (b := true) (congrArg Value.bool h13) rfl) rfl fun fr r => ?_
   refine wn ?_
   refine wp_cond_split (t := true) (r.ev rfl) (fun _ => ?_) (fun h => absurd ((rfl : true = _).symm.trans h) (by decide))
   refine wsr ?_
   refine seq_val (.agg (handleC (⟨0, 0, 0⟩ : Handle)).toArray) r (fun R => y_build r (by kernel_rfl)) rfl fun fr r => ?_
   refine seq_upd (.cells ((handleC (⟨0, 0, 0⟩ : Handle))).toArray 63 (0, 0)) r (fun R => y_store r (o := 0) (v := (.agg (handleC (⟨0, 0, 0⟩ : Handle)).toArray)) rfl rfl h_b1 ts63 (Nat.le_of_ble_eq_true rfl) rfl rfl) rfl fun fr w14 u15 r => ?_
   have z_w14 := u15.size
   have h_b5 := u15.keep h_b5 (by omega)
   have h_b1 := u15.at_
   obtain ⟨hB, zB⟩ := u15.on hB (by omega)
   refine seq_val (.bool false) r (fun R => zz03 r rfl) rfl fun fr r => ?_
   refine wn ?_
   refine wp_ret ?_
   have hd : D.zz08 a0 a1 a2 = ((⟨0, 0, 0⟩ : Handle), false) := (cond_f h10).trans ((cond_t h13).trans (rfl))
   refine zz22 r rfl rfl (v' := (.bool false)) rfl h_b1 (k := 3) rfl ta63 ?_
   rw [hd]
   exact ⟨rfl, hB⟩
  ·
   refine s1 r h13 ?_
   refine seq_val _ r (fun R => zz02 r (o := 0) rfl fo63_0) rfl fun fr r => ?_
   refine s1 r h13 ?_
   refine seq_val (I ((D.zz12 a0).1).index) r (fun R => zz00 r rfl h_b5 to3 rfl) rfl fun fr r => ?_
   refine s1 r h13 ?_
   refine seq_val (I a2) r (fun R => y_move r rfl) rfl fun fr r => ?_
   refine s1 r h13 ?_
   refine seq_val _ r (fun R => y_bin r rfl rfl rfl rfl) rfl fun fr r => ?_
   refine seq_val (.bool (decide ((((D.zz12 a0).1).index) ≥ a2))) r (fun R => y_pick r (b := false) (congrArg Value.bool h13) rfl) rfl fun fr r => ?_
   refine wn ?_
   refine wp_cond_split (t := (decide ((((D.zz12 a0).1).index) ≥ a2))) (r.ev rfl) (fun h16 => ?_) (fun h16 => ?_)
   ·
    refine wsr ?_
    refine seq_val (.agg (handleC (⟨0, 0, 0⟩ : Handle)).toArray) r (fun R => y_build r (by kernel_rfl)) rfl fun fr r => ?_
    refine seq_upd (.cells ((handleC (⟨0, 0, 0⟩ : Handle))).toArray 63 (0, 0)) r (fun R => y_store r (o := 0) (v := (.agg (handleC (⟨0, 0, 0⟩ : Handle)).toArray)) rfl rfl h_b1 ts63 (Nat.le_of_ble_eq_true rfl) rfl rfl) rfl fun fr w17 u18 r => ?_
    have z_w17 := u18.size
    have h_b5 := u18.keep h_b5 (by omega)
    have h_b1 := u18.at_
    obtain ⟨hB, zB⟩ := u18.on hB (by omega)
    refine seq_val (.bool false) r (fun R => zz03 r rfl) rfl fun fr r => ?_
    refine wn ?_
    refine wp_ret ?_
    have hd : D.zz08 a0 a1 a2 = ((⟨0, 0, 0⟩ : Handle), false) := (cond_f h10).trans ((cond_f h13).trans ((cond_t h16).trans (rfl)))
    refine zz22 r rfl rfl (v' := (.bool false)) rfl h_b1 (k := 3) rfl ta63 ?_
    rw [hd]
    exact ⟨rfl, hB⟩
   ·
    refine wp_skip ?_
    refine wsr ?_
    refine seq_val (.agg (handleC (D.zz12 a0).1).toArray) r (fun R => zz05 r (cs := (handleC ((D.zz12 a0).1))) (n := 3) rfl h_b5 ta63 rfl) rfl fun fr r => ?_
    refine seq_upd (.cells ((handleC ((D.zz12 a0).1))).toArray 63 (0, 0)) r (fun R => y_store r (o := 0) (v := (.agg (handleC (D.zz12 a0).1).toArray)) rfl rfl h_b1 ts63 (Nat.le_of_ble_eq_true rfl) rfl rfl) rfl fun fr w19 u20 r => ?_
    have z_w19 := u20.size
    have h_b5 := u20.keep h_b5 (by omega)
    have h_b1 := u20.at_
    obtain ⟨hB, zB⟩ := u20.on hB (by omega)
    refine seq_val (.bool true) r (fun R => zz03 r rfl) rfl fun fr r => ?_
    refine wn ?_
    refine wp_ret ?_
    have hd : D.zz08 a0 a1 a2 = ((D.zz12 a0).1, true) := (cond_f h10).trans ((cond_f h13).trans ((cond_f h16).trans (rfl)))
    refine zz22 r rfl rfl (v' := (.bool true)) rfl h_b1 (k := 3) rfl ta63 ?_
    rw [hd]
    exact ⟨rfl, hB⟩

end Go.Proofs.YtjkinpbfmihhdaaGreat

/- Functions into trees that take a function into trees. -/
namespace Go.Proofs.YtjkinpbfmihhdaaGreat
open Go.RowKit

/-- A function value takes a number and a function of words, and stands for a function into trees, at all levels. -/
def FnHAt {R : Type} (P : Program) (E : Enc R) (F : Nat → Prop) (w : World) (f : FuncId) (first cap : List Value) (d : Int → (Int → T R) → T R) : Prop :=
  ∀ (m : Nat) (x : Int) {nf : FuncId} {n1 n2 : List Value} {g : Int → T R} (F' : Nat → Prop) (w' : World), (∀ b, F b → F' b) → Same F w w' → w.heap.size ≤ w'.heap.size → (∀ b, F' b → b < w'.heap.size) →
    FnT P E u64 m F' w' (.func (.func nf) n1.toArray n2.toArray) g → Calls P f (first ++ [Value.int .i64 x, Value.func (.func nf) n1.toArray n2.toArray] ++ cap).toArray w' (RepRes P E m (d x g) F' w')

def FnH {R : Type} (P : Program) (E : Enc R) (F : Nat → Prop) (w : World) (fv : Value) (d : Int → (Int → T R) → T R) : Prop :=
  ∃ (f : FuncId) (first cap : List Value), callable P f = true ∧ fv = .func (.func f) first.toArray cap.toArray ∧ FnHAt P E F w f first cap d

section
variable {R : Type} {P : Program} {E : Enc R}
theorem FnH.mono {F F' : Nat → Prop} {w w' : World} {fv : Value} {d : Int → (Int → T R) → T R} (h : FnH P E F w fv d)
    (hs : ∀ b, F b → F' b) (h1 : Same F w w') (h2 : w.heap.size ≤ w'.heap.size) : FnH P E F' w' fv d := by
  obtain ⟨f, first, cap, hc, hv, h⟩ := h
  exact ⟨f, first, cap, hc, hv, fun m x nf n1 n2 g F1 w1 k1 k2 k3 k4 k5 => h m x F1 w1 (fun b hb => k1 b (hs b hb)) (h1.trans (k2.sub hs)) (by omega) k4 k5⟩

theorem FnH.at_ {F : Nat → Prop} {w : World} {f : FuncId} {first cap : List Value} {d : Int → (Int → T R) → T R} (h : FnH P E F w (.func (.func f) first.toArray cap.toArray) d) :
    callable P f = true ∧ FnHAt P E F w f first cap d := by
  obtain ⟨f', first', cap', hc, he, hf⟩ := h
  simp only [Value.func.injEq, Fn.func.injEq] at he
  obtain ⟨e1, e2, e3⟩ := he
  have e2' : first = first' := by simpa using congrArg Array.toList e2
  have e3' : cap = cap' := by simpa using congrArg Array.toList e3
  subst e1; subst e2'; subst e3'
  exact ⟨hc, hf⟩

theorem zzga {a : Act} {w : World} {d : Option Tmp} {ty : TypeId} {pos : String} {aft : Array Edge} {N : Nat} {s : SL} (hfr : Fr a N s)
    {x x1 x2 : Operand} {f : FuncId} {fs cs : List Value} {ts : Array TypeId} {v1 v2 : Value} {R : Value → World → Prop} (hx0 : lookO s x = .func (.func f) fs.toArray cs.toArray) (hx1 : lookO s x1 = v1) (hx2 : lookO s x2 = v2)
    (hf : callable P f = true) (hc : Calls P f (fs ++ [v1, v2] ++ cs).toArray w fun e w' => ∃ v, e = .returned v ∧ R v w') : Yields P ⟨d, .call ⟨.value x, #[x1, x2], ts⟩, ty, pos, aft, none⟩ a w R :=
  y_callv hfr (xs := [x1, x2]) hx0 (by rw [List.map_cons, List.map_cons, List.map_nil, hx1, hx2]) hf hc

end
end Go.Proofs.YtjkinpbfmihhdaaGreat

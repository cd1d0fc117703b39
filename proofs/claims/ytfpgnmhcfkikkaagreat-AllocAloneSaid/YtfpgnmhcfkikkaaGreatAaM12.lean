/- Some of our texts, one behind the other. -/
import Derived.Test.YtfpgnmhcfkikkaaGreatAaRetires
import Derived.Test.YtfpgnmhcfkikkaaGreatAaM4
import Derived.Test.YtfpgnmhcfkikkaaGreatAaM0
set_option linter.all false
/- Ours. -/
set_option maxRecDepth 20000
set_option maxHeartbeats 2000000
namespace Go.Proofs.YtfpgnmhcfkikkaaGreat
open Go.RowKit
theorem is30 : isSlice Tryz.prog 30 = true := by kernel_rfl
theorem sl30 : sliceTy Tryz.prog 30 1 = true := by kernel_rfl
theorem zn0 : sized Tryz.prog 3 1 = true := by kernel_rfl
def D.zco (fu : Nat) (a0 : List Int) (a1 : List Bool) : Option (List Int × List Int) := ((appD ([] : List Int) a0).bind (fun (x5 : List Int) => (loopThen (fun (x10 : List Int × List Int × Int) => (bif (decide (x10.2.2 ≥ 0)) then ((getI x10.1 x10.2.2).bind (fun (x15 : Int) => (Option.bind (bif (decide (x15 ≥ 0)) then (bif (decide (x15 < (a1.length : Int))) then ((getI a1 x15).bind (fun (x19 : Bool) => (some x19))) else (some false)) else (some false)) (fun (x20 : Bool) => (bif x20 then (some (Lp.next (x10.1, x10.2.1, (IntKind.i64.wrap (x10.2.2 - 1))))) else ((appD x10.2.1 ([x15])).bind (fun (x28 : List Int) => ((getI x10.1 (IntKind.i64.wrap ((x10.1.length : Int) - 1))).bind (fun (x32 : Int) => ((getI x10.1 x10.2.2).bind (fun (x33 : Int) => ((sliceD (x10.1.set x10.2.2.toNat x32) 0 (IntKind.i64.wrap (((x10.1.set x10.2.2.toNat x32).length : Int) - 1))).bind (fun (x36 : List Int) => (some (Lp.next (x36, x28, (IntKind.i64.wrap (x10.2.2 - 1)))))))))))))))))) else (some (Lp.brk (x10.1, x10.2.1, x10.2.2))))) fu (x5, [], (IntKind.i64.wrap ((a0.length : Int) - 1))) (fun (x37 : List Int × List Int × Int) => (some (x37.1, x37.2.1))))))
theorem zfs {fu : Nat} (w0 : World) {a0v : Value} (a0 : List Int) (a0h : RoAt 3 1 i64 a0v a0 w0) {a1v : Value} (a1 : List Bool) (a1h : RoAt 4 1 zlr a1v a1 w0) {res : List Int × List Int} (hD : D.zco fu a0 a1 = some res) :
    Calls Tryz.prog 220 #[a0v, a1v] w0 (fun e w' => ∃ (v0 : Value) (v1 : Value), e = .returned (.tuple #[v0, v1]) ∧ Done No No [rowK 3 1 i64 v0 res.1, rowK 3 1 i64 v1 res.2] w0 w') := by
 refine enter Tryz.func220 rfl 58 rfl rfl fun fr r => ?_
 have hP : Post No [] w0 w0 := Post.nil w0
 have hP : Post No [roK 3 1 i64 a0v a0] w0 w0 := hP.addRo zb3 a0h rfl a0h.lt
 have hP : Post No [roK 3 1 i64 a0v a0, roK 4 1 zlr a1v a1] w0 w0 := hP.addRo (zaF rfl zb3) a1h rfl a1h.lt
 unfold D.zco at hD
 refine wsr (za0 (Value.slice none 0 0) r (fun R => za6 r rfl) rfl fun fr r => za0 (Value.slice none 0 0) r (fun R => za6 r rfl) rfl fun fr r => wn (wsr ?_))
 refine zch (.cells ((([] : List Int)).flatMap i64).toArray 3 (0, 0)) 0 r (fun R => zbz r (by kernel_rfl)) rfl fun fr b1 w2 n3 r => ?_
 have hP : Post No [roK 3 1 i64 a0v a0, roK 4 1 zlr a1v a1, rowK 3 1 i64 (.slice (some ⟨b1, 0, none⟩) 0 0) ([] : List Int)] w0 w2 := hP.newRow n3 (fun _ => rfl) rfl
 refine za0 a0v r (fun R => za5 r rfl) rfl fun fr r => ?_
 obtain ⟨x5, hx5, hD⟩ := zad hD
 refine zdg 3 1 i64 (.slice (some ⟨b1, 0, none⟩) 0 0) r (fun R => zcH r rt29 (fun _ => rfl) (fun _ => rfl) (hP.row (i := 2) rfl) (hP.ro (i := 0) rfl) hx5 rfl rfl) rfl fun fr v6 w7 ha8 r => ?_
 have hP : Post No [roK 3 1 i64 a0v a0, roK 4 1 zlr a1v a1, rowK 3 1 i64 v6 x5] w0 w7 := hP.append (i := 2) rfl ha8
 refine za0 v6 r (fun R => za6 r rfl) rfl fun fr r => wn (wsr (za0 (Value.slice none 0 0) r (fun R => za6 r rfl) rfl fun fr r => wn (wp_seq (wsr (za0 a0v r (fun R => za5 r rfl) rfl fun fr r => za0 (I (a0.length : Int)) r (fun R => zbj r (hP.ro (i := 0) rfl) is29 rfl) rfl fun fr r => za0 _ r (fun R => zlt r rfl rfl rfl rfl) rfl fun fr r => za0 (I (W ((a0.length : Int) - 1))) r (fun R => za6 r rfl) rfl fun fr r => wn ?_)))))
 have hP : Post No [roK 3 1 i64 a0v a0, roK 4 1 zlr a1v a1, rowK 3 1 i64 v6 x5, rowK 3 1 i64 (Value.slice none 0 0) ([])] w0 w7 := hP.nilRow 3 1 i64
 refine zcu (X := List Int × List Int × Int) (G := Value × Value) (x0 := (x5, [], (W ((a0.length : Int) - 1)))) (fun x γ => [(0, a0v), (1, a1v), (4, (Value.slice none 0 0)), (5, (Value.slice none 0 0)), (6, γ.1), (7, γ.2), (8, (I x.2.2))]) (fun x γ w => Post No [roK 3 1 i64 a0v a0, roK 4 1 zlr a1v a1, rowK 3 1 i64 γ.1 x.1, rowK 3 1 i64 γ.2 x.2.1] w0 w) (v6, (Value.slice none 0 0)) r (za1 rfl (za1 rfl (za1 rfl (za1 rfl (za1 rfl (za1 rfl (za1 rfl zaz))))))) hP hD ?_ ?_
 ·
  rintro x10 γ11 fr w13 g y12 RPy12 nxy12 bky12 rty12 r hP hD
  have hP : Post No [roK 3 1 i64 a0v a0, roK 4 1 zlr a1v a1, rowK 3 1 i64 γ11.1 x10.1, rowK 3 1 i64 γ11.2 x10.2.1] w0 w13 := hP
  refine wp_seq (wsr (za0 (I x10.2.2) r (fun R => za5 r rfl) rfl fun fr r => za0 _ r (fun R => zlt r rfl rfl rfl rfl) rfl fun fr r => wn ?_))
  refine wp_cond_split (t := (decide (x10.2.2 ≥ 0))) (r.ev rfl) (fun h14 => ?_) (fun h14 => ?_)
  ·
   have hD := (zao h14).symm.trans hD
   refine wp_skip (wp_seq (wp_block (wsr (za0 γ11.1 r (fun R => za5 r rfl) rfl fun fr r => za0 (I x10.2.2) r (fun R => za5 r rfl) rfl fun fr r => ?_))))
   obtain ⟨x15, hx15, hD⟩ := zad hD
   refine za0 (.pointer (some ⟨rowB γ11.1, rowO γ11.1 + x10.2.2.toNat * 1, none⟩)) r (fun R => zbe r (hP.row (i := 2) rfl).ro hx15 sl29 rfl rfl) rfl fun fr r => za0 (I x15) r (fun R => zba r (u := (I x15)) (RoAt.at_ (f := i64) (x := x15) (hP.row (i := 2) rfl).ro (fun _ => rfl) hx15) rfl to3) rfl fun fr r => za0 (I x15) r (fun R => za6 r rfl) rfl fun fr r => wn (wp_seq (wp_seq ?_))
   refine zbo (N := 58) (Y := Bool) (G := Unit) (fun x γ => [(0, a0v), (1, a1v), (4, (Value.slice none 0 0)), (5, (Value.slice none 0 0)), (6, γ11.1), (7, γ11.2), (8, (I x10.2.2)), (17, (.bool (decide (x10.2.2 ≥ 0)))), (9, (I x15)), (37, (.bool x))]) (fun x γ w => Post No [roK 3 1 i64 a0v a0, roK 4 1 zlr a1v a1, rowK 3 1 i64 γ11.1 x10.1, rowK 3 1 i64 γ11.2 x10.2.1] w0 w) hD ?_ ?_
   ·
    rintro y16 RPy16 nxy16 hD
    refine wp_region_lit (za0 (I x15) r (fun R => za5 r rfl) rfl fun fr r => za0 _ r (fun R => zlt r rfl rfl rfl rfl) rfl fun fr r => za0 (.bool (decide (x15 ≥ 0))) r (fun R => za5 r rfl) rfl fun fr r => ?_)
    refine zay (decide (x15 ≥ 0)) (fun h17 => ?_) (fun h17 => ?_)
    ·
     have hD := (zao h17).symm.trans hD
     refine s1 r h17 (za0 (I x15) r (fun R => za5 r rfl) rfl fun fr r => s1 r h17 (za0 a1v r (fun R => za5 r rfl) rfl fun fr r => s1 r h17 (za0 (I (a1.length : Int)) r (fun R => zbj r (hP.ro (i := 1) rfl) is30 rfl) rfl fun fr r => s1 r h17 (za0 _ r (fun R => zlt r rfl rfl rfl rfl) rfl fun fr r => za0 (.bool (decide (x15 < (a1.length : Int)))) r (fun R => zai r (b := true) (congrArg Value.bool h17) rfl) rfl fun fr r => za0 (.bool (decide (x15 < (a1.length : Int)))) r (fun R => za5 r rfl) rfl fun fr r => ?_))))
     refine zay (decide (x15 < (a1.length : Int))) (fun h18 => ?_) (fun h18 => ?_)
     ·
      have hD := (zao h18).symm.trans hD
      refine s1 r h18 (za0 a1v r (fun R => za5 r rfl) rfl fun fr r => s1 r h18 (za0 (I x15) r (fun R => za5 r rfl) rfl fun fr r => s1 r h18 ?_))
      obtain ⟨x19, hx19, hD⟩ := zad hD
      refine za0 (.pointer (some ⟨rowB a1v, rowO a1v + x15.toNat * 1, none⟩)) r (fun R => zbe r (hP.ro (i := 1) rfl) hx19 sl30 rfl rfl) rfl fun fr r => s1 r h18 (za0 (.bool x19) r (fun R => zba r (u := (.bool x19)) (RoAt.at_ (f := zlr) (x := x19) (hP.ro (i := 1) rfl) (fun _ => rfl) hx19) rfl to4) rfl fun fr r => za0 (.bool x19) r (fun R => zai r (b := true) (congrArg Value.bool h18) rfl) rfl fun fr r => wn ?_)
      exact nxy16 x19 () _ _ _ hD r (za1 rfl (za1 rfl (za1 rfl (za1 rfl (za1 rfl (za1 rfl (za1 rfl (za1 rfl (za1 rfl (za1 rfl zaz)))))))))) (hP.pick [0, 1, 2, 3] rfl rfl)
     ·
      have hD := (zah h18).symm.trans hD
      refine s0 r h18 fun fr r => s0 r h18 fun fr r => s0 r h18 fun fr r => s0 r h18 fun fr r => za0 (.bool false) r (fun R => zai r (b := false) (congrArg Value.bool h18) rfl) rfl fun fr r => wn ?_
      exact nxy16 false () _ _ _ hD r (za1 rfl (za1 rfl (za1 rfl (za1 rfl (za1 rfl (za1 rfl (za1 rfl (za1 rfl (za1 rfl (za1 rfl zaz)))))))))) (hP.pick [0, 1, 2, 3] rfl rfl)
    ·
     have hD := (zah h17).symm.trans hD
     refine s0 r h17 fun fr r => s0 r h17 fun fr r => s0 r h17 fun fr r => s0 r h17 fun fr r => za0 (.bool false) r (fun R => zai r (b := false) (congrArg Value.bool h17) rfl) rfl fun fr r => za0 (.bool false) r (fun R => za5 r rfl) rfl fun fr r => s0 r (rfl : false = _) fun fr r => s0 r (rfl : false = _) fun fr r => s0 r (rfl : false = _) fun fr r => s0 r (rfl : false = _) fun fr r => za0 (.bool false) r (fun R => zai r (b := false) (congrArg Value.bool (rfl : false = _)) rfl) rfl fun fr r => wn ?_
     exact nxy16 false () _ _ _ hD r (za1 rfl (za1 rfl (za1 rfl (za1 rfl (za1 rfl (za1 rfl (za1 rfl (za1 rfl (za1 rfl (za1 rfl zaz)))))))))) (hP.pick [0, 1, 2, 3] rfl rfl)
   ·
    rintro x20 γ21 fr w22 g r hP hD
    have hP : Post No [roK 3 1 i64 a0v a0, roK 4 1 zlr a1v a1, rowK 3 1 i64 γ11.1 x10.1, rowK 3 1 i64 γ11.2 x10.2.1] w0 w22 := hP
    refine wp_cond_split (t := x20) (r.ev rfl) (fun h23 => ?_) (fun h23 => ?_)
    ·
     have hD := (zao h23).symm.trans hD
     refine wp_exit ?_
     refine wp_region_lit (za0 (I x10.2.2) r (fun R => za5 r rfl) rfl fun fr r => za0 _ r (fun R => zlt r rfl rfl rfl rfl) rfl fun fr r => za0 (I (W (x10.2.2 - 1))) r (fun R => za6 r rfl) rfl fun fr r => wn ?_)
     exact nxy12 (x10.1, x10.2.1, (W (x10.2.2 - 1))) (γ11.1, γ11.2) _ _ _ hD r (za1 rfl (za1 rfl (za1 rfl (za1 rfl (za1 rfl (za1 rfl (za1 rfl zaz))))))) (hP.pick [0, 1, 2, 3] rfl rfl)
    ·
     have hD := (zah h23).symm.trans hD
     refine wp_skip (wsr (za0 γ11.2 r (fun R => za5 r rfl) rfl fun fr r => za0 (I x15) r (fun R => za5 r rfl) rfl fun fr r => ?_))
     refine zch (.cells (([x15]).flatMap i64).toArray 3 (0, 0)) 1 r (fun R => zbz r (by kernel_rfl)) rfl fun fr b24 w25 n26 r => ?_
     have hP : Post No [roK 3 1 i64 a0v a0, roK 4 1 zlr a1v a1, rowK 3 1 i64 γ11.1 x10.1, rowK 3 1 i64 γ11.2 x10.2.1, rowK 3 1 i64 (.slice (some ⟨b24, 0, none⟩) 1 1) ([x15])] w0 w25 := hP.newRow n26 (fun _ => rfl) rfl
     obtain ⟨x28, hx28, hD⟩ := zad hD
     refine zdg 3 1 i64 γ11.2 r (fun R => zcH r rt29 (fun _ => rfl) (fun _ => rfl) (hP.row (i := 3) rfl) (hP.row (i := 4) rfl).ro hx28 rfl rfl) rfl fun fr v29 w30 ha31 r => ?_
     have hP : Post No [roK 3 1 i64 a0v a0, roK 4 1 zlr a1v a1, rowK 3 1 i64 γ11.1 x10.1, rowK 3 1 i64 v29 x28, rowK 3 1 i64 (.slice (some ⟨b24, 0, none⟩) 1 1) ([x15])] w0 w30 := hP.append (i := 3) rfl ha31
     refine za0 v29 r (fun R => za6 r rfl) rfl fun fr r => wn (wsr (za0 γ11.1 r (fun R => za5 r rfl) rfl fun fr r => za0 (I x10.2.2) r (fun R => za5 r rfl) rfl fun fr r => za0 γ11.1 r (fun R => za5 r rfl) rfl fun fr r => za0 γ11.1 r (fun R => za5 r rfl) rfl fun fr r => za0 (I (x10.1.length : Int)) r (fun R => zbj r (hP.row (i := 2) rfl).ro is29 rfl) rfl fun fr r => za0 _ r (fun R => zlt r rfl rfl rfl rfl) rfl fun fr r => ?_))
     obtain ⟨x32, hx32, hD⟩ := zad hD
     refine za0 (.pointer (some ⟨rowB γ11.1, rowO γ11.1 + (W ((x10.1.length : Int) - 1)).toNat * 1, none⟩)) r (fun R => zbe r (hP.row (i := 2) rfl).ro hx32 sl29 rfl rfl) rfl fun fr r => za0 (I x32) r (fun R => zba r (u := (I x32)) (RoAt.at_ (f := i64) (x := x32) (hP.row (i := 2) rfl).ro (fun _ => rfl) hx32) rfl to3) rfl fun fr r => ?_
     obtain ⟨x33, hx33, hD⟩ := zad hD
     refine za0 (.pointer (some ⟨rowB γ11.1, rowO γ11.1 + x10.2.2.toNat * 1, none⟩)) r (fun R => zbe r (hP.row (i := 2) rfl).ro hx33 sl29 rfl rfl) rfl fun fr r => ?_
     refine ziD 3 i64 γ11.1 (x10.1.set x10.2.2.toNat x32) r (fun R => zhH r (hP.row (i := 2) rfl) hx33 (fun _ => rfl) rfl rfl rfl rfl rfl zn0) rfl fun fr w34 ha35 r => ?_
     have hP : Post No [roK 3 1 i64 a0v a0, roK 4 1 zlr a1v a1, rowK 3 1 i64 γ11.1 (x10.1.set x10.2.2.toNat x32), rowK 3 1 i64 v29 x28, rowK 3 1 i64 (.slice (some ⟨b24, 0, none⟩) 1 1) ([x15])] w0 w34 := hP.append (i := 2) rfl ha35
     refine wn ?_
     refine wp_region_lit (za0 γ11.1 r (fun R => za5 r rfl) rfl fun fr r => za0 γ11.1 r (fun R => za5 r rfl) rfl fun fr r => za0 (I ((x10.1.set x10.2.2.toNat x32).length : Int)) r (fun R => zbj r (hP.row (i := 2) rfl).ro is29 rfl) rfl fun fr r => za0 _ r (fun R => zlt r rfl rfl rfl rfl) rfl fun fr r => ?_)
     obtain ⟨x36, hx36, hD⟩ := zad hD
     refine za0 (sliceV 1 γ11.1 (0 : Int).toNat (W (((x10.1.set x10.2.2.toNat x32).length : Int) - 1)).toNat) r (fun R => zmj r (hP.row (i := 2) rfl).ro sl29 rfl rfl rfl rfl rfl rfl rfl hx36) rfl fun fr r => za0 (sliceV 1 γ11.1 (0 : Int).toNat (W (((x10.1.set x10.2.2.toNat x32).length : Int) - 1)).toNat) r (fun R => za6 r rfl) rfl fun fr r => wn ?_
     refine wp_region_lit (za0 (I x10.2.2) r (fun R => za5 r rfl) rfl fun fr r => za0 _ r (fun R => zlt r rfl rfl rfl rfl) rfl fun fr r => za0 (I (W (x10.2.2 - 1))) r (fun R => za6 r rfl) rfl fun fr r => wn ?_)
     have hP : Post No [roK 3 1 i64 a0v a0, roK 4 1 zlr a1v a1, rowK 3 1 i64 (sliceV 1 γ11.1 (0 : Int).toNat (W (((x10.1.set x10.2.2.toNat x32).length : Int) - 1)).toNat) x36, rowK 3 1 i64 v29 x28, rowK 3 1 i64 (.slice (some ⟨b24, 0, none⟩) 1 1) ([x15])] w0 w34 := hP.narrow (i := 2) rfl (fun _ => rfl) hx36
     exact nxy12 (x36, x28, (W (x10.2.2 - 1))) ((sliceV 1 γ11.1 (0 : Int).toNat (W (((x10.1.set x10.2.2.toNat x32).length : Int) - 1)).toNat), v29) _ _ _ hD r (za1 rfl (za1 rfl (za1 rfl (za1 rfl (za1 rfl (za1 rfl (za1 rfl zaz))))))) (hP.pick [0, 1, 2, 3] rfl rfl)
  ·
   have hD := (zah h14).symm.trans hD
   refine wp_exit ?_
   exact bky12 (x10.1, x10.2.1, x10.2.2) (γ11.1, γ11.2) _ _ _ hD r (za1 rfl (za1 rfl (za1 rfl (za1 rfl (za1 rfl (za1 rfl (za1 rfl zaz))))))) (hP.pick [0, 1, 2, 3] rfl rfl)
 ·
  rintro x37 γ38 fr w39 g r hP hD
  have hP : Post No [roK 3 1 i64 a0v a0, roK 4 1 zlr a1v a1, rowK 3 1 i64 γ38.1 x37.1, rowK 3 1 i64 γ38.2 x37.2.1] w0 w39 := hP
  refine wsr (za0 γ38.1 r (fun R => za5 r rfl) rfl fun fr r => za0 γ38.2 r (fun R => za5 r rfl) rfl fun fr r => za0 γ38.1 r (fun R => za6 r rfl) rfl fun fr r => za0 γ38.2 r (fun R => za6 r rfl) rfl fun fr r => wn (wp_ret ?_))
  have hv : (x37.1, x37.2.1) = res := Option.some.inj hD
  try dsimp only [Exit.then, Exit.inBlock]
  refine zdy (fn := Tryz.f220) r (t := 4) (t' := 5) rfl (v := γ38.1) (v' := γ38.2) rfl rfl ?_
  subst hv
  exact ⟨γ38.1, γ38.2, rfl, (hP.pick [2, 3] rfl rfl).done (zbq rfl (zbq rfl zbi))⟩
end Go.Proofs.YtfpgnmhcfkikkaaGreat

/- Ours. -/
namespace Go.Proofs.YtfpgnmhcfkikkaaGreat
open Go.RowKit
section
variable {L N : List Ck} {Z Y : Nat → Prop} {w w' w0 : World} {i k : Nat} {c e : Ck}
theorem Sep.clearM (h : Sep L w) (hc : c ∈ L) (he : e ∈ L) : c = e ∨ c.clear e := by
  obtain ⟨i, hi⟩ := List.mem_iff_getElem?.1 hc
  obtain ⟨j, hj⟩ := List.mem_iff_getElem?.1 he
  by_cases hij : i = j
  · subst hij
    rw [hi] at hj
    exact .inl (Option.some.inj hj)
  · exact .inr (h.clear hi hj hij).1
theorem Post.addRoFrom (h : Post Z L w0 w) (hk : L[k]? = some e) (he : e.own = []) (hc : c.ok w) (ho : c.own = []) (hr : ∀ b, b ∈ c.ro → b ∈ e.ro) : Post Z (L ++ [c]) w0 w := by
  have hem : e ∈ L := List.mem_of_getElem? hk
  refine ⟨h.sep.append (N := [c]) ⟨hc, fun b hb => ?_, fun d hd => (by cases hd), trivial⟩ fun d hd c' hc' => ?_, h.chg, fun d hd b hb => ?_⟩
  · rcases hb with hb | hb
    · rw [ho] at hb; cases hb
    · exact h.sep.lt hk (.inr (hr b hb))
  · rcases List.mem_singleton.1 hc' with rfl
    refine ⟨fun b hb hb' => ?_, fun b hb => by rw [ho] at hb; cases hb⟩
    rcases hb' with hb' | hb'
    · rw [ho] at hb'; cases hb'
    · rcases h.sep.clearM hd hem with rfl | hcl
      · rw [he] at hb; cases hb
      · exact hcl b hb (.inr (hr b hb'))
  · rcases List.mem_append.1 hd with hd | hd
    · exact h.mine d hd b hb
    · rcases List.mem_singleton.1 hd with rfl; rw [ho] at hb; cases hb
theorem Post.addY (h : Post Z L w0 w) (h2 : Done No Y N w w') (hN : ∀ c, c ∈ N → c.own = []) (hY : ∀ b, Y b → ∃ e, e ∈ L ∧ e.own = [] ∧ b ∈ e.ro) : Post Z (L ++ N) w0 w' := by
  have hb := h2.chg.below
  have hs := h.sep.below hb
  refine ⟨hs.append h2.sep fun d hd c hc => ⟨fun b hb1 hb' => ?_, fun b hb1 => by rw [hN c hc] at hb1; cases hb1⟩, h.chg.trans h2.chg (fun _ _ h => h.elim), fun d hd b hbd => ?_⟩
  · rcases hb' with hb' | hb'
    · rw [hN c hc] at hb'; cases hb'
    · rcases h2.rest c hc b hb' with h3 | h3
      · obtain ⟨e, heL, heo, her⟩ := hY b h3
        rcases h.sep.clearM hd heL with rfl | hcl
        · rw [heo] at hb1; cases hb1
        · exact hcl b hb1 (.inr her)
      · have := (h.sep.ok d hd).2 b (.inl hb1)
        omega
  · rcases List.mem_append.1 hd with hd | hd
    · exact h.mine d hd b hbd
    · rw [hN d hd] at hbd; cases hbd
end
section
variable {α : Type} {T : TypeId} {sz : Nat} {f : α → List Value} {v : Value} {xs : List α} {w w' w0 : World} {L N : List Ck} {Z Y : Nat → Prop} {i : Nat} {B : Nat}
def roB (B : Nat) (Y : Nat → Prop) (T : TypeId) (sz : Nat) (f : α → List Value) (v : Value) (xs : List α) : Ck :=
  ⟨[], rdBs v, fun w => RoAt T sz f v xs w ∧ ∀ b, b ∈ rdBs v → Y b ∨ B ≤ b, fun _ _ h _ hr => ⟨hr.1.st fun b hb => h b (.inr hb), hr.2⟩⟩
theorem Post.rob (h : Post Z L w0 w) (hi : L[i]? = some (roB B Y T sz f v xs)) : RoAt T sz f v xs w := (h.sep.get hi).1
theorem Post.from_ (h : Post Z L w0 w) (hi : L[i]? = some (roB B Y T sz f v xs)) : ∀ b, b ∈ rdBs v → Y b ∨ B ≤ b := (h.sep.get hi).2
theorem Post.toB (h : Post No L w0 w) (hi : L[i]? = some (rowK T sz f v xs)) : Post No (L.set i (roB w0.heap.size Y T sz f v xs)) w0 w := by
  have hr : zlM T sz f v xs w := h.sep.get hi
  refine ⟨Sep.weakAt (c := rowK T sz f v xs) (c' := roB w0.heap.size Y T sz f v xs) ⟨hr.ro, fun b hb => ?_⟩ (fun b hb => ?_) (fun b hb => (by cases hb)) L i h.sep hi, h.chg, fun c hc b hb => ?_⟩
  · exact .inr ((h.mine _ (List.mem_of_getElem? hi) b (zhg hr hb)).resolve_left fun h => h)
  · rcases hb with hb | hb
    · cases hb
    · exact .inl (zhg hr hb)
  · rcases List.mem_or_eq_of_mem_set hc with hc | rfl
    · exact h.mine c hc b hb
    · cases hb
theorem Post.setRo {c c' : Ck} (h : Post Z L w0 w) (hi : L[i]? = some c) (hc : c'.ok w) (ho : c'.own = []) (hr : ∀ b, b ∈ c'.ro → b ∈ c.ro) : Post Z (L.set i c') w0 w := by
  refine ⟨Sep.weakAt (c := c) (c' := c') hc (fun b hb => ?_) (fun b hb => by rw [ho] at hb; cases hb) L i h.sep hi, h.chg, fun d hd b hb => ?_⟩
  · rcases hb with hb | hb
    · rw [ho] at hb; cases hb
    · exact .inr (hr b hb)
  · rcases List.mem_or_eq_of_mem_set hd with hd | rfl
    · exact h.mine d hd b hb
    · rw [ho] at hb; cases hb
theorem Post.unB (h : Post Z L w0 w) (hi : L[i]? = some (roB B Y T sz f v xs)) : Post Z (L.set i (roK T sz f v xs)) w0 w := h.setRo hi (h.rob hi) rfl fun _ h => h
theorem Post.dupB (h : Post Z L w0 w) (hi : L[i]? = some (roB B Y T sz f v xs)) : Post Z (L ++ [roB B Y T sz f v xs]) w0 w := h.addRoFrom hi rfl (h.sep.get hi) rfl fun _ h => h
theorem Post.nilB (T : TypeId) (sz : Nat) (f : α → List Value) (h : Post Z L w0 w) : Post Z (L ++ [roB B Y T sz f (.slice none 0 0) []]) w0 w := by
  have hn : ∀ b, ¬ (roB B Y T sz f (.slice none 0 0) ([] : List α)).has b := fun b hb => by
    rcases hb with hb | hb
    · cases hb
    · cases hb
  refine ⟨h.sep.append (N := [roB B Y T sz f (.slice none 0 0) []]) ⟨⟨RoAt.nil, fun b hb => (by cases hb)⟩, fun b hb => (hn b hb).elim, fun d hd => (by cases hd), trivial⟩ fun d hd c' hc' => ?_, h.chg, fun d hd b hb => ?_⟩
  · rcases List.mem_singleton.1 hc' with rfl
    exact ⟨fun b _ hb => hn b hb, fun b hb => (by cases hb)⟩
  · rcases List.mem_append.1 hd with hd | hd
    · exact h.mine d hd b hb
    · rcases List.mem_singleton.1 hd with rfl; cases hb
theorem Post.argB (h : Post Z L w0 w0) (hr : RoAt T sz f v xs w0) (hn : ∀ d, d ∈ L → d.own = []) (hY : ∀ b, b ∈ rdBs v → Y b) : Post Z (L ++ [roB w0.heap.size Y T sz f v xs]) w0 w0 :=
  h.addRo hn ⟨hr, fun b hb => .inl (hY b hb)⟩ rfl hr.lt
end
end Go.Proofs.YtfpgnmhcfkikkaaGreat

/- Ours. -/
namespace Go.Proofs.YtfpgnmhcfkikkaaGreat
open Go.RowKit
section
variable {α : Type} {T : TypeId} {sz : Nat} {f : α → List Value} {v : Value} {xs ys : List α} {w w' w0 : World} {L N : List Ck} {Z Y Y' : Nat → Prop} {i : Nat} {B : Nat}
theorem RoAt.zhd (hr : RoAt T sz f v xs w) : v.cells = #[v] := by obtain ⟨ad, c, rfl⟩ := hr.len; rfl
theorem RoAt.plain (hr : RoAt T sz f v xs w) : plainCell v = true := by obtain ⟨ad, c, rfl⟩ := hr.len; rfl
def rdOf (vs : List Value) (b : Nat) : Prop := ∃ v, v ∈ vs ∧ b ∈ rdBs v
theorem zcq {vs : List Value} (h : vs[i]? = some v) : ∀ b, b ∈ rdBs v → rdOf vs b := fun _ hb => ⟨v, List.mem_of_getElem? h, hb⟩
theorem zf0 {Q : Nat → Prop} : ∀ b, rdOf [] b → Q b := fun _ h => by obtain ⟨_, h, _⟩ := h; cases h
theorem zbD {vs : List Value} {Q : Nat → Prop} (h : ∀ b, b ∈ rdBs v → Q b) (ht : ∀ b, rdOf vs b → Q b) : ∀ b, rdOf (v :: vs) b → Q b := fun b hb => by
  obtain ⟨u, hu, hb⟩ := hb
  rcases List.mem_cons.1 hu with rfl | hu
  · exact h b hb
  · exact ht b ⟨u, hu, hb⟩
theorem Post.inR (h : Post Z L w0 w) (hi : L[i]? = some (roK T sz f v xs)) : ∀ b, b ∈ rdBs v → ∃ e, e ∈ L ∧ e.own = [] ∧ b ∈ e.ro := fun _ hb => ⟨_, List.mem_of_getElem? hi, rfl, hb⟩
theorem Post.inB (h : Post Z L w0 w) (hi : L[i]? = some (roB B Y T sz f v xs)) : ∀ b, b ∈ rdBs v → ∃ e, e ∈ L ∧ e.own = [] ∧ b ∈ e.ro ∧ (Y b ∨ B ≤ b) := fun b hb => ⟨_, List.mem_of_getElem? hi, rfl, hb, h.from_ hi b hb⟩
def Ck.from (B : Nat) (Y : Nat → Prop) (c : Ck) : Ck := ⟨c.own, c.ro, fun w => c.ok w ∧ ∀ b, b ∈ c.ro → Y b ∨ B ≤ b, fun w w' h hs hr => ⟨c.st w w' h hs hr.1, hr.2⟩⟩
theorem zj5 : ∀ {N : List Ck}, Sep N w → (∀ c, c ∈ N → ∀ b, b ∈ c.ro → Y b ∨ B ≤ b) → Sep (N.map (Ck.from B Y)) w
  | [], _, _ => trivial
  | c :: N, h, hp => by
    refine ⟨⟨h.1, hp c (List.mem_cons_self ..)⟩, h.2.1, fun d hd => ?_, zj5 h.2.2.2 fun c hc => hp c (List.mem_cons_of_mem _ hc)⟩
    obtain ⟨d', hd', rfl⟩ := List.mem_map.1 hd
    exact h.2.2.1 d' hd'
theorem Post.addYB (h : Post No L w0 w) (h2 : Done No Y' N w w') (hN : ∀ c, c ∈ N → c.own = []) (hY : ∀ b, Y' b → ∃ e, e ∈ L ∧ e.own = [] ∧ b ∈ e.ro ∧ (Y b ∨ w0.heap.size ≤ b)) : Post No (L ++ N.map (Ck.from w0.heap.size Y)) w0 w' := by
  have hp : ∀ c, c ∈ N → ∀ b, b ∈ c.ro → Y b ∨ w0.heap.size ≤ b := fun c hc b hb => by
    rcases h2.rest c hc b hb with h3 | h3
    · obtain ⟨_, _, _, _, h4⟩ := hY b h3; exact h4
    · exact .inr (Nat.le_trans h.size h3)
  have h3 := h.addY h2 hN fun b hb => by obtain ⟨e, h4, h5, h6, _⟩ := hY b hb; exact ⟨e, h4, h5, h6⟩
  have hs : Sep (N.map (Ck.from w0.heap.size Y)) w' := zj5 h2.sep hp
  have hN' : ∀ c, c ∈ N.map (Ck.from w0.heap.size Y) → c.own = [] := fun c hc => by obtain ⟨d, hd, rfl⟩ := List.mem_map.1 hc; exact hN d hd
  exact h.addY (Y := Y') ⟨⟨hs, h2.chg, fun c hc b hb => by rw [hN' c hc] at hb; cases hb⟩, fun c hc b hb => by obtain ⟨d, hd, rfl⟩ := List.mem_map.1 hc; exact h2.rest d hd b hb⟩ hN' fun b hb => by obtain ⟨e, h4, h5, h6, _⟩ := hY b hb; exact ⟨e, h4, h5, h6⟩
end
section
variable {P : Program} {a : Act} {w : World} {d : Option Tmp} {ty : TypeId} {pos : String} {aft : Array Edge} {N : Nat} {s : SL}
theorem zbM (hfr : Fr a N s) {x y : Operand} {b o n : Nat} {t E : TypeId} {c c' : Array Value} {v : Value} {cs : List Value} {R : Value → World → Prop} (hx : lookO s x = .pointer (some ⟨b, o, none⟩)) (hy : lookO s y = v) (hv : v.cells = cs.toArray) (hp : cs.all plainCell = true) (hl : cs.length = n)
    (h : w.heap[b]? = some (.cells c E (0, 0))) (ht : sized P t n = true) (hn : o + n ≤ c.size) (hc : over c o cs = c')
    (hr : ∀ w', Upd w w' b (.cells c' E (0, 0)) → R undef w') : Yields P ⟨d, .store t x y, ty, pos, aft, none⟩ a w R := by
  refine zb0 hfr hx hy h (by simpa [hv, hl] using ht) (by simpa [hv, hl] using hn) (by simpa [hv] using hp) (by simpa [hv] using hc) hr
theorem zbL : ([] : List Value).all plainCell = true := rfl
theorem zak {v : Value} {vs : List Value} (h : plainCell v = true) (ht : vs.all plainCell = true) : (v :: vs).all plainCell = true := by simp [h, ht]
end
end Go.Proofs.YtfpgnmhcfkikkaaGreat

/- Ours. -/
namespace Go.Proofs.YtfpgnmhcfkikkaaGreat
open Go.RowKit
theorem bs4 {x1 y1 x2 y2 x3 y3 x4 y4 : Nat × Value} {P : Program} {α : Type} {f : Array (Nat × Value) → Sem α} {w : World} {r : Result α} (h1 : x1 = y1) (h2 : x2 = y2) (h3 : x3 = y3) (h4 : x4 = y4) (h : (f [y1, y2, y3, y4].toArray).run P w = r) : (f [x1, x2, x3, x4].toArray).run P w = r := by rw [h1, h2, h3, h4]; exact h
end Go.Proofs.YtfpgnmhcfkikkaaGreat

/- Ours. -/
namespace Go.Proofs.YtfpgnmhcfkikkaaGreat
open Go.RowKit
inductive FP where
  | val (c : Value)
  | put (k : Nat) (c : Array Value) (T : TypeId)
def FP.v : FP → Value
  | .val c => c
  | .put _ _ _ => undef
def FP.slot : FP → Option Nat
  | .put k _ _ => some k
  | .val _ => none
def FP.mk (bs : List Nat) (w' w'' : World) : FP → Prop
  | .val _ => Below w'.heap.size w' w''
  | .put k c T => ∃ b, bs[k]? = some b ∧ Upd w' w'' b (.cells c T (0, 0))
def fct : List FP → Nat → FP
  | [], _ => .val undef
  | f :: _, 0 => f
  | _ :: l, n + 1 => fct l n
section
variable {P : Program} {Q : Exit → Act → World → Prop} {L : List Oper} {a : Act} {w : World} {fl : List FP} {bs : List Nat}
structure PInv (L : List Oper) (fl : List FP) (bs : List Nat) (a : Act) (w0 : World) (listed : Array Bool) (g : Nat → Value) (a' : Act) (w' : World) : Prop where
  act : a' = puts L g 0 a
  closed : ∀ i o, L[i]? = some o → listed.getD i false = true → ∀ e, e ∈ o.after → Region.binds .any e = true → listed.getD e.on false = true
  os : w'.os = w0.os
  tape : w'.tape = w0.tape
  output : w'.output = w0.output
  size : w0.heap.size ≤ w'.heap.size
  old : ∀ b, b < w0.heap.size → b ∉ bs → w'.heap[b]? = w0.heap[b]?
  vals : ∀ i, i < L.length → listed.getD i false = true → g i = (fct fl i).v
  un : ∀ k b, bs[k]? = some b → (∀ i, i < L.length → listed.getD i false = true → (fct fl i).slot ≠ some k) → w'.heap[b]? = w0.heap[b]?
  done : ∀ i k c T b, i < L.length → listed.getD i false = true → fct fl i = .put k c T → bs[k]? = some b → w'.heap[b]? = some (.cells c T (0, 0))
variable {N : Nat} {s : SL}
end
/-! ### Chunks -/
section
variable {L : List Ck} {d : Ck} {w w' w0 : World} {i i1 i2 b1 b2 : Nat} {a1 a2 c1 c2 : Array Value} {T1 T2 S1 S2 : TypeId} {Z : Nat → Prop}
end
end Go.Proofs.YtfpgnmhcfkikkaaGreat

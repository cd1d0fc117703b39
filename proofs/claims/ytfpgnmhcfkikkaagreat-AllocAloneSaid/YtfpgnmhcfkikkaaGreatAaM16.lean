/- Some of our texts, one behind the other. -/
import Derived.Test.YtfpgnmhcfkikkaaGreatAaM11
import Derived.Test.YtfpgnmhcfkikkaaGreatAaM14
import Derived.Test.YtfpgnmhcfkikkaaGreatAaM10
import Derived.Test.YtfpgnmhcfkikkaaGreatAaLawAA
import Derived.WalkKit
import Derived.ProofKit
import Derived.OpenShut
import Derived.ShutString
import Derived.ChangeOld
import Derived.Below
import Derived.Carry
import Derived.SizedLaws
import Derived.Deep.Slices
import Derived.Deep.Fields
import Derived.ChangeSame
import Derived.Test.YtfpgnmhcfkikkaaGreatRows
import Derived.ChangeSlices
import Derived.Test.YtfpgnmhcfkikkaaGreatAaM3
set_option linter.all false
/- Ours. -/
namespace Go.Proofs.YtfpgnmhcfkikkaaGreat
open Go.RowKit
theorem chkAA {p : Plan} (hp : PF p) (hnn : p.nodes ≤ 40) {M : Mem} {P : Pool} {g : Int} (h : PoolAt p 0 M.ws P g) (hg : g < 900000) {fu : Nat} (hfu : 2000 < fu) :
    ((D.zcV fu p M 0).bind (fun (x106 : List Int) => ((D.zb2 fu x106 P.fr).bind (fun (x109 : Bool) => (bif (!x109) then (some true) else ((D.zcv fu p M 0 0).bind (fun (x116 : List Int) => ((D.zb2 fu x116 P.rt).bind (fun (x119 : Bool) => (bif (!x119) then (some true) else ((D.zcQ fu p M 0).bind (fun (x130 : Int) => (some (x130 != (P.fr.length : Int))))))))))))))) = some false := by
  have hn1 := hp.n1
  have ht1 := hp.t1
  have hc := h.free.count (by omega)
  have hr := h.ret.room
  have hr2 := hp.r2
  have hl := zl7 hp h.free (by omega) hc (by omega) (fu := fu) (by omega)
  rw [hl]
  simp only [Option.bind_some]
  rw [zhT (by omega) (by omega)]
  simp only [Bool.not_true, cond_false, Option.bind_some]
  rw [zku hp ⟨by omega, by omega⟩ h.free.len h.ret (by omega) hfu]
  simp only [Option.bind_some]
  rw [zhT (by omega) (by omega)]
  simp only [Bool.not_true, cond_false, Option.bind_some]
  unfold D.zcQ
  rw [hl]
  simp
theorem zhZ {l : List Int} (h : l.Nodup) {i j : Nat} (hi : i < l.length) (hj : j < l.length) (he : l[i] = l[j]) : i = j := (List.getElem_inj h).1 he
theorem zjX {l : List Int} (h : l.Nodup) {k : Nat} (hk : k < l.length) : ∀ n, n ∈ l.take k ++ l.drop (k + 1) → n ∈ l ∧ n ≠ l[k] := by
  intro n hn
  rcases List.mem_append.1 hn with hn | hn
  · obtain ⟨i, hi, rfl⟩ := List.mem_iff_getElem.1 hn
    simp only [List.length_take] at hi
    rw [List.getElem_take]
    exact ⟨List.getElem_mem _, fun e => by have := zhZ h (by omega) hk e; omega⟩
  · obtain ⟨i, hi, rfl⟩ := List.mem_iff_getElem.1 hn
    simp only [List.length_drop] at hi
    rw [List.getElem_drop]
    exact ⟨List.getElem_mem _, fun e => by have := zhZ h (by omega) hk e; omega⟩
theorem ziC {l : List Int} (h : l.Nodup) (k : Nat) : (l.take k ++ l.drop (k + 1)).Nodup := by
  rw [← List.eraseIdx_eq_take_drop_succ]
  exact h.sublist (List.eraseIdx_sublist ..)
structure LiveA (p : Plan) (P : Pool) (l : List Int) : Prop where
  nod : l.Nodup
  out : ∀ n, n ∈ l → (0 ≤ n ∧ n < p.nodes) ∧ n ∉ P.fr ∧ n ∉ P.rt
theorem zh1 (p : Plan) (l : List Int) (_ : -9223372036854775808 ≤ p.nodes ∧ p.nodes ≤ 9223372036854775807) (_ : -9223372036854775808 ≤ p.threads ∧ p.threads ≤ 9223372036854775807)
    (_ : -9223372036854775808 ≤ p.retire ∧ p.retire ≤ 9223372036854775807) (_ : -9223372036854775808 ≤ p.domains ∧ p.domains ≤ 9223372036854775807) (_ : -9223372036854775808 ≤ p.buckets ∧ p.buckets ≤ 9223372036854775807)
    (_ : -9223372036854775808 ≤ p.gen ∧ p.gen ≤ 9223372036854775807) (hb : ∀ n, n ∈ l → -128 ≤ n ∧ n ≤ 127) : ∃ fu, Wk.D.zc2 fu p l = some true := by
  refine ⟨4000, ?_⟩
  unfold Wk.D.zc2
  rw [show D.zcd 4000 = some true from by decide +kernel]
  simp only [Option.bind_some, Bool.not_true, cond_false]
  cases hf : D.zb9 p
  case false => rfl
  simp only [Bool.not_true, cond_false, Option.bind_some]
  cases hl : decide ((l.length : Int) > 80)
  case true => rfl
  simp only [decide_eq_false_iff_not] at hl
  simp only [cond_false]
  obtain ⟨hp, hfw⟩ := zkt hf
  have hn1 := hp.n1
  have ht1 := hp.t1
  have hr1 := hp.r1
  have hr2 := hp.r2
  have t0 : (0 : Int) ≤ 0 ∧ 0 < p.threads := by omega
  obtain ⟨M, hM, hL⟩ := zl5 hp hfw (fu := 4000) (by omega)
  obtain ⟨g0, o0, hR, hPR⟩ := zkO hp (by omega) (room := p.retire) (m := p.gen) (fu := 4000) (by omega)
  rw [hM]
  simp only [Option.bind_some]
  rw [hR]
  simp only [Option.bind_some]
  refine zfN (fun z => z = some true)
    (fun (i : Nat) (x : Bool × List Int × Int × Mem × List Int × List Int × Int × List Int × List Bool × Int) => ∃ (P : Pool) (ga : Int) (g : List Int) (o : List Bool) (b : Bool) (lv : List Int) (M : Mem), x = (b, lv, (i : Int), M, P.fr, P.rt, p.retire, g, o, p.gen) ∧ PoolAt p 0 M.ws P ga ∧ ga ≤ 50 * i ∧ PR p.nodes P g o ∧ LiveA p P lv ∧ lv.length ≤ i)
    l.length 4000 ⟨⟨allN p, [], fun _ => ⟨0, 0, 0⟩⟩, 0, g0, o0, false, [], M, rfl, PoolAt.startP hp hL t0, by omega, hPR, ⟨List.nodup_nil, fun _ h => (by cases h)⟩, by simp⟩ (by omega) ?_ ?_
  · rintro i x hi ⟨P, ga, g, o, b, lv, M, rfl, hP, hga, hg, hlv, hll⟩
    simp only
    have hc := hP.free.count (by omega)
    have hrm := hP.ret.room
    have hbi := hb _ (List.getElem_mem hi)
    rw [show decide ((i : Int) < (l.length : Int)) = true from by rw [decide_eq_true_eq]; omega, zeD hi, zaM (show -1000000 ≤ (i : Int) + 1 by omega) (by omega)]
    simp only [cond_true, Option.bind_some]
    by_cases hneg : l[i] < 0
    · -- a grant
      rw [show decide (l[i] < 0) = true from decide_eq_true hneg, zjr]
      simp only [cond_true, Option.bind_some]
      have hk0 : 0 ≤ (i : Int).tmod 3 ∧ (i : Int).tmod 3 ≤ 2 := by
        rw [Int.tmod_eq_emod_of_nonneg (by omega)]; omega
      obtain ⟨m, ws', g', hm, hg', hr, hP', hk'⟩ := hP.grant hp (by omega) t0 (k := (i : Int).tmod 3) hk0 (by omega) 4001 (by omega)
      obtain ⟨c, hcr⟩ := runGr (M := M) (fu := 4000) (most := 100000) hr (by omega) (by omega) (by omega)
      obtain ⟨g2, o2, e2, hPR2⟩ := zjz (fu := 4000) (m := p.gen) (room := p.retire) (k := (i : Int).tmod 3) hg hP.ret.range hP.free.range hP.nod (by omega) (by omega) (by omega) (by omega)
      rw [hcr]
      simp only [Option.bind_some]
      rw [e2]
      simp only [Option.bind_some]
      generalize hQ : P.grant p.gen ((i : Int).tmod 3) = Q at hP' hPR2 ⊢
      have hP'' : PoolAt p 0 (⟨ws', c⟩ : Mem).ws Q.1 g' := hP'
      have hsrc : (Q.2 = ⟨-1, 0, 4⟩ ∧ ∀ n, n ∈ Q.1.fr ∨ n ∈ Q.1.rt → n ∈ P.fr ∨ n ∈ P.rt) ∨ ∃ n, Q.2 = ⟨n, (Q.1.st n).gen, 0⟩ ∧ (n ∈ P.fr ∨ n ∈ P.rt) ∧ n ∉ Q.1.fr ∧ n ∉ Q.1.rt ∧ (∀ q, q ∈ Q.1.fr ∨ q ∈ Q.1.rt → q ∈ P.fr ∨ q ∈ P.rt) ∧ Q.1.st n = ⟨(Q.1.st n).gen, 1, (i : Int).tmod 3⟩ := by
        have hout : ∀ R : Pool, R.fr.Nodup → (∀ q, q ∈ R.rt → q ∉ R.fr) → (∀ q, q ∈ R.fr ∨ q ∈ R.rt → q ∈ P.fr ∨ q ∈ P.rt) → R.out ((i : Int).tmod 3) = Q → (Q.2 = ⟨-1, 0, 4⟩ ∧ ∀ n, n ∈ Q.1.fr ∨ n ∈ Q.1.rt → n ∈ P.fr ∨ n ∈ P.rt) ∨ ∃ n, Q.2 = ⟨n, (Q.1.st n).gen, 0⟩ ∧ (n ∈ P.fr ∨ n ∈ P.rt) ∧ n ∉ Q.1.fr ∧ n ∉ Q.1.rt ∧ (∀ q, q ∈ Q.1.fr ∨ q ∈ Q.1.rt → q ∈ P.fr ∨ q ∈ P.rt) ∧ Q.1.st n = ⟨(Q.1.st n).gen, 1, (i : Int).tmod 3⟩ := by
          rintro ⟨fr, rt, st⟩ hnd hds hsub rfl
          cases fr with
          | nil => exact .inl ⟨rfl, hsub⟩
          | cons n fr =>
            have hst : (((⟨n :: fr, rt, st⟩ : Pool).out ((i : Int).tmod 3)).1.st n) = D.zaS (st n) ((i : Int).tmod 3) := if_pos rfl
            refine .inr ⟨n, ?_, hsub n (.inl (List.mem_cons_self ..)), (List.nodup_cons.1 hnd).1, fun h => hds n h (List.mem_cons_self ..), fun q hq => hsub q (hq.imp (List.mem_cons_of_mem _) id), ?_⟩
            · rw [hst]; rfl
            · rw [hst]; rfl
        unfold Pool.grant at hQ
        cases hfr : P.fr with
        | nil =>
          rw [hfr] at hQ
          have hsub := fun n => zfD (P := P) (m := p.gen) (n := n) hP.nod
          have hrt0 : (P.scan p.gen).rt = [] := zfy _ _ _
          obtain ⟨m1, ws1, g1, _, _, _, h1, _⟩ := hP.scan hp (by omega) t0 (by omega) 4001 (by omega)
          have := hout (P.scan p.gen) h1.free.nodup (fun q hq => by rw [hrt0] at hq; cases hq) (fun q hq => by
            rcases hq with hq | hq
            · exact (hsub q hq).symm
            · rw [hrt0] at hq; cases hq) hQ
          rwa [hfr] at this
        | cons a b =>
          rw [hfr] at hQ
          have := hout P hP.free.nodup hP.dis (fun q hq => hq) hQ
          rwa [hfr] at this
      rcases hsrc with ⟨hQ2, hsub⟩ | ⟨n, hQ2, hnP, hnf, hnr, hsub, hst⟩
      · rw [hQ2]
        simp only
        rw [show ((-1 : Int) != -1) = false from rfl, show decide ((-1 : Int) ≥ 0) = false from rfl, show (((4 : Int) == 0) != false) = false from rfl, show ((4 : Int) != 0) = true from rfl, show ((4 : Int) != 4) = false from rfl, show ((0 : Int) != 0) = false from rfl]
        simp only [Bool.not_true, cond_false, cond_true, Option.bind_some]
        rw [chkAA hp hfw.1 hP'' (by omega) (by omega)]
        simp only [Option.bind_some, cond_false]
        exact ⟨_, rfl, Q.1, g', g2, o2, b, lv, ⟨ws', c⟩, by simp, hP', by omega, hPR2, ⟨hlv.nod, fun q hq => ⟨(hlv.out q hq).1, fun h => (hsub q (.inl h)).elim (hlv.out q hq).2.1 (hlv.out q hq).2.2, fun h => (hsub q (.inr h)).elim (hlv.out q hq).2.1 (hlv.out q hq).2.2⟩⟩, by omega⟩
      · have hn : 0 ≤ n ∧ n < p.nodes := hnP.elim (hP.free.range n) (hP.ret.range n)
        obtain ⟨q1, q2, q3⟩ := zm9 hp hn
        have hsp : D.za8 p ≤ sp p n := by unfold sp; omega
        have hlen := hP'.free.len
        rw [hQ2]
        simp only
        rw [show (n != n) = false from by simp, show decide (n ≥ 0) = true from decide_eq_true hn.1, show (((0 : Int) == 0) != true) = false from rfl, show ((0 : Int) != 0) = false from rfl, show ((Q.1.st n).gen != (Q.1.st n).gen) = false from by simp]
        simp only [Bool.not_true, cond_false, cond_true, Option.bind_some]
        rw [zdG (a := lv) (b := [n]) (by simp; omega), q3, zhK (by omega) (by show sp p n < (ws'.length : Int); omega)]
        simp only [Option.bind_some]
        have hw : rd (⟨ws', c⟩ : Mem).ws (sp p n) = D.zan ⟨(Q.1.st n).gen, 1, (i : Int).tmod 3⟩ := by
          have := (hP'.st n hn.1 hn.2).1
          rw [hst] at this
          exact this
        rw [hw, show (D.zan ⟨(Q.1.st n).gen, 1, (i : Int).tmod 3⟩ != D.zan ⟨(Q.1.st n).gen, 1, (i : Int).tmod 3⟩) = false from by simp]
        simp only [cond_false]
        rw [chkAA hp hfw.1 hP'' (by omega) (by omega)]
        simp only [Option.bind_some, cond_false]
        have hnl : n ∉ lv := fun h => hnP.elim (hlv.out n h).2.1 (hlv.out n h).2.2
        refine ⟨_, rfl, Q.1, g', g2, o2, b, lv ++ [n], ⟨ws', c⟩, by simp, hP', by omega, hPR2, ⟨?_, fun q hq => ?_⟩, by simp; omega⟩
        · exact List.nodup_append.2 ⟨hlv.nod, List.nodup_cons.2 ⟨List.not_mem_nil, List.nodup_nil⟩, fun a ha b' hb' e => hnl (by rw [List.mem_singleton.1 hb'] at e; exact e ▸ ha)⟩
        · rcases List.mem_append.1 hq with hq | hq
          · exact ⟨(hlv.out q hq).1, fun h => (hsub q (.inl h)).elim (hlv.out q hq).2.1 (hlv.out q hq).2.2, fun h => (hsub q (.inr h)).elim (hlv.out q hq).2.1 (hlv.out q hq).2.2⟩
          · rw [List.mem_singleton.1 hq]; exact ⟨hn, hnf, hnr⟩
    · -- a retirement, or nothing
      rw [show decide (l[i] < 0) = false from decide_eq_false hneg]
      simp only [cond_false]
      cases lv with
      | nil =>
        rw [show decide ((([] : List Int).length : Int) > 0) = false from rfl]
        simp only [cond_false]
        rw [chkAA hp hfw.1 hP (by omega) (by omega)]
        simp only [Option.bind_some, cond_false]
        exact ⟨_, rfl, P, ga, g, o, b, [], M, by simp, hP, by omega, hg, hlv, by simp⟩
      | cons v0 lv0 =>
        generalize hlv' : v0 :: lv0 = lv at hlv hll ⊢
        have hpos : 0 < lv.length := by rw [← hlv']; simp
        obtain ⟨k, hk, hkl⟩ : ∃ k : Nat, (IntKind.i64.wrap l[i]).tmod (lv.length : Int) = (k : Int) ∧ k < lv.length := by
          rw [zaM (by omega) (by omega), Int.tmod_eq_emod_of_nonneg (by omega)]
          have h1 := Int.emod_nonneg l[i] (show (lv.length : Int) ≠ 0 by omega)
          have h2 := Int.emod_lt_of_pos l[i] (show 0 < (lv.length : Int) by omega)
          exact ⟨(l[i] % (lv.length : Int)).toNat, by omega, by omega⟩
        rw [hk, show decide ((lv.length : Int) > 0) = true from by rw [decide_eq_true_eq]; omega, show decide ((lv.length : Int) ≠ 0) = true from by rw [decide_eq_true_eq]; omega]
        simp only [cond_true]
        rw [show guardI true = some () from rfl]
        simp only [Option.bind_some]
        have e1 : sliceD lv 0 (k : Int) = some (lv.take k) := by unfold sliceD; rw [if_pos (by omega)]; simp
        have e2 : sliceD lv (IntKind.i64.wrap ((k : Int) + 1)) (lv.length : Int) = some (lv.drop (k + 1)) := by
          rw [zaM (by omega) (by omega)]
          unfold sliceD
          rw [if_pos (by omega), show ((k : Int) + 1).toNat = k + 1 from by omega, List.take_of_length_le (by simp)]
        rw [zeD hkl, e1]
        simp only [Option.bind_some]
        rw [zdG (a := ([] : List Int)) (by simp; omega)]
        simp only [Option.bind_some, List.nil_append]
        rw [e2]
        simp only [Option.bind_some]
        rw [zdG (by simp; omega), zjr]
        simp only [Option.bind_some]
        obtain ⟨hn, hnf, hnr⟩ := hlv.out lv[k] (List.getElem_mem hkl)
        obtain ⟨m, ws', g', hm, hg', hr, hP', hl', _⟩ := zig hp (by omega) t0 hP (by omega) 4001 (by omega) hn hnr hnf
        obtain ⟨c, hcr⟩ := runF (M := M) (fu := 4000) (most := 100000) hr (by omega) (by omega) (by omega)
        have hPR1 := hg.re (n := lv[k]) (s := ⟨(P.st lv[k]).gen, 2, (P.st lv[k]).kind⟩) rfl
        obtain ⟨g2, o2, e3, hPR2⟩ := zjb (fu := 4000) (m := p.gen) (room := p.retire) (n := lv[k]) hPR1 hP.ret.range (by omega) (by simp only; omega) (by simp only; omega) (by omega)
        rw [hcr]
        simp only [Option.bind_some]
        simp only at e3
        rw [e3]
        simp only [Option.bind_some]
        rw [show (lv[k] != lv[k]) = false from by simp]
        simp only [Bool.not_true, cond_false, Option.bind_some]
        generalize hQ : (⟨P.fr, P.rt, fun q => if q = lv[k] then ⟨(P.st lv[k]).gen, 2, (P.st lv[k]).kind⟩ else P.st q⟩ : Pool).stash p.retire p.gen lv[k] = Q at hP' hPR2 ⊢
        have hP'' : PoolAt p 0 (⟨ws', c⟩ : Mem).ws Q g' := hP'
        rw [chkAA hp hfw.1 hP'' (by omega) (by omega)]
        simp only [Option.bind_some, cond_false]
        have hsub : ∀ q, q ∈ Q.fr ∨ q ∈ Q.rt → (q ∈ P.fr ∨ q ∈ P.rt) ∨ q = lv[k] := by
          intro q hq
          rw [← hQ] at hq
          unfold Pool.stash at hq
          simp only at hq
          by_cases hc' : (P.rt.length : Int) < p.retire
          · rw [if_pos hc'] at hq
            simp only [List.mem_append, List.mem_singleton] at hq
            rcases hq with hq | hq | hq
            · exact .inl (.inl hq)
            · exact .inl (.inr hq)
            · exact .inr hq
          · rw [if_neg hc'] at hq
            have hrt0 : ((⟨P.fr, P.rt, fun q => if q = lv[k] then ⟨(P.st lv[k]).gen, 2, (P.st lv[k]).kind⟩ else P.st q⟩ : Pool).scan p.gen).rt = [] := zfy _ _ _
            rw [hrt0] at hq
            simp only [List.nil_append, List.mem_singleton] at hq
            rcases hq with hq | hq
            · exact .inl ((zfD (P := ⟨P.fr, P.rt, fun q => if q = lv[k] then ⟨(P.st lv[k]).gen, 2, (P.st lv[k]).kind⟩ else P.st q⟩) hP.nod hq).symm)
            · exact .inr hq
        refine ⟨_, rfl, Q, g', g2, o2, b, lv.take k ++ lv.drop (k + 1), ⟨ws', c⟩, by simp, hP', by omega, hPR2, ⟨ziC hlv.nod k, fun q hq => ?_⟩, by simp; omega⟩
        obtain ⟨h1, h2⟩ := zjX hlv.nod hkl q hq
        have h3 := hlv.out q h1
        exact ⟨h3.1, fun h => (hsub q (.inl h)).elim (fun h => h.elim h3.2.1 h3.2.2) h2, fun h => (hsub q (.inr h)).elim (fun h => h.elim h3.2.1 h3.2.2) h2⟩
  · rintro x ⟨P, ga, g, o, b, lv, M, rfl, _⟩
    simp only
    rw [show decide ((l.length : Int) < (l.length : Int)) = false from by simp]
    exact ⟨_, rfl, by trivial⟩
end Go.Proofs.YtfpgnmhcfkikkaaGreat

/- Ours. -/
namespace Go.Proofs.YtfpgnmhcfkikkaaGreat
open Go.ChangeShapes Go.WideShapes Go.RowKit Go.Deep Go.ChangeAt
section
variable {H : Type} {enc : TypeId × Value → H} {P : Program} {w : World} {base : Nat} {spare : Nat → Bool} {held : Bool}
theorem zis {α : Type} {l : List α} {j : Nat} (h : j < l.length) : (l.drop j).take 1 = [l[j]] := by
  rw [List.drop_eq_getElem_cons h]
  rfl
theorem zi8 {r : Reach} {b0 : Nat} {t : TypeId} {fs : Array Go.Field} {v : Value} {d : DataW H} {p : List MemPlace} (ks : List IntKind) (hs : P.underlying t = some (.struct fs)) (hone : oneCellFields P fs = true)
    (hC : P.cellsOf t = fs.size) (hk : fs.toList.map (fun f => P.underlying f.type) = ks.map fun k => some (.int k))
    (hv : Value.okWide P w r b0 t v) (h : DataW.Trod enc P w base spare held t v d p) :
    ∃ ns : List Int, v = .agg (List.zipWith Value.int ks ns).toArray ∧ ns.length = ks.length ∧ ∀ q, q ∈ List.zip ks ns → (Lit.int q.1 q.2).wf = true := by
  obtain ⟨cs, rfl, hsz⟩ := okWide_struct hs hv
  obtain ⟨fuel, hf⟩ := h
  obtain ⟨xs, n, _, hx, hl, hlen, hfs⟩ := DataW.trod_struct hs hf
  have hkl : ks.length = fs.size := by
    have := congrArg List.length hk
    simpa using this.symm
  have hcl : cs.size = fs.size := hsz.trans hC
  have hat : ∀ j (hj : j < cs.size), ∃ (k : IntKind) (m : Int), ks[j]? = some k ∧ cs[j] = .int k m ∧ (Lit.int k m).wf = true := by
    intro j hj
    have hjf : fs[j]? = some fs[j] := by simp
    obtain ⟨ho, hc⟩ := hone_of hone j _ hjf
    have h1 := hfs j _ hjf
    rw [ho, hc] at h1
    have hcs : ((Value.agg cs).cells.toList.drop j).take 1 = [cs[j]] := by
      have := zis (l := cs.toList) (j := j) (by simpa using hj)
      simpa [Value.cells] using this
    rw [hcs] at h1
    have hxs : xs[j]? = some (xs[j]'(by omega)) := by simp
    rw [hxs] at h1
    have hu : (fs.toList.map (fun f => P.underlying f.type))[j]? = some (P.underlying fs[j].type) := by simp [hjf]
    rw [hk] at hu
    obtain ⟨k, hk1, hk2⟩ : ∃ k, ks[j]? = some k ∧ some (.int k) = P.underlying fs[j].type := by
      simpa using hu
    obtain ⟨m, hm, _, hw⟩ := DataW.trod_int hk2.symm h1
    exact ⟨k, m, hk1, by simpa using hm, hw⟩
  refine ⟨cs.toList.map intOf, ?_, by simp; omega, ?_⟩
  · congr 1
    apply Array.ext_getElem?
    intro j
    rcases Nat.lt_or_ge j cs.size with hj | hj
    · obtain ⟨k, m, h1, h2, _⟩ := hat j hj
      simp [List.getElem?_zipWith, h1, hj, h2, intOf]
    · simp [List.getElem?_zipWith, hj]
  · intro q hq
    obtain ⟨j, hj, he⟩ := List.mem_iff_getElem.1 hq
    simp only [List.length_zip, List.length_map, Array.length_toList] at hj
    obtain ⟨k, m, h1, h2, h3⟩ := hat j (by omega)
    have hk3 : ks[j]'(by omega) = k := by
      have := List.getElem?_eq_getElem (l := ks) (i := j) (by omega)
      rw [h1] at this
      exact (Option.some.inj this).symm
    simp only [List.getElem_zip, List.getElem_map] at he
    rw [← he]
    simp only [hk3, Array.getElem_toList, h2, intOf]
    exact h3
end
theorem zok {α : Type} {l : List α} (h : l.length = 6) : ∃ x0 x1 x2 x3 x4 x5, l = [x0, x1, x2, x3, x4, x5] := by
  match l, h with
  | [x0, x1, x2, x3, x4, x5], _ => exact ⟨x0, x1, x2, x3, x4, x5, rfl⟩
theorem laidOut : laidOutB Tryz.prog = true := by kernel_rfl
end Go.Proofs.YtfpgnmhcfkikkaaGreat

/- Ours. -/
namespace Go.Proofs.YtfpgnmhcfkikkaaGreat
open Go.ChangeShapes Go.WideShapes Go.ChangeAt Go.RowKit
def ioN : List Nat := [104, 97, 114, 110, 101, 115, 115, 32, 50, 53, 55, 97, 102, 51, 54, 101, 100, 51, 53, 99, 52, 57, 99, 55, 97, 51, 51, 97, 101, 48, 51, 50, 55, 53, 51, 51, 101, 49, 54, 98, 100, 55, 102, 55, 54, 51, 55, 55, 52, 48, 51, 49, 53, 101, 48, 100, 50, 55, 56, 48, 101, 48, 101, 51, 97, 98, 56, 55, 99, 50, 101, 48, 32, 99, 117, 116, 32, 97, 116, 32, 99, 117, 98, 105, 99, 108, 101, 47, 99, 117, 98, 105, 99, 108, 101, 108, 97, 119, 49, 50, 46, 65, 108, 108, 111, 99, 65, 108, 111, 110, 101, 32, 99, 117, 98, 105, 99, 108, 101, 47, 99, 117, 98, 105, 99, 108, 101, 108, 97, 119, 49, 50, 46, 65, 108, 108, 111, 99, 77, 97, 110, 121, 32, 99, 117, 98, 105, 99, 108, 101, 47, 99, 117, 98, 105, 99, 108, 101, 108, 97, 119, 49, 55, 46, 68, 111, 109, 97, 105, 110, 77, 97, 110, 121, 32, 99, 117, 98, 105, 99, 108, 101, 47, 99, 117, 98, 105, 99, 108, 101, 108, 97, 119, 49, 51, 46, 67, 104, 101, 99, 107, 65, 108, 111, 110, 101, 32, 99, 117, 98, 105, 99, 108, 101, 47, 99, 117, 98, 105, 99, 108, 101, 108, 97, 119, 49, 52, 46, 81, 117, 101, 117, 101, 65, 108, 111, 110, 101, 32, 99, 117, 98, 105, 99, 108, 101, 47, 99, 117, 98, 105, 99, 108, 101, 108, 97, 119, 49, 52, 46, 81, 117, 101, 117, 101, 77, 97, 110, 121, 32, 99, 117, 98, 105, 99, 108, 101, 47, 99, 117, 98, 105, 99, 108, 101, 108, 97, 119, 49, 53, 46, 76, 105, 115, 116, 75, 101, 121, 115, 32, 99, 117, 98, 105, 99, 108, 101, 47, 99, 117, 98, 105, 99, 108, 101, 108, 97, 119, 49, 53, 46, 76, 105, 115, 116, 82, 97, 99, 101, 32, 99, 117, 98, 105, 99, 108, 101, 47, 99, 117, 98, 105, 99, 108, 101, 108, 97, 119, 49, 53, 46, 76, 105, 115, 116, 65, 108, 111, 110, 101, 32, 99, 117, 98, 105, 99, 108, 101, 47, 99, 117, 98, 105, 99, 108, 101, 108, 97, 119, 49, 53, 46, 76, 105, 115, 116, 83, 116, 97, 108, 108, 115, 32, 99, 117, 98, 105, 99, 108, 101, 47, 99, 117, 98, 105, 99, 108, 101, 108, 97, 119, 49, 53, 46, 76, 105, 115, 116, 77, 97, 110, 121, 32, 99, 117, 98, 105, 99, 108, 101, 47, 99, 117, 98, 105, 99, 108, 101, 108, 97, 119, 49, 53, 46, 76, 105, 115, 116, 78, 111, 100, 101, 115, 32, 99, 117, 98, 105, 99, 108, 101, 47, 99, 117, 98, 105, 99, 108, 101, 108, 97, 119, 49, 55, 46, 68, 111, 109, 97, 105, 110, 65, 108, 111, 110, 101, 32, 99, 117, 98, 105, 99, 108, 101, 47, 99, 117, 98, 105, 99, 108, 101, 108, 97, 119, 49, 55, 46, 68, 111, 109, 97, 105, 110, 79, 100, 100, 32, 99, 117, 98, 105, 99, 108, 101, 47, 99, 117, 98, 105, 99, 108, 101, 108, 97, 119, 49, 54, 46, 68, 105, 99, 116, 67, 101, 108, 108, 115, 32, 99, 117, 98, 105, 99, 108, 101, 47, 99, 117, 98, 105, 99, 108, 101, 108, 97, 119, 49, 54, 46, 68, 105, 99, 116, 65, 108, 111, 110, 101, 32, 99, 117, 98, 105, 99, 108, 101, 47, 99, 117, 98, 105, 99, 108, 101, 108, 97, 119, 49, 54, 46, 68, 105, 99, 116, 65, 112, 97, 114, 116, 32, 99, 117, 98, 105, 99, 108, 101, 47, 99, 117, 98, 105, 99, 108, 101, 108, 97, 119, 49, 54, 46, 68, 105, 99, 116, 66, 117, 99, 107, 101, 116, 115, 32, 99, 117, 98, 105, 99, 108, 101, 47, 99, 117, 98, 105, 99, 108, 101, 108, 97, 119, 49, 55, 46, 68, 111, 109, 97, 105, 110, 65, 112, 97, 114, 116]
theorem io1 : Tryz.prog.initOrder = String.ofList (ioN.map Char.ofNat) := by kernel_rfl
theorem io2 : Tryz.prog.initOrder.toList = ioN.map Char.ofNat := by rw [io1, String.toList_ofList]
theorem io3 : behindMainWord (wordsSigns Tryz.prog.initOrder.toList) = (([99, 117, 116] : List Nat).map Char.ofNat) :: ([[97, 116], [99, 117, 98, 105, 99, 108, 101, 47, 99, 117, 98, 105, 99, 108, 101, 108, 97, 119, 49, 50, 46, 65, 108, 108, 111, 99, 65, 108, 111, 110, 101], [99, 117, 98, 105, 99, 108, 101, 47, 99, 117, 98, 105, 99, 108, 101, 108, 97, 119, 49, 50, 46, 65, 108, 108, 111, 99, 77, 97, 110, 121], [99, 117, 98, 105, 99, 108, 101, 47, 99, 117, 98, 105, 99, 108, 101, 108, 97, 119, 49, 55, 46, 68, 111, 109, 97, 105, 110, 77, 97, 110, 121], [99, 117, 98, 105, 99, 108, 101, 47, 99, 117, 98, 105, 99, 108, 101, 108, 97, 119, 49, 51, 46, 67, 104, 101, 99, 107, 65, 108, 111, 110, 101], [99, 117, 98, 105, 99, 108, 101, 47, 99, 117, 98, 105, 99, 108, 101, 108, 97, 119, 49, 52, 46, 81, 117, 101, 117, 101, 65, 108, 111, 110, 101], [99, 117, 98, 105, 99, 108, 101, 47, 99, 117, 98, 105, 99, 108, 101, 108, 97, 119, 49, 52, 46, 81, 117, 101, 117, 101, 77, 97, 110, 121], [99, 117, 98, 105, 99, 108, 101, 47, 99, 117, 98, 105, 99, 108, 101, 108, 97, 119, 49, 53, 46, 76, 105, 115, 116, 75, 101, 121, 115], [99, 117, 98, 105, 99, 108, 101, 47, 99, 117, 98, 105, 99, 108, 101, 108, 97, 119, 49, 53, 46, 76, 105, 115, 116, 82, 97, 99, 101], [99, 117, 98, 105, 99, 108, 101, 47, 99, 117, 98, 105, 99, 108, 101, 108, 97, 119, 49, 53, 46, 76, 105, 115, 116, 65, 108, 111, 110, 101], [99, 117, 98, 105, 99, 108, 101, 47, 99, 117, 98, 105, 99, 108, 101, 108, 97, 119, 49, 53, 46, 76, 105, 115, 116, 83, 116, 97, 108, 108, 115], [99, 117, 98, 105, 99, 108, 101, 47, 99, 117, 98, 105, 99, 108, 101, 108, 97, 119, 49, 53, 46, 76, 105, 115, 116, 77, 97, 110, 121], [99, 117, 98, 105, 99, 108, 101, 47, 99, 117, 98, 105, 99, 108, 101, 108, 97, 119, 49, 53, 46, 76, 105, 115, 116, 78, 111, 100, 101, 115], [99, 117, 98, 105, 99, 108, 101, 47, 99, 117, 98, 105, 99, 108, 101, 108, 97, 119, 49, 55, 46, 68, 111, 109, 97, 105, 110, 65, 108, 111, 110, 101], [99, 117, 98, 105, 99, 108, 101, 47, 99, 117, 98, 105, 99, 108, 101, 108, 97, 119, 49, 55, 46, 68, 111, 109, 97, 105, 110, 79, 100, 100], [99, 117, 98, 105, 99, 108, 101, 47, 99, 117, 98, 105, 99, 108, 101, 108, 97, 119, 49, 54, 46, 68, 105, 99, 116, 67, 101, 108, 108, 115], [99, 117, 98, 105, 99, 108, 101, 47, 99, 117, 98, 105, 99, 108, 101, 108, 97, 119, 49, 54, 46, 68, 105, 99, 116, 65, 108, 111, 110, 101], [99, 117, 98, 105, 99, 108, 101, 47, 99, 117, 98, 105, 99, 108, 101, 108, 97, 119, 49, 54, 46, 68, 105, 99, 116, 65, 112, 97, 114, 116], [99, 117, 98, 105, 99, 108, 101, 47, 99, 117, 98, 105, 99, 108, 101, 108, 97, 119, 49, 54, 46, 68, 105, 99, 116, 66, 117, 99, 107, 101, 116, 115], [99, 117, 98, 105, 99, 108, 101, 47, 99, 117, 98, 105, 99, 108, 101, 108, 97, 119, 49, 55, 46, 68, 111, 109, 97, 105, 110, 65, 112, 97, 114, 116]] : List (List Nat)).map (List.map Char.ofNat) := by rw [io2]; kernel_rfl
theorem stripG (r : List (List Char)) : stripLifts liftWords (([99, 117, 116].map Char.ofNat) :: r) = ([], ([99, 117, 116].map Char.ofNat) :: r) := by rfl
theorem makeG {P : Program} {r : List (List Char)} (h : behindMainWord (wordsSigns P.initOrder.toList) = ([99, 117, 116].map Char.ofNat) :: r) : P.make = some .cut := by
  unfold Program.make
  rw [h]
  rfl
theorem liftsG {P : Program} {r : List (List Char)} (h : behindMainWord (wordsSigns P.initOrder.toList) = ([99, 117, 116].map Char.ofNat) :: r) : P.liftsFinal = false := by
  unfold Program.liftsFinal Program.headLifts
  rw [h, stripG]
  rfl
theorem enterG {P : Program} {r : List (List Char)} (h : behindMainWord (wordsSigns P.initOrder.toList) = ([99, 117, 116].map Char.ofNat) :: r) (h1 : P.laysLater = false) (h2 : P.bearsReflect = false) (h3 : P.doorFits [] = true) : P.mayEnter = true := by
  unfold Program.mayEnter
  rw [h]
  simp only [stripG, h1, h2, h3]
  rfl
theorem e1 : Tryz.prog.laysLater = false := by kernel_rfl
theorem e2 : Tryz.prog.bearsReflect = false := by kernel_rfl
theorem e3 : Tryz.prog.doorFits [] = true := by kernel_rfl
theorem zkV : Tryz.prog.make = some .cut := makeG io3
theorem zkv : Tryz.prog.liftsFinal = false := liftsG io3
theorem zke : Tryz.prog.mayEnter = true := enterG io3 e1 e2 e3
theorem zkT : mapsRowed Tryz.prog = true := by kernel_rfl
theorem zkh : Tryz.prog.stopsHeard = true := by kernel_rfl
end Go.Proofs.YtfpgnmhcfkikkaaGreat

/- Ours. -/
namespace Go.Proofs.YtfpgnmhcfkikkaaGreat
open Go.ChangeShapes Go.WideShapes Go.RowKit Go.Deep Go.ChangeAt
section
variable {H : Type} {enc : TypeId × Value → H} {P : Program} {w : World} {base : Nat} {spare : Nat → Bool} {held : Bool}
def flatF (P : Program) (k : TypeId → Option (List IntKind)) : Nat → List Go.Field → Option (List IntKind)
  | _, [] => some []
  | off, f :: fs => if f.offset = off then (k f.type).bind fun ks => if ks.length = P.cellsOf f.type then (flatF P k (off + P.cellsOf f.type) fs).map (ks ++ ·) else none else none
def flatK (P : Program) : Nat → TypeId → Option (List IntKind)
  | 0, _ => none
  | n + 1, t => match P.underlying t with
    | some (.int k) => some [k]
    | some (.struct fs) => (flatF P (flatK P n) 0 fs.toList).bind fun ks => if ks.length = P.cellsOf t then some ks else none
    | _ => none
def Ints (ks : List IntKind) (cs : List Value) : Prop := ∃ ns : List Int, cs = List.zipWith Value.int ks ns ∧ ns.length = ks.length ∧ ∀ q, q ∈ List.zip ks ns → (Lit.int q.1 q.2).wf = true
theorem Ints.append {ks ks' : List IntKind} {cs cs' : List Value} (h : Ints ks cs) (h' : Ints ks' cs') : Ints (ks ++ ks') (cs ++ cs') := by
  obtain ⟨ns, rfl, h2, h3⟩ := h
  obtain ⟨ns', rfl, h2', h3'⟩ := h'
  refine ⟨ns ++ ns', (List.zipWith_append h2.symm).symm, by simp [h2, h2'], fun q hq => ?_⟩
  rw [List.zip_append h2.symm] at hq
  rcases List.mem_append.1 hq with hq | hq
  · exact h3 q hq
  · exact h3' q hq
theorem zhf {k : TypeId → Option (List IntKind)} {m : Nat} {cs : List Value} (hk : ∀ t ks cs x, k t = some ks → DataW.trod enc P w base spare held m t cs = some x → Ints ks cs) : ∀ (fs : List Go.Field) (off : Nat) (ks : List IntKind), flatF P k off fs = some ks →
    (∀ f, f ∈ fs → ∃ y, DataW.trod enc P w base spare held m f.type ((cs.drop f.offset).take (P.cellsOf f.type)) = some y) → Ints ks ((cs.drop off).take ks.length)
  | [], off, ks, h, _ => by
    obtain rfl := Option.some.inj h
    exact ⟨[], by simp, rfl, fun q hq => by simp at hq⟩
  | f :: fs, off, ks, h, hf => by
    unfold flatF at h
    split at h
    · rename_i ho
      obtain ⟨k1, h1, h⟩ := Option.bind_eq_some_iff.1 h
      split at h
      · rename_i hl
        obtain ⟨k2, h2, rfl⟩ := Option.map_eq_some_iff.1 h
        obtain ⟨y, hy⟩ := hf f (List.mem_cons_self ..)
        have i1 := hk _ _ _ _ h1 hy
        have i2 := zhf hk fs _ k2 h2 fun g hg => hf g (List.mem_cons_of_mem _ hg)
        rw [ho, ← hl] at i1
        rw [List.length_append, List.take_add, List.drop_drop, hl]
        rw [hl] at i1
        exact i1.append i2
      · cases h
    · cases h
theorem zik : ∀ (n : Nat) (t : TypeId) (ks : List IntKind) (m : Nat) (cs : List Value) (x : DataW H × List MemPlace), flatK P n t = some ks → DataW.trod enc P w base spare held m t cs = some x → Ints ks cs
  | 0, _, _, _, _, _, h, _ => by cases h
  | n + 1, t, ks, m, cs, x, h, hd => by
    unfold flatK at h
    split at h
    · rename_i k hu
      obtain rfl := Option.some.inj h
      obtain ⟨z, h1, _, h2⟩ := DataW.trod_int hu hd
      subst h1
      exact ⟨[z], rfl, rfl, fun q hq => by
        rcases List.mem_singleton.1 hq with rfl
        exact h2⟩
    · rename_i fs hu
      obtain ⟨ks', h1, h2⟩ := Option.bind_eq_some_iff.1 h
      split at h2
      · rename_i hl
        obtain rfl := Option.some.inj h2
        obtain ⟨xs, m', _, hx, hcl, hlen, hfs⟩ := DataW.trod_struct hu hd
        have := zhf (m := m') (cs := cs) (fun t ks cs x => zik n t ks m' cs x) fs.toList 0 ks' h1 fun f hf => by
          obtain ⟨j, hj, he⟩ := List.mem_iff_getElem.1 hf
          have hj' : fs[j]? = some f := by rw [← he]; simp
          have h3 := hfs j f hj'
          have hjs : j < fs.size := by simpa using hj
          exact ⟨_, h3.trans (List.getElem?_eq_getElem (show j < xs.length by omega))⟩
        rw [List.drop_zero, List.take_of_length_le (by omega)] at this
        exact this
      · cases h2
    · cases h
theorem zjQ {α : Type} {T : TypeId} {r : Reach} {b0 : Nat} {t e : TypeId} {v : Value} {d : DataW H} {p : List MemPlace} {sz : Nat} (f : α → List Value) (Pr : α → Prop) (z : α) (ht : P.underlying t = some (.slice e))
    (hel : ∀ m cs x, DataW.trod enc P w base spare held m e cs = some x → ∃ y, cs = f y ∧ Pr y) (hc : P.cellsOf e = sz) (hpos : 0 < sz) (hfl : ∀ x, (f x).length = sz)
    (hv : Value.okWide P w r b0 t v) (h : DataW.Trod enc P w base spare held t v d p) : ∃ xs : List α, RoAt T sz f v xs w ∧ ∀ x, x ∈ xs → Pr x := by
  obtain ⟨a, len, cap, rfl⟩ := okWide_slice ht hv
  obtain ⟨fuel, hd⟩ := h
  rcases open_slice ht hd with ⟨h1, _⟩ | ⟨ad, n', c, m, q, D, Pl, h1, _, hnc, _, hm, _, hcell⟩
  · simp only [Value.cells, List.cons.injEq, and_true] at h1
    injection h1 with h1 h2 h3
    subst h1; subst h2; subst h3
    exact ⟨[], .inl ⟨_, _, rfl, rfl⟩, fun _ h => by cases h⟩
  · simp only [Value.cells, List.cons.injEq, and_true] at h1
    injection h1 with h1 h2 h3
    subst h1; subst h2; subst h3
    have hlen : len ≤ m := by rw [hm]; split <;> omega
    have hI : ∀ i, i < len → ∃ y : α, w.cells? base (ad.add (i * sz)) sz = some (f y) ∧ Pr y := fun i hi => by
      obtain ⟨cs', h1, h2⟩ := hcell i (by omega)
      obtain ⟨y, h3, h4⟩ := hel q cs' _ h2
      rw [hc, h3] at h1
      exact ⟨y, h1, h4⟩
    obtain ⟨g, hg⟩ := Classical.axiomOfChoice (r := fun (i : Nat) (y : α) => i < len → w.cells? base (ad.add (i * sz)) sz = some (f y) ∧ Pr y)
      (fun i => by
        by_cases hi : i < len
        · obtain ⟨y, h⟩ := hI i hi; exact ⟨y, fun _ => h⟩
        · exact ⟨z, fun h => absurd h hi⟩)
    refine ⟨(List.range len).map fun i => g i, ?_, fun x hx => ?_⟩
    · cases len with
      | zero => exact .inl ⟨_, _, rfl, rfl⟩
      | succ m0 =>
        have hz : ∀ i, i < m0 + 1 → ∀ j u, (f ((g i)))[j]? = some u → w.cell? ((ad.add (i * sz)).add j) = some u := fun i hi j u hu => by
          obtain ⟨h1, _⟩ := hg i hi
          obtain ⟨_, h4, h5⟩ := World.cells?_some h1
          have hj : j < (f (g i)).length := (List.getElem?_eq_some_iff.1 hu).1
          rw [h5 j (by omega), hu]
        have h0 := hz 0 (by omega) 0 ((f ((g 0)))[0]'(by rw [hfl]; exact hpos)) (by simp)
        have hadd : (ad.add (0 * sz)).add 0 = ad := by rw [Nat.zero_mul]; rfl
        rw [hadd] at h0
        have hsp : ad.spot = none := by
          unfold World.cell? at h0
          split at h0
          · split at h0
            · cases h0
            · rename_i h; simpa using h
          · cases h0
        obtain ⟨gB, o, sp⟩ := ad
        simp only at hsp
        subst hsp
        have hx : ∃ cur E fz, w.heap[gB]? = some (.cells cur E fz) := by
          unfold World.cell? at h0
          split at h0
          · rename_i c' E fz hh; exact ⟨c', E, fz, hh⟩
          · cases h0
        obtain ⟨cur, E, fz, hh⟩ := hx
        refine .inr ⟨gB, o, cap, cur, E, fz, by simp, ?_, hh, ?_, by simpa using hnc⟩
        · intro he
          have := congrArg List.length he
          simp at this
        · have hll : ((List.range (m0 + 1)).map fun i => g i).length = m0 + 1 := by simp
          apply List.ext_getElem?
          intro q
          rw [hll]
          by_cases hq : q < (m0 + 1) * sz
          · have hi : q / sz < m0 + 1 := (Nat.div_lt_iff_lt_mul hpos).2 hq
            have hj : q % sz < sz := Nat.mod_lt _ hpos
            have hqq : q / sz * sz + q % sz = q := by rw [Nat.mul_comm]; exact Nat.div_add_mod q sz
            have h1 := hz (q / sz) hi (q % sz) ((f ((g (q / sz))))[q % sz]'(by rw [hfl]; exact hj)) (by simp)
            rw [Addr.add_lit, Addr.add_lit] at h1
            simp only [World.cell?, hh] at h1
            have h2 := zg2 hfl ((List.range (m0 + 1)).map fun i => g i) (q / sz) (by rw [hll]; exact hi) (q % sz) ((f ((g (q / sz))))[q % sz]'(by rw [hfl]; exact hj)) (by simp)
            rw [hqq] at h2
            rw [h2, List.getElem?_take, if_pos hq, List.getElem?_drop]
            rw [Nat.add_assoc, hqq] at h1
            simpa using h1
          · rw [List.getElem?_take, if_neg hq, List.getElem?_eq_none]
            rw [zd4 hfl, hll]
            omega
    · obtain ⟨i, hi, rfl⟩ := List.mem_map.1 hx
      exact (hg i (List.mem_range.1 hi)).2
theorem zjS {α : Type} {T : TypeId} {r : Reach} {b0 : Nat} {t e : TypeId} {v : Value} {d : DataW H} {p : List MemPlace} (n : Nat) (ks : List IntKind) (f : α → List Value) (dec : List Int → α) (ht : P.underlying t = some (.slice e)) (hk : flatK P n e = some ks)
    (hc : P.cellsOf e = ks.length) (hdec : ∀ ns : List Int, ns.length = ks.length → f (dec ns) = List.zipWith Value.int ks ns) (hpos : 0 < ks.length) (hfl : ∀ x, (f x).length = ks.length)
    (hv : Value.okWide P w r b0 t v) (h : DataW.Trod enc P w base spare held t v d p) :
    ∃ xs : List α, RoAt T ks.length f v xs w ∧ ∀ x, x ∈ xs → ∃ ns : List Int, x = dec ns ∧ ns.length = ks.length ∧ ∀ q, q ∈ List.zip ks ns → (Lit.int q.1 q.2).wf = true :=
  zjQ f (fun x => ∃ ns : List Int, x = dec ns ∧ ns.length = ks.length ∧ ∀ q, q ∈ List.zip ks ns → (Lit.int q.1 q.2).wf = true) (dec []) ht (fun m cs x hx => by
    obtain ⟨ns, h1, h2, h3⟩ := zik n e ks m cs x hk hx
    exact ⟨dec ns, by rw [hdec ns h2]; exact h1, ns, rfl, h2, h3⟩) hc hpos hfl hv h
theorem zk5 {T : TypeId} {r : Reach} {b0 : Nat} {t e : TypeId} {k : IntKind} {v : Value} {d : DataW H} {p : List MemPlace} (f : Int → List Value) (hf : ∀ x, f x = [.int k x]) (ht : P.underlying t = some (.slice e)) (he : P.underlying e = some (.int k)) (hc : P.cellsOf e = 1)
    (hv : Value.okWide P w r b0 t v) (h : DataW.Trod enc P w base spare held t v d p) : ∃ xs : List Int, RoAt T 1 f v xs w ∧ ∀ n, n ∈ xs → (Lit.int k n).wf = true := by
  obtain ⟨xs, h1, h2⟩ := zjS (T := T) 1 [k] f (fun ns => ns.headD 0) ht (by unfold flatK; rw [he]) hc (fun ns hn => by
    match ns, hn with
    | [x], _ => exact hf x) (by simp) (fun x => by rw [hf]; rfl) hv h
  refine ⟨xs, h1, fun n hn => ?_⟩
  obtain ⟨ns, rfl, h3, h4⟩ := h2 n hn
  match ns, h3 with
  | [x], _ => exact h4 (k, x) (by simp)
end
end Go.Proofs.YtfpgnmhcfkikkaaGreat

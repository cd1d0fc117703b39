/- Some of our texts, one behind the other. -/
import Derived.Test.YtjkinpbfmihhdaaGreatQoM11
import Derived.Test.YtjkinpbfmihhdaaGreatQoHazx
import Derived.Test.YtjkinpbfmihhdaaGreatQoQueues
import Derived.WalkKit
import Derived.ProofKit
import Derived.OpenShut
import Derived.ShutString
import Derived.ChangeOld
import Derived.Below
import Derived.Carry
import Derived.SizedLaws
import Derived.Deep.Slices
import Derived.Deep.Fields
import Derived.ChangeSame
import Derived.Test.YtjkinpbfmihhdaaGreatRows
set_option linter.all false
/- A queue, alone: what putting and taking come to, without the code. -/
set_option linter.unusedVariables false
set_option linter.unusedSectionVars false
namespace Go.Proofs.YtjkinpbfmihhdaaGreat
open Go.RowKit

theorem zjP {p : Plan} (hp : PF p) (hd : 0 < p.domains) {c : Int} (hc : 0 ≤ c ∧ c < 2) : D.zb1 p 0 c = 2 + c := by
  have hcl := zha hp
  have hd2 := hp.d2
  have e1 : IntKind.i64.wrap (0 * IntKind.i64.wrap (1 + D.zal p)) = 0 := by rw [Int.zero_mul]; rfl
  unfold D.zb1 D.zbs
  rw [e1, show IntKind.i64.wrap (2 + 0) = 2 from rfl, zaS (x := 2 + c) (by omega) (by omega), zaS (x := D.zal p - 1) (by omega) (by omega)]
  refine zjv hp fun b hb => ?_
  simp only [List.mem_cons, List.mem_nil_iff, or_false] at hb
  rcases hb with rfl | rfl
  · refine ⟨?_, ?_⟩
    · exact Int.le_refl _
    · show (0 : Int) ≤ IntKind.i64.wrap (p.domains - 1)
      rw [zaS (by omega) (by omega)]; omega
  · exact ⟨hc.1, by show c ≤ D.zal p - 1; omega⟩

theorem haz4 {p : Plan} (hp : PF p) (hd : 0 < p.domains) : 4 ≤ D.zab p := by
  have hcl := zha hp
  rw [zfh hp]
  have : 1 * (1 + D.zal p) ≤ p.domains * (1 + D.zal p) := Int.mul_le_mul_of_nonneg_right (by omega) (by omega)
  omega

/-- A word ahead of the hazards is changed. -/
theorem PoolAt.putc {p : Plan} (hp : PF p) {t : Int} (ht : 0 ≤ t ∧ t < p.threads) {ws ws' : List Int} {P : Pool} {g a : Int} (h : PoolAt p t ws P g) (ha : 0 < a ∧ a < D.zab p) (hl : ws'.length = ws.length)
    (ho : ∀ j, 0 ≤ j → j ≠ a → rd ws' j = rd ws j) : PoolAt p t ws' P g := by
  obtain ⟨z1, z2, z3, z4⟩ := hz_in hp
  obtain ⟨p1, p2, p3⟩ := rb_in hp ht
  refine h.keep hp ht (st := P.st) hl (ho 0 (by omega) (by omega)) (fun j j0 j1 => ho j (by omega) (by omega)) (fun q e hq e0 e1 => ?_) (fun j j0 j1 => ho _ (by omega) (by omega)) (fun q q0 q1 => ?_)
  · have hr := h.free.range q hq
    exact ho _ (by unfold sp; omega) (by unfold sp; omega)
  · have := h.st q q0 q1
    exact ⟨by rw [ho _ (by unfold sp; omega) (by unfold sp; omega)]; exact this.1, this.2⟩

theorem zlc {at_ : Int} {f : Int → T Int} {ws ws' : List Int} {n : Nat} {r : Int} (h0 : 0 ≤ at_) (h1 : at_ < ws.length) (h : Runs (f (rd ws at_)) ws n r ws') : Runs (D.zb7 at_ f) ws (n + 1) r ws' := Runs.load h0 h1 h

theorem zjk {at_ : Int} {f : Int → T Int} {ws ws' : List Int} {n : Nat} {r : Int} (h0 : 0 ≤ at_) (h1 : at_ < ws.length) (h : Runs (f (rd ws at_)) ws n r ws') : Runs (D.zdo at_ f) ws (n + 1) r ws' := Runs.load h0 h1 h

theorem zku {at_ w : Int} {f : Unit → T Int} {ws ws' : List Int} {n : Nat} {r : Int} (h0 : 0 ≤ at_) (h1 : at_ < ws.length) (h : Runs (f ()) (ws.set at_.toNat w) n r ws') : Runs (D.zba at_ w f) ws (n + 1) r ws' := Runs.store h0 h1 h

/-- A node that was out is retired. -/
theorem zkq {p : Plan} (hp : PF p) (hnn : p.nodes ≤ 1000) {t : Int} (ht : 0 ≤ t ∧ t < p.threads) {ws : List Int} {P : Pool} {g n : Int} (h : PoolAt p t ws P g) (hg : g < 900000) (J : Nat) (hJ : 1100 < J) (hn : 0 ≤ n ∧ n < p.nodes) (hnr : n ∉ P.rt) (hnf : n ∉ P.fr) :
    ∃ (m : Nat) (ws' : List Int) (g' : Int), m ≤ 70 * P.rt.length + 12 ∧ g' ≤ g + P.rt.length ∧ Runs (D.zee J p t n) ws m n ws' ∧
      PoolAt p t ws' ((⟨P.fr, P.rt, fun q => if q = n then ⟨(P.st n).gen, 2, (P.st n).kind⟩ else P.st q⟩ : Pool).stash p.retire p.gen n) g' ∧ ws'.length = ws.length ∧
      ∀ j, 0 < j → (∀ q, q ∈ P.fr ∨ q ∈ P.rt → ¬ ofNode p q j) → ¬ (rb p t ≤ j ∧ j < rb p t + 1 + p.retire) → j ≠ sp p n → rd ws' j = rd ws j := by
  obtain ⟨q1, q2, q3⟩ := sp_in hp hn
  obtain ⟨p1, p2, p3⟩ := rb_in hp ht
  obtain ⟨z1, z2, z3, z4⟩ := hz_in hp
  have hl := h.free.len
  have hst := (h.st n hn.1 hn.2)
  have hsp : D.za9 p ≤ sp p n := by unfold sp; omega
  have hS : SF ⟨(P.st n).gen, 2, (P.st n).kind⟩ := ⟨hst.2.g0, hst.2.g1, by show (0 : Int) ≤ 2; omega, by show (2 : Int) ≤ 3; omega, hst.2.k0, hst.2.k1⟩
  generalize hu : ws.set (sp p n).toNat (D.zao ⟨(P.st n).gen, 2, (P.st n).kind⟩) = u
  have hul : u.length = ws.length := by rw [← hu, List.length_set]
  have hur : ∀ j, 0 ≤ j → rd u j = if j = sp p n then D.zao ⟨(P.st n).gen, 2, (P.st n).kind⟩ else rd ws j := fun j hj => by rw [← hu]; exact zbw (by omega) (by omega) hj
  have hPu : PoolAt p t u ⟨P.fr, P.rt, fun q => if q = n then ⟨(P.st n).gen, 2, (P.st n).kind⟩ else P.st q⟩ g := by
    refine h.keep hp ht hul (by rw [hur 0 (by omega), if_neg (by omega)]) (fun j j0 j1 => by rw [hur j (by omega), if_neg (by omega)]) (fun q f hq f0 f1 => ?_) (fun j j0 j1 => by rw [hur _ (by omega), if_neg (by omega)]) (fun q n0 n1 => ?_)
    · have hr := h.free.range q hq
      have hne : q ≠ n := fun e => hnf (e ▸ hq)
      rw [hur _ (by unfold sp; omega), if_neg (by unfold sp; omega)]
    · by_cases e : q = n
      · subst e
        show StAt p u q (if q = q then _ else _)
        rw [if_pos rfl]
        exact ⟨by rw [hur _ (by omega), if_pos rfl], hS⟩
      · show StAt p u q (if q = n then _ else _)
        rw [if_neg e]
        have := h.st q n0 n1
        exact ⟨by rw [hur _ (by unfold sp; omega), if_neg (by unfold sp; omega)]; exact this.1, this.2⟩
  obtain ⟨m, ws', g', hm', hg', hr, hP, hk⟩ := hPu.stash hp hnn ht hn hnr hnf hg J hJ
  refine ⟨m + 2, ws', g', by simp only at hm'; omega, hg', ?_, hP, by rw [hk.1, hul], fun j j0 h1 h2 h3 => ?_⟩
  · unfold D.zee
    rw [q3]
    refine zlc (n := m + 1) (by omega) (by omega) ?_
    unfold D.zf8
    rw [q3, hst.of]
    refine zku (by omega) (by omega) ?_
    unfold D.zer
    have hu' : ws.set (sp p n).toNat (D.zao (D.zbd (P.st n))) = u := hu
    rw [hu']
    exact hr
  · rw [hk.2 j j0 h1 h2, hur j (by omega), if_neg h3]

/-- The queue of domain 0: i of n values are taken. -/
structure QAt (p : Plan) (t : Int) (ws : List Int) (P : Pool) (g : Int) (i n : Nat) (l : List Int) : Prop where
  pool : PoolAt p t ws P g
  le : i ≤ n
  nn : (n : Int) < p.nodes
  out : ∀ q : Int, (i : Int) ≤ q → q ≤ n → q ∉ P.fr ∧ q ∉ P.rt
  hd : rd ws 2 = (i : Int) + 1
  tl : rd ws 3 = (n : Int) + 1
  nxt : ∀ q : Int, (i : Int) ≤ q → q < n → rd ws (fp p q 2) = q + 2
  last : rd ws (fp p n 2) = 0
  val : ∀ q : Nat, i ≤ q → q < n → rd ws (fp p ((q : Int) + 1) 1) = l.getD q 0

theorem qword {a : Int} (h0 : -1 ≤ a) (h1 : a ≤ 1000000) : D.zbv a = a + 1 := by
  unfold D.zbv
  rw [zaS (by omega) (by omega), zbS (by omega) (by omega)]

theorem qnode {a : Int} (h0 : 0 ≤ a) (h1 : a ≤ 1000000) : D.zaA a = a - 1 := by
  unfold D.zaA
  rw [zaS (x := a) (by omega) (by omega), zaS (by omega) (by omega)]

section
variable {p : Plan} (hp : PF p) (hdm : 0 < p.domains) (hnn : p.nodes ≤ 40) (hrr : p.retire ≤ 40) {t : Int} (ht : 0 ≤ t ∧ t < p.threads) {ws : List Int} {P : Pool} {g : Int} {i n : Nat} {l : List Int} (h : QAt p t ws P g i n l)
include hp hdm hnn hrr ht h
theorem QAt.front (J : Nat) {m : Nat} {r : Res} {ws' : List Int} {nx : Int} (hnx : rd ws (fp p i 2) = nx) (hn0 : 0 ≤ nx ∧ nx ≤ 1000)
    (hr : Runs (D.zbl (J + 1) (D.zbF (J + 1) J) ⟨⟨p, 0, t⟩, 2, 3⟩ ((i : Int) + 1) ((n : Int) + 1) nx) ((ws.set (D.zab p + t * 3 + 0).toNat ((i : Int) + 1)).set (D.zab p + t * 3 + 1).toNat nx) m r ws') :
    Runs (D.zby (J + 1) ⟨p, 0, t⟩ 0) ws (m + 7) r ws' := by
  obtain ⟨z1, z2, z3, z4⟩ := hz_in hp
  have h4 := haz4 hp hdm
  have hl := h.pool.free.len
  have hl0 := hl
  unfold Len at hl
  have hle := h.le
  have hnn' := h.nn
  have hin : 0 ≤ (i : Int) ∧ (i : Int) < p.nodes := by omega
  obtain ⟨q1, q2, q3⟩ := sp_in hp hin
  have hsp : sp p i = D.za9 p + i * 5 := rfl
  have hfp : fp p i 2 = sp p i + 2 + 2 := rfl
  unfold D.zby D.zbG
  rw [zjP hp hdm (by omega), zjP hp hdm (by omega)]
  show Runs (D.zcc (J + 1) (D.zbF (J + 1) J) ⟨⟨p, 0, t⟩, 2, 3⟩) ws _ _ _
  unfold D.zcc
  have hg1 := (zj4 hp hl0 (t := t) (s := 0) (at_ := 2) (sh := 0) (w := (i : Int) + 1) ht (by omega) (by omega) (by omega) (by omega) (by omega) (by omega) (by omega) h.hd J).2 (by rw [show ((i : Int) + 1) / 2 ^ (0 : Int).toNat = (i : Int) + 1 from by simp]; omega)
  have e0 : ((i : Int) + 1) / 2 ^ (0 : Int).toNat = (i : Int) + 1 := by simp
  rw [e0] at hg1
  have hG : Runs (D.zcZ (J + 1) p t 0 2 0) ws 3 ((i : Int) + 1) (ws.set (D.zab p + t * 3 + 0).toNat ((i : Int) + 1)) := by
    unfold D.zcZ
    refine zjk (by omega) (by omega) ?_
    unfold D.zea
    rw [h.hd]
    exact hg1
  refine (Runs.bind (g := fun x => D.zcT (J + 1) (D.zbF (J + 1) J) ⟨⟨p, 0, t⟩, 2, 3⟩ x) hG (m := m + 4) ?_).cast (by omega)
  generalize hu1 : ws.set (D.zab p + t * 3 + 0).toNat ((i : Int) + 1) = u1 at hr ⊢
  have hl1 : u1.length = ws.length := by rw [← hu1, List.length_set]
  have hr1 : ∀ j, 0 ≤ j → j ≠ D.zab p + t * 3 + 0 → rd u1 j = rd ws j := fun j hj hne => by rw [← hu1, zbw (by omega) (by omega) hj, if_neg hne]
  unfold D.zcT
  refine zeD (n := m + 3) (by simp only; omega) (by simp only; omega) ?_
  simp only
  rw [hr1 3 (by omega) (by omega), h.tl]
  unfold D.zdh
  rw [qnode (by omega) (by omega)]
  rw [show (i : Int) + 1 - 1 = i from by omega, fl_at hp hin (by omega)]
  refine zeD (n := m + 2) (by omega) (by omega) ?_
  rw [show D.za9 p + (i : Int) * 5 + 2 + 2 = fp p i 2 from rfl, hr1 (fp p i 2) (by omega) (by omega), hnx]
  unfold D.zcO D.zbB
  rw [qnode hn0.1 (by omega)]
  have hs2 := zga hp (ws := u1) (by unfold Len; omega) ht (s := 1) (n := nx - 1) (by omega) (by omega)
  rw [show nx - 1 + 1 = nx from by omega] at hs2
  refine (Runs.bind (g := fun _ => D.zbu (fun _ => D.zbY (J + 1) (D.zbF (J + 1) J) ⟨⟨p, 0, t⟩, 2, 3⟩ ((i : Int) + 1) ((n : Int) + 1) nx)) hs2 (m := m + 1) ?_).cast (by omega)
  unfold D.zbu D.zbY
  refine zeD (by simp only; omega) (by simp only [List.length_set]; omega) ?_
  simp only
  rw [zbw (by omega) (by omega) (by omega), if_neg (by omega), hr1 2 (by omega) (by omega), h.hd]
  unfold D.zbn
  rw [show ((i : Int) + 1 != (i : Int) + 1) = false from by simp]
  exact hr
omit h in

/-- Both hazards are cleared. -/
theorem zli {k : Unit → T Res} {u : List Int} (hu : (u.length : Int) = D.zaD p) {m : Nat} {r : Res} {ws' : List Int}
    (hr : Runs (k ()) ((u.set (D.zab p + t * 3 + 1).toNat 0).set (D.zab p + t * 3 + 0).toNat 0) m r ws') : Runs (D.zbO ⟨⟨p, 0, t⟩, 2, 3⟩ k) u (m + 2) r ws' := by
  have h1 := zga hp (ws := u) hu ht (s := 1) (n := -1) (by omega) (by omega)
  have h2 := zga hp (ws := u.set (D.zab p + t * 3 + 1).toNat 0) (by unfold Len; rw [List.length_set]; exact hu) ht (s := 0) (n := -1) (by omega) (by omega)
  unfold D.zbO
  unfold D.zbB
  refine (Runs.bind (g := fun _ => D.zbu (fun _ => D.zcF ⟨⟨p, 0, t⟩, 2, 3⟩ k)) h1 (m := m + 1) ?_).cast (by omega)
  unfold D.zbu D.zcF D.zbB
  refine (Runs.bind (g := fun _ => D.zbu k) h2 (m := m) ?_).cast (by omega)
  exact hr

theorem QAt.empty (J : Nat) (he : i = n) : ∃ ws', Runs (D.zby (J + 1) ⟨p, 0, t⟩ 0) ws 9 ⟨6, 0⟩ ws' := by
  subst he
  have hl := h.pool.free.len
  unfold Len at hl
  refine ⟨(((ws.set (D.zab p + t * 3 + 0).toNat ((i : Int) + 1)).set (D.zab p + t * 3 + 1).toNat 0).set (D.zab p + t * 3 + 1).toNat 0).set (D.zab p + t * 3 + 0).toNat 0, h.front hp hdm hnn hrr ht J (nx := 0) h.last (by omega) (m := 2) ?_⟩
  unfold D.zbl
  rw [show ((0 : Int) == 0) = true from rfl]
  refine zli hp hdm hnn hrr ht (by simp only [List.length_set]; exact hl) ?_
  unfold D.zcx D.zdD
  exact .done _ _

theorem QAt.deq (J : Nat) (hJ : 1100 < J) (hg : g < 900000) (hi : i < n) : ∃ (m : Nat) (ws' : List Int) (P' : Pool) (g' : Int), m ≤ 3000 ∧ g' ≤ g + 40 ∧ Runs (D.zby (J + 1) ⟨p, 0, t⟩ 0) ws m ⟨0, l.getD i 0⟩ ws' ∧ QAt p t ws' P' g' (i + 1) n l := by
  obtain ⟨z1, z2, z3, z4⟩ := hz_in hp
  obtain ⟨p1, p2, p3⟩ := rb_in hp ht
  have h4 := haz4 hp hdm
  have hl := h.pool.free.len
  unfold Len at hl
  have hnn' := h.nn
  have hrm := h.pool.ret.room
  have hin : 0 ≤ (i : Int) ∧ (i : Int) < p.nodes := by omega
  have hin1 : 0 ≤ (i : Int) + 1 ∧ (i : Int) + 1 < p.nodes := by omega
  obtain ⟨q1, q2, q3⟩ := sp_in hp hin
  obtain ⟨y1, y2, y3⟩ := sp_in hp hin1
  have hfp : ∀ q f, fp p q f = D.za9 p + q * 5 + 2 + f := fun q f => rfl
  have hsp : ∀ q, sp p q = D.za9 p + q * 5 := fun q => rfl
  rw [hsp] at q1 q2 y1 y2
  have hs0 : rd ws (D.zab p + t * 3 + 0) = 0 := by have := h.pool.hz (t * 3 + 0) (by omega) (by omega); rw [← Int.add_assoc] at this; exact this
  have hs1 : rd ws (D.zab p + t * 3 + 1) = 0 := by have := h.pool.hz (t * 3 + 1) (by omega) (by omega); rw [← Int.add_assoc] at this; exact this
  obtain ⟨o1, o2⟩ := h.out i (by omega) (by omega)
  generalize hu : (ws.set (D.zab p + t * 3 + 0).toNat ((i : Int) + 1)).set (D.zab p + t * 3 + 1).toNat ((i : Int) + 2) = u
  have hul : u.length = ws.length := by rw [← hu]; simp
  have hur : ∀ j, 0 ≤ j → j ≠ D.zab p + t * 3 + 0 → j ≠ D.zab p + t * 3 + 1 → rd u j = rd ws j := fun j hj h1 h2 => by
    rw [← hu, zbw (by omega) (by rw [List.length_set]; omega) hj, if_neg h2, zbw (by omega) (by omega) hj, if_neg h1]
  generalize hv : ((u.set (2 : Int).toNat ((i : Int) + 2)).set (D.zab p + t * 3 + 1).toNat 0).set (D.zab p + t * 3 + 0).toNat 0 = v
  have hvl : v.length = ws.length := by rw [← hv]; simp [hul]
  have hvr : ∀ j, 0 ≤ j → rd v j = if j = 2 then (i : Int) + 2 else rd ws j := fun j hj => by
    rw [← hv, zbw (by omega) (by simp only [List.length_set]; omega) hj, zbw (by omega) (by simp only [List.length_set]; omega) hj, zbw (by omega) (by omega) hj]
    by_cases e0 : j = D.zab p + t * 3 + 0
    · rw [if_pos e0, if_neg (by omega), e0, hs0]
    · rw [if_neg e0]
      by_cases e1 : j = D.zab p + t * 3 + 1
      · rw [if_pos e1, if_neg (by omega), e1, hs1]
      · rw [if_neg e1]
        split
        · rfl
        · exact hur j hj e0 e1
  have hPv : PoolAt p t v P g := h.pool.putc hp ht (a := 2) (by omega) hvl fun j hj hne => by rw [hvr j hj, if_neg hne]
  obtain ⟨m, ws', g', hm, hg', hr, hP, hl', hk⟩ := zkq hp (by omega) ht hPv hg (J + 1) (by omega) hin o2 o1
  have hkk : ∀ j, 0 < j → ((j < D.zab p) ∨ ∃ q f : Int, ((i : Int) < q ∧ q ≤ n) ∧ (0 ≤ f ∧ f < 3) ∧ j = fp p q f) → rd ws' j = rd v j := fun j j0 hj => by
    refine hk j j0 (fun q hq ho => ?_) (fun hb => ?_) (fun he => ?_)
    · have hr : 0 ≤ q ∧ q < p.nodes := by
        rcases hq with hq | hq
        · exact h.pool.free.range q hq
        · have := h.pool.ret.range q hq; omega
      unfold ofNode at ho
      rcases hj with hj | ⟨q', f, hq', hf, rfl⟩
      · omega
      · rw [hfp] at ho
        have : q = q' := by omega
        subst this
        obtain ⟨b1, b2⟩ := h.out q (by omega) (by omega)
        exact hq.elim b1 b2
    · rcases hj with hj | ⟨q', f, hq', hf, rfl⟩
      · omega
      · rw [hfp] at hb; omega
    · rw [hsp] at he
      rcases hj with hj | ⟨q', f, hq', hf, rfl⟩
      · omega
      · rw [hfp] at he; omega
  refine ⟨(m + 2 + 1 + 1) + 7, ws', _, g', by omega, by omega, h.front hp hdm hnn hrr ht J (nx := (i : Int) + 2) (h.nxt i (by omega) (by omega)) (by omega) ?_, hP, by omega, hnn', fun q q0 q1 => ?_, ?_, ?_, fun q q0 q1 => ?_, ?_, fun q q0 q1 => ?_⟩
  · rw [hu]
    unfold D.zbl
    rw [show ((i : Int) + 2 == 0) = false from by simp; omega, show ((i : Int) + 1 == (n : Int) + 1) = false from by simp; omega]
    simp only [cond_false]
    rw [qnode (by omega) (by omega), show (i : Int) + 2 - 1 = (i : Int) + 1 from by omega, fl_at hp hin1 (by omega)]
    refine zeD (n := m + 2 + 1) (by omega) (by omega) ?_
    rw [show D.za9 p + ((i : Int) + 1) * 5 + 2 + 1 = fp p ((i : Int) + 1) 1 from rfl, hur _ (by rw [hfp]; omega) (by rw [hfp]; omega) (by rw [hfp]; omega), h.val i (by omega) (by omega)]
    unfold D.zcB
    refine zi0 (n := m + 2) (by simp only; omega) (by simp only; omega) ?_
    simp only
    rw [hur 2 (by omega) (by omega) (by omega), h.hd, if_pos rfl, show ((i : Int) + 1 == (i : Int) + 1) = true from by simp]
    unfold D.zbV
    simp only [Bool.not_true, cond_false]
    refine zli hp hdm hnn hrr ht (by simp only [List.length_set]; omega) ?_
    rw [hv]
    unfold D.zc5
    simp only
    rw [qnode (by omega) (by omega), show (i : Int) + 1 - 1 = i from by omega]
    refine (Runs.bind (g := fun x => D.zcl (l.getD i 0) x) hr (m := 0) ?_).cast (by omega)
    exact .done _ _
  · obtain ⟨b1, b2⟩ := h.out q (by omega) (by omega)
    unfold Pool.stash
    have hne : q ≠ (i : Int) := by omega
    split
    · exact ⟨b1, fun hq => by
        rcases List.mem_append.1 hq with hq | hq
        · exact b2 hq
        · exact hne (List.mem_singleton.1 hq)⟩
    · refine ⟨fun hq => ?_, fun hq => ?_⟩
      · rcases zjD (P := ⟨P.fr, P.rt, fun q => if q = (i : Int) then ⟨(P.st i).gen, 2, (P.st i).kind⟩ else P.st q⟩) h.pool.nod hq with hq | hq
        · exact b2 hq
        · exact b1 hq
      · rcases List.mem_append.1 hq with hq | hq
        · rw [zlW] at hq; cases hq
        · exact hne (List.mem_singleton.1 hq)
  · rw [hkk 2 (by omega) (.inl (by omega)), hvr 2 (by omega), if_pos rfl]; simp only [Int.natCast_add]; omega
  · rw [hkk 3 (by omega) (.inl (by omega)), hvr 3 (by omega), if_neg (by omega)]; exact h.tl
  · rw [hkk _ (by rw [hfp]; omega) (.inr ⟨q, 2, by omega, by omega, rfl⟩), hvr _ (by rw [hfp]; omega), if_neg (by rw [hfp]; omega)]; exact h.nxt q (by omega) q1
  · rw [hkk _ (by rw [hfp]; omega) (.inr ⟨n, 2, by omega, by omega, rfl⟩), hvr _ (by rw [hfp]; omega), if_neg (by rw [hfp]; omega)]; exact h.last
  · rw [hkk _ (by rw [hfp]; omega) (.inr ⟨(q : Int) + 1, 1, by omega, by omega, rfl⟩), hvr _ (by rw [hfp]; omega), if_neg (by rw [hfp]; omega)]; exact h.val q (by omega) q1

end
end Go.Proofs.YtjkinpbfmihhdaaGreat

/- A queue, alone: putting, and what is made at first. -/
set_option linter.unusedVariables false
set_option linter.unusedSectionVars false
namespace Go.Proofs.YtjkinpbfmihhdaaGreat
open Go.RowKit

/-- Words ahead of the hazards, and fields of nodes that aren't free, are changed. -/
theorem PoolAt.beside {p : Plan} (hp : PF p) {t : Int} (ht : 0 ≤ t ∧ t < p.threads) {ws ws' : List Int} {P : Pool} {g : Int} (h : PoolAt p t ws P g) (A : Int → Prop)
    (hA : ∀ j, A j → (0 < j ∧ j < D.zab p) ∨ ∃ n f : Int, (0 ≤ n ∧ n < p.nodes) ∧ n ∉ P.fr ∧ (0 ≤ f ∧ f < 3) ∧ j = fp p n f) (hl : ws'.length = ws.length) (ho : ∀ j, 0 ≤ j → ¬ A j → rd ws' j = rd ws j) : PoolAt p t ws' P g := by
  obtain ⟨z1, z2, z3, z4⟩ := hz_in hp
  obtain ⟨p1, p2, p3⟩ := rb_in hp ht
  have hfp : ∀ q f, fp p q f = D.za9 p + q * 5 + 2 + f := fun q f => rfl
  refine h.keep hp ht (st := P.st) hl (ho 0 (by omega) fun ha => ?_) (fun j j0 j1 => ho j (by omega) fun ha => ?_) (fun q e hq e0 e1 => ?_) (fun j j0 j1 => ho _ (by omega) fun ha => ?_) (fun q q0 q1 => ?_)
  · rcases hA _ ha with ha | ⟨n, f, hn, _, hf, he⟩
    · omega
    · rw [hfp] at he; omega
  · rcases hA _ ha with ha | ⟨n, f, hn, _, hf, he⟩
    · omega
    · rw [hfp] at he; omega
  · have hr := h.free.range q hq
    refine ho _ (by unfold sp; omega) fun ha => ?_
    rcases hA _ ha with ha | ⟨n, f, hn, hnf, hf, he⟩
    · unfold sp at ha; omega
    · rw [hfp] at he
      unfold sp at he
      have : n = q := by omega
      exact hnf (this ▸ hq)
  · rcases hA _ ha with ha | ⟨n, f, hn, _, hf, he⟩
    · omega
    · rw [hfp] at he; omega
  · have := h.st q q0 q1
    have hne : ¬ A (sp p q) := fun ha => by
      rcases hA _ ha with ha | ⟨n, f, hn, _, hf, he⟩
      · unfold sp at ha; omega
      · rw [hfp] at he
        unfold sp at he; omega
    exact ⟨by rw [ho _ (by unfold sp; omega) hne]; exact this.1, this.2⟩

theorem at_q {p : Plan} (hp : PF p) (hdm : 0 < p.domains) (t : Int) : D.zbG ⟨p, 0, t⟩ 0 = ⟨⟨p, 0, t⟩, 2, 3⟩ := by
  unfold D.zbG
  rw [zjP hp hdm (by omega), zjP hp hdm (by omega)]
  rfl

section
variable {p : Plan} (hp : PF p) (hdm : 0 < p.domains) (hnn : p.nodes ≤ 40) (hrr : p.retire ≤ 40) {t : Int} (ht : 0 ≤ t ∧ t < p.threads)
include hp hdm hnn hrr ht
theorem QAt.full {ws : List Int} {st : Int → State} {g : Int} {n : Nat} {l : List Int} (h : QAt p t ws ⟨[], [], st⟩ g 0 n l) (J : Nat) (hJ : 1100 < J) (hg : g < 900000) (v : Int) :
    ∃ (m : Nat) (ws' : List Int) (g' : Int), m ≤ 50 ∧ g' ≤ g + 1 ∧ Runs (D.zbH (J + 1) ⟨p, 0, t⟩ 0 v) ws m ⟨4, 0⟩ ws' ∧ QAt p t ws' ⟨[], [], st⟩ g' 0 n l := by
  obtain ⟨z1, z2, z3, z4⟩ := hz_in hp
  obtain ⟨p1, p2, p3⟩ := rb_in hp ht
  have h4 := haz4 hp hdm
  have hnn' := h.nn
  obtain ⟨m, ws', g', hm, hg', hr, hP, hk⟩ := h.pool.grant hp (by omega) ht (k := 1) (by omega) hg (J + 1) (by omega)
  have hgr : ((⟨[], [], st⟩ : Pool).grant p.gen 1) = (⟨[], [], st⟩, ⟨-1, 0, 4⟩) := rfl
  rw [hgr] at hr hP
  have hkk : ∀ j, 0 < j → (j < D.zab p ∨ D.za9 p ≤ j) → rd ws' j = rd ws j := fun j j0 hj => hk.2 j j0 (fun q hq => by rcases hq with hq | hq <;> cases hq) (by omega)
  have hfp : ∀ q f, fp p q f = D.za9 p + q * 5 + 2 + f := fun q f => rfl
  simp only [List.length_nil] at hm hg'
  refine ⟨m + 0, ws', g', by omega, by omega, ?_, hP, h.le, h.nn, fun q _ _ => ⟨List.not_mem_nil, List.not_mem_nil⟩, (hkk 2 (by omega) (by omega)).trans h.hd, (hkk 3 (by omega) (by omega)).trans h.tl, fun q q0 q1 => (hkk _ (by rw [hfp]; omega) (by rw [hfp]; omega)).trans (h.nxt q q0 q1), (hkk _ (by rw [hfp]; omega) (by rw [hfp]; omega)).trans h.last, fun q q0 q1 => (hkk _ (by rw [hfp]; omega) (by rw [hfp]; omega)).trans (h.val q q0 q1)⟩
  unfold D.zbH
  rw [at_q hp hdm]
  unfold D.zbM
  refine Runs.bind (g := fun x => D.zb2 (fun x => D.zeP (J + 1) ⟨⟨p, 0, t⟩, 2, 3⟩ v x) x) hr ?_
  unfold D.zb2
  exact .done _ _

theorem QAt.enq {ws : List Int} {rest rt : List Int} {st : Int → State} {g : Int} {n : Nat} {l : List Int} (h : QAt p t ws ⟨((n : Int) + 1) :: rest, rt, st⟩ g 0 n l) (J : Nat) (hJ : 1100 < J) (hg : g < 900000) :
    ∃ (m : Nat) (ws' : List Int) (st' : Int → State), m ≤ 50 ∧ Runs (D.zbH (J + 1) ⟨p, 0, t⟩ 0 (l.getD n 0)) ws m ⟨0, 0⟩ ws' ∧ QAt p t ws' ⟨rest, rt, st'⟩ (g + 1) 0 (n + 1) l := by
  obtain ⟨z1, z2, z3, z4⟩ := hz_in hp
  obtain ⟨p1, p2, p3⟩ := rb_in hp ht
  have h4 := haz4 hp hdm
  have hl := h.pool.free.len
  unfold Len at hl
  have hnn' := h.nn
  have hin1 := h.pool.free.range ((n : Int) + 1) (List.mem_cons_self ..)
  have hin : 0 ≤ (n : Int) ∧ (n : Int) < p.nodes := by omega
  have hfp : ∀ q f, fp p q f = D.za9 p + q * 5 + 2 + f := fun q f => rfl
  obtain ⟨w1, hr1, hl1, hF1, hst1, ho1⟩ := zjI hp (t := t) (k := 1) h.pool.free (by omega) (by omega) (h.pool.st _ hin1.1 hin1.2) (by omega) J
  have hP1 := h.pool.took hp ht (k := 1) (by omega) hl1 hF1 hst1 ho1
  have hs0 : rd w1 (D.zab p + t * 3 + 0) = 0 := by have := hP1.hz (t * 3 + 0) (by omega) (by omega); rw [← Int.add_assoc] at this; exact this
  have hw1 : ∀ j, 0 < j → (j < D.zab p ∨ ∃ q f : Int, (0 ≤ q ∧ q < p.nodes) ∧ (0 ≤ f ∧ f < 3) ∧ j = fp p q f) → rd w1 j = rd ws j := fun j j0 hj => ho1 j j0 (by
    unfold sp
    rcases hj with hj | ⟨q, f, hq, hf, rfl⟩
    · omega
    · rw [hfp]; omega)
  generalize hv : l.getD n 0 = v
  generalize hu2 : w1.set (fp p ((n : Int) + 1) 1).toNat v = u2
  have hul2 : u2.length = ws.length := by rw [← hu2, List.length_set, hl1]
  have hur2 : ∀ j, 0 ≤ j → rd u2 j = if j = fp p ((n : Int) + 1) 1 then v else rd w1 j := fun j hj => by rw [← hu2, zbw (by rw [hfp]; omega) (by rw [hfp]; omega) hj]
  generalize hu3 : u2.set (D.zab p + t * 3 + 0).toNat ((n : Int) + 1) = u3
  have hul3 : u3.length = ws.length := by rw [← hu3, List.length_set, hul2]
  have hur3 : ∀ j, 0 ≤ j → rd u3 j = if j = D.zab p + t * 3 + 0 then (n : Int) + 1 else rd u2 j := fun j hj => by rw [← hu3, zbw (by omega) (by omega) hj]
  generalize hu4 : u3.set (fp p n 2).toNat ((n : Int) + 2) = u4
  have hul4 : u4.length = ws.length := by rw [← hu4, List.length_set, hul3]
  have hur4 : ∀ j, 0 ≤ j → rd u4 j = if j = fp p n 2 then (n : Int) + 2 else rd u3 j := fun j hj => by rw [← hu4, zbw (by rw [hfp]; omega) (by rw [hfp]; omega) hj]
  generalize hu5 : u4.set (3 : Int).toNat ((n : Int) + 2) = u5
  have hul5 : u5.length = ws.length := by rw [← hu5, List.length_set, hul4]
  have hur5 : ∀ j, 0 ≤ j → rd u5 j = if j = 3 then (n : Int) + 2 else rd u4 j := fun j hj => by rw [← hu5, zbw (by omega) (by omega) hj]
  generalize hu6 : u5.set (D.zab p + t * 3 + 0).toNat 0 = u6
  have hul6 : u6.length = ws.length := by rw [← hu6, List.length_set, hul5]
  have hur6 : ∀ j, 0 ≤ j → rd u6 j = if j = 3 then (n : Int) + 2 else if j = fp p n 2 then (n : Int) + 2 else if j = fp p ((n : Int) + 1) 1 then v else rd w1 j := fun j hj => by
    rw [← hu6, zbw (by omega) (by omega) hj]
    by_cases e : j = D.zab p + t * 3 + 0
    · rw [if_pos e, if_neg (by omega), if_neg (by rw [hfp]; omega), if_neg (by rw [hfp]; omega), e, hs0]
    · rw [if_neg e, hur5 j hj, hur4 j hj, hur3 j hj, if_neg e, hur2 j hj]
  have hnod := (List.nodup_cons.1 h.pool.free.nodup)
  obtain ⟨o1, o2⟩ := h.out n (by omega) (by omega)
  have hP6 : PoolAt p t u6 ⟨rest, rt, fun q => if q = (n : Int) + 1 then D.zaU (st ((n : Int) + 1)) 1 else st q⟩ (g + 1) := by
    refine hP1.beside hp ht (fun j => j = 3 ∨ j = fp p n 2 ∨ j = fp p ((n : Int) + 1) 1) (fun j hj => ?_) (by omega) (fun j hj hne => ?_)
    · rcases hj with rfl | rfl | rfl
      · exact .inl (by omega)
      · exact .inr ⟨n, 2, hin, fun hq => o1 (List.mem_cons_of_mem _ hq), by omega, rfl⟩
      · exact .inr ⟨(n : Int) + 1, 1, hin1, hnod.1, by omega, rfl⟩
    · rw [hur6 j hj, if_neg fun e => hne (.inl e), if_neg fun e => hne (.inr (.inl e)), if_neg fun e => hne (.inr (.inr e))]
  refine ⟨5 + 9, u6, _, by omega, ?_, hP6, by omega, by simp only [Int.natCast_add, Int.natCast_one]; omega, fun q q0 q1 => ?_, ?_, ?_, fun q q0 q1 => ?_, ?_, fun q q0 q1 => ?_⟩
  · unfold D.zbH
    rw [at_q hp hdm]
    unfold D.zbM
    refine Runs.bind (g := fun x => D.zb2 (fun x => D.zeP (J + 1) ⟨⟨p, 0, t⟩, 2, 3⟩ v x) x) hr1 ?_
    unfold D.zb2
    rw [show ((0 : Int) != 0) = false from rfl]
    simp only [cond_false]
    unfold D.zeP
    simp only
    rw [fl_at hp hin1 (by omega)]
    refine zgZ (n := 8) (by omega) (by omega) ?_
    rw [show D.za9 p + ((n : Int) + 1) * 5 + 2 + 1 = fp p ((n : Int) + 1) 1 from rfl, hu2]
    unfold D.zfJ
    show Runs (D.zcn (J + 1) (D.zcr (J + 1) J) ⟨⟨p, 0, t⟩, 2, 3⟩ ((n : Int) + 1)) u2 _ _ _
    unfold D.zcn
    have htl2 : rd u2 3 = (n : Int) + 1 := by rw [hur2 3 (by omega), if_neg (by rw [hfp]; omega), hw1 3 (by omega) (.inl (by omega))]; exact h.tl
    have hl2' : Len p u2 := by unfold Len; omega
    have hg1 := (zj4 hp hl2' (t := t) (s := 0) (at_ := 3) (sh := 0) (w := (n : Int) + 1) ht (by omega) (by omega) (by omega) (by omega) (by omega) (by omega) (by omega) htl2 J).2 (by rw [show ((n : Int) + 1) / 2 ^ (0 : Int).toNat = (n : Int) + 1 from by simp]; omega)
    rw [show ((n : Int) + 1) / 2 ^ (0 : Int).toNat = (n : Int) + 1 from by simp, hu3] at hg1
    have hG : Runs (D.zcZ (J + 1) p t 0 3 0) u2 3 ((n : Int) + 1) u3 := by
      unfold D.zcZ
      refine zjk (by omega) (by omega) ?_
      unfold D.zea
      rw [htl2]
      exact hg1
    refine (Runs.bind (g := fun x => D.zdb (J + 1) (D.zcr (J + 1) J) ⟨⟨p, 0, t⟩, 2, 3⟩ ((n : Int) + 1) x) hG (m := 5) ?_).cast (by omega)
    unfold D.zdb
    rw [qnode (by omega) (by omega), show (n : Int) + 1 - 1 = n from by omega]
    simp only
    rw [fl_at hp hin (by omega)]
    refine zeD (n := 4) (by omega) (by omega) ?_
    rw [show D.za9 p + (n : Int) * 5 + 2 + 2 = fp p n 2 from rfl, hur3 _ (by rw [hfp]; omega), if_neg (by rw [hfp]; omega), hur2 _ (by rw [hfp]; omega), if_neg (by rw [hfp, hfp]; omega), hw1 _ (by rw [hfp]; omega) (.inr ⟨n, 2, hin, by omega, rfl⟩), h.last]
    unfold D.zdv
    refine zeD (n := 3) (by simp only; omega) (by simp only; omega) ?_
    simp only
    rw [hur3 3 (by omega), if_neg (by omega), htl2]
    unfold D.zbx
    rw [show ((n : Int) + 1 != (n : Int) + 1) = false from by simp, show ((0 : Int) != 0) = false from rfl]
    simp only [cond_false]
    rw [qword (by omega) (by omega), show (n : Int) + 1 + 1 = n + 2 from by omega]
    refine zi0 (n := 2) (by rw [hfp]; omega) (by rw [hfp]; omega) ?_
    have e3 : rd u3 (fp p n 2) = 0 := by
      rw [hur3 _ (by rw [hfp]; omega), if_neg (by rw [hfp]; omega), hur2 _ (by rw [hfp]; omega), if_neg (by rw [hfp, hfp]; omega), hw1 _ (by rw [hfp]; omega) (.inr ⟨n, 2, hin, by omega, rfl⟩), h.last]
    rw [e3, if_pos rfl, show ((0 : Int) == 0) = true from rfl, hu4]
    unfold D.zbm
    simp only [Bool.not_true, cond_false]
    rw [qword (by omega) (by omega), show (n : Int) + 1 + 1 = n + 2 from by omega]
    refine zi0 (n := 1) (by omega) (by omega) ?_
    have e4 : rd u4 3 = (n : Int) + 1 := by rw [hur4 3 (by omega), if_neg (by rw [hfp]; omega), hur3 3 (by omega), if_neg (by omega), htl2]
    rw [e4, if_pos rfl, show ((n : Int) + 1 == (n : Int) + 1) = true from by simp, hu5]
    unfold D.zbP D.zbB
    have hs6 := zga hp (ws := u5) (by unfold Len; omega) ht (s := 0) (n := -1) (by omega) (by omega)
    rw [show (-1 : Int) + 1 = 0 from rfl, hu6] at hs6
    refine (Runs.bind (g := fun _ => D.zbu (fun _ => D.zc9)) hs6 (m := 0) ?_).cast (by omega)
    exact .done _ _
  · by_cases e : q = (n : Int) + 1
    · subst e
      exact ⟨hnod.1, fun hq => h.pool.dis _ hq (List.mem_cons_self ..)⟩
    · obtain ⟨b1, b2⟩ := h.out q q0 (by simp only [Int.natCast_add, Int.natCast_one] at q1; omega)
      exact ⟨fun hq => b1 (List.mem_cons_of_mem _ hq), b2⟩
  · rw [hur6 2 (by omega), if_neg (by omega), if_neg (by rw [hfp]; omega), if_neg (by rw [hfp]; omega), hw1 2 (by omega) (.inl (by omega))]; exact h.hd
  · rw [hur6 3 (by omega), if_pos rfl]; simp only [Int.natCast_add, Int.natCast_one]; omega
  · simp only [Int.natCast_add, Int.natCast_one] at q1
    rw [hur6 _ (by rw [hfp]; omega), if_neg (by rw [hfp]; omega)]
    by_cases e : q = n
    · rw [e, if_pos rfl]
    · rw [if_neg (by rw [hfp, hfp]; omega), if_neg (by rw [hfp, hfp]; omega), hw1 _ (by rw [hfp]; omega) (.inr ⟨q, 2, by omega, by omega, rfl⟩)]
      exact h.nxt q q0 (by omega)
  · simp only [Int.natCast_add, Int.natCast_one]
    rw [hur6 _ (by rw [hfp]; omega), if_neg (by rw [hfp]; omega), if_neg (by rw [hfp, hfp]; omega), if_neg (by rw [hfp, hfp]; omega), hw1 _ (by rw [hfp]; omega) (.inr ⟨(n : Int) + 1, 2, hin1, by omega, rfl⟩)]
    exact h.pool.zero _ 2 (List.mem_cons_self ..) (by omega) (by omega)
  · rw [hur6 _ (by rw [hfp]; omega), if_neg (by rw [hfp]; omega), if_neg (by rw [hfp, hfp]; omega)]
    by_cases e : q = n
    · rw [e, if_pos rfl, hv]
    · rw [if_neg (by rw [hfp, hfp]; omega), hw1 _ (by rw [hfp]; omega) (.inr ⟨(q : Int) + 1, 1, by omega, by omega, rfl⟩)]
      exact h.val q q0 (by omega)

end
end Go.Proofs.YtjkinpbfmihhdaaGreat

/- Written by a program of ours (wip/gen.py): layer 14 -/
set_option linter.unusedVariables false
set_option maxRecDepth 20000
set_option maxHeartbeats 2000000
namespace Go.Proofs.YtjkinpbfmihhdaaGreat
open Go.RowKit
theorem cl145 : znb Tryz.prog 145 = true := by kernel_rfl

theorem cl55 : znb Tryz.prog 55 = true := by kernel_rfl

theorem cl59 : znb Tryz.prog 59 = true := by kernel_rfl

theorem cl62 : znb Tryz.prog 62 = true := by kernel_rfl

def D.zc7 (fu : Nat) (a0 : Plan) : Option (Mem) := ((D.zco fu a0).bind (fun (x5 : Mem) => ((D.zbR fu x5 0).bind (fun (x13 : Cap) => ((D.zcw fu (fu, (D.zcL (fu + 1) (⟨a0, 0, 0⟩ : Seat) 0)) x5 x13 99).bind (fun (x15 : Res × Int × Bool × Mem) => (Option.bind (bif (!x15.2.2.1) then (some true) else (some (x15.1.e != 0))) (fun (x25 : Bool) => (bif x25 then none else (some x15.2.2.2))))))))))

theorem zeN {fu : Nat} (w0 : World) (a0 : Plan) {res : Mem} (hD : D.zc7 fu a0 = some res) :
    Calls Tryz.prog 55 #[.agg (znc a0).toArray] w0 (fun e w' => ∃ (g0 : MG), e = .returned (.pointer (some ⟨g0.mb, 0, none⟩)) ∧ Done No No [memK g0 res] w0 w') := by
 refine enter Tryz.func55 rfl 30 rfl rfl fun fr r => ?_
 have hP : Post No [] w0 w0 := Post.nil w0
 unfold D.zc7 at hD
 refine wsr ?_
 refine za5 (.cells ((znc a0)).toArray 25 (0, 0)) r (fun R => znm r (v := (.agg (znc a0).toArray)) rfl) rfl fun fr b1 w2 n3 r => ?_
 have hP : Post No [znd b1 ((znc a0)).toArray 25] w0 w2 := hP.new n3
 refine za0 (.pointer none) r (fun R => za8 r rfl) rfl fun fr r => wn (wsr (za0 (.agg (znc a0).toArray) r (fun R => za6 r (cs := (znc a0)) (n := 6) rfl (hP.cell (i := 0) rfl) ta25 rfl) rfl fun fr r => ?_))
 obtain ⟨x5, hx5, hD⟩ := zau hD
 refine za7 r (zh4 w2 a0 hx5) (fun R hc => zac r rfl cl28 hc) rfl ?_
 rintro _ w6 ⟨mg7, rfl, hq⟩
 refine ⟨_, rfl, fun fr r => ?_⟩
 have hP : Post No [znd b1 ((znc a0)).toArray 25, memK mg7 x5] w0 w6 := hP.add hq
 refine za0 (.pointer (some ⟨mg7.mb, 0, none⟩)) r (fun R => za8 r rfl) rfl fun fr r => wn (wp_seq (wsr (za0 (.pointer (some ⟨mg7.mb, 0, none⟩)) r (fun R => zaa r rfl) rfl fun fr r => za0 _ r (fun R => zni r rfl rfl rfl rfl) rfl fun fr r => wn ?_)))
 refine wp_cond_split (t := false) (r.ev rfl) (fun h => absurd ((rfl : false = _).symm.trans h) (by decide)) (fun _ => wp_skip (wsr (za0 (.agg (znc a0).toArray) r (fun R => za6 r (cs := (znc a0)) (n := 6) rfl (hP.cell (i := 0) rfl) ta25 rfl) rfl fun fr r => za0 (.agg (seatC (⟨a0, 0, 0⟩ : Seat)).toArray) r (fun R => zaM r (by kernel_rfl)) rfl fun fr r => ?_)))
 refine za7 r (zjR (F := No) (n := fu) (j := fu + 1) (fun _ h => h.elim) (by omega) (⟨a0, 0, 0⟩ : Seat) 0) (fun R hc => zac r rfl cl145 hc) rfl ?_
 rintro _ w9 ⟨v10, rfl, hb, hr11⟩
 refine ⟨_, rfl, fun fr r => ?_⟩
 have hP : Post No [znd b1 ((znc a0)).toArray 25, memK mg7 x5, progK Tryz.prog zne (fu, (D.zcL (fu + 1) (⟨a0, 0, 0⟩ : Seat) 0)) v10 (rg w6.heap.size w9.heap.size)] w0 w9 := hP.addProg hb hr11
 refine za0 (.pointer (some ⟨mg7.mb, 0, none⟩)) r (fun R => zaa r rfl) rfl fun fr r => za0 (.pointer (some ⟨mg7.mb, 0, none⟩)) r (fun R => zaa r rfl) rfl fun fr r => ?_
 obtain ⟨x13, hx13, hD⟩ := zau hD
 refine za7 r (zcb w9 x5 (hP.mem (i := 1) rfl) 0 hx13) (fun R hc => zac r rfl cl31 hc) rfl ?_
 rintro _ w14 ⟨rfl, hb⟩
 refine ⟨_, rfl, fun fr r => ?_⟩
 have hP : Post No [znd b1 ((znc a0)).toArray 25, memK mg7 x5, progK Tryz.prog zne (fu, (D.zcL (fu + 1) (⟨a0, 0, 0⟩ : Seat) 0)) v10 (rg w6.heap.size w9.heap.size)] w0 w14 := hP.below hb
 obtain ⟨x15, hx15, hD⟩ := zau hD
 refine za7 r (zdj w14 (fu, (D.zcL (fu + 1) (⟨a0, 0, 0⟩ : Seat) 0)) x5 x13 99 (hP.sep.pk [2, 1] rfl rfl) hx15) (fun R hc => zac r rfl cl29 hc) rfl ?_
 rintro _ w16 ⟨rfl, hq⟩
 refine ⟨_, rfl, fun fr r => ?_⟩
 have hP : Post No [znd b1 ((znc a0)).toArray 25, memK mg7 x15.2.2.2, progK Tryz.prog zne (fu, (D.zcL (fu + 1) (⟨a0, 0, 0⟩ : Seat) 0)) v10 (rg w6.heap.size w9.heap.size)] w0 w16 := hP.setN (i := 1) rfl hq
 refine za0 (.tuple #[(.agg (resC x15.1).toArray), (I x15.2.1), (.bool x15.2.2.1)]) r (fun R => zaa r rfl) rfl fun fr r => za0 (.agg (resC x15.1).toArray) r (fun R => zaV r (vs := #[(.agg (resC x15.1).toArray), (I x15.2.1), (.bool x15.2.2.1)]) rfl rfl) rfl fun fr r => za0 (I x15.2.1) r (fun R => zaV r (vs := #[(.agg (resC x15.1).toArray), (I x15.2.1), (.bool x15.2.2.1)]) rfl rfl) rfl fun fr r => za0 (.bool x15.2.2.1) r (fun R => zaV r (vs := #[(.agg (resC x15.1).toArray), (I x15.2.1), (.bool x15.2.2.1)]) rfl rfl) rfl fun fr r => ?_
 refine za5 (.cells ((resC (⟨0, 0⟩ : Res))).toArray 32 (0, 0)) r (fun R => zag tz32) rfl fun fr b17 w18 n19 r => ?_
 have hP : Post No [znd b1 ((znc a0)).toArray 25, memK mg7 x15.2.2.2, progK Tryz.prog zne (fu, (D.zcL (fu + 1) (⟨a0, 0, 0⟩ : Seat) 0)) v10 (rg w6.heap.size w9.heap.size), znd b17 ((resC (⟨0, 0⟩ : Res))).toArray 32] w0 w18 := hP.new n19
 refine zae (.cells ((resC x15.1)).toArray 32 (0, 0)) r (fun R => zaN r (o := 0) (v := (.agg (resC x15.1).toArray)) rfl rfl (hP.cell (i := 3) rfl) ts32 (Nat.le_of_ble_eq_true rfl) rfl rfl) rfl fun fr w21 u22 r => ?_
 have hP : Post No [znd b1 ((znc a0)).toArray 25, memK mg7 x15.2.2.2, progK Tryz.prog zne (fu, (D.zcL (fu + 1) (⟨a0, 0, 0⟩ : Seat) 0)) v10 (rg w6.heap.size w9.heap.size), znd b17 ((resC x15.1)).toArray 32] w0 w21 := hP.upd (i := 3) rfl u22
 refine za0 (I x15.2.1) r (fun R => za8 r rfl) rfl fun fr r => za0 (.bool x15.2.2.1) r (fun R => za8 r rfl) rfl fun fr r => wn (wp_seq (wp_seq ?_))
 have hP : Post No [znd b1 ((znc a0)).toArray 25, memK mg7 x15.2.2.2, znd b17 ((resC x15.1)).toArray 32] w0 w21 := hP.pick [0, 1, 3] rfl rfl
 refine zca (N := 30) (Y := Bool) (G := Unit) (fun x γ => [(0, (.agg (znc a0).toArray)), (1, (.pointer (some ⟨b1, 0, none⟩))), (2, (.pointer none)), (3, (.pointer (some ⟨mg7.mb, 0, none⟩))), (10, (.bool false)), (4, (.pointer (some ⟨b17, 0, none⟩))), (6, (.bool x15.2.2.1)), (28, (.bool x))]) (fun x γ w => Post No [znd b1 ((znc a0)).toArray 25, memK mg7 x15.2.2.2, znd b17 ((resC x15.1)).toArray 32] w0 w) hD ?_ ?_
 ·
  rintro y23 RPy23 nxy23 hD
  refine wp_region_lit (za0 (.bool x15.2.2.1) r (fun R => zaa r rfl) rfl fun fr r => za0 (.bool (!x15.2.2.1)) r (fun R => y_un r (u := (.bool x15.2.2.1)) rfl rfl) rfl fun fr r => za0 (.bool (!x15.2.2.1)) r (fun R => zaa r rfl) rfl fun fr r => ?_)
  refine zaI (!x15.2.2.1) (fun h24 => ?_) (fun h24 => ?_)
  ·
   have hD := (zap h24).symm.trans hD
   refine s0 r h24 fun fr r => s0 r h24 fun fr r => s0 r h24 fun fr r => za0 (.bool true) r (fun R => zaq r (b := true) (congrArg Value.bool h24) rfl) rfl fun fr r => wn ?_
   exact nxy23 true () _ _ _ hD r (za2 rfl (za2 rfl (za2 rfl (za2 rfl (za2 rfl (za2 rfl (za2 rfl (za2 rfl zaT)))))))) (hP.pick [0, 1, 2] rfl rfl)
  ·
   have hD := (zak h24).symm.trans hD
   refine s1 r h24 (za0 _ r (fun R => za4 r (o := 0) rfl zkX) rfl fun fr r => s1 r h24 (za0 (I x15.1.e) r (fun R => za3 r rfl (hP.cell (i := 2) rfl) to30 rfl) rfl fun fr r => s1 r h24 (za0 _ r (fun R => zni r rfl rfl rfl rfl) rfl fun fr r => za0 (.bool (x15.1.e != 0)) r (fun R => zaq r (b := false) (congrArg Value.bool h24) rfl) rfl fun fr r => wn ?_)))
   exact nxy23 (x15.1.e != 0) () _ _ _ hD r (za2 rfl (za2 rfl (za2 rfl (za2 rfl (za2 rfl (za2 rfl (za2 rfl (za2 rfl zaT)))))))) (hP.pick [0, 1, 2] rfl rfl)
 ·
  rintro x25 γ26 fr w27 g r hP hD
  have hP : Post No [znd b1 ((znc a0)).toArray 25, memK mg7 x15.2.2.2, znd b17 ((resC x15.1)).toArray 32] w0 w27 := hP
  refine wp_cond_split (t := x25) (r.ev rfl) (fun h28 => ?_) (fun h28 => ?_)
  ·
   have hD := (zap h28).symm.trans hD
   refine wsr (za0 (.pointer none) r (fun R => za8 r rfl) rfl fun fr r => wn (wp_ret ?_))
   exact nomatch hD
  ·
   have hD := (zak h28).symm.trans hD
   refine wp_skip (wsr (za0 (.pointer (some ⟨mg7.mb, 0, none⟩)) r (fun R => zaa r rfl) rfl fun fr r => za0 (.pointer (some ⟨mg7.mb, 0, none⟩)) r (fun R => za8 r rfl) rfl fun fr r => wn (wp_ret ?_)))
   have hv : x15.2.2.2 = res := Option.some.inj hD
   try dsimp only [Exit.then, Exit.inBlock]
   refine zay (fn := Tryz.f55) r (t := 2) rfl (v := (.pointer (some ⟨mg7.mb, 0, none⟩))) rfl ?_
   subst hv
   exact ⟨mg7, rfl, (hP.pick [1] rfl rfl).done (zbX rfl zch)⟩

def D.zcj (fu : Nat)  : Option (Bool) := ((D.zc7 fu (⟨2, 1, 4, 1, 1, 1⟩ : Plan)).bind (fun (x7 : Mem) => ((D.zbR fu x7 0).bind (fun (x15 : Cap) => ((D.zcw fu (fu, (D.zbH (fu + 1) (⟨(⟨2, 1, 4, 1, 1, 1⟩ : Plan), 0, 0⟩ : Seat) 0 5)) x7 x15 99).bind (fun (x17 : Res × Int × Bool × Mem) => (Option.bind (bif x17.2.2.1 then (bif (x17.1.e == 0) then ((D.zhz fu (⟨2, 1, 4, 1, 1, 1⟩ : Plan) x17.2.2.2 0 0).bind (fun (x28 : List Int) => (some ((x28.length : Int) == 1)))) else (some false)) else (some false)) (fun (x32 : Bool) => (some x32)))))))))

theorem zew {fu : Nat} (w0 : World) {res : Bool} (hD : D.zcj fu  = some res) :
    Calls Tryz.prog 53 #[] w0 (PureRes (.bool res) w0) := by
 refine enter Tryz.func53 rfl 35 rfl rfl fun fr r => ?_
 have hP : Post No [] w0 w0 := Post.nil w0
 unfold D.zcj at hD
 refine wsr (za0 (.bool false) r (fun R => za8 r rfl) rfl fun fr r => wn (wsr (za0 (.agg (znc (⟨2, 1, 4, 1, 1, 1⟩ : Plan)).toArray) r (fun R => zaM r (by kernel_rfl)) rfl fun fr r => ?_)))
 refine za5 (.cells ((znc (⟨0, 0, 0, 0, 0, 0⟩ : Plan))).toArray 25 (0, 0)) r (fun R => zag tz25) rfl fun fr b1 w2 n3 r => ?_
 have hP : Post No [znd b1 ((znc (⟨0, 0, 0, 0, 0, 0⟩ : Plan))).toArray 25] w0 w2 := hP.new n3
 refine zae (.cells ((znc (⟨2, 1, 4, 1, 1, 1⟩ : Plan))).toArray 25 (0, 0)) r (fun R => zaN r (o := 0) (v := (.agg (znc (⟨2, 1, 4, 1, 1, 1⟩ : Plan)).toArray)) rfl rfl (hP.cell (i := 0) rfl) ts25 (Nat.le_of_ble_eq_true rfl) rfl rfl) rfl fun fr w5 u6 r => ?_
 have hP : Post No [znd b1 ((znc (⟨2, 1, 4, 1, 1, 1⟩ : Plan))).toArray 25] w0 w5 := hP.upd (i := 0) rfl u6
 refine wn (wsr (za0 (.agg (znc (⟨2, 1, 4, 1, 1, 1⟩ : Plan)).toArray) r (fun R => za6 r (cs := (znc (⟨2, 1, 4, 1, 1, 1⟩ : Plan))) (n := 6) rfl (hP.cell (i := 0) rfl) ta25 rfl) rfl fun fr r => ?_))
 obtain ⟨x7, hx7, hD⟩ := zau hD
 refine za7 r (zeN w5 (⟨2, 1, 4, 1, 1, 1⟩ : Plan) hx7) (fun R hc => zac r rfl cl55 hc) rfl ?_
 rintro _ w8 ⟨mg9, rfl, hq⟩
 refine ⟨_, rfl, fun fr r => ?_⟩
 have hP : Post No [znd b1 ((znc (⟨2, 1, 4, 1, 1, 1⟩ : Plan))).toArray 25, memK mg9 x7] w0 w8 := hP.add hq
 refine za0 (.pointer (some ⟨mg9.mb, 0, none⟩)) r (fun R => za8 r rfl) rfl fun fr r => wn (wp_seq (wsr (za0 (.pointer (some ⟨mg9.mb, 0, none⟩)) r (fun R => zaa r rfl) rfl fun fr r => za0 _ r (fun R => zni r rfl rfl rfl rfl) rfl fun fr r => wn ?_)))
 refine wp_cond_split (t := false) (r.ev rfl) (fun h => absurd ((rfl : false = _).symm.trans h) (by decide)) (fun _ => wp_skip (wsr (za0 (.agg (znc (⟨2, 1, 4, 1, 1, 1⟩ : Plan)).toArray) r (fun R => za6 r (cs := (znc (⟨2, 1, 4, 1, 1, 1⟩ : Plan))) (n := 6) rfl (hP.cell (i := 0) rfl) ta25 rfl) rfl fun fr r => za0 (.agg (seatC (⟨(⟨2, 1, 4, 1, 1, 1⟩ : Plan), 0, 0⟩ : Seat)).toArray) r (fun R => zaM r (by kernel_rfl)) rfl fun fr r => ?_)))
 refine za7 r (zix (F := No) (n := fu) (j := fu + 1) (fun _ h => h.elim) (by omega) (⟨(⟨2, 1, 4, 1, 1, 1⟩ : Plan), 0, 0⟩ : Seat) 0 5) (fun R hc => zac r rfl cl59 hc) rfl ?_
 rintro _ w11 ⟨v12, rfl, hb, hr13⟩
 refine ⟨_, rfl, fun fr r => ?_⟩
 have hP : Post No [znd b1 ((znc (⟨2, 1, 4, 1, 1, 1⟩ : Plan))).toArray 25, memK mg9 x7, progK Tryz.prog zne (fu, (D.zbH (fu + 1) (⟨(⟨2, 1, 4, 1, 1, 1⟩ : Plan), 0, 0⟩ : Seat) 0 5)) v12 (rg w8.heap.size w11.heap.size)] w0 w11 := hP.addProg hb hr13
 refine za0 (.pointer (some ⟨mg9.mb, 0, none⟩)) r (fun R => zaa r rfl) rfl fun fr r => za0 (.pointer (some ⟨mg9.mb, 0, none⟩)) r (fun R => zaa r rfl) rfl fun fr r => ?_
 obtain ⟨x15, hx15, hD⟩ := zau hD
 refine za7 r (zcb w11 x7 (hP.mem (i := 1) rfl) 0 hx15) (fun R hc => zac r rfl cl31 hc) rfl ?_
 rintro _ w16 ⟨rfl, hb⟩
 refine ⟨_, rfl, fun fr r => ?_⟩
 have hP : Post No [znd b1 ((znc (⟨2, 1, 4, 1, 1, 1⟩ : Plan))).toArray 25, memK mg9 x7, progK Tryz.prog zne (fu, (D.zbH (fu + 1) (⟨(⟨2, 1, 4, 1, 1, 1⟩ : Plan), 0, 0⟩ : Seat) 0 5)) v12 (rg w8.heap.size w11.heap.size)] w0 w16 := hP.below hb
 obtain ⟨x17, hx17, hD⟩ := zau hD
 refine za7 r (zdj w16 (fu, (D.zbH (fu + 1) (⟨(⟨2, 1, 4, 1, 1, 1⟩ : Plan), 0, 0⟩ : Seat) 0 5)) x7 x15 99 (hP.sep.pk [2, 1] rfl rfl) hx17) (fun R hc => zac r rfl cl29 hc) rfl ?_
 rintro _ w18 ⟨rfl, hq⟩
 refine ⟨_, rfl, fun fr r => ?_⟩
 have hP : Post No [znd b1 ((znc (⟨2, 1, 4, 1, 1, 1⟩ : Plan))).toArray 25, memK mg9 x17.2.2.2, progK Tryz.prog zne (fu, (D.zbH (fu + 1) (⟨(⟨2, 1, 4, 1, 1, 1⟩ : Plan), 0, 0⟩ : Seat) 0 5)) v12 (rg w8.heap.size w11.heap.size)] w0 w18 := hP.setN (i := 1) rfl hq
 refine za0 (.tuple #[(.agg (resC x17.1).toArray), (I x17.2.1), (.bool x17.2.2.1)]) r (fun R => zaa r rfl) rfl fun fr r => za0 (.agg (resC x17.1).toArray) r (fun R => zaV r (vs := #[(.agg (resC x17.1).toArray), (I x17.2.1), (.bool x17.2.2.1)]) rfl rfl) rfl fun fr r => za0 (I x17.2.1) r (fun R => zaV r (vs := #[(.agg (resC x17.1).toArray), (I x17.2.1), (.bool x17.2.2.1)]) rfl rfl) rfl fun fr r => za0 (.bool x17.2.2.1) r (fun R => zaV r (vs := #[(.agg (resC x17.1).toArray), (I x17.2.1), (.bool x17.2.2.1)]) rfl rfl) rfl fun fr r => ?_
 refine za5 (.cells ((resC (⟨0, 0⟩ : Res))).toArray 32 (0, 0)) r (fun R => zag tz32) rfl fun fr b19 w20 n21 r => ?_
 have hP : Post No [znd b1 ((znc (⟨2, 1, 4, 1, 1, 1⟩ : Plan))).toArray 25, memK mg9 x17.2.2.2, progK Tryz.prog zne (fu, (D.zbH (fu + 1) (⟨(⟨2, 1, 4, 1, 1, 1⟩ : Plan), 0, 0⟩ : Seat) 0 5)) v12 (rg w8.heap.size w11.heap.size), znd b19 ((resC (⟨0, 0⟩ : Res))).toArray 32] w0 w20 := hP.new n21
 refine zae (.cells ((resC x17.1)).toArray 32 (0, 0)) r (fun R => zaN r (o := 0) (v := (.agg (resC x17.1).toArray)) rfl rfl (hP.cell (i := 3) rfl) ts32 (Nat.le_of_ble_eq_true rfl) rfl rfl) rfl fun fr w23 u24 r => ?_
 have hP : Post No [znd b1 ((znc (⟨2, 1, 4, 1, 1, 1⟩ : Plan))).toArray 25, memK mg9 x17.2.2.2, progK Tryz.prog zne (fu, (D.zbH (fu + 1) (⟨(⟨2, 1, 4, 1, 1, 1⟩ : Plan), 0, 0⟩ : Seat) 0 5)) v12 (rg w8.heap.size w11.heap.size), znd b19 ((resC x17.1)).toArray 32] w0 w23 := hP.upd (i := 3) rfl u24
 refine za0 (I x17.2.1) r (fun R => za8 r rfl) rfl fun fr r => za0 (.bool x17.2.2.1) r (fun R => za8 r rfl) rfl fun fr r => wn (wp_seq ?_)
 have hP : Post No [znd b1 ((znc (⟨2, 1, 4, 1, 1, 1⟩ : Plan))).toArray 25, memK mg9 x17.2.2.2, znd b19 ((resC x17.1)).toArray 32] w0 w23 := hP.pick [0, 1, 3] rfl rfl
 refine zca (N := 35) (Y := Bool) (G := Unit) (fun x γ => [(1, (.pointer (some ⟨b1, 0, none⟩))), (2, (.pointer (some ⟨mg9.mb, 0, none⟩))), (10, (.bool false)), (3, (.pointer (some ⟨b19, 0, none⟩))), (5, (.bool x17.2.2.1)), (0, (.bool x))]) (fun x γ w => Post No [znd b1 ((znc (⟨2, 1, 4, 1, 1, 1⟩ : Plan))).toArray 25, memK mg9 x17.2.2.2, znd b19 ((resC x17.1)).toArray 32] w0 w) hD ?_ ?_
 ·
  rintro y25 RPy25 nxy25 hD
  refine wp_region_lit (za0 (.bool x17.2.2.1) r (fun R => zaa r rfl) rfl fun fr r => za0 (.bool x17.2.2.1) r (fun R => zaa r rfl) rfl fun fr r => ?_)
  refine zaI x17.2.2.1 (fun h26 => ?_) (fun h26 => ?_)
  ·
   have hD := (zap h26).symm.trans hD
   refine s1 r h26 (za0 _ r (fun R => za4 r (o := 0) rfl zkX) rfl fun fr r => s1 r h26 (za0 (I x17.1.e) r (fun R => za3 r rfl (hP.cell (i := 2) rfl) to30 rfl) rfl fun fr r => s1 r h26 (za0 _ r (fun R => zni r rfl rfl rfl rfl) rfl fun fr r => za0 (.bool (x17.1.e == 0)) r (fun R => zaq r (b := true) (congrArg Value.bool h26) rfl) rfl fun fr r => za0 (.bool (x17.1.e == 0)) r (fun R => zaa r rfl) rfl fun fr r => ?_)))
   refine zaI (x17.1.e == 0) (fun h27 => ?_) (fun h27 => ?_)
   ·
    have hD := (zap h27).symm.trans hD
    refine s1 r h27 (za0 (.agg (znc (⟨2, 1, 4, 1, 1, 1⟩ : Plan)).toArray) r (fun R => za6 r (cs := (znc (⟨2, 1, 4, 1, 1, 1⟩ : Plan))) (n := 6) rfl (hP.cell (i := 0) rfl) ta25 rfl) rfl fun fr r => s1 r h27 (za0 (.pointer (some ⟨mg9.mb, 0, none⟩)) r (fun R => zaa r rfl) rfl fun fr r => s1 r h27 ?_))
    obtain ⟨x28, hx28, hD⟩ := zau hD
    refine za7 r (zka w23 (⟨2, 1, 4, 1, 1, 1⟩ : Plan) x17.2.2.2 (hP.mem (i := 1) rfl) 0 0 hx28) (fun R hc => zac r rfl cl62 hc) rfl ?_
    rintro _ w29 ⟨v30, rfl, hq⟩
    refine ⟨_, rfl, fun fr r => ?_⟩
    have hP : Post No [znd b1 ((znc (⟨2, 1, 4, 1, 1, 1⟩ : Plan))).toArray 25, memK mg9 x17.2.2.2, znd b19 ((resC x17.1)).toArray 32, rowK 22 1 u64 v30 x28] w0 w29 := hP.add hq
    refine s1 r h27 (za0 (I (x28.length : Int)) r (fun R => zds r (hP.row (i := 3) rfl).ro is49 rfl) rfl fun fr r => s1 r h27 (za0 _ r (fun R => zni r rfl rfl rfl rfl) rfl fun fr r => za0 (.bool ((x28.length : Int) == 1)) r (fun R => zaq r (b := true) (congrArg Value.bool h27) rfl) rfl fun fr r => za0 (.bool ((x28.length : Int) == 1)) r (fun R => za8 r rfl) rfl fun fr r => wn ?_))
    exact nxy25 ((x28.length : Int) == 1) () _ _ _ hD r (za2 rfl (za2 rfl (za2 rfl (za2 rfl (za2 rfl (za2 rfl zaT)))))) (hP.pick [0, 1, 2] rfl rfl)
   ·
    have hD := (zak h27).symm.trans hD
    refine s0 r h27 fun fr r => s0 r h27 fun fr r => s0 r h27 fun fr r => s0 r h27 fun fr r => s0 r h27 fun fr r => za0 (.bool false) r (fun R => zaq r (b := false) (congrArg Value.bool h27) rfl) rfl fun fr r => za0 (.bool false) r (fun R => za8 r rfl) rfl fun fr r => wn ?_
    exact nxy25 false () _ _ _ hD r (za2 rfl (za2 rfl (za2 rfl (za2 rfl (za2 rfl (za2 rfl zaT)))))) (hP.pick [0, 1, 2] rfl rfl)
  ·
   have hD := (zak h26).symm.trans hD
   refine s0 r h26 fun fr r => s0 r h26 fun fr r => s0 r h26 fun fr r => za0 (.bool false) r (fun R => zaq r (b := false) (congrArg Value.bool h26) rfl) rfl fun fr r => za0 (.bool false) r (fun R => zaa r rfl) rfl fun fr r => s0 r (rfl : false = _) fun fr r => s0 r (rfl : false = _) fun fr r => s0 r (rfl : false = _) fun fr r => s0 r (rfl : false = _) fun fr r => s0 r (rfl : false = _) fun fr r => za0 (.bool false) r (fun R => zaq r (b := false) (congrArg Value.bool (rfl : false = _)) rfl) rfl fun fr r => za0 (.bool false) r (fun R => za8 r rfl) rfl fun fr r => wn ?_
   exact nxy25 false () _ _ _ hD r (za2 rfl (za2 rfl (za2 rfl (za2 rfl (za2 rfl (za2 rfl zaT)))))) (hP.pick [0, 1, 2] rfl rfl)
 ·
  rintro x32 γ33 fr w34 g r hP hD
  have hP : Post No [znd b1 ((znc (⟨2, 1, 4, 1, 1, 1⟩ : Plan))).toArray 25, memK mg9 x17.2.2.2, znd b19 ((resC x17.1)).toArray 32] w0 w34 := hP
  refine wp_ret ?_
  have hv : x32 = res := Option.some.inj hD
  try dsimp only [Exit.then, Exit.inBlock]
  refine zay (fn := Tryz.f53) r (t := 0) rfl (v := (.bool x32)) rfl ?_
  subst hv
  exact ⟨rfl, hP.chg.below⟩

def D.zb5 (a0 : Plan) : Bool := (bif (D.zb9 a0) then (bif (D.zar a0) then (decide (a0.domains > 0)) else false) else false)

theorem zhu (w0 : World) 
    (a0 : Plan) :
    Calls Tryz.prog 54 #[.agg (znc a0).toArray] w0 (PureRes (.bool (D.zb5 a0)) w0) := by
 refine enter Tryz.func54 rfl 14 rfl rfl fun fr r => ?_
 have hB := Below.refl w0.heap.size w0
 refine wsr ?_
 refine za5 (.cells ((znc a0)).toArray 25 (0, 0)) r (fun R => znm r (v := (.agg (znc a0).toArray)) rfl) rfl fun fr b1 w2 n3 r => ?_
 obtain ⟨e_b1, z_w2, h_b1, hB, zB⟩ := n3.all hB
 refine za0 (.bool false) r (fun R => za8 r rfl) rfl fun fr r => wn (wsr (za0 (.agg (znc a0).toArray) r (fun R => za6 r (cs := (znc a0)) (n := 6) rfl h_b1 ta25 rfl) rfl fun fr r => ?_))
 refine za7 r (zh8 w2 a0) (fun R hc => zac r rfl cl39 hc) rfl ?_
 rintro _ w4 ⟨rfl, hb⟩
 refine ⟨_, rfl, fun fr r => ?_⟩
 have z_w4 := hb.size
 have h_b1 := keep hb h_b1
 obtain ⟨hB, zB⟩ := bon hb hB
 refine za0 (.bool (D.zb9 a0)) r (fun R => zaa r rfl) rfl fun fr r => ?_
 refine zaI (D.zb9 a0) (fun h5 => ?_) (fun h5 => ?_)
 ·
  refine s1 r h5 (za0 (.agg (znc a0).toArray) r (fun R => za6 r (cs := (znc a0)) (n := 6) rfl h_b1 ta25 rfl) rfl fun fr r => s1 r h5 ?_)
  refine za7 r (zei w4 a0) (fun R hc => zac r rfl cl45 hc) rfl ?_
  rintro _ w6 ⟨rfl, hb⟩
  refine ⟨_, rfl, fun fr r => ?_⟩
  have z_w6 := hb.size
  have h_b1 := keep hb h_b1
  obtain ⟨hB, zB⟩ := bon hb hB
  refine za0 (.bool (D.zar a0)) r (fun R => zaq r (b := true) (congrArg Value.bool h5) rfl) rfl fun fr r => za0 (.bool (D.zar a0)) r (fun R => zaa r rfl) rfl fun fr r => ?_
  refine zaI (D.zar a0) (fun h7 => ?_) (fun h7 => ?_)
  ·
   refine s1 r h7 (za0 _ r (fun R => za4 r (o := 0) rfl ziH) rfl fun fr r => s1 r h7 (za0 (I a0.domains) r (fun R => za3 r rfl h_b1 to3 rfl) rfl fun fr r => s1 r h7 (za0 _ r (fun R => zni r rfl rfl rfl rfl) rfl fun fr r => za0 (.bool (decide (a0.domains > 0))) r (fun R => zaq r (b := true) (congrArg Value.bool h7) rfl) rfl fun fr r => za0 (.bool (decide (a0.domains > 0))) r (fun R => za8 r rfl) rfl fun fr r => wn (wp_ret ?_))))
   have hd : D.zb5 a0 = (decide (a0.domains > 0)) := (zap h5).trans ((zap h7).trans (rfl))
   refine zay r rfl rfl ?_
   rw [hd]
   exact ⟨rfl, hB⟩
  ·
   refine s0 r h7 fun fr r => s0 r h7 fun fr r => s0 r h7 fun fr r => za0 (.bool false) r (fun R => zaq r (b := false) (congrArg Value.bool h7) rfl) rfl fun fr r => za0 (.bool false) r (fun R => za8 r rfl) rfl fun fr r => wn (wp_ret ?_)
   have hd : D.zb5 a0 = false := (zap h5).trans ((zak h7).trans (rfl))
   refine zay r rfl rfl ?_
   rw [hd]
   exact ⟨rfl, hB⟩
 ·
  refine s0 r h5 fun fr r => s0 r h5 fun fr r => za0 (.bool false) r (fun R => zaq r (b := false) (congrArg Value.bool h5) rfl) rfl fun fr r => za0 (.bool false) r (fun R => zaa r rfl) rfl fun fr r => s0 r (rfl : false = _) fun fr r => s0 r (rfl : false = _) fun fr r => s0 r (rfl : false = _) fun fr r => za0 (.bool false) r (fun R => zaq r (b := false) (congrArg Value.bool (rfl : false = _)) rfl) rfl fun fr r => za0 (.bool false) r (fun R => za8 r rfl) rfl fun fr r => wn (wp_ret ?_)
  have hd : D.zb5 a0 = false := (zak h5).trans (rfl)
  refine zay r rfl rfl ?_
  rw [hd]
  exact ⟨rfl, hB⟩

end Go.Proofs.YtjkinpbfmihhdaaGreat

/- Written by a program of ours (wip/gen.py): a law -/
set_option linter.unusedVariables false
set_option maxRecDepth 20000
set_option maxHeartbeats 2000000
namespace Go.Proofs.YtjkinpbfmihhdaaGreat.Wk
open Go.RowKit
theorem cl53 : znb Tryz.prog 53 = true := by kernel_rfl

theorem cl54 : znb Tryz.prog 54 = true := by kernel_rfl

theorem cl57 : znb Tryz.prog 57 = true := by kernel_rfl

theorem eg32 : Tryz.prog.eqGuardType Tryz.prog.depth 32 = false := by kernel_rfl

theorem eqs32 (x y : Res) (w : World) : (binOp .eql 32 (.agg (resC x).toArray) (.agg (resC y).toArray)).run Tryz.prog w = .ok (.bool (x == y)) w ∧ (binOp .neq 32 (.agg (resC x).toArray) (.agg (resC y).toArray)).run Tryz.prog w = .ok (.bool (!(x == y))) w :=
  zmX [(.i64, x.e, y.e), (.u64, x.v, y.v)] (by kernel_rfl) (by kernel_rfl) (by kernel_rfl) (by kernel_rfl) (by cases x; cases y; rw [Bool.eq_iff_iff]; simp)

theorem ts29 : sized Tryz.prog 29 8 = true := by kernel_rfl

theorem tz29 : zeroOf Tryz.prog 29 = some (.agg (seatC (⟨(⟨0, 0, 0, 0, 0, 0⟩ : Plan), 0, 0⟩ : Seat)).toArray) := by kernel_rfl

def D.zc4 (fu : Nat) (a0 : Plan) (a1 : List Int) : Option (Bool) := (Option.bind ((D.zcj fu ).bind (fun (x6 : Bool) => (bif (!x6) then (some true) else (bif (!(D.zb5 a0)) then (some true) else (some (decide ((a1.length : Int) > 60))))))) (fun (x11 : Bool) => (bif x11 then ((D.zcj fu ).bind (fun (x15 : Bool) => (some x15))) else ((D.zc7 fu a0).bind (fun (x17 : Mem) => (loopThen (fun (x27 : Bool × Int × Int × Mem) => (bif (decide (x27.2.2.1 < (a1.length : Int))) then ((getI a1 x27.2.2.1).bind (fun (x32 : Int) => ((D.zbR fu x27.2.2.2 0).bind (fun (x34 : Cap) => ((D.zcw fu (fu, (D.zbH (fu + 1) (⟨a0, 0, (IntKind.i64.wrap (a0.threads - 1))⟩ : Seat) 0 x32)) x27.2.2.2 x34 99).bind (fun (x35 : Res × Int × Bool × Mem) => (bif ((x35.1.e == 0) != (decide (x27.2.2.1 < (IntKind.i64.wrap (a0.nodes - 1))))) then (some (Lp.ret false)) else (Option.bind (bif (x35.1.e == 0) then (some (IntKind.i64.wrap (x27.2.1 + 1))) else (some x27.2.1)) (fun (x41 : Int) => (some (Lp.next (x27.1, x41, (IntKind.i64.wrap (x27.2.2.1 + 1)), x35.2.2.2)))))))))))) else (some (Lp.brk (x27.1, x27.2.1, x27.2.2.1, x27.2.2.2))))) fu (false, 0, 0, x17) (fun (x44 : Bool × Int × Int × Mem) => (loopThen (fun (x47 : Bool × Int × Mem) => (bif (decide (x47.2.1 < x44.2.1)) then ((D.zbR fu x47.2.2 0).bind (fun (x56 : Cap) => ((D.zcw fu (fu, (D.zby (fu + 1) (⟨a0, 0, (IntKind.i64.wrap (a0.threads - 1))⟩ : Seat) 0)) x47.2.2 x56 9999).bind (fun (x58 : Res × Int × Bool × Mem) => ((getI a1 x47.2.1).bind (fun (x66 : Int) => (bif (!(x58.1 == (⟨0, x66⟩ : Res))) then (some (Lp.ret false)) else (some (Lp.next (x47.1, (IntKind.i64.wrap (x47.2.1 + 1)), x58.2.2.2)))))))))) else (some (Lp.brk (x47.1, x47.2.1, x47.2.2))))) fu (x44.1, 0, x44.2.2.2) (fun (x69 : Bool × Int × Mem) => ((D.zbR fu x69.2.2 0).bind (fun (x76 : Cap) => ((D.zcw fu (fu, (D.zby (fu + 1) (⟨a0, 0, (IntKind.i64.wrap (a0.threads - 1))⟩ : Seat) 0)) x69.2.2 x76 99).bind (fun (x78 : Res × Int × Bool × Mem) => (Option.bind (bif x78.2.2.1 then (some (x78.1 == (⟨6, 0⟩ : Res))) else (some false)) (fun (x88 : Bool) => (some x88))))))))))))))))

theorem zfa {fu : Nat} (w0 : World) (a0 : Plan) {a1_v : Value} (a1 : List Int) (a1_h : RoAt 22 1 u64 a1_v a1 w0) {res : Bool} (hD : D.zc4 fu a0 a1 = some res) :
    Calls Tryz.prog 12 #[.agg (znc a0).toArray, a1_v] w0 (PureRes (.bool res) w0) := by
 refine enter Tryz.func12 rfl 113 rfl rfl fun fr r => ?_
 have hP : Post No [] w0 w0 := Post.nil w0
 have hP : Post No [roK 22 1 u64 a1_v a1] w0 w0 := hP.addRo zdq a1_h rfl a1_h.lt
 unfold D.zc4 at hD
 refine wsr ?_
 refine za5 (.cells ((znc a0)).toArray 25 (0, 0)) r (fun R => znm r (v := (.agg (znc a0).toArray)) rfl) rfl fun fr b1 w2 n3 r => ?_
 have hP : Post No [roK 22 1 u64 a1_v a1, znd b1 ((znc a0)).toArray 25] w0 w2 := hP.new n3
 refine za0 (.bool false) r (fun R => za8 r rfl) rfl fun fr r => wn (wp_seq (wp_seq ?_))
 refine zca (N := 113) (Y := Bool) (G := Unit) (fun x γ => [(0, (.agg (znc a0).toArray)), (1, a1_v), (2, (.pointer (some ⟨b1, 0, none⟩))), (4, (.bool false)), (30, (.bool x))]) (fun x γ w => Post No [roK 22 1 u64 a1_v a1, znd b1 ((znc a0)).toArray 25] w0 w) hD ?_ ?_
 ·
  rintro y5 RPy5 nxy5 hD
  refine wp_region_lit ?_
  obtain ⟨x6, hx6, hD⟩ := zau hD
  refine za7 r (zew w2  hx6) (fun R hc => zac r rfl cl53 hc) rfl ?_
  rintro _ w7 ⟨rfl, hb⟩
  refine ⟨_, rfl, fun fr r => ?_⟩
  have hP : Post No [roK 22 1 u64 a1_v a1, znd b1 ((znc a0)).toArray 25] w0 w7 := hP.below hb
  refine za0 (.bool (!x6)) r (fun R => y_un r (u := (.bool x6)) rfl rfl) rfl fun fr r => za0 (.bool (!x6)) r (fun R => zaa r rfl) rfl fun fr r => ?_
  refine zaI (!x6) (fun h8 => ?_) (fun h8 => ?_)
  ·
   have hD := (zap h8).symm.trans hD
   refine s0 r h8 fun fr r => s0 r h8 fun fr r => s0 r h8 fun fr r => za0 (.bool true) r (fun R => zaq r (b := true) (congrArg Value.bool h8) rfl) rfl fun fr r => za0 (.bool true) r (fun R => zaa r rfl) rfl fun fr r => s0 r (rfl : true = _) fun fr r => s0 r (rfl : true = _) fun fr r => s0 r (rfl : true = _) fun fr r => za0 (.bool true) r (fun R => zaq r (b := true) (congrArg Value.bool (rfl : true = _)) rfl) rfl fun fr r => wn ?_
   exact nxy5 true () _ _ _ hD r (za2 rfl (za2 rfl (za2 rfl (za2 rfl (za2 rfl zaT))))) (hP.pick [0, 1] rfl rfl)
  ·
   have hD := (zak h8).symm.trans hD
   refine s1 r h8 (za0 (.agg (znc a0).toArray) r (fun R => za6 r (cs := (znc a0)) (n := 6) rfl (hP.cell (i := 1) rfl) ta25 rfl) rfl fun fr r => s1 r h8 ?_)
   refine za7 r (zhu w7 a0) (fun R hc => zac r rfl cl54 hc) rfl ?_
   rintro _ w9 ⟨rfl, hb⟩
   refine ⟨_, rfl, fun fr r => ?_⟩
   have hP : Post No [roK 22 1 u64 a1_v a1, znd b1 ((znc a0)).toArray 25] w0 w9 := hP.below hb
   refine s1 r h8 (za0 (.bool (!(D.zb5 a0))) r (fun R => y_un r (u := (.bool (D.zb5 a0))) rfl rfl) rfl fun fr r => za0 (.bool (!(D.zb5 a0))) r (fun R => zaq r (b := false) (congrArg Value.bool h8) rfl) rfl fun fr r => za0 (.bool (!(D.zb5 a0))) r (fun R => zaa r rfl) rfl fun fr r => ?_)
   refine zaI (!(D.zb5 a0)) (fun h10 => ?_) (fun h10 => ?_)
   ·
    have hD := (zap h10).symm.trans hD
    refine s0 r h10 fun fr r => s0 r h10 fun fr r => s0 r h10 fun fr r => za0 (.bool true) r (fun R => zaq r (b := true) (congrArg Value.bool h10) rfl) rfl fun fr r => wn ?_
    exact nxy5 true () _ _ _ hD r (za2 rfl (za2 rfl (za2 rfl (za2 rfl (za2 rfl zaT))))) (hP.pick [0, 1] rfl rfl)
   ·
    have hD := (zak h10).symm.trans hD
    refine s1 r h10 (za0 a1_v r (fun R => zaa r rfl) rfl fun fr r => s1 r h10 (za0 (I (a1.length : Int)) r (fun R => zds r (hP.ro (i := 0) rfl) is49 rfl) rfl fun fr r => s1 r h10 (za0 _ r (fun R => zni r rfl rfl rfl rfl) rfl fun fr r => za0 (.bool (decide ((a1.length : Int) > 60))) r (fun R => zaq r (b := false) (congrArg Value.bool h10) rfl) rfl fun fr r => wn ?_)))
    exact nxy5 (decide ((a1.length : Int) > 60)) () _ _ _ hD r (za2 rfl (za2 rfl (za2 rfl (za2 rfl (za2 rfl zaT))))) (hP.pick [0, 1] rfl rfl)
 ·
  rintro x11 γ12 fr w13 g r hP hD
  have hP : Post No [roK 22 1 u64 a1_v a1, znd b1 ((znc a0)).toArray 25] w0 w13 := hP
  refine wp_cond_split (t := x11) (r.ev rfl) (fun h14 => ?_) (fun h14 => ?_)
  ·
   have hD := (zap h14).symm.trans hD
   refine wsr ?_
   obtain ⟨x15, hx15, hD⟩ := zau hD
   refine za7 r (zew w13  hx15) (fun R hc => zac r rfl cl53 hc) rfl ?_
   rintro _ w16 ⟨rfl, hb⟩
   refine ⟨_, rfl, fun fr r => ?_⟩
   have hP : Post No [roK 22 1 u64 a1_v a1, znd b1 ((znc a0)).toArray 25] w0 w16 := hP.below hb
   refine za0 (.bool x15) r (fun R => za8 r rfl) rfl fun fr r => wn (wp_ret ?_)
   have hv : x15 = res := Option.some.inj hD
   try dsimp only [Exit.then, Exit.inBlock]
   refine zay (fn := Tryz.f12) r (t := 4) rfl (v := (.bool x15)) rfl ?_
   subst hv
   exact ⟨rfl, hP.chg.below⟩
  ·
   have hD := (zak h14).symm.trans hD
   refine wp_skip (wsr (za0 (.agg (znc a0).toArray) r (fun R => za6 r (cs := (znc a0)) (n := 6) rfl (hP.cell (i := 1) rfl) ta25 rfl) rfl fun fr r => ?_))
   obtain ⟨x17, hx17, hD⟩ := zau hD
   refine za7 r (zeN w13 a0 hx17) (fun R hc => zac r rfl cl55 hc) rfl ?_
   rintro _ w18 ⟨mg19, rfl, hq⟩
   refine ⟨_, rfl, fun fr r => ?_⟩
   have hP : Post No [roK 22 1 u64 a1_v a1, znd b1 ((znc a0)).toArray 25, memK mg19 x17] w0 w18 := hP.add hq
   refine za0 (.pointer (some ⟨mg19.mb, 0, none⟩)) r (fun R => za8 r rfl) rfl fun fr r => wn (wp_seq (wsr (za0 (.pointer (some ⟨mg19.mb, 0, none⟩)) r (fun R => zaa r rfl) rfl fun fr r => za0 _ r (fun R => zni r rfl rfl rfl rfl) rfl fun fr r => wn ?_)))
   refine wp_cond_split (t := false) (r.ev rfl) (fun h => absurd ((rfl : false = _).symm.trans h) (by decide)) (fun _ => wp_skip (wsr (za0 (.agg (znc a0).toArray) r (fun R => za6 r (cs := (znc a0)) (n := 6) rfl (hP.cell (i := 1) rfl) ta25 rfl) rfl fun fr r => za0 _ r (fun R => za4 r (o := 0) rfl zgH) rfl fun fr r => za0 (I a0.threads) r (fun R => za3 r rfl (hP.cell (i := 1) rfl) to3 rfl) rfl fun fr r => za0 _ r (fun R => zni r rfl rfl rfl rfl) rfl fun fr r => za0 (.agg (seatC (⟨a0, 0, (W (a0.threads - 1))⟩ : Seat)).toArray) r (fun R => zaM r (by kernel_rfl)) rfl fun fr r => ?_)))
   refine za5 (.cells ((seatC (⟨(⟨0, 0, 0, 0, 0, 0⟩ : Plan), 0, 0⟩ : Seat))).toArray 29 (0, 0)) r (fun R => zag tz29) rfl fun fr b21 w22 n23 r => ?_
   have hP : Post No [roK 22 1 u64 a1_v a1, znd b1 ((znc a0)).toArray 25, memK mg19 x17, znd b21 ((seatC (⟨(⟨0, 0, 0, 0, 0, 0⟩ : Plan), 0, 0⟩ : Seat))).toArray 29] w0 w22 := hP.new n23
   refine zae (.cells ((seatC (⟨a0, 0, (W (a0.threads - 1))⟩ : Seat))).toArray 29 (0, 0)) r (fun R => zaN r (o := 0) (v := (.agg (seatC (⟨a0, 0, (W (a0.threads - 1))⟩ : Seat)).toArray)) rfl rfl (hP.cell (i := 3) rfl) ts29 (Nat.le_of_ble_eq_true rfl) rfl rfl) rfl fun fr w25 u26 r => ?_
   have hP : Post No [roK 22 1 u64 a1_v a1, znd b1 ((znc a0)).toArray 25, memK mg19 x17, znd b21 ((seatC (⟨a0, 0, (W (a0.threads - 1))⟩ : Seat))).toArray 29] w0 w25 := hP.upd (i := 3) rfl u26
   refine wn (wsr (za0 (I 0) r (fun R => za8 r rfl) rfl fun fr r => wn (wp_seq (wsr (za0 (I 0) r (fun R => za8 r rfl) rfl fun fr r => wn ?_)))))
   refine ze9 (X := Bool × Int × Int × Mem) (G := Unit) (x0 := (false, 0, 0, x17)) (fun x γ => [(0, (.agg (znc a0).toArray)), (1, a1_v), (2, (.pointer (some ⟨b1, 0, none⟩))), (30, (.bool x11)), (5, (.pointer (some ⟨mg19.mb, 0, none⟩))), (35, (.bool false)), (6, (.pointer (some ⟨b21, 0, none⟩))), (4, (.bool x.1)), (7, (I x.2.1)), (8, (I x.2.2.1))]) (fun x γ w => Post No [roK 22 1 u64 a1_v a1, znd b1 ((znc a0)).toArray 25, memK mg19 x.2.2.2, znd b21 ((seatC (⟨a0, 0, (W (a0.threads - 1))⟩ : Seat))).toArray 29] w0 w) () r (za2 rfl (za2 rfl (za2 rfl (za2 rfl (za2 rfl (za2 rfl (za2 rfl (za2 rfl (za2 rfl (za2 rfl zaT)))))))))) hP hD ?_ ?_
   ·
    rintro x27 γ28 fr w30 g y29 RPy29 nxy29 bky29 rty29 r hP hD
    have hP : Post No [roK 22 1 u64 a1_v a1, znd b1 ((znc a0)).toArray 25, memK mg19 x27.2.2.2, znd b21 ((seatC (⟨a0, 0, (W (a0.threads - 1))⟩ : Seat))).toArray 29] w0 w30 := hP
    refine wp_seq (wsr (za0 (I x27.2.2.1) r (fun R => zaa r rfl) rfl fun fr r => za0 a1_v r (fun R => zaa r rfl) rfl fun fr r => za0 (I (a1.length : Int)) r (fun R => zds r (hP.ro (i := 0) rfl) is49 rfl) rfl fun fr r => za0 _ r (fun R => zni r rfl rfl rfl rfl) rfl fun fr r => wn ?_))
    refine wp_cond_split (t := (decide (x27.2.2.1 < (a1.length : Int)))) (r.ev rfl) (fun h31 => ?_) (fun h31 => ?_)
    ·
     have hD := (zap h31).symm.trans hD
     refine wp_skip (wp_seq (wp_block (wp_seq ?_)))
     obtain ⟨x32, hx32, hD⟩ := zau hD
     obtain ⟨x34, hx34, hD⟩ := zau hD
     obtain ⟨x35, hx35, hD⟩ := zau hD
     refine zhh mg19.bs [.val (.agg (seatC (⟨a0, 0, (W (a0.threads - 1))⟩ : Seat)).toArray), .val a1_v, .val (I x27.2.2.1), .val (.pointer (some ⟨rowB a1_v, rowO a1_v + x27.2.2.1.toNat * 1, none⟩)), .val (U x32), .pred (PrP Tryz.prog zne (fu, (D.zbH (fu + 1) (⟨a0, 0, (W (a0.threads - 1))⟩ : Seat) 0 x32))) (PrP.st _), .val (.pointer (some ⟨mg19.mb, 0, none⟩)), .val (.pointer (some ⟨mg19.mb, 0, none⟩)), .val (.agg (capC x34).toArray), .eff (EffP w30.heap.size (memK mg19 x35.2.2.2) (fun _ : Unit => (.tuple #[(.agg (resC x35.1).toArray), (I x35.2.1), (.bool x35.2.2.1)])) (fun _ : Unit => [])) (EffP.st _ _ _ _), .val (.tuple #[(.agg (resC x35.1).toArray), (I x35.2.1), (.bool x35.2.2.1)]), .val (.agg (resC x35.1).toArray), .val (I x35.2.1), .val (.bool x35.2.2.1), .cell 32 2, .stored 14 ((resC x35.1)).toArray 32 2 rfl, .val (I x35.2.1), .val (.bool x35.2.2.1)] mixed r (fun b hb => hP.sep.lt (i := 2) rfl (.inl hb)) (by kernel_rfl) ?_ ?_
     ·
      refine zaC r rfl (fun fr1 g w' hk' hd r' => ?_) ?_
      · exact za6 r' (cs := (seatC (⟨a0, 0, (W (a0.threads - 1))⟩ : Seat))) (n := 8) rfl (hP.cellK (j := 2) rfl (drK hk') (i := 3) rfl rfl) ta29 rfl ⟨Below.refl _ _, rfl⟩
      refine zaC r rfl (fun fr1 g w' hk' hd r' => ?_) ?_
      · exact zaa r' (v := a1_v) rfl ⟨Below.refl _ _, rfl⟩
      refine zaC r rfl (fun fr1 g w' hk' hd r' => ?_) ?_
      · exact zaa r' (v := (I x27.2.2.1)) rfl ⟨Below.refl _ _, rfl⟩
      refine zaC r rfl (fun fr1 g w' hk' hd r' => ?_) ?_
      · exact zcJ r' (show RoAt 0 _ _ _ _ _ from hP.okK (j := 2) rfl (drK hk') (i := 0) rfl rfl) hx32 sl49 (hd 1 rfl).1 (hd 2 rfl).1 ⟨Below.refl _ _, rfl⟩
      refine zaC r rfl (fun fr1 g w' hk' hd r' => ?_) ?_
      · exact zcE r' (u := (U x32)) (RoAt.at_ (f := u64) (x := x32) (show RoAt 0 _ _ _ _ _ from hP.okK (j := 2) rfl (drK hk') (i := 0) rfl rfl) (fun _ => rfl) hx32) (hd 3 rfl).1 to22 ⟨Below.refl _ _, rfl⟩
      refine zbh r rfl (by kernel_rfl) (fun fr1 g w' hb' hd r' => ?_) ?_
      · exact zac r' (args := [(.agg (seatC (⟨a0, 0, (W (a0.threads - 1))⟩ : Seat)).toArray), (I 0), (U x32)]) (lc (hd 0 rfl).1 (lc rfl (lc (hd 4 rfl).1 l0))) cl59 ((zix (F := No) (n := fu) (j := fu + 1) (fun _ h => h.elim) (by omega) (⟨a0, 0, (W (a0.threads - 1))⟩ : Seat) 0 x32).mono (by rintro _ w2 ⟨y, rfl, hb2, hr2⟩; exact ⟨_, rfl, hb2, zhB hr2⟩))
      refine zbh r rfl (by kernel_rfl) (fun fr1 g w' hb' hd r' => ?_) ?_
      · exact zaa r' (v := (.pointer (some ⟨mg19.mb, 0, none⟩))) rfl ⟨Below.refl _ _, rfl⟩
      refine zaC r rfl (fun fr1 g w' hk' hd r' => ?_) ?_
      · exact zaa r' (v := (.pointer (some ⟨mg19.mb, 0, none⟩))) rfl ⟨Below.refl _ _, rfl⟩
      refine zbh r rfl (by kernel_rfl) (fun fr1 g w' hb' hd r' => ?_) ?_
      · exact zac r' (args := [(.pointer (some ⟨mg19.mb, 0, none⟩)), (I 0)]) (lc (hd 7 rfl).1 (lc rfl l0)) cl31 ((zcb _ x27.2.2.2 ((hP.below (dr hb')).mem (i := 2) rfl) 0 hx34).mono (by rintro _ w2 ⟨rfl, hb2⟩; exact ⟨_, rfl, hb2, rfl⟩))
      refine zbh r rfl (by kernel_rfl) (fun fr1 g w' hb' hd r' => ?_) ?_
      · exact zac r' (args := [(g 5).v, (.pointer (some ⟨mg19.mb, 0, none⟩)), (.agg (capC x34).toArray), (I 99)]) (lc rfl (lc (hd 6 rfl).1 (lc (hd 8 rfl).1 (lc rfl l0)))) cl29 ((zdj _ (fu, (D.zbH (fu + 1) (⟨a0, 0, (W (a0.threads - 1))⟩ : Seat) 0 x32)) x27.2.2.2 x34 99 (Sep.beside (hd 5 rfl).1 ((hP.below (dr hb')).sep.pk [2] rfl rfl) (by intro c hc b hb; simp only [List.mem_cons, List.not_mem_nil, or_false] at hc; rcases hc with rfl; exact hP.sep.lt (i := 2) rfl hb) (hd 5 rfl).2.1) hx35).mono (by rintro _ w2 ⟨rfl, hq⟩; exact ⟨_, rfl, hq.chg.kept, EffP.of () hq rfl (fun b hb => hP.sep.lt (i := 2) rfl hb)⟩))
      refine zaC r rfl (fun fr1 g w' hk' hd r' => ?_) ?_
      · exact zaa r' (v := (.tuple #[(.agg (resC x35.1).toArray), (I x35.2.1), (.bool x35.2.2.1)])) (EffP.val (hd 9 rfl).1) ⟨Below.refl _ _, rfl⟩
      refine zaC r rfl (fun fr1 g w' hk' hd r' => ?_) ?_
      · exact zaV r' (vs := #[(.agg (resC x35.1).toArray), (I x35.2.1), (.bool x35.2.2.1)]) (hd 10 rfl).1 rfl ⟨Below.refl _ _, rfl⟩
      refine zaC r rfl (fun fr1 g w' hk' hd r' => ?_) ?_
      · exact zaV r' (vs := #[(.agg (resC x35.1).toArray), (I x35.2.1), (.bool x35.2.2.1)]) (hd 10 rfl).1 rfl ⟨Below.refl _ _, rfl⟩
      refine zaC r rfl (fun fr1 g w' hk' hd r' => ?_) ?_
      · exact zaV r' (vs := #[(.agg (resC x35.1).toArray), (I x35.2.1), (.bool x35.2.2.1)]) (hd 10 rfl).1 rfl ⟨Below.refl _ _, rfl⟩
      refine zaC r rfl (fun fr1 g w' hk' hd r' => ?_) ?_
      · exact zag tz32 (fun b w2 n2 => ⟨n2.below, b, rfl, n2.eq, _, n2.at_, rfl⟩)
      refine zaC r rfl (fun fr1 g w' hk' hd r' => ?_) ?_
      · obtain ⟨hp, _, c, hc, hn⟩ := (hd 14 rfl).1; exact zaN r' (o := 0) (c := c) (v := (.agg (resC x35.1).toArray)) hp (hd 11 rfl).1 hc ts32 (by rw [hn]; exact Nat.le_of_ble_eq_true rfl) rfl (zhW (hn.trans rfl)) (fun w2 u2 => ⟨u2, rfl⟩)
      refine zaC r rfl (fun fr1 g w' hk' hd r' => ?_) ?_
      · exact za8 r' (v := (I x35.2.1)) (hd 12 rfl).1 ⟨Below.refl _ _, rfl⟩
      refine zaC r rfl (fun fr1 g w' hk' hd r' => ?_) ?_
      · exact za8 r' (v := (.bool x35.2.2.1)) (hd 13 rfl).1 ⟨Below.refl _ _, rfl⟩
      exact zbW
     ·
      intro fr gg w37 hb hΦ hap r
      obtain ⟨v33, hv5⟩ : ∃ v, v = (gg 5).v := ⟨_, rfl⟩
      have g5 : (gg 5).v = v33 := hv5.symm
      have hs5 : Fresh [progK Tryz.prog zne (fu, (D.zbH (fu + 1) (⟨a0, 0, (W (a0.threads - 1))⟩ : Seat) 0 x32)) v33 (rg (gg 5).lo (gg 5).hi)] (gg 5).lo (gg 5).hi w37 := by subst hv5; exact (hΦ 5 rfl).1
      obtain ⟨⟨⟩, g9, hcE, _, hs9⟩ := (hΦ 9 rfl).1
      obtain ⟨b36, ee_b36⟩ : ∃ b, b = (gg 14).lo := ⟨_, rfl⟩
      have g14 : (gg 14).v = (.pointer (some ⟨b36, 0, none⟩)) := by rw [ee_b36]; exact (hΦ 14 rfl).1.1
      have h_b36 : w37.heap[b36]? = some (.cells ((resC x35.1)).toArray 32 (0, 0)) := by rw [ee_b36]; exact (hΦ 15 rfl).1.2
      have hs14 : Fresh [znd b36 ((resC x35.1)).toArray 32] (gg 14).lo (gg 14).hi w37 := by subst ee_b36; exact Fresh.cell (hΦ 14 rfl).1.2.1 h_b36
      have r := r.congr (sc ((hΦ 17 rfl).1) (sc ((hΦ 16 rfl).1) (sc g14 (sc ((hΦ 13 rfl).1) (sc ((hΦ 12 rfl).1) (sc ((hΦ 11 rfl).1) (sc ((hΦ 10 rfl).1) (sc g9 (sc ((hΦ 8 rfl).1) (sc ((hΦ 7 rfl).1) (sc ((hΦ 6 rfl).1) (sc g5 (sc ((hΦ 4 rfl).1) (sc ((hΦ 3 rfl).1) (sc ((hΦ 2 rfl).1) (sc ((hΦ 1 rfl).1) (sc ((hΦ 0 rfl).1) rfl)))))))))))))))))
      have hP : Post No [roK 22 1 u64 a1_v a1, znd b1 ((znc a0)).toArray 25, memK mg19 x35.2.2.2, znd b21 ((seatC (⟨a0, 0, (W (a0.threads - 1))⟩ : Seat))).toArray 29, progK Tryz.prog zne (fu, (D.zbH (fu + 1) (⟨a0, 0, (W (a0.threads - 1))⟩ : Seat) 0 x32)) v33 (rg (gg 5).lo (gg 5).hi), znd b36 ((resC x35.1)).toArray 32] w0 w37 := hP.effL (i := 2) (l := [([progK Tryz.prog zne (fu, (D.zbH (fu + 1) (⟨a0, 0, (W (a0.threads - 1))⟩ : Seat) 0 x32)) v33 (rg (gg 5).lo (gg 5).hi)], (gg 5).lo, (gg 5).hi), ([znd b36 ((resC x35.1)).toArray 32], (gg 14).lo, (gg 14).hi)]) rfl hb hcE rfl rfl ⟨hs5, (hΦ 5 rfl).2.1, (zjV (hap 5 14 rfl) zeZ), ⟨hs14, (hΦ 14 rfl).2.1, zeZ, trivial⟩⟩
      refine wp_seq (wsr (za0 _ r (fun R => za4 r (o := 0) rfl zkX) rfl fun fr r => za0 (I x35.1.e) r (fun R => za3 r rfl (hP.cell (i := 5) rfl) to30 rfl) rfl fun fr r => za0 _ r (fun R => zni r rfl rfl rfl rfl) rfl fun fr r => za0 (I x27.2.2.1) r (fun R => zaa r rfl) rfl fun fr r => za0 _ r (fun R => za4 r (o := 0) rfl zfQ) rfl fun fr r => za0 (I a0.nodes) r (fun R => za3 r rfl (hP.cell (i := 1) rfl) to3 rfl) rfl fun fr r => za0 _ r (fun R => zni r rfl rfl rfl rfl) rfl fun fr r => za0 _ r (fun R => zni r rfl rfl rfl rfl) rfl fun fr r => za0 _ r (fun R => zni r rfl rfl rfl rfl) rfl fun fr r => wn ?_))
      refine wp_cond_split (t := ((x35.1.e == 0) != (decide (x27.2.2.1 < (W (a0.nodes - 1)))))) (r.ev rfl) (fun h38 => ?_) (fun h38 => ?_)
      ·
       have hD := (zap h38).symm.trans hD
       refine wsr (za0 (.bool false) r (fun R => za8 r rfl) rfl fun fr r => wn (wp_ret ?_))
       refine rty29 false _ _ hD fun hD => ?_
       have hv : false = res := Option.some.inj hD
       try dsimp only [Exit.then, Exit.inBlock]
       refine zay (fn := Tryz.f12) r (t := 4) rfl (v := (.bool false)) rfl ?_
       subst hv
       exact ⟨rfl, hP.chg.below⟩
      ·
       have hD := (zak h38).symm.trans hD
       refine wp_skip (wsr (za0 _ r (fun R => za4 r (o := 0) rfl zkX) rfl fun fr r => za0 (I x35.1.e) r (fun R => za3 r rfl (hP.cell (i := 5) rfl) to30 rfl) rfl fun fr r => za0 _ r (fun R => zni r rfl rfl rfl rfl) rfl fun fr r => wn ?_))
       have hP : Post No [roK 22 1 u64 a1_v a1, znd b1 ((znc a0)).toArray 25, memK mg19 x35.2.2.2, znd b21 ((seatC (⟨a0, 0, (W (a0.threads - 1))⟩ : Seat))).toArray 29, znd b36 ((resC x35.1)).toArray 32] w0 w37 := hP.pick [0, 1, 2, 3, 5] rfl rfl
       refine zca (N := 113) (Y := Int) (G := Unit) (fun x γ => [(0, (.agg (znc a0).toArray)), (1, a1_v), (2, (.pointer (some ⟨b1, 0, none⟩))), (30, (.bool x11)), (5, (.pointer (some ⟨mg19.mb, 0, none⟩))), (35, (.bool false)), (6, (.pointer (some ⟨b21, 0, none⟩))), (4, (.bool x27.1)), (8, (I x27.2.2.1)), (44, (.bool (decide (x27.2.2.1 < (a1.length : Int))))), (9, (.pointer (some ⟨b36, 0, none⟩))), (69, (.bool ((x35.1.e == 0) != (decide (x27.2.2.1 < (W (a0.nodes - 1))))))), (72, (.bool (x35.1.e == 0))), (7, (I x))]) (fun x γ w => Post No [roK 22 1 u64 a1_v a1, znd b1 ((znc a0)).toArray 25, memK mg19 x35.2.2.2, znd b21 ((seatC (⟨a0, 0, (W (a0.threads - 1))⟩ : Seat))).toArray 29, znd b36 ((resC x35.1)).toArray 32] w0 w) hD ?_ ?_
       ·
        rintro y39 RPy39 nxy39 hD
        refine wp_cond_split (t := (x35.1.e == 0)) (r.ev rfl) (fun h40 => ?_) (fun h40 => ?_)
        ·
         have hD := (zap h40).symm.trans hD
         refine wp_region_lit (za0 (I x27.2.1) r (fun R => zaa r rfl) rfl fun fr r => za0 _ r (fun R => zni r rfl rfl rfl rfl) rfl fun fr r => za0 (I (W (x27.2.1 + 1))) r (fun R => za8 r rfl) rfl fun fr r => wn ?_)
         exact nxy39 (W (x27.2.1 + 1)) () _ _ _ hD r (za2 rfl (za2 rfl (za2 rfl (za2 rfl (za2 rfl (za2 rfl (za2 rfl (za2 rfl (za2 rfl (za2 rfl (za2 rfl (za2 rfl (za2 rfl (za2 rfl zaT)))))))))))))) (hP.pick [0, 1, 2, 3, 4] rfl rfl)
        ·
         have hD := (zak h40).symm.trans hD
         refine wp_skip ?_
         exact nxy39 x27.2.1 () _ _ _ hD r (za2 rfl (za2 rfl (za2 rfl (za2 rfl (za2 rfl (za2 rfl (za2 rfl (za2 rfl (za2 rfl (za2 rfl (za2 rfl (za2 rfl (za2 rfl (za2 rfl zaT)))))))))))))) (hP.pick [0, 1, 2, 3, 4] rfl rfl)
       ·
        rintro x41 γ42 fr w43 g r hP hD
        have hP : Post No [roK 22 1 u64 a1_v a1, znd b1 ((znc a0)).toArray 25, memK mg19 x35.2.2.2, znd b21 ((seatC (⟨a0, 0, (W (a0.threads - 1))⟩ : Seat))).toArray 29, znd b36 ((resC x35.1)).toArray 32] w0 w43 := hP
        refine wp_region_lit (za0 (I x27.2.2.1) r (fun R => zaa r rfl) rfl fun fr r => za0 _ r (fun R => zni r rfl rfl rfl rfl) rfl fun fr r => za0 (I (W (x27.2.2.1 + 1))) r (fun R => za8 r rfl) rfl fun fr r => wn ?_)
        exact nxy29 (x27.1, x41, (W (x27.2.2.1 + 1)), x35.2.2.2) () _ _ _ hD r (za2 rfl (za2 rfl (za2 rfl (za2 rfl (za2 rfl (za2 rfl (za2 rfl (za2 rfl (za2 rfl (za2 rfl zaT)))))))))) (hP.pick [0, 1, 2, 3] rfl rfl)
    ·
     have hD := (zak h31).symm.trans hD
     refine wp_exit ?_
     exact bky29 (x27.1, x27.2.1, x27.2.2.1, x27.2.2.2) () _ _ _ hD r (za2 rfl (za2 rfl (za2 rfl (za2 rfl (za2 rfl (za2 rfl (za2 rfl (za2 rfl (za2 rfl (za2 rfl zaT)))))))))) (hP.pick [0, 1, 2, 3] rfl rfl)
   ·
    rintro x44 γ45 fr w46 g r hP hD
    have hP : Post No [roK 22 1 u64 a1_v a1, znd b1 ((znc a0)).toArray 25, memK mg19 x44.2.2.2, znd b21 ((seatC (⟨a0, 0, (W (a0.threads - 1))⟩ : Seat))).toArray 29] w0 w46 := hP
    refine wp_seq (wsr (za0 (I 0) r (fun R => za8 r rfl) rfl fun fr r => wn ?_))
    refine ze9 (X := Bool × Int × Mem) (G := Unit) (x0 := (x44.1, 0, x44.2.2.2)) (fun x γ => [(0, (.agg (znc a0).toArray)), (1, a1_v), (2, (.pointer (some ⟨b1, 0, none⟩))), (30, (.bool x11)), (5, (.pointer (some ⟨mg19.mb, 0, none⟩))), (35, (.bool false)), (6, (.pointer (some ⟨b21, 0, none⟩))), (7, (I x44.2.1)), (8, (I x44.2.2.1)), (4, (.bool x.1)), (12, (I x.2.1))]) (fun x γ w => Post No [roK 22 1 u64 a1_v a1, znd b1 ((znc a0)).toArray 25, memK mg19 x.2.2, znd b21 ((seatC (⟨a0, 0, (W (a0.threads - 1))⟩ : Seat))).toArray 29] w0 w) () r (za2 rfl (za2 rfl (za2 rfl (za2 rfl (za2 rfl (za2 rfl (za2 rfl (za2 rfl (za2 rfl (za2 rfl (za2 rfl zaT))))))))))) hP hD ?_ ?_
    ·
     rintro x47 γ48 fr w50 g y49 RPy49 nxy49 bky49 rty49 r hP hD
     have hP : Post No [roK 22 1 u64 a1_v a1, znd b1 ((znc a0)).toArray 25, memK mg19 x47.2.2, znd b21 ((seatC (⟨a0, 0, (W (a0.threads - 1))⟩ : Seat))).toArray 29] w0 w50 := hP
     refine wp_seq (wsr (za0 (I x47.2.1) r (fun R => zaa r rfl) rfl fun fr r => za0 (I x44.2.1) r (fun R => zaa r rfl) rfl fun fr r => za0 _ r (fun R => zni r rfl rfl rfl rfl) rfl fun fr r => wn ?_))
     refine wp_cond_split (t := (decide (x47.2.1 < x44.2.1))) (r.ev rfl) (fun h51 => ?_) (fun h51 => ?_)
     ·
      have hD := (zap h51).symm.trans hD
      refine wp_skip (wp_seq (wp_block (wsr (za0 (.agg (seatC (⟨a0, 0, (W (a0.threads - 1))⟩ : Seat)).toArray) r (fun R => za6 r (cs := (seatC (⟨a0, 0, (W (a0.threads - 1))⟩ : Seat))) (n := 8) rfl (hP.cell (i := 3) rfl) ta29 rfl) rfl fun fr r => ?_))))
      refine za7 r (ziM (F := No) (n := fu) (j := fu + 1) (fun _ h => h.elim) (by omega) (⟨a0, 0, (W (a0.threads - 1))⟩ : Seat) 0) (fun R hc => zac r rfl cl57 hc) rfl ?_
      rintro _ w52 ⟨v53, rfl, hb, hr54⟩
      refine ⟨_, rfl, fun fr r => ?_⟩
      have hP : Post No [roK 22 1 u64 a1_v a1, znd b1 ((znc a0)).toArray 25, memK mg19 x47.2.2, znd b21 ((seatC (⟨a0, 0, (W (a0.threads - 1))⟩ : Seat))).toArray 29, progK Tryz.prog zne (fu, (D.zby (fu + 1) (⟨a0, 0, (W (a0.threads - 1))⟩ : Seat) 0)) v53 (rg w50.heap.size w52.heap.size)] w0 w52 := hP.addProg hb hr54
      refine za0 (.pointer (some ⟨mg19.mb, 0, none⟩)) r (fun R => zaa r rfl) rfl fun fr r => za0 (.pointer (some ⟨mg19.mb, 0, none⟩)) r (fun R => zaa r rfl) rfl fun fr r => ?_
      obtain ⟨x56, hx56, hD⟩ := zau hD
      refine za7 r (zcb w52 x47.2.2 (hP.mem (i := 2) rfl) 0 hx56) (fun R hc => zac r rfl cl31 hc) rfl ?_
      rintro _ w57 ⟨rfl, hb⟩
      refine ⟨_, rfl, fun fr r => ?_⟩
      have hP : Post No [roK 22 1 u64 a1_v a1, znd b1 ((znc a0)).toArray 25, memK mg19 x47.2.2, znd b21 ((seatC (⟨a0, 0, (W (a0.threads - 1))⟩ : Seat))).toArray 29, progK Tryz.prog zne (fu, (D.zby (fu + 1) (⟨a0, 0, (W (a0.threads - 1))⟩ : Seat) 0)) v53 (rg w50.heap.size w52.heap.size)] w0 w57 := hP.below hb
      obtain ⟨x58, hx58, hD⟩ := zau hD
      refine za7 r (zdj w57 (fu, (D.zby (fu + 1) (⟨a0, 0, (W (a0.threads - 1))⟩ : Seat) 0)) x47.2.2 x56 9999 (hP.sep.pk [4, 2] rfl rfl) hx58) (fun R hc => zac r rfl cl29 hc) rfl ?_
      rintro _ w59 ⟨rfl, hq⟩
      refine ⟨_, rfl, fun fr r => ?_⟩
      have hP : Post No [roK 22 1 u64 a1_v a1, znd b1 ((znc a0)).toArray 25, memK mg19 x58.2.2.2, znd b21 ((seatC (⟨a0, 0, (W (a0.threads - 1))⟩ : Seat))).toArray 29, progK Tryz.prog zne (fu, (D.zby (fu + 1) (⟨a0, 0, (W (a0.threads - 1))⟩ : Seat) 0)) v53 (rg w50.heap.size w52.heap.size)] w0 w59 := hP.setN (i := 2) rfl hq
      refine za0 (.tuple #[(.agg (resC x58.1).toArray), (I x58.2.1), (.bool x58.2.2.1)]) r (fun R => zaa r rfl) rfl fun fr r => za0 (.agg (resC x58.1).toArray) r (fun R => zaV r (vs := #[(.agg (resC x58.1).toArray), (I x58.2.1), (.bool x58.2.2.1)]) rfl rfl) rfl fun fr r => za0 (I x58.2.1) r (fun R => zaV r (vs := #[(.agg (resC x58.1).toArray), (I x58.2.1), (.bool x58.2.2.1)]) rfl rfl) rfl fun fr r => za0 (.bool x58.2.2.1) r (fun R => zaV r (vs := #[(.agg (resC x58.1).toArray), (I x58.2.1), (.bool x58.2.2.1)]) rfl rfl) rfl fun fr r => ?_
      refine za5 (.cells ((resC (⟨0, 0⟩ : Res))).toArray 32 (0, 0)) r (fun R => zag tz32) rfl fun fr b60 w61 n62 r => ?_
      have hP : Post No [roK 22 1 u64 a1_v a1, znd b1 ((znc a0)).toArray 25, memK mg19 x58.2.2.2, znd b21 ((seatC (⟨a0, 0, (W (a0.threads - 1))⟩ : Seat))).toArray 29, progK Tryz.prog zne (fu, (D.zby (fu + 1) (⟨a0, 0, (W (a0.threads - 1))⟩ : Seat) 0)) v53 (rg w50.heap.size w52.heap.size), znd b60 ((resC (⟨0, 0⟩ : Res))).toArray 32] w0 w61 := hP.new n62
      refine zae (.cells ((resC x58.1)).toArray 32 (0, 0)) r (fun R => zaN r (o := 0) (v := (.agg (resC x58.1).toArray)) rfl rfl (hP.cell (i := 5) rfl) ts32 (Nat.le_of_ble_eq_true rfl) rfl rfl) rfl fun fr w64 u65 r => ?_
      have hP : Post No [roK 22 1 u64 a1_v a1, znd b1 ((znc a0)).toArray 25, memK mg19 x58.2.2.2, znd b21 ((seatC (⟨a0, 0, (W (a0.threads - 1))⟩ : Seat))).toArray 29, progK Tryz.prog zne (fu, (D.zby (fu + 1) (⟨a0, 0, (W (a0.threads - 1))⟩ : Seat) 0)) v53 (rg w50.heap.size w52.heap.size), znd b60 ((resC x58.1)).toArray 32] w0 w64 := hP.upd (i := 5) rfl u65
      refine za0 (I x58.2.1) r (fun R => za8 r rfl) rfl fun fr r => za0 (.bool x58.2.2.1) r (fun R => za8 r rfl) rfl fun fr r => wn (wp_seq ?_)
      obtain ⟨x66, hx66, hD⟩ := zau hD
      refine zdP [.val (.agg (resC x58.1).toArray), .val a1_v, .val (I x47.2.1), .val (.pointer (some ⟨rowB a1_v, rowO a1_v + x47.2.1.toNat * 1, none⟩)), .val (U x66), .val (.agg (resC (⟨0, x66⟩ : Res)).toArray), .val (.bool (!(x58.1 == (⟨0, x66⟩ : Res))))] mixed r (by kernel_rfl) ?_ ?_
      ·
       refine fc r (fun fr1 g w' hb' hd r' => za6 r' (cs := (resC x58.1)) (n := 2) rfl ((hP.below (dr hb')).cell (i := 5) rfl) ta32 rfl bz) ?_
       refine fc r (fun fr1 g w' hb' hd r' => zaa r' rfl bz) ?_
       refine fc r (fun fr1 g w' hb' hd r' => zaa r' rfl bz) ?_
       refine fc r (fun fr1 g w' hb' hd r' => zcJ r' ((hP.below (dr hb')).ro (i := 0) rfl) hx66 sl49 (hd 1 rfl).1 (hd 2 rfl).1 bz) ?_
       refine fc r (fun fr1 g w' hb' hd r' => zcE r' (u := (U x66)) (RoAt.at_ (f := u64) (x := x66) ((hP.below (dr hb')).ro (i := 0) rfl) (fun _ => rfl) hx66) (hd 3 rfl).1 to22 bz) ?_
       refine fc r (fun fr1 g w' hb' hd r' => zaM r' (v := (.agg (resC (⟨0, x66⟩ : Res)).toArray)) (bs1 (congrArg (fun z => (1, z)) (hd 4 rfl).1) (by kernel_rfl)) bz) ?_
       refine fc r (fun fr1 g w' hb' hd r' => zni r' (hd 0 rfl).1 (hd 5 rfl).1 (run_eqGuard_agg _ _ _ _ _ _ _ eg32) (eqs32 _ _ _).2 bz) ?_
       exact zbW
      ·
       intro fr gg w67 hb hΦ hap r
       have r := r.congr (sc ((hΦ 6 rfl).1) (sc ((hΦ 5 rfl).1) (sc ((hΦ 4 rfl).1) (sc ((hΦ 3 rfl).1) (sc ((hΦ 2 rfl).1) (sc ((hΦ 1 rfl).1) (sc ((hΦ 0 rfl).1) rfl)))))))
       have hP : Post No [roK 22 1 u64 a1_v a1, znd b1 ((znc a0)).toArray 25, memK mg19 x58.2.2.2, znd b21 ((seatC (⟨a0, 0, (W (a0.threads - 1))⟩ : Seat))).toArray 29, progK Tryz.prog zne (fu, (D.zby (fu + 1) (⟨a0, 0, (W (a0.threads - 1))⟩ : Seat) 0)) v53 (rg w50.heap.size w52.heap.size), znd b60 ((resC x58.1)).toArray 32] w0 w67 := hP.below hb
       refine wp_cond_split (t := (!(x58.1 == (⟨0, x66⟩ : Res)))) (r.ev rfl) (fun h68 => ?_) (fun h68 => ?_)
       ·
        have hD := (zap h68).symm.trans hD
        refine wsr (za0 (.bool false) r (fun R => za8 r rfl) rfl fun fr r => wn (wp_ret ?_))
        refine rty49 false _ _ hD fun hD => ?_
        have hv : false = res := Option.some.inj hD
        try dsimp only [Exit.then, Exit.inBlock]
        refine zay (fn := Tryz.f12) r (t := 4) rfl (v := (.bool false)) rfl ?_
        subst hv
        exact ⟨rfl, hP.chg.below⟩
       ·
        have hD := (zak h68).symm.trans hD
        refine wp_skip ?_
        refine wp_region_lit (za0 (I x47.2.1) r (fun R => zaa r rfl) rfl fun fr r => za0 _ r (fun R => zni r rfl rfl rfl rfl) rfl fun fr r => za0 (I (W (x47.2.1 + 1))) r (fun R => za8 r rfl) rfl fun fr r => wn ?_)
        exact nxy49 (x47.1, (W (x47.2.1 + 1)), x58.2.2.2) () _ _ _ hD r (za2 rfl (za2 rfl (za2 rfl (za2 rfl (za2 rfl (za2 rfl (za2 rfl (za2 rfl (za2 rfl (za2 rfl (za2 rfl zaT))))))))))) (hP.pick [0, 1, 2, 3] rfl rfl)
     ·
      have hD := (zak h51).symm.trans hD
      refine wp_exit ?_
      exact bky49 (x47.1, x47.2.1, x47.2.2) () _ _ _ hD r (za2 rfl (za2 rfl (za2 rfl (za2 rfl (za2 rfl (za2 rfl (za2 rfl (za2 rfl (za2 rfl (za2 rfl (za2 rfl zaT))))))))))) (hP.pick [0, 1, 2, 3] rfl rfl)
    ·
     rintro x69 γ70 fr w71 g r hP hD
     have hP : Post No [roK 22 1 u64 a1_v a1, znd b1 ((znc a0)).toArray 25, memK mg19 x69.2.2, znd b21 ((seatC (⟨a0, 0, (W (a0.threads - 1))⟩ : Seat))).toArray 29] w0 w71 := hP
     refine wsr (za0 (.agg (seatC (⟨a0, 0, (W (a0.threads - 1))⟩ : Seat)).toArray) r (fun R => za6 r (cs := (seatC (⟨a0, 0, (W (a0.threads - 1))⟩ : Seat))) (n := 8) rfl (hP.cell (i := 3) rfl) ta29 rfl) rfl fun fr r => ?_)
     refine za7 r (ziM (F := No) (n := fu) (j := fu + 1) (fun _ h => h.elim) (by omega) (⟨a0, 0, (W (a0.threads - 1))⟩ : Seat) 0) (fun R hc => zac r rfl cl57 hc) rfl ?_
     rintro _ w72 ⟨v73, rfl, hb, hr74⟩
     refine ⟨_, rfl, fun fr r => ?_⟩
     have hP : Post No [roK 22 1 u64 a1_v a1, znd b1 ((znc a0)).toArray 25, memK mg19 x69.2.2, znd b21 ((seatC (⟨a0, 0, (W (a0.threads - 1))⟩ : Seat))).toArray 29, progK Tryz.prog zne (fu, (D.zby (fu + 1) (⟨a0, 0, (W (a0.threads - 1))⟩ : Seat) 0)) v73 (rg w71.heap.size w72.heap.size)] w0 w72 := hP.addProg hb hr74
     refine za0 (.pointer (some ⟨mg19.mb, 0, none⟩)) r (fun R => zaa r rfl) rfl fun fr r => za0 (.pointer (some ⟨mg19.mb, 0, none⟩)) r (fun R => zaa r rfl) rfl fun fr r => ?_
     obtain ⟨x76, hx76, hD⟩ := zau hD
     refine za7 r (zcb w72 x69.2.2 (hP.mem (i := 2) rfl) 0 hx76) (fun R hc => zac r rfl cl31 hc) rfl ?_
     rintro _ w77 ⟨rfl, hb⟩
     refine ⟨_, rfl, fun fr r => ?_⟩
     have hP : Post No [roK 22 1 u64 a1_v a1, znd b1 ((znc a0)).toArray 25, memK mg19 x69.2.2, znd b21 ((seatC (⟨a0, 0, (W (a0.threads - 1))⟩ : Seat))).toArray 29, progK Tryz.prog zne (fu, (D.zby (fu + 1) (⟨a0, 0, (W (a0.threads - 1))⟩ : Seat) 0)) v73 (rg w71.heap.size w72.heap.size)] w0 w77 := hP.below hb
     obtain ⟨x78, hx78, hD⟩ := zau hD
     refine za7 r (zdj w77 (fu, (D.zby (fu + 1) (⟨a0, 0, (W (a0.threads - 1))⟩ : Seat) 0)) x69.2.2 x76 99 (hP.sep.pk [4, 2] rfl rfl) hx78) (fun R hc => zac r rfl cl29 hc) rfl ?_
     rintro _ w79 ⟨rfl, hq⟩
     refine ⟨_, rfl, fun fr r => ?_⟩
     have hP : Post No [roK 22 1 u64 a1_v a1, znd b1 ((znc a0)).toArray 25, memK mg19 x78.2.2.2, znd b21 ((seatC (⟨a0, 0, (W (a0.threads - 1))⟩ : Seat))).toArray 29, progK Tryz.prog zne (fu, (D.zby (fu + 1) (⟨a0, 0, (W (a0.threads - 1))⟩ : Seat) 0)) v73 (rg w71.heap.size w72.heap.size)] w0 w79 := hP.setN (i := 2) rfl hq
     refine za0 (.tuple #[(.agg (resC x78.1).toArray), (I x78.2.1), (.bool x78.2.2.1)]) r (fun R => zaa r rfl) rfl fun fr r => za0 (.agg (resC x78.1).toArray) r (fun R => zaV r (vs := #[(.agg (resC x78.1).toArray), (I x78.2.1), (.bool x78.2.2.1)]) rfl rfl) rfl fun fr r => za0 (I x78.2.1) r (fun R => zaV r (vs := #[(.agg (resC x78.1).toArray), (I x78.2.1), (.bool x78.2.2.1)]) rfl rfl) rfl fun fr r => za0 (.bool x78.2.2.1) r (fun R => zaV r (vs := #[(.agg (resC x78.1).toArray), (I x78.2.1), (.bool x78.2.2.1)]) rfl rfl) rfl fun fr r => ?_
     refine za5 (.cells ((resC (⟨0, 0⟩ : Res))).toArray 32 (0, 0)) r (fun R => zag tz32) rfl fun fr b80 w81 n82 r => ?_
     have hP : Post No [roK 22 1 u64 a1_v a1, znd b1 ((znc a0)).toArray 25, memK mg19 x78.2.2.2, znd b21 ((seatC (⟨a0, 0, (W (a0.threads - 1))⟩ : Seat))).toArray 29, progK Tryz.prog zne (fu, (D.zby (fu + 1) (⟨a0, 0, (W (a0.threads - 1))⟩ : Seat) 0)) v73 (rg w71.heap.size w72.heap.size), znd b80 ((resC (⟨0, 0⟩ : Res))).toArray 32] w0 w81 := hP.new n82
     refine zae (.cells ((resC x78.1)).toArray 32 (0, 0)) r (fun R => zaN r (o := 0) (v := (.agg (resC x78.1).toArray)) rfl rfl (hP.cell (i := 5) rfl) ts32 (Nat.le_of_ble_eq_true rfl) rfl rfl) rfl fun fr w84 u85 r => ?_
     have hP : Post No [roK 22 1 u64 a1_v a1, znd b1 ((znc a0)).toArray 25, memK mg19 x78.2.2.2, znd b21 ((seatC (⟨a0, 0, (W (a0.threads - 1))⟩ : Seat))).toArray 29, progK Tryz.prog zne (fu, (D.zby (fu + 1) (⟨a0, 0, (W (a0.threads - 1))⟩ : Seat) 0)) v73 (rg w71.heap.size w72.heap.size), znd b80 ((resC x78.1)).toArray 32] w0 w84 := hP.upd (i := 5) rfl u85
     refine za0 (I x78.2.1) r (fun R => za8 r rfl) rfl fun fr r => za0 (.bool x78.2.2.1) r (fun R => za8 r rfl) rfl fun fr r => wn (wp_seq ?_)
     have hP : Post No [roK 22 1 u64 a1_v a1, znd b1 ((znc a0)).toArray 25, memK mg19 x78.2.2.2, znd b21 ((seatC (⟨a0, 0, (W (a0.threads - 1))⟩ : Seat))).toArray 29, znd b80 ((resC x78.1)).toArray 32] w0 w84 := hP.pick [0, 1, 2, 3, 5] rfl rfl
     refine zca (N := 113) (Y := Bool) (G := Unit) (fun x γ => [(0, (.agg (znc a0).toArray)), (1, a1_v), (2, (.pointer (some ⟨b1, 0, none⟩))), (30, (.bool x11)), (5, (.pointer (some ⟨mg19.mb, 0, none⟩))), (35, (.bool false)), (6, (.pointer (some ⟨b21, 0, none⟩))), (7, (I x44.2.1)), (8, (I x44.2.2.1)), (12, (I x69.2.1)), (16, (.pointer (some ⟨b80, 0, none⟩))), (18, (.bool x78.2.2.1)), (4, (.bool x))]) (fun x γ w => Post No [roK 22 1 u64 a1_v a1, znd b1 ((znc a0)).toArray 25, memK mg19 x78.2.2.2, znd b21 ((seatC (⟨a0, 0, (W (a0.threads - 1))⟩ : Seat))).toArray 29, znd b80 ((resC x78.1)).toArray 32] w0 w) hD ?_ ?_
     ·
      rintro y86 RPy86 nxy86 hD
      refine wp_region_lit (za0 (.bool x78.2.2.1) r (fun R => zaa r rfl) rfl fun fr r => za0 (.bool x78.2.2.1) r (fun R => zaa r rfl) rfl fun fr r => ?_)
      refine zaI x78.2.2.1 (fun h87 => ?_) (fun h87 => ?_)
      ·
       have hD := (zap h87).symm.trans hD
       refine s1 r h87 (za0 (.agg (resC x78.1).toArray) r (fun R => za6 r (cs := (resC x78.1)) (n := 2) rfl (hP.cell (i := 4) rfl) ta32 rfl) rfl fun fr r => s1 r h87 (za0 (.agg (resC (⟨6, 0⟩ : Res)).toArray) r (fun R => zaM r (by kernel_rfl)) rfl fun fr r => s1 r h87 (za0 _ r (fun R => zni r rfl rfl (run_eqGuard_agg _ _ _ _ _ _ _ eg32) (eqs32 _ _ _).1) rfl fun fr r => za0 (.bool (x78.1 == (⟨6, 0⟩ : Res))) r (fun R => zaq r (b := true) (congrArg Value.bool h87) rfl) rfl fun fr r => za0 (.bool (x78.1 == (⟨6, 0⟩ : Res))) r (fun R => za8 r rfl) rfl fun fr r => wn ?_)))
       exact nxy86 (x78.1 == (⟨6, 0⟩ : Res)) () _ _ _ hD r (za2 rfl (za2 rfl (za2 rfl (za2 rfl (za2 rfl (za2 rfl (za2 rfl (za2 rfl (za2 rfl (za2 rfl (za2 rfl (za2 rfl (za2 rfl zaT))))))))))))) (hP.pick [0, 1, 2, 3, 4] rfl rfl)
      ·
       have hD := (zak h87).symm.trans hD
       refine s0 r h87 fun fr r => s0 r h87 fun fr r => s0 r h87 fun fr r => za0 (.bool false) r (fun R => zaq r (b := false) (congrArg Value.bool h87) rfl) rfl fun fr r => za0 (.bool false) r (fun R => za8 r rfl) rfl fun fr r => wn ?_
       exact nxy86 false () _ _ _ hD r (za2 rfl (za2 rfl (za2 rfl (za2 rfl (za2 rfl (za2 rfl (za2 rfl (za2 rfl (za2 rfl (za2 rfl (za2 rfl (za2 rfl (za2 rfl zaT))))))))))))) (hP.pick [0, 1, 2, 3, 4] rfl rfl)
     ·
      rintro x88 γ89 fr w90 g r hP hD
      have hP : Post No [roK 22 1 u64 a1_v a1, znd b1 ((znc a0)).toArray 25, memK mg19 x78.2.2.2, znd b21 ((seatC (⟨a0, 0, (W (a0.threads - 1))⟩ : Seat))).toArray 29, znd b80 ((resC x78.1)).toArray 32] w0 w90 := hP
      refine wp_ret ?_
      have hv : x88 = res := Option.some.inj hD
      try dsimp only [Exit.then, Exit.inBlock]
      refine zay (fn := Tryz.f12) r (t := 4) rfl (v := (.bool x88)) rfl ?_
      subst hv
      exact ⟨rfl, hP.chg.below⟩

end Go.Proofs.YtjkinpbfmihhdaaGreat.Wk

/- QueueOrder: what the walk found answers as the law says. -/
set_option linter.unusedVariables false
namespace Go.Proofs.YtjkinpbfmihhdaaGreat
open Go.RowKit
theorem zmh : D.zcj 4000 = some true := by decide +kernel

theorem zlZ {p : Plan} (h : D.zb5 p = true) : PF p ∧ (p.nodes ≤ 40 ∧ p.retire ≤ 40 ∧ p.domains ≤ 6 ∧ p.buckets ≤ 10) ∧ 0 < p.domains := by
  unfold D.zb5 at h
  cases h1 : D.zb9 p <;> rw [h1] at h
  · cases h
  cases h2 : D.zar p <;> rw [h2] at h
  · cases h
  have hp := zjf h2
  exact ⟨hp, zmM hp h1, by simpa using h⟩

/-- Nodes a, a+1, .. -/
def sq (a k : Nat) : List Int := (List.range' a k).map fun (q : Nat) => (q : Int)

theorem zlS (a k : Nat) : sq a (k + 1) = (a : Int) :: sq (a + 1) k := by
  unfold sq
  rw [List.range'_succ, List.map_cons]

theorem zn1 {p : Plan} (hp : PF p) (hfw : p.nodes ≤ 40 ∧ p.retire ≤ 40 ∧ p.domains ≤ 6 ∧ p.buckets ≤ 10) (hdm : 0 < p.domains) {t : Int} (ht : 0 ≤ t ∧ t < p.threads) (l : List Int) :
    ∃ M st, D.zc7 4000 p = some M ∧ QAt p t M.ws ⟨sq 1 (p.nodes.toNat - 1), [], st⟩ 1 0 0 l := by
  obtain ⟨M, hM, hL⟩ := zmt hp hfw (fu := 4000) (by omega)
  obtain ⟨z1, z2, z3, z4⟩ := hz_in hp
  have h4 := haz4 hp hdm
  have hn1 := hp.n1
  have hl := hL.len
  have hP := PoolAt.start hp hL ht
  have hall : allN p = (0 : Int) :: sq 1 (p.nodes.toNat - 1) := by
    have : allN p = sq 0 (p.nodes.toNat - 1 + 1) := by unfold allN sq; rw [show p.nodes.toNat - 1 + 1 = p.nodes.toNat from by omega]
    rw [this, zlS]; rfl
  rw [hall] at hP
  obtain ⟨w1, hr1, hl1, hF1, hst1, ho1⟩ := zjI hp (t := 0) (k := 1) hP.free (by omega) (by omega) (hP.st 0 (by omega) (by omega)) (by omega) 4000
  have hP1 := hP.took hp ht (k := 1) (by omega) hl1 hF1 hst1 ho1
  have hfp : ∀ q f, fp p q f = D.za9 p + q * 5 + 2 + f := fun q f => rfl
  have hin : 0 ≤ (0 : Int) ∧ (0 : Int) < p.nodes := by omega
  generalize hv : (w1.set (2 : Int).toNat 1).set (3 : Int).toNat 1 = v
  have hvl : v.length = w1.length := by rw [← hv]; simp
  have hvr : ∀ j, 0 ≤ j → rd v j = if j = 3 then 1 else if j = 2 then 1 else rd w1 j := fun j hj => by
    rw [← hv, zbw (by omega) (by rw [List.length_set]; omega) hj, zbw (by omega) (by omega) hj]
  have hR : Runs (D.zcL 4001 ⟨p, 0, 0⟩ 0) M.ws 7 ⟨0, 0⟩ v := by
    unfold D.zcL
    rw [at_q hp hdm]
    unfold D.zbM
    refine (Runs.bind (g := fun x => D.zb2 (fun x => D.zf0 ⟨⟨p, 0, 0⟩, 2, 3⟩ x) x) hr1 (m := 2) ?_)
    unfold D.zb2
    rw [show ((0 : Int) != 0) = false from rfl]
    simp only [cond_false]
    unfold D.zf0
    rw [qword (by omega) (by omega)]
    refine zgZ (n := 1) (by simp only; omega) (by simp only; omega) ?_
    unfold D.zff
    rw [qword (by omega) (by omega)]
    refine zgZ (n := 0) (by simp only; omega) (by simp only [List.length_set]; omega) ?_
    unfold D.zem D.zdD
    have : ((w1.set (2 : Int).toNat (0 + 1)).set (3 : Int).toNat (0 + 1)) = v := hv
    simp only
    rw [this]
    exact .done _ _
  obtain ⟨c, hc⟩ := runR (fu := 4000) (most := 99) (M := M) hR (by omega) (by omega) (by omega)
  have hPv := hP1.beside hp ht (fun j => j = 3 ∨ j = 2) (ws' := v) (fun j hj => .inl (by omega)) hvl fun j hj hne => by rw [hvr j hj, if_neg fun e => hne (.inl e), if_neg fun e => hne (.inr e)]
  refine ⟨⟨v, c⟩, _, ?_, hPv, Nat.le_refl _, by omega, fun q q0 q1 => ?_, ?_, ?_, fun q q0 q1 => by omega, ?_, fun q q0 q1 => by omega⟩
  · unfold D.zc7
    rw [hM]
    simp only [Option.bind_some, zjW]
    rw [hc]
    rfl
  · have e : q = 0 := by omega
    subst e
    exact ⟨(List.nodup_cons.1 hP.free.nodup).1, List.not_mem_nil⟩
  · show rd v 2 = _
    rw [hvr 2 (by omega), if_neg (by omega), if_pos rfl]; rfl
  · show rd v 3 = _
    rw [hvr 3 (by omega), if_pos rfl]; rfl
  · show rd v _ = 0
    rw [hvr _ (by rw [hfp]; omega), if_neg (by rw [hfp]; omega), if_neg (by rw [hfp]; omega), ho1 _ (by rw [hfp]; omega) (by rw [hfp]; unfold sp; omega)]
    exact hP.zero 0 2 (List.mem_cons_self ..) (by omega) (by omega)

theorem ziC (p : Plan) (l : List Int) (_ : -9223372036854775808 ≤ p.nodes ∧ p.nodes ≤ 9223372036854775807) (_ : -9223372036854775808 ≤ p.threads ∧ p.threads ≤ 9223372036854775807)
    (_ : -9223372036854775808 ≤ p.retire ∧ p.retire ≤ 9223372036854775807) (_ : -9223372036854775808 ≤ p.domains ∧ p.domains ≤ 9223372036854775807) (_ : -9223372036854775808 ≤ p.buckets ∧ p.buckets ≤ 9223372036854775807)
    (_ : -9223372036854775808 ≤ p.gen ∧ p.gen ≤ 9223372036854775807) (hb : ∀ n, n ∈ l → 0 ≤ n ∧ n ≤ 18446744073709551615) : ∃ fu, Wk.D.zc4 fu p l = some true := by
  refine ⟨4000, ?_⟩
  unfold Wk.D.zc4
  rw [zmh]
  simp only [Option.bind_some, Bool.not_true, cond_false]
  cases hfw : D.zb5 p
  case false => rfl
  simp only [Bool.not_true, cond_false, Option.bind_some]
  cases hl : decide ((l.length : Int) > 60)
  case true => rfl
  simp only [decide_eq_false_iff_not] at hl
  simp only [cond_false]
  obtain ⟨hp, hfw, hdm⟩ := zlZ hfw
  have ht1 := hp.t1
  have ht2 := hp.t2
  have hn1 := hp.n1
  rw [zaY (show -1000000 ≤ p.threads - 1 by omega) (by omega), zaY (show -1000000 ≤ p.nodes - 1 by omega) (by omega)]
  generalize htd : p.threads - 1 = t
  have ht : 0 ≤ t ∧ t < p.threads := by omega
  obtain ⟨N, hN⟩ : ∃ N : Nat, p.nodes = (N : Int) + 1 := ⟨(p.nodes - 1).toNat, by omega⟩
  obtain ⟨M, st0, hM, hQ0⟩ := zn1 hp hfw hdm ht l
  rw [hM]
  simp only [Option.bind_some]
  refine zkW (fun o => o = some true) (fun (i : Nat) (x : Bool × Int × Int × Mem) => x.2.2.1 = (i : Int) ∧ x.2.1 = ((min i N : Nat) : Int) ∧ ∃ st g, g ≤ (i : Int) + 1 ∧ QAt p t x.2.2.2.ws ⟨sq (min i N + 1) (N - min i N), [], st⟩ g 0 (min i N) l) l.length 4000
    ⟨rfl, by simp, st0, 1, by omega, ?_⟩ (by omega) ?_ ?_
  · rw [show min 0 N = 0 from by omega]
    rw [show p.nodes.toNat - 1 = N - 0 from by omega] at hQ0
    exact hQ0
  · rintro i ⟨b, x, y, M1⟩ hi ⟨rfl, rfl, st, g, hg, hQ⟩
    simp only at hg hQ ⊢
    rw [show decide ((i : Int) < (l.length : Int)) = true from by simp; omega]
    simp only [cond_true]
    rw [zkV hi]
    simp only [Option.bind_some, zjW]
    by_cases hlt : i < N
    · rw [show min i N = i from by omega] at hQ ⊢
      obtain ⟨k, hk⟩ : ∃ k, N - i = k + 1 := ⟨N - i - 1, by omega⟩
      rw [hk, zlS] at hQ
      obtain ⟨m, ws', st', hm, hr, hQ'⟩ := QAt.enq (rest := sq (i + 1 + 1) k) (n := i) hp hdm hfw.1 hfw.2.1 ht (by simpa using hQ) 4000 (by omega) (by omega)
      rw [show l.getD i 0 = l[i] from by simp [hi]] at hr
      obtain ⟨c, hc⟩ := runR (fu := 4000) (most := 99) (M := M1) hr (by omega) (by omega) (by omega)
      rw [hc]
      simp only [Option.bind_some]
      rw [show decide ((i : Int) < p.nodes - 1) = true from by simp; omega]
      rw [show (((0 : Int) == 0) != true) = false from rfl, show ((0 : Int) == 0) = true from rfl]
      simp only [cond_false, cond_true, Option.bind_some]
      rw [zaY (show -1000000 ≤ (i : Int) + 1 by omega) (by omega)]
      refine ⟨_, rfl, by simp, by rw [show min (i + 1) N = i + 1 from by omega]; simp, st', g + 1, by simp only [Int.natCast_add, Int.natCast_one]; omega, ?_⟩
      rw [show min (i + 1) N = i + 1 from by omega, show N - (i + 1) = k from by omega]
      exact hQ'
    · rw [show min i N = N from by omega] at hQ ⊢
      rw [show N - N = 0 from by omega, show sq (N + 1) 0 = [] from rfl] at hQ
      obtain ⟨m, ws', g', hm, hg', hr, hQ'⟩ := hQ.full hp hdm hfw.1 hfw.2.1 ht 4000 (by omega) (by omega) l[i]
      obtain ⟨c, hc⟩ := runR (fu := 4000) (most := 99) (M := M1) hr (by omega) (by omega) (by omega)
      rw [hc]
      simp only [Option.bind_some]
      rw [show decide ((i : Int) < p.nodes - 1) = false from by simp; omega]
      rw [show (((4 : Int) == 0) != false) = false from rfl, show ((4 : Int) == 0) = false from rfl]
      simp only [cond_false, Option.bind_some]
      rw [zaY (show -1000000 ≤ (i : Int) + 1 by omega) (by omega)]
      refine ⟨_, rfl, by simp, by rw [show min (i + 1) N = N from by omega], st, g', by simp only [Int.natCast_add, Int.natCast_one]; omega, ?_⟩
      rw [show min (i + 1) N = N from by omega, show N - N = 0 from by omega]
      exact hQ'
  rintro ⟨b, x, y, M1⟩ ⟨rfl, rfl, st, g, hg, hQ⟩
  simp only at hg hQ ⊢
  rw [show decide ((l.length : Int) < (l.length : Int)) = false from by simp]
  refine ⟨_, rfl, ?_⟩
  simp only
  generalize hn : min l.length N = n at hQ
  have hnl : n ≤ l.length := by omega
  refine zkW (fun o => o = some true) (fun (i : Nat) (x : Bool × Int × Mem) => x.2.1 = (i : Int) ∧ ∃ P g', g' ≤ g + 40 * (i : Int) ∧ QAt p t x.2.2.ws P g' i n l) n 4000 ⟨rfl, _, g, by omega, hQ⟩ (by omega) ?_ ?_
  · rintro i ⟨b, x, M2⟩ hi ⟨rfl, P, g', hg', hQ'⟩
    simp only at hg' hQ' ⊢
    rw [show decide ((i : Int) < (n : Int)) = true from by simp; omega]
    simp only [cond_true, zjW, Option.bind_some]
    obtain ⟨m, ws', P', g2, hm, hg2, hr, hQ2⟩ := hQ'.deq hp hdm hfw.1 hfw.2.1 ht 4000 (by omega) (by omega) hi
    have hil : i < l.length := by omega
    rw [show l.getD i 0 = l[i] from by simp [hil]] at hr
    obtain ⟨c, hc⟩ := runR (fu := 4000) (most := 9999) (M := M2) hr (by omega) (by omega) (by omega)
    rw [hc]
    simp only [Option.bind_some]
    rw [zkV hil]
    simp only [Option.bind_some, beq_self_eq_true, Bool.not_true, cond_false]
    rw [zaY (show -1000000 ≤ (i : Int) + 1 by omega) (by omega)]
    exact ⟨_, rfl, by simp, P', g2, by simp only [Int.natCast_add, Int.natCast_one]; omega, hQ2⟩
  · rintro ⟨b, x, M2⟩ ⟨rfl, P, g', hg', hQ'⟩
    simp only at hg' hQ' ⊢
    rw [show decide ((n : Int) < (n : Int)) = false from by simp]
    refine ⟨_, rfl, ?_⟩
    simp only [zjW, Option.bind_some]
    obtain ⟨ws', hr⟩ := hQ'.empty hp hdm hfw.1 hfw.2.1 ht 4000 rfl
    obtain ⟨c, hc⟩ := runR (fu := 4000) (most := 99) (M := M2) hr (by omega) (by omega) (by omega)
    rw [hc]
    rfl

end Go.Proofs.YtjkinpbfmihhdaaGreat

/- A law's row from what its walk hands back: arguments opened. -/
namespace Go.Proofs.YtjkinpbfmihhdaaGreat
open Go.ChangeShapes Go.WideShapes Go.RowKit Go.Deep Go.ChangeAt
section
variable {H : Type} {enc : TypeId × Value → H} {P : Program} {w : World} {base : Nat} {spare : Nat → Bool} {held : Bool}
theorem zkA {α : Type} {l : List α} {j : Nat} (h : j < l.length) : (l.drop j).take 1 = [l[j]] := by
  rw [List.drop_eq_getElem_cons h]
  rfl

/-- A struct by value whose fields are integers, of whatever number. -/
theorem zjZ {r : Reach} {b0 : Nat} {t : TypeId} {fs : Array Go.Field} {v : Value} {d : DataW H} {p : List MemPlace} (ks : List IntKind) (hs : P.underlying t = some (.struct fs)) (hone : oneCellFields P fs = true)
    (hC : P.cellsOf t = fs.size) (hk : fs.toList.map (fun f => P.underlying f.type) = ks.map fun k => some (.int k))
    (hv : Value.okWide P w r b0 t v) (h : DataW.Trod enc P w base spare held t v d p) :
    ∃ ns : List Int, v = .agg (List.zipWith Value.int ks ns).toArray ∧ ns.length = ks.length ∧ ∀ q, q ∈ List.zip ks ns → (Lit.int q.1 q.2).wf = true := by
  obtain ⟨cs, rfl, hsz⟩ := okWide_struct hs hv
  obtain ⟨fuel, hf⟩ := h
  obtain ⟨xs, n, _, hx, hl, hlen, hfs⟩ := DataW.trod_struct hs hf
  have hkl : ks.length = fs.size := by
    have := congrArg List.length hk
    simpa using this.symm
  have hcl : cs.size = fs.size := hsz.trans hC
  have hat : ∀ j (hj : j < cs.size), ∃ (k : IntKind) (m : Int), ks[j]? = some k ∧ cs[j] = .int k m ∧ (Lit.int k m).wf = true := by
    intro j hj
    have hjf : fs[j]? = some fs[j] := by simp
    obtain ⟨ho, hc⟩ := hone_of hone j _ hjf
    have h1 := hfs j _ hjf
    rw [ho, hc] at h1
    have hcs : ((Value.agg cs).cells.toList.drop j).take 1 = [cs[j]] := by
      have := zkA (l := cs.toList) (j := j) (by simpa using hj)
      simpa [Value.cells] using this
    rw [hcs] at h1
    have hxs : xs[j]? = some (xs[j]'(by omega)) := by simp
    rw [hxs] at h1
    have hu : (fs.toList.map (fun f => P.underlying f.type))[j]? = some (P.underlying fs[j].type) := by simp [hjf]
    rw [hk] at hu
    obtain ⟨k, hk1, hk2⟩ : ∃ k, ks[j]? = some k ∧ some (.int k) = P.underlying fs[j].type := by
      simpa using hu
    obtain ⟨m, hm, _, hw⟩ := DataW.trod_int hk2.symm h1
    exact ⟨k, m, hk1, by simpa using hm, hw⟩
  refine ⟨cs.toList.map intOf, ?_, by simp; omega, ?_⟩
  · congr 1
    apply Array.ext_getElem?
    intro j
    rcases Nat.lt_or_ge j cs.size with hj | hj
    · obtain ⟨k, m, h1, h2, _⟩ := hat j hj
      simp [List.getElem?_zipWith, h1, hj, h2, intOf]
    · simp [List.getElem?_zipWith, hj]
  · intro q hq
    obtain ⟨j, hj, he⟩ := List.mem_iff_getElem.1 hq
    simp only [List.length_zip, List.length_map, Array.length_toList] at hj
    obtain ⟨k, m, h1, h2, h3⟩ := hat j (by omega)
    have hk3 : ks[j]'(by omega) = k := by
      have := List.getElem?_eq_getElem (l := ks) (i := j) (by omega)
      rw [h1] at this
      exact (Option.some.inj this).symm
    simp only [List.getElem_zip, List.getElem_map] at he
    rw [← he]
    simp only [hk3, Array.getElem_toList, h2, intOf]
    exact h3

end
theorem list6 {α : Type} {l : List α} (h : l.length = 6) : ∃ x0 x1 x2 x3 x4 x5, l = [x0, x1, x2, x3, x4, x5] := by
  match l, h with
  | [x0, x1, x2, x3, x4, x5], _ => exact ⟨x0, x1, x2, x3, x4, x5, rfl⟩

theorem laidOut : laidOutB Tryz.prog = true := by kernel_rfl

end Go.Proofs.YtjkinpbfmihhdaaGreat

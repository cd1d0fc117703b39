/- Some of our texts, one behind the other. -/
import Derived.Test.YtbbipmelhmgmfaaFmM7
import Derived.Test.YtbbipmelhmgmfaaFmLawFM
import Derived.WalkKit
import Derived.ProofKit
import Derived.OpenShut
import Derived.ShutString
import Derived.ChangeOld
import Derived.Below
import Derived.Carry
import Derived.SizedLaws
import Derived.Deep.Slices
import Derived.Deep.Fields
import Derived.ChangeSame
import Derived.Test.YtbbipmelhmgmfaaRows
import Derived.ChangeSlices
import Derived.Test.YtbbipmelhmgmfaaFmM2
set_option linter.all false
/- Threads that pop and push: what a pick does, and what stays. -/
set_option linter.unusedVariables false
namespace Go.Proofs.Ytbbipmelhmgmfaa
open Go.RowKit
theorem step_went {fu d : Nat} {t : T Int} {M : Mem} {x : Int} {ws' : List Int} (h : went t M.ws = .went x ws') : ∃ c, D.prog_Prog_int_Step fu (d + 1, t) M cap0 = some ((d, t.next x), true, ⟨ws', c⟩) := by
  obtain ⟨op, at_, a, b, k, rfl, h1, h2, rfl⟩ := went_went h
  exact stepG_ok h1 h2

/-- A thread's program is asked, and what comes of it. -/
def restF (fu : Nat) (p : Plan) (pops : List Bool) (at_ : Int) (pop : Bool) (x : Nat × T Int) (mine : List Int) (M : Mem) : Option (Bool × TH9 × Mem) :=
  (D.prog_Prog_int_Step fu x M cap0).bind fun y => bif !y.2.1 then some (false, (pops, at_, true, pop, x, mine), y.2.2) else
    (D.prog_Prog_int_Over fu y.1).bind fun z => bif !z.2 then some (true, (pops, at_, true, pop, y.1, mine), y.2.2) else
      bif pop then
        (bif decide (z.1 ≥ 0) then ((appD mine [z.1]).bind fun m2 => bif decide (z.1 ≥ (-1)) then some (decide (z.1 < p.nodes), (pops, at_, false, pop, y.1, m2), y.2.2) else some (false, (pops, at_, false, pop, y.1, m2), y.2.2))
        else (bif decide (z.1 ≥ (-1)) then some (decide (z.1 < p.nodes), (pops, at_, false, pop, y.1, mine), y.2.2) else some (false, (pops, at_, false, pop, y.1, mine), y.2.2)))
      else ((getI mine (IntKind.i64.wrap ((mine.length : Int) - 1))).bind fun n => (sliceD mine 0 (IntKind.i64.wrap ((mine.length : Int) - 1))).bind fun m2 => some ((z.1 == n), (pops, at_, false, pop, y.1, m2), y.2.2))

theorem pick_eq (fu : Nat) (pops : List Bool) (at_ : Int) (busy pop : Bool) (x : Nat × T Int) (mine : List Int) (p : Plan) (M : Mem) : Wk.D.cubiclelaw09_Thread_pick fu (pops, at_, busy, pop, x, mine) p M =
    bif busy then (liveI x).bind fun _ => restF fu p pops at_ pop x mine M
    else bif decide (at_ ≥ (pops.length : Int)) then some (true, (pops, at_, false, pop, x, mine), M) else
      (getI pops at_).bind fun b => bif b then restF fu p pops (IntKind.i64.wrap (at_ + 1)) true (fu, D.free_Pop (fu + 1) p) mine M
        else bif ((mine.length : Int) == 0) then some (true, (pops, IntKind.i64.wrap (at_ + 1), false, b, x, mine), M)
        else (getI mine (IntKind.i64.wrap ((mine.length : Int) - 1))).bind fun n => restF fu p pops (IntKind.i64.wrap (at_ + 1)) false (fu, D.free_Push (fu + 1) p n) mine M := by
  cases busy
  · unfold Wk.D.cubiclelaw09_Thread_pick
    simp only [Bool.not_false, cond_true, cond_false]
    congr 1
    refine congrArg (Option.bind _) (funext fun b => ?_)
    cases b <;> rfl
  · rfl

section
variable {fu d : Nat} {p : Plan} {pops : List Bool} {at_ n y : Int} {pop : Bool} {t : T Int} {mine ms ws' : List Int} {M : Mem}
theorem rest_go (h : went t M.ws = .went y ws') (hd : (t.next y).isDone = false) : ∃ c, restF fu p pops at_ pop (d + 1, t) mine M = some (true, (pops, at_, true, pop, (d, t.next y), mine), ⟨ws', c⟩) := by
  obtain ⟨c, hc⟩ := step_went (fu := fu) (d := d) h
  refine ⟨c, ?_⟩
  unfold restF D.prog_Prog_int_Over
  simp only [hc, Option.bind_some, hd, Bool.not_true, cond_false, Bool.not_false, cond_true]

theorem rest_pop (h : went t M.ws = .went y ws') (hd : t.next y = .done n) (h0 : 0 ≤ n) (h1 : n < p.nodes) (hl : mine.length ≤ 1000) : ∃ c, restF fu p pops at_ true (d + 1, t) mine M = some (true, (pops, at_, false, true, (d, .done n), mine ++ [n]), ⟨ws', c⟩) := by
  obtain ⟨c, hc⟩ := step_went (fu := fu) (d := d) h
  refine ⟨c, ?_⟩
  have ha : appD mine [n] = some (mine ++ [n]) := by unfold appD; rw [if_pos (by simp only [Modest2, List.length_singleton]; omega)]
  unfold restF D.prog_Prog_int_Over
  simp only [hc, Option.bind_some, hd, T.isDone, T.res, Bool.not_true, cond_false, cond_true]
  rw [show decide (n ≥ 0) = true from by simpa using h0, show decide (n ≥ (-1)) = true from by simp; omega, show decide (n < p.nodes) = true from by simpa using h1, ha]
  rfl

theorem rest_none (h : went t M.ws = .went y ws') (hd : t.next y = .done (-1)) (h1 : 0 ≤ p.nodes) : ∃ c, restF fu p pops at_ true (d + 1, t) mine M = some (true, (pops, at_, false, true, (d, .done (-1)), mine), ⟨ws', c⟩) := by
  obtain ⟨c, hc⟩ := step_went (fu := fu) (d := d) h
  refine ⟨c, ?_⟩
  unfold restF D.prog_Prog_int_Over
  simp only [hc, Option.bind_some, hd, T.isDone, T.res, Bool.not_true, cond_false, cond_true]
  rw [show decide ((-1 : Int) ≥ 0) = false from rfl, show decide ((-1 : Int) ≥ (-1)) = true from rfl, show decide ((-1 : Int) < p.nodes) = true from by simp; omega]
  rfl

theorem rest_push (h : went t M.ws = .went y ws') (hd : t.next y = .done n) (hl : ms.length ≤ 1000) : ∃ c, restF fu p pops at_ false (d + 1, t) (ms ++ [n]) M = some (true, (pops, at_, false, false, (d, .done n), ms), ⟨ws', c⟩) := by
  obtain ⟨c, hc⟩ := step_went (fu := fu) (d := d) h
  refine ⟨c, ?_⟩
  unfold restF D.prog_Prog_int_Over
  simp only [hc, Option.bind_some, hd, T.isDone, T.res, Bool.not_true, cond_false, cond_true]
  rw [getI_last (by omega), slice_last (by omega)]
  simp

end
theorem pop_first {p : Plan} (hp : PF p) (k : Nat) : (D.free_Pop (k + 1) p).isDone = false := by
  show (D.free_Pop_body (D.free_Pop k) p).isDone = false
  unfold D.free_Pop_body
  rw [Head_eq hp]; rfl

theorem push_first {p : Plan} (hp : PF p) {n : Int} (hn : 0 ≤ n ∧ n < p.nodes) (k : Nat) : (D.free_Push (k + 1) p n).isDone = false := by
  obtain ⟨q1, q2, q3⟩ := nx_in hp hn.1 hn.2
  show (D.free_Push_body (D.free_Push k) p n).isDone = false
  unfold D.free_Push_body
  rw [q3, show (nx p n == -1) = false from by simp; omega, Head_eq hp]; rfl

theorem PopSt.live {p : Plan} (hp : PF p) {g : Int} {l : List Int} {m : Nat} {t : T Int} (h : PopSt p g l m t) : t.isDone = false ∧ 1 ≤ m ∧ m ≤ 5 := by
  rcases h with ⟨k, rfl, _, rfl⟩ | ⟨k, g', n, hm, _, _, _, _, _, rfl⟩ | ⟨k, g', n, y, hm, _, _, _, _, _, _, rfl⟩
  · exact ⟨pop_first hp k, by omega, by omega⟩
  · exact ⟨rfl, by omega, by omega⟩
  · exact ⟨rfl, by omega, by omega⟩

theorem PushSt.live {p : Plan} (hp : PF p) {ws : List Int} {g n : Int} {l : List Int} {m : Nat} {t : T Int} (hn : 0 ≤ n ∧ n < p.nodes) (h : PushSt p ws g l n m t) : t.isDone = false ∧ 1 ≤ m ∧ m ≤ 5 := by
  rcases h with ⟨k, rfl, _, rfl⟩ | ⟨k, g', f, hm, _, _, _, _, _, rfl⟩ | ⟨k, g', f, hm, _, _, _, _, _, _, rfl⟩
  · exact ⟨push_first hp hn k, by omega, by omega⟩
  · exact ⟨rfl, by omega, by omega⟩
  · exact ⟨rfl, by omega, by omega⟩

theorem liveI_of {x : Nat × T Int} (h : x.2.isDone = false) (h2 : x.2 ≠ .cut) : liveI x = some () := by
  unfold liveI
  split
  · rename_i e; exact absurd e h2
  · rfl

/-- How a thread stands, and how many picks it has ahead if nobody else steps. -/
def ThOk (p : Plan) (ws : List Int) (g : Int) (l : List Int) (K : Nat) (th : TH9) (m : Nat) : Prop :=
  th.1.length ≤ 12 ∧ 0 ≤ th.2.1 ∧ th.2.1 ≤ th.1.length ∧
  ((th.2.2.1 = false ∧ m = 4 * (th.1.length - th.2.1.toNat)) ∨
   (th.2.2.1 = true ∧ K ≤ th.2.2.2.2.1.1 ∧ ∃ q, 1 ≤ q ∧ q ≤ 5 ∧ m = 4 * (th.1.length - th.2.1.toNat) + q ∧
     ((th.2.2.2.1 = true ∧ PopSt p g l q th.2.2.2.2.1.2) ∨ (th.2.2.2.1 = false ∧ ∃ ms n, th.2.2.2.2.2 = ms ++ [n] ∧ (0 ≤ n ∧ n < p.nodes) ∧ PushSt p ws g l n q th.2.2.2.2.1.2))))

def mineOf (th : TH9) : List Int := th.2.2.2.2.2

theorem ThOk.keep {p : Plan} (hp : PF p) {ws ws2 : List Int} {g g2 : Int} {l l2 : List Int} {K K2 m : Nat} {th : TH9} (h : ThOk p ws g l K th m) (hg : (g2 = g ∧ l2 = l) ∨ g2 = g + 1) (hK : K2 ≤ K) (hw : ∀ n, n ∈ mineOf th → rd ws2 (nx p n) = rd ws (nx p n)) :
    ∃ m', ThOk p ws2 g2 l2 K2 th m' := by
  obtain ⟨h1, h2, h3, h⟩ := h
  rcases h with ⟨h4, h5⟩ | ⟨h4, h5, q, hq1, hq2, hm, h6⟩
  · exact ⟨m, h1, h2, h3, .inl ⟨h4, h5⟩⟩
  · rcases h6 with ⟨h6, h7⟩ | ⟨h6, ms, n, h7, hr, h8⟩
    · obtain ⟨q', _, h9⟩ := h7.keep hg
      obtain ⟨_, h10, h11⟩ := h9.live hp
      exact ⟨_, h1, h2, h3, .inr ⟨h4, by omega, q', h10, h11, rfl, .inl ⟨h6, h9⟩⟩⟩
    · obtain ⟨q', _, h9⟩ := h8.keep hg (hw n (by unfold mineOf; rw [h7]; simp))
      obtain ⟨_, h10, h11⟩ := h9.live hp hr
      exact ⟨_, h1, h2, h3, .inr ⟨h4, by omega, q', h10, h11, rfl, .inr ⟨h6, ms, n, h7, hr, h9⟩⟩⟩

theorem ThOk.le {p : Plan} {ws : List Int} {g : Int} {l : List Int} {K m : Nat} {th : TH9} (h : ThOk p ws g l K th m) : m ≤ 53 := by
  obtain ⟨h1, h2, h3, h⟩ := h
  rcases h with ⟨_, h5⟩ | ⟨_, _, q, _, _, hm, _⟩ <;> omega

/-- All threads, and the list. -/
structure Sys (p : Plan) (ths : List TH9) (ws : List Int) (g : Int) (l : List Int) (K : Nat) : Prop where
  st : StackAt p ws l g
  nodup : (l ++ ths.flatMap mineOf).Nodup
  perm : (l ++ ths.flatMap mineOf).Perm (allN p)
  ok : ∀ th, th ∈ ths → ∃ m, ThOk p ws g l K th m

theorem Sys.range {p : Plan} {ths : List TH9} {ws : List Int} {g : Int} {l : List Int} {K : Nat} (h : Sys p ths ws g l K) {n : Int} (hn : n ∈ ths.flatMap mineOf) : 0 ≤ n ∧ n < p.nodes := by
  have h2 := h.perm.mem_iff.1 (List.mem_append_right l hn)
  obtain ⟨q, hq, rfl⟩ := List.mem_map.1 h2
  have := (List.mem_range'_1.1 hq).2
  omega

section
variable {p : Plan} {A B : List TH9} {th th' : TH9} {ws ws2 : List Int} {g g2 : Int} {l l2 : List Int} {K : Nat}
theorem flat_mid : (A ++ th :: B).flatMap mineOf = A.flatMap mineOf ++ (mineOf th ++ B.flatMap mineOf) := by simp

theorem mid_perm (h : (l2 ++ mineOf th').Perm (l ++ mineOf th)) : (l2 ++ (A ++ th' :: B).flatMap mineOf).Perm (l ++ (A ++ th :: B).flatMap mineOf) := by
  rw [flat_mid, flat_mid]
  rw [List.perm_iff_count] at h ⊢
  intro a
  have := h a
  simp only [List.count_append] at this ⊢
  omega

/-- One thread has stepped. -/
theorem Sys.next (hp : PF p) (h : Sys p (A ++ th :: B) ws g l (K + 1)) (hst : StackAt p ws2 l2 g2) (hpm : (l2 ++ mineOf th').Perm (l ++ mineOf th)) (hg : (g2 = g ∧ l2 = l) ∨ g2 = g + 1)
    (hw : ∀ n, n ∈ A.flatMap mineOf ∨ n ∈ B.flatMap mineOf → rd ws2 (nx p n) = rd ws (nx p n)) (hth : ∃ m, ThOk p ws2 g2 l2 K th' m) : Sys p (A ++ th' :: B) ws2 g2 l2 K := by
  have hm := mid_perm (A := A) (B := B) hpm
  refine ⟨hst, hm.nodup_iff.2 h.nodup, hm.trans h.perm, fun x hx => ?_⟩
  rcases List.mem_append.1 hx with hx | hx
  · obtain ⟨m, h1⟩ := h.ok x (List.mem_append_left _ hx)
    exact h1.keep hp hg (Nat.le_succ K) fun n hn => hw n (.inl (List.mem_flatMap.2 ⟨x, hx, hn⟩))
  · rcases List.mem_cons.1 hx with rfl | hx
    · exact hth
    · obtain ⟨m, h1⟩ := h.ok x (List.mem_append_right _ (List.mem_cons_of_mem _ hx))
      exact h1.keep hp hg (Nat.le_succ K) fun n hn => hw n (.inr (List.mem_flatMap.2 ⟨x, hx, hn⟩))

end
section
variable {p : Plan} {A B : List TH9} {M : Mem} {g : Int} {l : List Int} {K d q fu : Nat} {pops : List Bool} {at_ : Int} {t : T Int} {mine ms : List Int} {x : Nat × T Int} {b c : Bool} {at0 : Int}
/-- What others have isn't what this one has. -/
theorem Sys.other {th : TH9} {ws : List Int} (h : Sys p (A ++ th :: B) ws g l K) {n k : Int} (hn : n ∈ l ∨ n ∈ mineOf th) (hk : k ∈ A.flatMap mineOf ∨ k ∈ B.flatMap mineOf) : k ≠ n := by
  have hd := h.nodup
  rw [flat_mid] at hd
  have h1 := List.nodup_append.1 hd
  have h2 := List.nodup_append.1 h1.2.1
  have h3 := List.nodup_append.1 h2.2.1
  intro e
  subst e
  rcases hn with hn | hn
  · exact h1.2.2 k hn k (by rcases hk with hk | hk; (exact List.mem_append_left _ hk); (exact List.mem_append_right _ (List.mem_append_right _ hk))) rfl
  · rcases hk with hk | hk
    · exact h2.2.2 k hk k (List.mem_append_left _ hn) rfl
    · exact h3.2.2 k hn k hk rfl

theorem nx_pos (hp : PF p) {n : Int} (h : 0 ≤ n ∧ n < p.nodes) : 0 < nx p n := (nx_in hp h.1 h.2).1

/-- A pop's step. -/
theorem pop_ok (hp : PF p) (hnn : p.nodes ≤ 40) (hS : Sys p (A ++ (pops, at0, b, c, x, mine) :: B) M.ws g l (K + 1)) (hg : g < 800) (hd : K ≤ d) (ht : PopSt p g l q t) (h12 : pops.length ≤ 12) (ha0 : 0 ≤ at_) (ha1 : at_ ≤ pops.length) :
    ∃ th' M' g' l' m', restF fu p pops at_ true (d + 1, t) mine M = some (true, th', M') ∧ Sys p (A ++ th' :: B) M'.ws g' l' K ∧ (g' ≤ g + 1 ∧ g ≤ g') ∧ ThOk p M'.ws g' l' K th' m' ∧ m' + 1 ≤ 4 * (pops.length - at_.toNat) + q := by
  have hl : mine.length ≤ 1000 := by
    have h1 := hS.perm.length_eq
    rw [flat_mid] at h1
    simp only [List.length_append, allN, List.length_map, List.length_range', mineOf] at h1
    omega
  obtain ⟨_, hq1, hq2⟩ := ht.live hp
  obtain ⟨y, ws', hw, hc⟩ := ht.step hp (by omega) hS.st
  rcases hc with ⟨rfl, q', rfl, h1⟩ | ⟨rfl, rfl, h1⟩ | ⟨n, l', rfl, h1, hF, hr⟩
  · obtain ⟨hz, hz1, hz2⟩ := h1.live hp
    obtain ⟨cc, hc⟩ := rest_go (fu := fu) (p := p) (pops := pops) (at_ := at_) (pop := true) (d := d) (mine := mine) hw hz
    have hth : ThOk p M.ws g l K (pops, at_, true, true, (d, t.next y), mine) (4 * (pops.length - at_.toNat) + q') := ⟨h12, ha0, ha1, .inr ⟨rfl, hd, q', hz1, hz2, rfl, .inl ⟨rfl, h1⟩⟩⟩
    exact ⟨_, _, g, l, _, hc, hS.next hp hS.st (List.Perm.refl _) (.inl ⟨rfl, rfl⟩) (fun _ _ => rfl) ⟨_, hth⟩, by omega, hth, by omega⟩
  · obtain ⟨cc, hc⟩ := rest_none (fu := fu) (p := p) (pops := pops) (at_ := at_) (d := d) (mine := mine) hw h1 (by have := hp.n1; omega)
    have hth : ThOk p M.ws g [] K (pops, at_, false, true, (d, .done (-1)), mine) (4 * (pops.length - at_.toNat)) := ⟨h12, ha0, ha1, .inl ⟨rfl, rfl⟩⟩
    exact ⟨_, _, g, [], _, hc, hS.next hp hS.st (List.Perm.refl _) (.inl ⟨rfl, rfl⟩) (fun _ _ => rfl) ⟨_, hth⟩, by omega, hth, by omega⟩
  · have hn := hS.st.free.range n (List.mem_cons_self ..)
    obtain ⟨cc, hc⟩ := rest_pop (fu := fu) (p := p) (pops := pops) (at_ := at_) (d := d) (mine := mine) hw h1 hn.1 hn.2 hl
    have hth : ThOk p ws' (g + 1) l' K (pops, at_, false, true, (d, .done n), mine ++ [n]) (4 * (pops.length - at_.toNat)) := ⟨h12, ha0, ha1, .inl ⟨rfl, rfl⟩⟩
    refine ⟨_, _, g + 1, l', _, hc, hS.next hp ⟨hF, fun k h2 h3 => ?_, by omega⟩ ?_ (.inr rfl) (fun k hk => ?_) ⟨_, hth⟩, by omega, hth, by omega⟩
    · rw [hr _ (nx_pos hp ⟨h2, h3⟩)]
      exact hS.st.next k h2 h3
    · show (l' ++ (mine ++ [n])).Perm (n :: l' ++ mine)
      rw [← List.append_assoc]
      exact (List.perm_append_singleton n (l' ++ mine))
    · refine hr _ (nx_pos hp (hS.range ?_))
      rw [flat_mid]
      rcases hk with hk | hk
      · exact List.mem_append_left _ hk
      · exact List.mem_append_right _ (List.mem_append_right _ hk)

/-- A push's step. -/
theorem push_ok {n : Int} (hp : PF p) (hnn : p.nodes ≤ 40) (hS : Sys p (A ++ (pops, at0, b, c, x, ms ++ [n]) :: B) M.ws g l (K + 1)) (hg : g < 800) (hd : K ≤ d) (ht : PushSt p M.ws g l n q t) (h12 : pops.length ≤ 12) (ha0 : 0 ≤ at_) (ha1 : at_ ≤ pops.length) :
    ∃ th' M' g' l' m', restF fu p pops at_ false (d + 1, t) (ms ++ [n]) M = some (true, th', M') ∧ Sys p (A ++ th' :: B) M'.ws g' l' K ∧ (g' ≤ g + 1 ∧ g ≤ g') ∧ ThOk p M'.ws g' l' K th' m' ∧ m' + 1 ≤ 4 * (pops.length - at_.toNat) + q := by
  have hl : ms.length ≤ 1000 := by
    have h1 := hS.perm.length_eq
    rw [flat_mid] at h1
    simp only [List.length_append, allN, List.length_map, List.length_range', mineOf] at h1
    omega
  have hmn : n ∈ mineOf (pops, at0, b, c, x, ms ++ [n]) := by simp [mineOf]
  have hn : 0 ≤ n ∧ n < p.nodes := hS.range (by rw [flat_mid]; exact List.mem_append_right _ (List.mem_append_left _ hmn))
  have hno : n ∉ l := fun h => by
    have hd := hS.nodup
    rw [flat_mid] at hd
    exact (List.nodup_append.1 hd).2.2 n h n (List.mem_append_right _ (List.mem_append_left _ hmn)) rfl
  obtain ⟨_, hq1, hq2⟩ := ht.live hp hn
  obtain ⟨y, ws', hw, hr, hlen, hnx, hc⟩ := ht.step hp (by omega) hS.st hn hno
  have hoth : ∀ k, k ∈ A.flatMap mineOf ∨ k ∈ B.flatMap mineOf → rd ws' (nx p k) = rd M.ws (nx p k) := fun k hk => by
    refine hr _ (nx_pos hp (hS.range ?_)) (nx_ne (hS.other (.inr hmn) hk))
    rw [flat_mid]
    rcases hk with hk | hk
    · exact List.mem_append_left _ hk
    · exact List.mem_append_right _ (List.mem_append_right _ hk)
  have hnext : ∀ k, 0 ≤ k → k < p.nodes → 0 ≤ rd ws' (nx p k) ∧ rd ws' (nx p k) ≤ p.nodes := fun k h2 h3 => by
    by_cases e : k = n
    · subst e; exact hnx
    · rw [hr _ (nx_pos hp ⟨h2, h3⟩) (nx_ne e)]
      exact hS.st.next k h2 h3
  rcases hc with ⟨hF, q', rfl, h1⟩ | ⟨h1, hF⟩
  · obtain ⟨hz, hz1, hz2⟩ := h1.live hp hn
    obtain ⟨cc, hc⟩ := rest_go (fu := fu) (p := p) (pops := pops) (at_ := at_) (pop := false) (d := d) (mine := ms ++ [n]) hw hz
    have hth : ThOk p ws' g l K (pops, at_, true, false, (d, t.next y), ms ++ [n]) (4 * (pops.length - at_.toNat) + q') := ⟨h12, ha0, ha1, .inr ⟨rfl, hd, q', hz1, hz2, rfl, .inr ⟨rfl, ms, n, rfl, hn, h1⟩⟩⟩
    exact ⟨_, _, g, l, _, hc, hS.next hp ⟨hF, hnext, hS.st.few⟩ (List.Perm.refl _) (.inl ⟨rfl, rfl⟩) hoth ⟨_, hth⟩, by omega, hth, by omega⟩
  · obtain ⟨cc, hc⟩ := rest_push (fu := fu) (p := p) (pops := pops) (at_ := at_) (d := d) (ms := ms) hw h1 hl
    have hth : ThOk p ws' (g + 1) (n :: l) K (pops, at_, false, false, (d, .done n), ms) (4 * (pops.length - at_.toNat)) := ⟨h12, ha0, ha1, .inl ⟨rfl, rfl⟩⟩
    refine ⟨_, _, g + 1, n :: l, _, hc, hS.next hp ⟨hF, hnext, by omega⟩ ?_ (.inr rfl) hoth ⟨_, hth⟩, by omega, hth, by omega⟩
    show (n :: l ++ ms).Perm (l ++ (ms ++ [n]))
    rw [← List.append_assoc]
    exact (List.perm_append_singleton n (l ++ ms)).symm

end
/-- A pick. -/
theorem pick_ok {p : Plan} {A B : List TH9} {th : TH9} {M : Mem} {g : Int} {l : List Int} {K m fu : Nat} (hp : PF p) (hnn : p.nodes ≤ 40) (hS : Sys p (A ++ th :: B) M.ws g l (K + 1)) (hg0 : 0 ≤ g) (hg : g < 800) (hfu : 1100 ≤ fu) (hK : K + 1 ≤ fu) (h : ThOk p M.ws g l (K + 1) th m) :
    ∃ th' M' g' l' m', Wk.D.cubiclelaw09_Thread_pick fu th p M = some (true, th', M') ∧ Sys p (A ++ th' :: B) M'.ws g' l' K ∧ (g' ≤ g + 1 ∧ g ≤ g') ∧ ThOk p M'.ws g' l' K th' m' ∧ m' ≤ m - 1 ∧ (m = 0 → th' = th) := by
  obtain ⟨pops, at_, busy, pop, ⟨d, t⟩, mine⟩ := th
  obtain ⟨h1, h2, h3, h⟩ := h
  simp only at h1 h2 h3 h
  rw [pick_eq]
  rcases h with ⟨rfl, hm⟩ | ⟨rfl, hd, q, hq1, hq2, hm, h⟩
  · simp only [cond_false]
    by_cases e : at_ ≥ (pops.length : Int)
    · rw [show decide (at_ ≥ (pops.length : Int)) = true from by simpa using e]
      have hth : ThOk p M.ws g l K (pops, at_, false, pop, (d, t), mine) m := ⟨h1, h2, h3, .inl ⟨rfl, hm⟩⟩
      exact ⟨_, M, g, l, m, rfl, hS.next hp hS.st (List.Perm.refl _) (.inl ⟨rfl, rfl⟩) (fun _ _ => rfl) ⟨_, hth⟩, by omega, hth, by omega, fun _ => rfl⟩
    · rw [show decide (at_ ≥ (pops.length : Int)) = false from by simpa using e]
      obtain ⟨i, rfl⟩ : ∃ i : Nat, at_ = i := ⟨at_.toNat, by omega⟩
      have hi : i < pops.length := by omega
      rw [getI_nat hi, wrap_small (x := (i : Int) + 1) (by omega) (by omega)]
      simp only [cond_false, Option.bind_some]
      obtain ⟨f, rfl⟩ : ∃ f, fu = f + 1 := ⟨fu - 1, by omega⟩
      cases hb : pops[i]
      · simp only [cond_false]
        rcases List.eq_nil_or_concat mine with rfl | ⟨ms, n, rfl⟩
        · have hth : ThOk p M.ws g l K (pops, (i : Int) + 1, false, false, (d, t), []) (4 * (pops.length - ((i : Int) + 1).toNat)) := ⟨h1, by simp only; omega, by simp only; omega, .inl ⟨rfl, rfl⟩⟩
          refine ⟨_, M, g, l, _, rfl, hS.next hp hS.st (List.Perm.refl _) (.inl ⟨rfl, rfl⟩) (fun _ _ => rfl) ⟨_, hth⟩, by omega, hth, by omega, fun h0 => by omega⟩
        · rw [List.concat_eq_append] at hS ⊢
          have hl : ms.length ≤ 1000 := by
            have h1 := hS.perm.length_eq
            rw [flat_mid] at h1
            simp only [List.length_append, allN, List.length_map, List.length_range', mineOf] at h1
            omega
          have hn : 0 ≤ n ∧ n < p.nodes := hS.range (by rw [flat_mid]; exact List.mem_append_right _ (List.mem_append_left _ (by simp [mineOf])))
          rw [show (((ms ++ [n]).length : Int) == 0) = false from by simp; omega, getI_last (by omega)]
          simp only [cond_false, Option.bind_some]
          obtain ⟨th', M', g', l', m', r1, r2, r3, r4, r5⟩ := push_ok (fu := f + 1) (at_ := (i : Int) + 1) (d := f) (q := 3) hp hnn hS hg (by omega) (.inl ⟨f + 1, rfl, by omega, rfl⟩) h1 (by omega) (by omega)
          exact ⟨th', M', g', l', m', r1, r2, r3, r4, by omega, fun h0 => by omega⟩
      · simp only [cond_true]
        obtain ⟨th', M', g', l', m', r1, r2, r3, r4, r5⟩ := pop_ok (fu := f + 1) (at_ := (i : Int) + 1) (d := f) (q := 3) hp hnn hS hg (by omega) (.inl ⟨f + 1, rfl, by omega, rfl⟩) h1 (by omega) (by omega)
        exact ⟨th', M', g', l', m', r1, r2, r3, r4, by omega, fun h0 => by omega⟩
  · simp only [cond_true]
    obtain ⟨d, rfl⟩ : ∃ e, d = e + 1 := ⟨d - 1, by omega⟩
    rcases h with ⟨rfl, h⟩ | ⟨rfl, ms, n, rfl, hn, h⟩
    · rw [liveI_of (h.live hp).1 (fun e => by have h9 := h.step hp (by omega) hS.st; obtain ⟨_, _, h9, _⟩ := h9; simp only at e; rw [e] at h9; cases h9)]
      simp only [Option.bind_some]
      obtain ⟨th', M', g', l', m', r1, r2, r3, r4, r5⟩ := pop_ok (fu := fu) (at_ := at_) (d := d) hp hnn hS hg (by omega) h h1 h2 h3
      exact ⟨th', M', g', l', m', r1, r2, r3, r4, by omega, fun h0 => by omega⟩
    · have hno : n ∉ l := fun hh => by
        have hd := hS.nodup
        rw [flat_mid] at hd
        exact (List.nodup_append.1 hd).2.2 n hh n (List.mem_append_right _ (List.mem_append_left _ (by simp [mineOf]))) rfl
      rw [liveI_of (h.live hp hn).1 (fun e => by have h9 := h.step hp (by omega) hS.st hn hno; obtain ⟨_, _, h9, _⟩ := h9; simp only at e; rw [e] at h9; cases h9)]
      simp only [Option.bind_some]
      obtain ⟨th', M', g', l', m', r1, r2, r3, r4, r5⟩ := push_ok (fu := fu) (at_ := at_) (d := d) hp hnn hS hg (by omega) h h1 h2 h3
      exact ⟨th', M', g', l', m', r1, r2, r3, r4, by omega, fun h0 => by omega⟩

end Go.Proofs.Ytbbipmelhmgmfaa

/- FreeMany: what the walk found answers as the law says. -/
set_option linter.unusedVariables false
namespace Go.Proofs.Ytbbipmelhmgmfaa
open Go.RowKit
/-! ### No node is had twice -/
def seenOf (N : Nat) (vis : List Int) : List Bool := (List.range N).map fun (v : Nat) => decide ((v : Int) ∈ vis)

theorem seen_get {N : Nat} {vis : List Int} {n : Int} (h0 : 0 ≤ n) (h1 : n < N) : getI (seenOf N vis) n = some (decide (n ∈ vis)) := by
  unfold getI seenOf
  rw [if_pos h0, List.getElem?_map, List.getElem?_range (by omega)]
  simp only [Option.map_some, Int.toNat_of_nonneg h0]

theorem seen_set {N : Nat} {vis : List Int} {n : Int} (h0 : 0 ≤ n) (h1 : n < N) : (seenOf N vis).set n.toNat true = seenOf N (vis ++ [n]) := by
  unfold seenOf
  refine List.ext_getElem (by simp) fun j h2 h3 => ?_
  rw [List.getElem_set]
  simp only [List.getElem_map, List.getElem_range, List.mem_append, List.mem_singleton]
  by_cases e : n.toNat = j
  · rw [if_pos e]
    simp only [show (j : Int) = n from by omega, or_true, decide_true]
  · rw [if_neg e]
    simp only [show ¬ (j : Int) = n from by omega, or_false]

theorem seen_nil (N : Nat) : List.replicate N false = seenOf N [] := by
  unfold seenOf
  refine List.ext_getElem (by simp) fun j h2 h3 => ?_
  simp

theorem take_flat {ths : List TH9} {i : Nat} (hi : i < ths.length) : (ths.take (i + 1)).flatMap mineOf = (ths.take i).flatMap mineOf ++ mineOf ths[i] := by
  rw [List.take_succ_eq_append_getElem hi, List.flatMap_append, List.flatMap_cons, List.flatMap_nil, List.append_nil]

theorem apart_ok {ths : List TH9} {N : Nat} (hN : N ≤ 40) (hl : ths.length ≤ 4) (hnd : (ths.flatMap mineOf).Nodup) (hr : ∀ n, n ∈ ths.flatMap mineOf → 0 ≤ n ∧ n < N) (hm : ∀ th, th ∈ ths → (mineOf th).length ≤ 40) : Wk.D.cubiclelaw09_apart 2000 ths (N : Int) = some true := by
  unfold Wk.D.cubiclelaw09_apart
  have hmk : makeD (false : Bool) (N : Int) = some (seenOf N []) := by unfold makeD; rw [if_pos (by omega), Int.toNat_natCast, seen_nil]
  rw [hmk]
  simp only [Option.bind_some]
  refine loop_inv (fun o => o = some true) (fun (i : Nat) (x : Bool × List Bool × Int) => x = (false, seenOf N ((ths.take i).flatMap mineOf), (i : Int))) ths.length 2000 (by simp) (by omega) ?_ ?_
  · rintro i _ hi rfl
    simp only
    rw [show decide ((i : Int) < (ths.length : Int)) = true from by simp; omega]
    simp only [cond_true]
    have hmem : ths[i] ∈ ths := List.getElem_mem hi
    have hmi := hm _ hmem
    have hfl : ∀ j, j < (mineOf ths[i]).length → True := fun _ _ => trivial
    refine loop_inv (fun o => ∃ x', o = some (Lp.next x') ∧ x' = (false, seenOf N ((ths.take (i + 1)).flatMap mineOf), ((i + 1 : Nat) : Int))) (fun (k : Nat) (x : Bool × List Bool × Int) => x = (false, seenOf N ((ths.take i).flatMap mineOf ++ (mineOf ths[i]).take k), (k : Int))) (mineOf ths[i]).length 2000 (by simp) (by omega) ?_ ?_
    · rintro k _ hk rfl
      simp only [getI_nat hi, Option.bind_some]
      have e : ths[i].2.2.2.2.2 = mineOf ths[i] := rfl
      rw [e, show decide ((k : Int) < ((mineOf ths[i]).length : Int)) = true from by simp; omega, getI_nat hk]
      simp only [cond_true, Option.bind_some]
      have hin : (mineOf ths[i])[k] ∈ ths.flatMap mineOf := List.mem_flatMap.2 ⟨_, hmem, List.getElem_mem hk⟩
      obtain ⟨h0, h1⟩ := hr _ hin
      have hno : (mineOf ths[i])[k] ∉ (ths.take i).flatMap mineOf ++ (mineOf ths[i]).take k := by
        have hsub : ((ths.take i).flatMap mineOf ++ (mineOf ths[i]).take (k + 1)).Sublist (ths.flatMap mineOf) := by
          have h2 : ((ths.take i).flatMap mineOf ++ mineOf ths[i]).Sublist (ths.flatMap mineOf) := by
            rw [← take_flat hi]
            conv => rhs; rw [← List.take_append_drop (i + 1) ths, List.flatMap_append]
            exact List.sublist_append_left _ _
          exact ((List.take_sublist _ _).append_left _).trans h2
        have h3 := hnd.sublist hsub
        rw [List.take_succ_eq_append_getElem hk, ← List.append_assoc] at h3
        exact fun h => (List.nodup_append.1 h3).2.2 _ h _ (List.mem_singleton.2 rfl) rfl
      rw [seen_get h0 h1, show decide ((mineOf ths[i])[k] ∈ (ths.take i).flatMap mineOf ++ (mineOf ths[i]).take k) = false from by simpa using hno]
      simp only [Option.bind_some, cond_false]
      refine ⟨_, rfl, ?_⟩
      rw [seen_set h0 h1, wrap_small (x := (k : Int) + 1) (by omega) (by omega), List.append_assoc, List.take_succ_eq_append_getElem hk]
      rfl
    · rintro _ rfl
      simp only [getI_nat hi, Option.bind_some]
      have e : ths[i].2.2.2.2.2 = mineOf ths[i] := rfl
      rw [e, show decide (((mineOf ths[i]).length : Int) < ((mineOf ths[i]).length : Int)) = false from by simp]
      refine ⟨_, rfl, _, rfl, ?_⟩
      simp only [List.take_length]
      rw [wrap_small (x := (i : Int) + 1) (by omega) (by omega), take_flat hi]
      rfl
  · rintro _ rfl
    simp only
    rw [show decide ((ths.length : Int) < (ths.length : Int)) = false from by simp]
    exact ⟨_, rfl, trivial⟩

theorem sub_flat {x : TH9} : ∀ {l : List TH9}, x ∈ l → (mineOf x).Sublist (l.flatMap mineOf)
  | y :: l, h => by
    rw [List.flatMap_cons]
    rcases List.mem_cons.1 h with rfl | h
    · exact List.sublist_append_left _ _
    · exact (sub_flat h).trans (List.sublist_append_right _ _)

/-! ### The picks -/
def contF (fu : Nat) (p : Plan) (b : Bool) (ths : List TH9) (i : Int) (M : Mem) (k : Int) : Option (Lp (Bool × List TH9 × Int × Mem) Bool) :=
  Option.bind ((getI ths k).bind fun (x78 : TH9) => (Wk.D.cubiclelaw09_Thread_pick fu x78 p M).bind fun (x79 : Bool × TH9 × Mem) => bif !x79.1 then some (ths.set k.toNat x79.2.1, x79.2.2, true) else
    (Wk.D.cubiclelaw09_apart fu (ths.set k.toNat x79.2.1) p.nodes).bind fun (x84 : Bool) => some (ths.set k.toNat x79.2.1, x79.2.2, !x84)) fun (x86 : List TH9 × Mem × Bool) => bif x86.2.2 then some (Lp.ret false) else some (Lp.next (b, x86.1, IntKind.i64.wrap (i + 1), x86.2.1))

def thDone (th : TH9) : Prop := th.2.2.1 = false ∧ th.2.1 = th.1.length

theorem ThOk.zero {p : Plan} {ws : List Int} {g : Int} {l : List Int} {K : Nat} {th : TH9} (h : ThOk p ws g l K th 0) : thDone th := by
  obtain ⟨h1, h2, h3, h⟩ := h
  rcases h with ⟨h4, h5⟩ | ⟨_, _, q, h4, _, h5, _⟩
  · exact ⟨h4, by omega⟩
  · omega

theorem ThOk.done {p : Plan} {ws : List Int} {g : Int} {l : List Int} {K m : Nat} {th : TH9} (h : ThOk p ws g l K th m) (hd : thDone th) : m = 0 := by
  obtain ⟨h1, h2, h3, h⟩ := h
  obtain ⟨d1, d2⟩ := hd
  rcases h with ⟨h4, h5⟩ | ⟨h4, _⟩
  · omega
  · rw [d1] at h4; cases h4

/-- How far the threads are, from the time on when each is picked alone. -/
def Phase (p : Plan) (ths : List TH9) (ws : List Int) (g : Int) (l : List Int) (K N i : Nat) : Prop :=
  N ≤ i → ∀ (k : Nat) (th : TH9), ths[k]? = some th → (k < (i - N) / 100 → thDone th) ∧ (k = (i - N) / 100 → ∃ m, ThOk p ws g l K th m ∧ (m = 0 ∨ m + (i - N) % 100 ≤ 53))

structure Inv (p : Plan) (n N : Nat) (i : Nat) (x : Bool × List TH9 × Int × Mem) : Prop where
  b : x.1 = false
  at_ : x.2.2.1 = (i : Int)
  len : x.2.1.length = n
  sys : ∃ (g : Int) (l : List Int), 0 ≤ g ∧ g ≤ i ∧ Sys p x.2.1 x.2.2.2.ws g l (1900 - i) ∧ Phase p x.2.1 x.2.2.2.ws g l (1900 - i) N i

theorem cont_ok {p : Plan} (hp : PF p) (hnn : p.nodes ≤ 40) {n N i : Nat} {ths : List TH9} {M : Mem} (hn : n ≤ 4) (hi : i < N + 400) (hN : N ≤ 200) (h : Inv p n N i (false, ths, (i : Int), M)) {k : Nat} (hk : k < n) (hkk : N ≤ i → (i - N) / 100 < n → k = (i - N) / 100) :
    ∃ x', contF 2000 p false ths (i : Int) M (k : Int) = some (.next x') ∧ Inv p n N (i + 1) x' := by
  obtain ⟨g, l, hg0, hg, hS, hP⟩ := h.sys
  have hlen : ths.length = n := h.len
  simp only at hS hP
  have hkl : k < ths.length := by omega
  obtain ⟨A, B, hAB, hA⟩ : ∃ A B, ths = A ++ ths[k] :: B ∧ A.length = k := ⟨ths.take k, ths.drop (k + 1), by rw [← List.drop_eq_getElem_cons hkl, List.take_append_drop], by simp; omega⟩
  have hget : ths[k]? = some ths[k] := List.getElem?_eq_getElem hkl
  generalize ths[k] = th at hAB hget
  have hgk : getI ths (k : Int) = some th := by unfold getI; rw [if_pos (by omega), Int.toNat_natCast, hget]
  obtain ⟨m, hm, hmP⟩ : ∃ m, ThOk p M.ws g l (1900 - i) th m ∧ (N ≤ i → k = (i - N) / 100 → (m = 0 ∨ m + (i - N) % 100 ≤ 53)) := by
    by_cases hq : N ≤ i ∧ k = (i - N) / 100
    · obtain ⟨m, h1, h2⟩ := (hP hq.1 k th hget).2 hq.2
      exact ⟨m, h1, fun _ _ => h2⟩
    · obtain ⟨m, h1⟩ := hS.ok th (List.mem_of_getElem? hget)
      exact ⟨m, h1, fun a b => absurd ⟨a, b⟩ hq⟩
  have hK : 1900 - i = (1900 - (i + 1)) + 1 := by omega
  have hS' : Sys p (A ++ th :: B) M.ws g l ((1900 - (i + 1)) + 1) := by rw [← hK, ← hAB]; exact hS
  have hm' : ThOk p M.ws g l ((1900 - (i + 1)) + 1) th m := by rw [← hK]; exact hm
  obtain ⟨th', M', g', l', m', r1, r2, r3, r4, r5, r6⟩ := pick_ok (fu := 2000) hp hnn hS' hg0 (by omega) (by omega) (by omega) hm'
  have hset : ths.set k th' = A ++ th' :: B := by rw [hAB, ← hA, List.set_append_right _ _ (Nat.le_refl _), Nat.sub_self]; rfl
  have hN1 : 0 ≤ p.nodes := by have := hp.n1; omega
  have hap : Wk.D.cubiclelaw09_apart 2000 (A ++ th' :: B) p.nodes = some true := by
    obtain ⟨q, hq⟩ : ∃ q : Nat, p.nodes = q := ⟨p.nodes.toNat, by omega⟩
    have hle : (A ++ th' :: B).length = n := by rw [← hset, List.length_set]; exact hlen
    rw [hq]
    refine apart_ok (by omega) (by omega) (r2.nodup.sublist (List.sublist_append_right _ _)) (fun x hx => ?_) fun x hx => ?_
    · have := r2.range hx
      omega
    · have h1 := r2.perm.length_eq
      have h2 : (mineOf x).Sublist ((A ++ th' :: B).flatMap mineOf) := sub_flat hx
      have h3 := h2.length_le
      simp only [List.length_append, allN, List.length_map, List.length_range'] at h1
      omega
  refine ⟨(false, A ++ th' :: B, ((i + 1 : Nat) : Int), M'), ?_, rfl, rfl, by simp only; rw [← hset, List.length_set]; exact hlen, g', l', by omega, by omega, r2, ?_⟩
  · unfold contF
    rw [hgk]
    simp only [Option.bind_some, r1, Bool.not_true, cond_false, Int.toNat_natCast, hset, hap]
    rw [wrap_small (x := (i : Int) + 1) (by omega) (by omega)]
    rfl
  · intro hNi j t hj
    simp only at hj
    rw [← hset] at hj
    by_cases e : j = k
    · subst e
      rw [List.getElem?_set_self hkl] at hj
      obtain rfl := Option.some.inj hj
      by_cases hNi2 : N ≤ i
      · -- alone
        refine ⟨fun hlt => ?_, fun he => ⟨m', r4, ?_⟩⟩
        · by_cases hlt2 : j < (i - N) / 100
          · have hd := (hP hNi2 j th hget).1 hlt2
            have := hm.done hd
            rw [r6 this]
            exact hd
          · have hje : j = (i - N) / 100 := by omega
            have := hmP hNi2 hje
            have : m' = 0 := by omega
            subst this
            exact r4.zero
        · by_cases hlt2 : j = (i - N) / 100
          · have := hmP hNi2 hlt2
            omega
          · have := r4.le
            omega
      · have hiN : i + 1 = N := by omega
        refine ⟨fun hlt => by omega, fun he => ⟨m', r4, ?_⟩⟩
        have := r4.le
        omega
    · rw [List.getElem?_set_ne (Ne.symm e)] at hj
      have hmem : t ∈ A ++ th' :: B := by
        rw [← hset]
        exact List.mem_of_getElem? (by rw [List.getElem?_set_ne (Ne.symm e)]; exact hj)
      by_cases hNi2 : N ≤ i
      · refine ⟨fun hlt => ?_, fun he => ?_⟩
        · by_cases hlt2 : j < (i - N) / 100
          · exact (hP hNi2 j t hj).1 hlt2
          · exfalso
            have hje : j = (i - N) / 100 := by omega
            have hjn : j < n := by have := (List.getElem?_eq_some_iff.1 hj).1; omega
            exact e (hje.trans (hkk hNi2 (by omega)).symm)
        · by_cases hje : j = (i - N) / 100
          · exfalso
            have hjn : j < n := by have := (List.getElem?_eq_some_iff.1 hj).1; omega
            exact e (hje.trans (hkk hNi2 (by omega)).symm)
          · obtain ⟨m2, hm2⟩ := r2.ok t hmem
            have := hm2.le
            exact ⟨m2, hm2, by omega⟩
      · refine ⟨fun hlt => by omega, fun he => ?_⟩
        obtain ⟨m2, hm2⟩ := r2.ok t hmem
        have := hm2.le
        exact ⟨m2, hm2, by omega⟩

def mkF (c : List Bool) : TH9 := (c, 0, false, false, ((0, .cut) : Nat × T Int), [])

theorem flat_mk : ∀ (l : List (List Bool)), (l.map mkF).flatMap mineOf = []
  | [] => rfl
  | _ :: l => by rw [List.map_cons, List.flatMap_cons, flat_mk l]; rfl

theorem allN_mem {p : Plan} {n : Int} (h0 : 0 ≤ n) (h1 : n < p.nodes) : n ∈ allN p := List.mem_map.2 ⟨n.toNat, List.mem_range'_1.2 ⟨by omega, by omega⟩, by omega⟩

theorem allN_nodup (p : Plan) : (allN p).Nodup := List.Pairwise.map _ (fun a b h => by omega) (List.nodup_range' (s := 0) (n := p.nodes.toNat))

theorem pure_FreeMany (p : Plan) (calls : List (List Bool)) (picks : List Int) (_ : -9223372036854775808 ≤ p.nodes ∧ p.nodes ≤ 9223372036854775807) (_ : -9223372036854775808 ≤ p.threads ∧ p.threads ≤ 9223372036854775807)
    (_ : -9223372036854775808 ≤ p.retire ∧ p.retire ≤ 9223372036854775807) (_ : -9223372036854775808 ≤ p.domains ∧ p.domains ≤ 9223372036854775807) (_ : -9223372036854775808 ≤ p.buckets ∧ p.buckets ≤ 9223372036854775807)
    (_ : -9223372036854775808 ≤ p.gen ∧ p.gen ≤ 9223372036854775807) (hpk : ∀ n, n ∈ picks → 0 ≤ n ∧ n ≤ 255) : ∃ fu, Wk.D.cubiclelaw09_FreeMany fu p calls picks = some true := by
  refine ⟨2000, ?_⟩
  unfold Wk.D.cubiclelaw09_FreeMany
  rw [awake09]
  simp only [Option.bind_some, Bool.not_true, cond_false]
  cases hf : D.cubicleref06_Few p
  · rfl
  cases hg : D.cubicleref06_Formed p
  · rfl
  cases hc4 : decide ((calls.length : Int) > 4)
  case true => rfl
  cases hc0 : ((calls.length : Int) == 0)
  case true => rfl
  cases hl : decide ((picks.length : Int) > 200)
  case true => rfl
  simp only [Bool.not_true, cond_false, Option.bind_some]
  have hp := ref_formed hg
  have hfw := ref_few hp hf
  have hc4 : calls.length ≤ 4 := by simp at hc4; omega
  have hc0 : 1 ≤ calls.length := by simp at hc0; have := List.length_pos_iff.2 hc0; omega
  have hl : picks.length ≤ 200 := by simp at hl; omega
  have hn1 := hp.n1
  have hN := nodes_le hp
  have hSz := Size_eq hp
  obtain ⟨M, hM, hL⟩ := laid_eq hp hfw (fu := 2000) (by omega)
  have h0 := laid_free hp hL
  simp only [hM, Option.bind_some]
  refine loop_invR (fun o => o = some true) (fun (i : Nat) (x : Bool × List TH9 × Int) => x = (false, (calls.take i).map mkF, (i : Int)) ∧ ∀ c, c ∈ calls.take i → c.length ≤ 12) calls.length 2000 ⟨by simp, fun c hc => by simp at hc⟩ (by omega) ?_ ?_
  · rintro i _ hi ⟨rfl, h12⟩
    simp only
    rw [show decide ((i : Int) < (calls.length : Int)) = true from by simp; omega, getI_nat hi]
    simp only [cond_true, Option.bind_some]
    cases h13 : decide ((calls[i].length : Int) > 12)
    · left
      have h13 : calls[i].length ≤ 12 := by simp at h13; omega
      have ha : appD ((calls.take i).map mkF) [mkF calls[i]] = some ((calls.take (i + 1)).map mkF) := by
        unfold appD
        rw [if_pos (by simp only [Modest2, List.length_singleton, List.length_map, List.length_take]; omega), List.take_succ_eq_append_getElem hi, List.map_append]
        rfl
      have ha2 : appD ((calls.take i).map mkF) [((calls[i], 0, false, false, ((0, .cut) : Nat × T Int), []) : TH9)] = some ((calls.take (i + 1)).map mkF) := ha
      simp only [cond_false, ha2, Option.bind_some]
      refine ⟨_, rfl, ?_, fun c hc => ?_⟩
      · rw [wrap_small (x := (i : Int) + 1) (by omega) (by omega)]; rfl
      · rw [List.take_succ_eq_append_getElem hi] at hc
        rcases List.mem_append.1 hc with hc | hc
        · exact h12 c hc
        · rcases List.mem_singleton.1 hc with rfl; exact h13
    · right
      exact ⟨true, rfl, rfl⟩
  rintro _ ⟨rfl, h12⟩
  simp only
  rw [show decide ((calls.length : Int) < (calls.length : Int)) = false from by simp]
  refine ⟨_, rfl, ?_⟩
  simp only [List.take_length] at h12 ⊢
  obtain ⟨n, hn⟩ : ∃ n, n = calls.length := ⟨_, rfl⟩
  obtain ⟨N, hNN⟩ : ∃ N, N = picks.length := ⟨_, rfl⟩
  rw [← hNN] at hl ⊢
  rw [wrap_small (x := (N : Int) + 400) (by omega) (by omega)]
  have hst : StackAt p M.ws (allN p) 0 := ⟨h0, fun m h1 h2 => by
    have h3 := hL.next m h1 h2
    unfold nx
    rw [h3]
    split <;> omega, by omega⟩
  have hinit : Inv p n N 0 (false, calls.map mkF, ((0 : Nat) : Int), M) := by
    have hok : ∀ th, th ∈ calls.map mkF → ∃ m, ThOk p M.ws 0 (allN p) (1900 - 0) th m := fun th hth => by
      obtain ⟨c, hc, rfl⟩ := List.mem_map.1 hth
      exact ⟨_, h12 c hc, by simp [mkF], by simp [mkF], .inl ⟨rfl, rfl⟩⟩
    refine ⟨rfl, rfl, by simp [hn], 0, allN p, by omega, by omega, ⟨hst, by simp only [flat_mk, List.append_nil]; exact allN_nodup p, by simp only [flat_mk, List.append_nil]; exact List.Perm.refl _, hok⟩, fun hNi k th hk => ?_⟩
    obtain ⟨m, hm⟩ := hok th (List.mem_of_getElem? hk)
    refine ⟨fun h => by omega, fun h => ⟨m, hm, ?_⟩⟩
    have := hm.le
    omega
  refine loop_inv (fun o => o = some true) (Inv p n N) (N + 400) 2000 hinit (by omega) ?_ ?_
  · rintro i ⟨b, ths, ii, M1⟩ hi hI
    obtain rfl : b = false := hI.b
    obtain rfl : ii = (i : Int) := hI.at_
    have hlen : ths.length = n := hI.len
    simp only
    rw [show decide ((i : Int) < (N : Int) + 400) = true from by simp; omega]
    simp only [cond_true]
    have hlz : guardI (decide ((ths.length : Int) ≠ 0)) = some () := by
      unfold guardI
      rw [if_pos (by simp only [ne_eq, decide_eq_true_eq]; omega)]
    have hmod : ∀ y : Int, 0 ≤ y → ∃ q : Nat, y.tmod (ths.length : Int) = (q : Int) ∧ q < n := fun y hy => by
      rw [Int.tmod_eq_emod_of_nonneg hy]
      have h1 := Int.emod_nonneg y (show (ths.length : Int) ≠ 0 by omega)
      have h2 := Int.emod_lt_of_pos y (show (0 : Int) < ths.length by omega)
      exact ⟨(y % (ths.length : Int)).toNat, by omega, by omega⟩
    have hgt : ∀ q : Nat, q < n → getI ths (q : Int) = some (ths[q]?.getD (mkF [])) := fun q hq => by
      rw [getI_nat (by omega), List.getElem?_eq_getElem (by omega)]
      rfl
    obtain ⟨q0, e0, hq0⟩ := hmod (i : Int) (by omega)
    rw [hlz, e0, hgt q0 hq0]
    simp only [Option.bind_some]
    by_cases hiN : i < N
    · rw [show decide ((i : Int) < (N : Int)) = true from by simp; omega]
      obtain ⟨y, hy, hym⟩ : ∃ y, getI picks (i : Int) = some y ∧ y ∈ picks := ⟨_, getI_nat (by omega), List.getElem_mem _⟩
      obtain ⟨y0, y1⟩ := hpk y hym
      obtain ⟨q1, e1, hq1⟩ := hmod y y0
      simp only [cond_true, hy, hlz, Option.bind_some, wrap_small (x := y) (by omega) (by omega), e1, hgt q1 hq1]
      have hfin := cont_ok hp (by omega) (by omega) hi hl hI hq1 (fun h => by omega)
      unfold contF at hfin
      rw [hgt q1 hq1] at hfin
      exact hfin
    · rw [show decide ((i : Int) < (N : Int)) = false from by simp; omega]
      obtain ⟨q2, e2⟩ : ∃ q : Nat, q = (i - N) / 100 := ⟨_, rfl⟩
      have e3 : IntKind.i64.wrap ((IntKind.i64.wrap ((i : Int) - (N : Int))).tdiv 100) = (q2 : Int) := by
        rw [wrap_small (x := (i : Int) - (N : Int)) (by omega) (by omega), Int.tdiv_eq_ediv_of_nonneg (by omega), wrap_small (by omega) (by omega)]
        omega
      simp only [cond_false, e3]
      by_cases hq2 : q2 < n
      · rw [show decide ((q2 : Int) < (ths.length : Int)) = true from by simp; omega, hgt q2 hq2]
        simp only [cond_true, Option.bind_some]
        have hfin := cont_ok hp (by omega) (by omega) hi hl hI hq2 (fun _ _ => e2)
        unfold contF at hfin
        exact hfin
      · rw [show decide ((q2 : Int) < (ths.length : Int)) = false from by simp; omega]
        simp only [cond_false, Option.bind_some]
        have hfin := cont_ok hp (by omega) (by omega) hi hl hI hq0 (fun _ h => by omega)
        unfold contF at hfin
        exact hfin
  rintro ⟨b, ths, ii, M1⟩ hI
  obtain rfl : b = false := hI.b
  obtain rfl : ii = ((N + 400 : Nat) : Int) := hI.at_
  have hlen : ths.length = n := hI.len
  obtain ⟨g, l, hg0, hg1, hS, hP⟩ := hI.sys
  simp only at hS hP ⊢
  rw [show decide ((((N + 400 : Nat) : Int)) < (N : Int) + 400) = false from by simp]
  refine ⟨_, rfl, ?_⟩
  simp only
  have hdone : ∀ th, th ∈ ths → thDone th := fun th hth => by
    obtain ⟨k, hk⟩ := List.mem_iff_getElem?.1 hth
    have := (List.getElem?_eq_some_iff.1 hk).1
    exact (hP (by omega) k th hk).1 (by omega)
  have hpl := hS.perm.length_eq
  simp only [List.length_append, allN, List.length_map, List.length_range'] at hpl
  rw [list_eq hp (M := M1) hS.st.free (by omega) (by omega) (by omega) (by omega)]
  simp only [Option.bind_some]
  have hmn : ∀ th, th ∈ ths → (mineOf th).length ≤ 40 ∧ (mineOf th).Nodup := fun th hth => by
    have h2 : (mineOf th).Sublist (ths.flatMap mineOf) := sub_flat hth
    have h3 := h2.length_le
    exact ⟨by omega, (List.nodup_append.1 hS.nodup).2.1.sublist h2⟩
  refine loop_inv (fun o => o = some true) (fun (k : Nat) (x : Bool × Int) => x = (false, (k : Int))) p.nodes.toNat 2000 rfl (by omega) ?_ ?_
  · rintro k _ hk rfl
    simp only
    rw [show decide ((k : Int) < p.nodes) = true from by simp; omega]
    simp only [cond_true]
    refine loop_inv (fun o => ∃ x', o = some (Lp.next x') ∧ x' = (false, ((k + 1 : Nat) : Int))) (fun (i : Nat) (x : Bool × Int × Int) => x = (false, ((((ths.take i).flatMap mineOf).count (k : Int) : Nat) : Int), (i : Int))) ths.length 2000 (by simp) (by omega) ?_ ?_
    · rintro i _ hi rfl
      have hmem : ths[i] ∈ ths := List.getElem_mem hi
      obtain ⟨d1, d2⟩ := hdone _ hmem
      obtain ⟨m1, m2⟩ := hmn _ hmem
      have e : ths[i].2.2.2.2.2 = mineOf ths[i] := rfl
      simp only
      rw [show decide ((i : Int) < (ths.length : Int)) = true from by simp; omega]
      simp only [cond_true, getI_nat hi, Option.bind_some, d1, cond_false, d2, e]
      rw [show decide ((ths[i].1.length : Int) < (ths[i].1.length : Int)) = false from by simp, has_eq (by omega) (by omega)]
      simp only [cond_false, Option.bind_some]
      have hcl : ((ths.take i).flatMap mineOf).count (k : Int) ≤ 40 := by
        have h1 := List.count_le_length (a := (k : Int)) (l := (ths.take i).flatMap mineOf)
        have h2 : ((ths.take i).flatMap mineOf).length ≤ (ths.flatMap mineOf).length := by
          conv => rhs; rw [← List.take_append_drop i ths, List.flatMap_append, List.length_append]
          omega
        omega
      rw [take_flat hi, List.count_append, m2.count]
      by_cases hin : (k : Int) ∈ mineOf ths[i]
      · rw [show decide ((k : Int) ∈ mineOf ths[i]) = true from by simpa using hin, if_pos hin]
        simp only [cond_true, Option.bind_some]
        rw [wrap_small (x := (i : Int) + 1) (by omega) (by omega), wrap_small (by omega) (by omega)]
        exact ⟨_, rfl, rfl⟩
      · rw [show decide ((k : Int) ∈ mineOf ths[i]) = false from by simpa using hin, if_neg hin]
        simp only [cond_false, Option.bind_some]
        rw [wrap_small (x := (i : Int) + 1) (by omega) (by omega)]
        exact ⟨_, rfl, rfl⟩
    · rintro _ rfl
      simp only
      rw [show decide ((ths.length : Int) < (ths.length : Int)) = false from by simp]
      refine ⟨_, rfl, ?_⟩
      simp only [List.take_length]
      have hc1 : l.count (k : Int) + (ths.flatMap mineOf).count (k : Int) = 1 := by
        rw [← List.count_append, hS.perm.count_eq, (allN_nodup p).count, if_pos (allN_mem (by omega) (by omega))]
      refine loop_inv (fun o => ∃ x', o = some (Lp.next x') ∧ x' = (false, ((k + 1 : Nat) : Int))) (fun (j : Nat) (x : Int × Int) => x = (((((l.take j).count (k : Int) + (ths.flatMap mineOf).count (k : Int)) : Nat) : Int), (j : Int))) l.length 2000 (by simp) (by omega) ?_ ?_
      · rintro j _ hj rfl
        simp only
        rw [show decide ((j : Int) < (l.length : Int)) = true from by simp; omega, getI_nat hj]
        simp only [cond_true, Option.bind_some]
        have hcl : (l.take j).count (k : Int) ≤ l.count (k : Int) := (List.take_sublist j l).count_le _
        rw [List.take_succ_eq_append_getElem hj, List.count_append, List.count_singleton]
        cases hjk : (l[j] == (k : Int))
        · simp only [cond_false, Option.bind_some]
          rw [wrap_small (x := (j : Int) + 1) (by omega) (by omega)]
          refine ⟨_, rfl, ?_⟩
          simp
        · simp only [cond_true, Option.bind_some]
          rw [wrap_small (x := (j : Int) + 1) (by omega) (by omega), wrap_small (by omega) (by omega)]
          refine ⟨_, rfl, ?_⟩
          simp
          omega
      · rintro _ rfl
        simp only
        rw [show decide ((l.length : Int) < (l.length : Int)) = false from by simp]
        refine ⟨_, rfl, ?_⟩
        simp only [List.take_length, hc1]
        rw [wrap_small (x := (k : Int) + 1) (by omega) (by omega)]
        exact ⟨_, rfl, rfl⟩
  · rintro _ rfl
    simp only
    rw [show decide (((p.nodes.toNat : Nat) : Int) < p.nodes) = false from by simp; omega]
    exact ⟨_, rfl, trivial⟩

end Go.Proofs.Ytbbipmelhmgmfaa

/- A law's row from what its walk hands back: arguments opened. -/
namespace Go.Proofs.Ytbbipmelhmgmfaa
open Go.ChangeShapes Go.WideShapes Go.RowKit Go.Deep Go.ChangeAt
section
variable {H : Type} {enc : TypeId × Value → H} {P : Program} {w : World} {base : Nat} {spare : Nat → Bool} {held : Bool}
theorem one_of_drop {α : Type} {l : List α} {j : Nat} (h : j < l.length) : (l.drop j).take 1 = [l[j]] := by
  rw [List.drop_eq_getElem_cons h]
  rfl

/-- A struct by value whose fields are integers, of whatever number. -/
theorem open_structI {r : Reach} {b0 : Nat} {t : TypeId} {fs : Array Go.Field} {v : Value} {d : DataW H} {p : List MemPlace} (ks : List IntKind) (hs : P.underlying t = some (.struct fs)) (hone : oneCellFields P fs = true)
    (hC : P.cellsOf t = fs.size) (hk : fs.toList.map (fun f => P.underlying f.type) = ks.map fun k => some (.int k))
    (hv : Value.okWide P w r b0 t v) (h : DataW.Trod enc P w base spare held t v d p) :
    ∃ ns : List Int, v = .agg (List.zipWith Value.int ks ns).toArray ∧ ns.length = ks.length ∧ ∀ q, q ∈ List.zip ks ns → (Lit.int q.1 q.2).wf = true := by
  obtain ⟨cs, rfl, hsz⟩ := okWide_struct hs hv
  obtain ⟨fuel, hf⟩ := h
  obtain ⟨xs, n, _, hx, hl, hlen, hfs⟩ := DataW.trod_struct hs hf
  have hkl : ks.length = fs.size := by
    have := congrArg List.length hk
    simpa using this.symm
  have hcl : cs.size = fs.size := hsz.trans hC
  have hat : ∀ j (hj : j < cs.size), ∃ (k : IntKind) (m : Int), ks[j]? = some k ∧ cs[j] = .int k m ∧ (Lit.int k m).wf = true := by
    intro j hj
    have hjf : fs[j]? = some fs[j] := by simp
    obtain ⟨ho, hc⟩ := hone_of hone j _ hjf
    have h1 := hfs j _ hjf
    rw [ho, hc] at h1
    have hcs : ((Value.agg cs).cells.toList.drop j).take 1 = [cs[j]] := by
      have := one_of_drop (l := cs.toList) (j := j) (by simpa using hj)
      simpa [Value.cells] using this
    rw [hcs] at h1
    have hxs : xs[j]? = some (xs[j]'(by omega)) := by simp
    rw [hxs] at h1
    have hu : (fs.toList.map (fun f => P.underlying f.type))[j]? = some (P.underlying fs[j].type) := by simp [hjf]
    rw [hk] at hu
    obtain ⟨k, hk1, hk2⟩ : ∃ k, ks[j]? = some k ∧ some (.int k) = P.underlying fs[j].type := by
      simpa using hu
    obtain ⟨m, hm, _, hw⟩ := DataW.trod_int hk2.symm h1
    exact ⟨k, m, hk1, by simpa using hm, hw⟩
  refine ⟨cs.toList.map intOf, ?_, by simp; omega, ?_⟩
  · congr 1
    apply Array.ext_getElem?
    intro j
    rcases Nat.lt_or_ge j cs.size with hj | hj
    · obtain ⟨k, m, h1, h2, _⟩ := hat j hj
      simp [List.getElem?_zipWith, h1, hj, h2, intOf]
    · simp [List.getElem?_zipWith, hj]
  · intro q hq
    obtain ⟨j, hj, he⟩ := List.mem_iff_getElem.1 hq
    simp only [List.length_zip, List.length_map, Array.length_toList] at hj
    obtain ⟨k, m, h1, h2, h3⟩ := hat j (by omega)
    have hk3 : ks[j]'(by omega) = k := by
      have := List.getElem?_eq_getElem (l := ks) (i := j) (by omega)
      rw [h1] at this
      exact (Option.some.inj this).symm
    simp only [List.getElem_zip, List.getElem_map] at he
    rw [← he]
    simp only [hk3, Array.getElem_toList, h2, intOf]
    exact h3

end
theorem list6 {α : Type} {l : List α} (h : l.length = 6) : ∃ x0 x1 x2 x3 x4 x5, l = [x0, x1, x2, x3, x4, x5] := by
  match l, h with
  | [x0, x1, x2, x3, x4, x5], _ => exact ⟨x0, x1, x2, x3, x4, x5, rfl⟩

theorem laidOut : laidOutB Try.prog = true := by kernel_rfl

end Go.Proofs.Ytbbipmelhmgmfaa

/- The program's order of start: its words, told once. -/
namespace Go.Proofs.Ytbbipmelhmgmfaa
open Go.ChangeShapes Go.WideShapes Go.ChangeAt Go.RowKit
def ioN : List Nat := [104, 97, 114, 110, 101, 115, 115, 32, 99, 54, 100, 100, 50, 48, 48, 100, 101, 101, 56, 53, 53, 99, 55, 101, 54, 52, 54, 56, 49, 97, 53, 56, 97, 50, 54, 99, 48, 49, 56, 100, 99, 54, 101, 98, 97, 57, 54, 49, 101, 50, 98, 54, 50, 55, 50, 50, 98, 56, 52, 49, 53, 101, 97, 100, 55, 101, 99, 100, 102, 55, 51, 54, 32, 99, 117, 116, 32, 97, 116, 32, 99, 117, 98, 105, 99, 108, 101, 47, 99, 117, 98, 105, 99, 108, 101, 108, 97, 119, 48, 57, 46, 70, 114, 101, 101, 77, 97, 110, 121]

theorem io1 : Try.prog.initOrder = String.ofList (ioN.map Char.ofNat) := by kernel_rfl

theorem io2 : Try.prog.initOrder.toList = ioN.map Char.ofNat := by rw [io1, String.toList_ofList]

theorem io3 : behindMainWord (wordsSigns Try.prog.initOrder.toList) = (([99, 117, 116] : List Nat).map Char.ofNat) :: ([[97, 116], [99, 117, 98, 105, 99, 108, 101, 47, 99, 117, 98, 105, 99, 108, 101, 108, 97, 119, 48, 57, 46, 70, 114, 101, 101, 77, 97, 110, 121]] : List (List Nat)).map (List.map Char.ofNat) := by rw [io2]; kernel_rfl

theorem stripG (r : List (List Char)) : stripLifts liftWords (([99, 117, 116].map Char.ofNat) :: r) = ([], ([99, 117, 116].map Char.ofNat) :: r) := by rfl

theorem makeG {P : Program} {r : List (List Char)} (h : behindMainWord (wordsSigns P.initOrder.toList) = ([99, 117, 116].map Char.ofNat) :: r) : P.make = some .cut := by
  unfold Program.make
  rw [h]
  rfl

theorem liftsG {P : Program} {r : List (List Char)} (h : behindMainWord (wordsSigns P.initOrder.toList) = ([99, 117, 116].map Char.ofNat) :: r) : P.liftsFinal = false := by
  unfold Program.liftsFinal Program.headLifts
  rw [h, stripG]
  rfl

theorem enterG {P : Program} {r : List (List Char)} (h : behindMainWord (wordsSigns P.initOrder.toList) = ([99, 117, 116].map Char.ofNat) :: r) (h1 : P.laysLater = false) (h2 : P.bearsReflect = false) (h3 : P.doorFits [] = true) : P.mayEnter = true := by
  unfold Program.mayEnter
  rw [h]
  simp only [stripG, h1, h2, h3]
  rfl

theorem e1 : Try.prog.laysLater = false := by kernel_rfl

theorem e2 : Try.prog.bearsReflect = false := by kernel_rfl

theorem e3 : Try.prog.doorFits [] = true := by kernel_rfl

theorem io_make : Try.prog.make = some .cut := makeG io3

theorem io_lifts : Try.prog.liftsFinal = false := liftsG io3

theorem io_enter : Try.prog.mayEnter = true := enterG io3 e1 e2 e3

theorem io_maps : mapsRowed Try.prog = true := by kernel_rfl

theorem io_heard : Try.prog.stopsHeard = true := by kernel_rfl

end Go.Proofs.Ytbbipmelhmgmfaa

/- A law's row: arguments that are slices, or structs within structs. -/
namespace Go.Proofs.Ytbbipmelhmgmfaa
open Go.ChangeShapes Go.WideShapes Go.RowKit Go.Deep Go.ChangeAt
section
variable {H : Type} {enc : TypeId × Value → H} {P : Program} {w : World} {base : Nat} {spare : Nat → Bool} {held : Bool}
/-- The kinds of a type's cells, if all are integers, through structs. -/
def flatF (P : Program) (k : TypeId → Option (List IntKind)) : Nat → List Go.Field → Option (List IntKind)
  | _, [] => some []
  | off, f :: fs => if f.offset = off then (k f.type).bind fun ks => if ks.length = P.cellsOf f.type then (flatF P k (off + P.cellsOf f.type) fs).map (ks ++ ·) else none else none

def flatK (P : Program) : Nat → TypeId → Option (List IntKind)
  | 0, _ => none
  | n + 1, t => match P.underlying t with
    | some (.int k) => some [k]
    | some (.struct fs) => (flatF P (flatK P n) 0 fs.toList).bind fun ks => if ks.length = P.cellsOf t then some ks else none
    | _ => none

def Ints (ks : List IntKind) (cs : List Value) : Prop := ∃ ns : List Int, cs = List.zipWith Value.int ks ns ∧ ns.length = ks.length ∧ ∀ q, q ∈ List.zip ks ns → (Lit.int q.1 q.2).wf = true

theorem Ints.append {ks ks' : List IntKind} {cs cs' : List Value} (h : Ints ks cs) (h' : Ints ks' cs') : Ints (ks ++ ks') (cs ++ cs') := by
  obtain ⟨ns, rfl, h2, h3⟩ := h
  obtain ⟨ns', rfl, h2', h3'⟩ := h'
  refine ⟨ns ++ ns', (List.zipWith_append h2.symm).symm, by simp [h2, h2'], fun q hq => ?_⟩
  rw [List.zip_append h2.symm] at hq
  rcases List.mem_append.1 hq with hq | hq
  · exact h3 q hq
  · exact h3' q hq

theorem flatF_ints {k : TypeId → Option (List IntKind)} {m : Nat} {cs : List Value} (hk : ∀ t ks cs x, k t = some ks → DataW.trod enc P w base spare held m t cs = some x → Ints ks cs) : ∀ (fs : List Go.Field) (off : Nat) (ks : List IntKind), flatF P k off fs = some ks →
    (∀ f, f ∈ fs → ∃ y, DataW.trod enc P w base spare held m f.type ((cs.drop f.offset).take (P.cellsOf f.type)) = some y) → Ints ks ((cs.drop off).take ks.length)
  | [], off, ks, h, _ => by
    obtain rfl := Option.some.inj h
    exact ⟨[], by simp, rfl, fun q hq => by simp at hq⟩
  | f :: fs, off, ks, h, hf => by
    unfold flatF at h
    split at h
    · rename_i ho
      obtain ⟨k1, h1, h⟩ := Option.bind_eq_some_iff.1 h
      split at h
      · rename_i hl
        obtain ⟨k2, h2, rfl⟩ := Option.map_eq_some_iff.1 h
        obtain ⟨y, hy⟩ := hf f (List.mem_cons_self ..)
        have i1 := hk _ _ _ _ h1 hy
        have i2 := flatF_ints hk fs _ k2 h2 fun g hg => hf g (List.mem_cons_of_mem _ hg)
        rw [ho, ← hl] at i1
        rw [List.length_append, List.take_add, List.drop_drop, hl]
        rw [hl] at i1
        exact i1.append i2
      · cases h
    · cases h

theorem trod_flat : ∀ (n : Nat) (t : TypeId) (ks : List IntKind) (m : Nat) (cs : List Value) (x : DataW H × List MemPlace), flatK P n t = some ks → DataW.trod enc P w base spare held m t cs = some x → Ints ks cs
  | 0, _, _, _, _, _, h, _ => by cases h
  | n + 1, t, ks, m, cs, x, h, hd => by
    unfold flatK at h
    split at h
    · rename_i k hu
      obtain rfl := Option.some.inj h
      obtain ⟨z, h1, _, h2⟩ := DataW.trod_int hu hd
      subst h1
      exact ⟨[z], rfl, rfl, fun q hq => by
        rcases List.mem_singleton.1 hq with rfl
        exact h2⟩
    · rename_i fs hu
      obtain ⟨ks', h1, h2⟩ := Option.bind_eq_some_iff.1 h
      split at h2
      · rename_i hl
        obtain rfl := Option.some.inj h2
        obtain ⟨xs, m', _, hx, hcl, hlen, hfs⟩ := DataW.trod_struct hu hd
        have := flatF_ints (m := m') (cs := cs) (fun t ks cs x => trod_flat n t ks m' cs x) fs.toList 0 ks' h1 fun f hf => by
          obtain ⟨j, hj, he⟩ := List.mem_iff_getElem.1 hf
          have hj' : fs[j]? = some f := by rw [← he]; simp
          have h3 := hfs j f hj'
          have hjs : j < fs.size := by simpa using hj
          exact ⟨_, h3.trans (List.getElem?_eq_getElem (show j < xs.length by omega))⟩
        rw [List.drop_zero, List.take_of_length_le (by omega)] at this
        exact this
      · cases h2
    · cases h

/-- A slice of things that read as such. -/
theorem open_rowG0 {α : Type} {T : TypeId} {t e : TypeId} {v : Value} {d : DataW H} {p : List MemPlace} {sz : Nat} (f : α → List Value) (Pr : α → Prop) (z : α) (ht : P.underlying t = some (.slice e))
    (hel : ∀ m cs x, DataW.trod enc P w base spare held m e cs = some x → ∃ y, cs = f y ∧ Pr y) (hc : P.cellsOf e = sz) (hpos : 0 < sz) (hfl : ∀ x, (f x).length = sz)
    (hv : ∃ a len cap, v = .slice a len cap) (h : DataW.Trod enc P w base spare held t v d p) : ∃ xs : List α, RoAt T sz f v xs w ∧ ∀ x, x ∈ xs → Pr x := by
  obtain ⟨a, len, cap, rfl⟩ := hv
  obtain ⟨fuel, hd⟩ := h
  rcases open_slice ht hd with ⟨h1, _⟩ | ⟨ad, n', c, m, q, D, Pl, h1, _, hnc, _, hm, _, hcell⟩
  · simp only [Value.cells, List.cons.injEq, and_true] at h1
    injection h1 with h1 h2 h3
    subst h1; subst h2; subst h3
    exact ⟨[], .inl ⟨_, _, rfl, rfl⟩, fun _ h => by cases h⟩
  · simp only [Value.cells, List.cons.injEq, and_true] at h1
    injection h1 with h1 h2 h3
    subst h1; subst h2; subst h3
    have hlen : len ≤ m := by rw [hm]; split <;> omega
    have hI : ∀ i, i < len → ∃ y : α, w.cells? base (ad.add (i * sz)) sz = some (f y) ∧ Pr y := fun i hi => by
      obtain ⟨cs', h1, h2⟩ := hcell i (by omega)
      obtain ⟨y, h3, h4⟩ := hel q cs' _ h2
      rw [hc, h3] at h1
      exact ⟨y, h1, h4⟩
    obtain ⟨g, hg⟩ := Classical.axiomOfChoice (r := fun (i : Nat) (y : α) => i < len → w.cells? base (ad.add (i * sz)) sz = some (f y) ∧ Pr y)
      (fun i => by
        by_cases hi : i < len
        · obtain ⟨y, h⟩ := hI i hi; exact ⟨y, fun _ => h⟩
        · exact ⟨z, fun h => absurd h hi⟩)
    refine ⟨(List.range len).map fun i => g i, ?_, fun x hx => ?_⟩
    · cases len with
      | zero => exact .inl ⟨_, _, rfl, rfl⟩
      | succ m0 =>
        have hz : ∀ i, i < m0 + 1 → ∀ j u, (f ((g i)))[j]? = some u → w.cell? ((ad.add (i * sz)).add j) = some u := fun i hi j u hu => by
          obtain ⟨h1, _⟩ := hg i hi
          obtain ⟨_, h4, h5⟩ := World.cells?_some h1
          have hj : j < (f (g i)).length := (List.getElem?_eq_some_iff.1 hu).1
          rw [h5 j (by omega), hu]
        have h0 := hz 0 (by omega) 0 ((f ((g 0)))[0]'(by rw [hfl]; exact hpos)) (by simp)
        have hadd : (ad.add (0 * sz)).add 0 = ad := by rw [Nat.zero_mul]; rfl
        rw [hadd] at h0
        have hsp : ad.spot = none := by
          unfold World.cell? at h0
          split at h0
          · split at h0
            · cases h0
            · rename_i h; simpa using h
          · cases h0
        obtain ⟨gB, o, sp⟩ := ad
        simp only at hsp
        subst hsp
        have hx : ∃ cur E fz, w.heap[gB]? = some (.cells cur E fz) := by
          unfold World.cell? at h0
          split at h0
          · rename_i c' E fz hh; exact ⟨c', E, fz, hh⟩
          · cases h0
        obtain ⟨cur, E, fz, hh⟩ := hx
        refine .inr ⟨gB, o, cap, cur, E, fz, by simp, ?_, hh, ?_, by simpa using hnc⟩
        · intro he
          have := congrArg List.length he
          simp at this
        · have hll : ((List.range (m0 + 1)).map fun i => g i).length = m0 + 1 := by simp
          apply List.ext_getElem?
          intro q
          rw [hll]
          by_cases hq : q < (m0 + 1) * sz
          · have hi : q / sz < m0 + 1 := (Nat.div_lt_iff_lt_mul hpos).2 hq
            have hj : q % sz < sz := Nat.mod_lt _ hpos
            have hqq : q / sz * sz + q % sz = q := by rw [Nat.mul_comm]; exact Nat.div_add_mod q sz
            have h1 := hz (q / sz) hi (q % sz) ((f ((g (q / sz))))[q % sz]'(by rw [hfl]; exact hj)) (by simp)
            rw [Addr.add_lit, Addr.add_lit] at h1
            simp only [World.cell?, hh] at h1
            have h2 := flatMap_at hfl ((List.range (m0 + 1)).map fun i => g i) (q / sz) (by rw [hll]; exact hi) (q % sz) ((f ((g (q / sz))))[q % sz]'(by rw [hfl]; exact hj)) (by simp)
            rw [hqq] at h2
            rw [h2, List.getElem?_take, if_pos hq, List.getElem?_drop]
            rw [Nat.add_assoc, hqq] at h1
            simpa using h1
          · rw [List.getElem?_take, if_neg hq, List.getElem?_eq_none]
            rw [flatMap_len hfl, hll]
            omega
    · obtain ⟨i, hi, rfl⟩ := List.mem_map.1 hx
      exact (hg i (List.mem_range.1 hi)).2

theorem open_rowG {α : Type} {T : TypeId} {r : Reach} {b0 : Nat} {t e : TypeId} {v : Value} {d : DataW H} {p : List MemPlace} {sz : Nat} (f : α → List Value) (Pr : α → Prop) (z : α) (ht : P.underlying t = some (.slice e))
    (hel : ∀ m cs x, DataW.trod enc P w base spare held m e cs = some x → ∃ y, cs = f y ∧ Pr y) (hc : P.cellsOf e = sz) (hpos : 0 < sz) (hfl : ∀ x, (f x).length = sz)
    (hv : Value.okWide P w r b0 t v) (h : DataW.Trod enc P w base spare held t v d p) : ∃ xs : List α, RoAt T sz f v xs w ∧ ∀ x, x ∈ xs → Pr x :=
  open_rowG0 f Pr z ht hel hc hpos hfl (okWide_slice ht hv) h

/-- A slice of things whose cells are integers. -/
theorem open_rowN {α : Type} {T : TypeId} {r : Reach} {b0 : Nat} {t e : TypeId} {v : Value} {d : DataW H} {p : List MemPlace} (n : Nat) (ks : List IntKind) (f : α → List Value) (dec : List Int → α) (ht : P.underlying t = some (.slice e)) (hk : flatK P n e = some ks)
    (hc : P.cellsOf e = ks.length) (hdec : ∀ ns : List Int, ns.length = ks.length → f (dec ns) = List.zipWith Value.int ks ns) (hpos : 0 < ks.length) (hfl : ∀ x, (f x).length = ks.length)
    (hv : Value.okWide P w r b0 t v) (h : DataW.Trod enc P w base spare held t v d p) :
    ∃ xs : List α, RoAt T ks.length f v xs w ∧ ∀ x, x ∈ xs → ∃ ns : List Int, x = dec ns ∧ ns.length = ks.length ∧ ∀ q, q ∈ List.zip ks ns → (Lit.int q.1 q.2).wf = true :=
  open_rowG f (fun x => ∃ ns : List Int, x = dec ns ∧ ns.length = ks.length ∧ ∀ q, q ∈ List.zip ks ns → (Lit.int q.1 q.2).wf = true) (dec []) ht (fun m cs x hx => by
    obtain ⟨ns, h1, h2, h3⟩ := trod_flat n e ks m cs x hk hx
    exact ⟨dec ns, by rw [hdec ns h2]; exact h1, ns, rfl, h2, h3⟩) hc hpos hfl hv h

/-- A slice of slices: the outer row's values, and each one's own row. -/
theorem open_rowRows {α : Type} {T T' : TypeId} {r : Reach} {b0 : Nat} {t ti e : TypeId} {v : Value} {d : DataW H} {p : List MemPlace} {sz : Nat} (f : α → List Value) (Pr : α → Prop) (z : α) (ht : P.underlying t = some (.slice ti)) (hti : P.underlying ti = some (.slice e)) (hci : P.cellsOf ti = 1)
    (hel : ∀ m cs x, DataW.trod enc P w base spare held m e cs = some x → ∃ y, cs = f y ∧ Pr y) (hc : P.cellsOf e = sz) (hpos : 0 < sz) (hfl : ∀ x, (f x).length = sz)
    (hv : Value.okWide P w r b0 t v) (h : DataW.Trod enc P w base spare held t v d p) : ∃ vs : List Value, RoAt T 1 (fun v => [v]) v vs w ∧ ∀ x, x ∈ vs → ∃ xs : List α, RoAt T' sz f x xs w ∧ ∀ y, y ∈ xs → Pr y := by
  refine open_rowG (T := T) (fun v => [v]) (fun v => ∃ xs : List α, RoAt T' sz f v xs w ∧ ∀ y, y ∈ xs → Pr y) (.slice none 0 0) ht (fun m cs x hx => ?_) hci (by omega) (fun _ => rfl) hv h
  obtain ⟨x1, x2⟩ := x
  have key : ∃ a len cap, cs = [Value.slice a len cap] := by
    rcases open_slice hti hx with ⟨h1, _⟩ | ⟨ad, n', c, m', q, D, Pl, h1, _⟩
    · exact ⟨_, _, _, h1⟩
    · exact ⟨_, _, _, h1⟩
  obtain ⟨a, len, cap, rfl⟩ := key
  exact ⟨.slice a len cap, rfl, open_rowG0 (T := T') f Pr z hti hel hc hpos hfl ⟨a, len, cap, rfl⟩ (d := x1) (p := x2) ⟨m, hx⟩⟩

theorem open_rowI {T : TypeId} {r : Reach} {b0 : Nat} {t e : TypeId} {k : IntKind} {v : Value} {d : DataW H} {p : List MemPlace} (f : Int → List Value) (hf : ∀ x, f x = [.int k x]) (ht : P.underlying t = some (.slice e)) (he : P.underlying e = some (.int k)) (hc : P.cellsOf e = 1)
    (hv : Value.okWide P w r b0 t v) (h : DataW.Trod enc P w base spare held t v d p) : ∃ xs : List Int, RoAt T 1 f v xs w ∧ ∀ n, n ∈ xs → (Lit.int k n).wf = true := by
  obtain ⟨xs, h1, h2⟩ := open_rowN (T := T) 1 [k] f (fun ns => ns.headD 0) ht (by unfold flatK; rw [he]) hc (fun ns hn => by
    match ns, hn with
    | [x], _ => exact hf x) (by simp) (fun x => by rw [hf]; rfl) hv h
  refine ⟨xs, h1, fun n hn => ?_⟩
  obtain ⟨ns, rfl, h3, h4⟩ := h2 n hn
  match ns, h3 with
  | [x], _ => exact h4 (k, x) (by simp)

end
end Go.Proofs.Ytbbipmelhmgmfaa

/- A law's row: arguments that are slices of slices. -/
namespace Go.Proofs.Ytbbipmelhmgmfaa
open Go.ChangeShapes Go.WideShapes Go.RowKit Go.Deep Go.ChangeAt
theorem RowsAt.of {α : Type} {T : TypeId} {sz : Nat} {f : α → List Value} {Pr : α → Prop} {v : Value} {w : World} {vs : List Value} (h : RoAt 0 1 oneE v vs w) (h2 : ∀ x, x ∈ vs → ∃ xs : List α, RoAt T sz f x xs w ∧ ∀ y, y ∈ xs → Pr y) :
    ∃ xss : List (List α), RowsAt T sz f vs v xss w ∧ ∀ xs, xs ∈ xss → ∀ y, y ∈ xs → Pr y := by
  have key : ∀ (l : List Value), (∀ x, x ∈ l → ∃ xs : List α, RoAt T sz f x xs w ∧ ∀ y, y ∈ xs → Pr y) → ∃ xss : List (List α), l.length = xss.length ∧ (∀ (i : Nat) (u : Value) (xs : List α), l[i]? = some u → xss[i]? = some xs → RoAt T sz f u xs w) ∧ ∀ xs, xs ∈ xss → ∀ y, y ∈ xs → Pr y := by
    intro l
    induction l with
    | nil => exact fun _ => ⟨[], rfl, (fun i u xs h => by simp at h), fun xs h => by cases h⟩
    | cons u l ih =>
      intro hl
      obtain ⟨xs, h3, h4⟩ := hl u (List.mem_cons_self ..)
      obtain ⟨xss, h5, h6, h7⟩ := ih fun x hx => hl x (List.mem_cons_of_mem _ hx)
      refine ⟨xs :: xss, by simp [h5], fun i u' xs' hu hx => ?_, fun ys hy => ?_⟩
      · cases i with
        | zero =>
          simp only [List.getElem?_cons_zero, Option.some.injEq] at hu hx
          subst hu; subst hx; exact h3
        | succ i =>
          simp only [List.getElem?_cons_succ] at hu hx
          exact h6 i u' xs' hu hx
      · rcases List.mem_cons.1 hy with rfl | hy
        · exact h4
        · exact h7 ys hy
  obtain ⟨xss, h5, h6, h7⟩ := key vs h2
  exact ⟨xss, ⟨h, h5, h6⟩, h7⟩

section
variable {H : Type} {enc : TypeId × Value → H} {P : Program} {w : World} {base : Nat} {spare : Nat → Bool} {held : Bool}
theorem open_rowsB {T' : TypeId} {r : Reach} {b0 : Nat} {t ti e : TypeId} {v : Value} {d : DataW H} {p : List MemPlace} (ht : P.underlying t = some (.slice ti)) (hti : P.underlying ti = some (.slice e)) (he : P.underlying e = some .bool) (hci : P.cellsOf ti = 1) (hc : P.cellsOf e = 1)
    (hv : Value.okWide P w r b0 t v) (h : DataW.Trod enc P w base spare held t v d p) : ∃ (vs : List Value) (xss : List (List Bool)), RowsAt T' 1 boolE vs v xss w := by
  obtain ⟨vs, h1, h2⟩ := open_rowRows (T := 0) (T' := T') boolE (fun _ => True) false ht hti hci (fun m cs x hx => by
    obtain ⟨b, hb, _⟩ := DataW.trod_bool he hx
    exact ⟨b, hb, trivial⟩) hc (by omega) (fun _ => rfl) hv h
  obtain ⟨xss, h3, _⟩ := RowsAt.of (T := T') h1 h2
  exact ⟨vs, xss, h3⟩

end
end Go.Proofs.Ytbbipmelhmgmfaa

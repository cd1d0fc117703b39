/- Some of our texts, one behind the other. -/
import Derived.Test.YtbbipmelhmgmfaaFmM6
import Derived.Test.YtbbipmelhmgmfaaFmM2
set_option linter.all false
/- The list of free nodes: what its programs come to, without the code. -/
namespace Go.Proofs.Ytbbipmelhmgmfaa
open Go.RowKit

/-! ### The head's word -/
theorem ofInt_nat {x : Int} (h0 : 0 ≤ x) (h1 : x < 18446744073709551616) : (BitVec.ofInt 64 x).toNat = x.toNat := by
  rw [BitVec.toNat_ofInt]
  congr 1
  exact Int.emod_eq_of_lt h0 (by simpa using h1)

theorem and_eq {x y : Int} (h0 : 0 ≤ x) (h1 : x < 18446744073709551616) (h2 : 0 ≤ y) (h3 : y < 18446744073709551616) : bits_and .u64 x y = ((x.toNat &&& y.toNat : Nat) : Int) := by
  have h : ((BitVec.ofInt 64 x &&& BitVec.ofInt 64 y).toNat : Int) = ((x.toNat &&& y.toNat : Nat) : Int) := by
    rw [BitVec.toNat_and, ofInt_nat h0 h1, ofInt_nat h2 h3]
  show IntKind.u64.wrap ((BitVec.ofInt 64 x &&& BitVec.ofInt 64 y).toNat : Int) = _
  rw [h]
  have : x.toNat &&& y.toNat < 2 ^ 64 := Nat.and_lt_two_pow _ (by omega)
  exact wrapu_id (by omega) (by omega)

theorem or_eq {x y : Int} (h0 : 0 ≤ x) (h1 : x < 18446744073709551616) (h2 : 0 ≤ y) (h3 : y < 18446744073709551616) : bits_or .u64 x y = ((x.toNat ||| y.toNat : Nat) : Int) := by
  have h : ((BitVec.ofInt 64 x ||| BitVec.ofInt 64 y).toNat : Int) = ((x.toNat ||| y.toNat : Nat) : Int) := by
    rw [BitVec.toNat_or, ofInt_nat h0 h1, ofInt_nat h2 h3]
  show IntKind.u64.wrap ((BitVec.ofInt 64 x ||| BitVec.ofInt 64 y).toNat : Int) = _
  rw [h]
  have : x.toNat ||| y.toNat < 2 ^ 64 := Nat.or_lt_two_pow (by omega) (by omega)
  exact wrapu_id (by omega) (by omega)

theorem andNot_eq {x y : Int} (h0 : 0 ≤ x) (h1 : x < 18446744073709551616) (h2 : 0 ≤ y) (h3 : y < 18446744073709551616) : bits_andNot .u64 x y = ((x.toNat &&& (18446744073709551615 - y.toNat) : Nat) : Int) := by
  have h : ((BitVec.ofInt 64 x &&& ~~~(BitVec.ofInt 64 y)).toNat : Int) = ((x.toNat &&& (18446744073709551615 - y.toNat) : Nat) : Int) := by
    rw [BitVec.toNat_and, BitVec.toNat_not, ofInt_nat h0 h1, ofInt_nat h2 h3]
  show IntKind.u64.wrap ((BitVec.ofInt 64 x &&& ~~~(BitVec.ofInt 64 y)).toNat : Int) = _
  rw [h]
  have : x.toNat &&& (18446744073709551615 - y.toNat) < 2 ^ 64 := Nat.and_lt_two_pow _ (by omega)
  exact wrapu_id (by omega) (by omega)

theorem f_node : D.field_Field_Formed D.free_node = true := by decide

theorem f_tag : D.field_Field_Formed D.free_tag = true := by decide

theorem m_node : D.field_Field_Most D.free_node = 2097151 := by decide +kernel

theorem m_tag : D.field_Field_Most D.free_tag = 8796093022207 := by decide +kernel

theorem k_node : D.field_Field_mask D.free_node = 2097151 := by decide +kernel

theorem k_tag : D.field_Field_mask D.free_tag = 18446744073707454464 := by decide +kernel

theorem shr0 (w : Int) : shrI .u64 w 0 = w := by
  show w.fdiv (2 ^ (min 0 64)) = w
  simp

theorem shr21 {w : Int} (_ : 0 ≤ w) : shrI .u64 w 21 = w / 2097152 := by
  show w.fdiv 2097152 = _
  exact Int.fdiv_eq_ediv_of_nonneg _ (by omega)

theorem get_node {w : Int} (h0 : 0 ≤ w) (h1 : w < 18446744073709551616) : D.field_Field_Get D.free_node w = w % 2097152 := by
  unfold D.field_Field_Get
  rw [f_node, m_node]
  show bits_and .u64 (shrI .u64 w 0) 2097151 = _
  rw [shr0, and_eq h0 h1 (by omega) (by omega)]
  have : w.toNat &&& 2097151 = w.toNat % 2097152 := Nat.and_two_pow_sub_one_eq_mod w.toNat 21
  rw [show (2097151 : Int).toNat = 2097151 from rfl, this]
  omega

theorem get_tag {w : Int} (h0 : 0 ≤ w) (h1 : w < 18446744073709551616) : D.field_Field_Get D.free_tag w = w / 2097152 := by
  unfold D.field_Field_Get
  rw [f_tag, m_tag]
  show bits_and .u64 (shrI .u64 w 21) 8796093022207 = _
  rw [shr21 h0, and_eq (by omega) (by omega) (by omega) (by omega)]
  have : (w / 2097152).toNat &&& 8796093022207 = (w / 2097152).toNat % 8796093022208 := Nat.and_two_pow_sub_one_eq_mod _ 43
  rw [show (8796093022207 : Int).toNat = 8796093022207 from rfl, this]
  omega

theorem put_node {n : Int} (h0 : 0 ≤ n) (h1 : n < 18446744073709551616) : D.field_Field_Put D.free_node 0 n = n % 2097152 := by
  unfold D.field_Field_Put
  rw [f_node, m_node, k_node]
  show bits_or .u64 (bits_andNot .u64 0 2097151) (shlI .u64 (bits_and .u64 n 2097151) 0) = _
  have e : n.toNat &&& 2097151 = n.toNat % 2097152 := Nat.and_two_pow_sub_one_eq_mod n.toNat 21
  rw [andNot_eq (by omega) (by omega) (by omega) (by omega), and_eq h0 h1 (by omega) (by omega), show (2097151 : Int).toNat = 2097151 from rfl, e]
  have h2 : shlI .u64 ((n.toNat % 2097152 : Nat) : Int) 0 = ((n.toNat % 2097152 : Nat) : Int) := by
    show IntKind.u64.wrap (((n.toNat % 2097152 : Nat) : Int) * 2 ^ (min 0 64)) = _
    rw [show ((n.toNat % 2097152 : Nat) : Int) * 2 ^ (min 0 64) = ((n.toNat % 2097152 : Nat) : Int) from by simp]
    exact wrapu_id (by omega) (by omega)
  rw [h2, or_eq (by simp) (by simp) (by omega) (by omega)]
  simp
  omega

theorem put_tag {u t : Int} (h0 : 0 ≤ u) (h1 : u < 2097152) (h2 : 0 ≤ t) (h3 : t < 18446744073709551616) : D.field_Field_Put D.free_tag u t = (t % 8796093022208) * 2097152 + u := by
  unfold D.field_Field_Put
  rw [f_tag, m_tag, k_tag]
  show bits_or .u64 (bits_andNot .u64 u 18446744073707454464) (shlI .u64 (bits_and .u64 t 8796093022207) 21) = _
  have e : t.toNat &&& 8796093022207 = t.toNat % 8796093022208 := Nat.and_two_pow_sub_one_eq_mod t.toNat 43
  have e2 : u.toNat &&& 2097151 = u.toNat % 2097152 := Nat.and_two_pow_sub_one_eq_mod u.toNat 21
  rw [andNot_eq h0 (by omega) (by omega) (by omega), and_eq h2 h3 (by omega) (by omega), show (8796093022207 : Int).toNat = 8796093022207 from rfl, e,
    show 18446744073709551615 - (18446744073707454464 : Int).toNat = 2097151 from rfl, e2]
  have h4 : shlI .u64 ((t.toNat % 8796093022208 : Nat) : Int) 21 = ((t.toNat % 8796093022208 * 2097152 : Nat) : Int) := by
    show IntKind.u64.wrap (((t.toNat % 8796093022208 : Nat) : Int) * 2 ^ (min 21 64)) = _
    rw [show ((t.toNat % 8796093022208 : Nat) : Int) * 2 ^ (min 21 64) = ((t.toNat % 8796093022208 * 2097152 : Nat) : Int) from by simp]
    exact wrapu_id (by omega) (by omega)
  rw [h4, or_eq (by omega) (by omega) (by omega) (by omega)]
  have h5 : u.toNat % 2097152 ||| t.toNat % 8796093022208 * 2097152 = 2097152 * (t.toNat % 8796093022208) + u.toNat % 2097152 := by
    rw [Nat.or_comm, Nat.mul_comm]
    exact (Nat.two_pow_add_eq_or_of_lt (i := 21) (Nat.mod_lt _ (by omega)) _).symm
  rw [show ((u.toNat % 2097152 : Nat) : Int).toNat = u.toNat % 2097152 from rfl, show ((t.toNat % 8796093022208 * 2097152 : Nat) : Int).toNat = t.toNat % 8796093022208 * 2097152 from rfl, h5]
  omega

theorem turned_eq {g n m : Int} (hg : 0 ≤ g) (hg1 : g < 1000000) (hn : 0 ≤ n) (hn1 : n < 2097152) (hm : 0 ≤ m) (hm1 : m < 2097152) : D.free_turned (g * 2097152 + n) m = (g + 1) * 2097152 + m := by
  unfold D.free_turned
  rw [get_tag (by omega) (by omega), put_node hm (by omega), wrapu_id (x := (g * 2097152 + n) / 2097152 + 1) (by omega) (by omega), put_tag (by omega) (by omega) (by omega) (by omega)]
  omega

theorem link_eq {n : Int} (h0 : 0 ≤ n) (h1 : n ≤ 1000000) : D.free_link n = n + 1 := by
  unfold D.free_link
  rw [wrap_id (x := n + 1) (by omega) (by omega), wrapu_id (by omega) (by omega)]

theorem Peek_eq0 {fu : Nat} {M : Mem} {i : Int} (h0 : 0 ≤ i) (h1 : i < M.ws.length) : D.mem_Memory_Peek fu M 0 i = some (rd M.ws i) := by
  unfold D.mem_Memory_Peek
  have hS : D.mem_Memory_Size fu M 0 = some (M.ws.length : Int) := rfl
  rw [show decide (i < 0) = false from by simp; omega]
  simp only [cond_false, hS, Option.bind_some]
  rw [show decide (i ≥ (M.ws.length : Int)) = false from by simp; omega, show zeroI 0 = some () from rfl, getI_rd h0 h1]
  rfl

/-! ### The list -/
/-- The place of a node's next. -/
def nx (p : Plan) (n : Int) : Int := D.plan_Plan_nodes p + n * 5 + 1

def first : List Int → Int
  | [] => 0
  | n :: _ => n + 1

def Linked (p : Plan) (ws : List Int) : List Int → Prop
  | [] => True
  | n :: l => rd ws (nx p n) = first l ∧ Linked p ws l

/-- The words hold this list of free nodes, the head was turned so often. -/
structure FreeAt (p : Plan) (ws : List Int) (l : List Int) (g : Int) : Prop where
  len : (ws.length : Int) = D.plan_Plan_Size p
  head : rd ws 0 = g * 2097152 + first l
  g0 : 0 ≤ g
  range : ∀ n, n ∈ l → 0 ≤ n ∧ n < p.nodes
  nodup : l.Nodup
  linked : Linked p ws l

theorem Linked.keep {p : Plan} {ws ws' : List Int} : ∀ {l : List Int}, Linked p ws l → (∀ n, n ∈ l → rd ws' (nx p n) = rd ws (nx p n)) → Linked p ws' l
  | [], _, _ => trivial
  | n :: _, h, hk => ⟨(hk n (List.mem_cons_self ..)).trans h.1, Linked.keep h.2 fun m hm => hk m (List.mem_cons_of_mem _ hm)⟩

theorem nx_in {p : Plan} (hp : PF p) {n : Int} (h0 : 0 ≤ n) (h1 : n < p.nodes) : 0 < nx p n ∧ nx p n < D.plan_Plan_Size p ∧ D.plan_Plan_Next p n = nx p n := by
  have hN := nodes_le hp
  have hS := Size_eq hp
  unfold nx
  exact ⟨by omega, by omega, by rw [Next_eq hp, if_pos ⟨h0, h1⟩]⟩

theorem nx_ne {p : Plan} {n m : Int} (h : n ≠ m) : nx p n ≠ nx p m := by unfold nx; omega

theorem first_le {l : List Int} {k : Int} (h : ∀ n, n ∈ l → 0 ≤ n ∧ n < k) (hk : 0 ≤ k) : 0 ≤ first l ∧ first l ≤ k := by
  cases l with
  | nil => exact ⟨Int.le_refl _, hk⟩
  | cons n l => have := h n (List.mem_cons_self ..); simp only [first]; omega

theorem pop_runs {p : Plan} (hp : PF p) {ws : List Int} {n : Int} {l : List Int} {g : Int} (h : FreeAt p ws (n :: l) g) (hnn : p.nodes ≤ 1000000) (hg : g < 1000000) (k : Nat) :
    Runs (D.free_Pop (k + 1) p) ws 3 n (ws.set (0 : Int).toNat ((g + 1) * 2097152 + first l)) ∧ FreeAt p (ws.set (0 : Int).toNat ((g + 1) * 2097152 + first l)) l (g + 1) := by
  have hs := h.len
  have hN := nodes_le hp
  have hS := Size_eq hp
  have hn1 := hp.n1
  have hh := h.head
  have g0 := h.g0
  have hr := h.range n (List.mem_cons_self ..)
  have hrl : ∀ m, m ∈ l → 0 ≤ m ∧ m < p.nodes := fun m hm => h.range m (List.mem_cons_of_mem _ hm)
  obtain ⟨q1, q2, q3⟩ := nx_in hp hr.1 hr.2
  obtain ⟨f1, f2⟩ := first_le hrl (by omega)
  simp only [first] at hh
  refine ⟨?_, ?_⟩
  · have hb : D.free_Pop (k + 1) p = .act 0 0 0 0 (fun x => D.free_Pop_1 (D.free_Pop k) p x) := by
      show D.free_Pop_body (D.free_Pop k) p = _
      unfold D.free_Pop_body
      rw [Head_eq hp]; rfl
    rw [hb]
    refine .load (by omega) (by omega) ?_
    unfold D.free_Pop_1
    rw [hh, get_node (by omega) (by omega), show (g * 2097152 + (n + 1)) % 2097152 = n + 1 from by omega, wrap_id (x := n + 1) (by omega) (by omega), show n + 1 - 1 = n from by omega, wrap_id (x := n) (by omega) (by omega),
      show decide (n < 0) = false from by simp; omega, q3]
    refine Runs.load (k := fun x => D.free_Pop_1_1 (D.free_Pop k) p (g * 2097152 + (n + 1)) n x) (by dsimp only; omega) (by dsimp only; omega) ?_
    unfold D.free_Pop_1_1
    rw [h.linked.1, Head_eq hp, turned_eq g0 hg (by omega) (by omega) f1 (by omega)]
    refine Runs.act (k := fun x => D.prog_Swap_int_1 (fun x => D.free_Pop_1_1_1 (D.free_Pop k) p n x) (g * 2097152 + (n + 1)) x) (by dsimp only; omega) (getI_rd (ws := ws) (by dsimp only; omega) (by dsimp only; omega)) ?_
    rw [hh]
    have ha : acted 2 0 (g * 2097152 + (n + 1)) ((g + 1) * 2097152 + first l) (g * 2097152 + (n + 1)) ws = ws.set (0 : Int).toNat ((g + 1) * 2097152 + first l) := by simp [acted]
    rw [ha]
    unfold D.prog_Swap_int_1 D.free_Pop_1_1_1
    rw [show (g * 2097152 + (n + 1) == g * 2097152 + (n + 1)) = true from by simp]
    exact .done _ _
  · refine ⟨by simpa using hs, ?_, by omega, hrl, (List.nodup_cons.1 h.nodup).2, h.linked.2.keep fun m hm => ?_⟩
    · rw [rd_set (by omega) (by omega) (by omega), if_pos rfl]
    · obtain ⟨p1, _, _⟩ := nx_in hp (hrl m hm).1 (hrl m hm).2
      rw [rd_set (by omega) (by omega) (by omega), if_neg (by omega)]

theorem fresh_linked {p : Plan} {ws : List Int} (hn : ∀ m, 0 ≤ m → m < p.nodes → rd ws (D.plan_Plan_nodes p + m * 5 + 1) = if m + 1 = p.nodes then 0 else m + 2) : ∀ (d : Nat) (i : Nat), (i : Int) + d = p.nodes → Linked p ws ((List.range' i d).map fun (q : Nat) => (q : Int))
  | 0, _, _ => trivial
  | d + 1, i, h => by
    rw [List.range'_succ, List.map_cons]
    refine ⟨?_, fresh_linked hn d (i + 1) (by omega)⟩
    unfold nx
    rw [hn i (by omega) (by omega)]
    cases d with
    | zero => rw [if_pos (by omega)]; rfl
    | succ d => rw [if_neg (by omega), List.range'_succ, List.map_cons]; simp only [first]; omega

/-- The numbers of all nodes. -/
def allN (p : Plan) : List Int := (List.range' 0 p.nodes.toNat).map fun (q : Nat) => (q : Int)

theorem laid_free {p : Plan} (hp : PF p) {ws : List Int} (h : LaidAt p ws) : FreeAt p ws (allN p) 0 := by
  have hn1 := hp.n1
  refine ⟨h.len, ?_, Int.le_refl _, fun n hn => ?_, ?_, fresh_linked h.next p.nodes.toNat 0 (by omega)⟩
  · rw [h.head]
    unfold allN
    obtain ⟨d, hd⟩ : ∃ d, p.nodes.toNat = d + 1 := ⟨p.nodes.toNat - 1, by omega⟩
    rw [hd, List.range'_succ, List.map_cons]
    simp [first]
  · obtain ⟨q, hq, rfl⟩ := List.mem_map.1 hn
    have := (List.mem_range'_1.1 hq).2
    omega
  · unfold allN
    exact List.Pairwise.map _ (fun a b h => by omega) (List.nodup_range' (s := 0) (n := p.nodes.toNat))

theorem list_eq {p : Plan} (hp : PF p) {M : Mem} {l : List Int} {g : Int} (h : FreeAt p M.ws l g) (hnn : p.nodes ≤ 1000) (hl : (l.length : Int) ≤ p.nodes) (hg : g < 1000000) {fu : Nat} (hfu : 1000 < fu) : D.free_List fu p M 0 = some l := by
  have hs := h.len
  have hN := nodes_le hp
  have hS := Size_eq hp
  have hn1 := hp.n1
  have g0 := h.g0
  obtain ⟨f1, f2⟩ := first_le h.range (by omega)
  have hh := h.head
  unfold D.free_List
  rw [Head_eq hp, Peek_eq0 (by omega) (by omega), hh]
  simp only [Option.bind_some]
  rw [get_node (by omega) (by omega), show (g * 2097152 + first l) % 2097152 = first l from by omega]
  have key : ∀ (r done : List Int) (k : Nat), done ++ r = l → Linked p M.ws r → r.length < k →
      (runLoop (fun (x8 : List Int × Int) => (Option.bind (bif (decide ((x8.1.length : Int) < p.nodes)) then (bif (decide (x8.2 > 0)) then (some (decide (x8.2 ≤ (IntKind.u64.wrap p.nodes)))) else (some false)) else (some false)) (fun (x15 : Bool) => (bif x15 then ((appD x8.1 ([(IntKind.i64.wrap ((IntKind.i64.wrap x8.2) - 1))])).bind (fun (x23 : List Int) => ((D.mem_Memory_Peek fu M 0 (D.plan_Plan_Next p (IntKind.i64.wrap ((IntKind.i64.wrap x8.2) - 1)))).bind (fun (x28 : Int) => (some (Lp.next (x23, x28))))))) else (some (Lp.brk (x8.1, x8.2))))))) k (done, first r)).bind (afterLoop fun (x30 : List Int × Int) => some x30.1) = some l := by
    intro r
    induction r with
    | nil =>
      intro done k hd _ hk
      obtain ⟨k, rfl⟩ : ∃ q, k = q + 1 := ⟨k - 1, by omega⟩
      rw [List.append_nil] at hd
      subst hd
      have hc : (Option.bind (bif (decide ((done.length : Int) < p.nodes)) then (bif (decide (first [] > 0)) then (some (decide (first [] ≤ (IntKind.u64.wrap p.nodes)))) else (some false)) else (some false)) (fun b => some b)) = some false := by
        cases decide ((done.length : Int) < p.nodes) <;> rfl
      have hc2 : (bif (decide ((done.length : Int) < p.nodes)) then (bif (decide (first [] > 0)) then (some (decide (first [] ≤ (IntKind.u64.wrap p.nodes)))) else (some false)) else (some false)) = some false := by
        cases decide ((done.length : Int) < p.nodes) <;> rfl
      simp only [runLoop, hc2, Option.bind_some, cond_false, goOn, afterLoop]
    | cons n r ih =>
      intro done k hd hlk hk
      simp only [List.length_cons] at hk
      obtain ⟨k, rfl⟩ : ∃ q, k = q + 1 := ⟨k - 1, by omega⟩
      have hm : n ∈ l := by rw [← hd]; simp
      have hr := h.range n hm
      have hlen : done.length + (r.length + 1) = l.length := by rw [← hd]; simp
      obtain ⟨q1, q2, q3⟩ := nx_in hp hr.1 hr.2
      simp only [runLoop]
      have hfst : first (n :: r) = n + 1 := rfl
      rw [show decide ((done.length : Int) < p.nodes) = true from by simp; omega, show decide (first (n :: r) > 0) = true from by rw [hfst]; simp; omega, show decide (first (n :: r) ≤ IntKind.u64.wrap p.nodes) = true from by rw [hfst, wrapu_id (x := p.nodes) (by omega) (by omega)]; simp; omega, hfst]
      rw [wrap_id (x := n + 1) (by omega) (by omega), show n + 1 - 1 = n from by omega, wrap_id (x := n) (by omega) (by omega), q3, Peek_eq0 (by omega) (by omega), hlk.1]
      have ha : appD done [n] = some (done ++ [n]) := by unfold appD; rw [if_pos (by simp only [Modest2, List.length_singleton]; omega)]
      simp only [cond_true, Option.bind_some, ha, goOn]
      exact ih (done ++ [n]) k (by rw [List.append_assoc]; exact hd) hlk.2 (by omega)
  have := key l [] fu rfl h.linked (by omega)
  unfold loopThen
  exact this

end Go.Proofs.Ytbbipmelhmgmfaa

/- Two programs, however their steps stand in one another: all states that are reached are looked at, each once. -/
namespace Go.Proofs.Ytbbipmelhmgmfaa
open Go.RowKit

/-- What a step of a tree comes to. -/
inductive Went (R : Type) where
  | over (r : R)
  | bad
  | went (x : Int) (ws : List Int)

section
variable {A B R : Type}
def went (t : T R) (ws : List Int) : Went R := match t with
  | .done r => .over r
  | .cut => .bad
  | .act op at_ a b _ => if 0 ≤ op ∧ op ≤ 3 then (match getI ws at_ with
    | some x => .went x (acted op at_ a b x ws)
    | none => .bad) else .bad

theorem went_went {t : T R} {ws ws' : List Int} {x : Int} (h : went t ws = .went x ws') : ∃ op at_ a b k, t = .act op at_ a b k ∧ (0 ≤ op ∧ op ≤ 3) ∧ getI ws at_ = some x ∧ ws' = acted op at_ a b x ws := by
  cases t with
  | done r' => cases h
  | cut => cases h
  | act op at_ a b k =>
    simp only [went] at h
    split at h
    · rename_i h1
      split at h
      · rename_i y h2
        simp only [Went.went.injEq] at h
        obtain ⟨rfl, rfl⟩ := h
        exact ⟨op, at_, a, b, k, rfl, h1, h2, rfl⟩
      · cases h
    · cases h

/-- However two programs' steps stand in one another: each is done, and in the end Q holds; in at most so many steps. -/
inductive Safe (Q : A → B → List Int → Prop) : Nat → T A → T B → List Int → Prop
  | over {n : Nat} {ra : A} {rb : B} {ws : List Int} (h : Q ra rb ws) : Safe Q n (.done ra) (.done rb) ws
  | left {n : Nat} {ta : T A} {rb : B} {ws ws' : List Int} {x : Int} (h1 : went ta ws = .went x ws') (h : Safe Q n (ta.next x) (.done rb) ws') : Safe Q (n + 1) ta (.done rb) ws
  | right {n : Nat} {ra : A} {tb : T B} {ws ws' : List Int} {x : Int} (h1 : went tb ws = .went x ws') (h : Safe Q n (.done ra) (tb.next x) ws') : Safe Q (n + 1) (.done ra) tb ws
  | both {n : Nat} {ta : T A} {tb : T B} {ws wa wb : List Int} {x y : Int} (h1 : went ta ws = .went x wa) (h2 : went tb ws = .went y wb) (h : Safe Q n (ta.next x) tb wa) (h' : Safe Q n ta (tb.next y) wb) : Safe Q (n + 1) ta tb ws

theorem Safe.mono {Q Q' : A → B → List Int → Prop} (hQ : ∀ a b w, Q a b w → Q' a b w) {n : Nat} {ta : T A} {tb : T B} {ws : List Int} (h : Safe Q n ta tb ws) : Safe Q' n ta tb ws := by
  induction h with
  | over h => exact .over (hQ _ _ _ h)
  | left h1 _ ih => exact .left h1 ih
  | right h1 _ ih => exact .right h1 ih
  | both h1 h2 _ _ ih ih' => exact .both h1 h2 ih ih'

/-! ### States looked at, each once -/
/-- A state: what each was told (the last first), and the words. -/
structure RSt where
  ha : List Int
  hb : List Int
  ws : List Int
  deriving DecidableEq

end
end Go.Proofs.Ytbbipmelhmgmfaa

/- The list of free nodes, with several threads on it: what a thread's step may find, and do. -/
set_option linter.unusedVariables false
namespace Go.Proofs.Ytbbipmelhmgmfaa
open Go.RowKit
/-- The list, and that each next word is one that may stand there. -/
structure StackAt (p : Plan) (ws : List Int) (l : List Int) (g : Int) : Prop where
  free : FreeAt p ws l g
  next : ∀ n, 0 ≤ n → n < p.nodes → 0 ≤ rd ws (nx p n) ∧ rd ws (nx p n) ≤ p.nodes
  few : g < 900

/-- How a pop stands, and how many steps it has ahead if nobody else steps. -/
def PopSt (p : Plan) (g : Int) (l : List Int) (m : Nat) (t : T Int) : Prop :=
  (∃ k : Nat, m = 3 ∧ 1000 ≤ k + g ∧ t = D.free_Pop (k + 1) p) ∨
  (∃ (k : Nat) (g' n : Int), ((g' = g ∧ m = 2) ∨ (g' < g ∧ m = 5)) ∧ 1000 ≤ k + g' ∧ 0 ≤ g' ∧ g' ≤ g ∧ (0 ≤ n ∧ n < p.nodes) ∧ (g' = g → ∃ l', l = n :: l') ∧ t = .act 0 (nx p n) 0 0 (fun y => D.free_Pop_1_1 (D.free_Pop k) p (g' * 2097152 + (n + 1)) n y)) ∨
  (∃ (k : Nat) (g' n y : Int), ((g' = g ∧ m = 1) ∨ (g' < g ∧ m = 4)) ∧ 1000 ≤ k + g' ∧ 0 ≤ g' ∧ g' ≤ g ∧ (0 ≤ n ∧ n < p.nodes) ∧ (0 ≤ y ∧ y ≤ p.nodes) ∧ (g' = g → ∃ l', l = n :: l' ∧ y = first l') ∧
    t = .act 2 0 (g' * 2097152 + (n + 1)) ((g' + 1) * 2097152 + y) (fun r => D.prog_Swap_int_1 (fun x => D.free_Pop_1_1_1 (D.free_Pop k) p n x) (g' * 2097152 + (n + 1)) r))

/-- What others' steps do to it. -/
theorem PopSt.keep {p : Plan} {g g2 : Int} {l l2 : List Int} {m : Nat} {t : T Int} (h : PopSt p g l m t) (hg : (g2 = g ∧ l2 = l) ∨ g2 = g + 1) : ∃ m', m' ≤ 5 ∧ PopSt p g2 l2 m' t := by
  rcases hg with ⟨rfl, rfl⟩ | rfl
  · refine ⟨m, ?_, h⟩
    rcases h with ⟨k, h0, _⟩ | ⟨k, g', n, h0, _⟩ | ⟨k, g', n, y, h0, _⟩ <;> omega
  · rcases h with ⟨k, _, h1, h2⟩ | ⟨k, g', n, _, h1, h2, h3, h4, h5, h6⟩ | ⟨k, g', n, y, _, h1, h2, h3, h4, h5, h6, h7⟩
    · exact ⟨3, by omega, .inl ⟨k, rfl, by omega, h2⟩⟩
    · exact ⟨5, by omega, .inr (.inl ⟨k, g', n, .inr ⟨by omega, rfl⟩, h1, h2, by omega, h4, fun e => by omega, h6⟩)⟩
    · exact ⟨4, by omega, .inr (.inr ⟨k, g', n, y, .inr ⟨by omega, rfl⟩, h1, h2, by omega, h4, h5, fun e => by omega, h7⟩)⟩

theorem went_read {R : Type} {at_ : Int} {k : Int → T R} {ws : List Int} (h0 : 0 ≤ at_) (h1 : at_ < ws.length) : went (.act 0 at_ 0 0 k) ws = .went (rd ws at_) ws := by
  simp only [went]
  rw [if_pos (by omega), getI_rd h0 h1]
  simp [acted]

theorem went_cas {R : Type} {at_ a b : Int} {k : Int → T R} {ws : List Int} (h0 : 0 ≤ at_) (h1 : at_ < ws.length) : went (.act 2 at_ a b k) ws = .went (rd ws at_) (if rd ws at_ = a then ws.set at_.toNat b else ws) := by
  simp only [went]
  rw [if_pos (by omega), getI_rd h0 h1]
  simp [acted]

/-- A step of a pop: nothing is changed; or it tells that there is none; or it has the first one. -/
theorem PopSt.step {p : Plan} (hp : PF p) (hnn : p.nodes ≤ 1000000) {ws : List Int} {g : Int} {l : List Int} {m : Nat} {t : T Int} (hS : StackAt p ws l g) (h : PopSt p g l m t) :
    ∃ x ws', went t ws = .went x ws' ∧ ((ws' = ws ∧ ∃ m', m = m' + 1 ∧ PopSt p g l m' (t.next x)) ∨ (ws' = ws ∧ l = [] ∧ t.next x = .done (-1)) ∨
      (∃ n l', l = n :: l' ∧ t.next x = .done n ∧ FreeAt p ws' l' (g + 1) ∧ ∀ j, 0 < j → rd ws' j = rd ws j)) := by
  have hs := hS.free.len
  have hN := nodes_le hp
  have hSz := Size_eq hp
  have hn1 := hp.n1
  have hh := hS.free.head
  have g0 := hS.free.g0
  have hg := hS.few
  obtain ⟨f1, f2⟩ := first_le hS.free.range (by omega)
  rcases h with ⟨k, rfl, hk, rfl⟩ | ⟨k, g', n, hm, hk, h0, hg', hn, hl, rfl⟩ | ⟨k, g', n, y, hm, hk, h0, hg', hn, hy, hl, rfl⟩
  · have hb : D.free_Pop (k + 1) p = .act 0 0 0 0 (fun x => D.free_Pop_1 (D.free_Pop k) p x) := by
      show D.free_Pop_body (D.free_Pop k) p = _
      unfold D.free_Pop_body
      rw [Head_eq hp]; rfl
    rw [hb]
    refine ⟨_, _, went_read (by omega) (by omega), ?_⟩
    show _ ∨ _
    have hnx : T.next (T.act 0 0 0 0 (fun x => D.free_Pop_1 (D.free_Pop k) p x)) (rd ws 0) = D.free_Pop_1 (D.free_Pop k) p (rd ws 0) := rfl
    rw [hnx]
    cases l with
    | nil =>
      have hh' : rd ws 0 = g * 2097152 + 0 := hh
      refine .inr (.inl ⟨rfl, rfl, ?_⟩)
      rw [hh']
      unfold D.free_Pop_1
      rw [get_node (by omega) (by omega), show (g * 2097152 + 0) % 2097152 = 0 from by omega]
      rfl
    | cons n l =>
      have hr := hS.free.range n (List.mem_cons_self ..)
      obtain ⟨q1, q2, q3⟩ := nx_in hp hr.1 hr.2
      have hh' : rd ws 0 = g * 2097152 + (n + 1) := hh
      have hf : D.free_Pop_1 (D.free_Pop k) p (rd ws 0) = .act 0 (nx p n) 0 0 (fun y => D.free_Pop_1_1 (D.free_Pop k) p (g * 2097152 + (n + 1)) n y) := by
        rw [hh']
        unfold D.free_Pop_1
        rw [get_node (by omega) (by omega), show (g * 2097152 + (n + 1)) % 2097152 = n + 1 from by omega, wrap_id (x := n + 1) (by omega) (by omega), show n + 1 - 1 = n from by omega, wrap_id (x := n) (by omega) (by omega), show decide (n < 0) = false from by simp; omega, q3]
        rfl
      rw [hf]
      exact .inl ⟨rfl, 2, rfl, .inr (.inl ⟨k, g, n, .inl ⟨rfl, rfl⟩, hk, g0, Int.le_refl _, hr, fun _ => ⟨l, rfl⟩, rfl⟩)⟩
  · obtain ⟨q1, q2, q3⟩ := nx_in hp hn.1 hn.2
    obtain ⟨y0, y1⟩ := hS.next n hn.1 hn.2
    refine ⟨_, _, went_read (by omega) (by omega), .inl ⟨rfl, m - 1, by omega, .inr (.inr ⟨k, g', n, rd ws (nx p n), by omega, hk, h0, hg', hn, ⟨y0, y1⟩, fun e => ?_, ?_⟩)⟩⟩
    · obtain ⟨l', rfl⟩ := hl e
      exact ⟨l', rfl, hS.free.linked.1⟩
    · show D.free_Pop_1_1 (D.free_Pop k) p (g' * 2097152 + (n + 1)) n (rd ws (nx p n)) = _
      unfold D.free_Pop_1_1
      rw [Head_eq hp, turned_eq h0 (by omega) (by omega) (by omega) y0 (by omega)]
      rfl
  · refine ⟨_, _, went_cas (by omega) (by omega), ?_⟩
    have hnx : T.next (T.act 2 0 (g' * 2097152 + (n + 1)) ((g' + 1) * 2097152 + y) (fun r => D.prog_Swap_int_1 (fun x => D.free_Pop_1_1_1 (D.free_Pop k) p n x) (g' * 2097152 + (n + 1)) r)) (rd ws 0) = D.prog_Swap_int_1 (fun x => D.free_Pop_1_1_1 (D.free_Pop k) p n x) (g' * 2097152 + (n + 1)) (rd ws 0) := rfl
    rw [hnx]
    unfold D.prog_Swap_int_1 D.free_Pop_1_1_1
    by_cases e : g' = g
    · obtain ⟨l', rfl, rfl⟩ := hl e
      subst e
      simp only [first] at hh
      rw [hh, if_pos rfl, show (g' * 2097152 + (n + 1) == g' * 2097152 + (n + 1)) = true from by simp]
      exact .inr (.inr ⟨n, l', rfl, rfl, (pop_runs hp hS.free hnn (by omega) k).2, fun j hj => by rw [rd_set (by omega) (by omega) (by omega), if_neg (by omega)]⟩)
    · have hne : rd ws 0 ≠ g' * 2097152 + (n + 1) := by rw [hh]; omega
      rw [if_neg hne, show (rd ws 0 == g' * 2097152 + (n + 1)) = false from by simpa using hne]
      obtain ⟨k, rfl⟩ : ∃ q, k = q + 1 := ⟨k - 1, by omega⟩
      have hm4 : m = 4 := by rcases hm with ⟨h, _⟩ | ⟨_, h⟩; exact absurd h e; exact h
      clear hl
      exact .inl ⟨rfl, 3, hm4, .inl ⟨k, rfl, by omega, rfl⟩⟩

theorem went_store {R : Type} {at_ a : Int} {k : Int → T R} {ws : List Int} (h0 : 0 ≤ at_) (h1 : at_ < ws.length) : went (.act 1 at_ a 0 k) ws = .went (rd ws at_) (ws.set at_.toNat a) := by
  simp only [went]
  rw [if_pos (by omega), getI_rd h0 h1]
  simp [acted]

/-- How a push of n stands. -/
def PushSt (p : Plan) (ws : List Int) (g : Int) (l : List Int) (n : Int) (m : Nat) (t : T Int) : Prop :=
  (∃ k : Nat, m = 3 ∧ 1000 ≤ k + g ∧ t = D.free_Push (k + 1) p n) ∨
  (∃ (k : Nat) (g' f : Int), ((g' = g ∧ m = 2) ∨ (g' < g ∧ m = 5)) ∧ 1000 ≤ k + g' ∧ 0 ≤ g' ∧ g' ≤ g ∧ (0 ≤ f ∧ f ≤ p.nodes) ∧ (g' = g → f = first l) ∧ t = .act 1 (nx p n) f 0 (fun r => D.prog_Store_int_1 (fun _ => D.free_Push_1_1 (D.free_Push k) p (g' * 2097152 + f) n) r)) ∨
  (∃ (k : Nat) (g' f : Int), ((g' = g ∧ m = 1) ∨ (g' < g ∧ m = 4)) ∧ 1000 ≤ k + g' ∧ 0 ≤ g' ∧ g' ≤ g ∧ (0 ≤ f ∧ f ≤ p.nodes) ∧ (g' = g → f = first l) ∧ rd ws (nx p n) = f ∧
    t = .act 2 0 (g' * 2097152 + f) ((g' + 1) * 2097152 + (n + 1)) (fun r => D.prog_Swap_int_1 (fun x => D.free_Push_1_1_1 (D.free_Push k) p n x) (g' * 2097152 + f) r))

theorem PushSt.keep {p : Plan} {ws ws2 : List Int} {g g2 n : Int} {l l2 : List Int} {m : Nat} {t : T Int} (h : PushSt p ws g l n m t) (hg : (g2 = g ∧ l2 = l) ∨ g2 = g + 1) (hw : rd ws2 (nx p n) = rd ws (nx p n)) : ∃ m', m' ≤ 5 ∧ PushSt p ws2 g2 l2 n m' t := by
  unfold PushSt at h ⊢
  simp only [hw]
  rcases hg with ⟨rfl, rfl⟩ | rfl
  · refine ⟨m, ?_, h⟩
    rcases h with ⟨k, h0, _⟩ | ⟨k, g', f, h0, _⟩ | ⟨k, g', f, h0, _⟩ <;> omega
  · rcases h with ⟨k, _, h1, h2⟩ | ⟨k, g', f, _, h1, h2, h3, h4, h5, h6⟩ | ⟨k, g', f, _, h1, h2, h3, h4, h5, h6, h7⟩
    · exact ⟨3, by omega, .inl ⟨k, rfl, by omega, h2⟩⟩
    · exact ⟨5, by omega, .inr (.inl ⟨k, g', f, .inr ⟨by omega, rfl⟩, h1, h2, by omega, h4, fun e => by omega, h6⟩)⟩
    · exact ⟨4, by omega, .inr (.inr ⟨k, g', f, .inr ⟨by omega, rfl⟩, h1, h2, by omega, h4, fun e => by omega, h6, h7⟩)⟩

/-- A step of a push: at most its own node's next word is changed; or it is done. -/
theorem PushSt.step {p : Plan} (hp : PF p) (hnn : p.nodes ≤ 1000000) {ws : List Int} {g n : Int} {l : List Int} {m : Nat} {t : T Int} (hS : StackAt p ws l g) (hn : 0 ≤ n ∧ n < p.nodes) (hno : n ∉ l) (h : PushSt p ws g l n m t) :
    ∃ x ws', went t ws = .went x ws' ∧ (∀ j, 0 < j → j ≠ nx p n → rd ws' j = rd ws j) ∧ ws'.length = ws.length ∧ (0 ≤ rd ws' (nx p n) ∧ rd ws' (nx p n) ≤ p.nodes) ∧
      ((FreeAt p ws' l g ∧ ∃ m', m = m' + 1 ∧ PushSt p ws' g l n m' (t.next x)) ∨ (t.next x = .done n ∧ FreeAt p ws' (n :: l) (g + 1))) := by
  have hs := hS.free.len
  have hN := nodes_le hp
  have hSz := Size_eq hp
  have hn1 := hp.n1
  have hh := hS.free.head
  have g0 := hS.free.g0
  have hg := hS.few
  obtain ⟨f1, f2⟩ := first_le hS.free.range (by omega)
  obtain ⟨q1, q2, q3⟩ := nx_in hp hn.1 hn.2
  obtain ⟨y0, y1⟩ := hS.next n hn.1 hn.2
  rcases h with ⟨k, rfl, hk, rfl⟩ | ⟨k, g', f, hm, hk, h0, hg', hf, hl, rfl⟩ | ⟨k, g', f, hm, hk, h0, hg', hf, hl, hw, rfl⟩
  · have hb : D.free_Push (k + 1) p n = .act 0 0 0 0 (fun x => D.free_Push_1 (D.free_Push k) p n x) := by
      show D.free_Push_body (D.free_Push k) p n = _
      unfold D.free_Push_body
      rw [q3, show (nx p n == -1) = false from by simp; omega, Head_eq hp]; rfl
    rw [hb]
    refine ⟨_, _, went_read (by omega) (by omega), fun _ _ _ => rfl, rfl, ⟨y0, y1⟩, .inl ⟨hS.free, 2, rfl, ?_⟩⟩
    show PushSt p ws g l n 2 (D.free_Push_1 (D.free_Push k) p n (rd ws 0))
    refine .inr (.inl ⟨k, g, first l, .inl ⟨rfl, rfl⟩, hk, g0, Int.le_refl _, ⟨f1, f2⟩, fun _ => rfl, ?_⟩)
    unfold D.free_Push_1
    rw [hh, get_node (by omega) (by omega), show (g * 2097152 + first l) % 2097152 = first l from by omega, q3]
    rfl
  · have hr : ∀ j, 0 ≤ j → rd (ws.set (nx p n).toNat f) j = if j = nx p n then f else rd ws j := fun j hj => rd_set (by omega) (by omega) hj
    refine ⟨_, _, went_store (by omega) (by omega), fun j h1 h2 => by rw [hr j (by omega), if_neg h2], by simp, by rw [hr _ (by omega), if_pos rfl]; exact hf, .inl ⟨?_, m - 1, by omega, ?_⟩⟩
    · refine ⟨by simpa using hs, by rw [hr 0 (by omega), if_neg (by omega)]; exact hh, g0, hS.free.range, hS.free.nodup, hS.free.linked.keep fun m hm => ?_⟩
      have hmr := hS.free.range m hm
      obtain ⟨p1, _, _⟩ := nx_in hp hmr.1 hmr.2
      rw [hr _ (by omega), if_neg (nx_ne (show m ≠ n from fun e => hno (e ▸ hm)))]
    · refine .inr (.inr ⟨k, g', f, by omega, hk, h0, hg', hf, hl, by rw [hr _ (by omega), if_pos rfl], ?_⟩)
      show D.prog_Store_int_1 (fun _ => D.free_Push_1_1 (D.free_Push k) p (g' * 2097152 + f) n) (rd ws (nx p n)) = _
      unfold D.prog_Store_int_1 D.free_Push_1_1
      rw [link_eq hn.1 (by omega), Head_eq hp, turned_eq h0 (by omega) hf.1 (by omega) (by omega) (by omega)]
      rfl
  · refine ⟨_, _, went_cas (by omega) (by omega), ?_⟩
    have hnx : T.next (T.act 2 0 (g' * 2097152 + f) ((g' + 1) * 2097152 + (n + 1)) (fun r => D.prog_Swap_int_1 (fun x => D.free_Push_1_1_1 (D.free_Push k) p n x) (g' * 2097152 + f) r)) (rd ws 0) = D.prog_Swap_int_1 (fun x => D.free_Push_1_1_1 (D.free_Push k) p n x) (g' * 2097152 + f) (rd ws 0) := rfl
    rw [hnx]
    unfold D.prog_Swap_int_1 D.free_Push_1_1_1
    by_cases e : g' = g
    · obtain rfl := hl e
      subst e
      have hr : ∀ j, 0 ≤ j → rd (ws.set (0 : Int).toNat ((g' + 1) * 2097152 + (n + 1))) j = if j = 0 then (g' + 1) * 2097152 + (n + 1) else rd ws j := fun j hj => rd_set (by omega) (by omega) hj
      rw [hh, if_pos rfl, show (g' * 2097152 + first l == g' * 2097152 + first l) = true from by simp]
      refine ⟨fun j h1 h2 => by rw [hr j (by omega), if_neg (by omega)], by simp, by rw [hr _ (by omega), if_neg (by omega)]; exact ⟨y0, y1⟩, .inr ⟨rfl, by simpa using hs, by rw [hr 0 (by omega), if_pos rfl]; rfl, by omega, ?_, List.nodup_cons.2 ⟨hno, hS.free.nodup⟩, ?_, ?_⟩⟩
      · intro m hm
        rcases List.mem_cons.1 hm with rfl | hm
        · exact hn
        · exact hS.free.range m hm
      · rw [hr _ (by omega), if_neg (by omega)]; exact hw
      · refine hS.free.linked.keep fun m hm => ?_
        have hmr := hS.free.range m hm
        obtain ⟨p1, _, _⟩ := nx_in hp hmr.1 hmr.2
        rw [hr _ (by omega), if_neg (by omega)]
    · have hne : rd ws 0 ≠ g' * 2097152 + f := by rw [hh]; omega
      rw [if_neg hne, show (rd ws 0 == g' * 2097152 + f) = false from by simpa using hne]
      obtain ⟨k, rfl⟩ : ∃ q, k = q + 1 := ⟨k - 1, by omega⟩
      exact ⟨fun _ _ _ => rfl, rfl, ⟨y0, y1⟩, .inl ⟨hS.free, 3, by omega, .inl ⟨k, rfl, by omega, rfl⟩⟩⟩

end Go.Proofs.Ytbbipmelhmgmfaa

/- The reference's lists, without the code. -/
namespace Go.Proofs.Ytbbipmelhmgmfaa
open Go.RowKit
theorem getI_last {ms : List Int} {m : Int} (h : ms.length ≤ 900000) : getI (ms ++ [m]) (IntKind.i64.wrap (((ms ++ [m]).length : Int) - 1)) = some m := by
  rw [wrap_small (by simp only [List.length_append, List.length_singleton]; omega) (by simp only [List.length_append, List.length_singleton]; omega), show (((ms ++ [m]).length : Int) - 1) = ((ms.length : Nat) : Int) from by simp, getI_nat (by simp)]
  simp

theorem slice_last {ms : List Int} {m : Int} (h : ms.length ≤ 900000) : sliceD (ms ++ [m]) 0 (IntKind.i64.wrap (((ms ++ [m]).length : Int) - 1)) = some ms := by
  rw [wrap_small (by simp only [List.length_append, List.length_singleton]; omega) (by simp only [List.length_append, List.length_singleton]; omega), show (((ms ++ [m]).length : Int) - 1) = ((ms.length : Nat) : Int) from by simp]
  unfold sliceD
  rw [if_pos (by simp only [List.length_append, List.length_singleton]; omega)]
  simp

end Go.Proofs.Ytbbipmelhmgmfaa

/- More of the reference's lists. -/
namespace Go.Proofs.Ytbbipmelhmgmfaa
open Go.RowKit
theorem has_eq {fu : Nat} {l : List Int} {n : Int} (h : l.length < fu) (h2 : l.length ≤ 900000) : D.cubicleref09_Has fu l n = some (decide (n ∈ l)) := by
  unfold D.cubicleref09_Has
  have key : ∀ (r d : List Int) (k : Nat) (b : Bool), d ++ r = l → n ∉ d → r.length < k → (runLoop (fun (x1 : Bool × Int) => (bif (decide (x1.2 < (l.length : Int))) then ((getI l x1.2).bind (fun (x6 : Int) => (bif (x6 == n) then (some (Lp.ret true)) else (some (Lp.next (x1.1, (IntKind.i64.wrap (x1.2 + 1)))))))) else (some (Lp.brk (x1.1, x1.2))))) k (b, (d.length : Int))).bind (afterLoop fun (x8 : Bool × Int) => (some false)) = some (decide (n ∈ l)) := by
    intro r
    induction r with
    | nil =>
      intro d k b hd hn hk
      obtain ⟨k, rfl⟩ : ∃ q, k = q + 1 := ⟨k - 1, by omega⟩
      rw [List.append_nil] at hd
      subst hd
      simp only [runLoop]
      rw [show decide ((d.length : Int) < (d.length : Int)) = false from by simp]
      simp only [cond_false, Option.bind_some, goOn, afterLoop]
      rw [show decide (n ∈ d) = false from by simpa using hn]
    | cons m r ih =>
      intro d k b hd hn hk
      simp only [List.length_cons] at hk
      obtain ⟨k, rfl⟩ : ∃ q, k = q + 1 := ⟨k - 1, by omega⟩
      have hdl : d.length < l.length := by rw [← hd]; simp
      have hm : l[d.length] = m := by subst hd; simp
      simp only [runLoop]
      rw [show decide ((d.length : Int) < (l.length : Int)) = true from by simp; omega, getI_nat hdl, hm]
      simp only [cond_true, Option.bind_some]
      by_cases e : m = n
      · subst e
        rw [show (m == m) = true from by simp]
        simp only [cond_true, Option.bind_some, goOn, afterLoop]
        rw [show decide (m ∈ l) = true from by rw [← hd]; simp]
      · rw [show (m == n) = false from by simpa using e, wrap_small (show -1000000 ≤ (d.length : Int) + 1 by omega) (by omega)]
        simp only [cond_false, Option.bind_some, goOn]
        have := ih (d ++ [m]) k b (by rw [List.append_assoc]; exact hd) (by simp; exact ⟨hn, fun h => e h.symm⟩) (by omega)
        rw [show ((d ++ [m]).length : Int) = (d.length : Int) + 1 from by simp] at this
        exact this
  exact key l [] fu false rfl (by simp) h

end Go.Proofs.Ytbbipmelhmgmfaa

/- More of the reference's lists; what is free, and what was popped. -/
namespace Go.Proofs.Ytbbipmelhmgmfaa
open Go.RowKit
/-- What is free, and what was popped: each node once. -/
structure Parted (p : Plan) (l mine : List Int) : Prop where
  nodup : (l ++ mine).Nodup
  len : ((l.length + mine.length : Nat) : Int) = p.nodes
  range : ∀ n, n ∈ mine → 0 ≤ n ∧ n < p.nodes

theorem Parted.start {p : Plan} (hp : PF p) {ws : List Int} (h : FreeAt p ws (allN p) 0) : Parted p (allN p) [] := by
  have := hp.n1
  exact ⟨by rw [List.append_nil]; exact h.nodup, by simp [allN]; omega, fun _ h => by cases h⟩

theorem Parted.pop {p : Plan} {n : Int} {l mine : List Int} (h : Parted p (n :: l) mine) (hr : 0 ≤ n ∧ n < p.nodes) : Parted p l (mine ++ [n]) := by
  refine ⟨?_, by have := h.len; simp at this ⊢; omega, fun m hm => ?_⟩
  · have h1 := h.nodup
    rw [List.cons_append, List.nodup_cons] at h1
    rw [← List.append_assoc]
    exact List.nodup_append.2 ⟨h1.2, by simp, fun a ha b hb => by
      rcases List.mem_singleton.1 hb with rfl
      exact fun e => h1.1 (e ▸ ha)⟩
  · rcases List.mem_append.1 hm with hm | hm
    · exact h.range m hm
    · rcases List.mem_singleton.1 hm with rfl; exact hr

theorem Parted.push {p : Plan} {m : Int} {l ms : List Int} (h : Parted p l (m :: ms)) : Parted p (m :: l) ms ∧ m ∉ l := by
  have h1 := h.nodup
  have h2 := List.nodup_append.1 h1
  have h3 := List.nodup_cons.1 h2.2.1
  have hno : m ∉ l := fun hm => h2.2.2 m hm m (List.mem_cons_self ..) rfl
  refine ⟨⟨?_, by have := h.len; simp at this ⊢; omega, fun n hn => h.range n (List.mem_cons_of_mem _ hn)⟩, hno⟩
  rw [List.cons_append, List.nodup_cons]
  refine ⟨fun hm => ?_, List.nodup_append.2 ⟨h2.1, h3.2, fun a ha b hb => h2.2.2 a ha b (List.mem_cons_of_mem _ hb)⟩⟩
  rcases List.mem_append.1 hm with hm | hm
  · exact hno hm
  · exact h3.1 hm

theorem awake09 : D.cubiclelaw09_awake 2000 = some true := by decide +kernel

end Go.Proofs.Ytbbipmelhmgmfaa

/- Many chunks as one; chunks in another order; a call that is given some chunks. -/
set_option linter.unusedVariables false
namespace Go.Proofs.Ytbbipmelhmgmfaa
open Go.RowKit
section
variable {A B L N : List Ck} {c d : Ck} {w w' w0 : World} {Z : Nat → Prop}
def packK (B : List Ck) : Ck := ⟨B.flatMap Ck.own, B.flatMap Ck.ro, Sep B, fun w w' h hs hw => hw.keep hs fun c hc b hb => h b (by
  rcases hb with hb | hb
  · exact .inl (List.mem_flatMap.2 ⟨c, hc, hb⟩)
  · exact .inr (List.mem_flatMap.2 ⟨c, hc, hb⟩))⟩

theorem packK_has {b : Nat} : (packK B).has b ↔ ∃ c, c ∈ B ∧ c.has b := by
  unfold Ck.has packK
  simp only [List.mem_flatMap]
  constructor
  · rintro (⟨c, hc, hb⟩ | ⟨c, hc, hb⟩)
    · exact ⟨c, hc, .inl hb⟩
    · exact ⟨c, hc, .inr hb⟩
  · rintro ⟨c, hc, hb | hb⟩
    · exact .inl ⟨c, hc, hb⟩
    · exact .inr ⟨c, hc, hb⟩

theorem packK_own {b : Nat} : b ∈ (packK B).own ↔ ∃ c, c ∈ B ∧ b ∈ c.own := List.mem_flatMap

theorem Sep.split : ∀ {A : List Ck}, Sep (A ++ B) w → Sep A w ∧ Sep B w ∧ ∀ c, c ∈ A → ∀ d, d ∈ B → c.clear d ∧ d.clear c
  | [], h => ⟨trivial, h, fun _ hc => by cases hc⟩
  | c :: A, h => by
    obtain ⟨h1, h2, h3⟩ := Sep.split h.2.2.2
    refine ⟨⟨h.1, h.2.1, fun d hd => h.2.2.1 d (List.mem_append_left _ hd), h1⟩, h2, fun e he d hd => ?_⟩
    rcases List.mem_cons.1 he with rfl | he
    · exact h.2.2.1 d (List.mem_append_right _ hd)
    · exact h3 e he d hd

theorem Sep.perm (p : L.Perm N) : Sep L w → Sep N w := by
  induction p with
  | nil => exact fun h => h
  | cons x p ih => exact fun h => ⟨h.1, h.2.1, fun d hd => h.2.2.1 d (p.mem_iff.2 hd), ih h.2.2.2⟩
  | swap x y l => exact fun h => ⟨h.2.2.2.1, h.2.2.2.2.1, fun d hd => by
      rcases List.mem_cons.1 hd with rfl | hd
      · exact (h.2.2.1 _ (List.mem_cons_self ..)).symm
      · exact h.2.2.2.2.2.1 d hd, h.1, h.2.1, fun d hd => h.2.2.1 d (List.mem_cons_of_mem _ hd), h.2.2.2.2.2.2⟩
  | trans _ _ ih1 ih2 => exact fun h => ih2 (ih1 h)

theorem Sep.unpack (h : Sep (A ++ [packK B]) w) : Sep (A ++ B) w := by
  obtain ⟨h1, h2, h3⟩ := h.split
  refine h1.append h2.1 fun c hc d hd => ?_
  have h4 := h3 c hc _ (List.mem_singleton.2 rfl)
  exact ⟨fun b hb hb' => h4.1 b hb (packK_has.2 ⟨d, hd, hb'⟩), fun b hb hb' => h4.2 b (packK_own.2 ⟨d, hd, hb⟩) hb'⟩

theorem Sep.pack (h : Sep (A ++ B) w) : Sep (A ++ [packK B]) w := by
  obtain ⟨h1, h2, h3⟩ := h.split
  refine h1.append ⟨h2, fun b hb => ?_, fun _ hd => (by cases hd), trivial⟩ fun c hc d hd => ?_
  · obtain ⟨c, hc, hb⟩ := packK_has.1 hb
    exact (h2.ok c hc).2 b hb
  · rcases List.mem_singleton.1 hd with rfl
    refine ⟨fun b hb hb' => ?_, fun b hb hb' => ?_⟩
    · obtain ⟨e, he, hb'⟩ := packK_has.1 hb'
      exact (h3 c hc e he).1 b hb hb'
    · obtain ⟨e, he, hb⟩ := packK_own.1 hb
      exact (h3 c hc e he).2 b hb hb'

theorem Post.perm (p : L.Perm N) (h : Post Z L w0 w) : Post Z N w0 w := ⟨h.sep.perm p, h.chg, fun c hc => h.mine c (p.mem_iff.2 hc)⟩

theorem Post.unpack (h : Post Z (A ++ [packK B]) w0 w) : Post Z (A ++ B) w0 w :=
  ⟨h.sep.unpack, h.chg, fun c hc b hb => by
    rcases List.mem_append.1 hc with hc | hc
    · exact h.mine c (List.mem_append_left _ hc) b hb
    · exact h.mine _ (List.mem_append_right _ (List.mem_singleton.2 rfl)) b (packK_own.2 ⟨c, hc, hb⟩)⟩

theorem Post.pack (h : Post Z (A ++ B) w0 w) : Post Z (A ++ [packK B]) w0 w :=
  ⟨h.sep.pack, h.chg, fun c hc b hb => by
    rcases List.mem_append.1 hc with hc | hc
    · exact h.mine c (List.mem_append_left _ hc) b hb
    · rcases List.mem_singleton.1 hc with rfl
      obtain ⟨e, he, hb⟩ := packK_own.1 hb
      exact h.mine e (List.mem_append_right _ he) b hb⟩

/-- A fact as a chunk. -/
def factK (p : Prop) : Ck := ⟨[], [], fun _ => p, fun _ _ _ _ h => h⟩

theorem Sep.fact {p : Prop} (hp : p) (h : Sep L w) : Sep (factK p :: L) w :=
  ⟨hp, (fun b hb => by rcases hb with hb | hb <;> cases hb), fun d hd => ⟨fun b hb => (by cases hb), fun b hb hb' => (by rcases hb' with hb' | hb' <;> cases hb')⟩, h⟩

theorem Post.fact {p : Prop} (hp : p) (h : Post Z L w0 w) : Post Z (factK p :: L) w0 w := ⟨h.sep.fact hp, h.chg, fun c hc b hb => by
  rcases List.mem_cons.1 hc with rfl | hc
  · cases hb
  · exact h.mine c hc b hb⟩

/-- Chunks read alone. -/
def seeK (B : List Ck) : Ck := ⟨[], B.flatMap Ck.own ++ B.flatMap Ck.ro, Sep B, fun w w' h hs hw => hw.keep hs fun c hc b hb => h b (.inr (by
  rcases hb with hb | hb
  · exact List.mem_append_left _ (List.mem_flatMap.2 ⟨c, hc, hb⟩)
  · exact List.mem_append_right _ (List.mem_flatMap.2 ⟨c, hc, hb⟩)))⟩

theorem seeK_lt (h : Sep B w) : ∀ b, b ∈ (seeK B).ro → b < w.heap.size := fun b hb => by
  rcases List.mem_append.1 hb with hb | hb
  · obtain ⟨c, hc, hb⟩ := List.mem_flatMap.1 hb
    exact (h.ok c hc).2 b (.inl hb)
  · obtain ⟨c, hc, hb⟩ := List.mem_flatMap.1 hb
    exact (h.ok c hc).2 b (.inr hb)

/-- What a call needs is given to it, and what it hands back is taken; it may read on what it was given. -/
theorem Post.frameR {Y R : Nat → Prop} (h : Post Z (A ++ B) w0 w) (h2 : Done Y R N w w') (hY : ∀ b, Y b → ∃ e, e ∈ B ∧ b ∈ e.own) (hR : ∀ b, R b → ∃ e, e ∈ B ∧ e.has b) : Post Z (A ++ N) w0 w' := by
  obtain ⟨hA, hBs, hmem⟩ := h.sep.split
  have hold : ∀ c, c ∈ A → ∀ b, c.has b → b < w.heap.size ∧ ¬ Y b := fun c hc b hb => ⟨(hA.ok c hc).2 b hb, fun hy => by
    obtain ⟨e, he, hbe⟩ := hY b hy
    exact (hmem c hc e he).2 b hbe hb⟩
  have hsz := h.size
  refine ⟨(hA.keep h2.chg.size fun c hc b hb => h2.chg.block b (hold c hc b hb).1 (hold c hc b hb).2).append h2.sep fun c hc d hd => ⟨fun b h3 h4 => ?_, fun b h3 h4 => ?_⟩, h.chg.trans h2.chg (fun b hb hy => ?_), fun c hc b hb => ?_⟩
  · rcases h4 with h4 | h4
    · rcases h2.mine d hd b h4 with h5 | h5
      · exact (hold c hc b (.inl h3)).2 h5
      · have := (hold c hc b (.inl h3)).1; omega
    · rcases h2.rest d hd b h4 with h5 | h5
      · obtain ⟨e, he, hbe⟩ := hR b h5
        exact (hmem c hc e he).1 b h3 hbe
      · have := (hold c hc b (.inl h3)).1; omega
  · rcases h2.mine d hd b h3 with h5 | h5
    · exact (hold c hc b h4).2 h5
    · have := (hold c hc b h4).1; omega
  · obtain ⟨e, he, hbe⟩ := hY b hy
    rcases h.mine e (List.mem_append_right _ he) b hbe with h5 | h5
    · exact h5
    · omega
  · rcases List.mem_append.1 hc with hc | hc
    · exact h.mine c (List.mem_append_left _ hc) b hb
    · rcases h2.mine c hc b hb with h5 | h5
      · obtain ⟨e, he, hbe⟩ := hY b h5
        exact h.mine e (List.mem_append_right _ he) b hbe
      · exact .inr (by omega)

/-- The same, of all that the chunks of B own and read. -/
theorem Post.frameP (h : Post Z (A ++ B) w0 w) (h2 : Done (fun b => b ∈ (packK B).own) (fun b => (packK B).has b) N w w') : Post Z (A ++ N) w0 w' := h.frameR h2 (fun _ hb => packK_own.1 hb) (fun _ hb => packK_has.1 hb)

end
end Go.Proofs.Ytbbipmelhmgmfaa

/- Slices within structs: read alone, with where they come from. -/
namespace Go.Proofs.Ytbbipmelhmgmfaa
open Go.RowKit
section
variable {L N : List Ck} {Z Y : Nat → Prop} {w w' w0 : World} {i k : Nat} {c e : Ck}
theorem Sep.clearM (h : Sep L w) (hc : c ∈ L) (he : e ∈ L) : c = e ∨ c.clear e := by
  obtain ⟨i, hi⟩ := List.mem_iff_getElem?.1 hc
  obtain ⟨j, hj⟩ := List.mem_iff_getElem?.1 he
  by_cases hij : i = j
  · subst hij
    rw [hi] at hj
    exact .inl (Option.some.inj hj)
  · exact .inr (h.clear hi hj hij).1

/-- A chunk that is read alone, of what another one reads. -/
theorem Post.addRoFrom (h : Post Z L w0 w) (hk : L[k]? = some e) (he : e.own = []) (hc : c.ok w) (ho : c.own = []) (hr : ∀ b, b ∈ c.ro → b ∈ e.ro) : Post Z (L ++ [c]) w0 w := by
  have hem : e ∈ L := List.mem_of_getElem? hk
  refine ⟨h.sep.append (N := [c]) ⟨hc, fun b hb => ?_, fun d hd => (by cases hd), trivial⟩ fun d hd c' hc' => ?_, h.chg, fun d hd b hb => ?_⟩
  · rcases hb with hb | hb
    · rw [ho] at hb; cases hb
    · exact h.sep.lt hk (.inr (hr b hb))
  · rcases List.mem_singleton.1 hc' with rfl
    refine ⟨fun b hb hb' => ?_, fun b hb => by rw [ho] at hb; cases hb⟩
    rcases hb' with hb' | hb'
    · rw [ho] at hb'; cases hb'
    · rcases h.sep.clearM hd hem with rfl | hcl
      · rw [he] at hb; cases hb
      · exact hcl b hb (.inr (hr b hb'))
  · rcases List.mem_append.1 hd with hd | hd
    · exact h.mine d hd b hb
    · rcases List.mem_singleton.1 hd with rfl; rw [ho] at hb; cases hb

end
section
variable {α : Type} {T : TypeId} {sz : Nat} {f : α → List Value} {v : Value} {xs : List α} {w w' w0 : World} {L N : List Ck} {Z Y : Nat → Prop} {i : Nat} {B : Nat}
theorem Post.setRo {c c' : Ck} (h : Post Z L w0 w) (hi : L[i]? = some c) (hc : c'.ok w) (ho : c'.own = []) (hr : ∀ b, b ∈ c'.ro → b ∈ c.ro) : Post Z (L.set i c') w0 w := by
  refine ⟨Sep.weakAt (c := c) (c' := c') hc (fun b hb => ?_) (fun b hb => by rw [ho] at hb; cases hb) L i h.sep hi, h.chg, fun d hd b hb => ?_⟩
  · rcases hb with hb | hb
    · rw [ho] at hb; cases hb
    · exact .inr (hr b hb)
  · rcases List.mem_or_eq_of_mem_set hd with hd | rfl
    · exact h.mine d hd b hb
    · rw [ho] at hb; cases hb

end
end Go.Proofs.Ytbbipmelhmgmfaa

/- Rows of pointers to structs that own blocks; slices of slices; programs that may not be there yet. -/
set_option linter.unusedVariables false
namespace Go.Proofs.Ytbbipmelhmgmfaa
open Go.RowKit
theorem getI_some {α : Type} {xs : List α} {i : Int} {x : α} (h : getI xs i = some x) : 0 ≤ i ∧ xs[i.toNat]? = some x := by
  obtain ⟨h0, h1, h2, h3⟩ := getI_lt h
  exact ⟨h0, by rw [List.getElem?_eq_getElem h2, h3]⟩

theorem nt {x v : Bool} (h : (!x) = v) : x = !v := by cases x <;> cases v <;> simp_all

theorem getI_of {α : Type} {xs : List α} {i : Int} {x : α} (h0 : 0 ≤ i) (h : xs[i.toNat]? = some x) : getI xs i = some x := by
  unfold getI; rw [if_pos h0, h]

/-! ### Rows of pointers -/
structure ThS (X : Type) where
  G : Type
  z : G
  b : G → Nat
  L : G → X → List Ck

def ptrE (b : Nat) : List Value := [.pointer (some ⟨b, 0, none⟩)]

section
variable {X : Type} (S : ThS X) {T : TypeId} {gs : List S.G} {g g' : S.G} {v v' : Value} {xs : List X} {x x' : X} {i : Int} {w w' w0 : World} {A : List Ck} {c c' : Ck} {Z : Nat → Prop}
def ThS.at_ (gs : List S.G) (i : Int) : S.G := (gs[i.toNat]?).getD S.z

def ThS.all (T : TypeId) (gs : List S.G) (v : Value) (xs : List X) : List Ck := factK (gs.length = xs.length) :: rowK T 1 ptrE v (gs.map S.b) :: (gs.zip xs).flatMap fun q => S.L q.1 q.2

def thsK (T : TypeId) (gs : List S.G) (v : Value) (xs : List X) : Ck := packK (S.all T gs v xs)

def thsR (T : TypeId) (gs : List S.G) (v : Value) (xs : List X) : Ck := seeK (S.all T gs v xs)

variable {S}
theorem Post.ths {L : List Ck} {i : Nat} (h : Post Z L w0 w) (hk : L[i]? = some (thsK S T gs v xs)) : Sep (S.all T gs v xs) w := h.sep.get hk

theorem Post.thsr {L : List Ck} {i : Nat} (h : Post Z L w0 w) (hk : L[i]? = some (thsR S T gs v xs)) : Sep (S.all T gs v xs) w := h.sep.get hk

theorem ths_len (h : Sep (S.all T gs v xs) w) : gs.length = xs.length := h.1

theorem ths_outer (h : Sep (S.all T gs v xs) w) : RowAt T 1 ptrE v (gs.map S.b) w := h.2.2.2.1

theorem ths_at (h : Sep (S.all T gs v xs) w) (hx : getI xs i = some x) : 0 ≤ i ∧ gs[i.toNat]? = some (S.at_ gs i) ∧ xs[i.toNat]? = some x := by
  obtain ⟨h0, h1⟩ := getI_some hx
  have hl := ths_len h
  have h2 := (List.getElem?_eq_some_iff.1 h1).1
  refine ⟨h0, ?_, h1⟩
  unfold ThS.at_
  rw [List.getElem?_eq_getElem (by omega)]
  rfl

theorem ths_idx (h : Sep (S.all T gs v xs) w) (hx : getI xs i = some x) : getI (gs.map S.b) i = some (S.b (S.at_ gs i)) := by
  obtain ⟨h0, h1, _⟩ := ths_at h hx
  exact getI_of h0 (by rw [List.getElem?_map, h1]; rfl)

theorem ths_count (h : Sep (S.all T gs v xs) w) : (gs.map S.b).length = xs.length := by rw [List.length_map]; exact ths_len h

theorem ths_len2 {l : List Nat} (hl : l.length = xs.length) (h : RoAt T 1 ptrE v l w) : ∃ ad c, v = .slice ad xs.length c := by
  have := h.len
  rwa [hl] at this

def ThS.rest (S : ThS X) (T : TypeId) (gs : List S.G) (v : Value) (xs : List X) (k : Nat) : List Ck :=
  factK (gs.length = xs.length) :: rowK T 1 ptrE v (gs.map S.b) :: (((gs.zip xs).take k).flatMap (fun q => S.L q.1 q.2) ++ ((gs.zip xs).drop (k + 1)).flatMap fun q => S.L q.1 q.2)

theorem ths_perm {k : Nat} (h1 : gs[k]? = some g) (h2 : xs[k]? = some x) : (S.all T gs v xs).Perm (S.rest T gs v xs k ++ S.L g x) := by
  have hz : (gs.zip xs)[k]? = some (g, x) := by rw [List.getElem?_zip_eq_some]; exact ⟨h1, h2⟩
  obtain ⟨hlt, he⟩ := List.getElem?_eq_some_iff.1 hz
  have e : gs.zip xs = (gs.zip xs).take k ++ (g, x) :: (gs.zip xs).drop (k + 1) := by
    rw [← he, ← List.drop_eq_getElem_cons hlt, List.take_append_drop]
  unfold ThS.all ThS.rest
  rw [List.cons_append, List.cons_append]
  refine .cons _ (.cons _ ?_)
  have e2 : ((gs.zip xs).flatMap fun q => S.L q.1 q.2) = ((gs.zip xs).take k).flatMap (fun q => S.L q.1 q.2) ++ (S.L g x ++ ((gs.zip xs).drop (k + 1)).flatMap fun q => S.L q.1 q.2) := by
    conv => lhs; rw [e]
    rw [List.flatMap_append, List.flatMap_cons]
  rw [e2, List.append_assoc]
  exact (List.perm_append_comm).append_left _

theorem ths_one (h : Sep (S.all T gs v xs) w) (hx : getI xs i = some x) : Sep (S.L (S.at_ gs i) x) w := by
  obtain ⟨_, h1, h2⟩ := ths_at h hx
  exact (h.perm (ths_perm h1 h2)).split.2.1

theorem ths_open (h : Post Z (A ++ [thsK S T gs v xs, c]) w0 w) (hx : getI xs i = some x) : Post Z ((A ++ S.rest T gs v xs i.toNat) ++ (S.L (S.at_ gs i) x ++ [c])) w0 w := by
  have hs : Sep (S.all T gs v xs) w := h.sep.split.2.1.1
  obtain ⟨_, h1, h2⟩ := ths_at hs hx
  have h3 : Post Z ((A ++ [c]) ++ [packK (S.all T gs v xs)]) w0 w := h.perm (by
    rw [List.append_assoc]
    exact (List.Perm.swap _ _ _).append_left _)
  refine h3.unpack.perm ?_
  refine ((ths_perm h1 h2).append_left _).trans ?_
  rw [List.append_assoc, List.append_assoc]
  refine List.Perm.append_left _ ?_
  exact List.perm_append_comm.trans (by rw [List.append_assoc])

theorem thSep (h : Post Z (A ++ [thsK S T gs v xs, c]) w0 w) (hx : getI xs i = some x) : Sep (S.L (S.at_ gs i) x ++ [c]) w := (ths_open h hx).sep.split.2.1

theorem rest_set {k : Nat} (hb : S.b g' = S.b g) (h1 : gs[k]? = some g) (h2 : xs[k]? = some x) :
    (S.rest T gs v xs k).drop 1 = (S.rest T (gs.set k g') v (xs.set k x') k).drop 1 := by
  have hm : (gs.set k g').map S.b = gs.map S.b := by
    rw [List.map_set]
    refine List.ext_getElem? fun j => ?_
    rw [List.getElem?_set]
    split
    · rename_i e
      subst e
      rw [List.getElem?_map, h1, hb]
      simp [(List.getElem?_eq_some_iff.1 h1).1]
    · rfl
  have hz : (gs.set k g').zip (xs.set k x') = (gs.zip xs).set k (g', x') := by
    refine List.ext_getElem? fun j => ?_
    rw [List.getElem?_set]
    split
    · rename_i e
      subst e
      have hl : k < (gs.zip xs).length := by
        rw [List.length_zip]
        have := (List.getElem?_eq_some_iff.1 h1).1
        have := (List.getElem?_eq_some_iff.1 h2).1
        omega
      rw [if_pos hl, List.getElem?_zip_eq_some]
      exact ⟨by rw [List.getElem?_set_self (List.getElem?_eq_some_iff.1 h1).1], by rw [List.getElem?_set_self (List.getElem?_eq_some_iff.1 h2).1]⟩
    · rename_i e
      rw [List.zip, List.getElem?_zipWith, List.getElem?_zipWith, List.getElem?_set_ne e, List.getElem?_set_ne e]
  unfold ThS.rest
  rw [List.drop_succ_cons, List.drop_succ_cons, List.drop_zero, List.drop_zero, hm, hz, List.take_set_of_le (Nat.le_refl _), List.drop_set_of_lt (Nat.lt_succ_self _)]

theorem thBack (h : Post Z (A ++ [thsK S T gs v xs, c]) w0 w) (hx : getI xs i = some x) (hb : S.b g' = S.b (S.at_ gs i))
    (h2 : Done (fun b => b ∈ (packK (S.L (S.at_ gs i) x ++ [c])).own) (fun b => (packK (S.L (S.at_ gs i) x ++ [c])).has b) (S.L g' x' ++ [c']) w w') : Post Z (A ++ [thsK S T (gs.set i.toNat g') v (xs.set i.toNat x'), c']) w0 w' := by
  have hs : Sep (S.all T gs v xs) w := h.sep.split.2.1.1
  obtain ⟨_, h1, h3⟩ := ths_at hs hx
  have h4 := (ths_open h hx).frameP h2
  have hl := ths_len hs
  have h5 : Post Z ((A ++ (S.rest T gs v xs i.toNat).drop 1) ++ (S.L g' x' ++ [c'])) w0 w' := h4.sub (((List.drop_sublist _ _).append_left _).append_right _)
  rw [rest_set (x' := x') hb h1 h3] at h5
  have h6 := h5.fact (p := (gs.set i.toNat g').length = (xs.set i.toNat x').length) (by rw [List.length_set, List.length_set]; exact hl)
  have h7 : Post Z ((A ++ [c']) ++ S.all T (gs.set i.toNat g') v (xs.set i.toNat x')) w0 w' := by
    refine h6.perm ?_
    have p1 := ths_perm (S := S) (T := T) (v := v) (gs := gs.set i.toNat g') (xs := xs.set i.toNat x') (g := g') (x := x') (List.getElem?_set_self (List.getElem?_eq_some_iff.1 h1).1) (List.getElem?_set_self (List.getElem?_eq_some_iff.1 h3).1)
    refine List.Perm.trans ?_ (p1.symm.append_left _)
    have e : S.rest T (gs.set i.toNat g') v (xs.set i.toNat x') i.toNat = factK ((gs.set i.toNat g').length = (xs.set i.toNat x').length) :: (S.rest T (gs.set i.toNat g') v (xs.set i.toNat x') i.toNat).drop 1 := rfl
    rw [e]
    generalize (S.rest T (gs.set i.toNat g') v (xs.set i.toNat x') i.toNat).drop 1 = R
    generalize factK ((gs.set i.toNat g').length = (xs.set i.toNat x').length) = f
    rw [List.append_assoc, List.append_assoc, ← List.cons_append]
    refine List.Perm.trans (List.perm_middle (l₁ := A) (l₂ := R ++ (S.L g' x' ++ [c'])) (a := f)).symm ?_
    refine List.Perm.append_left _ ?_
    refine List.Perm.trans ?_ (List.perm_append_comm (l₁ := f :: R ++ S.L g' x') (l₂ := [c']))
    simp
  have h8 := h7.pack
  refine h8.perm ?_
  rw [List.append_assoc]
  exact (List.Perm.swap _ _ _).append_left _

theorem thAppD {z : List X} (h : Sep (S.all T gs v xs) w) (hz : appD xs [x] = some z) : appD (gs.map S.b) [S.b g] = some (gs.map S.b ++ [S.b g]) ∧ z = xs ++ [x] := by
  obtain ⟨h1, h2⟩ := appD_eq hz
  refine ⟨?_, h2⟩
  unfold appD
  have hl := ths_count h
  rw [if_pos (by simp only [List.length_singleton] at h1 ⊢; simp only [Modest2]; omega)]

/-- One more is appended. -/
theorem thApp {z : List X} {zs : List Nat} (h : Post Z (A ++ (thsK S T gs v xs :: S.L g x)) w0 w) (hz : zs = gs.map S.b ++ [S.b g]) (ha : Appended T 1 ptrE v zs w v' w') (hz2 : z = xs ++ [x]) : Post Z (A ++ [thsK S T (gs ++ [g]) v' z]) w0 w' := by
  subst hz hz2
  have h1 : Post Z ((A ++ S.L g x) ++ [packK (S.all T gs v xs)]) w0 w := h.perm (by
    rw [List.append_assoc]
    exact List.Perm.append_left _ (List.perm_append_comm (l₁ := [thsK S T gs v xs]) (l₂ := S.L g x)))
  have h2 := h1.unpack
  have hl : gs.length = xs.length := ths_len h1.sep.split.2.1.1
  have h3 : Post Z ((A ++ S.L g x ++ (gs.zip xs).flatMap fun q => S.L q.1 q.2) ++ [rowK T 1 ptrE v (gs.map S.b)]) w0 w := by
    refine (h2.sub (N := (A ++ S.L g x) ++ (rowK T 1 ptrE v (gs.map S.b) :: (gs.zip xs).flatMap fun q => S.L q.1 q.2)) ((List.sublist_cons_self _ _).append_left _)).perm ?_
    rw [List.append_assoc (A ++ S.L g x)]
    exact (List.perm_append_comm (l₁ := [rowK T 1 ptrE v (gs.map S.b)]) (l₂ := (gs.zip xs).flatMap fun q => S.L q.1 q.2)).append_left _
  have h4 := h3.append (xs := gs.map S.b) (i := (A ++ S.L g x ++ (gs.zip xs).flatMap fun q => S.L q.1 q.2).length) (by simp) ha
  rw [List.set_append_right _ _ (Nat.le_refl _), Nat.sub_self] at h4
  have h5 := h4.fact (p := (gs ++ [g]).length = (xs ++ [x]).length) (by simp [hl])
  refine Post.pack (h5.perm ?_)
  unfold ThS.all
  rw [List.map_append, List.zip_append hl, List.flatMap_append]
  simp only [List.map_cons, List.map_nil, List.zip_cons_cons, List.zip_nil_right, List.flatMap_cons, List.flatMap_nil, List.append_nil, List.set_cons_zero]
  generalize factK ((gs ++ [g]).length = (xs ++ [x]).length) = f
  generalize rowK T 1 ptrE v' (gs.map S.b ++ [S.b g]) = r
  generalize ((gs.zip xs).flatMap fun q => S.L q.1 q.2) = Q
  refine List.Perm.trans (l₂ := f :: (A ++ (r :: (Q ++ S.L g x)))) (.cons _ ?_) (List.perm_middle).symm
  rw [List.append_assoc, List.append_assoc]
  refine List.Perm.append_left _ ?_
  refine List.Perm.trans (l₂ := r :: (S.L g x ++ Q)) ?_ (.cons _ List.perm_append_comm)
  rw [← List.append_assoc]
  exact List.perm_append_comm

theorem thNil (S : ThS X) (T : TypeId) {L : List Ck} (h : Post Z L w0 w) : Post Z (L ++ [thsK S T [] (.slice none 0 0) []]) w0 w := by
  refine Post.pack ?_
  have h1 := ((h.nilRow T 1 ptrE).fact (p := ([] : List S.G).length = ([] : List X).length) rfl)
  exact h1.perm (List.perm_middle (l₁ := L) (a := factK _)).symm

theorem thsR_lt (h : Sep (S.all T gs v xs) w) : ∀ b, b ∈ (thsR S T gs v xs).ro → b < w.heap.size := seeK_lt h

end
theorem Sep.cell {L : List Ck} {w : World} {i b : Nat} {a : Array Value} {T : TypeId} (h : Sep L w) (hi : L[i]? = some (cellC b a T)) : w.heap[b]? = some (.cells a T (0, 0)) := h.get hi

theorem Sep.row {α : Type} {f : α → List Value} {xs : List α} {v : Value} {sz : Nat} {L : List Ck} {w : World} {i : Nat} {T : TypeId} (h : Sep L w) (hi : L[i]? = some (rowK T sz f v xs)) : RowAt T sz f v xs w := h.get hi

theorem Sep.ro {α : Type} {f : α → List Value} {xs : List α} {v : Value} {sz : Nat} {L : List Ck} {w : World} {i : Nat} {T : TypeId} (h : Sep L w) (hi : L[i]? = some (roK T sz f v xs)) : RoAt T sz f v xs w := h.get hi

/-! ### Slices of slices, read alone -/
def oneE (v : Value) : List Value := [v]

section
variable {α : Type} {T : TypeId} {sz : Nat} {f : α → List Value} {vs : List Value} {v : Value} {xss : List (List α)} {xs : List α} {w w' w0 : World} {L : List Ck} {Z : Nat → Prop} {i : Int} {k : Nat}
def RowsAt (T : TypeId) (sz : Nat) (f : α → List Value) (vs : List Value) (v : Value) (xss : List (List α)) (w : World) : Prop :=
  RoAt 0 1 oneE v vs w ∧ vs.length = xss.length ∧ ∀ (i : Nat) (u : Value) (xs : List α), vs[i]? = some u → xss[i]? = some xs → RoAt T sz f u xs w

def vAt (vs : List Value) (i : Int) : Value := (vs[i.toNat]?).getD undef

theorem RowsAt.at_ (h : RowsAt T sz f vs v xss w) (hx : getI xss i = some xs) : 0 ≤ i ∧ vs[i.toNat]? = some (vAt vs i) ∧ xss[i.toNat]? = some xs := by
  obtain ⟨h0, h1⟩ := getI_some hx
  have h2 := (List.getElem?_eq_some_iff.1 h1).1
  have h3 := h.2.1
  refine ⟨h0, ?_, h1⟩
  unfold vAt
  rw [List.getElem?_eq_getElem (by omega)]
  rfl

theorem RowsAt.idx (h : RowsAt T sz f vs v xss w) (hx : getI xss i = some xs) : getI vs i = some (vAt vs i) := getI_of (h.at_ hx).1 (h.at_ hx).2.1

theorem RowsAt.row (h : RowsAt T sz f vs v xss w) (hx : getI xss i = some xs) : RoAt T sz f (vAt vs i) xs w := h.2.2 _ _ _ (h.at_ hx).2.1 (h.at_ hx).2.2

theorem RowsAt.len (h : RowsAt T sz f vs v xss w) : ∃ ad c, v = .slice ad xss.length c := by
  have := RoAt.len h.1
  rwa [h.2.1] at this

theorem RowsAt.lt (h : RowsAt T sz f vs v xss w) : ∀ b, b ∈ rdBs v ++ vs.flatMap rdBs → b < w.heap.size := fun b hb => by
  rcases List.mem_append.1 hb with hb | hb
  · exact h.1.lt b hb
  · obtain ⟨u, hu, hb⟩ := List.mem_flatMap.1 hb
    obtain ⟨j, hj⟩ := List.mem_iff_getElem?.1 hu
    have hjl := (List.getElem?_eq_some_iff.1 hj).1
    have h3 := h.2.1
    exact (h.2.2 j u _ hj (List.getElem?_eq_getElem (by omega))).lt b hb

def rowsR (T : TypeId) (sz : Nat) (f : α → List Value) (vs : List Value) (v : Value) (xss : List (List α)) : Ck :=
  ⟨[], rdBs v ++ vs.flatMap rdBs, RowsAt T sz f vs v xss, fun w w' h hs hw => ⟨hw.1.st fun b hb => h b (.inr (List.mem_append_left _ hb)), hw.2.1, fun j u xs hj hx => (hw.2.2 j u xs hj hx).st fun b hb => h b (.inr (List.mem_append_right _ (List.mem_flatMap.2 ⟨u, List.mem_of_getElem? hj, hb⟩)))⟩⟩

theorem Post.rows {i : Nat} (h : Post Z L w0 w) (hk : L[i]? = some (rowsR T sz f vs v xss)) : RowsAt T sz f vs v xss w := h.sep.get hk

theorem Post.rowsAdd (h : Post Z L w0 w) (hk : L[k]? = some (rowsR T sz f vs v xss)) (hx : getI xss i = some xs) : Post Z (L ++ [roK T sz f (vAt vs i) xs]) w0 w :=
  h.addRoFrom hk rfl ((h.rows hk).row hx) rfl fun b hb => List.mem_append_right _ (List.mem_flatMap.2 ⟨_, List.mem_of_getElem? ((h.rows hk).at_ hx).2.1, hb⟩)

theorem y_rowsLen {P : Program} {s : SL} {a : Act} {d : Option Tmp} {ty : TypeId} {pos : String} {aft : Array Edge} {N n : Nat} (hfr : Fr a N s) {x : Operand} {t : TypeId} {R : Value → World → Prop} (hr : ∃ ad c, v = .slice ad n c) (ht : isSlice P t = true) (hx : lookO s x = v) (h : R (.int .i64 n) w) :
    Yields P ⟨d, .call ⟨.builtin .len, #[x], #[t]⟩, ty, pos, aft, none⟩ a w R := by
  obtain ⟨ad, c, rfl⟩ := hr
  exact y_len hfr ht hx h

end
/-! ### Programs that may not be there yet -/
section
variable {R : Type} {P : Program} {E : Enc R} {x : Nat × T R} {v : Value} {F : List Nat} {w w' w0 : World} {L : List Ck} {Z : Nat → Prop} {i : Nat}
def progO (P : Program) (E : Enc R) (x : Nat × T R) (v : Value) (F : List Nat) : Ck :=
  ⟨[], F, fun w => Shape E v ∧ (x.2 = .cut ∨ Rep P E x.1 x.2 (fun b => b ∈ F) w v), fun _ _ h hs hr => ⟨hr.1, hr.2.imp id (Rep.mono (fun _ h => h) (fun b hb => h b (.inr hb)) hs _ _ _)⟩⟩

def liveI (x : Nat × T R) : Option Unit := match x.2 with | .cut => none | _ => some ()

theorem liveI_eq {u : Unit} (h : liveI x = some u) : x.2 ≠ .cut := by
  intro e
  unfold liveI at h
  rw [e] at h
  cases h

theorem Post.live {u : Unit} (h : Post Z L w0 w) (hi : L[i]? = some (progO P E x v F)) (hu : liveI x = some u) : Post Z (L.set i (progK P E x v F)) w0 w :=
  h.setRo hi ((h.sep.get hi).2.resolve_left (liveI_eq hu)) rfl fun _ h => h

theorem Post.toO (h : Post Z L w0 w) (hi : L[i]? = some (progK P E x v F)) : Post Z (L.set i (progO P E x v F)) w0 w := h.setRo hi ⟨(h.prog hi).shape, .inr (h.prog hi)⟩ rfl fun _ h => h

theorem Post.zeroO (P : Program) (h : Post Z L w0 w) (hv : Shape E v) : Post Z (L ++ [progO P E (0, .cut) v []]) w0 w := by
  have hn : ∀ b, ¬ (progO P E (0, .cut) v []).has b := fun b hb => by rcases hb with hb | hb <;> cases hb
  refine ⟨h.sep.append (N := [progO P E (0, .cut) v []]) ⟨⟨hv, .inl rfl⟩, fun b hb => (hn b hb).elim, fun d hd => (by cases hd), trivial⟩ fun d hd c' hc' => ?_, h.chg, fun d hd b hb => ?_⟩
  · rcases List.mem_singleton.1 hc' with rfl
    exact ⟨fun b _ hb => hn b hb, fun b hb => (by cases hb)⟩
  · rcases List.mem_append.1 hd with hd | hd
    · exact h.mine d hd b hb
    · rcases List.mem_singleton.1 hd with rfl; cases hb

/-- A program's value, cell by cell. -/
theorem shape7 (h : Shape E v) (hn : E.n = 1) : ∃ x0 x1 x2 x3 x4 x5 x6, v = .agg #[x0, x1, x2, x3, x4, x5, x6] := by
  obtain ⟨⟨l⟩, rfl, h1, _⟩ := h
  rw [hn] at h1
  match l, h1 with
  | [x0, x1, x2, x3, x4, x5, x6], _ => exact ⟨x0, x1, x2, x3, x4, x5, x6, rfl⟩

end
end Go.Proofs.Ytbbipmelhmgmfaa

/- Structs with slices handed about by value: what is read, and where it comes from. -/
namespace Go.Proofs.Ytbbipmelhmgmfaa
open Go.RowKit
section
variable {α : Type} {T : TypeId} {sz : Nat} {f : α → List Value} {v : Value} {xs ys : List α} {w w' w0 : World} {L N : List Ck} {Z Y Y' : Nat → Prop} {i : Nat} {B : Nat}
theorem RoAt.cells1 (hr : RoAt T sz f v xs w) : v.cells = #[v] := by obtain ⟨ad, c, rfl⟩ := hr.len; rfl

theorem RoAt.plain (hr : RoAt T sz f v xs w) : plainCell v = true := by obtain ⟨ad, c, rfl⟩ := hr.len; rfl

/-- A chunk, with where what it reads comes from. -/
def Ck.from (B : Nat) (Y : Nat → Prop) (c : Ck) : Ck := ⟨c.own, c.ro, fun w => c.ok w ∧ ∀ b, b ∈ c.ro → Y b ∨ B ≤ b, fun w w' h hs hr => ⟨c.st w w' h hs hr.1, hr.2⟩⟩

end
section
variable {P : Program} {a : Act} {w : World} {d : Option Tmp} {ty : TypeId} {pos : String} {aft : Array Edge} {N : Nat} {s : SL}
theorem y_storeV (hfr : Fr a N s) {x y : Operand} {b o n : Nat} {t E : TypeId} {c c' : Array Value} {v : Value} {cs : List Value} {R : Value → World → Prop} (hx : lookO s x = .pointer (some ⟨b, o, none⟩)) (hy : lookO s y = v) (hv : v.cells = cs.toArray) (hp : cs.all plainCell = true) (hl : cs.length = n)
    (h : w.heap[b]? = some (.cells c E (0, 0))) (ht : sized P t n = true) (hn : o + n ≤ c.size) (hc : over c o cs = c')
    (hr : ∀ w', Upd w w' b (.cells c' E (0, 0)) → R undef w') : Yields P ⟨d, .store t x y, ty, pos, aft, none⟩ a w R := by
  refine y_store hfr hx hy h (by simpa [hv, hl] using ht) (by simpa [hv, hl] using hn) (by simpa [hv] using hp) (by simpa [hv] using hc) hr

theorem pall_nil : ([] : List Value).all plainCell = true := rfl

theorem pall_cons {v : Value} {vs : List Value} (h : plainCell v = true) (ht : vs.all plainCell = true) : (v :: vs).all plainCell = true := by simp [h, ht]

end
end Go.Proofs.Ytbbipmelhmgmfaa

/- Written by a program of ours (wip/gen7.py): threads. -/
namespace Go.Proofs.Ytbbipmelhmgmfaa
open Go.RowKit
abbrev TH9 := (List Bool) × Int × Bool × Bool × (Nat × T Int) × (List Int)

structure Gth9 where
  b : Nat
  v0 : Value
  c4_0 : Value
  c4_1 : Value
  c4_2 : Value
  c4_3 : Value
  c4_4 : Value
  c4_5 : Value
  c4_6 : Value
  F4 : List Nat
  v5 : Value

def th9 : ThS TH9 := ⟨Gth9, ⟨0, undef, undef, undef, undef, undef, undef, undef, undef, [], undef⟩, Gth9.b, fun g x => [cellC g.b #[g.v0, (.int .i64 x.2.1), (.bool x.2.2.1), (.bool x.2.2.2.1), g.c4_0, g.c4_1, g.c4_2, g.c4_3, g.c4_4, g.c4_5, g.c4_6, g.v5] 41, roK 4 1 boolE g.v0 x.1, progO Try.prog encInt x.2.2.2.2.1 (.agg #[g.c4_0, g.c4_1, g.c4_2, g.c4_3, g.c4_4, g.c4_5, g.c4_6]) g.F4, rowK 3 1 i64 g.v5 x.2.2.2.2.2]⟩

end Go.Proofs.Ytbbipmelhmgmfaa

/- The list of free nodes: what its programs come to, without the code. -/
import Derived.Test.YtphnnjiaiemkcaaGreatQrsRunx
import Derived.Test.YtphnnjiaiemkcaaGreatQrsLists
namespace Go.Proofs.YtphnnjiaiemkcaaGreat
open Go.RowKit

/-! ### The head's word -/
theorem ofInt_nat {x : Int} (h0 : 0 ≤ x) (h1 : x < 18446744073709551616) : (BitVec.ofInt 64 x).toNat = x.toNat := by
  rw [BitVec.toNat_ofInt]
  congr 1
  exact Int.emod_eq_of_lt h0 (by simpa using h1)

theorem and_eq {x y : Int} (h0 : 0 ≤ x) (h1 : x < 18446744073709551616) (h2 : 0 ≤ y) (h3 : y < 18446744073709551616) : bits_and .u64 x y = ((x.toNat &&& y.toNat : Nat) : Int) := by
  have h : ((BitVec.ofInt 64 x &&& BitVec.ofInt 64 y).toNat : Int) = ((x.toNat &&& y.toNat : Nat) : Int) := by
    rw [BitVec.toNat_and, ofInt_nat h0 h1, ofInt_nat h2 h3]
  show IntKind.u64.wrap ((BitVec.ofInt 64 x &&& BitVec.ofInt 64 y).toNat : Int) = _
  rw [h]
  have : x.toNat &&& y.toNat < 2 ^ 64 := Nat.and_lt_two_pow _ (by omega)
  exact wrapu_id (by omega) (by omega)

theorem or_eq {x y : Int} (h0 : 0 ≤ x) (h1 : x < 18446744073709551616) (h2 : 0 ≤ y) (h3 : y < 18446744073709551616) : bits_or .u64 x y = ((x.toNat ||| y.toNat : Nat) : Int) := by
  have h : ((BitVec.ofInt 64 x ||| BitVec.ofInt 64 y).toNat : Int) = ((x.toNat ||| y.toNat : Nat) : Int) := by
    rw [BitVec.toNat_or, ofInt_nat h0 h1, ofInt_nat h2 h3]
  show IntKind.u64.wrap ((BitVec.ofInt 64 x ||| BitVec.ofInt 64 y).toNat : Int) = _
  rw [h]
  have : x.toNat ||| y.toNat < 2 ^ 64 := Nat.or_lt_two_pow (by omega) (by omega)
  exact wrapu_id (by omega) (by omega)

theorem andNot_eq {x y : Int} (h0 : 0 ≤ x) (h1 : x < 18446744073709551616) (h2 : 0 ≤ y) (h3 : y < 18446744073709551616) : bits_andNot .u64 x y = ((x.toNat &&& (18446744073709551615 - y.toNat) : Nat) : Int) := by
  have h : ((BitVec.ofInt 64 x &&& ~~~(BitVec.ofInt 64 y)).toNat : Int) = ((x.toNat &&& (18446744073709551615 - y.toNat) : Nat) : Int) := by
    rw [BitVec.toNat_and, BitVec.toNat_not, ofInt_nat h0 h1, ofInt_nat h2 h3]
  show IntKind.u64.wrap ((BitVec.ofInt 64 x &&& ~~~(BitVec.ofInt 64 y)).toNat : Int) = _
  rw [h]
  have : x.toNat &&& (18446744073709551615 - y.toNat) < 2 ^ 64 := Nat.and_lt_two_pow _ (by omega)
  exact wrapu_id (by omega) (by omega)

theorem f_node : D.field_Field_Formed D.free_node = true := by decide

theorem f_tag : D.field_Field_Formed D.free_tag = true := by decide

theorem m_node : D.field_Field_Most D.free_node = 2097151 := by decide +kernel

theorem m_tag : D.field_Field_Most D.free_tag = 8796093022207 := by decide +kernel

theorem k_node : D.field_Field_mask D.free_node = 2097151 := by decide +kernel

theorem k_tag : D.field_Field_mask D.free_tag = 18446744073707454464 := by decide +kernel

theorem shr0 (w : Int) : shrI .u64 w 0 = w := by
  show w.fdiv (2 ^ (min 0 64)) = w
  simp

theorem shr21 {w : Int} (_ : 0 ≤ w) : shrI .u64 w 21 = w / 2097152 := by
  show w.fdiv 2097152 = _
  exact Int.fdiv_eq_ediv_of_nonneg _ (by omega)

theorem get_node {w : Int} (h0 : 0 ≤ w) (h1 : w < 18446744073709551616) : D.field_Field_Get D.free_node w = w % 2097152 := by
  unfold D.field_Field_Get
  rw [f_node, m_node]
  show bits_and .u64 (shrI .u64 w 0) 2097151 = _
  rw [shr0, and_eq h0 h1 (by omega) (by omega)]
  have : w.toNat &&& 2097151 = w.toNat % 2097152 := Nat.and_two_pow_sub_one_eq_mod w.toNat 21
  rw [show (2097151 : Int).toNat = 2097151 from rfl, this]
  omega

theorem get_tag {w : Int} (h0 : 0 ≤ w) (h1 : w < 18446744073709551616) : D.field_Field_Get D.free_tag w = w / 2097152 := by
  unfold D.field_Field_Get
  rw [f_tag, m_tag]
  show bits_and .u64 (shrI .u64 w 21) 8796093022207 = _
  rw [shr21 h0, and_eq (by omega) (by omega) (by omega) (by omega)]
  have : (w / 2097152).toNat &&& 8796093022207 = (w / 2097152).toNat % 8796093022208 := Nat.and_two_pow_sub_one_eq_mod _ 43
  rw [show (8796093022207 : Int).toNat = 8796093022207 from rfl, this]
  omega

theorem put_node {n : Int} (h0 : 0 ≤ n) (h1 : n < 18446744073709551616) : D.field_Field_Put D.free_node 0 n = n % 2097152 := by
  unfold D.field_Field_Put
  rw [f_node, m_node, k_node]
  show bits_or .u64 (bits_andNot .u64 0 2097151) (shlI .u64 (bits_and .u64 n 2097151) 0) = _
  have e : n.toNat &&& 2097151 = n.toNat % 2097152 := Nat.and_two_pow_sub_one_eq_mod n.toNat 21
  rw [andNot_eq (by omega) (by omega) (by omega) (by omega), and_eq h0 h1 (by omega) (by omega), show (2097151 : Int).toNat = 2097151 from rfl, e]
  have h2 : shlI .u64 ((n.toNat % 2097152 : Nat) : Int) 0 = ((n.toNat % 2097152 : Nat) : Int) := by
    show IntKind.u64.wrap (((n.toNat % 2097152 : Nat) : Int) * 2 ^ (min 0 64)) = _
    rw [show ((n.toNat % 2097152 : Nat) : Int) * 2 ^ (min 0 64) = ((n.toNat % 2097152 : Nat) : Int) from by simp]
    exact wrapu_id (by omega) (by omega)
  rw [h2, or_eq (by simp) (by simp) (by omega) (by omega)]
  simp
  omega

theorem put_tag {u t : Int} (h0 : 0 ≤ u) (h1 : u < 2097152) (h2 : 0 ≤ t) (h3 : t < 18446744073709551616) : D.field_Field_Put D.free_tag u t = (t % 8796093022208) * 2097152 + u := by
  unfold D.field_Field_Put
  rw [f_tag, m_tag, k_tag]
  show bits_or .u64 (bits_andNot .u64 u 18446744073707454464) (shlI .u64 (bits_and .u64 t 8796093022207) 21) = _
  have e : t.toNat &&& 8796093022207 = t.toNat % 8796093022208 := Nat.and_two_pow_sub_one_eq_mod t.toNat 43
  have e2 : u.toNat &&& 2097151 = u.toNat % 2097152 := Nat.and_two_pow_sub_one_eq_mod u.toNat 21
  rw [andNot_eq h0 (by omega) (by omega) (by omega), and_eq h2 h3 (by omega) (by omega), show (8796093022207 : Int).toNat = 8796093022207 from rfl, e,
    show 18446744073709551615 - (18446744073707454464 : Int).toNat = 2097151 from rfl, e2]
  have h4 : shlI .u64 ((t.toNat % 8796093022208 : Nat) : Int) 21 = ((t.toNat % 8796093022208 * 2097152 : Nat) : Int) := by
    show IntKind.u64.wrap (((t.toNat % 8796093022208 : Nat) : Int) * 2 ^ (min 21 64)) = _
    rw [show ((t.toNat % 8796093022208 : Nat) : Int) * 2 ^ (min 21 64) = ((t.toNat % 8796093022208 * 2097152 : Nat) : Int) from by simp]
    exact wrapu_id (by omega) (by omega)
  rw [h4, or_eq (by omega) (by omega) (by omega) (by omega)]
  have h5 : u.toNat % 2097152 ||| t.toNat % 8796093022208 * 2097152 = 2097152 * (t.toNat % 8796093022208) + u.toNat % 2097152 := by
    rw [Nat.or_comm, Nat.mul_comm]
    exact (Nat.two_pow_add_eq_or_of_lt (i := 21) (Nat.mod_lt _ (by omega)) _).symm
  rw [show ((u.toNat % 2097152 : Nat) : Int).toNat = u.toNat % 2097152 from rfl, show ((t.toNat % 8796093022208 * 2097152 : Nat) : Int).toNat = t.toNat % 8796093022208 * 2097152 from rfl, h5]
  omega

theorem turned_eq {g n m : Int} (hg : 0 ≤ g) (hg1 : g < 1000000) (hn : 0 ≤ n) (hn1 : n < 2097152) (hm : 0 ≤ m) (hm1 : m < 2097152) : D.free_turned (g * 2097152 + n) m = (g + 1) * 2097152 + m := by
  unfold D.free_turned
  rw [get_tag (by omega) (by omega), put_node hm (by omega), wrapu_id (x := (g * 2097152 + n) / 2097152 + 1) (by omega) (by omega), put_tag (by omega) (by omega) (by omega) (by omega)]
  omega

theorem link_eq {n : Int} (h0 : 0 ≤ n) (h1 : n ≤ 1000000) : D.free_link n = n + 1 := by
  unfold D.free_link
  rw [wrap_id (x := n + 1) (by omega) (by omega), wrapu_id (by omega) (by omega)]

theorem Peek_eq0 {fu : Nat} {M : Mem} {i : Int} (h0 : 0 ≤ i) (h1 : i < M.ws.length) : D.mem_Memory_Peek fu M 0 i = some (rd M.ws i) := by
  unfold D.mem_Memory_Peek
  have hS : D.mem_Memory_Size fu M 0 = some (M.ws.length : Int) := rfl
  rw [show decide (i < 0) = false from by simp; omega]
  simp only [cond_false, hS, Option.bind_some]
  rw [show decide (i ≥ (M.ws.length : Int)) = false from by simp; omega, show zeroI 0 = some () from rfl, getI_rd h0 h1]
  rfl

/-! ### The list -/
/-- The place of a node's next. -/
def nx (p : Plan) (n : Int) : Int := D.plan_Plan_nodes p + n * 5 + 1

def first : List Int → Int
  | [] => 0
  | n :: _ => n + 1

def Linked (p : Plan) (ws : List Int) : List Int → Prop
  | [] => True
  | n :: l => rd ws (nx p n) = first l ∧ Linked p ws l

/-- The words hold this list of free nodes, the head was turned so often. -/
structure FreeAt (p : Plan) (ws : List Int) (l : List Int) (g : Int) : Prop where
  len : (ws.length : Int) = D.plan_Plan_Size p
  head : rd ws 0 = g * 2097152 + first l
  g0 : 0 ≤ g
  range : ∀ n, n ∈ l → 0 ≤ n ∧ n < p.nodes
  nodup : l.Nodup
  linked : Linked p ws l

theorem Linked.keep {p : Plan} {ws ws' : List Int} : ∀ {l : List Int}, Linked p ws l → (∀ n, n ∈ l → rd ws' (nx p n) = rd ws (nx p n)) → Linked p ws' l
  | [], _, _ => trivial
  | n :: _, h, hk => ⟨(hk n (List.mem_cons_self ..)).trans h.1, Linked.keep h.2 fun m hm => hk m (List.mem_cons_of_mem _ hm)⟩

theorem nx_in {p : Plan} (hp : PF p) {n : Int} (h0 : 0 ≤ n) (h1 : n < p.nodes) : 0 < nx p n ∧ nx p n < D.plan_Plan_Size p ∧ D.plan_Plan_Next p n = nx p n := by
  have hN := nodes_le hp
  have hS := Size_eq hp
  unfold nx
  exact ⟨by omega, by omega, by rw [Next_eq hp, if_pos ⟨h0, h1⟩]⟩

theorem nx_ne {p : Plan} {n m : Int} (h : n ≠ m) : nx p n ≠ nx p m := by unfold nx; omega

theorem first_le {l : List Int} {k : Int} (h : ∀ n, n ∈ l → 0 ≤ n ∧ n < k) (hk : 0 ≤ k) : 0 ≤ first l ∧ first l ≤ k := by
  cases l with
  | nil => exact ⟨Int.le_refl _, hk⟩
  | cons n l => have := h n (List.mem_cons_self ..); simp only [first]; omega

theorem pop_runs {p : Plan} (hp : PF p) {ws : List Int} {n : Int} {l : List Int} {g : Int} (h : FreeAt p ws (n :: l) g) (hnn : p.nodes ≤ 1000000) (hg : g < 1000000) (k : Nat) :
    Runs (D.free_Pop (k + 1) p) ws 3 n (ws.set (0 : Int).toNat ((g + 1) * 2097152 + first l)) ∧ FreeAt p (ws.set (0 : Int).toNat ((g + 1) * 2097152 + first l)) l (g + 1) := by
  have hs := h.len
  have hN := nodes_le hp
  have hS := Size_eq hp
  have hn1 := hp.n1
  have hh := h.head
  have g0 := h.g0
  have hr := h.range n (List.mem_cons_self ..)
  have hrl : ∀ m, m ∈ l → 0 ≤ m ∧ m < p.nodes := fun m hm => h.range m (List.mem_cons_of_mem _ hm)
  obtain ⟨q1, q2, q3⟩ := nx_in hp hr.1 hr.2
  obtain ⟨f1, f2⟩ := first_le hrl (by omega)
  simp only [first] at hh
  refine ⟨?_, ?_⟩
  · have hb : D.free_Pop (k + 1) p = .act 0 0 0 0 (fun x => D.free_Pop_1 (D.free_Pop k) p x) := by
      show D.free_Pop_body (D.free_Pop k) p = _
      unfold D.free_Pop_body
      rw [Head_eq hp]; rfl
    rw [hb]
    refine .load (by omega) (by omega) ?_
    unfold D.free_Pop_1
    rw [hh, get_node (by omega) (by omega), show (g * 2097152 + (n + 1)) % 2097152 = n + 1 from by omega, wrap_id (x := n + 1) (by omega) (by omega), show n + 1 - 1 = n from by omega, wrap_id (x := n) (by omega) (by omega),
      show decide (n < 0) = false from by simp; omega, q3]
    refine Runs.load (k := fun x => D.free_Pop_1_1 (D.free_Pop k) p (g * 2097152 + (n + 1)) n x) (by dsimp only; omega) (by dsimp only; omega) ?_
    unfold D.free_Pop_1_1
    rw [h.linked.1, Head_eq hp, turned_eq g0 hg (by omega) (by omega) f1 (by omega)]
    refine Runs.act (k := fun x => D.prog_Swap_int_1 (fun x => D.free_Pop_1_1_1 (D.free_Pop k) p n x) (g * 2097152 + (n + 1)) x) (by dsimp only; omega) (getI_rd (ws := ws) (by dsimp only; omega) (by dsimp only; omega)) ?_
    rw [hh]
    have ha : acted 2 0 (g * 2097152 + (n + 1)) ((g + 1) * 2097152 + first l) (g * 2097152 + (n + 1)) ws = ws.set (0 : Int).toNat ((g + 1) * 2097152 + first l) := by simp [acted]
    rw [ha]
    unfold D.prog_Swap_int_1 D.free_Pop_1_1_1
    rw [show (g * 2097152 + (n + 1) == g * 2097152 + (n + 1)) = true from by simp]
    exact .done _ _
  · refine ⟨by simpa using hs, ?_, by omega, hrl, (List.nodup_cons.1 h.nodup).2, h.linked.2.keep fun m hm => ?_⟩
    · rw [rd_set (by omega) (by omega) (by omega), if_pos rfl]
    · obtain ⟨p1, _, _⟩ := nx_in hp (hrl m hm).1 (hrl m hm).2
      rw [rd_set (by omega) (by omega) (by omega), if_neg (by omega)]

theorem push_runs {p : Plan} (hp : PF p) {ws : List Int} {n : Int} {l : List Int} {g : Int} (h : FreeAt p ws l g) (hnn : p.nodes ≤ 1000000) (hg : g < 1000000) (hr : 0 ≤ n ∧ n < p.nodes) (hno : n ∉ l) (k : Nat) :
    ∃ ws', Runs (D.free_Push (k + 1) p n) ws 3 n ws' ∧ FreeAt p ws' (n :: l) (g + 1) ∧ ∀ j, 0 < j → j ≠ nx p n → rd ws' j = rd ws j := by
  have hs := h.len
  have hN := nodes_le hp
  have hS := Size_eq hp
  have hn1 := hp.n1
  have hh := h.head
  have g0 := h.g0
  obtain ⟨q1, q2, q3⟩ := nx_in hp hr.1 hr.2
  obtain ⟨f1, f2⟩ := first_le h.range (by omega)
  obtain ⟨w1, hw1⟩ : ∃ w1, w1 = ws.set (nx p n).toNat (first l) := ⟨_, rfl⟩
  have hl1 : (w1.length : Int) = D.plan_Plan_Size p := by rw [hw1]; simpa using hs
  have hr1 : ∀ j, 0 ≤ j → rd w1 j = if j = nx p n then first l else rd ws j := fun j hj => by rw [hw1]; exact rd_set (by omega) (by omega) hj
  refine ⟨w1.set (0 : Int).toNat ((g + 1) * 2097152 + (n + 1)), ?_, ⟨by simpa using hl1, ?_, by omega, ?_, List.nodup_cons.2 ⟨hno, h.nodup⟩, ?_, ?_⟩, fun j h0 h1 => ?_⟩
  · have hb : D.free_Push (k + 1) p n = .act 0 0 0 0 (fun x => D.free_Push_1 (D.free_Push k) p n x) := by
      show D.free_Push_body (D.free_Push k) p n = _
      unfold D.free_Push_body
      rw [q3, show (nx p n == -1) = false from by simp; omega, Head_eq hp]; rfl
    rw [hb]
    refine .load (by omega) (by omega) ?_
    unfold D.free_Push_1
    rw [hh, get_node (by omega) (by omega), show (g * 2097152 + first l) % 2097152 = first l from by omega, q3]
    refine Runs.store (k := fun x => D.prog_Store_int_1 (fun _ => D.free_Push_1_1 (D.free_Push k) p (g * 2097152 + first l) n) x) (by dsimp only; omega) (by dsimp only; omega) ?_
    unfold D.prog_Store_int_1 D.free_Push_1_1
    rw [link_eq hr.1 (by omega), Head_eq hp, turned_eq g0 hg f1 (by omega) (by omega) (by omega), ← hw1]
    have hx : rd w1 0 = g * 2097152 + first l := by rw [hr1 0 (by omega), if_neg (by omega), hh]
    refine Runs.act (k := fun x => D.prog_Swap_int_1 (fun x => D.free_Push_1_1_1 (D.free_Push k) p n x) (g * 2097152 + first l) x) (by dsimp only; omega) (getI_rd (ws := w1) (by dsimp only; omega) (by dsimp only; omega)) ?_
    rw [hx]
    have ha : acted 2 0 (g * 2097152 + first l) ((g + 1) * 2097152 + (n + 1)) (g * 2097152 + first l) w1 = w1.set (0 : Int).toNat ((g + 1) * 2097152 + (n + 1)) := by simp [acted]
    rw [ha]
    unfold D.prog_Swap_int_1 D.free_Push_1_1_1
    rw [show (g * 2097152 + first l == g * 2097152 + first l) = true from by simp]
    exact .done _ _
  · rw [rd_set (by omega) (by omega) (by omega), if_pos rfl]; rfl
  · intro m hm
    rcases List.mem_cons.1 hm with rfl | hm
    · exact hr
    · exact h.range m hm
  · rw [rd_set (by omega) (by omega) (by omega), if_neg (by omega), hr1 _ (by omega), if_pos rfl]
  · refine h.linked.keep fun m hm => ?_
    have hmr := h.range m hm
    obtain ⟨p1, _, _⟩ := nx_in hp hmr.1 hmr.2
    have hne : m ≠ n := fun e => hno (e ▸ hm)
    rw [rd_set (by omega) (by omega) (by omega), if_neg (by omega), hr1 _ (by omega), if_neg (nx_ne hne)]
  · rw [rd_set (by omega) (by omega) (by omega), if_neg (by omega), hr1 _ (by omega), if_neg h1]

theorem fresh_linked {p : Plan} {ws : List Int} (hn : ∀ m, 0 ≤ m → m < p.nodes → rd ws (D.plan_Plan_nodes p + m * 5 + 1) = if m + 1 = p.nodes then 0 else m + 2) : ∀ (d : Nat) (i : Nat), (i : Int) + d = p.nodes → Linked p ws ((List.range' i d).map fun (q : Nat) => (q : Int))
  | 0, _, _ => trivial
  | d + 1, i, h => by
    rw [List.range'_succ, List.map_cons]
    refine ⟨?_, fresh_linked hn d (i + 1) (by omega)⟩
    unfold nx
    rw [hn i (by omega) (by omega)]
    cases d with
    | zero => rw [if_pos (by omega)]; rfl
    | succ d => rw [if_neg (by omega), List.range'_succ, List.map_cons]; simp only [first]; omega

/-- The numbers of all nodes. -/
def allN (p : Plan) : List Int := (List.range' 0 p.nodes.toNat).map fun (q : Nat) => (q : Int)

theorem laid_free {p : Plan} (hp : PF p) {ws : List Int} (h : LaidAt p ws) : FreeAt p ws (allN p) 0 := by
  have hn1 := hp.n1
  refine ⟨h.len, ?_, Int.le_refl _, fun n hn => ?_, ?_, fresh_linked h.next p.nodes.toNat 0 (by omega)⟩
  · rw [h.head]
    unfold allN
    obtain ⟨d, hd⟩ : ∃ d, p.nodes.toNat = d + 1 := ⟨p.nodes.toNat - 1, by omega⟩
    rw [hd, List.range'_succ, List.map_cons]
    simp [first]
  · obtain ⟨q, hq, rfl⟩ := List.mem_map.1 hn
    have := (List.mem_range'_1.1 hq).2
    omega
  · unfold allN
    exact List.Pairwise.map _ (fun a b h => by omega) (List.nodup_range' (s := 0) (n := p.nodes.toNat))

theorem list_eq {p : Plan} (hp : PF p) {M : Mem} {l : List Int} {g : Int} (h : FreeAt p M.ws l g) (hnn : p.nodes ≤ 1000) (hl : (l.length : Int) ≤ p.nodes) (hg : g < 1000000) {fu : Nat} (hfu : 1000 < fu) : D.free_List fu p M 0 = some l := by
  have hs := h.len
  have hN := nodes_le hp
  have hS := Size_eq hp
  have hn1 := hp.n1
  have g0 := h.g0
  obtain ⟨f1, f2⟩ := first_le h.range (by omega)
  have hh := h.head
  unfold D.free_List
  rw [Head_eq hp, Peek_eq0 (by omega) (by omega), hh]
  simp only [Option.bind_some]
  rw [get_node (by omega) (by omega), show (g * 2097152 + first l) % 2097152 = first l from by omega]
  have key : ∀ (r done : List Int) (k : Nat), done ++ r = l → Linked p M.ws r → r.length < k →
      (runLoop (fun (x8 : List Int × Int) => (Option.bind (bif (decide ((x8.1.length : Int) < p.nodes)) then (bif (decide (x8.2 > 0)) then (some (decide (x8.2 ≤ (IntKind.u64.wrap p.nodes)))) else (some false)) else (some false)) (fun (x15 : Bool) => (bif x15 then ((appD x8.1 ([(IntKind.i64.wrap ((IntKind.i64.wrap x8.2) - 1))])).bind (fun (x23 : List Int) => ((D.mem_Memory_Peek fu M 0 (D.plan_Plan_Next p (IntKind.i64.wrap ((IntKind.i64.wrap x8.2) - 1)))).bind (fun (x28 : Int) => (some (Lp.next (x23, x28))))))) else (some (Lp.brk (x8.1, x8.2))))))) k (done, first r)).bind (afterLoop fun (x30 : List Int × Int) => some x30.1) = some l := by
    intro r
    induction r with
    | nil =>
      intro done k hd _ hk
      obtain ⟨k, rfl⟩ : ∃ q, k = q + 1 := ⟨k - 1, by omega⟩
      rw [List.append_nil] at hd
      subst hd
      have hc : (Option.bind (bif (decide ((done.length : Int) < p.nodes)) then (bif (decide (first [] > 0)) then (some (decide (first [] ≤ (IntKind.u64.wrap p.nodes)))) else (some false)) else (some false)) (fun b => some b)) = some false := by
        cases decide ((done.length : Int) < p.nodes) <;> rfl
      have hc2 : (bif (decide ((done.length : Int) < p.nodes)) then (bif (decide (first [] > 0)) then (some (decide (first [] ≤ (IntKind.u64.wrap p.nodes)))) else (some false)) else (some false)) = some false := by
        cases decide ((done.length : Int) < p.nodes) <;> rfl
      simp only [runLoop, hc2, Option.bind_some, cond_false, goOn, afterLoop]
    | cons n r ih =>
      intro done k hd hlk hk
      simp only [List.length_cons] at hk
      obtain ⟨k, rfl⟩ : ∃ q, k = q + 1 := ⟨k - 1, by omega⟩
      have hm : n ∈ l := by rw [← hd]; simp
      have hr := h.range n hm
      have hlen : done.length + (r.length + 1) = l.length := by rw [← hd]; simp
      obtain ⟨q1, q2, q3⟩ := nx_in hp hr.1 hr.2
      simp only [runLoop]
      have hfst : first (n :: r) = n + 1 := rfl
      rw [show decide ((done.length : Int) < p.nodes) = true from by simp; omega, show decide (first (n :: r) > 0) = true from by rw [hfst]; simp; omega, show decide (first (n :: r) ≤ IntKind.u64.wrap p.nodes) = true from by rw [hfst, wrapu_id (x := p.nodes) (by omega) (by omega)]; simp; omega, hfst]
      rw [wrap_id (x := n + 1) (by omega) (by omega), show n + 1 - 1 = n from by omega, wrap_id (x := n) (by omega) (by omega), q3, Peek_eq0 (by omega) (by omega), hlk.1]
      have ha : appD done [n] = some (done ++ [n]) := by unfold appD; rw [if_pos (by simp only [Modest2, List.length_singleton]; omega)]
      simp only [cond_true, Option.bind_some, ha, goOn]
      exact ih (done ++ [n]) k (by rw [List.append_assoc]; exact hd) hlk.2 (by omega)
  have := key l [] fu rfl h.linked (by omega)
  unfold loopThen
  exact this

end Go.Proofs.YtphnnjiaiemkcaaGreat

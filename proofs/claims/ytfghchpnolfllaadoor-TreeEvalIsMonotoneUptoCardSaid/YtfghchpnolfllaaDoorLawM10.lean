/- Trees: what their check computes. No law is proved here. -/
import Derived.Test.YtfghchpnolfllaaDoorGMod
set_option linter.unusedSimpArgs false
set_option linter.unusedVariables false
set_option linter.unusedSectionVars false
namespace Go.G
open Go.Av

theorem atI_nat {α : Type} (l : List α) (i : Nat) : atI l (i : Int) = l[i]? := by simp [atI]
theorem wrapN {i : Nat} (h : i ≤ 1000000000000) : IntKind.i64.wrap ((i : Int) + 1) = ((i + 1 : Nat) : Int) := by rw [IntKind.wrap_i64]; omega
theorem wrapI {i : Int} (h0 : -4611686018427387904 ≤ i) (h : i ≤ 9223372036854775807) : IntKind.i64.wrap i = i := by rw [IntKind.wrap_i64]; omega
theorem get_ex {α : Type} {l : List α} {i : Nat} (h : i < l.length) : ∃ x, l[i]? = some x := ⟨l[i], List.getElem?_eq_getElem h⟩
theorem drop_cons {α : Type} {l : List α} {i : Nat} {x : α} (h : l[i]? = some x) : l.drop i = x :: l.drop (i + 1) := by
  obtain ⟨hi, e⟩ := List.getElem?_eq_some_iff.1 h
  rw [List.drop_eq_getElem_cons hi, e]

/-- Induction over trees. -/
theorem tree_ind {P : TreeTree → Prop} (h : ∀ K N ks, (∀ k ∈ ks, P k) → P (.mk K N ks)) : ∀ t, P t := fun t =>
  TreeTree.rec (motive_1 := P) (motive_2 := fun l => ∀ k ∈ l, P k) (fun K N ks ih => h K N ks ih) (by simp) (fun k ks h1 h2 => by
    intro x hx
    rcases List.mem_cons.1 hx with rfl | hx
    · exact h1
    · exact h2 x hx) t

mutual
/-- How many nodes. -/
def szT : TreeTree → Nat
  | .mk _ _ ks => 1 + szL ks
def szL : List TreeTree → Nat
  | [] => 0
  | k :: ks => szT k + szL ks
end
theorem szT_pos (t : TreeTree) : 1 ≤ szT t := by cases t; simp only [szT]; omega
theorem szL_len : ∀ ks : List TreeTree, ks.length ≤ szL ks
  | [] => by simp
  | k :: ks => by have := szL_len ks; have := szT_pos k; simp only [szL, List.length_cons]; omega
theorem szL_mem : ∀ {ks : List TreeTree} {k : TreeTree}, k ∈ ks → szT k ≤ szL ks
  | x :: ks, k, h => by
    rcases List.mem_cons.1 h with rfl | h
    · simp only [szL]; omega
    · have := szL_mem h; simp only [szL]; omega
theorem szT_kids {K N : Int} {ks : List TreeTree} {n : Nat} (h : szT (.mk K N ks) < n) : ∃ m, n = m + 1 ∧ ks.length < m ∧ ∀ k ∈ ks, szT k < m := by
  simp only [szT] at h
  have h1 := szL_len ks
  obtain ⟨m, rfl⟩ : ∃ m, n = m + 1 := ⟨n - 1, by omega⟩
  exact ⟨m, rfl, by omega, fun k hk => by have := szL_mem hk; omega⟩

mutual
/-- The check of a tree: a code and the leaves seen. -/
def chk (many : Int) : TreeTree → List Int → Int × List Int
  | .mk K N ks, l =>
    if K < 0 ∨ K > 2 then (8, l)
    else if K = 0 then (if 0 < ks.length then (2, l) else if N < 0 ∨ N ≥ many then (3, l) else if N ∈ l then (9, l) else (0, l ++ [N]))
    else if N ≠ 0 then (2, l)
    else if ks.length < 2 then (5, l)
    else if ks.any (fun k => k.Kind == K) = true then (14, l)
    else chks many ks l
def chks (many : Int) : List TreeTree → List Int → Int × List Int
  | [], l => (0, l)
  | k :: ks, l => if (chk many k l).1 ≠ 0 then chk many k l else chks many ks (chk many k l).2
end

/-- A set as a map. -/
def mp (l : List Int) : List (Int × Bool) := l.map fun x => (x, true)
theorem mp_get (l : List Int) (x : Int) : (mGet (mp l) x).getD false = decide (x ∈ l) := by
  induction l with
  | nil => simp [mp, mGet]
  | cons a l ih =>
    simp only [mp, List.map_cons, mGet] at ih ⊢
    by_cases h : x = a
    · simp [h]
    · have : (x == a) = false := by simpa using h
      simp [this, ih, h]
theorem mp_put (l : List Int) (x : Int) (h : x ∉ l) : mPut (mp l) x true = mp (l ++ [x]) := by
  induction l with
  | nil => rfl
  | cons a l ih =>
    simp only [List.mem_cons, not_or] at h
    have h1 : (x == a) = false := by simpa using h.1
    have := ih h.2
    simp only [mp, List.map_cons, List.cons_append, mPut, h1, Bool.false_eq_true, if_false] at this ⊢
    rw [this]
theorem mp_len (l : List Int) : (mp l).length = l.length := by simp [mp]

theorem c37_loop (n : Nat) (s : List TreeTree) (b : TreeTree) (hs : s.length ≤ 1000000000) : ∀ (k i : Nat), i ≤ s.length → s.length - i < k →
    ∃ r, slices_IndexFunc_tree_Tree_c37_L1 n s b k (i : Int) = some r ∧ decide (r ≥ 0) = (s.drop i).any fun x => x.Kind == b.Kind
  | 0, i, h, hk => absurd hk (Nat.not_lt_zero _)
  | k + 1, i, h, hk => by
    rw [slices_IndexFunc_tree_Tree_c37_L1]
    by_cases hi : i < s.length
    · obtain ⟨x, hx⟩ := get_ex hi
      rw [if_pos (by simpa using hi), atI_nat, hx, Option.bind_some]
      simp only [tree_Tree_check_1, Option.bind_some]
      rw [drop_cons hx, List.any_cons]
      cases hc : (x.Kind == b.Kind) with
      | true => exact ⟨(i : Int), by simp, by simp⟩
      | false =>
        rw [wrapN (by omega)]
        obtain ⟨r, h1, h2⟩ := c37_loop n s b hs k (i + 1) (by omega) (by omega)
        exact ⟨r, by simpa using h1, by simpa using h2⟩
    · rw [if_neg (by simpa using hi)]
      refine ⟨-1, rfl, ?_⟩
      rw [List.drop_eq_nil_of_le (by omega)]; rfl
theorem c37_eq (n : Nat) (s : List TreeTree) (b : TreeTree) (hs : s.length ≤ 1000000000) (h : s.length < n) : slices_ContainsFunc_tree_Tree_c37 n s b = some (s.any fun x => x.Kind == b.Kind) := by
  obtain ⟨r, h1, h2⟩ := c37_loop n s b hs n 0 (by omega) (by omega)
  simp only [slices_ContainsFunc_tree_Tree_c37, slices_IndexFunc_tree_Tree_c37]
  rw [show (0 : Int) = ((0 : Nat) : Int) from rfl, h1, Option.bind_some]
  rw [List.drop_zero] at h2
  exact congrArg some h2

theorem check_loop (t : TreeTree) (many : Int) (slf : TreeTree → Int → List (Int × Bool) → Option (Int × List (Int × Bool))) (hs : t.Kids.length ≤ 1000000000)
    (hf : ∀ k ∈ t.Kids, ∀ l, slf k many (mp l) = some ((chk many k l).1, mp (chk many k l).2)) : ∀ (k i : Nat) (l : List Int), i ≤ t.Kids.length → t.Kids.length - i < k →
    tree_Tree_check_L2 t many slf k (mp l) (i : Int) = some ((chks many (t.Kids.drop i) l).1, mp (chks many (t.Kids.drop i) l).2)
  | 0, i, l, h, hk => absurd hk (Nat.not_lt_zero _)
  | k + 1, i, l, h, hk => by
    rw [tree_Tree_check_L2]
    by_cases hi : i < t.Kids.length
    · obtain ⟨x, hx⟩ := get_ex hi
      rw [if_pos (by simpa using hi), atI_nat, hx, Option.bind_some, hf x (List.mem_of_getElem? hx) l, Option.bind_some, drop_cons hx, chks]
      by_cases he : (chk many x l).1 = 0
      · have := check_loop t many slf hs hf k (i + 1) (chk many x l).2 (by omega) (by omega)
        simp only [he, bne_self_eq_false, Bool.false_eq_true, if_false, ne_eq, not_true]
        rw [wrapN (by omega), this]
      · simp [he]
    · rw [if_neg (by simpa using hi), List.drop_eq_nil_of_le (by omega), chks]

theorem tree_Tree_check_eq (many : Int) : ∀ (t : TreeTree) (n : Nat) (l : List Int), szT t ≤ 1000000000 → szT t < n → tree_Tree_check n t many (mp l) = some ((chk many t l).1, mp (chk many t l).2) := by
  intro t
  induction t using tree_ind with
  | h K N ks ih =>
    intro n l hb hn
    obtain ⟨m, rfl, hlen, hk⟩ := szT_kids hn
    have hl : ks.length ≤ 1000000000 := by have := szL_len ks; simp only [szT] at hb; omega
    have hkb : ∀ k ∈ ks, szT k ≤ 1000000000 := fun k hk => by have := szL_mem hk; simp only [szT] at hb; omega
    have hloop := check_loop (.mk K N ks) many (tree_Tree_check m) hl (fun k hk' l => ih k hk' m l (hkb k hk') (hk k hk')) m 0 l (by omega) (by simpa [TreeTree_Kids_mk] using hlen)
    rw [tree_Tree_check, chk]
    simp only [TreeTree_Kind_mk, TreeTree_N_mk, TreeTree_Kids_mk, mp_get, c37_eq m ks _ hl hlen, Option.bind_some, tree_Tree_check_J1] at hloop ⊢
    rw [show ((0 : Nat) : Int) = 0 from rfl, List.drop_zero] at hloop
    rw [hloop]
    by_cases h0 : K < 0
    · simp [h0]
    by_cases h2 : K > 2
    · simp [h0, h2]
    by_cases hK : K = 0
    · subst hK
      by_cases hz : 0 < ks.length
      · simp [hz]
      by_cases hN : N < 0
      · simp [hz, hN]
      by_cases hM : N ≥ many
      · simp [hz, hN, hM]
      by_cases hin : N ∈ l
      · simp [hz, hN, hM, hin]
      · simp [hz, hN, hM, hin, mp_put l N hin]
    by_cases hN : N = 0
    · by_cases hz : ks.length < 2
      · have : (ks.length : Int) < 2 := by omega
        simp [h0, h2, hK, hN, hz, this]
      · have : ¬ (ks.length : Int) < 2 := by omega
        generalize ks.any (fun x => x.Kind == K) = b
        cases b <;> simp [h0, h2, hK, hN, hz, this]
    · simp [h0, h2, hK, hN]
end Go.G

namespace Go.G
open Go.Av

mutual
def ofT : TreeTree → Ref14Tree
  | .mk K N ks => .mk K N (ofL ks)
def ofL : List TreeTree → List Ref14Tree
  | [] => []
  | k :: ks => ofT k :: ofL ks
end
theorem ofL_map : ∀ ks : List TreeTree, ofL ks = ks.map ofT
  | [] => rfl
  | k :: ks => by rw [ofL, ofL_map ks]; rfl
theorem ofT_Kind (t : TreeTree) : (ofT t).Kind = t.Kind := by cases t; rfl
theorem ofT_N (t : TreeTree) : (ofT t).N = t.N := by cases t; rfl
theorem ofT_Kids (t : TreeTree) : (ofT t).Kids = t.Kids.map ofT := by cases t; exact ofL_map _
theorem ofT_mk (K N : Int) (ks : List TreeTree) : ofT (.mk K N ks) = .mk K N (ks.map ofT) := by rw [ofT, ofL_map]

theorem atI_map {α β : Type} (f : α → β) (l : List α) (i : Nat) {x : α} (h : l[i]? = some x) : atI (l.map f) (i : Int) = some (f x) := by rw [atI_nat]; simp [h]

theorem of_loop (t : TreeTree) (slf : TreeTree → Option Ref14Tree) (hs : t.Kids.length ≤ 1000000000) (hf : ∀ k ∈ t.Kids, slf k = some (ofT k)) : ∀ (k i : Nat) (acc : List Ref14Tree), acc.length = i → i ≤ t.Kids.length → t.Kids.length - i < k →
    law14_Of_L1 t slf k (i : Int) acc = some (.mk t.Kind t.N (acc ++ (t.Kids.drop i).map ofT))
  | 0, i, acc, ha, h, hk => absurd hk (Nat.not_lt_zero _)
  | k + 1, i, acc, ha, h, hk => by
    rw [law14_Of_L1]
    by_cases hi : i < t.Kids.length
    · obtain ⟨x, hx⟩ := get_ex hi
      rw [if_pos (by simpa using hi), atI_nat, hx, Option.bind_some, hf x (List.mem_of_getElem? hx), Option.bind_some, if_pos (by simp; omega), Option.bind_some, wrapN (by omega), drop_cons hx]
      rw [of_loop t slf hs hf k (i + 1) (acc ++ [ofT x]) (by simp [ha]) (by omega) (by omega)]
      simp
    · rw [if_neg (by simpa using hi), List.drop_eq_nil_of_le (by omega)]; simp

theorem law14_Of_eq : ∀ (t : TreeTree) (n : Nat), szT t ≤ 1000000000 → szT t < n → law14_Of n t = some (ofT t) := by
  intro t
  induction t using tree_ind with
  | h K N ks ih =>
    intro n hb hn
    obtain ⟨m, rfl, hlen, hk⟩ := szT_kids hn
    have hl : ks.length ≤ 1000000000 := by have := szL_len ks; simp only [szT] at hb; omega
    have hkb : ∀ k ∈ ks, szT k ≤ 1000000000 := fun k hk => by have := szL_mem hk; simp only [szT] at hb; omega
    rw [law14_Of]
    have := of_loop (.mk K N ks) (law14_Of m) (by simpa [TreeTree_Kids_mk] using hl) (fun k hk' => ih k hk' m (hkb k hk') (hk k hk')) m 0 [] rfl (by omega) (by simpa [TreeTree_Kids_mk] using hlen)
    rw [show (0 : Int) = ((0 : Nat) : Int) from rfl, this, ofT_mk]
    simp [TreeTree_Kids_mk, TreeTree_Kind_mk, TreeTree_N_mk]

/-! ### the reference's check -/
theorem rleaf_loop (r : Ref14Tree) (l : List Int) (hs : l.length < 1000000000) : ∀ (k i : Nat), i ≤ l.length → l.length - i < k →
    ref14_check_v2_L1 r l k (i : Int) = some (if r.N ∈ l.drop i then (9, l) else (0, l ++ [r.N]))
  | 0, i, h, hk => absurd hk (Nat.not_lt_zero _)
  | k + 1, i, h, hk => by
    rw [ref14_check_v2_L1]
    by_cases hi : i < l.length
    · obtain ⟨x, hx⟩ := get_ex hi
      rw [if_pos (by simpa using hi), atI_nat, hx, Option.bind_some, drop_cons hx]
      by_cases he : x = r.N
      · simp [he]
      · have : ¬ r.N = x := fun e => he e.symm
        rw [wrapN (by omega), rleaf_loop r l hs k (i + 1) (by omega) (by omega)]
        simp [he, this]
    · rw [if_neg (by simpa using hi), List.drop_eq_nil_of_le (by omega), if_pos (by simp; omega)]
      simp
theorem rleaf_loop1 (r : Ref14Tree) (l : List Int) (hs : l.length < 1000000000) : ∀ (k i : Nat), i ≤ l.length → l.length - i < k →
    ref14_check_o1_v1_L1 r l k (i : Int) = some (if r.N ∈ l.drop i then (9, l) else (0, l ++ [r.N]))
  | 0, i, h, hk => absurd hk (Nat.not_lt_zero _)
  | k + 1, i, h, hk => by
    rw [ref14_check_o1_v1_L1]
    by_cases hi : i < l.length
    · obtain ⟨x, hx⟩ := get_ex hi
      rw [if_pos (by simpa using hi), atI_nat, hx, Option.bind_some, drop_cons hx]
      by_cases he : x = r.N
      · simp [he]
      · have : ¬ r.N = x := fun e => he e.symm
        rw [wrapN (by omega), rleaf_loop1 r l hs k (i + 1) (by omega) (by omega)]
        simp [he, this]
    · rw [if_neg (by simpa using hi), List.drop_eq_nil_of_le (by omega), if_pos (by simp; omega)]
      simp

/-- How many leaves a check adds. -/
theorem chk_len (many : Int) : ∀ (t : TreeTree) (l : List Int), (chk many t l).2.length ≤ l.length + szT t := by
  intro t
  induction t using tree_ind with
  | h K N ks ih =>
    have hs : ∀ (js : List TreeTree), (∀ k ∈ js, ∀ l, (chk many k l).2.length ≤ l.length + szT k) → ∀ l, (chks many js l).2.length ≤ l.length + szL js := by
      intro js
      induction js with
      | nil => intro _ l; simp [chks, szL]
      | cons k js ihj =>
        intro h l
        have h1 := h k (by simp) l
        rw [chks, szL]
        split
        · omega
        · have h2 := ihj (fun k hk => h k (by simp [hk])) (chk many k l).2
          omega
    intro l
    have := hs ks ih l
    rw [chk, szT]
    repeat' split
    all_goals try simp only [List.length_append, List.length_cons, List.length_nil]
    all_goals omega

theorem v2_loop (t : TreeTree) (many : Int) (slf : Ref14Tree → Int → List Int → Option (Int × List Int)) (hs : t.Kids.length ≤ 1000000000) (M : Nat)
    (hf : ∀ k ∈ t.Kids, ∀ l, l.length + szT k ≤ M → slf (ofT k) many l = some (chk many k l)) : ∀ (k i : Nat) (l : List Int), i ≤ t.Kids.length → t.Kids.length - i < k → l.length + szL (t.Kids.drop i) ≤ M →
    ref14_check_v2_L3 (ofT t) many slf k (i : Int) l = some (chks many (t.Kids.drop i) l)
  | 0, i, l, h, hk, hM => absurd hk (Nat.not_lt_zero _)
  | k + 1, i, l, h, hk, hM => by
    rw [ref14_check_v2_L3, ofT_Kids]
    by_cases hi : i < t.Kids.length
    · obtain ⟨x, hx⟩ := get_ex hi
      rw [drop_cons hx, szL] at hM
      rw [if_pos (by simpa using hi), atI_map ofT _ _ hx, Option.bind_some, hf x (List.mem_of_getElem? hx) l (by omega), Option.bind_some, drop_cons hx, chks]
      have hl := chk_len many x l
      by_cases he : (chk many x l).1 = 0
      · have := v2_loop t many slf hs M hf k (i + 1) (chk many x l).2 (by omega) (by omega) (by omega)
        simp only [he, bne_self_eq_false, Bool.false_eq_true, if_false, ne_eq, not_true]
        rw [wrapN (by omega), this]
      · simp [he]
    · rw [if_neg (by simpa using hi), List.drop_eq_nil_of_le (by omega), chks]

theorem v2_kinds (n : Nat) (t : TreeTree) (many : Int) (l : List Int) (slf : Ref14Tree → Int → List Int → Option (Int × List Int)) (hs : t.Kids.length ≤ 1000000000) : ∀ (k i : Nat), i ≤ t.Kids.length → t.Kids.length - i < k →
    ref14_check_v2_L4 n (ofT t) many l slf k (i : Int) = if ((t.Kids.drop i).any fun x => x.Kind == t.Kind) = true then some (14, l) else ref14_check_v2_J2 n (ofT t) many l slf
  | 0, i, h, hk => absurd hk (Nat.not_lt_zero _)
  | k + 1, i, h, hk => by
    rw [ref14_check_v2_L4, ofT_Kids, ofT_Kind]
    by_cases hi : i < t.Kids.length
    · obtain ⟨x, hx⟩ := get_ex hi
      rw [if_pos (by simpa using hi), atI_map ofT _ _ hx, Option.bind_some, drop_cons hx, List.any_cons, ofT_Kind]
      cases hc : (x.Kind == t.Kind) with
      | true => simp
      | false =>
        rw [wrapN (by omega), v2_kinds n t many l slf hs k (i + 1) (by omega) (by omega)]
        simp
    · rw [if_neg (by simpa using hi), List.drop_eq_nil_of_le (by omega)]; simp

theorem v2_eq (many : Int) : ∀ (t : TreeTree) (n : Nat) (l : List Int), l.length + szT t ≤ 1000000000 → l.length + szT t < n → ref14_check_v2 n (ofT t) many l = some (chk many t l) := by
  intro t
  induction t using tree_ind with
  | h K N ks ih =>
    intro n l hb hn
    obtain ⟨m, rfl, hlen, hk⟩ := szT_kids (show szT (.mk K N ks) < n by omega)
    have hsz : szT (.mk K N ks) = 1 + szL ks := by rw [szT]
    have hl : ks.length ≤ 1000000000 := by have := szL_len ks; omega
    have hloop := v2_loop (.mk K N ks) many (ref14_check_v2 m) (by simpa [TreeTree_Kids_mk] using hl) (l.length + szL ks) (fun k hk' l' hl' => ih k hk' m l' (by omega) (by omega)) m 0 l (by omega) (by simpa [TreeTree_Kids_mk] using hlen) (by simp [TreeTree_Kids_mk])
    have hkinds := v2_kinds m (.mk K N ks) many l (ref14_check_v2 m) (by simpa [TreeTree_Kids_mk] using hl) m 0 (by omega) (by simpa [TreeTree_Kids_mk] using hlen)
    have hleaf := rleaf_loop (ofT (.mk K N ks)) l (by omega) m 0 (by omega) (by omega)
    simp only [TreeTree_Kind_mk, TreeTree_Kids_mk, ofT_N, TreeTree_N_mk, List.drop_zero, show ((0 : Nat) : Int) = 0 from rfl, ref14_check_v2_J2] at hloop hkinds hleaf
    rw [ref14_check_v2, chk]
    simp only [ofT_Kind, ofT_N, ofT_Kids, TreeTree_Kind_mk, TreeTree_N_mk, TreeTree_Kids_mk, List.length_map]
    rw [hkinds, hloop, hleaf]
    by_cases h0 : K < 0
    · simp [h0]
    by_cases h2 : K > 2
    · simp [h0, h2]
    by_cases hK : K = 0
    · subst hK
      by_cases hz : 0 < ks.length
      · simp [hz]
      by_cases hN : N < 0
      · simp [hz, hN]
      by_cases hM : N ≥ many
      · simp [hz, hN, hM]
      by_cases hin : N ∈ l <;> simp [hz, hN, hM, hin]
    by_cases hN : N = 0
    · by_cases hz : ks.length < 2
      · have : (ks.length : Int) < 2 := by omega
        simp [h0, h2, hK, hN, hz, this]
      · have : ¬ (ks.length : Int) < 2 := by omega
        generalize ks.any (fun x => x.Kind == K) = b
        cases b <;> simp [h0, h2, hK, hN, hz, this]
    · simp [h0, h2, hK, hN]
end Go.G

namespace Go.G
open Go.Av

theorem o1_loop (n : Nat) (t : TreeTree) (many : Int) (hs : t.Kids.length ≤ 1000000000) (M : Nat)
    (hf : ∀ k ∈ t.Kids, ∀ l, l.length + szT k ≤ M → ref14_check_v2 n (ofT k) many l = some (chk many k l)) : ∀ (k i : Nat) (l : List Int), i ≤ t.Kids.length → t.Kids.length - i < k → l.length + szL (t.Kids.drop i) ≤ M →
    ref14_check_o1_v1_L3 n (ofT t) many k (i : Int) l = some (chks many (t.Kids.drop i) l)
  | 0, i, l, h, hk, hM => absurd hk (Nat.not_lt_zero _)
  | k + 1, i, l, h, hk, hM => by
    rw [ref14_check_o1_v1_L3, ofT_Kids]
    by_cases hi : i < t.Kids.length
    · obtain ⟨x, hx⟩ := get_ex hi
      rw [drop_cons hx, szL] at hM
      rw [if_pos (by simpa using hi), atI_map ofT _ _ hx, Option.bind_some, hf x (List.mem_of_getElem? hx) l (by omega), Option.bind_some, drop_cons hx, chks]
      have hl := chk_len many x l
      by_cases he : (chk many x l).1 = 0
      · have := o1_loop n t many hs M hf k (i + 1) (chk many x l).2 (by omega) (by omega) (by omega)
        simp only [he, bne_self_eq_false, Bool.false_eq_true, if_false, ne_eq, not_true]
        rw [wrapN (by omega), this]
      · simp [he]
    · rw [if_neg (by simpa using hi), List.drop_eq_nil_of_le (by omega), chks]

theorem o1_kinds (n : Nat) (t : TreeTree) (many : Int) (l : List Int) (hs : t.Kids.length ≤ 1000000000) : ∀ (k i : Nat), i ≤ t.Kids.length → t.Kids.length - i < k →
    ref14_check_o1_v1_L4 n (ofT t) many l k (i : Int) = if ((t.Kids.drop i).any fun x => x.Kind == t.Kind) = true then some (14, l) else ref14_check_o1_v1_J2 n (ofT t) many l
  | 0, i, h, hk => absurd hk (Nat.not_lt_zero _)
  | k + 1, i, h, hk => by
    rw [ref14_check_o1_v1_L4, ofT_Kids, ofT_Kind]
    by_cases hi : i < t.Kids.length
    · obtain ⟨x, hx⟩ := get_ex hi
      rw [if_pos (by simpa using hi), atI_map ofT _ _ hx, Option.bind_some, drop_cons hx, List.any_cons, ofT_Kind]
      cases hc : (x.Kind == t.Kind) with
      | true => simp
      | false =>
        rw [wrapN (by omega), o1_kinds n t many l hs k (i + 1) (by omega) (by omega)]
        simp
    · rw [if_neg (by simpa using hi), List.drop_eq_nil_of_le (by omega)]; simp

theorem o1_eq (many : Int) (t : TreeTree) (n : Nat) (l : List Int) (hb : l.length + szT t ≤ 1000000000) (hn : l.length + szT t < n) : ref14_check_o1_v1 n (ofT t) many l = some (chk many t l) := by
  obtain ⟨K, N, ks⟩ := t
  have hsz : szT (.mk K N ks) = 1 + szL ks := by rw [szT]
  have hlen : ks.length < n := by have := szL_len ks; omega
  have hl : ks.length ≤ 1000000000 := by have := szL_len ks; omega
  have hloop := o1_loop n (.mk K N ks) many (by simpa [TreeTree_Kids_mk] using hl) (l.length + szL ks) (fun k hk' l' hl' => v2_eq many k n l' (by omega) (by omega)) n 0 l (by omega) (by simpa [TreeTree_Kids_mk] using hlen) (by simp [TreeTree_Kids_mk])
  have hkinds := o1_kinds n (.mk K N ks) many l (by simpa [TreeTree_Kids_mk] using hl) n 0 (by omega) (by simpa [TreeTree_Kids_mk] using hlen)
  have hleaf := rleaf_loop1 (ofT (.mk K N ks)) l (by omega) n 0 (by omega) (by omega)
  simp only [TreeTree_Kind_mk, TreeTree_Kids_mk, ofT_N, TreeTree_N_mk, List.drop_zero, show ((0 : Nat) : Int) = 0 from rfl, ref14_check_o1_v1_J2] at hloop hkinds hleaf
  rw [ref14_check_o1_v1, chk]
  simp only [ofT_Kind, ofT_N, ofT_Kids, TreeTree_Kind_mk, TreeTree_N_mk, TreeTree_Kids_mk, List.length_map]
  rw [hkinds, hloop, hleaf]
  by_cases h0 : K < 0
  · simp [h0]
  by_cases h2 : K > 2
  · simp [h0, h2]
  by_cases hK : K = 0
  · subst hK
    by_cases hz : 0 < ks.length
    · simp [hz]
    by_cases hN : N < 0
    · simp [hz, hN]
    by_cases hM : N ≥ many
    · simp [hz, hN, hM]
    by_cases hin : N ∈ l <;> simp [hz, hN, hM, hin]
  by_cases hN : N = 0
  · by_cases hz : ks.length < 2
    · have : (ks.length : Int) < 2 := by omega
      simp [h0, h2, hK, hN, hz, this]
    · have : ¬ (ks.length : Int) < 2 := by omega
      generalize ks.any (fun x => x.Kind == K) = b
      cases b <;> simp [h0, h2, hK, hN, hz, this]
  · simp [h0, h2, hK, hN]

theorem v1_loop (n : Nat) (t : TreeTree) (many : Int) (hs : t.Kids.length ≤ 1000000000) (M : Nat)
    (hf : ∀ k ∈ t.Kids, ∀ l, l.length + szT k ≤ M → ref14_check_o1_v1 n (ofT k) many l = some (chk many k l)) : ∀ (k i : Nat) (l : List Int), i ≤ t.Kids.length → t.Kids.length - i < k → l.length + szL (t.Kids.drop i) ≤ M →
    ref14_check_v1_L3 n (ofT t) many k (i : Int) l = some (chks many (t.Kids.drop i) l)
  | 0, i, l, h, hk, hM => absurd hk (Nat.not_lt_zero _)
  | k + 1, i, l, h, hk, hM => by
    rw [ref14_check_v1_L3, ofT_Kids]
    by_cases hi : i < t.Kids.length
    · obtain ⟨x, hx⟩ := get_ex hi
      rw [drop_cons hx, szL] at hM
      rw [if_pos (by simpa using hi), atI_map ofT _ _ hx, Option.bind_some, hf x (List.mem_of_getElem? hx) l (by omega), Option.bind_some, drop_cons hx, chks]
      have hl := chk_len many x l
      by_cases he : (chk many x l).1 = 0
      · have := v1_loop n t many hs M hf k (i + 1) (chk many x l).2 (by omega) (by omega) (by omega)
        simp only [he, bne_self_eq_false, Bool.false_eq_true, if_false, ne_eq, not_true]
        rw [wrapN (by omega), this]
      · simp [he]
    · rw [if_neg (by simpa using hi), List.drop_eq_nil_of_le (by omega), chks]

theorem v1_kinds (n : Nat) (t : TreeTree) (many : Int) (hs : t.Kids.length ≤ 1000000000) : ∀ (k i : Nat), i ≤ t.Kids.length → t.Kids.length - i < k →
    ref14_check_v1_L4 n (ofT t) many k (i : Int) = if ((t.Kids.drop i).any fun x => x.Kind == t.Kind) = true then some (14, []) else ref14_check_v1_J2 n (ofT t) many
  | 0, i, h, hk => absurd hk (Nat.not_lt_zero _)
  | k + 1, i, h, hk => by
    rw [ref14_check_v1_L4, ofT_Kids, ofT_Kind]
    by_cases hi : i < t.Kids.length
    · obtain ⟨x, hx⟩ := get_ex hi
      rw [if_pos (by simpa using hi), atI_map ofT _ _ hx, Option.bind_some, drop_cons hx, List.any_cons, ofT_Kind]
      cases hc : (x.Kind == t.Kind) with
      | true => simp
      | false =>
        rw [wrapN (by omega), v1_kinds n t many hs k (i + 1) (by omega) (by omega)]
        simp
    · rw [if_neg (by simpa using hi), List.drop_eq_nil_of_le (by omega)]; simp

theorem v1_eq (many : Int) (t : TreeTree) (n : Nat) (hb : szT t ≤ 1000000000) (hn : szT t < n) : ref14_check_v1 n (ofT t) many = some (chk many t []) := by
  obtain ⟨K, N, ks⟩ := t
  obtain ⟨m, rfl, hlen, hk⟩ := szT_kids hn
  have hsz : szT (.mk K N ks) = 1 + szL ks := by rw [szT]
  have hl : ks.length ≤ 1000000000 := by have := szL_len ks; omega
  have hloop := v1_loop m (.mk K N ks) many (by simpa [TreeTree_Kids_mk] using hl) (szL ks) (fun k hk' l' hl' => o1_eq many k m l' (by omega) (by omega)) m 0 [] (by omega) (by simpa [TreeTree_Kids_mk] using hlen) (by simp [TreeTree_Kids_mk])
  have hkinds := v1_kinds m (.mk K N ks) many (by simpa [TreeTree_Kids_mk] using hl) m 0 (by omega) (by simpa [TreeTree_Kids_mk] using hlen)
  have hleaf : ref14_check_v1_L1 (ofT (.mk K N ks)) m = some (0, [N]) := by
    obtain ⟨j, rfl⟩ : ∃ j, m = j + 1 := ⟨m - 1, by omega⟩
    rw [ref14_check_v1_L1, ofT_N, TreeTree_N_mk]; simp
  simp only [TreeTree_Kind_mk, TreeTree_Kids_mk, List.drop_zero, show ((0 : Nat) : Int) = 0 from rfl, ref14_check_v1_J2] at hloop hkinds
  rw [ref14_check_v1, chk]
  simp only [ofT_Kind, ofT_N, ofT_Kids, TreeTree_Kind_mk, TreeTree_N_mk, TreeTree_Kids_mk, List.length_map]
  rw [hkinds, hloop, hleaf]
  by_cases h0 : K < 0
  · simp [h0]
  by_cases h2 : K > 2
  · simp [h0, h2]
  by_cases hK : K = 0
  · subst hK
    by_cases hz : 0 < ks.length
    · simp [hz]
    by_cases hN : N < 0
    · simp [hz, hN]
    by_cases hM : N ≥ many <;> simp [hz, hN, hM]
  by_cases hN : N = 0
  · by_cases hz : ks.length < 2
    · have : (ks.length : Int) < 2 := by omega
      simp [h0, h2, hK, hN, hz, this]
    · have : ¬ (ks.length : Int) < 2 := by omega
      generalize ks.any (fun x => x.Kind == K) = b
      cases b <;> simp [h0, h2, hK, hN, hz, this]
  · simp [h0, h2, hK, hN]

/-- A negative number of contacts is none. -/
theorem chk_neg {many : Int} (h : many < 0) : ∀ (t : TreeTree) (l : List Int), chk many t l = chk 0 t l := by
  intro t
  induction t using tree_ind with
  | h K N ks ih =>
    have hs : ∀ (js : List TreeTree), (∀ k ∈ js, ∀ l, chk many k l = chk 0 k l) → ∀ l, chks many js l = chks 0 js l := by
      intro js
      induction js with
      | nil => intro _ l; rfl
      | cons k js ihj =>
        intro h l
        rw [chks, chks, h k (by simp) l, ihj (fun k hk => h k (by simp [hk]))]
    intro l
    rw [chk, chk, hs ks ih l]
    have : (N < 0 ∨ N ≥ many) ↔ (N < 0 ∨ N ≥ 0) := by omega
    simp only [this]

/-- A tree's check. -/
def checkS (t : TreeTree) (many : Int) : Int :=
  if (chk many t []).1 ≠ 0 then (chk many t []).1 else if ((chk many t []).2.length : Int) ≠ imax 0 many then 4 else 0

theorem tree_Check_eq (t : TreeTree) (many : Int) (n : Nat) (hb : szT t ≤ 1000000000) (hn : szT t < n) : tree_Check n t many = some (checkS t many) := by
  rw [tree_Check]
  have := tree_Tree_check_eq many t n [] hb hn
  rw [show mp [] = [] from rfl] at this
  rw [this, Option.bind_some, checkS]
  simp only [mp_len]
  by_cases he : (chk many t []).1 = 0
  · by_cases hl : ((chk many t []).2.length : Int) = imax 0 many <;> simp [he, hl]
  · simp [he]

theorem ref14_Check_eq (t : TreeTree) (many : Int) (n : Nat) (hb : szT t ≤ 1000000000) (hn : szT t < n) : ref14_Check n (ofT t) many = some (checkS t many) := by
  have core : ∀ p : Int, 0 ≤ p → ref14_Check_J1 n (ofT t) p = some (checkS t p) := fun p hp => by
    rw [ref14_Check_J1, v1_eq p t n hb hn, Option.bind_some, checkS]
    have : imax 0 p = p := by unfold imax; split <;> omega
    rw [this]
    by_cases he : (chk p t []).1 = 0
    · by_cases hl : ((chk p t []).2.length : Int) = p <;> simp [he, hl]
    · simp [he]
  rw [ref14_Check]
  by_cases h : many < 0
  · have : checkS t many = checkS t 0 := by
      rw [checkS, checkS, chk_neg h]
      have : imax 0 many = imax 0 0 := by unfold imax; rw [if_neg (by omega), if_neg (by omega)]
      rw [this]
    simp only [h, decide_true, if_true]
    rw [core 0 (by omega), this]
  · simp only [h, decide_false, Bool.false_eq_true, if_false]
    exact core many (by omega)
end Go.G

namespace Go.G
open Go.Av

mutual
/-- A tree of good make over so many contacts. -/
def Ok (len : Int) : TreeTree → Prop
  | .mk K N ks => (K = 0 ∧ ks = [] ∧ 0 ≤ N ∧ N < len) ∨ ((K = 1 ∨ K = 2) ∧ N = 0 ∧ 2 ≤ ks.length ∧ (∀ k ∈ ks, k.Kind ≠ K) ∧ OkL len ks)
def OkL (len : Int) : List TreeTree → Prop
  | [] => True
  | k :: ks => Ok len k ∧ OkL len ks
end
theorem OkL_iff {len : Int} : ∀ {ks : List TreeTree}, OkL len ks ↔ ∀ k ∈ ks, Ok len k
  | [] => by simp [OkL]
  | k :: ks => by rw [OkL, OkL_iff (ks := ks)]; simp

mutual
/-- The leaves, in order. -/
def lv : TreeTree → List Int
  | .mk K N ks => if K = 0 then [N] else if K = 1 ∨ K = 2 then lvs ks else []
def lvs : List TreeTree → List Int
  | [] => []
  | k :: ks => lv k ++ lvs ks
end

theorem chk_iff (many : Int) : ∀ (t : TreeTree) (l : List Int), ((chk many t l).1 = 0 ↔ Ok many t ∧ (lv t).Nodup ∧ ∀ x ∈ lv t, x ∉ l) ∧ ((chk many t l).1 = 0 → (chk many t l).2 = l ++ lv t) := by
  intro t
  induction t using tree_ind with
  | h K N ks ih =>
    have hs : ∀ (js : List TreeTree), (∀ k ∈ js, ∀ l, ((chk many k l).1 = 0 ↔ Ok many k ∧ (lv k).Nodup ∧ ∀ x ∈ lv k, x ∉ l) ∧ ((chk many k l).1 = 0 → (chk many k l).2 = l ++ lv k)) →
        ∀ l, ((chks many js l).1 = 0 ↔ OkL many js ∧ (lvs js).Nodup ∧ ∀ x ∈ lvs js, x ∉ l) ∧ ((chks many js l).1 = 0 → (chks many js l).2 = l ++ lvs js) := by
      intro js
      induction js with
      | nil => intro _ l; simp [chks, OkL, lvs]
      | cons k js ihj =>
        intro h l
        obtain ⟨h1, h2⟩ := h k (by simp) l
        rw [chks]
        by_cases he : (chk many k l).1 = 0
        · have e2 := h2 he
          obtain ⟨g1, g2, g3⟩ := h1.1 he
          obtain ⟨i1, i2⟩ := ihj (fun k hk => h k (by simp [hk])) (l ++ lv k)
          rw [if_neg (by simpa using he), e2]
          refine ⟨?_, fun hz => by rw [i2 hz, lvs, List.append_assoc]⟩
          rw [i1, OkL, lvs, List.nodup_append]
          constructor
          · rintro ⟨a1, a2, a3⟩
            refine ⟨⟨g1, a1⟩, ⟨g2, a2, fun a ha b hb e => ?_⟩, fun x hx => ?_⟩
            · subst e; exact a3 a hb (by simp [ha])
            · rcases List.mem_append.1 hx with hx | hx
              · exact g3 x hx
              · intro hl; exact a3 x hx (by simp [hl])
          · rintro ⟨⟨_, a1⟩, ⟨_, a2, a3⟩, a4⟩
            refine ⟨a1, a2, fun x hx hm => ?_⟩
            rcases List.mem_append.1 hm with hm | hm
            · exact a4 x (by simp [hx]) hm
            · exact a3 x hm x hx rfl
        · rw [if_pos he]
          refine ⟨⟨fun hz => absurd hz he, fun ⟨a1, a2, a3⟩ => ?_⟩, fun hz => absurd hz he⟩
          exfalso
          rw [OkL] at a1
          rw [lvs, List.nodup_append] at a2
          rw [lvs] at a3
          exact he (h1.2 ⟨a1.1, a2.1, fun x hx => a3 x (by simp [hx])⟩)
    intro l
    obtain ⟨s1, s2⟩ := hs ks ih l
    rw [chk, Ok, lv]
    by_cases h0 : K < 0 ∨ K > 2
    · rw [if_pos h0]
      refine ⟨⟨fun hz => by simp at hz, fun ⟨h, _⟩ => ?_⟩, fun hz => by simp at hz⟩
      rcases h with ⟨h, _⟩ | ⟨h, _⟩ <;> omega
    rw [if_neg h0]
    by_cases hK : K = 0
    · subst hK
      simp only [if_true]
      by_cases hz : 0 < ks.length
      · rw [if_pos hz]
        refine ⟨⟨fun hz => by simp at hz, fun ⟨h, _⟩ => ?_⟩, fun hz => by simp at hz⟩
        rcases h with ⟨_, h, _⟩ | ⟨h, _⟩
        · subst h; simp at hz
        · omega
      rw [if_neg hz]
      have hnil : ks = [] := List.length_eq_zero_iff.1 (by omega)
      by_cases hN : N < 0 ∨ N ≥ many
      · rw [if_pos hN]
        refine ⟨⟨fun hz => by simp at hz, fun ⟨h, _⟩ => ?_⟩, fun hz => by simp at hz⟩
        rcases h with ⟨_, _, h⟩ | ⟨h, _⟩ <;> omega
      rw [if_neg hN]
      by_cases hin : N ∈ l
      · rw [if_pos hin]
        refine ⟨⟨fun hz => by simp at hz, fun ⟨_, _, h⟩ => ?_⟩, fun hz => by simp at hz⟩
        exact absurd hin (h N (by simp))
      · rw [if_neg hin]
        refine ⟨⟨fun _ => ⟨.inl ⟨trivial, hnil, by omega, by omega⟩, by simp, by simpa using hin⟩, fun _ => rfl⟩, fun _ => rfl⟩
    · have h12 : K = 1 ∨ K = 2 := by omega
      rw [if_neg hK, if_neg hK, if_pos h12]
      by_cases hN : N = 0
      · rw [if_neg (by simpa using hN)]
        by_cases hl : ks.length < 2
        · rw [if_pos hl]
          refine ⟨⟨fun hz => by simp at hz, fun ⟨h, _⟩ => ?_⟩, fun hz => by simp at hz⟩
          rcases h with ⟨h, _⟩ | ⟨_, _, h, _⟩ <;> omega
        rw [if_neg hl]
        by_cases ha : ks.any (fun k => k.Kind == K) = true
        · rw [if_pos ha]
          refine ⟨⟨fun hz => by simp at hz, fun ⟨h, _⟩ => ?_⟩, fun hz => by simp at hz⟩
          obtain ⟨k, hk, he⟩ := List.any_eq_true.1 ha
          rcases h with ⟨h, _⟩ | ⟨_, _, _, h, _⟩
          · exact absurd h hK
          · exact absurd (by simpa using he) (h k hk)
        · rw [if_neg ha, s1]
          refine ⟨⟨fun ⟨a1, a2, a3⟩ => ⟨.inr ⟨h12, hN, by omega, fun k hk e => ha (List.any_eq_true.2 ⟨k, hk, by simpa using e⟩), a1⟩, a2, a3⟩, fun ⟨h, a2, a3⟩ => ⟨?_, a2, a3⟩⟩, fun hz => s2 (s1.2 hz)⟩
          rcases h with ⟨h, _⟩ | ⟨_, _, _, _, h⟩
          · exact absurd h hK
          · exact h
      · rw [if_pos (by simpa using hN)]
        refine ⟨⟨fun hz => by simp at hz, fun ⟨h, _⟩ => ?_⟩, fun hz => by simp at hz⟩
        rcases h with ⟨h, _⟩ | ⟨_, h, _⟩
        · exact absurd h hK
        · exact absurd h hN

/-- A tree that passes its check. -/
theorem checkS_iff (t : TreeTree) (len : Nat) : checkS t (len : Int) = 0 ↔ Ok len t ∧ (lv t).Nodup ∧ (lv t).length = len := by
  obtain ⟨h1, h2⟩ := chk_iff (len : Int) t []
  have hm : imax 0 (len : Int) = len := by unfold imax; split <;> omega
  rw [checkS, hm]
  by_cases he : (chk len t []).1 = 0
  · have e2 := h2 he
    obtain ⟨g1, g2, g3⟩ := h1.1 he
    rw [if_neg (by simpa using he), e2]
    simp only [List.nil_append]
    by_cases hl : ((lv t).length : Int) = len
    · rw [if_neg (by simpa using hl)]
      simp only [true_iff]
      exact ⟨g1, g2, by omega⟩
    · rw [if_pos hl]
      refine ⟨fun hz => by simp at hz, fun ⟨_, _, h⟩ => absurd (by omega) hl⟩
  · rw [if_pos he]
    refine ⟨fun hz => absurd hz he, fun ⟨a1, a2, _⟩ => absurd (h1.2 ⟨a1, a2, by simp⟩) he⟩

/-! ### values -/
mutual
def ev (on : List Bool) : TreeTree → Bool
  | .mk K N ks => if K = 1 then evAll on ks else if K = 2 then evAny on ks else (on[N.toNat]?).getD false
def evAll (on : List Bool) : List TreeTree → Bool
  | [] => true
  | k :: ks => ev on k && evAll on ks
def evAny (on : List Bool) : List TreeTree → Bool
  | [] => false
  | k :: ks => ev on k || evAny on ks
end
theorem evAll_eq (on : List Bool) : ∀ ks, evAll on ks = ks.all (ev on)
  | [] => rfl
  | k :: ks => by rw [evAll, evAll_eq on ks]; rfl
theorem evAny_eq (on : List Bool) : ∀ ks, evAny on ks = ks.any (ev on)
  | [] => rfl
  | k :: ks => by rw [evAny, evAny_eq on ks]; rfl

theorem c36_loop (n : Nat) (s : List TreeTree) (on : List Bool) (slf : TreeTree → List Bool → Option Bool) (hs : s.length ≤ 1000000000) (hf : ∀ k ∈ s, slf k on = some (ev on k)) : ∀ (k i : Nat), i ≤ s.length → s.length - i < k →
    ∃ r, slices_IndexFunc_tree_Tree_c36_34_L1 n s on slf k (i : Int) = some r ∧ decide (r ≥ 0) = (s.drop i).any fun x => !ev on x
  | 0, i, h, hk => absurd hk (Nat.not_lt_zero _)
  | k + 1, i, h, hk => by
    rw [slices_IndexFunc_tree_Tree_c36_34_L1]
    by_cases hi : i < s.length
    · obtain ⟨x, hx⟩ := get_ex hi
      rw [if_pos (by simpa using hi), atI_nat, hx, Option.bind_some]
      simp only [tree_Tree_eval_2_c34, tree_Tree_eval_1, hf x (List.mem_of_getElem? hx), Option.bind_some]
      rw [drop_cons hx, List.any_cons]
      cases hc : ev on x with
      | false => exact ⟨(i : Int), by simp, by simp⟩
      | true =>
        rw [wrapN (by omega)]
        obtain ⟨r, h1, h2⟩ := c36_loop n s on slf hs hf k (i + 1) (by omega) (by omega)
        exact ⟨r, by simpa using h1, by simpa using h2⟩
    · rw [if_neg (by simpa using hi)]
      refine ⟨-1, rfl, ?_⟩
      rw [List.drop_eq_nil_of_le (by omega)]; rfl
theorem c34_loop (n : Nat) (s : List TreeTree) (on : List Bool) (slf : TreeTree → List Bool → Option Bool) (hs : s.length ≤ 1000000000) (hf : ∀ k ∈ s, slf k on = some (ev on k)) : ∀ (k i : Nat), i ≤ s.length → s.length - i < k →
    ∃ r, slices_IndexFunc_tree_Tree_c34_L1 n s on slf k (i : Int) = some r ∧ decide (r ≥ 0) = (s.drop i).any fun x => ev on x
  | 0, i, h, hk => absurd hk (Nat.not_lt_zero _)
  | k + 1, i, h, hk => by
    rw [slices_IndexFunc_tree_Tree_c34_L1]
    by_cases hi : i < s.length
    · obtain ⟨x, hx⟩ := get_ex hi
      rw [if_pos (by simpa using hi), atI_nat, hx, Option.bind_some]
      simp only [tree_Tree_eval_1, hf x (List.mem_of_getElem? hx), Option.bind_some]
      rw [drop_cons hx, List.any_cons]
      cases hc : ev on x with
      | true => exact ⟨(i : Int), by simp, by simp⟩
      | false =>
        rw [wrapN (by omega)]
        obtain ⟨r, h1, h2⟩ := c34_loop n s on slf hs hf k (i + 1) (by omega) (by omega)
        exact ⟨r, by simpa using h1, by simpa using h2⟩
    · rw [if_neg (by simpa using hi)]
      refine ⟨-1, rfl, ?_⟩
      rw [List.drop_eq_nil_of_le (by omega)]; rfl

theorem tree_Tree_eval_eq (on : List Bool) : ∀ (t : TreeTree) (n : Nat), Ok on.length t → szT t ≤ 1000000000 → szT t < n → tree_Tree_eval n t on = some (ev on t) := by
  intro t
  induction t using tree_ind with
  | h K N ks ih =>
    intro n hok hb hn
    obtain ⟨m, rfl, hlen, hk⟩ := szT_kids hn
    have hl : ks.length ≤ 1000000000 := by have := szL_len ks; simp only [szT] at hb; omega
    have hkb : ∀ k ∈ ks, szT k ≤ 1000000000 := fun k hk => by have := szL_mem hk; simp only [szT] at hb; omega
    rw [tree_Tree_eval, ev]
    simp only [TreeTree_Kind_mk, TreeTree_N_mk, TreeTree_Kids_mk]
    rw [Ok] at hok
    rcases hok with ⟨rfl, rfl, h1, h2⟩ | ⟨h12, _, _, _, hoks⟩
    · have : N.toNat < on.length := by omega
      simp [atI, h1, List.getElem?_eq_getElem this]
    · have hf : ∀ k ∈ ks, tree_Tree_eval m k on = some (ev on k) := fun k hk' => ih k hk' m (OkL_iff.1 hoks k hk') (hkb k hk') (hk k hk')
      rcases h12 with rfl | rfl
      · obtain ⟨r, h1, h2⟩ := c36_loop m ks on (tree_Tree_eval m) hl hf m 0 (by omega) (by omega)
        rw [List.drop_zero] at h2
        simp only [slices_ContainsFunc_tree_Tree_c36_34, slices_IndexFunc_tree_Tree_c36_34]
        rw [show (0 : Int) = ((0 : Nat) : Int) from rfl, h1]
        simp only [Option.bind_some, show ((0 : Nat) : Int) = 0 from rfl, h2, evAll_eq]
        simp [List.all_eq_not_any_not]
      · obtain ⟨r, h1, h2⟩ := c34_loop m ks on (tree_Tree_eval m) hl hf m 0 (by omega) (by omega)
        rw [List.drop_zero] at h2
        simp only [slices_ContainsFunc_tree_Tree_c34, slices_IndexFunc_tree_Tree_c34]
        rw [show (0 : Int) = ((0 : Nat) : Int) from rfl, h1]
        simp only [Option.bind_some, show ((0 : Nat) : Int) = 0 from rfl, h2, evAny_eq]
        simp

theorem ref_eval_loop (t : TreeTree) (on : List Bool) (slf : Ref14Tree → List Bool → Option Bool) (hs : t.Kids.length ≤ 1000000000) (hf : ∀ k ∈ t.Kids, slf (ofT k) on = some (ev on k)) : ∀ (k i p : Nat), p ≤ i → i ≤ t.Kids.length → t.Kids.length - i < k →
    ref14_Eval_L2 (ofT t) on slf k (p : Int) (i : Int) = ref14_Eval_J1 (ofT t) ((p + (t.Kids.drop i).countP (ev on) : Nat) : Int)
  | 0, i, p, hp, h, hk => absurd hk (Nat.not_lt_zero _)
  | k + 1, i, p, hp, h, hk => by
    rw [ref14_Eval_L2, ofT_Kids]
    by_cases hi : i < t.Kids.length
    · obtain ⟨x, hx⟩ := get_ex hi
      rw [if_pos (by simpa using hi), atI_map ofT _ _ hx, Option.bind_some, hf x (List.mem_of_getElem? hx), Option.bind_some, drop_cons hx, List.countP_cons]
      cases hc : ev on x with
      | true =>
        rw [if_pos rfl, wrapN (by omega), wrapN (by omega), ref_eval_loop t on slf hs hf k (i + 1) (p + 1) (by omega) (by omega) (by omega)]
        congr 1; simp; omega
      | false =>
        rw [if_neg (by simp), wrapN (by omega), ref_eval_loop t on slf hs hf k (i + 1) p (by omega) (by omega) (by omega)]
        simp
    · rw [if_neg (by simpa using hi), List.drop_eq_nil_of_le (by omega)]; simp

theorem ref14_Eval_eq (on : List Bool) : ∀ (t : TreeTree) (n : Nat), Ok on.length t → szT t ≤ 1000000000 → szT t < n → ref14_Eval n (ofT t) on = some (ev on t) := by
  intro t
  induction t using tree_ind with
  | h K N ks ih =>
    intro n hok hb hn
    obtain ⟨m, rfl, hlen, hk⟩ := szT_kids hn
    have hl : ks.length ≤ 1000000000 := by have := szL_len ks; simp only [szT] at hb; omega
    have hkb : ∀ k ∈ ks, szT k ≤ 1000000000 := fun k hk => by have := szL_mem hk; simp only [szT] at hb; omega
    rw [ref14_Eval, ev]
    rw [Ok] at hok
    rcases hok with ⟨rfl, rfl, h1, h2⟩ | ⟨h12, _, _, _, hoks⟩
    · have : N.toNat < on.length := by omega
      simp [ofT_Kind, ofT_N, TreeTree_Kind_mk, TreeTree_N_mk, atI, h1, List.getElem?_eq_getElem this]
    · have hf : ∀ k ∈ ks, ref14_Eval m (ofT k) on = some (ev on k) := fun k hk' => ih k hk' m (OkL_iff.1 hoks k hk') (hkb k hk') (hk k hk')
      have hloop := ref_eval_loop (.mk K N ks) on (ref14_Eval m) (by simpa [TreeTree_Kids_mk] using hl) (by simpa [TreeTree_Kids_mk] using hf) m 0 0 (by omega) (by omega) (by simpa [TreeTree_Kids_mk] using hlen)
      simp only [List.drop_zero, Nat.zero_add, TreeTree_Kids_mk, show ((0 : Nat) : Int) = 0 from rfl] at hloop
      have hK : ¬ K = 0 := by omega
      simp only [ofT_Kind, TreeTree_Kind_mk, beq_iff_eq, hK, if_false]
      rw [hloop, ref14_Eval_J1]
      simp only [ofT_Kind, ofT_Kids, TreeTree_Kind_mk, TreeTree_Kids_mk, List.length_map]
      rcases h12 with rfl | rfl
      · simp only [beq_self_eq_true, if_true, evAll_eq]
        congr 1
        rw [Bool.eq_iff_iff]
        simp only [beq_iff_eq, List.all_eq_true]
        have : ((ks.countP (ev on) : Nat) : Int) = (ks.length : Int) ↔ ks.countP (ev on) = ks.length := by omega
        rw [this, List.countP_eq_length]
      · simp only [show ((2 : Int) == 1) = false from rfl, Bool.false_eq_true, if_false, show ¬ (2 : Int) = 1 by omega, if_true, evAny_eq]
        congr 1
        rw [Bool.eq_iff_iff]
        simp only [decide_eq_true_eq, List.any_eq_true]
        have : ((ks.countP (ev on) : Nat) : Int) > 0 ↔ 0 < ks.countP (ev on) := by omega
        rw [this, List.countP_pos_iff]
end Go.G

namespace Go.G
open Go.Av

def getB (l : List Bool) (i : Int) : Bool := (l[i.toNat]?).getD false
mutual
def dp (ed : List Bool) : TreeTree → Nat
  | .mk _ _ ks => dpL ed ks
def dpL (ed : List Bool) : List TreeTree → Nat
  | [] => 0
  | k :: ks => dps ed ks (dp ed k)
def dps (ed : List Bool) : List TreeTree → Nat → Nat
  | [], d => d
  | k :: ks, d => dps ed ks (if k.Kind ≠ 0 ∨ getB ed k.N = true then max d (1 + dp ed k) else d)
end

theorem dps_le (ed : List Bool) : ∀ (ks : List TreeTree), (∀ k ∈ ks, dp ed k < szT k) → ∀ d, dps ed ks d ≤ max d (szL ks)
  | [], _, d => by rw [dps]; omega
  | k :: ks, h, d => by
    have h1 := h k (by simp)
    have h2 := dps_le ed ks (fun k hk => h k (by simp [hk]))
    rw [dps, szL]
    split
    · have := h2 (max d (1 + dp ed k)); omega
    · have := h2 d; omega
theorem dp_lt (ed : List Bool) : ∀ t, dp ed t < szT t := by
  intro t
  induction t using tree_ind with
  | h K N ks ih =>
    rw [dp, szT]
    cases ks with
    | nil => rw [dpL]; omega
    | cons k ks =>
      have h1 := ih k (by simp)
      have h2 := dps_le ed ks (fun k hk => ih k (by simp [hk])) (dp ed k)
      rw [dpL, szL]; omega

theorem imax_nat (a b : Nat) : imax (a : Int) (b : Int) = ((max a b : Nat) : Int) := by unfold imax; split <;> omega
theorem getB_ok {len : Nat} {ed : List Bool} (h : ed.length = len) {k : TreeTree} (hk : Ok len k) (h0 : k.Kind = 0) : atI ed k.N = some (getB ed k.N) ∧ k.Kids = [] := by
  obtain ⟨K, N, ks⟩ := k
  rw [Ok] at hk
  rw [TreeTree_Kind_mk] at h0
  rw [TreeTree_N_mk, TreeTree_Kids_mk]
  rcases hk with ⟨_, h1, h2, h3⟩ | ⟨h, _⟩
  · have : N.toNat < ed.length := by omega
    exact ⟨by simp [atI, h2, getB, List.getElem?_eq_getElem this], h1⟩
  · omega

theorem depth_loop (t : TreeTree) (ed : List Bool) (slf : TreeTree → List Bool → Option Int) (hs : t.Kids.length ≤ 1000000000) (hf : ∀ k ∈ t.Kids, slf k ed = some (dp ed k : Int)) (hok : ∀ k ∈ t.Kids, Ok ed.length k) (hsz : ∀ k ∈ t.Kids, szT k ≤ 1000000000) : ∀ (k i d : Nat), 1 ≤ i → i ≤ t.Kids.length → t.Kids.length - i < k →
    tree_Tree_depth_L1 t ed slf k (i : Int) (d : Int) = some (dps ed (t.Kids.drop i) d : Int)
  | 0, i, d, h1, h, hk => absurd hk (Nat.not_lt_zero _)
  | k + 1, i, d, h1, h, hk => by
    rw [tree_Tree_depth_L1]
    by_cases hi : i < t.Kids.length
    · obtain ⟨x, hx⟩ := get_ex hi
      have hm := List.mem_of_getElem? hx
      have h0 : ((i : Int) == 0) = false := by simp; omega
      have hlt := dp_lt ed x
      have hxs := hsz x hm
      have hw : IntKind.i64.wrap (1 + (dp ed x : Int)) = ((1 + dp ed x : Nat) : Int) := by rw [wrapI (by omega) (by omega)]; omega
      rw [if_pos (by simpa using hi), atI_nat, hx, Option.bind_some, h0, if_neg (by simp), hf x hm, drop_cons hx, dps]
      have ih := depth_loop t ed slf hs hf hok hsz k (i + 1)
      by_cases hK : x.Kind = 0
      · obtain ⟨g1, _⟩ := getB_ok rfl (hok x hm) hK
        simp only [hK, bne_self_eq_false, Bool.false_eq_true, if_false, g1, Option.bind_some, ne_eq, not_true, false_or]
        cases hb : getB ed x.N with
        | true => rw [if_pos rfl, if_pos rfl, hw, imax_nat, wrapN (by omega)]; exact ih _ (by omega) (by omega) (by omega)
        | false => rw [if_neg (by simp), if_neg (by simp), wrapN (by omega)]; exact ih _ (by omega) (by omega) (by omega)
      · have : (x.Kind != 0) = true := by simpa using hK
        rw [if_pos this, Option.bind_some, hw, imax_nat, wrapN (by omega), if_pos (.inl hK)]
        exact ih _ (by omega) (by omega) (by omega)
    · rw [if_neg (by simpa using hi), List.drop_eq_nil_of_le (by omega), dps]

theorem tree_Tree_depth_eq (ed : List Bool) : ∀ (t : TreeTree) (n : Nat), Ok ed.length t → szT t ≤ 1000000000 → szT t < n → tree_Tree_depth n t ed = some (dp ed t : Int) := by
  intro t
  induction t using tree_ind with
  | h K N ks ih =>
    intro n hok hb hn
    obtain ⟨m, rfl, hlen, hk⟩ := szT_kids hn
    have hl : ks.length ≤ 1000000000 := by have := szL_len ks; simp only [szT] at hb; omega
    have hkb : ∀ k ∈ ks, szT k ≤ 1000000000 := fun k hk => by have := szL_mem hk; simp only [szT] at hb; omega
    rw [tree_Tree_depth, dp]
    have hoks : ∀ k ∈ ks, Ok ed.length k := by
      rw [Ok] at hok
      rcases hok with ⟨_, rfl, _⟩ | ⟨_, _, _, _, h⟩
      · simp
      · exact OkL_iff.1 h
    have hf : ∀ k ∈ ks, tree_Tree_depth m k ed = some (dp ed k : Int) := fun k hk' => ih k hk' m (hoks k hk') (hkb k hk') (hk k hk')
    obtain ⟨j, rfl⟩ : ∃ j, m = j + 1 := ⟨m - 1, by omega⟩
    rw [tree_Tree_depth_L1]
    cases ks with
    | nil => simp [TreeTree_Kids_mk, dpL]
    | cons k ks =>
      have hloop := depth_loop (.mk K N (k :: ks)) ed (tree_Tree_depth (j + 1)) (by simpa [TreeTree_Kids_mk] using hl) (by simpa [TreeTree_Kids_mk] using hf) (by simpa [TreeTree_Kids_mk] using hoks) (by simpa [TreeTree_Kids_mk] using hkb) j 1 (dp ed k) (by omega) (by simp [TreeTree_Kids_mk]) (by simp only [TreeTree_Kids_mk]; simp only [List.length_cons] at hlen ⊢; omega)
      rw [TreeTree_Kids_mk, if_pos (by simp), show atI (k :: ks) 0 = some k from rfl, Option.bind_some, if_pos (by simp), hf k (by simp), Option.bind_some]
      have hw : IntKind.i64.wrap ((0 : Int) + 1) = ((1 : Nat) : Int) := wrapN (i := 0) (by omega)
      rw [hw, hloop, TreeTree_Kids_mk, dpL]; rfl

theorem ref_depth_loop (t : TreeTree) (ed : List Bool) (slf : Ref14Tree → List Bool → Option Int) (hs : t.Kids.length ≤ 1000000000) (hf : ∀ k ∈ t.Kids, slf (ofT k) ed = some (dp ed k : Int)) (hok : ∀ k ∈ t.Kids, Ok ed.length k) (hsz : ∀ k ∈ t.Kids, szT k ≤ 1000000000) : ∀ (k i d : Nat), i ≤ t.Kids.length → t.Kids.length - i < k →
    ref14_StackDepth_L1 (ofT t) ed slf k (i : Int) (d : Int) = some (dps ed (t.Kids.drop i) d : Int)
  | 0, i, d, h, hk => absurd hk (Nat.not_lt_zero _)
  | k + 1, i, d, h, hk => by
    rw [ref14_StackDepth_L1, ofT_Kids]
    by_cases hi : i < t.Kids.length
    · obtain ⟨x, hx⟩ := get_ex hi
      have hm := List.mem_of_getElem? hx
      have hlt := dp_lt ed x
      have hxs := hsz x hm
      have hw : IntKind.i64.wrap (1 + (dp ed x : Int)) = ((1 + dp ed x : Nat) : Int) := by rw [wrapI (by omega) (by omega)]; omega
      have ih := ref_depth_loop t ed slf hs hf hok hsz k (i + 1)
      have hJ : ref14_StackDepth_J2 ed (i : Int) (d : Int) (ref14_StackDepth_L1 (ofT t) ed slf k) (ofT x) slf = some (dps ed (t.Kids.drop (i + 1)) (max d (1 + dp ed x)) : Int) := by
        rw [ref14_StackDepth_J2, hf x hm, Option.bind_some, hw, wrapN (by omega)]
        by_cases hg : 1 + dp ed x > d
        · rw [if_pos (by simp; omega), show max d (1 + dp ed x) = 1 + dp ed x by omega]; exact ih _ (by omega) (by omega)
        · rw [if_neg (by simp; omega), show max d (1 + dp ed x) = d by omega]; exact ih _ (by omega) (by omega)
      rw [if_pos (by simpa using hi), atI_map ofT _ _ hx, Option.bind_some, hJ, drop_cons hx, dps, ofT_Kind, ofT_N]
      by_cases hK : x.Kind = 0
      · obtain ⟨g1, _⟩ := getB_ok rfl (hok x hm) hK
        simp only [hK, beq_self_eq_true, if_true, g1, Option.bind_some, ne_eq, not_true, false_or]
        cases hb : getB ed x.N with
        | true => rw [if_neg (by simp), if_pos rfl]
        | false => rw [if_pos (by simp), if_neg (by simp), wrapN (by omega)]; exact ih _ (by omega) (by omega)
      · have : (x.Kind == 0) = false := by simpa using hK
        rw [this, if_neg (by simp), if_pos (.inl hK)]
    · rw [if_neg (by simpa using hi), List.drop_eq_nil_of_le (by omega), dps]

theorem ref14_StackDepth_eq (ed : List Bool) : ∀ (t : TreeTree) (n : Nat), Ok ed.length t → szT t ≤ 1000000000 → szT t < n → ref14_StackDepth n (ofT t) ed = some (dp ed t : Int) := by
  intro t
  induction t using tree_ind with
  | h K N ks ih =>
    intro n hok hb hn
    obtain ⟨m, rfl, hlen, hk⟩ := szT_kids hn
    have hl : ks.length ≤ 1000000000 := by have := szL_len ks; simp only [szT] at hb; omega
    have hkb : ∀ k ∈ ks, szT k ≤ 1000000000 := fun k hk => by have := szL_mem hk; simp only [szT] at hb; omega
    rw [ref14_StackDepth, dp, ofT_Kind, TreeTree_Kind_mk]
    rw [Ok] at hok
    rcases hok with ⟨rfl, rfl, h1, h2⟩ | ⟨h12, _, h2, _, hoks⟩
    · simp [dpL]
    · have hoks := OkL_iff.1 hoks
      have hf : ∀ k ∈ ks, ref14_StackDepth m (ofT k) ed = some (dp ed k : Int) := fun k hk' => ih k hk' m (hoks k hk') (hkb k hk') (hk k hk')
      have hK : (K == 0) = false := by simp; omega
      rw [hK, if_neg (by simp), ofT_Kids, TreeTree_Kids_mk]
      cases ks with
      | nil => simp at h2
      | cons k ks =>
        have hloop := ref_depth_loop (.mk K N (k :: ks)) ed (ref14_StackDepth m) (by simpa [TreeTree_Kids_mk] using hl) (by simpa [TreeTree_Kids_mk] using hf) (by simpa [TreeTree_Kids_mk] using hoks) (by simpa [TreeTree_Kids_mk] using hkb) m 1 (dp ed k) (by simp [TreeTree_Kids_mk]) (by simp only [TreeTree_Kids_mk]; simp only [List.length_cons] at hlen ⊢; omega)
        rw [show atI ((k :: ks).map ofT) 0 = some (ofT k) from rfl, Option.bind_some, hf k (by simp), Option.bind_some]
        rw [show (1 : Int) = ((1 : Nat) : Int) from rfl, hloop, TreeTree_Kids_mk, dpL]; rfl

/-! ### the two exported functions -/
theorem tree_Eval_eq (t : TreeTree) (on : List Bool) (n : Nat) (hb : szT t ≤ 1000000000) (hn : szT t < n) : tree_Eval n t on = some (if checkS t on.length = 0 then (ev on t, 0) else (false, checkS t on.length)) := by
  rw [tree_Eval, tree_Check_eq t _ n hb hn, Option.bind_some]
  by_cases hc : checkS t on.length = 0
  · rw [if_neg (by simp [hc]), tree_Tree_eval_eq on t n ((checkS_iff t on.length).1 hc).1 hb hn, Option.bind_some, if_pos hc]
  · rw [if_pos (by simpa using hc), if_neg hc]
theorem tree_StackDepth_eq (t : TreeTree) (ed : List Bool) (n : Nat) (hb : szT t ≤ 1000000000) (hn : szT t < n) : tree_StackDepth n t ed = some (if checkS t ed.length = 0 then ((dp ed t : Int), 0) else (0, checkS t ed.length)) := by
  rw [tree_StackDepth, tree_Check_eq t _ n hb hn, Option.bind_some]
  by_cases hc : checkS t ed.length = 0
  · rw [if_neg (by simp [hc]), tree_Tree_depth_eq ed t n ((checkS_iff t ed.length).1 hc).1 hb hn, Option.bind_some, if_pos hc]
  · rw [if_pos (by simpa using hc), if_neg hc]

/-! ### the weight -/
theorem weight_loop (t : TreeTree) (deep : Int) (slf : TreeTree → Int → Option Int) (hs : t.Kids.length ≤ 1000000000) (hf : ∀ k ∈ t.Kids, ∃ r, slf k (IntKind.i64.wrap (deep + 1)) = some r) : ∀ (k i : Nat) (p : Int), i ≤ t.Kids.length → t.Kids.length - i < k →
    ∃ r, law14_weight_L1 t deep slf k (i : Int) p = some r
  | 0, i, p, h, hk => absurd hk (Nat.not_lt_zero _)
  | k + 1, i, p, h, hk => by
    rw [law14_weight_L1]
    by_cases hi : i < t.Kids.length
    · obtain ⟨x, hx⟩ := get_ex hi
      obtain ⟨r, hr⟩ := hf x (List.mem_of_getElem? hx)
      rw [if_pos (by simpa using hi), atI_nat, hx, Option.bind_some, hr, Option.bind_some]
      split
      · exact ⟨_, rfl⟩
      · rw [wrapN (by omega)]
        exact weight_loop t deep slf hs hf k (i + 1) _ (by omega) (by omega)
    · rw [if_neg (by simpa using hi)]; exact ⟨_, rfl⟩
theorem law14_weight_some : ∀ (t : TreeTree) (n : Nat) (deep : Int), szT t ≤ 1000000000 → szT t < n → ∃ r, law14_weight n t deep = some r := by
  intro t
  induction t using tree_ind with
  | h K N ks ih =>
    intro n deep hb hn
    obtain ⟨m, rfl, hlen, hk⟩ := szT_kids hn
    have hl : ks.length ≤ 1000000000 := by have := szL_len ks; simp only [szT] at hb; omega
    have hkb : ∀ k ∈ ks, szT k ≤ 1000000000 := fun k hk => by have := szL_mem hk; simp only [szT] at hb; omega
    rw [law14_weight]
    split
    · exact ⟨_, rfl⟩
    · exact weight_loop (.mk K N ks) deep (law14_weight m) (by simpa [TreeTree_Kids_mk] using hl) (fun k hk' => ih k hk' m _ (hkb k hk') (hk k hk')) m 0 1 (by omega) (by simpa [TreeTree_Kids_mk] using hlen)
theorem law14_TooLarge_some (t : TreeTree) (n : Nat) (hb : szT t ≤ 1000000000) (hn : szT t < n) : ∃ r, law14_TooLarge n t = some r := by
  obtain ⟨r, hr⟩ := law14_weight_some t n 0 hb hn
  rw [law14_TooLarge, hr, Option.bind_some]
  split <;> exact ⟨_, rfl⟩
end Go.G

namespace Go.G
open Go.Av

theorem alive14 : law14_alive 2000000 = some true := by decide +kernel

theorem evalMatches_law (t : TreeTree) (on : List Bool) (h : szT t ≤ 1048576) : law14_TreeEvalMatchesReference 2000000 t on = some true := by
  have ha := alive14
  generalize hn : (2000000 : Nat) = n at ha ⊢
  have hb : szT t ≤ 1000000000 := by omega
  have hf : szT t < n := by omega
  obtain ⟨r, hr⟩ := law14_TooLarge_some t n hb hf
  rw [law14_TreeEvalMatchesReference, hr, Option.bind_some]
  split
  · rw [ha]; rfl
  split
  · rw [ha]; rfl
  rw [tree_Eval_eq t on n hb hf, Option.bind_some, tree_StackDepth_eq t on n hb hf]
  simp only [Option.bind_some]
  rw [law14_Of_eq t n hb hf, Option.bind_some, ref14_Check_eq t _ n hb hf, Option.bind_some, ha, Option.bind_some, Option.bind_some]
  by_cases hc : checkS t on.length = 0
  · have hok := ((checkS_iff t on.length).1 hc).1
    rw [ref14_Eval_eq on t n hok hb hf, ref14_StackDepth_eq on t n hok hb hf]
    simp [hc]
  · simp [hc]
end Go.G

namespace Go.G
open Go.Av

theorem lv_len : ∀ t : TreeTree, (lv t).length ≤ szT t := by
  intro t
  induction t using tree_ind with
  | h K N ks ih =>
    have hs : ∀ js : List TreeTree, (∀ k ∈ js, (lv k).length ≤ szT k) → (lvs js).length ≤ szL js := by
      intro js
      induction js with
      | nil => intro _; simp [lvs]
      | cons k js ihj =>
        intro h
        have h1 := h k (by simp)
        have h2 := ihj fun k hk => h k (by simp [hk])
        rw [lvs, szL, List.length_append]; omega
    have := hs ks ih
    rw [lv, szT]
    split
    · simp only [List.length_cons, List.length_nil]; omega
    · split
      · omega
      · simp

theorem lvs_len : ∀ js : List TreeTree, (lvs js).length ≤ szL js
  | [] => by simp [lvs]
  | k :: js => by have := lv_len k; have := lvs_len js; rw [lvs, szL, List.length_append]; omega

theorem leaves_loop (t : TreeTree) (slf : TreeTree → Option (List Int)) (hs : szL t.Kids ≤ 500000000) (hf : ∀ k ∈ t.Kids, slf k = some (lv k)) : ∀ (k i : Nat) (acc : List Int), acc.length + szL (t.Kids.drop i) ≤ 1000000000 → i ≤ t.Kids.length → t.Kids.length - i < k →
    tree_Leaves_L2 t slf k (i : Int) acc = some (acc ++ lvs (t.Kids.drop i))
  | 0, i, acc, ha, h, hk => absurd hk (Nat.not_lt_zero _)
  | k + 1, i, acc, ha, h, hk => by
    have hl := szL_len t.Kids
    rw [tree_Leaves_L2]
    by_cases hi : i < t.Kids.length
    · obtain ⟨x, hx⟩ := get_ex hi
      have hx2 := lv_len x
      rw [drop_cons hx, szL] at ha
      rw [if_pos (by simpa using hi), atI_nat, hx, Option.bind_some, hf x (List.mem_of_getElem? hx), Option.bind_some, if_pos (by omega), Option.bind_some, wrapN (by omega), drop_cons hx, lvs]
      rw [leaves_loop t slf hs hf k (i + 1) (acc ++ lv x) (by rw [List.length_append]; omega) (by omega) (by omega), List.append_assoc]
    · rw [if_neg (by simpa using hi), List.drop_eq_nil_of_le (by omega)]; simp [lvs]
theorem ref_leaves_loop (t : TreeTree) (slf : Ref14Tree → Option (List Int)) (hs : szL t.Kids ≤ 500000000) (hf : ∀ k ∈ t.Kids, slf (ofT k) = some (lv k)) : ∀ (k i : Nat) (acc : List Int), acc.length + szL (t.Kids.drop i) ≤ 1000000000 → i ≤ t.Kids.length → t.Kids.length - i < k →
    ref14_Leaves_L2 (ofT t) slf k acc (i : Int) = some (acc ++ lvs (t.Kids.drop i))
  | 0, i, acc, ha, h, hk => absurd hk (Nat.not_lt_zero _)
  | k + 1, i, acc, ha, h, hk => by
    have hl := szL_len t.Kids
    rw [ref14_Leaves_L2, ofT_Kids]
    by_cases hi : i < t.Kids.length
    · obtain ⟨x, hx⟩ := get_ex hi
      have hx2 := lv_len x
      rw [drop_cons hx, szL] at ha
      rw [if_pos (by simpa using hi), atI_map ofT _ _ hx, Option.bind_some, hf x (List.mem_of_getElem? hx), Option.bind_some, if_pos (by omega), Option.bind_some, wrapN (by omega), drop_cons hx, lvs]
      rw [ref_leaves_loop t slf hs hf k (i + 1) (acc ++ lv x) (by rw [List.length_append]; omega) (by omega) (by omega), List.append_assoc]
    · rw [if_neg (by simpa using hi), List.drop_eq_nil_of_le (by omega)]; simp [lvs]

theorem tree_Leaves_eq : ∀ (t : TreeTree) (n : Nat), szT t ≤ 500000000 → szT t < n → tree_Leaves n t = some (lv t) := by
  intro t
  induction t using tree_ind with
  | h K N ks ih =>
    intro n hb hn
    obtain ⟨m, rfl, hlen, hk⟩ := szT_kids hn
    have hsz : szT (.mk K N ks) = 1 + szL ks := by rw [szT]
    have hkb : ∀ k ∈ ks, szT k ≤ 500000000 := fun k hk => by have := szL_mem hk; omega
    have hloop := leaves_loop (.mk K N ks) (tree_Leaves m) (by rw [TreeTree_Kids_mk]; omega) (fun k hk' => ih k hk' m (hkb k hk') (hk k hk')) m 0 [] (by rw [TreeTree_Kids_mk, List.drop_zero, List.length_nil]; omega) (by omega) (by simpa [TreeTree_Kids_mk] using hlen)
    rw [TreeTree_Kids_mk, List.drop_zero, List.nil_append, show ((0 : Nat) : Int) = 0 from rfl] at hloop
    rw [tree_Leaves, lv]
    simp only [TreeTree_Kind_mk, TreeTree_N_mk, tree_Leaves_J1, Option.bind_some]
    rw [hloop]
    by_cases h0 : K = 0
    · simp [h0]
    by_cases h1 : K = 1
    · simp [h1]
    by_cases h2 : K = 2
    · simp [h2]
    · simp [h0, h1, h2]
theorem ref14_Leaves_eq : ∀ (t : TreeTree) (n : Nat), szT t ≤ 500000000 → szT t < n → ref14_Leaves n (ofT t) = some (lv t) := by
  intro t
  induction t using tree_ind with
  | h K N ks ih =>
    intro n hb hn
    obtain ⟨m, rfl, hlen, hk⟩ := szT_kids hn
    have hsz : szT (.mk K N ks) = 1 + szL ks := by rw [szT]
    have hkb : ∀ k ∈ ks, szT k ≤ 500000000 := fun k hk => by have := szL_mem hk; omega
    have hloop := ref_leaves_loop (.mk K N ks) (ref14_Leaves m) (by rw [TreeTree_Kids_mk]; omega) (fun k hk' => ih k hk' m (hkb k hk') (hk k hk')) m 0 [] (by rw [TreeTree_Kids_mk, List.drop_zero, List.length_nil]; omega) (by omega) (by simpa [TreeTree_Kids_mk] using hlen)
    rw [TreeTree_Kids_mk, List.drop_zero, List.nil_append, show ((0 : Nat) : Int) = 0 from rfl] at hloop
    rw [ref14_Leaves, lv]
    simp only [ofT_Kind, ofT_N, TreeTree_Kind_mk, TreeTree_N_mk, ref14_Leaves_J1, Option.bind_some]
    rw [hloop]
    by_cases h0 : K = 0
    · simp [h0]
    by_cases h1 : K = 1
    · simp [h1]
    by_cases h2 : K = 2
    · simp [h2]
    · simp [h0, h1, h2]

theorem eqInt_loop (l : List Int) (hs : l.length ≤ 1000000000) : ∀ (k i : Nat), i ≤ l.length → l.length - i < k → slices_Equal_int_L1 l l k (i : Int) = some true
  | 0, i, h, hk => absurd hk (Nat.not_lt_zero _)
  | k + 1, i, h, hk => by
    rw [slices_Equal_int_L1]
    by_cases hi : i < l.length
    · obtain ⟨x, hx⟩ := get_ex hi
      rw [if_pos (by simpa using hi), atI_nat, hx, Option.bind_some, Option.bind_some, if_neg (by simp), wrapN (by omega), eqInt_loop l hs k (i + 1) (by omega) (by omega)]
    · rw [if_neg (by simpa using hi)]
theorem slices_Equal_int_refl (n : Nat) (l : List Int) (hs : l.length ≤ 1000000000) (h : l.length < n) : slices_Equal_int n l l = some true := by
  rw [slices_Equal_int, if_neg (by simp)]
  exact eqInt_loop l hs n 0 (by omega) (by omega)

/-! ### equality -/
theorem mk_eq (K K' N N' : Int) (ks ks' : List TreeTree) : (TreeTree.mk K N ks = .mk K' N' ks') ↔ K = K' ∧ N = N' ∧ ks = ks' := by
  constructor
  · intro h; injection h with h1 h2 h3; exact ⟨h1, h2, h3⟩
  · rintro ⟨rfl, rfl, rfl⟩; rfl

theorem eqf_loop (s1 s2 : List TreeTree) (slf : TreeTree → TreeTree → Option Bool) (hl : s1.length = s2.length) (hs : s1.length ≤ 1000000000) (hf : ∀ x ∈ s1, ∀ y, slf x y = some (decide (x = y))) : ∀ (k i : Nat), i ≤ s1.length → s1.length - i < k →
    slices_EqualFunc_tree_Tree_c22_L1 s1 s2 slf k (i : Int) = some (decide (s1.drop i = s2.drop i))
  | 0, i, h, hk => absurd hk (Nat.not_lt_zero _)
  | k + 1, i, h, hk => by
    rw [slices_EqualFunc_tree_Tree_c22_L1]
    by_cases hi : i < s1.length
    · obtain ⟨x, hx⟩ := get_ex hi
      obtain ⟨y, hy⟩ := get_ex (l := s2) (i := i) (by omega)
      rw [if_pos (by simpa using hi), atI_nat, atI_nat, hx, hy, Option.bind_some, Option.bind_some, hf x (List.mem_of_getElem? hx), Option.bind_some, drop_cons hx, drop_cons hy, wrapN (by omega)]
      by_cases e : x = y
      · rw [if_neg (by simp [e]), eqf_loop s1 s2 slf hl hs hf k (i + 1) (by omega) (by omega)]; simp [e]
      · rw [if_pos (by simp [e])]; simp [e]
    · rw [if_neg (by simpa using hi), List.drop_eq_nil_of_le (by omega), List.drop_eq_nil_of_le (by omega)]; simp
theorem tree_Equal_eq : ∀ (a b : TreeTree) (n : Nat), szT a ≤ 1000000000 → szT a < n → tree_Equal n a b = some (decide (a = b)) := by
  intro a
  induction a using tree_ind with
  | h K N ks ih =>
    intro b n hb hn
    obtain ⟨K', N', js⟩ := b
    obtain ⟨m, rfl, hlen, hk⟩ := szT_kids hn
    have hsz : szT (.mk K N ks) = 1 + szL ks := by rw [szT]
    have hl := szL_len ks
    have hkb : ∀ k ∈ ks, szT k ≤ 1000000000 := fun k hk => by have := szL_mem hk; omega
    rw [tree_Equal]
    simp only [TreeTree_Kind_mk, TreeTree_N_mk, TreeTree_Kids_mk, mk_eq]
    by_cases h1 : K = K'
    · by_cases h2 : N = N'
      · subst h1; subst h2
        simp only [beq_self_eq_true, if_true, true_and, slices_EqualFunc_tree_Tree_c22]
        by_cases h3 : ks.length = js.length
        · rw [if_neg (by simp [h3])]
          have := eqf_loop ks js (tree_Equal m) h3 (by omega) (fun x hx y => ih x hx y m (hkb x hx) (hk x hx)) m 0 (by omega) (by omega)
          rw [show ((0 : Nat) : Int) = 0 from rfl, List.drop_zero, List.drop_zero] at this
          rw [this]; rfl
        · have : ¬ ks = js := fun e => h3 (by rw [e])
          rw [if_pos (by simp; omega)]; simp [this]
      · simp [h1, h2]
    · simp [h1]

theorem ref_eqf_loop (a b : TreeTree) (slf : Ref14Tree → Ref14Tree → Option Bool) (hl : a.Kids.length = b.Kids.length) (hs : a.Kids.length ≤ 1000000000) (hf : ∀ x ∈ a.Kids, ∀ y, slf (ofT x) (ofT y) = some (decide (x = y))) : ∀ (k i : Nat), i ≤ a.Kids.length → a.Kids.length - i < k →
    ref14_Equal_L1 (ofT a) (ofT b) slf k (i : Int) = some (decide (a.Kids.drop i = b.Kids.drop i))
  | 0, i, h, hk => absurd hk (Nat.not_lt_zero _)
  | k + 1, i, h, hk => by
    rw [ref14_Equal_L1, ofT_Kids, ofT_Kids]
    by_cases hi : i < a.Kids.length
    · obtain ⟨x, hx⟩ := get_ex hi
      obtain ⟨y, hy⟩ := get_ex (l := b.Kids) (i := i) (by omega)
      rw [if_pos (by simpa using hi), atI_map ofT _ _ hx, atI_map ofT _ _ hy, Option.bind_some, Option.bind_some, hf x (List.mem_of_getElem? hx), Option.bind_some, drop_cons hx, drop_cons hy, wrapN (by omega)]
      by_cases e : x = y
      · rw [if_neg (by simp [e]), ref_eqf_loop a b slf hl hs hf k (i + 1) (by omega) (by omega)]; simp [e]
      · rw [if_pos (by simp [e])]; simp [e]
    · rw [if_neg (by simpa using hi), List.drop_eq_nil_of_le (by omega), List.drop_eq_nil_of_le (by omega)]; simp
theorem ref14_Equal_eq : ∀ (a b : TreeTree) (n : Nat), szT a ≤ 1000000000 → szT a < n → ref14_Equal n (ofT a) (ofT b) = some (decide (a = b)) := by
  intro a
  induction a using tree_ind with
  | h K N ks ih =>
    intro b n hb hn
    obtain ⟨K', N', js⟩ := b
    obtain ⟨m, rfl, hlen, hk⟩ := szT_kids hn
    have hsz : szT (.mk K N ks) = 1 + szL ks := by rw [szT]
    have hl := szL_len ks
    have hkb : ∀ k ∈ ks, szT k ≤ 1000000000 := fun k hk => by have := szL_mem hk; omega
    rw [ref14_Equal]
    simp only [ofT_Kind, ofT_N, ofT_Kids, List.length_map, TreeTree_Kind_mk, TreeTree_N_mk, TreeTree_Kids_mk, mk_eq]
    by_cases h1 : K = K'
    · by_cases h2 : N = N'
      · subst h1; subst h2
        simp only [bne_self_eq_false, Bool.false_eq_true, if_false, true_and]
        by_cases h3 : ks.length = js.length
        · rw [if_neg (by simp [h3])]
          have := ref_eqf_loop (.mk K N ks) (.mk K N js) (ref14_Equal m) (by simpa [TreeTree_Kids_mk] using h3) (by rw [TreeTree_Kids_mk]; omega) (fun x hx y => ih x hx y m (hkb x hx) (hk x hx)) m 0 (by omega) (by rw [TreeTree_Kids_mk]; omega)
          rw [show ((0 : Nat) : Int) = 0 from rfl, List.drop_zero, List.drop_zero, TreeTree_Kids_mk, TreeTree_Kids_mk] at this
          rw [this]
        · have : ¬ ks = js := fun e => h3 (by rw [e])
          rw [if_pos (by simp; omega)]; simp [this]
      · simp [h1, h2]
    · simp [h1]

theorem checkMatches_law (t u : TreeTree) (many : Int) (h : szT t ≤ 1048576) (h' : szT u ≤ 1048576) : law14_TreeCheckMatchesReference 2000000 t u many = some true := by
  have ha := alive14
  have hbig : 1048576 < (2000000 : Nat) := by omega
  generalize (2000000 : Nat) = n at ha hbig ⊢
  have hf : szT t < n := by omega
  have hf' : szT u < n := by omega
  obtain ⟨r, hr⟩ := law14_TooLarge_some t n (by omega) hf
  obtain ⟨r', hr'⟩ := law14_TooLarge_some u n (by omega) hf'
  have hll := lv_len t
  rw [law14_TreeCheckMatchesReference, hr, Option.bind_some]
  split
  · rw [ha]; rfl
  rw [hr', Option.bind_some]
  split
  · rw [ha]; rfl
  rw [law14_Of_eq t n (by omega) hf, Option.bind_some, law14_Of_eq u n (by omega) hf', Option.bind_some, ha, Option.bind_some, if_pos rfl, tree_Check_eq t many n (by omega) hf, Option.bind_some, ref14_Check_eq t many n (by omega) hf, Option.bind_some, if_pos (by simp),
    tree_Leaves_eq t n (by omega) hf, Option.bind_some, ref14_Leaves_eq t n (by omega) hf, Option.bind_some, slices_Equal_int_refl n _ (by omega) (by omega), Option.bind_some, if_pos rfl,
    tree_Equal_eq t u n (by omega) hf, Option.bind_some, ref14_Equal_eq t u n (by omega) hf, Option.bind_some, if_pos (by simp), tree_Equal_eq t t n (by omega) hf]
  simp
end Go.G

namespace Go.G
open Go.Av

/-- One assignment below another. -/
def Le (a b : List Bool) : Prop := ∀ i : Nat, (a[i]?).getD false = true → (b[i]?).getD false = true

theorem ev_mono {a b : List Bool} (h : Le a b) {len : Int} : ∀ t : TreeTree, Ok len t → ev a t = true → ev b t = true := by
  intro t
  induction t using tree_ind with
  | h K N ks ih =>
    intro hok he
    rw [Ok] at hok
    rw [ev] at he ⊢
    rcases hok with ⟨rfl, rfl, h1, h2⟩ | ⟨h12, _, _, _, hoks⟩
    · simp only [show ¬ (0 : Int) = 1 by omega, show ¬ (0 : Int) = 2 by omega, if_false] at he ⊢
      exact h _ he
    · have hoks := OkL_iff.1 hoks
      rcases h12 with rfl | rfl
      · simp only [if_true, evAll_eq, List.all_eq_true] at he ⊢
        exact fun k hk => ih k hk (hoks k hk) (he k hk)
      · simp only [show ¬ (2 : Int) = 1 by omega, if_false, if_true, evAny_eq, List.any_eq_true] at he ⊢
        obtain ⟨k, hk, hk2⟩ := he
        exact ⟨k, hk, ih k hk (hoks k hk) hk2⟩

theorem ev_none {a : List Bool} (h : ∀ i : Nat, (a[i]?).getD false = false) {len : Int} : ∀ t : TreeTree, Ok len t → ev a t = false := by
  intro t
  induction t using tree_ind with
  | h K N ks ih =>
    intro hok
    rw [Ok] at hok
    rw [ev]
    rcases hok with ⟨rfl, rfl, h1, h2⟩ | ⟨h12, _, h3, _, hoks⟩
    · simp only [show ¬ (0 : Int) = 1 by omega, show ¬ (0 : Int) = 2 by omega, if_false]
      exact h _
    · have hoks := OkL_iff.1 hoks
      rcases h12 with rfl | rfl
      · simp only [if_true, evAll_eq]
        cases ks with
        | nil => simp at h3
        | cons k ks => simp [ih k (by simp) (hoks k (by simp))]
      · simp only [show ¬ (2 : Int) = 1 by omega, if_false, if_true, evAny_eq, List.any_eq_false]
        exact fun k hk => by simp [ih k hk (hoks k hk)]

theorem ev_some {a : List Bool} {len : Nat} (h : ∀ i : Nat, i < len → (a[i]?).getD false = true) : ∀ t : TreeTree, Ok len t → ev a t = true := by
  intro t
  induction t using tree_ind with
  | h K N ks ih =>
    intro hok
    rw [Ok] at hok
    rw [ev]
    rcases hok with ⟨rfl, rfl, h1, h2⟩ | ⟨h12, _, h3, _, hoks⟩
    · simp only [show ¬ (0 : Int) = 1 by omega, show ¬ (0 : Int) = 2 by omega, if_false]
      exact h _ (by omega)
    · have hoks := OkL_iff.1 hoks
      rcases h12 with rfl | rfl
      · simp only [if_true, evAll_eq, List.all_eq_true]
        exact fun k hk => ih k hk (hoks k hk)
      · simp only [show ¬ (2 : Int) = 1 by omega, if_false, if_true, evAny_eq, List.any_eq_true]
        cases ks with
        | nil => simp at h3
        | cons k ks => exact ⟨k, by simp, ih k (by simp) (hoks k (by simp))⟩

/-! ### depths -/
theorem dps_ge (ed : List Bool) : ∀ (ks : List TreeTree) (d : Nat), d ≤ dps ed ks d
  | [], d => by rw [dps]; omega
  | k :: ks, d => by
    rw [dps]
    split
    · have := dps_ge ed ks (max d (1 + dp ed k)); omega
    · exact dps_ge ed ks d
theorem dps_mono (ed : List Bool) : ∀ (ks : List TreeTree) (d e : Nat), d ≤ e → dps ed ks d ≤ dps ed ks e
  | [], d, e, h => by rw [dps, dps]; exact h
  | k :: ks, d, e, h => by
    rw [dps, dps]
    split
    · exact dps_mono ed ks _ _ (by omega)
    · exact dps_mono ed ks _ _ h

theorem dp_mono {a b : List Bool} (h : Le a b) : ∀ t : TreeTree, dp a t ≤ dp b t := by
  intro t
  induction t using tree_ind with
  | h K N ks ih =>
    have hs : ∀ js : List TreeTree, (∀ k ∈ js, dp a k ≤ dp b k) → ∀ d e, d ≤ e → dps a js d ≤ dps b js e := by
      intro js
      induction js with
      | nil => intro _ d e h; rw [dps, dps]; exact h
      | cons k js ihj =>
        intro hk d e hde
        have h1 := hk k (by simp)
        have h2 := ihj fun k hk' => hk k (by simp [hk'])
        rw [dps, dps]
        by_cases hc : k.Kind ≠ 0 ∨ getB a k.N = true
        · have hc2 : k.Kind ≠ 0 ∨ getB b k.N = true := hc.imp id fun q => h _ q
          rw [if_pos hc, if_pos hc2]
          exact h2 _ _ (by omega)
        · rw [if_neg hc]
          split
          · exact h2 _ _ (by omega)
          · exact h2 _ _ hde
    rw [dp, dp]
    cases ks with
    | nil => rw [dpL, dpL]; omega
    | cons k ks => rw [dpL, dpL]; exact hs ks (fun k hk => ih k (by simp [hk])) _ _ (ih k (by simp))

/-- Edges deepen by one at most. -/
theorem dp_one {a b : List Bool} {len : Int} : ∀ t : TreeTree, Ok len t → dp b t ≤ dp a t + 1 := by
  intro t
  induction t using tree_ind with
  | h K N ks ih =>
    intro hok
    have hoks : ∀ k ∈ ks, Ok len k := by
      rw [Ok] at hok
      rcases hok with ⟨_, rfl, _⟩ | ⟨_, _, _, _, h⟩
      · simp
      · exact OkL_iff.1 h
    have hs : ∀ js : List TreeTree, (∀ k ∈ js, Ok len k ∧ dp b k ≤ dp a k + 1) → ∀ d e, d ≤ e + 1 → dps b js d ≤ dps a js e + 1 := by
      intro js
      induction js with
      | nil => intro _ d e h; rw [dps, dps]; exact h
      | cons k js ihj =>
        intro hk d e hde
        obtain ⟨h0, h1⟩ := hk k (by simp)
        have h2 := ihj fun k hk' => hk k (by simp [hk'])
        rw [dps, dps]
        by_cases hK : k.Kind = 0
        · have hz : ∀ c : List Bool, dp c k = 0 := fun c => by
            obtain ⟨K', N', js'⟩ := k
            rw [Ok] at h0
            rw [TreeTree_Kind_mk] at hK
            rcases h0 with ⟨_, rfl, _⟩ | ⟨h, _⟩
            · rw [dp, dpL]
            · omega
          rw [hz a, hz b]
          split <;> split <;> exact h2 _ _ (by omega)
        · rw [if_pos (.inl hK), if_pos (.inl hK)]
          exact h2 _ _ (by omega)
    rw [dp, dp]
    cases ks with
    | nil => rw [dpL, dpL]; omega
    | cons k ks => rw [dpL, dpL]; exact hs ks (fun k hk => ⟨hoks k (by simp [hk]), ih k (by simp [hk]) (hoks k (by simp [hk]))⟩) _ _ (ih k (by simp) (hoks k (by simp)))

theorem lv_pos {len : Int} : ∀ t : TreeTree, Ok len t → 1 ≤ (lv t).length := by
  intro t
  induction t using tree_ind with
  | h K N ks ih =>
    intro hok
    rw [Ok] at hok
    rw [lv]
    rcases hok with ⟨rfl, rfl, h1, h2⟩ | ⟨h12, _, h3, _, hoks⟩
    · simp
    · have hoks := OkL_iff.1 hoks
      rw [if_neg (by omega), if_pos h12]
      cases ks with
      | nil => simp at h3
      | cons k ks =>
        have := ih k (by simp) (hoks k (by simp))
        rw [lvs, List.length_append]; omega

/-- A tree is less deep than it has leaves. -/
theorem dp_leaves {ed : List Bool} {len : Int} : ∀ t : TreeTree, Ok len t → dp ed t + 1 ≤ (lv t).length := by
  intro t
  induction t using tree_ind with
  | h K N ks ih =>
    intro hok
    have hs : ∀ js : List TreeTree, (∀ k ∈ js, dp ed k + 1 ≤ (lv k).length) → ∀ d m, d + 1 ≤ m → 1 ≤ m → dps ed js d + 1 ≤ m + (lvs js).length := by
      intro js
      induction js with
      | nil => intro _ d m h _; rw [dps, lvs, List.length_nil]; omega
      | cons k js ihj =>
        intro hk d m hd hm
        have h1 := hk k (by simp)
        have h2 := ihj fun k hk' => hk k (by simp [hk'])
        rw [dps, lvs, List.length_append]
        split
        · have := h2 (max d (1 + dp ed k)) (m + (lv k).length) (by omega) (by omega); omega
        · have := h2 d m hd hm; omega
    rw [Ok] at hok
    rw [lv, dp]
    rcases hok with ⟨rfl, rfl, h1, h2⟩ | ⟨h12, _, h3, _, hoks⟩
    · simp [dpL]
    · have hoks := OkL_iff.1 hoks
      rw [if_neg (by omega), if_pos h12]
      cases ks with
      | nil => simp at h3
      | cons k ks =>
        have h1 := ih k (by simp) (hoks k (by simp))
        rw [dpL, lvs, List.length_append]
        exact hs ks (fun k hk => ih k (by simp [hk]) (hoks k (by simp [hk]))) _ _ h1 (by omega)

/-- Where all are edges, a tree of two leaves or more has depth. -/
theorem dp_pos {ed : List Bool} {len : Nat} (h : ∀ i : Nat, i < len → (ed[i]?).getD false = true) {t : TreeTree} (hok : Ok len t) (h2 : 2 ≤ (lv t).length) : 1 ≤ dp ed t := by
  obtain ⟨K, N, ks⟩ := t
  rw [Ok] at hok
  rw [lv] at h2
  rw [dp]
  rcases hok with ⟨rfl, rfl, h1, _⟩ | ⟨h12, _, h3, _, hoks⟩
  · simp at h2
  · have hoks := OkL_iff.1 hoks
    match ks, h3 with
    | k :: k2 :: ks, _ =>
      rw [dpL, dps]
      have hc : k2.Kind ≠ 0 ∨ getB ed k2.N = true := by
        by_cases hK : k2.Kind = 0
        · right
          have ho := hoks k2 (by simp)
          obtain ⟨K', N', js'⟩ := k2
          rw [Ok] at ho
          rw [TreeTree_Kind_mk] at hK
          rcases ho with ⟨_, _, g1, g2⟩ | ⟨g, _⟩
          · exact h _ (by rw [TreeTree_N_mk]; omega)
          · omega
        · exact .inl hK
      rw [if_pos hc]
      have := dps_ge ed ks (max (dp ed k) (1 + dp ed k2))
      omega

/-! ### the filled list -/
def fillT (l : List Bool) (i m : Nat) : List Bool := match m with
  | 0 => l
  | m + 1 => fillT (l.set i true) (i + 1) m
theorem fillT_len : ∀ (m i : Nat) (l : List Bool), (fillT l i m).length = l.length
  | 0, i, l => rfl
  | m + 1, i, l => by rw [fillT, fillT_len m]; simp
theorem fillT_get : ∀ (m i : Nat) (l : List Bool), i + m ≤ l.length → ∀ j, (fillT l i m)[j]? = if i ≤ j ∧ j < i + m then some true else l[j]?
  | 0, i, l, h, j => by rw [fillT, if_neg (by omega)]
  | m + 1, i, l, h, j => by
    rw [fillT, fillT_get m (i + 1) (l.set i true) (by simp; omega) j]
    by_cases e : i + 1 ≤ j ∧ j < i + 1 + m
    · rw [if_pos e, if_pos (by omega)]
    · rw [if_neg e, List.getElem?_set]
      by_cases e2 : i = j
      · subst e2
        rw [if_pos rfl, if_pos (by omega), if_pos (by omega)]
      · rw [if_neg e2, if_neg (by omega)]
theorem fill_all {m : Nat} {l : List Bool} (h : l.length = m) : ∀ i : Nat, i < m → ((fillT l 0 m)[i]?).getD false = true := fun i hi => by
  rw [fillT_get m 0 l (by omega) i, if_pos (by omega)]; rfl
end Go.G

namespace Go.G
open Go.Av

theorem le_set (a : List Bool) (i : Nat) : Le a (a.set i true) := fun j h => by
  rw [List.getElem?_set]
  split
  · split
    · rfl
    · rename_i e1 e2; subst e1; rw [List.getElem?_eq_none (by omega)] at h; exact h
  · exact h
theorem le_fill {m : Nat} {a l : List Bool} (hl : l.length = m) (ha : a.length = m) : Le a (fillT l 0 m) := fun j h => by
  have : j < a.length := by
    rcases Nat.lt_or_ge j a.length with q | q
    · exact q
    · rw [List.getElem?_eq_none q] at h; cases h
  exact fill_all hl j (by omega)
theorem rep_false (m : Nat) : ∀ i : Nat, ((List.replicate m false)[i]?).getD false = false := fun i => by
  rw [List.getElem?_replicate]; split <;> rfl
theorem le_false (m : Nat) (a : List Bool) : Le (List.replicate m false) a := fun j h => by rw [rep_false] at h; cases h

theorem mono_loop (n : Nat) (t : TreeTree) (a : List Bool) (r1 r2 : Bool) (r3 : Int) (r4 : Bool) (r5 : Int) (hs : a.length ≤ 1000000000) : ∀ (k i : Nat) (l : List Bool), l.length = a.length → i ≤ a.length → a.length - i < k →
    law14_TreeEvalIsMonotone_L2 n t a r1 r2 r3 r4 r5 k l (i : Int) = law14_TreeEvalIsMonotone_J1 n t a r1 r2 r3 r4 r5 (fillT l i (a.length - i))
  | 0, i, l, hl, h, hk => absurd hk (Nat.not_lt_zero _)
  | k + 1, i, l, hl, h, hk => by
    rw [law14_TreeEvalIsMonotone_L2]
    by_cases hi : i < a.length
    · obtain ⟨x, hx⟩ := get_ex (l := l) (i := i) (by omega)
      rw [if_pos (by simpa using hi), atI_nat, hx, Option.bind_some, Option.bind_some, wrapN (by omega), Int.toNat_natCast, mono_loop n t a r1 r2 r3 r4 r5 hs k (i + 1) _ (by simpa using hl) (by omega) (by omega)]
      rw [show a.length - i = (a.length - (i + 1)) + 1 by omega, fillT]
    · rw [if_neg (by simpa using hi), show a.length - i = 0 by omega, fillT]

theorem mono14_gen (n : Nat) (ha : law14_alive n = some true) (hbig : 1048576 < n) (t : TreeTree) (on : List Bool) (at_ : Int) (h0 : 0 ≤ at_) (h1 : at_ ≤ 255) (h : szT t ≤ 1048576) (hon : on.length ≤ 1048576) : law14_TreeEvalIsMonotone n t on at_ = some true := by
  have hf : szT t < n := by omega
  have hb : szT t ≤ 1000000000 := by omega
  obtain ⟨r, hr⟩ := law14_TooLarge_some t n hb hf
  rw [law14_TreeEvalIsMonotone, hr, Option.bind_some]
  split
  · rw [ha]; rfl
  split
  · rw [ha]; rfl
  split
  · rw [ha]; rfl
  rename_i hz
  have hpos : 0 < on.length := by
    rcases Nat.eq_zero_or_pos on.length with q | q
    · exact absurd (by simp [q]) hz
    · exact q
  rw [tree_Eval_eq t on n hb hf]
  by_cases hc : checkS t on.length = 0
  · obtain ⟨hok, hnd, hlv⟩ := (checkS_iff t on.length).1 hc
    have hw : IntKind.i64.wrap at_ = at_ := wrapI (by omega) (by omega)
    obtain ⟨k, rfl⟩ := Int.eq_ofNat_of_zero_le h0
    have hmod : ((k : Nat) : Int).tmod (on.length : Int) = ((k % on.length : Nat) : Int) := by rw [Int.tmod_eq_emod_of_nonneg (by omega)]; omega
    have hlt : k % on.length < on.length := Nat.mod_lt _ hpos
    obtain ⟨x, hx⟩ := get_ex hlt
    simp only [hc, if_true, Option.bind_some, bne_self_eq_false, Bool.false_eq_true, if_false]
    rw [if_pos (by omega), if_pos (by omega), hw, hmod, atI_nat, hx, Option.bind_some, Int.toNat_natCast]
    rw [tree_Eval_eq t _ n hb hf]
    simp only [List.length_set, hc, if_true, Option.bind_some]
    rw [if_pos (by omega), tree_Eval_eq t _ n hb hf]
    simp only [List.length_replicate, hc, if_true, Option.bind_some]
    rw [show (0 : Int) = ((0 : Nat) : Int) from rfl, mono_loop n t on _ _ _ _ _ (by omega) n 0 _ (by simp) (by omega) (by omega), Nat.sub_zero, law14_TreeEvalIsMonotone_J1]
    have hfl : (fillT (List.replicate on.length false) 0 on.length).length = on.length := by rw [fillT_len]; simp
    rw [tree_Eval_eq t _ n hb hf, tree_StackDepth_eq t on n hb hf, tree_StackDepth_eq t _ n hb hf, ha]
    simp only [hfl, hc, if_true, Option.bind_some]
    have e1 := ev_none (rep_false on.length) t hok
    have e2 := ev_some (fill_all (l := List.replicate on.length false) (m := on.length) (by simp)) t hok
    have e3 : ev on t = true → ev (on.set (k % on.length) true) t = true := ev_mono (le_set _ _) t hok
    have d1 : dp on t ≤ dp (fillT (List.replicate on.length false) 0 on.length) t := dp_mono (le_fill (by simp) rfl) t
    have d2 := dp_leaves (ed := fillT (List.replicate on.length false) 0 on.length) t hok
    rw [hlv] at d2
    have g1 : (dp on t : Int) ≤ dp (fillT (List.replicate on.length false) 0 on.length) t := by omega
    have g2 : (dp (fillT (List.replicate on.length false) 0 on.length) t : Int) < on.length := by omega
    rw [e1, e2]
    cases hv : ev on t with
    | false => simp [g1, g2]
    | true => simp [g1, g2, e3 hv]
  · rw [if_neg hc, Option.bind_some]
    simp only
    rw [if_pos (by simpa using hc), ha]; rfl

theorem mono14_law (t : TreeTree) (on : List Bool) (at_ : Int) (h0 : 0 ≤ at_) (h1 : at_ ≤ 255) (h : szT t ≤ 1048576) (hon : on.length ≤ 1048576) : law14_TreeEvalIsMonotone 2000000 t on at_ = some true :=
  mono14_gen 2000000 alive14 (by decide) t on at_ h0 h1 h hon

theorem bounds_loop (n : Nat) (t : TreeTree) (a : List Bool) (r1 r2 r3 r4 : Int) (hs : a.length ≤ 1000000000) : ∀ (k i : Nat) (l : List Bool), l.length = a.length → i ≤ a.length → a.length - i < k →
    law14_TreeDepthBounds_L2 n t a r1 r2 r3 r4 k (i : Int) l = law14_TreeDepthBounds_J1 n t a r1 r2 r3 r4 (fillT l i (a.length - i))
  | 0, i, l, hl, h, hk => absurd hk (Nat.not_lt_zero _)
  | k + 1, i, l, hl, h, hk => by
    rw [law14_TreeDepthBounds_L2]
    by_cases hi : i < a.length
    · obtain ⟨x, hx⟩ := get_ex (l := l) (i := i) (by omega)
      rw [if_pos (by simpa using hi), atI_nat, hx, Option.bind_some, Option.bind_some, wrapN (by omega), Int.toNat_natCast, bounds_loop n t a r1 r2 r3 r4 hs k (i + 1) _ (by simpa using hl) (by omega) (by omega)]
      rw [show a.length - i = (a.length - (i + 1)) + 1 by omega, fillT]
    · rw [if_neg (by simpa using hi), show a.length - i = 0 by omega, fillT]

theorem bounds14_law (t : TreeTree) (ed : List Bool) (h : szT t ≤ 1048576) (hon : ed.length ≤ 1048576) : law14_TreeDepthBounds 2000000 t ed = some true := by
  have ha := alive14
  have hbig : 1048576 < (2000000 : Nat) := by omega
  generalize (2000000 : Nat) = n at ha hbig ⊢
  have hf : szT t < n := by omega
  have hb : szT t ≤ 1000000000 := by omega
  obtain ⟨r, hr⟩ := law14_TooLarge_some t n hb hf
  rw [law14_TreeDepthBounds, hr, Option.bind_some]
  split
  · rw [ha]; rfl
  split
  · rw [ha]; rfl
  rw [tree_Check_eq t _ n hb hf, Option.bind_some]
  by_cases hc : checkS t ed.length = 0
  · obtain ⟨hok, hnd, hlv⟩ := (checkS_iff t ed.length).1 hc
    rw [if_neg (by simp [hc]), if_pos (by omega), Option.bind_some, tree_StackDepth_eq t _ n hb hf, tree_StackDepth_eq t _ n hb hf]
    simp only [List.length_replicate, hc, if_true, Option.bind_some]
    have hloop := fun r1 r2 r3 r4 => bounds_loop n t ed r1 r2 r3 r4 (by omega) n 0 (List.replicate ed.length false) (by simp) (by omega) (by omega)
    simp only [show ((0 : Nat) : Int) = 0 from rfl, Nat.sub_zero] at hloop
    rw [if_pos (by omega), hloop, law14_TreeDepthBounds_J1]
    have hfl : (fillT (List.replicate ed.length false) 0 ed.length).length = ed.length := by rw [fillT_len]; simp
    rw [tree_StackDepth_eq t _ n hb hf, ha]
    simp only [hfl, hc, if_true, Option.bind_some]
    have d1 : dp (List.replicate ed.length false) t ≤ dp ed t := dp_mono (le_false _ _) t
    have d2 : dp ed t ≤ dp (fillT (List.replicate ed.length false) 0 ed.length) t := dp_mono (le_fill (by simp) rfl) t
    have d3 : dp (fillT (List.replicate ed.length false) 0 ed.length) t ≤ dp (List.replicate ed.length false) t + 1 := dp_one t hok
    have d4 := dp_lt (List.replicate ed.length false) t
    have hw : IntKind.i64.wrap ((dp (List.replicate ed.length false) t : Int) + 1) = ((dp (List.replicate ed.length false) t + 1 : Nat) : Int) := wrapN (by omega)
    rw [hw]
    have g1 : (dp (List.replicate ed.length false) t : Int) ≤ dp ed t := by omega
    have g2 : (dp ed t : Int) ≤ dp (fillT (List.replicate ed.length false) 0 ed.length) t := by omega
    have g3 : (dp (fillT (List.replicate ed.length false) 0 ed.length) t : Int) ≤ ((dp (List.replicate ed.length false) t + 1 : Nat) : Int) := by omega
    by_cases h2 : ed.length < 2
    · have : (ed.length : Int) < 2 := by omega
      simp only [beq_self_eq_true, if_true, decide_eq_true_eq, if_pos g1, if_pos g2, if_pos g3, if_pos this]
    · have : ¬ (ed.length : Int) < 2 := by omega
      have d5 := dp_pos (fill_all (l := List.replicate ed.length false) (m := ed.length) (by simp)) hok (by omega)
      have g4 : (dp (fillT (List.replicate ed.length false) 0 ed.length) t : Int) ≥ 1 := by omega
      simp only [beq_self_eq_true, if_true, decide_eq_true_eq, if_pos g1, if_pos g2, if_pos g3, if_neg this]
      exact congrArg some (decide_eq_true g4)
  · rw [if_pos (by simpa using hc), ha]; rfl
end Go.G

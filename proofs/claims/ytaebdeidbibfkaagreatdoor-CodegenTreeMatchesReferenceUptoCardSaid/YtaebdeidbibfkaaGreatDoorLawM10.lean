/- The chapter's example. No law is proved here. -/
import Derived.Test.YtaebdeidbibfkaaGreatDoorGMod
set_option linter.unusedSimpArgs false
set_option linter.unusedVariables false
set_option linter.unusedSectionVars false
namespace Go.G
open Go.Av
set_option maxRecDepth 100000
theorem alive17 : law17_alive 2000000 = some true := by decide +kernel
end Go.G

namespace Go.G
open Go.Av

theorem atI_nat {α : Type} (l : List α) (i : Nat) : atI l (i : Int) = l[i]? := by simp [atI]
theorem wrapN {i : Nat} (h : i ≤ 1000000000000) : IntKind.i64.wrap ((i : Int) + 1) = ((i + 1 : Nat) : Int) := by rw [IntKind.wrap_i64]; omega
theorem wrapI {i : Int} (h0 : -4611686018427387904 ≤ i) (h : i ≤ 9223372036854775807) : IntKind.i64.wrap i = i := by rw [IntKind.wrap_i64]; omega
theorem get_ex {α : Type} {l : List α} {i : Nat} (h : i < l.length) : ∃ x, l[i]? = some x := ⟨l[i], List.getElem?_eq_getElem h⟩
theorem drop_cons {α : Type} {l : List α} {i : Nat} {x : α} (h : l[i]? = some x) : l.drop i = x :: l.drop (i + 1) := by
  obtain ⟨hi, e⟩ := List.getElem?_eq_some_iff.1 h
  rw [List.drop_eq_getElem_cons hi, e]

/-- Induction over trees. -/
theorem tree_ind {P : TreeTree → Prop} (h : ∀ K N ks, (∀ k ∈ ks, P k) → P (.mk K N ks)) : ∀ t, P t := fun t =>
  TreeTree.rec (motive_1 := P) (motive_2 := fun l => ∀ k ∈ l, P k) (fun K N ks ih => h K N ks ih) (by simp) (fun k ks h1 h2 => by
    intro x hx
    rcases List.mem_cons.1 hx with rfl | hx
    · exact h1
    · exact h2 x hx) t

mutual
/-- How many nodes. -/
def szT : TreeTree → Nat
  | .mk _ _ ks => 1 + szL ks
def szL : List TreeTree → Nat
  | [] => 0
  | k :: ks => szT k + szL ks
end
theorem szT_pos (t : TreeTree) : 1 ≤ szT t := by cases t; simp only [szT]; omega
theorem szL_len : ∀ ks : List TreeTree, ks.length ≤ szL ks
  | [] => by simp
  | k :: ks => by have := szL_len ks; have := szT_pos k; simp only [szL, List.length_cons]; omega
theorem szL_mem : ∀ {ks : List TreeTree} {k : TreeTree}, k ∈ ks → szT k ≤ szL ks
  | x :: ks, k, h => by
    rcases List.mem_cons.1 h with rfl | h
    · simp only [szL]; omega
    · have := szL_mem h; simp only [szL]; omega
theorem szT_kids {K N : Int} {ks : List TreeTree} {n : Nat} (h : szT (.mk K N ks) < n) : ∃ m, n = m + 1 ∧ ks.length < m ∧ ∀ k ∈ ks, szT k < m := by
  simp only [szT] at h
  have h1 := szL_len ks
  obtain ⟨m, rfl⟩ : ∃ m, n = m + 1 := ⟨n - 1, by omega⟩
  exact ⟨m, rfl, by omega, fun k hk => by have := szL_mem hk; omega⟩

mutual
/-- The check of a tree: a code and the leaves seen. -/
def chk (many : Int) : TreeTree → List Int → Int × List Int
  | .mk K N ks, l =>
    if K < 0 ∨ K > 2 then (8, l)
    else if K = 0 then (if 0 < ks.length then (2, l) else if N < 0 ∨ N ≥ many then (3, l) else if N ∈ l then (9, l) else (0, l ++ [N]))
    else if N ≠ 0 then (2, l)
    else if ks.length < 2 then (5, l)
    else if ks.any (fun k => k.Kind == K) = true then (14, l)
    else chks many ks l
def chks (many : Int) : List TreeTree → List Int → Int × List Int
  | [], l => (0, l)
  | k :: ks, l => if (chk many k l).1 ≠ 0 then chk many k l else chks many ks (chk many k l).2
end

/-- A set as a map. -/
def mp (l : List Int) : List (Int × Bool) := l.map fun x => (x, true)
theorem mp_get (l : List Int) (x : Int) : (mGet (mp l) x).getD false = decide (x ∈ l) := by
  induction l with
  | nil => simp [mp, mGet]
  | cons a l ih =>
    simp only [mp, List.map_cons, mGet] at ih ⊢
    by_cases h : x = a
    · simp [h]
    · have : (x == a) = false := by simpa using h
      simp [this, ih, h]
theorem mp_put (l : List Int) (x : Int) (h : x ∉ l) : mPut (mp l) x true = mp (l ++ [x]) := by
  induction l with
  | nil => rfl
  | cons a l ih =>
    simp only [List.mem_cons, not_or] at h
    have h1 : (x == a) = false := by simpa using h.1
    have := ih h.2
    simp only [mp, List.map_cons, List.cons_append, mPut, h1, Bool.false_eq_true, if_false] at this ⊢
    rw [this]
theorem mp_len (l : List Int) : (mp l).length = l.length := by simp [mp]

theorem c37_loop (n : Nat) (s : List TreeTree) (b : TreeTree) (hs : s.length ≤ 1000000000) : ∀ (k i : Nat), i ≤ s.length → s.length - i < k →
    ∃ r, slices_IndexFunc_tree_Tree_c92_L1 n s b k (i : Int) = some r ∧ decide (r ≥ 0) = (s.drop i).any fun x => x.Kind == b.Kind
  | 0, i, h, hk => absurd hk (Nat.not_lt_zero _)
  | k + 1, i, h, hk => by
    rw [slices_IndexFunc_tree_Tree_c92_L1]
    by_cases hi : i < s.length
    · obtain ⟨x, hx⟩ := get_ex hi
      rw [if_pos (by simpa using hi), atI_nat, hx, Option.bind_some]
      simp only [tree_Tree_check_1, Option.bind_some]
      rw [drop_cons hx, List.any_cons]
      cases hc : (x.Kind == b.Kind) with
      | true => exact ⟨(i : Int), by simp, by simp⟩
      | false =>
        rw [wrapN (by omega)]
        obtain ⟨r, h1, h2⟩ := c37_loop n s b hs k (i + 1) (by omega) (by omega)
        exact ⟨r, by simpa using h1, by simpa using h2⟩
    · rw [if_neg (by simpa using hi)]
      refine ⟨-1, rfl, ?_⟩
      rw [List.drop_eq_nil_of_le (by omega)]; rfl
theorem c37_eq (n : Nat) (s : List TreeTree) (b : TreeTree) (hs : s.length ≤ 1000000000) (h : s.length < n) : slices_ContainsFunc_tree_Tree_c92 n s b = some (s.any fun x => x.Kind == b.Kind) := by
  obtain ⟨r, h1, h2⟩ := c37_loop n s b hs n 0 (by omega) (by omega)
  simp only [slices_ContainsFunc_tree_Tree_c92, slices_IndexFunc_tree_Tree_c92]
  rw [show (0 : Int) = ((0 : Nat) : Int) from rfl, h1, Option.bind_some]
  rw [List.drop_zero] at h2
  exact congrArg some h2

theorem check_loop (t : TreeTree) (many : Int) (slf : TreeTree → Int → List (Int × Bool) → Option (Int × List (Int × Bool))) (hs : t.Kids.length ≤ 1000000000)
    (hf : ∀ k ∈ t.Kids, ∀ l, slf k many (mp l) = some ((chk many k l).1, mp (chk many k l).2)) : ∀ (k i : Nat) (l : List Int), i ≤ t.Kids.length → t.Kids.length - i < k →
    tree_Tree_check_L2 t many slf k (mp l) (i : Int) = some ((chks many (t.Kids.drop i) l).1, mp (chks many (t.Kids.drop i) l).2)
  | 0, i, l, h, hk => absurd hk (Nat.not_lt_zero _)
  | k + 1, i, l, h, hk => by
    rw [tree_Tree_check_L2]
    by_cases hi : i < t.Kids.length
    · obtain ⟨x, hx⟩ := get_ex hi
      rw [if_pos (by simpa using hi), atI_nat, hx, Option.bind_some, hf x (List.mem_of_getElem? hx) l, Option.bind_some, drop_cons hx, chks]
      by_cases he : (chk many x l).1 = 0
      · have := check_loop t many slf hs hf k (i + 1) (chk many x l).2 (by omega) (by omega)
        simp only [he, bne_self_eq_false, Bool.false_eq_true, if_false, ne_eq, not_true]
        rw [wrapN (by omega), this]
      · simp [he]
    · rw [if_neg (by simpa using hi), List.drop_eq_nil_of_le (by omega), chks]

theorem tree_Tree_check_eq (many : Int) : ∀ (t : TreeTree) (n : Nat) (l : List Int), szT t ≤ 1000000000 → szT t < n → tree_Tree_check n t many (mp l) = some ((chk many t l).1, mp (chk many t l).2) := by
  intro t
  induction t using tree_ind with
  | h K N ks ih =>
    intro n l hb hn
    obtain ⟨m, rfl, hlen, hk⟩ := szT_kids hn
    have hl : ks.length ≤ 1000000000 := by have := szL_len ks; simp only [szT] at hb; omega
    have hkb : ∀ k ∈ ks, szT k ≤ 1000000000 := fun k hk => by have := szL_mem hk; simp only [szT] at hb; omega
    have hloop := check_loop (.mk K N ks) many (tree_Tree_check m) hl (fun k hk' l => ih k hk' m l (hkb k hk') (hk k hk')) m 0 l (by omega) (by simpa [TreeTree_Kids_mk] using hlen)
    rw [tree_Tree_check, chk]
    simp only [TreeTree_Kind_mk, TreeTree_N_mk, TreeTree_Kids_mk, mp_get, c37_eq m ks _ hl hlen, Option.bind_some, tree_Tree_check_J1] at hloop ⊢
    rw [show ((0 : Nat) : Int) = 0 from rfl, List.drop_zero] at hloop
    rw [hloop]
    by_cases h0 : K < 0
    · simp [h0]
    by_cases h2 : K > 2
    · simp [h0, h2]
    by_cases hK : K = 0
    · subst hK
      by_cases hz : 0 < ks.length
      · simp [hz]
      by_cases hN : N < 0
      · simp [hz, hN]
      by_cases hM : N ≥ many
      · simp [hz, hN, hM]
      by_cases hin : N ∈ l
      · simp [hz, hN, hM, hin]
      · simp [hz, hN, hM, hin, mp_put l N hin]
    by_cases hN : N = 0
    · by_cases hz : ks.length < 2
      · have : (ks.length : Int) < 2 := by omega
        simp [h0, h2, hK, hN, hz, this]
      · have : ¬ (ks.length : Int) < 2 := by omega
        generalize ks.any (fun x => x.Kind == K) = b
        cases b <;> simp [h0, h2, hK, hN, hz, this]
    · simp [h0, h2, hK, hN]

mutual
def ofT : TreeTree → Ref14Tree
  | .mk K N ks => .mk K N (ofL ks)
def ofL : List TreeTree → List Ref14Tree
  | [] => []
  | k :: ks => ofT k :: ofL ks
end
theorem ofL_map : ∀ ks : List TreeTree, ofL ks = ks.map ofT
  | [] => rfl
  | k :: ks => by rw [ofL, ofL_map ks]; rfl
theorem ofT_Kind (t : TreeTree) : (ofT t).Kind = t.Kind := by cases t; rfl
theorem ofT_N (t : TreeTree) : (ofT t).N = t.N := by cases t; rfl
theorem ofT_Kids (t : TreeTree) : (ofT t).Kids = t.Kids.map ofT := by cases t; exact ofL_map _
theorem ofT_mk (K N : Int) (ks : List TreeTree) : ofT (.mk K N ks) = .mk K N (ks.map ofT) := by rw [ofT, ofL_map]

theorem atI_map {α β : Type} (f : α → β) (l : List α) (i : Nat) {x : α} (h : l[i]? = some x) : atI (l.map f) (i : Int) = some (f x) := by rw [atI_nat]; simp [h]

theorem of_loop (t : TreeTree) (slf : TreeTree → Option Ref14Tree) (hs : t.Kids.length ≤ 1000000000) (hf : ∀ k ∈ t.Kids, slf k = some (ofT k)) : ∀ (k i : Nat) (acc : List Ref14Tree), acc.length = i → i ≤ t.Kids.length → t.Kids.length - i < k →
    law14_Of_L1 t slf k (i : Int) acc = some (.mk t.Kind t.N (acc ++ (t.Kids.drop i).map ofT))
  | 0, i, acc, ha, h, hk => absurd hk (Nat.not_lt_zero _)
  | k + 1, i, acc, ha, h, hk => by
    rw [law14_Of_L1]
    by_cases hi : i < t.Kids.length
    · obtain ⟨x, hx⟩ := get_ex hi
      rw [if_pos (by simpa using hi), atI_nat, hx, Option.bind_some, hf x (List.mem_of_getElem? hx), Option.bind_some, if_pos (by simp; omega), Option.bind_some, wrapN (by omega), drop_cons hx]
      rw [of_loop t slf hs hf k (i + 1) (acc ++ [ofT x]) (by simp [ha]) (by omega) (by omega)]
      simp
    · rw [if_neg (by simpa using hi), List.drop_eq_nil_of_le (by omega)]; simp

theorem law14_Of_eq : ∀ (t : TreeTree) (n : Nat), szT t ≤ 1000000000 → szT t < n → law14_Of n t = some (ofT t) := by
  intro t
  induction t using tree_ind with
  | h K N ks ih =>
    intro n hb hn
    obtain ⟨m, rfl, hlen, hk⟩ := szT_kids hn
    have hl : ks.length ≤ 1000000000 := by have := szL_len ks; simp only [szT] at hb; omega
    have hkb : ∀ k ∈ ks, szT k ≤ 1000000000 := fun k hk => by have := szL_mem hk; simp only [szT] at hb; omega
    rw [law14_Of]
    have := of_loop (.mk K N ks) (law14_Of m) (by simpa [TreeTree_Kids_mk] using hl) (fun k hk' => ih k hk' m (hkb k hk') (hk k hk')) m 0 [] rfl (by omega) (by simpa [TreeTree_Kids_mk] using hlen)
    rw [show (0 : Int) = ((0 : Nat) : Int) from rfl, this, ofT_mk]
    simp [TreeTree_Kids_mk, TreeTree_Kind_mk, TreeTree_N_mk]

/-! ### the reference's check -/
theorem rleaf_loop (r : Ref14Tree) (l : List Int) (hs : l.length < 1000000000) : ∀ (k i : Nat), i ≤ l.length → l.length - i < k →
    ref14_check_v2_L1 r l k (i : Int) = some (if r.N ∈ l.drop i then (9, l) else (0, l ++ [r.N]))
  | 0, i, h, hk => absurd hk (Nat.not_lt_zero _)
  | k + 1, i, h, hk => by
    rw [ref14_check_v2_L1]
    by_cases hi : i < l.length
    · obtain ⟨x, hx⟩ := get_ex hi
      rw [if_pos (by simpa using hi), atI_nat, hx, Option.bind_some, drop_cons hx]
      by_cases he : x = r.N
      · simp [he]
      · have : ¬ r.N = x := fun e => he e.symm
        rw [wrapN (by omega), rleaf_loop r l hs k (i + 1) (by omega) (by omega)]
        simp [he, this]
    · rw [if_neg (by simpa using hi), List.drop_eq_nil_of_le (by omega), if_pos (by simp; omega)]
      simp
theorem rleaf_loop1 (r : Ref14Tree) (l : List Int) (hs : l.length < 1000000000) : ∀ (k i : Nat), i ≤ l.length → l.length - i < k →
    ref14_check_o1_v1_L1 r l k (i : Int) = some (if r.N ∈ l.drop i then (9, l) else (0, l ++ [r.N]))
  | 0, i, h, hk => absurd hk (Nat.not_lt_zero _)
  | k + 1, i, h, hk => by
    rw [ref14_check_o1_v1_L1]
    by_cases hi : i < l.length
    · obtain ⟨x, hx⟩ := get_ex hi
      rw [if_pos (by simpa using hi), atI_nat, hx, Option.bind_some, drop_cons hx]
      by_cases he : x = r.N
      · simp [he]
      · have : ¬ r.N = x := fun e => he e.symm
        rw [wrapN (by omega), rleaf_loop1 r l hs k (i + 1) (by omega) (by omega)]
        simp [he, this]
    · rw [if_neg (by simpa using hi), List.drop_eq_nil_of_le (by omega), if_pos (by simp; omega)]
      simp

/-- How many leaves a check adds. -/
theorem chk_len (many : Int) : ∀ (t : TreeTree) (l : List Int), (chk many t l).2.length ≤ l.length + szT t := by
  intro t
  induction t using tree_ind with
  | h K N ks ih =>
    have hs : ∀ (js : List TreeTree), (∀ k ∈ js, ∀ l, (chk many k l).2.length ≤ l.length + szT k) → ∀ l, (chks many js l).2.length ≤ l.length + szL js := by
      intro js
      induction js with
      | nil => intro _ l; simp [chks, szL]
      | cons k js ihj =>
        intro h l
        have h1 := h k (by simp) l
        rw [chks, szL]
        split
        · omega
        · have h2 := ihj (fun k hk => h k (by simp [hk])) (chk many k l).2
          omega
    intro l
    have := hs ks ih l
    rw [chk, szT]
    repeat' split
    all_goals try simp only [List.length_append, List.length_cons, List.length_nil]
    all_goals omega

theorem v2_loop (t : TreeTree) (many : Int) (slf : Ref14Tree → Int → List Int → Option (Int × List Int)) (hs : t.Kids.length ≤ 1000000000) (M : Nat)
    (hf : ∀ k ∈ t.Kids, ∀ l, l.length + szT k ≤ M → slf (ofT k) many l = some (chk many k l)) : ∀ (k i : Nat) (l : List Int), i ≤ t.Kids.length → t.Kids.length - i < k → l.length + szL (t.Kids.drop i) ≤ M →
    ref14_check_v2_L3 (ofT t) many slf k (i : Int) l = some (chks many (t.Kids.drop i) l)
  | 0, i, l, h, hk, hM => absurd hk (Nat.not_lt_zero _)
  | k + 1, i, l, h, hk, hM => by
    rw [ref14_check_v2_L3, ofT_Kids]
    by_cases hi : i < t.Kids.length
    · obtain ⟨x, hx⟩ := get_ex hi
      rw [drop_cons hx, szL] at hM
      rw [if_pos (by simpa using hi), atI_map ofT _ _ hx, Option.bind_some, hf x (List.mem_of_getElem? hx) l (by omega), Option.bind_some, drop_cons hx, chks]
      have hl := chk_len many x l
      by_cases he : (chk many x l).1 = 0
      · have := v2_loop t many slf hs M hf k (i + 1) (chk many x l).2 (by omega) (by omega) (by omega)
        simp only [he, bne_self_eq_false, Bool.false_eq_true, if_false, ne_eq, not_true]
        rw [wrapN (by omega), this]
      · simp [he]
    · rw [if_neg (by simpa using hi), List.drop_eq_nil_of_le (by omega), chks]

theorem v2_kinds (n : Nat) (t : TreeTree) (many : Int) (l : List Int) (slf : Ref14Tree → Int → List Int → Option (Int × List Int)) (hs : t.Kids.length ≤ 1000000000) : ∀ (k i : Nat), i ≤ t.Kids.length → t.Kids.length - i < k →
    ref14_check_v2_L4 n (ofT t) many l slf k (i : Int) = if ((t.Kids.drop i).any fun x => x.Kind == t.Kind) = true then some (14, l) else ref14_check_v2_J2 n (ofT t) many l slf
  | 0, i, h, hk => absurd hk (Nat.not_lt_zero _)
  | k + 1, i, h, hk => by
    rw [ref14_check_v2_L4, ofT_Kids, ofT_Kind]
    by_cases hi : i < t.Kids.length
    · obtain ⟨x, hx⟩ := get_ex hi
      rw [if_pos (by simpa using hi), atI_map ofT _ _ hx, Option.bind_some, drop_cons hx, List.any_cons, ofT_Kind]
      cases hc : (x.Kind == t.Kind) with
      | true => simp
      | false =>
        rw [wrapN (by omega), v2_kinds n t many l slf hs k (i + 1) (by omega) (by omega)]
        simp
    · rw [if_neg (by simpa using hi), List.drop_eq_nil_of_le (by omega)]; simp

theorem v2_eq (many : Int) : ∀ (t : TreeTree) (n : Nat) (l : List Int), l.length + szT t ≤ 1000000000 → l.length + szT t < n → ref14_check_v2 n (ofT t) many l = some (chk many t l) := by
  intro t
  induction t using tree_ind with
  | h K N ks ih =>
    intro n l hb hn
    obtain ⟨m, rfl, hlen, hk⟩ := szT_kids (show szT (.mk K N ks) < n by omega)
    have hsz : szT (.mk K N ks) = 1 + szL ks := by rw [szT]
    have hl : ks.length ≤ 1000000000 := by have := szL_len ks; omega
    have hloop := v2_loop (.mk K N ks) many (ref14_check_v2 m) (by simpa [TreeTree_Kids_mk] using hl) (l.length + szL ks) (fun k hk' l' hl' => ih k hk' m l' (by omega) (by omega)) m 0 l (by omega) (by simpa [TreeTree_Kids_mk] using hlen) (by simp [TreeTree_Kids_mk])
    have hkinds := v2_kinds m (.mk K N ks) many l (ref14_check_v2 m) (by simpa [TreeTree_Kids_mk] using hl) m 0 (by omega) (by simpa [TreeTree_Kids_mk] using hlen)
    have hleaf := rleaf_loop (ofT (.mk K N ks)) l (by omega) m 0 (by omega) (by omega)
    simp only [TreeTree_Kind_mk, TreeTree_Kids_mk, ofT_N, TreeTree_N_mk, List.drop_zero, show ((0 : Nat) : Int) = 0 from rfl, ref14_check_v2_J2] at hloop hkinds hleaf
    rw [ref14_check_v2, chk]
    simp only [ofT_Kind, ofT_N, ofT_Kids, TreeTree_Kind_mk, TreeTree_N_mk, TreeTree_Kids_mk, List.length_map]
    rw [hkinds, hloop, hleaf]
    by_cases h0 : K < 0
    · simp [h0]
    by_cases h2 : K > 2
    · simp [h0, h2]
    by_cases hK : K = 0
    · subst hK
      by_cases hz : 0 < ks.length
      · simp [hz]
      by_cases hN : N < 0
      · simp [hz, hN]
      by_cases hM : N ≥ many
      · simp [hz, hN, hM]
      by_cases hin : N ∈ l <;> simp [hz, hN, hM, hin]
    by_cases hN : N = 0
    · by_cases hz : ks.length < 2
      · have : (ks.length : Int) < 2 := by omega
        simp [h0, h2, hK, hN, hz, this]
      · have : ¬ (ks.length : Int) < 2 := by omega
        generalize ks.any (fun x => x.Kind == K) = b
        cases b <;> simp [h0, h2, hK, hN, hz, this]
    · simp [h0, h2, hK, hN]

theorem o1_loop (n : Nat) (t : TreeTree) (many : Int) (hs : t.Kids.length ≤ 1000000000) (M : Nat)
    (hf : ∀ k ∈ t.Kids, ∀ l, l.length + szT k ≤ M → ref14_check_v2 n (ofT k) many l = some (chk many k l)) : ∀ (k i : Nat) (l : List Int), i ≤ t.Kids.length → t.Kids.length - i < k → l.length + szL (t.Kids.drop i) ≤ M →
    ref14_check_o1_v1_L3 n (ofT t) many k (i : Int) l = some (chks many (t.Kids.drop i) l)
  | 0, i, l, h, hk, hM => absurd hk (Nat.not_lt_zero _)
  | k + 1, i, l, h, hk, hM => by
    rw [ref14_check_o1_v1_L3, ofT_Kids]
    by_cases hi : i < t.Kids.length
    · obtain ⟨x, hx⟩ := get_ex hi
      rw [drop_cons hx, szL] at hM
      rw [if_pos (by simpa using hi), atI_map ofT _ _ hx, Option.bind_some, hf x (List.mem_of_getElem? hx) l (by omega), Option.bind_some, drop_cons hx, chks]
      have hl := chk_len many x l
      by_cases he : (chk many x l).1 = 0
      · have := o1_loop n t many hs M hf k (i + 1) (chk many x l).2 (by omega) (by omega) (by omega)
        simp only [he, bne_self_eq_false, Bool.false_eq_true, if_false, ne_eq, not_true]
        rw [wrapN (by omega), this]
      · simp [he]
    · rw [if_neg (by simpa using hi), List.drop_eq_nil_of_le (by omega), chks]

theorem o1_kinds (n : Nat) (t : TreeTree) (many : Int) (l : List Int) (hs : t.Kids.length ≤ 1000000000) : ∀ (k i : Nat), i ≤ t.Kids.length → t.Kids.length - i < k →
    ref14_check_o1_v1_L4 n (ofT t) many l k (i : Int) = if ((t.Kids.drop i).any fun x => x.Kind == t.Kind) = true then some (14, l) else ref14_check_o1_v1_J2 n (ofT t) many l
  | 0, i, h, hk => absurd hk (Nat.not_lt_zero _)
  | k + 1, i, h, hk => by
    rw [ref14_check_o1_v1_L4, ofT_Kids, ofT_Kind]
    by_cases hi : i < t.Kids.length
    · obtain ⟨x, hx⟩ := get_ex hi
      rw [if_pos (by simpa using hi), atI_map ofT _ _ hx, Option.bind_some, drop_cons hx, List.any_cons, ofT_Kind]
      cases hc : (x.Kind == t.Kind) with
      | true => simp
      | false =>
        rw [wrapN (by omega), o1_kinds n t many l hs k (i + 1) (by omega) (by omega)]
        simp
    · rw [if_neg (by simpa using hi), List.drop_eq_nil_of_le (by omega)]; simp

theorem o1_eq (many : Int) (t : TreeTree) (n : Nat) (l : List Int) (hb : l.length + szT t ≤ 1000000000) (hn : l.length + szT t < n) : ref14_check_o1_v1 n (ofT t) many l = some (chk many t l) := by
  obtain ⟨K, N, ks⟩ := t
  have hsz : szT (.mk K N ks) = 1 + szL ks := by rw [szT]
  have hlen : ks.length < n := by have := szL_len ks; omega
  have hl : ks.length ≤ 1000000000 := by have := szL_len ks; omega
  have hloop := o1_loop n (.mk K N ks) many (by simpa [TreeTree_Kids_mk] using hl) (l.length + szL ks) (fun k hk' l' hl' => v2_eq many k n l' (by omega) (by omega)) n 0 l (by omega) (by simpa [TreeTree_Kids_mk] using hlen) (by simp [TreeTree_Kids_mk])
  have hkinds := o1_kinds n (.mk K N ks) many l (by simpa [TreeTree_Kids_mk] using hl) n 0 (by omega) (by simpa [TreeTree_Kids_mk] using hlen)
  have hleaf := rleaf_loop1 (ofT (.mk K N ks)) l (by omega) n 0 (by omega) (by omega)
  simp only [TreeTree_Kind_mk, TreeTree_Kids_mk, ofT_N, TreeTree_N_mk, List.drop_zero, show ((0 : Nat) : Int) = 0 from rfl, ref14_check_o1_v1_J2] at hloop hkinds hleaf
  rw [ref14_check_o1_v1, chk]
  simp only [ofT_Kind, ofT_N, ofT_Kids, TreeTree_Kind_mk, TreeTree_N_mk, TreeTree_Kids_mk, List.length_map]
  rw [hkinds, hloop, hleaf]
  by_cases h0 : K < 0
  · simp [h0]
  by_cases h2 : K > 2
  · simp [h0, h2]
  by_cases hK : K = 0
  · subst hK
    by_cases hz : 0 < ks.length
    · simp [hz]
    by_cases hN : N < 0
    · simp [hz, hN]
    by_cases hM : N ≥ many
    · simp [hz, hN, hM]
    by_cases hin : N ∈ l <;> simp [hz, hN, hM, hin]
  by_cases hN : N = 0
  · by_cases hz : ks.length < 2
    · have : (ks.length : Int) < 2 := by omega
      simp [h0, h2, hK, hN, hz, this]
    · have : ¬ (ks.length : Int) < 2 := by omega
      generalize ks.any (fun x => x.Kind == K) = b
      cases b <;> simp [h0, h2, hK, hN, hz, this]
  · simp [h0, h2, hK, hN]

theorem v1_loop (n : Nat) (t : TreeTree) (many : Int) (hs : t.Kids.length ≤ 1000000000) (M : Nat)
    (hf : ∀ k ∈ t.Kids, ∀ l, l.length + szT k ≤ M → ref14_check_o1_v1 n (ofT k) many l = some (chk many k l)) : ∀ (k i : Nat) (l : List Int), i ≤ t.Kids.length → t.Kids.length - i < k → l.length + szL (t.Kids.drop i) ≤ M →
    ref14_check_v1_L3 n (ofT t) many k (i : Int) l = some (chks many (t.Kids.drop i) l)
  | 0, i, l, h, hk, hM => absurd hk (Nat.not_lt_zero _)
  | k + 1, i, l, h, hk, hM => by
    rw [ref14_check_v1_L3, ofT_Kids]
    by_cases hi : i < t.Kids.length
    · obtain ⟨x, hx⟩ := get_ex hi
      rw [drop_cons hx, szL] at hM
      rw [if_pos (by simpa using hi), atI_map ofT _ _ hx, Option.bind_some, hf x (List.mem_of_getElem? hx) l (by omega), Option.bind_some, drop_cons hx, chks]
      have hl := chk_len many x l
      by_cases he : (chk many x l).1 = 0
      · have := v1_loop n t many hs M hf k (i + 1) (chk many x l).2 (by omega) (by omega) (by omega)
        simp only [he, bne_self_eq_false, Bool.false_eq_true, if_false, ne_eq, not_true]
        rw [wrapN (by omega), this]
      · simp [he]
    · rw [if_neg (by simpa using hi), List.drop_eq_nil_of_le (by omega), chks]

theorem v1_kinds (n : Nat) (t : TreeTree) (many : Int) (hs : t.Kids.length ≤ 1000000000) : ∀ (k i : Nat), i ≤ t.Kids.length → t.Kids.length - i < k →
    ref14_check_v1_L4 n (ofT t) many k (i : Int) = if ((t.Kids.drop i).any fun x => x.Kind == t.Kind) = true then some (14, []) else ref14_check_v1_J2 n (ofT t) many
  | 0, i, h, hk => absurd hk (Nat.not_lt_zero _)
  | k + 1, i, h, hk => by
    rw [ref14_check_v1_L4, ofT_Kids, ofT_Kind]
    by_cases hi : i < t.Kids.length
    · obtain ⟨x, hx⟩ := get_ex hi
      rw [if_pos (by simpa using hi), atI_map ofT _ _ hx, Option.bind_some, drop_cons hx, List.any_cons, ofT_Kind]
      cases hc : (x.Kind == t.Kind) with
      | true => simp
      | false =>
        rw [wrapN (by omega), v1_kinds n t many hs k (i + 1) (by omega) (by omega)]
        simp
    · rw [if_neg (by simpa using hi), List.drop_eq_nil_of_le (by omega)]; simp

theorem v1_eq (many : Int) (t : TreeTree) (n : Nat) (hb : szT t ≤ 1000000000) (hn : szT t < n) : ref14_check_v1 n (ofT t) many = some (chk many t []) := by
  obtain ⟨K, N, ks⟩ := t
  obtain ⟨m, rfl, hlen, hk⟩ := szT_kids hn
  have hsz : szT (.mk K N ks) = 1 + szL ks := by rw [szT]
  have hl : ks.length ≤ 1000000000 := by have := szL_len ks; omega
  have hloop := v1_loop m (.mk K N ks) many (by simpa [TreeTree_Kids_mk] using hl) (szL ks) (fun k hk' l' hl' => o1_eq many k m l' (by omega) (by omega)) m 0 [] (by omega) (by simpa [TreeTree_Kids_mk] using hlen) (by simp [TreeTree_Kids_mk])
  have hkinds := v1_kinds m (.mk K N ks) many (by simpa [TreeTree_Kids_mk] using hl) m 0 (by omega) (by simpa [TreeTree_Kids_mk] using hlen)
  have hleaf : ref14_check_v1_L1 (ofT (.mk K N ks)) m = some (0, [N]) := by
    obtain ⟨j, rfl⟩ : ∃ j, m = j + 1 := ⟨m - 1, by omega⟩
    rw [ref14_check_v1_L1, ofT_N, TreeTree_N_mk]; simp
  simp only [TreeTree_Kind_mk, TreeTree_Kids_mk, List.drop_zero, show ((0 : Nat) : Int) = 0 from rfl, ref14_check_v1_J2] at hloop hkinds
  rw [ref14_check_v1, chk]
  simp only [ofT_Kind, ofT_N, ofT_Kids, TreeTree_Kind_mk, TreeTree_N_mk, TreeTree_Kids_mk, List.length_map]
  rw [hkinds, hloop, hleaf]
  by_cases h0 : K < 0
  · simp [h0]
  by_cases h2 : K > 2
  · simp [h0, h2]
  by_cases hK : K = 0
  · subst hK
    by_cases hz : 0 < ks.length
    · simp [hz]
    by_cases hN : N < 0
    · simp [hz, hN]
    by_cases hM : N ≥ many <;> simp [hz, hN, hM]
  by_cases hN : N = 0
  · by_cases hz : ks.length < 2
    · have : (ks.length : Int) < 2 := by omega
      simp [h0, h2, hK, hN, hz, this]
    · have : ¬ (ks.length : Int) < 2 := by omega
      generalize ks.any (fun x => x.Kind == K) = b
      cases b <;> simp [h0, h2, hK, hN, hz, this]
  · simp [h0, h2, hK, hN]

/-- A negative number of contacts is none. -/
theorem chk_neg {many : Int} (h : many < 0) : ∀ (t : TreeTree) (l : List Int), chk many t l = chk 0 t l := by
  intro t
  induction t using tree_ind with
  | h K N ks ih =>
    have hs : ∀ (js : List TreeTree), (∀ k ∈ js, ∀ l, chk many k l = chk 0 k l) → ∀ l, chks many js l = chks 0 js l := by
      intro js
      induction js with
      | nil => intro _ l; rfl
      | cons k js ihj =>
        intro h l
        rw [chks, chks, h k (by simp) l, ihj (fun k hk => h k (by simp [hk]))]
    intro l
    rw [chk, chk, hs ks ih l]
    have : (N < 0 ∨ N ≥ many) ↔ (N < 0 ∨ N ≥ 0) := by omega
    simp only [this]

/-- A tree's check. -/
def checkS (t : TreeTree) (many : Int) : Int :=
  if (chk many t []).1 ≠ 0 then (chk many t []).1 else if ((chk many t []).2.length : Int) ≠ imax 0 many then 4 else 0

theorem tree_Check_eq (t : TreeTree) (many : Int) (n : Nat) (hb : szT t ≤ 1000000000) (hn : szT t < n) : tree_Check n t many = some (checkS t many) := by
  rw [tree_Check]
  have := tree_Tree_check_eq many t n [] hb hn
  rw [show mp [] = [] from rfl] at this
  rw [this, Option.bind_some, checkS]
  simp only [mp_len]
  by_cases he : (chk many t []).1 = 0
  · by_cases hl : ((chk many t []).2.length : Int) = imax 0 many <;> simp [he, hl]
  · simp [he]

theorem ref14_Check_eq (t : TreeTree) (many : Int) (n : Nat) (hb : szT t ≤ 1000000000) (hn : szT t < n) : ref14_Check n (ofT t) many = some (checkS t many) := by
  have core : ∀ p : Int, 0 ≤ p → ref14_Check_J1 n (ofT t) p = some (checkS t p) := fun p hp => by
    rw [ref14_Check_J1, v1_eq p t n hb hn, Option.bind_some, checkS]
    have : imax 0 p = p := by unfold imax; split <;> omega
    rw [this]
    by_cases he : (chk p t []).1 = 0
    · by_cases hl : ((chk p t []).2.length : Int) = p <;> simp [he, hl]
    · simp [he]
  rw [ref14_Check]
  by_cases h : many < 0
  · have : checkS t many = checkS t 0 := by
      rw [checkS, checkS, chk_neg h]
      have : imax 0 many = imax 0 0 := by unfold imax; rw [if_neg (by omega), if_neg (by omega)]
      rw [this]
    simp only [h, decide_true, if_true]
    rw [core 0 (by omega), this]
  · simp only [h, decide_false, Bool.false_eq_true, if_false]
    exact core many (by omega)

mutual
/-- A tree of good make over so many contacts. -/
def Ok (len : Int) : TreeTree → Prop
  | .mk K N ks => (K = 0 ∧ ks = [] ∧ 0 ≤ N ∧ N < len) ∨ ((K = 1 ∨ K = 2) ∧ N = 0 ∧ 2 ≤ ks.length ∧ (∀ k ∈ ks, k.Kind ≠ K) ∧ OkL len ks)
def OkL (len : Int) : List TreeTree → Prop
  | [] => True
  | k :: ks => Ok len k ∧ OkL len ks
end
theorem OkL_iff {len : Int} : ∀ {ks : List TreeTree}, OkL len ks ↔ ∀ k ∈ ks, Ok len k
  | [] => by simp [OkL]
  | k :: ks => by rw [OkL, OkL_iff (ks := ks)]; simp

mutual
/-- The leaves, in order. -/
def lv : TreeTree → List Int
  | .mk K N ks => if K = 0 then [N] else if K = 1 ∨ K = 2 then lvs ks else []
def lvs : List TreeTree → List Int
  | [] => []
  | k :: ks => lv k ++ lvs ks
end

theorem chk_iff (many : Int) : ∀ (t : TreeTree) (l : List Int), ((chk many t l).1 = 0 ↔ Ok many t ∧ (lv t).Nodup ∧ ∀ x ∈ lv t, x ∉ l) ∧ ((chk many t l).1 = 0 → (chk many t l).2 = l ++ lv t) := by
  intro t
  induction t using tree_ind with
  | h K N ks ih =>
    have hs : ∀ (js : List TreeTree), (∀ k ∈ js, ∀ l, ((chk many k l).1 = 0 ↔ Ok many k ∧ (lv k).Nodup ∧ ∀ x ∈ lv k, x ∉ l) ∧ ((chk many k l).1 = 0 → (chk many k l).2 = l ++ lv k)) →
        ∀ l, ((chks many js l).1 = 0 ↔ OkL many js ∧ (lvs js).Nodup ∧ ∀ x ∈ lvs js, x ∉ l) ∧ ((chks many js l).1 = 0 → (chks many js l).2 = l ++ lvs js) := by
      intro js
      induction js with
      | nil => intro _ l; simp [chks, OkL, lvs]
      | cons k js ihj =>
        intro h l
        obtain ⟨h1, h2⟩ := h k (by simp) l
        rw [chks]
        by_cases he : (chk many k l).1 = 0
        · have e2 := h2 he
          obtain ⟨g1, g2, g3⟩ := h1.1 he
          obtain ⟨i1, i2⟩ := ihj (fun k hk => h k (by simp [hk])) (l ++ lv k)
          rw [if_neg (by simpa using he), e2]
          refine ⟨?_, fun hz => by rw [i2 hz, lvs, List.append_assoc]⟩
          rw [i1, OkL, lvs, List.nodup_append]
          constructor
          · rintro ⟨a1, a2, a3⟩
            refine ⟨⟨g1, a1⟩, ⟨g2, a2, fun a ha b hb e => ?_⟩, fun x hx => ?_⟩
            · subst e; exact a3 a hb (by simp [ha])
            · rcases List.mem_append.1 hx with hx | hx
              · exact g3 x hx
              · intro hl; exact a3 x hx (by simp [hl])
          · rintro ⟨⟨_, a1⟩, ⟨_, a2, a3⟩, a4⟩
            refine ⟨a1, a2, fun x hx hm => ?_⟩
            rcases List.mem_append.1 hm with hm | hm
            · exact a4 x (by simp [hx]) hm
            · exact a3 x hm x hx rfl
        · rw [if_pos he]
          refine ⟨⟨fun hz => absurd hz he, fun ⟨a1, a2, a3⟩ => ?_⟩, fun hz => absurd hz he⟩
          exfalso
          rw [OkL] at a1
          rw [lvs, List.nodup_append] at a2
          rw [lvs] at a3
          exact he (h1.2 ⟨a1.1, a2.1, fun x hx => a3 x (by simp [hx])⟩)
    intro l
    obtain ⟨s1, s2⟩ := hs ks ih l
    rw [chk, Ok, lv]
    by_cases h0 : K < 0 ∨ K > 2
    · rw [if_pos h0]
      refine ⟨⟨fun hz => by simp at hz, fun ⟨h, _⟩ => ?_⟩, fun hz => by simp at hz⟩
      rcases h with ⟨h, _⟩ | ⟨h, _⟩ <;> omega
    rw [if_neg h0]
    by_cases hK : K = 0
    · subst hK
      simp only [if_true]
      by_cases hz : 0 < ks.length
      · rw [if_pos hz]
        refine ⟨⟨fun hz => by simp at hz, fun ⟨h, _⟩ => ?_⟩, fun hz => by simp at hz⟩
        rcases h with ⟨_, h, _⟩ | ⟨h, _⟩
        · subst h; simp at hz
        · omega
      rw [if_neg hz]
      have hnil : ks = [] := List.length_eq_zero_iff.1 (by omega)
      by_cases hN : N < 0 ∨ N ≥ many
      · rw [if_pos hN]
        refine ⟨⟨fun hz => by simp at hz, fun ⟨h, _⟩ => ?_⟩, fun hz => by simp at hz⟩
        rcases h with ⟨_, _, h⟩ | ⟨h, _⟩ <;> omega
      rw [if_neg hN]
      by_cases hin : N ∈ l
      · rw [if_pos hin]
        refine ⟨⟨fun hz => by simp at hz, fun ⟨_, _, h⟩ => ?_⟩, fun hz => by simp at hz⟩
        exact absurd hin (h N (by simp))
      · rw [if_neg hin]
        refine ⟨⟨fun _ => ⟨.inl ⟨trivial, hnil, by omega, by omega⟩, by simp, by simpa using hin⟩, fun _ => rfl⟩, fun _ => rfl⟩
    · have h12 : K = 1 ∨ K = 2 := by omega
      rw [if_neg hK, if_neg hK, if_pos h12]
      by_cases hN : N = 0
      · rw [if_neg (by simpa using hN)]
        by_cases hl : ks.length < 2
        · rw [if_pos hl]
          refine ⟨⟨fun hz => by simp at hz, fun ⟨h, _⟩ => ?_⟩, fun hz => by simp at hz⟩
          rcases h with ⟨h, _⟩ | ⟨_, _, h, _⟩ <;> omega
        rw [if_neg hl]
        by_cases ha : ks.any (fun k => k.Kind == K) = true
        · rw [if_pos ha]
          refine ⟨⟨fun hz => by simp at hz, fun ⟨h, _⟩ => ?_⟩, fun hz => by simp at hz⟩
          obtain ⟨k, hk, he⟩ := List.any_eq_true.1 ha
          rcases h with ⟨h, _⟩ | ⟨_, _, _, h, _⟩
          · exact absurd h hK
          · exact absurd (by simpa using he) (h k hk)
        · rw [if_neg ha, s1]
          refine ⟨⟨fun ⟨a1, a2, a3⟩ => ⟨.inr ⟨h12, hN, by omega, fun k hk e => ha (List.any_eq_true.2 ⟨k, hk, by simpa using e⟩), a1⟩, a2, a3⟩, fun ⟨h, a2, a3⟩ => ⟨?_, a2, a3⟩⟩, fun hz => s2 (s1.2 hz)⟩
          rcases h with ⟨h, _⟩ | ⟨_, _, _, _, h⟩
          · exact absurd h hK
          · exact h
      · rw [if_pos (by simpa using hN)]
        refine ⟨⟨fun hz => by simp at hz, fun ⟨h, _⟩ => ?_⟩, fun hz => by simp at hz⟩
        rcases h with ⟨h, _⟩ | ⟨_, h, _⟩
        · exact absurd h hK
        · exact absurd h hN

/-- A tree that passes its check. -/
theorem checkS_iff (t : TreeTree) (len : Nat) : checkS t (len : Int) = 0 ↔ Ok len t ∧ (lv t).Nodup ∧ (lv t).length = len := by
  obtain ⟨h1, h2⟩ := chk_iff (len : Int) t []
  have hm : imax 0 (len : Int) = len := by unfold imax; split <;> omega
  rw [checkS, hm]
  by_cases he : (chk len t []).1 = 0
  · have e2 := h2 he
    obtain ⟨g1, g2, g3⟩ := h1.1 he
    rw [if_neg (by simpa using he), e2]
    simp only [List.nil_append]
    by_cases hl : ((lv t).length : Int) = len
    · rw [if_neg (by simpa using hl)]
      simp only [true_iff]
      exact ⟨g1, g2, by omega⟩
    · rw [if_pos hl]
      refine ⟨fun hz => by simp at hz, fun ⟨_, _, h⟩ => absurd (by omega) hl⟩
  · rw [if_pos he]
    refine ⟨fun hz => absurd hz he, fun ⟨a1, a2, _⟩ => absurd (h1.2 ⟨a1, a2, by simp⟩) he⟩

/-! ### the weight -/
theorem weight_loop (t : TreeTree) (deep : Int) (slf : TreeTree → Int → Option Int) (hs : t.Kids.length ≤ 1000000000) (hf : ∀ k ∈ t.Kids, ∃ r, slf k (IntKind.i64.wrap (deep + 1)) = some r) : ∀ (k i : Nat) (p : Int), i ≤ t.Kids.length → t.Kids.length - i < k →
    ∃ r, law14_weight_L1 t deep slf k (i : Int) p = some r
  | 0, i, p, h, hk => absurd hk (Nat.not_lt_zero _)
  | k + 1, i, p, h, hk => by
    rw [law14_weight_L1]
    by_cases hi : i < t.Kids.length
    · obtain ⟨x, hx⟩ := get_ex hi
      obtain ⟨r, hr⟩ := hf x (List.mem_of_getElem? hx)
      rw [if_pos (by simpa using hi), atI_nat, hx, Option.bind_some, hr, Option.bind_some]
      split
      · exact ⟨_, rfl⟩
      · rw [wrapN (by omega)]
        exact weight_loop t deep slf hs hf k (i + 1) _ (by omega) (by omega)
    · rw [if_neg (by simpa using hi)]; exact ⟨_, rfl⟩
theorem law14_weight_some : ∀ (t : TreeTree) (n : Nat) (deep : Int), szT t ≤ 1000000000 → szT t < n → ∃ r, law14_weight n t deep = some r := by
  intro t
  induction t using tree_ind with
  | h K N ks ih =>
    intro n deep hb hn
    obtain ⟨m, rfl, hlen, hk⟩ := szT_kids hn
    have hl : ks.length ≤ 1000000000 := by have := szL_len ks; simp only [szT] at hb; omega
    have hkb : ∀ k ∈ ks, szT k ≤ 1000000000 := fun k hk => by have := szL_mem hk; simp only [szT] at hb; omega
    rw [law14_weight]
    split
    · exact ⟨_, rfl⟩
    · exact weight_loop (.mk K N ks) deep (law14_weight m) (by simpa [TreeTree_Kids_mk] using hl) (fun k hk' => ih k hk' m _ (hkb k hk') (hk k hk')) m 0 1 (by omega) (by simpa [TreeTree_Kids_mk] using hlen)
theorem law14_TooLarge_some (t : TreeTree) (n : Nat) (hb : szT t ≤ 1000000000) (hn : szT t < n) : ∃ r, law14_TooLarge n t = some r := by
  obtain ⟨r, hr⟩ := law14_weight_some t n 0 hb hn
  rw [law14_TooLarge, hr, Option.bind_some]
  split <;> exact ⟨_, rfl⟩
end Go.G

namespace Go.G
open Go.Av

def cg (cs : List ApiContact) (N : Int) : ApiContact := (cs[N.toNat]?).getD default
def ig (sl : List Int) (N : Int) : Int := (sl[N.toNat]?).getD 0
def ldOp (k : Int) : Int := if k = 0 then 0 else if k = 1 then 1 else if k = 2 then 6 else 7
def jnOp (K k : Int) : Int := if K = 1 then (if k = 0 then 2 else 3) else (if k = 0 then 4 else 5)
def ppOp (K : Int) : Int := if K = 1 then 9 else 10
def seesS (c : ApiContact) : Bool := c.Kind == 2 || c.Kind == 3
theorem codegen_sees_eq (n : Nat) (c : ApiContact) : codegen_sees n c = some (seesS c) := by
  rw [codegen_sees, seesS]
  cases h : (c.Kind == 2) <;> simp

mutual
/-- The code of a tree, over contacts and slots. -/
def layS (cs : List ApiContact) (sl : List Int) : TreeTree → List ApiIns
  | .mk K N ks => if K = 0 then [⟨ldOp (cg cs N).Kind, (cg cs N).A, ig sl N⟩] else layH cs sl K ks
def layH (cs : List ApiContact) (sl : List Int) (K : Int) : List TreeTree → List ApiIns
  | [] => []
  | k :: ks => layS cs sl k ++ layT cs sl K ks
def layT (cs : List ApiContact) (sl : List Int) (K : Int) : List TreeTree → List ApiIns
  | [] => []
  | k :: ks => (if k.Kind = 0 ∧ seesS (cg cs k.N) = false then [⟨jnOp K (cg cs k.N).Kind, (cg cs k.N).A, 0⟩] else ⟨8, ⟨0, 0⟩, 0⟩ :: (layS cs sl k ++ [⟨ppOp K, ⟨0, 0⟩, 0⟩])) ++ layT cs sl K ks
end

theorem layT_len (cs : List ApiContact) (sl : List Int) (K : Int) : ∀ ks : List TreeTree, (∀ k ∈ ks, (layS cs sl k).length + 2 ≤ 3 * szT k) → (layT cs sl K ks).length ≤ 3 * szL ks
  | [], _ => by simp [layT]
  | k :: ks, h => by
    have h1 := h k (by simp)
    have h2 := layT_len cs sl K ks fun k hk => h k (by simp [hk])
    have h3 := szT_pos k
    rw [layT, szL, List.length_append]
    split
    · simp only [List.length_singleton]; omega
    · simp only [List.length_cons, List.length_append, List.length_nil]; omega

theorem layS_len (cs : List ApiContact) (sl : List Int) : ∀ t : TreeTree, (layS cs sl t).length + 2 ≤ 3 * szT t := by
  intro t
  induction t using tree_ind with
  | h K N ks ih =>
    rw [layS, szT]
    split
    · simp only [List.length_singleton]; omega
    · cases ks with
      | nil => simp [layH, szL]
      | cons k ks =>
        have h1 := ih k (by simp)
        have h2 := layT_len cs sl K ks fun k hk => ih k (by simp [hk])
        rw [layH, List.length_append, szL]
        omega

theorem put_eq (n : Nat) (x : ApiIns) (b0 : Str) (cs : List ApiContact) (b2 : List ApiCoil) (b3 : Str) (sl : List Int) (code : List ApiIns) (h : code.length + 1 ≤ 1000000000) :
    codegen_maker_put_v1 n x b0 cs b2 b3 sl code = some (code ++ [x]) := by
  rw [codegen_maker_put_v1, if_pos (by simpa using h)]; rfl

theorem cg_at {cs : List ApiContact} {N : Int} (h0 : 0 ≤ N) (h : N < cs.length) : atI cs N = some (cg cs N) := by
  obtain ⟨m, rfl⟩ := Int.eq_ofNat_of_zero_le h0
  have hm : m < cs.length := by omega
  rw [atI_nat, cg, Int.toNat_natCast, List.getElem?_eq_getElem hm]; rfl
theorem ig_at {sl : List Int} {N : Int} (h0 : 0 ≤ N) (h : N < sl.length) : atI sl N = some (ig sl N) := by
  obtain ⟨m, rfl⟩ := Int.eq_ofNat_of_zero_le h0
  have hm : m < sl.length := by omega
  rw [atI_nat, ig, Int.toNat_natCast, List.getElem?_eq_getElem hm]; rfl

/-- Kinds that are known. -/
def KindsOk (cs : List ApiContact) : Prop := ∀ c ∈ cs, 0 ≤ c.Kind ∧ c.Kind < 4
theorem KindsOk.cg {cs : List ApiContact} (h : KindsOk cs) {N : Int} (h0 : 0 ≤ N) (h1 : N < cs.length) : 0 ≤ (cg cs N).Kind ∧ (cg cs N).Kind < 4 := by
  obtain ⟨m, rfl⟩ := Int.eq_ofNat_of_zero_le h0
  have hm : m < cs.length := by omega
  have e : Go.G.cg cs (m : Int) = cs[m] := by rw [Go.G.cg, Int.toNat_natCast, List.getElem?_eq_getElem hm]; rfl
  rw [e]; exact h _ (List.getElem_mem hm)

theorem Ok_leaf {len : Int} {k : TreeTree} (hk : Ok len k) (h0 : k.Kind = 0) : 0 ≤ k.N ∧ k.N < len := by
  obtain ⟨K, N, ks⟩ := k
  rw [TreeTree_Kind_mk] at h0
  subst h0
  rw [Ok] at hk
  rcases hk with ⟨_, _, h⟩ | ⟨h | h, _⟩
  · exact h
  · omega
  · omega

section
variable {cs : List ApiContact} {sl : List Int} (hk : KindsOk cs) (hsl : sl.length = cs.length) (b0 : Str) (b2 : List ApiCoil) (b3 : Str)
include hk hsl

theorem lay_loop (n : Nat) (t : TreeTree) (hK : t.Kind = 1 ∨ t.Kind = 2) (ks : List TreeTree) (hs : ks.length ≤ 1000000000) (hOk : ∀ k ∈ ks, Ok cs.length k)
    (slf : TreeTree → Str → List ApiContact → List ApiCoil → Str → List Int → List ApiIns → Option (List ApiIns))
    (hf : ∀ k ∈ ks, ∀ code : List ApiIns, code.length + 3 * szT k ≤ 1000000002 → slf k b0 cs b2 b3 sl code = some (code ++ layS cs sl k)) :
    ∀ (m i : Nat) (code : List ApiIns), i ≤ ks.length → ks.length - i < m → code.length + 3 * szL (ks.drop i) ≤ 1000000000 →
    codegen_maker_lay_v1_L1 n t b0 cs b2 b3 sl ks slf m code (i : Int) = some (code ++ layT cs sl t.Kind (ks.drop i))
  | 0, i, code, h, hm, _ => absurd hm (Nat.not_lt_zero _)
  | m + 1, i, code, h, hm, hc => by
    rw [codegen_maker_lay_v1_L1]
    by_cases hi : i < ks.length
    · obtain ⟨x, hx⟩ := get_ex hi
      have hmem := List.mem_of_getElem? hx
      rw [drop_cons hx, szL] at hc
      have hp := szT_pos x
      have hlx := layS_len cs sl x
      have ih := fun code' (h' : code'.length + 3 * szL (ks.drop (i + 1)) ≤ 1000000000) => lay_loop n t hK ks hs hOk slf hf m (i + 1) code' (by omega) (by omega) h'
      rw [if_pos (by simpa using hi), atI_nat, hx, Option.bind_some, drop_cons hx, layT]
      have hpush : codegen_maker_lay_v1_J2 n t b0 cs b2 b3 sl code (i : Int) (codegen_maker_lay_v1_L1 n t b0 cs b2 b3 sl ks slf m) x slf
          = some (code ++ ((⟨8, ⟨0, 0⟩, 0⟩ :: (layS cs sl x ++ [⟨ppOp t.Kind, ⟨0, 0⟩, 0⟩])) ++ layT cs sl t.Kind (ks.drop (i + 1)))) := by
        rw [codegen_maker_lay_v1_J2, put_eq _ _ _ _ _ _ _ _ (by omega), Option.bind_some, hf x hmem _ (by simp; omega), Option.bind_some, wrapN (by omega)]
        have h0 : ¬ t.Kind = 0 := by omega
        rw [if_neg h0]
        rcases hK with hK | hK
        · rw [if_pos hK, put_eq _ _ _ _ _ _ _ _ (by simp; omega), Option.bind_some, ih _ (by simp; omega)]
          simp [ppOp, hK]
        · rw [if_neg (by omega), if_pos hK, put_eq _ _ _ _ _ _ _ _ (by simp; omega), Option.bind_some, ih _ (by simp; omega)]
          simp [ppOp, hK]
      by_cases hk0 : x.Kind = 0
      · obtain ⟨n0, n1⟩ := Ok_leaf (hOk x hmem) hk0
        rw [if_pos (by simpa using hk0), cg_at n0 n1, Option.bind_some, codegen_sees_eq, Option.bind_some]
        obtain ⟨c0, c1⟩ := hk.cg n0 n1
        cases hse : seesS (cg cs x.N) with
        | true =>
          rw [if_neg (show ¬ (!true) = true by simp), if_neg (show ¬ (x.Kind = 0 ∧ true = false) by simp)]
          exact hpush
        | false =>
          rw [if_pos (show (!false) = true from rfl), if_pos (show x.Kind = 0 ∧ false = false from ⟨hk0, rfl⟩)]
          have hkd : (cg cs x.N).Kind = 0 ∨ (cg cs x.N).Kind = 1 := by
            simp only [seesS, Bool.or_eq_false_iff, beq_eq_false_iff_ne] at hse
            omega
          have h0 : ¬ t.Kind = 0 := by omega
          rw [if_neg h0, wrapN (by omega)]
          rcases hK with hK | hK <;> rcases hkd with hkd | hkd
          · rw [if_pos hK, if_pos hkd, put_eq _ _ _ _ _ _ _ _ (by omega), Option.bind_some, ih _ (by simp; omega)]
            simp [jnOp, hK, hkd]
          · rw [if_pos hK, if_neg (by omega), if_pos hkd, put_eq _ _ _ _ _ _ _ _ (by omega), Option.bind_some, ih _ (by simp; omega)]
            simp [jnOp, hK, hkd]
          · rw [if_neg (by omega), if_pos hK, if_pos hkd, put_eq _ _ _ _ _ _ _ _ (by omega), Option.bind_some, ih _ (by simp; omega)]
            simp [jnOp, hK, hkd]
          · rw [if_neg (by omega), if_pos hK, if_neg (by omega), if_pos hkd, put_eq _ _ _ _ _ _ _ _ (by omega), Option.bind_some, ih _ (by simp; omega)]
            simp [jnOp, hK, hkd]
      · rw [if_neg (by simpa using hk0), if_neg (fun q => hk0 q.1)]
        exact hpush
    · rw [if_neg (by simpa using hi), List.drop_eq_nil_of_le (by omega), layT, List.append_nil]

theorem lay_eq : ∀ (t : TreeTree) (n : Nat) (code : List ApiIns), Ok cs.length t → szT t ≤ 300000000 → code.length + 3 * szT t ≤ 1000000002 → szT t < n → codegen_maker_lay_v1 n t b0 cs b2 b3 sl code = some (code ++ layS cs sl t) := by
  intro t
  induction t using tree_ind with
  | h K N ks ih =>
    intro n code hOk hb hc hn
    obtain ⟨m, rfl, hlen, hkm⟩ := szT_kids hn
    rw [codegen_maker_lay_v1, layS]
    rw [szT] at hc hb
    rw [Ok] at hOk
    rcases hOk with ⟨rfl, rfl, n0, n1⟩ | ⟨hK, rfl, h2, hne, hks⟩
    · obtain ⟨c0, c1⟩ := hk.cg n0 n1
      rw [if_pos (show (0 : Int) = 0 from rfl), if_pos (show ((TreeTree.mk 0 N []).Kind == 0) = true from rfl)]
      simp only [TreeTree_Kind_mk, TreeTree_N_mk, TreeTree_Kids_mk]
      rw [cg_at n0 n1, Option.bind_some, ig_at n0 (by omega)]
      have hkd : (cg cs N).Kind = 0 ∨ (cg cs N).Kind = 1 ∨ (cg cs N).Kind = 2 ∨ (cg cs N).Kind = 3 := by omega
      have hl1 : code.length + 1 ≤ 1000000000 := by omega
      rcases hkd with hkd | hkd | hkd | hkd <;> simp [hkd, ldOp, put_eq _ _ _ _ _ _ _ _ hl1]
    · rw [OkL_iff] at hks
      have hK0 : ¬ K = 0 := by omega
      rw [if_neg (show ¬ ((TreeTree.mk K 0 ks).Kind == 0) = true by rw [TreeTree_Kind_mk]; simpa using hK0), if_neg hK0, TreeTree_Kids_mk]
      match ks, h2, hc, hb, hks, ih, hlen, hkm with
      | k :: ks, h2, hc, hb, hks, ih, hlen, hkm =>
        rw [szL] at hc hb
        have hlk := layS_len cs sl k
        have hll := szL_len ks
        rw [show atI (k :: ks) 0 = some k from rfl, Option.bind_some, ih k (by simp) m code (hks k (by simp)) (by omega) (by omega) (hkm k (by simp)), Option.bind_some]
        rw [if_pos (by simp; omega)]
        simp only [List.drop_succ_cons, List.drop_zero, Option.bind_some]
        have := lay_loop hk hsl b0 b2 b3 m (.mk K 0 (k :: ks)) hK ks (by omega) (fun j hj => hks j (by simp [hj])) (codegen_maker_lay_v1 m)
          (fun j hj code' h' => ih j (by simp [hj]) m code' (hks j (by simp [hj])) (by have := szL_mem hj; omega) h' (hkm j (by simp [hj]))) m 0 (code ++ layS cs sl k) (by omega) (by simp at hlen; omega) (by simp; omega)
        rw [show ((0 : Nat) : Int) = 0 from rfl, List.drop_zero] at this
        rw [this, layH, List.append_assoc]
        rfl
end

/-! ### slots -/
/-- The slots of the contacts, from the first one on. -/
def slotsS : List ApiContact → Int → List Int
  | [], _ => []
  | c :: cs, s => if seesS c then s :: slotsS cs (s + 1) else 0 :: slotsS cs s
theorem slotsS_len : ∀ (cs : List ApiContact) (s : Int), (slotsS cs s).length = cs.length
  | [], _ => rfl
  | c :: cs, s => by rw [slotsS]; split <;> simp [slotsS_len]

theorem slots_loop (n : Nat) (r : ApiRung) (t : TreeTree) (hs : r.Contacts.length ≤ 1000000) : ∀ (m i : Nat) (s : Int) (pre : List Int), i ≤ r.Contacts.length → r.Contacts.length - i < m → pre.length = i → 0 ≤ s → s + (r.Contacts.length - i : Nat) ≤ 100000000 →
    codegen_Tree_L2 n r t m s (i : Int) (pre ++ List.replicate (r.Contacts.length - i) 0) = codegen_Tree_J1 n r t (pre ++ slotsS (r.Contacts.drop i) s)
  | 0, i, s, pre, h, hm, _, _, _ => absurd hm (Nat.not_lt_zero _)
  | m + 1, i, s, pre, h, hm, hp, h0, h1 => by
    rw [codegen_Tree_L2]
    by_cases hi : i < r.Contacts.length
    · obtain ⟨x, hx⟩ := get_ex hi
      obtain ⟨q, hq⟩ : ∃ q, r.Contacts.length - i = q + 1 := ⟨r.Contacts.length - i - 1, by omega⟩
      have hq' : r.Contacts.length - (i + 1) = q := by omega
      rw [if_pos (by simpa using hi), atI_nat, hx, Option.bind_some, codegen_sees_eq, Option.bind_some, drop_cons hx, slotsS, hq, List.replicate_succ]
      have hat : atI (pre ++ 0 :: List.replicate q (0 : Int)) (i : Int) = some 0 := by
        rw [atI_nat, List.getElem?_append_right (by omega), hp]; simp
      have hset : (pre ++ 0 :: List.replicate q (0 : Int)).set i s = (pre ++ [s]) ++ List.replicate q 0 := by
        rw [List.set_append_right _ _ (by omega), hp]; simp
      cases hse : seesS x with
      | true =>
        have := slots_loop n r t hs m (i + 1) (s + 1) (pre ++ [s]) (by omega) (by omega) (by simp [hp]) (by omega) (by omega)
        rw [hq'] at this
        rw [if_pos rfl, if_pos rfl, hat, Option.bind_some, Int.toNat_natCast, hset, Option.bind_some, wrapN (by omega), wrapI (by omega) (by omega), this]
        simp
      | false =>
        have := slots_loop n r t hs m (i + 1) s (pre ++ [0]) (by omega) (by omega) (by simp [hp]) h0 (by omega)
        rw [hq'] at this
        rw [if_neg (by simp), if_neg (by simp), wrapN (by omega)]
        rw [show pre ++ 0 :: List.replicate q (0 : Int) = (pre ++ [0]) ++ List.replicate q 0 by simp, this]
        simp
    · have : r.Contacts.length - i = 0 := by omega
      rw [if_neg (by simpa using hi), List.drop_eq_nil_of_le (by omega), slotsS, this]; rfl

/-- Whether a contact's kind is unknown. -/
def badK (c : ApiContact) : Bool := decide (c.Kind < 0) || decide (c.Kind ≥ 4)
theorem codegen_Tree_1_eq (n : Nat) (c : ApiContact) : codegen_Tree_1 n c = some (badK c) := by
  rw [codegen_Tree_1, badK]
  by_cases h : c.Kind < 0 <;> simp [h]
theorem c36_loop (n : Nat) (s : List ApiContact) (hs : s.length ≤ 1000000000) : ∀ (k i : Nat), i ≤ s.length → s.length - i < k →
    ∃ r, slices_IndexFunc_api_Contact_c47_L1 n s k (i : Int) = some r ∧ decide (r ≥ 0) = (s.drop i).any badK
  | 0, i, h, hk => absurd hk (Nat.not_lt_zero _)
  | k + 1, i, h, hk => by
    rw [slices_IndexFunc_api_Contact_c47_L1]
    by_cases hi : i < s.length
    · obtain ⟨x, hx⟩ := get_ex hi
      rw [if_pos (by simpa using hi), atI_nat, hx, Option.bind_some, codegen_Tree_1_eq, Option.bind_some, drop_cons hx, List.any_cons]
      cases hc : badK x with
      | true => exact ⟨(i : Int), by simp, by simp⟩
      | false =>
        rw [wrapN (by omega)]
        obtain ⟨r, h1, h2⟩ := c36_loop n s hs k (i + 1) (by omega) (by omega)
        exact ⟨r, by simpa using h1, by simpa using h2⟩
    · rw [if_neg (by simpa using hi)]
      refine ⟨-1, rfl, ?_⟩
      rw [List.drop_eq_nil_of_le (by omega)]; rfl
theorem c36_eq (n : Nat) (s : List ApiContact) (hs : s.length ≤ 1000000000) (h : s.length < n) : slices_ContainsFunc_api_Contact_c47 n s = some (s.any badK) := by
  obtain ⟨r, h1, h2⟩ := c36_loop n s hs n 0 (by omega) (by omega)
  simp only [slices_ContainsFunc_api_Contact_c47, slices_IndexFunc_api_Contact_c47]
  rw [show (0 : Int) = ((0 : Nat) : Int) from rfl, h1, Option.bind_some]
  rw [List.drop_zero] at h2
  exact congrArg some h2

/-- What the compiler of a tree answers. -/
def treeS (r : ApiRung) (t : TreeTree) (slot : Int) : List ApiIns × Int :=
  if checkS t r.Contacts.length ≠ 0 then ([], checkS t r.Contacts.length) else if r.Contacts.any badK then ([], 8) else if slot < 0 ∨ slot > 16384 then ([], 3) else (layS r.Contacts (slotsS r.Contacts slot) t, 0)

theorem codegen_Tree_eq (n : Nat) (r : ApiRung) (t : TreeTree) (slot : Int) (hb : szT t ≤ 300000000) (hn : szT t < n) (hl : r.Contacts.length ≤ 1000000) (hln : r.Contacts.length < n) : codegen_Tree n r t slot = some (treeS r t slot) := by
  rw [codegen_Tree, treeS, tree_Check_eq t _ n (by omega) hn, Option.bind_some]
  by_cases hc : checkS t r.Contacts.length = 0
  · rw [if_neg (show ¬ (checkS t r.Contacts.length != 0) = true by simp [hc]), if_neg (show ¬ (checkS t r.Contacts.length ≠ 0) by simp [hc]), c36_eq n _ (by omega) hln, Option.bind_some]
    cases hbad : r.Contacts.any badK with
    | true => simp
    | false =>
      rw [if_neg (show ¬ false = true by simp), if_neg (show ¬ false = true by simp)]
      by_cases h0 : slot < 0
      · simp [h0]
      by_cases h1 : slot > 16384
      · simp [h0, h1]
      rw [if_neg (show ¬ (decide (slot < 0)) = true by simpa using h0), if_neg (show ¬ (decide (slot > 16384)) = true by simpa using h1), if_neg (show ¬ (slot < 0 ∨ slot > 16384) by omega), if_pos (by omega), Option.bind_some]
      have := slots_loop n r t hl n 0 slot [] (by omega) (by omega) rfl (by omega) (by omega)
      rw [List.nil_append, List.nil_append, Nat.sub_zero, List.drop_zero, show ((0 : Nat) : Int) = 0 from rfl] at this
      rw [this, codegen_Tree_J1]
      obtain ⟨g1, _, _⟩ := (checkS_iff t r.Contacts.length).1 hc
      have hk : KindsOk r.Contacts := fun c hc => by
        have := List.any_eq_false.1 hbad c hc
        simp only [badK, Bool.or_eq_true, decide_eq_true_eq, not_or] at this
        omega
      rw [lay_eq hk (slotsS_len _ _) _ _ _ t n [] g1 (by omega) (by simp; omega) hn, Option.bind_some, List.nil_append]
  · simp [hc]
end Go.G

namespace Go.G
open Go.Av

/-! ### what is too large -/
theorem tl12_loop (r : ApiRung) (hn : r.Contacts.length ≤ 1500000) : ∀ (k i : Nat) (p : Int), i ≤ r.Contacts.length → r.Contacts.length - i < k → ∃ b : Int, law12_TooLarge_L2 r k p i = some b ∧ (¬ b > 0 → r.Contacts.length ≤ 60)
  | 0, i, p, h, hk => absurd hk (Nat.not_lt_zero _)
  | k + 1, i, p, h, hk => by
    rw [law12_TooLarge_L2]
    by_cases hi : i < r.Contacts.length
    · obtain ⟨x, hx⟩ := get_ex hi
      rw [if_pos (by simpa using hi), atI_nat, hx, Option.bind_some, wrapN (by omega)]
      exact tl12_loop r hn k (i + 1) _ (by omega) (by omega)
    · rw [if_neg (by simpa using hi), law12_TooLarge_J1]
      split
      · exact ⟨1, rfl, fun h => absurd (by decide) h⟩
      · split
        · exact ⟨1, rfl, fun h => absurd (by decide) h⟩
        · rename_i h2
          rw [decide_eq_true_eq] at h2
          exact ⟨0, rfl, fun _ => by omega⟩
theorem tl12 (r : ApiRung) (n : Nat) (hn : r.Contacts.length ≤ 1500000) (hf : r.Contacts.length < n) : ∃ b : Int, law12_TooLarge n r = some b ∧ (¬ b > 0 → r.Contacts.length ≤ 60) :=
  tl12_loop r hn n 0 0 (by omega) (by omega)

/-! ### slots -/
theorem sees_ge {c : ApiContact} (h : 0 ≤ c.Kind ∧ c.Kind < 4) : seesS c = decide (c.Kind ≥ 2) := by
  rw [Bool.eq_iff_iff]
  simp only [seesS, Bool.or_eq_true, beq_iff_eq, decide_eq_true_eq]
  omega

theorem slotOf_loop (r : ApiRung) (hk : KindsOk r.Contacts) (hl : r.Contacts.length ≤ 1000000) {i : Nat} {c : ApiContact} (hi : r.Contacts[i]? = some c) : ∀ (m p : Nat) (s : Int), p ≤ i → i - p < m → 0 ≤ s → s + (i - p : Nat) ≤ 100000000 →
    ∃ v, ref17_slotOf_L1 r (i : Int) m s (p : Int) = some v ∧ (seesS c = true → (slotsS (r.Contacts.drop p) s)[i - p]? = some v)
  | 0, p, s, h, hm, _, _ => absurd hm (Nat.not_lt_zero _)
  | m + 1, p, s, h, hm, h0, h1 => by
    have hlt : i < r.Contacts.length := (List.getElem?_eq_some_iff.1 hi).1
    rw [ref17_slotOf_L1]
    by_cases hp : p < i
    · obtain ⟨x, hx⟩ := get_ex (show p < r.Contacts.length by omega)
      obtain ⟨q, hq⟩ : ∃ q, i - p = q + 1 := ⟨i - p - 1, by omega⟩
      have hq' : i - (p + 1) = q := by omega
      rw [if_pos (by rw [decide_eq_true_eq]; omega), atI_nat, hx, Option.bind_some, drop_cons hx, slotsS, hq, wrapN (by omega)]
      have hse := sees_ge (hk x (List.mem_of_getElem? hx))
      by_cases hx2 : x.Kind ≥ 2
      · obtain ⟨v, e1, e2⟩ := slotOf_loop r hk hl hi m (p + 1) (s + 1) (by omega) (by omega) (by omega) (by omega)
        rw [if_pos (by simpa using hx2), wrapI (by omega) (by omega)]
        refine ⟨v, e1, fun hs => ?_⟩
        rw [if_pos (by rw [hse]; simpa using hx2), List.getElem?_cons_succ, ← hq']
        exact e2 hs
      · obtain ⟨v, e1, e2⟩ := slotOf_loop r hk hl hi m (p + 1) s (by omega) (by omega) (by omega) (by omega)
        rw [if_neg (by simpa using hx2)]
        refine ⟨v, e1, fun hs => ?_⟩
        rw [if_neg (by rw [hse]; simpa using hx2), List.getElem?_cons_succ, ← hq']
        exact e2 hs
    · have : p = i := by omega
      subst this
      rw [if_neg (by simp)]
      refine ⟨s, rfl, fun hs => ?_⟩
      rw [drop_cons hi, slotsS, if_pos hs, Nat.sub_self]; rfl

theorem slots_not {c : ApiContact} : ∀ (cs : List ApiContact) (s : Int) (i : Nat), cs[i]? = some c → seesS c = false → (slotsS cs s)[i]? = some 0
  | [], _, i, h, _ => by simp at h
  | d :: cs, s, 0, h, hs => by
    rw [List.getElem?_cons_zero] at h
    cases h
    rw [slotsS, hs, if_neg (by simp)]; rfl
  | d :: cs, s, i + 1, h, hs => by
    rw [List.getElem?_cons_succ] at h
    rw [slotsS]
    split
    · rw [List.getElem?_cons_succ]; exact slots_not cs _ i h hs
    · rw [List.getElem?_cons_succ]; exact slots_not cs _ i h hs

theorem ref17_load_eq (n : Nat) (r : ApiRung) (hk : KindsOk r.Contacts) (hl : r.Contacts.length ≤ 1000000) (hn : r.Contacts.length < n) {N slot : Int} (h0 : 0 ≤ N) (h1 : N < r.Contacts.length) (hs0 : 0 ≤ slot) (hs1 : slot ≤ 16384) :
    ref17_load n r N slot = some ⟨ldOp (cg r.Contacts N).Kind, (cg r.Contacts N).A, ig (slotsS r.Contacts slot) N⟩ := by
  obtain ⟨i, rfl⟩ := Int.eq_ofNat_of_zero_le h0
  have hi : i < r.Contacts.length := by omega
  obtain ⟨c, hc⟩ := get_ex hi
  have hcg : cg r.Contacts (i : Int) = c := by rw [cg, Int.toNat_natCast, hc]; rfl
  obtain ⟨k0, k1⟩ := hk c (List.mem_of_getElem? hc)
  have hse := sees_ge ⟨k0, k1⟩
  rw [ref17_load, atI_nat, hc, Option.bind_some, hcg]
  by_cases h2 : c.Kind < 2
  · have hz : ig (slotsS r.Contacts slot) (i : Int) = 0 := by
      rw [ig, Int.toNat_natCast, slots_not _ _ i hc (by rw [hse]; simpa using h2)]; rfl
    rw [if_pos (by simpa using h2), hz]
    have : c.Kind = 0 ∨ c.Kind = 1 := by omega
    rcases this with e | e <;> simp [ldOp, e]
  · obtain ⟨v, e1, e2⟩ := slotOf_loop r hk hl hc n 0 slot (by omega) (by omega) (by omega) (by omega)
    have hv : ig (slotsS r.Contacts slot) (i : Int) = v := by
      have := e2 (by rw [hse]; simpa using h2)
      rw [List.drop_zero, Nat.sub_zero] at this
      rw [ig, Int.toNat_natCast, this]; rfl
    rw [if_neg (by simpa using h2), ref17_slotOf, show (0 : Int) = ((0 : Nat) : Int) from rfl, e1, Option.bind_some, hv, wrapI (by omega) (by omega)]
    have : c.Kind = 2 ∨ c.Kind = 3 := by omega
    rcases this with e | e <;> simp [ldOp, e]

/-! ### the reference's code of a tree -/
theorem jn_eq {K k : Int} (hK : K = 1 ∨ K = 2) (hk : k = 0 ∨ k = 1) : IntKind.i64.wrap (IntKind.i64.wrap (2 * K) + k) = jnOp K k := by
  rcases hK with rfl | rfl <;> rcases hk with rfl | rfl <;> rfl
theorem pp_eq {K : Int} (hK : K = 1 ∨ K = 2) : IntKind.i64.wrap (8 + K) = ppOp K := by
  rcases hK with rfl | rfl <;> rfl

section
variable {r : ApiRung} {slot : Int} (hk : KindsOk r.Contacts)
include hk

theorem o0_loop (t : TreeTree) (hK : t.Kind = 1 ∨ t.Kind = 2) (hs : t.Kids.length ≤ 1000000000) (hOk : ∀ k ∈ t.Kids, Ok r.Contacts.length k)
    (slf : ApiRung → Ref14Tree → Int → Option (List ApiIns)) (sl : List Int) (hf : ∀ k ∈ t.Kids, slf r (ofT k) slot = some (layS r.Contacts sl k)) :
    ∀ (m i : Nat) (code : List ApiIns), i ≤ t.Kids.length → t.Kids.length - i < m → code.length + 3 * szL (t.Kids.drop i) ≤ 1000000000 →
    ref17_lay_o0_L1 r (ofT t) slot slf m code (i : Int) = some (code ++ layT r.Contacts sl t.Kind (t.Kids.drop i))
  | 0, i, code, h, hm, _ => absurd hm (Nat.not_lt_zero _)
  | m + 1, i, code, h, hm, hc => by
    rw [ref17_lay_o0_L1, ofT_Kids, List.length_map]
    by_cases hi : i < t.Kids.length
    · obtain ⟨x, hx⟩ := get_ex hi
      have hmem := List.mem_of_getElem? hx
      rw [drop_cons hx, szL] at hc
      have hp := szT_pos x
      have hlx := layS_len r.Contacts sl x
      have ih := fun code' (h' : code'.length + 3 * szL (t.Kids.drop (i + 1)) ≤ 1000000000) => o0_loop t hK hs hOk slf sl hf m (i + 1) code' (by omega) (by omega) h'
      rw [if_pos (by simpa using hi), atI_map ofT _ i hx, Option.bind_some, drop_cons hx, layT]
      have hpush : ref17_lay_o0_J2 r (ofT t) slot code (i : Int) (ref17_lay_o0_L1 r (ofT t) slot slf m) (ofT x) slf
          = some (code ++ ((⟨8, ⟨0, 0⟩, 0⟩ :: (layS r.Contacts sl x ++ [⟨ppOp t.Kind, ⟨0, 0⟩, 0⟩])) ++ layT r.Contacts sl t.Kind (t.Kids.drop (i + 1)))) := by
        rw [ref17_lay_o0_J2, if_pos (by simp; omega), Option.bind_some, hf x hmem, Option.bind_some, if_pos (by simp; omega), Option.bind_some, if_pos (by simp; omega), Option.bind_some, ofT_Kind, pp_eq hK, wrapN (by omega), ih _ (by simp; omega)]
        simp
      by_cases hk0 : x.Kind = 0
      · obtain ⟨n0, n1⟩ := Ok_leaf (hOk x hmem) hk0
        rw [if_pos (by rw [ofT_Kind]; simpa using hk0), ofT_N, cg_at n0 n1, Option.bind_some]
        have hkd := hk.cg n0 n1
        have hse := sees_ge hkd
        by_cases h2 : (cg r.Contacts x.N).Kind < 2
        · rw [if_pos (by simpa using h2), if_pos (show x.Kind = 0 ∧ seesS (cg r.Contacts x.N) = false from ⟨hk0, by rw [hse]; simpa using h2⟩), ofT_Kind, jn_eq hK (by omega), if_pos (by simp; omega), Option.bind_some, wrapN (by omega), ih _ (by simp; omega)]
          simp
        · rw [if_neg (by simpa using h2), if_neg (show ¬ (x.Kind = 0 ∧ seesS (cg r.Contacts x.N) = false) from fun q => by rw [hse] at q; exact h2 (by simpa using q.2))]
          exact hpush
      · rw [if_neg (by rw [ofT_Kind]; simpa using hk0), if_neg (fun q => hk0 q.1)]
        exact hpush
    · rw [if_neg (by simpa using hi), List.drop_eq_nil_of_le (by omega), layT, List.append_nil]

theorem r_loop (t : TreeTree) (hK : t.Kind = 1 ∨ t.Kind = 2) (hs : t.Kids.length ≤ 1000000000) (hOk : ∀ k ∈ t.Kids, Ok r.Contacts.length k)
    (slf : ApiRung → Ref14Tree → Int → Option (List ApiIns)) (sl : List Int) (hf : ∀ k ∈ t.Kids, slf r (ofT k) slot = some (layS r.Contacts sl k)) :
    ∀ (m i : Nat) (code : List ApiIns), i ≤ t.Kids.length → t.Kids.length - i < m → code.length + 3 * szL (t.Kids.drop i) ≤ 1000000000 →
    ref17_lay_L1 r (ofT t) slot slf m code (i : Int) = some (code ++ layT r.Contacts sl t.Kind (t.Kids.drop i))
  | 0, i, code, h, hm, _ => absurd hm (Nat.not_lt_zero _)
  | m + 1, i, code, h, hm, hc => by
    rw [ref17_lay_L1, ofT_Kids, List.length_map]
    by_cases hi : i < t.Kids.length
    · obtain ⟨x, hx⟩ := get_ex hi
      have hmem := List.mem_of_getElem? hx
      rw [drop_cons hx, szL] at hc
      have hp := szT_pos x
      have hlx := layS_len r.Contacts sl x
      have ih := fun code' (h' : code'.length + 3 * szL (t.Kids.drop (i + 1)) ≤ 1000000000) => r_loop t hK hs hOk slf sl hf m (i + 1) code' (by omega) (by omega) h'
      rw [if_pos (by simpa using hi), atI_map ofT _ i hx, Option.bind_some, drop_cons hx, layT]
      have hpush : ref17_lay_J2 r (ofT t) slot code (i : Int) (ref17_lay_L1 r (ofT t) slot slf m) (ofT x) slf
          = some (code ++ ((⟨8, ⟨0, 0⟩, 0⟩ :: (layS r.Contacts sl x ++ [⟨ppOp t.Kind, ⟨0, 0⟩, 0⟩])) ++ layT r.Contacts sl t.Kind (t.Kids.drop (i + 1)))) := by
        rw [ref17_lay_J2, if_pos (by simp; omega), Option.bind_some, hf x hmem, Option.bind_some, if_pos (by simp; omega), Option.bind_some, if_pos (by simp; omega), Option.bind_some, ofT_Kind, pp_eq hK, wrapN (by omega), ih _ (by simp; omega)]
        simp
      by_cases hk0 : x.Kind = 0
      · obtain ⟨n0, n1⟩ := Ok_leaf (hOk x hmem) hk0
        rw [if_pos (by rw [ofT_Kind]; simpa using hk0), ofT_N, cg_at n0 n1, Option.bind_some]
        have hkd := hk.cg n0 n1
        have hse := sees_ge hkd
        by_cases h2 : (cg r.Contacts x.N).Kind < 2
        · rw [if_pos (by simpa using h2), if_pos (show x.Kind = 0 ∧ seesS (cg r.Contacts x.N) = false from ⟨hk0, by rw [hse]; simpa using h2⟩), ofT_Kind, jn_eq hK (by omega), if_pos (by simp; omega), Option.bind_some, wrapN (by omega), ih _ (by simp; omega)]
          simp
        · rw [if_neg (by simpa using h2), if_neg (show ¬ (x.Kind = 0 ∧ seesS (cg r.Contacts x.N) = false) from fun q => by rw [hse] at q; exact h2 (by simpa using q.2))]
          exact hpush
      · rw [if_neg (by rw [ofT_Kind]; simpa using hk0), if_neg (fun q => hk0 q.1)]
        exact hpush
    · rw [if_neg (by simpa using hi), List.drop_eq_nil_of_le (by omega), layT, List.append_nil]

theorem o0_eq (hl : r.Contacts.length ≤ 1000000) (hs0 : 0 ≤ slot) (hs1 : slot ≤ 16384) (M : Nat) (slf : ApiRung → Ref14Tree → Int → Option (List ApiIns)) (hf : ∀ k, szT k < M → Ok r.Contacts.length k → slf r (ofT k) slot = some (layS r.Contacts (slotsS r.Contacts slot) k)) :
    ∀ (t : TreeTree) (n : Nat), Ok r.Contacts.length t → szT t ≤ M → szT t ≤ 300000000 → szT t + r.Contacts.length < n → ref17_lay_o0 slf n r (ofT t) slot = some (layS r.Contacts (slotsS r.Contacts slot) t) := by
  intro t
  induction t using tree_ind with
  | h K N ks ih =>
    intro n hOk hM hb hn
    obtain ⟨m, rfl, hlen, hkm⟩ := szT_kids (n := n) (K := K) (N := N) (ks := ks) (by omega)
    have hOk0 := hOk
    rw [ref17_lay_o0, layS]
    rw [szT] at hb hM hn
    rw [Ok] at hOk
    rcases hOk with ⟨rfl, rfl, n0, n1⟩ | ⟨hK, rfl, h2, hne, hks⟩
    · rw [if_pos (show (0 : Int) = 0 from rfl), if_pos (by rw [ofT_Kind]; rfl), ofT_N, TreeTree_N_mk, ref17_load_eq m r hk hl (by omega) n0 n1 hs0 hs1]; rfl
    · rw [OkL_iff] at hks
      have hK0 : ¬ K = 0 := by omega
      rw [if_neg (by rw [ofT_Kind, TreeTree_Kind_mk]; simpa using hK0), if_neg hK0]
      match ks, h2, hb, hM, hn, hks, ih, hlen, hkm, hOk0 with
      | k :: ks, h2, hb, hM, hn, hks, ih, hlen, hkm, hOk0 =>
        have hsl : szL (k :: ks) = szT k + szL ks := rfl
        rw [hsl] at hb hM hn
        have hll := szL_len ks
        have hlk := layS_len r.Contacts (slotsS r.Contacts slot) k
        rw [ofT_Kids, TreeTree_Kids_mk, show atI ((k :: ks).map ofT) 0 = some (ofT k) from rfl, Option.bind_some, ih k (by simp) m (hks k (by simp)) (by omega) (by omega) (by omega), Option.bind_some]
        have := o0_loop (slot := slot) hk (.mk K 0 (k :: ks)) hK (by simp [TreeTree_Kids_mk]; omega) hks slf (slotsS r.Contacts slot) (fun j hj => hf j (by have := szL_mem hj; rw [TreeTree_Kids_mk, hsl] at this; omega) (hks j hj)) m 1 (layS r.Contacts (slotsS r.Contacts slot) k) (by simp [TreeTree_Kids_mk]) (by simp [TreeTree_Kids_mk]; omega) (by simp [TreeTree_Kids_mk]; omega)
        rw [show ((1 : Nat) : Int) = 1 from rfl] at this
        rw [this, layH]
        simp [TreeTree_Kids_mk, TreeTree_Kind_mk]

theorem rlay_eq (hl : r.Contacts.length ≤ 1000000) (hs0 : 0 ≤ slot) (hs1 : slot ≤ 16384) : ∀ (M : Nat) (t : TreeTree) (n : Nat), szT t < M → Ok r.Contacts.length t → szT t ≤ 300000000 → szT t + r.Contacts.length < n → ref17_lay n r (ofT t) slot = some (layS r.Contacts (slotsS r.Contacts slot) t)
  | 0, t, n, h, _, _, _ => absurd h (Nat.not_lt_zero _)
  | M + 1, .mk K N ks, n, hM, hOk, hb, hn => by
    obtain ⟨m, rfl, hlen, hkm⟩ := szT_kids (n := n) (K := K) (N := N) (ks := ks) (by omega)
    have hOk0 := hOk
    rw [ref17_lay, layS]
    rw [szT] at hb hM hn
    rw [Ok] at hOk
    rcases hOk with ⟨rfl, rfl, n0, n1⟩ | ⟨hK, rfl, h2, hne, hks⟩
    · rw [if_pos (show (0 : Int) = 0 from rfl), if_pos (by rw [ofT_Kind]; rfl), ofT_N, TreeTree_N_mk, ref17_load_eq m r hk hl (by omega) n0 n1 hs0 hs1]; rfl
    · rw [OkL_iff] at hks
      have hK0 : ¬ K = 0 := by omega
      rw [if_neg (by rw [ofT_Kind, TreeTree_Kind_mk]; simpa using hK0), if_neg hK0]
      match ks, h2, hb, hM, hn, hks, hlen, hkm, hOk0 with
      | k :: ks, h2, hb, hM, hn, hks, hlen, hkm, hOk0 =>
        have hsl : szL (k :: ks) = szT k + szL ks := rfl
        rw [hsl] at hb hM hn
        have hll := szL_len ks
        have hlk := layS_len r.Contacts (slotsS r.Contacts slot) k
        have ihM := fun (j : TreeTree) (h1 : szT j ≤ szT k + szL ks) (h2 : Ok r.Contacts.length j) => rlay_eq hl hs0 hs1 M j m (by omega) h2 (by omega) (by omega)
        rw [ofT_Kids, TreeTree_Kids_mk, show atI ((k :: ks).map ofT) 0 = some (ofT k) from rfl, Option.bind_some,
          o0_eq hk hl hs0 hs1 (szT k) (ref17_lay m) (fun j hj hj2 => ihM j (by omega) hj2) k m (hks k (by simp)) (Nat.le_refl _) (by omega) (by omega), Option.bind_some]
        have := r_loop (slot := slot) hk (.mk K 0 (k :: ks)) hK (by simp [TreeTree_Kids_mk]; omega) hks (ref17_lay m) (slotsS r.Contacts slot) (fun j hj => ihM j (by have := szL_mem hj; rw [TreeTree_Kids_mk, hsl] at this; omega) (hks j hj)) m 1 (layS r.Contacts (slotsS r.Contacts slot) k) (by simp [TreeTree_Kids_mk]) (by simp [TreeTree_Kids_mk]; omega) (by simp [TreeTree_Kids_mk]; omega)
        rw [show ((1 : Nat) : Int) = 1 from rfl] at this
        rw [this, layH]
        simp [TreeTree_Kids_mk, TreeTree_Kind_mk]
end

theorem rkinds_loop (n : Nat) (r : ApiRung) (t : Ref14Tree) (slot : Int) (hs : r.Contacts.length ≤ 1000000) : ∀ (m i : Nat), i ≤ r.Contacts.length → r.Contacts.length - i < m →
    ref17_Tree_L2 n r t slot m (i : Int) = if (r.Contacts.drop i).any badK then some ([], 8) else ref17_Tree_J1 n r t slot
  | 0, i, h, hm => absurd hm (Nat.not_lt_zero _)
  | m + 1, i, h, hm => by
    rw [ref17_Tree_L2]
    by_cases hi : i < r.Contacts.length
    · obtain ⟨x, hx⟩ := get_ex hi
      rw [if_pos (by simpa using hi), atI_nat, hx, Option.bind_some, drop_cons hx, List.any_cons, wrapN (by omega), rkinds_loop n r t slot hs m (i + 1) (by omega) (by omega)]
      by_cases h0 : x.Kind < 0
      · simp [h0, badK]
      by_cases h3 : x.Kind > 3
      · have : x.Kind ≥ 4 := by omega
        simp [h0, h3, badK, this]
      · have : ¬ x.Kind ≥ 4 := by omega
        simp [h0, h3, badK, this]
    · rw [if_neg (by simpa using hi), List.drop_eq_nil_of_le (by omega)]; rfl

theorem ref17_Tree_eq (n : Nat) (r : ApiRung) (t : TreeTree) (slot : Int) (hb : szT t ≤ 300000000) (hl : r.Contacts.length ≤ 1000000) (hn : szT t + r.Contacts.length < n) : ref17_Tree n r (ofT t) slot = some (treeS r t slot) := by
  rw [ref17_Tree, treeS, ref14_Check_eq t _ n (by omega) (by omega), Option.bind_some]
  by_cases hc : checkS t r.Contacts.length = 0
  · have := rkinds_loop n r (ofT t) slot hl n 0 (by omega) (by omega)
    rw [show ((0 : Nat) : Int) = 0 from rfl, List.drop_zero] at this
    rw [if_neg (show ¬ (checkS t r.Contacts.length != 0) = true by simp [hc]), if_neg (show ¬ (checkS t r.Contacts.length ≠ 0) by simp [hc]), this]
    cases hbad : r.Contacts.any badK with
    | true => simp
    | false =>
      rw [if_neg (show ¬ false = true by simp), if_neg (show ¬ false = true by simp), ref17_Tree_J1]
      by_cases h0 : slot < 0
      · simp [h0]
      by_cases h1 : slot > 16384
      · simp [h0, h1]
      obtain ⟨g1, _, _⟩ := (checkS_iff t r.Contacts.length).1 hc
      have hk : KindsOk r.Contacts := fun c hc => by
        have := List.any_eq_false.1 hbad c hc
        simp only [badK, Bool.or_eq_true, decide_eq_true_eq, not_or] at this
        omega
      rw [if_neg (show ¬ (decide (slot < 0)) = true by simpa using h0), if_neg (show ¬ (decide (slot > 16384)) = true by simpa using h1), if_neg (show ¬ (slot < 0 ∨ slot > 16384) by omega),
        rlay_eq hk hl (by omega) (by omega) (szT t + 1) t n (by omega) g1 hb (by omega)]
      rfl
  · simp [hc]

/-! ### coils -/
def badC (c : ApiCoil) : Bool := decide (c.Kind < 0) || decide (c.Kind ≥ 4)
def coilsS (cs : List ApiCoil) (acc : List ApiIns) : List ApiIns × Int := if cs.any badC then ([], 8) else (acc ++ cs.map fun c => ⟨11 + c.Kind, c.A, 0⟩, 0)
theorem coilsS_cons (c : ApiCoil) (cs : List ApiCoil) (acc : List ApiIns) (h : badC c = false) : coilsS (c :: cs) acc = coilsS cs (acc ++ [⟨11 + c.Kind, c.A, 0⟩]) := by
  simp [coilsS, h]
theorem coils_loop (r : ApiRung) (hs : r.Coils.length ≤ 1000000) : ∀ (m i : Nat) (acc : List ApiIns), i ≤ r.Coils.length → r.Coils.length - i < m → acc.length + (r.Coils.length - i) ≤ 1000000000 →
    codegen_Coils_L1 r m (i : Int) acc = some (coilsS (r.Coils.drop i) acc) ∧ ref17_Coils_L1 r m acc (i : Int) = some (coilsS (r.Coils.drop i) acc)
  | 0, i, acc, h, hm, _ => absurd hm (Nat.not_lt_zero _)
  | m + 1, i, acc, h, hm, ha => by
    rw [codegen_Coils_L1, ref17_Coils_L1]
    by_cases hi : i < r.Coils.length
    · obtain ⟨x, hx⟩ := get_ex hi
      rw [if_pos (by simpa using hi), if_pos (by simpa using hi), atI_nat, hx, Option.bind_some, Option.bind_some, drop_cons hx, wrapN (by omega)]
      by_cases h0 : x.Kind < 0
      · simp [h0, coilsS, badC]
      by_cases h3 : x.Kind ≥ 4
      · have : x.Kind > 3 := by omega
        simp [h0, h3, this, coilsS, badC]
      have hb : badC x = false := by simp [badC, h0, h3]
      obtain ⟨e1, e2⟩ := coils_loop r hs m (i + 1) (acc ++ [⟨11 + x.Kind, x.A, 0⟩]) (by omega) (by omega) (by simp; omega)
      have h3' : ¬ x.Kind > 3 := by omega
      have hg : acc.length + 1 ≤ 1000000000 := by omega
      rw [coilsS_cons _ _ _ hb, ← e1]
      refine ⟨?_, ?_⟩
      · have : x.Kind = 0 ∨ x.Kind = 1 ∨ x.Kind = 2 ∨ x.Kind = 3 := by omega
        rcases this with e | e | e | e <;> simp [e, hg]
      · rw [e1, ← e2]
        have hw : IntKind.i64.wrap (11 + x.Kind) = 11 + x.Kind := wrapI (by omega) (by omega)
        simp [h0, h3', hg, hw]
    · rw [if_neg (by simpa using hi), if_neg (by simpa using hi), List.drop_eq_nil_of_le (by omega)]
      simp [coilsS]
theorem coils_eq (n : Nat) (r : ApiRung) (hs : r.Coils.length ≤ 1000000) (hn : r.Coils.length < n) : codegen_Coils n r = some (coilsS r.Coils []) ∧ ref17_Coils n r = some (coilsS r.Coils []) := by
  have := coils_loop r hs n 0 [] (by omega) (by omega) (by simp; omega)
  rw [show ((0 : Nat) : Int) = 0 from rfl, List.drop_zero] at this
  exact this

theorem eqIns_loop (l : List ApiIns) (hs : l.length ≤ 1000000000) : ∀ (m i : Nat), i ≤ l.length → l.length - i < m → slices_Equal_api_Ins_L1 l l m (i : Int) = some true
  | 0, i, h, hm => absurd hm (Nat.not_lt_zero _)
  | m + 1, i, h, hm => by
    rw [slices_Equal_api_Ins_L1]
    by_cases hi : i < l.length
    · obtain ⟨x, hx⟩ := get_ex hi
      rw [if_pos (by simpa using hi), atI_nat, hx, Option.bind_some, Option.bind_some, if_neg (by simp), wrapN (by omega)]
      exact eqIns_loop l hs m (i + 1) (by omega) (by omega)
    · rw [if_neg (by simpa using hi)]
theorem eqIns (n : Nat) (l : List ApiIns) (hs : l.length ≤ 1000000000) (hn : l.length < n) : slices_Equal_api_Ins n l l = some true := by
  rw [slices_Equal_api_Ins, if_neg (by simp)]
  exact eqIns_loop l hs n 0 (by omega) (by omega)

theorem treeS_len (r : ApiRung) (t : TreeTree) (slot : Int) : (treeS r t slot).1.length ≤ 3 * szT t := by
  have := layS_len r.Contacts (slotsS r.Contacts slot) t
  rw [treeS]
  split
  · simp
  split
  · simp
  split
  · simp
  · simp only; omega
theorem coilsS_len (cs : List ApiCoil) : (coilsS cs []).1.length ≤ cs.length := by
  rw [coilsS]; split <;> simp

theorem treeMatches_law0 (n : Nat) (ha : law17_alive n = some true) (r : ApiRung) (t : TreeTree) (slot : Int) (hc : r.Contacts.length ≤ 1048576) (hco : r.Coils.length ≤ 1048576) (hb : szT t ≤ 1048576) (hn : 4000000 ≤ n) : law17_CodegenTreeMatchesReference n r t slot = some true := by
  obtain ⟨b, hb1, hb2⟩ := tl12 r n (by omega) (by omega)
  obtain ⟨d, hd⟩ := law14_TooLarge_some t n (by omega) (by omega)
  rw [law17_CodegenTreeMatchesReference, hb1, Option.bind_some]
  by_cases hbb : b > 0
  · rw [if_pos (by simpa using hbb), ha]; rfl
  have hlen := hb2 hbb
  rw [if_neg (by simpa using hbb), hd, Option.bind_some]
  split
  · rw [ha]; rfl
  split
  · rw [ha]; rfl
  rename_i hcoil
  rw [decide_eq_true_eq] at hcoil
  obtain ⟨c1, c2⟩ := coils_eq n r (by omega) (by omega)
  have hl := treeS_len r t slot
  have hl2 := coilsS_len r.Coils
  have e1 := codegen_Tree_eq n r t slot (by omega) (by omega) (by omega) (by omega)
  have e2 := ref17_Tree_eq n r t slot (by omega) (by omega) (by omega)
  generalize treeS r t slot = T at e1 e2 hl
  generalize coilsS r.Coils [] = C at c1 c2 hl2
  obtain ⟨x, y⟩ := T
  obtain ⟨u, v⟩ := C
  simp only at hl hl2
  rw [e1, Option.bind_some]
  dsimp only
  rw [law14_Of_eq t n (by omega) (by omega), Option.bind_some, e2, Option.bind_some]
  dsimp only
  rw [c1, Option.bind_some]
  dsimp only
  rw [c2, Option.bind_some]
  dsimp only
  rw [ha, Option.bind_some, if_pos rfl, eqIns n _ (by omega) (by omega), Option.bind_some, if_pos rfl, if_pos (by simp), eqIns n _ (by omega) (by omega), Option.bind_some, if_pos rfl]
  simp

theorem alive17b : law17_alive 4000000 = some true := by decide +kernel
end Go.G

namespace Go.G
open Go.Av
theorem treeMatches_law (r : ApiRung) (t : TreeTree) (slot : Int) (hc : r.Contacts.length ≤ 1048576) (hco : r.Coils.length ≤ 1048576) (hb : szT t ≤ 1048576) : law17_CodegenTreeMatchesReference 4000000 r t slot = some true :=
  treeMatches_law0 4000000 alive17b r t slot hc hco hb (Nat.le_refl _)
end Go.G

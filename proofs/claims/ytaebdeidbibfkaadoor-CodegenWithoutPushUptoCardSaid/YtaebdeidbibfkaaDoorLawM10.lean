/- The chapter's example. No law is proved here. -/
import Derived.Test.YtaebdeidbibfkaaDoorGMod
set_option linter.unusedSimpArgs false
set_option linter.unusedVariables false
set_option linter.unusedSectionVars false
namespace Go.G
open Go.Av
set_option maxRecDepth 100000
theorem alive17 : law17_alive 2000000 = some true := by decide +kernel
end Go.G

namespace Go.G
open Go.Av

theorem atI_nat {α : Type} (l : List α) (i : Nat) : atI l (i : Int) = l[i]? := by simp [atI]
theorem wrapN {i : Nat} (h : i ≤ 1000000000000) : IntKind.i64.wrap ((i : Int) + 1) = ((i + 1 : Nat) : Int) := by rw [IntKind.wrap_i64]; omega
theorem wrapI {i : Int} (h0 : -4611686018427387904 ≤ i) (h : i ≤ 9223372036854775807) : IntKind.i64.wrap i = i := by rw [IntKind.wrap_i64]; omega
theorem get_ex {α : Type} {l : List α} {i : Nat} (h : i < l.length) : ∃ x, l[i]? = some x := ⟨l[i], List.getElem?_eq_getElem h⟩
theorem drop_cons {α : Type} {l : List α} {i : Nat} {x : α} (h : l[i]? = some x) : l.drop i = x :: l.drop (i + 1) := by
  obtain ⟨hi, e⟩ := List.getElem?_eq_some_iff.1 h
  rw [List.drop_eq_getElem_cons hi, e]

/-- Induction over trees. -/
theorem tree_ind {P : TreeTree → Prop} (h : ∀ K N ks, (∀ k ∈ ks, P k) → P (.mk K N ks)) : ∀ t, P t := fun t =>
  TreeTree.rec (motive_1 := P) (motive_2 := fun l => ∀ k ∈ l, P k) (fun K N ks ih => h K N ks ih) (by simp) (fun k ks h1 h2 => by
    intro x hx
    rcases List.mem_cons.1 hx with rfl | hx
    · exact h1
    · exact h2 x hx) t

mutual
/-- How many nodes. -/
def szT : TreeTree → Nat
  | .mk _ _ ks => 1 + szL ks
def szL : List TreeTree → Nat
  | [] => 0
  | k :: ks => szT k + szL ks
end
theorem szT_pos (t : TreeTree) : 1 ≤ szT t := by cases t; simp only [szT]; omega
theorem szL_len : ∀ ks : List TreeTree, ks.length ≤ szL ks
  | [] => by simp
  | k :: ks => by have := szL_len ks; have := szT_pos k; simp only [szL, List.length_cons]; omega
theorem szL_mem : ∀ {ks : List TreeTree} {k : TreeTree}, k ∈ ks → szT k ≤ szL ks
  | x :: ks, k, h => by
    rcases List.mem_cons.1 h with rfl | h
    · simp only [szL]; omega
    · have := szL_mem h; simp only [szL]; omega
theorem szT_kids {K N : Int} {ks : List TreeTree} {n : Nat} (h : szT (.mk K N ks) < n) : ∃ m, n = m + 1 ∧ ks.length < m ∧ ∀ k ∈ ks, szT k < m := by
  simp only [szT] at h
  have h1 := szL_len ks
  obtain ⟨m, rfl⟩ : ∃ m, n = m + 1 := ⟨n - 1, by omega⟩
  exact ⟨m, rfl, by omega, fun k hk => by have := szL_mem hk; omega⟩

mutual
/-- The check of a tree: a code and the leaves seen. -/
def chk (many : Int) : TreeTree → List Int → Int × List Int
  | .mk K N ks, l =>
    if K < 0 ∨ K > 2 then (8, l)
    else if K = 0 then (if 0 < ks.length then (2, l) else if N < 0 ∨ N ≥ many then (3, l) else if N ∈ l then (9, l) else (0, l ++ [N]))
    else if N ≠ 0 then (2, l)
    else if ks.length < 2 then (5, l)
    else if ks.any (fun k => k.Kind == K) = true then (14, l)
    else chks many ks l
def chks (many : Int) : List TreeTree → List Int → Int × List Int
  | [], l => (0, l)
  | k :: ks, l => if (chk many k l).1 ≠ 0 then chk many k l else chks many ks (chk many k l).2
end

/-- A set as a map. -/
def mp (l : List Int) : List (Int × Bool) := l.map fun x => (x, true)
theorem mp_get (l : List Int) (x : Int) : (mGet (mp l) x).getD false = decide (x ∈ l) := by
  induction l with
  | nil => simp [mp, mGet]
  | cons a l ih =>
    simp only [mp, List.map_cons, mGet] at ih ⊢
    by_cases h : x = a
    · simp [h]
    · have : (x == a) = false := by simpa using h
      simp [this, ih, h]
theorem mp_put (l : List Int) (x : Int) (h : x ∉ l) : mPut (mp l) x true = mp (l ++ [x]) := by
  induction l with
  | nil => rfl
  | cons a l ih =>
    simp only [List.mem_cons, not_or] at h
    have h1 : (x == a) = false := by simpa using h.1
    have := ih h.2
    simp only [mp, List.map_cons, List.cons_append, mPut, h1, Bool.false_eq_true, if_false] at this ⊢
    rw [this]
theorem mp_len (l : List Int) : (mp l).length = l.length := by simp [mp]

theorem c37_loop (n : Nat) (s : List TreeTree) (b : TreeTree) (hs : s.length ≤ 1000000000) : ∀ (k i : Nat), i ≤ s.length → s.length - i < k →
    ∃ r, slices_IndexFunc_tree_Tree_c66_L1 n s b k (i : Int) = some r ∧ decide (r ≥ 0) = (s.drop i).any fun x => x.Kind == b.Kind
  | 0, i, h, hk => absurd hk (Nat.not_lt_zero _)
  | k + 1, i, h, hk => by
    rw [slices_IndexFunc_tree_Tree_c66_L1]
    by_cases hi : i < s.length
    · obtain ⟨x, hx⟩ := get_ex hi
      rw [if_pos (by simpa using hi), atI_nat, hx, Option.bind_some]
      simp only [tree_Tree_check_1, Option.bind_some]
      rw [drop_cons hx, List.any_cons]
      cases hc : (x.Kind == b.Kind) with
      | true => exact ⟨(i : Int), by simp, by simp⟩
      | false =>
        rw [wrapN (by omega)]
        obtain ⟨r, h1, h2⟩ := c37_loop n s b hs k (i + 1) (by omega) (by omega)
        exact ⟨r, by simpa using h1, by simpa using h2⟩
    · rw [if_neg (by simpa using hi)]
      refine ⟨-1, rfl, ?_⟩
      rw [List.drop_eq_nil_of_le (by omega)]; rfl
theorem c37_eq (n : Nat) (s : List TreeTree) (b : TreeTree) (hs : s.length ≤ 1000000000) (h : s.length < n) : slices_ContainsFunc_tree_Tree_c66 n s b = some (s.any fun x => x.Kind == b.Kind) := by
  obtain ⟨r, h1, h2⟩ := c37_loop n s b hs n 0 (by omega) (by omega)
  simp only [slices_ContainsFunc_tree_Tree_c66, slices_IndexFunc_tree_Tree_c66]
  rw [show (0 : Int) = ((0 : Nat) : Int) from rfl, h1, Option.bind_some]
  rw [List.drop_zero] at h2
  exact congrArg some h2

theorem check_loop (t : TreeTree) (many : Int) (slf : TreeTree → Int → List (Int × Bool) → Option (Int × List (Int × Bool))) (hs : t.Kids.length ≤ 1000000000)
    (hf : ∀ k ∈ t.Kids, ∀ l, slf k many (mp l) = some ((chk many k l).1, mp (chk many k l).2)) : ∀ (k i : Nat) (l : List Int), i ≤ t.Kids.length → t.Kids.length - i < k →
    tree_Tree_check_L2 t many slf k (mp l) (i : Int) = some ((chks many (t.Kids.drop i) l).1, mp (chks many (t.Kids.drop i) l).2)
  | 0, i, l, h, hk => absurd hk (Nat.not_lt_zero _)
  | k + 1, i, l, h, hk => by
    rw [tree_Tree_check_L2]
    by_cases hi : i < t.Kids.length
    · obtain ⟨x, hx⟩ := get_ex hi
      rw [if_pos (by simpa using hi), atI_nat, hx, Option.bind_some, hf x (List.mem_of_getElem? hx) l, Option.bind_some, drop_cons hx, chks]
      by_cases he : (chk many x l).1 = 0
      · have := check_loop t many slf hs hf k (i + 1) (chk many x l).2 (by omega) (by omega)
        simp only [he, bne_self_eq_false, Bool.false_eq_true, if_false, ne_eq, not_true]
        rw [wrapN (by omega), this]
      · simp [he]
    · rw [if_neg (by simpa using hi), List.drop_eq_nil_of_le (by omega), chks]

theorem tree_Tree_check_eq (many : Int) : ∀ (t : TreeTree) (n : Nat) (l : List Int), szT t ≤ 1000000000 → szT t < n → tree_Tree_check n t many (mp l) = some ((chk many t l).1, mp (chk many t l).2) := by
  intro t
  induction t using tree_ind with
  | h K N ks ih =>
    intro n l hb hn
    obtain ⟨m, rfl, hlen, hk⟩ := szT_kids hn
    have hl : ks.length ≤ 1000000000 := by have := szL_len ks; simp only [szT] at hb; omega
    have hkb : ∀ k ∈ ks, szT k ≤ 1000000000 := fun k hk => by have := szL_mem hk; simp only [szT] at hb; omega
    have hloop := check_loop (.mk K N ks) many (tree_Tree_check m) hl (fun k hk' l => ih k hk' m l (hkb k hk') (hk k hk')) m 0 l (by omega) (by simpa [TreeTree_Kids_mk] using hlen)
    rw [tree_Tree_check, chk]
    simp only [TreeTree_Kind_mk, TreeTree_N_mk, TreeTree_Kids_mk, mp_get, c37_eq m ks _ hl hlen, Option.bind_some, tree_Tree_check_J1] at hloop ⊢
    rw [show ((0 : Nat) : Int) = 0 from rfl, List.drop_zero] at hloop
    rw [hloop]
    by_cases h0 : K < 0
    · simp [h0]
    by_cases h2 : K > 2
    · simp [h0, h2]
    by_cases hK : K = 0
    · subst hK
      by_cases hz : 0 < ks.length
      · simp [hz]
      by_cases hN : N < 0
      · simp [hz, hN]
      by_cases hM : N ≥ many
      · simp [hz, hN, hM]
      by_cases hin : N ∈ l
      · simp [hz, hN, hM, hin]
      · simp [hz, hN, hM, hin, mp_put l N hin]
    by_cases hN : N = 0
    · by_cases hz : ks.length < 2
      · have : (ks.length : Int) < 2 := by omega
        simp [h0, h2, hK, hN, hz, this]
      · have : ¬ (ks.length : Int) < 2 := by omega
        generalize ks.any (fun x => x.Kind == K) = b
        cases b <;> simp [h0, h2, hK, hN, hz, this]
    · simp [h0, h2, hK, hN]
/-- A tree's check. -/
def checkS (t : TreeTree) (many : Int) : Int :=
  if (chk many t []).1 ≠ 0 then (chk many t []).1 else if ((chk many t []).2.length : Int) ≠ imax 0 many then 4 else 0

theorem tree_Check_eq (t : TreeTree) (many : Int) (n : Nat) (hb : szT t ≤ 1000000000) (hn : szT t < n) : tree_Check n t many = some (checkS t many) := by
  rw [tree_Check]
  have := tree_Tree_check_eq many t n [] hb hn
  rw [show mp [] = [] from rfl] at this
  rw [this, Option.bind_some, checkS]
  simp only [mp_len]
  by_cases he : (chk many t []).1 = 0
  · by_cases hl : ((chk many t []).2.length : Int) = imax 0 many <;> simp [he, hl]
  · simp [he]

mutual
/-- A tree of good make over so many contacts. -/
def Ok (len : Int) : TreeTree → Prop
  | .mk K N ks => (K = 0 ∧ ks = [] ∧ 0 ≤ N ∧ N < len) ∨ ((K = 1 ∨ K = 2) ∧ N = 0 ∧ 2 ≤ ks.length ∧ (∀ k ∈ ks, k.Kind ≠ K) ∧ OkL len ks)
def OkL (len : Int) : List TreeTree → Prop
  | [] => True
  | k :: ks => Ok len k ∧ OkL len ks
end
theorem OkL_iff {len : Int} : ∀ {ks : List TreeTree}, OkL len ks ↔ ∀ k ∈ ks, Ok len k
  | [] => by simp [OkL]
  | k :: ks => by rw [OkL, OkL_iff (ks := ks)]; simp

mutual
/-- The leaves, in order. -/
def lv : TreeTree → List Int
  | .mk K N ks => if K = 0 then [N] else if K = 1 ∨ K = 2 then lvs ks else []
def lvs : List TreeTree → List Int
  | [] => []
  | k :: ks => lv k ++ lvs ks
end

theorem chk_iff (many : Int) : ∀ (t : TreeTree) (l : List Int), ((chk many t l).1 = 0 ↔ Ok many t ∧ (lv t).Nodup ∧ ∀ x ∈ lv t, x ∉ l) ∧ ((chk many t l).1 = 0 → (chk many t l).2 = l ++ lv t) := by
  intro t
  induction t using tree_ind with
  | h K N ks ih =>
    have hs : ∀ (js : List TreeTree), (∀ k ∈ js, ∀ l, ((chk many k l).1 = 0 ↔ Ok many k ∧ (lv k).Nodup ∧ ∀ x ∈ lv k, x ∉ l) ∧ ((chk many k l).1 = 0 → (chk many k l).2 = l ++ lv k)) →
        ∀ l, ((chks many js l).1 = 0 ↔ OkL many js ∧ (lvs js).Nodup ∧ ∀ x ∈ lvs js, x ∉ l) ∧ ((chks many js l).1 = 0 → (chks many js l).2 = l ++ lvs js) := by
      intro js
      induction js with
      | nil => intro _ l; simp [chks, OkL, lvs]
      | cons k js ihj =>
        intro h l
        obtain ⟨h1, h2⟩ := h k (by simp) l
        rw [chks]
        by_cases he : (chk many k l).1 = 0
        · have e2 := h2 he
          obtain ⟨g1, g2, g3⟩ := h1.1 he
          obtain ⟨i1, i2⟩ := ihj (fun k hk => h k (by simp [hk])) (l ++ lv k)
          rw [if_neg (by simpa using he), e2]
          refine ⟨?_, fun hz => by rw [i2 hz, lvs, List.append_assoc]⟩
          rw [i1, OkL, lvs, List.nodup_append]
          constructor
          · rintro ⟨a1, a2, a3⟩
            refine ⟨⟨g1, a1⟩, ⟨g2, a2, fun a ha b hb e => ?_⟩, fun x hx => ?_⟩
            · subst e; exact a3 a hb (by simp [ha])
            · rcases List.mem_append.1 hx with hx | hx
              · exact g3 x hx
              · intro hl; exact a3 x hx (by simp [hl])
          · rintro ⟨⟨_, a1⟩, ⟨_, a2, a3⟩, a4⟩
            refine ⟨a1, a2, fun x hx hm => ?_⟩
            rcases List.mem_append.1 hm with hm | hm
            · exact a4 x (by simp [hx]) hm
            · exact a3 x hm x hx rfl
        · rw [if_pos he]
          refine ⟨⟨fun hz => absurd hz he, fun ⟨a1, a2, a3⟩ => ?_⟩, fun hz => absurd hz he⟩
          exfalso
          rw [OkL] at a1
          rw [lvs, List.nodup_append] at a2
          rw [lvs] at a3
          exact he (h1.2 ⟨a1.1, a2.1, fun x hx => a3 x (by simp [hx])⟩)
    intro l
    obtain ⟨s1, s2⟩ := hs ks ih l
    rw [chk, Ok, lv]
    by_cases h0 : K < 0 ∨ K > 2
    · rw [if_pos h0]
      refine ⟨⟨fun hz => by simp at hz, fun ⟨h, _⟩ => ?_⟩, fun hz => by simp at hz⟩
      rcases h with ⟨h, _⟩ | ⟨h, _⟩ <;> omega
    rw [if_neg h0]
    by_cases hK : K = 0
    · subst hK
      simp only [if_true]
      by_cases hz : 0 < ks.length
      · rw [if_pos hz]
        refine ⟨⟨fun hz => by simp at hz, fun ⟨h, _⟩ => ?_⟩, fun hz => by simp at hz⟩
        rcases h with ⟨_, h, _⟩ | ⟨h, _⟩
        · subst h; simp at hz
        · omega
      rw [if_neg hz]
      have hnil : ks = [] := List.length_eq_zero_iff.1 (by omega)
      by_cases hN : N < 0 ∨ N ≥ many
      · rw [if_pos hN]
        refine ⟨⟨fun hz => by simp at hz, fun ⟨h, _⟩ => ?_⟩, fun hz => by simp at hz⟩
        rcases h with ⟨_, _, h⟩ | ⟨h, _⟩ <;> omega
      rw [if_neg hN]
      by_cases hin : N ∈ l
      · rw [if_pos hin]
        refine ⟨⟨fun hz => by simp at hz, fun ⟨_, _, h⟩ => ?_⟩, fun hz => by simp at hz⟩
        exact absurd hin (h N (by simp))
      · rw [if_neg hin]
        refine ⟨⟨fun _ => ⟨.inl ⟨trivial, hnil, by omega, by omega⟩, by simp, by simpa using hin⟩, fun _ => rfl⟩, fun _ => rfl⟩
    · have h12 : K = 1 ∨ K = 2 := by omega
      rw [if_neg hK, if_neg hK, if_pos h12]
      by_cases hN : N = 0
      · rw [if_neg (by simpa using hN)]
        by_cases hl : ks.length < 2
        · rw [if_pos hl]
          refine ⟨⟨fun hz => by simp at hz, fun ⟨h, _⟩ => ?_⟩, fun hz => by simp at hz⟩
          rcases h with ⟨h, _⟩ | ⟨_, _, h, _⟩ <;> omega
        rw [if_neg hl]
        by_cases ha : ks.any (fun k => k.Kind == K) = true
        · rw [if_pos ha]
          refine ⟨⟨fun hz => by simp at hz, fun ⟨h, _⟩ => ?_⟩, fun hz => by simp at hz⟩
          obtain ⟨k, hk, he⟩ := List.any_eq_true.1 ha
          rcases h with ⟨h, _⟩ | ⟨_, _, _, h, _⟩
          · exact absurd h hK
          · exact absurd (by simpa using he) (h k hk)
        · rw [if_neg ha, s1]
          refine ⟨⟨fun ⟨a1, a2, a3⟩ => ⟨.inr ⟨h12, hN, by omega, fun k hk e => ha (List.any_eq_true.2 ⟨k, hk, by simpa using e⟩), a1⟩, a2, a3⟩, fun ⟨h, a2, a3⟩ => ⟨?_, a2, a3⟩⟩, fun hz => s2 (s1.2 hz)⟩
          rcases h with ⟨h, _⟩ | ⟨_, _, _, _, h⟩
          · exact absurd h hK
          · exact h
      · rw [if_pos (by simpa using hN)]
        refine ⟨⟨fun hz => by simp at hz, fun ⟨h, _⟩ => ?_⟩, fun hz => by simp at hz⟩
        rcases h with ⟨h, _⟩ | ⟨_, h, _⟩
        · exact absurd h hK
        · exact absurd h hN

/-- A tree that passes its check. -/
theorem checkS_iff (t : TreeTree) (len : Nat) : checkS t (len : Int) = 0 ↔ Ok len t ∧ (lv t).Nodup ∧ (lv t).length = len := by
  obtain ⟨h1, h2⟩ := chk_iff (len : Int) t []
  have hm : imax 0 (len : Int) = len := by unfold imax; split <;> omega
  rw [checkS, hm]
  by_cases he : (chk len t []).1 = 0
  · have e2 := h2 he
    obtain ⟨g1, g2, g3⟩ := h1.1 he
    rw [if_neg (by simpa using he), e2]
    simp only [List.nil_append]
    by_cases hl : ((lv t).length : Int) = len
    · rw [if_neg (by simpa using hl)]
      simp only [true_iff]
      exact ⟨g1, g2, by omega⟩
    · rw [if_pos hl]
      refine ⟨fun hz => by simp at hz, fun ⟨_, _, h⟩ => absurd (by omega) hl⟩
  · rw [if_pos he]
    refine ⟨fun hz => absurd hz he, fun ⟨a1, a2, _⟩ => absurd (h1.2 ⟨a1, a2, by simp⟩) he⟩

end Go.G

namespace Go.G
open Go.Av

def cg (cs : List ApiContact) (N : Int) : ApiContact := (cs[N.toNat]?).getD default
def ig (sl : List Int) (N : Int) : Int := (sl[N.toNat]?).getD 0
def ldOp (k : Int) : Int := if k = 0 then 0 else if k = 1 then 1 else if k = 2 then 6 else 7
def jnOp (K k : Int) : Int := if K = 1 then (if k = 0 then 2 else 3) else (if k = 0 then 4 else 5)
def ppOp (K : Int) : Int := if K = 1 then 9 else 10
def seesS (c : ApiContact) : Bool := c.Kind == 2 || c.Kind == 3
theorem codegen_sees_eq (n : Nat) (c : ApiContact) : codegen_sees n c = some (seesS c) := by
  rw [codegen_sees, seesS]
  cases h : (c.Kind == 2) <;> simp

mutual
/-- The code of a tree, over contacts and slots. -/
def layS (cs : List ApiContact) (sl : List Int) : TreeTree → List ApiIns
  | .mk K N ks => if K = 0 then [⟨ldOp (cg cs N).Kind, (cg cs N).A, ig sl N⟩] else layH cs sl K ks
def layH (cs : List ApiContact) (sl : List Int) (K : Int) : List TreeTree → List ApiIns
  | [] => []
  | k :: ks => layS cs sl k ++ layT cs sl K ks
def layT (cs : List ApiContact) (sl : List Int) (K : Int) : List TreeTree → List ApiIns
  | [] => []
  | k :: ks => (if k.Kind = 0 ∧ seesS (cg cs k.N) = false then [⟨jnOp K (cg cs k.N).Kind, (cg cs k.N).A, 0⟩] else ⟨8, ⟨0, 0⟩, 0⟩ :: (layS cs sl k ++ [⟨ppOp K, ⟨0, 0⟩, 0⟩])) ++ layT cs sl K ks
end

theorem layT_len (cs : List ApiContact) (sl : List Int) (K : Int) : ∀ ks : List TreeTree, (∀ k ∈ ks, (layS cs sl k).length + 2 ≤ 3 * szT k) → (layT cs sl K ks).length ≤ 3 * szL ks
  | [], _ => by simp [layT]
  | k :: ks, h => by
    have h1 := h k (by simp)
    have h2 := layT_len cs sl K ks fun k hk => h k (by simp [hk])
    have h3 := szT_pos k
    rw [layT, szL, List.length_append]
    split
    · simp only [List.length_singleton]; omega
    · simp only [List.length_cons, List.length_append, List.length_nil]; omega

theorem layS_len (cs : List ApiContact) (sl : List Int) : ∀ t : TreeTree, (layS cs sl t).length + 2 ≤ 3 * szT t := by
  intro t
  induction t using tree_ind with
  | h K N ks ih =>
    rw [layS, szT]
    split
    · simp only [List.length_singleton]; omega
    · cases ks with
      | nil => simp [layH, szL]
      | cons k ks =>
        have h1 := ih k (by simp)
        have h2 := layT_len cs sl K ks fun k hk => ih k (by simp [hk])
        rw [layH, List.length_append, szL]
        omega

theorem put_eq (n : Nat) (x : ApiIns) (b0 : Str) (cs : List ApiContact) (b2 : List ApiCoil) (b3 : Str) (sl : List Int) (code : List ApiIns) (h : code.length + 1 ≤ 1000000000) :
    codegen_maker_put_v1 n x b0 cs b2 b3 sl code = some (code ++ [x]) := by
  rw [codegen_maker_put_v1, if_pos (by simpa using h)]; rfl

theorem cg_at {cs : List ApiContact} {N : Int} (h0 : 0 ≤ N) (h : N < cs.length) : atI cs N = some (cg cs N) := by
  obtain ⟨m, rfl⟩ := Int.eq_ofNat_of_zero_le h0
  have hm : m < cs.length := by omega
  rw [atI_nat, cg, Int.toNat_natCast, List.getElem?_eq_getElem hm]; rfl
theorem ig_at {sl : List Int} {N : Int} (h0 : 0 ≤ N) (h : N < sl.length) : atI sl N = some (ig sl N) := by
  obtain ⟨m, rfl⟩ := Int.eq_ofNat_of_zero_le h0
  have hm : m < sl.length := by omega
  rw [atI_nat, ig, Int.toNat_natCast, List.getElem?_eq_getElem hm]; rfl

/-- Kinds that are known. -/
def KindsOk (cs : List ApiContact) : Prop := ∀ c ∈ cs, 0 ≤ c.Kind ∧ c.Kind < 4
theorem KindsOk.cg {cs : List ApiContact} (h : KindsOk cs) {N : Int} (h0 : 0 ≤ N) (h1 : N < cs.length) : 0 ≤ (cg cs N).Kind ∧ (cg cs N).Kind < 4 := by
  obtain ⟨m, rfl⟩ := Int.eq_ofNat_of_zero_le h0
  have hm : m < cs.length := by omega
  have e : Go.G.cg cs (m : Int) = cs[m] := by rw [Go.G.cg, Int.toNat_natCast, List.getElem?_eq_getElem hm]; rfl
  rw [e]; exact h _ (List.getElem_mem hm)

theorem Ok_leaf {len : Int} {k : TreeTree} (hk : Ok len k) (h0 : k.Kind = 0) : 0 ≤ k.N ∧ k.N < len := by
  obtain ⟨K, N, ks⟩ := k
  rw [TreeTree_Kind_mk] at h0
  subst h0
  rw [Ok] at hk
  rcases hk with ⟨_, _, h⟩ | ⟨h | h, _⟩
  · exact h
  · omega
  · omega

section
variable {cs : List ApiContact} {sl : List Int} (hk : KindsOk cs) (hsl : sl.length = cs.length) (b0 : Str) (b2 : List ApiCoil) (b3 : Str)
include hk hsl

theorem lay_loop (n : Nat) (t : TreeTree) (hK : t.Kind = 1 ∨ t.Kind = 2) (ks : List TreeTree) (hs : ks.length ≤ 1000000000) (hOk : ∀ k ∈ ks, Ok cs.length k)
    (slf : TreeTree → Str → List ApiContact → List ApiCoil → Str → List Int → List ApiIns → Option (List ApiIns))
    (hf : ∀ k ∈ ks, ∀ code : List ApiIns, code.length + 3 * szT k ≤ 1000000002 → slf k b0 cs b2 b3 sl code = some (code ++ layS cs sl k)) :
    ∀ (m i : Nat) (code : List ApiIns), i ≤ ks.length → ks.length - i < m → code.length + 3 * szL (ks.drop i) ≤ 1000000000 →
    codegen_maker_lay_v1_L1 n t b0 cs b2 b3 sl ks slf m code (i : Int) = some (code ++ layT cs sl t.Kind (ks.drop i))
  | 0, i, code, h, hm, _ => absurd hm (Nat.not_lt_zero _)
  | m + 1, i, code, h, hm, hc => by
    rw [codegen_maker_lay_v1_L1]
    by_cases hi : i < ks.length
    · obtain ⟨x, hx⟩ := get_ex hi
      have hmem := List.mem_of_getElem? hx
      rw [drop_cons hx, szL] at hc
      have hp := szT_pos x
      have hlx := layS_len cs sl x
      have ih := fun code' (h' : code'.length + 3 * szL (ks.drop (i + 1)) ≤ 1000000000) => lay_loop n t hK ks hs hOk slf hf m (i + 1) code' (by omega) (by omega) h'
      rw [if_pos (by simpa using hi), atI_nat, hx, Option.bind_some, drop_cons hx, layT]
      have hpush : codegen_maker_lay_v1_J2 n t b0 cs b2 b3 sl code (i : Int) (codegen_maker_lay_v1_L1 n t b0 cs b2 b3 sl ks slf m) x slf
          = some (code ++ ((⟨8, ⟨0, 0⟩, 0⟩ :: (layS cs sl x ++ [⟨ppOp t.Kind, ⟨0, 0⟩, 0⟩])) ++ layT cs sl t.Kind (ks.drop (i + 1)))) := by
        rw [codegen_maker_lay_v1_J2, put_eq _ _ _ _ _ _ _ _ (by omega), Option.bind_some, hf x hmem _ (by simp; omega), Option.bind_some, wrapN (by omega)]
        have h0 : ¬ t.Kind = 0 := by omega
        rw [if_neg h0]
        rcases hK with hK | hK
        · rw [if_pos hK, put_eq _ _ _ _ _ _ _ _ (by simp; omega), Option.bind_some, ih _ (by simp; omega)]
          simp [ppOp, hK]
        · rw [if_neg (by omega), if_pos hK, put_eq _ _ _ _ _ _ _ _ (by simp; omega), Option.bind_some, ih _ (by simp; omega)]
          simp [ppOp, hK]
      by_cases hk0 : x.Kind = 0
      · obtain ⟨n0, n1⟩ := Ok_leaf (hOk x hmem) hk0
        rw [if_pos (by simpa using hk0), cg_at n0 n1, Option.bind_some, codegen_sees_eq, Option.bind_some]
        obtain ⟨c0, c1⟩ := hk.cg n0 n1
        cases hse : seesS (cg cs x.N) with
        | true =>
          rw [if_neg (show ¬ (!true) = true by simp), if_neg (show ¬ (x.Kind = 0 ∧ true = false) by simp)]
          exact hpush
        | false =>
          rw [if_pos (show (!false) = true from rfl), if_pos (show x.Kind = 0 ∧ false = false from ⟨hk0, rfl⟩)]
          have hkd : (cg cs x.N).Kind = 0 ∨ (cg cs x.N).Kind = 1 := by
            simp only [seesS, Bool.or_eq_false_iff, beq_eq_false_iff_ne] at hse
            omega
          have h0 : ¬ t.Kind = 0 := by omega
          rw [if_neg h0, wrapN (by omega)]
          rcases hK with hK | hK <;> rcases hkd with hkd | hkd
          · rw [if_pos hK, if_pos hkd, put_eq _ _ _ _ _ _ _ _ (by omega), Option.bind_some, ih _ (by simp; omega)]
            simp [jnOp, hK, hkd]
          · rw [if_pos hK, if_neg (by omega), if_pos hkd, put_eq _ _ _ _ _ _ _ _ (by omega), Option.bind_some, ih _ (by simp; omega)]
            simp [jnOp, hK, hkd]
          · rw [if_neg (by omega), if_pos hK, if_pos hkd, put_eq _ _ _ _ _ _ _ _ (by omega), Option.bind_some, ih _ (by simp; omega)]
            simp [jnOp, hK, hkd]
          · rw [if_neg (by omega), if_pos hK, if_neg (by omega), if_pos hkd, put_eq _ _ _ _ _ _ _ _ (by omega), Option.bind_some, ih _ (by simp; omega)]
            simp [jnOp, hK, hkd]
      · rw [if_neg (by simpa using hk0), if_neg (fun q => hk0 q.1)]
        exact hpush
    · rw [if_neg (by simpa using hi), List.drop_eq_nil_of_le (by omega), layT, List.append_nil]

theorem lay_eq : ∀ (t : TreeTree) (n : Nat) (code : List ApiIns), Ok cs.length t → szT t ≤ 300000000 → code.length + 3 * szT t ≤ 1000000002 → szT t < n → codegen_maker_lay_v1 n t b0 cs b2 b3 sl code = some (code ++ layS cs sl t) := by
  intro t
  induction t using tree_ind with
  | h K N ks ih =>
    intro n code hOk hb hc hn
    obtain ⟨m, rfl, hlen, hkm⟩ := szT_kids hn
    rw [codegen_maker_lay_v1, layS]
    rw [szT] at hc hb
    rw [Ok] at hOk
    rcases hOk with ⟨rfl, rfl, n0, n1⟩ | ⟨hK, rfl, h2, hne, hks⟩
    · obtain ⟨c0, c1⟩ := hk.cg n0 n1
      rw [if_pos (show (0 : Int) = 0 from rfl), if_pos (show ((TreeTree.mk 0 N []).Kind == 0) = true from rfl)]
      simp only [TreeTree_Kind_mk, TreeTree_N_mk, TreeTree_Kids_mk]
      rw [cg_at n0 n1, Option.bind_some, ig_at n0 (by omega)]
      have hkd : (cg cs N).Kind = 0 ∨ (cg cs N).Kind = 1 ∨ (cg cs N).Kind = 2 ∨ (cg cs N).Kind = 3 := by omega
      have hl1 : code.length + 1 ≤ 1000000000 := by omega
      rcases hkd with hkd | hkd | hkd | hkd <;> simp [hkd, ldOp, put_eq _ _ _ _ _ _ _ _ hl1]
    · rw [OkL_iff] at hks
      have hK0 : ¬ K = 0 := by omega
      rw [if_neg (show ¬ ((TreeTree.mk K 0 ks).Kind == 0) = true by rw [TreeTree_Kind_mk]; simpa using hK0), if_neg hK0, TreeTree_Kids_mk]
      match ks, h2, hc, hb, hks, ih, hlen, hkm with
      | k :: ks, h2, hc, hb, hks, ih, hlen, hkm =>
        rw [szL] at hc hb
        have hlk := layS_len cs sl k
        have hll := szL_len ks
        rw [show atI (k :: ks) 0 = some k from rfl, Option.bind_some, ih k (by simp) m code (hks k (by simp)) (by omega) (by omega) (hkm k (by simp)), Option.bind_some]
        rw [if_pos (by simp; omega)]
        simp only [List.drop_succ_cons, List.drop_zero, Option.bind_some]
        have := lay_loop hk hsl b0 b2 b3 m (.mk K 0 (k :: ks)) hK ks (by omega) (fun j hj => hks j (by simp [hj])) (codegen_maker_lay_v1 m)
          (fun j hj code' h' => ih j (by simp [hj]) m code' (hks j (by simp [hj])) (by have := szL_mem hj; omega) h' (hkm j (by simp [hj]))) m 0 (code ++ layS cs sl k) (by omega) (by simp at hlen; omega) (by simp; omega)
        rw [show ((0 : Nat) : Int) = 0 from rfl, List.drop_zero] at this
        rw [this, layH, List.append_assoc]
        rfl
end

/-! ### slots -/
/-- The slots of the contacts, from the first one on. -/
def slotsS : List ApiContact → Int → List Int
  | [], _ => []
  | c :: cs, s => if seesS c then s :: slotsS cs (s + 1) else 0 :: slotsS cs s
theorem slotsS_len : ∀ (cs : List ApiContact) (s : Int), (slotsS cs s).length = cs.length
  | [], _ => rfl
  | c :: cs, s => by rw [slotsS]; split <;> simp [slotsS_len]

theorem slots_loop (n : Nat) (r : ApiRung) (t : TreeTree) (hs : r.Contacts.length ≤ 1000000) : ∀ (m i : Nat) (s : Int) (pre : List Int), i ≤ r.Contacts.length → r.Contacts.length - i < m → pre.length = i → 0 ≤ s → s + (r.Contacts.length - i : Nat) ≤ 100000000 →
    codegen_Tree_L2 n r t m s (i : Int) (pre ++ List.replicate (r.Contacts.length - i) 0) = codegen_Tree_J1 n r t (pre ++ slotsS (r.Contacts.drop i) s)
  | 0, i, s, pre, h, hm, _, _, _ => absurd hm (Nat.not_lt_zero _)
  | m + 1, i, s, pre, h, hm, hp, h0, h1 => by
    rw [codegen_Tree_L2]
    by_cases hi : i < r.Contacts.length
    · obtain ⟨x, hx⟩ := get_ex hi
      obtain ⟨q, hq⟩ : ∃ q, r.Contacts.length - i = q + 1 := ⟨r.Contacts.length - i - 1, by omega⟩
      have hq' : r.Contacts.length - (i + 1) = q := by omega
      rw [if_pos (by simpa using hi), atI_nat, hx, Option.bind_some, codegen_sees_eq, Option.bind_some, drop_cons hx, slotsS, hq, List.replicate_succ]
      have hat : atI (pre ++ 0 :: List.replicate q (0 : Int)) (i : Int) = some 0 := by
        rw [atI_nat, List.getElem?_append_right (by omega), hp]; simp
      have hset : (pre ++ 0 :: List.replicate q (0 : Int)).set i s = (pre ++ [s]) ++ List.replicate q 0 := by
        rw [List.set_append_right _ _ (by omega), hp]; simp
      cases hse : seesS x with
      | true =>
        have := slots_loop n r t hs m (i + 1) (s + 1) (pre ++ [s]) (by omega) (by omega) (by simp [hp]) (by omega) (by omega)
        rw [hq'] at this
        rw [if_pos rfl, if_pos rfl, hat, Option.bind_some, Int.toNat_natCast, hset, Option.bind_some, wrapN (by omega), wrapI (by omega) (by omega), this]
        simp
      | false =>
        have := slots_loop n r t hs m (i + 1) s (pre ++ [0]) (by omega) (by omega) (by simp [hp]) h0 (by omega)
        rw [hq'] at this
        rw [if_neg (by simp), if_neg (by simp), wrapN (by omega)]
        rw [show pre ++ 0 :: List.replicate q (0 : Int) = (pre ++ [0]) ++ List.replicate q 0 by simp, this]
        simp
    · have : r.Contacts.length - i = 0 := by omega
      rw [if_neg (by simpa using hi), List.drop_eq_nil_of_le (by omega), slotsS, this]; rfl

/-- Whether a contact's kind is unknown. -/
def badK (c : ApiContact) : Bool := decide (c.Kind < 0) || decide (c.Kind ≥ 4)
theorem codegen_Tree_1_eq (n : Nat) (c : ApiContact) : codegen_Tree_1 n c = some (badK c) := by
  rw [codegen_Tree_1, badK]
  by_cases h : c.Kind < 0 <;> simp [h]
theorem c36_loop (n : Nat) (s : List ApiContact) (hs : s.length ≤ 1000000000) : ∀ (k i : Nat), i ≤ s.length → s.length - i < k →
    ∃ r, slices_IndexFunc_api_Contact_c36_L1 n s k (i : Int) = some r ∧ decide (r ≥ 0) = (s.drop i).any badK
  | 0, i, h, hk => absurd hk (Nat.not_lt_zero _)
  | k + 1, i, h, hk => by
    rw [slices_IndexFunc_api_Contact_c36_L1]
    by_cases hi : i < s.length
    · obtain ⟨x, hx⟩ := get_ex hi
      rw [if_pos (by simpa using hi), atI_nat, hx, Option.bind_some, codegen_Tree_1_eq, Option.bind_some, drop_cons hx, List.any_cons]
      cases hc : badK x with
      | true => exact ⟨(i : Int), by simp, by simp⟩
      | false =>
        rw [wrapN (by omega)]
        obtain ⟨r, h1, h2⟩ := c36_loop n s hs k (i + 1) (by omega) (by omega)
        exact ⟨r, by simpa using h1, by simpa using h2⟩
    · rw [if_neg (by simpa using hi)]
      refine ⟨-1, rfl, ?_⟩
      rw [List.drop_eq_nil_of_le (by omega)]; rfl
theorem c36_eq (n : Nat) (s : List ApiContact) (hs : s.length ≤ 1000000000) (h : s.length < n) : slices_ContainsFunc_api_Contact_c36 n s = some (s.any badK) := by
  obtain ⟨r, h1, h2⟩ := c36_loop n s hs n 0 (by omega) (by omega)
  simp only [slices_ContainsFunc_api_Contact_c36, slices_IndexFunc_api_Contact_c36]
  rw [show (0 : Int) = ((0 : Nat) : Int) from rfl, h1, Option.bind_some]
  rw [List.drop_zero] at h2
  exact congrArg some h2

/-- What the compiler of a tree answers. -/
def treeS (r : ApiRung) (t : TreeTree) (slot : Int) : List ApiIns × Int :=
  if checkS t r.Contacts.length ≠ 0 then ([], checkS t r.Contacts.length) else if r.Contacts.any badK then ([], 8) else if slot < 0 ∨ slot > 16384 then ([], 3) else (layS r.Contacts (slotsS r.Contacts slot) t, 0)

theorem codegen_Tree_eq (n : Nat) (r : ApiRung) (t : TreeTree) (slot : Int) (hb : szT t ≤ 300000000) (hn : szT t < n) (hl : r.Contacts.length ≤ 1000000) (hln : r.Contacts.length < n) : codegen_Tree n r t slot = some (treeS r t slot) := by
  rw [codegen_Tree, treeS, tree_Check_eq t _ n (by omega) hn, Option.bind_some]
  by_cases hc : checkS t r.Contacts.length = 0
  · rw [if_neg (show ¬ (checkS t r.Contacts.length != 0) = true by simp [hc]), if_neg (show ¬ (checkS t r.Contacts.length ≠ 0) by simp [hc]), c36_eq n _ (by omega) hln, Option.bind_some]
    cases hbad : r.Contacts.any badK with
    | true => simp
    | false =>
      rw [if_neg (show ¬ false = true by simp), if_neg (show ¬ false = true by simp)]
      by_cases h0 : slot < 0
      · simp [h0]
      by_cases h1 : slot > 16384
      · simp [h0, h1]
      rw [if_neg (show ¬ (decide (slot < 0)) = true by simpa using h0), if_neg (show ¬ (decide (slot > 16384)) = true by simpa using h1), if_neg (show ¬ (slot < 0 ∨ slot > 16384) by omega), if_pos (by omega), Option.bind_some]
      have := slots_loop n r t hl n 0 slot [] (by omega) (by omega) rfl (by omega) (by omega)
      rw [List.nil_append, List.nil_append, Nat.sub_zero, List.drop_zero, show ((0 : Nat) : Int) = 0 from rfl] at this
      rw [this, codegen_Tree_J1]
      obtain ⟨g1, _, _⟩ := (checkS_iff t r.Contacts.length).1 hc
      have hk : KindsOk r.Contacts := fun c hc => by
        have := List.any_eq_false.1 hbad c hc
        simp only [badK, Bool.or_eq_true, decide_eq_true_eq, not_or] at this
        omega
      rw [lay_eq hk (slotsS_len _ _) _ _ _ t n [] g1 (by omega) (by simp; omega) hn, Option.bind_some, List.nil_append]
  · simp [hc]
end Go.G

namespace Go.G
open Go.Av

def kd (l : List Int) (j : Nat) : Int := IntKind.i64.wrap (((l[j]?).getD 0).tmod 2)
theorem kd_01 {l : List Int} (h : ∀ x ∈ l, 0 ≤ x ∧ x ≤ 255) (j : Nat) : kd l j = 0 ∨ kd l j = 1 := by
  unfold kd
  have h0 : 0 ≤ (l[j]?).getD 0 := by
    cases e : l[j]? with
    | none => simp
    | some x => exact (h x (List.mem_of_getElem? e)).1
  have h1 : (l[j]?).getD 0 ≤ 255 := by
    cases e : l[j]? with
    | none => simp
    | some x => exact (h x (List.mem_of_getElem? e)).2
  generalize (l[j]?).getD 0 = x at *
  have : x.tmod 2 = x % 2 := Int.tmod_eq_emod_of_nonneg h0
  rw [this, wrapI (by omega) (by omega)]
  omega
def kidsS (i : Nat) : List TreeTree := (List.range i).map fun j : Nat => .mk 0 (j : Int) []
def consS (l : List Int) (i : Nat) : List ApiContact := (List.range i).map fun j => ⟨kd l j, ⟨0, (j : Int)⟩, ⟨#[]⟩, ⟨#[]⟩⟩
def kS (side : Bool) : Int := if side then 2 else 1
theorem kS_eq (side : Bool) : (mGet (mPut (mPut ([] : List (Bool × Int)) false 1) true 2) side).getD 0 = kS side := by cases side <;> rfl
theorem jS_eq (side : Bool) : (mGet (mPut (mPut ([] : List (Bool × Int)) false 2) true 4) side).getD 0 = 2 * kS side := by cases side <;> rfl

theorem wp_loop3 (n : Nat) (l : List Int) (side : Bool) (hl : l.length ≤ 60) : ∀ (m i : Nat), i ≤ l.length → l.length - i < m →
    law17_CodegenWithoutPush_L3 n l side m (i : Int) (kidsS i) (consS l i) = law17_CodegenWithoutPush_J1 n l side (kidsS l.length) (consS l l.length)
  | 0, i, h, hm => absurd hm (Nat.not_lt_zero _)
  | m + 1, i, h, hm => by
    rw [law17_CodegenWithoutPush_L3]
    by_cases hi : i < l.length
    · obtain ⟨x, hx⟩ := get_ex hi
      have e1 : kidsS i ++ [(⟨0, (i : Int), ([] : List TreeTree)⟩ : TreeTree)] = kidsS (i + 1) := by simp [kidsS, List.range_succ]
      have e2 : consS l i ++ [(⟨IntKind.i64.wrap (x.tmod 2), ⟨0, (i : Int)⟩, ⟨#[]⟩, ⟨#[]⟩⟩ : ApiContact)] = consS l (i + 1) := by simp [consS, List.range_succ, kd, hx]
      rw [if_pos (by simpa using hi), atI_nat, hx, Option.bind_some, if_pos (by simp [kidsS]; omega), Option.bind_some, if_pos (by simp [consS]; omega), Option.bind_some, e1, e2, wrapN (by omega)]
      exact wp_loop3 n l side hl m (i + 1) (by omega) (by omega)
    · have : i = l.length := by omega
      subst this
      rw [if_neg (by simp)]

/-- The code that is asked for. -/
def codeS (l : List Int) (K : Int) (j : Nat) : ApiIns := ⟨kd l j + (if j = 0 then 0 else 2 * K), ⟨0, (j : Int)⟩, 0⟩

theorem slots_zero {s : Int} : ∀ cs : List ApiContact, (∀ c ∈ cs, seesS c = false) → slotsS cs s = List.replicate cs.length 0
  | [], _ => rfl
  | c :: cs, h => by rw [slotsS, h c (by simp), if_neg (show ¬ false = true by simp), slots_zero cs fun c hc => h c (by simp [hc])]; rfl

theorem consS_at (l : List Int) {n j : Nat} (h : j < n) : cg (consS l n) (j : Int) = ⟨kd l j, ⟨0, (j : Int)⟩, ⟨#[]⟩, ⟨#[]⟩⟩ := by
  rw [cg, Int.toNat_natCast, consS]; simp [h]
theorem sees_01 {c : ApiContact} (h : c.Kind = 0 ∨ c.Kind = 1) : seesS c = false := by
  simp only [seesS, Bool.or_eq_false_iff, beq_eq_false_iff_ne]
  omega

theorem layT_codes {l : List Int} (h : ∀ x ∈ l, 0 ≤ x ∧ x ≤ 255) {n : Nat} {sl : List Int} {K : Int} (hK : K = 1 ∨ K = 2) : ∀ (m a : Nat), 1 ≤ a → a + m ≤ n →
    layT (consS l n) sl K ((List.range' a m).map fun j : Nat => .mk 0 (j : Int) []) = (List.range' a m).map (codeS l K)
  | 0, a, _, _ => rfl
  | m + 1, a, h1, h2 => by
    rw [List.range'_succ, List.map_cons, List.map_cons, layT, layT_codes h hK m (a + 1) (by omega) (by omega)]
    simp only [TreeTree_Kind_mk, TreeTree_N_mk]
    have hc := consS_at l (n := n) (j := a) (by omega)
    have hs : seesS (cg (consS l n) (a : Int)) = false := sees_01 (by rw [hc]; exact kd_01 h a)
    rw [if_pos ⟨trivial, hs⟩, hc]
    have hop : jnOp K (kd l a) = kd l a + 2 * K := by
      rcases hK with rfl | rfl <;> rcases kd_01 h a with e | e <;> rw [e] <;> rfl
    simp only [codeS, hop, if_neg (show ¬ a = 0 by omega)]
    rfl

theorem lvs_kids : ∀ (m a : Nat), lvs ((List.range' a m).map fun j : Nat => TreeTree.mk 0 (j : Int) []) = (List.range' a m).map fun j : Nat => (j : Int)
  | 0, a => rfl
  | m + 1, a => by
    rw [List.range'_succ, List.map_cons, List.map_cons, lvs, lvs_kids m (a + 1), lv, if_pos rfl]; rfl

theorem kidsS_range (i : Nat) : kidsS i = (List.range' 0 i).map fun j : Nat => .mk 0 (j : Int) [] := by rw [kidsS, List.range_eq_range']

theorem szL_kids : ∀ (m a : Nat), szL ((List.range' a m).map fun j : Nat => TreeTree.mk 0 (j : Int) []) = m
  | 0, a => rfl
  | m + 1, a => by
    rw [List.range'_succ, List.map_cons, szL, szL_kids m (a + 1), szT, szL]; omega

theorem kd_zero {l : List Int} (h : ∀ x ∈ l, 0 ≤ x ∧ x ≤ 255) : ldOp (kd l 0) = kd l 0 := by
  rcases kd_01 h 0 with e | e <;> rw [e] <;> rfl

theorem treeS_push {l : List Int} (h : ∀ x ∈ l, 0 ≤ x ∧ x ≤ 255) (h2 : 2 ≤ l.length) (side : Bool) (lab jmp : Str) (co : List ApiCoil) :
    treeS ⟨lab, consS l l.length, co, jmp⟩ (.mk (kS side) 0 (kidsS l.length)) 0 = ((List.range l.length).map (codeS l (kS side)), 0) := by
  have hK : kS side = 1 ∨ kS side = 2 := by cases side <;> simp [kS]
  have hlen : (consS l l.length).length = l.length := by simp [consS]
  have hno : ∀ c ∈ consS l l.length, c.Kind = 0 ∨ c.Kind = 1 := fun c hc => by
    simp only [consS, List.mem_map] at hc
    obtain ⟨j, _, rfl⟩ := hc
    exact kd_01 h j
  have hck : checkS (.mk (kS side) 0 (kidsS l.length)) (consS l l.length).length = 0 := by
    refine (checkS_iff _ _).2 ⟨?_, ?_, ?_⟩
    · rw [Ok]
      refine .inr ⟨hK, rfl, by simp [kidsS]; omega, fun k hk => ?_, OkL_iff.2 fun k hk => ?_⟩
      · simp only [kidsS, List.mem_map] at hk
        obtain ⟨j, _, rfl⟩ := hk
        rw [TreeTree_Kind_mk]; omega
      · simp only [kidsS, List.mem_map, List.mem_range] at hk
        obtain ⟨j, hj, rfl⟩ := hk
        rw [Ok, hlen]
        exact .inl ⟨rfl, rfl, by omega, by omega⟩
    · rw [lv, if_neg (by omega), if_pos hK, kidsS_range, lvs_kids]
      exact List.Pairwise.map (fun j : Nat => (j : Int)) (fun a b (hab : a ≠ b) (e : (a : Int) = (b : Int)) => hab (by omega)) List.nodup_range'
    · rw [lv, if_neg (by omega), if_pos hK, kidsS_range, lvs_kids, hlen]; simp
  have hbad : (consS l l.length).any badK = false := by
    rw [List.any_eq_false]
    intro c hc
    have := hno c hc
    simp only [badK, Bool.or_eq_true, decide_eq_true_eq]
    omega
  rw [treeS]
  simp only
  rw [if_neg (by simpa using hck), if_neg (by simp [hbad]), if_neg (by omega), slots_zero _ fun c hc => sees_01 (hno c hc)]
  congr 1
  rw [layS, if_neg (by omega), kidsS_range]
  obtain ⟨m, hm⟩ : ∃ m, l.length = m + 1 := ⟨l.length - 1, by omega⟩
  have e : List.range' 0 l.length = 0 :: List.range' 1 m := by rw [hm, List.range'_succ]
  rw [List.range_eq_range', e, List.map_cons, List.map_cons, layH, layT_codes h hK m 1 (by omega) (by omega), layS, if_pos rfl, consS_at l (by omega : 0 < l.length), kd_zero h]
  have hz : ig (List.replicate (consS l l.length).length (0 : Int)) ((0 : Nat) : Int) = 0 := by
    rw [ig, Int.toNat_natCast, hlen, hm]; rfl
  rw [hz]
  simp [codeS]

theorem wp_loop2 (n : Nat) (l : List Int) (side : Bool) (hl : l.length ≤ 60) (h : ∀ x ∈ l, 0 ≤ x ∧ x ≤ 255) (ha : law17_alive n = some true) : ∀ (m i : Nat), i ≤ l.length → l.length - i < m →
    law17_CodegenWithoutPush_L2 n l side ((List.range l.length).map (codeS l (kS side))) m (i : Int) = some true
  | 0, i, hi, hm => absurd hm (Nat.not_lt_zero _)
  | m + 1, i, hi, hm => by
    rw [law17_CodegenWithoutPush_L2]
    by_cases hlt : i < l.length
    · obtain ⟨x, hx⟩ := get_ex hlt
      have hc : ((List.range l.length).map (codeS l (kS side)))[i]? = some (codeS l (kS side) i) := by simp [hlt]
      have hk : IntKind.i64.wrap (x.tmod 2) = kd l i := by simp [kd, hx]
      have ih := wp_loop2 n l side hl h ha m (i + 1) (by omega) (by omega)
      have hK : kS side = 1 ∨ kS side = 2 := by cases side <;> simp [kS]
      have h01 := kd_01 h i
      rw [if_pos (by simpa using hlt), atI_nat, hc, Option.bind_some, atI_nat, hx, Option.bind_some, hk, jS_eq, wrapN (by omega), ih]
      by_cases h0 : i = 0
      · subst h0
        simp [codeS]
      · rw [if_pos (by simp; omega), wrapI (by omega) (by omega)]
        simp [codeS, h0]
    · rw [if_neg (by simpa using hlt), ha]; rfl

theorem push_law0 (n : Nat) (hn : 1000 ≤ n) (ha : law17_alive n = some true) (l : List Int) (side : Bool) (h : ∀ x ∈ l, 0 ≤ x ∧ x ≤ 255) : law17_CodegenWithoutPush n l side = some true := by
  rw [law17_CodegenWithoutPush]
  by_cases h2 : l.length < 2
  · rw [if_pos (by rw [decide_eq_true_eq]; omega), ha]; rfl
  rw [if_neg (by rw [decide_eq_true_eq]; omega)]
  by_cases h60 : l.length > 60
  · rw [if_pos (by rw [decide_eq_true_eq]; omega), ha]; rfl
  rw [if_neg (by rw [decide_eq_true_eq]; omega)]
  have h3 := wp_loop3 n l side (by omega) n 0 (by omega) (by omega)
  rw [show kidsS 0 = [] from rfl, show consS l 0 = [] from rfl, show ((0 : Nat) : Int) = 0 from rfl] at h3
  rw [h3, law17_CodegenWithoutPush_J1, kS_eq, codegen_Tree_eq n _ _ _ (by rw [szT, kidsS_range, szL_kids]; omega) (by rw [szT, kidsS_range, szL_kids]; omega) (by simp [consS]; omega) (by simp [consS]; omega),
    treeS_push h (by omega) side, Option.bind_some]
  have hw := wp_loop2 n l side (by omega) h ha n 0 (by omega) (by omega)
  rw [show ((0 : Nat) : Int) = 0 from rfl] at hw
  simp [hw]

theorem push_law (l : List Int) (side : Bool) (h : ∀ x ∈ l, 0 ≤ x ∧ x ≤ 255) : law17_CodegenWithoutPush 2000000 l side = some true :=
  push_law0 2000000 (by omega) alive17 l side h
end Go.G

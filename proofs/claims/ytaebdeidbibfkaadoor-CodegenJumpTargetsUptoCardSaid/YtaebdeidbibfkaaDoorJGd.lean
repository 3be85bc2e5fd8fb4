/- Depths of trees. No law is proved here. -/
import Derived.Test.YtaebdeidbibfkaaDoorJGc
import Derived.Test.YtaebdeidbibfkaaDoorJLawM12
set_option linter.unusedSimpArgs false
set_option linter.unusedVariables false
set_option linter.unusedSectionVars false
namespace Go.G
open Go.Av
def getB (l : List Bool) (i : Int) : Bool := (l[i.toNat]?).getD false
mutual
def dp (ed : List Bool) : TreeTree → Nat
  | .mk _ _ ks => dpL ed ks
def dpL (ed : List Bool) : List TreeTree → Nat
  | [] => 0
  | k :: ks => dps ed ks (dp ed k)
def dps (ed : List Bool) : List TreeTree → Nat → Nat
  | [], d => d
  | k :: ks, d => dps ed ks (if k.Kind ≠ 0 ∨ getB ed k.N = true then max d (1 + dp ed k) else d)
end
theorem dps_le (ed : List Bool) : ∀ (ks : List TreeTree), (∀ k ∈ ks, dp ed k < szT k) → ∀ d, dps ed ks d ≤ max d (szL ks)
  | [], _, d => by rw [dps]; omega
  | k :: ks, h, d => by
    have h1 := h k (by simp)
    have h2 := dps_le ed ks (fun k hk => h k (by simp [hk]))
    rw [dps, szL]
    split
    · have := h2 (max d (1 + dp ed k)); omega
    · have := h2 d; omega
theorem dp_lt (ed : List Bool) : ∀ t, dp ed t < szT t := by
  intro t
  induction t using tree_ind with
  | h K N ks ih =>
    rw [dp, szT]
    cases ks with
    | nil => rw [dpL]; omega
    | cons k ks =>
      have h1 := ih k (by simp)
      have h2 := dps_le ed ks (fun k hk => ih k (by simp [hk])) (dp ed k)
      rw [dpL, szL]; omega
theorem imax_nat (a b : Nat) : imax (a : Int) (b : Int) = ((max a b : Nat) : Int) := by unfold imax; split <;> omega
theorem getB_ok {len : Nat} {ed : List Bool} (h : ed.length = len) {k : TreeTree} (hk : Ok len k) (h0 : k.Kind = 0) : atI ed k.N = some (getB ed k.N) ∧ k.Kids = [] := by
  obtain ⟨K, N, ks⟩ := k
  rw [Ok] at hk
  rw [TreeTree_Kind_mk] at h0
  rw [TreeTree_N_mk, TreeTree_Kids_mk]
  rcases hk with ⟨_, h1, h2, h3⟩ | ⟨h, _⟩
  · have : N.toNat < ed.length := by omega
    exact ⟨by simp [atI, h2, getB, List.getElem?_eq_getElem this], h1⟩
  · omega
theorem depth_loop (t : TreeTree) (ed : List Bool) (slf : TreeTree → List Bool → Option Int) (hs : t.Kids.length ≤ 1000000000) (hf : ∀ k ∈ t.Kids, slf k ed = some (dp ed k : Int)) (hok : ∀ k ∈ t.Kids, Ok ed.length k) (hsz : ∀ k ∈ t.Kids, szT k ≤ 1000000000) : ∀ (k i d : Nat), 1 ≤ i → i ≤ t.Kids.length → t.Kids.length - i < k →
    tree_Tree_depth_L1 t ed slf k (i : Int) (d : Int) = some (dps ed (t.Kids.drop i) d : Int)
  | 0, i, d, h1, h, hk => absurd hk (Nat.not_lt_zero _)
  | k + 1, i, d, h1, h, hk => by
    rw [tree_Tree_depth_L1]
    by_cases hi : i < t.Kids.length
    · obtain ⟨x, hx⟩ := get_ex hi
      have hm := List.mem_of_getElem? hx
      have h0 : ((i : Int) == 0) = false := by simp; omega
      have hlt := dp_lt ed x
      have hxs := hsz x hm
      have hw : IntKind.i64.wrap (1 + (dp ed x : Int)) = ((1 + dp ed x : Nat) : Int) := by rw [wrapI (by omega) (by omega)]; omega
      rw [if_pos (by simpa using hi), atI_nat, hx, Option.bind_some, h0, if_neg (by simp), hf x hm, drop_cons hx, dps]
      have ih := depth_loop t ed slf hs hf hok hsz k (i + 1)
      by_cases hK : x.Kind = 0
      · obtain ⟨g1, _⟩ := getB_ok rfl (hok x hm) hK
        simp only [hK, bne_self_eq_false, Bool.false_eq_true, if_false, g1, Option.bind_some, ne_eq, not_true, false_or]
        cases hb : getB ed x.N with
        | true => rw [if_pos rfl, if_pos rfl, hw, imax_nat, wrapN (by omega)]; exact ih _ (by omega) (by omega) (by omega)
        | false => rw [if_neg (by simp), if_neg (by simp), wrapN (by omega)]; exact ih _ (by omega) (by omega) (by omega)
      · have : (x.Kind != 0) = true := by simpa using hK
        rw [if_pos this, Option.bind_some, hw, imax_nat, wrapN (by omega), if_pos (.inl hK)]
        exact ih _ (by omega) (by omega) (by omega)
    · rw [if_neg (by simpa using hi), List.drop_eq_nil_of_le (by omega), dps]
theorem tree_Tree_depth_eq (ed : List Bool) : ∀ (t : TreeTree) (n : Nat), Ok ed.length t → szT t ≤ 1000000000 → szT t < n → tree_Tree_depth n t ed = some (dp ed t : Int) := by
  intro t
  induction t using tree_ind with
  | h K N ks ih =>
    intro n hok hb hn
    obtain ⟨m, rfl, hlen, hk⟩ := szT_kids hn
    have hl : ks.length ≤ 1000000000 := by have := szL_len ks; simp only [szT] at hb; omega
    have hkb : ∀ k ∈ ks, szT k ≤ 1000000000 := fun k hk => by have := szL_mem hk; simp only [szT] at hb; omega
    rw [tree_Tree_depth, dp]
    have hoks : ∀ k ∈ ks, Ok ed.length k := by
      rw [Ok] at hok
      rcases hok with ⟨_, rfl, _⟩ | ⟨_, _, _, _, h⟩
      · simp
      · exact OkL_iff.1 h
    have hf : ∀ k ∈ ks, tree_Tree_depth m k ed = some (dp ed k : Int) := fun k hk' => ih k hk' m (hoks k hk') (hkb k hk') (hk k hk')
    obtain ⟨j, rfl⟩ : ∃ j, m = j + 1 := ⟨m - 1, by omega⟩
    rw [tree_Tree_depth_L1]
    cases ks with
    | nil => simp [TreeTree_Kids_mk, dpL]
    | cons k ks =>
      have hloop := depth_loop (.mk K N (k :: ks)) ed (tree_Tree_depth (j + 1)) (by simpa [TreeTree_Kids_mk] using hl) (by simpa [TreeTree_Kids_mk] using hf) (by simpa [TreeTree_Kids_mk] using hoks) (by simpa [TreeTree_Kids_mk] using hkb) j 1 (dp ed k) (by omega) (by simp [TreeTree_Kids_mk]) (by simp only [TreeTree_Kids_mk]; simp only [List.length_cons] at hlen ⊢; omega)
      rw [TreeTree_Kids_mk, if_pos (by simp), show atI (k :: ks) 0 = some k from rfl, Option.bind_some, if_pos (by simp), hf k (by simp), Option.bind_some]
      have hw : IntKind.i64.wrap ((0 : Int) + 1) = ((1 : Nat) : Int) := wrapN (i := 0) (by omega)
      rw [hw, hloop, TreeTree_Kids_mk, dpL]; rfl
theorem tree_StackDepth_eq (t : TreeTree) (ed : List Bool) (n : Nat) (hb : szT t ≤ 1000000000) (hn : szT t < n) : tree_StackDepth n t ed = some (if checkS t ed.length = 0 then ((dp ed t : Int), 0) else (0, checkS t ed.length)) := by
  rw [tree_StackDepth, tree_Check_eq t _ n hb hn, Option.bind_some]
  by_cases hc : checkS t ed.length = 0
  · rw [if_neg (by simp [hc]), tree_Tree_depth_eq ed t n ((checkS_iff t ed.length).1 hc).1 hb hn, Option.bind_some, if_pos hc]
  · rw [if_pos (by simpa using hc), if_neg hc]
end Go.G

/- Expanding the tree of a rung and reducing it again yields the same tree. No walk is proved here. -/
import Derived.Test.YtaebdeidbibfkaaDoorXLawM13
set_option linter.unusedSimpArgs false
set_option linter.unusedVariables false
set_option linter.unusedSectionVars false
namespace Go.G
open Go.Av
set_option maxRecDepth 100000 in
theorem alive15 : law15_alive 2000000 = some true := by decide +kernel

theorem tl12_loop (r : ApiRung) (hn : r.Contacts.length ≤ 1500000) : ∀ (k i : Nat) (p : Int), i ≤ r.Contacts.length → r.Contacts.length - i < k → ∃ b : Int, law12_TooLarge_L2 r k p i = some b ∧ (¬ b > 0 → r.Contacts.length ≤ 60)
  | 0, i, p, h, hk => absurd hk (Nat.not_lt_zero _)
  | k + 1, i, p, h, hk => by
    rw [law12_TooLarge_L2]
    by_cases hi : i < r.Contacts.length
    · obtain ⟨x, hx⟩ := get_ex hi
      rw [if_pos (by simpa using hi), atI_nat, hx, Option.bind_some, wrapN (by omega)]
      exact tl12_loop r hn k (i + 1) _ (by omega) (by omega)
    · rw [if_neg (by simpa using hi), law12_TooLarge_J1]
      split
      · exact ⟨1, rfl, fun h => absurd (by decide) h⟩
      · split
        · exact ⟨1, rfl, fun h => absurd (by decide) h⟩
        · rename_i h2
          rw [decide_eq_true_eq] at h2
          exact ⟨0, rfl, fun _ => by omega⟩
theorem tl12 (r : ApiRung) (n : Nat) (hn : r.Contacts.length ≤ 1500000) (hf : r.Contacts.length < n) : ∃ b : Int, law12_TooLarge n r = some b ∧ (¬ b > 0 → r.Contacts.length ≤ 60) :=
  tl12_loop r hn n 0 0 (by omega) (by omega)

theorem eqF_loop (s : List TreeTree) (slf : TreeTree → TreeTree → Option Bool) (hs : s.length ≤ 1000000000) (hf : ∀ k ∈ s, slf k k = some true) : ∀ (q i : Nat), i ≤ s.length → s.length - i < q → slices_EqualFunc_tree_Tree_c24_L1 s s slf q (i : Int) = some true
  | 0, i, h, hm => absurd hm (Nat.not_lt_zero _)
  | q + 1, i, h, hm => by
    rw [slices_EqualFunc_tree_Tree_c24_L1]
    by_cases hi : i < s.length
    · obtain ⟨x, hx⟩ := get_ex hi
      rw [if_pos (by simpa using hi), atI_nat, hx, Option.bind_some, Option.bind_some, hf x (List.mem_of_getElem? hx), Option.bind_some, if_neg (by simp), wrapN (by omega)]
      exact eqF_loop s slf hs hf q (i + 1) (by omega) (by omega)
    · rw [if_neg (by simpa using hi)]
theorem tree_Equal_refl : ∀ (t : TreeTree) (n : Nat), szT t ≤ 1000000000 → szT t < n → tree_Equal n t t = some true := by
  intro t
  induction t using tree_ind with
  | h K N ks ih =>
    intro n hb hn
    obtain ⟨m, rfl, hlen, hk⟩ := szT_kids hn
    have hl := szL_len ks
    have hkb : ∀ k ∈ ks, szT k ≤ 1000000000 := fun k hk => by have := szL_mem hk; rw [szT] at hb; omega
    have := eqF_loop ks (tree_Equal m) (by rw [szT] at hb; omega) (fun k hk' => ih k hk' m (hkb k hk') (hk k hk')) m 0 (by omega) (by omega)
    rw [show ((0 : Nat) : Int) = 0 from rfl] at this
    rw [tree_Equal, TreeTree_Kids_mk, slices_EqualFunc_tree_Tree_c24, if_pos (by simp), if_pos (by simp), if_neg (by simp), this]; rfl

theorem sortedS_good {len : Int} {t : TreeTree} (h : Good len t) : Good len (sortedS t) := ⟨sortedS_ok h.ok, (sortedS_lv t).nodup_iff.2 h.nd⟩

theorem stable_law0 (n : Nat) (hn : 2000000 ≤ n) (hal : law15_alive n = some true) (r : ApiRung) (hr : r.Contacts.length ≤ 1500000) : law15_ReduceIsStable n r = some true := by
  obtain ⟨b, h1, h2⟩ := tl12 r n hr (by omega)
  rw [law15_ReduceIsStable, h1, Option.bind_some]
  by_cases c1 : b > 0
  · rw [if_pos (by simpa using c1), hal]; rfl
  rw [if_neg (by simpa using c1)]
  by_cases c2 : (r.Contacts.length : Int) > 30
  · rw [if_pos (by simpa using c2), hal]; rfl
  rw [if_neg (by simpa using c2)]
  rcases Reduce_full n r (by omega) (by omega) with ⟨e, he, hre⟩ | ⟨t0, hre, hg, hlv, hsz⟩
  · have ht : szT (.mk 0 0 []) = 1 := by rw [szT, szL]
    rw [hre, Option.bind_some]
    dsimp only
    rw [if_pos (by simpa using he), hal, Option.bind_some, if_pos rfl, tree_Equal_refl _ n (by omega) (by omega), Option.bind_some]
  · have hg1 := sortedS_good hg
    have hlv1 : (lv (sortedS t0)).length = r.Contacts.length := by rw [(sortedS_lv t0).length_eq]; exact hlv
    have hsz1 : szT (sortedS t0) ≤ 60 := by rw [sortedS_sz]; omega
    have hc := (checkS_iff (sortedS t0) r.Contacts.length).2 ⟨hg1.ok, hg1.nd, hlv1⟩
    have hlen : (expC (sortedS t0) r.Contacts).length = r.Contacts.length := by rw [expC, setEs_len]
    rw [hre, Option.bind_some]
    dsimp only
    rw [if_neg (by simp), Expand_eq n (sortedS t0) r.Contacts (by omega) (by omega) (by omega) hg1.ok hg1.nd hlv1, Option.bind_some]
    dsimp only
    rw [Reduce_exp n ⟨(⟨#[]⟩ : Str), expC (sortedS t0) r.Contacts, [], (⟨#[]⟩ : Str)⟩ rfl (by omega) (by omega) (by omega) hg1.ok hg1.nd hlv1, Option.bind_some]
    dsimp only
    rw [hal, Option.bind_some, if_pos rfl, if_pos (by rfl), if_pos (by rfl), sorted_idem hg, tree_Equal_refl _ n (by omega) (by omega), Option.bind_some, if_pos rfl, tree_Check_eq _ _ n (by omega) (by omega), hc, Option.bind_some, if_pos (by rfl), hlen]
    simp

theorem stable_law (r : ApiRung) (hr : r.Contacts.length ≤ 1500000) : law15_ReduceIsStable 2000000 r = some true :=
  stable_law0 2000000 (Nat.le_refl _) alive15 r hr
end Go.G

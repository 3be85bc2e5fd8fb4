/- Trees: turned, and joined with a leaf. -/
import Derived.Test.YtfghchpnolfllaaDoorLawM10
set_option linter.unusedSimpArgs false
set_option linter.unusedVariables false
set_option linter.unusedSectionVars false
namespace Go.G
open Go.Av

mutual
def turnT : TreeTree → TreeTree
  | .mk K N ks => .mk K N (turnL ks)
def turnL : List TreeTree → List TreeTree
  | [] => []
  | k :: ks => turnL ks ++ [turnT k]
end
theorem turnL_eq : ∀ ks, turnL ks = (ks.map turnT).reverse
  | [] => rfl
  | k :: ks => by rw [turnL, turnL_eq ks]; simp
theorem turnT_Kind (t : TreeTree) : (turnT t).Kind = t.Kind := by cases t; rfl
theorem turnL_len (ks : List TreeTree) : (turnL ks).length = ks.length := by rw [turnL_eq]; simp
theorem turnL_mem {ks : List TreeTree} {k : TreeTree} : k ∈ turnL ks ↔ ∃ x ∈ ks, turnT x = k := by rw [turnL_eq]; simp

theorem szL_append : ∀ a b : List TreeTree, szL (a ++ b) = szL a + szL b
  | [], b => by simp [szL]
  | x :: a, b => by rw [List.cons_append, szL, szL, szL_append a b]; omega
theorem lvs_append : ∀ a b : List TreeTree, lvs (a ++ b) = lvs a ++ lvs b
  | [], b => by simp [lvs]
  | x :: a, b => by rw [List.cons_append, lvs, lvs, lvs_append a b, List.append_assoc]

theorem szT_turn : ∀ t : TreeTree, szT (turnT t) = szT t := by
  intro t
  induction t using tree_ind with
  | h K N ks ih =>
    have hs : ∀ js : List TreeTree, (∀ k ∈ js, szT (turnT k) = szT k) → szL (turnL js) = szL js := by
      intro js
      induction js with
      | nil => intro _; rfl
      | cons k js ihj => intro h; rw [turnL, szL_append, ihj fun k hk => h k (by simp [hk]), szL, szL, szL, h k (by simp)]; omega
    rw [turnT, szT, szT, hs ks ih]

theorem lv_turn : ∀ t : TreeTree, lv (turnT t) = (lv t).reverse := by
  intro t
  induction t using tree_ind with
  | h K N ks ih =>
    have hs : ∀ js : List TreeTree, (∀ k ∈ js, lv (turnT k) = (lv k).reverse) → lvs (turnL js) = (lvs js).reverse := by
      intro js
      induction js with
      | nil => intro _; rfl
      | cons k js ihj => intro h; rw [turnL, lvs_append, ihj fun k hk => h k (by simp [hk]), lvs, lvs, lvs, h k (by simp), List.reverse_append, List.append_nil]
    rw [turnT, lv, lv, hs ks ih]
    split
    · rfl
    · split <;> rfl

theorem Ok_turn {len : Int} : ∀ t : TreeTree, Ok len t → Ok len (turnT t) := by
  intro t
  induction t using tree_ind with
  | h K N ks ih =>
    intro hok
    rw [turnT, Ok]
    rw [Ok] at hok
    rcases hok with ⟨h0, rfl, h1, h2⟩ | ⟨h12, hN, h3, h4, hoks⟩
    · exact .inl ⟨h0, rfl, h1, h2⟩
    · have hoks := OkL_iff.1 hoks
      refine .inr ⟨h12, hN, by rw [turnL_len]; exact h3, fun k hk => ?_, OkL_iff.2 fun k hk => ?_⟩
      · obtain ⟨x, hx, rfl⟩ := turnL_mem.1 hk
        rw [turnT_Kind]; exact h4 x hx
      · obtain ⟨x, hx, rfl⟩ := turnL_mem.1 hk
        exact ih x hx (hoks x hx)

theorem ev_turn (on : List Bool) : ∀ t : TreeTree, ev on (turnT t) = ev on t := by
  intro t
  induction t using tree_ind with
  | h K N ks ih =>
    rw [turnT, ev, ev, evAll_eq, evAll_eq, evAny_eq, evAny_eq, turnL_eq, List.all_reverse, List.any_reverse, List.all_map, List.any_map]
    have h1 : ks.all (ev on ∘ turnT) = ks.all (ev on) := by
      rw [Bool.eq_iff_iff]; simp only [List.all_eq_true, Function.comp]
      exact ⟨fun h k hk => by rw [← ih k hk]; exact h k hk, fun h k hk => by rw [ih k hk]; exact h k hk⟩
    have h2 : ks.any (ev on ∘ turnT) = ks.any (ev on) := by
      rw [Bool.eq_iff_iff]; simp only [List.any_eq_true, Function.comp]
      exact ⟨fun ⟨k, hk, h⟩ => ⟨k, hk, by rw [← ih k hk]; exact h⟩, fun ⟨k, hk, h⟩ => ⟨k, hk, by rw [ih k hk]; exact h⟩⟩
    rw [h1, h2]

theorem turned_loop (t : TreeTree) (slf : TreeTree → Option TreeTree) (hs : t.Kids.length ≤ 1000000000) (hf : ∀ k ∈ t.Kids, slf k = some (turnT k)) : ∀ (k i : Nat) (acc : List TreeTree), acc.length = i → i ≤ t.Kids.length → t.Kids.length - i < k →
    law14_turned_L1 t slf k (i : Int) acc = some (.mk t.Kind t.N (acc ++ (turnL t.Kids).drop i))
  | 0, i, acc, ha, h, hk => absurd hk (Nat.not_lt_zero _)
  | k + 1, i, acc, ha, h, hk => by
    rw [law14_turned_L1]
    by_cases hi : i < t.Kids.length
    · obtain ⟨x, hx⟩ := get_ex (l := t.Kids) (i := t.Kids.length - 1 - i) (by omega)
      have hw : IntKind.i64.wrap (IntKind.i64.wrap ((t.Kids.length : Int) - 1) - (i : Int)) = ((t.Kids.length - 1 - i : Nat) : Int) := by
        rw [wrapI (i := (t.Kids.length : Int) - 1) (by omega) (by omega), wrapI (by omega) (by omega)]; omega
      have ht : (turnL t.Kids)[i]? = some (turnT x) := by
        rw [turnL_eq, List.getElem?_reverse (by simpa using hi), List.length_map, List.getElem?_map, hx]; rfl
      rw [if_pos (by simpa using hi), hw, atI_nat, hx, Option.bind_some, hf x (List.mem_of_getElem? hx), Option.bind_some, if_pos (by simp; omega), Option.bind_some, wrapN (by omega), drop_cons ht]
      rw [turned_loop t slf hs hf k (i + 1) (acc ++ [turnT x]) (by simp [ha]) (by omega) (by omega)]
      simp
    · rw [if_neg (by simpa using hi), List.drop_eq_nil_of_le (by rw [turnL_len]; omega)]; simp

theorem law14_turned_eq : ∀ (t : TreeTree) (n : Nat), szT t ≤ 1000000000 → szT t < n → law14_turned n t = some (turnT t) := by
  intro t
  induction t using tree_ind with
  | h K N ks ih =>
    intro n hb hn
    obtain ⟨m, rfl, hlen, hk⟩ := szT_kids hn
    have hsz : szT (.mk K N ks) = 1 + szL ks := by rw [szT]
    have hl := szL_len ks
    have hkb : ∀ k ∈ ks, szT k ≤ 1000000000 := fun k hk => by have := szL_mem hk; omega
    rw [law14_turned]
    have := turned_loop (.mk K N ks) (law14_turned m) (by rw [TreeTree_Kids_mk]; omega) (fun k hk' => ih k hk' m (hkb k hk') (hk k hk')) m 0 [] rfl (by omega) (by simpa [TreeTree_Kids_mk] using hlen)
    rw [show ((0 : Nat) : Int) = 0 from rfl] at this
    rw [this, turnT, TreeTree_Kids_mk, TreeTree_Kind_mk, TreeTree_N_mk]; rfl

/-! ### a leaf more -/
def joinT (kind : Int) (t leaf : TreeTree) : TreeTree := if t.Kind = kind then .mk kind 0 (t.Kids ++ [leaf]) else .mk kind 0 [t, leaf]
theorem join_eq (n : Nat) (kind : Int) (t leaf : TreeTree) (h : t.Kids.length < 1000000000) : law14_TreeComposition_1 n kind t leaf = some (joinT kind t leaf) := by
  rw [law14_TreeComposition_1, joinT]
  by_cases hk : t.Kind = kind
  · rw [if_pos (by simpa using hk), if_pos (by omega), if_pos (by simp; omega), Option.bind_some, if_pos hk]
  · rw [if_neg (by simpa using hk), if_neg hk]; rfl

theorem Ok_le {a b : Int} (h : a ≤ b) : ∀ t : TreeTree, Ok a t → Ok b t := by
  intro t
  induction t using tree_ind with
  | h K N ks ih =>
    intro hok
    rw [Ok] at hok ⊢
    rcases hok with ⟨h0, rfl, h1, h2⟩ | ⟨h12, hN, h3, h4, hoks⟩
    · exact .inl ⟨h0, rfl, h1, by omega⟩
    · exact .inr ⟨h12, hN, h3, h4, OkL_iff.2 fun k hk => ih k hk (OkL_iff.1 hoks k hk)⟩

theorem lv_lt {len : Int} : ∀ t : TreeTree, Ok len t → ∀ x ∈ lv t, x < len := by
  intro t
  induction t using tree_ind with
  | h K N ks ih =>
    intro hok x hx
    have hs : ∀ js : List TreeTree, (∀ k ∈ js, ∀ x ∈ lv k, x < len) → ∀ x ∈ lvs js, x < len := by
      intro js
      induction js with
      | nil => intro _ x hx; simp [lvs] at hx
      | cons k js ihj =>
        intro h x hx
        rw [lvs] at hx
        rcases List.mem_append.1 hx with hx | hx
        · exact h k (by simp) x hx
        · exact ihj (fun k hk => h k (by simp [hk])) x hx
    rw [Ok] at hok
    rw [lv] at hx
    rcases hok with ⟨rfl, rfl, h1, h2⟩ | ⟨h12, hN, h3, h4, hoks⟩
    · simp at hx; omega
    · rw [if_neg (by omega), if_pos h12] at hx
      exact hs ks (fun k hk => ih k hk (OkL_iff.1 hoks k hk)) x hx

theorem ev_app (on : List Bool) (v : Bool) : ∀ t : TreeTree, Ok on.length t → ev (on ++ [v]) t = ev on t := by
  intro t
  induction t using tree_ind with
  | h K N ks ih =>
    intro hok
    rw [Ok] at hok
    rw [ev, ev, evAll_eq, evAll_eq, evAny_eq, evAny_eq]
    rcases hok with ⟨rfl, rfl, h1, h2⟩ | ⟨h12, hN, h3, h4, hoks⟩
    · simp only [show ¬ (0 : Int) = 1 by omega, show ¬ (0 : Int) = 2 by omega, if_false]
      rw [List.getElem?_append_left (by omega)]
    · have hoks := OkL_iff.1 hoks
      have e1 : ks.all (ev (on ++ [v])) = ks.all (ev on) := by
        rw [Bool.eq_iff_iff]; simp only [List.all_eq_true]
        exact ⟨fun h k hk => by rw [← ih k hk (hoks k hk)]; exact h k hk, fun h k hk => by rw [ih k hk (hoks k hk)]; exact h k hk⟩
      have e2 : ks.any (ev (on ++ [v])) = ks.any (ev on) := by
        rw [Bool.eq_iff_iff]; simp only [List.any_eq_true]
        exact ⟨fun ⟨k, hk, h⟩ => ⟨k, hk, by rw [← ih k hk (hoks k hk)]; exact h⟩, fun ⟨k, hk, h⟩ => ⟨k, hk, by rw [ih k hk (hoks k hk)]; exact h⟩⟩
      rcases h12 with rfl | rfl
      · simp [e1]
      · simp [e2]

theorem join_facts (on : List Bool) (v : Bool) (kind : Int) (h12 : kind = 1 ∨ kind = 2) (t : TreeTree) (hc : checkS t on.length = 0) :
    checkS (joinT kind t (.mk 0 on.length [])) (on ++ [v]).length = 0 ∧ szT (joinT kind t (.mk 0 on.length [])) ≤ szT t + 2 ∧
      ev (on ++ [v]) (joinT kind t (.mk 0 on.length [])) = if kind = 1 then (ev on t && v) else (ev on t || v) := by
  obtain ⟨hok, hnd, hlv⟩ := (checkS_iff t on.length).1 hc
  have hleaf : Ok ((on.length + 1 : Nat) : Int) (.mk 0 on.length []) := by rw [Ok]; exact .inl ⟨rfl, rfl, by omega, by omega⟩
  have hlf : ev (on ++ [v]) (.mk 0 on.length []) = v := by
    rw [ev]; simp only [show ¬ (0 : Int) = 1 by omega, show ¬ (0 : Int) = 2 by omega, if_false]
    rw [Int.toNat_natCast, List.getElem?_append_right (by omega)]; simp
  have hlvl : lv (.mk 0 on.length []) = [(on.length : Int)] := by rw [lv]; rfl
  have hk0 : ∀ k, k = 1 ∨ k = 2 → (0 : Int) ≠ k := fun k hk => by omega
  have hev := ev_app on v t hok
  have hokt := Ok_le (b := ((on.length + 1 : Nat) : Int)) (by omega) t hok
  have hnl : ∀ x ∈ lv t, x ≠ (on.length : Int) := fun x hx => by have := lv_lt t hok x hx; omega
  have key : ∀ j : TreeTree, Ok ((on.length + 1 : Nat) : Int) j → lv j = lv t ++ [(on.length : Int)] → checkS j (on ++ [v]).length = 0 := fun j h1 h2 => by
    rw [checkS_iff, List.length_append, List.length_cons, List.length_nil]
    refine ⟨h1, ?_, by rw [h2, List.length_append, hlv]; rfl⟩
    rw [h2, List.nodup_append]
    exact ⟨hnd, by simp, fun a ha b hb => by simp at hb; subst hb; exact hnl a ha⟩
  rw [joinT]
  by_cases hk : t.Kind = kind
  · rw [if_pos hk]
    obtain ⟨K, N, ks⟩ := t
    rw [TreeTree_Kind_mk] at hk
    subst hk
    rw [TreeTree_Kids_mk]
    rw [Ok] at hokt
    rcases hokt with ⟨h, _⟩ | ⟨_, hN, h3, h4, hoks⟩
    · omega
    have hoks := OkL_iff.1 hoks
    have hl : lv (.mk K N ks) = lvs ks := by rw [lv, if_neg (by omega), if_pos h12]
    refine ⟨key _ ?_ ?_, ?_, ?_⟩
    · rw [Ok]
      refine .inr ⟨h12, rfl, by simp; omega, fun k hk => ?_, OkL_iff.2 fun k hk => ?_⟩
      · rcases List.mem_append.1 hk with hk | hk
        · exact h4 k hk
        · simp at hk; subst hk; exact hk0 K h12
      · rcases List.mem_append.1 hk with hk | hk
        · exact hoks k hk
        · simp at hk; subst hk; exact hleaf
    · rw [lv, if_neg (by omega), if_pos h12, lvs_append, hl, lvs, hlvl, lvs]; rfl
    · rw [szT, szT, szL_append, szL, szT, szL]; omega
    · rw [ev, evAll_eq, evAny_eq, List.all_append, List.any_append]
      rw [ev, evAll_eq, evAny_eq] at hev
      rcases h12 with rfl | rfl
      · simp only [if_true] at hev ⊢
        rw [hev]; simp [hlf]
      · simp only [show ¬ (2 : Int) = 1 by omega, if_false, if_true] at hev ⊢
        rw [hev]; simp [hlf]
  · rw [if_neg hk]
    refine ⟨key _ ?_ ?_, ?_, ?_⟩
    · rw [Ok]
      refine .inr ⟨h12, rfl, by simp, fun k hk' => ?_, OkL_iff.2 fun k hk' => ?_⟩
      · simp at hk'
        rcases hk' with rfl | rfl
        · exact hk
        · exact hk0 kind h12
      · simp at hk'
        rcases hk' with rfl | rfl
        · exact hokt
        · exact hleaf
    · rw [lv, if_neg (by omega), if_pos h12, lvs, lvs, hlvl, lvs]; rfl
    · simp only [szT, szL]; omega
    · rw [ev, evAll_eq, evAny_eq]
      rcases h12 with rfl | rfl
      · simp [hlf, hev]
      · simp [hlf, hev]

theorem comp14_gen (n : Nat) (ha : law14_alive n = some true) (hbig : 1048600 < n) (t : TreeTree) (on : List Bool) (v : Bool) (h : szT t ≤ 1048576) (hon : on.length ≤ 1048576) : law14_TreeComposition n t on v = some true := by
  have hf : szT t < n := by omega
  have hb : szT t ≤ 1000000000 := by omega
  obtain ⟨r, hr⟩ := law14_TooLarge_some t n hb hf
  rw [law14_TreeComposition, hr, Option.bind_some]
  by_cases hr0 : r > 0
  · rw [if_pos (by simpa using hr0), ha]; rfl
  rw [if_neg (by simpa using hr0)]
  by_cases hl0 : (on.length : Int) > 500
  · rw [if_pos (by simpa using hl0), ha]; rfl
  rw [if_neg (by simpa using hl0), tree_Check_eq t _ n hb hf, Option.bind_some]
  by_cases hc : checkS t on.length = 0
  · obtain ⟨hok, hnd, hlv⟩ := (checkS_iff t on.length).1 hc
    have hkl : t.Kids.length < 1000000000 := by
      obtain ⟨K, N, ks⟩ := t
      have := szL_len ks
      rw [szT] at h; rw [TreeTree_Kids_mk]; omega
    have hct : checkS (turnT t) on.length = 0 := (checkS_iff _ _).2 ⟨Ok_turn t hok, by rw [lv_turn]; exact List.pairwise_reverse.2 (List.Pairwise.imp (fun h => Ne.symm h) hnd), by rw [lv_turn, List.length_reverse, hlv]⟩
    obtain ⟨p1, p2, p3⟩ := join_facts on v 2 (.inr rfl) t hc
    obtain ⟨s1, s2, s3⟩ := join_facts on v 1 (.inl rfl) t hc
    rw [if_neg (by simp [hc]), tree_Eval_eq t on n hb hf, law14_turned_eq t n hb hf]
    simp only [hc, if_true, Option.bind_some]
    rw [tree_Eval_eq (turnT t) on n (by rw [szT_turn]; exact hb) (by rw [szT_turn]; exact hf)]
    simp only [hct, if_true, Option.bind_some]
    rw [if_pos (by omega), if_pos (by simp; omega), join_eq n 2 t _ hkl, join_eq n 1 t _ hkl, ha]
    simp only [Option.bind_some]
    rw [tree_Eval_eq _ _ n (by omega) (by omega), tree_Eval_eq _ _ n (by omega) (by omega)]
    simp only [p1, s1, if_true, Option.bind_some, p3, s3, ev_turn, show ¬ (2 : Int) = 1 by omega, if_false]
    cases ev on t <;> cases v <;> rfl
  · rw [if_pos (by simpa using hc), ha]; rfl

theorem comp14_law (t : TreeTree) (on : List Bool) (v : Bool) (h : szT t ≤ 1048576) (hon : on.length ≤ 1048576) : law14_TreeComposition 2000000 t on v = some true :=
  comp14_gen 2000000 alive14 (by decide) t on v h hon
end Go.G

/- The reference's sorting and renaming of trees. No law is proved here. -/
import Derived.Test.YtaebdeidbibfkaaGreatDoorZLawM13
set_option linter.unusedSimpArgs false
set_option linter.unusedVariables false
set_option linter.unusedSectionVars false
namespace Go.G
open Go.Av

mutual
def ofT : TreeTree → Ref14Tree
  | .mk K N ks => .mk K N (ofL ks)
def ofL : List TreeTree → List Ref14Tree
  | [] => []
  | k :: ks => ofT k :: ofL ks
end
theorem ofL_map : ∀ ks : List TreeTree, ofL ks = ks.map ofT
  | [] => rfl
  | k :: ks => by rw [ofL, ofL_map ks]; rfl
theorem ofT_Kind (t : TreeTree) : (ofT t).Kind = t.Kind := by cases t; rfl
theorem ofT_N (t : TreeTree) : (ofT t).N = t.N := by cases t; rfl
theorem ofT_Kids (t : TreeTree) : (ofT t).Kids = t.Kids.map ofT := by cases t; exact ofL_map _
theorem ofT_mk (K N : Int) (ks : List TreeTree) : ofT (.mk K N ks) = .mk K N (ks.map ofT) := by rw [ofT, ofL_map]

theorem atI_map {α β : Type} (f : α → β) (l : List α) (i : Nat) {x : α} (h : l[i]? = some x) : atI (l.map f) (i : Int) = some (f x) := by rw [atI_nat]; simp [h]

theorem of_loop (t : TreeTree) (slf : TreeTree → Option Ref14Tree) (hs : t.Kids.length ≤ 1000000000) (hf : ∀ k ∈ t.Kids, slf k = some (ofT k)) : ∀ (k i : Nat) (acc : List Ref14Tree), acc.length = i → i ≤ t.Kids.length → t.Kids.length - i < k →
    law14_Of_L1 t slf k (i : Int) acc = some (.mk t.Kind t.N (acc ++ (t.Kids.drop i).map ofT))
  | 0, i, acc, ha, h, hk => absurd hk (Nat.not_lt_zero _)
  | k + 1, i, acc, ha, h, hk => by
    rw [law14_Of_L1]
    by_cases hi : i < t.Kids.length
    · obtain ⟨x, hx⟩ := get_ex hi
      rw [if_pos (by simpa using hi), atI_nat, hx, Option.bind_some, hf x (List.mem_of_getElem? hx), Option.bind_some, if_pos (by simp; omega), Option.bind_some, wrapN (by omega), drop_cons hx]
      rw [of_loop t slf hs hf k (i + 1) (acc ++ [ofT x]) (by simp [ha]) (by omega) (by omega)]
      simp
    · rw [if_neg (by simpa using hi), List.drop_eq_nil_of_le (by omega)]; simp

theorem law14_Of_eq : ∀ (t : TreeTree) (n : Nat), szT t ≤ 1000000000 → szT t < n → law14_Of n t = some (ofT t) := by
  intro t
  induction t using tree_ind with
  | h K N ks ih =>
    intro n hb hn
    obtain ⟨m, rfl, hlen, hk⟩ := szT_kids hn
    have hl : ks.length ≤ 1000000000 := by have := szL_len ks; simp only [szT] at hb; omega
    have hkb : ∀ k ∈ ks, szT k ≤ 1000000000 := fun k hk => by have := szL_mem hk; simp only [szT] at hb; omega
    rw [law14_Of]
    have := of_loop (.mk K N ks) (law14_Of m) (by simpa [TreeTree_Kids_mk] using hl) (fun k hk' => ih k hk' m (hkb k hk') (hk k hk')) m 0 [] rfl (by omega) (by simpa [TreeTree_Kids_mk] using hlen)
    rw [show (0 : Int) = ((0 : Nat) : Int) from rfl, this, ofT_mk]
    simp [TreeTree_Kids_mk, TreeTree_Kind_mk, TreeTree_N_mk]

theorem ref_leaves_loop (t : TreeTree) (slf : Ref14Tree → Option (List Int)) (hs : szL t.Kids ≤ 500000000) (hf : ∀ k ∈ t.Kids, slf (ofT k) = some (lv k)) : ∀ (k i : Nat) (acc : List Int), acc.length + szL (t.Kids.drop i) ≤ 1000000000 → i ≤ t.Kids.length → t.Kids.length - i < k →
    ref14_Leaves_L2 (ofT t) slf k acc (i : Int) = some (acc ++ lvs (t.Kids.drop i))
  | 0, i, acc, ha, h, hk => absurd hk (Nat.not_lt_zero _)
  | k + 1, i, acc, ha, h, hk => by
    have hl := szL_len t.Kids
    rw [ref14_Leaves_L2, ofT_Kids]
    by_cases hi : i < t.Kids.length
    · obtain ⟨x, hx⟩ := get_ex hi
      have hx2 := lv_len x
      rw [drop_cons hx, szL] at ha
      rw [if_pos (by simpa using hi), atI_map ofT _ _ hx, Option.bind_some, hf x (List.mem_of_getElem? hx), Option.bind_some, if_pos (by omega), Option.bind_some, wrapN (by omega), drop_cons hx, lvs]
      rw [ref_leaves_loop t slf hs hf k (i + 1) (acc ++ lv x) (by rw [List.length_append]; omega) (by omega) (by omega), List.append_assoc]
    · rw [if_neg (by simpa using hi), List.drop_eq_nil_of_le (by omega)]; simp [lvs]

theorem ref14_Leaves_eq : ∀ (t : TreeTree) (n : Nat), szT t ≤ 500000000 → szT t < n → ref14_Leaves n (ofT t) = some (lv t) := by
  intro t
  induction t using tree_ind with
  | h K N ks ih =>
    intro n hb hn
    obtain ⟨m, rfl, hlen, hk⟩ := szT_kids hn
    have hsz : szT (.mk K N ks) = 1 + szL ks := by rw [szT]
    have hkb : ∀ k ∈ ks, szT k ≤ 500000000 := fun k hk => by have := szL_mem hk; omega
    have hloop := ref_leaves_loop (.mk K N ks) (ref14_Leaves m) (by rw [TreeTree_Kids_mk]; omega) (fun k hk' => ih k hk' m (hkb k hk') (hk k hk')) m 0 [] (by rw [TreeTree_Kids_mk, List.drop_zero, List.length_nil]; omega) (by omega) (by simpa [TreeTree_Kids_mk] using hlen)
    rw [TreeTree_Kids_mk, List.drop_zero, List.nil_append, show ((0 : Nat) : Int) = 0 from rfl] at hloop
    rw [ref14_Leaves, lv]
    simp only [ofT_Kind, ofT_N, TreeTree_Kind_mk, TreeTree_N_mk, ref14_Leaves_J1, Option.bind_some]
    rw [hloop]
    by_cases h0 : K = 0
    · simp [h0]
    by_cases h1 : K = 1
    · simp [h1]
    by_cases h2 : K = 2
    · simp [h2]
    · simp [h0, h1, h2]

theorem mk_eq (K K' N N' : Int) (ks ks' : List TreeTree) : (TreeTree.mk K N ks = .mk K' N' ks') ↔ K = K' ∧ N = N' ∧ ks = ks' := by
  constructor
  · intro h; injection h with h1 h2 h3; exact ⟨h1, h2, h3⟩
  · rintro ⟨rfl, rfl, rfl⟩; rfl

theorem ref_eqf_loop (a b : TreeTree) (slf : Ref14Tree → Ref14Tree → Option Bool) (hl : a.Kids.length = b.Kids.length) (hs : a.Kids.length ≤ 1000000000) (hf : ∀ x ∈ a.Kids, ∀ y, slf (ofT x) (ofT y) = some (decide (x = y))) : ∀ (k i : Nat), i ≤ a.Kids.length → a.Kids.length - i < k →
    ref14_Equal_L1 (ofT a) (ofT b) slf k (i : Int) = some (decide (a.Kids.drop i = b.Kids.drop i))
  | 0, i, h, hk => absurd hk (Nat.not_lt_zero _)
  | k + 1, i, h, hk => by
    rw [ref14_Equal_L1, ofT_Kids, ofT_Kids]
    by_cases hi : i < a.Kids.length
    · obtain ⟨x, hx⟩ := get_ex hi
      obtain ⟨y, hy⟩ := get_ex (l := b.Kids) (i := i) (by omega)
      rw [if_pos (by simpa using hi), atI_map ofT _ _ hx, atI_map ofT _ _ hy, Option.bind_some, Option.bind_some, hf x (List.mem_of_getElem? hx), Option.bind_some, drop_cons hx, drop_cons hy, wrapN (by omega)]
      by_cases e : x = y
      · rw [if_neg (by simp [e]), ref_eqf_loop a b slf hl hs hf k (i + 1) (by omega) (by omega)]; simp [e]
      · rw [if_pos (by simp [e])]; simp [e]
    · rw [if_neg (by simpa using hi), List.drop_eq_nil_of_le (by omega), List.drop_eq_nil_of_le (by omega)]; simp
theorem ref14_Equal_eq : ∀ (a b : TreeTree) (n : Nat), szT a ≤ 1000000000 → szT a < n → ref14_Equal n (ofT a) (ofT b) = some (decide (a = b)) := by
  intro a
  induction a using tree_ind with
  | h K N ks ih =>
    intro b n hb hn
    obtain ⟨K', N', js⟩ := b
    obtain ⟨m, rfl, hlen, hk⟩ := szT_kids hn
    have hsz : szT (.mk K N ks) = 1 + szL ks := by rw [szT]
    have hl := szL_len ks
    have hkb : ∀ k ∈ ks, szT k ≤ 1000000000 := fun k hk => by have := szL_mem hk; omega
    rw [ref14_Equal]
    simp only [ofT_Kind, ofT_N, ofT_Kids, List.length_map, TreeTree_Kind_mk, TreeTree_N_mk, TreeTree_Kids_mk, mk_eq]
    by_cases h1 : K = K'
    · by_cases h2 : N = N'
      · subst h1; subst h2
        simp only [bne_self_eq_false, Bool.false_eq_true, if_false, true_and]
        by_cases h3 : ks.length = js.length
        · rw [if_neg (by simp [h3])]
          have := ref_eqf_loop (.mk K N ks) (.mk K N js) (ref14_Equal m) (by simpa [TreeTree_Kids_mk] using h3) (by rw [TreeTree_Kids_mk]; omega) (fun x hx y => ih x hx y m (hkb x hx) (hk x hx)) m 0 (by omega) (by rw [TreeTree_Kids_mk]; omega)
          rw [show ((0 : Nat) : Int) = 0 from rfl, List.drop_zero, List.drop_zero, TreeTree_Kids_mk, TreeTree_Kids_mk] at this
          rw [this]
        · have : ¬ ks = js := fun e => h3 (by rw [e])
          rw [if_pos (by simp; omega)]; simp [this]
      · simp [h1, h2]
    · simp [h1]


/-! ### the least leaf -/
theorem imin_self (a : Int) : imin a a = a := by unfold imin; split <;> rfl
theorem rleast_loop (l : List Int) (hs : l.length ≤ 1000000000) : ∀ (m i : Nat) (x : Int), i ≤ l.length → l.length - i < m → ref15_least_L1 l m (i : Int) x = some ((l.drop i).foldl imin x)
  | 0, i, x, h, hm => absurd hm (Nat.not_lt_zero _)
  | m + 1, i, x, h, hm => by
    rw [ref15_least_L1]
    by_cases hi : i < l.length
    · obtain ⟨y, hy⟩ := get_ex hi
      rw [if_pos (by simpa using hi), atI_nat, hy, Option.bind_some, drop_cons hy, List.foldl_cons, wrapN (by omega)]
      by_cases hlt : y < x
      · rw [if_pos (by simpa using hlt), rleast_loop l hs m (i + 1) _ (by omega) (by omega), imin, if_pos hlt]
      · rw [if_neg (by simpa using hlt), rleast_loop l hs m (i + 1) _ (by omega) (by omega), imin, if_neg hlt]
    · rw [if_neg (by simpa using hi), List.drop_eq_nil_of_le (by omega)]; rfl
theorem rleast_eq (n : Nat) (t : TreeTree) (h : lv t ≠ []) (hb : szT t ≤ 100000000) (hn : szT t < n) : ref15_least n (ofT t) = some (leastT t) := by
  have hl := lv_len t
  rw [ref15_least, ref14_Leaves_eq t n (by omega) hn, Option.bind_some]
  unfold leastT
  cases he : lv t with
  | nil => exact absurd he h
  | cons x l =>
    rw [he] at hl
    rw [show (0 : Int) = ((0 : Nat) : Int) from rfl, atI_nat]
    simp only [List.getElem?_cons_zero, Option.bind_some]
    rw [rleast_loop (x :: l) (by omega) n 0 x (by omega) (by omega), List.drop_zero, List.foldl_cons, imin_self]
    rfl

/-! ### joining -/
def insR (x : TreeTree) : List TreeTree → List TreeTree
  | [] => [x]
  | b :: l => if leastT b < leastT x then b :: insR x l else x :: b :: l
def AscT (l : List TreeTree) : Prop := l.Pairwise fun a b => leastT a ≤ leastT b
theorem insR_perm (x : TreeTree) : ∀ l : List TreeTree, (insR x l).Perm (x :: l)
  | [] => .refl _
  | b :: l => by
    rw [insR]
    split
    · exact ((insR_perm x l).cons b).trans (List.Perm.swap _ _ _)
    · exact .refl _
theorem insR_asc (x : TreeTree) : ∀ l : List TreeTree, AscT l → AscT (insR x l)
  | [], _ => by simp [insR, AscT]
  | b :: l, h => by
    have h' := List.pairwise_cons.1 h
    rw [insR]
    by_cases hlt : leastT b < leastT x
    · rw [if_pos hlt]
      refine List.pairwise_cons.2 ⟨fun c hc => ?_, insR_asc x l h'.2⟩
      rcases List.mem_cons.1 ((insR_perm x l).subset hc) with rfl | hc
      · omega
      · exact h'.1 c hc
    · rw [if_neg hlt]
      refine List.pairwise_cons.2 ⟨fun c hc => ?_, h⟩
      rcases List.mem_cons.1 hc with rfl | hc
      · omega
      · have := h'.1 c hc; omega
theorem asc_isort {l js : List TreeTree} (ha : AscT l) (hp : l.Perm js) (hd : (js.map leastT).Nodup) : l = isortM ltT js := by
  have p := sortP_of hd
  rw [← ltM_cfT]
  refine p.unique (fun x hx => hp.subset hx) (hp.trans (isortM_perm _ js).symm) ?_ p.asc
  refine ha.imp fun h => ?_
  rw [ltM_cfT]
  simp only [ltT, decide_eq_false_iff_not]
  omega

section
variable (n : Nat)
/-- Trees that are small. -/
def Sm (n : Nat) (l : List TreeTree) : Prop := l.length ≤ 1000000 ∧ ∀ t ∈ l, lv t ≠ [] ∧ szT t ≤ 100000000 ∧ szT t < n

theorem ins_loop (all out : List TreeTree) (hall : Sm n all) (hout : Sm n out) (j : Nat) (x : TreeTree) (hx : all[j]? = some x) (R : List Ref14Tree → Int → Option Ref14Tree) : ∀ (m i : Nat), i ≤ out.length → out.length - i < m → (∀ b ∈ out.take i, leastT b < leastT x) →
    ref15_join_L4 n (all.map ofT) (out.map ofT) (j : Int) R m (i : Int) = R ((insR x out).map ofT) ((j + 1 : Nat) : Int)
  | 0, i, h, hm, _ => absurd hm (Nat.not_lt_zero _)
  | m + 1, i, h, hm, ht => by
    have hjl := get_lt hx
    have hxs := hall.2 x (List.mem_of_getElem? hx)
    have hl1 := hall.1; have hl2 := hout.1
    have hsplit : ∀ (l : List TreeTree) (i : Nat), i ≤ l.length → (∀ b ∈ l.take i, leastT b < leastT x) → (∀ b, (l.drop i).head? = some b → ¬ leastT b < leastT x) → insR x l = l.take i ++ x :: l.drop i := by
      intro l
      induction l with
      | nil => intro i _ _ _; simp [insR]
      | cons b l ih =>
        intro i hi h1 h2
        match i with
        | 0 =>
          rw [insR, if_neg (h2 b rfl)]; rfl
        | i + 1 =>
          rw [insR, if_pos (h1 b (by simp)), ih i (by simpa using hi) (fun c hc => h1 c (by simp [hc])) h2]; rfl
    have hJ3 : (∀ b, (out.drop i).head? = some b → ¬ leastT b < leastT x) → ref15_join_J3 (all.map ofT) (out.map ofT) (j : Int) R (i : Int) = R ((insR x out).map ofT) ((j + 1 : Nat) : Int) := fun hh => by
      rw [ref15_join_J3, Int.toNat_natCast, if_pos (by rw [List.length_map]; omega), if_pos (by simp; omega), Option.bind_some, atI_map ofT all j hx, Option.bind_some, if_pos (by simp; omega), Option.bind_some, if_pos (by rw [List.length_map]; omega), if_pos (by simp; omega), Option.bind_some, wrapN (by omega), hsplit out i h ht hh]
      simp
    rw [ref15_join_L4, List.length_map]
    by_cases hi : i < out.length
    · obtain ⟨b, hb⟩ := get_ex hi
      have hbs := hout.2 b (List.mem_of_getElem? hb)
      rw [if_pos (by simpa using hi), atI_map ofT out i hb, Option.bind_some, rleast_eq n b hbs.1 hbs.2.1 hbs.2.2, Option.bind_some, atI_map ofT all j hx, Option.bind_some, rleast_eq n x hxs.1 hxs.2.1 hxs.2.2, Option.bind_some]
      by_cases hlt : leastT b < leastT x
      · rw [if_pos (by simpa using hlt), wrapN (by omega)]
        refine ins_loop all out hall hout j x hx R m (i + 1) (by omega) (by omega) fun c hc => ?_
        rw [List.take_add_one, hb] at hc
        rcases List.mem_append.1 hc with hc | hc
        · exact ht c hc
        · simp at hc; subst hc; exact hlt
      · rw [if_neg (by simpa using hlt)]
        refine hJ3 fun c hc => ?_
        rw [drop_cons hb] at hc
        simp at hc; subst hc; exact hlt
    · rw [if_neg (by simpa using hi)]
      refine hJ3 fun c hc => ?_
      rw [List.drop_eq_nil_of_le (by omega)] at hc; cases hc

theorem ins_all (all : List TreeTree) (hall : Sm n all) (hn : 2 * all.length + 10 < n) : ∀ (m j : Nat) (out : List TreeTree), j ≤ all.length → all.length - j < m → out.Perm (all.take j) → AscT out →
    ∃ l, ref15_join_L2 n (all.map ofT) m (out.map ofT) (j : Int) = some (.mk 2 0 (l.map ofT)) ∧ l.Perm all ∧ AscT l
  | 0, j, out, h, hm, _, _ => absurd hm (Nat.not_lt_zero _)
  | m + 1, j, out, h, hm, hp, ha => by
    have hl1 := hall.1
    have hol : out.length ≤ all.length := by rw [hp.length_eq, List.length_take]; omega
    have hout : Sm n out := ⟨by omega, fun t ht => hall.2 t (List.mem_of_mem_take (hp.subset ht))⟩
    rw [ref15_join_L2, List.length_map]
    by_cases hj : j < all.length
    · obtain ⟨x, hx⟩ := get_ex hj
      rw [if_pos (by simpa using hj), show (0 : Int) = ((0 : Nat) : Int) from rfl, ins_loop n all out hall hout j x hx _ n 0 (by omega) (by omega) (by simp)]
      refine ins_all all hall hn m (j + 1) (insR x out) (by omega) (by omega) ?_ (insR_asc x out ha)
      rw [List.take_add_one, hx]
      exact (insR_perm x out).trans ((hp.cons x).trans (List.perm_append_comm (l₁ := [x])))
    · rw [if_neg (by simpa using hj)]
      exact ⟨out, rfl, by rw [List.take_of_length_le (by omega)] at hp; exact hp, ha⟩

theorem rflat_loop (K : Int) (l : List TreeTree) (hl2 : l.length = 2) (hs : ∀ t ∈ l, t.Kids.length ≤ 1000000) : ∀ (m i : Nat) (acc : List TreeTree), i ≤ 2 → 2 - i < m → acc.length ≤ 1000001 * i → ref15_join_L5 n K (l.map ofT) m (acc.map ofT) (i : Int) = ref15_join_J1 n K ((acc ++ (l.drop i).flatMap (joinK K)).map ofT)
  | 0, i, acc, h, hm, _ => absurd hm (Nat.not_lt_zero _)
  | m + 1, i, acc, h, hm, ha => by
    rw [ref15_join_L5]
    by_cases hi : i < 2
    · obtain ⟨x, hx⟩ := get_ex (l := l) (i := i) (by omega)
      have hxs := hs x (List.mem_of_getElem? hx)
      rw [if_pos (by simp; omega), atI_map ofT l i hx, Option.bind_some, ofT_Kind, ofT_Kids, drop_cons hx, List.flatMap_cons]
      by_cases hk : x.Kind = K
      · have e : joinK K x = x.Kids := by rw [joinK, if_pos hk]
        rw [if_pos (by simpa using hk), if_pos (by simp; omega), Option.bind_some, wrapN (by omega), ← List.map_append, rflat_loop K l hl2 hs m (i + 1) _ (by omega) (by omega) (by simp; omega), e, List.append_assoc]
      · have e : joinK K x = [x] := by rw [joinK, if_neg hk]
        have e2 : acc.map ofT ++ [ofT x] = (acc ++ [x]).map ofT := by simp
        rw [if_neg (by simpa using hk), if_pos (by simp; omega), Option.bind_some, wrapN (by omega), e2, rflat_loop K l hl2 hs m (i + 1) _ (by omega) (by omega) (by simp; omega), e, List.append_assoc]
    · rw [if_neg (by simp; omega), List.drop_eq_nil_of_le (by omega)]; simp

theorem rjoin2_eq (hn : 1000000 ≤ n) (a b : TreeTree) (hs : Sm n (joinK 2 a ++ joinK 2 b)) (ha : a.Kids.length ≤ 1000) (hb : b.Kids.length ≤ 1000) (hd : ((joinK 2 a ++ joinK 2 b).map leastT).Nodup) : ref15_join n 2 (ofT a) (ofT b) = some (ofT (.mk 2 0 (isortM ltT (joinK 2 a ++ joinK 2 b)))) := by
  have hkl : ∀ c : TreeTree, c.Kids.length ≤ 1000 → (joinK 2 c).length ≤ 1001 := fun c hc => by
    unfold joinK
    split
    · omega
    · simp
  have h1 := hkl a ha; have h2 := hkl b hb
  have e0 : [ofT a, ofT b] = [a, b].map ofT := rfl
  rw [ref15_join, Option.bind_some, e0, show (0 : Int) = ((0 : Nat) : Int) from rfl, show ([] : List Ref14Tree) = ([] : List TreeTree).map ofT from rfl, rflat_loop n 2 [a, b] rfl (fun t ht => by
    rcases List.mem_cons.1 ht with rfl | ht
    · omega
    · rw [List.mem_singleton] at ht; subst ht; omega) n 0 [] (by omega) (by omega) (by simp)]
  have e1 : ([] : List TreeTree) ++ ([a, b].drop 0).flatMap (joinK 2) = joinK 2 a ++ joinK 2 b := by simp
  rw [e1, ref15_join_J1, if_neg (by decide), show (0 : Int) = ((0 : Nat) : Int) from rfl, show ([] : List Ref14Tree) = ([] : List TreeTree).map ofT from rfl]
  obtain ⟨l, r1, r2, r3⟩ := ins_all n (joinK 2 a ++ joinK 2 b) hs (by simp; omega) n 0 [] (by omega) (by simp; omega) (by simp) (by simp [AscT])
  rw [r1, asc_isort r3 r2 hd, ofT_mk]
  rfl

/-! ### sorting -/
theorem rsorted_loop (t0 : Ref14Tree) (slf : Ref14Tree → Option Ref14Tree) (ks : List TreeTree) (hk : t0.Kids = ks.map ofT) (hs : ks.length ≤ 1000000000) (hf : ∀ k ∈ ks, slf (ofT k) = some (ofT (sortedS k))) : ∀ (m i : Nat) (acc : List Ref14Tree), i ≤ ks.length → ks.length - i < m → acc.length = i →
    ref15_Sorted_L3 n t0 slf m acc (i : Int) = ref15_Sorted_J1 n t0 (acc ++ (ks.drop i).map fun k => ofT (sortedS k))
  | 0, i, acc, h, hm, _ => absurd hm (Nat.not_lt_zero _)
  | m + 1, i, acc, h, hm, ha => by
    rw [ref15_Sorted_L3, hk, List.length_map]
    by_cases hi : i < ks.length
    · obtain ⟨y, hy⟩ := get_ex hi
      rw [if_pos (by simpa using hi), atI_map ofT ks i hy, Option.bind_some, hf y (List.mem_of_getElem? hy), Option.bind_some, if_pos (by simp; omega), Option.bind_some, wrapN (by omega), rsorted_loop t0 slf ks hk hs hf m (i + 1) _ (by omega) (by omega) (by simp; omega), drop_cons hy]
      simp
    · rw [if_neg (by simpa using hi), List.drop_eq_nil_of_le (by omega)]; simp

theorem rjoin_loop (hn : 1000000 ≤ n) (js : List TreeTree) (hjs : Sm n js) (hlen : js.length ≤ 900) (hkd : ∀ k ∈ js, k.Kind ≠ 2) (hkl : ∀ k ∈ js, k.Kids.length ≤ 1000) (hd : (js.map leastT).Nodup) : ∀ (m i : Nat), 1 ≤ i → i ≤ js.length → js.length - i < m →
    ref15_Sorted_L2 n (js.map ofT) m 2 0 ((isortM ltT (js.take i)).map ofT) (i : Int) = some (ofT (.mk 2 0 (isortM ltT js)))
  | 0, i, _, h, hm => absurd hm (Nat.not_lt_zero _)
  | m + 1, i, h1, h, hm => by
    rw [ref15_Sorted_L2, List.length_map]
    by_cases hi : i < js.length
    · obtain ⟨y, hy⟩ := get_ex hi
      have my := List.mem_of_getElem? hy
      have e1 : (⟨2, 0, (isortM ltT (js.take i)).map ofT⟩ : Ref14Tree) = ofT (.mk 2 0 (isortM ltT (js.take i))) := by rw [ofT_mk]
      have e2 : joinK 2 (.mk 2 0 (isortM ltT (js.take i))) ++ joinK 2 y = isortM ltT (js.take i) ++ [y] := by
        rw [joinK_mk, joinK, if_neg (hkd y my)]
      have p1 : (isortM ltT (js.take i) ++ [y]).Perm (js.take (i + 1)) := by
        rw [List.take_add_one, hy]
        exact (isortM_perm ltT (js.take i)).append_right _
      have hd1 : ((js.take (i + 1)).map leastT).Nodup := hd.sublist ((List.take_sublist _ _).map _)
      have hsm : Sm n (joinK 2 (.mk 2 0 (isortM ltT (js.take i))) ++ joinK 2 y) := by
        rw [e2]
        have hj1 := hjs.1
        exact ⟨by rw [p1.length_eq, List.length_take]; omega, fun t ht => hjs.2 t (List.mem_of_mem_take (p1.subset ht))⟩
      rw [if_pos (by simpa using hi), atI_map ofT js i hy, Option.bind_some, e1, rjoin2_eq n hn _ y hsm (by rw [TreeTree_Kids_mk, (isortM_perm _ _).length_eq, List.length_take]; omega) (hkl y my) (by rw [e2]; exact ((p1.map leastT).nodup_iff.2 hd1)), Option.bind_some, ofT_Kind, ofT_N, ofT_Kids, e2, isort_perm_eq p1 ((p1.map leastT).nodup_iff.2 hd1)]
      have hj1 := hjs.1
      rw [wrapN (by omega)]
      exact rjoin_loop hn js hjs hlen hkd hkl hd m (i + 1) (by omega) (by omega) (by omega)
    · rw [if_neg (by simpa using hi), List.take_of_length_le (by omega), ofT_mk]
end

theorem rSorted_eq {len : Int} : ∀ (t : TreeTree) (n : Nat), Good len t → szT t ≤ 900 → szT t + 1000000 < n → ref15_Sorted n (ofT t) = some (ofT (sortedS t)) := by
  intro t
  induction t using tree_ind with
  | h K N ks ih =>
    intro n hg hb hn
    obtain ⟨m, rfl⟩ : ∃ m, n = m + 1 := ⟨n - 1, by omega⟩
    have hl := szL_len ks
    rw [szT] at hb hn
    have hok := hg.ok
    rw [Ok] at hok
    rw [ref15_Sorted, ofT_Kind, TreeTree_Kind_mk]
    rcases hok with ⟨rfl, rfl, h1, h2⟩ | ⟨hK, rfl, h2, h3, h4⟩
    · rw [if_pos (by decide), sortedS, if_neg (by decide), sortedSs]
    · rw [OkL_iff] at h4
      have hgs := hg.kids hK
      have hf : ∀ k ∈ ks, ref15_Sorted m (ofT k) = some (ofT (sortedS k)) := fun k hk => by
        have := szL_mem hk
        exact ih k hk m (hgs.mem hk) (by omega) (by omega)
      have hL := rsorted_loop m (ofT (.mk K 0 ks)) (ref15_Sorted m) ks (by rw [ofT_Kids]; rfl) (by omega) hf m 0 [] (by omega) (by omega) rfl
      rw [show ((0 : Nat) : Int) = 0 from rfl] at hL
      rw [if_neg (by simp; omega), hL, ref15_Sorted_J1, ofT_Kind, List.drop_zero, List.nil_append, TreeTree_Kind_mk]
      have e0 : (ks.map fun k => ofT (sortedS k)) = (ks.map sortedS).map ofT := by rw [List.map_map]; rfl
      rcases hK with rfl | rfl
      · rw [if_pos (by decide), sorted_mk1, ofT_mk, e0]
      · rw [if_neg (by decide), e0, sorted_mk2]
        have hjl : (ks.map sortedS).length = ks.length := by simp
        have hsm : Sm m (ks.map sortedS) := ⟨by omega, fun t ht => by
          obtain ⟨k, hk, rfl⟩ := List.mem_map.1 ht
          have := szL_mem hk
          rw [sortedS_sz]
          exact ⟨(Ok_lv (sortedS_ok (h4 k hk))).1, by omega, by omega⟩⟩
        have hkd : ∀ k ∈ ks.map sortedS, k.Kind ≠ 2 := fun t ht => by
          obtain ⟨k, hk, rfl⟩ := List.mem_map.1 ht
          rw [sortedS_Kind]; exact h3 k hk
        have hkl : ∀ k ∈ ks.map sortedS, k.Kids.length ≤ 1000 := fun t ht => by
          obtain ⟨k, hk, rfl⟩ := List.mem_map.1 ht
          have h5 := szL_mem hk
          have h6 := sortedS_sz k
          cases hs : sortedS k with
          | mk K' N' ks' =>
            rw [hs, szT] at h6
            have := szL_len ks'
            rw [TreeTree_Kids_mk]; omega
        have hd := hgs.sorted.least
        obtain ⟨k0, k1, kr, hks⟩ : ∃ k0 k1 kr, ks.map sortedS = k0 :: k1 :: kr := by
          match h : ks.map sortedS with
          | [] => rw [h] at hjl; simp at hjl; omega
          | [x] => rw [h] at hjl; simp at hjl; omega
          | a :: b :: l => exact ⟨a, b, l, rfl⟩
        have m0 : k0 ∈ ks.map sortedS := by rw [hks]; simp
        have m1 : k1 ∈ ks.map sortedS := by rw [hks]; simp
        have e1 : joinK 2 k0 ++ joinK 2 k1 = (ks.map sortedS).take 2 := by
          rw [joinK, if_neg (hkd k0 m0), joinK, if_neg (hkd k1 m1), hks]; rfl
        have a0 : atI ((ks.map sortedS).map ofT) 0 = some (ofT k0) := atI_map ofT _ 0 (by rw [hks]; rfl)
        have a1 : atI ((ks.map sortedS).map ofT) 1 = some (ofT k1) := atI_map ofT _ 1 (by rw [hks]; rfl)
        rw [a0, Option.bind_some, a1, Option.bind_some, rjoin2_eq m (by omega) k0 k1 (by rw [e1]; exact ⟨by rw [List.length_take]; omega, fun t ht => hsm.2 t (List.mem_of_mem_take ht)⟩) (hkl k0 m0) (hkl k1 m1) (by rw [e1]; exact hd.sublist ((List.take_sublist _ _).map _)), Option.bind_some, ofT_Kind, ofT_N, ofT_Kids, e1]
        exact rjoin_loop m (by omega) (ks.map sortedS) hsm (by omega) hkd hkl hd m 2 (by omega) (by omega) (by omega)
end Go.G

namespace Go.G
open Go.Av
set_option maxRecDepth 100000 in
theorem alive15 : law15_alive 2000000 = some true := by decide +kernel

/-! ### the weight -/
theorem weight_loop (t : TreeTree) (deep : Int) (slf : TreeTree → Int → Option Int) (hs : t.Kids.length ≤ 1000000000) (hf : ∀ k ∈ t.Kids, ∃ r, slf k (IntKind.i64.wrap (deep + 1)) = some r) : ∀ (k i : Nat) (p : Int), i ≤ t.Kids.length → t.Kids.length - i < k →
    ∃ r, law14_weight_L1 t deep slf k (i : Int) p = some r
  | 0, i, p, h, hk => absurd hk (Nat.not_lt_zero _)
  | k + 1, i, p, h, hk => by
    rw [law14_weight_L1]
    by_cases hi : i < t.Kids.length
    · obtain ⟨x, hx⟩ := get_ex hi
      obtain ⟨r, hr⟩ := hf x (List.mem_of_getElem? hx)
      rw [if_pos (by simpa using hi), atI_nat, hx, Option.bind_some, hr, Option.bind_some]
      split
      · exact ⟨_, rfl⟩
      · rw [wrapN (by omega)]
        exact weight_loop t deep slf hs hf k (i + 1) _ (by omega) (by omega)
    · rw [if_neg (by simpa using hi)]; exact ⟨_, rfl⟩
theorem law14_weight_some : ∀ (t : TreeTree) (n : Nat) (deep : Int), szT t ≤ 1000000000 → szT t < n → ∃ r, law14_weight n t deep = some r := by
  intro t
  induction t using tree_ind with
  | h K N ks ih =>
    intro n deep hb hn
    obtain ⟨m, rfl, hlen, hk⟩ := szT_kids hn
    have hl : ks.length ≤ 1000000000 := by have := szL_len ks; simp only [szT] at hb; omega
    have hkb : ∀ k ∈ ks, szT k ≤ 1000000000 := fun k hk => by have := szL_mem hk; simp only [szT] at hb; omega
    rw [law14_weight]
    split
    · exact ⟨_, rfl⟩
    · exact weight_loop (.mk K N ks) deep (law14_weight m) (by simpa [TreeTree_Kids_mk] using hl) (fun k hk' => ih k hk' m _ (hkb k hk') (hk k hk')) m 0 1 (by omega) (by simpa [TreeTree_Kids_mk] using hlen)
theorem law14_TooLarge_some (t : TreeTree) (n : Nat) (hb : szT t ≤ 1000000000) (hn : szT t < n) : ∃ r, law14_TooLarge n t = some r := by
  obtain ⟨r, hr⟩ := law14_weight_some t n 0 hb hn
  rw [law14_TooLarge, hr, Option.bind_some]
  split <;> exact ⟨_, rfl⟩

theorem eqF_loop (s : List TreeTree) (slf : TreeTree → TreeTree → Option Bool) (hs : s.length ≤ 1000000000) (hf : ∀ k ∈ s, slf k k = some true) : ∀ (q i : Nat), i ≤ s.length → s.length - i < q → slices_EqualFunc_tree_Tree_c35_L1 s s slf q (i : Int) = some true
  | 0, i, h, hm => absurd hm (Nat.not_lt_zero _)
  | q + 1, i, h, hm => by
    rw [slices_EqualFunc_tree_Tree_c35_L1]
    by_cases hi : i < s.length
    · obtain ⟨x, hx⟩ := get_ex hi
      rw [if_pos (by simpa using hi), atI_nat, hx, Option.bind_some, Option.bind_some, hf x (List.mem_of_getElem? hx), Option.bind_some, if_neg (by simp), wrapN (by omega)]
      exact eqF_loop s slf hs hf q (i + 1) (by omega) (by omega)
    · rw [if_neg (by simpa using hi)]
theorem tree_Equal_refl : ∀ (t : TreeTree) (n : Nat), szT t ≤ 1000000000 → szT t < n → tree_Equal n t t = some true := by
  intro t
  induction t using tree_ind with
  | h K N ks ih =>
    intro n hb hn
    obtain ⟨m, rfl, hlen, hk⟩ := szT_kids hn
    have hl := szL_len ks
    have hkb : ∀ k ∈ ks, szT k ≤ 1000000000 := fun k hk => by have := szL_mem hk; rw [szT] at hb; omega
    have := eqF_loop ks (tree_Equal m) (by rw [szT] at hb; omega) (fun k hk' => ih k hk' m (hkb k hk') (hk k hk')) m 0 (by omega) (by omega)
    rw [show ((0 : Nat) : Int) = 0 from rfl] at this
    rw [tree_Equal, TreeTree_Kids_mk, slices_EqualFunc_tree_Tree_c35, if_pos (by simp), if_pos (by simp), if_neg (by simp), this]; rfl

theorem sortedS_good {len : Int} {t : TreeTree} (h : Good len t) : Good len (sortedS t) := ⟨sortedS_ok h.ok, (sortedS_lv t).nodup_iff.2 h.nd⟩


theorem Ok_sz {len : Int} : ∀ (t : TreeTree), Ok len t → szT t + 1 ≤ 2 * (lv t).length := by
  intro t
  induction t using tree_ind with
  | h K N ks ih =>
    intro hok
    rw [Ok] at hok
    rcases hok with ⟨rfl, rfl, _, _⟩ | ⟨hK, rfl, h2, _, h4⟩
    · rw [szT, szL, lv, if_pos rfl]; simp
    · rw [OkL_iff] at h4
      have : ∀ js : List TreeTree, (∀ k ∈ js, szT k + 1 ≤ 2 * (lv k).length) → szL js + js.length ≤ 2 * (lvs js).length := by
        intro js
        induction js with
        | nil => intro _; simp [szL, lvs]
        | cons k js ihj =>
          intro h
          have h1 := h k (by simp)
          have h2 := ihj fun j hj => h j (by simp [hj])
          rw [szL, lvs, List.length_append, List.length_cons]
          omega
      have := this ks fun k hk => ih k hk (h4 k hk)
      rw [szT, lv, if_neg (by omega), if_pos hK]
      omega

section
variable (n : Nat) (hn : 2000000 ≤ n) (hal : law15_alive n = some true) (t : TreeTree) (a1 : Int) (h1 : Ok ((lv t).length : Nat) t) (h2 : (lv t).Nodup) (h3 : (lv t).length ≤ 40)
include hn hal h1 h2 h3

theorem inv_J1 (l : List ApiContact) (hl : l.length = (lv t).length) : law15_ReduceInvertsExpand_J1 n t l = some true := by
  have h1' : Ok (l.length : Nat) t := by rw [hl]; exact h1
  have hg : Good (l.length : Nat) t := ⟨h1', h2⟩
  have hg1 := sortedS_good hg
  have hsz := Ok_sz t h1
  have hs1 : szT (sortedS t) = szT t := sortedS_sz t
  have hlv1 : (lv (sortedS t)).length = l.length := by rw [(sortedS_lv t).length_eq, hl]
  rw [law15_ReduceInvertsExpand_J1, Expand_eq n t l (by omega) (by omega) (by omega) h1' h2 hl.symm, Option.bind_some]
  dsimp only
  rw [Reduce_exp n ⟨(⟨#[]⟩ : Str), expC t l, [], (⟨#[]⟩ : Str)⟩ rfl (by omega) (by omega) (by omega) h1' h2 hl.symm, Option.bind_some]
  dsimp only
  rw [Expand_eq n (sortedS t) l (by omega) (by omega) (by omega) hg1.ok hg1.nd hlv1, Option.bind_some]
  dsimp only
  rw [Reduce_exp n ⟨(⟨#[]⟩ : Str), expC (sortedS t) l, [], (⟨#[]⟩ : Str)⟩ rfl (by omega) (by omega) (by omega) hg1.ok hg1.nd hlv1, Option.bind_some]
  dsimp only
  rw [law14_Of_eq t n (by omega) (by omega), Option.bind_some, rSorted_eq (len := (l.length : Int)) t n hg (by omega) (by omega), Option.bind_some, hal, Option.bind_some, if_pos rfl, if_pos (by rfl), if_pos (by rfl), if_pos (by rfl), if_pos (by rfl), sorted_idem hg, tree_Equal_refl _ n (by omega) (by omega), Option.bind_some, if_pos rfl,
    law14_Of_eq _ n (by omega) (by omega), Option.bind_some, ref14_Equal_eq _ _ n (by omega) (by omega), Option.bind_some, decide_eq_true rfl]

theorem inv_L2 : ∀ (q i : Nat) (l : List ApiContact), i ≤ (lv t).length → (lv t).length - i < q → l.length = (lv t).length → law15_ReduceInvertsExpand_L2 n t a1 (lv t) q (i : Int) l = some true
  | 0, i, l, h, hm, _ => absurd hm (Nat.not_lt_zero _)
  | q + 1, i, l, h, hm, hl => by
    rw [law15_ReduceInvertsExpand_L2]
    by_cases hi : i < (lv t).length
    · obtain ⟨c, hc⟩ := get_ex (l := l) (i := i) (by omega)
      rw [if_pos (by simpa using hi), atI_nat, hc, Option.bind_some, Option.bind_some, wrapN (by omega)]
      exact inv_L2 q (i + 1) _ (by omega) (by omega) (by simpa using hl)
    · rw [if_neg (by simpa using hi)]
      exact inv_J1 n hn hal t h1 h2 h3 l hl
end

theorem inv_law0 (n : Nat) (hn : 2000000 ≤ n) (hal : law15_alive n = some true) (t : TreeTree) (ht : szT t ≤ 1048576) (a1 : Int) : law15_ReduceInvertsExpand n t a1 = some true := by
  obtain ⟨b, hb⟩ := law14_TooLarge_some t n (by omega) (by omega)
  rw [law15_ReduceInvertsExpand, hb, Option.bind_some]
  by_cases c1 : b > 0
  · rw [if_pos (by simpa using c1), hal]; rfl
  rw [if_neg (by simpa using c1), law14_Of_eq t n (by omega) (by omega), Option.bind_some, ref14_Leaves_eq t n (by omega) (by omega), Option.bind_some]
  by_cases c2 : ((lv t).length : Int) > 40
  · rw [if_pos (by simpa using c2), hal]; rfl
  rw [if_neg (by simpa using c2), tree_Check_eq t _ n (by omega) (by omega), Option.bind_some]
  by_cases c3 : checkS t ((lv t).length : Nat) = 0
  · obtain ⟨h1, h2, _⟩ := (checkS_iff t (lv t).length).1 c3
    rw [if_neg (by simpa using c3), if_pos (by omega), Option.bind_some]
    have := inv_L2 n hn hal t a1 h1 h2 (by omega) n 0 (List.replicate (lv t).length ⟨0, ⟨0, 0⟩, (⟨#[]⟩ : Str), (⟨#[]⟩ : Str)⟩) (by omega) (by omega) (by simp)
    exact this
  · rw [if_pos (by simpa using c3), hal]; rfl

theorem inv_law (t : TreeTree) (ht : szT t ≤ 1048576) (a1 : Int) : law15_ReduceInvertsExpand 2000000 t a1 = some true :=
  inv_law0 2000000 (Nat.le_refl _) alive15 t ht a1
end Go.G

/- What the reference's check of a rung answers. No walk is proved here. -/
import Derived.Test.YtaebdeidbibfkaaGreatDoorULawM12
set_option linter.unusedSimpArgs false
set_option linter.unusedVariables false
set_option linter.unusedSectionVars false
namespace Go.G
open Go.Av

theorem has_loop (l : List Str) (x : Str) (hl : l.length ≤ 100000000) : ∀ (q i : Nat), i ≤ l.length → l.length - i < q → ref12_has_L1 l x q (i : Int) = some (decide (x ∈ l.drop i))
  | 0, i, h, hm => absurd hm (Nat.not_lt_zero _)
  | q + 1, i, h, hm => by
    rw [ref12_has_L1]
    by_cases hi : i < l.length
    · obtain ⟨y, hy⟩ := get_ex hi
      rw [if_pos (by simpa using hi), atI_nat, hy, Option.bind_some, drop_cons hy]
      by_cases hx : y = x
      · rw [if_pos (by simpa using hx)]; simp [hx]
      · have hx' : ¬ x = y := fun e => hx e.symm
        rw [if_neg (by simpa using hx), wrapN (by omega), has_loop l x hl q (i + 1) (by omega) (by omega)]; simp [hx']
    · rw [if_neg (by simpa using hi), List.drop_eq_nil_of_le (by omega)]; simp
theorem has_eq (n : Nat) (l : List Str) (x : Str) (hl : l.length ≤ 100000000) (hn : l.length < n) : ref12_has n l x = some (decide (x ∈ l)) := by
  rw [ref12_has, show (0 : Int) = ((0 : Nat) : Int) from rfl, has_loop l x hl n 0 (by omega) (by omega), List.drop_zero]

theorem has13_loop (l : List Str) (x : Str) (hl : l.length ≤ 100000000) : ∀ (q i : Nat), i ≤ l.length → l.length - i < q → ref13_has_L1 l x q (i : Int) = some (decide (x ∈ l.drop i))
  | 0, i, h, hm => absurd hm (Nat.not_lt_zero _)
  | q + 1, i, h, hm => by
    rw [ref13_has_L1]
    by_cases hi : i < l.length
    · obtain ⟨y, hy⟩ := get_ex hi
      rw [if_pos (by simpa using hi), atI_nat, hy, Option.bind_some, drop_cons hy]
      by_cases hx : y = x
      · rw [if_pos (by simpa using hx)]; simp [hx]
      · have hx' : ¬ x = y := fun e => hx e.symm
        rw [if_neg (by simpa using hx), wrapN (by omega), has13_loop l x hl q (i + 1) (by omega) (by omega)]; simp [hx']
    · rw [if_neg (by simpa using hi), List.drop_eq_nil_of_le (by omega)]; simp
theorem has13_eq (n : Nat) (l : List Str) (x : Str) (hl : l.length ≤ 100000000) (hn : l.length < n) : ref13_has n l x = some (decide (x ∈ l)) := by
  rw [ref13_has, show (0 : Int) = ((0 : Nat) : Int) from rfl, has13_loop l x hl n 0 (by omega) (by omega), List.drop_zero]


/-! ### nodes -/
theorem perm_of_sub {α : Type} : ∀ {l1 l2 : List α}, l1.Nodup → (∀ x ∈ l1, x ∈ l2) → l2.length ≤ l1.length → l1.Perm l2
  | [], [], _, _, _ => .refl _
  | [], _ :: _, _, _, h => by simp at h
  | a :: l1, l2, hd, hs, h => by
    obtain ⟨l3, hp⟩ := perm_mem (hs a (by simp))
    rw [List.nodup_cons] at hd
    refine (List.Perm.cons a (perm_of_sub hd.2 (fun x hx => ?_) ?_)).trans hp.symm
    · rcases List.mem_cons.1 (hp.subset (hs x (by simp [hx]))) with rfl | q
      · exact absurd hx hd.1
      · exact q
    · have := hp.length_eq
      simp only [List.length_cons] at this h
      omega
theorem len_of_sub {α : Type} {l1 l2 : List α} (hd : l1.Nodup) (hs : ∀ x ∈ l1, x ∈ l2) : l1.length ≤ l2.length := by
  rcases Nat.lt_or_ge l2.length l1.length with h | h
  · have := (perm_of_sub hd hs (by omega)).length_eq; omega
  · exact h

structure NodL (cs : List ApiContact) (i : Nat) (l : List Str) : Prop where
  nd : l.Nodup
  nod : ∀ x ∈ l, IsNode cs x
  ll : strLL ∈ l
  rr : strRR ∈ l
  all : ∀ (k : Nat) (c : ApiContact), k < i → cs[k]? = some c → c.From ∈ l ∧ c.To ∈ l
theorem NodL.add {cs : List ApiContact} {i : Nat} {l : List Str} (h : NodL cs i l) {x : Str} (hx : x ∉ l) (hn : IsNode cs x) : NodL cs i (l ++ [x]) := by
  refine ⟨?_, fun y hy => ?_, by simp [h.ll], by simp [h.rr], fun k c hk hc => ⟨by simp [(h.all k c hk hc).1], by simp [(h.all k c hk hc).2]⟩⟩
  · refine List.nodup_append.2 ⟨h.nd, by simp, fun a ha b hb => ?_⟩
    rw [List.mem_singleton] at hb; subst hb
    rintro rfl; exact hx ha
  · rcases List.mem_append.1 hy with hy | hy
    · exact h.nod y hy
    · rw [List.mem_singleton] at hy; subst hy; exact hn

theorem rnodes_loop (n : Nat) (r : ApiRung) (hs : r.Contacts.length ≤ 1000000) (hn : 2 * r.Contacts.length + 10 ≤ n) : ∀ (q i : Nat) (l : List Str), i ≤ r.Contacts.length → r.Contacts.length - i < q → l.length ≤ 2 + 2 * i → NodL r.Contacts i l →
    ∃ l', ref12_Nodes_L1 n r q l (i : Int) = some l' ∧ NodL r.Contacts r.Contacts.length l' ∧ l'.length ≤ 2 + 2 * r.Contacts.length
  | 0, i, l, h, hm, _, _ => absurd hm (Nat.not_lt_zero _)
  | q + 1, i, l, h, hm, hl, hN => by
    rw [ref12_Nodes_L1]
    by_cases hi : i < r.Contacts.length
    · obtain ⟨c, hc⟩ := get_ex hi
      have mc := List.mem_of_getElem? hc
      rw [if_pos (by simpa using hi), atI_nat, hc, Option.bind_some, has_eq n l _ (by omega) (by omega), Option.bind_some]
      have key : ∀ l1 : List Str, l1.length ≤ l.length + 1 → NodL r.Contacts i l1 → c.From ∈ l1 →
          ∃ l', ref12_Nodes_J2 n r (i : Int) (ref12_Nodes_L1 n r q) l1 = some l' ∧ NodL r.Contacts r.Contacts.length l' ∧ l'.length ≤ 2 + 2 * r.Contacts.length := fun l1 h1 h2 h3 => by
        rw [ref12_Nodes_J2, atI_nat, hc, Option.bind_some, has_eq n l1 _ (by omega) (by omega), Option.bind_some]
        have fin : ∀ l2 : List Str, l2.length ≤ l.length + 2 → NodL r.Contacts i l2 → c.From ∈ l2 → c.To ∈ l2 → ∃ l', ref12_Nodes_L1 n r q l2 ((i + 1 : Nat) : Int) = some l' ∧ NodL r.Contacts r.Contacts.length l' ∧ l'.length ≤ 2 + 2 * r.Contacts.length := fun l2 g1 g2 g3 g4 => by
          refine rnodes_loop n r hs hn q (i + 1) l2 (by omega) (by omega) (by omega) ⟨g2.nd, g2.nod, g2.ll, g2.rr, fun k d hk hd => ?_⟩
          rcases Nat.lt_or_ge k i with hki | hki
          · exact g2.all k d hki hd
          · have : k = i := by omega
            subst this; rw [hc] at hd; cases hd; exact ⟨g3, g4⟩
        by_cases ht : c.To ∈ l1
        · rw [if_neg (by simp [ht]), wrapN (by omega)]
          exact fin l1 (by omega) h2 h3 ht
        · rw [if_pos (by simp [ht]), if_pos (by simp; omega), Option.bind_some, wrapN (by omega)]
          exact fin _ (by simp; omega) (h2.add ht (.inr (.inr ⟨c, mc, .inr rfl⟩))) (by simp [h3]) (by simp)
      by_cases hf : c.From ∈ l
      · rw [if_neg (by simp [hf])]
        exact key l (by omega) hN hf
      · rw [if_pos (by simp [hf]), if_pos (by simp; omega), Option.bind_some]
        exact key _ (by simp) (hN.add hf (.inr (.inr ⟨c, mc, .inl rfl⟩))) (by simp)
    · have : i = r.Contacts.length := by omega
      subst this
      rw [if_neg (by simp)]
      exact ⟨l, rfl, hN, hl⟩
theorem rnodes_exact (n : Nat) (r : ApiRung) (hs : r.Contacts.length ≤ 1000000) (hn : 2 * r.Contacts.length + 10 ≤ n) : ∃ l, ref12_Nodes n r = some l ∧ l.Nodup ∧ (∀ x, x ∈ l ↔ IsNode r.Contacts x) ∧ l.length ≤ 2 + 2 * r.Contacts.length := by
  obtain ⟨l, h1, h2, h3⟩ := rnodes_loop n r hs hn n 0 [strLL, strRR] (by omega) (by omega) (by simp) ⟨by decide, fun x hx => by
    rcases List.mem_cons.1 hx with rfl | hx
    · exact .inl rfl
    · rw [List.mem_singleton] at hx; exact .inr (.inl hx), by simp, by simp, fun k c hk => absurd hk (Nat.not_lt_zero _)⟩
  refine ⟨l, ?_, h2.nd, fun x => ⟨h2.nod x, ?_⟩, h3⟩
  · rw [ref12_Nodes, Option.bind_some]; exact h1
  · rintro (rfl | rfl | ⟨c, hc, hx⟩)
    · exact h2.ll
    · exact h2.rr
    · obtain ⟨k, hk⟩ := List.getElem?_of_mem hc
      obtain ⟨a, b⟩ := h2.all k c (get_lt hk) hk
      rcases hx with rfl | rfl
      · exact a
      · exact b

/-! ### sorting by rank -/
inductive TopoL (cs : List ApiContact) : List Str → Prop
  | nil : TopoL cs []
  | snoc {p : List Str} {x : Str} (h : TopoL cs p) (hx : x ∉ p) (hc : ∀ c ∈ cs, c.To = x → c.From ∈ p) : TopoL cs (p ++ [x])
theorem TopoL.nd {cs : List ApiContact} {p : List Str} (h : TopoL cs p) : p.Nodup := by
  induction h with
  | nil => exact List.nodup_nil
  | snoc h hx _ ih =>
    refine List.nodup_append.2 ⟨ih, by simp, fun a ha b hb => ?_⟩
    rw [List.mem_singleton] at hb; subst hb
    rintro rfl; exact hx ha
theorem TopoL.rank {cs : List ApiContact} {p : List Str} (h : TopoL cs p) : ∃ rank : Str → Nat, (∀ x ∈ p, rank x < p.length) ∧ ∀ c ∈ cs, c.To ∈ p → c.From ∈ p ∧ rank c.From < rank c.To := by
  induction h with
  | nil => exact ⟨fun _ => 0, fun x hx => by simp at hx, fun c _ hc => by simp at hc⟩
  | @snoc p x h hx hc ih =>
    obtain ⟨rank, h1, h2⟩ := ih
    refine ⟨fun y => if y = x then p.length else rank y, fun y hy => ?_, fun c hcs hto => ?_⟩
    · rw [List.length_append, List.length_singleton]
      dsimp only
      by_cases e : y = x
      · rw [if_pos e]; omega
      · rw [if_neg e]
        rcases List.mem_append.1 hy with hy | hy
        · have := h1 y hy; omega
        · rw [List.mem_singleton] at hy; exact absurd hy e
    · by_cases e : c.To = x
      · have hf := hc c hcs e
        have hne : c.From ≠ x := fun q => hx (q ▸ hf)
        refine ⟨by simp [hf], ?_⟩
        simp only [if_neg hne, if_pos e]
        exact h1 _ hf
      · have hto' : c.To ∈ p := by
          rcases List.mem_append.1 hto with q | q
          · exact q
          · rw [List.mem_singleton] at q; exact absurd q e
        obtain ⟨a, b⟩ := h2 c hcs hto'
        have hne : c.From ≠ x := fun q => hx (q ▸ a)
        refine ⟨by simp [a], ?_⟩
        simp only [if_neg hne, if_neg e]
        exact b

def okB (p : List Str) (x : Str) (cs : List ApiContact) : Bool := cs.all fun c => !decide (c.To = x) || decide (c.From ∈ p)
theorem okB_iff {p : List Str} {x : Str} {cs : List ApiContact} : okB p x cs = true ↔ ∀ c ∈ cs, c.To = x → c.From ∈ p := by
  simp only [okB, List.all_eq_true, Bool.or_eq_true, Bool.not_eq_true', decide_eq_false_iff_not, decide_eq_true_eq]
  exact ⟨fun h c hc e => (h c hc).elim (fun q => absurd e q) id, fun h c hc => by by_cases e : c.To = x <;> simp [e, h c hc]⟩

section
variable (n : Nat) (r : ApiRung) (hs : r.Contacts.length ≤ 1000000) (all : List Str) (hal : all.length ≤ 3000000) (hn : 2 * all.length + r.Contacts.length + 10 ≤ n) (p : List Str) (hp : p.length ≤ all.length)
include hs hal hn hp

theorem topo_L4 (k : Nat) (x : Str) (hx : all[k]? = some x) (m : Int) (R : Int → Int → Option (List Str × Int)) : ∀ (q i : Nat) (b : Bool), i ≤ r.Contacts.length → r.Contacts.length - i < q →
    ref12_TopoSort_L4 n r all p (k : Int) m R q b (i : Int) = if (b && okB p x (r.Contacts.drop i)) = true then R ((k + 1 : Nat) : Int) (k : Int) else R ((k + 1 : Nat) : Int) m
  | 0, i, b, h, hm => absurd hm (Nat.not_lt_zero _)
  | q + 1, i, b, h, hm => by
    have hk := get_lt hx
    rw [ref12_TopoSort_L4]
    by_cases hi : i < r.Contacts.length
    · obtain ⟨c, hc⟩ := get_ex hi
      rw [if_pos (by simpa using hi), atI_nat, hc, Option.bind_some, atI_nat, hx, Option.bind_some, wrapN (by omega), drop_cons hc, okB, List.all_cons]
      by_cases e : c.To = x
      · rw [if_pos (by simpa using e), has_eq n p _ (by omega) (by omega), Option.bind_some]
        by_cases hf : c.From ∈ p
        · rw [if_neg (by simp [hf]), topo_L4 k x hx m R q (i + 1) b (by omega) (by omega)]
          simp [hf, okB]
        · rw [if_pos (by simp [hf]), topo_L4 k x hx m R q (i + 1) false (by omega) (by omega)]
          simp [hf, e]
      · rw [if_neg (by simpa using e), topo_L4 k x hx m R q (i + 1) b (by omega) (by omega)]
        simp [e, okB]
    · rw [if_neg (by simpa using hi), List.drop_eq_nil_of_le (by omega), wrapN (by omega)]
      cases b <;> simp [okB]

theorem topo_L3 (R : List Str → Option (List Str × Int)) : ∀ (q i : Nat), i ≤ all.length → all.length - i < q →
    (∃ (k : Nat) (x : Str), all[k]? = some x ∧ x ∉ p ∧ okB p x r.Contacts = true ∧ ref12_TopoSort_L3 n r all p R q (i : Int) (-1) = ref12_TopoSort_J2 all p R (k : Int)) ∨
    ((∀ x ∈ all.drop i, x ∈ p ∨ okB p x r.Contacts = false) ∧ ref12_TopoSort_L3 n r all p R q (i : Int) (-1) = ref12_TopoSort_J2 all p R (-1))
  | 0, i, h, hm => absurd hm (Nat.not_lt_zero _)
  | q + 1, i, h, hm => by
    rw [ref12_TopoSort_L3]
    by_cases hi : i < all.length
    · obtain ⟨x, hx⟩ := get_ex hi
      rw [if_pos (by simpa using hi), if_pos (by decide), atI_nat, hx, Option.bind_some, has_eq n p _ (by omega) (by omega), Option.bind_some, drop_cons hx]
      have next : (x ∈ p ∨ okB p x r.Contacts = false) → (∃ (k : Nat) (x : Str), all[k]? = some x ∧ x ∉ p ∧ okB p x r.Contacts = true ∧ ref12_TopoSort_L3 n r all p R q ((i + 1 : Nat) : Int) (-1) = ref12_TopoSort_J2 all p R (k : Int)) ∨
          ((∀ y ∈ x :: all.drop (i + 1), y ∈ p ∨ okB p y r.Contacts = false) ∧ ref12_TopoSort_L3 n r all p R q ((i + 1 : Nat) : Int) (-1) = ref12_TopoSort_J2 all p R (-1)) := fun hx2 => by
        rcases topo_L3 R q (i + 1) (by omega) (by omega) with h1 | ⟨h1, h2⟩
        · exact .inl h1
        · refine .inr ⟨fun y hy => ?_, h2⟩
          rcases List.mem_cons.1 hy with rfl | hy
          · exact hx2
          · exact h1 y hy
      by_cases hxp : x ∈ p
      · rw [if_pos (by simpa using hxp), wrapN (by omega)]
        exact next (.inl hxp)
      · rw [if_neg (by simpa using hxp), show (0 : Int) = ((0 : Nat) : Int) from rfl, topo_L4 n r hs all hal hn p hp i x hx (-1) (ref12_TopoSort_L3 n r all p R q) n 0 true (by omega) (by omega), List.drop_zero, Bool.true_and]
        cases hok : okB p x r.Contacts with
        | true =>
          refine .inl ⟨i, x, hx, hxp, hok, ?_⟩
          rw [if_pos rfl]
          obtain ⟨q', rfl⟩ : ∃ q', q = q' + 1 := ⟨q - 1, by omega⟩
          rw [ref12_TopoSort_L3]
          by_cases hj : i + 1 < all.length
          · rw [if_pos (by simp; omega), if_neg (by simp)]
          · rw [if_neg (by simp; omega)]
        | false =>
          rw [if_neg (by simp)]
          exact next (.inr hok)
    · rw [if_neg (by simpa using hi)]
      refine .inr ⟨fun x hx => ?_, rfl⟩
      rw [List.drop_eq_nil_of_le (by omega)] at hx; cases hx
end

theorem topo_L1 (n : Nat) (r : ApiRung) (hs : r.Contacts.length ≤ 1000000) (all : List Str) (hal : all.length ≤ 3000000) (hn : 2 * all.length + r.Contacts.length + 10 ≤ n) (hnd : all.Nodup) (hmem : ∀ x, x ∈ all ↔ IsNode r.Contacts x) : ∀ (q : Nat) (p : List Str), all.length - p.length < q → TopoL r.Contacts p → (∀ x ∈ p, x ∈ all) →
    ∃ s e, ref12_TopoSort_L1 n r all q p = some (s, e) ∧ ((e = 0 ∧ Acyc r.Contacts) ∨ (e = 12 ∧ ¬ Acyc r.Contacts))
  | 0, p, hm, _, _ => absurd hm (Nat.not_lt_zero _)
  | q + 1, p, hm, ht, hsub => by
    have hpl := len_of_sub ht.nd hsub
    rw [ref12_TopoSort_L1]
    by_cases hl : p.length < all.length
    · rw [if_pos (by simpa using hl), show (0 : Int) = ((0 : Nat) : Int) from rfl]
      rcases topo_L3 n r hs all hal hn p hpl (ref12_TopoSort_L1 n r all q) n 0 (by omega) (by omega) with ⟨k, x, h1, h2, h3, h4⟩ | ⟨h1, h2⟩
      · rw [h4, ref12_TopoSort_J2, if_neg (by simp), atI_nat, h1, Option.bind_some, if_pos (by simp; omega), Option.bind_some]
        refine topo_L1 n r hs all hal hn hnd hmem q (p ++ [x]) (by simp; omega) (ht.snoc h2 (okB_iff.1 h3)) fun y hy => ?_
        rcases List.mem_append.1 hy with hy | hy
        · exact hsub y hy
        · rw [List.mem_singleton] at hy; subst hy; exact List.mem_of_getElem? h1
      · rw [h2, ref12_TopoSort_J2, if_pos (by decide)]
        refine ⟨[], 12, rfl, .inr ⟨rfl, fun ⟨rank, hrk⟩ => ?_⟩⟩
        rw [List.drop_zero] at h1
        have hne : (all.filter fun x => !decide (x ∈ p)) ≠ [] := fun e => by
          rw [List.filter_eq_nil_iff] at e
          have := len_of_sub hnd fun x hx => by simpa using e x hx
          omega
        obtain ⟨x, hx, hmin⟩ := min_ex rank hne
        rw [List.mem_filter] at hx
        have hxp : x ∉ p := by simpa using hx.2
        rcases h1 x hx.1 with q | q
        · exact hxp q
        · have : ¬ ∀ c ∈ r.Contacts, c.To = x → c.From ∈ p := fun h => by rw [okB_iff.2 h] at q; cases q
          obtain ⟨c, hc⟩ := Classical.not_forall.1 this
          obtain ⟨hcs, hc⟩ := Classical.not_imp.1 hc
          obtain ⟨hto, hfp⟩ := Classical.not_imp.1 hc
          have h5 := hmin c.From (List.mem_filter.2 ⟨(hmem _).2 (.inr (.inr ⟨c, hcs, .inl rfl⟩)), by simpa using hfp⟩)
          have h6 := hrk c hcs
          rw [hto] at h6
          omega
    · rw [if_neg (by simpa using hl)]
      have hperm := perm_of_sub ht.nd hsub (by omega)
      obtain ⟨rank, _, hrk⟩ := ht.rank
      exact ⟨p, 0, rfl, .inl ⟨rfl, rank, fun c hc => (hrk c hc (hperm.symm.subset ((hmem _).2 (.inr (.inr ⟨c, hc, .inr rfl⟩))))).2⟩⟩

/-! ### what is reached -/
/-- How many of the nodes are not there yet. -/
def lackL (all g : List Str) : Nat := (all.filter fun x => !decide (x ∈ g)).length
theorem lackL_mono {g g' : List Str} (h : ∀ x ∈ g, x ∈ g') : ∀ all : List Str, lackL all g' ≤ lackL all g
  | [] => by simp [lackL]
  | x :: all => by
    have ih := lackL_mono h all
    simp only [lackL, List.filter_cons] at ih ⊢
    by_cases h1 : x ∈ g
    · simp [h1, h x h1]; simpa using ih
    · by_cases h2 : x ∈ g'
      · simp [h1, h2]; omega
      · simp [h1, h2]; simpa using ih
theorem lackL_add {g : List Str} {y : Str} (hy : y ∉ g) : ∀ {all : List Str}, y ∈ all → lackL all (g ++ [y]) + 1 ≤ lackL all g
  | x :: all, h => by
    have mono := lackL_mono (g := g) (g' := g ++ [y]) (fun z hz => by simp [hz]) all
    by_cases e : x = y
    · subst e
      simp only [lackL, List.filter_cons] at mono ⊢
      simp [hy]; simp at mono; omega
    · have hm : y ∈ all := by
        rcases List.mem_cons.1 h with h | h
        · exact absurd h.symm e
        · exact h
      have ih := lackL_add hy hm
      simp only [lackL, List.filter_cons] at ih ⊢
      by_cases h1 : x ∈ g
      · simp [h1]; simp at ih; omega
      · simp [h1, e]; simp at ih; omega


def frB (b : Bool) (c : ApiContact) : Str := if b = true then c.To else c.From
def toB (b : Bool) (c : ApiContact) : Str := if b = true then c.From else c.To
def ClosedL (b : Bool) (cs : List ApiContact) (g : List Str) : Prop := ∀ c ∈ cs, frB b c ∈ g → toB b c ∈ g

theorem spread_track (n : Nat) (r : ApiRung) (hs : r.Contacts.length ≤ 1000000) (b : Bool) (P : Str → Prop) (hP : ∀ c ∈ r.Contacts, P (frB b c) → P (toB b c)) (all : List Str) (hall : ∀ c ∈ r.Contacts, toB b c ∈ all) (hlen : all.length ≤ 3000000) (p : Int) (R : Int → List Str → Option (List Str)) (g0 : List Str) (hn : 2 * all.length + 12 ≤ n ∧ lackL all g0 + g0.length ≤ all.length + 1) :
    ∀ (q i : Nat) (g : List Str), i ≤ r.Contacts.length → r.Contacts.length - i < q → (∀ x ∈ g, P x) → (∀ x ∈ g0, x ∈ g) → lackL all g + g.length ≤ all.length + 1 → (ClosedL b r.Contacts g0 → g = g0) →
      ((g = g0 ∧ ∀ (k : Nat) (c : ApiContact), k < i → r.Contacts[k]? = some c → frB b c ∈ g → toB b c ∈ g) ∨ lackL all g + 1 ≤ lackL all g0) →
      ∃ g1, (∀ x ∈ g1, P x) ∧ (∀ x ∈ g0, x ∈ g1) ∧ lackL all g1 + g1.length ≤ all.length + 1 ∧ (ClosedL b r.Contacts g0 → g1 = g0) ∧ (ClosedL b r.Contacts g1 ∨ lackL all g1 + 1 ≤ lackL all g0) ∧
        ref12_spread_L4 n r b p R q (i : Int) g = R (IntKind.i64.wrap (p + 1)) g1
  | 0, i, g, h, hm, _, _, _, _, _ => absurd hm (Nat.not_lt_zero _)
  | q + 1, i, g, h, hm, h1, h2, h3, h4, h5 => by
    rw [ref12_spread_L4]
    have ih := fun g' => spread_track n r hs b P hP all hall hlen p R g0 hn q (i + 1) g'
    by_cases hi : i < r.Contacts.length
    · obtain ⟨c, hc⟩ := get_ex hi
      have mc := List.mem_of_getElem? hc
      have skip : (frB b c ∈ g → toB b c ∈ g) → ∃ g1, (∀ x ∈ g1, P x) ∧ (∀ x ∈ g0, x ∈ g1) ∧ lackL all g1 + g1.length ≤ all.length + 1 ∧ (ClosedL b r.Contacts g0 → g1 = g0) ∧ (ClosedL b r.Contacts g1 ∨ lackL all g1 + 1 ≤ lackL all g0) ∧ ref12_spread_L4 n r b p R q ((i + 1 : Nat) : Int) g = R (IntKind.i64.wrap (p + 1)) g1 := fun hsk => by
        refine ih g (by omega) (by omega) h1 h2 h3 h4 (h5.imp (fun ⟨e, a⟩ => ⟨e, fun k d hk hd hf => ?_⟩) id)
        rcases Nat.lt_or_ge k i with g1 | g1
        · exact a k d g1 hd hf
        · have : k = i := by omega
          subst this; rw [hc] at hd; cases hd; exact hsk hf
      have hJ : ∀ a z, a = frB b c → z = toB b c → ∃ g1, (∀ x ∈ g1, P x) ∧ (∀ x ∈ g0, x ∈ g1) ∧ lackL all g1 + g1.length ≤ all.length + 1 ∧ (ClosedL b r.Contacts g0 → g1 = g0) ∧ (ClosedL b r.Contacts g1 ∨ lackL all g1 + 1 ≤ lackL all g0) ∧ ref12_spread_J5 n (i : Int) g (ref12_spread_L4 n r b p R q) a z = R (IntKind.i64.wrap (p + 1)) g1 := by
        rintro a z rfl rfl
        rw [ref12_spread_J5, has_eq n g _ (by omega) (by omega), Option.bind_some, wrapN (by omega)]
        by_cases hf : frB b c ∈ g
        · rw [if_pos (by simp [hf]), has_eq n g _ (by omega) (by omega), Option.bind_some]
          by_cases ht : toB b c ∈ g
          · rw [if_neg (by simp [ht])]
            exact skip fun _ => ht
          · rw [if_pos (by simp [ht]), if_pos (by simp; omega), Option.bind_some]
            have hl := lackL_add ht (hall c mc)
            have hlm := lackL_mono h2 all
            refine ih _ (by omega) (by omega) (fun x hx => ?_) (fun x hx => by simp [h2 x hx]) (by simp; omega) (fun hcl => ?_) (.inr (by omega))
            · rcases List.mem_append.1 hx with hx | hx
              · exact h1 x hx
              · rw [List.mem_singleton] at hx; subst hx
                exact hP c mc (h1 _ hf)
            · have e := h4 hcl
              subst e
              exact absurd (hcl c mc hf) ht
        · rw [if_neg (by simp [hf])]
          exact skip fun h => absurd h hf
      rw [if_pos (by simpa using hi), atI_nat, hc, Option.bind_some]
      cases b with
      | true => rw [if_pos rfl]; exact hJ _ _ rfl rfl
      | false => rw [if_neg (by simp)]; exact hJ _ _ rfl rfl
    · have hie : i = r.Contacts.length := by omega
      rw [if_neg (by simpa using hi)]
      refine ⟨g, h1, h2, h3, h4, h5.imp (fun ⟨e, a⟩ => fun d hd hf => ?_) id, rfl⟩
      obtain ⟨k, hk⟩ := List.getElem?_of_mem hd
      exact a k d (by have := get_lt hk; omega) hk hf

theorem out_loop (n : Nat) (all g : List Str) (hall : all.length ≤ 3000000) (hg : g.length ≤ 3000010) (hn : g.length < n) : ∀ (q i : Nat) (acc : List Str), i ≤ all.length → all.length - i < q → acc.length ≤ i → ref12_spread_L2 n all g q acc (i : Int) = some (acc ++ (all.drop i).filter fun x => decide (x ∈ g))
  | 0, i, acc, h, hm, _ => absurd hm (Nat.not_lt_zero _)
  | q + 1, i, acc, h, hm, ha => by
    rw [ref12_spread_L2]
    by_cases hi : i < all.length
    · obtain ⟨x, hx⟩ := get_ex hi
      rw [if_pos (by simpa using hi), atI_nat, hx, Option.bind_some, has_eq n g _ (by omega) (by omega), Option.bind_some, wrapN (by omega), drop_cons hx, List.filter_cons]
      by_cases hm' : x ∈ g
      · rw [if_pos (by simp [hm']), if_pos (by simp; omega), Option.bind_some, out_loop n all g hall hg hn q (i + 1) _ (by omega) (by omega) (by simp; omega)]; simp [hm']
      · rw [if_neg (by simp [hm']), out_loop n all g hall hg hn q (i + 1) _ (by omega) (by omega) (by omega)]; simp [hm']
    · rw [if_neg (by simpa using hi), List.drop_eq_nil_of_le (by omega)]; simp


theorem spread_rounds (n : Nat) (r : ApiRung) (hs : r.Contacts.length ≤ 1000000) (b : Bool) (P : Str → Prop) (hP : ∀ c ∈ r.Contacts, P (frB b c) → P (toB b c)) (st : Str) (all : List Str) (hall : ∀ c ∈ r.Contacts, toB b c ∈ all) (hlen : all.length ≤ 3000000) (hn : 2 * all.length + r.Contacts.length + 20 ≤ n) : ∀ (q p : Nat) (g : List Str), p ≤ all.length → all.length - p < q →
    (∀ x ∈ g, P x) → st ∈ g → lackL all g + g.length ≤ all.length + 1 → (ClosedL b r.Contacts g ∨ lackL all g + p + 1 ≤ all.length) →
    ∃ g', ref12_spread_L3 n r b all q (p : Int) g = some (all.filter fun x => decide (x ∈ g')) ∧ (∀ x ∈ g', P x) ∧ ClosedL b r.Contacts g' ∧ st ∈ g'
  | 0, p, g, h, hm, _, _, _, _ => absurd hm (Nat.not_lt_zero _)
  | q + 1, p, g, h, hm, h1, h2, h3, h4 => by
    rw [ref12_spread_L3]
    by_cases hp : p < all.length
    · rw [if_pos (by simpa using hp), show (0 : Int) = ((0 : Nat) : Int) from rfl]
      obtain ⟨g1, a1, a2, a3, a4, a5, e⟩ := spread_track n r hs b P hP all hall hlen (p : Int) (ref12_spread_L3 n r b all q) g ⟨by omega, h3⟩ n 0 g (by omega) (by omega) h1 (fun _ h => h) h3 (fun _ => rfl) (.inl ⟨rfl, fun k c hk => absurd hk (Nat.not_lt_zero _)⟩)
      rw [e, wrapN (by omega)]
      refine spread_rounds n r hs b P hP st all hall hlen hn q (p + 1) g1 (by omega) (by omega) a1 (a2 _ h2) a3 ?_
      rcases h4 with h4 | h4
      · rw [a4 h4]; exact .inl h4
      · rcases a5 with a5 | a5
        · exact .inl a5
        · exact .inr (by omega)
    · have hpe : p = all.length := by omega
      rw [if_neg (by simpa using hp), ref12_spread_J1, show (0 : Int) = ((0 : Nat) : Int) from rfl, out_loop n all g hlen (by omega) (by omega) n 0 [] (by omega) (by omega) (by simp)]
      refine ⟨g, by simp, h1, ?_, h2⟩
      rcases h4 with h4 | h4
      · exact h4
      · omega

theorem lackL_one {all : List Str} {y : Str} (hy : y ∈ all) : lackL all [y] + 1 ≤ all.length := by
  have := lackL_add (g := []) (y := y) (by simp) hy
  have h0 : lackL all [] ≤ all.length := by unfold lackL; exact List.length_filter_le _ _
  rw [List.nil_append] at this
  omega

theorem spread_exact (n : Nat) (r : ApiRung) (hs : r.Contacts.length ≤ 100000) (b : Bool) (hn : 10 * r.Contacts.length + 100 ≤ n) (st : Str) (hst : IsNode r.Contacts st) (P : Str → Prop) (hP0 : P st) (hP : ∀ c ∈ r.Contacts, P (frB b c) → P (toB b c)) (hmin : ∀ g : List Str, ClosedL b r.Contacts g → st ∈ g → ∀ x, P x → x ∈ g) :
    ∃ l, ref12_spread n r st b = some l ∧ ∀ x, x ∈ l ↔ IsNode r.Contacts x ∧ P x := by
  obtain ⟨all, h1, h2, h3, h4⟩ := rnodes_exact n r (by omega) (by omega)
  have hm : st ∈ all := (h3 st).2 hst
  have hall : ∀ c ∈ r.Contacts, toB b c ∈ all := fun c hc => (h3 _).2 (.inr (.inr ⟨c, hc, by cases b <;> simp [toB]⟩))
  have hl := lackL_one hm
  obtain ⟨g', a1, a2, a3, a4⟩ := spread_rounds n r (by omega) b P hP st all hall (by omega) (by omega) n 0 [st] (by omega) (by omega) (fun x hx => by rw [List.mem_singleton] at hx; subst hx; exact hP0) (by simp) (by simp; omega) (.inr (by omega))
  rw [show ((0 : Nat) : Int) = 0 from rfl] at a1
  refine ⟨all.filter fun x => decide (x ∈ g'), ?_, fun x => ?_⟩
  · rw [ref12_spread, h1, Option.bind_some, has_eq n all _ (by omega) (by omega), Option.bind_some, if_neg (by simp [hm]), Option.bind_some, a1]
  · rw [List.mem_filter, h3]
    simp only [decide_eq_true_eq]
    exact ⟨fun ⟨q1, q2⟩ => ⟨q1, a2 x q2⟩, fun ⟨q1, q2⟩ => ⟨q1, hmin g' a3 a4 x q2⟩⟩

theorem dead_loop (n : Nat) (all a b : List Str) (hal : all.length ≤ 1000000) (hl : a.length ≤ 1000000 ∧ b.length ≤ 1000000) (hn : 1000010 ≤ n) : ∀ (q i : Nat) (acc : List Str), i ≤ all.length → all.length - i < q → acc.length ≤ i → ∃ l, ref13_DeadNodes_L1 n all a b q acc (i : Int) = some l ∧ (l = [] ↔ acc = [] ∧ ∀ x ∈ all.drop i, x ∈ a ∧ x ∈ b)
  | 0, i, acc, h, hm, _ => absurd hm (Nat.not_lt_zero _)
  | q + 1, i, acc, h, hm, ha => by
    rw [ref13_DeadNodes_L1]
    by_cases hi : i < all.length
    · obtain ⟨x, hx⟩ := get_ex hi
      rw [if_pos (by simpa using hi), atI_nat, hx, Option.bind_some, has13_eq n a _ (by omega) (by omega), Option.bind_some, drop_cons hx, wrapN (by omega)]
      have add : ¬ (x ∈ a ∧ x ∈ b) → ∃ l, (if acc.length + [x].length ≤ 1000000000 then (some (acc ++ [x])).bind fun l1 => ref13_DeadNodes_L1 n all a b q l1 ((i + 1 : Nat) : Int) else none) = some l ∧ (l = [] ↔ acc = [] ∧ ∀ y ∈ x :: all.drop (i + 1), y ∈ a ∧ y ∈ b) := fun hx2 => by
        rw [if_pos (by simp; omega), Option.bind_some]
        obtain ⟨l, q1, q2⟩ := dead_loop n all a b hal hl hn q (i + 1) (acc ++ [x]) (by omega) (by omega) (by simp; omega)
        refine ⟨l, q1, ⟨fun e => ?_, fun ⟨_, e⟩ => absurd (e x (by simp)) hx2⟩⟩
        have := (q2.1 e).1
        simp at this
      by_cases h1 : x ∈ a
      · rw [if_neg (by simp [h1]), has13_eq n b _ (by omega) (by omega), Option.bind_some]
        by_cases h2 : x ∈ b
        · rw [if_neg (by simp [h2])]
          obtain ⟨l, q1, q2⟩ := dead_loop n all a b hal hl hn q (i + 1) acc (by omega) (by omega) (by omega)
          refine ⟨l, q1, q2.trans ⟨fun ⟨e1, e2⟩ => ⟨e1, fun y hy => ?_⟩, fun ⟨e1, e2⟩ => ⟨e1, fun y hy => e2 y (by simp [hy])⟩⟩⟩
          rcases List.mem_cons.1 hy with rfl | hy
          · exact ⟨h1, h2⟩
          · exact e2 y hy
        · rw [if_pos (by simp [h2])]
          exact add fun q => h2 q.2
      · rw [if_pos (by simp [h1])]
        exact add fun q => h1 q.1
    · rw [if_neg (by simpa using hi), List.drop_eq_nil_of_le (by omega)]
      exact ⟨acc, rfl, by simp⟩

/-- The reference's check of a rung. -/
theorem check13 (n : Nat) (r : ApiRung) (hs : r.Contacts.length ≤ 1000) (hn : 2000000 ≤ n) : ref13_Check n r = some (flowS r.Contacts) := by
  rw [ref13_Check]
  by_cases h0 : r.Contacts = []
  · rw [flowS, if_pos h0, if_pos (by simp [h0])]
  rw [flowS, if_neg h0, if_neg (by simpa using h0)]
  obtain ⟨all, h1, h2, h3, h4⟩ := rnodes_exact n r (by omega) (by omega)
  obtain ⟨s, e, t1, t2⟩ := topo_L1 n r (by omega) all (by omega) (by omega) h2 h3 n [] (by simp; omega) .nil (fun x hx => by simp at hx)
  rw [ref12_TopoSort, h1, Option.bind_some, t1, Option.bind_some]
  dsimp only
  rcases t2 with ⟨rfl, t2⟩ | ⟨rfl, t2⟩
  · rw [if_neg (by simp), if_neg (show ¬ ¬ Acyc r.Contacts from fun e => e t2)]
    obtain ⟨a, a1, a2⟩ := spread_exact n r (by omega) false (by omega) strLL (.inl rfl) (RchReachable r.Contacts strLL) .refl (fun c hc h => .step hc h) (fun g hg hst x hx => by
      induction hx with
      | refl => exact hst
      | step h1 _ ih => exact hg _ h1 ih)
    obtain ⟨b, b1, b2⟩ := spread_exact n r (by omega) true (by omega) strRR (.inr (.inl rfl)) (RchAncestors r.Contacts strRR) .refl (fun c hc h => .step hc h) (fun g hg hst x hx => by
      induction hx with
      | refl => exact hst
      | step h1 _ ih => exact hg _ h1 ih)
    have hlen : ∀ l : List Str, ref12_spread n r strLL false = some l ∨ ref12_spread n r strRR true = some l → l.length ≤ 1000000 := fun l hl => by
      have key : ∀ st b, IsNode r.Contacts st → ref12_spread n r st b = some l → l.length ≤ 1000000 := fun st b hst hl => by
        have hm : st ∈ all := (h3 st).2 hst
        have hall : ∀ c ∈ r.Contacts, toB b c ∈ all := fun c hc => (h3 _).2 (.inr (.inr ⟨c, hc, by cases b <;> simp [toB]⟩))
        have hlk := lackL_one hm
        obtain ⟨g', a1, _⟩ := spread_rounds n r (by omega) b (fun _ => True) (fun _ _ _ => trivial) st all hall (by omega) (by omega) n 0 [st] (by omega) (by omega) (fun _ _ => trivial) (by simp) (by simp; omega) (.inr (by omega))
        rw [show ((0 : Nat) : Int) = 0 from rfl] at a1
        rw [ref12_spread, h1, Option.bind_some, has_eq n all _ (by omega) (by omega), Option.bind_some, if_neg (by simp [hm]), Option.bind_some, a1, Option.some.injEq] at hl
        subst hl
        have := List.length_filter_le (fun x => decide (x ∈ g')) all
        omega
      rcases hl with hl | hl
      · exact key strLL false (.inl rfl) hl
      · exact key strRR true (.inr (.inl rfl)) hl
    obtain ⟨l, d1, d2⟩ := dead_loop n all a b (by omega) ⟨hlen a (.inl a1), hlen b (.inr b1)⟩ (by omega) n 0 [] (by omega) (by omega) (by simp)
    rw [show ((0 : Nat) : Int) = 0 from rfl] at d1
    rw [ref13_DeadNodes, h1, Option.bind_some, ref12_Reachable, show (⟨#[76]⟩ : Str) = strLL from rfl, a1, Option.bind_some, Option.bind_some, ref12_Ancestors, show (⟨#[82]⟩ : Str) = strRR from rfl, b1, Option.bind_some, Option.bind_some, d1, Option.bind_some]
    have hiff : l = [] ↔ ¬ ∃ x, IsNode r.Contacts x ∧ ¬ (RchReachable r.Contacts strLL x ∧ RchAncestors r.Contacts strRR x) := by
      rw [d2, List.drop_zero]
      constructor
      · rintro ⟨_, h⟩ ⟨x, q1, q2⟩
        obtain ⟨p1, p2⟩ := h x ((h3 x).2 q1)
        exact q2 ⟨((a2 x).1 p1).2, ((b2 x).1 p2).2⟩
      · intro h
        refine ⟨rfl, fun x hx => ?_⟩
        have hx' := (h3 x).1 hx
        have := Classical.not_not.1 fun q => h ⟨x, hx', q⟩
        exact ⟨(a2 x).2 ⟨hx', this.1⟩, (b2 x).2 ⟨hx', this.2⟩⟩
    by_cases he : l = []
    · rw [if_neg (by simp [he]), if_neg (hiff.1 he)]
    · have hp : 0 < l.length := List.length_pos_iff.2 he
      rw [if_pos (by simpa using hp), if_pos (Classical.not_not.1 fun q => he (hiff.2 q))]
  · rw [if_pos (by simp), if_pos (show ¬ Acyc r.Contacts from t2)]
end Go.G

namespace Go.G
open Go.Av

def ofE (e : ReduceEdge) : Ref15Edge := ⟨e.pair.from_, e.pair.to_, ofT e.t_⟩

/-! ### a list without two of its elements -/
def wo {α : Type} (i k : Nat) : Nat → List α → List α
  | _, [] => []
  | j, x :: l => if j ≠ i ∧ j ≠ k then x :: wo i k (j + 1) l else wo i k (j + 1) l
theorem wo_len {α : Type} (i k : Nat) : ∀ (l : List α) (j : Nat), (wo i k j l).length ≤ l.length
  | [], _ => by simp [wo]
  | x :: l, j => by
    have := wo_len i k l (j + 1)
    rw [wo]
    split
    · simp; omega
    · simp; omega
theorem wo_map {α β : Type} (f : α → β) (i k : Nat) : ∀ (l : List α) (j : Nat), wo i k j (l.map f) = (wo i k j l).map f
  | [], _ => rfl
  | x :: l, j => by
    rw [List.map_cons, wo, wo, wo_map f i k l (j + 1)]
    split
    · rfl
    · rfl
theorem wo_comm {α : Type} (i k : Nat) : ∀ (l : List α) (j : Nat), wo i k j l = wo k i j l
  | [], _ => rfl
  | x :: l, j => by
    rw [wo, wo, wo_comm i k l (j + 1)]
    by_cases h1 : j = i <;> by_cases h2 : j = k <;> simp [h1, h2]
theorem wo_none {α : Type} (i k : Nat) : ∀ (l : List α) (j : Nat), i < j → k < j → wo i k j l = l
  | [], _, _, _ => rfl
  | x :: l, j, h1, h2 => by rw [wo, if_pos ⟨by omega, by omega⟩, wo_none i k l (j + 1) (by omega) (by omega)]
theorem wo_one {α : Type} (i k : Nat) : ∀ (l : List α) (j : Nat) (y : α), i < j → j ≤ k → l[k - j]? = some y → l.Perm (y :: wo i k j l)
  | [], j, y, _, _, h => by simp at h
  | x :: l, j, y, h1, h2, h => by
    rw [wo]
    by_cases e : j = k
    · subst e
      rw [Nat.sub_self, List.getElem?_cons_zero, Option.some.injEq] at h
      subst h
      rw [if_neg (by omega), wo_none i j l (j + 1) (by omega) (by omega)]
    · rw [if_pos ⟨by omega, e⟩]
      have e2 : k - j = (k - (j + 1)) + 1 := by omega
      rw [e2, List.getElem?_cons_succ] at h
      exact ((wo_one i k l (j + 1) y (by omega) (by omega) h).cons x).trans (List.Perm.swap _ _ _)
theorem wo_perm {α : Type} (i k : Nat) (hik : i ≠ k) : ∀ (l : List α) (j : Nat) (x y : α), j ≤ i → j ≤ k → l[i - j]? = some x → l[k - j]? = some y → l.Perm (x :: y :: wo i k j l)
  | [], j, x, y, _, _, h, _ => by simp at h
  | z :: l, j, x, y, h1, h2, hx, hy => by
    rw [wo]
    by_cases e1 : j = i
    · subst e1
      rw [Nat.sub_self, List.getElem?_cons_zero, Option.some.injEq] at hx
      subst hx
      have e2 : k - j = (k - (j + 1)) + 1 := by omega
      rw [e2, List.getElem?_cons_succ] at hy
      rw [if_neg (by omega)]
      exact (wo_one j k l (j + 1) y (by omega) (by omega) hy).cons z
    · by_cases e2 : j = k
      · subst e2
        rw [Nat.sub_self, List.getElem?_cons_zero, Option.some.injEq] at hy
        subst hy
        have e3 : i - j = (i - (j + 1)) + 1 := by omega
        rw [e3, List.getElem?_cons_succ] at hx
        rw [if_neg (by omega), wo_comm]
        exact ((wo_one j i l (j + 1) x (by omega) (by omega) hx).cons z).trans (List.Perm.swap _ _ _)
      · rw [if_pos ⟨e1, e2⟩]
        have e3 : i - j = (i - (j + 1)) + 1 := by omega
        have e4 : k - j = (k - (j + 1)) + 1 := by omega
        rw [e3, List.getElem?_cons_succ] at hx
        rw [e4, List.getElem?_cons_succ] at hy
        have := (wo_perm i k hik l (j + 1) x y (by omega) (by omega) hx hy).cons z
        refine this.trans ?_
        refine (List.Perm.swap _ _ _).trans ?_
        exact (List.Perm.swap _ _ _).cons x

theorem without_loop (l : List Ref15Edge) (i k : Nat) (hs : l.length ≤ 1000000) : ∀ (m j : Nat) (acc : List Ref15Edge), j ≤ l.length → l.length - j < m → acc.length ≤ j →
    ref15_without_o0_L1 l (i : Int) (k : Int) m acc (j : Int) = some (acc ++ wo i k j (l.drop j))
  | 0, j, acc, h, hm, _ => absurd hm (Nat.not_lt_zero _)
  | m + 1, j, acc, h, hm, ha => by
    rw [ref15_without_o0_L1]
    by_cases hj : j < l.length
    · obtain ⟨x, hx⟩ := get_ex hj
      rw [if_pos (by simpa using hj), wrapN (by omega), drop_cons hx, wo]
      by_cases h1 : j = i
      · subst h1
        rw [if_neg (by simp), if_neg (by simp), without_loop l j k hs m (j + 1) acc (by omega) (by omega) (by omega)]
      · rw [if_pos (by simp; omega)]
        by_cases h2 : j = k
        · subst h2
          rw [if_neg (by simp), if_neg (by simp), without_loop l i j hs m (j + 1) acc (by omega) (by omega) (by omega)]
        · rw [if_pos (by simp; omega), atI_nat, hx, Option.bind_some, if_pos (by simp; omega), Option.bind_some, if_pos ⟨h1, h2⟩, without_loop l i k hs m (j + 1) _ (by omega) (by omega) (by simp; omega), List.append_assoc]
          rfl
    · rw [if_neg (by simpa using hj), List.drop_eq_nil_of_le (by omega), wo, List.append_nil]
theorem without_eq (n : Nat) (l : List ReduceEdge) (i k : Nat) (hs : l.length ≤ 1000000) (hn : l.length < n) : ref15_without_o0 n (l.map ofE) (i : Int) (k : Int) = some ((wo i k 0 l).map ofE) := by
  rw [ref15_without_o0, show (0 : Int) = ((0 : Nat) : Int) from rfl, without_loop _ i k (by simpa using hs) n 0 [] (by omega) (by simpa using hn) (by simp), List.drop_zero, List.nil_append, wo_map]

/-! ### how many edges come and leave -/
theorem many_loop (l : List ReduceEdge) (x : Str) (hs : l.length ≤ 1000000) : ∀ (m j a b : Nat), j ≤ l.length → l.length - j < m → a ≤ j → b ≤ j →
    ref15_many_L1 (l.map ofE) x m (a : Int) (b : Int) (j : Int) = some (((a + (l.drop j).countP fun e => decide (e.pair.to_ = x) : Nat) : Int), ((b + (l.drop j).countP fun e => decide (e.pair.from_ = x) : Nat) : Int))
  | 0, j, a, b, h, hm, _, _ => absurd hm (Nat.not_lt_zero _)
  | m + 1, j, a, b, h, hm, ha, hb => by
    rw [ref15_many_L1, List.length_map]
    by_cases hj : j < l.length
    · obtain ⟨e, he⟩ := get_ex hj
      rw [if_pos (by simpa using hj), atI_map ofE _ _ he, Option.bind_some, drop_cons he, List.countP_cons, List.countP_cons]
      have key : ∀ a' : Nat, a' ≤ j + 1 → ref15_many_J2 (l.map ofE) x (b : Int) (j : Int) (ref15_many_L1 (l.map ofE) x m) (a' : Int) =
          some (((a' + (l.drop (j + 1)).countP fun e => decide (e.pair.to_ = x) : Nat) : Int), ((b + ((l.drop (j + 1)).countP (fun e => decide (e.pair.from_ = x)) + if decide (e.pair.from_ = x) = true then 1 else 0) : Nat) : Int)) := fun a' ha' => by
        rw [ref15_many_J2, atI_map ofE _ _ he, Option.bind_some, wrapN (by omega), wrapN (by omega)]
        show (if decide (e.pair.from_ = x) = true then _ else _) = _
        by_cases hf : e.pair.from_ = x
        · rw [if_pos (by simpa using hf), if_pos (by simpa using hf), many_loop l x hs m (j + 1) a' (b + 1) (by omega) (by omega) (by omega) (by omega)]
          congr 3; omega
        · rw [if_neg (by simpa using hf), if_neg (by simpa using hf), many_loop l x hs m (j + 1) a' b (by omega) (by omega) (by omega) (by omega)]
          simp
      show (if decide (e.pair.to_ = x) = true then _ else _) = _
      by_cases ht : e.pair.to_ = x
      · rw [if_pos (by simpa using ht), if_pos (by simpa using ht), wrapN (by omega), key (a + 1) (by omega)]
        congr 3; omega
      · rw [if_neg (by simpa using ht), if_neg (by simpa using ht), key a (by omega)]
        simp
    · rw [if_neg (by simpa using hj), List.drop_eq_nil_of_le (by omega)]
      simp
theorem many_eq (n : Nat) (l : List ReduceEdge) (x : Str) (hs : l.length ≤ 1000000) (hn : l.length < n) : ref15_many n (l.map ofE) x = some (((l.countP fun e => decide (e.pair.to_ = x) : Nat) : Int), ((l.countP fun e => decide (e.pair.from_ = x) : Nat) : Int)) := by
  rw [ref15_many, show (0 : Int) = ((0 : Nat) : Int) from rfl, many_loop l x hs n 0 0 0 (by omega) (by omega) (by omega) (by omega), List.drop_zero]
  simp

/-! ### the invariant -/
structure SInv (len : Nat) (rank : Str → Nat) (l : List ReduceEdge) : Prop where
  p : PInv (len : Int) rank l
  so : ∀ e ∈ l, sortedS e.t_ = e.t_
  sz : (l.map fun e => szT e.t_ + 1).sum ≤ 2 * len

theorem SInv.red {len : Nat} {rank : Str → Nat} {l l' : List ReduceEdge} (h : SInv len rank l) (k : RedP l l') : SInv len rank l' := by
  refine ⟨h.p.red k, fun e he => ?_, ?_⟩
  · obtain ⟨K, x, y, r, h1, h2, h3⟩ := k
    rcases List.mem_cons.1 (h3.subset he) with rfl | he
    · obtain ⟨g1, g2, g3⟩ := (h.p.perm h1).two
      show sortedS (J K x.t_ y.t_) = J K x.t_ y.t_
      exact sorted_idem (joinT_good h2.K g1 g2 g3)
    · exact h.so e (h1.symm.subset (by simp [he]))
  · obtain ⟨K, x, y, r, p, c, e⟩ := k
    have hz := h.sz
    rw [sum_perm (e.map fun e : ReduceEdge => szT e.t_ + 1)]
    rw [sum_perm (p.map fun e : ReduceEdge => szT e.t_ + 1)] at hz
    simp only [List.map_cons, List.sum_cons] at hz ⊢
    have : szT (joinE K x y).t_ ≤ szT x.t_ + szT y.t_ + 1 := by
      show szT (sortedS (joinT K x.t_ y.t_)) ≤ _
      rw [sortedS_sz]
      exact joinT_sz c.K _ _
    omega
theorem SInv.szT {len : Nat} {rank : Str → Nat} {l : List ReduceEdge} (h : SInv len rank l) {e : ReduceEdge} (he : e ∈ l) : szT e.t_ + 1 ≤ 2 * len :=
  Nat.le_trans (mem_sum (List.mem_map.2 ⟨e, he, rfl⟩)) h.sz
theorem SInv.len {len : Nat} {rank : Str → Nat} {l : List ReduceEdge} (h : SInv len rank l) : l.length ≤ 2 * len := Nat.le_trans (sum_len l) h.sz

/-! ### joins -/
theorem kids_sz (t : TreeTree) : t.Kids.length ≤ szT t := by
  obtain ⟨K, N, ks⟩ := t
  have := szL_len ks
  rw [TreeTree_Kids_mk, Go.G.szT]; omega
theorem joinK_id {len : Int} {K : Int} (hK : K = 1 ∨ K = 2) {a : TreeTree} (ha : Good len a) (hs : sortedS a = a) : (joinK K a).map sortedS = joinK K a := by
  have : ∀ t ∈ joinK K a, sortedS t = t := fun t ht => by
    have p := joinK_sorted hK ha
    rw [hs] at p
    obtain ⟨u, hu, rfl⟩ := List.mem_map.1 (p.subset ht)
    exact sorted_idem ((joinK_goods hK ha).mem hu)
  calc (joinK K a).map sortedS = (joinK K a).map id := List.map_congr_left this
    _ = joinK K a := List.map_id _

theorem rjoin_eq (n : Nat) (hn : 1000000 ≤ n) {len : Int} {K : Int} (hK : K = 1 ∨ K = 2) {a b : TreeTree} (ha : Good len a) (hb : Good len b) (hd : (lv a ++ lv b).Nodup) (sa : sortedS a = a) (sb : sortedS b = b) (za : szT a ≤ 1000) (zb : szT b ≤ 1000) :
    ref15_join n K (ofT a) (ofT b) = some (ofT (J K a b)) := by
  have ka := kids_sz a; have kb := kids_sz b
  rcases hK with rfl | rfl
  · rw [rjoin1_eq n hn a b (by omega) (by omega), J1_eq, List.map_append, joinK_id (.inl rfl) ha sa, joinK_id (.inl rfl) hb sb]
  · have hg := joinK_goods2 (.inr rfl) ha hb hd
    have z1 := joinK_sz (K := 2) (.inr rfl) a; have z2 := joinK_sz (K := 2) (.inr rfl) b
    have l1 := szL_len (joinK 2 a); have l2 := szL_len (joinK 2 b)
    rw [rjoin2_eq n hn a b ⟨by rw [List.length_append]; omega, fun t ht => ?_⟩ (by omega) (by omega) hg.least, J2_eq', List.map_append, joinK_id (.inr rfl) ha sa, joinK_id (.inr rfl) hb sb]
    have hz : szT t ≤ 1000 := by
      rcases List.mem_append.1 ht with h | h
      · have := szL_mem h; omega
      · have := szL_mem h; omega
    exact ⟨(Ok_lv (hg.ok t ht)).1, by omega, by omega⟩

/-! ### one step -/
section
variable (n : Nat) (hn : 1000000 ≤ n) {len : Nat} (hl : len ≤ 400) {rank : Str → Nat} {l : List ReduceEdge} (h : SInv len rank l)

/-- The pair (i, k) may be joined. -/
def Hit (l : List ReduceEdge) (i k : Nat) : Prop := ∃ x y, l[i]? = some x ∧ l[k]? = some y ∧ i ≠ k ∧ ((i < k ∧ y.pair = x.pair) ∨ CondP 1 x y (wo i k 0 l))

theorem red_at {i k : Nat} {x y : ReduceEdge} {K : Int} (hx : l[i]? = some x) (hy : l[k]? = some y) (hik : i ≠ k) (hc : CondP K x y (wo i k 0 l)) : RedP l (wo i k 0 l ++ [joinE K x y]) :=
  ⟨K, x, y, wo i k 0 l, wo_perm i k hik l 0 x y (Nat.zero_le _) (Nat.zero_le _) hx hy, hc, List.perm_append_comm⟩

include hn hl h in
theorem pair_join {i k : Nat} {x y : ReduceEdge} {K : Int} (hx : l[i]? = some x) (hy : l[k]? = some y) (hik : i ≠ k) (hK : K = 1 ∨ K = 2) : ref15_join n K (ofT x.t_) (ofT y.t_) = some (ofT (J K x.t_ y.t_)) := by
  have mx := List.mem_of_getElem? hx; have my := List.mem_of_getElem? hy
  obtain ⟨g1, g2, g3⟩ := (h.p.perm (wo_perm i k hik l 0 x y (Nat.zero_le _) (Nat.zero_le _) hx hy)).two
  have z1 := h.szT mx; have z2 := h.szT my
  exact rjoin_eq n hn hK g1 g2 g3 (h.so x mx) (h.so y my) (by omega) (by omega)

theorem pair_eta (e f : ReduceEdge) : (e.pair = f.pair) ↔ (f.pair.from_ = e.pair.from_ ∧ f.pair.to_ = e.pair.to_) := by
  obtain ⟨⟨a, b⟩, t⟩ := e; obtain ⟨⟨c, d⟩, u⟩ := f
  simp only [ReducePair.mk.injEq]
  exact ⟨fun ⟨q1, q2⟩ => ⟨q1.symm, q2.symm⟩, fun ⟨q1, q2⟩ => ⟨q1.symm, q2.symm⟩⟩

theorem countP_perm1 {l : List ReduceEdge} {x y : ReduceEdge} {r : List ReduceEdge} (p : l.Perm (x :: y :: r)) (q : ReduceEdge → Bool) : l.countP q = (x :: y :: r).countP q := p.countP_eq q

/-- When a series pair may be joined, by counts. -/
theorem ser_iff {x y : ReduceEdge} {r : List ReduceEdge} (p : l.Perm (x :: y :: r)) (hxy : y.pair.from_ = x.pair.to_) :
    ((l.countP fun e => decide (e.pair.to_ = x.pair.to_)) = 1 ∧ (l.countP fun e => decide (e.pair.from_ = x.pair.to_)) = 1) ↔ ((∀ e ∈ y :: r, e.pair.to_ ≠ x.pair.to_) ∧ ∀ e ∈ x :: r, e.pair.from_ ≠ x.pair.to_) := by
  have e1 : (l.countP fun e => decide (e.pair.to_ = x.pair.to_)) = ((y :: r).countP fun e => decide (e.pair.to_ = x.pair.to_)) + 1 := by
    rw [countP_perm1 p, List.countP_cons, if_pos (by simp)]
  have e2 : (l.countP fun e => decide (e.pair.from_ = x.pair.to_)) = ((x :: r).countP fun e => decide (e.pair.from_ = x.pair.to_)) + 1 := by
    rw [countP_perm1 (p.trans (List.Perm.swap _ _ _)), List.countP_cons, if_pos (by simpa using hxy)]
  rw [e1, e2]
  have z : ∀ (l : List ReduceEdge) (q : ReduceEdge → Bool), l.countP q + 1 = 1 ↔ ∀ e ∈ l, ¬ q e = true := fun l q => by
    rw [Nat.add_eq_right, List.countP_eq_zero]
  rw [z, z]
  simp only [decide_eq_true_eq]

include hn hl h in
theorem J3_eq (i k : Nat) (x y : ReduceEdge) (hx : l[i]? = some x) (hy : l[k]? = some y) (hnp : ¬ (i < k ∧ y.pair = x.pair)) (R : Int → Option (List Ref15Edge × Bool)) :
    (∃ l', ref15_step_J3 n (l.map ofE) (i : Int) (k : Int) R = some (l'.map ofE, true) ∧ RedP l l') ∨ (ref15_step_J3 n (l.map ofE) (i : Int) (k : Int) R = R ((k + 1 : Nat) : Int) ∧ ¬ Hit l i k) := by
  have hlen := h.len
  have hkl := get_lt hy
  rw [ref15_step_J3, wrapN (by omega)]
  have no : (∀ q : i ≠ k, ¬ CondP 1 x y (wo i k 0 l)) → ¬ Hit l i k := fun hq ⟨x', y', q1, q2, q3, q4⟩ => by
    rw [hx] at q1; rw [hy] at q2; cases q1; cases q2
    rcases q4 with q4 | q4
    · exact hnp q4
    · exact hq q3 q4
  by_cases hik : i = k
  · subst hik
    rw [if_pos (by simp)]
    exact .inr ⟨rfl, no fun q => absurd rfl q⟩
  rw [if_neg (by simp; omega), atI_map ofE _ _ hx, Option.bind_some, atI_map ofE _ _ hy, Option.bind_some]
  have p := wo_perm i k hik l 0 x y (Nat.zero_le _) (Nat.zero_le _) hx hy
  show (∃ l', (if (!(decide (x.pair.to_ = y.pair.from_))) = true then _ else _) = _ ∧ _) ∨ ((if (!(decide (x.pair.to_ = y.pair.from_))) = true then _ else _) = _ ∧ _)
  by_cases hxy : x.pair.to_ = y.pair.from_
  · rw [if_neg (by simp [hxy])]
    show (∃ l', (if decide (x.pair.to_ = (⟨#[76]⟩ : Str)) = true then _ else _) = _ ∧ _) ∨ ((if decide (x.pair.to_ = (⟨#[76]⟩ : Str)) = true then _ else _) = _ ∧ _)
    by_cases hL : x.pair.to_ = strLL
    · rw [if_pos (by simp only [decide_eq_true_eq]; exact hL)]
      exact .inr ⟨rfl, no fun _ hc => by
        rcases hc with ⟨hc, _⟩ | ⟨_, _, hc, _⟩
        · omega
        · exact hc hL⟩
    · rw [if_neg (by simp only [decide_eq_true_eq]; exact hL)]
      show (∃ l', (if decide (x.pair.to_ = (⟨#[82]⟩ : Str)) = true then _ else _) = _ ∧ _) ∨ ((if decide (x.pair.to_ = (⟨#[82]⟩ : Str)) = true then _ else _) = _ ∧ _)
      by_cases hR : x.pair.to_ = strRR
      · rw [if_pos (by simp only [decide_eq_true_eq]; exact hR)]
        exact .inr ⟨rfl, no fun _ hc => by
          rcases hc with ⟨hc, _⟩ | ⟨_, _, _, hc, _⟩
          · omega
          · exact hc hR⟩
      · rw [if_neg (by simp only [decide_eq_true_eq]; exact hR), show (ofE x).To = x.pair.to_ from rfl, many_eq n l _ (by omega) (by omega), Option.bind_some]
        dsimp only
        have hiff := ser_iff p hxy.symm
        by_cases hm : (l.countP fun e => decide (e.pair.to_ = x.pair.to_)) = 1 ∧ (l.countP fun e => decide (e.pair.from_ = x.pair.to_)) = 1
        · have hc : CondP 1 x y (wo i k 0 l) := .inr ⟨rfl, hxy.symm, hL, hR, (hiff.1 hm).1, (hiff.1 hm).2⟩
          have hw := wo_len i k l 0
          rw [if_pos (by simp [hm.1]), if_pos (by simp [hm.2]), without_eq n l i k (by omega) (by omega), Option.bind_some, show (ofE x).T = ofT x.t_ from rfl, show (ofE y).T = ofT y.t_ from rfl, pair_join n hn hl h hx hy hik (.inl rfl), Option.bind_some, if_pos (by simp; omega), Option.bind_some]
          exact .inl ⟨wo i k 0 l ++ [joinE 1 x y], by rw [List.map_append]; rfl, red_at hx hy hik hc⟩
        · have hno : ¬ Hit l i k := no fun _ hc => by
            rcases hc with ⟨hc, _⟩ | ⟨_, _, _, _, c1, c2⟩
            · omega
            · exact hm (hiff.2 ⟨c1, c2⟩)
          by_cases h1 : (l.countP fun e => decide (e.pair.to_ = x.pair.to_)) = 1
          · have h2 : ¬ (l.countP fun e => decide (e.pair.from_ = x.pair.to_)) = 1 := fun q => hm ⟨h1, q⟩
            rw [if_pos (by simp [h1]), if_neg (by simp only [beq_iff_eq]; omega)]
            exact .inr ⟨rfl, hno⟩
          · rw [if_neg (by simp only [beq_iff_eq]; omega)]
            exact .inr ⟨rfl, hno⟩
  · rw [if_pos (by simp [hxy])]
    exact .inr ⟨rfl, no fun _ hc => by
      rcases hc with ⟨hc, _⟩ | ⟨_, hc, _⟩
      · omega
      · exact hxy hc.symm⟩

include hn hl h in
theorem L2_eq (i : Nat) (x : ReduceEdge) (hx : l[i]? = some x) (R : Int → Option (List Ref15Edge × Bool)) : ∀ (m k : Nat), k ≤ l.length → l.length - k < m →
    (∃ l', ref15_step_L2 n (l.map ofE) (i : Int) R m (k : Int) = some (l'.map ofE, true) ∧ RedP l l') ∨ (ref15_step_L2 n (l.map ofE) (i : Int) R m (k : Int) = R ((i + 1 : Nat) : Int) ∧ ∀ k', k ≤ k' → ¬ Hit l i k')
  | 0, k, hk, hm => absurd hm (Nat.not_lt_zero _)
  | m + 1, k, hk, hm => by
    have hlen := h.len
    have hil := get_lt hx
    rw [ref15_step_L2, List.length_map]
    by_cases hkl : k < l.length
    · obtain ⟨y, hy⟩ := get_ex hkl
      rw [if_pos (by simpa using hkl)]
      have next : ¬ (i < k ∧ y.pair = x.pair) → (∃ l', ref15_step_J3 n (l.map ofE) (i : Int) (k : Int) (ref15_step_L2 n (l.map ofE) (i : Int) R m) = some (l'.map ofE, true) ∧ RedP l l') ∨ (ref15_step_J3 n (l.map ofE) (i : Int) (k : Int) (ref15_step_L2 n (l.map ofE) (i : Int) R m) = R ((i + 1 : Nat) : Int) ∧ ∀ k', k ≤ k' → ¬ Hit l i k') := fun hnp => by
        rcases J3_eq n hn hl h i k x y hx hy hnp (ref15_step_L2 n (l.map ofE) (i : Int) R m) with q | ⟨q, hno⟩
        · exact .inl q
        · rw [q]
          rcases L2_eq i x hx R m (k + 1) (by omega) (by omega) with q | ⟨q, hq⟩
          · exact .inl q
          · refine .inr ⟨q, fun k' hk' => ?_⟩
            rcases Nat.eq_or_lt_of_le hk' with e | e
            · subst e; exact hno
            · exact hq k' e
      by_cases hik : i < k
      · rw [if_pos (by simp; omega), atI_map ofE _ _ hx, Option.bind_some, atI_map ofE _ _ hy, Option.bind_some]
        show (∃ l', (if decide (x.pair.from_ = y.pair.from_) = true then _ else _) = _ ∧ _) ∨ ((if decide (x.pair.from_ = y.pair.from_) = true then _ else _) = _ ∧ _)
        by_cases hf : x.pair.from_ = y.pair.from_
        · rw [if_pos (by simpa using hf)]
          show (∃ l', (if decide (x.pair.to_ = y.pair.to_) = true then _ else _) = _ ∧ _) ∨ ((if decide (x.pair.to_ = y.pair.to_) = true then _ else _) = _ ∧ _)
          by_cases ht : x.pair.to_ = y.pair.to_
          · have hp : y.pair = x.pair := (pair_eta y x).2 ⟨hf, ht⟩
            have hw := wo_len i k l 0
            rw [if_pos (by simpa using ht), without_eq n l i k (by omega) (by omega), Option.bind_some, show (ofE x).T = ofT x.t_ from rfl, show (ofE y).T = ofT y.t_ from rfl, pair_join n hn hl h hx hy (by omega) (.inr rfl), Option.bind_some, if_pos (by simp; omega), Option.bind_some]
            refine .inl ⟨wo i k 0 l ++ [joinE 2 x y], ?_, red_at hx hy (by omega) (.inl ⟨rfl, hp⟩)⟩
            rw [List.map_append]
            have e : ofE (joinE 2 x y) = ⟨x.pair.from_, x.pair.to_, ofT (J 2 x.t_ y.t_)⟩ := by
              show (⟨x.pair.from_, y.pair.to_, _⟩ : Ref15Edge) = _
              rw [← ht]; rfl
            rw [List.map_cons, e]; rfl
          · rw [if_neg (by simpa using ht)]
            exact next fun q => ht (((pair_eta y x).1 q.2).2)
        · rw [if_neg (by simpa using hf)]
          exact next fun q => hf (((pair_eta y x).1 q.2).1)
      · rw [if_neg (by simp; omega)]
        exact next fun q => hik q.1
    · rw [if_neg (by simpa using hkl), wrapN (by omega)]
      refine .inr ⟨rfl, fun k' hk' ⟨_, y, _, q, _⟩ => ?_⟩
      have := get_lt q
      omega

include hn hl h in
theorem L1_eq : ∀ (m i : Nat), i ≤ l.length → l.length - i < m →
    (∃ l', ref15_step_L1 n (l.map ofE) m (i : Int) = some (l'.map ofE, true) ∧ RedP l l') ∨ (ref15_step_L1 n (l.map ofE) m (i : Int) = some (l.map ofE, false) ∧ ∀ i', i ≤ i' → ∀ k', ¬ Hit l i' k')
  | 0, i, hi, hm => absurd hm (Nat.not_lt_zero _)
  | m + 1, i, hi, hm => by
    have hlen := h.len
    rw [ref15_step_L1, List.length_map]
    by_cases hil : i < l.length
    · obtain ⟨x, hx⟩ := get_ex hil
      rw [if_pos (by simpa using hil), show (0 : Int) = ((0 : Nat) : Int) from rfl]
      rcases L2_eq n hn hl h i x hx (ref15_step_L1 n (l.map ofE) m) n 0 (by omega) (by omega) with q | ⟨q, hq⟩
      · exact .inl q
      · rw [q]
        rcases L1_eq m (i + 1) (by omega) (by omega) with q2 | ⟨q2, hq2⟩
        · exact .inl q2
        · refine .inr ⟨q2, fun i' hi' k' => ?_⟩
          rcases Nat.eq_or_lt_of_le hi' with e | e
          · subst e; exact hq k' (Nat.zero_le _)
          · exact hq2 i' e k'
    · rw [if_neg (by simpa using hil)]
      refine .inr ⟨rfl, fun i' hi' k' ⟨x, _, q, _⟩ => ?_⟩
      have := get_lt q
      omega

include h in
theorem normal_of_no (hno : ∀ i k, ¬ Hit l i k) : NormalP l := by
  intro m' ⟨K, x, y, r, p, hc, _⟩
  have hnd := h.p.nodup
  have mx : x ∈ l := p.symm.subset (by simp)
  have my : y ∈ l := p.symm.subset (by simp)
  have hxy : x ≠ y := by
    have := p.nodup_iff.1 hnd
    intro e; subst e
    simp at this
  obtain ⟨i, hi⟩ := List.getElem?_of_mem mx
  obtain ⟨k, hk⟩ := List.getElem?_of_mem my
  have hik : i ≠ k := fun e => by subst e; rw [hi] at hk; cases hk; exact hxy rfl
  rcases hc with ⟨rfl, hp⟩ | hc
  · rcases Nat.lt_or_gt_of_ne hik with e | e
    · exact hno i k ⟨x, y, hi, hk, hik, .inl ⟨e, hp⟩⟩
    · exact hno k i ⟨y, x, hk, hi, hik.symm, .inl ⟨e, hp.symm⟩⟩
  · have p2 := wo_perm i k hik l 0 x y (Nat.zero_le _) (Nat.zero_le _) hi hk
    have p3 : r.Perm (wo i k 0 l) := (p.symm.trans p2).cons_inv.cons_inv
    have hK : K = 1 := hc.1
    subst hK
    exact hno i k ⟨x, y, hi, hk, hik, .inr (CondP.perm (.inr hc) p3)⟩

include hn hl h in
theorem step_eq : (∃ l', ref15_step n (l.map ofE) = some (l'.map ofE, true) ∧ RedP l l') ∨ (ref15_step n (l.map ofE) = some (l.map ofE, false) ∧ NormalP l) := by
  have hlen := h.len
  rw [ref15_step, show (0 : Int) = ((0 : Nat) : Int) from rfl]
  rcases L1_eq n hn hl h n 0 (by omega) (by omega) with q | ⟨q, hq⟩
  · exact .inl q
  · exact .inr ⟨q, normal_of_no h fun i k => hq i (Nat.zero_le _) k⟩
end

theorem L3_eq (n : Nat) (hn : 1000000 ≤ n) {len : Nat} (hl : len ≤ 400) {rank : Str → Nat} : ∀ (m : Nat) (l : List ReduceEdge), SInv len rank l → l.length < m →
    ∃ m', StepsP l m' ∧ NormalP m' ∧ ref15_Reduce_L3 n m (l.map ofE) = ref15_Reduce_J2 (m'.map ofE)
  | 0, l, _, h => absurd h (Nat.not_lt_zero _)
  | m + 1, l, hs, h => by
    rw [ref15_Reduce_L3]
    rcases step_eq n hn hl hs with ⟨l', q, hr⟩ | ⟨q, hN⟩
    · rw [q, Option.bind_some]
      have hlen := hr.length
      obtain ⟨m', a1, a2, a3⟩ := L3_eq n hn hl m l' (hs.red hr) (by omega)
      exact ⟨m', .head hr a1, a2, a3⟩
    · rw [q, Option.bind_some]
      exact ⟨l, .refl (List.Perm.refl _), hN, rfl⟩

theorem rJ2_eq (m : List ReduceEdge) : ref15_Reduce_J2 (m.map ofE) = some (ofT (redC m).1, (redC m).2) := by
  have h0 : ofT (.mk 0 0 []) = .mk 0 0 [] := by rw [ofT_mk]; rfl
  match m with
  | [] =>
    show _ = some (ofT (.mk 0 0 []), 14)
    rw [h0]; rfl
  | [x] =>
    have hat : atI ([x].map ofE) 0 = some (ofE x) := atI_map ofE [x] 0 rfl
    rw [ref15_Reduce_J2, if_neg (by simp), hat, Option.bind_some]
    show (if (!(decide (x.pair.from_ = (⟨#[76]⟩ : Str)))) = true then _ else _) = some (ofT (if x.pair.from_ = strLL ∧ x.pair.to_ = strRR then (x.t_, 0) else (.mk 0 0 [], 14)).1, (if x.pair.from_ = strLL ∧ x.pair.to_ = strRR then (x.t_, 0) else (.mk 0 0 [], (14 : Int))).2)
    by_cases h1 : x.pair.from_ = strLL
    · rw [if_neg (by simp only [Bool.not_eq_true', decide_eq_false_iff_not]; exact fun q => q h1)]
      show (if (!(decide (x.pair.to_ = (⟨#[82]⟩ : Str)))) = true then _ else _) = _
      by_cases h2 : x.pair.to_ = strRR
      · rw [if_neg (by simp only [Bool.not_eq_true', decide_eq_false_iff_not]; exact fun q => q h2), if_pos ⟨h1, h2⟩]; rfl
      · rw [if_pos (by simp only [Bool.not_eq_true', decide_eq_false_iff_not]; exact h2), if_neg (fun q => h2 q.2)]; exact congrArg (fun z => some (z, (14 : Int))) h0.symm
    · rw [if_pos (by simp only [Bool.not_eq_true', decide_eq_false_iff_not]; exact h1), if_neg (fun q => h1 q.1)]; exact congrArg (fun z => some (z, (14 : Int))) h0.symm
  | x :: y :: r =>
    show _ = some (ofT (.mk 0 0 []), 14)
    rw [ref15_Reduce_J2, if_pos (by simp; omega), h0]

theorem rL4_eq (n : Nat) (r : ApiRung) (hs : r.Contacts.length ≤ 1000000) : ∀ (m i : Nat) (acc : List ReduceEdge), i ≤ r.Contacts.length → r.Contacts.length - i < m → acc.length = i →
    ref15_Reduce_L4 n r m (acc.map ofE) (i : Int) = ref15_Reduce_L3 n n ((acc ++ edgesS (r.Contacts.drop i) i).map ofE)
  | 0, i, acc, h, hm, _ => absurd hm (Nat.not_lt_zero _)
  | m + 1, i, acc, h, hm, ha => by
    rw [ref15_Reduce_L4]
    by_cases hi : i < r.Contacts.length
    · obtain ⟨x, hx⟩ := get_ex hi
      have e : acc.map ofE ++ [(⟨x.From, x.To, (⟨0, (i : Int), ([] : List Ref14Tree)⟩ : Ref14Tree)⟩ : Ref15Edge)] = (acc ++ [(⟨⟨x.From, x.To⟩, .mk 0 (i : Int) []⟩ : ReduceEdge)]).map ofE := by
        rw [List.map_append]
        rfl
      rw [if_pos (by simpa using hi), atI_nat, hx, Option.bind_some, if_pos (by simp; omega), Option.bind_some, wrapN (by omega), e, rL4_eq n r hs m (i + 1) _ (by omega) (by omega) (by simp; omega), drop_cons hx, edgesS, List.append_assoc]
      rfl
    · rw [if_neg (by simpa using hi), List.drop_eq_nil_of_le (by omega), edgesS, List.append_nil, ref15_Reduce_J1]

/-- Both reductions answer alike. -/
theorem Reduce_both (n : Nat) (hn : 2000000 ≤ n) (r : ApiRung) (hs : r.Contacts.length ≤ 400) :
    (flowS r.Contacts ≠ 0 ∧ reduce_Reduce n r = some (.mk 0 0 [], flowS r.Contacts) ∧ ref15_Reduce n r = some (ofT (.mk 0 0 []), flowS r.Contacts)) ∨
    (flowS r.Contacts = 0 ∧ ∃ m rank, reduce_Reduce n r = some (redC m) ∧ ref15_Reduce n r = some (ofT (redC m).1, (redC m).2) ∧ SInv r.Contacts.length rank m) := by
  have hf := flow_exact n r (by omega) (by omega)
  have hk := check13 n r (by omega) hn
  by_cases h0 : flowS r.Contacts = 0
  · right
    refine ⟨h0, ?_⟩
    rw [h0] at hf hk
    obtain ⟨rank, hrk⟩ := flow_rank h0
    have hR0 := RInv.start r.Contacts rank hrk
    have hcan : canon (edgesS r.Contacts 0) = edgesS r.Contacts 0 := by
      refine List.ext_getElem? fun i => ?_
      rw [canon, List.getElem?_map, edgesS_get]
      cases r.Contacts[i]? with
      | none => rfl
      | some c =>
        simp only [Option.map_some, canE]
        rw [sortedS, if_neg (by decide), sortedSs]
    have hS0 : SInv r.Contacts.length rank (edgesS r.Contacts 0) := ⟨good_of hR0, fun e he => by
      rw [← hcan, canon] at he
      obtain ⟨e', he', rfl⟩ := List.mem_map.1 he
      show sortedS (sortedS e'.t_) = sortedS e'.t_
      have hg : Good (r.Contacts.length : Int) e'.t_ := by
        obtain ⟨q, hq⟩ := perm_mem he'
        have := (good_of hR0).perm hq
        refine ⟨this.ok e' (by simp), ?_⟩
        have h1 := this.nd
        rw [List.flatMap_cons] at h1
        exact (List.nodup_append.1 h1).1
      exact sorted_idem hg, hR0.sz⟩
    obtain ⟨m, a1, a2, a3⟩ := L3_eq n (by omega) (by omega) n (edgesS r.Contacts 0) hS0 (by rw [edgesS_len]; omega)
    refine ⟨m, rank, Reduce_ends n r (by omega) (by omega) hf hrk (by rw [hcan]; exact a1) a2, ?_, ?_⟩
    · rw [ref15_Reduce, hk, Option.bind_some, if_neg (by simp), show (0 : Int) = ((0 : Nat) : Int) from rfl, show ([] : List Ref15Edge) = ([] : List ReduceEdge).map ofE from rfl, rL4_eq n r (by omega) n 0 [] (by omega) (by omega) rfl, List.drop_zero, List.nil_append, a3, rJ2_eq]
    · have : ∀ {l m : List ReduceEdge}, StepsP l m → SInv r.Contacts.length rank l → SInv r.Contacts.length rank m := by
        intro l m hst
        induction hst with
        | refl p => intro hi; exact ⟨hi.p.perm p, fun e he => hi.so e (p.symm.subset he), by rw [sum_perm (p.symm.map fun e : ReduceEdge => szT e.t_ + 1)]; exact hi.sz⟩
        | head hr _ ih => intro hi; exact ih (hi.red hr)
      exact this a1 hS0
  · left
    refine ⟨h0, ?_, ?_⟩
    · rw [reduce_Reduce, hf, Option.bind_some, if_pos (by simpa using h0)]
    · rw [ref15_Reduce, hk, Option.bind_some, if_pos (by simpa using h0), ofT_mk]; rfl
end Go.G

namespace Go.G
open Go.Av
set_option maxRecDepth 100000 in
theorem alive15 : law15_alive 2000000 = some true := by decide +kernel

theorem tl12_loop (r : ApiRung) (hn : r.Contacts.length ≤ 1500000) : ∀ (k i : Nat) (p : Int), i ≤ r.Contacts.length → r.Contacts.length - i < k → ∃ b : Int, law12_TooLarge_L2 r k p i = some b ∧ (¬ b > 0 → r.Contacts.length ≤ 60)
  | 0, i, p, h, hk => absurd hk (Nat.not_lt_zero _)
  | k + 1, i, p, h, hk => by
    rw [law12_TooLarge_L2]
    by_cases hi : i < r.Contacts.length
    · obtain ⟨x, hx⟩ := get_ex hi
      rw [if_pos (by simpa using hi), atI_nat, hx, Option.bind_some, wrapN (by omega)]
      exact tl12_loop r hn k (i + 1) _ (by omega) (by omega)
    · rw [if_neg (by simpa using hi), law12_TooLarge_J1]
      split
      · exact ⟨1, rfl, fun h => absurd (by decide) h⟩
      · split
        · exact ⟨1, rfl, fun h => absurd (by decide) h⟩
        · rename_i h2
          rw [decide_eq_true_eq] at h2
          exact ⟨0, rfl, fun _ => by omega⟩
theorem tl12 (r : ApiRung) (n : Nat) (hn : r.Contacts.length ≤ 1500000) (hf : r.Contacts.length < n) : ∃ b : Int, law12_TooLarge n r = some b ∧ (¬ b > 0 → r.Contacts.length ≤ 60) :=
  tl12_loop r hn n 0 0 (by omega) (by omega)

theorem redC_sz {len : Nat} {rank : Str → Nat} {m : List ReduceEdge} (h : SInv len rank m) : szT (redC m).1 ≤ 2 * len + 1 := by
  have h0 : szT (.mk 0 0 []) = 1 := by rw [szT, szL]
  match m, h with
  | [], _ =>
    show szT (.mk 0 0 []) ≤ _
    omega
  | [x], h =>
    have := h.szT (e := x) (by simp)
    rw [redC]
    split
    · show szT x.t_ ≤ _
      omega
    · show szT (.mk 0 0 []) ≤ _
      omega
  | x :: y :: r, _ =>
    show szT (.mk 0 0 []) ≤ _
    omega

theorem matches_law0 (n : Nat) (hn : 2000000 ≤ n) (hal : law15_alive n = some true) (r : ApiRung) (hr : r.Contacts.length ≤ 1500000) : law15_ReduceMatchesReference n r = some true := by
  obtain ⟨b, h1, h2⟩ := tl12 r n hr (by omega)
  rw [law15_ReduceMatchesReference, h1, Option.bind_some]
  by_cases c1 : b > 0
  · rw [if_pos (by simpa using c1), hal]; rfl
  rw [if_neg (by simpa using c1)]
  by_cases c2 : (r.Contacts.length : Int) > 40
  · rw [if_pos (by simpa using c2), hal]; rfl
  rw [if_neg (by simpa using c2)]
  have fin : ∀ (t : TreeTree) (e : Int), szT t ≤ 1000 → reduce_Reduce n r = some (t, e) → ref15_Reduce n r = some (ofT t, e) → ((reduce_Reduce n r).bind fun x => (ref15_Reduce n r).bind fun y => (law15_alive n).bind fun z =>
      if z = true then (law14_Of n x.1).bind fun u => (ref14_Equal n u y.1).bind fun v => if v = true then (if (x.2 == y.2) = true then (reduce_IsSeriesParallel n r).bind fun w => some (w == (y.2 == 0)) else some false) else some false else some false) = some true := by
    intro t e hz q1 q2
    rw [q1, Option.bind_some, q2, Option.bind_some, hal, Option.bind_some, if_pos rfl, law14_Of_eq t n (by omega) (by omega), Option.bind_some, ref14_Equal_eq t t n (by omega) (by omega), Option.bind_some, if_pos (by simp), if_pos (by simp), reduce_IsSeriesParallel, q1]
    simp
  rcases Reduce_both n hn r (by omega) with ⟨h0, q1, q2⟩ | ⟨h0, m, rank, q1, q2, hS⟩
  · exact fin _ _ (by rw [szT, szL]; omega) q1 q2
  · have := redC_sz hS
    exact fin (redC m).1 (redC m).2 (by omega) q1 q2

theorem matches_law (r : ApiRung) (hr : r.Contacts.length ≤ 1500000) : law15_ReduceMatchesReference 2000000 r = some true :=
  matches_law0 2000000 (Nat.le_refl _) alive15 r hr
end Go.G

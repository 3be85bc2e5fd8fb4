/- What the check of a rung's graph answers, exactly. No law is proved here. -/
import Derived.Test.YtaebdeidbibfkaaGreatDoorULawM11
set_option linter.unusedSimpArgs false
set_option linter.unusedVariables false
set_option linter.unusedSectionVars false
namespace Go.G
open Go.Av

/-! ### nodes -/
/-- The nodes of a list of contacts. -/
def IsNode (cs : List ApiContact) (x : Str) : Prop := x = strLL ∨ x = strRR ∨ ∃ c ∈ cs, x = c.From ∨ x = c.To

theorem nodes2_sub (P : Str → Prop) (p : Int) (R : Int → List Str → List (Str × Bool) → Option (List Str)) (pr : List Str) (hpr : ∀ x ∈ pr, P x) (res : List Str)
    (hR : ∀ l m, (∀ x ∈ l, P x) → R (IntKind.i64.wrap (p + 1)) l m = some res → ∀ x ∈ res, P x) : ∀ (q k : Nat) (l : List Str) (m : List (Str × Bool)), (∀ x ∈ l, P x) → k ≤ pr.length → pr.length ≤ 1000 → graph_Nodes_o0_L2 p R pr q (k : Int) l m = some res → ∀ x ∈ res, P x
  | 0, k, l, m, _, _, _, h => by rw [graph_Nodes_o0_L2] at h; cases h
  | q + 1, k, l, m, hl, hk0, hp, h => by
    rw [graph_Nodes_o0_L2] at h
    by_cases hk : k < pr.length
    · obtain ⟨x, hx⟩ := get_ex hk
      rw [if_pos (by simpa using hk), atI_nat, hx, Option.bind_some, wrapN (by omega)] at h
      split at h
      · split at h
        · rw [Option.bind_some] at h
          refine nodes2_sub P p R pr hpr res hR q (k + 1) _ _ (fun y hy => ?_) (by omega) hp h
          rcases List.mem_append.1 hy with hy | hy
          · exact hl y hy
          · rw [List.mem_singleton] at hy; subst hy; exact hpr _ (List.mem_of_getElem? hx)
        · cases h
      · exact nodes2_sub P p R pr hpr res hR q (k + 1) _ _ hl (by omega) hp h
    · rw [if_neg (by simpa using hk)] at h
      exact hR l m hl h

theorem nodes1_sub (P : Str → Prop) (n : Nat) (r : ApiRung) (hs : r.Contacts.length ≤ 1000000) (hr : ∀ c ∈ r.Contacts, P c.From ∧ P c.To) (res : List Str) : ∀ (q i : Nat) (l : List Str) (m : List (Str × Bool)), (∀ x ∈ l, P x) → i ≤ r.Contacts.length → graph_Nodes_o0_L1 n r q (i : Int) l m = some res → ∀ x ∈ res, P x
  | 0, i, l, m, _, _, h => by rw [graph_Nodes_o0_L1] at h; cases h
  | q + 1, i, l, m, hl, hi0, h => by
    rw [graph_Nodes_o0_L1] at h
    by_cases hk : i < r.Contacts.length
    · obtain ⟨c, hc⟩ := get_ex hk
      have hm := hr c (List.mem_of_getElem? hc)
      rw [if_pos (by simpa using hk), atI_nat, hc, Option.bind_some, Option.bind_some, show (0 : Int) = ((0 : Nat) : Int) from rfl] at h
      refine nodes2_sub P (i : Int) (graph_Nodes_o0_L1 n r q) [c.From, c.To] (fun x hx => ?_) res (fun l m hl h => ?_) n 0 l m hl (by simp) (by simp) h
      · rcases List.mem_cons.1 hx with rfl | hx
        · exact hm.1
        · rw [List.mem_singleton] at hx; subst hx; exact hm.2
      · rw [wrapN (by omega)] at h
        exact nodes1_sub P n r hs hr res q (i + 1) l m hl (by omega) h
    · rw [if_neg (by simpa using hk)] at h
      cases h; exact hl

theorem nodes_exact (n : Nat) (r : ApiRung) (hn : 2 * r.Contacts.length + 10 ≤ n) (hs : r.Contacts.length ≤ 1000000) : ∃ l, graph_Nodes_o0 n r = some l ∧ IsNodes r l ∧ ∀ x, x ∈ l ↔ IsNode r.Contacts x := by
  obtain ⟨l, a1, a2⟩ := nodes_eq n r hn hs
  refine ⟨l, a1, a2, fun x => ⟨fun hx => ?_, fun hx => ?_⟩⟩
  · rw [graph_Nodes_o0, Option.bind_some, show (0 : Int) = ((0 : Nat) : Int) from rfl] at a1
    refine nodes1_sub (IsNode r.Contacts) n r hs (fun c hc => ⟨.inr (.inr ⟨c, hc, .inl rfl⟩), .inr (.inr ⟨c, hc, .inr rfl⟩)⟩) l n 0 _ _ (fun x hx => ?_) (by omega) a1 x hx
    rcases List.mem_cons.1 hx with rfl | hx
    · exact .inl rfl
    · rw [List.mem_singleton] at hx; subst hx; exact .inr (.inl rfl)
  · rcases hx with rfl | rfl | ⟨c, hc, rfl | rfl⟩
    · exact a2.L
    · exact a2.R
    · exact (a2.ends c hc).1
    · exact (a2.ends c hc).2

/-! ### an order is found if there is one -/
theorem told_loopC (n : Nat) (s : List Int) (m : List (Str × Bool)) (r : ApiRung) (hs : s.length ≤ 1000000) (hr : ∀ j ∈ s, ∃ (k : Nat) (c : ApiContact), j = (k : Int) ∧ r.Contacts[k]? = some c) : ∀ (q i : Nat) (t : Int), i ≤ s.length → slices_IndexFunc_int_c102_L1 n s m r q (i : Int) = some t → 0 ≤ t → ∃ (k : Nat) (c : ApiContact), (k : Int) ∈ s ∧ r.Contacts[k]? = some c ∧ hasM m c.From = false
  | 0, i, t, _, h, _ => by rw [slices_IndexFunc_int_c102_L1] at h; cases h
  | q + 1, i, t, hi0, h, ht => by
    rw [slices_IndexFunc_int_c102_L1] at h
    by_cases hi : i < s.length
    · obtain ⟨x, hx⟩ := get_ex hi
      obtain ⟨k, c, rfl, hc⟩ := hr x (List.mem_of_getElem? hx)
      rw [if_pos (by simpa using hi), atI_nat, hx, Option.bind_some, graph_TopoSort_1_1, atI_nat, hc, Option.bind_some, Option.bind_some, wrapN (by omega)] at h
      split at h
      · rename_i hh
        refine ⟨k, c, List.mem_of_getElem? hx, hc, ?_⟩
        have : (!(hasM m c.From)) = true := hh
        simpa using this
      · exact told_loopC n s m r hs hr q (i + 1) t (by omega) h ht
    · rw [if_neg (by simpa using hi)] at h
      cases h; omega

theorem topo_1C (n : Nat) (x : Str) (r : ApiRung) (m : List (Str × Bool)) (hs : r.Contacts.length ≤ 1000000) (hn : r.Contacts.length < n) : ∃ b, graph_TopoSort_1 n x r m = some b ∧ (b = true → ∀ c ∈ r.Contacts, c.To = x → hasM m c.From = true) ∧ (b = false → ∃ c ∈ r.Contacts, c.To = x ∧ hasM m c.From = false) := by
  obtain ⟨b, b1, b2⟩ := topo_1 n x r m hs hn
  refine ⟨b, b1, b2, fun hb => ?_⟩
  obtain ⟨l, a1, a2, a3, a4⟩ := Incoming_eq n r x hs hn
  have hr : ∀ j ∈ l, ∃ (k : Nat) (c : ApiContact), j = (k : Int) ∧ r.Contacts[k]? = some c := fun j hj => by obtain ⟨k, c, e1, e2, _⟩ := a3 j hj; exact ⟨k, c, e1, e2⟩
  obtain ⟨t, t1, _⟩ := told_loop n l m r (by omega) hr n 0 (by omega) (by omega)
  rw [graph_TopoSort_1, a1, Option.bind_some, slices_ContainsFunc_int_c102, slices_IndexFunc_int_c102, show (0 : Int) = ((0 : Nat) : Int) from rfl, t1, Option.bind_some, Option.bind_some] at b1
  have ht : 0 ≤ t := by
    have : (!(decide (t ≥ ((0 : Nat) : Int)))) = b := by simpa using b1
    rw [hb] at this
    simpa using this
  obtain ⟨k, c, c1, c2, c3⟩ := told_loopC n l m r (by omega) hr n 0 t (by omega) t1 ht
  obtain ⟨k', c', e1, e2, e3⟩ := a3 _ c1
  have : k' = k := by omega
  subst this
  rw [c2] at e2; cases e2
  exact ⟨c, List.mem_of_getElem? c2, e3, c3⟩

theorem ready_loopC (n : Nat) (l : List Str) (r : ApiRung) (m : List (Str × Bool)) (hl : l.length ≤ 100000000) (hs : r.Contacts.length ≤ 1000000) (hn : r.Contacts.length < n) : ∀ (q i : Nat) (t : Int), i ≤ l.length → slices_IndexFunc_string_c99_v1_L1 n l r m q (i : Int) = some t → t < 0 →
    ∀ x ∈ l.drop i, ∃ c ∈ r.Contacts, c.To = x ∧ hasM m c.From = false
  | 0, i, t, _, h, _ => by rw [slices_IndexFunc_string_c99_v1_L1] at h; cases h
  | q + 1, i, t, hi0, h, ht => by
    rw [slices_IndexFunc_string_c99_v1_L1] at h
    by_cases hi : i < l.length
    · obtain ⟨x, hx⟩ := get_ex hi
      obtain ⟨b, b1, b2, b3⟩ := topo_1C n x r m hs hn
      rw [if_pos (by simpa using hi), atI_nat, hx, Option.bind_some, b1, Option.bind_some, wrapN (by omega)] at h
      cases b with
      | true => rw [if_pos rfl] at h; cases h; omega
      | false =>
        rw [if_neg (by simp)] at h
        have ih := ready_loopC n l r m hl hs hn q (i + 1) t (by omega) h ht
        rw [drop_cons hx]
        intro y hy
        rcases List.mem_cons.1 hy with rfl | hy
        · exact b3 rfl
        · exact ih y hy
    · rw [List.drop_eq_nil_of_le (by omega)]; intro x hx; cases hx

theorem min_ex {α : Type} (f : α → Nat) : ∀ {l : List α}, l ≠ [] → ∃ x ∈ l, ∀ y ∈ l, f x ≤ f y
  | [], h => absurd rfl h
  | [x], _ => ⟨x, by simp, fun y hy => by rw [List.mem_singleton] at hy; subst hy; exact Nat.le_refl _⟩
  | x :: z :: l, _ => by
    obtain ⟨w, h1, h2⟩ := min_ex f (l := z :: l) (by simp)
    by_cases h : f x ≤ f w
    · refine ⟨x, by simp, fun y hy => ?_⟩
      rcases List.mem_cons.1 hy with rfl | hy
      · exact Nat.le_refl _
      · exact Nat.le_trans h (h2 y hy)
    · refine ⟨w, List.mem_cons_of_mem _ h1, fun y hy => ?_⟩
      rcases List.mem_cons.1 hy with rfl | hy
      · omega
      · exact h2 y hy

theorem topo_loopC (n : Nat) (r : ApiRung) (hs : r.Contacts.length ≤ 1000000) (hn : 2 * r.Contacts.length + 10 ≤ n) (rank : Str → Nat) (hrk : ∀ c ∈ r.Contacts, rank c.From < rank c.To) : ∀ (q : Nat) (left : List Str) (m : List (Str × Bool)) (l : List Str) (s : List Str) (e : Int),
    left.length + l.length ≤ 2 + 2 * r.Contacts.length → (∀ x, hasM m x = true ↔ x ∈ l) → (∀ c ∈ r.Contacts, c.From ∈ left ∨ c.From ∈ l) → graph_TopoSort_L1 n r q left m l = some (s, e) → e = 0
  | 0, left, m, l, s, e, _, _, _, h => by rw [graph_TopoSort_L1] at h; cases h
  | q + 1, left, m, l, s, e, hl, h1, h2, h => by
    rw [graph_TopoSort_L1] at h
    by_cases hk : 0 < left.length
    · rw [if_pos (by simpa using hk)] at h
      obtain ⟨t, a1, a2⟩ := ready_loop n left r m (by omega) hs (by omega) n 0 (by omega) (by omega)
      have hC := ready_loopC n left r m (by omega) hs (by omega) n 0 t (by omega) a1
      rw [slices_IndexFunc_string_c99_v1, show (0 : Int) = ((0 : Nat) : Int) from rfl, a1, Option.bind_some] at h
      rcases a2 with rfl | ⟨k, x, rfl, hx, hin⟩
      · exfalso
        have hC := hC (by decide)
        rw [List.drop_zero] at hC
        obtain ⟨x, m1, m2⟩ := min_ex rank (l := left) (by intro e; subst e; simp at hk)
        obtain ⟨c, c1, c2, c3⟩ := hC x m1
        have hr := hrk c c1
        rcases h2 c c1 with g | g
        · have := m2 _ g; rw [c2] at hr; omega
        · rw [(h1 _).2 g] at c3; cases c3
      · have hkl := get_lt hx
        have hp := erase_perm hx
        rw [if_neg (by simp), atI_nat, hx, Option.bind_some, if_pos (by simp; omega), Option.bind_some, wrapN (by omega), delS_eq n left k hkl, Option.bind_some] at h
        refine topo_loopC n r hs hn rank hrk q (left.eraseIdx k) (mPut m x true) (l ++ [x]) s e ?_ ?_ ?_ h
        · rw [List.length_eraseIdx_of_lt hkl, List.length_append, List.length_singleton]; omega
        · intro y
          rw [hasM_put, Bool.or_eq_true, h1, decide_eq_true_eq, List.mem_append, List.mem_singleton]
          exact Or.comm
        · intro c hc
          rcases h2 c hc with g | g
          · rcases List.mem_cons.1 (hp.subset g) with g | g
            · exact .inr (by simp [g])
            · exact .inl g
          · exact .inr (by simp [g])
    · rw [if_neg (by simpa using hk)] at h
      cases h; rfl

/-- A list of contacts without a cycle. -/
def Acyc (cs : List ApiContact) : Prop := ∃ rank : Str → Nat, ∀ c ∈ cs, rank c.From < rank c.To

theorem TopoSort_exact (n : Nat) (r : ApiRung) (hs : r.Contacts.length ≤ 1000000) (hn : 2 * r.Contacts.length + 10 ≤ n) : ∃ s e, graph_TopoSort n r = some (s, e) ∧ (e = 0 ↔ Acyc r.Contacts) := by
  obtain ⟨s, e, a1, a2⟩ := TopoSort_eq n r hs hn
  refine ⟨s, e, a1, a2, fun ⟨rank, hrk⟩ => ?_⟩
  obtain ⟨l, b1, b2⟩ := nodes_eq n r hn hs
  rw [graph_TopoSort, b1, Option.bind_some] at a1
  have := b2.len
  exact topo_loopC n r hs hn rank hrk n l [] [] s e (by simpa using this) (fun x => by simp [hasM_nil]) (fun c hc => .inl (b2.ends c hc).1) a1

theorem topo_code (n : Nat) (r : ApiRung) : ∀ (q : Nat) (left : List Str) (m : List (Str × Bool)) (l s : List Str) (e : Int), graph_TopoSort_L1 n r q left m l = some (s, e) → e = 0 ∨ e = 12
  | 0, left, m, l, s, e, h => by rw [graph_TopoSort_L1] at h; cases h
  | q + 1, left, m, l, s, e, h => by
    rw [graph_TopoSort_L1] at h
    split at h
    · obtain ⟨t, _, h⟩ := Option.bind_eq_some_iff.1 h
      split at h
      · cases h; exact .inr rfl
      · obtain ⟨x, _, h⟩ := Option.bind_eq_some_iff.1 h
        split at h
        · rw [Option.bind_some] at h
          obtain ⟨d, _, h⟩ := Option.bind_eq_some_iff.1 h
          exact topo_code n r q _ _ _ s e h
        · cases h
    · cases h; exact .inl rfl

theorem numIncoming_fuel (n : Nat) (r : ApiRung) (b : Str) (hs : r.Contacts.length ≤ 1000000) : ∀ (q i : Nat) (acc l : List Int), i ≤ r.Contacts.length → graph_numbers_c134_L1 n r b q (i : Int) acc = some l → r.Contacts.length - i < q
  | 0, i, acc, l, _, h => by rw [graph_numbers_c134_L1] at h; cases h
  | q + 1, i, acc, l, hi0, h => by
    rw [graph_numbers_c134_L1] at h
    by_cases hk : i < r.Contacts.length
    · obtain ⟨c, hc⟩ := get_ex hk
      rw [if_pos (by simpa using hk), atI_nat, hc, Option.bind_some, graph_Incoming_1, Option.bind_some, wrapN (by omega)] at h
      split at h
      · split at h
        · rw [Option.bind_some] at h
          have := numIncoming_fuel n r b hs q (i + 1) _ l (by omega) h
          omega
        · cases h
      · have := numIncoming_fuel n r b hs q (i + 1) _ l (by omega) h
        omega
    · omega
theorem Incoming_small (n : Nat) (r : ApiRung) (x : Str) (s : List Int) (hs : r.Contacts.length ≤ 1000000) (h : graph_Incoming n r x = some s) : r.Contacts.length < n := by
  rw [graph_Incoming, graph_numbers_c134, show (0 : Int) = ((0 : Nat) : Int) from rfl] at h
  obtain ⟨l, h1, _⟩ := Option.bind_eq_some_iff.1 h
  have := numIncoming_fuel n r x hs n 0 [] l (by omega) h1
  omega

theorem numOutgoing_fuel (n : Nat) (r : ApiRung) (b : Str) (hs : r.Contacts.length ≤ 1000000) : ∀ (q i : Nat) (acc l : List Int), i ≤ r.Contacts.length → graph_numbers_c168_L1 n r b q (i : Int) acc = some l → r.Contacts.length - i < q
  | 0, i, acc, l, _, h => by rw [graph_numbers_c168_L1] at h; cases h
  | q + 1, i, acc, l, hi0, h => by
    rw [graph_numbers_c168_L1] at h
    by_cases hk : i < r.Contacts.length
    · obtain ⟨c, hc⟩ := get_ex hk
      rw [if_pos (by simpa using hk), atI_nat, hc, Option.bind_some, graph_Outgoing_1, Option.bind_some, wrapN (by omega)] at h
      split at h
      · split at h
        · rw [Option.bind_some] at h
          have := numOutgoing_fuel n r b hs q (i + 1) _ l (by omega) h
          omega
        · cases h
      · have := numOutgoing_fuel n r b hs q (i + 1) _ l (by omega) h
        omega
    · omega
theorem Outgoing_small (n : Nat) (r : ApiRung) (x : Str) (s : List Int) (hs : r.Contacts.length ≤ 1000000) (h : graph_Outgoing n r x = some s) : r.Contacts.length < n := by
  rw [graph_Outgoing, graph_numbers_c168, show (0 : Int) = ((0 : Nat) : Int) from rfl] at h
  obtain ⟨l, h1, _⟩ := Option.bind_eq_some_iff.1 h
  have := numOutgoing_fuel n r x hs n 0 [] l (by omega) h1
  omega

/-! ### Reachable -/
theorem stepsReachable_loopC (r : ApiRung) (s : List Int) (hs : s.length ≤ 1000000) (hr : ∀ j ∈ s, ∃ (k : Nat) (c : ApiContact), j = (k : Int) ∧ r.Contacts[k]? = some c) : ∀ (q i : Nat) (acc l : List Str), i ≤ s.length → graph_Reachable_1_L1 r s q (i : Int) acc = some l →
    (∀ x ∈ acc, x ∈ l) ∧ (∀ (k : Nat) (c : ApiContact), (k : Int) ∈ s.drop i → r.Contacts[k]? = some c → c.To ∈ l) ∧ ∀ x ∈ l, x ∈ acc ∨ ∃ (k : Nat) (c : ApiContact), (k : Int) ∈ s ∧ r.Contacts[k]? = some c ∧ x = c.To
  | 0, i, acc, l, _, h => by rw [graph_Reachable_1_L1] at h; cases h
  | q + 1, i, acc, l, hi0, h => by
    rw [graph_Reachable_1_L1] at h
    by_cases hi : i < s.length
    · obtain ⟨x, hx⟩ := get_ex hi
      obtain ⟨k, c, rfl, hc⟩ := hr x (List.mem_of_getElem? hx)
      rw [if_pos (by simpa using hi), atI_nat, hx, Option.bind_some, atI_nat, hc, Option.bind_some, wrapN (by omega)] at h
      split at h
      · rw [Option.bind_some] at h
        obtain ⟨a1, a2, a3⟩ := stepsReachable_loopC r s hs hr q (i + 1) _ l (by omega) h
        refine ⟨fun x hx => a1 x (by simp [hx]), fun k' c' hk' hc' => ?_, fun x hx' => ?_⟩
        · rw [drop_cons hx] at hk'
          rcases List.mem_cons.1 hk' with e | hk'
          · have : k' = k := by omega
            subst this; rw [hc] at hc'; cases hc'; exact a1 _ (by simp)
          · exact a2 k' c' hk' hc'
        · rcases a3 x hx' with g | g
          · rcases List.mem_append.1 g with g | g
            · exact .inl g
            · rw [List.mem_singleton] at g; exact .inr ⟨k, c, List.mem_of_getElem? hx, hc, g⟩
          · exact .inr g
      · cases h
    · rw [if_neg (by simpa using hi)] at h
      cases h
      refine ⟨fun _ h => h, ?_, fun _ h => .inl h⟩
      rw [List.drop_eq_nil_of_le (by omega)]
      intro k c hk; cases hk

theorem stepsReachableC (n : Nat) (r : ApiRung) (x : Str) (hs : r.Contacts.length ≤ 1000000) (hn : r.Contacts.length < n) : ∃ l, graph_Reachable_1 n x r = some l ∧ l.length ≤ r.Contacts.length ∧ ∀ y, y ∈ l ↔ ∃ c ∈ r.Contacts, c.From = x ∧ y = c.To := by
  obtain ⟨l, e1, e2, _⟩ := stepsReachable n r x hs hn
  refine ⟨l, e1, e2, ?_⟩
  obtain ⟨s, a1, a2, a3, a4⟩ := Outgoing_eq n r x hs hn
  rw [graph_Reachable_1, a1, Option.bind_some, show (0 : Int) = ((0 : Nat) : Int) from rfl] at e1
  obtain ⟨b1, b2, b3⟩ := stepsReachable_loopC r s (by omega) (fun j hj => by obtain ⟨k, c, e1, e2, _⟩ := a3 j hj; exact ⟨k, c, e1, e2⟩) n 0 [] l (by omega) e1
  intro y
  constructor
  · intro hy
    rcases b3 y hy with g | ⟨k, c, hk, hc, rfl⟩
    · cases g
    · obtain ⟨k', c', q1, q2, q3⟩ := a3 _ hk
      have : k' = k := by omega
      subst this; rw [hc] at q2; cases q2
      exact ⟨c, List.mem_of_getElem? hc, q3, rfl⟩
  · rintro ⟨c, hc, h1, rfl⟩
    obtain ⟨k, hk⟩ := List.getElem?_of_mem hc
    exact b2 k c (by simpa using a4 k c hk h1) hk

/-- What is reached. -/
inductive RchReachable (cs : List ApiContact) (s : Str) : Str → Prop
  | refl : RchReachable cs s s
  | step {c : ApiContact} (h1 : c ∈ cs) (h : RchReachable cs s c.From) : RchReachable cs s c.To
theorem RchReachable.trans {cs : List ApiContact} {a b x : Str} (h : RchReachable cs a b) (k : RchReachable cs b x) : RchReachable cs a x := by
  induction k with
  | refl => exact h
  | step h1 _ ih => exact .step h1 ih

/-- What a visit adds is closed. -/
structure VisReachable (cs : List ApiContact) (m m' : List (Str × Bool)) : Prop where
  mono : ∀ y, hasM m y = true → hasM m' y = true
  closed : ∀ y, hasM m' y = true → hasM m y = false → ∀ c ∈ cs, c.From = y → hasM m' c.To = true

theorem VisReachable.trans {cs : List ApiContact} {m m1 m2 : List (Str × Bool)} (h : VisReachable cs m m1) (k : VisReachable cs m1 m2) : VisReachable cs m m2 := by
  refine ⟨fun y hy => k.mono y (h.mono y hy), fun y hy hn c hc he => ?_⟩
  cases h1 : hasM m1 y with
  | true => exact k.mono _ (h.closed y h1 hn c hc he)
  | false => exact k.closed y hy h1 c hc he

theorem visitReachable_loopC (r : ApiRung) (s : List Str) (slf : Str → List (Str × Bool) → ApiRung → Option (List (Str × Bool))) (hs : s.length ≤ 1000000)
    (hf : ∀ x ∈ s, ∀ m m', slf x m r = some m' → VisReachable r.Contacts m m' ∧ hasM m' x = true ∧ ∀ y, hasM m' y = true → hasM m y = true ∨ RchReachable r.Contacts x y) : ∀ (q i : Nat) (m m' : List (Str × Bool)), i ≤ s.length →
    graph_gather_1_c136_166_L1 r s slf q m (i : Int) = some m' → VisReachable r.Contacts m m' ∧ (∀ x ∈ s.drop i, hasM m' x = true) ∧ ∀ y, hasM m' y = true → hasM m y = true ∨ ∃ x ∈ s, RchReachable r.Contacts x y
  | 0, i, m, m', _, h => by rw [graph_gather_1_c136_166_L1] at h; cases h
  | q + 1, i, m, m', hi0, h => by
    rw [graph_gather_1_c136_166_L1] at h
    by_cases hi : i < s.length
    · obtain ⟨x, hx⟩ := get_ex hi
      rw [if_pos (by simpa using hi), atI_nat, hx, Option.bind_some, wrapN (by omega)] at h
      obtain ⟨m1, h1, h⟩ := Option.bind_eq_some_iff.1 h
      obtain ⟨v1, v2, v3⟩ := hf x (List.mem_of_getElem? hx) m m1 h1
      obtain ⟨w1, w2, w3⟩ := visitReachable_loopC r s slf hs hf q (i + 1) m1 m' (by omega) h
      refine ⟨v1.trans w1, ?_, fun y hy => ?_⟩
      · rw [drop_cons hx]
        intro y hy
        rcases List.mem_cons.1 hy with rfl | hy
        · exact w1.mono _ v2
        · exact w2 y hy
      · rcases w3 y hy with g | g
        · rcases v3 y g with g | g
          · exact .inl g
          · exact .inr ⟨x, List.mem_of_getElem? hx, g⟩
        · exact .inr g
    · rw [if_neg (by simpa using hi)] at h
      cases h
      refine ⟨⟨fun _ h => h, fun y h1 h2 => by rw [h1] at h2; cases h2⟩, ?_, fun _ h => .inl h⟩
      rw [List.drop_eq_nil_of_le (by omega)]
      intro x hx; cases hx

theorem visitReachableC (r : ApiRung) (hs : r.Contacts.length ≤ 1000000) : ∀ (n : Nat) (x : Str) (m m' : List (Str × Bool)), graph_gather_1_c136_166 n x m r = some m' →
    VisReachable r.Contacts m m' ∧ hasM m' x = true ∧ ∀ y, hasM m' y = true → hasM m y = true ∨ RchReachable r.Contacts x y
  | 0, x, m, m', h => by rw [graph_gather_1_c136_166] at h; cases h
  | n + 1, x, m, m', h => by
    rw [graph_gather_1_c136_166] at h
    cases hh : hasM m x with
    | true =>
      have hh' : (mGet m x).getD false = true := hh
      rw [hh', if_pos rfl] at h
      cases h
      exact ⟨⟨fun _ h => h, fun y h1 h2 => by rw [h1] at h2; cases h2⟩, hh, fun _ h => .inl h⟩
    | false =>
      have hh' : (mGet m x).getD false = false := hh
      rw [hh', if_neg (by simp)] at h
      obtain ⟨l, h1, h⟩ := Option.bind_eq_some_iff.1 h
      rw [show (0 : Int) = ((0 : Nat) : Int) from rfl] at h
      by_cases hnn : r.Contacts.length < n
      · obtain ⟨l', a1, a2, a3⟩ := stepsReachableC n r x hs hnn
        rw [a1] at h1; cases h1
        obtain ⟨w1, w2, w3⟩ := visitReachable_loopC r l (graph_gather_1_c136_166 n) (by omega) (fun y hy m1 m2 hm => visitReachableC r hs n y m1 m2 hm) n 0 (mPut m x true) m' (by omega) h
        refine ⟨⟨fun y hy => w1.mono y (by rw [hasM_put, hy]; simp), fun y hy hn c hc he => ?_⟩, w1.mono x (by rw [hasM_put]; simp), fun y hy => ?_⟩
        · cases h2 : hasM (mPut m x true) y with
          | true =>
            rw [hasM_put, hn] at h2
            have : y = x := by simpa using h2
            subst this
            exact w2 _ (by rw [List.drop_zero]; exact (a3 _).2 ⟨c, hc, he, rfl⟩)
          | false => exact w1.closed y hy h2 c hc he
        · rcases w3 y hy with g | ⟨z, hz, g⟩
          · rw [hasM_put, Bool.or_eq_true, decide_eq_true_eq] at g
            rcases g with rfl | g
            · exact .inr .refl
            · exact .inl g
          · obtain ⟨c, hc, h1, rfl⟩ := (a3 z).1 hz
            have : RchReachable r.Contacts x c.To := .step hc (by rw [h1]; exact .refl)
            exact .inr (this.trans g)
      · exfalso
        obtain ⟨s, a1, a2⟩ := Option.bind_eq_some_iff.1 (show (graph_Outgoing n r x).bind (fun s => graph_Reachable_1_L1 r s n 0 []) = some l from h1)
        exact hnn (Outgoing_small n r x s hs a1)

/-! ### Ancestors -/
theorem stepsAncestors_loopC (r : ApiRung) (s : List Int) (hs : s.length ≤ 1000000) (hr : ∀ j ∈ s, ∃ (k : Nat) (c : ApiContact), j = (k : Int) ∧ r.Contacts[k]? = some c) : ∀ (q i : Nat) (acc l : List Str), i ≤ s.length → graph_Ancestors_1_L1 r s q (i : Int) acc = some l →
    (∀ x ∈ acc, x ∈ l) ∧ (∀ (k : Nat) (c : ApiContact), (k : Int) ∈ s.drop i → r.Contacts[k]? = some c → c.From ∈ l) ∧ ∀ x ∈ l, x ∈ acc ∨ ∃ (k : Nat) (c : ApiContact), (k : Int) ∈ s ∧ r.Contacts[k]? = some c ∧ x = c.From
  | 0, i, acc, l, _, h => by rw [graph_Ancestors_1_L1] at h; cases h
  | q + 1, i, acc, l, hi0, h => by
    rw [graph_Ancestors_1_L1] at h
    by_cases hi : i < s.length
    · obtain ⟨x, hx⟩ := get_ex hi
      obtain ⟨k, c, rfl, hc⟩ := hr x (List.mem_of_getElem? hx)
      rw [if_pos (by simpa using hi), atI_nat, hx, Option.bind_some, atI_nat, hc, Option.bind_some, wrapN (by omega)] at h
      split at h
      · rw [Option.bind_some] at h
        obtain ⟨a1, a2, a3⟩ := stepsAncestors_loopC r s hs hr q (i + 1) _ l (by omega) h
        refine ⟨fun x hx => a1 x (by simp [hx]), fun k' c' hk' hc' => ?_, fun x hx' => ?_⟩
        · rw [drop_cons hx] at hk'
          rcases List.mem_cons.1 hk' with e | hk'
          · have : k' = k := by omega
            subst this; rw [hc] at hc'; cases hc'; exact a1 _ (by simp)
          · exact a2 k' c' hk' hc'
        · rcases a3 x hx' with g | g
          · rcases List.mem_append.1 g with g | g
            · exact .inl g
            · rw [List.mem_singleton] at g; exact .inr ⟨k, c, List.mem_of_getElem? hx, hc, g⟩
          · exact .inr g
      · cases h
    · rw [if_neg (by simpa using hi)] at h
      cases h
      refine ⟨fun _ h => h, ?_, fun _ h => .inl h⟩
      rw [List.drop_eq_nil_of_le (by omega)]
      intro k c hk; cases hk

theorem stepsAncestorsC (n : Nat) (r : ApiRung) (x : Str) (hs : r.Contacts.length ≤ 1000000) (hn : r.Contacts.length < n) : ∃ l, graph_Ancestors_1 n x r = some l ∧ l.length ≤ r.Contacts.length ∧ ∀ y, y ∈ l ↔ ∃ c ∈ r.Contacts, c.To = x ∧ y = c.From := by
  obtain ⟨l, e1, e2, _⟩ := stepsAncestors n r x hs hn
  refine ⟨l, e1, e2, ?_⟩
  obtain ⟨s, a1, a2, a3, a4⟩ := Incoming_eq n r x hs hn
  rw [graph_Ancestors_1, a1, Option.bind_some, show (0 : Int) = ((0 : Nat) : Int) from rfl] at e1
  obtain ⟨b1, b2, b3⟩ := stepsAncestors_loopC r s (by omega) (fun j hj => by obtain ⟨k, c, e1, e2, _⟩ := a3 j hj; exact ⟨k, c, e1, e2⟩) n 0 [] l (by omega) e1
  intro y
  constructor
  · intro hy
    rcases b3 y hy with g | ⟨k, c, hk, hc, rfl⟩
    · cases g
    · obtain ⟨k', c', q1, q2, q3⟩ := a3 _ hk
      have : k' = k := by omega
      subst this; rw [hc] at q2; cases q2
      exact ⟨c, List.mem_of_getElem? hc, q3, rfl⟩
  · rintro ⟨c, hc, h1, rfl⟩
    obtain ⟨k, hk⟩ := List.getElem?_of_mem hc
    exact b2 k c (by simpa using a4 k c hk h1) hk

/-- What is reached. -/
inductive RchAncestors (cs : List ApiContact) (s : Str) : Str → Prop
  | refl : RchAncestors cs s s
  | step {c : ApiContact} (h1 : c ∈ cs) (h : RchAncestors cs s c.To) : RchAncestors cs s c.From
theorem RchAncestors.trans {cs : List ApiContact} {a b x : Str} (h : RchAncestors cs a b) (k : RchAncestors cs b x) : RchAncestors cs a x := by
  induction k with
  | refl => exact h
  | step h1 _ ih => exact .step h1 ih

/-- What a visit adds is closed. -/
structure VisAncestors (cs : List ApiContact) (m m' : List (Str × Bool)) : Prop where
  mono : ∀ y, hasM m y = true → hasM m' y = true
  closed : ∀ y, hasM m' y = true → hasM m y = false → ∀ c ∈ cs, c.To = y → hasM m' c.From = true

theorem VisAncestors.trans {cs : List ApiContact} {m m1 m2 : List (Str × Bool)} (h : VisAncestors cs m m1) (k : VisAncestors cs m1 m2) : VisAncestors cs m m2 := by
  refine ⟨fun y hy => k.mono y (h.mono y hy), fun y hy hn c hc he => ?_⟩
  cases h1 : hasM m1 y with
  | true => exact k.mono _ (h.closed y h1 hn c hc he)
  | false => exact k.closed y hy h1 c hc he

theorem visitAncestors_loopC (r : ApiRung) (s : List Str) (slf : Str → List (Str × Bool) → ApiRung → Option (List (Str × Bool))) (hs : s.length ≤ 1000000)
    (hf : ∀ x ∈ s, ∀ m m', slf x m r = some m' → VisAncestors r.Contacts m m' ∧ hasM m' x = true ∧ ∀ y, hasM m' y = true → hasM m y = true ∨ RchAncestors r.Contacts x y) : ∀ (q i : Nat) (m m' : List (Str × Bool)), i ≤ s.length →
    graph_gather_1_c138_166_L1 r s slf q m (i : Int) = some m' → VisAncestors r.Contacts m m' ∧ (∀ x ∈ s.drop i, hasM m' x = true) ∧ ∀ y, hasM m' y = true → hasM m y = true ∨ ∃ x ∈ s, RchAncestors r.Contacts x y
  | 0, i, m, m', _, h => by rw [graph_gather_1_c138_166_L1] at h; cases h
  | q + 1, i, m, m', hi0, h => by
    rw [graph_gather_1_c138_166_L1] at h
    by_cases hi : i < s.length
    · obtain ⟨x, hx⟩ := get_ex hi
      rw [if_pos (by simpa using hi), atI_nat, hx, Option.bind_some, wrapN (by omega)] at h
      obtain ⟨m1, h1, h⟩ := Option.bind_eq_some_iff.1 h
      obtain ⟨v1, v2, v3⟩ := hf x (List.mem_of_getElem? hx) m m1 h1
      obtain ⟨w1, w2, w3⟩ := visitAncestors_loopC r s slf hs hf q (i + 1) m1 m' (by omega) h
      refine ⟨v1.trans w1, ?_, fun y hy => ?_⟩
      · rw [drop_cons hx]
        intro y hy
        rcases List.mem_cons.1 hy with rfl | hy
        · exact w1.mono _ v2
        · exact w2 y hy
      · rcases w3 y hy with g | g
        · rcases v3 y g with g | g
          · exact .inl g
          · exact .inr ⟨x, List.mem_of_getElem? hx, g⟩
        · exact .inr g
    · rw [if_neg (by simpa using hi)] at h
      cases h
      refine ⟨⟨fun _ h => h, fun y h1 h2 => by rw [h1] at h2; cases h2⟩, ?_, fun _ h => .inl h⟩
      rw [List.drop_eq_nil_of_le (by omega)]
      intro x hx; cases hx

theorem visitAncestorsC (r : ApiRung) (hs : r.Contacts.length ≤ 1000000) : ∀ (n : Nat) (x : Str) (m m' : List (Str × Bool)), graph_gather_1_c138_166 n x m r = some m' →
    VisAncestors r.Contacts m m' ∧ hasM m' x = true ∧ ∀ y, hasM m' y = true → hasM m y = true ∨ RchAncestors r.Contacts x y
  | 0, x, m, m', h => by rw [graph_gather_1_c138_166] at h; cases h
  | n + 1, x, m, m', h => by
    rw [graph_gather_1_c138_166] at h
    cases hh : hasM m x with
    | true =>
      have hh' : (mGet m x).getD false = true := hh
      rw [hh', if_pos rfl] at h
      cases h
      exact ⟨⟨fun _ h => h, fun y h1 h2 => by rw [h1] at h2; cases h2⟩, hh, fun _ h => .inl h⟩
    | false =>
      have hh' : (mGet m x).getD false = false := hh
      rw [hh', if_neg (by simp)] at h
      obtain ⟨l, h1, h⟩ := Option.bind_eq_some_iff.1 h
      rw [show (0 : Int) = ((0 : Nat) : Int) from rfl] at h
      by_cases hnn : r.Contacts.length < n
      · obtain ⟨l', a1, a2, a3⟩ := stepsAncestorsC n r x hs hnn
        rw [a1] at h1; cases h1
        obtain ⟨w1, w2, w3⟩ := visitAncestors_loopC r l (graph_gather_1_c138_166 n) (by omega) (fun y hy m1 m2 hm => visitAncestorsC r hs n y m1 m2 hm) n 0 (mPut m x true) m' (by omega) h
        refine ⟨⟨fun y hy => w1.mono y (by rw [hasM_put, hy]; simp), fun y hy hn c hc he => ?_⟩, w1.mono x (by rw [hasM_put]; simp), fun y hy => ?_⟩
        · cases h2 : hasM (mPut m x true) y with
          | true =>
            rw [hasM_put, hn] at h2
            have : y = x := by simpa using h2
            subst this
            exact w2 _ (by rw [List.drop_zero]; exact (a3 _).2 ⟨c, hc, he, rfl⟩)
          | false => exact w1.closed y hy h2 c hc he
        · rcases w3 y hy with g | ⟨z, hz, g⟩
          · rw [hasM_put, Bool.or_eq_true, decide_eq_true_eq] at g
            rcases g with rfl | g
            · exact .inr .refl
            · exact .inl g
          · obtain ⟨c, hc, h1, rfl⟩ := (a3 z).1 hz
            have : RchAncestors r.Contacts x c.From := .step hc (by rw [h1]; exact .refl)
            exact .inr (this.trans g)
      · exfalso
        obtain ⟨s, a1, a2⟩ := Option.bind_eq_some_iff.1 (show (graph_Incoming n r x).bind (fun s => graph_Ancestors_1_L1 r s n 0 []) = some l from h1)
        exact hnn (Incoming_small n r x s hs a1)

/-! ### elements left out -/
section
variable (n : Nat) (m2 : List (Str × Bool))
theorem delSeen_idxC (l : List Str) (hl : l.length ≤ 100000000) (p : Str → Bool) (hp : ∀ x, graph_gather_2 n x m2 = some (p x)) : ∀ (q i : Nat) (t : Int), i ≤ l.length → slices_IndexFunc_string_c167_v1_L1 n l m2 q (i : Int) = some t → (t = -1 ∧ ∀ x ∈ l.drop i, p x = false) ∨ ∃ k : Nat, t = (k : Int) ∧ i ≤ k ∧ k < l.length ∧ (∃ x, l[k]? = some x ∧ p x = true) ∧ ∀ x ∈ (l.drop i).take (k - i), p x = false
  | 0, i, t, _, h => by rw [slices_IndexFunc_string_c167_v1_L1] at h; cases h
  | q + 1, i, t, hi0, h => by
    rw [slices_IndexFunc_string_c167_v1_L1] at h
    by_cases hi : i < l.length
    · obtain ⟨x, hx⟩ := get_ex hi
      rw [if_pos (by simpa using hi), atI_nat, hx, Option.bind_some, hp, Option.bind_some, wrapN (by omega)] at h
      cases hb : p x with
      | true =>
        rw [hb, if_pos rfl] at h
        cases h
        exact .inr ⟨i, rfl, Nat.le_refl _, hi, ⟨x, hx, hb⟩, by simp⟩
      | false =>
        rw [hb, if_neg (by simp)] at h
        rw [drop_cons hx]
        rcases delSeen_idxC l hl p hp q (i + 1) t (by omega) h with ⟨e, g⟩ | ⟨k, e, k1, k2, k3, k4⟩
        · refine .inl ⟨e, fun y hy => ?_⟩
          rcases List.mem_cons.1 hy with rfl | hy
          · exact hb
          · exact g y hy
        · refine .inr ⟨k, e, by omega, k2, k3, fun y hy => ?_⟩
          rw [show k - i = (k - (i + 1)) + 1 by omega, List.take_succ_cons] at hy
          rcases List.mem_cons.1 hy with rfl | hy
          · exact hb
          · exact k4 y hy
    · rw [if_neg (by simpa using hi)] at h
      cases h
      refine .inl ⟨rfl, ?_⟩
      rw [List.drop_eq_nil_of_le (by omega)]
      intro x hx; cases hx

theorem delSeen_loopC (l0 : List Str) (hl : l0.length ≤ 100000000) (p : Str → Bool) (hp : ∀ x, graph_gather_2 n x m2 = some (p x)) : ∀ (q j i : Nat) (l l' : List Str), l.length = l0.length → i ≤ j → j ≤ l0.length → l.drop j = l0.drop j → l.take i = (l0.take j).filter (fun x => !p x) →
    slices_DeleteFunc_string_c167_v1_L1 n m2 q l (i : Int) (j : Int) = some l' → l' = l0.filter (fun x => !p x)
  | 0, j, i, l, l', _, _, _, _, _, h => by rw [slices_DeleteFunc_string_c167_v1_L1] at h; cases h
  | q + 1, j, i, l, l', hll, hij, hj, hd, ht, h => by
    rw [slices_DeleteFunc_string_c167_v1_L1] at h
    by_cases hk : j < l.length
    · obtain ⟨x, hx⟩ := get_ex hk
      obtain ⟨y, hy⟩ := get_ex (l := l) (i := i) (by omega)
      have hx0 : l0[j]? = some x := by
        have e1 : (l.drop j)[0]? = l[j]? := by simp
        have e2 : (l0.drop j)[0]? = l0[j]? := by simp
        rw [← e2, ← hd, e1]; exact hx
      have hd1 : l.drop (j + 1) = l0.drop (j + 1) := by
        have := congrArg List.tail hd
        simpa [List.tail_drop] using this
      have ht1 : l0.take (j + 1) = l0.take j ++ [x] := by rw [List.take_add_one, hx0]; rfl
      rw [if_pos (by simpa using hk), atI_nat, hx, Option.bind_some, hp, Option.bind_some] at h
      cases hb : p x with
      | true =>
        rw [hb, if_neg (by simp), wrapN (by omega)] at h
        refine delSeen_loopC l0 hl p hp q (j + 1) i l l' hll (by omega) (by omega) hd1 ?_ h
        rw [ht1, List.filter_append, ht]; simp [hb]
      | false =>
        rw [hb, if_pos (by simp), atI_nat, hy, Option.bind_some, Option.bind_some, wrapN (by omega), wrapN (by omega), Int.toNat_natCast] at h
        refine delSeen_loopC l0 hl p hp q (j + 1) (i + 1) _ l' (by rw [List.length_set]; exact hll) (by omega) (by omega) ?_ ?_ h
        · rw [List.drop_set_of_lt (by omega)]; exact hd1
        · rw [ht1, List.filter_append, ← ht, List.take_add_one, List.take_set_of_le (Nat.le_refl _), List.getElem?_set_self (by omega)]; simp [hb]
    · have hje : j = l0.length := by omega
      rw [if_neg (by simpa using hk), Int.toNat_natCast, if_pos (by omega), if_pos (by omega), if_pos (by omega)] at h
      cases h
      rw [ht, hje, List.take_length]

theorem delSeen_exact (l l' : List Str) (hl : l.length ≤ 100000000) (p : Str → Bool) (hp : ∀ x, graph_gather_2 n x m2 = some (p x)) (h : slices_DeleteFunc_string_c167_v1 n l m2 = some l') : l' = l.filter (fun x => !p x) := by
  rw [slices_DeleteFunc_string_c167_v1] at h
  obtain ⟨t, h1, h⟩ := Option.bind_eq_some_iff.1 h
  rw [slices_IndexFunc_string_c167_v1, show (0 : Int) = ((0 : Nat) : Int) from rfl] at h1
  rcases delSeen_idxC n m2 l hl p hp n 0 t (by omega) h1 with ⟨rfl, g⟩ | ⟨k, rfl, k1, k2, ⟨x, hx, hpx⟩, k4⟩
  · rw [if_pos (by decide)] at h
    cases h
    rw [List.drop_zero] at g
    rw [List.filter_eq_self.2]
    intro a ha; simp [g a ha]
  · rw [if_neg (by simp), wrapN (by omega)] at h
    refine delSeen_loopC n m2 l hl p hp n (k + 1) k l l' rfl (by omega) (by omega) rfl ?_ h
    rw [List.drop_zero, Nat.sub_zero] at k4
    rw [List.take_add_one, hx, List.filter_append]
    have : (l.take k).filter (fun x => !p x) = l.take k := List.filter_eq_self.2 fun a ha => by simp [k4 a ha]
    rw [this]; simp [hpx]
end

/-! ### elements left out -/
section
variable (n : Nat) (b1 b2 : List Str)
theorem delDead_idxC (l : List Str) (hl : l.length ≤ 100000000) (p : Str → Bool) (hp : ∀ x, flow_DeadNodes_1 n x b1 b2 = some (p x)) : ∀ (q i : Nat) (t : Int), i ≤ l.length → slices_IndexFunc_string_c107_v1_L1 n l b1 b2 q (i : Int) = some t → (t = -1 ∧ ∀ x ∈ l.drop i, p x = false) ∨ ∃ k : Nat, t = (k : Int) ∧ i ≤ k ∧ k < l.length ∧ (∃ x, l[k]? = some x ∧ p x = true) ∧ ∀ x ∈ (l.drop i).take (k - i), p x = false
  | 0, i, t, _, h => by rw [slices_IndexFunc_string_c107_v1_L1] at h; cases h
  | q + 1, i, t, hi0, h => by
    rw [slices_IndexFunc_string_c107_v1_L1] at h
    by_cases hi : i < l.length
    · obtain ⟨x, hx⟩ := get_ex hi
      rw [if_pos (by simpa using hi), atI_nat, hx, Option.bind_some, hp, Option.bind_some, wrapN (by omega)] at h
      cases hb : p x with
      | true =>
        rw [hb, if_pos rfl] at h
        cases h
        exact .inr ⟨i, rfl, Nat.le_refl _, hi, ⟨x, hx, hb⟩, by simp⟩
      | false =>
        rw [hb, if_neg (by simp)] at h
        rw [drop_cons hx]
        rcases delDead_idxC l hl p hp q (i + 1) t (by omega) h with ⟨e, g⟩ | ⟨k, e, k1, k2, k3, k4⟩
        · refine .inl ⟨e, fun y hy => ?_⟩
          rcases List.mem_cons.1 hy with rfl | hy
          · exact hb
          · exact g y hy
        · refine .inr ⟨k, e, by omega, k2, k3, fun y hy => ?_⟩
          rw [show k - i = (k - (i + 1)) + 1 by omega, List.take_succ_cons] at hy
          rcases List.mem_cons.1 hy with rfl | hy
          · exact hb
          · exact k4 y hy
    · rw [if_neg (by simpa using hi)] at h
      cases h
      refine .inl ⟨rfl, ?_⟩
      rw [List.drop_eq_nil_of_le (by omega)]
      intro x hx; cases hx

theorem delDead_loopC (l0 : List Str) (hl : l0.length ≤ 100000000) (p : Str → Bool) (hp : ∀ x, flow_DeadNodes_1 n x b1 b2 = some (p x)) : ∀ (q j i : Nat) (l l' : List Str), l.length = l0.length → i ≤ j → j ≤ l0.length → l.drop j = l0.drop j → l.take i = (l0.take j).filter (fun x => !p x) →
    slices_DeleteFunc_string_c107_L1 n b1 b2 q l (i : Int) (j : Int) = some l' → l' = l0.filter (fun x => !p x)
  | 0, j, i, l, l', _, _, _, _, _, h => by rw [slices_DeleteFunc_string_c107_L1] at h; cases h
  | q + 1, j, i, l, l', hll, hij, hj, hd, ht, h => by
    rw [slices_DeleteFunc_string_c107_L1] at h
    by_cases hk : j < l.length
    · obtain ⟨x, hx⟩ := get_ex hk
      obtain ⟨y, hy⟩ := get_ex (l := l) (i := i) (by omega)
      have hx0 : l0[j]? = some x := by
        have e1 : (l.drop j)[0]? = l[j]? := by simp
        have e2 : (l0.drop j)[0]? = l0[j]? := by simp
        rw [← e2, ← hd, e1]; exact hx
      have hd1 : l.drop (j + 1) = l0.drop (j + 1) := by
        have := congrArg List.tail hd
        simpa [List.tail_drop] using this
      have ht1 : l0.take (j + 1) = l0.take j ++ [x] := by rw [List.take_add_one, hx0]; rfl
      rw [if_pos (by simpa using hk), atI_nat, hx, Option.bind_some, hp, Option.bind_some] at h
      cases hb : p x with
      | true =>
        rw [hb, if_neg (by simp), wrapN (by omega)] at h
        refine delDead_loopC l0 hl p hp q (j + 1) i l l' hll (by omega) (by omega) hd1 ?_ h
        rw [ht1, List.filter_append, ht]; simp [hb]
      | false =>
        rw [hb, if_pos (by simp), atI_nat, hy, Option.bind_some, Option.bind_some, wrapN (by omega), wrapN (by omega), Int.toNat_natCast] at h
        refine delDead_loopC l0 hl p hp q (j + 1) (i + 1) _ l' (by rw [List.length_set]; exact hll) (by omega) (by omega) ?_ ?_ h
        · rw [List.drop_set_of_lt (by omega)]; exact hd1
        · rw [ht1, List.filter_append, ← ht, List.take_add_one, List.take_set_of_le (Nat.le_refl _), List.getElem?_set_self (by omega)]; simp [hb]
    · have hje : j = l0.length := by omega
      rw [if_neg (by simpa using hk), Int.toNat_natCast, if_pos (by omega), if_pos (by omega), if_pos (by omega)] at h
      cases h
      rw [ht, hje, List.take_length]

theorem delDead_exact (l l' : List Str) (hl : l.length ≤ 100000000) (p : Str → Bool) (hp : ∀ x, flow_DeadNodes_1 n x b1 b2 = some (p x)) (h : slices_DeleteFunc_string_c107 n l b1 b2 = some l') : l' = l.filter (fun x => !p x) := by
  rw [slices_DeleteFunc_string_c107] at h
  obtain ⟨t, h1, h⟩ := Option.bind_eq_some_iff.1 h
  rw [slices_IndexFunc_string_c107_v1, show (0 : Int) = ((0 : Nat) : Int) from rfl] at h1
  rcases delDead_idxC n b1 b2 l hl p hp n 0 t (by omega) h1 with ⟨rfl, g⟩ | ⟨k, rfl, k1, k2, ⟨x, hx, hpx⟩, k4⟩
  · rw [if_pos (by decide)] at h
    cases h
    rw [List.drop_zero] at g
    rw [List.filter_eq_self.2]
    intro a ha; simp [g a ha]
  · rw [if_neg (by simp), wrapN (by omega)] at h
    refine delDead_loopC n b1 b2 l hl p hp n (k + 1) k l l' rfl (by omega) (by omega) rfl ?_ h
    rw [List.drop_zero, Nat.sub_zero] at k4
    rw [List.take_add_one, hx, List.filter_append]
    have : (l.take k).filter (fun x => !p x) = l.take k := List.filter_eq_self.2 fun a ha => by simp [k4 a ha]
    rw [this]; simp [hpx]
end

theorem Reachable_exact (n : Nat) (r : ApiRung) (hs : r.Contacts.length ≤ 1000000) (hn : 4 * r.Contacts.length + 20 ≤ n) : ∃ l, graph_Reachable n r (⟨#[76]⟩ : Str) = some l ∧ l.length ≤ 2 + 2 * r.Contacts.length ∧ ∀ x, x ∈ l ↔ IsNode r.Contacts x ∧ RchReachable r.Contacts (⟨#[76]⟩ : Str) x := by
  obtain ⟨l, e1, e2⟩ := Reachable_ex n r hs hn
  refine ⟨l, e1, e2, ?_⟩
  obtain ⟨ns, a1, a2, a3⟩ := nodes_exact n r (by omega) hs
  have hlen := a2.len
  have hmem : (⟨#[76]⟩ : Str) ∈ ns := a2.L
  rw [graph_Reachable, graph_gather_c136, a1, Option.bind_some, containsS_eq n ns _ (by omega) (by omega), Option.bind_some, if_neg (by simp [hmem])] at e1
  obtain ⟨l2, e1, h3⟩ := Option.bind_eq_some_iff.1 e1
  cases h3
  obtain ⟨m, h1, e1⟩ := Option.bind_eq_some_iff.1 e1
  obtain ⟨l3, e1, h3⟩ := Option.bind_eq_some_iff.1 e1
  cases h3
  obtain ⟨v1, v2, v3⟩ := visitReachableC r hs n _ [] m h1
  have hf := delSeen_exact n m ns l (by omega) (fun x => !(hasM m x)) (fun x => rfl) e1
  have hiff : ∀ x, hasM m x = true ↔ RchReachable r.Contacts (⟨#[76]⟩ : Str) x := fun x => by
    constructor
    · intro h
      rcases v3 x h with g | g
      · cases g
      · exact g
    · intro h
      induction h with
      | refl => exact v2
      | step h1 _ ih => exact v1.closed _ ih rfl _ h1 rfl
  intro x
  rw [hf, List.mem_filter, a3, ← hiff]
  simp

theorem Ancestors_exact (n : Nat) (r : ApiRung) (hs : r.Contacts.length ≤ 1000000) (hn : 4 * r.Contacts.length + 20 ≤ n) : ∃ l, graph_Ancestors n r (⟨#[82]⟩ : Str) = some l ∧ l.length ≤ 2 + 2 * r.Contacts.length ∧ ∀ x, x ∈ l ↔ IsNode r.Contacts x ∧ RchAncestors r.Contacts (⟨#[82]⟩ : Str) x := by
  obtain ⟨l, e1, e2⟩ := Ancestors_ex n r hs hn
  refine ⟨l, e1, e2, ?_⟩
  obtain ⟨ns, a1, a2, a3⟩ := nodes_exact n r (by omega) hs
  have hlen := a2.len
  have hmem : (⟨#[82]⟩ : Str) ∈ ns := a2.R
  rw [graph_Ancestors, graph_gather_c138, a1, Option.bind_some, containsS_eq n ns _ (by omega) (by omega), Option.bind_some, if_neg (by simp [hmem])] at e1
  obtain ⟨l2, e1, h3⟩ := Option.bind_eq_some_iff.1 e1
  cases h3
  obtain ⟨m, h1, e1⟩ := Option.bind_eq_some_iff.1 e1
  obtain ⟨l3, e1, h3⟩ := Option.bind_eq_some_iff.1 e1
  cases h3
  obtain ⟨v1, v2, v3⟩ := visitAncestorsC r hs n _ [] m h1
  have hf := delSeen_exact n m ns l (by omega) (fun x => !(hasM m x)) (fun x => rfl) e1
  have hiff : ∀ x, hasM m x = true ↔ RchAncestors r.Contacts (⟨#[82]⟩ : Str) x := fun x => by
    constructor
    · intro h
      rcases v3 x h with g | g
      · cases g
      · exact g
    · intro h
      induction h with
      | refl => exact v2
      | step h1 _ ih => exact v1.closed _ ih rfl _ h1 rfl
  intro x
  rw [hf, List.mem_filter, a3, ← hiff]
  simp

open Classical in
/-- What the check of a rung's graph answers. -/
noncomputable def flowS (cs : List ApiContact) : Int :=
  if cs = [] then 4 else if ¬ Acyc cs then 12 else if ∃ x, IsNode cs x ∧ ¬ (RchReachable cs strLL x ∧ RchAncestors cs strRR x) then 13 else 0

theorem flow_exact (n : Nat) (r : ApiRung) (hs : r.Contacts.length ≤ 1000000) (hn : 4 * r.Contacts.length + 20 ≤ n) : flow_Check n r = some (flowS r.Contacts) := by
  rw [flow_Check]
  by_cases h0 : r.Contacts = []
  · rw [flowS, if_pos h0, if_pos (by simp [h0])]
  rw [flowS, if_neg h0, if_neg (by simpa using h0)]
  obtain ⟨s, e, a1, a2⟩ := TopoSort_exact n r hs (by omega)
  have hcode : e = 0 ∨ e = 12 := by
    have a1' := a1
    rw [graph_TopoSort] at a1'
    obtain ⟨ns, _, h⟩ := Option.bind_eq_some_iff.1 a1'
    exact topo_code n r n ns [] [] s e h
  rw [a1, Option.bind_some]
  dsimp only
  by_cases he : e = 0
  · rw [if_neg (by simpa using he), if_neg (fun h => h (a2.1 he))]
    obtain ⟨l1, b1, b1', b1''⟩ := Reachable_exact n r hs hn
    obtain ⟨l2, b2, b2', b2''⟩ := Ancestors_exact n r hs hn
    obtain ⟨ns, c1, c2, c3⟩ := nodes_exact n r (by omega) hs
    have hlen := c2.len
    have hp : ∀ x, flow_DeadNodes_1 n x l1 l2 = some (decide (x ∈ l1) && decide (x ∈ l2)) := fun x => by
      rw [flow_DeadNodes_1, containsS_eq n l1 x (by omega) (by omega), Option.bind_some]
      by_cases h : x ∈ l1
      · rw [if_pos (by simpa using h), containsS_eq n l2 x (by omega) (by omega), Option.bind_some]; simp [h]
      · rw [if_neg (by simpa using h)]; simp [h]
    obtain ⟨l, d1, _⟩ := delDead_eq n l1 l2 ns (by omega) (by omega) (fun x => ⟨_, hp x⟩)
    have hf := delDead_exact n l1 l2 ns l (by omega) _ hp d1
    rw [flow_DeadNodes, b1, Option.bind_some, b2, Option.bind_some, c1, Option.bind_some, d1, Option.bind_some, Option.bind_some]
    have hiff : (0 < l.length) ↔ ∃ x, IsNode r.Contacts x ∧ ¬ (RchReachable r.Contacts strLL x ∧ RchAncestors r.Contacts strRR x) := by
      constructor
      · intro h
        obtain ⟨x, hx⟩ := List.exists_mem_of_length_pos h
        rw [hf, List.mem_filter, c3] at hx
        refine ⟨x, hx.1, fun ⟨q1, q2⟩ => ?_⟩
        have := hx.2
        simp [(b1'' x).2 ⟨hx.1, q1⟩, (b2'' x).2 ⟨hx.1, q2⟩] at this
      · rintro ⟨x, h1, h2⟩
        refine List.length_pos_of_mem (a := x) ?_
        rw [hf, List.mem_filter, c3]
        refine ⟨h1, ?_⟩
        by_cases q1 : x ∈ l1
        · by_cases q2 : x ∈ l2
          · exact absurd ⟨((b1'' x).1 q1).2, ((b2'' x).1 q2).2⟩ h2
          · simp [q2]
        · simp [q1]
    by_cases hl : 0 < l.length
    · rw [if_pos (by simpa using hl), if_pos (hiff.1 hl)]
    · rw [if_neg (by simpa using hl), if_neg (fun h => hl (hiff.2 h))]
  · rw [if_pos (by simpa using he), if_pos (fun h => he (a2.2 h))]
    rcases hcode with h | h
    · exact absurd h he
    · rw [h]
end Go.G

namespace Go.G
open Go.Av

theorem flow_rank {cs : List ApiContact} (h : flowS cs = 0) : ∃ rank : Str → Nat, ∀ c ∈ cs, rank c.From < rank c.To := by
  unfold flowS at h
  split at h
  · cases h
  · split at h
    · cases h
    · rename_i q; exact Classical.not_not.1 q

end Go.G

namespace Go.G
open Go.Av

mutual
def ofT : TreeTree → Ref14Tree
  | .mk K N ks => .mk K N (ofL ks)
def ofL : List TreeTree → List Ref14Tree
  | [] => []
  | k :: ks => ofT k :: ofL ks
end
theorem ofL_map : ∀ ks : List TreeTree, ofL ks = ks.map ofT
  | [] => rfl
  | k :: ks => by rw [ofL, ofL_map ks]; rfl
theorem ofT_Kind (t : TreeTree) : (ofT t).Kind = t.Kind := by cases t; rfl
theorem ofT_N (t : TreeTree) : (ofT t).N = t.N := by cases t; rfl
theorem ofT_Kids (t : TreeTree) : (ofT t).Kids = t.Kids.map ofT := by cases t; exact ofL_map _
theorem ofT_mk (K N : Int) (ks : List TreeTree) : ofT (.mk K N ks) = .mk K N (ks.map ofT) := by rw [ofT, ofL_map]

theorem atI_map {α β : Type} (f : α → β) (l : List α) (i : Nat) {x : α} (h : l[i]? = some x) : atI (l.map f) (i : Int) = some (f x) := by rw [atI_nat]; simp [h]

theorem of_loop (t : TreeTree) (slf : TreeTree → Option Ref14Tree) (hs : t.Kids.length ≤ 1000000000) (hf : ∀ k ∈ t.Kids, slf k = some (ofT k)) : ∀ (k i : Nat) (acc : List Ref14Tree), acc.length = i → i ≤ t.Kids.length → t.Kids.length - i < k →
    law14_Of_L1 t slf k (i : Int) acc = some (.mk t.Kind t.N (acc ++ (t.Kids.drop i).map ofT))
  | 0, i, acc, ha, h, hk => absurd hk (Nat.not_lt_zero _)
  | k + 1, i, acc, ha, h, hk => by
    rw [law14_Of_L1]
    by_cases hi : i < t.Kids.length
    · obtain ⟨x, hx⟩ := get_ex hi
      rw [if_pos (by simpa using hi), atI_nat, hx, Option.bind_some, hf x (List.mem_of_getElem? hx), Option.bind_some, if_pos (by simp; omega), Option.bind_some, wrapN (by omega), drop_cons hx]
      rw [of_loop t slf hs hf k (i + 1) (acc ++ [ofT x]) (by simp [ha]) (by omega) (by omega)]
      simp
    · rw [if_neg (by simpa using hi), List.drop_eq_nil_of_le (by omega)]; simp

theorem law14_Of_eq : ∀ (t : TreeTree) (n : Nat), szT t ≤ 1000000000 → szT t < n → law14_Of n t = some (ofT t) := by
  intro t
  induction t using tree_ind with
  | h K N ks ih =>
    intro n hb hn
    obtain ⟨m, rfl, hlen, hk⟩ := szT_kids hn
    have hl : ks.length ≤ 1000000000 := by have := szL_len ks; simp only [szT] at hb; omega
    have hkb : ∀ k ∈ ks, szT k ≤ 1000000000 := fun k hk => by have := szL_mem hk; simp only [szT] at hb; omega
    rw [law14_Of]
    have := of_loop (.mk K N ks) (law14_Of m) (by simpa [TreeTree_Kids_mk] using hl) (fun k hk' => ih k hk' m (hkb k hk') (hk k hk')) m 0 [] rfl (by omega) (by simpa [TreeTree_Kids_mk] using hlen)
    rw [show (0 : Int) = ((0 : Nat) : Int) from rfl, this, ofT_mk]
    simp [TreeTree_Kids_mk, TreeTree_Kind_mk, TreeTree_N_mk]

theorem ref_leaves_loop (t : TreeTree) (slf : Ref14Tree → Option (List Int)) (hs : szL t.Kids ≤ 500000000) (hf : ∀ k ∈ t.Kids, slf (ofT k) = some (lv k)) : ∀ (k i : Nat) (acc : List Int), acc.length + szL (t.Kids.drop i) ≤ 1000000000 → i ≤ t.Kids.length → t.Kids.length - i < k →
    ref14_Leaves_L2 (ofT t) slf k acc (i : Int) = some (acc ++ lvs (t.Kids.drop i))
  | 0, i, acc, ha, h, hk => absurd hk (Nat.not_lt_zero _)
  | k + 1, i, acc, ha, h, hk => by
    have hl := szL_len t.Kids
    rw [ref14_Leaves_L2, ofT_Kids]
    by_cases hi : i < t.Kids.length
    · obtain ⟨x, hx⟩ := get_ex hi
      have hx2 := lv_len x
      rw [drop_cons hx, szL] at ha
      rw [if_pos (by simpa using hi), atI_map ofT _ _ hx, Option.bind_some, hf x (List.mem_of_getElem? hx), Option.bind_some, if_pos (by omega), Option.bind_some, wrapN (by omega), drop_cons hx, lvs]
      rw [ref_leaves_loop t slf hs hf k (i + 1) (acc ++ lv x) (by rw [List.length_append]; omega) (by omega) (by omega), List.append_assoc]
    · rw [if_neg (by simpa using hi), List.drop_eq_nil_of_le (by omega)]; simp [lvs]

theorem ref14_Leaves_eq : ∀ (t : TreeTree) (n : Nat), szT t ≤ 500000000 → szT t < n → ref14_Leaves n (ofT t) = some (lv t) := by
  intro t
  induction t using tree_ind with
  | h K N ks ih =>
    intro n hb hn
    obtain ⟨m, rfl, hlen, hk⟩ := szT_kids hn
    have hsz : szT (.mk K N ks) = 1 + szL ks := by rw [szT]
    have hkb : ∀ k ∈ ks, szT k ≤ 500000000 := fun k hk => by have := szL_mem hk; omega
    have hloop := ref_leaves_loop (.mk K N ks) (ref14_Leaves m) (by rw [TreeTree_Kids_mk]; omega) (fun k hk' => ih k hk' m (hkb k hk') (hk k hk')) m 0 [] (by rw [TreeTree_Kids_mk, List.drop_zero, List.length_nil]; omega) (by omega) (by simpa [TreeTree_Kids_mk] using hlen)
    rw [TreeTree_Kids_mk, List.drop_zero, List.nil_append, show ((0 : Nat) : Int) = 0 from rfl] at hloop
    rw [ref14_Leaves, lv]
    simp only [ofT_Kind, ofT_N, TreeTree_Kind_mk, TreeTree_N_mk, ref14_Leaves_J1, Option.bind_some]
    rw [hloop]
    by_cases h0 : K = 0
    · simp [h0]
    by_cases h1 : K = 1
    · simp [h1]
    by_cases h2 : K = 2
    · simp [h2]
    · simp [h0, h1, h2]

theorem mk_eq (K K' N N' : Int) (ks ks' : List TreeTree) : (TreeTree.mk K N ks = .mk K' N' ks') ↔ K = K' ∧ N = N' ∧ ks = ks' := by
  constructor
  · intro h; injection h with h1 h2 h3; exact ⟨h1, h2, h3⟩
  · rintro ⟨rfl, rfl, rfl⟩; rfl

theorem ref_eqf_loop (a b : TreeTree) (slf : Ref14Tree → Ref14Tree → Option Bool) (hl : a.Kids.length = b.Kids.length) (hs : a.Kids.length ≤ 1000000000) (hf : ∀ x ∈ a.Kids, ∀ y, slf (ofT x) (ofT y) = some (decide (x = y))) : ∀ (k i : Nat), i ≤ a.Kids.length → a.Kids.length - i < k →
    ref14_Equal_L1 (ofT a) (ofT b) slf k (i : Int) = some (decide (a.Kids.drop i = b.Kids.drop i))
  | 0, i, h, hk => absurd hk (Nat.not_lt_zero _)
  | k + 1, i, h, hk => by
    rw [ref14_Equal_L1, ofT_Kids, ofT_Kids]
    by_cases hi : i < a.Kids.length
    · obtain ⟨x, hx⟩ := get_ex hi
      obtain ⟨y, hy⟩ := get_ex (l := b.Kids) (i := i) (by omega)
      rw [if_pos (by simpa using hi), atI_map ofT _ _ hx, atI_map ofT _ _ hy, Option.bind_some, Option.bind_some, hf x (List.mem_of_getElem? hx), Option.bind_some, drop_cons hx, drop_cons hy, wrapN (by omega)]
      by_cases e : x = y
      · rw [if_neg (by simp [e]), ref_eqf_loop a b slf hl hs hf k (i + 1) (by omega) (by omega)]; simp [e]
      · rw [if_pos (by simp [e])]; simp [e]
    · rw [if_neg (by simpa using hi), List.drop_eq_nil_of_le (by omega), List.drop_eq_nil_of_le (by omega)]; simp
theorem ref14_Equal_eq : ∀ (a b : TreeTree) (n : Nat), szT a ≤ 1000000000 → szT a < n → ref14_Equal n (ofT a) (ofT b) = some (decide (a = b)) := by
  intro a
  induction a using tree_ind with
  | h K N ks ih =>
    intro b n hb hn
    obtain ⟨K', N', js⟩ := b
    obtain ⟨m, rfl, hlen, hk⟩ := szT_kids hn
    have hsz : szT (.mk K N ks) = 1 + szL ks := by rw [szT]
    have hl := szL_len ks
    have hkb : ∀ k ∈ ks, szT k ≤ 1000000000 := fun k hk => by have := szL_mem hk; omega
    rw [ref14_Equal]
    simp only [ofT_Kind, ofT_N, ofT_Kids, List.length_map, TreeTree_Kind_mk, TreeTree_N_mk, TreeTree_Kids_mk, mk_eq]
    by_cases h1 : K = K'
    · by_cases h2 : N = N'
      · subst h1; subst h2
        simp only [bne_self_eq_false, Bool.false_eq_true, if_false, true_and]
        by_cases h3 : ks.length = js.length
        · rw [if_neg (by simp [h3])]
          have := ref_eqf_loop (.mk K N ks) (.mk K N js) (ref14_Equal m) (by simpa [TreeTree_Kids_mk] using h3) (by rw [TreeTree_Kids_mk]; omega) (fun x hx y => ih x hx y m (hkb x hx) (hk x hx)) m 0 (by omega) (by rw [TreeTree_Kids_mk]; omega)
          rw [show ((0 : Nat) : Int) = 0 from rfl, List.drop_zero, List.drop_zero, TreeTree_Kids_mk, TreeTree_Kids_mk] at this
          rw [this]
        · have : ¬ ks = js := fun e => h3 (by rw [e])
          rw [if_pos (by simp; omega)]; simp [this]
      · simp [h1, h2]
    · simp [h1]


/-! ### the least leaf -/
theorem imin_self (a : Int) : imin a a = a := by unfold imin; split <;> rfl
theorem rleast_loop (l : List Int) (hs : l.length ≤ 1000000000) : ∀ (m i : Nat) (x : Int), i ≤ l.length → l.length - i < m → ref15_least_L1 l m (i : Int) x = some ((l.drop i).foldl imin x)
  | 0, i, x, h, hm => absurd hm (Nat.not_lt_zero _)
  | m + 1, i, x, h, hm => by
    rw [ref15_least_L1]
    by_cases hi : i < l.length
    · obtain ⟨y, hy⟩ := get_ex hi
      rw [if_pos (by simpa using hi), atI_nat, hy, Option.bind_some, drop_cons hy, List.foldl_cons, wrapN (by omega)]
      by_cases hlt : y < x
      · rw [if_pos (by simpa using hlt), rleast_loop l hs m (i + 1) _ (by omega) (by omega), imin, if_pos hlt]
      · rw [if_neg (by simpa using hlt), rleast_loop l hs m (i + 1) _ (by omega) (by omega), imin, if_neg hlt]
    · rw [if_neg (by simpa using hi), List.drop_eq_nil_of_le (by omega)]; rfl
theorem rleast_eq (n : Nat) (t : TreeTree) (h : lv t ≠ []) (hb : szT t ≤ 100000000) (hn : szT t < n) : ref15_least n (ofT t) = some (leastT t) := by
  have hl := lv_len t
  rw [ref15_least, ref14_Leaves_eq t n (by omega) hn, Option.bind_some]
  unfold leastT
  cases he : lv t with
  | nil => exact absurd he h
  | cons x l =>
    rw [he] at hl
    rw [show (0 : Int) = ((0 : Nat) : Int) from rfl, atI_nat]
    simp only [List.getElem?_cons_zero, Option.bind_some]
    rw [rleast_loop (x :: l) (by omega) n 0 x (by omega) (by omega), List.drop_zero, List.foldl_cons, imin_self]
    rfl

/-! ### joining -/
def insR (x : TreeTree) : List TreeTree → List TreeTree
  | [] => [x]
  | b :: l => if leastT b < leastT x then b :: insR x l else x :: b :: l
def AscT (l : List TreeTree) : Prop := l.Pairwise fun a b => leastT a ≤ leastT b
theorem insR_perm (x : TreeTree) : ∀ l : List TreeTree, (insR x l).Perm (x :: l)
  | [] => .refl _
  | b :: l => by
    rw [insR]
    split
    · exact ((insR_perm x l).cons b).trans (List.Perm.swap _ _ _)
    · exact .refl _
theorem insR_asc (x : TreeTree) : ∀ l : List TreeTree, AscT l → AscT (insR x l)
  | [], _ => by simp [insR, AscT]
  | b :: l, h => by
    have h' := List.pairwise_cons.1 h
    rw [insR]
    by_cases hlt : leastT b < leastT x
    · rw [if_pos hlt]
      refine List.pairwise_cons.2 ⟨fun c hc => ?_, insR_asc x l h'.2⟩
      rcases List.mem_cons.1 ((insR_perm x l).subset hc) with rfl | hc
      · omega
      · exact h'.1 c hc
    · rw [if_neg hlt]
      refine List.pairwise_cons.2 ⟨fun c hc => ?_, h⟩
      rcases List.mem_cons.1 hc with rfl | hc
      · omega
      · have := h'.1 c hc; omega
theorem asc_isort {l js : List TreeTree} (ha : AscT l) (hp : l.Perm js) (hd : (js.map leastT).Nodup) : l = isortM ltT js := by
  have p := sortP_of hd
  rw [← ltM_cfT]
  refine p.unique (fun x hx => hp.subset hx) (hp.trans (isortM_perm _ js).symm) ?_ p.asc
  refine ha.imp fun h => ?_
  rw [ltM_cfT]
  simp only [ltT, decide_eq_false_iff_not]
  omega

section
variable (n : Nat)
/-- Trees that are small. -/
def Sm (n : Nat) (l : List TreeTree) : Prop := l.length ≤ 1000000 ∧ ∀ t ∈ l, lv t ≠ [] ∧ szT t ≤ 100000000 ∧ szT t < n

theorem ins_loop (all out : List TreeTree) (hall : Sm n all) (hout : Sm n out) (j : Nat) (x : TreeTree) (hx : all[j]? = some x) (R : List Ref14Tree → Int → Option Ref14Tree) : ∀ (m i : Nat), i ≤ out.length → out.length - i < m → (∀ b ∈ out.take i, leastT b < leastT x) →
    ref15_join_L4 n (all.map ofT) (out.map ofT) (j : Int) R m (i : Int) = R ((insR x out).map ofT) ((j + 1 : Nat) : Int)
  | 0, i, h, hm, _ => absurd hm (Nat.not_lt_zero _)
  | m + 1, i, h, hm, ht => by
    have hjl := get_lt hx
    have hxs := hall.2 x (List.mem_of_getElem? hx)
    have hl1 := hall.1; have hl2 := hout.1
    have hsplit : ∀ (l : List TreeTree) (i : Nat), i ≤ l.length → (∀ b ∈ l.take i, leastT b < leastT x) → (∀ b, (l.drop i).head? = some b → ¬ leastT b < leastT x) → insR x l = l.take i ++ x :: l.drop i := by
      intro l
      induction l with
      | nil => intro i _ _ _; simp [insR]
      | cons b l ih =>
        intro i hi h1 h2
        match i with
        | 0 =>
          rw [insR, if_neg (h2 b rfl)]; rfl
        | i + 1 =>
          rw [insR, if_pos (h1 b (by simp)), ih i (by simpa using hi) (fun c hc => h1 c (by simp [hc])) h2]; rfl
    have hJ3 : (∀ b, (out.drop i).head? = some b → ¬ leastT b < leastT x) → ref15_join_J3 (all.map ofT) (out.map ofT) (j : Int) R (i : Int) = R ((insR x out).map ofT) ((j + 1 : Nat) : Int) := fun hh => by
      rw [ref15_join_J3, Int.toNat_natCast, if_pos (by rw [List.length_map]; omega), if_pos (by simp; omega), Option.bind_some, atI_map ofT all j hx, Option.bind_some, if_pos (by simp; omega), Option.bind_some, if_pos (by rw [List.length_map]; omega), if_pos (by simp; omega), Option.bind_some, wrapN (by omega), hsplit out i h ht hh]
      simp
    rw [ref15_join_L4, List.length_map]
    by_cases hi : i < out.length
    · obtain ⟨b, hb⟩ := get_ex hi
      have hbs := hout.2 b (List.mem_of_getElem? hb)
      rw [if_pos (by simpa using hi), atI_map ofT out i hb, Option.bind_some, rleast_eq n b hbs.1 hbs.2.1 hbs.2.2, Option.bind_some, atI_map ofT all j hx, Option.bind_some, rleast_eq n x hxs.1 hxs.2.1 hxs.2.2, Option.bind_some]
      by_cases hlt : leastT b < leastT x
      · rw [if_pos (by simpa using hlt), wrapN (by omega)]
        refine ins_loop all out hall hout j x hx R m (i + 1) (by omega) (by omega) fun c hc => ?_
        rw [List.take_add_one, hb] at hc
        rcases List.mem_append.1 hc with hc | hc
        · exact ht c hc
        · simp at hc; subst hc; exact hlt
      · rw [if_neg (by simpa using hlt)]
        refine hJ3 fun c hc => ?_
        rw [drop_cons hb] at hc
        simp at hc; subst hc; exact hlt
    · rw [if_neg (by simpa using hi)]
      refine hJ3 fun c hc => ?_
      rw [List.drop_eq_nil_of_le (by omega)] at hc; cases hc

theorem ins_all (all : List TreeTree) (hall : Sm n all) (hn : 2 * all.length + 10 < n) : ∀ (m j : Nat) (out : List TreeTree), j ≤ all.length → all.length - j < m → out.Perm (all.take j) → AscT out →
    ∃ l, ref15_join_L2 n (all.map ofT) m (out.map ofT) (j : Int) = some (.mk 2 0 (l.map ofT)) ∧ l.Perm all ∧ AscT l
  | 0, j, out, h, hm, _, _ => absurd hm (Nat.not_lt_zero _)
  | m + 1, j, out, h, hm, hp, ha => by
    have hl1 := hall.1
    have hol : out.length ≤ all.length := by rw [hp.length_eq, List.length_take]; omega
    have hout : Sm n out := ⟨by omega, fun t ht => hall.2 t (List.mem_of_mem_take (hp.subset ht))⟩
    rw [ref15_join_L2, List.length_map]
    by_cases hj : j < all.length
    · obtain ⟨x, hx⟩ := get_ex hj
      rw [if_pos (by simpa using hj), show (0 : Int) = ((0 : Nat) : Int) from rfl, ins_loop n all out hall hout j x hx _ n 0 (by omega) (by omega) (by simp)]
      refine ins_all all hall hn m (j + 1) (insR x out) (by omega) (by omega) ?_ (insR_asc x out ha)
      rw [List.take_add_one, hx]
      exact (insR_perm x out).trans ((hp.cons x).trans (List.perm_append_comm (l₁ := [x])))
    · rw [if_neg (by simpa using hj)]
      exact ⟨out, rfl, by rw [List.take_of_length_le (by omega)] at hp; exact hp, ha⟩

theorem rflat_loop (K : Int) (l : List TreeTree) (hl2 : l.length = 2) (hs : ∀ t ∈ l, t.Kids.length ≤ 1000000) : ∀ (m i : Nat) (acc : List TreeTree), i ≤ 2 → 2 - i < m → acc.length ≤ 1000001 * i → ref15_join_L5 n K (l.map ofT) m (acc.map ofT) (i : Int) = ref15_join_J1 n K ((acc ++ (l.drop i).flatMap (joinK K)).map ofT)
  | 0, i, acc, h, hm, _ => absurd hm (Nat.not_lt_zero _)
  | m + 1, i, acc, h, hm, ha => by
    rw [ref15_join_L5]
    by_cases hi : i < 2
    · obtain ⟨x, hx⟩ := get_ex (l := l) (i := i) (by omega)
      have hxs := hs x (List.mem_of_getElem? hx)
      rw [if_pos (by simp; omega), atI_map ofT l i hx, Option.bind_some, ofT_Kind, ofT_Kids, drop_cons hx, List.flatMap_cons]
      by_cases hk : x.Kind = K
      · have e : joinK K x = x.Kids := by rw [joinK, if_pos hk]
        rw [if_pos (by simpa using hk), if_pos (by simp; omega), Option.bind_some, wrapN (by omega), ← List.map_append, rflat_loop K l hl2 hs m (i + 1) _ (by omega) (by omega) (by simp; omega), e, List.append_assoc]
      · have e : joinK K x = [x] := by rw [joinK, if_neg hk]
        have e2 : acc.map ofT ++ [ofT x] = (acc ++ [x]).map ofT := by simp
        rw [if_neg (by simpa using hk), if_pos (by simp; omega), Option.bind_some, wrapN (by omega), e2, rflat_loop K l hl2 hs m (i + 1) _ (by omega) (by omega) (by simp; omega), e, List.append_assoc]
    · rw [if_neg (by simp; omega), List.drop_eq_nil_of_le (by omega)]; simp

theorem rjoin2_eq (hn : 1000000 ≤ n) (a b : TreeTree) (hs : Sm n (joinK 2 a ++ joinK 2 b)) (ha : a.Kids.length ≤ 1000) (hb : b.Kids.length ≤ 1000) (hd : ((joinK 2 a ++ joinK 2 b).map leastT).Nodup) : ref15_join n 2 (ofT a) (ofT b) = some (ofT (.mk 2 0 (isortM ltT (joinK 2 a ++ joinK 2 b)))) := by
  have hkl : ∀ c : TreeTree, c.Kids.length ≤ 1000 → (joinK 2 c).length ≤ 1001 := fun c hc => by
    unfold joinK
    split
    · omega
    · simp
  have h1 := hkl a ha; have h2 := hkl b hb
  have e0 : [ofT a, ofT b] = [a, b].map ofT := rfl
  rw [ref15_join, Option.bind_some, e0, show (0 : Int) = ((0 : Nat) : Int) from rfl, show ([] : List Ref14Tree) = ([] : List TreeTree).map ofT from rfl, rflat_loop n 2 [a, b] rfl (fun t ht => by
    rcases List.mem_cons.1 ht with rfl | ht
    · omega
    · rw [List.mem_singleton] at ht; subst ht; omega) n 0 [] (by omega) (by omega) (by simp)]
  have e1 : ([] : List TreeTree) ++ ([a, b].drop 0).flatMap (joinK 2) = joinK 2 a ++ joinK 2 b := by simp
  rw [e1, ref15_join_J1, if_neg (by decide), show (0 : Int) = ((0 : Nat) : Int) from rfl, show ([] : List Ref14Tree) = ([] : List TreeTree).map ofT from rfl]
  obtain ⟨l, r1, r2, r3⟩ := ins_all n (joinK 2 a ++ joinK 2 b) hs (by simp; omega) n 0 [] (by omega) (by simp; omega) (by simp) (by simp [AscT])
  rw [r1, asc_isort r3 r2 hd, ofT_mk]
  rfl

/-! ### joining in series -/
theorem rjoin1_eq (hn : 1000000 ≤ n) (a b : TreeTree) (ha : a.Kids.length ≤ 1000) (hb : b.Kids.length ≤ 1000) : ref15_join n 1 (ofT a) (ofT b) = some (ofT (.mk 1 0 (joinK 1 a ++ joinK 1 b))) := by
  have e0 : [ofT a, ofT b] = [a, b].map ofT := rfl
  rw [ref15_join, Option.bind_some, e0, show (0 : Int) = ((0 : Nat) : Int) from rfl, show ([] : List Ref14Tree) = ([] : List TreeTree).map ofT from rfl, rflat_loop n 1 [a, b] rfl (fun t ht => by
    rcases List.mem_cons.1 ht with rfl | ht
    · omega
    · rw [List.mem_singleton] at ht; subst ht; omega) n 0 [] (by omega) (by omega) (by simp)]
  have e1 : ([] : List TreeTree) ++ ([a, b].drop 0).flatMap (joinK 1) = joinK 1 a ++ joinK 1 b := by simp
  rw [e1, ref15_join_J1, if_pos (by decide), ofT_mk]
  rfl
end
end Go.G

/- What the check of a rung's graph answers, exactly. No law is proved here. -/
import Derived.Test.YtaebdeidbibfkaaGreatDoorZLawM12
import Derived.Test.YtaebdeidbibfkaaGreatDoorZGc
set_option linter.unusedSimpArgs false
set_option linter.unusedVariables false
set_option linter.unusedSectionVars false
namespace Go.G
open Go.Av

/-! ### nodes -/
/-- The nodes of a list of contacts. -/
def IsNode (cs : List ApiContact) (x : Str) : Prop := x = strLL ∨ x = strRR ∨ ∃ c ∈ cs, x = c.From ∨ x = c.To

theorem nodes2_sub (P : Str → Prop) (p : Int) (R : Int → List Str → List (Str × Bool) → Option (List Str)) (pr : List Str) (hpr : ∀ x ∈ pr, P x) (res : List Str)
    (hR : ∀ l m, (∀ x ∈ l, P x) → R (IntKind.i64.wrap (p + 1)) l m = some res → ∀ x ∈ res, P x) : ∀ (q k : Nat) (l : List Str) (m : List (Str × Bool)), (∀ x ∈ l, P x) → k ≤ pr.length → pr.length ≤ 1000 → graph_Nodes_o0_L2 p R pr q (k : Int) l m = some res → ∀ x ∈ res, P x
  | 0, k, l, m, _, _, _, h => by rw [graph_Nodes_o0_L2] at h; cases h
  | q + 1, k, l, m, hl, hk0, hp, h => by
    rw [graph_Nodes_o0_L2] at h
    by_cases hk : k < pr.length
    · obtain ⟨x, hx⟩ := get_ex hk
      rw [if_pos (by simpa using hk), atI_nat, hx, Option.bind_some, wrapN (by omega)] at h
      split at h
      · split at h
        · rw [Option.bind_some] at h
          refine nodes2_sub P p R pr hpr res hR q (k + 1) _ _ (fun y hy => ?_) (by omega) hp h
          rcases List.mem_append.1 hy with hy | hy
          · exact hl y hy
          · rw [List.mem_singleton] at hy; subst hy; exact hpr _ (List.mem_of_getElem? hx)
        · cases h
      · exact nodes2_sub P p R pr hpr res hR q (k + 1) _ _ hl (by omega) hp h
    · rw [if_neg (by simpa using hk)] at h
      exact hR l m hl h

theorem nodes1_sub (P : Str → Prop) (n : Nat) (r : ApiRung) (hs : r.Contacts.length ≤ 1000000) (hr : ∀ c ∈ r.Contacts, P c.From ∧ P c.To) (res : List Str) : ∀ (q i : Nat) (l : List Str) (m : List (Str × Bool)), (∀ x ∈ l, P x) → i ≤ r.Contacts.length → graph_Nodes_o0_L1 n r q (i : Int) l m = some res → ∀ x ∈ res, P x
  | 0, i, l, m, _, _, h => by rw [graph_Nodes_o0_L1] at h; cases h
  | q + 1, i, l, m, hl, hi0, h => by
    rw [graph_Nodes_o0_L1] at h
    by_cases hk : i < r.Contacts.length
    · obtain ⟨c, hc⟩ := get_ex hk
      have hm := hr c (List.mem_of_getElem? hc)
      rw [if_pos (by simpa using hk), atI_nat, hc, Option.bind_some, Option.bind_some, show (0 : Int) = ((0 : Nat) : Int) from rfl] at h
      refine nodes2_sub P (i : Int) (graph_Nodes_o0_L1 n r q) [c.From, c.To] (fun x hx => ?_) res (fun l m hl h => ?_) n 0 l m hl (by simp) (by simp) h
      · rcases List.mem_cons.1 hx with rfl | hx
        · exact hm.1
        · rw [List.mem_singleton] at hx; subst hx; exact hm.2
      · rw [wrapN (by omega)] at h
        exact nodes1_sub P n r hs hr res q (i + 1) l m hl (by omega) h
    · rw [if_neg (by simpa using hk)] at h
      cases h; exact hl

theorem nodes_exact (n : Nat) (r : ApiRung) (hn : 2 * r.Contacts.length + 10 ≤ n) (hs : r.Contacts.length ≤ 1000000) : ∃ l, graph_Nodes_o0 n r = some l ∧ IsNodes r l ∧ ∀ x, x ∈ l ↔ IsNode r.Contacts x := by
  obtain ⟨l, a1, a2⟩ := nodes_eq n r hn hs
  refine ⟨l, a1, a2, fun x => ⟨fun hx => ?_, fun hx => ?_⟩⟩
  · rw [graph_Nodes_o0, Option.bind_some, show (0 : Int) = ((0 : Nat) : Int) from rfl] at a1
    refine nodes1_sub (IsNode r.Contacts) n r hs (fun c hc => ⟨.inr (.inr ⟨c, hc, .inl rfl⟩), .inr (.inr ⟨c, hc, .inr rfl⟩)⟩) l n 0 _ _ (fun x hx => ?_) (by omega) a1 x hx
    rcases List.mem_cons.1 hx with rfl | hx
    · exact .inl rfl
    · rw [List.mem_singleton] at hx; subst hx; exact .inr (.inl rfl)
  · rcases hx with rfl | rfl | ⟨c, hc, rfl | rfl⟩
    · exact a2.L
    · exact a2.R
    · exact (a2.ends c hc).1
    · exact (a2.ends c hc).2

/-! ### an order is found if there is one -/
theorem told_loopC (n : Nat) (s : List Int) (m : List (Str × Bool)) (r : ApiRung) (hs : s.length ≤ 1000000) (hr : ∀ j ∈ s, ∃ (k : Nat) (c : ApiContact), j = (k : Int) ∧ r.Contacts[k]? = some c) : ∀ (q i : Nat) (t : Int), i ≤ s.length → slices_IndexFunc_int_c102_L1 n s m r q (i : Int) = some t → 0 ≤ t → ∃ (k : Nat) (c : ApiContact), (k : Int) ∈ s ∧ r.Contacts[k]? = some c ∧ hasM m c.From = false
  | 0, i, t, _, h, _ => by rw [slices_IndexFunc_int_c102_L1] at h; cases h
  | q + 1, i, t, hi0, h, ht => by
    rw [slices_IndexFunc_int_c102_L1] at h
    by_cases hi : i < s.length
    · obtain ⟨x, hx⟩ := get_ex hi
      obtain ⟨k, c, rfl, hc⟩ := hr x (List.mem_of_getElem? hx)
      rw [if_pos (by simpa using hi), atI_nat, hx, Option.bind_some, graph_TopoSort_1_1, atI_nat, hc, Option.bind_some, Option.bind_some, wrapN (by omega)] at h
      split at h
      · rename_i hh
        refine ⟨k, c, List.mem_of_getElem? hx, hc, ?_⟩
        have : (!(hasM m c.From)) = true := hh
        simpa using this
      · exact told_loopC n s m r hs hr q (i + 1) t (by omega) h ht
    · rw [if_neg (by simpa using hi)] at h
      cases h; omega

theorem topo_1C (n : Nat) (x : Str) (r : ApiRung) (m : List (Str × Bool)) (hs : r.Contacts.length ≤ 1000000) (hn : r.Contacts.length < n) : ∃ b, graph_TopoSort_1 n x r m = some b ∧ (b = true → ∀ c ∈ r.Contacts, c.To = x → hasM m c.From = true) ∧ (b = false → ∃ c ∈ r.Contacts, c.To = x ∧ hasM m c.From = false) := by
  obtain ⟨b, b1, b2⟩ := topo_1 n x r m hs hn
  refine ⟨b, b1, b2, fun hb => ?_⟩
  obtain ⟨l, a1, a2, a3, a4⟩ := Incoming_eq n r x hs hn
  have hr : ∀ j ∈ l, ∃ (k : Nat) (c : ApiContact), j = (k : Int) ∧ r.Contacts[k]? = some c := fun j hj => by obtain ⟨k, c, e1, e2, _⟩ := a3 j hj; exact ⟨k, c, e1, e2⟩
  obtain ⟨t, t1, _⟩ := told_loop n l m r (by omega) hr n 0 (by omega) (by omega)
  rw [graph_TopoSort_1, a1, Option.bind_some, slices_ContainsFunc_int_c102, slices_IndexFunc_int_c102, show (0 : Int) = ((0 : Nat) : Int) from rfl, t1, Option.bind_some, Option.bind_some] at b1
  have ht : 0 ≤ t := by
    have : (!(decide (t ≥ ((0 : Nat) : Int)))) = b := by simpa using b1
    rw [hb] at this
    simpa using this
  obtain ⟨k, c, c1, c2, c3⟩ := told_loopC n l m r (by omega) hr n 0 t (by omega) t1 ht
  obtain ⟨k', c', e1, e2, e3⟩ := a3 _ c1
  have : k' = k := by omega
  subst this
  rw [c2] at e2; cases e2
  exact ⟨c, List.mem_of_getElem? c2, e3, c3⟩

theorem ready_loopC (n : Nat) (l : List Str) (r : ApiRung) (m : List (Str × Bool)) (hl : l.length ≤ 100000000) (hs : r.Contacts.length ≤ 1000000) (hn : r.Contacts.length < n) : ∀ (q i : Nat) (t : Int), i ≤ l.length → slices_IndexFunc_string_c99_v1_L1 n l r m q (i : Int) = some t → t < 0 →
    ∀ x ∈ l.drop i, ∃ c ∈ r.Contacts, c.To = x ∧ hasM m c.From = false
  | 0, i, t, _, h, _ => by rw [slices_IndexFunc_string_c99_v1_L1] at h; cases h
  | q + 1, i, t, hi0, h, ht => by
    rw [slices_IndexFunc_string_c99_v1_L1] at h
    by_cases hi : i < l.length
    · obtain ⟨x, hx⟩ := get_ex hi
      obtain ⟨b, b1, b2, b3⟩ := topo_1C n x r m hs hn
      rw [if_pos (by simpa using hi), atI_nat, hx, Option.bind_some, b1, Option.bind_some, wrapN (by omega)] at h
      cases b with
      | true => rw [if_pos rfl] at h; cases h; omega
      | false =>
        rw [if_neg (by simp)] at h
        have ih := ready_loopC n l r m hl hs hn q (i + 1) t (by omega) h ht
        rw [drop_cons hx]
        intro y hy
        rcases List.mem_cons.1 hy with rfl | hy
        · exact b3 rfl
        · exact ih y hy
    · rw [List.drop_eq_nil_of_le (by omega)]; intro x hx; cases hx

theorem min_ex {α : Type} (f : α → Nat) : ∀ {l : List α}, l ≠ [] → ∃ x ∈ l, ∀ y ∈ l, f x ≤ f y
  | [], h => absurd rfl h
  | [x], _ => ⟨x, by simp, fun y hy => by rw [List.mem_singleton] at hy; subst hy; exact Nat.le_refl _⟩
  | x :: z :: l, _ => by
    obtain ⟨w, h1, h2⟩ := min_ex f (l := z :: l) (by simp)
    by_cases h : f x ≤ f w
    · refine ⟨x, by simp, fun y hy => ?_⟩
      rcases List.mem_cons.1 hy with rfl | hy
      · exact Nat.le_refl _
      · exact Nat.le_trans h (h2 y hy)
    · refine ⟨w, List.mem_cons_of_mem _ h1, fun y hy => ?_⟩
      rcases List.mem_cons.1 hy with rfl | hy
      · omega
      · exact h2 y hy

theorem topo_loopC (n : Nat) (r : ApiRung) (hs : r.Contacts.length ≤ 1000000) (hn : 2 * r.Contacts.length + 10 ≤ n) (rank : Str → Nat) (hrk : ∀ c ∈ r.Contacts, rank c.From < rank c.To) : ∀ (q : Nat) (left : List Str) (m : List (Str × Bool)) (l : List Str) (s : List Str) (e : Int),
    left.length + l.length ≤ 2 + 2 * r.Contacts.length → (∀ x, hasM m x = true ↔ x ∈ l) → (∀ c ∈ r.Contacts, c.From ∈ left ∨ c.From ∈ l) → graph_TopoSort_L1 n r q left m l = some (s, e) → e = 0
  | 0, left, m, l, s, e, _, _, _, h => by rw [graph_TopoSort_L1] at h; cases h
  | q + 1, left, m, l, s, e, hl, h1, h2, h => by
    rw [graph_TopoSort_L1] at h
    by_cases hk : 0 < left.length
    · rw [if_pos (by simpa using hk)] at h
      obtain ⟨t, a1, a2⟩ := ready_loop n left r m (by omega) hs (by omega) n 0 (by omega) (by omega)
      have hC := ready_loopC n left r m (by omega) hs (by omega) n 0 t (by omega) a1
      rw [slices_IndexFunc_string_c99_v1, show (0 : Int) = ((0 : Nat) : Int) from rfl, a1, Option.bind_some] at h
      rcases a2 with rfl | ⟨k, x, rfl, hx, hin⟩
      · exfalso
        have hC := hC (by decide)
        rw [List.drop_zero] at hC
        obtain ⟨x, m1, m2⟩ := min_ex rank (l := left) (by intro e; subst e; simp at hk)
        obtain ⟨c, c1, c2, c3⟩ := hC x m1
        have hr := hrk c c1
        rcases h2 c c1 with g | g
        · have := m2 _ g; rw [c2] at hr; omega
        · rw [(h1 _).2 g] at c3; cases c3
      · have hkl := get_lt hx
        have hp := erase_perm hx
        rw [if_neg (by simp), atI_nat, hx, Option.bind_some, if_pos (by simp; omega), Option.bind_some, wrapN (by omega), delS_eq n left k hkl, Option.bind_some] at h
        refine topo_loopC n r hs hn rank hrk q (left.eraseIdx k) (mPut m x true) (l ++ [x]) s e ?_ ?_ ?_ h
        · rw [List.length_eraseIdx_of_lt hkl, List.length_append, List.length_singleton]; omega
        · intro y
          rw [hasM_put, Bool.or_eq_true, h1, decide_eq_true_eq, List.mem_append, List.mem_singleton]
          exact Or.comm
        · intro c hc
          rcases h2 c hc with g | g
          · rcases List.mem_cons.1 (hp.subset g) with g | g
            · exact .inr (by simp [g])
            · exact .inl g
          · exact .inr (by simp [g])
    · rw [if_neg (by simpa using hk)] at h
      cases h; rfl

/-- A list of contacts without a cycle. -/
def Acyc (cs : List ApiContact) : Prop := ∃ rank : Str → Nat, ∀ c ∈ cs, rank c.From < rank c.To

theorem TopoSort_exact (n : Nat) (r : ApiRung) (hs : r.Contacts.length ≤ 1000000) (hn : 2 * r.Contacts.length + 10 ≤ n) : ∃ s e, graph_TopoSort n r = some (s, e) ∧ (e = 0 ↔ Acyc r.Contacts) := by
  obtain ⟨s, e, a1, a2⟩ := TopoSort_eq n r hs hn
  refine ⟨s, e, a1, a2, fun ⟨rank, hrk⟩ => ?_⟩
  obtain ⟨l, b1, b2⟩ := nodes_eq n r hn hs
  rw [graph_TopoSort, b1, Option.bind_some] at a1
  have := b2.len
  exact topo_loopC n r hs hn rank hrk n l [] [] s e (by simpa using this) (fun x => by simp [hasM_nil]) (fun c hc => .inl (b2.ends c hc).1) a1

theorem topo_code (n : Nat) (r : ApiRung) : ∀ (q : Nat) (left : List Str) (m : List (Str × Bool)) (l s : List Str) (e : Int), graph_TopoSort_L1 n r q left m l = some (s, e) → e = 0 ∨ e = 12
  | 0, left, m, l, s, e, h => by rw [graph_TopoSort_L1] at h; cases h
  | q + 1, left, m, l, s, e, h => by
    rw [graph_TopoSort_L1] at h
    split at h
    · obtain ⟨t, _, h⟩ := Option.bind_eq_some_iff.1 h
      split at h
      · cases h; exact .inr rfl
      · obtain ⟨x, _, h⟩ := Option.bind_eq_some_iff.1 h
        split at h
        · rw [Option.bind_some] at h
          obtain ⟨d, _, h⟩ := Option.bind_eq_some_iff.1 h
          exact topo_code n r q _ _ _ s e h
        · cases h
    · cases h; exact .inl rfl

theorem numIncoming_fuel (n : Nat) (r : ApiRung) (b : Str) (hs : r.Contacts.length ≤ 1000000) : ∀ (q i : Nat) (acc l : List Int), i ≤ r.Contacts.length → graph_numbers_c134_L1 n r b q (i : Int) acc = some l → r.Contacts.length - i < q
  | 0, i, acc, l, _, h => by rw [graph_numbers_c134_L1] at h; cases h
  | q + 1, i, acc, l, hi0, h => by
    rw [graph_numbers_c134_L1] at h
    by_cases hk : i < r.Contacts.length
    · obtain ⟨c, hc⟩ := get_ex hk
      rw [if_pos (by simpa using hk), atI_nat, hc, Option.bind_some, graph_Incoming_1, Option.bind_some, wrapN (by omega)] at h
      split at h
      · split at h
        · rw [Option.bind_some] at h
          have := numIncoming_fuel n r b hs q (i + 1) _ l (by omega) h
          omega
        · cases h
      · have := numIncoming_fuel n r b hs q (i + 1) _ l (by omega) h
        omega
    · omega
theorem Incoming_small (n : Nat) (r : ApiRung) (x : Str) (s : List Int) (hs : r.Contacts.length ≤ 1000000) (h : graph_Incoming n r x = some s) : r.Contacts.length < n := by
  rw [graph_Incoming, graph_numbers_c134, show (0 : Int) = ((0 : Nat) : Int) from rfl] at h
  obtain ⟨l, h1, _⟩ := Option.bind_eq_some_iff.1 h
  have := numIncoming_fuel n r x hs n 0 [] l (by omega) h1
  omega

theorem numOutgoing_fuel (n : Nat) (r : ApiRung) (b : Str) (hs : r.Contacts.length ≤ 1000000) : ∀ (q i : Nat) (acc l : List Int), i ≤ r.Contacts.length → graph_numbers_c168_L1 n r b q (i : Int) acc = some l → r.Contacts.length - i < q
  | 0, i, acc, l, _, h => by rw [graph_numbers_c168_L1] at h; cases h
  | q + 1, i, acc, l, hi0, h => by
    rw [graph_numbers_c168_L1] at h
    by_cases hk : i < r.Contacts.length
    · obtain ⟨c, hc⟩ := get_ex hk
      rw [if_pos (by simpa using hk), atI_nat, hc, Option.bind_some, graph_Outgoing_1, Option.bind_some, wrapN (by omega)] at h
      split at h
      · split at h
        · rw [Option.bind_some] at h
          have := numOutgoing_fuel n r b hs q (i + 1) _ l (by omega) h
          omega
        · cases h
      · have := numOutgoing_fuel n r b hs q (i + 1) _ l (by omega) h
        omega
    · omega
theorem Outgoing_small (n : Nat) (r : ApiRung) (x : Str) (s : List Int) (hs : r.Contacts.length ≤ 1000000) (h : graph_Outgoing n r x = some s) : r.Contacts.length < n := by
  rw [graph_Outgoing, graph_numbers_c168, show (0 : Int) = ((0 : Nat) : Int) from rfl] at h
  obtain ⟨l, h1, _⟩ := Option.bind_eq_some_iff.1 h
  have := numOutgoing_fuel n r x hs n 0 [] l (by omega) h1
  omega

/-! ### Reachable -/
theorem stepsReachable_loopC (r : ApiRung) (s : List Int) (hs : s.length ≤ 1000000) (hr : ∀ j ∈ s, ∃ (k : Nat) (c : ApiContact), j = (k : Int) ∧ r.Contacts[k]? = some c) : ∀ (q i : Nat) (acc l : List Str), i ≤ s.length → graph_Reachable_1_L1 r s q (i : Int) acc = some l →
    (∀ x ∈ acc, x ∈ l) ∧ (∀ (k : Nat) (c : ApiContact), (k : Int) ∈ s.drop i → r.Contacts[k]? = some c → c.To ∈ l) ∧ ∀ x ∈ l, x ∈ acc ∨ ∃ (k : Nat) (c : ApiContact), (k : Int) ∈ s ∧ r.Contacts[k]? = some c ∧ x = c.To
  | 0, i, acc, l, _, h => by rw [graph_Reachable_1_L1] at h; cases h
  | q + 1, i, acc, l, hi0, h => by
    rw [graph_Reachable_1_L1] at h
    by_cases hi : i < s.length
    · obtain ⟨x, hx⟩ := get_ex hi
      obtain ⟨k, c, rfl, hc⟩ := hr x (List.mem_of_getElem? hx)
      rw [if_pos (by simpa using hi), atI_nat, hx, Option.bind_some, atI_nat, hc, Option.bind_some, wrapN (by omega)] at h
      split at h
      · rw [Option.bind_some] at h
        obtain ⟨a1, a2, a3⟩ := stepsReachable_loopC r s hs hr q (i + 1) _ l (by omega) h
        refine ⟨fun x hx => a1 x (by simp [hx]), fun k' c' hk' hc' => ?_, fun x hx' => ?_⟩
        · rw [drop_cons hx] at hk'
          rcases List.mem_cons.1 hk' with e | hk'
          · have : k' = k := by omega
            subst this; rw [hc] at hc'; cases hc'; exact a1 _ (by simp)
          · exact a2 k' c' hk' hc'
        · rcases a3 x hx' with g | g
          · rcases List.mem_append.1 g with g | g
            · exact .inl g
            · rw [List.mem_singleton] at g; exact .inr ⟨k, c, List.mem_of_getElem? hx, hc, g⟩
          · exact .inr g
      · cases h
    · rw [if_neg (by simpa using hi)] at h
      cases h
      refine ⟨fun _ h => h, ?_, fun _ h => .inl h⟩
      rw [List.drop_eq_nil_of_le (by omega)]
      intro k c hk; cases hk

theorem stepsReachableC (n : Nat) (r : ApiRung) (x : Str) (hs : r.Contacts.length ≤ 1000000) (hn : r.Contacts.length < n) : ∃ l, graph_Reachable_1 n x r = some l ∧ l.length ≤ r.Contacts.length ∧ ∀ y, y ∈ l ↔ ∃ c ∈ r.Contacts, c.From = x ∧ y = c.To := by
  obtain ⟨l, e1, e2, _⟩ := stepsReachable n r x hs hn
  refine ⟨l, e1, e2, ?_⟩
  obtain ⟨s, a1, a2, a3, a4⟩ := Outgoing_eq n r x hs hn
  rw [graph_Reachable_1, a1, Option.bind_some, show (0 : Int) = ((0 : Nat) : Int) from rfl] at e1
  obtain ⟨b1, b2, b3⟩ := stepsReachable_loopC r s (by omega) (fun j hj => by obtain ⟨k, c, e1, e2, _⟩ := a3 j hj; exact ⟨k, c, e1, e2⟩) n 0 [] l (by omega) e1
  intro y
  constructor
  · intro hy
    rcases b3 y hy with g | ⟨k, c, hk, hc, rfl⟩
    · cases g
    · obtain ⟨k', c', q1, q2, q3⟩ := a3 _ hk
      have : k' = k := by omega
      subst this; rw [hc] at q2; cases q2
      exact ⟨c, List.mem_of_getElem? hc, q3, rfl⟩
  · rintro ⟨c, hc, h1, rfl⟩
    obtain ⟨k, hk⟩ := List.getElem?_of_mem hc
    exact b2 k c (by simpa using a4 k c hk h1) hk

/-- What is reached. -/
inductive RchReachable (cs : List ApiContact) (s : Str) : Str → Prop
  | refl : RchReachable cs s s
  | step {c : ApiContact} (h1 : c ∈ cs) (h : RchReachable cs s c.From) : RchReachable cs s c.To
theorem RchReachable.trans {cs : List ApiContact} {a b x : Str} (h : RchReachable cs a b) (k : RchReachable cs b x) : RchReachable cs a x := by
  induction k with
  | refl => exact h
  | step h1 _ ih => exact .step h1 ih

/-- What a visit adds is closed. -/
structure VisReachable (cs : List ApiContact) (m m' : List (Str × Bool)) : Prop where
  mono : ∀ y, hasM m y = true → hasM m' y = true
  closed : ∀ y, hasM m' y = true → hasM m y = false → ∀ c ∈ cs, c.From = y → hasM m' c.To = true

theorem VisReachable.trans {cs : List ApiContact} {m m1 m2 : List (Str × Bool)} (h : VisReachable cs m m1) (k : VisReachable cs m1 m2) : VisReachable cs m m2 := by
  refine ⟨fun y hy => k.mono y (h.mono y hy), fun y hy hn c hc he => ?_⟩
  cases h1 : hasM m1 y with
  | true => exact k.mono _ (h.closed y h1 hn c hc he)
  | false => exact k.closed y hy h1 c hc he

theorem visitReachable_loopC (r : ApiRung) (s : List Str) (slf : Str → List (Str × Bool) → ApiRung → Option (List (Str × Bool))) (hs : s.length ≤ 1000000)
    (hf : ∀ x ∈ s, ∀ m m', slf x m r = some m' → VisReachable r.Contacts m m' ∧ hasM m' x = true ∧ ∀ y, hasM m' y = true → hasM m y = true ∨ RchReachable r.Contacts x y) : ∀ (q i : Nat) (m m' : List (Str × Bool)), i ≤ s.length →
    graph_gather_1_c136_166_L1 r s slf q m (i : Int) = some m' → VisReachable r.Contacts m m' ∧ (∀ x ∈ s.drop i, hasM m' x = true) ∧ ∀ y, hasM m' y = true → hasM m y = true ∨ ∃ x ∈ s, RchReachable r.Contacts x y
  | 0, i, m, m', _, h => by rw [graph_gather_1_c136_166_L1] at h; cases h
  | q + 1, i, m, m', hi0, h => by
    rw [graph_gather_1_c136_166_L1] at h
    by_cases hi : i < s.length
    · obtain ⟨x, hx⟩ := get_ex hi
      rw [if_pos (by simpa using hi), atI_nat, hx, Option.bind_some, wrapN (by omega)] at h
      obtain ⟨m1, h1, h⟩ := Option.bind_eq_some_iff.1 h
      obtain ⟨v1, v2, v3⟩ := hf x (List.mem_of_getElem? hx) m m1 h1
      obtain ⟨w1, w2, w3⟩ := visitReachable_loopC r s slf hs hf q (i + 1) m1 m' (by omega) h
      refine ⟨v1.trans w1, ?_, fun y hy => ?_⟩
      · rw [drop_cons hx]
        intro y hy
        rcases List.mem_cons.1 hy with rfl | hy
        · exact w1.mono _ v2
        · exact w2 y hy
      · rcases w3 y hy with g | g
        · rcases v3 y g with g | g
          · exact .inl g
          · exact .inr ⟨x, List.mem_of_getElem? hx, g⟩
        · exact .inr g
    · rw [if_neg (by simpa using hi)] at h
      cases h
      refine ⟨⟨fun _ h => h, fun y h1 h2 => by rw [h1] at h2; cases h2⟩, ?_, fun _ h => .inl h⟩
      rw [List.drop_eq_nil_of_le (by omega)]
      intro x hx; cases hx

theorem visitReachableC (r : ApiRung) (hs : r.Contacts.length ≤ 1000000) : ∀ (n : Nat) (x : Str) (m m' : List (Str × Bool)), graph_gather_1_c136_166 n x m r = some m' →
    VisReachable r.Contacts m m' ∧ hasM m' x = true ∧ ∀ y, hasM m' y = true → hasM m y = true ∨ RchReachable r.Contacts x y
  | 0, x, m, m', h => by rw [graph_gather_1_c136_166] at h; cases h
  | n + 1, x, m, m', h => by
    rw [graph_gather_1_c136_166] at h
    cases hh : hasM m x with
    | true =>
      have hh' : (mGet m x).getD false = true := hh
      rw [hh', if_pos rfl] at h
      cases h
      exact ⟨⟨fun _ h => h, fun y h1 h2 => by rw [h1] at h2; cases h2⟩, hh, fun _ h => .inl h⟩
    | false =>
      have hh' : (mGet m x).getD false = false := hh
      rw [hh', if_neg (by simp)] at h
      obtain ⟨l, h1, h⟩ := Option.bind_eq_some_iff.1 h
      rw [show (0 : Int) = ((0 : Nat) : Int) from rfl] at h
      by_cases hnn : r.Contacts.length < n
      · obtain ⟨l', a1, a2, a3⟩ := stepsReachableC n r x hs hnn
        rw [a1] at h1; cases h1
        obtain ⟨w1, w2, w3⟩ := visitReachable_loopC r l (graph_gather_1_c136_166 n) (by omega) (fun y hy m1 m2 hm => visitReachableC r hs n y m1 m2 hm) n 0 (mPut m x true) m' (by omega) h
        refine ⟨⟨fun y hy => w1.mono y (by rw [hasM_put, hy]; simp), fun y hy hn c hc he => ?_⟩, w1.mono x (by rw [hasM_put]; simp), fun y hy => ?_⟩
        · cases h2 : hasM (mPut m x true) y with
          | true =>
            rw [hasM_put, hn] at h2
            have : y = x := by simpa using h2
            subst this
            exact w2 _ (by rw [List.drop_zero]; exact (a3 _).2 ⟨c, hc, he, rfl⟩)
          | false => exact w1.closed y hy h2 c hc he
        · rcases w3 y hy with g | ⟨z, hz, g⟩
          · rw [hasM_put, Bool.or_eq_true, decide_eq_true_eq] at g
            rcases g with rfl | g
            · exact .inr .refl
            · exact .inl g
          · obtain ⟨c, hc, h1, rfl⟩ := (a3 z).1 hz
            have : RchReachable r.Contacts x c.To := .step hc (by rw [h1]; exact .refl)
            exact .inr (this.trans g)
      · exfalso
        obtain ⟨s, a1, a2⟩ := Option.bind_eq_some_iff.1 (show (graph_Outgoing n r x).bind (fun s => graph_Reachable_1_L1 r s n 0 []) = some l from h1)
        exact hnn (Outgoing_small n r x s hs a1)

/-! ### Ancestors -/
theorem stepsAncestors_loopC (r : ApiRung) (s : List Int) (hs : s.length ≤ 1000000) (hr : ∀ j ∈ s, ∃ (k : Nat) (c : ApiContact), j = (k : Int) ∧ r.Contacts[k]? = some c) : ∀ (q i : Nat) (acc l : List Str), i ≤ s.length → graph_Ancestors_1_L1 r s q (i : Int) acc = some l →
    (∀ x ∈ acc, x ∈ l) ∧ (∀ (k : Nat) (c : ApiContact), (k : Int) ∈ s.drop i → r.Contacts[k]? = some c → c.From ∈ l) ∧ ∀ x ∈ l, x ∈ acc ∨ ∃ (k : Nat) (c : ApiContact), (k : Int) ∈ s ∧ r.Contacts[k]? = some c ∧ x = c.From
  | 0, i, acc, l, _, h => by rw [graph_Ancestors_1_L1] at h; cases h
  | q + 1, i, acc, l, hi0, h => by
    rw [graph_Ancestors_1_L1] at h
    by_cases hi : i < s.length
    · obtain ⟨x, hx⟩ := get_ex hi
      obtain ⟨k, c, rfl, hc⟩ := hr x (List.mem_of_getElem? hx)
      rw [if_pos (by simpa using hi), atI_nat, hx, Option.bind_some, atI_nat, hc, Option.bind_some, wrapN (by omega)] at h
      split at h
      · rw [Option.bind_some] at h
        obtain ⟨a1, a2, a3⟩ := stepsAncestors_loopC r s hs hr q (i + 1) _ l (by omega) h
        refine ⟨fun x hx => a1 x (by simp [hx]), fun k' c' hk' hc' => ?_, fun x hx' => ?_⟩
        · rw [drop_cons hx] at hk'
          rcases List.mem_cons.1 hk' with e | hk'
          · have : k' = k := by omega
            subst this; rw [hc] at hc'; cases hc'; exact a1 _ (by simp)
          · exact a2 k' c' hk' hc'
        · rcases a3 x hx' with g | g
          · rcases List.mem_append.1 g with g | g
            · exact .inl g
            · rw [List.mem_singleton] at g; exact .inr ⟨k, c, List.mem_of_getElem? hx, hc, g⟩
          · exact .inr g
      · cases h
    · rw [if_neg (by simpa using hi)] at h
      cases h
      refine ⟨fun _ h => h, ?_, fun _ h => .inl h⟩
      rw [List.drop_eq_nil_of_le (by omega)]
      intro k c hk; cases hk

theorem stepsAncestorsC (n : Nat) (r : ApiRung) (x : Str) (hs : r.Contacts.length ≤ 1000000) (hn : r.Contacts.length < n) : ∃ l, graph_Ancestors_1 n x r = some l ∧ l.length ≤ r.Contacts.length ∧ ∀ y, y ∈ l ↔ ∃ c ∈ r.Contacts, c.To = x ∧ y = c.From := by
  obtain ⟨l, e1, e2, _⟩ := stepsAncestors n r x hs hn
  refine ⟨l, e1, e2, ?_⟩
  obtain ⟨s, a1, a2, a3, a4⟩ := Incoming_eq n r x hs hn
  rw [graph_Ancestors_1, a1, Option.bind_some, show (0 : Int) = ((0 : Nat) : Int) from rfl] at e1
  obtain ⟨b1, b2, b3⟩ := stepsAncestors_loopC r s (by omega) (fun j hj => by obtain ⟨k, c, e1, e2, _⟩ := a3 j hj; exact ⟨k, c, e1, e2⟩) n 0 [] l (by omega) e1
  intro y
  constructor
  · intro hy
    rcases b3 y hy with g | ⟨k, c, hk, hc, rfl⟩
    · cases g
    · obtain ⟨k', c', q1, q2, q3⟩ := a3 _ hk
      have : k' = k := by omega
      subst this; rw [hc] at q2; cases q2
      exact ⟨c, List.mem_of_getElem? hc, q3, rfl⟩
  · rintro ⟨c, hc, h1, rfl⟩
    obtain ⟨k, hk⟩ := List.getElem?_of_mem hc
    exact b2 k c (by simpa using a4 k c hk h1) hk

/-- What is reached. -/
inductive RchAncestors (cs : List ApiContact) (s : Str) : Str → Prop
  | refl : RchAncestors cs s s
  | step {c : ApiContact} (h1 : c ∈ cs) (h : RchAncestors cs s c.To) : RchAncestors cs s c.From
theorem RchAncestors.trans {cs : List ApiContact} {a b x : Str} (h : RchAncestors cs a b) (k : RchAncestors cs b x) : RchAncestors cs a x := by
  induction k with
  | refl => exact h
  | step h1 _ ih => exact .step h1 ih

/-- What a visit adds is closed. -/
structure VisAncestors (cs : List ApiContact) (m m' : List (Str × Bool)) : Prop where
  mono : ∀ y, hasM m y = true → hasM m' y = true
  closed : ∀ y, hasM m' y = true → hasM m y = false → ∀ c ∈ cs, c.To = y → hasM m' c.From = true

theorem VisAncestors.trans {cs : List ApiContact} {m m1 m2 : List (Str × Bool)} (h : VisAncestors cs m m1) (k : VisAncestors cs m1 m2) : VisAncestors cs m m2 := by
  refine ⟨fun y hy => k.mono y (h.mono y hy), fun y hy hn c hc he => ?_⟩
  cases h1 : hasM m1 y with
  | true => exact k.mono _ (h.closed y h1 hn c hc he)
  | false => exact k.closed y hy h1 c hc he

theorem visitAncestors_loopC (r : ApiRung) (s : List Str) (slf : Str → List (Str × Bool) → ApiRung → Option (List (Str × Bool))) (hs : s.length ≤ 1000000)
    (hf : ∀ x ∈ s, ∀ m m', slf x m r = some m' → VisAncestors r.Contacts m m' ∧ hasM m' x = true ∧ ∀ y, hasM m' y = true → hasM m y = true ∨ RchAncestors r.Contacts x y) : ∀ (q i : Nat) (m m' : List (Str × Bool)), i ≤ s.length →
    graph_gather_1_c138_166_L1 r s slf q m (i : Int) = some m' → VisAncestors r.Contacts m m' ∧ (∀ x ∈ s.drop i, hasM m' x = true) ∧ ∀ y, hasM m' y = true → hasM m y = true ∨ ∃ x ∈ s, RchAncestors r.Contacts x y
  | 0, i, m, m', _, h => by rw [graph_gather_1_c138_166_L1] at h; cases h
  | q + 1, i, m, m', hi0, h => by
    rw [graph_gather_1_c138_166_L1] at h
    by_cases hi : i < s.length
    · obtain ⟨x, hx⟩ := get_ex hi
      rw [if_pos (by simpa using hi), atI_nat, hx, Option.bind_some, wrapN (by omega)] at h
      obtain ⟨m1, h1, h⟩ := Option.bind_eq_some_iff.1 h
      obtain ⟨v1, v2, v3⟩ := hf x (List.mem_of_getElem? hx) m m1 h1
      obtain ⟨w1, w2, w3⟩ := visitAncestors_loopC r s slf hs hf q (i + 1) m1 m' (by omega) h
      refine ⟨v1.trans w1, ?_, fun y hy => ?_⟩
      · rw [drop_cons hx]
        intro y hy
        rcases List.mem_cons.1 hy with rfl | hy
        · exact w1.mono _ v2
        · exact w2 y hy
      · rcases w3 y hy with g | g
        · rcases v3 y g with g | g
          · exact .inl g
          · exact .inr ⟨x, List.mem_of_getElem? hx, g⟩
        · exact .inr g
    · rw [if_neg (by simpa using hi)] at h
      cases h
      refine ⟨⟨fun _ h => h, fun y h1 h2 => by rw [h1] at h2; cases h2⟩, ?_, fun _ h => .inl h⟩
      rw [List.drop_eq_nil_of_le (by omega)]
      intro x hx; cases hx

theorem visitAncestorsC (r : ApiRung) (hs : r.Contacts.length ≤ 1000000) : ∀ (n : Nat) (x : Str) (m m' : List (Str × Bool)), graph_gather_1_c138_166 n x m r = some m' →
    VisAncestors r.Contacts m m' ∧ hasM m' x = true ∧ ∀ y, hasM m' y = true → hasM m y = true ∨ RchAncestors r.Contacts x y
  | 0, x, m, m', h => by rw [graph_gather_1_c138_166] at h; cases h
  | n + 1, x, m, m', h => by
    rw [graph_gather_1_c138_166] at h
    cases hh : hasM m x with
    | true =>
      have hh' : (mGet m x).getD false = true := hh
      rw [hh', if_pos rfl] at h
      cases h
      exact ⟨⟨fun _ h => h, fun y h1 h2 => by rw [h1] at h2; cases h2⟩, hh, fun _ h => .inl h⟩
    | false =>
      have hh' : (mGet m x).getD false = false := hh
      rw [hh', if_neg (by simp)] at h
      obtain ⟨l, h1, h⟩ := Option.bind_eq_some_iff.1 h
      rw [show (0 : Int) = ((0 : Nat) : Int) from rfl] at h
      by_cases hnn : r.Contacts.length < n
      · obtain ⟨l', a1, a2, a3⟩ := stepsAncestorsC n r x hs hnn
        rw [a1] at h1; cases h1
        obtain ⟨w1, w2, w3⟩ := visitAncestors_loopC r l (graph_gather_1_c138_166 n) (by omega) (fun y hy m1 m2 hm => visitAncestorsC r hs n y m1 m2 hm) n 0 (mPut m x true) m' (by omega) h
        refine ⟨⟨fun y hy => w1.mono y (by rw [hasM_put, hy]; simp), fun y hy hn c hc he => ?_⟩, w1.mono x (by rw [hasM_put]; simp), fun y hy => ?_⟩
        · cases h2 : hasM (mPut m x true) y with
          | true =>
            rw [hasM_put, hn] at h2
            have : y = x := by simpa using h2
            subst this
            exact w2 _ (by rw [List.drop_zero]; exact (a3 _).2 ⟨c, hc, he, rfl⟩)
          | false => exact w1.closed y hy h2 c hc he
        · rcases w3 y hy with g | ⟨z, hz, g⟩
          · rw [hasM_put, Bool.or_eq_true, decide_eq_true_eq] at g
            rcases g with rfl | g
            · exact .inr .refl
            · exact .inl g
          · obtain ⟨c, hc, h1, rfl⟩ := (a3 z).1 hz
            have : RchAncestors r.Contacts x c.From := .step hc (by rw [h1]; exact .refl)
            exact .inr (this.trans g)
      · exfalso
        obtain ⟨s, a1, a2⟩ := Option.bind_eq_some_iff.1 (show (graph_Incoming n r x).bind (fun s => graph_Ancestors_1_L1 r s n 0 []) = some l from h1)
        exact hnn (Incoming_small n r x s hs a1)

/-! ### elements left out -/
section
variable (n : Nat) (m2 : List (Str × Bool))
theorem delSeen_idxC (l : List Str) (hl : l.length ≤ 100000000) (p : Str → Bool) (hp : ∀ x, graph_gather_2 n x m2 = some (p x)) : ∀ (q i : Nat) (t : Int), i ≤ l.length → slices_IndexFunc_string_c167_v1_L1 n l m2 q (i : Int) = some t → (t = -1 ∧ ∀ x ∈ l.drop i, p x = false) ∨ ∃ k : Nat, t = (k : Int) ∧ i ≤ k ∧ k < l.length ∧ (∃ x, l[k]? = some x ∧ p x = true) ∧ ∀ x ∈ (l.drop i).take (k - i), p x = false
  | 0, i, t, _, h => by rw [slices_IndexFunc_string_c167_v1_L1] at h; cases h
  | q + 1, i, t, hi0, h => by
    rw [slices_IndexFunc_string_c167_v1_L1] at h
    by_cases hi : i < l.length
    · obtain ⟨x, hx⟩ := get_ex hi
      rw [if_pos (by simpa using hi), atI_nat, hx, Option.bind_some, hp, Option.bind_some, wrapN (by omega)] at h
      cases hb : p x with
      | true =>
        rw [hb, if_pos rfl] at h
        cases h
        exact .inr ⟨i, rfl, Nat.le_refl _, hi, ⟨x, hx, hb⟩, by simp⟩
      | false =>
        rw [hb, if_neg (by simp)] at h
        rw [drop_cons hx]
        rcases delSeen_idxC l hl p hp q (i + 1) t (by omega) h with ⟨e, g⟩ | ⟨k, e, k1, k2, k3, k4⟩
        · refine .inl ⟨e, fun y hy => ?_⟩
          rcases List.mem_cons.1 hy with rfl | hy
          · exact hb
          · exact g y hy
        · refine .inr ⟨k, e, by omega, k2, k3, fun y hy => ?_⟩
          rw [show k - i = (k - (i + 1)) + 1 by omega, List.take_succ_cons] at hy
          rcases List.mem_cons.1 hy with rfl | hy
          · exact hb
          · exact k4 y hy
    · rw [if_neg (by simpa using hi)] at h
      cases h
      refine .inl ⟨rfl, ?_⟩
      rw [List.drop_eq_nil_of_le (by omega)]
      intro x hx; cases hx

theorem delSeen_loopC (l0 : List Str) (hl : l0.length ≤ 100000000) (p : Str → Bool) (hp : ∀ x, graph_gather_2 n x m2 = some (p x)) : ∀ (q j i : Nat) (l l' : List Str), l.length = l0.length → i ≤ j → j ≤ l0.length → l.drop j = l0.drop j → l.take i = (l0.take j).filter (fun x => !p x) →
    slices_DeleteFunc_string_c167_v1_L1 n m2 q l (i : Int) (j : Int) = some l' → l' = l0.filter (fun x => !p x)
  | 0, j, i, l, l', _, _, _, _, _, h => by rw [slices_DeleteFunc_string_c167_v1_L1] at h; cases h
  | q + 1, j, i, l, l', hll, hij, hj, hd, ht, h => by
    rw [slices_DeleteFunc_string_c167_v1_L1] at h
    by_cases hk : j < l.length
    · obtain ⟨x, hx⟩ := get_ex hk
      obtain ⟨y, hy⟩ := get_ex (l := l) (i := i) (by omega)
      have hx0 : l0[j]? = some x := by
        have e1 : (l.drop j)[0]? = l[j]? := by simp
        have e2 : (l0.drop j)[0]? = l0[j]? := by simp
        rw [← e2, ← hd, e1]; exact hx
      have hd1 : l.drop (j + 1) = l0.drop (j + 1) := by
        have := congrArg List.tail hd
        simpa [List.tail_drop] using this
      have ht1 : l0.take (j + 1) = l0.take j ++ [x] := by rw [List.take_add_one, hx0]; rfl
      rw [if_pos (by simpa using hk), atI_nat, hx, Option.bind_some, hp, Option.bind_some] at h
      cases hb : p x with
      | true =>
        rw [hb, if_neg (by simp), wrapN (by omega)] at h
        refine delSeen_loopC l0 hl p hp q (j + 1) i l l' hll (by omega) (by omega) hd1 ?_ h
        rw [ht1, List.filter_append, ht]; simp [hb]
      | false =>
        rw [hb, if_pos (by simp), atI_nat, hy, Option.bind_some, Option.bind_some, wrapN (by omega), wrapN (by omega), Int.toNat_natCast] at h
        refine delSeen_loopC l0 hl p hp q (j + 1) (i + 1) _ l' (by rw [List.length_set]; exact hll) (by omega) (by omega) ?_ ?_ h
        · rw [List.drop_set_of_lt (by omega)]; exact hd1
        · rw [ht1, List.filter_append, ← ht, List.take_add_one, List.take_set_of_le (Nat.le_refl _), List.getElem?_set_self (by omega)]; simp [hb]
    · have hje : j = l0.length := by omega
      rw [if_neg (by simpa using hk), Int.toNat_natCast, if_pos (by omega), if_pos (by omega), if_pos (by omega)] at h
      cases h
      rw [ht, hje, List.take_length]

theorem delSeen_exact (l l' : List Str) (hl : l.length ≤ 100000000) (p : Str → Bool) (hp : ∀ x, graph_gather_2 n x m2 = some (p x)) (h : slices_DeleteFunc_string_c167_v1 n l m2 = some l') : l' = l.filter (fun x => !p x) := by
  rw [slices_DeleteFunc_string_c167_v1] at h
  obtain ⟨t, h1, h⟩ := Option.bind_eq_some_iff.1 h
  rw [slices_IndexFunc_string_c167_v1, show (0 : Int) = ((0 : Nat) : Int) from rfl] at h1
  rcases delSeen_idxC n m2 l hl p hp n 0 t (by omega) h1 with ⟨rfl, g⟩ | ⟨k, rfl, k1, k2, ⟨x, hx, hpx⟩, k4⟩
  · rw [if_pos (by decide)] at h
    cases h
    rw [List.drop_zero] at g
    rw [List.filter_eq_self.2]
    intro a ha; simp [g a ha]
  · rw [if_neg (by simp), wrapN (by omega)] at h
    refine delSeen_loopC n m2 l hl p hp n (k + 1) k l l' rfl (by omega) (by omega) rfl ?_ h
    rw [List.drop_zero, Nat.sub_zero] at k4
    rw [List.take_add_one, hx, List.filter_append]
    have : (l.take k).filter (fun x => !p x) = l.take k := List.filter_eq_self.2 fun a ha => by simp [k4 a ha]
    rw [this]; simp [hpx]
end

/-! ### elements left out -/
section
variable (n : Nat) (b1 b2 : List Str)
theorem delDead_idxC (l : List Str) (hl : l.length ≤ 100000000) (p : Str → Bool) (hp : ∀ x, flow_DeadNodes_1 n x b1 b2 = some (p x)) : ∀ (q i : Nat) (t : Int), i ≤ l.length → slices_IndexFunc_string_c107_v1_L1 n l b1 b2 q (i : Int) = some t → (t = -1 ∧ ∀ x ∈ l.drop i, p x = false) ∨ ∃ k : Nat, t = (k : Int) ∧ i ≤ k ∧ k < l.length ∧ (∃ x, l[k]? = some x ∧ p x = true) ∧ ∀ x ∈ (l.drop i).take (k - i), p x = false
  | 0, i, t, _, h => by rw [slices_IndexFunc_string_c107_v1_L1] at h; cases h
  | q + 1, i, t, hi0, h => by
    rw [slices_IndexFunc_string_c107_v1_L1] at h
    by_cases hi : i < l.length
    · obtain ⟨x, hx⟩ := get_ex hi
      rw [if_pos (by simpa using hi), atI_nat, hx, Option.bind_some, hp, Option.bind_some, wrapN (by omega)] at h
      cases hb : p x with
      | true =>
        rw [hb, if_pos rfl] at h
        cases h
        exact .inr ⟨i, rfl, Nat.le_refl _, hi, ⟨x, hx, hb⟩, by simp⟩
      | false =>
        rw [hb, if_neg (by simp)] at h
        rw [drop_cons hx]
        rcases delDead_idxC l hl p hp q (i + 1) t (by omega) h with ⟨e, g⟩ | ⟨k, e, k1, k2, k3, k4⟩
        · refine .inl ⟨e, fun y hy => ?_⟩
          rcases List.mem_cons.1 hy with rfl | hy
          · exact hb
          · exact g y hy
        · refine .inr ⟨k, e, by omega, k2, k3, fun y hy => ?_⟩
          rw [show k - i = (k - (i + 1)) + 1 by omega, List.take_succ_cons] at hy
          rcases List.mem_cons.1 hy with rfl | hy
          · exact hb
          · exact k4 y hy
    · rw [if_neg (by simpa using hi)] at h
      cases h
      refine .inl ⟨rfl, ?_⟩
      rw [List.drop_eq_nil_of_le (by omega)]
      intro x hx; cases hx

theorem delDead_loopC (l0 : List Str) (hl : l0.length ≤ 100000000) (p : Str → Bool) (hp : ∀ x, flow_DeadNodes_1 n x b1 b2 = some (p x)) : ∀ (q j i : Nat) (l l' : List Str), l.length = l0.length → i ≤ j → j ≤ l0.length → l.drop j = l0.drop j → l.take i = (l0.take j).filter (fun x => !p x) →
    slices_DeleteFunc_string_c107_L1 n b1 b2 q l (i : Int) (j : Int) = some l' → l' = l0.filter (fun x => !p x)
  | 0, j, i, l, l', _, _, _, _, _, h => by rw [slices_DeleteFunc_string_c107_L1] at h; cases h
  | q + 1, j, i, l, l', hll, hij, hj, hd, ht, h => by
    rw [slices_DeleteFunc_string_c107_L1] at h
    by_cases hk : j < l.length
    · obtain ⟨x, hx⟩ := get_ex hk
      obtain ⟨y, hy⟩ := get_ex (l := l) (i := i) (by omega)
      have hx0 : l0[j]? = some x := by
        have e1 : (l.drop j)[0]? = l[j]? := by simp
        have e2 : (l0.drop j)[0]? = l0[j]? := by simp
        rw [← e2, ← hd, e1]; exact hx
      have hd1 : l.drop (j + 1) = l0.drop (j + 1) := by
        have := congrArg List.tail hd
        simpa [List.tail_drop] using this
      have ht1 : l0.take (j + 1) = l0.take j ++ [x] := by rw [List.take_add_one, hx0]; rfl
      rw [if_pos (by simpa using hk), atI_nat, hx, Option.bind_some, hp, Option.bind_some] at h
      cases hb : p x with
      | true =>
        rw [hb, if_neg (by simp), wrapN (by omega)] at h
        refine delDead_loopC l0 hl p hp q (j + 1) i l l' hll (by omega) (by omega) hd1 ?_ h
        rw [ht1, List.filter_append, ht]; simp [hb]
      | false =>
        rw [hb, if_pos (by simp), atI_nat, hy, Option.bind_some, Option.bind_some, wrapN (by omega), wrapN (by omega), Int.toNat_natCast] at h
        refine delDead_loopC l0 hl p hp q (j + 1) (i + 1) _ l' (by rw [List.length_set]; exact hll) (by omega) (by omega) ?_ ?_ h
        · rw [List.drop_set_of_lt (by omega)]; exact hd1
        · rw [ht1, List.filter_append, ← ht, List.take_add_one, List.take_set_of_le (Nat.le_refl _), List.getElem?_set_self (by omega)]; simp [hb]
    · have hje : j = l0.length := by omega
      rw [if_neg (by simpa using hk), Int.toNat_natCast, if_pos (by omega), if_pos (by omega), if_pos (by omega)] at h
      cases h
      rw [ht, hje, List.take_length]

theorem delDead_exact (l l' : List Str) (hl : l.length ≤ 100000000) (p : Str → Bool) (hp : ∀ x, flow_DeadNodes_1 n x b1 b2 = some (p x)) (h : slices_DeleteFunc_string_c107 n l b1 b2 = some l') : l' = l.filter (fun x => !p x) := by
  rw [slices_DeleteFunc_string_c107] at h
  obtain ⟨t, h1, h⟩ := Option.bind_eq_some_iff.1 h
  rw [slices_IndexFunc_string_c107_v1, show (0 : Int) = ((0 : Nat) : Int) from rfl] at h1
  rcases delDead_idxC n b1 b2 l hl p hp n 0 t (by omega) h1 with ⟨rfl, g⟩ | ⟨k, rfl, k1, k2, ⟨x, hx, hpx⟩, k4⟩
  · rw [if_pos (by decide)] at h
    cases h
    rw [List.drop_zero] at g
    rw [List.filter_eq_self.2]
    intro a ha; simp [g a ha]
  · rw [if_neg (by simp), wrapN (by omega)] at h
    refine delDead_loopC n b1 b2 l hl p hp n (k + 1) k l l' rfl (by omega) (by omega) rfl ?_ h
    rw [List.drop_zero, Nat.sub_zero] at k4
    rw [List.take_add_one, hx, List.filter_append]
    have : (l.take k).filter (fun x => !p x) = l.take k := List.filter_eq_self.2 fun a ha => by simp [k4 a ha]
    rw [this]; simp [hpx]
end

theorem Reachable_exact (n : Nat) (r : ApiRung) (hs : r.Contacts.length ≤ 1000000) (hn : 4 * r.Contacts.length + 20 ≤ n) : ∃ l, graph_Reachable n r (⟨#[76]⟩ : Str) = some l ∧ l.length ≤ 2 + 2 * r.Contacts.length ∧ ∀ x, x ∈ l ↔ IsNode r.Contacts x ∧ RchReachable r.Contacts (⟨#[76]⟩ : Str) x := by
  obtain ⟨l, e1, e2⟩ := Reachable_ex n r hs hn
  refine ⟨l, e1, e2, ?_⟩
  obtain ⟨ns, a1, a2, a3⟩ := nodes_exact n r (by omega) hs
  have hlen := a2.len
  have hmem : (⟨#[76]⟩ : Str) ∈ ns := a2.L
  rw [graph_Reachable, graph_gather_c136, a1, Option.bind_some, containsS_eq n ns _ (by omega) (by omega), Option.bind_some, if_neg (by simp [hmem])] at e1
  obtain ⟨l2, e1, h3⟩ := Option.bind_eq_some_iff.1 e1
  cases h3
  obtain ⟨m, h1, e1⟩ := Option.bind_eq_some_iff.1 e1
  obtain ⟨l3, e1, h3⟩ := Option.bind_eq_some_iff.1 e1
  cases h3
  obtain ⟨v1, v2, v3⟩ := visitReachableC r hs n _ [] m h1
  have hf := delSeen_exact n m ns l (by omega) (fun x => !(hasM m x)) (fun x => rfl) e1
  have hiff : ∀ x, hasM m x = true ↔ RchReachable r.Contacts (⟨#[76]⟩ : Str) x := fun x => by
    constructor
    · intro h
      rcases v3 x h with g | g
      · cases g
      · exact g
    · intro h
      induction h with
      | refl => exact v2
      | step h1 _ ih => exact v1.closed _ ih rfl _ h1 rfl
  intro x
  rw [hf, List.mem_filter, a3, ← hiff]
  simp

theorem Ancestors_exact (n : Nat) (r : ApiRung) (hs : r.Contacts.length ≤ 1000000) (hn : 4 * r.Contacts.length + 20 ≤ n) : ∃ l, graph_Ancestors n r (⟨#[82]⟩ : Str) = some l ∧ l.length ≤ 2 + 2 * r.Contacts.length ∧ ∀ x, x ∈ l ↔ IsNode r.Contacts x ∧ RchAncestors r.Contacts (⟨#[82]⟩ : Str) x := by
  obtain ⟨l, e1, e2⟩ := Ancestors_ex n r hs hn
  refine ⟨l, e1, e2, ?_⟩
  obtain ⟨ns, a1, a2, a3⟩ := nodes_exact n r (by omega) hs
  have hlen := a2.len
  have hmem : (⟨#[82]⟩ : Str) ∈ ns := a2.R
  rw [graph_Ancestors, graph_gather_c138, a1, Option.bind_some, containsS_eq n ns _ (by omega) (by omega), Option.bind_some, if_neg (by simp [hmem])] at e1
  obtain ⟨l2, e1, h3⟩ := Option.bind_eq_some_iff.1 e1
  cases h3
  obtain ⟨m, h1, e1⟩ := Option.bind_eq_some_iff.1 e1
  obtain ⟨l3, e1, h3⟩ := Option.bind_eq_some_iff.1 e1
  cases h3
  obtain ⟨v1, v2, v3⟩ := visitAncestorsC r hs n _ [] m h1
  have hf := delSeen_exact n m ns l (by omega) (fun x => !(hasM m x)) (fun x => rfl) e1
  have hiff : ∀ x, hasM m x = true ↔ RchAncestors r.Contacts (⟨#[82]⟩ : Str) x := fun x => by
    constructor
    · intro h
      rcases v3 x h with g | g
      · cases g
      · exact g
    · intro h
      induction h with
      | refl => exact v2
      | step h1 _ ih => exact v1.closed _ ih rfl _ h1 rfl
  intro x
  rw [hf, List.mem_filter, a3, ← hiff]
  simp

open Classical in
/-- What the check of a rung's graph answers. -/
noncomputable def flowS (cs : List ApiContact) : Int :=
  if cs = [] then 4 else if ¬ Acyc cs then 12 else if ∃ x, IsNode cs x ∧ ¬ (RchReachable cs strLL x ∧ RchAncestors cs strRR x) then 13 else 0

theorem flow_exact (n : Nat) (r : ApiRung) (hs : r.Contacts.length ≤ 1000000) (hn : 4 * r.Contacts.length + 20 ≤ n) : flow_Check n r = some (flowS r.Contacts) := by
  rw [flow_Check]
  by_cases h0 : r.Contacts = []
  · rw [flowS, if_pos h0, if_pos (by simp [h0])]
  rw [flowS, if_neg h0, if_neg (by simpa using h0)]
  obtain ⟨s, e, a1, a2⟩ := TopoSort_exact n r hs (by omega)
  have hcode : e = 0 ∨ e = 12 := by
    have a1' := a1
    rw [graph_TopoSort] at a1'
    obtain ⟨ns, _, h⟩ := Option.bind_eq_some_iff.1 a1'
    exact topo_code n r n ns [] [] s e h
  rw [a1, Option.bind_some]
  dsimp only
  by_cases he : e = 0
  · rw [if_neg (by simpa using he), if_neg (fun h => h (a2.1 he))]
    obtain ⟨l1, b1, b1', b1''⟩ := Reachable_exact n r hs hn
    obtain ⟨l2, b2, b2', b2''⟩ := Ancestors_exact n r hs hn
    obtain ⟨ns, c1, c2, c3⟩ := nodes_exact n r (by omega) hs
    have hlen := c2.len
    have hp : ∀ x, flow_DeadNodes_1 n x l1 l2 = some (decide (x ∈ l1) && decide (x ∈ l2)) := fun x => by
      rw [flow_DeadNodes_1, containsS_eq n l1 x (by omega) (by omega), Option.bind_some]
      by_cases h : x ∈ l1
      · rw [if_pos (by simpa using h), containsS_eq n l2 x (by omega) (by omega), Option.bind_some]; simp [h]
      · rw [if_neg (by simpa using h)]; simp [h]
    obtain ⟨l, d1, _⟩ := delDead_eq n l1 l2 ns (by omega) (by omega) (fun x => ⟨_, hp x⟩)
    have hf := delDead_exact n l1 l2 ns l (by omega) _ hp d1
    rw [flow_DeadNodes, b1, Option.bind_some, b2, Option.bind_some, c1, Option.bind_some, d1, Option.bind_some, Option.bind_some]
    have hiff : (0 < l.length) ↔ ∃ x, IsNode r.Contacts x ∧ ¬ (RchReachable r.Contacts strLL x ∧ RchAncestors r.Contacts strRR x) := by
      constructor
      · intro h
        obtain ⟨x, hx⟩ := List.exists_mem_of_length_pos h
        rw [hf, List.mem_filter, c3] at hx
        refine ⟨x, hx.1, fun ⟨q1, q2⟩ => ?_⟩
        have := hx.2
        simp [(b1'' x).2 ⟨hx.1, q1⟩, (b2'' x).2 ⟨hx.1, q2⟩] at this
      · rintro ⟨x, h1, h2⟩
        refine List.length_pos_of_mem (a := x) ?_
        rw [hf, List.mem_filter, c3]
        refine ⟨h1, ?_⟩
        by_cases q1 : x ∈ l1
        · by_cases q2 : x ∈ l2
          · exact absurd ⟨((b1'' x).1 q1).2, ((b2'' x).1 q2).2⟩ h2
          · simp [q2]
        · simp [q1]
    by_cases hl : 0 < l.length
    · rw [if_pos (by simpa using hl), if_pos (hiff.1 hl)]
    · rw [if_neg (by simpa using hl), if_neg (fun h => hl (hiff.2 h))]
  · rw [if_pos (by simpa using he), if_pos (fun h => he (a2.2 h))]
    rcases hcode with h | h
    · exact absurd h he
    · rw [h]
end Go.G

namespace Go.G
open Go.Av

/-! ### the names of the nodes that are made -/
def nodeS (i : Nat) : Str := (⟨#[110]⟩ : Str) ++ dec2 i
def valN (s : Str) : Nat := match s.data.toList with
  | [_, a] => a.toNat - 48
  | [_, a, b] => (a.toNat - 48) * 10 + (b.toNat - 48)
  | _ => 0
theorem valN_node : ∀ i, i < 100 → valN (nodeS i) = i := by decide +kernel
theorem nodeS_inj {i j : Nat} (hi : i < 100) (hj : j < 100) (h : nodeS i = nodeS j) : i = j := by
  rw [← valN_node i hi, ← valN_node j hj, h]
theorem nodeS_L : ∀ i, i < 100 → nodeS i ≠ strLL := by decide +kernel
theorem nodeS_R : ∀ i, i < 100 → nodeS i ≠ strRR := by decide +kernel
def InR (n m : Nat) (x : Str) : Prop := ∃ i, n < i ∧ i ≤ m ∧ x = nodeS i
theorem InR.mono {n m n' m' : Nat} {x : Str} (h : InR n m x) (h1 : n' ≤ n) (h2 : m ≤ m') : InR n' m' x := by
  obtain ⟨i, a, b, c⟩ := h; exact ⟨i, by omega, by omega, c⟩
theorem InR.apart {n m n' m' : Nat} {x : Str} (h : InR n m x) (k : InR n' m' x) (h1 : m ≤ n' ∨ m' ≤ n) (h2 : m < 100) (h3 : m' < 100) : False := by
  obtain ⟨i, a, b, rfl⟩ := h
  obtain ⟨j, c, d, e⟩ := k
  have := nodeS_inj (by omega) (by omega) e
  omega
theorem InR.self {n m i : Nat} (h : InR n m (nodeS i)) (h1 : i ≤ n ∨ m < i) (h2 : m < 100) (h3 : i < 100) : False := by
  obtain ⟨j, a, b, e⟩ := h
  have := nodeS_inj h3 (by omega) e
  omega

/-! ### what an expansion lays -/
mutual
def layE : TreeTree → Str → Str → Nat → List ReduceEdge × Nat
  | .mk K N ks, a, b, n => if K = 0 then ([⟨⟨a, b⟩, .mk 0 N []⟩], n) else if K = 2 then layP ks a b n else layQ ks a b n
def layP : List TreeTree → Str → Str → Nat → List ReduceEdge × Nat
  | [], _, _, n => ([], n)
  | k :: ks, a, b, n => ((layE k a b n).1 ++ (layP ks a b (layE k a b n).2).1, (layP ks a b (layE k a b n).2).2)
def layQ : List TreeTree → Str → Str → Nat → List ReduceEdge × Nat
  | [], _, _, n => ([], n)
  | [k], a, b, n => layE k a b n
  | k :: k2 :: ks, a, b, n => ((layE k a (nodeS (n + 1)) (n + 1)).1 ++ (layQ (k2 :: ks) (nodeS (n + 1)) b (layE k a (nodeS (n + 1)) (n + 1)).2).1, (layQ (k2 :: ks) (nodeS (n + 1)) b (layE k a (nodeS (n + 1)) (n + 1)).2).2)
end

def Pts (a b : Str) (n m : Nat) (l : List ReduceEdge) : Prop := ∀ e ∈ l, (e.pair.from_ = a ∨ InR n m e.pair.from_) ∧ (e.pair.to_ = b ∨ InR n m e.pair.to_)

theorem layE_le : ∀ (t : TreeTree) (a b : Str) (n : Nat), n ≤ (layE t a b n).2 ∧ (layE t a b n).2 + 1 ≤ n + szT t := by
  intro t
  induction t using tree_ind with
  | h K N ks ih =>
    have hP : ∀ js : List TreeTree, (∀ k ∈ js, ∀ (a b : Str) (n : Nat), n ≤ (layE k a b n).2 ∧ (layE k a b n).2 + 1 ≤ n + szT k) → ∀ (a b : Str) (n : Nat), n ≤ (layP js a b n).2 ∧ (layP js a b n).2 ≤ n + szL js := by
      intro js
      induction js with
      | nil => intro _ a b n; simp [layP]
      | cons k js ihj =>
        intro h a b n
        have h1 := h k (by simp) a b n
        have h2 := ihj (fun j hj => h j (by simp [hj])) a b (layE k a b n).2
        rw [layP, szL]
        dsimp only
        omega
    have hQ : ∀ js : List TreeTree, (∀ k ∈ js, ∀ (a b : Str) (n : Nat), n ≤ (layE k a b n).2 ∧ (layE k a b n).2 + 1 ≤ n + szT k) → ∀ (a b : Str) (n : Nat), n ≤ (layQ js a b n).2 ∧ (layQ js a b n).2 ≤ n + szL js := by
      intro js
      induction js with
      | nil => intro _ a b n; simp [layQ]
      | cons k js ihj =>
        intro h a b n
        match js with
        | [] =>
          have h1 := h k (by simp) a b n
          rw [layQ, szL]
          omega
        | k2 :: js =>
          have h1 := h k (by simp) a (nodeS (n + 1)) (n + 1)
          have h2 := ihj (fun j hj => h j (by simp [hj])) (nodeS (n + 1)) b (layE k a (nodeS (n + 1)) (n + 1)).2
          rw [layQ, szL]
          dsimp only
          omega
    intro a b n
    rw [layE, szT]
    split
    · exact ⟨Nat.le_refl _, by dsimp only; omega⟩
    · split
      · have := hP ks ih a b n; omega
      · have := hQ ks ih a b n; omega

theorem layP_le (js : List TreeTree) (a b : Str) (n : Nat) : n ≤ (layP js a b n).2 ∧ (layP js a b n).2 ≤ n + szL js := by
  induction js generalizing n with
  | nil => simp [layP]
  | cons k js ihj =>
    have h1 := layE_le k a b n
    have h2 := ihj (layE k a b n).2
    rw [layP, szL]
    dsimp only
    omega
theorem layQ_le (js : List TreeTree) (a b : Str) (n : Nat) : n ≤ (layQ js a b n).2 ∧ (layQ js a b n).2 ≤ n + szL js := by
  induction js generalizing n a with
  | nil => simp [layQ]
  | cons k js ihj =>
    match js with
    | [] =>
      have h1 := layE_le k a b n
      rw [layQ, szL]
      omega
    | k2 :: js =>
      have h1 := layE_le k a (nodeS (n + 1)) (n + 1)
      have h2 := ihj (nodeS (n + 1)) (layE k a (nodeS (n + 1)) (n + 1)).2
      rw [layQ, szL]
      dsimp only
      omega

theorem Pts.mono {a b : Str} {n m n' m' : Nat} {l : List ReduceEdge} (h : Pts a b n m l) (h1 : n' ≤ n) (h2 : m ≤ m') : Pts a b n' m' l := fun e he =>
  ⟨(h e he).1.imp_right fun q => q.mono h1 h2, (h e he).2.imp_right fun q => q.mono h1 h2⟩
theorem Pts.append {a b : Str} {n m : Nat} {l l' : List ReduceEdge} (h : Pts a b n m l) (k : Pts a b n m l') : Pts a b n m (l ++ l') := fun e he => by
  rcases List.mem_append.1 he with he | he
  · exact h e he
  · exact k e he

theorem layE_pts : ∀ (t : TreeTree) (a b : Str) (n : Nat), Pts a b n (layE t a b n).2 (layE t a b n).1 := by
  intro t
  induction t using tree_ind with
  | h K N ks ih =>
    have hP : ∀ js : List TreeTree, (∀ k ∈ js, ∀ (a b : Str) (n : Nat), Pts a b n (layE k a b n).2 (layE k a b n).1) → ∀ (a b : Str) (n : Nat), Pts a b n (layP js a b n).2 (layP js a b n).1 := by
      intro js
      induction js with
      | nil => intro _ a b n e he; simp [layP] at he
      | cons k js ihj =>
        intro h a b n
        have h1 := h k (by simp) a b n
        have h2 := ihj (fun j hj => h j (by simp [hj])) a b (layE k a b n).2
        have q1 := layE_le k a b n
        have q2 := layP_le js a b (layE k a b n).2
        rw [layP]
        exact (h1.mono (Nat.le_refl _) q2.1).append (h2.mono q1.1 (Nat.le_refl _))
    have hQ : ∀ js : List TreeTree, (∀ k ∈ js, ∀ (a b : Str) (n : Nat), Pts a b n (layE k a b n).2 (layE k a b n).1) → ∀ (a b : Str) (n : Nat), Pts a b n (layQ js a b n).2 (layQ js a b n).1 := by
      intro js
      induction js with
      | nil => intro _ a b n e he; simp [layQ] at he
      | cons k js ihj =>
        intro h a b n
        match js with
        | [] => rw [layQ]; exact h k (by simp) a b n
        | k2 :: js =>
          have h1 := h k (by simp) a (nodeS (n + 1)) (n + 1)
          have h2 := ihj (fun j hj => h j (by simp [hj])) (nodeS (n + 1)) b (layE k a (nodeS (n + 1)) (n + 1)).2
          have q1 := layE_le k a (nodeS (n + 1)) (n + 1)
          have q2 := layQ_le (k2 :: js) (nodeS (n + 1)) b (layE k a (nodeS (n + 1)) (n + 1)).2
          have hc : InR n (layQ (k2 :: js) (nodeS (n + 1)) b (layE k a (nodeS (n + 1)) (n + 1)).2).2 (nodeS (n + 1)) := ⟨n + 1, by omega, by omega, rfl⟩
          rw [layQ]
          intro e he
          rcases List.mem_append.1 he with he | he
          · obtain ⟨p1, p2⟩ := (h1.mono (show n ≤ n + 1 by omega) q2.1) e he
            exact ⟨p1, p2.elim (fun q => .inr (q ▸ hc)) .inr⟩
          · obtain ⟨p1, p2⟩ := (h2.mono (show n ≤ _ by omega) (Nat.le_refl _)) e he
            exact ⟨p1.elim (fun q => .inr (q ▸ hc)) .inr, p2⟩
    intro a b n
    rw [layE]
    split
    · intro e he
      rw [List.mem_singleton] at he
      subst he
      exact ⟨.inl rfl, .inl rfl⟩
    · split
      · exact hP ks ih a b n
      · exact hQ ks ih a b n
theorem layP_pts (js : List TreeTree) (a b : Str) (n : Nat) : Pts a b n (layP js a b n).2 (layP js a b n).1 := by
  induction js generalizing n with
  | nil => intro e he; simp [layP] at he
  | cons k js ihj =>
    have q1 := layE_le k a b n
    have q2 := layP_le js a b (layE k a b n).2
    rw [layP]
    exact ((layE_pts k a b n).mono (Nat.le_refl _) q2.1).append ((ihj _).mono q1.1 (Nat.le_refl _))
theorem layQ_pts (js : List TreeTree) (a b : Str) (n : Nat) : Pts a b n (layQ js a b n).2 (layQ js a b n).1 := by
  have h := layE_pts (.mk 1 0 js) a b n
  rwa [layE, if_neg (by decide), if_neg (by decide)] at h

/-! ### the leaves that are laid -/
theorem layE_lv {len : Int} : ∀ (t : TreeTree), Ok len t → ∀ (a b : Str) (n : Nat), (layE t a b n).1.map (·.t_) = (lv t).map fun N => .mk 0 N [] := by
  intro t
  induction t using tree_ind with
  | h K N ks ih =>
    intro hok a b n
    rw [Ok] at hok
    rcases hok with ⟨rfl, rfl, _, _⟩ | ⟨hK, rfl, _, _, hks⟩
    · rw [layE, if_pos rfl, lv, if_pos rfl]; rfl
    · rw [OkL_iff] at hks
      have hP : ∀ js : List TreeTree, (∀ k ∈ js, ∀ (a b : Str) (n : Nat), (layE k a b n).1.map (·.t_) = (lv k).map fun N => .mk 0 N []) → ∀ (a b : Str) (n : Nat), (layP js a b n).1.map (·.t_) = (lvs js).map fun N => .mk 0 N [] := by
        intro js
        induction js with
        | nil => intro _ a b n; rfl
        | cons k js ihj =>
          intro h a b n
          rw [layP, lvs, List.map_append, List.map_append, h k (by simp), ihj fun j hj => h j (by simp [hj])]
      have hQ : ∀ js : List TreeTree, (∀ k ∈ js, ∀ (a b : Str) (n : Nat), (layE k a b n).1.map (·.t_) = (lv k).map fun N => .mk 0 N []) → ∀ (a b : Str) (n : Nat), (layQ js a b n).1.map (·.t_) = (lvs js).map fun N => .mk 0 N [] := by
        intro js
        induction js with
        | nil => intro _ a b n; rfl
        | cons k js ihj =>
          intro h a b n
          match js with
          | [] => rw [layQ, lvs, lvs, List.append_nil]; exact h k (by simp) a b n
          | k2 :: js => rw [layQ, lvs, List.map_append, List.map_append, h k (by simp), ihj fun j hj => h j (by simp [hj])]
      have hi : ∀ k ∈ ks, ∀ (a b : Str) (n : Nat), (layE k a b n).1.map (·.t_) = (lv k).map fun N => .mk 0 N [] := fun k hk => ih k hk (hks k hk)
      rw [lv, if_neg (by omega), if_pos hK, layE, if_neg (by omega)]
      split
      · exact hP ks hi a b n
      · exact hQ ks hi a b n

/-! ### reducing -/
def mkT (K : Int) : List TreeTree → TreeTree
  | [k] => k
  | ks => .mk K 0 ks
section
variable {len : Int} {K : Int} (hK : K = 1 ∨ K = 2)
include hK
theorem mkT_good {ks : List TreeTree} (h : Goods len ks) (hne : ks ≠ []) (hk : ∀ k ∈ ks, k.Kind ≠ K) : Good len (mkT K ks) := by
  match ks with
  | [] => exact absurd rfl hne
  | [k] =>
    show Good len k
    exact h.mem (by simp)
  | k :: k2 :: ks =>
    rw [mkT]
    · refine ⟨?_, ?_⟩
      · rw [Ok]; exact .inr ⟨hK, rfl, by simp, hk, OkL_iff.2 h.ok⟩
      · rw [lv, if_neg (by omega), if_pos hK]; exact h.nd
    · intro k' e; cases e
theorem mkT_lv {ks : List TreeTree} (hne : ks ≠ []) : lv (mkT K ks) = lvs ks := by
  match ks with
  | [] => exact absurd rfl hne
  | [k] => rw [mkT, lvs, lvs, List.append_nil]
  | k :: k2 :: ks =>
    rw [mkT]
    · rw [lv, if_neg (by omega), if_pos hK]
    · intro k' e; cases e
theorem mkT_join {k k2 : TreeTree} {ks : List TreeTree} (hk : ∀ j ∈ k :: k2 :: ks, j.Kind ≠ K) : joinT K k (mkT K (k2 :: ks)) = mkT K (k :: k2 :: ks) := by
  have e1 : joinK K k = [k] := by rw [joinK, if_neg (hk k (by simp))]
  have e2 : joinK K (mkT K (k2 :: ks)) = k2 :: ks := by
    match ks with
    | [] => rw [mkT, joinK, if_neg (hk k2 (by simp))]
    | k3 :: ks =>
      rw [mkT]
      · rw [joinK_mk]
      · intro k' e; cases e
  have e3 : mkT K (k :: k2 :: ks) = .mk K 0 (k :: k2 :: ks) := by
    rw [mkT]
    intro k' e; cases e
  rw [joinT, e1, e2, e3]; rfl
theorem mkT_joinE {k k2 : TreeTree} {ks : List TreeTree} (h : Goods len (k :: k2 :: ks)) (hk : ∀ j ∈ k :: k2 :: ks, j.Kind ≠ K) (a c d b : Str) :
    joinE K ⟨⟨a, c⟩, sortedS k⟩ ⟨⟨d, b⟩, sortedS (mkT K (k2 :: ks))⟩ = ⟨⟨a, b⟩, sortedS (mkT K (k :: k2 :: ks))⟩ := by
  have h2 : Goods len (k2 :: ks) := ⟨fun t ht => h.ok t (by simp [ht]), by
    have := h.nd
    rw [lvs] at this
    exact (List.nodup_append.1 this).2.1⟩
  have g1 := h.mem (t := k) (by simp)
  have g2 := mkT_good hK h2 (by simp) fun j hj => hk j (by simp [hj])
  have g3 : (lv k ++ lv (mkT K (k2 :: ks))).Nodup := by
    rw [mkT_lv hK (by simp)]
    have := h.nd
    rwa [lvs] at this
  show ReduceEdge.mk ⟨a, b⟩ (J K (sortedS k) (sortedS (mkT K (k2 :: ks)))) = _
  rw [J_sorted g1 g2 hK g3, J, mkT_join hK hk]
end

def FrL (n m : Nat) (r : List ReduceEdge) : Prop := ∀ e ∈ r, ¬ InR n m e.pair.from_ ∧ ¬ InR n m e.pair.to_
theorem FrL.mono {n m n' m' : Nat} {r : List ReduceEdge} (h : FrL n m r) (h1 : n ≤ n') (h2 : m' ≤ m) : FrL n' m' r := fun e he =>
  ⟨fun q => (h e he).1 (q.mono h1 h2), fun q => (h e he).2 (q.mono h1 h2)⟩
theorem FrL.append {n m : Nat} {r r' : List ReduceEdge} (h : FrL n m r) (k : FrL n m r') : FrL n m (r ++ r') := fun e he => by
  rcases List.mem_append.1 he with he | he
  · exact h e he
  · exact k e he
theorem FrL.cons {n m : Nat} {x : ReduceEdge} {r : List ReduceEdge} (h1 : ¬ InR n m x.pair.from_) (h2 : ¬ InR n m x.pair.to_) (h : FrL n m r) : FrL n m (x :: r) := fun e he => by
  rcases List.mem_cons.1 he with rfl | he
  · exact ⟨h1, h2⟩
  · exact h e he
theorem Pts.fr {a b : Str} {n m n' m' : Nat} {l : List ReduceEdge} (h : Pts a b n m l) (ha : ¬ InR n' m' a) (hb : ¬ InR n' m' b) (hd : m ≤ n' ∨ m' ≤ n) (h1 : m < 100) (h2 : m' < 100) : FrL n' m' l := fun e he =>
  ⟨fun q => (h e he).1.elim (fun e => ha (e ▸ q)) fun p => p.apart q hd h1 h2, fun q => (h e he).2.elim (fun e => hb (e ▸ q)) fun p => p.apart q hd h1 h2⟩

/-- What a tree lays reduces to one edge. -/
def RedE (t : TreeTree) : Prop := ∀ (a b : Str) (n : Nat) (r : List ReduceEdge), (layE t a b n).2 < 100 → ¬ InR n (layE t a b n).2 a → ¬ InR n (layE t a b n).2 b → FrL n (layE t a b n).2 r → StepsP ((layE t a b n).1 ++ r) (⟨⟨a, b⟩, sortedS t⟩ :: r)

theorem layP_red {len : Int} : ∀ (ks : List TreeTree), ks ≠ [] → Goods len ks → (∀ k ∈ ks, k.Kind ≠ 2) → (∀ k ∈ ks, RedE k) → ∀ (a b : Str) (n : Nat) (r : List ReduceEdge), (layP ks a b n).2 < 100 → ¬ InR n (layP ks a b n).2 a → ¬ InR n (layP ks a b n).2 b → FrL n (layP ks a b n).2 r →
    StepsP ((layP ks a b n).1 ++ r) (⟨⟨a, b⟩, sortedS (mkT 2 ks)⟩ :: r)
  | [], hne, _, _, _, _, _, _, _, _, _, _, _ => absurd rfl hne
  | [k], _, _, _, ih, a, b, n, r, h1, h2, h3, h4 => by
    have e : layP [k] a b n = layE k a b n := by rw [layP, layP, List.append_nil]
    rw [e] at h1 h2 h3 h4 ⊢
    exact ih k (by simp) a b n r h1 h2 h3 h4
  | k :: k2 :: ks, _, hg, hk, ih, a, b, n, r, h1, h2, h3, h4 => by
    have hg2 : Goods len (k2 :: ks) := ⟨fun t ht => hg.ok t (by simp [ht]), by
      have := hg.nd
      rw [lvs] at this
      exact (List.nodup_append.1 this).2.1⟩
    rw [layP] at h1 h2 h3 h4 ⊢
    dsimp only at h1 h2 h3 h4 ⊢
    have q1 := layE_le k a b n
    have q2 := layP_le (k2 :: ks) a b (layE k a b n).2
    have s1 := ih k (by simp) a b n ((layP (k2 :: ks) a b (layE k a b n).2).1 ++ r) (by omega) (fun q => h2 (q.mono (Nat.le_refl _) q2.1)) (fun q => h3 (q.mono (Nat.le_refl _) q2.1))
      (((layP_pts (k2 :: ks) a b (layE k a b n).2).fr (fun q => h2 (q.mono (Nat.le_refl _) q2.1)) (fun q => h3 (q.mono (Nat.le_refl _) q2.1)) (.inr (Nat.le_refl _)) h1 (by omega)).append (h4.mono (Nat.le_refl _) q2.1))
    have s2 := layP_red (k2 :: ks) (by simp) hg2 (fun j hj => hk j (by simp [hj])) (fun j hj => ih j (by simp [hj])) a b (layE k a b n).2 (⟨⟨a, b⟩, sortedS k⟩ :: r) h1 (fun q => h2 (q.mono q1.1 (Nat.le_refl _))) (fun q => h3 (q.mono q1.1 (Nat.le_refl _)))
      (FrL.cons (fun q => h2 (q.mono q1.1 (Nat.le_refl _))) (fun q => h3 (q.mono q1.1 (Nat.le_refl _))) (h4.mono q1.1 (Nat.le_refl _)))
    rw [List.append_assoc]
    refine s1.trans ((s2.of_perm List.perm_middle).tail ?_)
    refine ⟨2, ⟨⟨a, b⟩, sortedS k⟩, ⟨⟨a, b⟩, sortedS (mkT 2 (k2 :: ks))⟩, r, List.Perm.swap _ _ _, .inl ⟨rfl, rfl⟩, ?_⟩
    rw [mkT_joinE (.inr rfl) hg hk]

theorem layQ_red {len : Int} : ∀ (ks : List TreeTree), ks ≠ [] → Goods len ks → (∀ k ∈ ks, k.Kind ≠ 1) → (∀ k ∈ ks, RedE k) → ∀ (a b : Str) (n : Nat) (r : List ReduceEdge), (layQ ks a b n).2 < 100 → ¬ InR n (layQ ks a b n).2 a → ¬ InR n (layQ ks a b n).2 b → FrL n (layQ ks a b n).2 r →
    StepsP ((layQ ks a b n).1 ++ r) (⟨⟨a, b⟩, sortedS (mkT 1 ks)⟩ :: r)
  | [], hne, _, _, _, _, _, _, _, _, _, _, _ => absurd rfl hne
  | [k], _, _, _, ih, a, b, n, r, h1, h2, h3, h4 => by
    rw [layQ] at h1 h2 h3 h4 ⊢
    exact ih k (by simp) a b n r h1 h2 h3 h4
  | k :: k2 :: ks, _, hg, hk, ih, a, b, n, r, h1, h2, h3, h4 => by
    have hg2 : Goods len (k2 :: ks) := ⟨fun t ht => hg.ok t (by simp [ht]), by
      have := hg.nd
      rw [lvs] at this
      exact (List.nodup_append.1 this).2.1⟩
    rw [layQ] at h1 h2 h3 h4 ⊢
    dsimp only at h1 h2 h3 h4 ⊢
    have q1 := layE_le k a (nodeS (n + 1)) (n + 1)
    have q2 := layQ_le (k2 :: ks) (nodeS (n + 1)) b (layE k a (nodeS (n + 1)) (n + 1)).2
    have hn1 : n ≤ n + 1 := by omega
    have c1 : ¬ InR (n + 1) (layE k a (nodeS (n + 1)) (n + 1)).2 (nodeS (n + 1)) := fun q => q.self (.inl (Nat.le_refl _)) (by omega) (by omega)
    have c2 : ¬ InR (layE k a (nodeS (n + 1)) (n + 1)).2 (layQ (k2 :: ks) (nodeS (n + 1)) b (layE k a (nodeS (n + 1)) (n + 1)).2).2 (nodeS (n + 1)) := fun q => q.self (.inl q1.1) h1 (by omega)
    have c3 : InR n (layQ (k2 :: ks) (nodeS (n + 1)) b (layE k a (nodeS (n + 1)) (n + 1)).2).2 (nodeS (n + 1)) := ⟨n + 1, by omega, by omega, rfl⟩
    have s1 := ih k (by simp) a (nodeS (n + 1)) (n + 1) ((layQ (k2 :: ks) (nodeS (n + 1)) b (layE k a (nodeS (n + 1)) (n + 1)).2).1 ++ r) (by omega) (fun q => h2 (q.mono hn1 q2.1)) c1
      (((layQ_pts (k2 :: ks) (nodeS (n + 1)) b (layE k a (nodeS (n + 1)) (n + 1)).2).fr c1 (fun q => h3 (q.mono hn1 q2.1)) (.inr (Nat.le_refl _)) h1 (by omega)).append (h4.mono hn1 q2.1))
    have hn2 : n ≤ (layE k a (nodeS (n + 1)) (n + 1)).2 := by omega
    have s2 := layQ_red (k2 :: ks) (by simp) hg2 (fun j hj => hk j (by simp [hj])) (fun j hj => ih j (by simp [hj])) (nodeS (n + 1)) b (layE k a (nodeS (n + 1)) (n + 1)).2 (⟨⟨a, nodeS (n + 1)⟩, sortedS k⟩ :: r) h1 c2 (fun q => h3 (q.mono hn2 (Nat.le_refl _)))
      (FrL.cons (fun q => h2 (q.mono hn2 (Nat.le_refl _))) c2 (h4.mono hn2 (Nat.le_refl _)))
    rw [List.append_assoc]
    refine s1.trans ((s2.of_perm List.perm_middle).tail ?_)
    refine ⟨1, ⟨⟨a, nodeS (n + 1)⟩, sortedS k⟩, ⟨⟨nodeS (n + 1), b⟩, sortedS (mkT 1 (k2 :: ks))⟩, r, List.Perm.swap _ _ _, .inr ⟨rfl, rfl, nodeS_L _ (by omega), nodeS_R _ (by omega), fun e he => ?_, fun e he => ?_⟩, ?_⟩
    · rcases List.mem_cons.1 he with rfl | he
      · exact fun q => h3 (show InR n _ b from by generalize hm : (layQ (k2 :: ks) (nodeS (n + 1)) b (layE k a (nodeS (n + 1)) (n + 1)).2).2 = m at c3 ⊢; rw [show b = nodeS (n + 1) from q]; exact c3)
      · exact fun q => (h4 e he).2 (q ▸ c3)
    · rcases List.mem_cons.1 he with rfl | he
      · exact fun q => h2 (show InR n _ a from by generalize hm : (layQ (k2 :: ks) (nodeS (n + 1)) b (layE k a (nodeS (n + 1)) (n + 1)).2).2 = m at c3 ⊢; rw [show a = nodeS (n + 1) from q]; exact c3)
      · exact fun q => (h4 e he).1 (q ▸ c3)
    · rw [mkT_joinE (.inl rfl) hg hk]

theorem lay_red {len : Int} : ∀ (t : TreeTree), Good len t → RedE t := by
  intro t
  induction t using tree_ind with
  | h K N ks ih =>
    intro hg a b n r h1 h2 h3 h4
    have hok := hg.ok
    rw [Ok] at hok
    rcases hok with ⟨rfl, rfl, _, _⟩ | ⟨hK, rfl, hl, hk, _⟩
    · rw [layE, if_pos rfl, sortedS, if_neg (by decide), sortedSs]; exact .refl (.refl _)
    · have hgs := hg.kids hK
      have hne : ks ≠ [] := by rintro rfl; simp at hl
      have hmk : mkT K ks = .mk K 0 ks := by
        match ks, hl with
        | k :: k2 :: ks, _ =>
          rw [mkT]
          intro k' e; cases e
      have hi : ∀ k ∈ ks, RedE k := fun k hk => ih k hk (hgs.mem hk)
      rw [layE, if_neg (by omega)] at h1 h2 h3 h4 ⊢
      rcases hK with rfl | rfl
      · rw [if_neg (by decide)] at h1 h2 h3 h4 ⊢
        rw [← hmk]
        exact layQ_red ks hne hgs hk hi a b n r h1 h2 h3 h4
      · rw [if_pos rfl] at h1 h2 h3 h4 ⊢
        rw [← hmk]
        exact layP_red ks hne hgs hk hi a b n r h1 h2 h3 h4

theorem lay_top {len : Int} {t : TreeTree} (hg : Good len t) (h : szT t ≤ 99) : StepsP (layE t strLL strRR 0).1 [⟨⟨strLL, strRR⟩, sortedS t⟩] := by
  have hl := layE_le t strLL strRR 0
  have hL : ¬ InR 0 (layE t strLL strRR 0).2 strLL := fun ⟨i, h1, h2, h3⟩ => nodeS_L i (by omega) h3.symm
  have hR : ¬ InR 0 (layE t strLL strRR 0).2 strRR := fun ⟨i, h1, h2, h3⟩ => nodeS_R i (by omega) h3.symm
  have := lay_red t hg strLL strRR 0 [] (by omega) hL hR (fun e he => by cases he)
  rwa [List.append_nil] at this

/-! ### what reduces to one edge is a rung of good make -/
inductive ERch (l : List ReduceEdge) : Str → Prop
  | refl : ERch l strLL
  | step {e : ReduceEdge} (h1 : e ∈ l) (h : ERch l e.pair.from_) : ERch l e.pair.to_
inductive EAnc (l : List ReduceEdge) : Str → Prop
  | refl : EAnc l strRR
  | step {e : ReduceEdge} (h1 : e ∈ l) (h : EAnc l e.pair.to_) : EAnc l e.pair.from_
theorem ERch.mono {l l' : List ReduceEdge} (h : ∀ e ∈ l, ERch l' e.pair.from_ → ERch l' e.pair.to_) {x : Str} (k : ERch l x) : ERch l' x := by
  induction k with
  | refl => exact .refl
  | step h1 _ ih => exact h _ h1 ih
theorem EAnc.mono {l l' : List ReduceEdge} (h : ∀ e ∈ l, EAnc l' e.pair.to_ → EAnc l' e.pair.from_) {x : Str} (k : EAnc l x) : EAnc l' x := by
  induction k with
  | refl => exact .refl
  | step h1 _ ih => exact h _ h1 ih

structure SPg (l : List ReduceEdge) : Prop where
  rk : ∃ rank : Str → Nat, ∀ e ∈ l, rank e.pair.from_ < rank e.pair.to_
  r : ERch l strRR
  a : EAnc l strLL
  all : ∀ e ∈ l, ERch l e.pair.from_ ∧ EAnc l e.pair.to_

theorem SPg.perm {l l' : List ReduceEdge} (h : SPg l) (p : l.Perm l') : SPg l' := by
  have m : ∀ e, e ∈ l → e ∈ l' := fun e he => p.subset he
  have hr : ∀ {x}, ERch l x → ERch l' x := fun k => k.mono fun e he h => .step (m e he) h
  have ha : ∀ {x}, EAnc l x → EAnc l' x := fun k => k.mono fun e he h => .step (m e he) h
  obtain ⟨rank, hk⟩ := h.rk
  exact ⟨⟨rank, fun e he => hk e (p.symm.subset he)⟩, hr h.r, ha h.a, fun e he => ⟨hr (h.all e (p.symm.subset he)).1, ha (h.all e (p.symm.subset he)).2⟩⟩

theorem SPg.back {l l' : List ReduceEdge} (h : RedP l l') (k : SPg l') : SPg l := by
  obtain ⟨K, x, y, r, p, c, e⟩ := h
  have k := k.perm e
  refine SPg.perm ?_ p.symm
  obtain ⟨rank, hk⟩ := k.rk
  have kj := k.all (joinE K x y) (by simp)
  have hkj : rank x.pair.from_ < rank y.pair.to_ := hk (joinE K x y) (by simp)
  have mr : ∀ {d}, d ∈ r → d ∈ x :: y :: r := fun hd => by simp [hd]
  rcases c with ⟨_, hp⟩ | ⟨_, hv, _, _, hin, hout⟩
  · have hrch : ∀ {z}, ERch (joinE K x y :: r) z → ERch (x :: y :: r) z := fun q => q.mono fun d hd h => by
      rcases List.mem_cons.1 hd with rfl | hd
      · show ERch _ y.pair.to_
        exact .step (e := y) (by simp) (by rw [hp]; exact h)
      · exact .step (mr hd) h
    have hanc : ∀ {z}, EAnc (joinE K x y :: r) z → EAnc (x :: y :: r) z := fun q => q.mono fun d hd h => by
      rcases List.mem_cons.1 hd with rfl | hd
      · show EAnc _ x.pair.from_
        exact .step (e := x) (by simp) (by rw [← hp]; exact h)
      · exact .step (mr hd) h
    refine ⟨⟨rank, fun d hd => ?_⟩, hrch k.r, hanc k.a, fun d hd => ?_⟩
    · rcases List.mem_cons.1 hd with rfl | hd
      · rw [hp] at hkj; exact hkj
      · rcases List.mem_cons.1 hd with rfl | hd
        · rw [← hp] at hkj; exact hkj
        · exact hk d (by simp [hd])
    · have h1 : ERch (x :: y :: r) x.pair.from_ := hrch kj.1
      have h2 : EAnc (x :: y :: r) y.pair.to_ := hanc kj.2
      rcases List.mem_cons.1 hd with rfl | hd
      · exact ⟨h1, by rw [← hp]; exact h2⟩
      · rcases List.mem_cons.1 hd with rfl | hd
        · exact ⟨by rw [hp]; exact h1, h2⟩
        · exact ⟨hrch (k.all d (by simp [hd])).1, hanc (k.all d (by simp [hd])).2⟩
  · have hxv : x.pair.from_ ≠ x.pair.to_ := hout x (by simp)
    have hyv : y.pair.to_ ≠ x.pair.to_ := hin y (by simp)
    have hrch : ∀ {z}, ERch (joinE K x y :: r) z → ERch (x :: y :: r) z := fun q => q.mono fun d hd h => by
      rcases List.mem_cons.1 hd with rfl | hd
      · show ERch _ y.pair.to_
        exact .step (e := y) (by simp) (by rw [hv]; exact .step (e := x) (by simp) h)
      · exact .step (mr hd) h
    have hanc : ∀ {z}, EAnc (joinE K x y :: r) z → EAnc (x :: y :: r) z := fun q => q.mono fun d hd h => by
      rcases List.mem_cons.1 hd with rfl | hd
      · show EAnc _ x.pair.from_
        exact .step (e := x) (by simp) (by rw [← hv]; exact .step (e := y) (by simp) h)
      · exact .step (mr hd) h
    refine ⟨⟨fun z => if z = x.pair.to_ then 2 * rank x.pair.from_ + 1 else 2 * rank z, fun d hd => ?_⟩, hrch k.r, hanc k.a, fun d hd => ?_⟩
    · rcases List.mem_cons.1 hd with rfl | hd
      · simp only [if_neg hxv, if_true]; omega
      · rcases List.mem_cons.1 hd with rfl | hd
        · simp only [if_neg hyv, if_pos hv]; omega
        · have := hk d (by simp [hd])
          simp only [if_neg (hout d (by simp [hd])), if_neg (hin d (by simp [hd]))]; omega
    · have h1 : ERch (x :: y :: r) x.pair.from_ := hrch kj.1
      have h2 : EAnc (x :: y :: r) y.pair.to_ := hanc kj.2
      rcases List.mem_cons.1 hd with rfl | hd
      · exact ⟨h1, by rw [← hv]; exact .step (e := y) (by simp) h2⟩
      · rcases List.mem_cons.1 hd with rfl | hd
        · exact ⟨by rw [hv]; exact .step (e := x) (by simp) h1, h2⟩
        · exact ⟨hrch (k.all d (by simp [hd])).1, hanc (k.all d (by simp [hd])).2⟩

theorem SPg.steps {l m : List ReduceEdge} (h : StepsP l m) (k : SPg m) : SPg l := by
  induction h with
  | refl p => exact k.perm p.symm
  | head a _ ih => exact (ih k).back a
theorem SPg.one (t : TreeTree) : SPg [⟨⟨strLL, strRR⟩, t⟩] :=
  ⟨⟨fun z => if z = strLL then 0 else 1, fun e he => by
    rw [List.mem_singleton] at he; subst he
    have : strRR ≠ strLL := by decide
    simp only [if_true, if_neg this]; omega⟩,
    .step (e := ⟨⟨strLL, strRR⟩, t⟩) (by simp) .refl, .step (e := ⟨⟨strLL, strRR⟩, t⟩) (by simp) .refl, fun e he => by
    rw [List.mem_singleton] at he; subst he
    exact ⟨.refl, .refl⟩⟩

theorem flow_of_SPg {cs : List ApiContact} {l : List ReduceEdge} (hl : l.map (·.pair) = cs.map fun c => (⟨c.From, c.To⟩ : ReducePair)) (h : SPg l) : flowS cs = 0 := by
  have m1 : ∀ e ∈ l, ∃ c ∈ cs, c.From = e.pair.from_ ∧ c.To = e.pair.to_ := fun e he => by
    have : e.pair ∈ l.map (·.pair) := List.mem_map.2 ⟨e, he, rfl⟩
    rw [hl] at this
    obtain ⟨c, hc, e1⟩ := List.mem_map.1 this
    exact ⟨c, hc, by rw [← e1], by rw [← e1]⟩
  have m2 : ∀ c ∈ cs, ∃ e ∈ l, e.pair.from_ = c.From ∧ e.pair.to_ = c.To := fun c hc => by
    have : (⟨c.From, c.To⟩ : ReducePair) ∈ cs.map fun c => (⟨c.From, c.To⟩ : ReducePair) := List.mem_map.2 ⟨c, hc, rfl⟩
    rw [← hl] at this
    obtain ⟨e, he, e1⟩ := List.mem_map.1 this
    exact ⟨e, he, by rw [e1], by rw [e1]⟩
  have hr : ∀ {x}, ERch l x → RchReachable cs strLL x := fun k => by
    induction k with
    | refl => exact .refl
    | step h1 _ ih =>
      obtain ⟨c, hc, e1, e2⟩ := m1 _ h1
      rw [← e2]; exact .step hc (by rw [e1]; exact ih)
  have ha : ∀ {x}, EAnc l x → RchAncestors cs strRR x := fun k => by
    induction k with
    | refl => exact .refl
    | step h1 _ ih =>
      obtain ⟨c, hc, e1, e2⟩ := m1 _ h1
      rw [← e1]; exact .step hc (by rw [e2]; exact ih)
  have hne : cs ≠ [] := by
    rintro rfl
    have q := hr h.r
    generalize hz : strRR = z at q
    cases q with
    | refl => exact absurd hz (by decide)
    | step h1 _ => cases h1
  obtain ⟨rank, hk⟩ := h.rk
  have hac : Acyc cs := ⟨rank, fun c hc => by
    obtain ⟨e, he, e1, e2⟩ := m2 c hc
    rw [← e1, ← e2]; exact hk e he⟩
  unfold flowS
  rw [if_neg hne, if_neg (show ¬ ¬ Acyc cs from fun e => e hac), if_neg]
  rintro ⟨x, hx, hn⟩
  refine hn ?_
  rcases hx with rfl | rfl | ⟨c, hc, hx⟩
  · exact ⟨hr .refl, ha h.a⟩
  · exact ⟨hr h.r, ha .refl⟩
  · obtain ⟨e, he, e1, e2⟩ := m2 c hc
    obtain ⟨p1, p2⟩ := h.all e he
    rcases hx with rfl | rfl
    · rw [← e1]; exact ⟨hr p1, ha (.step he p2)⟩
    · rw [← e2]; exact ⟨hr (.step he p1), ha p2⟩
end Go.G

namespace Go.G
open Go.Av

/-- A contact is laid. -/
def setE (l : List ApiContact) (e : ReduceEdge) : List ApiContact := match l[e.t_.N.toNat]? with
  | some c => l.set e.t_.N.toNat ⟨c.Kind, c.A, e.pair.from_, e.pair.to_⟩
  | none => l
theorem setE_len (l : List ApiContact) (e : ReduceEdge) : (setE l e).length = l.length := by
  unfold setE; split <;> simp
theorem setEs_len (es : List ReduceEdge) : ∀ l : List ApiContact, (es.foldl setE l).length = l.length := by
  induction es with
  | nil => intro l; rfl
  | cons e es ih => intro l; rw [List.foldl_cons, ih, setE_len]
theorem setE_ne (l : List ApiContact) (e : ReduceEdge) {i : Nat} (h : e.t_.N.toNat ≠ i) : (setE l e)[i]? = l[i]? := by
  unfold setE; split
  · exact List.getElem?_set_ne h
  · rfl
theorem setE_eq (l : List ApiContact) (e : ReduceEdge) {c : ApiContact} (h : l[e.t_.N.toNat]? = some c) : (setE l e)[e.t_.N.toNat]? = some ⟨c.Kind, c.A, e.pair.from_, e.pair.to_⟩ := by
  unfold setE; rw [h]
  exact List.getElem?_set_self (get_lt h)
theorem setEs_ne (es : List ReduceEdge) {i : Nat} : ∀ (l : List ApiContact), (∀ e ∈ es, e.t_.N.toNat ≠ i) → (es.foldl setE l)[i]? = l[i]? := by
  induction es with
  | nil => intro l _; rfl
  | cons e es ih =>
    intro l h
    rw [List.foldl_cons, ih _ fun d hd => h d (by simp [hd]), setE_ne _ _ (h e (by simp))]
theorem setEs_eq (es : List ReduceEdge) : ∀ (l : List ApiContact), (es.map fun e => e.t_.N.toNat).Nodup → ∀ e ∈ es, ∀ c, l[e.t_.N.toNat]? = some c → (es.foldl setE l)[e.t_.N.toNat]? = some ⟨c.Kind, c.A, e.pair.from_, e.pair.to_⟩ := by
  induction es with
  | nil => intro l _ e he; cases he
  | cons d es ih =>
    intro l hd e he c hc
    rw [List.map_cons, List.nodup_cons] at hd
    have hne : ∀ x ∈ es, x.t_.N.toNat ≠ d.t_.N.toNat := fun x hx q => hd.1 (List.mem_map.2 ⟨x, hx, q⟩)
    rw [List.foldl_cons]
    rcases List.mem_cons.1 he with rfl | he
    · rw [setEs_ne es _ hne]; exact setE_eq l e hc
    · exact ih _ hd.2 e he c (by rw [setE_ne _ _ (Ne.symm (hne e he))]; exact hc)

/-! ### the walk over a tree -/
theorem itoa_eq (n i : Nat) (h : i < 100) : strconv_Itoa n (i : Int) = some (dec2 i) := by
  rw [strconv_Itoa, if_pos ⟨by omega, by omega⟩, Int.toNat_natCast]
theorem dec2_size (i : Nat) : (dec2 i).size ≤ 2 := by
  unfold dec2
  split <;> simp [ByteArray.size]

section
variable (f : Nat) (slf : TreeTree → ReducePair → List ApiContact → Int → Option (List ApiContact × Int)) (ks : List TreeTree)
  (hs : ∀ k ∈ ks, ∀ (p : ReducePair) (l : List ApiContact) (n : Nat), n + szT k ≤ 100 → (∀ x ∈ lv k, 0 ≤ x ∧ x.toNat < l.length) → slf k p l (n : Int) = some ((layE k p.from_ p.to_ n).1.foldl setE l, ((layE k p.from_ p.to_ n).2 : Int)))
include hs

theorem expP (t : TreeTree) (ht : t.Kids = ks) (p : ReducePair) (hb : ks.length ≤ 1000000) : ∀ (q i n : Nat) (l : List ApiContact), i ≤ ks.length → ks.length - i < q → n + szL (ks.drop i) ≤ 99 → (∀ x ∈ lvs (ks.drop i), 0 ≤ x ∧ x.toNat < l.length) →
    reduce_Expand_1_c56_v1_L1 t p slf q l (n : Int) (i : Int) = some ((layP (ks.drop i) p.from_ p.to_ n).1.foldl setE l, ((layP (ks.drop i) p.from_ p.to_ n).2 : Int))
  | 0, i, n, l, h, hm, _, _ => absurd hm (Nat.not_lt_zero _)
  | q + 1, i, n, l, h, hm, hsz, hlv => by
    rw [reduce_Expand_1_c56_v1_L1, ht]
    by_cases hi : i < ks.length
    · obtain ⟨k, hk⟩ := get_ex hi
      rw [drop_cons hk, szL] at hsz
      rw [drop_cons hk, lvs] at hlv
      have q1 := layE_le k p.from_ p.to_ n
      rw [if_pos (by simpa using hi), atI_nat, hk, Option.bind_some, hs k (List.mem_of_getElem? hk) p l n (by omega) (fun x hx => hlv x (by simp [hx])), Option.bind_some]
      dsimp only
      rw [wrapN (by omega), expP t ht p hb q (i + 1) _ _ (by omega) (by omega) (by omega) (fun x hx => by rw [setEs_len]; exact hlv x (by simp [hx])), drop_cons hk, layP, List.foldl_append]
    · rw [if_neg (by simpa using hi), List.drop_eq_nil_of_le (by omega), layP]; rfl

theorem expQ (n0 : Nat) (t : TreeTree) (ht : t.Kids = ks) (p : ReducePair) (hb : ks.length ≤ 1000000) (h2 : 2 ≤ ks.length) : ∀ (q i n : Nat) (a : Str) (l : List ApiContact), i + 1 ≤ ks.length → ks.length - 1 - i < q → n + szL (ks.drop i) ≤ 99 → (∀ x ∈ lvs (ks.drop i), 0 ≤ x ∧ x.toNat < l.length) →
    reduce_Expand_1_c56_v1_L3 n0 t p slf (ks.take (ks.length - 1)) q l (n : Int) (i : Int) a = some ((layQ (ks.drop i) a p.to_ n).1.foldl setE l, ((layQ (ks.drop i) a p.to_ n).2 : Int))
  | 0, i, n, a, l, h, hm, _, _ => absurd hm (Nat.not_lt_zero _)
  | q + 1, i, n, a, l, h, hm, hsz, hlv => by
    obtain ⟨k, hk⟩ := get_ex (l := ks) (i := i) (by omega)
    have hl1 : (ks.take (ks.length - 1)).length = ks.length - 1 := by simp
    rw [drop_cons hk, szL] at hsz
    rw [drop_cons hk, lvs] at hlv
    rw [reduce_Expand_1_c56_v1_L3, hl1]
    by_cases hi : i + 1 < ks.length
    · obtain ⟨k2, hk2⟩ := get_ex (l := ks) (i := i + 1) hi
      have hkt : (ks.take (ks.length - 1))[i]? = some k := by rw [List.getElem?_take_of_lt (by omega)]; exact hk
      have q1 := layE_le k a (nodeS (n + 1)) (n + 1)
      have hp : 1 ≤ szL (ks.drop (i + 1)) := by rw [drop_cons hk2, szL]; have := szT_pos k2; omega
      have hkp := szT_pos k
      have hsz2 : ((⟨#[110]⟩ : Str)).size + (dec2 (n + 1)).size ≤ 1000000000 := by
        have := dec2_size (n + 1)
        have e : ((⟨#[110]⟩ : Str)).size = 1 := rfl
        omega
      rw [if_pos (by simp; omega), atI_nat, hkt, Option.bind_some, wrapN (by omega), itoa_eq _ _ (by omega), Option.bind_some, if_pos hsz2, show (⟨#[110]⟩ : Str) ++ dec2 (n + 1) = nodeS (n + 1) from rfl,
        hs k (List.mem_of_getElem? hk) ⟨a, nodeS (n + 1)⟩ l (n + 1) (by omega) (fun x hx => hlv x (by simp [hx])), Option.bind_some]
      dsimp only
      rw [wrapN (by omega), expQ n0 t ht p hb h2 q (i + 1) _ _ _ (by omega) (by omega) (by omega) (fun x hx => by rw [setEs_len]; exact hlv x (by simp [hx])), drop_cons hk, drop_cons hk2, layQ, List.foldl_append]
    · have hil : i = ks.length - 1 := by omega
      have hw : IntKind.i64.wrap ((ks.length : Int) - 1) = ((ks.length - 1 : Nat) : Int) := by rw [wrapI (by omega) (by omega)]; omega
      rw [if_neg (by simp; omega), reduce_Expand_1_c56_v1_J2, ht, hw, atI_nat, ← hil, hk, Option.bind_some, hs k (List.mem_of_getElem? hk) ⟨a, p.to_⟩ l n (by omega) (fun x hx => hlv x (by simp [hx])), Option.bind_some, drop_cons hk, List.drop_eq_nil_of_le (by omega), layQ]
end

theorem expE {len : Int} : ∀ (t : TreeTree), Ok len t → ∀ (f : Nat), szT t < f → ∀ (p : ReducePair) (l : List ApiContact) (n : Nat), n + szT t ≤ 100 → (∀ x ∈ lv t, 0 ≤ x ∧ x.toNat < l.length) →
    reduce_Expand_1_c56_v1 f t p l (n : Int) = some ((layE t p.from_ p.to_ n).1.foldl setE l, ((layE t p.from_ p.to_ n).2 : Int)) := by
  intro t
  induction t using tree_ind with
  | h K N ks ih =>
    intro hok f hf p l n hsz hlv
    obtain ⟨m, rfl, hlen, hkm⟩ := szT_kids hf
    have hl := szL_len ks
    rw [szT] at hsz
    rw [Ok] at hok
    rw [reduce_Expand_1_c56_v1, layE]
    rw [TreeTree_Kind_mk, TreeTree_N_mk, TreeTree_Kids_mk]
    rcases hok with ⟨rfl, rfl, _, _⟩ | ⟨hK, rfl, h2, _, h4⟩
    · obtain ⟨h0, h1⟩ := hlv N (by rw [lv, if_pos rfl]; simp)
      obtain ⟨i, rfl⟩ := Int.eq_ofNat_of_zero_le h0
      rw [Int.toNat_natCast] at h1
      obtain ⟨c, hc⟩ := get_ex h1
      rw [if_pos (by rfl), if_pos rfl, atI_nat, hc, Option.bind_some, Option.bind_some, Int.toNat_natCast, atI_nat, List.getElem?_set_self h1, Option.bind_some, Option.bind_some, List.set_set]
      have : setE l ⟨⟨p.from_, p.to_⟩, .mk 0 (i : Int) []⟩ = l.set i ⟨c.Kind, c.A, p.from_, p.to_⟩ := by
        unfold setE
        simp only [TreeTree_N_mk, Int.toNat_natCast, hc]
      simp only [List.foldl_cons, List.foldl_nil, this]
    · rw [OkL_iff] at h4
      have hlv2 : ∀ x ∈ lvs ks, 0 ≤ x ∧ x.toNat < l.length := fun x hx => hlv x (by rw [lv, if_neg (by omega), if_pos hK]; exact hx)
      have hs : ∀ k ∈ ks, ∀ (p : ReducePair) (l : List ApiContact) (n : Nat), n + szT k ≤ 100 → (∀ x ∈ lv k, 0 ≤ x ∧ x.toNat < l.length) → reduce_Expand_1_c56_v1 m k p l (n : Int) = some ((layE k p.from_ p.to_ n).1.foldl setE l, ((layE k p.from_ p.to_ n).2 : Int)) := fun k hk p l n h1 h2 =>
        ih k hk (h4 k hk) m (hkm k hk) p l n h1 h2
      rw [if_neg (show ¬ (K == 0) = true by simp; omega), if_neg (show ¬ K = 0 by omega)]
      by_cases hK2 : K = 2
      · rw [if_pos (show (K == 2) = true by simp [hK2]), if_pos hK2]
        have := expP _ ks hs (.mk K 0 ks) rfl p (by omega) m 0 n l (by omega) (by omega) (by rw [List.drop_zero]; omega) (by rw [List.drop_zero]; exact hlv2)
        rw [List.drop_zero] at this
        exact this
      · have hw : IntKind.i64.wrap ((ks.length : Int) - 1) = ((ks.length - 1 : Nat) : Int) := by rw [wrapI (by omega) (by omega)]; omega
        rw [if_neg (show ¬ (K == 2) = true by simpa using hK2), if_neg hK2, hw, if_pos (by omega), Option.bind_some, Int.toNat_natCast]
        have := expQ _ ks hs m (.mk K 0 ks) rfl p (by omega) h2 m 0 n p.from_ l (by omega) (by omega) (by rw [List.drop_zero]; omega) (by rw [List.drop_zero]; exact hlv2)
        rw [List.drop_zero] at this
        exact this

/-- What Expand lays. -/
def expC (t : TreeTree) (l : List ApiContact) : List ApiContact := (layE t strLL strRR 0).1.foldl setE l

theorem Expand_eq (n : Nat) (t : TreeTree) (l : List ApiContact) (hl : l.length ≤ 1000000) (hsz : szT t ≤ 99) (hn : 1000000 ≤ n) (h1 : Ok l.length t) (h2 : (lv t).Nodup) (h3 : (lv t).length = l.length) : reduce_Expand n t l = some (⟨(⟨#[]⟩ : Str), expC t l, [], (⟨#[]⟩ : Str)⟩, 0) := by
  have hc : checkS t (l.length : Int) = 0 := (checkS_iff t l.length).2 ⟨h1, h2, h3⟩
  have hcl : slices_Clone_api_Contact_o0 n l = some l := by
    rw [slices_Clone_api_Contact_o0, isnilM]
    by_cases h0 : l.length = 0
    · have : l = [] := List.length_eq_zero_iff.1 h0
      subst this
      simp
    · rw [if_neg h0, if_pos (by omega)]
  have hlv : ∀ x ∈ lv t, 0 ≤ x ∧ x.toNat < l.length := fun x hx => by
    have := (Ok_lv h1).2 x hx
    omega
  have he := expE t h1 n (by omega) ⟨strLL, strRR⟩ l 0 (by omega) hlv
  rw [show ((0 : Nat) : Int) = 0 from rfl] at he
  rw [reduce_Expand, tree_Check_eq t _ n (by omega) (by omega), Option.bind_some, hc, if_neg (by simp), hcl, Option.bind_some]
  rw [show (⟨(⟨#[76]⟩ : Str), (⟨#[82]⟩ : Str)⟩ : ReducePair) = ⟨strLL, strRR⟩ from rfl, he, Option.bind_some]
  rfl

theorem nodup_int {l : List Int} (h : l.Nodup) (hr : ∀ x ∈ l, 0 ≤ x) : (l.map Int.toNat).Nodup := by
  rw [List.nodup_iff_pairwise_ne, List.pairwise_map]
  refine List.pairwise_iff_forall_sublist.2 fun {a b} hab e => ?_
  have ha := hr a (hab.subset (by simp))
  have hb := hr b (hab.subset (by simp))
  exact List.pairwise_iff_forall_sublist.1 h hab (by omega)

theorem perm_of_sub {α : Type} : ∀ {l1 l2 : List α}, l1.Nodup → (∀ x ∈ l1, x ∈ l2) → l2.length ≤ l1.length → l1.Perm l2
  | [], [], _, _, _ => .refl _
  | [], _ :: _, _, _, h => by simp at h
  | a :: l1, l2, hd, hs, h => by
    obtain ⟨l3, hp⟩ := perm_mem (hs a (by simp))
    rw [List.nodup_cons] at hd
    refine (List.Perm.cons a (perm_of_sub hd.2 (fun x hx => ?_) ?_)).trans hp.symm
    · rcases List.mem_cons.1 (hp.subset (hs x (by simp [hx]))) with rfl | q
      · exact absurd hx hd.1
      · exact q
    · have := hp.length_eq
      simp only [List.length_cons] at this h
      omega

/-- The edges of what is laid. -/
theorem exp_edges {t : TreeTree} {l : List ApiContact} (h1 : Ok l.length t) (h2 : (lv t).Nodup) (h3 : (lv t).length = l.length) : (canon (edgesS (expC t l) 0)).Perm (layE t strLL strRR 0).1 := by
  have hlv := layE_lv t h1 strLL strRR 0
  have hr := (Ok_lv h1).2
  have hNs : ((layE t strLL strRR 0).1.map fun e => e.t_.N.toNat) = (lv t).map Int.toNat := by
    have : ((layE t strLL strRR 0).1.map fun e => e.t_.N.toNat) = ((layE t strLL strRR 0).1.map (·.t_)).map fun t => t.N.toNat := by rw [List.map_map]; rfl
    rw [this, hlv, List.map_map]
    exact List.map_congr_left fun x _ => rfl
  have hnd : ((layE t strLL strRR 0).1.map fun e => e.t_.N.toNat).Nodup := by
    rw [hNs]; exact nodup_int h2 fun x hx => (hr x hx).1
  have hlen : (layE t strLL strRR 0).1.length = l.length := by
    have := congrArg List.length hlv
    simpa [h3] using this
  have hleaf : ∀ e ∈ (layE t strLL strRR 0).1, ∃ i : Nat, i < l.length ∧ e.t_ = .mk 0 (i : Int) [] := fun e he => by
    have : e.t_ ∈ (layE t strLL strRR 0).1.map (·.t_) := List.mem_map.2 ⟨e, he, rfl⟩
    rw [hlv] at this
    obtain ⟨x, hx, e1⟩ := List.mem_map.1 this
    obtain ⟨g1, g2⟩ := hr x hx
    exact ⟨x.toNat, by omega, by rw [← e1]; congr 1; omega⟩
  have hsub : ∀ e ∈ (layE t strLL strRR 0).1, e ∈ canon (edgesS (expC t l) 0) := fun e he => by
    obtain ⟨i, hi, e1⟩ := hleaf e he
    have hNi : e.t_.N.toNat = i := by rw [e1, TreeTree_N_mk, Int.toNat_natCast]
    obtain ⟨c, hc⟩ := get_ex hi
    have hg := setEs_eq _ l hnd e he c (by rw [hNi]; exact hc)
    rw [hNi] at hg
    refine List.mem_map.2 ⟨⟨⟨e.pair.from_, e.pair.to_⟩, .mk 0 (i : Int) []⟩, ?_, ?_⟩
    · refine List.mem_of_getElem? (i := i) ?_
      rw [edgesS_get]
      show Option.map _ ((layE t strLL strRR 0).1.foldl setE l)[i]? = _
      rw [hg, Nat.zero_add]; rfl
    · show ReduceEdge.mk _ (sortedS _) = e
      rw [sortedS, if_neg (by decide), sortedSs, ← e1]
  have hn1 : (layE t strLL strRR 0).1.Nodup := by
    have := hnd
    rw [List.nodup_iff_pairwise_ne, List.pairwise_map] at this
    exact this.imp fun h e => h (by rw [e])
  refine (perm_of_sub hn1 hsub ?_).symm
  rw [canon, List.length_map, edgesS_len, hlen, expC, setEs_len]
  exact Nat.le_refl _

/-- Reduce of what is laid. -/
theorem Reduce_exp (n : Nat) (q : ApiRung) {t : TreeTree} {l : List ApiContact} (hq : q.Contacts = expC t l) (hl : l.length ≤ 1000) (hsz : szT t ≤ 99) (hn : 1000000 ≤ n) (h1 : Ok l.length t) (h2 : (lv t).Nodup) (h3 : (lv t).length = l.length) : reduce_Reduce n q = some (sortedS t, 0) := by
  have hp := exp_edges h1 h2 h3
  have hst : StepsP (canon (edgesS q.Contacts 0)) [⟨⟨strLL, strRR⟩, sortedS t⟩] := by
    rw [hq]; exact (lay_top ⟨h1, h2⟩ hsz).of_perm hp.symm
  have hsp := SPg.steps hst (SPg.one _)
  have hfl : flowS q.Contacts = 0 := flow_of_SPg (l := canon (edgesS q.Contacts 0)) (by
    have e : (canon (edgesS q.Contacts 0)).map (·.pair) = (edgesS q.Contacts 0).map (·.pair) := by rw [canon, List.map_map]; rfl
    rw [e]
    have : ∀ (cs : List ApiContact) (i : Nat), (edgesS cs i).map (·.pair) = cs.map fun c => (⟨c.From, c.To⟩ : ReducePair) := by
      intro cs
      induction cs with
      | nil => intro i; rfl
      | cons c cs ih => intro i; rw [edgesS, List.map_cons, List.map_cons, ih]
    exact this _ _) hsp
  have hlen : q.Contacts.length = l.length := by rw [hq, expC, setEs_len]
  have hf := flow_exact n q (by omega) (by omega)
  rw [hfl] at hf
  have hrk : ∃ rank : Str → Nat, ∀ c ∈ q.Contacts, rank c.From < rank c.To := by
    have h := hfl
    unfold flowS at h
    split at h
    · cases h
    · split at h
      · cases h
      · rename_i q; exact Classical.not_not.1 q
  obtain ⟨rank, hrk⟩ := hrk
  have hN : NormalP [⟨⟨strLL, strRR⟩, sortedS t⟩] := fun m hm => by
    obtain ⟨K, x, y, r, p, _, _⟩ := hm
    have := p.length_eq
    simp at this
  rw [Reduce_ends n q (by omega) (by omega) hf hrk hst hN, redC, if_pos ⟨rfl, rfl⟩]

/-- What Reduce answers is a tree of good make, sorted. -/
theorem Reduce_full (n : Nat) (r : ApiRung) (hl : r.Contacts.length ≤ 1000) (hn : 1000000 ≤ n) : (∃ e : Int, e ≠ 0 ∧ reduce_Reduce n r = some (.mk 0 0 [], e)) ∨
    ∃ t0, reduce_Reduce n r = some (sortedS t0, 0) ∧ Good r.Contacts.length t0 ∧ (lv t0).length = r.Contacts.length ∧ szT t0 ≤ 2 * r.Contacts.length := by
  have hf := flow_exact n r (by omega) (by omega)
  have hr : flowS r.Contacts = 0 → ∃ rank : Str → Nat, ∀ c ∈ r.Contacts, rank c.From < rank c.To := fun h => by
    unfold flowS at h
    split at h
    · cases h
    · split at h
      · cases h
      · rename_i q; exact Classical.not_not.1 q
  rcases Reduce_ex n r (by omega) (by omega) hf hr with ⟨h1, h2⟩ | ⟨h1, l, h2, h3⟩
  · exact .inl ⟨_, h1, h2⟩
  · obtain ⟨rank, hrk⟩ := hr h1
    have hi := (RInv.start r.Contacts rank hrk).reds h2
    rw [redS_canon] at h3
    match l, hi, h3 with
    | [], _, h3 => exact .inl ⟨14, by decide, h3⟩
    | x :: y :: l, _, h3 => exact .inl ⟨14, by decide, h3⟩
    | [x], hi, h3 =>
      have e : canon [x] = [canE x] := rfl
      rw [e, redC] at h3
      split at h3
      · refine .inr ⟨x.t_, h3, ⟨hi.ok x (by simp), by have := hi.lv; simpa using this⟩, by have := hi.all; simpa using this, ?_⟩
        have := hi.sz
        simp at this
        omega
      · exact .inl ⟨14, by decide, h3⟩
end Go.G

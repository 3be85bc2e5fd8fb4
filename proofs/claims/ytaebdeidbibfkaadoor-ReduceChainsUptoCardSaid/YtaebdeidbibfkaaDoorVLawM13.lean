/- What the check of a rung's graph answers, exactly. No law is proved here. -/
import Derived.Test.YtaebdeidbibfkaaDoorVLawM12
import Derived.Test.YtaebdeidbibfkaaDoorVGMod
set_option linter.unusedSimpArgs false
set_option linter.unusedVariables false
set_option linter.unusedSectionVars false
namespace Go.G
open Go.Av

/-! ### nodes -/
/-- The nodes of a list of contacts. -/
def IsNode (cs : List ApiContact) (x : Str) : Prop := x = strLL ∨ x = strRR ∨ ∃ c ∈ cs, x = c.From ∨ x = c.To

theorem nodes2_sub (P : Str → Prop) (p : Int) (R : Int → List Str → List (Str × Bool) → Option (List Str)) (pr : List Str) (hpr : ∀ x ∈ pr, P x) (res : List Str)
    (hR : ∀ l m, (∀ x ∈ l, P x) → R (IntKind.i64.wrap (p + 1)) l m = some res → ∀ x ∈ res, P x) : ∀ (q k : Nat) (l : List Str) (m : List (Str × Bool)), (∀ x ∈ l, P x) → k ≤ pr.length → pr.length ≤ 1000 → graph_Nodes_o0_L2 p R pr q (k : Int) l m = some res → ∀ x ∈ res, P x
  | 0, k, l, m, _, _, _, h => by rw [graph_Nodes_o0_L2] at h; cases h
  | q + 1, k, l, m, hl, hk0, hp, h => by
    rw [graph_Nodes_o0_L2] at h
    by_cases hk : k < pr.length
    · obtain ⟨x, hx⟩ := get_ex hk
      rw [if_pos (by simpa using hk), atI_nat, hx, Option.bind_some, wrapN (by omega)] at h
      split at h
      · split at h
        · rw [Option.bind_some] at h
          refine nodes2_sub P p R pr hpr res hR q (k + 1) _ _ (fun y hy => ?_) (by omega) hp h
          rcases List.mem_append.1 hy with hy | hy
          · exact hl y hy
          · rw [List.mem_singleton] at hy; subst hy; exact hpr _ (List.mem_of_getElem? hx)
        · cases h
      · exact nodes2_sub P p R pr hpr res hR q (k + 1) _ _ hl (by omega) hp h
    · rw [if_neg (by simpa using hk)] at h
      exact hR l m hl h

theorem nodes1_sub (P : Str → Prop) (n : Nat) (r : ApiRung) (hs : r.Contacts.length ≤ 1000000) (hr : ∀ c ∈ r.Contacts, P c.From ∧ P c.To) (res : List Str) : ∀ (q i : Nat) (l : List Str) (m : List (Str × Bool)), (∀ x ∈ l, P x) → i ≤ r.Contacts.length → graph_Nodes_o0_L1 n r q (i : Int) l m = some res → ∀ x ∈ res, P x
  | 0, i, l, m, _, _, h => by rw [graph_Nodes_o0_L1] at h; cases h
  | q + 1, i, l, m, hl, hi0, h => by
    rw [graph_Nodes_o0_L1] at h
    by_cases hk : i < r.Contacts.length
    · obtain ⟨c, hc⟩ := get_ex hk
      have hm := hr c (List.mem_of_getElem? hc)
      rw [if_pos (by simpa using hk), atI_nat, hc, Option.bind_some, Option.bind_some, show (0 : Int) = ((0 : Nat) : Int) from rfl] at h
      refine nodes2_sub P (i : Int) (graph_Nodes_o0_L1 n r q) [c.From, c.To] (fun x hx => ?_) res (fun l m hl h => ?_) n 0 l m hl (by simp) (by simp) h
      · rcases List.mem_cons.1 hx with rfl | hx
        · exact hm.1
        · rw [List.mem_singleton] at hx; subst hx; exact hm.2
      · rw [wrapN (by omega)] at h
        exact nodes1_sub P n r hs hr res q (i + 1) l m hl (by omega) h
    · rw [if_neg (by simpa using hk)] at h
      cases h; exact hl

theorem nodes_exact (n : Nat) (r : ApiRung) (hn : 2 * r.Contacts.length + 10 ≤ n) (hs : r.Contacts.length ≤ 1000000) : ∃ l, graph_Nodes_o0 n r = some l ∧ IsNodes r l ∧ ∀ x, x ∈ l ↔ IsNode r.Contacts x := by
  obtain ⟨l, a1, a2⟩ := nodes_eq n r hn hs
  refine ⟨l, a1, a2, fun x => ⟨fun hx => ?_, fun hx => ?_⟩⟩
  · rw [graph_Nodes_o0, Option.bind_some, show (0 : Int) = ((0 : Nat) : Int) from rfl] at a1
    refine nodes1_sub (IsNode r.Contacts) n r hs (fun c hc => ⟨.inr (.inr ⟨c, hc, .inl rfl⟩), .inr (.inr ⟨c, hc, .inr rfl⟩)⟩) l n 0 _ _ (fun x hx => ?_) (by omega) a1 x hx
    rcases List.mem_cons.1 hx with rfl | hx
    · exact .inl rfl
    · rw [List.mem_singleton] at hx; subst hx; exact .inr (.inl rfl)
  · rcases hx with rfl | rfl | ⟨c, hc, rfl | rfl⟩
    · exact a2.L
    · exact a2.R
    · exact (a2.ends c hc).1
    · exact (a2.ends c hc).2

/-! ### an order is found if there is one -/
theorem told_loopC (n : Nat) (s : List Int) (m : List (Str × Bool)) (r : ApiRung) (hs : s.length ≤ 1000000) (hr : ∀ j ∈ s, ∃ (k : Nat) (c : ApiContact), j = (k : Int) ∧ r.Contacts[k]? = some c) : ∀ (q i : Nat) (t : Int), i ≤ s.length → slices_IndexFunc_int_c75_L1 n s m r q (i : Int) = some t → 0 ≤ t → ∃ (k : Nat) (c : ApiContact), (k : Int) ∈ s ∧ r.Contacts[k]? = some c ∧ hasM m c.From = false
  | 0, i, t, _, h, _ => by rw [slices_IndexFunc_int_c75_L1] at h; cases h
  | q + 1, i, t, hi0, h, ht => by
    rw [slices_IndexFunc_int_c75_L1] at h
    by_cases hi : i < s.length
    · obtain ⟨x, hx⟩ := get_ex hi
      obtain ⟨k, c, rfl, hc⟩ := hr x (List.mem_of_getElem? hx)
      rw [if_pos (by simpa using hi), atI_nat, hx, Option.bind_some, graph_TopoSort_1_1, atI_nat, hc, Option.bind_some, Option.bind_some, wrapN (by omega)] at h
      split at h
      · rename_i hh
        refine ⟨k, c, List.mem_of_getElem? hx, hc, ?_⟩
        have : (!(hasM m c.From)) = true := hh
        simpa using this
      · exact told_loopC n s m r hs hr q (i + 1) t (by omega) h ht
    · rw [if_neg (by simpa using hi)] at h
      cases h; omega

theorem topo_1C (n : Nat) (x : Str) (r : ApiRung) (m : List (Str × Bool)) (hs : r.Contacts.length ≤ 1000000) (hn : r.Contacts.length < n) : ∃ b, graph_TopoSort_1 n x r m = some b ∧ (b = true → ∀ c ∈ r.Contacts, c.To = x → hasM m c.From = true) ∧ (b = false → ∃ c ∈ r.Contacts, c.To = x ∧ hasM m c.From = false) := by
  obtain ⟨b, b1, b2⟩ := topo_1 n x r m hs hn
  refine ⟨b, b1, b2, fun hb => ?_⟩
  obtain ⟨l, a1, a2, a3, a4⟩ := Incoming_eq n r x hs hn
  have hr : ∀ j ∈ l, ∃ (k : Nat) (c : ApiContact), j = (k : Int) ∧ r.Contacts[k]? = some c := fun j hj => by obtain ⟨k, c, e1, e2, _⟩ := a3 j hj; exact ⟨k, c, e1, e2⟩
  obtain ⟨t, t1, _⟩ := told_loop n l m r (by omega) hr n 0 (by omega) (by omega)
  rw [graph_TopoSort_1, a1, Option.bind_some, slices_ContainsFunc_int_c75, slices_IndexFunc_int_c75, show (0 : Int) = ((0 : Nat) : Int) from rfl, t1, Option.bind_some, Option.bind_some] at b1
  have ht : 0 ≤ t := by
    have : (!(decide (t ≥ ((0 : Nat) : Int)))) = b := by simpa using b1
    rw [hb] at this
    simpa using this
  obtain ⟨k, c, c1, c2, c3⟩ := told_loopC n l m r (by omega) hr n 0 t (by omega) t1 ht
  obtain ⟨k', c', e1, e2, e3⟩ := a3 _ c1
  have : k' = k := by omega
  subst this
  rw [c2] at e2; cases e2
  exact ⟨c, List.mem_of_getElem? c2, e3, c3⟩

theorem ready_loopC (n : Nat) (l : List Str) (r : ApiRung) (m : List (Str × Bool)) (hl : l.length ≤ 100000000) (hs : r.Contacts.length ≤ 1000000) (hn : r.Contacts.length < n) : ∀ (q i : Nat) (t : Int), i ≤ l.length → slices_IndexFunc_string_c72_v1_L1 n l r m q (i : Int) = some t → t < 0 →
    ∀ x ∈ l.drop i, ∃ c ∈ r.Contacts, c.To = x ∧ hasM m c.From = false
  | 0, i, t, _, h, _ => by rw [slices_IndexFunc_string_c72_v1_L1] at h; cases h
  | q + 1, i, t, hi0, h, ht => by
    rw [slices_IndexFunc_string_c72_v1_L1] at h
    by_cases hi : i < l.length
    · obtain ⟨x, hx⟩ := get_ex hi
      obtain ⟨b, b1, b2, b3⟩ := topo_1C n x r m hs hn
      rw [if_pos (by simpa using hi), atI_nat, hx, Option.bind_some, b1, Option.bind_some, wrapN (by omega)] at h
      cases b with
      | true => rw [if_pos rfl] at h; cases h; omega
      | false =>
        rw [if_neg (by simp)] at h
        have ih := ready_loopC n l r m hl hs hn q (i + 1) t (by omega) h ht
        rw [drop_cons hx]
        intro y hy
        rcases List.mem_cons.1 hy with rfl | hy
        · exact b3 rfl
        · exact ih y hy
    · rw [List.drop_eq_nil_of_le (by omega)]; intro x hx; cases hx

theorem min_ex {α : Type} (f : α → Nat) : ∀ {l : List α}, l ≠ [] → ∃ x ∈ l, ∀ y ∈ l, f x ≤ f y
  | [], h => absurd rfl h
  | [x], _ => ⟨x, by simp, fun y hy => by rw [List.mem_singleton] at hy; subst hy; exact Nat.le_refl _⟩
  | x :: z :: l, _ => by
    obtain ⟨w, h1, h2⟩ := min_ex f (l := z :: l) (by simp)
    by_cases h : f x ≤ f w
    · refine ⟨x, by simp, fun y hy => ?_⟩
      rcases List.mem_cons.1 hy with rfl | hy
      · exact Nat.le_refl _
      · exact Nat.le_trans h (h2 y hy)
    · refine ⟨w, List.mem_cons_of_mem _ h1, fun y hy => ?_⟩
      rcases List.mem_cons.1 hy with rfl | hy
      · omega
      · exact h2 y hy

theorem topo_loopC (n : Nat) (r : ApiRung) (hs : r.Contacts.length ≤ 1000000) (hn : 2 * r.Contacts.length + 10 ≤ n) (rank : Str → Nat) (hrk : ∀ c ∈ r.Contacts, rank c.From < rank c.To) : ∀ (q : Nat) (left : List Str) (m : List (Str × Bool)) (l : List Str) (s : List Str) (e : Int),
    left.length + l.length ≤ 2 + 2 * r.Contacts.length → (∀ x, hasM m x = true ↔ x ∈ l) → (∀ c ∈ r.Contacts, c.From ∈ left ∨ c.From ∈ l) → graph_TopoSort_L1 n r q left m l = some (s, e) → e = 0
  | 0, left, m, l, s, e, _, _, _, h => by rw [graph_TopoSort_L1] at h; cases h
  | q + 1, left, m, l, s, e, hl, h1, h2, h => by
    rw [graph_TopoSort_L1] at h
    by_cases hk : 0 < left.length
    · rw [if_pos (by simpa using hk)] at h
      obtain ⟨t, a1, a2⟩ := ready_loop n left r m (by omega) hs (by omega) n 0 (by omega) (by omega)
      have hC := ready_loopC n left r m (by omega) hs (by omega) n 0 t (by omega) a1
      rw [slices_IndexFunc_string_c72_v1, show (0 : Int) = ((0 : Nat) : Int) from rfl, a1, Option.bind_some] at h
      rcases a2 with rfl | ⟨k, x, rfl, hx, hin⟩
      · exfalso
        have hC := hC (by decide)
        rw [List.drop_zero] at hC
        obtain ⟨x, m1, m2⟩ := min_ex rank (l := left) (by intro e; subst e; simp at hk)
        obtain ⟨c, c1, c2, c3⟩ := hC x m1
        have hr := hrk c c1
        rcases h2 c c1 with g | g
        · have := m2 _ g; rw [c2] at hr; omega
        · rw [(h1 _).2 g] at c3; cases c3
      · have hkl := get_lt hx
        have hp := erase_perm hx
        rw [if_neg (by simp), atI_nat, hx, Option.bind_some, if_pos (by simp; omega), Option.bind_some, wrapN (by omega), delS_eq n left k hkl, Option.bind_some] at h
        refine topo_loopC n r hs hn rank hrk q (left.eraseIdx k) (mPut m x true) (l ++ [x]) s e ?_ ?_ ?_ h
        · rw [List.length_eraseIdx_of_lt hkl, List.length_append, List.length_singleton]; omega
        · intro y
          rw [hasM_put, Bool.or_eq_true, h1, decide_eq_true_eq, List.mem_append, List.mem_singleton]
          exact Or.comm
        · intro c hc
          rcases h2 c hc with g | g
          · rcases List.mem_cons.1 (hp.subset g) with g | g
            · exact .inr (by simp [g])
            · exact .inl g
          · exact .inr (by simp [g])
    · rw [if_neg (by simpa using hk)] at h
      cases h; rfl

/-- A list of contacts without a cycle. -/
def Acyc (cs : List ApiContact) : Prop := ∃ rank : Str → Nat, ∀ c ∈ cs, rank c.From < rank c.To

theorem TopoSort_exact (n : Nat) (r : ApiRung) (hs : r.Contacts.length ≤ 1000000) (hn : 2 * r.Contacts.length + 10 ≤ n) : ∃ s e, graph_TopoSort n r = some (s, e) ∧ (e = 0 ↔ Acyc r.Contacts) := by
  obtain ⟨s, e, a1, a2⟩ := TopoSort_eq n r hs hn
  refine ⟨s, e, a1, a2, fun ⟨rank, hrk⟩ => ?_⟩
  obtain ⟨l, b1, b2⟩ := nodes_eq n r hn hs
  rw [graph_TopoSort, b1, Option.bind_some] at a1
  have := b2.len
  exact topo_loopC n r hs hn rank hrk n l [] [] s e (by simpa using this) (fun x => by simp [hasM_nil]) (fun c hc => .inl (b2.ends c hc).1) a1

theorem topo_code (n : Nat) (r : ApiRung) : ∀ (q : Nat) (left : List Str) (m : List (Str × Bool)) (l s : List Str) (e : Int), graph_TopoSort_L1 n r q left m l = some (s, e) → e = 0 ∨ e = 12
  | 0, left, m, l, s, e, h => by rw [graph_TopoSort_L1] at h; cases h
  | q + 1, left, m, l, s, e, h => by
    rw [graph_TopoSort_L1] at h
    split at h
    · obtain ⟨t, _, h⟩ := Option.bind_eq_some_iff.1 h
      split at h
      · cases h; exact .inr rfl
      · obtain ⟨x, _, h⟩ := Option.bind_eq_some_iff.1 h
        split at h
        · rw [Option.bind_some] at h
          obtain ⟨d, _, h⟩ := Option.bind_eq_some_iff.1 h
          exact topo_code n r q _ _ _ s e h
        · cases h
    · cases h; exact .inl rfl

theorem numIncoming_fuel (n : Nat) (r : ApiRung) (b : Str) (hs : r.Contacts.length ≤ 1000000) : ∀ (q i : Nat) (acc l : List Int), i ≤ r.Contacts.length → graph_numbers_c99_L1 n r b q (i : Int) acc = some l → r.Contacts.length - i < q
  | 0, i, acc, l, _, h => by rw [graph_numbers_c99_L1] at h; cases h
  | q + 1, i, acc, l, hi0, h => by
    rw [graph_numbers_c99_L1] at h
    by_cases hk : i < r.Contacts.length
    · obtain ⟨c, hc⟩ := get_ex hk
      rw [if_pos (by simpa using hk), atI_nat, hc, Option.bind_some, graph_Incoming_1, Option.bind_some, wrapN (by omega)] at h
      split at h
      · split at h
        · rw [Option.bind_some] at h
          have := numIncoming_fuel n r b hs q (i + 1) _ l (by omega) h
          omega
        · cases h
      · have := numIncoming_fuel n r b hs q (i + 1) _ l (by omega) h
        omega
    · omega
theorem Incoming_small (n : Nat) (r : ApiRung) (x : Str) (s : List Int) (hs : r.Contacts.length ≤ 1000000) (h : graph_Incoming n r x = some s) : r.Contacts.length < n := by
  rw [graph_Incoming, graph_numbers_c99, show (0 : Int) = ((0 : Nat) : Int) from rfl] at h
  obtain ⟨l, h1, _⟩ := Option.bind_eq_some_iff.1 h
  have := numIncoming_fuel n r x hs n 0 [] l (by omega) h1
  omega

theorem numOutgoing_fuel (n : Nat) (r : ApiRung) (b : Str) (hs : r.Contacts.length ≤ 1000000) : ∀ (q i : Nat) (acc l : List Int), i ≤ r.Contacts.length → graph_numbers_c129_L1 n r b q (i : Int) acc = some l → r.Contacts.length - i < q
  | 0, i, acc, l, _, h => by rw [graph_numbers_c129_L1] at h; cases h
  | q + 1, i, acc, l, hi0, h => by
    rw [graph_numbers_c129_L1] at h
    by_cases hk : i < r.Contacts.length
    · obtain ⟨c, hc⟩ := get_ex hk
      rw [if_pos (by simpa using hk), atI_nat, hc, Option.bind_some, graph_Outgoing_1, Option.bind_some, wrapN (by omega)] at h
      split at h
      · split at h
        · rw [Option.bind_some] at h
          have := numOutgoing_fuel n r b hs q (i + 1) _ l (by omega) h
          omega
        · cases h
      · have := numOutgoing_fuel n r b hs q (i + 1) _ l (by omega) h
        omega
    · omega
theorem Outgoing_small (n : Nat) (r : ApiRung) (x : Str) (s : List Int) (hs : r.Contacts.length ≤ 1000000) (h : graph_Outgoing n r x = some s) : r.Contacts.length < n := by
  rw [graph_Outgoing, graph_numbers_c129, show (0 : Int) = ((0 : Nat) : Int) from rfl] at h
  obtain ⟨l, h1, _⟩ := Option.bind_eq_some_iff.1 h
  have := numOutgoing_fuel n r x hs n 0 [] l (by omega) h1
  omega

/-! ### Reachable -/
theorem stepsReachable_loopC (r : ApiRung) (s : List Int) (hs : s.length ≤ 1000000) (hr : ∀ j ∈ s, ∃ (k : Nat) (c : ApiContact), j = (k : Int) ∧ r.Contacts[k]? = some c) : ∀ (q i : Nat) (acc l : List Str), i ≤ s.length → graph_Reachable_1_L1 r s q (i : Int) acc = some l →
    (∀ x ∈ acc, x ∈ l) ∧ (∀ (k : Nat) (c : ApiContact), (k : Int) ∈ s.drop i → r.Contacts[k]? = some c → c.To ∈ l) ∧ ∀ x ∈ l, x ∈ acc ∨ ∃ (k : Nat) (c : ApiContact), (k : Int) ∈ s ∧ r.Contacts[k]? = some c ∧ x = c.To
  | 0, i, acc, l, _, h => by rw [graph_Reachable_1_L1] at h; cases h
  | q + 1, i, acc, l, hi0, h => by
    rw [graph_Reachable_1_L1] at h
    by_cases hi : i < s.length
    · obtain ⟨x, hx⟩ := get_ex hi
      obtain ⟨k, c, rfl, hc⟩ := hr x (List.mem_of_getElem? hx)
      rw [if_pos (by simpa using hi), atI_nat, hx, Option.bind_some, atI_nat, hc, Option.bind_some, wrapN (by omega)] at h
      split at h
      · rw [Option.bind_some] at h
        obtain ⟨a1, a2, a3⟩ := stepsReachable_loopC r s hs hr q (i + 1) _ l (by omega) h
        refine ⟨fun x hx => a1 x (by simp [hx]), fun k' c' hk' hc' => ?_, fun x hx' => ?_⟩
        · rw [drop_cons hx] at hk'
          rcases List.mem_cons.1 hk' with e | hk'
          · have : k' = k := by omega
            subst this; rw [hc] at hc'; cases hc'; exact a1 _ (by simp)
          · exact a2 k' c' hk' hc'
        · rcases a3 x hx' with g | g
          · rcases List.mem_append.1 g with g | g
            · exact .inl g
            · rw [List.mem_singleton] at g; exact .inr ⟨k, c, List.mem_of_getElem? hx, hc, g⟩
          · exact .inr g
      · cases h
    · rw [if_neg (by simpa using hi)] at h
      cases h
      refine ⟨fun _ h => h, ?_, fun _ h => .inl h⟩
      rw [List.drop_eq_nil_of_le (by omega)]
      intro k c hk; cases hk

theorem stepsReachableC (n : Nat) (r : ApiRung) (x : Str) (hs : r.Contacts.length ≤ 1000000) (hn : r.Contacts.length < n) : ∃ l, graph_Reachable_1 n x r = some l ∧ l.length ≤ r.Contacts.length ∧ ∀ y, y ∈ l ↔ ∃ c ∈ r.Contacts, c.From = x ∧ y = c.To := by
  obtain ⟨l, e1, e2, _⟩ := stepsReachable n r x hs hn
  refine ⟨l, e1, e2, ?_⟩
  obtain ⟨s, a1, a2, a3, a4⟩ := Outgoing_eq n r x hs hn
  rw [graph_Reachable_1, a1, Option.bind_some, show (0 : Int) = ((0 : Nat) : Int) from rfl] at e1
  obtain ⟨b1, b2, b3⟩ := stepsReachable_loopC r s (by omega) (fun j hj => by obtain ⟨k, c, e1, e2, _⟩ := a3 j hj; exact ⟨k, c, e1, e2⟩) n 0 [] l (by omega) e1
  intro y
  constructor
  · intro hy
    rcases b3 y hy with g | ⟨k, c, hk, hc, rfl⟩
    · cases g
    · obtain ⟨k', c', q1, q2, q3⟩ := a3 _ hk
      have : k' = k := by omega
      subst this; rw [hc] at q2; cases q2
      exact ⟨c, List.mem_of_getElem? hc, q3, rfl⟩
  · rintro ⟨c, hc, h1, rfl⟩
    obtain ⟨k, hk⟩ := List.getElem?_of_mem hc
    exact b2 k c (by simpa using a4 k c hk h1) hk

/-- What is reached. -/
inductive RchReachable (cs : List ApiContact) (s : Str) : Str → Prop
  | refl : RchReachable cs s s
  | step {c : ApiContact} (h1 : c ∈ cs) (h : RchReachable cs s c.From) : RchReachable cs s c.To
theorem RchReachable.trans {cs : List ApiContact} {a b x : Str} (h : RchReachable cs a b) (k : RchReachable cs b x) : RchReachable cs a x := by
  induction k with
  | refl => exact h
  | step h1 _ ih => exact .step h1 ih

/-- What a visit adds is closed. -/
structure VisReachable (cs : List ApiContact) (m m' : List (Str × Bool)) : Prop where
  mono : ∀ y, hasM m y = true → hasM m' y = true
  closed : ∀ y, hasM m' y = true → hasM m y = false → ∀ c ∈ cs, c.From = y → hasM m' c.To = true

theorem VisReachable.trans {cs : List ApiContact} {m m1 m2 : List (Str × Bool)} (h : VisReachable cs m m1) (k : VisReachable cs m1 m2) : VisReachable cs m m2 := by
  refine ⟨fun y hy => k.mono y (h.mono y hy), fun y hy hn c hc he => ?_⟩
  cases h1 : hasM m1 y with
  | true => exact k.mono _ (h.closed y h1 hn c hc he)
  | false => exact k.closed y hy h1 c hc he

theorem visitReachable_loopC (r : ApiRung) (s : List Str) (slf : Str → List (Str × Bool) → ApiRung → Option (List (Str × Bool))) (hs : s.length ≤ 1000000)
    (hf : ∀ x ∈ s, ∀ m m', slf x m r = some m' → VisReachable r.Contacts m m' ∧ hasM m' x = true ∧ ∀ y, hasM m' y = true → hasM m y = true ∨ RchReachable r.Contacts x y) : ∀ (q i : Nat) (m m' : List (Str × Bool)), i ≤ s.length →
    graph_gather_1_c101_127_L1 r s slf q m (i : Int) = some m' → VisReachable r.Contacts m m' ∧ (∀ x ∈ s.drop i, hasM m' x = true) ∧ ∀ y, hasM m' y = true → hasM m y = true ∨ ∃ x ∈ s, RchReachable r.Contacts x y
  | 0, i, m, m', _, h => by rw [graph_gather_1_c101_127_L1] at h; cases h
  | q + 1, i, m, m', hi0, h => by
    rw [graph_gather_1_c101_127_L1] at h
    by_cases hi : i < s.length
    · obtain ⟨x, hx⟩ := get_ex hi
      rw [if_pos (by simpa using hi), atI_nat, hx, Option.bind_some, wrapN (by omega)] at h
      obtain ⟨m1, h1, h⟩ := Option.bind_eq_some_iff.1 h
      obtain ⟨v1, v2, v3⟩ := hf x (List.mem_of_getElem? hx) m m1 h1
      obtain ⟨w1, w2, w3⟩ := visitReachable_loopC r s slf hs hf q (i + 1) m1 m' (by omega) h
      refine ⟨v1.trans w1, ?_, fun y hy => ?_⟩
      · rw [drop_cons hx]
        intro y hy
        rcases List.mem_cons.1 hy with rfl | hy
        · exact w1.mono _ v2
        · exact w2 y hy
      · rcases w3 y hy with g | g
        · rcases v3 y g with g | g
          · exact .inl g
          · exact .inr ⟨x, List.mem_of_getElem? hx, g⟩
        · exact .inr g
    · rw [if_neg (by simpa using hi)] at h
      cases h
      refine ⟨⟨fun _ h => h, fun y h1 h2 => by rw [h1] at h2; cases h2⟩, ?_, fun _ h => .inl h⟩
      rw [List.drop_eq_nil_of_le (by omega)]
      intro x hx; cases hx

theorem visitReachableC (r : ApiRung) (hs : r.Contacts.length ≤ 1000000) : ∀ (n : Nat) (x : Str) (m m' : List (Str × Bool)), graph_gather_1_c101_127 n x m r = some m' →
    VisReachable r.Contacts m m' ∧ hasM m' x = true ∧ ∀ y, hasM m' y = true → hasM m y = true ∨ RchReachable r.Contacts x y
  | 0, x, m, m', h => by rw [graph_gather_1_c101_127] at h; cases h
  | n + 1, x, m, m', h => by
    rw [graph_gather_1_c101_127] at h
    cases hh : hasM m x with
    | true =>
      have hh' : (mGet m x).getD false = true := hh
      rw [hh', if_pos rfl] at h
      cases h
      exact ⟨⟨fun _ h => h, fun y h1 h2 => by rw [h1] at h2; cases h2⟩, hh, fun _ h => .inl h⟩
    | false =>
      have hh' : (mGet m x).getD false = false := hh
      rw [hh', if_neg (by simp)] at h
      obtain ⟨l, h1, h⟩ := Option.bind_eq_some_iff.1 h
      rw [show (0 : Int) = ((0 : Nat) : Int) from rfl] at h
      by_cases hnn : r.Contacts.length < n
      · obtain ⟨l', a1, a2, a3⟩ := stepsReachableC n r x hs hnn
        rw [a1] at h1; cases h1
        obtain ⟨w1, w2, w3⟩ := visitReachable_loopC r l (graph_gather_1_c101_127 n) (by omega) (fun y hy m1 m2 hm => visitReachableC r hs n y m1 m2 hm) n 0 (mPut m x true) m' (by omega) h
        refine ⟨⟨fun y hy => w1.mono y (by rw [hasM_put, hy]; simp), fun y hy hn c hc he => ?_⟩, w1.mono x (by rw [hasM_put]; simp), fun y hy => ?_⟩
        · cases h2 : hasM (mPut m x true) y with
          | true =>
            rw [hasM_put, hn] at h2
            have : y = x := by simpa using h2
            subst this
            exact w2 _ (by rw [List.drop_zero]; exact (a3 _).2 ⟨c, hc, he, rfl⟩)
          | false => exact w1.closed y hy h2 c hc he
        · rcases w3 y hy with g | ⟨z, hz, g⟩
          · rw [hasM_put, Bool.or_eq_true, decide_eq_true_eq] at g
            rcases g with rfl | g
            · exact .inr .refl
            · exact .inl g
          · obtain ⟨c, hc, h1, rfl⟩ := (a3 z).1 hz
            have : RchReachable r.Contacts x c.To := .step hc (by rw [h1]; exact .refl)
            exact .inr (this.trans g)
      · exfalso
        obtain ⟨s, a1, a2⟩ := Option.bind_eq_some_iff.1 (show (graph_Outgoing n r x).bind (fun s => graph_Reachable_1_L1 r s n 0 []) = some l from h1)
        exact hnn (Outgoing_small n r x s hs a1)

/-! ### Ancestors -/
theorem stepsAncestors_loopC (r : ApiRung) (s : List Int) (hs : s.length ≤ 1000000) (hr : ∀ j ∈ s, ∃ (k : Nat) (c : ApiContact), j = (k : Int) ∧ r.Contacts[k]? = some c) : ∀ (q i : Nat) (acc l : List Str), i ≤ s.length → graph_Ancestors_1_L1 r s q (i : Int) acc = some l →
    (∀ x ∈ acc, x ∈ l) ∧ (∀ (k : Nat) (c : ApiContact), (k : Int) ∈ s.drop i → r.Contacts[k]? = some c → c.From ∈ l) ∧ ∀ x ∈ l, x ∈ acc ∨ ∃ (k : Nat) (c : ApiContact), (k : Int) ∈ s ∧ r.Contacts[k]? = some c ∧ x = c.From
  | 0, i, acc, l, _, h => by rw [graph_Ancestors_1_L1] at h; cases h
  | q + 1, i, acc, l, hi0, h => by
    rw [graph_Ancestors_1_L1] at h
    by_cases hi : i < s.length
    · obtain ⟨x, hx⟩ := get_ex hi
      obtain ⟨k, c, rfl, hc⟩ := hr x (List.mem_of_getElem? hx)
      rw [if_pos (by simpa using hi), atI_nat, hx, Option.bind_some, atI_nat, hc, Option.bind_some, wrapN (by omega)] at h
      split at h
      · rw [Option.bind_some] at h
        obtain ⟨a1, a2, a3⟩ := stepsAncestors_loopC r s hs hr q (i + 1) _ l (by omega) h
        refine ⟨fun x hx => a1 x (by simp [hx]), fun k' c' hk' hc' => ?_, fun x hx' => ?_⟩
        · rw [drop_cons hx] at hk'
          rcases List.mem_cons.1 hk' with e | hk'
          · have : k' = k := by omega
            subst this; rw [hc] at hc'; cases hc'; exact a1 _ (by simp)
          · exact a2 k' c' hk' hc'
        · rcases a3 x hx' with g | g
          · rcases List.mem_append.1 g with g | g
            · exact .inl g
            · rw [List.mem_singleton] at g; exact .inr ⟨k, c, List.mem_of_getElem? hx, hc, g⟩
          · exact .inr g
      · cases h
    · rw [if_neg (by simpa using hi)] at h
      cases h
      refine ⟨fun _ h => h, ?_, fun _ h => .inl h⟩
      rw [List.drop_eq_nil_of_le (by omega)]
      intro k c hk; cases hk

theorem stepsAncestorsC (n : Nat) (r : ApiRung) (x : Str) (hs : r.Contacts.length ≤ 1000000) (hn : r.Contacts.length < n) : ∃ l, graph_Ancestors_1 n x r = some l ∧ l.length ≤ r.Contacts.length ∧ ∀ y, y ∈ l ↔ ∃ c ∈ r.Contacts, c.To = x ∧ y = c.From := by
  obtain ⟨l, e1, e2, _⟩ := stepsAncestors n r x hs hn
  refine ⟨l, e1, e2, ?_⟩
  obtain ⟨s, a1, a2, a3, a4⟩ := Incoming_eq n r x hs hn
  rw [graph_Ancestors_1, a1, Option.bind_some, show (0 : Int) = ((0 : Nat) : Int) from rfl] at e1
  obtain ⟨b1, b2, b3⟩ := stepsAncestors_loopC r s (by omega) (fun j hj => by obtain ⟨k, c, e1, e2, _⟩ := a3 j hj; exact ⟨k, c, e1, e2⟩) n 0 [] l (by omega) e1
  intro y
  constructor
  · intro hy
    rcases b3 y hy with g | ⟨k, c, hk, hc, rfl⟩
    · cases g
    · obtain ⟨k', c', q1, q2, q3⟩ := a3 _ hk
      have : k' = k := by omega
      subst this; rw [hc] at q2; cases q2
      exact ⟨c, List.mem_of_getElem? hc, q3, rfl⟩
  · rintro ⟨c, hc, h1, rfl⟩
    obtain ⟨k, hk⟩ := List.getElem?_of_mem hc
    exact b2 k c (by simpa using a4 k c hk h1) hk

/-- What is reached. -/
inductive RchAncestors (cs : List ApiContact) (s : Str) : Str → Prop
  | refl : RchAncestors cs s s
  | step {c : ApiContact} (h1 : c ∈ cs) (h : RchAncestors cs s c.To) : RchAncestors cs s c.From
theorem RchAncestors.trans {cs : List ApiContact} {a b x : Str} (h : RchAncestors cs a b) (k : RchAncestors cs b x) : RchAncestors cs a x := by
  induction k with
  | refl => exact h
  | step h1 _ ih => exact .step h1 ih

/-- What a visit adds is closed. -/
structure VisAncestors (cs : List ApiContact) (m m' : List (Str × Bool)) : Prop where
  mono : ∀ y, hasM m y = true → hasM m' y = true
  closed : ∀ y, hasM m' y = true → hasM m y = false → ∀ c ∈ cs, c.To = y → hasM m' c.From = true

theorem VisAncestors.trans {cs : List ApiContact} {m m1 m2 : List (Str × Bool)} (h : VisAncestors cs m m1) (k : VisAncestors cs m1 m2) : VisAncestors cs m m2 := by
  refine ⟨fun y hy => k.mono y (h.mono y hy), fun y hy hn c hc he => ?_⟩
  cases h1 : hasM m1 y with
  | true => exact k.mono _ (h.closed y h1 hn c hc he)
  | false => exact k.closed y hy h1 c hc he

theorem visitAncestors_loopC (r : ApiRung) (s : List Str) (slf : Str → List (Str × Bool) → ApiRung → Option (List (Str × Bool))) (hs : s.length ≤ 1000000)
    (hf : ∀ x ∈ s, ∀ m m', slf x m r = some m' → VisAncestors r.Contacts m m' ∧ hasM m' x = true ∧ ∀ y, hasM m' y = true → hasM m y = true ∨ RchAncestors r.Contacts x y) : ∀ (q i : Nat) (m m' : List (Str × Bool)), i ≤ s.length →
    graph_gather_1_c103_127_L1 r s slf q m (i : Int) = some m' → VisAncestors r.Contacts m m' ∧ (∀ x ∈ s.drop i, hasM m' x = true) ∧ ∀ y, hasM m' y = true → hasM m y = true ∨ ∃ x ∈ s, RchAncestors r.Contacts x y
  | 0, i, m, m', _, h => by rw [graph_gather_1_c103_127_L1] at h; cases h
  | q + 1, i, m, m', hi0, h => by
    rw [graph_gather_1_c103_127_L1] at h
    by_cases hi : i < s.length
    · obtain ⟨x, hx⟩ := get_ex hi
      rw [if_pos (by simpa using hi), atI_nat, hx, Option.bind_some, wrapN (by omega)] at h
      obtain ⟨m1, h1, h⟩ := Option.bind_eq_some_iff.1 h
      obtain ⟨v1, v2, v3⟩ := hf x (List.mem_of_getElem? hx) m m1 h1
      obtain ⟨w1, w2, w3⟩ := visitAncestors_loopC r s slf hs hf q (i + 1) m1 m' (by omega) h
      refine ⟨v1.trans w1, ?_, fun y hy => ?_⟩
      · rw [drop_cons hx]
        intro y hy
        rcases List.mem_cons.1 hy with rfl | hy
        · exact w1.mono _ v2
        · exact w2 y hy
      · rcases w3 y hy with g | g
        · rcases v3 y g with g | g
          · exact .inl g
          · exact .inr ⟨x, List.mem_of_getElem? hx, g⟩
        · exact .inr g
    · rw [if_neg (by simpa using hi)] at h
      cases h
      refine ⟨⟨fun _ h => h, fun y h1 h2 => by rw [h1] at h2; cases h2⟩, ?_, fun _ h => .inl h⟩
      rw [List.drop_eq_nil_of_le (by omega)]
      intro x hx; cases hx

theorem visitAncestorsC (r : ApiRung) (hs : r.Contacts.length ≤ 1000000) : ∀ (n : Nat) (x : Str) (m m' : List (Str × Bool)), graph_gather_1_c103_127 n x m r = some m' →
    VisAncestors r.Contacts m m' ∧ hasM m' x = true ∧ ∀ y, hasM m' y = true → hasM m y = true ∨ RchAncestors r.Contacts x y
  | 0, x, m, m', h => by rw [graph_gather_1_c103_127] at h; cases h
  | n + 1, x, m, m', h => by
    rw [graph_gather_1_c103_127] at h
    cases hh : hasM m x with
    | true =>
      have hh' : (mGet m x).getD false = true := hh
      rw [hh', if_pos rfl] at h
      cases h
      exact ⟨⟨fun _ h => h, fun y h1 h2 => by rw [h1] at h2; cases h2⟩, hh, fun _ h => .inl h⟩
    | false =>
      have hh' : (mGet m x).getD false = false := hh
      rw [hh', if_neg (by simp)] at h
      obtain ⟨l, h1, h⟩ := Option.bind_eq_some_iff.1 h
      rw [show (0 : Int) = ((0 : Nat) : Int) from rfl] at h
      by_cases hnn : r.Contacts.length < n
      · obtain ⟨l', a1, a2, a3⟩ := stepsAncestorsC n r x hs hnn
        rw [a1] at h1; cases h1
        obtain ⟨w1, w2, w3⟩ := visitAncestors_loopC r l (graph_gather_1_c103_127 n) (by omega) (fun y hy m1 m2 hm => visitAncestorsC r hs n y m1 m2 hm) n 0 (mPut m x true) m' (by omega) h
        refine ⟨⟨fun y hy => w1.mono y (by rw [hasM_put, hy]; simp), fun y hy hn c hc he => ?_⟩, w1.mono x (by rw [hasM_put]; simp), fun y hy => ?_⟩
        · cases h2 : hasM (mPut m x true) y with
          | true =>
            rw [hasM_put, hn] at h2
            have : y = x := by simpa using h2
            subst this
            exact w2 _ (by rw [List.drop_zero]; exact (a3 _).2 ⟨c, hc, he, rfl⟩)
          | false => exact w1.closed y hy h2 c hc he
        · rcases w3 y hy with g | ⟨z, hz, g⟩
          · rw [hasM_put, Bool.or_eq_true, decide_eq_true_eq] at g
            rcases g with rfl | g
            · exact .inr .refl
            · exact .inl g
          · obtain ⟨c, hc, h1, rfl⟩ := (a3 z).1 hz
            have : RchAncestors r.Contacts x c.From := .step hc (by rw [h1]; exact .refl)
            exact .inr (this.trans g)
      · exfalso
        obtain ⟨s, a1, a2⟩ := Option.bind_eq_some_iff.1 (show (graph_Incoming n r x).bind (fun s => graph_Ancestors_1_L1 r s n 0 []) = some l from h1)
        exact hnn (Incoming_small n r x s hs a1)

/-! ### elements left out -/
section
variable (n : Nat) (m2 : List (Str × Bool))
theorem delSeen_idxC (l : List Str) (hl : l.length ≤ 100000000) (p : Str → Bool) (hp : ∀ x, graph_gather_2 n x m2 = some (p x)) : ∀ (q i : Nat) (t : Int), i ≤ l.length → slices_IndexFunc_string_c128_v1_L1 n l m2 q (i : Int) = some t → (t = -1 ∧ ∀ x ∈ l.drop i, p x = false) ∨ ∃ k : Nat, t = (k : Int) ∧ i ≤ k ∧ k < l.length ∧ (∃ x, l[k]? = some x ∧ p x = true) ∧ ∀ x ∈ (l.drop i).take (k - i), p x = false
  | 0, i, t, _, h => by rw [slices_IndexFunc_string_c128_v1_L1] at h; cases h
  | q + 1, i, t, hi0, h => by
    rw [slices_IndexFunc_string_c128_v1_L1] at h
    by_cases hi : i < l.length
    · obtain ⟨x, hx⟩ := get_ex hi
      rw [if_pos (by simpa using hi), atI_nat, hx, Option.bind_some, hp, Option.bind_some, wrapN (by omega)] at h
      cases hb : p x with
      | true =>
        rw [hb, if_pos rfl] at h
        cases h
        exact .inr ⟨i, rfl, Nat.le_refl _, hi, ⟨x, hx, hb⟩, by simp⟩
      | false =>
        rw [hb, if_neg (by simp)] at h
        rw [drop_cons hx]
        rcases delSeen_idxC l hl p hp q (i + 1) t (by omega) h with ⟨e, g⟩ | ⟨k, e, k1, k2, k3, k4⟩
        · refine .inl ⟨e, fun y hy => ?_⟩
          rcases List.mem_cons.1 hy with rfl | hy
          · exact hb
          · exact g y hy
        · refine .inr ⟨k, e, by omega, k2, k3, fun y hy => ?_⟩
          rw [show k - i = (k - (i + 1)) + 1 by omega, List.take_succ_cons] at hy
          rcases List.mem_cons.1 hy with rfl | hy
          · exact hb
          · exact k4 y hy
    · rw [if_neg (by simpa using hi)] at h
      cases h
      refine .inl ⟨rfl, ?_⟩
      rw [List.drop_eq_nil_of_le (by omega)]
      intro x hx; cases hx

theorem delSeen_loopC (l0 : List Str) (hl : l0.length ≤ 100000000) (p : Str → Bool) (hp : ∀ x, graph_gather_2 n x m2 = some (p x)) : ∀ (q j i : Nat) (l l' : List Str), l.length = l0.length → i ≤ j → j ≤ l0.length → l.drop j = l0.drop j → l.take i = (l0.take j).filter (fun x => !p x) →
    slices_DeleteFunc_string_c128_v1_L1 n m2 q l (i : Int) (j : Int) = some l' → l' = l0.filter (fun x => !p x)
  | 0, j, i, l, l', _, _, _, _, _, h => by rw [slices_DeleteFunc_string_c128_v1_L1] at h; cases h
  | q + 1, j, i, l, l', hll, hij, hj, hd, ht, h => by
    rw [slices_DeleteFunc_string_c128_v1_L1] at h
    by_cases hk : j < l.length
    · obtain ⟨x, hx⟩ := get_ex hk
      obtain ⟨y, hy⟩ := get_ex (l := l) (i := i) (by omega)
      have hx0 : l0[j]? = some x := by
        have e1 : (l.drop j)[0]? = l[j]? := by simp
        have e2 : (l0.drop j)[0]? = l0[j]? := by simp
        rw [← e2, ← hd, e1]; exact hx
      have hd1 : l.drop (j + 1) = l0.drop (j + 1) := by
        have := congrArg List.tail hd
        simpa [List.tail_drop] using this
      have ht1 : l0.take (j + 1) = l0.take j ++ [x] := by rw [List.take_add_one, hx0]; rfl
      rw [if_pos (by simpa using hk), atI_nat, hx, Option.bind_some, hp, Option.bind_some] at h
      cases hb : p x with
      | true =>
        rw [hb, if_neg (by simp), wrapN (by omega)] at h
        refine delSeen_loopC l0 hl p hp q (j + 1) i l l' hll (by omega) (by omega) hd1 ?_ h
        rw [ht1, List.filter_append, ht]; simp [hb]
      | false =>
        rw [hb, if_pos (by simp), atI_nat, hy, Option.bind_some, Option.bind_some, wrapN (by omega), wrapN (by omega), Int.toNat_natCast] at h
        refine delSeen_loopC l0 hl p hp q (j + 1) (i + 1) _ l' (by rw [List.length_set]; exact hll) (by omega) (by omega) ?_ ?_ h
        · rw [List.drop_set_of_lt (by omega)]; exact hd1
        · rw [ht1, List.filter_append, ← ht, List.take_add_one, List.take_set_of_le (Nat.le_refl _), List.getElem?_set_self (by omega)]; simp [hb]
    · have hje : j = l0.length := by omega
      rw [if_neg (by simpa using hk), Int.toNat_natCast, if_pos (by omega), if_pos (by omega), if_pos (by omega)] at h
      cases h
      rw [ht, hje, List.take_length]

theorem delSeen_exact (l l' : List Str) (hl : l.length ≤ 100000000) (p : Str → Bool) (hp : ∀ x, graph_gather_2 n x m2 = some (p x)) (h : slices_DeleteFunc_string_c128_v1 n l m2 = some l') : l' = l.filter (fun x => !p x) := by
  rw [slices_DeleteFunc_string_c128_v1] at h
  obtain ⟨t, h1, h⟩ := Option.bind_eq_some_iff.1 h
  rw [slices_IndexFunc_string_c128_v1, show (0 : Int) = ((0 : Nat) : Int) from rfl] at h1
  rcases delSeen_idxC n m2 l hl p hp n 0 t (by omega) h1 with ⟨rfl, g⟩ | ⟨k, rfl, k1, k2, ⟨x, hx, hpx⟩, k4⟩
  · rw [if_pos (by decide)] at h
    cases h
    rw [List.drop_zero] at g
    rw [List.filter_eq_self.2]
    intro a ha; simp [g a ha]
  · rw [if_neg (by simp), wrapN (by omega)] at h
    refine delSeen_loopC n m2 l hl p hp n (k + 1) k l l' rfl (by omega) (by omega) rfl ?_ h
    rw [List.drop_zero, Nat.sub_zero] at k4
    rw [List.take_add_one, hx, List.filter_append]
    have : (l.take k).filter (fun x => !p x) = l.take k := List.filter_eq_self.2 fun a ha => by simp [k4 a ha]
    rw [this]; simp [hpx]
end

/-! ### elements left out -/
section
variable (n : Nat) (b1 b2 : List Str)
theorem delDead_idxC (l : List Str) (hl : l.length ≤ 100000000) (p : Str → Bool) (hp : ∀ x, flow_DeadNodes_1 n x b1 b2 = some (p x)) : ∀ (q i : Nat) (t : Int), i ≤ l.length → slices_IndexFunc_string_c80_v1_L1 n l b1 b2 q (i : Int) = some t → (t = -1 ∧ ∀ x ∈ l.drop i, p x = false) ∨ ∃ k : Nat, t = (k : Int) ∧ i ≤ k ∧ k < l.length ∧ (∃ x, l[k]? = some x ∧ p x = true) ∧ ∀ x ∈ (l.drop i).take (k - i), p x = false
  | 0, i, t, _, h => by rw [slices_IndexFunc_string_c80_v1_L1] at h; cases h
  | q + 1, i, t, hi0, h => by
    rw [slices_IndexFunc_string_c80_v1_L1] at h
    by_cases hi : i < l.length
    · obtain ⟨x, hx⟩ := get_ex hi
      rw [if_pos (by simpa using hi), atI_nat, hx, Option.bind_some, hp, Option.bind_some, wrapN (by omega)] at h
      cases hb : p x with
      | true =>
        rw [hb, if_pos rfl] at h
        cases h
        exact .inr ⟨i, rfl, Nat.le_refl _, hi, ⟨x, hx, hb⟩, by simp⟩
      | false =>
        rw [hb, if_neg (by simp)] at h
        rw [drop_cons hx]
        rcases delDead_idxC l hl p hp q (i + 1) t (by omega) h with ⟨e, g⟩ | ⟨k, e, k1, k2, k3, k4⟩
        · refine .inl ⟨e, fun y hy => ?_⟩
          rcases List.mem_cons.1 hy with rfl | hy
          · exact hb
          · exact g y hy
        · refine .inr ⟨k, e, by omega, k2, k3, fun y hy => ?_⟩
          rw [show k - i = (k - (i + 1)) + 1 by omega, List.take_succ_cons] at hy
          rcases List.mem_cons.1 hy with rfl | hy
          · exact hb
          · exact k4 y hy
    · rw [if_neg (by simpa using hi)] at h
      cases h
      refine .inl ⟨rfl, ?_⟩
      rw [List.drop_eq_nil_of_le (by omega)]
      intro x hx; cases hx

theorem delDead_loopC (l0 : List Str) (hl : l0.length ≤ 100000000) (p : Str → Bool) (hp : ∀ x, flow_DeadNodes_1 n x b1 b2 = some (p x)) : ∀ (q j i : Nat) (l l' : List Str), l.length = l0.length → i ≤ j → j ≤ l0.length → l.drop j = l0.drop j → l.take i = (l0.take j).filter (fun x => !p x) →
    slices_DeleteFunc_string_c80_L1 n b1 b2 q l (i : Int) (j : Int) = some l' → l' = l0.filter (fun x => !p x)
  | 0, j, i, l, l', _, _, _, _, _, h => by rw [slices_DeleteFunc_string_c80_L1] at h; cases h
  | q + 1, j, i, l, l', hll, hij, hj, hd, ht, h => by
    rw [slices_DeleteFunc_string_c80_L1] at h
    by_cases hk : j < l.length
    · obtain ⟨x, hx⟩ := get_ex hk
      obtain ⟨y, hy⟩ := get_ex (l := l) (i := i) (by omega)
      have hx0 : l0[j]? = some x := by
        have e1 : (l.drop j)[0]? = l[j]? := by simp
        have e2 : (l0.drop j)[0]? = l0[j]? := by simp
        rw [← e2, ← hd, e1]; exact hx
      have hd1 : l.drop (j + 1) = l0.drop (j + 1) := by
        have := congrArg List.tail hd
        simpa [List.tail_drop] using this
      have ht1 : l0.take (j + 1) = l0.take j ++ [x] := by rw [List.take_add_one, hx0]; rfl
      rw [if_pos (by simpa using hk), atI_nat, hx, Option.bind_some, hp, Option.bind_some] at h
      cases hb : p x with
      | true =>
        rw [hb, if_neg (by simp), wrapN (by omega)] at h
        refine delDead_loopC l0 hl p hp q (j + 1) i l l' hll (by omega) (by omega) hd1 ?_ h
        rw [ht1, List.filter_append, ht]; simp [hb]
      | false =>
        rw [hb, if_pos (by simp), atI_nat, hy, Option.bind_some, Option.bind_some, wrapN (by omega), wrapN (by omega), Int.toNat_natCast] at h
        refine delDead_loopC l0 hl p hp q (j + 1) (i + 1) _ l' (by rw [List.length_set]; exact hll) (by omega) (by omega) ?_ ?_ h
        · rw [List.drop_set_of_lt (by omega)]; exact hd1
        · rw [ht1, List.filter_append, ← ht, List.take_add_one, List.take_set_of_le (Nat.le_refl _), List.getElem?_set_self (by omega)]; simp [hb]
    · have hje : j = l0.length := by omega
      rw [if_neg (by simpa using hk), Int.toNat_natCast, if_pos (by omega), if_pos (by omega), if_pos (by omega)] at h
      cases h
      rw [ht, hje, List.take_length]

theorem delDead_exact (l l' : List Str) (hl : l.length ≤ 100000000) (p : Str → Bool) (hp : ∀ x, flow_DeadNodes_1 n x b1 b2 = some (p x)) (h : slices_DeleteFunc_string_c80 n l b1 b2 = some l') : l' = l.filter (fun x => !p x) := by
  rw [slices_DeleteFunc_string_c80] at h
  obtain ⟨t, h1, h⟩ := Option.bind_eq_some_iff.1 h
  rw [slices_IndexFunc_string_c80_v1, show (0 : Int) = ((0 : Nat) : Int) from rfl] at h1
  rcases delDead_idxC n b1 b2 l hl p hp n 0 t (by omega) h1 with ⟨rfl, g⟩ | ⟨k, rfl, k1, k2, ⟨x, hx, hpx⟩, k4⟩
  · rw [if_pos (by decide)] at h
    cases h
    rw [List.drop_zero] at g
    rw [List.filter_eq_self.2]
    intro a ha; simp [g a ha]
  · rw [if_neg (by simp), wrapN (by omega)] at h
    refine delDead_loopC n b1 b2 l hl p hp n (k + 1) k l l' rfl (by omega) (by omega) rfl ?_ h
    rw [List.drop_zero, Nat.sub_zero] at k4
    rw [List.take_add_one, hx, List.filter_append]
    have : (l.take k).filter (fun x => !p x) = l.take k := List.filter_eq_self.2 fun a ha => by simp [k4 a ha]
    rw [this]; simp [hpx]
end

theorem Reachable_exact (n : Nat) (r : ApiRung) (hs : r.Contacts.length ≤ 1000000) (hn : 4 * r.Contacts.length + 20 ≤ n) : ∃ l, graph_Reachable n r (⟨#[76]⟩ : Str) = some l ∧ l.length ≤ 2 + 2 * r.Contacts.length ∧ ∀ x, x ∈ l ↔ IsNode r.Contacts x ∧ RchReachable r.Contacts (⟨#[76]⟩ : Str) x := by
  obtain ⟨l, e1, e2⟩ := Reachable_ex n r hs hn
  refine ⟨l, e1, e2, ?_⟩
  obtain ⟨ns, a1, a2, a3⟩ := nodes_exact n r (by omega) hs
  have hlen := a2.len
  have hmem : (⟨#[76]⟩ : Str) ∈ ns := a2.L
  rw [graph_Reachable, graph_gather_c101, a1, Option.bind_some, containsS_eq n ns _ (by omega) (by omega), Option.bind_some, if_neg (by simp [hmem])] at e1
  obtain ⟨l2, e1, h3⟩ := Option.bind_eq_some_iff.1 e1
  cases h3
  obtain ⟨m, h1, e1⟩ := Option.bind_eq_some_iff.1 e1
  obtain ⟨l3, e1, h3⟩ := Option.bind_eq_some_iff.1 e1
  cases h3
  obtain ⟨v1, v2, v3⟩ := visitReachableC r hs n _ [] m h1
  have hf := delSeen_exact n m ns l (by omega) (fun x => !(hasM m x)) (fun x => rfl) e1
  have hiff : ∀ x, hasM m x = true ↔ RchReachable r.Contacts (⟨#[76]⟩ : Str) x := fun x => by
    constructor
    · intro h
      rcases v3 x h with g | g
      · cases g
      · exact g
    · intro h
      induction h with
      | refl => exact v2
      | step h1 _ ih => exact v1.closed _ ih rfl _ h1 rfl
  intro x
  rw [hf, List.mem_filter, a3, ← hiff]
  simp

theorem Ancestors_exact (n : Nat) (r : ApiRung) (hs : r.Contacts.length ≤ 1000000) (hn : 4 * r.Contacts.length + 20 ≤ n) : ∃ l, graph_Ancestors n r (⟨#[82]⟩ : Str) = some l ∧ l.length ≤ 2 + 2 * r.Contacts.length ∧ ∀ x, x ∈ l ↔ IsNode r.Contacts x ∧ RchAncestors r.Contacts (⟨#[82]⟩ : Str) x := by
  obtain ⟨l, e1, e2⟩ := Ancestors_ex n r hs hn
  refine ⟨l, e1, e2, ?_⟩
  obtain ⟨ns, a1, a2, a3⟩ := nodes_exact n r (by omega) hs
  have hlen := a2.len
  have hmem : (⟨#[82]⟩ : Str) ∈ ns := a2.R
  rw [graph_Ancestors, graph_gather_c103, a1, Option.bind_some, containsS_eq n ns _ (by omega) (by omega), Option.bind_some, if_neg (by simp [hmem])] at e1
  obtain ⟨l2, e1, h3⟩ := Option.bind_eq_some_iff.1 e1
  cases h3
  obtain ⟨m, h1, e1⟩ := Option.bind_eq_some_iff.1 e1
  obtain ⟨l3, e1, h3⟩ := Option.bind_eq_some_iff.1 e1
  cases h3
  obtain ⟨v1, v2, v3⟩ := visitAncestorsC r hs n _ [] m h1
  have hf := delSeen_exact n m ns l (by omega) (fun x => !(hasM m x)) (fun x => rfl) e1
  have hiff : ∀ x, hasM m x = true ↔ RchAncestors r.Contacts (⟨#[82]⟩ : Str) x := fun x => by
    constructor
    · intro h
      rcases v3 x h with g | g
      · cases g
      · exact g
    · intro h
      induction h with
      | refl => exact v2
      | step h1 _ ih => exact v1.closed _ ih rfl _ h1 rfl
  intro x
  rw [hf, List.mem_filter, a3, ← hiff]
  simp

open Classical in
/-- What the check of a rung's graph answers. -/
noncomputable def flowS (cs : List ApiContact) : Int :=
  if cs = [] then 4 else if ¬ Acyc cs then 12 else if ∃ x, IsNode cs x ∧ ¬ (RchReachable cs strLL x ∧ RchAncestors cs strRR x) then 13 else 0

theorem flow_exact (n : Nat) (r : ApiRung) (hs : r.Contacts.length ≤ 1000000) (hn : 4 * r.Contacts.length + 20 ≤ n) : flow_Check n r = some (flowS r.Contacts) := by
  rw [flow_Check]
  by_cases h0 : r.Contacts = []
  · rw [flowS, if_pos h0, if_pos (by simp [h0])]
  rw [flowS, if_neg h0, if_neg (by simpa using h0)]
  obtain ⟨s, e, a1, a2⟩ := TopoSort_exact n r hs (by omega)
  have hcode : e = 0 ∨ e = 12 := by
    have a1' := a1
    rw [graph_TopoSort] at a1'
    obtain ⟨ns, _, h⟩ := Option.bind_eq_some_iff.1 a1'
    exact topo_code n r n ns [] [] s e h
  rw [a1, Option.bind_some]
  dsimp only
  by_cases he : e = 0
  · rw [if_neg (by simpa using he), if_neg (fun h => h (a2.1 he))]
    obtain ⟨l1, b1, b1', b1''⟩ := Reachable_exact n r hs hn
    obtain ⟨l2, b2, b2', b2''⟩ := Ancestors_exact n r hs hn
    obtain ⟨ns, c1, c2, c3⟩ := nodes_exact n r (by omega) hs
    have hlen := c2.len
    have hp : ∀ x, flow_DeadNodes_1 n x l1 l2 = some (decide (x ∈ l1) && decide (x ∈ l2)) := fun x => by
      rw [flow_DeadNodes_1, containsS_eq n l1 x (by omega) (by omega), Option.bind_some]
      by_cases h : x ∈ l1
      · rw [if_pos (by simpa using h), containsS_eq n l2 x (by omega) (by omega), Option.bind_some]; simp [h]
      · rw [if_neg (by simpa using h)]; simp [h]
    obtain ⟨l, d1, _⟩ := delDead_eq n l1 l2 ns (by omega) (by omega) (fun x => ⟨_, hp x⟩)
    have hf := delDead_exact n l1 l2 ns l (by omega) _ hp d1
    rw [flow_DeadNodes, b1, Option.bind_some, b2, Option.bind_some, c1, Option.bind_some, d1, Option.bind_some, Option.bind_some]
    have hiff : (0 < l.length) ↔ ∃ x, IsNode r.Contacts x ∧ ¬ (RchReachable r.Contacts strLL x ∧ RchAncestors r.Contacts strRR x) := by
      constructor
      · intro h
        obtain ⟨x, hx⟩ := List.exists_mem_of_length_pos h
        rw [hf, List.mem_filter, c3] at hx
        refine ⟨x, hx.1, fun ⟨q1, q2⟩ => ?_⟩
        have := hx.2
        simp [(b1'' x).2 ⟨hx.1, q1⟩, (b2'' x).2 ⟨hx.1, q2⟩] at this
      · rintro ⟨x, h1, h2⟩
        refine List.length_pos_of_mem (a := x) ?_
        rw [hf, List.mem_filter, c3]
        refine ⟨h1, ?_⟩
        by_cases q1 : x ∈ l1
        · by_cases q2 : x ∈ l2
          · exact absurd ⟨((b1'' x).1 q1).2, ((b2'' x).1 q2).2⟩ h2
          · simp [q2]
        · simp [q1]
    by_cases hl : 0 < l.length
    · rw [if_pos (by simpa using hl), if_pos (hiff.1 hl)]
    · rw [if_neg (by simpa using hl), if_neg (fun h => hl (hiff.2 h))]
  · rw [if_pos (by simpa using he), if_pos (fun h => he (a2.2 h))]
    rcases hcode with h | h
    · exact absurd h he
    · rw [h]
end Go.G

namespace Go.G
open Go.Av

def lf (i : Nat) : TreeTree := .mk 0 (i : Int) []
def ndS (i : Nat) : Str := ⟨#[120, UInt8.ofNat (97 + i)]⟩
def frS (i : Nat) : Str := if i = 0 then strLL else ndS i
def toS (k i : Nat) : Str := if i + 1 = k then strRR else ndS (i + 1)
def rowC (k i : Nat) : ApiContact := ⟨0, ⟨0, 0⟩, frS i, toS k i⟩
def sideC : ApiContact := ⟨0, ⟨0, 0⟩, strLL, strRR⟩

theorem u8_nat (m : Nat) (h : m < 256) : (UInt8.ofNat m).toNat = m := by
  simp [UInt8.toNat_ofNat']; omega
theorem nd_inj {i j : Nat} (hi : i ≤ 100) (hj : j ≤ 100) (h : ndS i = ndS j) : i = j := by
  have h1 : (ndS i).data[1]? = (ndS j).data[1]? := by rw [h]
  have h2 : UInt8.ofNat (97 + i) = UInt8.ofNat (97 + j) := by simpa [ndS] using h1
  have h3 := congrArg UInt8.toNat h2
  rw [u8_nat _ (by omega), u8_nat _ (by omega)] at h3
  omega
theorem nd_L (i : Nat) : ndS i ≠ strLL := fun h => by
  have := congrArg (fun s : Str => s.data.size) h
  simp [ndS, strLL] at this
theorem nd_R (i : Nat) : ndS i ≠ strRR := fun h => by
  have := congrArg (fun s : Str => s.data.size) h
  simp [ndS, strRR] at this
theorem LR : strLL ≠ strRR := by decide

def rankS (s : Str) : Nat := if s = strLL then 0 else if s = strRR then 1000 else ((s.data[1]?).getD 0).toNat
theorem rank_nd {i : Nat} (hi : i ≤ 100) : rankS (ndS i) = 97 + i := by
  rw [rankS, if_neg (nd_L i), if_neg (nd_R i)]
  have : (ndS i).data[1]? = some (UInt8.ofNat (97 + i)) := by simp [ndS]
  rw [this]
  exact u8_nat _ (by omega)
theorem rank_row {k i : Nat} (hk : k ≤ 31) (hi : i < k) : rankS (frS i) < rankS (toS k i) := by
  have h1 : rankS (frS i) ≤ 97 + i ∧ (i = 0 → rankS (frS i) = 0) := by
    unfold frS
    by_cases h : i = 0
    · rw [if_pos h]; simp [rankS]
    · rw [if_neg h, rank_nd (by omega)]; exact ⟨Nat.le_refl _, fun e => absurd e h⟩
  have h2 : 98 + i ≤ rankS (toS k i) := by
    unfold toS
    by_cases h : i + 1 = k
    · rw [if_pos h]
      have : rankS strRR = 1000 := by rw [rankS, if_neg (fun e => LR e.symm), if_pos rfl]
      omega
    · rw [if_neg h, rank_nd (by omega)]; omega
  omega

section
variable {cs : List ApiContact} {k : Nat} (h2 : 2 ≤ k) (hk : k ≤ 31) (hm : ∀ c, c ∈ cs ↔ ∃ q, q < k ∧ c = rowC k q)
include h2 hk hm

theorem row_reach : ∀ q, q < k → RchReachable cs strLL (frS q) ∧ RchReachable cs strLL (toS k q)
  | 0, hq => by
    have h0 : RchReachable cs strLL (frS 0) := by rw [frS, if_pos rfl]; exact .refl
    exact ⟨h0, .step (c := rowC k 0) ((hm _).2 ⟨0, hq, rfl⟩) h0⟩
  | q + 1, hq => by
    have ih := (row_reach q (by omega)).2
    have e : frS (q + 1) = toS k q := by rw [frS, if_neg (by omega), toS, if_neg (by omega)]
    have h0 : RchReachable cs strLL (frS (q + 1)) := by rw [e]; exact ih
    exact ⟨h0, .step (c := rowC k (q + 1)) ((hm _).2 ⟨q + 1, hq, rfl⟩) h0⟩

theorem row_anc : ∀ d q, q + d + 1 = k → RchAncestors cs strRR (toS k q) ∧ RchAncestors cs strRR (frS q)
  | 0, q, hq => by
    have h0 : RchAncestors cs strRR (toS k q) := by rw [toS, if_pos (by omega)]; exact .refl
    exact ⟨h0, .step (c := rowC k q) ((hm _).2 ⟨q, by omega, rfl⟩) h0⟩
  | d + 1, q, hq => by
    have ih := (row_anc d (q + 1) (by omega)).2
    have e : toS k q = frS (q + 1) := by rw [frS, if_neg (by omega), toS, if_neg (by omega)]
    have h0 : RchAncestors cs strRR (toS k q) := by rw [e]; exact ih
    exact ⟨h0, .step (c := rowC k q) ((hm _).2 ⟨q, by omega, rfl⟩) h0⟩

theorem row_flow : flowS cs = 0 := by
  have h0 : rowC k 0 ∈ cs := (hm _).2 ⟨0, by omega, rfl⟩
  have hac : Acyc cs := ⟨rankS, fun c hc => by
    obtain ⟨q, hq, rfl⟩ := (hm c).1 hc
    exact rank_row hk hq⟩
  have hno : ¬ ∃ x, IsNode cs x ∧ ¬ (RchReachable cs strLL x ∧ RchAncestors cs strRR x) := by
    rintro ⟨x, hx, hn⟩
    refine hn ?_
    rcases hx with rfl | rfl | ⟨c, hc, hx⟩
    · have := (row_anc h2 hk hm (k - 1) 0 (by omega)).2
      rw [frS, if_pos rfl] at this
      exact ⟨.refl, this⟩
    · have := (row_reach h2 hk hm (k - 1) (by omega)).2
      rw [toS, if_pos (by omega)] at this
      exact ⟨this, .refl⟩
    · obtain ⟨q, hq, rfl⟩ := (hm c).1 hc
      have r1 := row_reach h2 hk hm q hq
      have r2 := row_anc h2 hk hm (k - 1 - q) q (by omega)
      rcases hx with rfl | rfl
      · exact ⟨r1.1, r2.2⟩
      · exact ⟨r1.2, r2.1⟩
  rw [flowS, if_neg (fun e => by rw [e] at h0; cases h0), if_neg (fun h => h hac), if_neg hno]
end

theorem side_flow {cs : List ApiContact} (h0 : cs ≠ []) (hm : ∀ c ∈ cs, c = sideC) : flowS cs = 0 := by
  obtain ⟨c0, hc0⟩ := List.exists_mem_of_ne_nil _ h0
  have e0 := hm c0 hc0
  subst e0
  have a1 : RchReachable cs strLL strRR := .step (c := sideC) hc0 .refl
  have a2 : RchAncestors cs strRR strLL := .step (c := sideC) hc0 .refl
  have hac : Acyc cs := ⟨fun s => if s = strLL then 0 else 1, fun c hc => by
    have := hm c hc
    subst this
    show (if strLL = strLL then 0 else 1) < if strRR = strLL then 0 else 1
    rw [if_pos rfl, if_neg (fun e => LR e.symm)]; omega⟩
  have hno : ¬ ∃ x, IsNode cs x ∧ ¬ (RchReachable cs strLL x ∧ RchAncestors cs strRR x) := by
    rintro ⟨x, hx, hn⟩
    refine hn ?_
    rcases hx with rfl | rfl | ⟨c, hc, hx⟩
    · exact ⟨.refl, a2⟩
    · exact ⟨a1, .refl⟩
    · have := hm c hc
      subst this
      rcases hx with rfl | rfl
      · exact ⟨.refl, a2⟩
      · exact ⟨a1, .refl⟩
  rw [flowS, if_neg h0, if_neg (fun h => h hac), if_neg hno]

/-! ### the reductions -/
theorem sorted_lf (i : Nat) : sortedS (lf i) = lf i := by
  rw [lf, sortedS, if_neg (by decide), sortedSs]
theorem least_lf (i : Nat) : leastT (lf i) = (i : Int) := by
  simp [leastT, lf, lv, leastL]
theorem joinK_lf {K : Int} (hK : K = 1 ∨ K = 2) (i : Nat) : joinK K (lf i) = [lf i] := by
  rw [joinK, if_neg]
  show ¬ (0 : Int) = K
  omega
theorem map_lf (l : List Nat) : (l.map lf).map sortedS = l.map lf := by
  rw [List.map_map]; exact List.map_congr_left fun i _ => sorted_lf i

theorem isort_lf (m : Nat) : isortM ltT ((List.range m).map lf) = (List.range m).map lf := by
  have hd : (((List.range m).map lf).map leastT).Nodup := by
    rw [List.map_map, List.nodup_iff_pairwise_ne, List.pairwise_map]
    exact List.nodup_range.imp fun h e => h (by simp only [Function.comp, least_lf] at e; omega)
  rw [← ltM_cfT]
  refine (sortP_of hd).unique (fun x hx => (isortM_perm _ _).subset hx) (isortM_perm _ _) (sortP_of hd).asc ?_
  refine List.pairwise_map.2 ?_
  refine List.pairwise_lt_range.imp fun h => ?_
  rw [ltM_cfT]
  simp only [ltT, least_lf, decide_eq_false_iff_not]
  omega

def serT (s : Nat → Nat) (j : Nat) : TreeTree := if j = 0 then lf (s 0) else .mk 1 0 ((List.range (j + 1)).map fun q => lf (s q))
def parT (j : Nat) : TreeTree := if j = 0 then lf 0 else .mk 2 0 ((List.range (j + 1)).map lf)

theorem map_lfs (s : Nat → Nat) (l : List Nat) : (l.map fun q => lf (s q)).map sortedS = l.map fun q => lf (s q) := by
  rw [List.map_map]; exact List.map_congr_left fun i _ => sorted_lf (s i)

theorem ser_join (s : Nat → Nat) (j : Nat) : J 1 (serT s j) (lf (s (j + 1))) = serT s (j + 1) := by
  rw [J1_eq, joinK_lf (.inl rfl)]
  have e : joinK 1 (serT s j) = (List.range (j + 1)).map fun q => lf (s q) := by
    unfold serT
    by_cases h : j = 0
    · subst h; rw [if_pos rfl, joinK_lf (.inl rfl)]; rfl
    · rw [if_neg h, joinK_mk]
  rw [e, serT, if_neg (by omega), List.map_append, map_lfs]
  congr 1
  rw [List.range_succ (n := j + 1), List.map_append]
  simp [sorted_lf]
theorem par_join (j : Nat) : J 2 (parT j) (lf (j + 1)) = parT (j + 1) := by
  rw [J2_eq', joinK_lf (.inr rfl)]
  have e : joinK 2 (parT j) = (List.range (j + 1)).map lf := by
    unfold parT
    by_cases h : j = 0
    · subst h; rw [if_pos rfl, joinK_lf (.inr rfl)]; rfl
    · rw [if_neg h, joinK_mk]
  have e2 : (joinK 2 (parT j) ++ [lf (j + 1)]).map sortedS = (List.range (j + 1 + 1)).map lf := by
    rw [e, List.range_succ (n := j + 1), List.map_append, List.map_append, map_lf]
    simp [sorted_lf]
  rw [e2, isort_lf, parT, if_neg (by omega)]

def edgeR (k : Nat) (q i : Nat) : ReduceEdge := ⟨⟨frS q, toS k q⟩, lf i⟩
def edgeP (i : Nat) : ReduceEdge := ⟨⟨strLL, strRR⟩, lf i⟩

theorem ser_steps {k : Nat} (hk : k ≤ 31) (s : Nat → Nat) : ∀ d j, j + d + 1 = k → StepsP (⟨⟨strLL, toS k j⟩, serT s j⟩ :: (List.range' (j + 1) d).map fun q => edgeR k q (s q)) [⟨⟨strLL, strRR⟩, serT s (k - 1)⟩]
  | 0, j, h => by
    have e : toS k j = strRR := by rw [toS, if_pos (by omega)]
    rw [e, show j = k - 1 by omega]
    exact .refl (.refl _)
  | d + 1, j, h => by
    have ih := ser_steps hk s d (j + 1) (by omega)
    rw [List.range'_succ, List.map_cons]
    have ej : toS k j = ndS (j + 1) := by rw [toS, if_neg (by omega)]
    have ef : frS (j + 1) = ndS (j + 1) := by rw [frS, if_neg (by omega)]
    refine .head ⟨1, _, edgeR k (j + 1) (s (j + 1)), _, .refl _, .inr ⟨rfl, ?_, ?_, ?_, fun e he => ?_, fun e he => ?_⟩, .refl _⟩ ?_
    · show frS (j + 1) = toS k j
      rw [ej, ef]
    · show toS k j ≠ strLL
      rw [ej]; exact nd_L _
    · show toS k j ≠ strRR
      rw [ej]; exact nd_R _
    · show e.pair.to_ ≠ toS k j
      have hq : ∃ q, j + 1 ≤ q ∧ q < k ∧ e = edgeR k q (s q) := by
        rcases List.mem_cons.1 he with rfl | he
        · exact ⟨j + 1, Nat.le_refl _, by omega, rfl⟩
        · obtain ⟨q, hq, rfl⟩ := List.mem_map.1 he
          rw [List.mem_range'_1] at hq
          exact ⟨q, by omega, by omega, rfl⟩
      obtain ⟨q, q1, q2, rfl⟩ := hq
      show toS k q ≠ toS k j
      rw [ej, toS]
      by_cases hl : q + 1 = k
      · rw [if_pos hl]; exact fun e => nd_R _ e.symm
      · rw [if_neg hl]
        intro e
        have := nd_inj (by omega) (by omega) e
        omega
    · show e.pair.from_ ≠ toS k j
      rw [ej]
      rcases List.mem_cons.1 he with rfl | he
      · exact fun e => nd_L _ e.symm
      · obtain ⟨q, hq, rfl⟩ := List.mem_map.1 he
        rw [List.mem_range'_1] at hq
        show frS q ≠ ndS (j + 1)
        rw [frS, if_neg (by omega)]
        intro e
        have := nd_inj (by omega) (by omega) e
        omega
    · have : joinE 1 ⟨⟨strLL, toS k j⟩, serT s j⟩ (edgeR k (j + 1) (s (j + 1))) = ⟨⟨strLL, toS k (j + 1)⟩, serT s (j + 1)⟩ := by
        show ReduceEdge.mk ⟨strLL, toS k (j + 1)⟩ (J 1 (serT s j) (lf (s (j + 1)))) = _
        rw [ser_join]
      rw [this]
      exact ih

theorem par_steps : ∀ d j, StepsP (⟨⟨strLL, strRR⟩, parT j⟩ :: (List.range' (j + 1) d).map edgeP) [⟨⟨strLL, strRR⟩, parT (j + d)⟩]
  | 0, j => .refl (.refl _)
  | d + 1, j => by
    have ih := par_steps d (j + 1)
    rw [List.range'_succ, List.map_cons]
    refine .head ⟨2, _, edgeP (j + 1), _, .refl _, .inl ⟨rfl, rfl⟩, .refl _⟩ ?_
    have : joinE 2 ⟨⟨strLL, strRR⟩, parT j⟩ (edgeP (j + 1)) = ⟨⟨strLL, strRR⟩, parT (j + 1)⟩ := by
      show ReduceEdge.mk ⟨strLL, strRR⟩ (J 2 (parT j) (lf (j + 1))) = _
      rw [par_join]
    rw [this, show j + (d + 1) = j + 1 + d by omega]
    exact ih

theorem one_normal (x : ReduceEdge) : NormalP [x] := by
  rintro m ⟨K, a, b, r, p, _⟩
  have := p.length_eq
  simp at this

/-! ### Reduce on them -/
def swp (a b p : Nat) : Nat := if p = a then b else if p = b then a else p
theorem swp_swp (a b p : Nat) : swp a b (swp a b p) = p := by
  unfold swp
  by_cases h1 : p = a
  · subst h1
    rw [if_pos rfl]
    by_cases h2 : b = p
    · rw [if_pos h2]; exact h2
    · rw [if_neg h2, if_pos rfl]
  · rw [if_neg h1]
    by_cases h2 : p = b
    · rw [if_pos h2, if_pos rfl]; exact h2.symm
    · rw [if_neg h2, if_neg h1, if_neg h2]
theorem swp_lt {k a b p : Nat} (ha : a < k) (hb : b < k) (hp : p < k) : swp a b p < k := by
  unfold swp
  split
  · exact hb
  · split
    · exact ha
    · exact hp
theorem swp_perm {k a b : Nat} (ha : a < k) (hb : b < k) : ((List.range k).map (swp a b)).Perm (List.range k) := by
  refine (List.perm_ext_iff_of_nodup ?_ List.nodup_range).2 fun x => ?_
  · rw [List.nodup_iff_pairwise_ne, List.pairwise_map]
    exact List.nodup_range.imp fun h e => h (by
      have := congrArg (swp a b) e
      rwa [swp_swp, swp_swp] at this)
  · rw [List.mem_map, List.mem_range]
    constructor
    · rintro ⟨y, hy, rfl⟩
      exact swp_lt ha hb (List.mem_range.1 hy)
    · intro hx
      exact ⟨swp a b x, List.mem_range.2 (swp_lt ha hb hx), swp_swp a b x⟩

theorem range_cons (k : Nat) (h : 1 ≤ k) : List.range k = 0 :: List.range' 1 (k - 1) := by
  obtain ⟨m, rfl⟩ : ∃ m, k = m + 1 := ⟨k - 1, by omega⟩
  rw [List.range_eq_range', List.range'_succ]; rfl

theorem edges_map (k : Nat) (f : Nat → ApiContact) : edgesS ((List.range k).map f) 0 = (List.range k).map fun p => ⟨⟨(f p).From, (f p).To⟩, lf p⟩ := by
  refine List.ext_getElem? fun i => ?_
  rw [edgesS_get]
  simp only [List.getElem?_map, Option.map_map, Nat.zero_add]
  by_cases h : i < k
  · rw [List.getElem?_range h]; rfl
  · rw [List.getElem?_eq_none (by simpa using h)]; rfl

theorem row_Reduce (n : Nat) {k a b : Nat} (h2 : 2 ≤ k) (hk : k ≤ 31) (ha : a < k) (hb : b < k) (lb jm : Str) (hn : 1000 ≤ n) :
    reduce_Reduce n ⟨lb, (List.range k).map fun p => rowC k (swp a b p), [], jm⟩ = some (serT (swp a b) (k - 1), 0) := by
  have hm : ∀ c, c ∈ ((List.range k).map fun p => rowC k (swp a b p)) ↔ ∃ q, q < k ∧ c = rowC k q := fun c => by
    rw [List.mem_map]
    constructor
    · rintro ⟨p, hp, rfl⟩
      exact ⟨_, swp_lt ha hb (List.mem_range.1 hp), rfl⟩
    · rintro ⟨q, hq, rfl⟩
      exact ⟨swp a b q, List.mem_range.2 (swp_lt ha hb hq), by rw [swp_swp]⟩
  have hlen : ((List.range k).map fun p => rowC k (swp a b p)).length = k := by simp
  have hfl := flow_exact n ⟨lb, (List.range k).map fun p => rowC k (swp a b p), [], jm⟩ (by simp; omega) (by simp; omega)
  have hfl2 : flowS (ApiRung.mk lb ((List.range k).map fun p => rowC k (swp a b p)) [] jm).Contacts = 0 := row_flow h2 hk hm
  rw [hfl2] at hfl
  have hcan : (canon (edgesS ((List.range k).map fun p => rowC k (swp a b p)) 0)).Perm (⟨⟨strLL, toS k 0⟩, serT (swp a b) 0⟩ :: (List.range' 1 (k - 1)).map fun q => edgeR k q (swp a b q)) := by
    have e1 : canon (edgesS ((List.range k).map fun p => rowC k (swp a b p)) 0) = (List.range k).map fun p => edgeR k (swp a b p) p := by
      rw [edges_map, canon, List.map_map]
      refine List.map_congr_left fun p _ => ?_
      show ReduceEdge.mk ⟨frS (swp a b p), toS k (swp a b p)⟩ (sortedS (lf p)) = _
      rw [sorted_lf]; rfl
    have e2 : (⟨⟨strLL, toS k 0⟩, serT (swp a b) 0⟩ :: (List.range' 1 (k - 1)).map fun q => edgeR k q (swp a b q)) = (List.range k).map fun q => edgeR k q (swp a b q) := by
      rw [range_cons k (by omega), List.map_cons]
      congr 1
    rw [e1, e2]
    have e3 : ((List.range k).map fun q => edgeR k q (swp a b q)) = ((List.range k).map (swp a b)).map fun p => edgeR k (swp a b p) p := by
      rw [List.map_map]
      refine List.map_congr_left fun q _ => ?_
      show edgeR k q (swp a b q) = edgeR k (swp a b (swp a b q)) (swp a b q)
      rw [swp_swp]
    rw [e3]
    exact ((swp_perm ha hb).map _).symm
  have hst := (ser_steps hk (swp a b) (k - 1) 0 (by omega)).of_perm hcan.symm
  have := Reduce_ends n ⟨lb, (List.range k).map fun p => rowC k (swp a b p), [], jm⟩ (by simp; omega) (by simp; omega) hfl (rank := rankS) (fun c hc => by
    obtain ⟨q, hq, rfl⟩ := (hm c).1 hc
    exact rank_row hk hq) hst (one_normal _)
  rw [this, redC, if_pos ⟨rfl, rfl⟩]

theorem side_Reduce (n : Nat) {k : Nat} (h2 : 2 ≤ k) (hk : k ≤ 31) (lb jm : Str) (hn : 1000 ≤ n) :
    reduce_Reduce n ⟨lb, List.replicate k sideC, [], jm⟩ = some (parT (k - 1), 0) := by
  have hrep : List.replicate k sideC = (List.range k).map fun _ => sideC := by
    refine List.ext_getElem (by simp) fun i h1 h2 => ?_
    simp
  have hfl := flow_exact n ⟨lb, List.replicate k sideC, [], jm⟩ (by simp; omega) (by simp; omega)
  have hfl2 : flowS (ApiRung.mk lb (List.replicate k sideC) [] jm).Contacts = 0 := side_flow (by
    show List.replicate k sideC ≠ []
    intro e
    have := congrArg List.length e
    simp at this; omega) (fun c hc => (List.mem_replicate.1 hc).2)
  rw [hfl2] at hfl
  have hcan : canon (edgesS (List.replicate k sideC) 0) = (⟨⟨strLL, strRR⟩, parT 0⟩ :: (List.range' 1 (k - 1)).map edgeP) := by
    have e1 : canon (edgesS (List.replicate k sideC) 0) = (List.range k).map edgeP := by
      rw [hrep, edges_map, canon, List.map_map]
      refine List.map_congr_left fun p _ => ?_
      show ReduceEdge.mk ⟨strLL, strRR⟩ (sortedS (lf p)) = _
      rw [sorted_lf]; rfl
    rw [e1, range_cons k (by omega), List.map_cons]
    congr 1
  have hst := par_steps (k - 1) 0
  rw [Nat.zero_add, ← hcan] at hst
  have := Reduce_ends n ⟨lb, List.replicate k sideC, [], jm⟩ (by simp; omega) (by simp; omega) hfl (rank := fun s => if s = strLL then 0 else 1) (fun c hc => by
    have : c = sideC := (List.mem_replicate.1 hc).2
    subst this
    show (if strLL = strLL then 0 else 1) < if strRR = strLL then 0 else 1
    rw [if_pos rfl, if_neg (fun e => LR e.symm)]; omega) (by simpa using hst) (one_normal _)
  rw [this, redC, if_pos ⟨rfl, rfl⟩]
end Go.G

namespace Go.G
open Go.Av
set_option maxRecDepth 100000
theorem alive15 : law15_alive 2000000 = some true := by decide +kernel
end Go.G

namespace Go.G
open Go.Av

theorem eqI_loop (a b : List Int) (hl : a.length = b.length) (hb : b.length ≤ 1000000000) : ∀ (q i : Nat), i ≤ a.length → a.length - i < q → slices_Equal_int_L1 a b q (i : Int) = some (decide (a.drop i = b.drop i))
  | 0, i, h, hm => absurd hm (Nat.not_lt_zero _)
  | q + 1, i, h, hm => by
    rw [slices_Equal_int_L1]
    by_cases hi : i < a.length
    · obtain ⟨x, hx⟩ := get_ex hi
      obtain ⟨y, hy⟩ := get_ex (l := b) (i := i) (by omega)
      rw [if_pos (by simpa using hi), atI_nat, hx, Option.bind_some, atI_nat, hy, Option.bind_some, drop_cons hx, drop_cons hy]
      by_cases hxy : x = y
      · rw [if_neg (by simpa using hxy), wrapN (by omega), eqI_loop a b hl hb q (i + 1) (by omega) (by omega)]; simp [hxy]
      · rw [if_pos (by simpa using hxy)]; simp [hxy]
    · rw [if_neg (by simpa using hi), List.drop_eq_nil_of_le (by omega), List.drop_eq_nil_of_le (by omega)]; simp
theorem eqI (n : Nat) (a b : List Int) (hb : b.length ≤ 1000000000) (hn : a.length < n) : slices_Equal_int n a b = some (decide (a = b)) := by
  rw [slices_Equal_int]
  by_cases hl : a.length = b.length
  · rw [if_neg (by simp [hl]), show (0 : Int) = ((0 : Nat) : Int) from rfl, eqI_loop a b hl hb n 0 (by omega) (by omega)]; rfl
  · rw [if_pos (by simp; omega)]
    have : a ≠ b := fun e => hl (by rw [e])
    simp [this]

theorem lvs_lf (s : Nat → Nat) (l : List Nat) : lvs (l.map fun q => lf (s q)) = l.map fun q => ((s q : Nat) : Int) := by
  rw [lvs_flat, List.flatMap_map]
  induction l with
  | nil => rfl
  | cons x l ih => rw [List.flatMap_cons, List.map_cons, ih]; simp [lf, lv]
theorem szL_lf (s : Nat → Nat) (l : List Nat) : szL (l.map fun q => lf (s q)) = l.length := by
  induction l with
  | nil => rfl
  | cons x l ih => rw [List.map_cons, szL, ih]; simp [lf, szT, szL]; omega

theorem nd_make (i : Nat) : (⟨#[120]⟩ : Str) ++ bytesS [((97 + i : Nat) : Int)] = ndS i := by
  unfold bytesS ndS
  simp only [List.map_cons, List.map_nil, Int.toNat_natCast]
  generalize UInt8.ofNat (97 + i) = y
  simp [ByteArray.ext_iff]
theorem nd_size (v : Int) : (⟨#[120]⟩ : Str).size + (bytesS [v]).size ≤ 1000000000 := by
  unfold bytesS
  simp [ByteArray.size]

theorem set_range {α : Type} (k : Nat) (f : Nat → α) (i : Nat) (x : α) (hi : i < k) : ((List.range k).map f).set i x = (List.range k).map fun p => if p = i then x else f p := by
  refine List.ext_getElem (by simp) fun p h1 h2 => ?_
  have hp : p < k := by simpa using h2
  rw [List.getElem_set]
  simp only [List.getElem_map, List.getElem_range]
  by_cases h : i = p
  · rw [if_pos h, if_pos h.symm]
  · rw [if_neg h, if_neg (fun e => h e.symm)]
theorem get_range {α : Type} (k : Nat) (f : Nat → α) (i : Nat) (hi : i < k) : ((List.range k).map f)[i]? = some (f i) := by
  rw [List.getElem?_map, List.getElem?_range hi]; rfl
theorem swap_range {α : Type} (k : Nat) (f : Nat → α) (a b : Nat) (ha : a < k) (hb : b < k) : (((List.range k).map f).set a (f b)).set b (f a) = (List.range k).map fun p => f (swp a b p) := by
  rw [set_range k f a _ ha, set_range k _ b _ hb]
  refine List.map_congr_left fun p _ => ?_
  unfold swp
  by_cases h1 : p = a
  · by_cases h2 : p = b
    · rw [if_pos h2, if_pos h1, ← h1, h2]
    · rw [if_neg h2, if_pos h1, if_pos h1]
  · by_cases h2 : p = b
    · rw [if_pos h2, if_neg h1, if_pos h2]
    · rw [if_neg h2, if_neg h1, if_neg h1, if_neg h2]

section
variable (n : Nat) (hn : 2000000 ≤ n) (x : Int) (k : Nat) (h2 : 2 ≤ k) (hk : k ≤ 31) (hK : IntKind.i64.wrap (2 + IntKind.i64.wrap (x.tmod 30)) = (k : Int)) (w : Int × Int) (a b : Nat) (ha : a < k) (hb : b < k)
  (hA : (IntKind.i64.wrap w.1).tmod (k : Int) = (a : Int)) (hB : (IntKind.i64.wrap w.2).tmod (k : Int) = (b : Int)) (hal : law15_alive n = some true)
include hn h2 hk hK ha hb hA hB hal

theorem chains_J2 : law15_ReduceChains_J2 n x w (serT (swp a b) (k - 1)) 0 (parT (k - 1)) 0 ((List.range k).map fun p : Nat => (p : Int)) = some true := by
  have e1 : parT (k - 1) = .mk 2 0 ((List.range k).map fun q => lf q) := by
    rw [parT, if_neg (by omega), show k - 1 + 1 = k by omega]
  have e2 : serT (swp a b) (k - 1) = .mk 1 0 ((List.range k).map fun q => lf (swp a b q)) := by
    rw [serT, if_neg (by omega), show k - 1 + 1 = k by omega]
  have l1 : tree_Leaves n (parT (k - 1)) = some ((List.range k).map fun p : Nat => (p : Int)) := by
    have hsz : szT (parT (k - 1)) = 1 + k := by rw [e1, szT, szL_lf (fun q => q)]; simp
    rw [tree_Leaves_eq _ n (by omega) (by omega), e1, lv, if_neg (by decide), if_pos (.inr rfl), lvs_lf (fun q => q)]
  have l2 : tree_Leaves n (serT (swp a b) (k - 1)) = some ((List.range k).map fun p => ((swp a b p : Nat) : Int)) := by
    have hsz : szT (serT (swp a b) (k - 1)) = 1 + k := by rw [e2, szT, szL_lf]; simp
    rw [tree_Leaves_eq _ n (by omega) (by omega), e2, lv, if_neg (by decide), if_pos (.inl rfl), lvs_lf]
  have hsw := swap_range k (fun p : Nat => (p : Int)) a b ha hb
  have hget : ∃ z, (((List.range k).map fun p : Nat => (p : Int)).set a ((b : Nat) : Int))[b]? = some z := get_ex (by simp; exact hb)
  obtain ⟨z, hz⟩ := hget
  rw [law15_ReduceChains_J2, l1, Option.bind_some, eqI n _ _ (by simp; omega) (by simp; omega), Option.bind_some, hK, hA, hB]
  rw [if_neg (by simp), atI_nat, get_range k _ b hb, Option.bind_some, atI_nat, get_range k _ a ha, Option.bind_some, Option.bind_some, Int.toNat_natCast, Int.toNat_natCast, atI_nat, hz, Option.bind_some, Option.bind_some]
  rw [hsw, hal, Option.bind_some, if_pos rfl, if_pos (by rfl), if_pos (by rfl), if_pos (by rw [e2]; rfl), if_pos (by rw [e1]; rfl), if_pos (by rw [e2]; simp [TreeTree_Kids_mk]), if_pos (by rw [e1]; simp [TreeTree_Kids_mk]), l2, Option.bind_some, eqI n _ _ (by simp; omega) (by simp; omega), Option.bind_some]
  simp

theorem chains_L3 : ∀ (q i : Nat) (l : List Int), i ≤ k → k - i < q → l = ((List.range i).map fun p : Nat => (p : Int)) ++ List.replicate (k - i) 0 →
    law15_ReduceChains_L3 n x w (serT (swp a b) (k - 1)) 0 (parT (k - 1)) 0 q (i : Int) l = some true
  | 0, i, l, h, hm, _ => absurd hm (Nat.not_lt_zero _)
  | q + 1, i, l, h, hm, hl => by
    rw [law15_ReduceChains_L3, hK]
    by_cases hi : i < k
    · obtain ⟨m, hm'⟩ : ∃ m, k - i = m + 1 := ⟨k - i - 1, by omega⟩
      have hat : l[i]? = some 0 := by
        rw [hl, hm', List.getElem?_append_right (by simp)]; simp [List.replicate_succ]
      rw [if_pos (by simp; omega), atI_nat, hat, Option.bind_some, Option.bind_some, Int.toNat_natCast, wrapN (by omega)]
      refine chains_L3 q (i + 1) _ (by omega) (by omega) ?_
      rw [hl, hm', List.replicate_succ, List.set_append_right _ _ (by simp), List.range_succ, List.map_append]
      simp
      omega
    · have : i = k := by omega
      subst this
      rw [if_neg (by simp), hl]
      simp only [Nat.sub_self, List.replicate_zero, List.append_nil]
      exact chains_J2 n hn x i h2 hk hK w a b ha hb hA hB hal

theorem chains_J1 : law15_ReduceChains_J1 n x w ((List.range k).map (rowC k)) (List.replicate k sideC) = some true := by
  have hsw := swap_range k (rowC k) a b ha hb
  have hget : ∃ z, (((List.range k).map (rowC k)).set a (rowC k b))[b]? = some z := get_ex (by simp; exact hb)
  obtain ⟨z, hz⟩ := hget
  rw [law15_ReduceChains_J1, hK, hA, hB, if_pos (by omega), if_pos (by omega), atI_nat, get_range k _ b hb, Option.bind_some, atI_nat, get_range k _ a ha, Option.bind_some, Option.bind_some, Int.toNat_natCast, Int.toNat_natCast, atI_nat, hz, Option.bind_some, Option.bind_some, hsw]
  rw [row_Reduce n h2 hk ha hb _ _ (by omega), Option.bind_some]
  dsimp only
  rw [side_Reduce n h2 hk _ _ (by omega), Option.bind_some]
  dsimp only
  rw [if_pos (by omega), Option.bind_some, Int.toNat_natCast, show (0 : Int) = ((0 : Nat) : Int) from rfl]
  exact chains_L3 n hn x k h2 hk hK w a b ha hb hA hB hal n 0 _ (by omega) (by omega) (by simp)

theorem chains_L4 : ∀ (q i : Nat), i ≤ k → k - i < q → law15_ReduceChains_L4 n x w q (i : Int) ((List.range i).map (rowC k)) (List.replicate i sideC) = some true
  | 0, i, h, hm => absurd hm (Nat.not_lt_zero _)
  | q + 1, i, h, hm => by
    rw [law15_ReduceChains_L4, hK]
    by_cases hi : i < k
    · have ih := chains_L4 q (i + 1) (by omega) (by omega)
      have w1 : IntKind.i64.wrap (97 + (i : Int)) = ((97 + i : Nat) : Int) := by rw [wrapI (by omega) (by omega)]; omega
      have w2 : IntKind.i64.wrap (((97 + i : Nat) : Int) + 1) = ((97 + (i + 1) : Nat) : Int) := by rw [wrapI (by omega) (by omega)]; omega
      have u : ∀ m : Nat, m < 256 → IntKind.u8.wrap (m : Int) = (m : Int) := fun m hm => by simp [IntKind.wrap, IntKind.bits, IntKind.signed]; omega
      have w3 : IntKind.i64.wrap ((k : Int) - 1) = ((k - 1 : Nat) : Int) := by rw [wrapI (by omega) (by omega)]; omega
      have hJ6 : law15_ReduceChains_J6 (i : Int) ((List.range i).map (rowC k)) (List.replicate i sideC) (law15_ReduceChains_L4 n x w q) (frS i) (toS k i) = some true := by
        rw [law15_ReduceChains_J6, if_pos (by simp; omega), Option.bind_some, if_pos (by simp; omega), Option.bind_some, wrapN (by omega)]
        have r1 : (List.range i).map (rowC k) ++ [(⟨0, ⟨0, 0⟩, frS i, toS k i⟩ : ApiContact)] = (List.range (i + 1)).map (rowC k) := by
          rw [List.range_succ, List.map_append]; rfl
        have r2 : List.replicate i sideC ++ [(⟨0, ⟨0, 0⟩, (⟨#[76]⟩ : Str), (⟨#[82]⟩ : Str)⟩ : ApiContact)] = List.replicate (i + 1) sideC := by
          rw [List.replicate_succ']; rfl
        rw [r1, r2]
        exact ih
      have hJ5 : ∀ s, s = frS i → law15_ReduceChains_J5 x (i : Int) ((List.range i).map (rowC k)) (List.replicate i sideC) (law15_ReduceChains_L4 n x w q) [((97 + (i + 1) : Nat) : Int)] s = some true := by
        rintro s rfl
        rw [law15_ReduceChains_J5, hK, w3]
        by_cases hl : i + 1 = k
        · have e : (⟨#[82]⟩ : Str) = toS k i := by rw [toS, if_pos hl]; rfl
          rw [if_pos (by simp; omega), e]; exact hJ6
        · have e : (⟨#[120]⟩ : Str) ++ bytesS [((97 + (i + 1) : Nat) : Int)] = toS k i := by rw [toS, if_neg hl, nd_make]
          rw [if_neg (by simp; omega), e]; exact hJ6
      rw [if_pos (by simp; omega), w1, u _ (by omega), Option.bind_some, if_pos (nd_size _), w2, u _ (by omega), Option.bind_some, if_pos (nd_size _)]
      by_cases h0 : i = 0
      · rw [if_pos (by simp [h0])]
        exact hJ5 _ (by rw [frS, if_pos h0]; rfl)
      · rw [if_neg (by simpa using h0)]
        exact hJ5 _ (by rw [frS, if_neg h0, nd_make])
    · have : i = k := by omega
      subst this
      rw [if_neg (by simp)]
      exact chains_J1 n hn x i h2 hk hK w a b ha hb hA hB hal
end

theorem chains_law0 (n : Nat) (hal : law15_alive n = some true) (hn : 2000000 ≤ n) (x : Int) (w : Int × Int) (hx : 0 ≤ x ∧ x ≤ 255) (h1 : 0 ≤ w.1 ∧ w.1 ≤ 255) (h2 : 0 ≤ w.2 ∧ w.2 ≤ 255) : law15_ReduceChains n x w = some true := by
  obtain ⟨xm, rfl⟩ := Int.eq_ofNat_of_zero_le hx.1
  obtain ⟨w1, w2⟩ := w
  dsimp only at h1 h2
  obtain ⟨u, rfl⟩ := Int.eq_ofNat_of_zero_le h1.1
  obtain ⟨v, rfl⟩ := Int.eq_ofNat_of_zero_le h2.1
  have ht : ∀ p q : Nat, (p : Int).tmod (q : Int) = ((p % q : Nat) : Int) := fun p q => by
    rw [Int.tmod_eq_emod_of_nonneg (by omega)]; omega
  have hm := Nat.mod_lt xm (show 0 < 30 by omega)
  have hK : IntKind.i64.wrap (2 + IntKind.i64.wrap ((xm : Int).tmod 30)) = ((2 + xm % 30 : Nat) : Int) := by
    rw [show (30 : Int) = ((30 : Nat) : Int) from rfl, ht, wrapI (i := ((xm % 30 : Nat) : Int)) (by omega) (by omega), wrapI (by omega) (by omega)]; omega
  refine chains_L4 n hn _ (2 + xm % 30) (by omega) (by omega) hK (_, _) (u % (2 + xm % 30)) (v % (2 + xm % 30)) (Nat.mod_lt _ (by omega)) (Nat.mod_lt _ (by omega)) ?_ ?_ hal n 0 (by omega) (by omega)
  · dsimp only
    rw [wrapI (by omega) (by omega), ht]
  · dsimp only
    rw [wrapI (by omega) (by omega), ht]

theorem chains_law (x : Int) (w : Int × Int) (hx : 0 ≤ x ∧ x ≤ 255) (h1 : 0 ≤ w.1 ∧ w.1 ≤ 255) (h2 : 0 ≤ w.2 ∧ w.2 ≤ 255) : law15_ReduceChains 2000000 x w = some true :=
  chains_law0 2000000 alive15 (Nat.le_refl _) x w hx h1 h2
end Go.G

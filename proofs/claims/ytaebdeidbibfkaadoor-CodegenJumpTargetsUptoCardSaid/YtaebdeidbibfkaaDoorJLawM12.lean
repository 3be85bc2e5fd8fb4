/- What the check of a rung's graph answers, exactly. No law is proved here. -/
import Derived.Test.YtaebdeidbibfkaaDoorJLawM11
import Derived.Test.YtaebdeidbibfkaaDoorJGc
set_option linter.unusedSimpArgs false
set_option linter.unusedVariables false
set_option linter.unusedSectionVars false
namespace Go.G
open Go.Av
def IsNode (cs : List ApiContact) (x : Str) : Prop := x = strLL ∨ x = strRR ∨ ∃ c ∈ cs, x = c.From ∨ x = c.To
theorem nodes2_sub (P : Str → Prop) (p : Int) (R : Int → List Str → List (Str × Bool) → Option (List Str)) (pr : List Str) (hpr : ∀ x ∈ pr, P x) (res : List Str)
    (hR : ∀ l m, (∀ x ∈ l, P x) → R (IntKind.i64.wrap (p + 1)) l m = some res → ∀ x ∈ res, P x) : ∀ (q k : Nat) (l : List Str) (m : List (Str × Bool)), (∀ x ∈ l, P x) → k ≤ pr.length → pr.length ≤ 1000 → graph_Nodes_o0_L2 p R pr q (k : Int) l m = some res → ∀ x ∈ res, P x
  | 0, k, l, m, _, _, _, h => by rw [graph_Nodes_o0_L2] at h; cases h
  | q + 1, k, l, m, hl, hk0, hp, h => by
    rw [graph_Nodes_o0_L2] at h
    by_cases hk : k < pr.length
    · obtain ⟨x, hx⟩ := get_ex hk
      rw [if_pos (by simpa using hk), atI_nat, hx, Option.bind_some, wrapN (by omega)] at h
      split at h
      · split at h
        · rw [Option.bind_some] at h
          refine nodes2_sub P p R pr hpr res hR q (k + 1) _ _ (fun y hy => ?_) (by omega) hp h
          rcases List.mem_append.1 hy with hy | hy
          · exact hl y hy
          · rw [List.mem_singleton] at hy; subst hy; exact hpr _ (List.mem_of_getElem? hx)
        · cases h
      · exact nodes2_sub P p R pr hpr res hR q (k + 1) _ _ hl (by omega) hp h
    · rw [if_neg (by simpa using hk)] at h
      exact hR l m hl h
theorem nodes1_sub (P : Str → Prop) (n : Nat) (r : ApiRung) (hs : r.Contacts.length ≤ 1000000) (hr : ∀ c ∈ r.Contacts, P c.From ∧ P c.To) (res : List Str) : ∀ (q i : Nat) (l : List Str) (m : List (Str × Bool)), (∀ x ∈ l, P x) → i ≤ r.Contacts.length → graph_Nodes_o0_L1 n r q (i : Int) l m = some res → ∀ x ∈ res, P x
  | 0, i, l, m, _, _, h => by rw [graph_Nodes_o0_L1] at h; cases h
  | q + 1, i, l, m, hl, hi0, h => by
    rw [graph_Nodes_o0_L1] at h
    by_cases hk : i < r.Contacts.length
    · obtain ⟨c, hc⟩ := get_ex hk
      have hm := hr c (List.mem_of_getElem? hc)
      rw [if_pos (by simpa using hk), atI_nat, hc, Option.bind_some, Option.bind_some, show (0 : Int) = ((0 : Nat) : Int) from rfl] at h
      refine nodes2_sub P (i : Int) (graph_Nodes_o0_L1 n r q) [c.From, c.To] (fun x hx => ?_) res (fun l m hl h => ?_) n 0 l m hl (by simp) (by simp) h
      · rcases List.mem_cons.1 hx with rfl | hx
        · exact hm.1
        · rw [List.mem_singleton] at hx; subst hx; exact hm.2
      · rw [wrapN (by omega)] at h
        exact nodes1_sub P n r hs hr res q (i + 1) l m hl (by omega) h
    · rw [if_neg (by simpa using hk)] at h
      cases h; exact hl
theorem nodes_exact (n : Nat) (r : ApiRung) (hn : 2 * r.Contacts.length + 10 ≤ n) (hs : r.Contacts.length ≤ 1000000) : ∃ l, graph_Nodes_o0 n r = some l ∧ IsNodes r l ∧ ∀ x, x ∈ l ↔ IsNode r.Contacts x := by
  obtain ⟨l, a1, a2⟩ := nodes_eq n r hn hs
  refine ⟨l, a1, a2, fun x => ⟨fun hx => ?_, fun hx => ?_⟩⟩
  · rw [graph_Nodes_o0, Option.bind_some, show (0 : Int) = ((0 : Nat) : Int) from rfl] at a1
    refine nodes1_sub (IsNode r.Contacts) n r hs (fun c hc => ⟨.inr (.inr ⟨c, hc, .inl rfl⟩), .inr (.inr ⟨c, hc, .inr rfl⟩)⟩) l n 0 _ _ (fun x hx => ?_) (by omega) a1 x hx
    rcases List.mem_cons.1 hx with rfl | hx
    · exact .inl rfl
    · rw [List.mem_singleton] at hx; subst hx; exact .inr (.inl rfl)
  · rcases hx with rfl | rfl | ⟨c, hc, rfl | rfl⟩
    · exact a2.L
    · exact a2.R
    · exact (a2.ends c hc).1
    · exact (a2.ends c hc).2
theorem told_loopC (n : Nat) (s : List Int) (m : List (Str × Bool)) (r : ApiRung) (hs : s.length ≤ 1000000) (hr : ∀ j ∈ s, ∃ (k : Nat) (c : ApiContact), j = (k : Int) ∧ r.Contacts[k]? = some c) : ∀ (q i : Nat) (t : Int), i ≤ s.length → slices_IndexFunc_int_c75_L1 n s m r q (i : Int) = some t → 0 ≤ t → ∃ (k : Nat) (c : ApiContact), (k : Int) ∈ s ∧ r.Contacts[k]? = some c ∧ hasM m c.From = false
  | 0, i, t, _, h, _ => by rw [slices_IndexFunc_int_c75_L1] at h; cases h
  | q + 1, i, t, hi0, h, ht => by
    rw [slices_IndexFunc_int_c75_L1] at h
    by_cases hi : i < s.length
    · obtain ⟨x, hx⟩ := get_ex hi
      obtain ⟨k, c, rfl, hc⟩ := hr x (List.mem_of_getElem? hx)
      rw [if_pos (by simpa using hi), atI_nat, hx, Option.bind_some, graph_TopoSort_1_1, atI_nat, hc, Option.bind_some, Option.bind_some, wrapN (by omega)] at h
      split at h
      · rename_i hh
        refine ⟨k, c, List.mem_of_getElem? hx, hc, ?_⟩
        have : (!(hasM m c.From)) = true := hh
        simpa using this
      · exact told_loopC n s m r hs hr q (i + 1) t (by omega) h ht
    · rw [if_neg (by simpa using hi)] at h
      cases h; omega
theorem topo_1C (n : Nat) (x : Str) (r : ApiRung) (m : List (Str × Bool)) (hs : r.Contacts.length ≤ 1000000) (hn : r.Contacts.length < n) : ∃ b, graph_TopoSort_1 n x r m = some b ∧ (b = true → ∀ c ∈ r.Contacts, c.To = x → hasM m c.From = true) ∧ (b = false → ∃ c ∈ r.Contacts, c.To = x ∧ hasM m c.From = false) := by
  obtain ⟨b, b1, b2⟩ := topo_1 n x r m hs hn
  refine ⟨b, b1, b2, fun hb => ?_⟩
  obtain ⟨l, a1, a2, a3, a4⟩ := Incoming_eq n r x hs hn
  have hr : ∀ j ∈ l, ∃ (k : Nat) (c : ApiContact), j = (k : Int) ∧ r.Contacts[k]? = some c := fun j hj => by obtain ⟨k, c, e1, e2, _⟩ := a3 j hj; exact ⟨k, c, e1, e2⟩
  obtain ⟨t, t1, _⟩ := told_loop n l m r (by omega) hr n 0 (by omega) (by omega)
  rw [graph_TopoSort_1, a1, Option.bind_some, slices_ContainsFunc_int_c75, slices_IndexFunc_int_c75, show (0 : Int) = ((0 : Nat) : Int) from rfl, t1, Option.bind_some, Option.bind_some] at b1
  have ht : 0 ≤ t := by
    have : (!(decide (t ≥ ((0 : Nat) : Int)))) = b := by simpa using b1
    rw [hb] at this
    simpa using this
  obtain ⟨k, c, c1, c2, c3⟩ := told_loopC n l m r (by omega) hr n 0 t (by omega) t1 ht
  obtain ⟨k', c', e1, e2, e3⟩ := a3 _ c1
  have : k' = k := by omega
  subst this
  rw [c2] at e2; cases e2
  exact ⟨c, List.mem_of_getElem? c2, e3, c3⟩
theorem ready_loopC (n : Nat) (l : List Str) (r : ApiRung) (m : List (Str × Bool)) (hl : l.length ≤ 100000000) (hs : r.Contacts.length ≤ 1000000) (hn : r.Contacts.length < n) : ∀ (q i : Nat) (t : Int), i ≤ l.length → slices_IndexFunc_string_c72_v1_L1 n l r m q (i : Int) = some t → t < 0 →
    ∀ x ∈ l.drop i, ∃ c ∈ r.Contacts, c.To = x ∧ hasM m c.From = false
  | 0, i, t, _, h, _ => by rw [slices_IndexFunc_string_c72_v1_L1] at h; cases h
  | q + 1, i, t, hi0, h, ht => by
    rw [slices_IndexFunc_string_c72_v1_L1] at h
    by_cases hi : i < l.length
    · obtain ⟨x, hx⟩ := get_ex hi
      obtain ⟨b, b1, b2, b3⟩ := topo_1C n x r m hs hn
      rw [if_pos (by simpa using hi), atI_nat, hx, Option.bind_some, b1, Option.bind_some, wrapN (by omega)] at h
      cases b with
      | true => rw [if_pos rfl] at h; cases h; omega
      | false =>
        rw [if_neg (by simp)] at h
        have ih := ready_loopC n l r m hl hs hn q (i + 1) t (by omega) h ht
        rw [drop_cons hx]
        intro y hy
        rcases List.mem_cons.1 hy with rfl | hy
        · exact b3 rfl
        · exact ih y hy
    · rw [List.drop_eq_nil_of_le (by omega)]; intro x hx; cases hx
theorem min_ex {α : Type} (f : α → Nat) : ∀ {l : List α}, l ≠ [] → ∃ x ∈ l, ∀ y ∈ l, f x ≤ f y
  | [], h => absurd rfl h
  | [x], _ => ⟨x, by simp, fun y hy => by rw [List.mem_singleton] at hy; subst hy; exact Nat.le_refl _⟩
  | x :: z :: l, _ => by
    obtain ⟨w, h1, h2⟩ := min_ex f (l := z :: l) (by simp)
    by_cases h : f x ≤ f w
    · refine ⟨x, by simp, fun y hy => ?_⟩
      rcases List.mem_cons.1 hy with rfl | hy
      · exact Nat.le_refl _
      · exact Nat.le_trans h (h2 y hy)
    · refine ⟨w, List.mem_cons_of_mem _ h1, fun y hy => ?_⟩
      rcases List.mem_cons.1 hy with rfl | hy
      · omega
      · exact h2 y hy
theorem topo_loopC (n : Nat) (r : ApiRung) (hs : r.Contacts.length ≤ 1000000) (hn : 2 * r.Contacts.length + 10 ≤ n) (rank : Str → Nat) (hrk : ∀ c ∈ r.Contacts, rank c.From < rank c.To) : ∀ (q : Nat) (left : List Str) (m : List (Str × Bool)) (l : List Str) (s : List Str) (e : Int),
    left.length + l.length ≤ 2 + 2 * r.Contacts.length → (∀ x, hasM m x = true ↔ x ∈ l) → (∀ c ∈ r.Contacts, c.From ∈ left ∨ c.From ∈ l) → graph_TopoSort_L1 n r q left m l = some (s, e) → e = 0
  | 0, left, m, l, s, e, _, _, _, h => by rw [graph_TopoSort_L1] at h; cases h
  | q + 1, left, m, l, s, e, hl, h1, h2, h => by
    rw [graph_TopoSort_L1] at h
    by_cases hk : 0 < left.length
    · rw [if_pos (by simpa using hk)] at h
      obtain ⟨t, a1, a2⟩ := ready_loop n left r m (by omega) hs (by omega) n 0 (by omega) (by omega)
      have hC := ready_loopC n left r m (by omega) hs (by omega) n 0 t (by omega) a1
      rw [slices_IndexFunc_string_c72_v1, show (0 : Int) = ((0 : Nat) : Int) from rfl, a1, Option.bind_some] at h
      rcases a2 with rfl | ⟨k, x, rfl, hx, hin⟩
      · exfalso
        have hC := hC (by decide)
        rw [List.drop_zero] at hC
        obtain ⟨x, m1, m2⟩ := min_ex rank (l := left) (by intro e; subst e; simp at hk)
        obtain ⟨c, c1, c2, c3⟩ := hC x m1
        have hr := hrk c c1
        rcases h2 c c1 with g | g
        · have := m2 _ g; rw [c2] at hr; omega
        · rw [(h1 _).2 g] at c3; cases c3
      · have hkl := get_lt hx
        have hp := erase_perm hx
        rw [if_neg (by simp), atI_nat, hx, Option.bind_some, if_pos (by simp; omega), Option.bind_some, wrapN (by omega), delS_eq n left k hkl, Option.bind_some] at h
        refine topo_loopC n r hs hn rank hrk q (left.eraseIdx k) (mPut m x true) (l ++ [x]) s e ?_ ?_ ?_ h
        · rw [List.length_eraseIdx_of_lt hkl, List.length_append, List.length_singleton]; omega
        · intro y
          rw [hasM_put, Bool.or_eq_true, h1, decide_eq_true_eq, List.mem_append, List.mem_singleton]
          exact Or.comm
        · intro c hc
          rcases h2 c hc with g | g
          · rcases List.mem_cons.1 (hp.subset g) with g | g
            · exact .inr (by simp [g])
            · exact .inl g
          · exact .inr (by simp [g])
    · rw [if_neg (by simpa using hk)] at h
      cases h; rfl
def Acyc (cs : List ApiContact) : Prop := ∃ rank : Str → Nat, ∀ c ∈ cs, rank c.From < rank c.To
theorem TopoSort_exact (n : Nat) (r : ApiRung) (hs : r.Contacts.length ≤ 1000000) (hn : 2 * r.Contacts.length + 10 ≤ n) : ∃ s e, graph_TopoSort n r = some (s, e) ∧ (e = 0 ↔ Acyc r.Contacts) := by
  obtain ⟨s, e, a1, a2⟩ := TopoSort_eq n r hs hn
  refine ⟨s, e, a1, a2, fun ⟨rank, hrk⟩ => ?_⟩
  obtain ⟨l, b1, b2⟩ := nodes_eq n r hn hs
  rw [graph_TopoSort, b1, Option.bind_some] at a1
  have := b2.len
  exact topo_loopC n r hs hn rank hrk n l [] [] s e (by simpa using this) (fun x => by simp [hasM_nil]) (fun c hc => .inl (b2.ends c hc).1) a1
theorem topo_code (n : Nat) (r : ApiRung) : ∀ (q : Nat) (left : List Str) (m : List (Str × Bool)) (l s : List Str) (e : Int), graph_TopoSort_L1 n r q left m l = some (s, e) → e = 0 ∨ e = 12
  | 0, left, m, l, s, e, h => by rw [graph_TopoSort_L1] at h; cases h
  | q + 1, left, m, l, s, e, h => by
    rw [graph_TopoSort_L1] at h
    split at h
    · obtain ⟨t, _, h⟩ := Option.bind_eq_some_iff.1 h
      split at h
      · cases h; exact .inr rfl
      · obtain ⟨x, _, h⟩ := Option.bind_eq_some_iff.1 h
        split at h
        · rw [Option.bind_some] at h
          obtain ⟨d, _, h⟩ := Option.bind_eq_some_iff.1 h
          exact topo_code n r q _ _ _ s e h
        · cases h
    · cases h; exact .inl rfl
theorem numIncoming_fuel (n : Nat) (r : ApiRung) (b : Str) (hs : r.Contacts.length ≤ 1000000) : ∀ (q i : Nat) (acc l : List Int), i ≤ r.Contacts.length → graph_numbers_c99_L1 n r b q (i : Int) acc = some l → r.Contacts.length - i < q
  | 0, i, acc, l, _, h => by rw [graph_numbers_c99_L1] at h; cases h
  | q + 1, i, acc, l, hi0, h => by
    rw [graph_numbers_c99_L1] at h
    by_cases hk : i < r.Contacts.length
    · obtain ⟨c, hc⟩ := get_ex hk
      rw [if_pos (by simpa using hk), atI_nat, hc, Option.bind_some, graph_Incoming_1, Option.bind_some, wrapN (by omega)] at h
      split at h
      · split at h
        · rw [Option.bind_some] at h
          have := numIncoming_fuel n r b hs q (i + 1) _ l (by omega) h
          omega
        · cases h
      · have := numIncoming_fuel n r b hs q (i + 1) _ l (by omega) h
        omega
    · omega
theorem Incoming_small (n : Nat) (r : ApiRung) (x : Str) (s : List Int) (hs : r.Contacts.length ≤ 1000000) (h : graph_Incoming n r x = some s) : r.Contacts.length < n := by
  rw [graph_Incoming, graph_numbers_c99, show (0 : Int) = ((0 : Nat) : Int) from rfl] at h
  obtain ⟨l, h1, _⟩ := Option.bind_eq_some_iff.1 h
  have := numIncoming_fuel n r x hs n 0 [] l (by omega) h1
  omega
theorem numOutgoing_fuel (n : Nat) (r : ApiRung) (b : Str) (hs : r.Contacts.length ≤ 1000000) : ∀ (q i : Nat) (acc l : List Int), i ≤ r.Contacts.length → graph_numbers_c129_L1 n r b q (i : Int) acc = some l → r.Contacts.length - i < q
  | 0, i, acc, l, _, h => by rw [graph_numbers_c129_L1] at h; cases h
  | q + 1, i, acc, l, hi0, h => by
    rw [graph_numbers_c129_L1] at h
    by_cases hk : i < r.Contacts.length
    · obtain ⟨c, hc⟩ := get_ex hk
      rw [if_pos (by simpa using hk), atI_nat, hc, Option.bind_some, graph_Outgoing_1, Option.bind_some, wrapN (by omega)] at h
      split at h
      · split at h
        · rw [Option.bind_some] at h
          have := numOutgoing_fuel n r b hs q (i + 1) _ l (by omega) h
          omega
        · cases h
      · have := numOutgoing_fuel n r b hs q (i + 1) _ l (by omega) h
        omega
    · omega
theorem Outgoing_small (n : Nat) (r : ApiRung) (x : Str) (s : List Int) (hs : r.Contacts.length ≤ 1000000) (h : graph_Outgoing n r x = some s) : r.Contacts.length < n := by
  rw [graph_Outgoing, graph_numbers_c129, show (0 : Int) = ((0 : Nat) : Int) from rfl] at h
  obtain ⟨l, h1, _⟩ := Option.bind_eq_some_iff.1 h
  have := numOutgoing_fuel n r x hs n 0 [] l (by omega) h1
  omega
theorem stepsReachable_loopC (r : ApiRung) (s : List Int) (hs : s.length ≤ 1000000) (hr : ∀ j ∈ s, ∃ (k : Nat) (c : ApiContact), j = (k : Int) ∧ r.Contacts[k]? = some c) : ∀ (q i : Nat) (acc l : List Str), i ≤ s.length → graph_Reachable_1_L1 r s q (i : Int) acc = some l →
    (∀ x ∈ acc, x ∈ l) ∧ (∀ (k : Nat) (c : ApiContact), (k : Int) ∈ s.drop i → r.Contacts[k]? = some c → c.To ∈ l) ∧ ∀ x ∈ l, x ∈ acc ∨ ∃ (k : Nat) (c : ApiContact), (k : Int) ∈ s ∧ r.Contacts[k]? = some c ∧ x = c.To
  | 0, i, acc, l, _, h => by rw [graph_Reachable_1_L1] at h; cases h
  | q + 1, i, acc, l, hi0, h => by
    rw [graph_Reachable_1_L1] at h
    by_cases hi : i < s.length
    · obtain ⟨x, hx⟩ := get_ex hi
      obtain ⟨k, c, rfl, hc⟩ := hr x (List.mem_of_getElem? hx)
      rw [if_pos (by simpa using hi), atI_nat, hx, Option.bind_some, atI_nat, hc, Option.bind_some, wrapN (by omega)] at h
      split at h
      · rw [Option.bind_some] at h
        obtain ⟨a1, a2, a3⟩ := stepsReachable_loopC r s hs hr q (i + 1) _ l (by omega) h
        refine ⟨fun x hx => a1 x (by simp [hx]), fun k' c' hk' hc' => ?_, fun x hx' => ?_⟩
        · rw [drop_cons hx] at hk'
          rcases List.mem_cons.1 hk' with e | hk'
          · have : k' = k := by omega
            subst this; rw [hc] at hc'; cases hc'; exact a1 _ (by simp)
          · exact a2 k' c' hk' hc'
        · rcases a3 x hx' with g | g
          · rcases List.mem_append.1 g with g | g
            · exact .inl g
            · rw [List.mem_singleton] at g; exact .inr ⟨k, c, List.mem_of_getElem? hx, hc, g⟩
          · exact .inr g
      · cases h
    · rw [if_neg (by simpa using hi)] at h
      cases h
      refine ⟨fun _ h => h, ?_, fun _ h => .inl h⟩
      rw [List.drop_eq_nil_of_le (by omega)]
      intro k c hk; cases hk
theorem stepsReachableC (n : Nat) (r : ApiRung) (x : Str) (hs : r.Contacts.length ≤ 1000000) (hn : r.Contacts.length < n) : ∃ l, graph_Reachable_1 n x r = some l ∧ l.length ≤ r.Contacts.length ∧ ∀ y, y ∈ l ↔ ∃ c ∈ r.Contacts, c.From = x ∧ y = c.To := by
  obtain ⟨l, e1, e2, _⟩ := stepsReachable n r x hs hn
  refine ⟨l, e1, e2, ?_⟩
  obtain ⟨s, a1, a2, a3, a4⟩ := Outgoing_eq n r x hs hn
  rw [graph_Reachable_1, a1, Option.bind_some, show (0 : Int) = ((0 : Nat) : Int) from rfl] at e1
  obtain ⟨b1, b2, b3⟩ := stepsReachable_loopC r s (by omega) (fun j hj => by obtain ⟨k, c, e1, e2, _⟩ := a3 j hj; exact ⟨k, c, e1, e2⟩) n 0 [] l (by omega) e1
  intro y
  constructor
  · intro hy
    rcases b3 y hy with g | ⟨k, c, hk, hc, rfl⟩
    · cases g
    · obtain ⟨k', c', q1, q2, q3⟩ := a3 _ hk
      have : k' = k := by omega
      subst this; rw [hc] at q2; cases q2
      exact ⟨c, List.mem_of_getElem? hc, q3, rfl⟩
  · rintro ⟨c, hc, h1, rfl⟩
    obtain ⟨k, hk⟩ := List.getElem?_of_mem hc
    exact b2 k c (by simpa using a4 k c hk h1) hk
inductive RchReachable (cs : List ApiContact) (s : Str) : Str → Prop
  | refl : RchReachable cs s s
  | step {c : ApiContact} (h1 : c ∈ cs) (h : RchReachable cs s c.From) : RchReachable cs s c.To
theorem RchReachable.trans {cs : List ApiContact} {a b x : Str} (h : RchReachable cs a b) (k : RchReachable cs b x) : RchReachable cs a x := by
  induction k with
  | refl => exact h
  | step h1 _ ih => exact .step h1 ih
structure VisReachable (cs : List ApiContact) (m m' : List (Str × Bool)) : Prop where
  mono : ∀ y, hasM m y = true → hasM m' y = true
  closed : ∀ y, hasM m' y = true → hasM m y = false → ∀ c ∈ cs, c.From = y → hasM m' c.To = true
theorem VisReachable.trans {cs : List ApiContact} {m m1 m2 : List (Str × Bool)} (h : VisReachable cs m m1) (k : VisReachable cs m1 m2) : VisReachable cs m m2 := by
  refine ⟨fun y hy => k.mono y (h.mono y hy), fun y hy hn c hc he => ?_⟩
  cases h1 : hasM m1 y with
  | true => exact k.mono _ (h.closed y h1 hn c hc he)
  | false => exact k.closed y hy h1 c hc he
theorem visitReachable_loopC (r : ApiRung) (s : List Str) (slf : Str → List (Str × Bool) → ApiRung → Option (List (Str × Bool))) (hs : s.length ≤ 1000000)
    (hf : ∀ x ∈ s, ∀ m m', slf x m r = some m' → VisReachable r.Contacts m m' ∧ hasM m' x = true ∧ ∀ y, hasM m' y = true → hasM m y = true ∨ RchReachable r.Contacts x y) : ∀ (q i : Nat) (m m' : List (Str × Bool)), i ≤ s.length →
    graph_gather_1_c101_127_L1 r s slf q m (i : Int) = some m' → VisReachable r.Contacts m m' ∧ (∀ x ∈ s.drop i, hasM m' x = true) ∧ ∀ y, hasM m' y = true → hasM m y = true ∨ ∃ x ∈ s, RchReachable r.Contacts x y
  | 0, i, m, m', _, h => by rw [graph_gather_1_c101_127_L1] at h; cases h
  | q + 1, i, m, m', hi0, h => by
    rw [graph_gather_1_c101_127_L1] at h
    by_cases hi : i < s.length
    · obtain ⟨x, hx⟩ := get_ex hi
      rw [if_pos (by simpa using hi), atI_nat, hx, Option.bind_some, wrapN (by omega)] at h
      obtain ⟨m1, h1, h⟩ := Option.bind_eq_some_iff.1 h
      obtain ⟨v1, v2, v3⟩ := hf x (List.mem_of_getElem? hx) m m1 h1
      obtain ⟨w1, w2, w3⟩ := visitReachable_loopC r s slf hs hf q (i + 1) m1 m' (by omega) h
      refine ⟨v1.trans w1, ?_, fun y hy => ?_⟩
      · rw [drop_cons hx]
        intro y hy
        rcases List.mem_cons.1 hy with rfl | hy
        · exact w1.mono _ v2
        · exact w2 y hy
      · rcases w3 y hy with g | g
        · rcases v3 y g with g | g
          · exact .inl g
          · exact .inr ⟨x, List.mem_of_getElem? hx, g⟩
        · exact .inr g
    · rw [if_neg (by simpa using hi)] at h
      cases h
      refine ⟨⟨fun _ h => h, fun y h1 h2 => by rw [h1] at h2; cases h2⟩, ?_, fun _ h => .inl h⟩
      rw [List.drop_eq_nil_of_le (by omega)]
      intro x hx; cases hx
theorem visitReachableC (r : ApiRung) (hs : r.Contacts.length ≤ 1000000) : ∀ (n : Nat) (x : Str) (m m' : List (Str × Bool)), graph_gather_1_c101_127 n x m r = some m' →
    VisReachable r.Contacts m m' ∧ hasM m' x = true ∧ ∀ y, hasM m' y = true → hasM m y = true ∨ RchReachable r.Contacts x y
  | 0, x, m, m', h => by rw [graph_gather_1_c101_127] at h; cases h
  | n + 1, x, m, m', h => by
    rw [graph_gather_1_c101_127] at h
    cases hh : hasM m x with
    | true =>
      have hh' : (mGet m x).getD false = true := hh
      rw [hh', if_pos rfl] at h
      cases h
      exact ⟨⟨fun _ h => h, fun y h1 h2 => by rw [h1] at h2; cases h2⟩, hh, fun _ h => .inl h⟩
    | false =>
      have hh' : (mGet m x).getD false = false := hh
      rw [hh', if_neg (by simp)] at h
      obtain ⟨l, h1, h⟩ := Option.bind_eq_some_iff.1 h
      rw [show (0 : Int) = ((0 : Nat) : Int) from rfl] at h
      by_cases hnn : r.Contacts.length < n
      · obtain ⟨l', a1, a2, a3⟩ := stepsReachableC n r x hs hnn
        rw [a1] at h1; cases h1
        obtain ⟨w1, w2, w3⟩ := visitReachable_loopC r l (graph_gather_1_c101_127 n) (by omega) (fun y hy m1 m2 hm => visitReachableC r hs n y m1 m2 hm) n 0 (mPut m x true) m' (by omega) h
        refine ⟨⟨fun y hy => w1.mono y (by rw [hasM_put, hy]; simp), fun y hy hn c hc he => ?_⟩, w1.mono x (by rw [hasM_put]; simp), fun y hy => ?_⟩
        · cases h2 : hasM (mPut m x true) y with
          | true =>
            rw [hasM_put, hn] at h2
            have : y = x := by simpa using h2
            subst this
            exact w2 _ (by rw [List.drop_zero]; exact (a3 _).2 ⟨c, hc, he, rfl⟩)
          | false => exact w1.closed y hy h2 c hc he
        · rcases w3 y hy with g | ⟨z, hz, g⟩
          · rw [hasM_put, Bool.or_eq_true, decide_eq_true_eq] at g
            rcases g with rfl | g
            · exact .inr .refl
            · exact .inl g
          · obtain ⟨c, hc, h1, rfl⟩ := (a3 z).1 hz
            have : RchReachable r.Contacts x c.To := .step hc (by rw [h1]; exact .refl)
            exact .inr (this.trans g)
      · exfalso
        obtain ⟨s, a1, a2⟩ := Option.bind_eq_some_iff.1 (show (graph_Outgoing n r x).bind (fun s => graph_Reachable_1_L1 r s n 0 []) = some l from h1)
        exact hnn (Outgoing_small n r x s hs a1)
theorem stepsAncestors_loopC (r : ApiRung) (s : List Int) (hs : s.length ≤ 1000000) (hr : ∀ j ∈ s, ∃ (k : Nat) (c : ApiContact), j = (k : Int) ∧ r.Contacts[k]? = some c) : ∀ (q i : Nat) (acc l : List Str), i ≤ s.length → graph_Ancestors_1_L1 r s q (i : Int) acc = some l →
    (∀ x ∈ acc, x ∈ l) ∧ (∀ (k : Nat) (c : ApiContact), (k : Int) ∈ s.drop i → r.Contacts[k]? = some c → c.From ∈ l) ∧ ∀ x ∈ l, x ∈ acc ∨ ∃ (k : Nat) (c : ApiContact), (k : Int) ∈ s ∧ r.Contacts[k]? = some c ∧ x = c.From
  | 0, i, acc, l, _, h => by rw [graph_Ancestors_1_L1] at h; cases h
  | q + 1, i, acc, l, hi0, h => by
    rw [graph_Ancestors_1_L1] at h
    by_cases hi : i < s.length
    · obtain ⟨x, hx⟩ := get_ex hi
      obtain ⟨k, c, rfl, hc⟩ := hr x (List.mem_of_getElem? hx)
      rw [if_pos (by simpa using hi), atI_nat, hx, Option.bind_some, atI_nat, hc, Option.bind_some, wrapN (by omega)] at h
      split at h
      · rw [Option.bind_some] at h
        obtain ⟨a1, a2, a3⟩ := stepsAncestors_loopC r s hs hr q (i + 1) _ l (by omega) h
        refine ⟨fun x hx => a1 x (by simp [hx]), fun k' c' hk' hc' => ?_, fun x hx' => ?_⟩
        · rw [drop_cons hx] at hk'
          rcases List.mem_cons.1 hk' with e | hk'
          · have : k' = k := by omega
            subst this; rw [hc] at hc'; cases hc'; exact a1 _ (by simp)
          · exact a2 k' c' hk' hc'
        · rcases a3 x hx' with g | g
          · rcases List.mem_append.1 g with g | g
            · exact .inl g
            · rw [List.mem_singleton] at g; exact .inr ⟨k, c, List.mem_of_getElem? hx, hc, g⟩
          · exact .inr g
      · cases h
    · rw [if_neg (by simpa using hi)] at h
      cases h
      refine ⟨fun _ h => h, ?_, fun _ h => .inl h⟩
      rw [List.drop_eq_nil_of_le (by omega)]
      intro k c hk; cases hk
theorem stepsAncestorsC (n : Nat) (r : ApiRung) (x : Str) (hs : r.Contacts.length ≤ 1000000) (hn : r.Contacts.length < n) : ∃ l, graph_Ancestors_1 n x r = some l ∧ l.length ≤ r.Contacts.length ∧ ∀ y, y ∈ l ↔ ∃ c ∈ r.Contacts, c.To = x ∧ y = c.From := by
  obtain ⟨l, e1, e2, _⟩ := stepsAncestors n r x hs hn
  refine ⟨l, e1, e2, ?_⟩
  obtain ⟨s, a1, a2, a3, a4⟩ := Incoming_eq n r x hs hn
  rw [graph_Ancestors_1, a1, Option.bind_some, show (0 : Int) = ((0 : Nat) : Int) from rfl] at e1
  obtain ⟨b1, b2, b3⟩ := stepsAncestors_loopC r s (by omega) (fun j hj => by obtain ⟨k, c, e1, e2, _⟩ := a3 j hj; exact ⟨k, c, e1, e2⟩) n 0 [] l (by omega) e1
  intro y
  constructor
  · intro hy
    rcases b3 y hy with g | ⟨k, c, hk, hc, rfl⟩
    · cases g
    · obtain ⟨k', c', q1, q2, q3⟩ := a3 _ hk
      have : k' = k := by omega
      subst this; rw [hc] at q2; cases q2
      exact ⟨c, List.mem_of_getElem? hc, q3, rfl⟩
  · rintro ⟨c, hc, h1, rfl⟩
    obtain ⟨k, hk⟩ := List.getElem?_of_mem hc
    exact b2 k c (by simpa using a4 k c hk h1) hk
inductive RchAncestors (cs : List ApiContact) (s : Str) : Str → Prop
  | refl : RchAncestors cs s s
  | step {c : ApiContact} (h1 : c ∈ cs) (h : RchAncestors cs s c.To) : RchAncestors cs s c.From
theorem RchAncestors.trans {cs : List ApiContact} {a b x : Str} (h : RchAncestors cs a b) (k : RchAncestors cs b x) : RchAncestors cs a x := by
  induction k with
  | refl => exact h
  | step h1 _ ih => exact .step h1 ih
structure VisAncestors (cs : List ApiContact) (m m' : List (Str × Bool)) : Prop where
  mono : ∀ y, hasM m y = true → hasM m' y = true
  closed : ∀ y, hasM m' y = true → hasM m y = false → ∀ c ∈ cs, c.To = y → hasM m' c.From = true
theorem VisAncestors.trans {cs : List ApiContact} {m m1 m2 : List (Str × Bool)} (h : VisAncestors cs m m1) (k : VisAncestors cs m1 m2) : VisAncestors cs m m2 := by
  refine ⟨fun y hy => k.mono y (h.mono y hy), fun y hy hn c hc he => ?_⟩
  cases h1 : hasM m1 y with
  | true => exact k.mono _ (h.closed y h1 hn c hc he)
  | false => exact k.closed y hy h1 c hc he
theorem visitAncestors_loopC (r : ApiRung) (s : List Str) (slf : Str → List (Str × Bool) → ApiRung → Option (List (Str × Bool))) (hs : s.length ≤ 1000000)
    (hf : ∀ x ∈ s, ∀ m m', slf x m r = some m' → VisAncestors r.Contacts m m' ∧ hasM m' x = true ∧ ∀ y, hasM m' y = true → hasM m y = true ∨ RchAncestors r.Contacts x y) : ∀ (q i : Nat) (m m' : List (Str × Bool)), i ≤ s.length →
    graph_gather_1_c103_127_L1 r s slf q m (i : Int) = some m' → VisAncestors r.Contacts m m' ∧ (∀ x ∈ s.drop i, hasM m' x = true) ∧ ∀ y, hasM m' y = true → hasM m y = true ∨ ∃ x ∈ s, RchAncestors r.Contacts x y
  | 0, i, m, m', _, h => by rw [graph_gather_1_c103_127_L1] at h; cases h
  | q + 1, i, m, m', hi0, h => by
    rw [graph_gather_1_c103_127_L1] at h
    by_cases hi : i < s.length
    · obtain ⟨x, hx⟩ := get_ex hi
      rw [if_pos (by simpa using hi), atI_nat, hx, Option.bind_some, wrapN (by omega)] at h
      obtain ⟨m1, h1, h⟩ := Option.bind_eq_some_iff.1 h
      obtain ⟨v1, v2, v3⟩ := hf x (List.mem_of_getElem? hx) m m1 h1
      obtain ⟨w1, w2, w3⟩ := visitAncestors_loopC r s slf hs hf q (i + 1) m1 m' (by omega) h
      refine ⟨v1.trans w1, ?_, fun y hy => ?_⟩
      · rw [drop_cons hx]
        intro y hy
        rcases List.mem_cons.1 hy with rfl | hy
        · exact w1.mono _ v2
        · exact w2 y hy
      · rcases w3 y hy with g | g
        · rcases v3 y g with g | g
          · exact .inl g
          · exact .inr ⟨x, List.mem_of_getElem? hx, g⟩
        · exact .inr g
    · rw [if_neg (by simpa using hi)] at h
      cases h
      refine ⟨⟨fun _ h => h, fun y h1 h2 => by rw [h1] at h2; cases h2⟩, ?_, fun _ h => .inl h⟩
      rw [List.drop_eq_nil_of_le (by omega)]
      intro x hx; cases hx
theorem visitAncestorsC (r : ApiRung) (hs : r.Contacts.length ≤ 1000000) : ∀ (n : Nat) (x : Str) (m m' : List (Str × Bool)), graph_gather_1_c103_127 n x m r = some m' →
    VisAncestors r.Contacts m m' ∧ hasM m' x = true ∧ ∀ y, hasM m' y = true → hasM m y = true ∨ RchAncestors r.Contacts x y
  | 0, x, m, m', h => by rw [graph_gather_1_c103_127] at h; cases h
  | n + 1, x, m, m', h => by
    rw [graph_gather_1_c103_127] at h
    cases hh : hasM m x with
    | true =>
      have hh' : (mGet m x).getD false = true := hh
      rw [hh', if_pos rfl] at h
      cases h
      exact ⟨⟨fun _ h => h, fun y h1 h2 => by rw [h1] at h2; cases h2⟩, hh, fun _ h => .inl h⟩
    | false =>
      have hh' : (mGet m x).getD false = false := hh
      rw [hh', if_neg (by simp)] at h
      obtain ⟨l, h1, h⟩ := Option.bind_eq_some_iff.1 h
      rw [show (0 : Int) = ((0 : Nat) : Int) from rfl] at h
      by_cases hnn : r.Contacts.length < n
      · obtain ⟨l', a1, a2, a3⟩ := stepsAncestorsC n r x hs hnn
        rw [a1] at h1; cases h1
        obtain ⟨w1, w2, w3⟩ := visitAncestors_loopC r l (graph_gather_1_c103_127 n) (by omega) (fun y hy m1 m2 hm => visitAncestorsC r hs n y m1 m2 hm) n 0 (mPut m x true) m' (by omega) h
        refine ⟨⟨fun y hy => w1.mono y (by rw [hasM_put, hy]; simp), fun y hy hn c hc he => ?_⟩, w1.mono x (by rw [hasM_put]; simp), fun y hy => ?_⟩
        · cases h2 : hasM (mPut m x true) y with
          | true =>
            rw [hasM_put, hn] at h2
            have : y = x := by simpa using h2
            subst this
            exact w2 _ (by rw [List.drop_zero]; exact (a3 _).2 ⟨c, hc, he, rfl⟩)
          | false => exact w1.closed y hy h2 c hc he
        · rcases w3 y hy with g | ⟨z, hz, g⟩
          · rw [hasM_put, Bool.or_eq_true, decide_eq_true_eq] at g
            rcases g with rfl | g
            · exact .inr .refl
            · exact .inl g
          · obtain ⟨c, hc, h1, rfl⟩ := (a3 z).1 hz
            have : RchAncestors r.Contacts x c.From := .step hc (by rw [h1]; exact .refl)
            exact .inr (this.trans g)
      · exfalso
        obtain ⟨s, a1, a2⟩ := Option.bind_eq_some_iff.1 (show (graph_Incoming n r x).bind (fun s => graph_Ancestors_1_L1 r s n 0 []) = some l from h1)
        exact hnn (Incoming_small n r x s hs a1)
section
variable (n : Nat) (m2 : List (Str × Bool))
theorem delSeen_idxC (l : List Str) (hl : l.length ≤ 100000000) (p : Str → Bool) (hp : ∀ x, graph_gather_2 n x m2 = some (p x)) : ∀ (q i : Nat) (t : Int), i ≤ l.length → slices_IndexFunc_string_c128_v1_L1 n l m2 q (i : Int) = some t → (t = -1 ∧ ∀ x ∈ l.drop i, p x = false) ∨ ∃ k : Nat, t = (k : Int) ∧ i ≤ k ∧ k < l.length ∧ (∃ x, l[k]? = some x ∧ p x = true) ∧ ∀ x ∈ (l.drop i).take (k - i), p x = false
  | 0, i, t, _, h => by rw [slices_IndexFunc_string_c128_v1_L1] at h; cases h
  | q + 1, i, t, hi0, h => by
    rw [slices_IndexFunc_string_c128_v1_L1] at h
    by_cases hi : i < l.length
    · obtain ⟨x, hx⟩ := get_ex hi
      rw [if_pos (by simpa using hi), atI_nat, hx, Option.bind_some, hp, Option.bind_some, wrapN (by omega)] at h
      cases hb : p x with
      | true =>
        rw [hb, if_pos rfl] at h
        cases h
        exact .inr ⟨i, rfl, Nat.le_refl _, hi, ⟨x, hx, hb⟩, by simp⟩
      | false =>
        rw [hb, if_neg (by simp)] at h
        rw [drop_cons hx]
        rcases delSeen_idxC l hl p hp q (i + 1) t (by omega) h with ⟨e, g⟩ | ⟨k, e, k1, k2, k3, k4⟩
        · refine .inl ⟨e, fun y hy => ?_⟩
          rcases List.mem_cons.1 hy with rfl | hy
          · exact hb
          · exact g y hy
        · refine .inr ⟨k, e, by omega, k2, k3, fun y hy => ?_⟩
          rw [show k - i = (k - (i + 1)) + 1 by omega, List.take_succ_cons] at hy
          rcases List.mem_cons.1 hy with rfl | hy
          · exact hb
          · exact k4 y hy
    · rw [if_neg (by simpa using hi)] at h
      cases h
      refine .inl ⟨rfl, ?_⟩
      rw [List.drop_eq_nil_of_le (by omega)]
      intro x hx; cases hx
theorem delSeen_loopC (l0 : List Str) (hl : l0.length ≤ 100000000) (p : Str → Bool) (hp : ∀ x, graph_gather_2 n x m2 = some (p x)) : ∀ (q j i : Nat) (l l' : List Str), l.length = l0.length → i ≤ j → j ≤ l0.length → l.drop j = l0.drop j → l.take i = (l0.take j).filter (fun x => !p x) →
    slices_DeleteFunc_string_c128_v1_L1 n m2 q l (i : Int) (j : Int) = some l' → l' = l0.filter (fun x => !p x)
  | 0, j, i, l, l', _, _, _, _, _, h => by rw [slices_DeleteFunc_string_c128_v1_L1] at h; cases h
  | q + 1, j, i, l, l', hll, hij, hj, hd, ht, h => by
    rw [slices_DeleteFunc_string_c128_v1_L1] at h
    by_cases hk : j < l.length
    · obtain ⟨x, hx⟩ := get_ex hk
      obtain ⟨y, hy⟩ := get_ex (l := l) (i := i) (by omega)
      have hx0 : l0[j]? = some x := by
        have e1 : (l.drop j)[0]? = l[j]? := by simp
        have e2 : (l0.drop j)[0]? = l0[j]? := by simp
        rw [← e2, ← hd, e1]; exact hx
      have hd1 : l.drop (j + 1) = l0.drop (j + 1) := by
        have := congrArg List.tail hd
        simpa [List.tail_drop] using this
      have ht1 : l0.take (j + 1) = l0.take j ++ [x] := by rw [List.take_add_one, hx0]; rfl
      rw [if_pos (by simpa using hk), atI_nat, hx, Option.bind_some, hp, Option.bind_some] at h
      cases hb : p x with
      | true =>
        rw [hb, if_neg (by simp), wrapN (by omega)] at h
        refine delSeen_loopC l0 hl p hp q (j + 1) i l l' hll (by omega) (by omega) hd1 ?_ h
        rw [ht1, List.filter_append, ht]; simp [hb]
      | false =>
        rw [hb, if_pos (by simp), atI_nat, hy, Option.bind_some, Option.bind_some, wrapN (by omega), wrapN (by omega), Int.toNat_natCast] at h
        refine delSeen_loopC l0 hl p hp q (j + 1) (i + 1) _ l' (by rw [List.length_set]; exact hll) (by omega) (by omega) ?_ ?_ h
        · rw [List.drop_set_of_lt (by omega)]; exact hd1
        · rw [ht1, List.filter_append, ← ht, List.take_add_one, List.take_set_of_le (Nat.le_refl _), List.getElem?_set_self (by omega)]; simp [hb]
    · have hje : j = l0.length := by omega
      rw [if_neg (by simpa using hk), Int.toNat_natCast, if_pos (by omega), if_pos (by omega), if_pos (by omega)] at h
      cases h
      rw [ht, hje, List.take_length]
theorem delSeen_exact (l l' : List Str) (hl : l.length ≤ 100000000) (p : Str → Bool) (hp : ∀ x, graph_gather_2 n x m2 = some (p x)) (h : slices_DeleteFunc_string_c128_v1 n l m2 = some l') : l' = l.filter (fun x => !p x) := by
  rw [slices_DeleteFunc_string_c128_v1] at h
  obtain ⟨t, h1, h⟩ := Option.bind_eq_some_iff.1 h
  rw [slices_IndexFunc_string_c128_v1, show (0 : Int) = ((0 : Nat) : Int) from rfl] at h1
  rcases delSeen_idxC n m2 l hl p hp n 0 t (by omega) h1 with ⟨rfl, g⟩ | ⟨k, rfl, k1, k2, ⟨x, hx, hpx⟩, k4⟩
  · rw [if_pos (by decide)] at h
    cases h
    rw [List.drop_zero] at g
    rw [List.filter_eq_self.2]
    intro a ha; simp [g a ha]
  · rw [if_neg (by simp), wrapN (by omega)] at h
    refine delSeen_loopC n m2 l hl p hp n (k + 1) k l l' rfl (by omega) (by omega) rfl ?_ h
    rw [List.drop_zero, Nat.sub_zero] at k4
    rw [List.take_add_one, hx, List.filter_append]
    have : (l.take k).filter (fun x => !p x) = l.take k := List.filter_eq_self.2 fun a ha => by simp [k4 a ha]
    rw [this]; simp [hpx]
end
section
variable (n : Nat) (b1 b2 : List Str)
theorem delDead_idxC (l : List Str) (hl : l.length ≤ 100000000) (p : Str → Bool) (hp : ∀ x, flow_DeadNodes_1 n x b1 b2 = some (p x)) : ∀ (q i : Nat) (t : Int), i ≤ l.length → slices_IndexFunc_string_c80_v1_L1 n l b1 b2 q (i : Int) = some t → (t = -1 ∧ ∀ x ∈ l.drop i, p x = false) ∨ ∃ k : Nat, t = (k : Int) ∧ i ≤ k ∧ k < l.length ∧ (∃ x, l[k]? = some x ∧ p x = true) ∧ ∀ x ∈ (l.drop i).take (k - i), p x = false
  | 0, i, t, _, h => by rw [slices_IndexFunc_string_c80_v1_L1] at h; cases h
  | q + 1, i, t, hi0, h => by
    rw [slices_IndexFunc_string_c80_v1_L1] at h
    by_cases hi : i < l.length
    · obtain ⟨x, hx⟩ := get_ex hi
      rw [if_pos (by simpa using hi), atI_nat, hx, Option.bind_some, hp, Option.bind_some, wrapN (by omega)] at h
      cases hb : p x with
      | true =>
        rw [hb, if_pos rfl] at h
        cases h
        exact .inr ⟨i, rfl, Nat.le_refl _, hi, ⟨x, hx, hb⟩, by simp⟩
      | false =>
        rw [hb, if_neg (by simp)] at h
        rw [drop_cons hx]
        rcases delDead_idxC l hl p hp q (i + 1) t (by omega) h with ⟨e, g⟩ | ⟨k, e, k1, k2, k3, k4⟩
        · refine .inl ⟨e, fun y hy => ?_⟩
          rcases List.mem_cons.1 hy with rfl | hy
          · exact hb
          · exact g y hy
        · refine .inr ⟨k, e, by omega, k2, k3, fun y hy => ?_⟩
          rw [show k - i = (k - (i + 1)) + 1 by omega, List.take_succ_cons] at hy
          rcases List.mem_cons.1 hy with rfl | hy
          · exact hb
          · exact k4 y hy
    · rw [if_neg (by simpa using hi)] at h
      cases h
      refine .inl ⟨rfl, ?_⟩
      rw [List.drop_eq_nil_of_le (by omega)]
      intro x hx; cases hx
theorem delDead_loopC (l0 : List Str) (hl : l0.length ≤ 100000000) (p : Str → Bool) (hp : ∀ x, flow_DeadNodes_1 n x b1 b2 = some (p x)) : ∀ (q j i : Nat) (l l' : List Str), l.length = l0.length → i ≤ j → j ≤ l0.length → l.drop j = l0.drop j → l.take i = (l0.take j).filter (fun x => !p x) →
    slices_DeleteFunc_string_c80_L1 n b1 b2 q l (i : Int) (j : Int) = some l' → l' = l0.filter (fun x => !p x)
  | 0, j, i, l, l', _, _, _, _, _, h => by rw [slices_DeleteFunc_string_c80_L1] at h; cases h
  | q + 1, j, i, l, l', hll, hij, hj, hd, ht, h => by
    rw [slices_DeleteFunc_string_c80_L1] at h
    by_cases hk : j < l.length
    · obtain ⟨x, hx⟩ := get_ex hk
      obtain ⟨y, hy⟩ := get_ex (l := l) (i := i) (by omega)
      have hx0 : l0[j]? = some x := by
        have e1 : (l.drop j)[0]? = l[j]? := by simp
        have e2 : (l0.drop j)[0]? = l0[j]? := by simp
        rw [← e2, ← hd, e1]; exact hx
      have hd1 : l.drop (j + 1) = l0.drop (j + 1) := by
        have := congrArg List.tail hd
        simpa [List.tail_drop] using this
      have ht1 : l0.take (j + 1) = l0.take j ++ [x] := by rw [List.take_add_one, hx0]; rfl
      rw [if_pos (by simpa using hk), atI_nat, hx, Option.bind_some, hp, Option.bind_some] at h
      cases hb : p x with
      | true =>
        rw [hb, if_neg (by simp), wrapN (by omega)] at h
        refine delDead_loopC l0 hl p hp q (j + 1) i l l' hll (by omega) (by omega) hd1 ?_ h
        rw [ht1, List.filter_append, ht]; simp [hb]
      | false =>
        rw [hb, if_pos (by simp), atI_nat, hy, Option.bind_some, Option.bind_some, wrapN (by omega), wrapN (by omega), Int.toNat_natCast] at h
        refine delDead_loopC l0 hl p hp q (j + 1) (i + 1) _ l' (by rw [List.length_set]; exact hll) (by omega) (by omega) ?_ ?_ h
        · rw [List.drop_set_of_lt (by omega)]; exact hd1
        · rw [ht1, List.filter_append, ← ht, List.take_add_one, List.take_set_of_le (Nat.le_refl _), List.getElem?_set_self (by omega)]; simp [hb]
    · have hje : j = l0.length := by omega
      rw [if_neg (by simpa using hk), Int.toNat_natCast, if_pos (by omega), if_pos (by omega), if_pos (by omega)] at h
      cases h
      rw [ht, hje, List.take_length]
theorem delDead_exact (l l' : List Str) (hl : l.length ≤ 100000000) (p : Str → Bool) (hp : ∀ x, flow_DeadNodes_1 n x b1 b2 = some (p x)) (h : slices_DeleteFunc_string_c80 n l b1 b2 = some l') : l' = l.filter (fun x => !p x) := by
  rw [slices_DeleteFunc_string_c80] at h
  obtain ⟨t, h1, h⟩ := Option.bind_eq_some_iff.1 h
  rw [slices_IndexFunc_string_c80_v1, show (0 : Int) = ((0 : Nat) : Int) from rfl] at h1
  rcases delDead_idxC n b1 b2 l hl p hp n 0 t (by omega) h1 with ⟨rfl, g⟩ | ⟨k, rfl, k1, k2, ⟨x, hx, hpx⟩, k4⟩
  · rw [if_pos (by decide)] at h
    cases h
    rw [List.drop_zero] at g
    rw [List.filter_eq_self.2]
    intro a ha; simp [g a ha]
  · rw [if_neg (by simp), wrapN (by omega)] at h
    refine delDead_loopC n b1 b2 l hl p hp n (k + 1) k l l' rfl (by omega) (by omega) rfl ?_ h
    rw [List.drop_zero, Nat.sub_zero] at k4
    rw [List.take_add_one, hx, List.filter_append]
    have : (l.take k).filter (fun x => !p x) = l.take k := List.filter_eq_self.2 fun a ha => by simp [k4 a ha]
    rw [this]; simp [hpx]
end
theorem Reachable_exact (n : Nat) (r : ApiRung) (hs : r.Contacts.length ≤ 1000000) (hn : 4 * r.Contacts.length + 20 ≤ n) : ∃ l, graph_Reachable n r (⟨#[76]⟩ : Str) = some l ∧ l.length ≤ 2 + 2 * r.Contacts.length ∧ ∀ x, x ∈ l ↔ IsNode r.Contacts x ∧ RchReachable r.Contacts (⟨#[76]⟩ : Str) x := by
  obtain ⟨l, e1, e2⟩ := Reachable_ex n r hs hn
  refine ⟨l, e1, e2, ?_⟩
  obtain ⟨ns, a1, a2, a3⟩ := nodes_exact n r (by omega) hs
  have hlen := a2.len
  have hmem : (⟨#[76]⟩ : Str) ∈ ns := a2.L
  rw [graph_Reachable, graph_gather_c101, a1, Option.bind_some, containsS_eq n ns _ (by omega) (by omega), Option.bind_some, if_neg (by simp [hmem])] at e1
  obtain ⟨l2, e1, h3⟩ := Option.bind_eq_some_iff.1 e1
  cases h3
  obtain ⟨m, h1, e1⟩ := Option.bind_eq_some_iff.1 e1
  obtain ⟨l3, e1, h3⟩ := Option.bind_eq_some_iff.1 e1
  cases h3
  obtain ⟨v1, v2, v3⟩ := visitReachableC r hs n _ [] m h1
  have hf := delSeen_exact n m ns l (by omega) (fun x => !(hasM m x)) (fun x => rfl) e1
  have hiff : ∀ x, hasM m x = true ↔ RchReachable r.Contacts (⟨#[76]⟩ : Str) x := fun x => by
    constructor
    · intro h
      rcases v3 x h with g | g
      · cases g
      · exact g
    · intro h
      induction h with
      | refl => exact v2
      | step h1 _ ih => exact v1.closed _ ih rfl _ h1 rfl
  intro x
  rw [hf, List.mem_filter, a3, ← hiff]
  simp
theorem Ancestors_exact (n : Nat) (r : ApiRung) (hs : r.Contacts.length ≤ 1000000) (hn : 4 * r.Contacts.length + 20 ≤ n) : ∃ l, graph_Ancestors n r (⟨#[82]⟩ : Str) = some l ∧ l.length ≤ 2 + 2 * r.Contacts.length ∧ ∀ x, x ∈ l ↔ IsNode r.Contacts x ∧ RchAncestors r.Contacts (⟨#[82]⟩ : Str) x := by
  obtain ⟨l, e1, e2⟩ := Ancestors_ex n r hs hn
  refine ⟨l, e1, e2, ?_⟩
  obtain ⟨ns, a1, a2, a3⟩ := nodes_exact n r (by omega) hs
  have hlen := a2.len
  have hmem : (⟨#[82]⟩ : Str) ∈ ns := a2.R
  rw [graph_Ancestors, graph_gather_c103, a1, Option.bind_some, containsS_eq n ns _ (by omega) (by omega), Option.bind_some, if_neg (by simp [hmem])] at e1
  obtain ⟨l2, e1, h3⟩ := Option.bind_eq_some_iff.1 e1
  cases h3
  obtain ⟨m, h1, e1⟩ := Option.bind_eq_some_iff.1 e1
  obtain ⟨l3, e1, h3⟩ := Option.bind_eq_some_iff.1 e1
  cases h3
  obtain ⟨v1, v2, v3⟩ := visitAncestorsC r hs n _ [] m h1
  have hf := delSeen_exact n m ns l (by omega) (fun x => !(hasM m x)) (fun x => rfl) e1
  have hiff : ∀ x, hasM m x = true ↔ RchAncestors r.Contacts (⟨#[82]⟩ : Str) x := fun x => by
    constructor
    · intro h
      rcases v3 x h with g | g
      · cases g
      · exact g
    · intro h
      induction h with
      | refl => exact v2
      | step h1 _ ih => exact v1.closed _ ih rfl _ h1 rfl
  intro x
  rw [hf, List.mem_filter, a3, ← hiff]
  simp
open Classical in
noncomputable def flowS (cs : List ApiContact) : Int :=
  if cs = [] then 4 else if ¬ Acyc cs then 12 else if ∃ x, IsNode cs x ∧ ¬ (RchReachable cs strLL x ∧ RchAncestors cs strRR x) then 13 else 0
theorem flow_exact (n : Nat) (r : ApiRung) (hs : r.Contacts.length ≤ 1000000) (hn : 4 * r.Contacts.length + 20 ≤ n) : flow_Check n r = some (flowS r.Contacts) := by
  rw [flow_Check]
  by_cases h0 : r.Contacts = []
  · rw [flowS, if_pos h0, if_pos (by simp [h0])]
  rw [flowS, if_neg h0, if_neg (by simpa using h0)]
  obtain ⟨s, e, a1, a2⟩ := TopoSort_exact n r hs (by omega)
  have hcode : e = 0 ∨ e = 12 := by
    have a1' := a1
    rw [graph_TopoSort] at a1'
    obtain ⟨ns, _, h⟩ := Option.bind_eq_some_iff.1 a1'
    exact topo_code n r n ns [] [] s e h
  rw [a1, Option.bind_some]
  dsimp only
  by_cases he : e = 0
  · rw [if_neg (by simpa using he), if_neg (fun h => h (a2.1 he))]
    obtain ⟨l1, b1, b1', b1''⟩ := Reachable_exact n r hs hn
    obtain ⟨l2, b2, b2', b2''⟩ := Ancestors_exact n r hs hn
    obtain ⟨ns, c1, c2, c3⟩ := nodes_exact n r (by omega) hs
    have hlen := c2.len
    have hp : ∀ x, flow_DeadNodes_1 n x l1 l2 = some (decide (x ∈ l1) && decide (x ∈ l2)) := fun x => by
      rw [flow_DeadNodes_1, containsS_eq n l1 x (by omega) (by omega), Option.bind_some]
      by_cases h : x ∈ l1
      · rw [if_pos (by simpa using h), containsS_eq n l2 x (by omega) (by omega), Option.bind_some]; simp [h]
      · rw [if_neg (by simpa using h)]; simp [h]
    obtain ⟨l, d1, _⟩ := delDead_eq n l1 l2 ns (by omega) (by omega) (fun x => ⟨_, hp x⟩)
    have hf := delDead_exact n l1 l2 ns l (by omega) _ hp d1
    rw [flow_DeadNodes, b1, Option.bind_some, b2, Option.bind_some, c1, Option.bind_some, d1, Option.bind_some, Option.bind_some]
    have hiff : (0 < l.length) ↔ ∃ x, IsNode r.Contacts x ∧ ¬ (RchReachable r.Contacts strLL x ∧ RchAncestors r.Contacts strRR x) := by
      constructor
      · intro h
        obtain ⟨x, hx⟩ := List.exists_mem_of_length_pos h
        rw [hf, List.mem_filter, c3] at hx
        refine ⟨x, hx.1, fun ⟨q1, q2⟩ => ?_⟩
        have := hx.2
        simp [(b1'' x).2 ⟨hx.1, q1⟩, (b2'' x).2 ⟨hx.1, q2⟩] at this
      · rintro ⟨x, h1, h2⟩
        refine List.length_pos_of_mem (a := x) ?_
        rw [hf, List.mem_filter, c3]
        refine ⟨h1, ?_⟩
        by_cases q1 : x ∈ l1
        · by_cases q2 : x ∈ l2
          · exact absurd ⟨((b1'' x).1 q1).2, ((b2'' x).1 q2).2⟩ h2
          · simp [q2]
        · simp [q1]
    by_cases hl : 0 < l.length
    · rw [if_pos (by simpa using hl), if_pos (hiff.1 hl)]
    · rw [if_neg (by simpa using hl), if_neg (fun h => hl (hiff.2 h))]
  · rw [if_pos (by simpa using he), if_pos (fun h => he (a2.2 h))]
    rcases hcode with h | h
    · exact absurd h he
    · rw [h]
end Go.G
namespace Go.G
open Go.Av
def cg (cs : List ApiContact) (N : Int) : ApiContact := (cs[N.toNat]?).getD default
def ig (sl : List Int) (N : Int) : Int := (sl[N.toNat]?).getD 0
def ldOp (k : Int) : Int := if k = 0 then 0 else if k = 1 then 1 else if k = 2 then 6 else 7
def jnOp (K k : Int) : Int := if K = 1 then (if k = 0 then 2 else 3) else (if k = 0 then 4 else 5)
def ppOp (K : Int) : Int := if K = 1 then 9 else 10
def seesS (c : ApiContact) : Bool := c.Kind == 2 || c.Kind == 3
theorem codegen_sees_eq (n : Nat) (c : ApiContact) : codegen_sees n c = some (seesS c) := by
  rw [codegen_sees, seesS]
  cases h : (c.Kind == 2) <;> simp
mutual
def layS (cs : List ApiContact) (sl : List Int) : TreeTree → List ApiIns
  | .mk K N ks => if K = 0 then [⟨ldOp (cg cs N).Kind, (cg cs N).A, ig sl N⟩] else layH cs sl K ks
def layH (cs : List ApiContact) (sl : List Int) (K : Int) : List TreeTree → List ApiIns
  | [] => []
  | k :: ks => layS cs sl k ++ layT cs sl K ks
def layT (cs : List ApiContact) (sl : List Int) (K : Int) : List TreeTree → List ApiIns
  | [] => []
  | k :: ks => (if k.Kind = 0 ∧ seesS (cg cs k.N) = false then [⟨jnOp K (cg cs k.N).Kind, (cg cs k.N).A, 0⟩] else ⟨8, ⟨0, 0⟩, 0⟩ :: (layS cs sl k ++ [⟨ppOp K, ⟨0, 0⟩, 0⟩])) ++ layT cs sl K ks
end
theorem layT_len (cs : List ApiContact) (sl : List Int) (K : Int) : ∀ ks : List TreeTree, (∀ k ∈ ks, (layS cs sl k).length + 2 ≤ 3 * szT k) → (layT cs sl K ks).length ≤ 3 * szL ks
  | [], _ => by simp [layT]
  | k :: ks, h => by
    have h1 := h k (by simp)
    have h2 := layT_len cs sl K ks fun k hk => h k (by simp [hk])
    have h3 := szT_pos k
    rw [layT, szL, List.length_append]
    split
    · simp only [List.length_singleton]; omega
    · simp only [List.length_cons, List.length_append, List.length_nil]; omega
theorem layS_len (cs : List ApiContact) (sl : List Int) : ∀ t : TreeTree, (layS cs sl t).length + 2 ≤ 3 * szT t := by
  intro t
  induction t using tree_ind with
  | h K N ks ih =>
    rw [layS, szT]
    split
    · simp only [List.length_singleton]; omega
    · cases ks with
      | nil => simp [layH, szL]
      | cons k ks =>
        have h1 := ih k (by simp)
        have h2 := layT_len cs sl K ks fun k hk => ih k (by simp [hk])
        rw [layH, List.length_append, szL]
        omega
theorem put_eq (n : Nat) (x : ApiIns) (b0 : Str) (cs : List ApiContact) (b2 : List ApiCoil) (b3 : Str) (sl : List Int) (code : List ApiIns) (h : code.length + 1 ≤ 1000000000) :
    codegen_maker_put_v1 n x b0 cs b2 b3 sl code = some (code ++ [x]) := by
  rw [codegen_maker_put_v1, if_pos (by simpa using h)]; rfl
theorem cg_at {cs : List ApiContact} {N : Int} (h0 : 0 ≤ N) (h : N < cs.length) : atI cs N = some (cg cs N) := by
  obtain ⟨m, rfl⟩ := Int.eq_ofNat_of_zero_le h0
  have hm : m < cs.length := by omega
  rw [atI_nat, cg, Int.toNat_natCast, List.getElem?_eq_getElem hm]; rfl
theorem ig_at {sl : List Int} {N : Int} (h0 : 0 ≤ N) (h : N < sl.length) : atI sl N = some (ig sl N) := by
  obtain ⟨m, rfl⟩ := Int.eq_ofNat_of_zero_le h0
  have hm : m < sl.length := by omega
  rw [atI_nat, ig, Int.toNat_natCast, List.getElem?_eq_getElem hm]; rfl
def KindsOk (cs : List ApiContact) : Prop := ∀ c ∈ cs, 0 ≤ c.Kind ∧ c.Kind < 4
theorem KindsOk.cg {cs : List ApiContact} (h : KindsOk cs) {N : Int} (h0 : 0 ≤ N) (h1 : N < cs.length) : 0 ≤ (cg cs N).Kind ∧ (cg cs N).Kind < 4 := by
  obtain ⟨m, rfl⟩ := Int.eq_ofNat_of_zero_le h0
  have hm : m < cs.length := by omega
  have e : Go.G.cg cs (m : Int) = cs[m] := by rw [Go.G.cg, Int.toNat_natCast, List.getElem?_eq_getElem hm]; rfl
  rw [e]; exact h _ (List.getElem_mem hm)
theorem Ok_leaf {len : Int} {k : TreeTree} (hk : Ok len k) (h0 : k.Kind = 0) : 0 ≤ k.N ∧ k.N < len := by
  obtain ⟨K, N, ks⟩ := k
  rw [TreeTree_Kind_mk] at h0
  subst h0
  rw [Ok] at hk
  rcases hk with ⟨_, _, h⟩ | ⟨h | h, _⟩
  · exact h
  · omega
  · omega
section
variable {cs : List ApiContact} {sl : List Int} (hk : KindsOk cs) (hsl : sl.length = cs.length) (b0 : Str) (b2 : List ApiCoil) (b3 : Str)
include hk hsl
theorem lay_loop (n : Nat) (t : TreeTree) (hK : t.Kind = 1 ∨ t.Kind = 2) (ks : List TreeTree) (hs : ks.length ≤ 1000000000) (hOk : ∀ k ∈ ks, Ok cs.length k)
    (slf : TreeTree → Str → List ApiContact → List ApiCoil → Str → List Int → List ApiIns → Option (List ApiIns))
    (hf : ∀ k ∈ ks, ∀ code : List ApiIns, code.length + 3 * szT k ≤ 1000000002 → slf k b0 cs b2 b3 sl code = some (code ++ layS cs sl k)) :
    ∀ (m i : Nat) (code : List ApiIns), i ≤ ks.length → ks.length - i < m → code.length + 3 * szL (ks.drop i) ≤ 1000000000 →
    codegen_maker_lay_v1_L1 n t b0 cs b2 b3 sl ks slf m code (i : Int) = some (code ++ layT cs sl t.Kind (ks.drop i))
  | 0, i, code, h, hm, _ => absurd hm (Nat.not_lt_zero _)
  | m + 1, i, code, h, hm, hc => by
    rw [codegen_maker_lay_v1_L1]
    by_cases hi : i < ks.length
    · obtain ⟨x, hx⟩ := get_ex hi
      have hmem := List.mem_of_getElem? hx
      rw [drop_cons hx, szL] at hc
      have hp := szT_pos x
      have hlx := layS_len cs sl x
      have ih := fun code' (h' : code'.length + 3 * szL (ks.drop (i + 1)) ≤ 1000000000) => lay_loop n t hK ks hs hOk slf hf m (i + 1) code' (by omega) (by omega) h'
      rw [if_pos (by simpa using hi), atI_nat, hx, Option.bind_some, drop_cons hx, layT]
      have hpush : codegen_maker_lay_v1_J2 n t b0 cs b2 b3 sl code (i : Int) (codegen_maker_lay_v1_L1 n t b0 cs b2 b3 sl ks slf m) x slf
          = some (code ++ ((⟨8, ⟨0, 0⟩, 0⟩ :: (layS cs sl x ++ [⟨ppOp t.Kind, ⟨0, 0⟩, 0⟩])) ++ layT cs sl t.Kind (ks.drop (i + 1)))) := by
        rw [codegen_maker_lay_v1_J2, put_eq _ _ _ _ _ _ _ _ (by omega), Option.bind_some, hf x hmem _ (by simp; omega), Option.bind_some, wrapN (by omega)]
        have h0 : ¬ t.Kind = 0 := by omega
        rw [if_neg h0]
        rcases hK with hK | hK
        · rw [if_pos hK, put_eq _ _ _ _ _ _ _ _ (by simp; omega), Option.bind_some, ih _ (by simp; omega)]
          simp [ppOp, hK]
        · rw [if_neg (by omega), if_pos hK, put_eq _ _ _ _ _ _ _ _ (by simp; omega), Option.bind_some, ih _ (by simp; omega)]
          simp [ppOp, hK]
      by_cases hk0 : x.Kind = 0
      · obtain ⟨n0, n1⟩ := Ok_leaf (hOk x hmem) hk0
        rw [if_pos (by simpa using hk0), cg_at n0 n1, Option.bind_some, codegen_sees_eq, Option.bind_some]
        obtain ⟨c0, c1⟩ := hk.cg n0 n1
        cases hse : seesS (cg cs x.N) with
        | true =>
          rw [if_neg (show ¬ (!true) = true by simp), if_neg (show ¬ (x.Kind = 0 ∧ true = false) by simp)]
          exact hpush
        | false =>
          rw [if_pos (show (!false) = true from rfl), if_pos (show x.Kind = 0 ∧ false = false from ⟨hk0, rfl⟩)]
          have hkd : (cg cs x.N).Kind = 0 ∨ (cg cs x.N).Kind = 1 := by
            simp only [seesS, Bool.or_eq_false_iff, beq_eq_false_iff_ne] at hse
            omega
          have h0 : ¬ t.Kind = 0 := by omega
          rw [if_neg h0, wrapN (by omega)]
          rcases hK with hK | hK <;> rcases hkd with hkd | hkd
          · rw [if_pos hK, if_pos hkd, put_eq _ _ _ _ _ _ _ _ (by omega), Option.bind_some, ih _ (by simp; omega)]
            simp [jnOp, hK, hkd]
          · rw [if_pos hK, if_neg (by omega), if_pos hkd, put_eq _ _ _ _ _ _ _ _ (by omega), Option.bind_some, ih _ (by simp; omega)]
            simp [jnOp, hK, hkd]
          · rw [if_neg (by omega), if_pos hK, if_pos hkd, put_eq _ _ _ _ _ _ _ _ (by omega), Option.bind_some, ih _ (by simp; omega)]
            simp [jnOp, hK, hkd]
          · rw [if_neg (by omega), if_pos hK, if_neg (by omega), if_pos hkd, put_eq _ _ _ _ _ _ _ _ (by omega), Option.bind_some, ih _ (by simp; omega)]
            simp [jnOp, hK, hkd]
      · rw [if_neg (by simpa using hk0), if_neg (fun q => hk0 q.1)]
        exact hpush
    · rw [if_neg (by simpa using hi), List.drop_eq_nil_of_le (by omega), layT, List.append_nil]
theorem lay_eq : ∀ (t : TreeTree) (n : Nat) (code : List ApiIns), Ok cs.length t → szT t ≤ 300000000 → code.length + 3 * szT t ≤ 1000000002 → szT t < n → codegen_maker_lay_v1 n t b0 cs b2 b3 sl code = some (code ++ layS cs sl t) := by
  intro t
  induction t using tree_ind with
  | h K N ks ih =>
    intro n code hOk hb hc hn
    obtain ⟨m, rfl, hlen, hkm⟩ := szT_kids hn
    rw [codegen_maker_lay_v1, layS]
    rw [szT] at hc hb
    rw [Ok] at hOk
    rcases hOk with ⟨rfl, rfl, n0, n1⟩ | ⟨hK, rfl, h2, hne, hks⟩
    · obtain ⟨c0, c1⟩ := hk.cg n0 n1
      rw [if_pos (show (0 : Int) = 0 from rfl), if_pos (show ((TreeTree.mk 0 N []).Kind == 0) = true from rfl)]
      simp only [TreeTree_Kind_mk, TreeTree_N_mk, TreeTree_Kids_mk]
      rw [cg_at n0 n1, Option.bind_some, ig_at n0 (by omega)]
      have hkd : (cg cs N).Kind = 0 ∨ (cg cs N).Kind = 1 ∨ (cg cs N).Kind = 2 ∨ (cg cs N).Kind = 3 := by omega
      have hl1 : code.length + 1 ≤ 1000000000 := by omega
      rcases hkd with hkd | hkd | hkd | hkd <;> simp [hkd, ldOp, put_eq _ _ _ _ _ _ _ _ hl1]
    · rw [OkL_iff] at hks
      have hK0 : ¬ K = 0 := by omega
      rw [if_neg (show ¬ ((TreeTree.mk K 0 ks).Kind == 0) = true by rw [TreeTree_Kind_mk]; simpa using hK0), if_neg hK0, TreeTree_Kids_mk]
      match ks, h2, hc, hb, hks, ih, hlen, hkm with
      | k :: ks, h2, hc, hb, hks, ih, hlen, hkm =>
        rw [szL] at hc hb
        have hlk := layS_len cs sl k
        have hll := szL_len ks
        rw [show atI (k :: ks) 0 = some k from rfl, Option.bind_some, ih k (by simp) m code (hks k (by simp)) (by omega) (by omega) (hkm k (by simp)), Option.bind_some]
        rw [if_pos (by simp; omega)]
        simp only [List.drop_succ_cons, List.drop_zero, Option.bind_some]
        have := lay_loop hk hsl b0 b2 b3 m (.mk K 0 (k :: ks)) hK ks (by omega) (fun j hj => hks j (by simp [hj])) (codegen_maker_lay_v1 m)
          (fun j hj code' h' => ih j (by simp [hj]) m code' (hks j (by simp [hj])) (by have := szL_mem hj; omega) h' (hkm j (by simp [hj]))) m 0 (code ++ layS cs sl k) (by omega) (by simp at hlen; omega) (by simp; omega)
        rw [show ((0 : Nat) : Int) = 0 from rfl, List.drop_zero] at this
        rw [this, layH, List.append_assoc]
        rfl
end
def slotsS : List ApiContact → Int → List Int
  | [], _ => []
  | c :: cs, s => if seesS c then s :: slotsS cs (s + 1) else 0 :: slotsS cs s
theorem slotsS_len : ∀ (cs : List ApiContact) (s : Int), (slotsS cs s).length = cs.length
  | [], _ => rfl
  | c :: cs, s => by rw [slotsS]; split <;> simp [slotsS_len]
theorem slots_loop (n : Nat) (r : ApiRung) (t : TreeTree) (hs : r.Contacts.length ≤ 1000000) : ∀ (m i : Nat) (s : Int) (pre : List Int), i ≤ r.Contacts.length → r.Contacts.length - i < m → pre.length = i → 0 ≤ s → s + (r.Contacts.length - i : Nat) ≤ 100000000 →
    codegen_Tree_L2 n r t m s (i : Int) (pre ++ List.replicate (r.Contacts.length - i) 0) = codegen_Tree_J1 n r t (pre ++ slotsS (r.Contacts.drop i) s)
  | 0, i, s, pre, h, hm, _, _, _ => absurd hm (Nat.not_lt_zero _)
  | m + 1, i, s, pre, h, hm, hp, h0, h1 => by
    rw [codegen_Tree_L2]
    by_cases hi : i < r.Contacts.length
    · obtain ⟨x, hx⟩ := get_ex hi
      obtain ⟨q, hq⟩ : ∃ q, r.Contacts.length - i = q + 1 := ⟨r.Contacts.length - i - 1, by omega⟩
      have hq' : r.Contacts.length - (i + 1) = q := by omega
      rw [if_pos (by simpa using hi), atI_nat, hx, Option.bind_some, codegen_sees_eq, Option.bind_some, drop_cons hx, slotsS, hq, List.replicate_succ]
      have hat : atI (pre ++ 0 :: List.replicate q (0 : Int)) (i : Int) = some 0 := by
        rw [atI_nat, List.getElem?_append_right (by omega), hp]; simp
      have hset : (pre ++ 0 :: List.replicate q (0 : Int)).set i s = (pre ++ [s]) ++ List.replicate q 0 := by
        rw [List.set_append_right _ _ (by omega), hp]; simp
      cases hse : seesS x with
      | true =>
        have := slots_loop n r t hs m (i + 1) (s + 1) (pre ++ [s]) (by omega) (by omega) (by simp [hp]) (by omega) (by omega)
        rw [hq'] at this
        rw [if_pos rfl, if_pos rfl, hat, Option.bind_some, Int.toNat_natCast, hset, Option.bind_some, wrapN (by omega), wrapI (by omega) (by omega), this]
        simp
      | false =>
        have := slots_loop n r t hs m (i + 1) s (pre ++ [0]) (by omega) (by omega) (by simp [hp]) h0 (by omega)
        rw [hq'] at this
        rw [if_neg (by simp), if_neg (by simp), wrapN (by omega)]
        rw [show pre ++ 0 :: List.replicate q (0 : Int) = (pre ++ [0]) ++ List.replicate q 0 by simp, this]
        simp
    · have : r.Contacts.length - i = 0 := by omega
      rw [if_neg (by simpa using hi), List.drop_eq_nil_of_le (by omega), slotsS, this]; rfl
def badK (c : ApiContact) : Bool := decide (c.Kind < 0) || decide (c.Kind ≥ 4)
theorem codegen_Tree_1_eq (n : Nat) (c : ApiContact) : codegen_Tree_1 n c = some (badK c) := by
  rw [codegen_Tree_1, badK]
  by_cases h : c.Kind < 0 <;> simp [h]
theorem c36_loop (n : Nat) (s : List ApiContact) (hs : s.length ≤ 1000000000) : ∀ (k i : Nat), i ≤ s.length → s.length - i < k →
    ∃ r, slices_IndexFunc_api_Contact_c36_L1 n s k (i : Int) = some r ∧ decide (r ≥ 0) = (s.drop i).any badK
  | 0, i, h, hk => absurd hk (Nat.not_lt_zero _)
  | k + 1, i, h, hk => by
    rw [slices_IndexFunc_api_Contact_c36_L1]
    by_cases hi : i < s.length
    · obtain ⟨x, hx⟩ := get_ex hi
      rw [if_pos (by simpa using hi), atI_nat, hx, Option.bind_some, codegen_Tree_1_eq, Option.bind_some, drop_cons hx, List.any_cons]
      cases hc : badK x with
      | true => exact ⟨(i : Int), by simp, by simp⟩
      | false =>
        rw [wrapN (by omega)]
        obtain ⟨r, h1, h2⟩ := c36_loop n s hs k (i + 1) (by omega) (by omega)
        exact ⟨r, by simpa using h1, by simpa using h2⟩
    · rw [if_neg (by simpa using hi)]
      refine ⟨-1, rfl, ?_⟩
      rw [List.drop_eq_nil_of_le (by omega)]; rfl
theorem c36_eq (n : Nat) (s : List ApiContact) (hs : s.length ≤ 1000000000) (h : s.length < n) : slices_ContainsFunc_api_Contact_c36 n s = some (s.any badK) := by
  obtain ⟨r, h1, h2⟩ := c36_loop n s hs n 0 (by omega) (by omega)
  simp only [slices_ContainsFunc_api_Contact_c36, slices_IndexFunc_api_Contact_c36]
  rw [show (0 : Int) = ((0 : Nat) : Int) from rfl, h1, Option.bind_some]
  rw [List.drop_zero] at h2
  exact congrArg some h2
def treeS (r : ApiRung) (t : TreeTree) (slot : Int) : List ApiIns × Int :=
  if checkS t r.Contacts.length ≠ 0 then ([], checkS t r.Contacts.length) else if r.Contacts.any badK then ([], 8) else if slot < 0 ∨ slot > 16384 then ([], 3) else (layS r.Contacts (slotsS r.Contacts slot) t, 0)
theorem codegen_Tree_eq (n : Nat) (r : ApiRung) (t : TreeTree) (slot : Int) (hb : szT t ≤ 300000000) (hn : szT t < n) (hl : r.Contacts.length ≤ 1000000) (hln : r.Contacts.length < n) : codegen_Tree n r t slot = some (treeS r t slot) := by
  rw [codegen_Tree, treeS, tree_Check_eq t _ n (by omega) hn, Option.bind_some]
  by_cases hc : checkS t r.Contacts.length = 0
  · rw [if_neg (show ¬ (checkS t r.Contacts.length != 0) = true by simp [hc]), if_neg (show ¬ (checkS t r.Contacts.length ≠ 0) by simp [hc]), c36_eq n _ (by omega) hln, Option.bind_some]
    cases hbad : r.Contacts.any badK with
    | true => simp
    | false =>
      rw [if_neg (show ¬ false = true by simp), if_neg (show ¬ false = true by simp)]
      by_cases h0 : slot < 0
      · simp [h0]
      by_cases h1 : slot > 16384
      · simp [h0, h1]
      rw [if_neg (show ¬ (decide (slot < 0)) = true by simpa using h0), if_neg (show ¬ (decide (slot > 16384)) = true by simpa using h1), if_neg (show ¬ (slot < 0 ∨ slot > 16384) by omega), if_pos (by omega), Option.bind_some]
      have := slots_loop n r t hl n 0 slot [] (by omega) (by omega) rfl (by omega) (by omega)
      rw [List.nil_append, List.nil_append, Nat.sub_zero, List.drop_zero, show ((0 : Nat) : Int) = 0 from rfl] at this
      rw [this, codegen_Tree_J1]
      obtain ⟨g1, _, _⟩ := (checkS_iff t r.Contacts.length).1 hc
      have hk : KindsOk r.Contacts := fun c hc => by
        have := List.any_eq_false.1 hbad c hc
        simp only [badK, Bool.or_eq_true, decide_eq_true_eq, not_or] at this
        omega
      rw [lay_eq hk (slotsS_len _ _) _ _ _ t n [] g1 (by omega) (by simp; omega) hn, Option.bind_some, List.nil_append]
  · simp [hc]
end Go.G
namespace Go.G
open Go.Av
def badC (c : ApiCoil) : Bool := decide (c.Kind < 0) || decide (c.Kind ≥ 4)
def coilsS (cs : List ApiCoil) (acc : List ApiIns) : List ApiIns × Int := if cs.any badC then ([], 8) else (acc ++ cs.map fun c => ⟨11 + c.Kind, c.A, 0⟩, 0)
theorem coilsS_cons (c : ApiCoil) (cs : List ApiCoil) (acc : List ApiIns) (h : badC c = false) : coilsS (c :: cs) acc = coilsS cs (acc ++ [⟨11 + c.Kind, c.A, 0⟩]) := by
  simp [coilsS, h]
theorem coils_loop (r : ApiRung) (hs : r.Coils.length ≤ 1000000) : ∀ (m i : Nat) (acc : List ApiIns), i ≤ r.Coils.length → r.Coils.length - i < m → acc.length + (r.Coils.length - i) ≤ 1000000000 →
    codegen_Coils_L1 r m (i : Int) acc = some (coilsS (r.Coils.drop i) acc)
  | 0, i, acc, h, hm, _ => absurd hm (Nat.not_lt_zero _)
  | m + 1, i, acc, h, hm, ha => by
    rw [codegen_Coils_L1]
    by_cases hi : i < r.Coils.length
    · obtain ⟨x, hx⟩ := get_ex hi
      rw [if_pos (by simpa using hi), atI_nat, hx, Option.bind_some, drop_cons hx, wrapN (by omega)]
      by_cases h0 : x.Kind < 0
      · simp [h0, coilsS, badC]
      by_cases h3 : x.Kind ≥ 4
      · simp [h0, h3, coilsS, badC]
      have hb : badC x = false := by simp [badC, h0, h3]
      have e1 := coils_loop r hs m (i + 1) (acc ++ [⟨11 + x.Kind, x.A, 0⟩]) (by omega) (by omega) (by simp; omega)
      have hg : acc.length + 1 ≤ 1000000000 := by omega
      rw [coilsS_cons _ _ _ hb, ← e1]
      have : x.Kind = 0 ∨ x.Kind = 1 ∨ x.Kind = 2 ∨ x.Kind = 3 := by omega
      rcases this with e | e | e | e <;> simp [e, hg]
    · rw [if_neg (by simpa using hi), List.drop_eq_nil_of_le (by omega)]
      simp [coilsS]
theorem coils_eq (n : Nat) (r : ApiRung) (hs : r.Coils.length ≤ 1000000) (hn : r.Coils.length < n) : codegen_Coils n r = some (coilsS r.Coils []) := by
  have := coils_loop r hs n 0 [] (by omega) (by omega) (by simp; omega)
  rw [show ((0 : Nat) : Int) = 0 from rfl, List.drop_zero] at this
  exact this
end Go.G
namespace Go.G
open Go.Av
theorem flow_rank {cs : List ApiContact} (h : flowS cs = 0) : ∃ rank : Str → Nat, ∀ c ∈ cs, rank c.From < rank c.To := by
  unfold flowS at h
  split at h
  · cases h
  · split at h
    · cases h
    · rename_i q; exact Classical.not_not.1 q
end Go.G

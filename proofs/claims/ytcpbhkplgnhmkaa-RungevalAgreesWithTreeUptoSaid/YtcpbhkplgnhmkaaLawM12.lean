/- What the graphs' functions compute: they end, and an order of the nodes is one. No law is proved here. -/
import Derived.Test.YtcpbhkplgnhmkaaLawM11
import Derived.Test.YtcpbhkplgnhmkaaGMod
set_option linter.unusedSimpArgs false
set_option linter.unusedVariables false
set_option linter.unusedSectionVars false
namespace Go.G
open Go.Av

/-- Whether a set as a map holds a key. -/
def hasM (m : List (Str × Bool)) (k : Str) : Bool := (mGet m k).getD false
theorem hasM_nil (k : Str) : hasM [] k = false := rfl
theorem hasM_put (m : List (Str × Bool)) (k x : Str) : hasM (mPut m k true) x = (decide (x = k) || hasM m x) := by
  induction m with
  | nil =>
    by_cases h : x = k <;> simp [hasM, mPut, mGet, h]
  | cons p m ih =>
    simp only [hasM] at ih ⊢
    rw [mPut]
    by_cases h : k = p.1
    · rw [if_pos (by simpa using h), mGet, mGet]
      by_cases h2 : x = k
      · simp [h2]
      · have : ¬ x = p.1 := fun e => h2 (e.trans h.symm)
        simp [h2, this]
    · rw [if_neg (by simpa using h), mGet, mGet]
      by_cases h2 : x = p.1
      · have h5 : ¬ p.1 = k := fun e => h e.symm
        simp [h2, h5]
      · rw [if_neg (by simpa using h2), if_neg (by simpa using h2)]; exact ih

/-! ### nodes -/
structure NInv (l : List Str) (m : List (Str × Bool)) : Prop where
  has : ∀ x, hasM m x = true ↔ x ∈ l
  nd : l.Nodup

theorem nodes_loop2 (p : Int) (R : Int → List Str → List (Str × Bool) → Option (List Str)) (pr : List Str) (hp : pr.length ≤ 1000) : ∀ (q k : Nat) (l : List Str) (m : List (Str × Bool)), NInv l m → k ≤ pr.length → pr.length - k < q → l.length + (pr.length - k) ≤ 100000000 →
    ∃ l' m', NInv l' m' ∧ (∀ x ∈ l, x ∈ l') ∧ (∀ x ∈ pr.drop k, x ∈ l') ∧ l'.length ≤ l.length + (pr.length - k) ∧ graph_Nodes_o0_L2 p R pr q (k : Int) l m = R (IntKind.i64.wrap (p + 1)) l' m'
  | 0, k, l, m, _, h, hm, _ => absurd hm (Nat.not_lt_zero _)
  | q + 1, k, l, m, hi, h, hm, hl => by
    rw [graph_Nodes_o0_L2]
    by_cases hk : k < pr.length
    · obtain ⟨x, hx⟩ := get_ex hk
      rw [if_pos (by simpa using hk), atI_nat, hx, Option.bind_some, drop_cons hx]
      cases hh : hasM m x with
      | true =>
        have hh' : (mGet m x).getD false = true := hh
        rw [hh', if_neg (by simp), wrapN (by omega)]
        obtain ⟨l', m', a1, a2, a3, a4, a5⟩ := nodes_loop2 p R pr hp q (k + 1) l m hi (by omega) (by omega) (by omega)
        refine ⟨l', m', a1, a2, fun y hy => ?_, by omega, a5⟩
        rcases List.mem_cons.1 hy with rfl | hy
        · exact a2 _ ((hi.has _).1 hh)
        · exact a3 y hy
      | false =>
        have hh' : (mGet m x).getD false = false := hh
        have hx' : x ∉ l := fun e => by rw [(hi.has x).2 e] at hh; cases hh
        rw [hh', if_pos (by simp), if_pos (by simp; omega), Option.bind_some, wrapN (by omega)]
        have hi' : NInv (l ++ [x]) (mPut m x true) := ⟨fun y => by
          rw [hasM_put, Bool.or_eq_true, hi.has, decide_eq_true_eq, List.mem_append, List.mem_singleton]
          exact Or.comm, by
          rw [List.nodup_append]
          exact ⟨hi.nd, by simp, fun a ha b hb e => by rw [List.mem_singleton] at hb; subst hb; subst e; exact hx' ha⟩⟩
        obtain ⟨l', m', a1, a2, a3, a4, a5⟩ := nodes_loop2 p R pr hp q (k + 1) (l ++ [x]) (mPut m x true) hi' (by omega) (by omega) (by simp; omega)
        refine ⟨l', m', a1, fun y hy => a2 y (by simp [hy]), fun y hy => ?_, by rw [List.length_append, List.length_singleton] at a4; omega, a5⟩
        rcases List.mem_cons.1 hy with rfl | hy
        · exact a2 _ (by simp)
        · exact a3 y hy
    · rw [if_neg (by simpa using hk)]
      refine ⟨l, m, hi, fun _ h => h, ?_, by omega, rfl⟩
      rw [List.drop_eq_nil_of_le (by omega)]
      exact fun x hx => by cases hx

theorem nodes_loop1 (n : Nat) (r : ApiRung) (hn : 2 < n) (hs : r.Contacts.length ≤ 1000000) : ∀ (q i : Nat) (l : List Str) (m : List (Str × Bool)), NInv l m → i ≤ r.Contacts.length → r.Contacts.length - i < q → l.length ≤ 2 + 2 * i →
    ∃ l', graph_Nodes_o0_L1 n r q (i : Int) l m = some l' ∧ l'.Nodup ∧ (∀ x ∈ l, x ∈ l') ∧ (∀ c ∈ r.Contacts.drop i, c.From ∈ l' ∧ c.To ∈ l') ∧ l'.length ≤ 2 + 2 * r.Contacts.length
  | 0, i, l, m, _, h, hm, _ => absurd hm (Nat.not_lt_zero _)
  | q + 1, i, l, m, hi, h, hm, hl => by
    rw [graph_Nodes_o0_L1]
    by_cases hk : i < r.Contacts.length
    · obtain ⟨c, hc⟩ := get_ex hk
      rw [if_pos (by simpa using hk), atI_nat, hc, Option.bind_some, Option.bind_some]
      obtain ⟨l1, m1, a1, a2, a3, a4, a5⟩ := nodes_loop2 (i : Int) (graph_Nodes_o0_L1 n r q) [c.From, c.To] (by simp) n 0 l m hi (by simp) (by simpa using hn) (by simp; omega)
      rw [show (0 : Int) = ((0 : Nat) : Int) from rfl, a5, wrapN (by omega)]
      obtain ⟨l', b1, b2, b3, b4, b5⟩ := nodes_loop1 n r hn hs q (i + 1) l1 m1 a1 (by omega) (by omega) (by simp at a4; omega)
      refine ⟨l', b1, b2, fun x hx => b3 x (a2 x hx), fun d hd => ?_, b5⟩
      rw [drop_cons hc] at hd
      rcases List.mem_cons.1 hd with rfl | hd
      · exact ⟨b3 _ (a3 _ (by simp)), b3 _ (a3 _ (by simp))⟩
      · exact b4 d hd
    · rw [if_neg (by simpa using hk)]
      refine ⟨l, rfl, hi.nd, fun _ h => h, ?_, by omega⟩
      rw [List.drop_eq_nil_of_le (by omega)]
      exact fun c hc => by cases hc

/-- The nodes of a rung. -/
structure IsNodes (r : ApiRung) (l : List Str) : Prop where
  nd : l.Nodup
  L : strLL ∈ l
  R : strRR ∈ l
  ends : ∀ c ∈ r.Contacts, c.From ∈ l ∧ c.To ∈ l
  len : l.length ≤ 2 + 2 * r.Contacts.length

theorem nodes_eq (n : Nat) (r : ApiRung) (hn : 2 * r.Contacts.length + 10 ≤ n) (hs : r.Contacts.length ≤ 1000000) : ∃ l, graph_Nodes_o0 n r = some l ∧ IsNodes r l := by
  rw [graph_Nodes_o0, Option.bind_some, show (0 : Int) = ((0 : Nat) : Int) from rfl]
  obtain ⟨l', b1, b2, b3, b4, b5⟩ := nodes_loop1 n r (by omega) hs n 0 [(⟨#[76]⟩ : Str), (⟨#[82]⟩ : Str)] (mPut (mPut [] (⟨#[76]⟩ : Str) true) (⟨#[82]⟩ : Str) true) ⟨fun x => by
    rw [hasM_put, hasM_put, hasM_nil]
    simp only [Bool.or_eq_true, decide_eq_true_eq, List.mem_cons, List.not_mem_nil, or_false, Bool.false_eq_true]
    exact Or.comm, by decide⟩ (by omega) (by omega) (by simp)
  exact ⟨l', b1, b2, b3 _ (by simp [strLL]), b3 _ (by simp [strRR]), fun c hc => b4 c (by simpa using hc), b5⟩

theorem numIncoming_loop (n : Nat) (r : ApiRung) (b : Str) (hs : r.Contacts.length ≤ 1000000) : ∀ (q i : Nat) (acc : List Int), i ≤ r.Contacts.length → r.Contacts.length - i < q → acc.length ≤ i →
    ∃ l, graph_numbers_c66_L1 n r b q (i : Int) acc = some l ∧ l.length ≤ r.Contacts.length ∧ (∀ j ∈ acc, j ∈ l) ∧ (∀ j ∈ l, j ∈ acc ∨ ∃ (k : Nat) (c : ApiContact), j = (k : Int) ∧ r.Contacts[k]? = some c ∧ c.To = b) ∧ (∀ (k : Nat) (c : ApiContact), i ≤ k → r.Contacts[k]? = some c → c.To = b → (k : Int) ∈ l)
  | 0, i, acc, h, hm, _ => absurd hm (Nat.not_lt_zero _)
  | q + 1, i, acc, h, hm, ha => by
    rw [graph_numbers_c66_L1]
    by_cases hk : i < r.Contacts.length
    · obtain ⟨c, hc⟩ := get_ex hk
      rw [if_pos (by simpa using hk), atI_nat, hc, Option.bind_some, graph_Incoming_1, Option.bind_some]
      by_cases ht : c.To = b
      · rw [if_pos (by simpa using ht), if_pos (by simp; omega), Option.bind_some, wrapN (by omega)]
        obtain ⟨l, a1, a2, a3, a4, a5⟩ := numIncoming_loop n r b hs q (i + 1) (acc ++ [(i : Int)]) (by omega) (by omega) (by simp; omega)
        refine ⟨l, a1, a2, fun j hj => a3 j (by simp [hj]), fun j hj => ?_, fun k d hk hd hb => ?_⟩
        · rcases a4 j hj with h | h
          · rcases List.mem_append.1 h with h | h
            · exact .inl h
            · rw [List.mem_singleton] at h; exact .inr ⟨i, c, h, hc, ht⟩
          · exact .inr h
        · rcases Nat.lt_or_ge i k with h | h
          · exact a5 k d h hd hb
          · have : k = i := by omega
            subst this; exact a3 _ (by simp)
      · rw [if_neg (by simpa using ht), wrapN (by omega)]
        obtain ⟨l, a1, a2, a3, a4, a5⟩ := numIncoming_loop n r b hs q (i + 1) acc (by omega) (by omega) (by omega)
        refine ⟨l, a1, a2, a3, a4, fun k d hk hd hb => ?_⟩
        rcases Nat.lt_or_ge i k with h | h
        · exact a5 k d h hd hb
        · have : k = i := by omega
          subst this; rw [hc] at hd; cases hd; exact absurd hb ht
    · rw [if_neg (by simpa using hk)]
      exact ⟨acc, rfl, by omega, fun _ h => h, fun _ h => .inl h, fun k c hk hc _ => by have := get_lt hc; omega⟩

theorem Incoming_eq (n : Nat) (r : ApiRung) (b : Str) (hs : r.Contacts.length ≤ 1000000) (hn : r.Contacts.length < n) : ∃ l, graph_Incoming n r b = some l ∧ l.length ≤ r.Contacts.length ∧
    (∀ j ∈ l, ∃ (k : Nat) (c : ApiContact), j = (k : Int) ∧ r.Contacts[k]? = some c ∧ c.To = b) ∧ (∀ (k : Nat) (c : ApiContact), r.Contacts[k]? = some c → c.To = b → (k : Int) ∈ l) := by
  obtain ⟨l, a1, a2, a3, a4, a5⟩ := numIncoming_loop n r b hs n 0 [] (by omega) (by omega) (by simp)
  refine ⟨l, ?_, a2, fun j hj => ?_, fun k c hc hb => a5 k c (Nat.zero_le _) hc hb⟩
  · rw [graph_Incoming, graph_numbers_c66, show (0 : Int) = ((0 : Nat) : Int) from rfl, a1]; rfl
  · rcases a4 j hj with h | h
    · cases h
    · exact h

theorem numOutgoing_loop (n : Nat) (r : ApiRung) (b : Str) (hs : r.Contacts.length ≤ 1000000) : ∀ (q i : Nat) (acc : List Int), i ≤ r.Contacts.length → r.Contacts.length - i < q → acc.length ≤ i →
    ∃ l, graph_numbers_c84_L1 n r b q (i : Int) acc = some l ∧ l.length ≤ r.Contacts.length ∧ (∀ j ∈ acc, j ∈ l) ∧ (∀ j ∈ l, j ∈ acc ∨ ∃ (k : Nat) (c : ApiContact), j = (k : Int) ∧ r.Contacts[k]? = some c ∧ c.From = b) ∧ (∀ (k : Nat) (c : ApiContact), i ≤ k → r.Contacts[k]? = some c → c.From = b → (k : Int) ∈ l)
  | 0, i, acc, h, hm, _ => absurd hm (Nat.not_lt_zero _)
  | q + 1, i, acc, h, hm, ha => by
    rw [graph_numbers_c84_L1]
    by_cases hk : i < r.Contacts.length
    · obtain ⟨c, hc⟩ := get_ex hk
      rw [if_pos (by simpa using hk), atI_nat, hc, Option.bind_some, graph_Outgoing_1, Option.bind_some]
      by_cases ht : c.From = b
      · rw [if_pos (by simpa using ht), if_pos (by simp; omega), Option.bind_some, wrapN (by omega)]
        obtain ⟨l, a1, a2, a3, a4, a5⟩ := numOutgoing_loop n r b hs q (i + 1) (acc ++ [(i : Int)]) (by omega) (by omega) (by simp; omega)
        refine ⟨l, a1, a2, fun j hj => a3 j (by simp [hj]), fun j hj => ?_, fun k d hk hd hb => ?_⟩
        · rcases a4 j hj with h | h
          · rcases List.mem_append.1 h with h | h
            · exact .inl h
            · rw [List.mem_singleton] at h; exact .inr ⟨i, c, h, hc, ht⟩
          · exact .inr h
        · rcases Nat.lt_or_ge i k with h | h
          · exact a5 k d h hd hb
          · have : k = i := by omega
            subst this; exact a3 _ (by simp)
      · rw [if_neg (by simpa using ht), wrapN (by omega)]
        obtain ⟨l, a1, a2, a3, a4, a5⟩ := numOutgoing_loop n r b hs q (i + 1) acc (by omega) (by omega) (by omega)
        refine ⟨l, a1, a2, a3, a4, fun k d hk hd hb => ?_⟩
        rcases Nat.lt_or_ge i k with h | h
        · exact a5 k d h hd hb
        · have : k = i := by omega
          subst this; rw [hc] at hd; cases hd; exact absurd hb ht
    · rw [if_neg (by simpa using hk)]
      exact ⟨acc, rfl, by omega, fun _ h => h, fun _ h => .inl h, fun k c hk hc _ => by have := get_lt hc; omega⟩

theorem Outgoing_eq (n : Nat) (r : ApiRung) (b : Str) (hs : r.Contacts.length ≤ 1000000) (hn : r.Contacts.length < n) : ∃ l, graph_Outgoing n r b = some l ∧ l.length ≤ r.Contacts.length ∧
    (∀ j ∈ l, ∃ (k : Nat) (c : ApiContact), j = (k : Int) ∧ r.Contacts[k]? = some c ∧ c.From = b) ∧ (∀ (k : Nat) (c : ApiContact), r.Contacts[k]? = some c → c.From = b → (k : Int) ∈ l) := by
  obtain ⟨l, a1, a2, a3, a4, a5⟩ := numOutgoing_loop n r b hs n 0 [] (by omega) (by omega) (by simp)
  refine ⟨l, ?_, a2, fun j hj => ?_, fun k c hc hb => a5 k c (Nat.zero_le _) hc hb⟩
  · rw [graph_Outgoing, graph_numbers_c84, show (0 : Int) = ((0 : Nat) : Int) from rfl, a1]; rfl
  · rcases a4 j hj with h | h
    · cases h
    · exact h

/-! ### order -/
theorem told_loop (n : Nat) (s : List Int) (m : List (Str × Bool)) (r : ApiRung) (hs : s.length ≤ 1000000) (hr : ∀ j ∈ s, ∃ (k : Nat) (c : ApiContact), j = (k : Int) ∧ r.Contacts[k]? = some c) : ∀ (q i : Nat), i ≤ s.length → s.length - i < q →
    ∃ t : Int, slices_IndexFunc_int_c50_L1 n s m r q (i : Int) = some t ∧ (t = -1 ∧ (∀ (k : Nat) (c : ApiContact), (k : Int) ∈ s.drop i → r.Contacts[k]? = some c → hasM m c.From = true) ∨ 0 ≤ t)
  | 0, i, h, hm => absurd hm (Nat.not_lt_zero _)
  | q + 1, i, h, hm => by
    rw [slices_IndexFunc_int_c50_L1]
    by_cases hi : i < s.length
    · obtain ⟨x, hx⟩ := get_ex hi
      obtain ⟨k, c, rfl, hc⟩ := hr x (List.mem_of_getElem? hx)
      rw [if_pos (by simpa using hi), atI_nat, hx, Option.bind_some, graph_TopoSort_1_1, atI_nat, hc, Option.bind_some, Option.bind_some]
      cases hh : hasM m c.From with
      | true =>
        have hh' : (mGet m c.From).getD false = true := hh
        rw [hh', if_neg (by simp), wrapN (by omega)]
        obtain ⟨t, a1, a2⟩ := told_loop n s m r hs hr q (i + 1) (by omega) (by omega)
        refine ⟨t, a1, a2.imp (fun ⟨e, a⟩ => ⟨e, fun k' c' hk' hc' => ?_⟩) id⟩
        rw [drop_cons hx] at hk'
        rcases List.mem_cons.1 hk' with e | hk'
        · have : k' = k := by omega
          subst this; rw [hc] at hc'; cases hc'; exact hh
        · exact a k' c' hk' hc'
      | false =>
        have hh' : (mGet m c.From).getD false = false := hh
        rw [hh', if_pos (by simp)]
        exact ⟨_, rfl, .inr (by omega)⟩
    · rw [if_neg (by simpa using hi)]
      exact ⟨_, rfl, .inl ⟨rfl, fun k c hk _ => by rw [List.drop_eq_nil_of_le (by omega)] at hk; cases hk⟩⟩

theorem topo_1 (n : Nat) (x : Str) (r : ApiRung) (m : List (Str × Bool)) (hs : r.Contacts.length ≤ 1000000) (hn : r.Contacts.length < n) : ∃ b, graph_TopoSort_1 n x r m = some b ∧ (b = true → ∀ c ∈ r.Contacts, c.To = x → hasM m c.From = true) := by
  obtain ⟨l, a1, a2, a3, a4⟩ := Incoming_eq n r x hs hn
  obtain ⟨t, b1, b2⟩ := told_loop n l m r (by omega) (fun j hj => by obtain ⟨k, c, e1, e2, _⟩ := a3 j hj; exact ⟨k, c, e1, e2⟩) n 0 (by omega) (by omega)
  rw [graph_TopoSort_1, a1, Option.bind_some, slices_ContainsFunc_int_c50, slices_IndexFunc_int_c50, show (0 : Int) = ((0 : Nat) : Int) from rfl, b1]
  refine ⟨_, rfl, fun hb c hc hx => ?_⟩
  rcases b2 with ⟨rfl, h⟩ | h
  · obtain ⟨k, hk⟩ := List.getElem?_of_mem hc
    exact h k c (by simpa using a4 k c hk hx) hk
  · simp at hb; omega

theorem ready_loop (n : Nat) (l : List Str) (r : ApiRung) (m : List (Str × Bool)) (hl : l.length ≤ 100000000) (hs : r.Contacts.length ≤ 1000000) (hn : r.Contacts.length < n) : ∀ (q i : Nat), i ≤ l.length → l.length - i < q →
    ∃ t : Int, slices_IndexFunc_string_c47_v1_L1 n l r m q (i : Int) = some t ∧ (t = -1 ∨ ∃ (k : Nat) (x : Str), t = (k : Int) ∧ l[k]? = some x ∧ ∀ c ∈ r.Contacts, c.To = x → hasM m c.From = true)
  | 0, i, h, hm => absurd hm (Nat.not_lt_zero _)
  | q + 1, i, h, hm => by
    rw [slices_IndexFunc_string_c47_v1_L1]
    by_cases hi : i < l.length
    · obtain ⟨x, hx⟩ := get_ex hi
      obtain ⟨b, b1, b2⟩ := topo_1 n x r m hs hn
      rw [if_pos (by simpa using hi), atI_nat, hx, Option.bind_some, b1, Option.bind_some]
      cases b with
      | true =>
        rw [if_pos rfl]
        exact ⟨_, rfl, .inr ⟨i, x, rfl, hx, b2 rfl⟩⟩
      | false =>
        rw [if_neg (by simp), wrapN (by omega)]
        exact ready_loop n l r m hl hs hn q (i + 1) (by omega) (by omega)
    · rw [if_neg (by simpa using hi)]
      exact ⟨_, rfl, .inl rfl⟩

theorem delS_eq (n : Nat) (l : List Str) (i : Nat) (hi : i < l.length) : slices_Delete_string_v1 n (i : Int) ((i + 1 : Nat) : Int) l = some (l.eraseIdx i) := by
  rw [slices_Delete_string_v1]
  simp only [Int.toNat_natCast]
  have e : (l.take i ++ (l.drop (i + 1) ++ l.drop (i + (l.length - (i + 1))))).length = l.length + 0 := by simp; omega
  rw [if_pos (by omega), if_neg (by simp; omega), if_pos (by omega), if_pos (by omega), if_pos (by omega), Option.bind_some, if_pos (by omega), if_pos (by omega)]
  rw [← List.append_assoc, List.take_append_of_le_length (by simp; omega), List.take_of_length_le (by simp; omega), List.eraseIdx_eq_take_drop_succ]

theorem topo_loop (n : Nat) (r : ApiRung) (hs : r.Contacts.length ≤ 1000000) (hn : 2 * r.Contacts.length + 10 ≤ n) : ∀ (q : Nat) (left : List Str) (m : List (Str × Bool)) (l : List Str) (rank : Str → Nat),
    left.length < q → left.length + l.length ≤ 2 + 2 * r.Contacts.length → (∀ x, hasM m x = true ↔ x ∈ l) → left.Nodup → (∀ x ∈ left, x ∉ l) → (∀ x ∈ l, rank x < l.length) → (∀ c ∈ r.Contacts, c.To ∈ left ∨ c.To ∈ l) →
    (∀ c ∈ r.Contacts, c.To ∈ l → c.From ∈ l ∧ rank c.From < rank c.To) →
    ∃ s e, graph_TopoSort_L1 n r q left m l = some (s, e) ∧ (e = 0 → ∃ rank : Str → Nat, ∀ c ∈ r.Contacts, rank c.From < rank c.To)
  | 0, left, m, l, rank, hm, _, _, _, _, _, _, _ => absurd hm (Nat.not_lt_zero _)
  | q + 1, left, m, l, rank, hm, hl, h1, h2, h3, h4, h5, h6 => by
    rw [graph_TopoSort_L1]
    by_cases hk : 0 < left.length
    · rw [if_pos (by simpa using hk)]
      obtain ⟨t, a1, a2⟩ := ready_loop n left r m (by omega) hs (by omega) n 0 (by omega) (by omega)
      rw [slices_IndexFunc_string_c47_v1, show (0 : Int) = ((0 : Nat) : Int) from rfl, a1, Option.bind_some]
      rcases a2 with rfl | ⟨k, x, rfl, hx, hin⟩
      · rw [if_pos (by decide)]
        exact ⟨_, _, rfl, fun e => by cases e⟩
      · have hkl := get_lt hx
        have hxl := List.mem_of_getElem? hx
        have hx3 := h3 x hxl
        rw [if_neg (by simp), atI_nat, hx, Option.bind_some, if_pos (by simp; omega), Option.bind_some, wrapN (by omega), delS_eq n left k hkl, Option.bind_some]
        have hsub : ∀ y ∈ left.eraseIdx k, y ∈ left := fun y hy => (List.eraseIdx_sublist left k).subset hy
        have hp := erase_perm hx
        have hnd : x ∉ left.eraseIdx k := fun h => by
          have := hp.nodup_iff.1 h2
          rw [List.nodup_cons] at this
          exact this.1 h
        refine topo_loop n r hs hn q (left.eraseIdx k) (mPut m x true) (l ++ [x]) (fun y => if y = x then l.length else rank y) ?_ ?_ ?_ ?_ ?_ ?_ ?_ ?_
        · rw [List.length_eraseIdx_of_lt hkl]; omega
        · rw [List.length_eraseIdx_of_lt hkl, List.length_append, List.length_singleton]; omega
        · intro y
          rw [hasM_put, Bool.or_eq_true, h1, decide_eq_true_eq, List.mem_append, List.mem_singleton]
          exact Or.comm
        · exact h2.sublist (List.eraseIdx_sublist left k)
        · intro y hy hyl
          rcases List.mem_append.1 hyl with h | h
          · exact h3 y (hsub y hy) h
          · rw [List.mem_singleton] at h; subst h; exact hnd hy
        · intro y hy
          rw [List.length_append, List.length_singleton]
          split
          · omega
          · rename_i hne
            rcases List.mem_append.1 hy with h | h
            · have := h4 y h; omega
            · rw [List.mem_singleton] at h; exact absurd h hne
        · intro c hc
          rcases h5 c hc with h | h
          · rcases List.mem_cons.1 (hp.subset h) with h | h
            · exact .inr (by simp [h])
            · exact .inl h
          · exact .inr (by simp [h])
        · intro c hc hcl
          by_cases hct : c.To = x
          · have hf : c.From ∈ l := (h1 _).1 (hin c hc hct)
            have hne : c.From ≠ x := fun e => hx3 (e ▸ hf)
            refine ⟨by simp [hf], ?_⟩
            rw [if_neg hne, if_pos hct]
            exact h4 _ hf
          · have hcl' : c.To ∈ l := by
              rcases List.mem_append.1 hcl with h | h
              · exact h
              · rw [List.mem_singleton] at h; exact absurd h hct
            obtain ⟨q1, q2⟩ := h6 c hc hcl'
            have hne : c.From ≠ x := fun e => hx3 (e ▸ q1)
            refine ⟨by simp [q1], ?_⟩
            rw [if_neg hne, if_neg hct]
            exact q2
    · rw [if_neg (by simpa using hk)]
      have : left = [] := List.length_eq_zero_iff.1 (by omega)
      subst this
      refine ⟨_, _, rfl, fun _ => ⟨rank, fun c hc => ?_⟩⟩
      rcases h5 c hc with h | h
      · cases h
      · exact (h6 c hc h).2

theorem TopoSort_eq (n : Nat) (r : ApiRung) (hs : r.Contacts.length ≤ 1000000) (hn : 2 * r.Contacts.length + 10 ≤ n) : ∃ s e, graph_TopoSort n r = some (s, e) ∧ (e = 0 → ∃ rank : Str → Nat, ∀ c ∈ r.Contacts, rank c.From < rank c.To) := by
  obtain ⟨l, a1, a2⟩ := nodes_eq n r hn hs
  rw [graph_TopoSort, a1, Option.bind_some]
  have := a2.len
  exact topo_loop n r hs hn n l [] [] (fun _ => 0) (by omega) (by simpa using this) (fun x => by simp [hasM_nil]) a2.nd (fun x _ h => by cases h) (fun x h => by cases h) (fun c hc => .inl (a2.ends c hc).2) (fun c _ h => by cases h)

/-! ### what is reached -/
theorem index_loop (l : List Str) (x : Str) (hl : l.length ≤ 100000000) : ∀ (q i : Nat), i ≤ l.length → l.length - i < q → ∃ t : Int, slices_Index_string_L1 l x q (i : Int) = some t ∧ ((decide (t ≥ 0)) = decide (x ∈ l.drop i))
  | 0, i, h, hm => absurd hm (Nat.not_lt_zero _)
  | q + 1, i, h, hm => by
    rw [slices_Index_string_L1]
    by_cases hi : i < l.length
    · obtain ⟨y, hy⟩ := get_ex hi
      rw [if_pos (by simpa using hi), atI_nat, hy, Option.bind_some, drop_cons hy]
      by_cases hx : x = y
      · rw [if_pos (by simpa using hx)]
        exact ⟨_, rfl, by simp [hx]⟩
      · rw [if_neg (by simpa using hx), wrapN (by omega)]
        obtain ⟨t, a1, a2⟩ := index_loop l x hl q (i + 1) (by omega) (by omega)
        exact ⟨t, a1, by rw [a2]; simp [hx]⟩
    · rw [if_neg (by simpa using hi)]
      exact ⟨_, rfl, by rw [List.drop_eq_nil_of_le (by omega)]; simp⟩
theorem containsS_eq (n : Nat) (l : List Str) (x : Str) (hl : l.length ≤ 100000000) (hn : l.length < n) : slices_Contains_string n l x = some (decide (x ∈ l)) := by
  obtain ⟨t, a1, a2⟩ := index_loop l x hl n 0 (by omega) (by omega)
  rw [slices_Contains_string, slices_Index_string, show (0 : Int) = ((0 : Nat) : Int) from rfl, a1, Option.bind_some, List.drop_zero] at *
  exact congrArg some a2

/-- Keys that a set as a map lacks. -/
def lack (ns : List Str) (m : List (Str × Bool)) : Nat := (ns.filter fun x => !hasM m x).length
theorem lack_le (ns : List Str) (m : List (Str × Bool)) : lack ns m ≤ ns.length := List.length_filter_le _ _
theorem lack_mono {m m' : List (Str × Bool)} (h : ∀ x, hasM m x = true → hasM m' x = true) : ∀ ns : List Str, lack ns m' ≤ lack ns m
  | [] => by simp [lack]
  | x :: ns => by
    have ih := lack_mono h ns
    simp only [lack, List.filter_cons] at ih ⊢
    cases h1 : hasM m x with
    | true => rw [h x h1]; simpa using ih
    | false =>
      cases h2 : hasM m' x with
      | true => simp; omega
      | false => simpa using ih
theorem lack_put {m : List (Str × Bool)} {x : Str} (hx : hasM m x = false) : ∀ {ns : List Str}, x ∈ ns → lack ns (mPut m x true) + 1 ≤ lack ns m
  | y :: ns, h => by
    have mono := lack_mono (m := m) (m' := mPut m x true) (fun z hz => by rw [hasM_put, hz]; simp) ns
    by_cases e : y = x
    · subst e
      simp only [lack, List.filter_cons] at mono ⊢
      rw [hasM_put, hx]
      simp; omega
    · have hm : x ∈ ns := by
        rcases List.mem_cons.1 h with h | h
        · exact absurd h.symm e
        · exact h
      have ih := lack_put hx hm
      simp only [lack, List.filter_cons] at ih ⊢
      rw [hasM_put]
      cases hasM m y <;> simp [e] <;> omega

theorem stepsReachable_loop (r : ApiRung) (s : List Int) (hs : s.length ≤ 1000000) (hr : ∀ j ∈ s, ∃ (k : Nat) (c : ApiContact), j = (k : Int) ∧ r.Contacts[k]? = some c) : ∀ (q i : Nat) (acc : List Str), i ≤ s.length → s.length - i < q → acc.length = i → (∀ x ∈ acc, ∃ c ∈ r.Contacts, x = c.To) →
    ∃ l, graph_Reachable_1_L1 r s q (i : Int) acc = some l ∧ l.length = s.length ∧ ∀ x ∈ l, ∃ c ∈ r.Contacts, x = c.To
  | 0, i, acc, h, hm, _, _ => absurd hm (Nat.not_lt_zero _)
  | q + 1, i, acc, h, hm, ha, hx0 => by
    rw [graph_Reachable_1_L1]
    by_cases hi : i < s.length
    · obtain ⟨x, hx⟩ := get_ex hi
      obtain ⟨k, c, rfl, hc⟩ := hr x (List.mem_of_getElem? hx)
      rw [if_pos (by simpa using hi), atI_nat, hx, Option.bind_some, atI_nat, hc, Option.bind_some, if_pos (by simp; omega), Option.bind_some, wrapN (by omega)]
      exact stepsReachable_loop r s hs hr q (i + 1) _ (by omega) (by omega) (by simp; omega) (fun x hx => by
        rcases List.mem_append.1 hx with h | h
        · exact hx0 x h
        · rw [List.mem_singleton] at h; exact ⟨c, List.mem_of_getElem? hc, h⟩)
    · rw [if_neg (by simpa using hi)]
      exact ⟨acc, rfl, by omega, hx0⟩

theorem stepsReachable (n : Nat) (r : ApiRung) (x : Str) (hs : r.Contacts.length ≤ 1000000) (hn : r.Contacts.length < n) : ∃ l, graph_Reachable_1 n x r = some l ∧ l.length ≤ r.Contacts.length ∧ ∀ y ∈ l, ∃ c ∈ r.Contacts, y = c.To := by
  obtain ⟨s, a1, a2, a3, _⟩ := Outgoing_eq n r x hs hn
  rw [graph_Reachable_1, a1, Option.bind_some, show (0 : Int) = ((0 : Nat) : Int) from rfl]
  obtain ⟨l, b1, b2, b3⟩ := stepsReachable_loop r s (by omega) (fun j hj => by obtain ⟨k, c, e1, e2, _⟩ := a3 j hj; exact ⟨k, c, e1, e2⟩) n 0 [] (by omega) (by omega) rfl (fun x h => by cases h)
  exact ⟨l, b1, by omega, b3⟩

theorem visitReachable_loop (r : ApiRung) (ns : List Str) (s : List Str) (slf : Str → List (Str × Bool) → ApiRung → Option (List (Str × Bool))) (hs : s.length ≤ 1000000) (hin : ∀ x ∈ s, x ∈ ns) (M : Nat)
    (hf : ∀ x ∈ ns, ∀ m, lack ns m ≤ M → ∃ m', slf x m r = some m' ∧ ∀ y, hasM m y = true → hasM m' y = true) : ∀ (q i : Nat) (m : List (Str × Bool)), i ≤ s.length → s.length - i < q → lack ns m ≤ M →
    ∃ m', graph_gather_1_c68_82_L1 r s slf q m (i : Int) = some m' ∧ ∀ y, hasM m y = true → hasM m' y = true
  | 0, i, m, h, hm, _ => absurd hm (Nat.not_lt_zero _)
  | q + 1, i, m, h, hm, hM => by
    rw [graph_gather_1_c68_82_L1]
    by_cases hi : i < s.length
    · obtain ⟨x, hx⟩ := get_ex hi
      obtain ⟨m1, a1, a2⟩ := hf x (hin x (List.mem_of_getElem? hx)) m hM
      rw [if_pos (by simpa using hi), atI_nat, hx, Option.bind_some, a1, Option.bind_some, wrapN (by omega)]
      obtain ⟨m', b1, b2⟩ := visitReachable_loop r ns s slf hs hin M hf q (i + 1) m1 (by omega) (by omega) (Nat.le_trans (lack_mono a2 ns) hM)
      exact ⟨m', b1, fun y hy => b2 y (a2 y hy)⟩
    · rw [if_neg (by simpa using hi)]
      exact ⟨m, rfl, fun _ h => h⟩

theorem visitReachable (r : ApiRung) (ns : List Str) (hns : IsNodes r ns) (hs : r.Contacts.length ≤ 1000000) : ∀ (n : Nat) (x : Str) (m : List (Str × Bool)), x ∈ ns → lack ns m + r.Contacts.length + 2 ≤ n →
    ∃ m', graph_gather_1_c68_82 n x m r = some m' ∧ ∀ y, hasM m y = true → hasM m' y = true
  | 0, x, m, _, h => absurd h (by omega)
  | n + 1, x, m, hx, h => by
    rw [graph_gather_1_c68_82]
    cases hh : hasM m x with
    | true =>
      have hh' : (mGet m x).getD false = true := hh
      rw [hh', if_pos rfl]
      exact ⟨m, rfl, fun _ h => h⟩
    | false =>
      have hh' : (mGet m x).getD false = false := hh
      have hput := lack_put hh hx
      obtain ⟨l, a1, a2, a3⟩ := stepsReachable n r x hs (by omega)
      rw [hh', if_neg (by simp), a1, Option.bind_some, show (0 : Int) = ((0 : Nat) : Int) from rfl]
      obtain ⟨m', b1, b2⟩ := visitReachable_loop r ns l (graph_gather_1_c68_82 n) (by omega) (fun y hy => by obtain ⟨c, hc, rfl⟩ := a3 y hy; exact (hns.ends c hc).2) (lack ns (mPut m x true))
        (fun y hy m' hm' => visitReachable r ns hns hs n y m' hy (by omega)) n 0 (mPut m x true) (by omega) (by omega) (Nat.le_refl _)
      exact ⟨m', b1, fun y hy => b2 y (by rw [hasM_put, hy]; simp)⟩

theorem stepsAncestors_loop (r : ApiRung) (s : List Int) (hs : s.length ≤ 1000000) (hr : ∀ j ∈ s, ∃ (k : Nat) (c : ApiContact), j = (k : Int) ∧ r.Contacts[k]? = some c) : ∀ (q i : Nat) (acc : List Str), i ≤ s.length → s.length - i < q → acc.length = i → (∀ x ∈ acc, ∃ c ∈ r.Contacts, x = c.From) →
    ∃ l, graph_Ancestors_1_L1 r s q (i : Int) acc = some l ∧ l.length = s.length ∧ ∀ x ∈ l, ∃ c ∈ r.Contacts, x = c.From
  | 0, i, acc, h, hm, _, _ => absurd hm (Nat.not_lt_zero _)
  | q + 1, i, acc, h, hm, ha, hx0 => by
    rw [graph_Ancestors_1_L1]
    by_cases hi : i < s.length
    · obtain ⟨x, hx⟩ := get_ex hi
      obtain ⟨k, c, rfl, hc⟩ := hr x (List.mem_of_getElem? hx)
      rw [if_pos (by simpa using hi), atI_nat, hx, Option.bind_some, atI_nat, hc, Option.bind_some, if_pos (by simp; omega), Option.bind_some, wrapN (by omega)]
      exact stepsAncestors_loop r s hs hr q (i + 1) _ (by omega) (by omega) (by simp; omega) (fun x hx => by
        rcases List.mem_append.1 hx with h | h
        · exact hx0 x h
        · rw [List.mem_singleton] at h; exact ⟨c, List.mem_of_getElem? hc, h⟩)
    · rw [if_neg (by simpa using hi)]
      exact ⟨acc, rfl, by omega, hx0⟩

theorem stepsAncestors (n : Nat) (r : ApiRung) (x : Str) (hs : r.Contacts.length ≤ 1000000) (hn : r.Contacts.length < n) : ∃ l, graph_Ancestors_1 n x r = some l ∧ l.length ≤ r.Contacts.length ∧ ∀ y ∈ l, ∃ c ∈ r.Contacts, y = c.From := by
  obtain ⟨s, a1, a2, a3, _⟩ := Incoming_eq n r x hs hn
  rw [graph_Ancestors_1, a1, Option.bind_some, show (0 : Int) = ((0 : Nat) : Int) from rfl]
  obtain ⟨l, b1, b2, b3⟩ := stepsAncestors_loop r s (by omega) (fun j hj => by obtain ⟨k, c, e1, e2, _⟩ := a3 j hj; exact ⟨k, c, e1, e2⟩) n 0 [] (by omega) (by omega) rfl (fun x h => by cases h)
  exact ⟨l, b1, by omega, b3⟩

theorem visitAncestors_loop (r : ApiRung) (ns : List Str) (s : List Str) (slf : Str → List (Str × Bool) → ApiRung → Option (List (Str × Bool))) (hs : s.length ≤ 1000000) (hin : ∀ x ∈ s, x ∈ ns) (M : Nat)
    (hf : ∀ x ∈ ns, ∀ m, lack ns m ≤ M → ∃ m', slf x m r = some m' ∧ ∀ y, hasM m y = true → hasM m' y = true) : ∀ (q i : Nat) (m : List (Str × Bool)), i ≤ s.length → s.length - i < q → lack ns m ≤ M →
    ∃ m', graph_gather_1_c70_82_L1 r s slf q m (i : Int) = some m' ∧ ∀ y, hasM m y = true → hasM m' y = true
  | 0, i, m, h, hm, _ => absurd hm (Nat.not_lt_zero _)
  | q + 1, i, m, h, hm, hM => by
    rw [graph_gather_1_c70_82_L1]
    by_cases hi : i < s.length
    · obtain ⟨x, hx⟩ := get_ex hi
      obtain ⟨m1, a1, a2⟩ := hf x (hin x (List.mem_of_getElem? hx)) m hM
      rw [if_pos (by simpa using hi), atI_nat, hx, Option.bind_some, a1, Option.bind_some, wrapN (by omega)]
      obtain ⟨m', b1, b2⟩ := visitAncestors_loop r ns s slf hs hin M hf q (i + 1) m1 (by omega) (by omega) (Nat.le_trans (lack_mono a2 ns) hM)
      exact ⟨m', b1, fun y hy => b2 y (a2 y hy)⟩
    · rw [if_neg (by simpa using hi)]
      exact ⟨m, rfl, fun _ h => h⟩

theorem visitAncestors (r : ApiRung) (ns : List Str) (hns : IsNodes r ns) (hs : r.Contacts.length ≤ 1000000) : ∀ (n : Nat) (x : Str) (m : List (Str × Bool)), x ∈ ns → lack ns m + r.Contacts.length + 2 ≤ n →
    ∃ m', graph_gather_1_c70_82 n x m r = some m' ∧ ∀ y, hasM m y = true → hasM m' y = true
  | 0, x, m, _, h => absurd h (by omega)
  | n + 1, x, m, hx, h => by
    rw [graph_gather_1_c70_82]
    cases hh : hasM m x with
    | true =>
      have hh' : (mGet m x).getD false = true := hh
      rw [hh', if_pos rfl]
      exact ⟨m, rfl, fun _ h => h⟩
    | false =>
      have hh' : (mGet m x).getD false = false := hh
      have hput := lack_put hh hx
      obtain ⟨l, a1, a2, a3⟩ := stepsAncestors n r x hs (by omega)
      rw [hh', if_neg (by simp), a1, Option.bind_some, show (0 : Int) = ((0 : Nat) : Int) from rfl]
      obtain ⟨m', b1, b2⟩ := visitAncestors_loop r ns l (graph_gather_1_c70_82 n) (by omega) (fun y hy => by obtain ⟨c, hc, rfl⟩ := a3 y hy; exact (hns.ends c hc).1) (lack ns (mPut m x true))
        (fun y hy m' hm' => visitAncestors r ns hns hs n y m' hy (by omega)) n 0 (mPut m x true) (by omega) (by omega) (Nat.le_refl _)
      exact ⟨m', b1, fun y hy => b2 y (by rw [hasM_put, hy]; simp)⟩

section
variable (n : Nat) (m2 : List (Str × Bool))
theorem delSeen_idx (l : List Str) (hl : l.length ≤ 100000000) (hp : ∀ x, ∃ b, graph_gather_2 n x m2 = some b) : ∀ (q i : Nat), i ≤ l.length → l.length - i < q →
    ∃ t : Int, slices_IndexFunc_string_c83_v1_L1 n l m2 q (i : Int) = some t ∧ (t = -1 ∨ ∃ k : Nat, t = (k : Int) ∧ k < l.length)
  | 0, i, h, hm => absurd hm (Nat.not_lt_zero _)
  | q + 1, i, h, hm => by
    rw [slices_IndexFunc_string_c83_v1_L1]
    by_cases hi : i < l.length
    · obtain ⟨x, hx⟩ := get_ex hi
      obtain ⟨b, hb⟩ := hp x
      rw [if_pos (by simpa using hi), atI_nat, hx, Option.bind_some, hb, Option.bind_some]
      cases b with
      | true => rw [if_pos rfl]; exact ⟨_, rfl, .inr ⟨i, rfl, hi⟩⟩
      | false =>
        rw [if_neg (by simp), wrapN (by omega)]
        exact delSeen_idx l hl hp q (i + 1) (by omega) (by omega)
    · rw [if_neg (by simpa using hi)]
      exact ⟨_, rfl, .inl rfl⟩

theorem delSeen_loop (len : Nat) (hl : len ≤ 100000000) (hp : ∀ x, ∃ b, graph_gather_2 n x m2 = some b) : ∀ (q j i : Nat) (l : List Str), l.length = len → i ≤ j → j ≤ len → len - j < q →
    ∃ l', slices_DeleteFunc_string_c83_v1_L1 n m2 q l (i : Int) (j : Int) = some l' ∧ l'.length ≤ len
  | 0, j, i, l, _, _, _, hm => absurd hm (Nat.not_lt_zero _)
  | q + 1, j, i, l, hll, hij, hj, hm => by
    rw [slices_DeleteFunc_string_c83_v1_L1]
    by_cases hk : j < l.length
    · obtain ⟨x, hx⟩ := get_ex hk
      obtain ⟨y, hy⟩ := get_ex (l := l) (i := i) (by omega)
      obtain ⟨b, hb⟩ := hp x
      rw [if_pos (by simpa using hk), atI_nat, hx, Option.bind_some, hb, Option.bind_some]
      cases b with
      | true =>
        rw [if_neg (by simp), wrapN (by omega)]
        exact delSeen_loop len hl hp q (j + 1) i l hll (by omega) (by omega) (by omega)
      | false =>
        rw [if_pos (by simp), atI_nat, hy, Option.bind_some, Option.bind_some, wrapN (by omega), wrapN (by omega)]
        exact delSeen_loop len hl hp q (j + 1) (i + 1) _ (by rw [List.length_set]; exact hll) (by omega) (by omega) (by omega)
    · rw [if_neg (by simpa using hk), Int.toNat_natCast, if_pos (by omega), if_pos (by omega), if_pos (by omega)]
      exact ⟨_, rfl, by rw [List.length_take]; omega⟩

theorem delSeen_eq (l : List Str) (hl : l.length ≤ 100000000) (hn : l.length < n) (hp : ∀ x, ∃ b, graph_gather_2 n x m2 = some b) : ∃ l', slices_DeleteFunc_string_c83_v1 n l m2 = some l' ∧ l'.length ≤ l.length := by
  obtain ⟨t, a1, a2⟩ := delSeen_idx n m2 l hl hp n 0 (by omega) (by omega)
  have a1' : slices_IndexFunc_string_c83_v1 n l m2 = some t := a1
  rw [slices_DeleteFunc_string_c83_v1, a1', Option.bind_some]
  rcases a2 with rfl | ⟨k, rfl, hk⟩
  · rw [if_pos (by decide)]; exact ⟨l, rfl, Nat.le_refl _⟩
  · rw [if_neg (by simp), wrapN (by omega)]
    exact delSeen_loop n m2 l.length hl hp n (k + 1) k l rfl (by omega) (by omega) (by omega)
end

section
variable (n : Nat) (b1 b2 : List Str)
theorem delDead_idx (l : List Str) (hl : l.length ≤ 100000000) (hp : ∀ x, ∃ b, flow_DeadNodes_1 n x b1 b2 = some b) : ∀ (q i : Nat), i ≤ l.length → l.length - i < q →
    ∃ t : Int, slices_IndexFunc_string_c55_v1_L1 n l b1 b2 q (i : Int) = some t ∧ (t = -1 ∨ ∃ k : Nat, t = (k : Int) ∧ k < l.length)
  | 0, i, h, hm => absurd hm (Nat.not_lt_zero _)
  | q + 1, i, h, hm => by
    rw [slices_IndexFunc_string_c55_v1_L1]
    by_cases hi : i < l.length
    · obtain ⟨x, hx⟩ := get_ex hi
      obtain ⟨b, hb⟩ := hp x
      rw [if_pos (by simpa using hi), atI_nat, hx, Option.bind_some, hb, Option.bind_some]
      cases b with
      | true => rw [if_pos rfl]; exact ⟨_, rfl, .inr ⟨i, rfl, hi⟩⟩
      | false =>
        rw [if_neg (by simp), wrapN (by omega)]
        exact delDead_idx l hl hp q (i + 1) (by omega) (by omega)
    · rw [if_neg (by simpa using hi)]
      exact ⟨_, rfl, .inl rfl⟩

theorem delDead_loop (len : Nat) (hl : len ≤ 100000000) (hp : ∀ x, ∃ b, flow_DeadNodes_1 n x b1 b2 = some b) : ∀ (q j i : Nat) (l : List Str), l.length = len → i ≤ j → j ≤ len → len - j < q →
    ∃ l', slices_DeleteFunc_string_c55_L1 n b1 b2 q l (i : Int) (j : Int) = some l' ∧ l'.length ≤ len
  | 0, j, i, l, _, _, _, hm => absurd hm (Nat.not_lt_zero _)
  | q + 1, j, i, l, hll, hij, hj, hm => by
    rw [slices_DeleteFunc_string_c55_L1]
    by_cases hk : j < l.length
    · obtain ⟨x, hx⟩ := get_ex hk
      obtain ⟨y, hy⟩ := get_ex (l := l) (i := i) (by omega)
      obtain ⟨b, hb⟩ := hp x
      rw [if_pos (by simpa using hk), atI_nat, hx, Option.bind_some, hb, Option.bind_some]
      cases b with
      | true =>
        rw [if_neg (by simp), wrapN (by omega)]
        exact delDead_loop len hl hp q (j + 1) i l hll (by omega) (by omega) (by omega)
      | false =>
        rw [if_pos (by simp), atI_nat, hy, Option.bind_some, Option.bind_some, wrapN (by omega), wrapN (by omega)]
        exact delDead_loop len hl hp q (j + 1) (i + 1) _ (by rw [List.length_set]; exact hll) (by omega) (by omega) (by omega)
    · rw [if_neg (by simpa using hk), Int.toNat_natCast, if_pos (by omega), if_pos (by omega), if_pos (by omega)]
      exact ⟨_, rfl, by rw [List.length_take]; omega⟩

theorem delDead_eq (l : List Str) (hl : l.length ≤ 100000000) (hn : l.length < n) (hp : ∀ x, ∃ b, flow_DeadNodes_1 n x b1 b2 = some b) : ∃ l', slices_DeleteFunc_string_c55 n l b1 b2 = some l' ∧ l'.length ≤ l.length := by
  obtain ⟨t, a1, a2⟩ := delDead_idx n b1 b2 l hl hp n 0 (by omega) (by omega)
  have a1' : slices_IndexFunc_string_c55_v1 n l b1 b2 = some t := a1
  rw [slices_DeleteFunc_string_c55, a1', Option.bind_some]
  rcases a2 with rfl | ⟨k, rfl, hk⟩
  · rw [if_pos (by decide)]; exact ⟨l, rfl, Nat.le_refl _⟩
  · rw [if_neg (by simp), wrapN (by omega)]
    exact delDead_loop n b1 b2 l.length hl hp n (k + 1) k l rfl (by omega) (by omega) (by omega)
end

theorem Reachable_ex (n : Nat) (r : ApiRung) (hs : r.Contacts.length ≤ 1000000) (hn : 4 * r.Contacts.length + 20 ≤ n) : ∃ l, graph_Reachable n r (⟨#[76]⟩ : Str) = some l ∧ l.length ≤ 2 + 2 * r.Contacts.length := by
  obtain ⟨ns, a1, a2⟩ := nodes_eq n r (by omega) hs
  have hlen := a2.len
  have hmem : (⟨#[76]⟩ : Str) ∈ ns := a2.L
  obtain ⟨m, b1, _⟩ := visitReachable r ns a2 hs n (⟨#[76]⟩ : Str) [] hmem (by have := lack_le ns []; omega)
  obtain ⟨l, c1, c2⟩ := delSeen_eq n m ns (by omega) (by omega) (fun x => ⟨_, rfl⟩)
  refine ⟨l, ?_, by omega⟩
  rw [graph_Reachable, graph_gather_c68, a1, Option.bind_some, containsS_eq n ns _ (by omega) (by omega), Option.bind_some, if_neg (by simp [hmem]), b1, Option.bind_some, c1]
  rfl

theorem Ancestors_ex (n : Nat) (r : ApiRung) (hs : r.Contacts.length ≤ 1000000) (hn : 4 * r.Contacts.length + 20 ≤ n) : ∃ l, graph_Ancestors n r (⟨#[82]⟩ : Str) = some l ∧ l.length ≤ 2 + 2 * r.Contacts.length := by
  obtain ⟨ns, a1, a2⟩ := nodes_eq n r (by omega) hs
  have hlen := a2.len
  have hmem : (⟨#[82]⟩ : Str) ∈ ns := a2.R
  obtain ⟨m, b1, _⟩ := visitAncestors r ns a2 hs n (⟨#[82]⟩ : Str) [] hmem (by have := lack_le ns []; omega)
  obtain ⟨l, c1, c2⟩ := delSeen_eq n m ns (by omega) (by omega) (fun x => ⟨_, rfl⟩)
  refine ⟨l, ?_, by omega⟩
  rw [graph_Ancestors, graph_gather_c70, a1, Option.bind_some, containsS_eq n ns _ (by omega) (by omega), Option.bind_some, if_neg (by simp [hmem]), b1, Option.bind_some, c1]
  rfl

/-- The check of a rung's graph ends; a rung that passes has no cycle. -/
theorem flow_ex (n : Nat) (r : ApiRung) (hs : r.Contacts.length ≤ 1000000) (hn : 4 * r.Contacts.length + 20 ≤ n) : ∃ e, flow_Check n r = some e ∧ (e = 0 → ∃ rank : Str → Nat, ∀ c ∈ r.Contacts, rank c.From < rank c.To) := by
  rw [flow_Check]
  by_cases h0 : r.Contacts.length = 0
  · rw [if_pos (by simpa using h0)]
    exact ⟨_, rfl, fun e => by cases e⟩
  rw [if_neg (by simpa using h0)]
  obtain ⟨s, e, a1, a2⟩ := TopoSort_eq n r hs (by omega)
  rw [a1, Option.bind_some]
  dsimp only
  by_cases he : e = 0
  · rw [if_neg (by simpa using he)]
    obtain ⟨l1, b1, b1'⟩ := Reachable_ex n r hs hn
    obtain ⟨l2, b2, b2'⟩ := Ancestors_ex n r hs hn
    obtain ⟨ns, c1, c2⟩ := nodes_eq n r (by omega) hs
    have hlen := c2.len
    obtain ⟨l, d1, _⟩ := delDead_eq n l1 l2 ns (by omega) (by omega) (fun x => by
      rw [flow_DeadNodes_1, containsS_eq n l1 x (by omega) (by omega), Option.bind_some]
      split
      · rw [containsS_eq n l2 x (by omega) (by omega)]; exact ⟨_, rfl⟩
      · exact ⟨_, rfl⟩)
    rw [flow_DeadNodes, b1, Option.bind_some, b2, Option.bind_some, c1, Option.bind_some, d1, Option.bind_some, Option.bind_some]
    split
    · exact ⟨_, rfl, fun e => by cases e⟩
    · exact ⟨_, rfl, fun _ => a2 he⟩
  · rw [if_pos (by simpa using he)]
    exact ⟨_, rfl, fun e => absurd e he⟩
end Go.G

namespace Go.G
open Go.Av

theorem has_loop (l : List Str) (x : Str) (hl : l.length ≤ 100000000) : ∀ (q i : Nat), i ≤ l.length → l.length - i < q → ref12_has_L1 l x q (i : Int) = some (decide (x ∈ l.drop i))
  | 0, i, h, hm => absurd hm (Nat.not_lt_zero _)
  | q + 1, i, h, hm => by
    rw [ref12_has_L1]
    by_cases hi : i < l.length
    · obtain ⟨y, hy⟩ := get_ex hi
      rw [if_pos (by simpa using hi), atI_nat, hy, Option.bind_some, drop_cons hy]
      by_cases hx : y = x
      · rw [if_pos (by simpa using hx)]; simp [hx]
      · have hx' : ¬ x = y := fun e => hx e.symm
        rw [if_neg (by simpa using hx), wrapN (by omega), has_loop l x hl q (i + 1) (by omega) (by omega)]; simp [hx']
    · rw [if_neg (by simpa using hi), List.drop_eq_nil_of_le (by omega)]; simp
theorem has_eq (n : Nat) (l : List Str) (x : Str) (hl : l.length ≤ 100000000) (hn : l.length < n) : ref12_has n l x = some (decide (x ∈ l)) := by
  rw [ref12_has, show (0 : Int) = ((0 : Nat) : Int) from rfl, has_loop l x hl n 0 (by omega) (by omega), List.drop_zero]

theorem rnodes_loop (n : Nat) (r : ApiRung) (hs : r.Contacts.length ≤ 1000000) (hn : 2 * r.Contacts.length + 10 ≤ n) : ∀ (q i : Nat) (l : List Str), i ≤ r.Contacts.length → r.Contacts.length - i < q → l.length ≤ 2 + 2 * i →
    ∃ l', ref12_Nodes_L1 n r q l (i : Int) = some l' ∧ (∀ x ∈ l, x ∈ l') ∧ (∀ c ∈ r.Contacts.drop i, c.From ∈ l' ∧ c.To ∈ l') ∧ l'.length ≤ 2 + 2 * r.Contacts.length
  | 0, i, l, h, hm, _ => absurd hm (Nat.not_lt_zero _)
  | q + 1, i, l, h, hm, hl => by
    rw [ref12_Nodes_L1]
    by_cases hi : i < r.Contacts.length
    · obtain ⟨c, hc⟩ := get_ex hi
      rw [if_pos (by simpa using hi), atI_nat, hc, Option.bind_some, has_eq n l _ (by omega) (by omega), Option.bind_some]
      have key : ∀ l1 : List Str, l1.length ≤ l.length + 1 → (∀ x ∈ l, x ∈ l1) → c.From ∈ l1 →
          ∃ l', ref12_Nodes_J2 n r (i : Int) (ref12_Nodes_L1 n r q) l1 = some l' ∧ (∀ x ∈ l, x ∈ l') ∧ (∀ d ∈ r.Contacts.drop i, d.From ∈ l' ∧ d.To ∈ l') ∧ l'.length ≤ 2 + 2 * r.Contacts.length := fun l1 h1 h2 h3 => by
        rw [ref12_Nodes_J2, atI_nat, hc, Option.bind_some, has_eq n l1 _ (by omega) (by omega), Option.bind_some, drop_cons hc]
        have fin : ∀ l2 : List Str, l2.length ≤ l.length + 2 → (∀ x ∈ l1, x ∈ l2) → c.To ∈ l2 →
            ∃ l', ref12_Nodes_L1 n r q l2 ((i + 1 : Nat) : Int) = some l' ∧ (∀ x ∈ l, x ∈ l') ∧ (∀ d ∈ c :: r.Contacts.drop (i + 1), d.From ∈ l' ∧ d.To ∈ l') ∧ l'.length ≤ 2 + 2 * r.Contacts.length := fun l2 g1 g2 g3 => by
          obtain ⟨l', a1, a2, a3, a4⟩ := rnodes_loop n r hs hn q (i + 1) l2 (by omega) (by omega) (by omega)
          refine ⟨l', a1, fun x hx => a2 x (g2 x (h2 x hx)), fun d hd => ?_, a4⟩
          rcases List.mem_cons.1 hd with rfl | hd
          · exact ⟨a2 _ (g2 _ h3), a2 _ g3⟩
          · exact a3 d hd
        by_cases ht : c.To ∈ l1
        · rw [if_neg (by simp [ht]), wrapN (by omega)]
          exact fin l1 (by omega) (fun _ h => h) ht
        · rw [if_pos (by simp [ht]), if_pos (by simp; omega), Option.bind_some, wrapN (by omega)]
          exact fin _ (by simp; omega) (fun x hx => by simp [hx]) (by simp)
      by_cases hf : c.From ∈ l
      · rw [if_neg (by simp [hf])]
        exact key l (by omega) (fun _ h => h) hf
      · rw [if_pos (by simp [hf]), if_pos (by simp; omega), Option.bind_some]
        exact key _ (by simp) (fun x hx => by simp [hx]) (by simp)
    · rw [if_neg (by simpa using hi)]
      refine ⟨l, rfl, fun _ h => h, ?_, by omega⟩
      rw [List.drop_eq_nil_of_le (by omega)]
      intro c hc; cases hc

/-- How many of the nodes are not there yet. -/
def lackL (all g : List Str) : Nat := (all.filter fun x => !decide (x ∈ g)).length
theorem lackL_mono {g g' : List Str} (h : ∀ x ∈ g, x ∈ g') : ∀ all : List Str, lackL all g' ≤ lackL all g
  | [] => by simp [lackL]
  | x :: all => by
    have ih := lackL_mono h all
    simp only [lackL, List.filter_cons] at ih ⊢
    by_cases h1 : x ∈ g
    · simp [h1, h x h1]; simpa using ih
    · by_cases h2 : x ∈ g'
      · simp [h1, h2]; omega
      · simp [h1, h2]; simpa using ih
theorem lackL_add {g : List Str} {y : Str} (hy : y ∉ g) : ∀ {all : List Str}, y ∈ all → lackL all (g ++ [y]) + 1 ≤ lackL all g
  | x :: all, h => by
    have mono := lackL_mono (g := g) (g' := g ++ [y]) (fun z hz => by simp [hz]) all
    by_cases e : x = y
    · subst e
      simp only [lackL, List.filter_cons] at mono ⊢
      simp [hy]; simp at mono; omega
    · have hm : y ∈ all := by
        rcases List.mem_cons.1 h with h | h
        · exact absurd h.symm e
        · exact h
      have ih := lackL_add hy hm
      simp only [lackL, List.filter_cons] at ih ⊢
      by_cases h1 : x ∈ g
      · simp [h1]; simp at ih; omega
      · simp [h1, e]; simp at ih; omega

def ClosedL (cs : List ApiContact) (g : List Str) : Prop := ∀ c ∈ cs, c.From ∈ g → c.To ∈ g
/-- What is sound. -/
def SoundL (cs : List ApiContact) (g : List Str) : Prop := ∀ x ∈ g, Reach cs (List.replicate cs.length true) x

theorem spread_track (n : Nat) (r : ApiRung) (hs : r.Contacts.length ≤ 1000000) (all : List Str) (hall : ∀ c ∈ r.Contacts, c.To ∈ all) (hlen : all.length ≤ 3000000) (p : Int) (R : Int → List Str → Option (List Str)) (g0 : List Str) (hn : 2 * all.length + 12 ≤ n ∧ lackL all g0 + g0.length ≤ all.length + 1) :
    ∀ (q i : Nat) (g : List Str), i ≤ r.Contacts.length → r.Contacts.length - i < q → SoundL r.Contacts g → (∀ x ∈ g0, x ∈ g) → lackL all g + g.length ≤ all.length + 1 → (ClosedL r.Contacts g0 → g = g0) →
      ((g = g0 ∧ ∀ (k : Nat) (c : ApiContact), k < i → r.Contacts[k]? = some c → c.From ∈ g → c.To ∈ g) ∨ lackL all g + 1 ≤ lackL all g0) →
      ∃ g1, SoundL r.Contacts g1 ∧ (∀ x ∈ g0, x ∈ g1) ∧ lackL all g1 + g1.length ≤ all.length + 1 ∧ (ClosedL r.Contacts g0 → g1 = g0) ∧ (ClosedL r.Contacts g1 ∨ lackL all g1 + 1 ≤ lackL all g0) ∧
        ref12_spread_L4 n r false p R q (i : Int) g = R (IntKind.i64.wrap (p + 1)) g1
  | 0, i, g, h, hm, _, _, _, _, _ => absurd hm (Nat.not_lt_zero _)
  | q + 1, i, g, h, hm, h1, h2, h3, h4, h5 => by
    rw [ref12_spread_L4]
    have ih := fun g' => spread_track n r hs all hall hlen p R g0 hn q (i + 1) g'
    by_cases hi : i < r.Contacts.length
    · obtain ⟨c, hc⟩ := get_ex hi
      have mc := List.mem_of_getElem? hc
      have skip : (c.From ∈ g → c.To ∈ g) → ∃ g1, SoundL r.Contacts g1 ∧ (∀ x ∈ g0, x ∈ g1) ∧ lackL all g1 + g1.length ≤ all.length + 1 ∧ (ClosedL r.Contacts g0 → g1 = g0) ∧ (ClosedL r.Contacts g1 ∨ lackL all g1 + 1 ≤ lackL all g0) ∧ ref12_spread_L4 n r false p R q ((i + 1 : Nat) : Int) g = R (IntKind.i64.wrap (p + 1)) g1 := fun hsk => by
        refine ih g (by omega) (by omega) h1 h2 h3 h4 (h5.imp (fun ⟨e, a⟩ => ⟨e, fun k d hk hd hf => ?_⟩) id)
        rcases Nat.lt_or_ge k i with g1 | g1
        · exact a k d g1 hd hf
        · have : k = i := by omega
          subst this; rw [hc] at hd; cases hd; exact hsk hf
      rw [if_pos (by simpa using hi), atI_nat, hc, Option.bind_some, if_neg (by simp), ref12_spread_J5, has_eq n g _ (by omega) (by omega), Option.bind_some, wrapN (by omega)]
      by_cases hf : c.From ∈ g
      · rw [if_pos (by simp [hf]), has_eq n g _ (by omega) (by omega), Option.bind_some]
        by_cases ht : c.To ∈ g
        · rw [if_neg (by simp [ht])]
          exact skip fun _ => ht
        · rw [if_pos (by simp [ht]), if_pos (by simp; omega), Option.bind_some]
          have hl := lackL_add ht (hall c mc)
          have hlm := lackL_mono h2 all
          refine ih _ (by omega) (by omega) (fun x hx => ?_) (fun x hx => by simp [h2 x hx]) (by simp; omega) (fun hcl => ?_) (.inr (by omega))
          · rcases List.mem_append.1 hx with hx | hx
            · exact h1 x hx
            · rw [List.mem_singleton] at hx; subst hx
              exact .step i c hc (by rw [List.getElem?_replicate, if_pos hi]) (h1 _ hf)
          · have e := h4 hcl
            subst e
            exact absurd (hcl c mc hf) ht
      · rw [if_neg (by simp [hf])]
        exact skip fun h => absurd h hf
    · have hie : i = r.Contacts.length := by omega
      rw [if_neg (by simpa using hi)]
      refine ⟨g, h1, h2, h3, h4, h5.imp (fun ⟨e, a⟩ => fun d hd hf => ?_) id, rfl⟩
      obtain ⟨k, hk⟩ := List.getElem?_of_mem hd
      exact a k d (by have := get_lt hk; omega) hk hf

theorem out_loop (n : Nat) (all g : List Str) (hall : all.length ≤ 3000000) (hg : g.length ≤ 3000010) (hn : g.length < n) : ∀ (q i : Nat) (acc : List Str), i ≤ all.length → all.length - i < q → acc.length ≤ i → ref12_spread_L2 n all g q acc (i : Int) = some (acc ++ (all.drop i).filter fun x => decide (x ∈ g))
  | 0, i, acc, h, hm, _ => absurd hm (Nat.not_lt_zero _)
  | q + 1, i, acc, h, hm, ha => by
    rw [ref12_spread_L2]
    by_cases hi : i < all.length
    · obtain ⟨x, hx⟩ := get_ex hi
      rw [if_pos (by simpa using hi), atI_nat, hx, Option.bind_some, has_eq n g _ (by omega) (by omega), Option.bind_some, wrapN (by omega), drop_cons hx, List.filter_cons]
      by_cases hm' : x ∈ g
      · rw [if_pos (by simp [hm']), if_pos (by simp; omega), Option.bind_some, out_loop n all g hall hg hn q (i + 1) _ (by omega) (by omega) (by simp; omega)]; simp [hm']
      · rw [if_neg (by simp [hm']), out_loop n all g hall hg hn q (i + 1) _ (by omega) (by omega) (by omega)]; simp [hm']
    · rw [if_neg (by simpa using hi), List.drop_eq_nil_of_le (by omega)]; simp

theorem spread_rounds (n : Nat) (r : ApiRung) (hs : r.Contacts.length ≤ 1000000) (all : List Str) (hall : ∀ c ∈ r.Contacts, c.To ∈ all) (hlen : all.length ≤ 3000000) (hn : 2 * all.length + r.Contacts.length + 20 ≤ n) : ∀ (q p : Nat) (g : List Str), p ≤ all.length → all.length - p < q →
    SoundL r.Contacts g → strL ∈ g → lackL all g + g.length ≤ all.length + 1 → (ClosedL r.Contacts g ∨ lackL all g + p + 1 ≤ all.length) →
    ∃ g', ref12_spread_L3 n r false all q (p : Int) g = some (all.filter fun x => decide (x ∈ g')) ∧ SoundL r.Contacts g' ∧ ClosedL r.Contacts g' ∧ strL ∈ g'
  | 0, p, g, h, hm, _, _, _, _ => absurd hm (Nat.not_lt_zero _)
  | q + 1, p, g, h, hm, h1, h2, h3, h4 => by
    rw [ref12_spread_L3]
    by_cases hp : p < all.length
    · rw [if_pos (by simpa using hp), show (0 : Int) = ((0 : Nat) : Int) from rfl]
      obtain ⟨g1, a1, a2, a3, a4, a5, e⟩ := spread_track n r hs all hall hlen (p : Int) (ref12_spread_L3 n r false all q) g ⟨by omega, h3⟩ n 0 g (by omega) (by omega) h1 (fun _ h => h) h3 (fun _ => rfl) (.inl ⟨rfl, fun k c hk => absurd hk (Nat.not_lt_zero _)⟩)
      rw [e, wrapN (by omega)]
      refine spread_rounds n r hs all hall hlen hn q (p + 1) g1 (by omega) (by omega) a1 (a2 _ h2) a3 ?_
      rcases h4 with h4 | h4
      · rw [a4 h4]; exact .inl h4
      · rcases a5 with a5 | a5
        · exact .inl a5
        · exact .inr (by omega)
    · have hpe : p = all.length := by omega
      rw [if_neg (by simpa using hp), ref12_spread_J1, show (0 : Int) = ((0 : Nat) : Int) from rfl, out_loop n all g hlen (by omega) (by omega) n 0 [] (by omega) (by omega) (by simp)]
      refine ⟨g, by simp, h1, ?_, h2⟩
      rcases h4 with h4 | h4
      · exact h4
      · omega
end Go.G

namespace Go.G
open Go.Av

mutual
def ev (on : List Bool) : TreeTree → Bool
  | .mk K N ks => if K = 1 then evAll on ks else if K = 2 then evAny on ks else (on[N.toNat]?).getD false
def evAll (on : List Bool) : List TreeTree → Bool
  | [] => true
  | k :: ks => ev on k && evAll on ks
def evAny (on : List Bool) : List TreeTree → Bool
  | [] => false
  | k :: ks => ev on k || evAny on ks
end
theorem evAll_eq (on : List Bool) : ∀ ks, evAll on ks = ks.all (ev on)
  | [] => rfl
  | k :: ks => by rw [evAll, evAll_eq on ks]; rfl
theorem evAny_eq (on : List Bool) : ∀ ks, evAny on ks = ks.any (ev on)
  | [] => rfl
  | k :: ks => by rw [evAny, evAny_eq on ks]; rfl

theorem ev_join1 (on : List Bool) (a b : TreeTree) : ev on (joinT 1 a b) = (ev on a && ev on b) := by
  have h : ∀ a : TreeTree, (joinK 1 a).all (ev on) = ev on a := fun a => by
    unfold joinK
    split
    · rename_i h
      obtain ⟨K, N, ks⟩ := a
      rw [TreeTree_Kind_mk] at h; subst h
      rw [ev, if_pos rfl, evAll_eq]; rfl
    · simp
  rw [joinT, ev, if_pos rfl, evAll_eq, List.all_append, h, h]
theorem ev_join2 (on : List Bool) (a b : TreeTree) : ev on (joinT 2 a b) = (ev on a || ev on b) := by
  have h : ∀ a : TreeTree, (joinK 2 a).any (ev on) = ev on a := fun a => by
    unfold joinK
    split
    · rename_i h
      obtain ⟨K, N, ks⟩ := a
      rw [TreeTree_Kind_mk] at h; subst h
      rw [ev, if_neg (by decide), if_pos rfl, evAny_eq]; rfl
    · simp
  rw [joinT, ev, if_neg (by decide), if_pos rfl, evAny_eq, List.any_append, h, h]

theorem ev_sorted (on : List Bool) : ∀ t : TreeTree, ev on (sortedS t) = ev on t := by
  intro t
  induction t using tree_ind with
  | h K N ks ih =>
    have hm : ∀ js : List TreeTree, (∀ k ∈ js, ev on (sortedS k) = ev on k) → (js.map sortedS).all (ev on) = js.all (ev on) ∧ (js.map sortedS).any (ev on) = js.any (ev on) := by
      intro js
      induction js with
      | nil => intro _; exact ⟨rfl, rfl⟩
      | cons k js ihj =>
        intro h
        obtain ⟨h1, h2⟩ := ihj fun j hj => h j (by simp [hj])
        rw [List.map_cons, List.all_cons, List.all_cons, List.any_cons, List.any_cons, h k (by simp), h1, h2]
        exact ⟨rfl, rfl⟩
    obtain ⟨h1, h2⟩ := hm ks ih
    have hp := sortedS_kids K N ks
    rw [sortedS_eq, TreeTree_Kind_mk, TreeTree_N_mk, ev, ev, evAll_eq, evAll_eq, evAny_eq, evAny_eq, hp.all_eq, hp.any_eq, h1, h2]

/-- What is reached from the left rail, over edges. -/
inductive PathE (l : List ReduceEdge) (on : List Bool) : Str → Prop
  | left : PathE l on strLL
  | step (e : ReduceEdge) (h1 : e ∈ l) (h2 : ev on e.t_ = true) (h3 : PathE l on e.pair.from_) : PathE l on e.pair.to_

theorem PathE.red {len : Nat} {rank : Str → Nat} {l l' : List ReduceEdge} (h : RInv len rank l) (k : Red l l') (on : List Bool) : PathE l on strRR ↔ PathE l' on strRR := by
  cases k with
  | @par i j x y hx hy hij hp =>
    have key : ∀ z, PathE l on z ↔ PathE ((l.set i ⟨x.pair, joinT 2 x.t_ y.t_⟩).eraseIdx j) on z := fun z => by
      constructor
      · intro hz
        induction hz with
        | left => exact .left
        | step e h1 h2 _ ih =>
          obtain ⟨q, hq⟩ := List.getElem?_of_mem h1
          have mem := fun e' => (step_mem (a := (⟨x.pair, joinT 2 x.t_ y.t_⟩ : ReduceEdge)) hx hy (by omega) e').2
          by_cases e1 : q = i
          · subst e1
            rw [hx] at hq; cases hq
            exact .step ⟨x.pair, joinT 2 x.t_ y.t_⟩ (mem _ (.inl rfl)) (by rw [ev_join2, h2]; rfl) ih
          · by_cases e2 : q = j
            · subst e2
              rw [hy] at hq; cases hq
              rw [hp] at ih ⊢
              exact .step ⟨x.pair, joinT 2 x.t_ y.t_⟩ (mem _ (.inl rfl)) (by rw [ev_join2, h2]; simp) ih
            · exact .step e (mem e (.inr ⟨q, e1, e2, hq⟩)) h2 ih
      · intro hz
        induction hz with
        | left => exact .left
        | step e h1 h2 _ ih =>
          rcases (step_mem hx hy (by omega) e).1 h1 with rfl | ⟨q, _, _, hq⟩
          · simp only at h2 ih ⊢
            rw [ev_join2, Bool.or_eq_true] at h2
            rcases h2 with h2 | h2
            · exact .step x (List.mem_of_getElem? hx) h2 ih
            · rw [← hp] at ih ⊢
              exact .step y (List.mem_of_getElem? hy) h2 ih
          · exact .step e (List.mem_of_getElem? hq) h2 ih
    exact key _
  | @ser i j x y hx hy hL hR hyf hto hfr =>
    have r1 := h.rk _ (List.mem_of_getElem? hx)
    have r2 := h.rk _ (List.mem_of_getElem? hy)
    rw [hyf] at r2
    have hij : i ≠ j := fun e => by
      subst e
      rw [hx] at hy; cases hy
      rw [hyf] at r1; omega
    have mem := fun e' => (step_mem (a := (⟨⟨x.pair.from_, y.pair.to_⟩, joinT 1 x.t_ y.t_⟩ : ReduceEdge)) hx hy hij e').2
    constructor
    · intro hz
      have key : ∀ z, PathE l on z → (z ≠ x.pair.to_ → PathE ((l.set i ⟨⟨x.pair.from_, y.pair.to_⟩, joinT 1 x.t_ y.t_⟩).eraseIdx j) on z) ∧
          (z = x.pair.to_ → PathE ((l.set i ⟨⟨x.pair.from_, y.pair.to_⟩, joinT 1 x.t_ y.t_⟩).eraseIdx j) on x.pair.from_ ∧ ev on x.t_ = true) := by
        intro z hz
        induction hz with
        | left => exact ⟨fun _ => .left, fun e => absurd e.symm hL⟩
        | step e h1 h2 _ ih =>
          obtain ⟨q, hq⟩ := List.getElem?_of_mem h1
          constructor
          · intro hne
            by_cases hf : e.pair.from_ = x.pair.to_
            · have e1 := hfr q e hq hf
              subst e1
              rw [hy] at hq; cases hq
              obtain ⟨p1, p2⟩ := ih.2 hf
              exact .step ⟨⟨x.pair.from_, y.pair.to_⟩, joinT 1 x.t_ y.t_⟩ (mem _ (.inl rfl)) (by rw [ev_join1, p2, h2]; rfl) p1
            · refine .step e (mem e (.inr ⟨q, fun e1 => ?_, fun e2 => ?_, hq⟩)) h2 (ih.1 hf)
              · subst e1; rw [hx] at hq; cases hq; exact hne rfl
              · subst e2; rw [hy] at hq; cases hq; exact hf hyf
          · intro he
            have e1 := hto q e hq he
            subst e1
            rw [hx] at hq; cases hq
            exact ⟨ih.1 (fun e => by rw [e] at r1; omega), h2⟩
      exact (key _ hz).1 (fun e => hR e.symm)
    · intro hz
      have key : ∀ z, PathE ((l.set i ⟨⟨x.pair.from_, y.pair.to_⟩, joinT 1 x.t_ y.t_⟩).eraseIdx j) on z → PathE l on z := by
        intro z hz
        induction hz with
        | left => exact .left
        | step e h1 h2 _ ih =>
          rcases (step_mem hx hy hij e).1 h1 with rfl | ⟨q, _, _, hq⟩
          · simp only at h2 ih ⊢
            rw [ev_join1, Bool.and_eq_true] at h2
            have := PathE.step x (List.mem_of_getElem? hx) h2.1 ih
            rw [← hyf] at this
            exact .step y (List.mem_of_getElem? hy) h2.2 this
          · exact .step e (List.mem_of_getElem? hq) h2 ih
      exact key _ hz

theorem PathE.reds {len : Nat} {rank : Str → Nat} {l l' : List ReduceEdge} (h : RInv len rank l) (k : Reds l l') (on : List Bool) : PathE l on strRR ↔ PathE l' on strRR := by
  induction k with
  | refl => exact .rfl
  | tail k1 k ih => exact ih.trans (PathE.red (h.reds k1) k on)

theorem strLR : strLL ≠ strRR := by decide

/-- One edge from rail to rail conducts as its tree does. -/
theorem PathE.one (x : ReduceEdge) (h1 : x.pair.from_ = strLL) (h2 : x.pair.to_ = strRR) (on : List Bool) : PathE [x] on strRR ↔ ev on x.t_ = true := by
  constructor
  · intro h
    have key : ∀ z, PathE [x] on z → z = strRR → ev on x.t_ = true := by
      intro z hz
      cases hz with
      | left => intro e; exact absurd e strLR
      | step e m1 m2 _ =>
        intro _
        rw [List.mem_singleton] at m1; subst m1; exact m2
    exact key _ h rfl
  · intro h
    have : PathE [x] on x.pair.from_ := by rw [h1]; exact .left
    have := PathE.step x (by simp) h this
    rwa [h2] at this
end Go.G

namespace Go.G
open Go.Av

mutual
/-- The check of a tree: a code and the leaves seen. -/
def chk (many : Int) : TreeTree → List Int → Int × List Int
  | .mk K N ks, l =>
    if K < 0 ∨ K > 2 then (8, l)
    else if K = 0 then (if 0 < ks.length then (2, l) else if N < 0 ∨ N ≥ many then (3, l) else if N ∈ l then (9, l) else (0, l ++ [N]))
    else if N ≠ 0 then (2, l)
    else if ks.length < 2 then (5, l)
    else if ks.any (fun k => k.Kind == K) = true then (14, l)
    else chks many ks l
def chks (many : Int) : List TreeTree → List Int → Int × List Int
  | [], l => (0, l)
  | k :: ks, l => if (chk many k l).1 ≠ 0 then chk many k l else chks many ks (chk many k l).2
end

/-- A set as a map. -/
def mp (l : List Int) : List (Int × Bool) := l.map fun x => (x, true)
theorem mp_get (l : List Int) (x : Int) : (mGet (mp l) x).getD false = decide (x ∈ l) := by
  induction l with
  | nil => simp [mp, mGet]
  | cons a l ih =>
    simp only [mp, List.map_cons, mGet] at ih ⊢
    by_cases h : x = a
    · simp [h]
    · have : (x == a) = false := by simpa using h
      simp [this, ih, h]
theorem mp_put (l : List Int) (x : Int) (h : x ∉ l) : mPut (mp l) x true = mp (l ++ [x]) := by
  induction l with
  | nil => rfl
  | cons a l ih =>
    simp only [List.mem_cons, not_or] at h
    have h1 : (x == a) = false := by simpa using h.1
    have := ih h.2
    simp only [mp, List.map_cons, List.cons_append, mPut, h1, Bool.false_eq_true, if_false] at this ⊢
    rw [this]
theorem mp_len (l : List Int) : (mp l).length = l.length := by simp [mp]

theorem c37_loop (n : Nat) (s : List TreeTree) (b : TreeTree) (hs : s.length ≤ 1000000000) : ∀ (k i : Nat), i ≤ s.length → s.length - i < k →
    ∃ r, slices_IndexFunc_tree_Tree_c59_L1 n s b k (i : Int) = some r ∧ decide (r ≥ 0) = (s.drop i).any fun x => x.Kind == b.Kind
  | 0, i, h, hk => absurd hk (Nat.not_lt_zero _)
  | k + 1, i, h, hk => by
    rw [slices_IndexFunc_tree_Tree_c59_L1]
    by_cases hi : i < s.length
    · obtain ⟨x, hx⟩ := get_ex hi
      rw [if_pos (by simpa using hi), atI_nat, hx, Option.bind_some]
      simp only [tree_Tree_check_1, Option.bind_some]
      rw [drop_cons hx, List.any_cons]
      cases hc : (x.Kind == b.Kind) with
      | true => exact ⟨(i : Int), by simp, by simp⟩
      | false =>
        rw [wrapN (by omega)]
        obtain ⟨r, h1, h2⟩ := c37_loop n s b hs k (i + 1) (by omega) (by omega)
        exact ⟨r, by simpa using h1, by simpa using h2⟩
    · rw [if_neg (by simpa using hi)]
      refine ⟨-1, rfl, ?_⟩
      rw [List.drop_eq_nil_of_le (by omega)]; rfl
theorem c37_eq (n : Nat) (s : List TreeTree) (b : TreeTree) (hs : s.length ≤ 1000000000) (h : s.length < n) : slices_ContainsFunc_tree_Tree_c59 n s b = some (s.any fun x => x.Kind == b.Kind) := by
  obtain ⟨r, h1, h2⟩ := c37_loop n s b hs n 0 (by omega) (by omega)
  simp only [slices_ContainsFunc_tree_Tree_c59, slices_IndexFunc_tree_Tree_c59]
  rw [show (0 : Int) = ((0 : Nat) : Int) from rfl, h1, Option.bind_some]
  rw [List.drop_zero] at h2
  exact congrArg some h2

theorem check_loop (t : TreeTree) (many : Int) (slf : TreeTree → Int → List (Int × Bool) → Option (Int × List (Int × Bool))) (hs : t.Kids.length ≤ 1000000000)
    (hf : ∀ k ∈ t.Kids, ∀ l, slf k many (mp l) = some ((chk many k l).1, mp (chk many k l).2)) : ∀ (k i : Nat) (l : List Int), i ≤ t.Kids.length → t.Kids.length - i < k →
    tree_Tree_check_L2 t many slf k (mp l) (i : Int) = some ((chks many (t.Kids.drop i) l).1, mp (chks many (t.Kids.drop i) l).2)
  | 0, i, l, h, hk => absurd hk (Nat.not_lt_zero _)
  | k + 1, i, l, h, hk => by
    rw [tree_Tree_check_L2]
    by_cases hi : i < t.Kids.length
    · obtain ⟨x, hx⟩ := get_ex hi
      rw [if_pos (by simpa using hi), atI_nat, hx, Option.bind_some, hf x (List.mem_of_getElem? hx) l, Option.bind_some, drop_cons hx, chks]
      by_cases he : (chk many x l).1 = 0
      · have := check_loop t many slf hs hf k (i + 1) (chk many x l).2 (by omega) (by omega)
        simp only [he, bne_self_eq_false, Bool.false_eq_true, if_false, ne_eq, not_true]
        rw [wrapN (by omega), this]
      · simp [he]
    · rw [if_neg (by simpa using hi), List.drop_eq_nil_of_le (by omega), chks]

theorem tree_Tree_check_eq (many : Int) : ∀ (t : TreeTree) (n : Nat) (l : List Int), szT t ≤ 1000000000 → szT t < n → tree_Tree_check n t many (mp l) = some ((chk many t l).1, mp (chk many t l).2) := by
  intro t
  induction t using tree_ind with
  | h K N ks ih =>
    intro n l hb hn
    obtain ⟨m, rfl, hlen, hk⟩ := szT_kids hn
    have hl : ks.length ≤ 1000000000 := by have := szL_len ks; simp only [szT] at hb; omega
    have hkb : ∀ k ∈ ks, szT k ≤ 1000000000 := fun k hk => by have := szL_mem hk; simp only [szT] at hb; omega
    have hloop := check_loop (.mk K N ks) many (tree_Tree_check m) hl (fun k hk' l => ih k hk' m l (hkb k hk') (hk k hk')) m 0 l (by omega) (by simpa [TreeTree_Kids_mk] using hlen)
    rw [tree_Tree_check, chk]
    simp only [TreeTree_Kind_mk, TreeTree_N_mk, TreeTree_Kids_mk, mp_get, c37_eq m ks _ hl hlen, Option.bind_some, tree_Tree_check_J1] at hloop ⊢
    rw [show ((0 : Nat) : Int) = 0 from rfl, List.drop_zero] at hloop
    rw [hloop]
    by_cases h0 : K < 0
    · simp [h0]
    by_cases h2 : K > 2
    · simp [h0, h2]
    by_cases hK : K = 0
    · subst hK
      by_cases hz : 0 < ks.length
      · simp [hz]
      by_cases hN : N < 0
      · simp [hz, hN]
      by_cases hM : N ≥ many
      · simp [hz, hN, hM]
      by_cases hin : N ∈ l
      · simp [hz, hN, hM, hin]
      · simp [hz, hN, hM, hin, mp_put l N hin]
    by_cases hN : N = 0
    · by_cases hz : ks.length < 2
      · have : (ks.length : Int) < 2 := by omega
        simp [h0, h2, hK, hN, hz, this]
      · have : ¬ (ks.length : Int) < 2 := by omega
        generalize ks.any (fun x => x.Kind == K) = b
        cases b <;> simp [h0, h2, hK, hN, hz, this]
    · simp [h0, h2, hK, hN]
/-- A tree's check. -/
def checkS (t : TreeTree) (many : Int) : Int :=
  if (chk many t []).1 ≠ 0 then (chk many t []).1 else if ((chk many t []).2.length : Int) ≠ imax 0 many then 4 else 0

theorem tree_Check_eq (t : TreeTree) (many : Int) (n : Nat) (hb : szT t ≤ 1000000000) (hn : szT t < n) : tree_Check n t many = some (checkS t many) := by
  rw [tree_Check]
  have := tree_Tree_check_eq many t n [] hb hn
  rw [show mp [] = [] from rfl] at this
  rw [this, Option.bind_some, checkS]
  simp only [mp_len]
  by_cases he : (chk many t []).1 = 0
  · by_cases hl : ((chk many t []).2.length : Int) = imax 0 many <;> simp [he, hl]
  · simp [he]

theorem chk_iff (many : Int) : ∀ (t : TreeTree) (l : List Int), ((chk many t l).1 = 0 ↔ Ok many t ∧ (lv t).Nodup ∧ ∀ x ∈ lv t, x ∉ l) ∧ ((chk many t l).1 = 0 → (chk many t l).2 = l ++ lv t) := by
  intro t
  induction t using tree_ind with
  | h K N ks ih =>
    have hs : ∀ (js : List TreeTree), (∀ k ∈ js, ∀ l, ((chk many k l).1 = 0 ↔ Ok many k ∧ (lv k).Nodup ∧ ∀ x ∈ lv k, x ∉ l) ∧ ((chk many k l).1 = 0 → (chk many k l).2 = l ++ lv k)) →
        ∀ l, ((chks many js l).1 = 0 ↔ OkL many js ∧ (lvs js).Nodup ∧ ∀ x ∈ lvs js, x ∉ l) ∧ ((chks many js l).1 = 0 → (chks many js l).2 = l ++ lvs js) := by
      intro js
      induction js with
      | nil => intro _ l; simp [chks, OkL, lvs]
      | cons k js ihj =>
        intro h l
        obtain ⟨h1, h2⟩ := h k (by simp) l
        rw [chks]
        by_cases he : (chk many k l).1 = 0
        · have e2 := h2 he
          obtain ⟨g1, g2, g3⟩ := h1.1 he
          obtain ⟨i1, i2⟩ := ihj (fun k hk => h k (by simp [hk])) (l ++ lv k)
          rw [if_neg (by simpa using he), e2]
          refine ⟨?_, fun hz => by rw [i2 hz, lvs, List.append_assoc]⟩
          rw [i1, OkL, lvs, List.nodup_append]
          constructor
          · rintro ⟨a1, a2, a3⟩
            refine ⟨⟨g1, a1⟩, ⟨g2, a2, fun a ha b hb e => ?_⟩, fun x hx => ?_⟩
            · subst e; exact a3 a hb (by simp [ha])
            · rcases List.mem_append.1 hx with hx | hx
              · exact g3 x hx
              · intro hl; exact a3 x hx (by simp [hl])
          · rintro ⟨⟨_, a1⟩, ⟨_, a2, a3⟩, a4⟩
            refine ⟨a1, a2, fun x hx hm => ?_⟩
            rcases List.mem_append.1 hm with hm | hm
            · exact a4 x (by simp [hx]) hm
            · exact a3 x hm x hx rfl
        · rw [if_pos he]
          refine ⟨⟨fun hz => absurd hz he, fun ⟨a1, a2, a3⟩ => ?_⟩, fun hz => absurd hz he⟩
          exfalso
          rw [OkL] at a1
          rw [lvs, List.nodup_append] at a2
          rw [lvs] at a3
          exact he (h1.2 ⟨a1.1, a2.1, fun x hx => a3 x (by simp [hx])⟩)
    intro l
    obtain ⟨s1, s2⟩ := hs ks ih l
    rw [chk, Ok, lv]
    by_cases h0 : K < 0 ∨ K > 2
    · rw [if_pos h0]
      refine ⟨⟨fun hz => by simp at hz, fun ⟨h, _⟩ => ?_⟩, fun hz => by simp at hz⟩
      rcases h with ⟨h, _⟩ | ⟨h, _⟩ <;> omega
    rw [if_neg h0]
    by_cases hK : K = 0
    · subst hK
      simp only [if_true]
      by_cases hz : 0 < ks.length
      · rw [if_pos hz]
        refine ⟨⟨fun hz => by simp at hz, fun ⟨h, _⟩ => ?_⟩, fun hz => by simp at hz⟩
        rcases h with ⟨_, h, _⟩ | ⟨h, _⟩
        · subst h; simp at hz
        · omega
      rw [if_neg hz]
      have hnil : ks = [] := List.length_eq_zero_iff.1 (by omega)
      by_cases hN : N < 0 ∨ N ≥ many
      · rw [if_pos hN]
        refine ⟨⟨fun hz => by simp at hz, fun ⟨h, _⟩ => ?_⟩, fun hz => by simp at hz⟩
        rcases h with ⟨_, _, h⟩ | ⟨h, _⟩ <;> omega
      rw [if_neg hN]
      by_cases hin : N ∈ l
      · rw [if_pos hin]
        refine ⟨⟨fun hz => by simp at hz, fun ⟨_, _, h⟩ => ?_⟩, fun hz => by simp at hz⟩
        exact absurd hin (h N (by simp))
      · rw [if_neg hin]
        refine ⟨⟨fun _ => ⟨.inl ⟨trivial, hnil, by omega, by omega⟩, by simp, by simpa using hin⟩, fun _ => rfl⟩, fun _ => rfl⟩
    · have h12 : K = 1 ∨ K = 2 := by omega
      rw [if_neg hK, if_neg hK, if_pos h12]
      by_cases hN : N = 0
      · rw [if_neg (by simpa using hN)]
        by_cases hl : ks.length < 2
        · rw [if_pos hl]
          refine ⟨⟨fun hz => by simp at hz, fun ⟨h, _⟩ => ?_⟩, fun hz => by simp at hz⟩
          rcases h with ⟨h, _⟩ | ⟨_, _, h, _⟩ <;> omega
        rw [if_neg hl]
        by_cases ha : ks.any (fun k => k.Kind == K) = true
        · rw [if_pos ha]
          refine ⟨⟨fun hz => by simp at hz, fun ⟨h, _⟩ => ?_⟩, fun hz => by simp at hz⟩
          obtain ⟨k, hk, he⟩ := List.any_eq_true.1 ha
          rcases h with ⟨h, _⟩ | ⟨_, _, _, h, _⟩
          · exact absurd h hK
          · exact absurd (by simpa using he) (h k hk)
        · rw [if_neg ha, s1]
          refine ⟨⟨fun ⟨a1, a2, a3⟩ => ⟨.inr ⟨h12, hN, by omega, fun k hk e => ha (List.any_eq_true.2 ⟨k, hk, by simpa using e⟩), a1⟩, a2, a3⟩, fun ⟨h, a2, a3⟩ => ⟨?_, a2, a3⟩⟩, fun hz => s2 (s1.2 hz)⟩
          rcases h with ⟨h, _⟩ | ⟨_, _, _, _, h⟩
          · exact absurd h hK
          · exact h
      · rw [if_pos (by simpa using hN)]
        refine ⟨⟨fun hz => by simp at hz, fun ⟨h, _⟩ => ?_⟩, fun hz => by simp at hz⟩
        rcases h with ⟨h, _⟩ | ⟨_, h, _⟩
        · exact absurd h hK
        · exact absurd h hN

/-- A tree that passes its check. -/
theorem checkS_iff (t : TreeTree) (len : Nat) : checkS t (len : Int) = 0 ↔ Ok len t ∧ (lv t).Nodup ∧ (lv t).length = len := by
  obtain ⟨h1, h2⟩ := chk_iff (len : Int) t []
  have hm : imax 0 (len : Int) = len := by unfold imax; split <;> omega
  rw [checkS, hm]
  by_cases he : (chk len t []).1 = 0
  · have e2 := h2 he
    obtain ⟨g1, g2, g3⟩ := h1.1 he
    rw [if_neg (by simpa using he), e2]
    simp only [List.nil_append]
    by_cases hl : ((lv t).length : Int) = len
    · rw [if_neg (by simpa using hl)]
      simp only [true_iff]
      exact ⟨g1, g2, by omega⟩
    · rw [if_pos hl]
      refine ⟨fun hz => by simp at hz, fun ⟨_, _, h⟩ => absurd (by omega) hl⟩
  · rw [if_pos he]
    refine ⟨fun hz => absurd hz he, fun ⟨a1, a2, _⟩ => absurd (h1.2 ⟨a1, a2, by simp⟩) he⟩

theorem evA_loop (n : Nat) (s : List TreeTree) (on : List Bool) (slf : TreeTree → List Bool → Option Bool) (hs : s.length ≤ 1000000000) (hf : ∀ k ∈ s, slf k on = some (ev on k)) : ∀ (k i : Nat), i ≤ s.length → s.length - i < k →
    ∃ r, slices_IndexFunc_tree_Tree_c38_36_L1 n s on slf k (i : Int) = some r ∧ decide (r ≥ 0) = (s.drop i).any fun x => !ev on x
  | 0, i, h, hk => absurd hk (Nat.not_lt_zero _)
  | k + 1, i, h, hk => by
    rw [slices_IndexFunc_tree_Tree_c38_36_L1]
    by_cases hi : i < s.length
    · obtain ⟨x, hx⟩ := get_ex hi
      rw [if_pos (by simpa using hi), atI_nat, hx, Option.bind_some]
      simp only [tree_Tree_eval_2_c36, tree_Tree_eval_1, hf x (List.mem_of_getElem? hx), Option.bind_some]
      rw [drop_cons hx, List.any_cons]
      cases hc : ev on x with
      | false => exact ⟨(i : Int), by simp, by simp⟩
      | true =>
        rw [wrapN (by omega)]
        obtain ⟨r, h1, h2⟩ := evA_loop n s on slf hs hf k (i + 1) (by omega) (by omega)
        exact ⟨r, by simpa using h1, by simpa using h2⟩
    · rw [if_neg (by simpa using hi)]
      refine ⟨-1, rfl, ?_⟩
      rw [List.drop_eq_nil_of_le (by omega)]; rfl
theorem evB_loop (n : Nat) (s : List TreeTree) (on : List Bool) (slf : TreeTree → List Bool → Option Bool) (hs : s.length ≤ 1000000000) (hf : ∀ k ∈ s, slf k on = some (ev on k)) : ∀ (k i : Nat), i ≤ s.length → s.length - i < k →
    ∃ r, slices_IndexFunc_tree_Tree_c36_L1 n s on slf k (i : Int) = some r ∧ decide (r ≥ 0) = (s.drop i).any fun x => ev on x
  | 0, i, h, hk => absurd hk (Nat.not_lt_zero _)
  | k + 1, i, h, hk => by
    rw [slices_IndexFunc_tree_Tree_c36_L1]
    by_cases hi : i < s.length
    · obtain ⟨x, hx⟩ := get_ex hi
      rw [if_pos (by simpa using hi), atI_nat, hx, Option.bind_some]
      simp only [tree_Tree_eval_1, hf x (List.mem_of_getElem? hx), Option.bind_some]
      rw [drop_cons hx, List.any_cons]
      cases hc : ev on x with
      | true => exact ⟨(i : Int), by simp, by simp⟩
      | false =>
        rw [wrapN (by omega)]
        obtain ⟨r, h1, h2⟩ := evB_loop n s on slf hs hf k (i + 1) (by omega) (by omega)
        exact ⟨r, by simpa using h1, by simpa using h2⟩
    · rw [if_neg (by simpa using hi)]
      refine ⟨-1, rfl, ?_⟩
      rw [List.drop_eq_nil_of_le (by omega)]; rfl

theorem tree_Tree_eval_eq (on : List Bool) : ∀ (t : TreeTree) (n : Nat), Ok on.length t → szT t ≤ 1000000000 → szT t < n → tree_Tree_eval n t on = some (ev on t) := by
  intro t
  induction t using tree_ind with
  | h K N ks ih =>
    intro n hok hb hn
    obtain ⟨m, rfl, hlen, hk⟩ := szT_kids hn
    have hl : ks.length ≤ 1000000000 := by have := szL_len ks; simp only [szT] at hb; omega
    have hkb : ∀ k ∈ ks, szT k ≤ 1000000000 := fun k hk => by have := szL_mem hk; simp only [szT] at hb; omega
    rw [tree_Tree_eval, ev]
    simp only [TreeTree_Kind_mk, TreeTree_N_mk, TreeTree_Kids_mk]
    rw [Ok] at hok
    rcases hok with ⟨rfl, rfl, h1, h2⟩ | ⟨h12, _, _, _, hoks⟩
    · have : N.toNat < on.length := by omega
      simp [atI, h1, List.getElem?_eq_getElem this]
    · have hf : ∀ k ∈ ks, tree_Tree_eval m k on = some (ev on k) := fun k hk' => ih k hk' m (OkL_iff.1 hoks k hk') (hkb k hk') (hk k hk')
      rcases h12 with rfl | rfl
      · obtain ⟨r, h1, h2⟩ := evA_loop m ks on (tree_Tree_eval m) hl hf m 0 (by omega) (by omega)
        rw [List.drop_zero] at h2
        simp only [slices_ContainsFunc_tree_Tree_c38_36, slices_IndexFunc_tree_Tree_c38_36]
        rw [show (0 : Int) = ((0 : Nat) : Int) from rfl, h1]
        simp only [Option.bind_some, show ((0 : Nat) : Int) = 0 from rfl, h2, evAll_eq]
        simp [List.all_eq_not_any_not]
      · obtain ⟨r, h1, h2⟩ := evB_loop m ks on (tree_Tree_eval m) hl hf m 0 (by omega) (by omega)
        rw [List.drop_zero] at h2
        simp only [slices_ContainsFunc_tree_Tree_c36, slices_IndexFunc_tree_Tree_c36]
        rw [show (0 : Int) = ((0 : Nat) : Int) from rfl, h1]
        simp only [Option.bind_some, show ((0 : Nat) : Int) = 0 from rfl, h2, evAny_eq]
        simp

theorem tree_Eval_eq (t : TreeTree) (on : List Bool) (n : Nat) (hb : szT t ≤ 1000000000) (hn : szT t < n) : tree_Eval n t on = some (if checkS t on.length = 0 then (ev on t, 0) else (false, checkS t on.length)) := by
  rw [tree_Eval, tree_Check_eq t _ n hb hn, Option.bind_some]
  by_cases hc : checkS t on.length = 0
  · rw [if_neg (by simp [hc]), tree_Tree_eval_eq on t n ((checkS_iff t on.length).1 hc).1 hb hn, Option.bind_some, if_pos hc]
  · rw [if_pos (by simpa using hc), if_neg hc]
end Go.G

namespace Go.G
open Go.Av
set_option maxRecDepth 100000
theorem alive16 : law16_alive 2000000 = some true := by decide +kernel
end Go.G

namespace Go.G
open Go.Av

theorem ref_reach (n : Nat) (r : ApiRung) (hs : r.Contacts.length ≤ 1000000) (hn : 8 * r.Contacts.length + 100 ≤ n) : ∃ l, ref12_Reachable n r (⟨#[76]⟩ : Str) = some l ∧ l.length ≤ 2 + 2 * r.Contacts.length ∧ (strR ∈ l ↔ Reach r.Contacts (List.replicate r.Contacts.length true) strR) := by
  obtain ⟨all, a1, a2, a3, a4⟩ := rnodes_loop n r hs (by omega) n 0 [(⟨#[76]⟩ : Str), (⟨#[82]⟩ : Str)] (by omega) (by omega) (by simp)
  have hL : strL ∈ all := a2 _ (by simp [strL])
  have hR : strR ∈ all := a2 _ (by simp [strR])
  have hall : ∀ c ∈ r.Contacts, c.To ∈ all := fun c hc => (a3 c (by simpa using hc)).2
  have h0 := lackL_add (g := []) (y := strL) (by simp) hL
  have h1 : lackL all [] ≤ all.length := List.length_filter_le _ _
  rw [List.nil_append] at h0
  obtain ⟨g, b1, b2, b3, b4⟩ := spread_rounds n r hs all hall (by omega) (by omega) n 0 [strL] (by omega) (by omega) (fun x hx => by rw [List.mem_singleton] at hx; subst hx; exact .left) (by simp) (by simp; omega) (.inr (by omega))
  have hnodes : ref12_Nodes n r = some all := by
    rw [ref12_Nodes, Option.bind_some, show (0 : Int) = ((0 : Nat) : Int) from rfl]; exact a1
  have hLt : (⟨#[76]⟩ : Str) ∈ all := hL
  refine ⟨all.filter fun x => decide (x ∈ g), ?_, ?_, ?_⟩
  · rw [ref12_Reachable, ref12_spread, hnodes, Option.bind_some, has_eq n all _ (by omega) (by omega), Option.bind_some, if_neg (by simp [hLt]), Option.bind_some, show (0 : Int) = ((0 : Nat) : Int) from rfl]
    have := b1
    rw [strL] at this
    rw [this]; rfl
  · have := List.length_filter_le (fun x => decide (x ∈ g)) all
    omega
  · rw [List.mem_filter]
    constructor
    · rintro ⟨_, h⟩
      exact b2 _ (by simpa using h)
    · intro h
      refine ⟨hR, ?_⟩
      have key : ∀ x, Reach r.Contacts (List.replicate r.Contacts.length true) x → x ∈ g := by
        intro x hx
        induction hx with
        | left => exact b4
        | step i c h1 _ _ ih => exact b3 c (List.mem_of_getElem? h1) ih
      simpa using key _ h

theorem reach_mono {cs : List ApiContact} {on on' : List Bool} (h : ∀ i : Nat, i < cs.length → on[i]? = some true → on'[i]? = some true) {x : Str} (hx : Reach cs on x) : Reach cs on' x := by
  induction hx with
  | left => exact .left
  | step i c h1 h2 _ ih => exact .step i c h1 (h i (List.getElem?_eq_some_iff.1 h1).1 h2) ih

theorem reach_none {cs : List ApiContact} {m : Nat} {x : Str} (hx : Reach cs (List.replicate m false) x) : x = strL := by
  cases hx with
  | left => rfl
  | step i c _ h2 _ =>
    rw [List.getElem?_replicate] at h2
    split at h2
    · cases h2
    · cases h2

/-- The first list of edges conducts as the rung does. -/
theorem path_start (cs : List ApiContact) (on : List Bool) (x : Str) : PathE (edgesS cs 0) on x ↔ Reach cs on x := by
  have hev : ∀ i : Nat, ev on (.mk 0 (i : Int) []) = (on[i]?).getD false := fun i => by
    rw [ev, if_neg (by decide), if_neg (by decide), Int.toNat_natCast]
  constructor
  · intro h
    induction h with
    | left => exact .left
    | step e h1 h2 _ ih =>
      obtain ⟨i, hi⟩ := List.getElem?_of_mem h1
      rw [edgesS_get] at hi
      obtain ⟨c, hc, rfl⟩ := Option.map_eq_some_iff.1 hi
      simp only at h2 ih ⊢
      rw [Nat.zero_add, hev] at h2
      refine .step i c hc ?_ ih
      cases ho : on[i]? with
      | none => rw [ho] at h2; cases h2
      | some v => rw [ho] at h2; simp at h2; rw [h2]
  · intro h
    induction h with
    | left => exact .left
    | step i c h1 h2 _ ih =>
      have hm : (⟨⟨c.From, c.To⟩, .mk 0 (i : Int) []⟩ : ReduceEdge) ∈ edgesS cs 0 := by
        refine List.mem_of_getElem? (i := i) ?_
        rw [edgesS_get, h1]; simp
      exact .step ⟨⟨c.From, c.To⟩, .mk 0 (i : Int) []⟩ hm (by simp only; rw [hev, h2]; rfl) ih

theorem every_loop (n : Nat) (r : ApiRung) (on : List Bool) (hon : on.length ≤ 1000000) (a : Bool) (b : Int) (c : Bool) (d : Int) : ∀ (q i : Nat), i ≤ on.length → on.length - i < q →
    law16_RungevalAgreesWithTree_L3 n r on a b c d q (i : Int) (List.replicate i true ++ List.replicate (on.length - i) false) = law16_RungevalAgreesWithTree_J1 n r on a b c d (List.replicate on.length true)
  | 0, i, h, hm => absurd hm (Nat.not_lt_zero _)
  | q + 1, i, h, hm => by
    rw [law16_RungevalAgreesWithTree_L3]
    by_cases hi : i < on.length
    · obtain ⟨m, hm'⟩ : ∃ m, on.length - i = m + 1 := ⟨on.length - i - 1, by omega⟩
      have hat : (List.replicate i true ++ List.replicate (on.length - i) false)[i]? = some false := by
        rw [hm', List.getElem?_append_right (by simp)]; simp [List.replicate_succ]
      have e : (List.replicate i true ++ List.replicate (on.length - i) false).set i true = List.replicate (i + 1) true ++ List.replicate (on.length - (i + 1)) false := by
        rw [hm', List.replicate_succ, List.set_append_right _ _ (by simp), List.replicate_succ' (n := i)]
        simp
        omega
      rw [if_pos (by simpa using hi), atI_nat, hat, Option.bind_some, Option.bind_some, Int.toNat_natCast, wrapN (by omega), e]
      exact every_loop n r on hon a b c d q (i + 1) (by omega) (by omega)
    · have : i = on.length := by omega
      rw [if_neg (by simpa using hi), this]; simp

theorem tl12_loop (r : ApiRung) (hn : r.Contacts.length ≤ 1500000) : ∀ (k i : Nat) (p : Int), i ≤ r.Contacts.length → r.Contacts.length - i < k → ∃ b : Int, law12_TooLarge_L2 r k p i = some b
  | 0, i, p, h, hk => absurd hk (Nat.not_lt_zero _)
  | k + 1, i, p, h, hk => by
    rw [law12_TooLarge_L2]
    by_cases hi : i < r.Contacts.length
    · obtain ⟨x, hx⟩ := get_ex hi
      rw [if_pos (by simpa using hi), atI_nat, hx, Option.bind_some, wrapN (by omega)]
      exact tl12_loop r hn k (i + 1) _ (by omega) (by omega)
    · rw [if_neg (by simpa using hi), law12_TooLarge_J1]
      split
      · exact ⟨_, rfl⟩
      · split <;> exact ⟨_, rfl⟩

theorem agree_J2 (n : Nat) (ha : law16_alive n = some true) (r : ApiRung) (on : List Bool) (hc : r.Contacts.length ≤ 30) (hon : on.length = r.Contacts.length) (hn : 2000000 ≤ n) : law16_RungevalAgreesWithTree_J2 n r on (reachB r.Contacts on) = some true := by
  have hal : ((law16_alive n).bind fun x => some x) = some true := by rw [ha]; rfl
  rw [law16_RungevalAgreesWithTree_J2]
  obtain ⟨e, he, hrk⟩ := flow_ex n r (by omega) (by omega)
  rcases Reduce_ex n r (by omega) (by omega) he hrk with ⟨hne, hR⟩ | ⟨h00, l, hl, hR⟩
  · rw [hR, Option.bind_some]
    dsimp only
    rw [if_pos (by simpa using hne)]
    exact hal
  · obtain ⟨rank, hrk⟩ := hrk h00
    have h0 := RInv.start r.Contacts rank hrk
    have hinv := h0.reds hl
    rw [hR, Option.bind_some]
    have hcase : (∃ x, l = [x] ∧ x.pair.from_ = strLL ∧ x.pair.to_ = strRR ∧ redS l = (sortedS x.t_, 0)) ∨ (redS l).2 = 14 := by
      unfold redS
      split
      · rename_i x
        split
        · rename_i h; exact .inl ⟨x, rfl, h.1, h.2, rfl⟩
        · exact .inr rfl
      · exact .inr rfl
    rcases hcase with ⟨x, rfl, x1, x2, hx⟩ | h14
    · rw [hx]
      dsimp only
      have hmx : x ∈ [x] := by simp
      have hsz := hinv.szT hmx
      have hok := hinv.ok x hmx
      have hnd : (lv x.t_).Nodup := by have := hinv.lv; simpa using this
      have hlen : (lv x.t_).length = r.Contacts.length := by have := hinv.all; simpa using this
      have hchk : checkS (sortedS x.t_) (on.length : Int) = 0 := by
        rw [hon]
        exact (checkS_iff _ _).2 ⟨sortedS_ok hok, (sortedS_lv _).nodup_iff.2 hnd, by rw [(sortedS_lv _).length_eq, hlen]⟩
      have hev : reachB r.Contacts on = ev on (sortedS x.t_) := by
        rw [ev_sorted]
        have h1 : Reach r.Contacts on strR ↔ ev on x.t_ = true := by
          rw [← path_start, show strR = strRR from rfl, PathE.reds h0 hl on]
          exact PathE.one x x1 x2 on
        unfold reachB
        cases hx : ev on x.t_ with
        | true => simp [h1, hx]
        | false => simp [h1, hx]
      rw [if_neg (by simp), tree_Eval_eq _ on n (by rw [sortedS_sz]; omega) (by rw [sortedS_sz]; omega), if_pos hchk, Option.bind_some]
      dsimp only
      rw [ha, Option.bind_some, if_pos rfl, if_pos (by rfl), hev]
      simp
    · rw [show redS l = ((redS l).1, (redS l).2) from rfl, h14]
      dsimp only
      rw [if_pos (by decide)]
      exact hal

theorem agree_law0 (n : Nat) (ha : law16_alive n = some true) (r : ApiRung) (on : List Bool) (hcb : r.Contacts.length ≤ 1048576) (hn : 2000000 ≤ n) : law16_RungevalAgreesWithTree n r on = some true := by
  have hal : ((law16_alive n).bind fun x => some x) = some true := by rw [ha]; rfl
  obtain ⟨t, ht⟩ := tl12_loop r (by omega) n 0 0 (by omega) (by omega)
  have ht' : law12_TooLarge n r = some t := ht
  rw [law16_RungevalAgreesWithTree, ht', Option.bind_some]
  split
  · exact hal
  split
  · exact hal
  rename_i _ h30
  have h30 : r.Contacts.length ≤ 30 := by simp at h30; omega
  split
  · exact hal
  rename_i hl
  have hl : on.length = r.Contacts.length := by
    have : ((on.length : Int) != (r.Contacts.length : Int)) = false := by simpa using hl
    simp at this; omega
  have hc1 : condP r on = (reachB r.Contacts on, 0) := by rw [condP, if_pos hl]
  have hc2 : condP r (List.replicate on.length false) = (reachB r.Contacts (List.replicate on.length false), 0) := by rw [condP, if_pos (by simpa using hl)]
  have hc3 : condP r (List.replicate on.length true) = (reachB r.Contacts (List.replicate on.length true), 0) := by rw [condP, if_pos (by simpa using hl)]
  rw [rungeval_Conducts_eq n r on (by omega) (by omega), hc1, Option.bind_some]
  dsimp only
  rw [if_pos (by omega), Option.bind_some, rungeval_Conducts_eq n r _ (by omega) (by omega), hc2, Option.bind_some]
  dsimp only
  rw [if_pos (by omega), Option.bind_some]
  have hev := every_loop n r on (by omega) (reachB r.Contacts on) 0 (reachB r.Contacts (List.replicate on.length false)) 0 n 0 (by omega) (by omega)
  rw [List.replicate_zero, List.nil_append, Nat.sub_zero, show ((0 : Nat) : Int) = 0 from rfl] at hev
  rw [hev, law16_RungevalAgreesWithTree_J1, rungeval_Conducts_eq n r _ (by omega) (by omega), hc3, Option.bind_some]
  dsimp only
  have hnone : reachB r.Contacts (List.replicate on.length false) = false := by
    unfold reachB
    simp only [decide_eq_false_iff_not]
    intro h
    have := reach_none h
    exact absurd this (by decide)
  obtain ⟨l, r1, r2, r3⟩ := ref_reach n r (by omega) (by omega)
  rw [if_neg (by decide), if_neg (by decide), if_neg (by decide), hnone, if_neg (by decide), r1, Option.bind_some, containsS_eq n l _ (by omega) (by omega), Option.bind_some]
  have hall : reachB r.Contacts (List.replicate on.length true) = decide ((⟨#[82]⟩ : Str) ∈ l) := by
    unfold reachB
    rw [hl]
    have : (⟨#[82]⟩ : Str) = strR := rfl
    rw [this]
    by_cases h : strR ∈ l
    · simp [h, r3.1 h]
    · have : ¬ Reach r.Contacts (List.replicate r.Contacts.length true) strR := fun q => h (r3.2 q)
      simp [h, this]
  rw [hall, if_neg (by simp)]
  have hJ2 := agree_J2 n ha r on h30 hl hn
  by_cases hv : reachB r.Contacts on = true
  · have hv2 : (⟨#[82]⟩ : Str) ∈ l := by
      refine r3.2 (reach_mono (fun i hi _ => ?_) (by simpa [reachB] using hv))
      rw [List.getElem?_replicate, if_pos hi]
    rw [if_pos hv, if_neg (by simp [hv2])]
    exact hJ2
  · rw [if_neg hv]
    exact hJ2

theorem agree_law (r : ApiRung) (on : List Bool) (hc : r.Contacts.length ≤ 1048576) : law16_RungevalAgreesWithTree 2000000 r on = some true :=
  agree_law0 2000000 alive16 r on hc (Nat.le_refl _)
end Go.G

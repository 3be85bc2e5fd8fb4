/- What the graphs' functions compute: they end, and an order of the nodes is one. No law is proved here. -/
import Derived.Test.YtaebdeidbibfkaaDoorHLawM11
import Derived.Test.YtaebdeidbibfkaaDoorHGMod
set_option linter.unusedSimpArgs false
set_option linter.unusedVariables false
set_option linter.unusedSectionVars false
namespace Go.G
open Go.Av

/-- Whether a set as a map holds a key. -/
def hasM (m : List (Str × Bool)) (k : Str) : Bool := (mGet m k).getD false
theorem hasM_nil (k : Str) : hasM [] k = false := rfl
theorem hasM_put (m : List (Str × Bool)) (k x : Str) : hasM (mPut m k true) x = (decide (x = k) || hasM m x) := by
  induction m with
  | nil =>
    by_cases h : x = k <;> simp [hasM, mPut, mGet, h]
  | cons p m ih =>
    simp only [hasM] at ih ⊢
    rw [mPut]
    by_cases h : k = p.1
    · rw [if_pos (by simpa using h), mGet, mGet]
      by_cases h2 : x = k
      · simp [h2]
      · have : ¬ x = p.1 := fun e => h2 (e.trans h.symm)
        simp [h2, this]
    · rw [if_neg (by simpa using h), mGet, mGet]
      by_cases h2 : x = p.1
      · have h5 : ¬ p.1 = k := fun e => h e.symm
        simp [h2, h5]
      · rw [if_neg (by simpa using h2), if_neg (by simpa using h2)]; exact ih

/-! ### nodes -/
structure NInv (l : List Str) (m : List (Str × Bool)) : Prop where
  has : ∀ x, hasM m x = true ↔ x ∈ l
  nd : l.Nodup

theorem nodes_loop2 (p : Int) (R : Int → List Str → List (Str × Bool) → Option (List Str)) (pr : List Str) (hp : pr.length ≤ 1000) : ∀ (q k : Nat) (l : List Str) (m : List (Str × Bool)), NInv l m → k ≤ pr.length → pr.length - k < q → l.length + (pr.length - k) ≤ 100000000 →
    ∃ l' m', NInv l' m' ∧ (∀ x ∈ l, x ∈ l') ∧ (∀ x ∈ pr.drop k, x ∈ l') ∧ l'.length ≤ l.length + (pr.length - k) ∧ graph_Nodes_o0_L2 p R pr q (k : Int) l m = R (IntKind.i64.wrap (p + 1)) l' m'
  | 0, k, l, m, _, h, hm, _ => absurd hm (Nat.not_lt_zero _)
  | q + 1, k, l, m, hi, h, hm, hl => by
    rw [graph_Nodes_o0_L2]
    by_cases hk : k < pr.length
    · obtain ⟨x, hx⟩ := get_ex hk
      rw [if_pos (by simpa using hk), atI_nat, hx, Option.bind_some, drop_cons hx]
      cases hh : hasM m x with
      | true =>
        have hh' : (mGet m x).getD false = true := hh
        rw [hh', if_neg (by simp), wrapN (by omega)]
        obtain ⟨l', m', a1, a2, a3, a4, a5⟩ := nodes_loop2 p R pr hp q (k + 1) l m hi (by omega) (by omega) (by omega)
        refine ⟨l', m', a1, a2, fun y hy => ?_, by omega, a5⟩
        rcases List.mem_cons.1 hy with rfl | hy
        · exact a2 _ ((hi.has _).1 hh)
        · exact a3 y hy
      | false =>
        have hh' : (mGet m x).getD false = false := hh
        have hx' : x ∉ l := fun e => by rw [(hi.has x).2 e] at hh; cases hh
        rw [hh', if_pos (by simp), if_pos (by simp; omega), Option.bind_some, wrapN (by omega)]
        have hi' : NInv (l ++ [x]) (mPut m x true) := ⟨fun y => by
          rw [hasM_put, Bool.or_eq_true, hi.has, decide_eq_true_eq, List.mem_append, List.mem_singleton]
          exact Or.comm, by
          rw [List.nodup_append]
          exact ⟨hi.nd, by simp, fun a ha b hb e => by rw [List.mem_singleton] at hb; subst hb; subst e; exact hx' ha⟩⟩
        obtain ⟨l', m', a1, a2, a3, a4, a5⟩ := nodes_loop2 p R pr hp q (k + 1) (l ++ [x]) (mPut m x true) hi' (by omega) (by omega) (by simp; omega)
        refine ⟨l', m', a1, fun y hy => a2 y (by simp [hy]), fun y hy => ?_, by rw [List.length_append, List.length_singleton] at a4; omega, a5⟩
        rcases List.mem_cons.1 hy with rfl | hy
        · exact a2 _ (by simp)
        · exact a3 y hy
    · rw [if_neg (by simpa using hk)]
      refine ⟨l, m, hi, fun _ h => h, ?_, by omega, rfl⟩
      rw [List.drop_eq_nil_of_le (by omega)]
      exact fun x hx => by cases hx

theorem nodes_loop1 (n : Nat) (r : ApiRung) (hn : 2 < n) (hs : r.Contacts.length ≤ 1000000) : ∀ (q i : Nat) (l : List Str) (m : List (Str × Bool)), NInv l m → i ≤ r.Contacts.length → r.Contacts.length - i < q → l.length ≤ 2 + 2 * i →
    ∃ l', graph_Nodes_o0_L1 n r q (i : Int) l m = some l' ∧ l'.Nodup ∧ (∀ x ∈ l, x ∈ l') ∧ (∀ c ∈ r.Contacts.drop i, c.From ∈ l' ∧ c.To ∈ l') ∧ l'.length ≤ 2 + 2 * r.Contacts.length
  | 0, i, l, m, _, h, hm, _ => absurd hm (Nat.not_lt_zero _)
  | q + 1, i, l, m, hi, h, hm, hl => by
    rw [graph_Nodes_o0_L1]
    by_cases hk : i < r.Contacts.length
    · obtain ⟨c, hc⟩ := get_ex hk
      rw [if_pos (by simpa using hk), atI_nat, hc, Option.bind_some, Option.bind_some]
      obtain ⟨l1, m1, a1, a2, a3, a4, a5⟩ := nodes_loop2 (i : Int) (graph_Nodes_o0_L1 n r q) [c.From, c.To] (by simp) n 0 l m hi (by simp) (by simpa using hn) (by simp; omega)
      rw [show (0 : Int) = ((0 : Nat) : Int) from rfl, a5, wrapN (by omega)]
      obtain ⟨l', b1, b2, b3, b4, b5⟩ := nodes_loop1 n r hn hs q (i + 1) l1 m1 a1 (by omega) (by omega) (by simp at a4; omega)
      refine ⟨l', b1, b2, fun x hx => b3 x (a2 x hx), fun d hd => ?_, b5⟩
      rw [drop_cons hc] at hd
      rcases List.mem_cons.1 hd with rfl | hd
      · exact ⟨b3 _ (a3 _ (by simp)), b3 _ (a3 _ (by simp))⟩
      · exact b4 d hd
    · rw [if_neg (by simpa using hk)]
      refine ⟨l, rfl, hi.nd, fun _ h => h, ?_, by omega⟩
      rw [List.drop_eq_nil_of_le (by omega)]
      exact fun c hc => by cases hc

/-- The nodes of a rung. -/
structure IsNodes (r : ApiRung) (l : List Str) : Prop where
  nd : l.Nodup
  L : strLL ∈ l
  R : strRR ∈ l
  ends : ∀ c ∈ r.Contacts, c.From ∈ l ∧ c.To ∈ l
  len : l.length ≤ 2 + 2 * r.Contacts.length

theorem nodes_eq (n : Nat) (r : ApiRung) (hn : 2 * r.Contacts.length + 10 ≤ n) (hs : r.Contacts.length ≤ 1000000) : ∃ l, graph_Nodes_o0 n r = some l ∧ IsNodes r l := by
  rw [graph_Nodes_o0, Option.bind_some, show (0 : Int) = ((0 : Nat) : Int) from rfl]
  obtain ⟨l', b1, b2, b3, b4, b5⟩ := nodes_loop1 n r (by omega) hs n 0 [(⟨#[76]⟩ : Str), (⟨#[82]⟩ : Str)] (mPut (mPut [] (⟨#[76]⟩ : Str) true) (⟨#[82]⟩ : Str) true) ⟨fun x => by
    rw [hasM_put, hasM_put, hasM_nil]
    simp only [Bool.or_eq_true, decide_eq_true_eq, List.mem_cons, List.not_mem_nil, or_false, Bool.false_eq_true]
    exact Or.comm, by decide⟩ (by omega) (by omega) (by simp)
  exact ⟨l', b1, b2, b3 _ (by simp [strLL]), b3 _ (by simp [strRR]), fun c hc => b4 c (by simpa using hc), b5⟩

theorem numIncoming_loop (n : Nat) (r : ApiRung) (b : Str) (hs : r.Contacts.length ≤ 1000000) : ∀ (q i : Nat) (acc : List Int), i ≤ r.Contacts.length → r.Contacts.length - i < q → acc.length ≤ i →
    ∃ l, graph_numbers_c99_L1 n r b q (i : Int) acc = some l ∧ l.length ≤ r.Contacts.length ∧ (∀ j ∈ acc, j ∈ l) ∧ (∀ j ∈ l, j ∈ acc ∨ ∃ (k : Nat) (c : ApiContact), j = (k : Int) ∧ r.Contacts[k]? = some c ∧ c.To = b) ∧ (∀ (k : Nat) (c : ApiContact), i ≤ k → r.Contacts[k]? = some c → c.To = b → (k : Int) ∈ l)
  | 0, i, acc, h, hm, _ => absurd hm (Nat.not_lt_zero _)
  | q + 1, i, acc, h, hm, ha => by
    rw [graph_numbers_c99_L1]
    by_cases hk : i < r.Contacts.length
    · obtain ⟨c, hc⟩ := get_ex hk
      rw [if_pos (by simpa using hk), atI_nat, hc, Option.bind_some, graph_Incoming_1, Option.bind_some]
      by_cases ht : c.To = b
      · rw [if_pos (by simpa using ht), if_pos (by simp; omega), Option.bind_some, wrapN (by omega)]
        obtain ⟨l, a1, a2, a3, a4, a5⟩ := numIncoming_loop n r b hs q (i + 1) (acc ++ [(i : Int)]) (by omega) (by omega) (by simp; omega)
        refine ⟨l, a1, a2, fun j hj => a3 j (by simp [hj]), fun j hj => ?_, fun k d hk hd hb => ?_⟩
        · rcases a4 j hj with h | h
          · rcases List.mem_append.1 h with h | h
            · exact .inl h
            · rw [List.mem_singleton] at h; exact .inr ⟨i, c, h, hc, ht⟩
          · exact .inr h
        · rcases Nat.lt_or_ge i k with h | h
          · exact a5 k d h hd hb
          · have : k = i := by omega
            subst this; exact a3 _ (by simp)
      · rw [if_neg (by simpa using ht), wrapN (by omega)]
        obtain ⟨l, a1, a2, a3, a4, a5⟩ := numIncoming_loop n r b hs q (i + 1) acc (by omega) (by omega) (by omega)
        refine ⟨l, a1, a2, a3, a4, fun k d hk hd hb => ?_⟩
        rcases Nat.lt_or_ge i k with h | h
        · exact a5 k d h hd hb
        · have : k = i := by omega
          subst this; rw [hc] at hd; cases hd; exact absurd hb ht
    · rw [if_neg (by simpa using hk)]
      exact ⟨acc, rfl, by omega, fun _ h => h, fun _ h => .inl h, fun k c hk hc _ => by have := get_lt hc; omega⟩

theorem Incoming_eq (n : Nat) (r : ApiRung) (b : Str) (hs : r.Contacts.length ≤ 1000000) (hn : r.Contacts.length < n) : ∃ l, graph_Incoming n r b = some l ∧ l.length ≤ r.Contacts.length ∧
    (∀ j ∈ l, ∃ (k : Nat) (c : ApiContact), j = (k : Int) ∧ r.Contacts[k]? = some c ∧ c.To = b) ∧ (∀ (k : Nat) (c : ApiContact), r.Contacts[k]? = some c → c.To = b → (k : Int) ∈ l) := by
  obtain ⟨l, a1, a2, a3, a4, a5⟩ := numIncoming_loop n r b hs n 0 [] (by omega) (by omega) (by simp)
  refine ⟨l, ?_, a2, fun j hj => ?_, fun k c hc hb => a5 k c (Nat.zero_le _) hc hb⟩
  · rw [graph_Incoming, graph_numbers_c99, show (0 : Int) = ((0 : Nat) : Int) from rfl, a1]; rfl
  · rcases a4 j hj with h | h
    · cases h
    · exact h

theorem numOutgoing_loop (n : Nat) (r : ApiRung) (b : Str) (hs : r.Contacts.length ≤ 1000000) : ∀ (q i : Nat) (acc : List Int), i ≤ r.Contacts.length → r.Contacts.length - i < q → acc.length ≤ i →
    ∃ l, graph_numbers_c129_L1 n r b q (i : Int) acc = some l ∧ l.length ≤ r.Contacts.length ∧ (∀ j ∈ acc, j ∈ l) ∧ (∀ j ∈ l, j ∈ acc ∨ ∃ (k : Nat) (c : ApiContact), j = (k : Int) ∧ r.Contacts[k]? = some c ∧ c.From = b) ∧ (∀ (k : Nat) (c : ApiContact), i ≤ k → r.Contacts[k]? = some c → c.From = b → (k : Int) ∈ l)
  | 0, i, acc, h, hm, _ => absurd hm (Nat.not_lt_zero _)
  | q + 1, i, acc, h, hm, ha => by
    rw [graph_numbers_c129_L1]
    by_cases hk : i < r.Contacts.length
    · obtain ⟨c, hc⟩ := get_ex hk
      rw [if_pos (by simpa using hk), atI_nat, hc, Option.bind_some, graph_Outgoing_1, Option.bind_some]
      by_cases ht : c.From = b
      · rw [if_pos (by simpa using ht), if_pos (by simp; omega), Option.bind_some, wrapN (by omega)]
        obtain ⟨l, a1, a2, a3, a4, a5⟩ := numOutgoing_loop n r b hs q (i + 1) (acc ++ [(i : Int)]) (by omega) (by omega) (by simp; omega)
        refine ⟨l, a1, a2, fun j hj => a3 j (by simp [hj]), fun j hj => ?_, fun k d hk hd hb => ?_⟩
        · rcases a4 j hj with h | h
          · rcases List.mem_append.1 h with h | h
            · exact .inl h
            · rw [List.mem_singleton] at h; exact .inr ⟨i, c, h, hc, ht⟩
          · exact .inr h
        · rcases Nat.lt_or_ge i k with h | h
          · exact a5 k d h hd hb
          · have : k = i := by omega
            subst this; exact a3 _ (by simp)
      · rw [if_neg (by simpa using ht), wrapN (by omega)]
        obtain ⟨l, a1, a2, a3, a4, a5⟩ := numOutgoing_loop n r b hs q (i + 1) acc (by omega) (by omega) (by omega)
        refine ⟨l, a1, a2, a3, a4, fun k d hk hd hb => ?_⟩
        rcases Nat.lt_or_ge i k with h | h
        · exact a5 k d h hd hb
        · have : k = i := by omega
          subst this; rw [hc] at hd; cases hd; exact absurd hb ht
    · rw [if_neg (by simpa using hk)]
      exact ⟨acc, rfl, by omega, fun _ h => h, fun _ h => .inl h, fun k c hk hc _ => by have := get_lt hc; omega⟩

theorem Outgoing_eq (n : Nat) (r : ApiRung) (b : Str) (hs : r.Contacts.length ≤ 1000000) (hn : r.Contacts.length < n) : ∃ l, graph_Outgoing n r b = some l ∧ l.length ≤ r.Contacts.length ∧
    (∀ j ∈ l, ∃ (k : Nat) (c : ApiContact), j = (k : Int) ∧ r.Contacts[k]? = some c ∧ c.From = b) ∧ (∀ (k : Nat) (c : ApiContact), r.Contacts[k]? = some c → c.From = b → (k : Int) ∈ l) := by
  obtain ⟨l, a1, a2, a3, a4, a5⟩ := numOutgoing_loop n r b hs n 0 [] (by omega) (by omega) (by simp)
  refine ⟨l, ?_, a2, fun j hj => ?_, fun k c hc hb => a5 k c (Nat.zero_le _) hc hb⟩
  · rw [graph_Outgoing, graph_numbers_c129, show (0 : Int) = ((0 : Nat) : Int) from rfl, a1]; rfl
  · rcases a4 j hj with h | h
    · cases h
    · exact h

/-! ### order -/
theorem told_loop (n : Nat) (s : List Int) (m : List (Str × Bool)) (r : ApiRung) (hs : s.length ≤ 1000000) (hr : ∀ j ∈ s, ∃ (k : Nat) (c : ApiContact), j = (k : Int) ∧ r.Contacts[k]? = some c) : ∀ (q i : Nat), i ≤ s.length → s.length - i < q →
    ∃ t : Int, slices_IndexFunc_int_c75_L1 n s m r q (i : Int) = some t ∧ (t = -1 ∧ (∀ (k : Nat) (c : ApiContact), (k : Int) ∈ s.drop i → r.Contacts[k]? = some c → hasM m c.From = true) ∨ 0 ≤ t)
  | 0, i, h, hm => absurd hm (Nat.not_lt_zero _)
  | q + 1, i, h, hm => by
    rw [slices_IndexFunc_int_c75_L1]
    by_cases hi : i < s.length
    · obtain ⟨x, hx⟩ := get_ex hi
      obtain ⟨k, c, rfl, hc⟩ := hr x (List.mem_of_getElem? hx)
      rw [if_pos (by simpa using hi), atI_nat, hx, Option.bind_some, graph_TopoSort_1_1, atI_nat, hc, Option.bind_some, Option.bind_some]
      cases hh : hasM m c.From with
      | true =>
        have hh' : (mGet m c.From).getD false = true := hh
        rw [hh', if_neg (by simp), wrapN (by omega)]
        obtain ⟨t, a1, a2⟩ := told_loop n s m r hs hr q (i + 1) (by omega) (by omega)
        refine ⟨t, a1, a2.imp (fun ⟨e, a⟩ => ⟨e, fun k' c' hk' hc' => ?_⟩) id⟩
        rw [drop_cons hx] at hk'
        rcases List.mem_cons.1 hk' with e | hk'
        · have : k' = k := by omega
          subst this; rw [hc] at hc'; cases hc'; exact hh
        · exact a k' c' hk' hc'
      | false =>
        have hh' : (mGet m c.From).getD false = false := hh
        rw [hh', if_pos (by simp)]
        exact ⟨_, rfl, .inr (by omega)⟩
    · rw [if_neg (by simpa using hi)]
      exact ⟨_, rfl, .inl ⟨rfl, fun k c hk _ => by rw [List.drop_eq_nil_of_le (by omega)] at hk; cases hk⟩⟩

theorem topo_1 (n : Nat) (x : Str) (r : ApiRung) (m : List (Str × Bool)) (hs : r.Contacts.length ≤ 1000000) (hn : r.Contacts.length < n) : ∃ b, graph_TopoSort_1 n x r m = some b ∧ (b = true → ∀ c ∈ r.Contacts, c.To = x → hasM m c.From = true) := by
  obtain ⟨l, a1, a2, a3, a4⟩ := Incoming_eq n r x hs hn
  obtain ⟨t, b1, b2⟩ := told_loop n l m r (by omega) (fun j hj => by obtain ⟨k, c, e1, e2, _⟩ := a3 j hj; exact ⟨k, c, e1, e2⟩) n 0 (by omega) (by omega)
  rw [graph_TopoSort_1, a1, Option.bind_some, slices_ContainsFunc_int_c75, slices_IndexFunc_int_c75, show (0 : Int) = ((0 : Nat) : Int) from rfl, b1]
  refine ⟨_, rfl, fun hb c hc hx => ?_⟩
  rcases b2 with ⟨rfl, h⟩ | h
  · obtain ⟨k, hk⟩ := List.getElem?_of_mem hc
    exact h k c (by simpa using a4 k c hk hx) hk
  · simp at hb; omega

theorem ready_loop (n : Nat) (l : List Str) (r : ApiRung) (m : List (Str × Bool)) (hl : l.length ≤ 100000000) (hs : r.Contacts.length ≤ 1000000) (hn : r.Contacts.length < n) : ∀ (q i : Nat), i ≤ l.length → l.length - i < q →
    ∃ t : Int, slices_IndexFunc_string_c72_v1_L1 n l r m q (i : Int) = some t ∧ (t = -1 ∨ ∃ (k : Nat) (x : Str), t = (k : Int) ∧ l[k]? = some x ∧ ∀ c ∈ r.Contacts, c.To = x → hasM m c.From = true)
  | 0, i, h, hm => absurd hm (Nat.not_lt_zero _)
  | q + 1, i, h, hm => by
    rw [slices_IndexFunc_string_c72_v1_L1]
    by_cases hi : i < l.length
    · obtain ⟨x, hx⟩ := get_ex hi
      obtain ⟨b, b1, b2⟩ := topo_1 n x r m hs hn
      rw [if_pos (by simpa using hi), atI_nat, hx, Option.bind_some, b1, Option.bind_some]
      cases b with
      | true =>
        rw [if_pos rfl]
        exact ⟨_, rfl, .inr ⟨i, x, rfl, hx, b2 rfl⟩⟩
      | false =>
        rw [if_neg (by simp), wrapN (by omega)]
        exact ready_loop n l r m hl hs hn q (i + 1) (by omega) (by omega)
    · rw [if_neg (by simpa using hi)]
      exact ⟨_, rfl, .inl rfl⟩

theorem delS_eq (n : Nat) (l : List Str) (i : Nat) (hi : i < l.length) : slices_Delete_string_v1 n (i : Int) ((i + 1 : Nat) : Int) l = some (l.eraseIdx i) := by
  rw [slices_Delete_string_v1]
  simp only [Int.toNat_natCast]
  have e : (l.take i ++ (l.drop (i + 1) ++ l.drop (i + (l.length - (i + 1))))).length = l.length + 0 := by simp; omega
  rw [if_pos (by omega), if_neg (by simp; omega), if_pos (by omega), if_pos (by omega), if_pos (by omega), Option.bind_some, if_pos (by omega), if_pos (by omega)]
  rw [← List.append_assoc, List.take_append_of_le_length (by simp; omega), List.take_of_length_le (by simp; omega), List.eraseIdx_eq_take_drop_succ]

theorem topo_loop (n : Nat) (r : ApiRung) (hs : r.Contacts.length ≤ 1000000) (hn : 2 * r.Contacts.length + 10 ≤ n) : ∀ (q : Nat) (left : List Str) (m : List (Str × Bool)) (l : List Str) (rank : Str → Nat),
    left.length < q → left.length + l.length ≤ 2 + 2 * r.Contacts.length → (∀ x, hasM m x = true ↔ x ∈ l) → left.Nodup → (∀ x ∈ left, x ∉ l) → (∀ x ∈ l, rank x < l.length) → (∀ c ∈ r.Contacts, c.To ∈ left ∨ c.To ∈ l) →
    (∀ c ∈ r.Contacts, c.To ∈ l → c.From ∈ l ∧ rank c.From < rank c.To) →
    ∃ s e, graph_TopoSort_L1 n r q left m l = some (s, e) ∧ (e = 0 → ∃ rank : Str → Nat, ∀ c ∈ r.Contacts, rank c.From < rank c.To)
  | 0, left, m, l, rank, hm, _, _, _, _, _, _, _ => absurd hm (Nat.not_lt_zero _)
  | q + 1, left, m, l, rank, hm, hl, h1, h2, h3, h4, h5, h6 => by
    rw [graph_TopoSort_L1]
    by_cases hk : 0 < left.length
    · rw [if_pos (by simpa using hk)]
      obtain ⟨t, a1, a2⟩ := ready_loop n left r m (by omega) hs (by omega) n 0 (by omega) (by omega)
      rw [slices_IndexFunc_string_c72_v1, show (0 : Int) = ((0 : Nat) : Int) from rfl, a1, Option.bind_some]
      rcases a2 with rfl | ⟨k, x, rfl, hx, hin⟩
      · rw [if_pos (by decide)]
        exact ⟨_, _, rfl, fun e => by cases e⟩
      · have hkl := get_lt hx
        have hxl := List.mem_of_getElem? hx
        have hx3 := h3 x hxl
        rw [if_neg (by simp), atI_nat, hx, Option.bind_some, if_pos (by simp; omega), Option.bind_some, wrapN (by omega), delS_eq n left k hkl, Option.bind_some]
        have hsub : ∀ y ∈ left.eraseIdx k, y ∈ left := fun y hy => (List.eraseIdx_sublist left k).subset hy
        have hp := erase_perm hx
        have hnd : x ∉ left.eraseIdx k := fun h => by
          have := hp.nodup_iff.1 h2
          rw [List.nodup_cons] at this
          exact this.1 h
        refine topo_loop n r hs hn q (left.eraseIdx k) (mPut m x true) (l ++ [x]) (fun y => if y = x then l.length else rank y) ?_ ?_ ?_ ?_ ?_ ?_ ?_ ?_
        · rw [List.length_eraseIdx_of_lt hkl]; omega
        · rw [List.length_eraseIdx_of_lt hkl, List.length_append, List.length_singleton]; omega
        · intro y
          rw [hasM_put, Bool.or_eq_true, h1, decide_eq_true_eq, List.mem_append, List.mem_singleton]
          exact Or.comm
        · exact h2.sublist (List.eraseIdx_sublist left k)
        · intro y hy hyl
          rcases List.mem_append.1 hyl with h | h
          · exact h3 y (hsub y hy) h
          · rw [List.mem_singleton] at h; subst h; exact hnd hy
        · intro y hy
          rw [List.length_append, List.length_singleton]
          split
          · omega
          · rename_i hne
            rcases List.mem_append.1 hy with h | h
            · have := h4 y h; omega
            · rw [List.mem_singleton] at h; exact absurd h hne
        · intro c hc
          rcases h5 c hc with h | h
          · rcases List.mem_cons.1 (hp.subset h) with h | h
            · exact .inr (by simp [h])
            · exact .inl h
          · exact .inr (by simp [h])
        · intro c hc hcl
          by_cases hct : c.To = x
          · have hf : c.From ∈ l := (h1 _).1 (hin c hc hct)
            have hne : c.From ≠ x := fun e => hx3 (e ▸ hf)
            refine ⟨by simp [hf], ?_⟩
            rw [if_neg hne, if_pos hct]
            exact h4 _ hf
          · have hcl' : c.To ∈ l := by
              rcases List.mem_append.1 hcl with h | h
              · exact h
              · rw [List.mem_singleton] at h; exact absurd h hct
            obtain ⟨q1, q2⟩ := h6 c hc hcl'
            have hne : c.From ≠ x := fun e => hx3 (e ▸ q1)
            refine ⟨by simp [q1], ?_⟩
            rw [if_neg hne, if_neg hct]
            exact q2
    · rw [if_neg (by simpa using hk)]
      have : left = [] := List.length_eq_zero_iff.1 (by omega)
      subst this
      refine ⟨_, _, rfl, fun _ => ⟨rank, fun c hc => ?_⟩⟩
      rcases h5 c hc with h | h
      · cases h
      · exact (h6 c hc h).2

theorem TopoSort_eq (n : Nat) (r : ApiRung) (hs : r.Contacts.length ≤ 1000000) (hn : 2 * r.Contacts.length + 10 ≤ n) : ∃ s e, graph_TopoSort n r = some (s, e) ∧ (e = 0 → ∃ rank : Str → Nat, ∀ c ∈ r.Contacts, rank c.From < rank c.To) := by
  obtain ⟨l, a1, a2⟩ := nodes_eq n r hn hs
  rw [graph_TopoSort, a1, Option.bind_some]
  have := a2.len
  exact topo_loop n r hs hn n l [] [] (fun _ => 0) (by omega) (by simpa using this) (fun x => by simp [hasM_nil]) a2.nd (fun x _ h => by cases h) (fun x h => by cases h) (fun c hc => .inl (a2.ends c hc).2) (fun c _ h => by cases h)

/-! ### what is reached -/
theorem index_loop (l : List Str) (x : Str) (hl : l.length ≤ 100000000) : ∀ (q i : Nat), i ≤ l.length → l.length - i < q → ∃ t : Int, slices_Index_string_L1 l x q (i : Int) = some t ∧ ((decide (t ≥ 0)) = decide (x ∈ l.drop i))
  | 0, i, h, hm => absurd hm (Nat.not_lt_zero _)
  | q + 1, i, h, hm => by
    rw [slices_Index_string_L1]
    by_cases hi : i < l.length
    · obtain ⟨y, hy⟩ := get_ex hi
      rw [if_pos (by simpa using hi), atI_nat, hy, Option.bind_some, drop_cons hy]
      by_cases hx : x = y
      · rw [if_pos (by simpa using hx)]
        exact ⟨_, rfl, by simp [hx]⟩
      · rw [if_neg (by simpa using hx), wrapN (by omega)]
        obtain ⟨t, a1, a2⟩ := index_loop l x hl q (i + 1) (by omega) (by omega)
        exact ⟨t, a1, by rw [a2]; simp [hx]⟩
    · rw [if_neg (by simpa using hi)]
      exact ⟨_, rfl, by rw [List.drop_eq_nil_of_le (by omega)]; simp⟩
theorem containsS_eq (n : Nat) (l : List Str) (x : Str) (hl : l.length ≤ 100000000) (hn : l.length < n) : slices_Contains_string n l x = some (decide (x ∈ l)) := by
  obtain ⟨t, a1, a2⟩ := index_loop l x hl n 0 (by omega) (by omega)
  rw [slices_Contains_string, slices_Index_string, show (0 : Int) = ((0 : Nat) : Int) from rfl, a1, Option.bind_some, List.drop_zero] at *
  exact congrArg some a2

/-- Keys that a set as a map lacks. -/
def lack (ns : List Str) (m : List (Str × Bool)) : Nat := (ns.filter fun x => !hasM m x).length
theorem lack_le (ns : List Str) (m : List (Str × Bool)) : lack ns m ≤ ns.length := List.length_filter_le _ _
theorem lack_mono {m m' : List (Str × Bool)} (h : ∀ x, hasM m x = true → hasM m' x = true) : ∀ ns : List Str, lack ns m' ≤ lack ns m
  | [] => by simp [lack]
  | x :: ns => by
    have ih := lack_mono h ns
    simp only [lack, List.filter_cons] at ih ⊢
    cases h1 : hasM m x with
    | true => rw [h x h1]; simpa using ih
    | false =>
      cases h2 : hasM m' x with
      | true => simp; omega
      | false => simpa using ih
theorem lack_put {m : List (Str × Bool)} {x : Str} (hx : hasM m x = false) : ∀ {ns : List Str}, x ∈ ns → lack ns (mPut m x true) + 1 ≤ lack ns m
  | y :: ns, h => by
    have mono := lack_mono (m := m) (m' := mPut m x true) (fun z hz => by rw [hasM_put, hz]; simp) ns
    by_cases e : y = x
    · subst e
      simp only [lack, List.filter_cons] at mono ⊢
      rw [hasM_put, hx]
      simp; omega
    · have hm : x ∈ ns := by
        rcases List.mem_cons.1 h with h | h
        · exact absurd h.symm e
        · exact h
      have ih := lack_put hx hm
      simp only [lack, List.filter_cons] at ih ⊢
      rw [hasM_put]
      cases hasM m y <;> simp [e] <;> omega

theorem stepsReachable_loop (r : ApiRung) (s : List Int) (hs : s.length ≤ 1000000) (hr : ∀ j ∈ s, ∃ (k : Nat) (c : ApiContact), j = (k : Int) ∧ r.Contacts[k]? = some c) : ∀ (q i : Nat) (acc : List Str), i ≤ s.length → s.length - i < q → acc.length = i → (∀ x ∈ acc, ∃ c ∈ r.Contacts, x = c.To) →
    ∃ l, graph_Reachable_1_L1 r s q (i : Int) acc = some l ∧ l.length = s.length ∧ ∀ x ∈ l, ∃ c ∈ r.Contacts, x = c.To
  | 0, i, acc, h, hm, _, _ => absurd hm (Nat.not_lt_zero _)
  | q + 1, i, acc, h, hm, ha, hx0 => by
    rw [graph_Reachable_1_L1]
    by_cases hi : i < s.length
    · obtain ⟨x, hx⟩ := get_ex hi
      obtain ⟨k, c, rfl, hc⟩ := hr x (List.mem_of_getElem? hx)
      rw [if_pos (by simpa using hi), atI_nat, hx, Option.bind_some, atI_nat, hc, Option.bind_some, if_pos (by simp; omega), Option.bind_some, wrapN (by omega)]
      exact stepsReachable_loop r s hs hr q (i + 1) _ (by omega) (by omega) (by simp; omega) (fun x hx => by
        rcases List.mem_append.1 hx with h | h
        · exact hx0 x h
        · rw [List.mem_singleton] at h; exact ⟨c, List.mem_of_getElem? hc, h⟩)
    · rw [if_neg (by simpa using hi)]
      exact ⟨acc, rfl, by omega, hx0⟩

theorem stepsReachable (n : Nat) (r : ApiRung) (x : Str) (hs : r.Contacts.length ≤ 1000000) (hn : r.Contacts.length < n) : ∃ l, graph_Reachable_1 n x r = some l ∧ l.length ≤ r.Contacts.length ∧ ∀ y ∈ l, ∃ c ∈ r.Contacts, y = c.To := by
  obtain ⟨s, a1, a2, a3, _⟩ := Outgoing_eq n r x hs hn
  rw [graph_Reachable_1, a1, Option.bind_some, show (0 : Int) = ((0 : Nat) : Int) from rfl]
  obtain ⟨l, b1, b2, b3⟩ := stepsReachable_loop r s (by omega) (fun j hj => by obtain ⟨k, c, e1, e2, _⟩ := a3 j hj; exact ⟨k, c, e1, e2⟩) n 0 [] (by omega) (by omega) rfl (fun x h => by cases h)
  exact ⟨l, b1, by omega, b3⟩

theorem visitReachable_loop (r : ApiRung) (ns : List Str) (s : List Str) (slf : Str → List (Str × Bool) → ApiRung → Option (List (Str × Bool))) (hs : s.length ≤ 1000000) (hin : ∀ x ∈ s, x ∈ ns) (M : Nat)
    (hf : ∀ x ∈ ns, ∀ m, lack ns m ≤ M → ∃ m', slf x m r = some m' ∧ ∀ y, hasM m y = true → hasM m' y = true) : ∀ (q i : Nat) (m : List (Str × Bool)), i ≤ s.length → s.length - i < q → lack ns m ≤ M →
    ∃ m', graph_gather_1_c101_127_L1 r s slf q m (i : Int) = some m' ∧ ∀ y, hasM m y = true → hasM m' y = true
  | 0, i, m, h, hm, _ => absurd hm (Nat.not_lt_zero _)
  | q + 1, i, m, h, hm, hM => by
    rw [graph_gather_1_c101_127_L1]
    by_cases hi : i < s.length
    · obtain ⟨x, hx⟩ := get_ex hi
      obtain ⟨m1, a1, a2⟩ := hf x (hin x (List.mem_of_getElem? hx)) m hM
      rw [if_pos (by simpa using hi), atI_nat, hx, Option.bind_some, a1, Option.bind_some, wrapN (by omega)]
      obtain ⟨m', b1, b2⟩ := visitReachable_loop r ns s slf hs hin M hf q (i + 1) m1 (by omega) (by omega) (Nat.le_trans (lack_mono a2 ns) hM)
      exact ⟨m', b1, fun y hy => b2 y (a2 y hy)⟩
    · rw [if_neg (by simpa using hi)]
      exact ⟨m, rfl, fun _ h => h⟩

theorem visitReachable (r : ApiRung) (ns : List Str) (hns : IsNodes r ns) (hs : r.Contacts.length ≤ 1000000) : ∀ (n : Nat) (x : Str) (m : List (Str × Bool)), x ∈ ns → lack ns m + r.Contacts.length + 2 ≤ n →
    ∃ m', graph_gather_1_c101_127 n x m r = some m' ∧ ∀ y, hasM m y = true → hasM m' y = true
  | 0, x, m, _, h => absurd h (by omega)
  | n + 1, x, m, hx, h => by
    rw [graph_gather_1_c101_127]
    cases hh : hasM m x with
    | true =>
      have hh' : (mGet m x).getD false = true := hh
      rw [hh', if_pos rfl]
      exact ⟨m, rfl, fun _ h => h⟩
    | false =>
      have hh' : (mGet m x).getD false = false := hh
      have hput := lack_put hh hx
      obtain ⟨l, a1, a2, a3⟩ := stepsReachable n r x hs (by omega)
      rw [hh', if_neg (by simp), a1, Option.bind_some, show (0 : Int) = ((0 : Nat) : Int) from rfl]
      obtain ⟨m', b1, b2⟩ := visitReachable_loop r ns l (graph_gather_1_c101_127 n) (by omega) (fun y hy => by obtain ⟨c, hc, rfl⟩ := a3 y hy; exact (hns.ends c hc).2) (lack ns (mPut m x true))
        (fun y hy m' hm' => visitReachable r ns hns hs n y m' hy (by omega)) n 0 (mPut m x true) (by omega) (by omega) (Nat.le_refl _)
      exact ⟨m', b1, fun y hy => b2 y (by rw [hasM_put, hy]; simp)⟩

theorem stepsAncestors_loop (r : ApiRung) (s : List Int) (hs : s.length ≤ 1000000) (hr : ∀ j ∈ s, ∃ (k : Nat) (c : ApiContact), j = (k : Int) ∧ r.Contacts[k]? = some c) : ∀ (q i : Nat) (acc : List Str), i ≤ s.length → s.length - i < q → acc.length = i → (∀ x ∈ acc, ∃ c ∈ r.Contacts, x = c.From) →
    ∃ l, graph_Ancestors_1_L1 r s q (i : Int) acc = some l ∧ l.length = s.length ∧ ∀ x ∈ l, ∃ c ∈ r.Contacts, x = c.From
  | 0, i, acc, h, hm, _, _ => absurd hm (Nat.not_lt_zero _)
  | q + 1, i, acc, h, hm, ha, hx0 => by
    rw [graph_Ancestors_1_L1]
    by_cases hi : i < s.length
    · obtain ⟨x, hx⟩ := get_ex hi
      obtain ⟨k, c, rfl, hc⟩ := hr x (List.mem_of_getElem? hx)
      rw [if_pos (by simpa using hi), atI_nat, hx, Option.bind_some, atI_nat, hc, Option.bind_some, if_pos (by simp; omega), Option.bind_some, wrapN (by omega)]
      exact stepsAncestors_loop r s hs hr q (i + 1) _ (by omega) (by omega) (by simp; omega) (fun x hx => by
        rcases List.mem_append.1 hx with h | h
        · exact hx0 x h
        · rw [List.mem_singleton] at h; exact ⟨c, List.mem_of_getElem? hc, h⟩)
    · rw [if_neg (by simpa using hi)]
      exact ⟨acc, rfl, by omega, hx0⟩

theorem stepsAncestors (n : Nat) (r : ApiRung) (x : Str) (hs : r.Contacts.length ≤ 1000000) (hn : r.Contacts.length < n) : ∃ l, graph_Ancestors_1 n x r = some l ∧ l.length ≤ r.Contacts.length ∧ ∀ y ∈ l, ∃ c ∈ r.Contacts, y = c.From := by
  obtain ⟨s, a1, a2, a3, _⟩ := Incoming_eq n r x hs hn
  rw [graph_Ancestors_1, a1, Option.bind_some, show (0 : Int) = ((0 : Nat) : Int) from rfl]
  obtain ⟨l, b1, b2, b3⟩ := stepsAncestors_loop r s (by omega) (fun j hj => by obtain ⟨k, c, e1, e2, _⟩ := a3 j hj; exact ⟨k, c, e1, e2⟩) n 0 [] (by omega) (by omega) rfl (fun x h => by cases h)
  exact ⟨l, b1, by omega, b3⟩

theorem visitAncestors_loop (r : ApiRung) (ns : List Str) (s : List Str) (slf : Str → List (Str × Bool) → ApiRung → Option (List (Str × Bool))) (hs : s.length ≤ 1000000) (hin : ∀ x ∈ s, x ∈ ns) (M : Nat)
    (hf : ∀ x ∈ ns, ∀ m, lack ns m ≤ M → ∃ m', slf x m r = some m' ∧ ∀ y, hasM m y = true → hasM m' y = true) : ∀ (q i : Nat) (m : List (Str × Bool)), i ≤ s.length → s.length - i < q → lack ns m ≤ M →
    ∃ m', graph_gather_1_c103_127_L1 r s slf q m (i : Int) = some m' ∧ ∀ y, hasM m y = true → hasM m' y = true
  | 0, i, m, h, hm, _ => absurd hm (Nat.not_lt_zero _)
  | q + 1, i, m, h, hm, hM => by
    rw [graph_gather_1_c103_127_L1]
    by_cases hi : i < s.length
    · obtain ⟨x, hx⟩ := get_ex hi
      obtain ⟨m1, a1, a2⟩ := hf x (hin x (List.mem_of_getElem? hx)) m hM
      rw [if_pos (by simpa using hi), atI_nat, hx, Option.bind_some, a1, Option.bind_some, wrapN (by omega)]
      obtain ⟨m', b1, b2⟩ := visitAncestors_loop r ns s slf hs hin M hf q (i + 1) m1 (by omega) (by omega) (Nat.le_trans (lack_mono a2 ns) hM)
      exact ⟨m', b1, fun y hy => b2 y (a2 y hy)⟩
    · rw [if_neg (by simpa using hi)]
      exact ⟨m, rfl, fun _ h => h⟩

theorem visitAncestors (r : ApiRung) (ns : List Str) (hns : IsNodes r ns) (hs : r.Contacts.length ≤ 1000000) : ∀ (n : Nat) (x : Str) (m : List (Str × Bool)), x ∈ ns → lack ns m + r.Contacts.length + 2 ≤ n →
    ∃ m', graph_gather_1_c103_127 n x m r = some m' ∧ ∀ y, hasM m y = true → hasM m' y = true
  | 0, x, m, _, h => absurd h (by omega)
  | n + 1, x, m, hx, h => by
    rw [graph_gather_1_c103_127]
    cases hh : hasM m x with
    | true =>
      have hh' : (mGet m x).getD false = true := hh
      rw [hh', if_pos rfl]
      exact ⟨m, rfl, fun _ h => h⟩
    | false =>
      have hh' : (mGet m x).getD false = false := hh
      have hput := lack_put hh hx
      obtain ⟨l, a1, a2, a3⟩ := stepsAncestors n r x hs (by omega)
      rw [hh', if_neg (by simp), a1, Option.bind_some, show (0 : Int) = ((0 : Nat) : Int) from rfl]
      obtain ⟨m', b1, b2⟩ := visitAncestors_loop r ns l (graph_gather_1_c103_127 n) (by omega) (fun y hy => by obtain ⟨c, hc, rfl⟩ := a3 y hy; exact (hns.ends c hc).1) (lack ns (mPut m x true))
        (fun y hy m' hm' => visitAncestors r ns hns hs n y m' hy (by omega)) n 0 (mPut m x true) (by omega) (by omega) (Nat.le_refl _)
      exact ⟨m', b1, fun y hy => b2 y (by rw [hasM_put, hy]; simp)⟩

section
variable (n : Nat) (m2 : List (Str × Bool))
theorem delSeen_idx (l : List Str) (hl : l.length ≤ 100000000) (hp : ∀ x, ∃ b, graph_gather_2 n x m2 = some b) : ∀ (q i : Nat), i ≤ l.length → l.length - i < q →
    ∃ t : Int, slices_IndexFunc_string_c128_v1_L1 n l m2 q (i : Int) = some t ∧ (t = -1 ∨ ∃ k : Nat, t = (k : Int) ∧ k < l.length)
  | 0, i, h, hm => absurd hm (Nat.not_lt_zero _)
  | q + 1, i, h, hm => by
    rw [slices_IndexFunc_string_c128_v1_L1]
    by_cases hi : i < l.length
    · obtain ⟨x, hx⟩ := get_ex hi
      obtain ⟨b, hb⟩ := hp x
      rw [if_pos (by simpa using hi), atI_nat, hx, Option.bind_some, hb, Option.bind_some]
      cases b with
      | true => rw [if_pos rfl]; exact ⟨_, rfl, .inr ⟨i, rfl, hi⟩⟩
      | false =>
        rw [if_neg (by simp), wrapN (by omega)]
        exact delSeen_idx l hl hp q (i + 1) (by omega) (by omega)
    · rw [if_neg (by simpa using hi)]
      exact ⟨_, rfl, .inl rfl⟩

theorem delSeen_loop (len : Nat) (hl : len ≤ 100000000) (hp : ∀ x, ∃ b, graph_gather_2 n x m2 = some b) : ∀ (q j i : Nat) (l : List Str), l.length = len → i ≤ j → j ≤ len → len - j < q →
    ∃ l', slices_DeleteFunc_string_c128_v1_L1 n m2 q l (i : Int) (j : Int) = some l' ∧ l'.length ≤ len
  | 0, j, i, l, _, _, _, hm => absurd hm (Nat.not_lt_zero _)
  | q + 1, j, i, l, hll, hij, hj, hm => by
    rw [slices_DeleteFunc_string_c128_v1_L1]
    by_cases hk : j < l.length
    · obtain ⟨x, hx⟩ := get_ex hk
      obtain ⟨y, hy⟩ := get_ex (l := l) (i := i) (by omega)
      obtain ⟨b, hb⟩ := hp x
      rw [if_pos (by simpa using hk), atI_nat, hx, Option.bind_some, hb, Option.bind_some]
      cases b with
      | true =>
        rw [if_neg (by simp), wrapN (by omega)]
        exact delSeen_loop len hl hp q (j + 1) i l hll (by omega) (by omega) (by omega)
      | false =>
        rw [if_pos (by simp), atI_nat, hy, Option.bind_some, Option.bind_some, wrapN (by omega), wrapN (by omega)]
        exact delSeen_loop len hl hp q (j + 1) (i + 1) _ (by rw [List.length_set]; exact hll) (by omega) (by omega) (by omega)
    · rw [if_neg (by simpa using hk), Int.toNat_natCast, if_pos (by omega), if_pos (by omega), if_pos (by omega)]
      exact ⟨_, rfl, by rw [List.length_take]; omega⟩

theorem delSeen_eq (l : List Str) (hl : l.length ≤ 100000000) (hn : l.length < n) (hp : ∀ x, ∃ b, graph_gather_2 n x m2 = some b) : ∃ l', slices_DeleteFunc_string_c128_v1 n l m2 = some l' ∧ l'.length ≤ l.length := by
  obtain ⟨t, a1, a2⟩ := delSeen_idx n m2 l hl hp n 0 (by omega) (by omega)
  have a1' : slices_IndexFunc_string_c128_v1 n l m2 = some t := a1
  rw [slices_DeleteFunc_string_c128_v1, a1', Option.bind_some]
  rcases a2 with rfl | ⟨k, rfl, hk⟩
  · rw [if_pos (by decide)]; exact ⟨l, rfl, Nat.le_refl _⟩
  · rw [if_neg (by simp), wrapN (by omega)]
    exact delSeen_loop n m2 l.length hl hp n (k + 1) k l rfl (by omega) (by omega) (by omega)
end

section
variable (n : Nat) (b1 b2 : List Str)
theorem delDead_idx (l : List Str) (hl : l.length ≤ 100000000) (hp : ∀ x, ∃ b, flow_DeadNodes_1 n x b1 b2 = some b) : ∀ (q i : Nat), i ≤ l.length → l.length - i < q →
    ∃ t : Int, slices_IndexFunc_string_c80_v1_L1 n l b1 b2 q (i : Int) = some t ∧ (t = -1 ∨ ∃ k : Nat, t = (k : Int) ∧ k < l.length)
  | 0, i, h, hm => absurd hm (Nat.not_lt_zero _)
  | q + 1, i, h, hm => by
    rw [slices_IndexFunc_string_c80_v1_L1]
    by_cases hi : i < l.length
    · obtain ⟨x, hx⟩ := get_ex hi
      obtain ⟨b, hb⟩ := hp x
      rw [if_pos (by simpa using hi), atI_nat, hx, Option.bind_some, hb, Option.bind_some]
      cases b with
      | true => rw [if_pos rfl]; exact ⟨_, rfl, .inr ⟨i, rfl, hi⟩⟩
      | false =>
        rw [if_neg (by simp), wrapN (by omega)]
        exact delDead_idx l hl hp q (i + 1) (by omega) (by omega)
    · rw [if_neg (by simpa using hi)]
      exact ⟨_, rfl, .inl rfl⟩

theorem delDead_loop (len : Nat) (hl : len ≤ 100000000) (hp : ∀ x, ∃ b, flow_DeadNodes_1 n x b1 b2 = some b) : ∀ (q j i : Nat) (l : List Str), l.length = len → i ≤ j → j ≤ len → len - j < q →
    ∃ l', slices_DeleteFunc_string_c80_L1 n b1 b2 q l (i : Int) (j : Int) = some l' ∧ l'.length ≤ len
  | 0, j, i, l, _, _, _, hm => absurd hm (Nat.not_lt_zero _)
  | q + 1, j, i, l, hll, hij, hj, hm => by
    rw [slices_DeleteFunc_string_c80_L1]
    by_cases hk : j < l.length
    · obtain ⟨x, hx⟩ := get_ex hk
      obtain ⟨y, hy⟩ := get_ex (l := l) (i := i) (by omega)
      obtain ⟨b, hb⟩ := hp x
      rw [if_pos (by simpa using hk), atI_nat, hx, Option.bind_some, hb, Option.bind_some]
      cases b with
      | true =>
        rw [if_neg (by simp), wrapN (by omega)]
        exact delDead_loop len hl hp q (j + 1) i l hll (by omega) (by omega) (by omega)
      | false =>
        rw [if_pos (by simp), atI_nat, hy, Option.bind_some, Option.bind_some, wrapN (by omega), wrapN (by omega)]
        exact delDead_loop len hl hp q (j + 1) (i + 1) _ (by rw [List.length_set]; exact hll) (by omega) (by omega) (by omega)
    · rw [if_neg (by simpa using hk), Int.toNat_natCast, if_pos (by omega), if_pos (by omega), if_pos (by omega)]
      exact ⟨_, rfl, by rw [List.length_take]; omega⟩

theorem delDead_eq (l : List Str) (hl : l.length ≤ 100000000) (hn : l.length < n) (hp : ∀ x, ∃ b, flow_DeadNodes_1 n x b1 b2 = some b) : ∃ l', slices_DeleteFunc_string_c80 n l b1 b2 = some l' ∧ l'.length ≤ l.length := by
  obtain ⟨t, a1, a2⟩ := delDead_idx n b1 b2 l hl hp n 0 (by omega) (by omega)
  have a1' : slices_IndexFunc_string_c80_v1 n l b1 b2 = some t := a1
  rw [slices_DeleteFunc_string_c80, a1', Option.bind_some]
  rcases a2 with rfl | ⟨k, rfl, hk⟩
  · rw [if_pos (by decide)]; exact ⟨l, rfl, Nat.le_refl _⟩
  · rw [if_neg (by simp), wrapN (by omega)]
    exact delDead_loop n b1 b2 l.length hl hp n (k + 1) k l rfl (by omega) (by omega) (by omega)
end

theorem Reachable_ex (n : Nat) (r : ApiRung) (hs : r.Contacts.length ≤ 1000000) (hn : 4 * r.Contacts.length + 20 ≤ n) : ∃ l, graph_Reachable n r (⟨#[76]⟩ : Str) = some l ∧ l.length ≤ 2 + 2 * r.Contacts.length := by
  obtain ⟨ns, a1, a2⟩ := nodes_eq n r (by omega) hs
  have hlen := a2.len
  have hmem : (⟨#[76]⟩ : Str) ∈ ns := a2.L
  obtain ⟨m, b1, _⟩ := visitReachable r ns a2 hs n (⟨#[76]⟩ : Str) [] hmem (by have := lack_le ns []; omega)
  obtain ⟨l, c1, c2⟩ := delSeen_eq n m ns (by omega) (by omega) (fun x => ⟨_, rfl⟩)
  refine ⟨l, ?_, by omega⟩
  rw [graph_Reachable, graph_gather_c101, a1, Option.bind_some, containsS_eq n ns _ (by omega) (by omega), Option.bind_some, if_neg (by simp [hmem]), b1, Option.bind_some, c1]
  rfl

theorem Ancestors_ex (n : Nat) (r : ApiRung) (hs : r.Contacts.length ≤ 1000000) (hn : 4 * r.Contacts.length + 20 ≤ n) : ∃ l, graph_Ancestors n r (⟨#[82]⟩ : Str) = some l ∧ l.length ≤ 2 + 2 * r.Contacts.length := by
  obtain ⟨ns, a1, a2⟩ := nodes_eq n r (by omega) hs
  have hlen := a2.len
  have hmem : (⟨#[82]⟩ : Str) ∈ ns := a2.R
  obtain ⟨m, b1, _⟩ := visitAncestors r ns a2 hs n (⟨#[82]⟩ : Str) [] hmem (by have := lack_le ns []; omega)
  obtain ⟨l, c1, c2⟩ := delSeen_eq n m ns (by omega) (by omega) (fun x => ⟨_, rfl⟩)
  refine ⟨l, ?_, by omega⟩
  rw [graph_Ancestors, graph_gather_c103, a1, Option.bind_some, containsS_eq n ns _ (by omega) (by omega), Option.bind_some, if_neg (by simp [hmem]), b1, Option.bind_some, c1]
  rfl

/-- The check of a rung's graph ends; a rung that passes has no cycle. -/
theorem flow_ex (n : Nat) (r : ApiRung) (hs : r.Contacts.length ≤ 1000000) (hn : 4 * r.Contacts.length + 20 ≤ n) : ∃ e, flow_Check n r = some e ∧ (e = 0 → ∃ rank : Str → Nat, ∀ c ∈ r.Contacts, rank c.From < rank c.To) := by
  rw [flow_Check]
  by_cases h0 : r.Contacts.length = 0
  · rw [if_pos (by simpa using h0)]
    exact ⟨_, rfl, fun e => by cases e⟩
  rw [if_neg (by simpa using h0)]
  obtain ⟨s, e, a1, a2⟩ := TopoSort_eq n r hs (by omega)
  rw [a1, Option.bind_some]
  dsimp only
  by_cases he : e = 0
  · rw [if_neg (by simpa using he)]
    obtain ⟨l1, b1, b1'⟩ := Reachable_ex n r hs hn
    obtain ⟨l2, b2, b2'⟩ := Ancestors_ex n r hs hn
    obtain ⟨ns, c1, c2⟩ := nodes_eq n r (by omega) hs
    have hlen := c2.len
    obtain ⟨l, d1, _⟩ := delDead_eq n l1 l2 ns (by omega) (by omega) (fun x => by
      rw [flow_DeadNodes_1, containsS_eq n l1 x (by omega) (by omega), Option.bind_some]
      split
      · rw [containsS_eq n l2 x (by omega) (by omega)]; exact ⟨_, rfl⟩
      · exact ⟨_, rfl⟩)
    rw [flow_DeadNodes, b1, Option.bind_some, b2, Option.bind_some, c1, Option.bind_some, d1, Option.bind_some, Option.bind_some]
    split
    · exact ⟨_, rfl, fun e => by cases e⟩
    · exact ⟨_, rfl, fun _ => a2 he⟩
  · rw [if_pos (by simpa using he)]
    exact ⟨_, rfl, fun e => absurd e he⟩
end Go.G

namespace Go.G
open Go.Av

def cg (cs : List ApiContact) (N : Int) : ApiContact := (cs[N.toNat]?).getD default
def ig (sl : List Int) (N : Int) : Int := (sl[N.toNat]?).getD 0
def ldOp (k : Int) : Int := if k = 0 then 0 else if k = 1 then 1 else if k = 2 then 6 else 7
def jnOp (K k : Int) : Int := if K = 1 then (if k = 0 then 2 else 3) else (if k = 0 then 4 else 5)
def ppOp (K : Int) : Int := if K = 1 then 9 else 10
def seesS (c : ApiContact) : Bool := c.Kind == 2 || c.Kind == 3
theorem codegen_sees_eq (n : Nat) (c : ApiContact) : codegen_sees n c = some (seesS c) := by
  rw [codegen_sees, seesS]
  cases h : (c.Kind == 2) <;> simp

mutual
/-- The code of a tree, over contacts and slots. -/
def layS (cs : List ApiContact) (sl : List Int) : TreeTree → List ApiIns
  | .mk K N ks => if K = 0 then [⟨ldOp (cg cs N).Kind, (cg cs N).A, ig sl N⟩] else layH cs sl K ks
def layH (cs : List ApiContact) (sl : List Int) (K : Int) : List TreeTree → List ApiIns
  | [] => []
  | k :: ks => layS cs sl k ++ layT cs sl K ks
def layT (cs : List ApiContact) (sl : List Int) (K : Int) : List TreeTree → List ApiIns
  | [] => []
  | k :: ks => (if k.Kind = 0 ∧ seesS (cg cs k.N) = false then [⟨jnOp K (cg cs k.N).Kind, (cg cs k.N).A, 0⟩] else ⟨8, ⟨0, 0⟩, 0⟩ :: (layS cs sl k ++ [⟨ppOp K, ⟨0, 0⟩, 0⟩])) ++ layT cs sl K ks
end

theorem layT_len (cs : List ApiContact) (sl : List Int) (K : Int) : ∀ ks : List TreeTree, (∀ k ∈ ks, (layS cs sl k).length + 2 ≤ 3 * szT k) → (layT cs sl K ks).length ≤ 3 * szL ks
  | [], _ => by simp [layT]
  | k :: ks, h => by
    have h1 := h k (by simp)
    have h2 := layT_len cs sl K ks fun k hk => h k (by simp [hk])
    have h3 := szT_pos k
    rw [layT, szL, List.length_append]
    split
    · simp only [List.length_singleton]; omega
    · simp only [List.length_cons, List.length_append, List.length_nil]; omega

theorem layS_len (cs : List ApiContact) (sl : List Int) : ∀ t : TreeTree, (layS cs sl t).length + 2 ≤ 3 * szT t := by
  intro t
  induction t using tree_ind with
  | h K N ks ih =>
    rw [layS, szT]
    split
    · simp only [List.length_singleton]; omega
    · cases ks with
      | nil => simp [layH, szL]
      | cons k ks =>
        have h1 := ih k (by simp)
        have h2 := layT_len cs sl K ks fun k hk => ih k (by simp [hk])
        rw [layH, List.length_append, szL]
        omega

theorem put_eq (n : Nat) (x : ApiIns) (b0 : Str) (cs : List ApiContact) (b2 : List ApiCoil) (b3 : Str) (sl : List Int) (code : List ApiIns) (h : code.length + 1 ≤ 1000000000) :
    codegen_maker_put_v1 n x b0 cs b2 b3 sl code = some (code ++ [x]) := by
  rw [codegen_maker_put_v1, if_pos (by simpa using h)]; rfl

theorem cg_at {cs : List ApiContact} {N : Int} (h0 : 0 ≤ N) (h : N < cs.length) : atI cs N = some (cg cs N) := by
  obtain ⟨m, rfl⟩ := Int.eq_ofNat_of_zero_le h0
  have hm : m < cs.length := by omega
  rw [atI_nat, cg, Int.toNat_natCast, List.getElem?_eq_getElem hm]; rfl
theorem ig_at {sl : List Int} {N : Int} (h0 : 0 ≤ N) (h : N < sl.length) : atI sl N = some (ig sl N) := by
  obtain ⟨m, rfl⟩ := Int.eq_ofNat_of_zero_le h0
  have hm : m < sl.length := by omega
  rw [atI_nat, ig, Int.toNat_natCast, List.getElem?_eq_getElem hm]; rfl

/-- Kinds that are known. -/
def KindsOk (cs : List ApiContact) : Prop := ∀ c ∈ cs, 0 ≤ c.Kind ∧ c.Kind < 4
theorem KindsOk.cg {cs : List ApiContact} (h : KindsOk cs) {N : Int} (h0 : 0 ≤ N) (h1 : N < cs.length) : 0 ≤ (cg cs N).Kind ∧ (cg cs N).Kind < 4 := by
  obtain ⟨m, rfl⟩ := Int.eq_ofNat_of_zero_le h0
  have hm : m < cs.length := by omega
  have e : Go.G.cg cs (m : Int) = cs[m] := by rw [Go.G.cg, Int.toNat_natCast, List.getElem?_eq_getElem hm]; rfl
  rw [e]; exact h _ (List.getElem_mem hm)

theorem Ok_leaf {len : Int} {k : TreeTree} (hk : Ok len k) (h0 : k.Kind = 0) : 0 ≤ k.N ∧ k.N < len := by
  obtain ⟨K, N, ks⟩ := k
  rw [TreeTree_Kind_mk] at h0
  subst h0
  rw [Ok] at hk
  rcases hk with ⟨_, _, h⟩ | ⟨h | h, _⟩
  · exact h
  · omega
  · omega

section
variable {cs : List ApiContact} {sl : List Int} (hk : KindsOk cs) (hsl : sl.length = cs.length) (b0 : Str) (b2 : List ApiCoil) (b3 : Str)
include hk hsl

theorem lay_loop (n : Nat) (t : TreeTree) (hK : t.Kind = 1 ∨ t.Kind = 2) (ks : List TreeTree) (hs : ks.length ≤ 1000000000) (hOk : ∀ k ∈ ks, Ok cs.length k)
    (slf : TreeTree → Str → List ApiContact → List ApiCoil → Str → List Int → List ApiIns → Option (List ApiIns))
    (hf : ∀ k ∈ ks, ∀ code : List ApiIns, code.length + 3 * szT k ≤ 1000000002 → slf k b0 cs b2 b3 sl code = some (code ++ layS cs sl k)) :
    ∀ (m i : Nat) (code : List ApiIns), i ≤ ks.length → ks.length - i < m → code.length + 3 * szL (ks.drop i) ≤ 1000000000 →
    codegen_maker_lay_v1_L1 n t b0 cs b2 b3 sl ks slf m code (i : Int) = some (code ++ layT cs sl t.Kind (ks.drop i))
  | 0, i, code, h, hm, _ => absurd hm (Nat.not_lt_zero _)
  | m + 1, i, code, h, hm, hc => by
    rw [codegen_maker_lay_v1_L1]
    by_cases hi : i < ks.length
    · obtain ⟨x, hx⟩ := get_ex hi
      have hmem := List.mem_of_getElem? hx
      rw [drop_cons hx, szL] at hc
      have hp := szT_pos x
      have hlx := layS_len cs sl x
      have ih := fun code' (h' : code'.length + 3 * szL (ks.drop (i + 1)) ≤ 1000000000) => lay_loop n t hK ks hs hOk slf hf m (i + 1) code' (by omega) (by omega) h'
      rw [if_pos (by simpa using hi), atI_nat, hx, Option.bind_some, drop_cons hx, layT]
      have hpush : codegen_maker_lay_v1_J2 n t b0 cs b2 b3 sl code (i : Int) (codegen_maker_lay_v1_L1 n t b0 cs b2 b3 sl ks slf m) x slf
          = some (code ++ ((⟨8, ⟨0, 0⟩, 0⟩ :: (layS cs sl x ++ [⟨ppOp t.Kind, ⟨0, 0⟩, 0⟩])) ++ layT cs sl t.Kind (ks.drop (i + 1)))) := by
        rw [codegen_maker_lay_v1_J2, put_eq _ _ _ _ _ _ _ _ (by omega), Option.bind_some, hf x hmem _ (by simp; omega), Option.bind_some, wrapN (by omega)]
        have h0 : ¬ t.Kind = 0 := by omega
        rw [if_neg h0]
        rcases hK with hK | hK
        · rw [if_pos hK, put_eq _ _ _ _ _ _ _ _ (by simp; omega), Option.bind_some, ih _ (by simp; omega)]
          simp [ppOp, hK]
        · rw [if_neg (by omega), if_pos hK, put_eq _ _ _ _ _ _ _ _ (by simp; omega), Option.bind_some, ih _ (by simp; omega)]
          simp [ppOp, hK]
      by_cases hk0 : x.Kind = 0
      · obtain ⟨n0, n1⟩ := Ok_leaf (hOk x hmem) hk0
        rw [if_pos (by simpa using hk0), cg_at n0 n1, Option.bind_some, codegen_sees_eq, Option.bind_some]
        obtain ⟨c0, c1⟩ := hk.cg n0 n1
        cases hse : seesS (cg cs x.N) with
        | true =>
          rw [if_neg (show ¬ (!true) = true by simp), if_neg (show ¬ (x.Kind = 0 ∧ true = false) by simp)]
          exact hpush
        | false =>
          rw [if_pos (show (!false) = true from rfl), if_pos (show x.Kind = 0 ∧ false = false from ⟨hk0, rfl⟩)]
          have hkd : (cg cs x.N).Kind = 0 ∨ (cg cs x.N).Kind = 1 := by
            simp only [seesS, Bool.or_eq_false_iff, beq_eq_false_iff_ne] at hse
            omega
          have h0 : ¬ t.Kind = 0 := by omega
          rw [if_neg h0, wrapN (by omega)]
          rcases hK with hK | hK <;> rcases hkd with hkd | hkd
          · rw [if_pos hK, if_pos hkd, put_eq _ _ _ _ _ _ _ _ (by omega), Option.bind_some, ih _ (by simp; omega)]
            simp [jnOp, hK, hkd]
          · rw [if_pos hK, if_neg (by omega), if_pos hkd, put_eq _ _ _ _ _ _ _ _ (by omega), Option.bind_some, ih _ (by simp; omega)]
            simp [jnOp, hK, hkd]
          · rw [if_neg (by omega), if_pos hK, if_pos hkd, put_eq _ _ _ _ _ _ _ _ (by omega), Option.bind_some, ih _ (by simp; omega)]
            simp [jnOp, hK, hkd]
          · rw [if_neg (by omega), if_pos hK, if_neg (by omega), if_pos hkd, put_eq _ _ _ _ _ _ _ _ (by omega), Option.bind_some, ih _ (by simp; omega)]
            simp [jnOp, hK, hkd]
      · rw [if_neg (by simpa using hk0), if_neg (fun q => hk0 q.1)]
        exact hpush
    · rw [if_neg (by simpa using hi), List.drop_eq_nil_of_le (by omega), layT, List.append_nil]

theorem lay_eq : ∀ (t : TreeTree) (n : Nat) (code : List ApiIns), Ok cs.length t → szT t ≤ 300000000 → code.length + 3 * szT t ≤ 1000000002 → szT t < n → codegen_maker_lay_v1 n t b0 cs b2 b3 sl code = some (code ++ layS cs sl t) := by
  intro t
  induction t using tree_ind with
  | h K N ks ih =>
    intro n code hOk hb hc hn
    obtain ⟨m, rfl, hlen, hkm⟩ := szT_kids hn
    rw [codegen_maker_lay_v1, layS]
    rw [szT] at hc hb
    rw [Ok] at hOk
    rcases hOk with ⟨rfl, rfl, n0, n1⟩ | ⟨hK, rfl, h2, hne, hks⟩
    · obtain ⟨c0, c1⟩ := hk.cg n0 n1
      rw [if_pos (show (0 : Int) = 0 from rfl), if_pos (show ((TreeTree.mk 0 N []).Kind == 0) = true from rfl)]
      simp only [TreeTree_Kind_mk, TreeTree_N_mk, TreeTree_Kids_mk]
      rw [cg_at n0 n1, Option.bind_some, ig_at n0 (by omega)]
      have hkd : (cg cs N).Kind = 0 ∨ (cg cs N).Kind = 1 ∨ (cg cs N).Kind = 2 ∨ (cg cs N).Kind = 3 := by omega
      have hl1 : code.length + 1 ≤ 1000000000 := by omega
      rcases hkd with hkd | hkd | hkd | hkd <;> simp [hkd, ldOp, put_eq _ _ _ _ _ _ _ _ hl1]
    · rw [OkL_iff] at hks
      have hK0 : ¬ K = 0 := by omega
      rw [if_neg (show ¬ ((TreeTree.mk K 0 ks).Kind == 0) = true by rw [TreeTree_Kind_mk]; simpa using hK0), if_neg hK0, TreeTree_Kids_mk]
      match ks, h2, hc, hb, hks, ih, hlen, hkm with
      | k :: ks, h2, hc, hb, hks, ih, hlen, hkm =>
        rw [szL] at hc hb
        have hlk := layS_len cs sl k
        have hll := szL_len ks
        rw [show atI (k :: ks) 0 = some k from rfl, Option.bind_some, ih k (by simp) m code (hks k (by simp)) (by omega) (by omega) (hkm k (by simp)), Option.bind_some]
        rw [if_pos (by simp; omega)]
        simp only [List.drop_succ_cons, List.drop_zero, Option.bind_some]
        have := lay_loop hk hsl b0 b2 b3 m (.mk K 0 (k :: ks)) hK ks (by omega) (fun j hj => hks j (by simp [hj])) (codegen_maker_lay_v1 m)
          (fun j hj code' h' => ih j (by simp [hj]) m code' (hks j (by simp [hj])) (by have := szL_mem hj; omega) h' (hkm j (by simp [hj]))) m 0 (code ++ layS cs sl k) (by omega) (by simp at hlen; omega) (by simp; omega)
        rw [show ((0 : Nat) : Int) = 0 from rfl, List.drop_zero] at this
        rw [this, layH, List.append_assoc]
        rfl
end

/-! ### slots -/
/-- The slots of the contacts, from the first one on. -/
def slotsS : List ApiContact → Int → List Int
  | [], _ => []
  | c :: cs, s => if seesS c then s :: slotsS cs (s + 1) else 0 :: slotsS cs s
theorem slotsS_len : ∀ (cs : List ApiContact) (s : Int), (slotsS cs s).length = cs.length
  | [], _ => rfl
  | c :: cs, s => by rw [slotsS]; split <;> simp [slotsS_len]

theorem slots_loop (n : Nat) (r : ApiRung) (t : TreeTree) (hs : r.Contacts.length ≤ 1000000) : ∀ (m i : Nat) (s : Int) (pre : List Int), i ≤ r.Contacts.length → r.Contacts.length - i < m → pre.length = i → 0 ≤ s → s + (r.Contacts.length - i : Nat) ≤ 100000000 →
    codegen_Tree_L2 n r t m s (i : Int) (pre ++ List.replicate (r.Contacts.length - i) 0) = codegen_Tree_J1 n r t (pre ++ slotsS (r.Contacts.drop i) s)
  | 0, i, s, pre, h, hm, _, _, _ => absurd hm (Nat.not_lt_zero _)
  | m + 1, i, s, pre, h, hm, hp, h0, h1 => by
    rw [codegen_Tree_L2]
    by_cases hi : i < r.Contacts.length
    · obtain ⟨x, hx⟩ := get_ex hi
      obtain ⟨q, hq⟩ : ∃ q, r.Contacts.length - i = q + 1 := ⟨r.Contacts.length - i - 1, by omega⟩
      have hq' : r.Contacts.length - (i + 1) = q := by omega
      rw [if_pos (by simpa using hi), atI_nat, hx, Option.bind_some, codegen_sees_eq, Option.bind_some, drop_cons hx, slotsS, hq, List.replicate_succ]
      have hat : atI (pre ++ 0 :: List.replicate q (0 : Int)) (i : Int) = some 0 := by
        rw [atI_nat, List.getElem?_append_right (by omega), hp]; simp
      have hset : (pre ++ 0 :: List.replicate q (0 : Int)).set i s = (pre ++ [s]) ++ List.replicate q 0 := by
        rw [List.set_append_right _ _ (by omega), hp]; simp
      cases hse : seesS x with
      | true =>
        have := slots_loop n r t hs m (i + 1) (s + 1) (pre ++ [s]) (by omega) (by omega) (by simp [hp]) (by omega) (by omega)
        rw [hq'] at this
        rw [if_pos rfl, if_pos rfl, hat, Option.bind_some, Int.toNat_natCast, hset, Option.bind_some, wrapN (by omega), wrapI (by omega) (by omega), this]
        simp
      | false =>
        have := slots_loop n r t hs m (i + 1) s (pre ++ [0]) (by omega) (by omega) (by simp [hp]) h0 (by omega)
        rw [hq'] at this
        rw [if_neg (by simp), if_neg (by simp), wrapN (by omega)]
        rw [show pre ++ 0 :: List.replicate q (0 : Int) = (pre ++ [0]) ++ List.replicate q 0 by simp, this]
        simp
    · have : r.Contacts.length - i = 0 := by omega
      rw [if_neg (by simpa using hi), List.drop_eq_nil_of_le (by omega), slotsS, this]; rfl

/-- Whether a contact's kind is unknown. -/
def badK (c : ApiContact) : Bool := decide (c.Kind < 0) || decide (c.Kind ≥ 4)
theorem codegen_Tree_1_eq (n : Nat) (c : ApiContact) : codegen_Tree_1 n c = some (badK c) := by
  rw [codegen_Tree_1, badK]
  by_cases h : c.Kind < 0 <;> simp [h]
theorem c36_loop (n : Nat) (s : List ApiContact) (hs : s.length ≤ 1000000000) : ∀ (k i : Nat), i ≤ s.length → s.length - i < k →
    ∃ r, slices_IndexFunc_api_Contact_c36_L1 n s k (i : Int) = some r ∧ decide (r ≥ 0) = (s.drop i).any badK
  | 0, i, h, hk => absurd hk (Nat.not_lt_zero _)
  | k + 1, i, h, hk => by
    rw [slices_IndexFunc_api_Contact_c36_L1]
    by_cases hi : i < s.length
    · obtain ⟨x, hx⟩ := get_ex hi
      rw [if_pos (by simpa using hi), atI_nat, hx, Option.bind_some, codegen_Tree_1_eq, Option.bind_some, drop_cons hx, List.any_cons]
      cases hc : badK x with
      | true => exact ⟨(i : Int), by simp, by simp⟩
      | false =>
        rw [wrapN (by omega)]
        obtain ⟨r, h1, h2⟩ := c36_loop n s hs k (i + 1) (by omega) (by omega)
        exact ⟨r, by simpa using h1, by simpa using h2⟩
    · rw [if_neg (by simpa using hi)]
      refine ⟨-1, rfl, ?_⟩
      rw [List.drop_eq_nil_of_le (by omega)]; rfl
theorem c36_eq (n : Nat) (s : List ApiContact) (hs : s.length ≤ 1000000000) (h : s.length < n) : slices_ContainsFunc_api_Contact_c36 n s = some (s.any badK) := by
  obtain ⟨r, h1, h2⟩ := c36_loop n s hs n 0 (by omega) (by omega)
  simp only [slices_ContainsFunc_api_Contact_c36, slices_IndexFunc_api_Contact_c36]
  rw [show (0 : Int) = ((0 : Nat) : Int) from rfl, h1, Option.bind_some]
  rw [List.drop_zero] at h2
  exact congrArg some h2

/-- What the compiler of a tree answers. -/
def treeS (r : ApiRung) (t : TreeTree) (slot : Int) : List ApiIns × Int :=
  if checkS t r.Contacts.length ≠ 0 then ([], checkS t r.Contacts.length) else if r.Contacts.any badK then ([], 8) else if slot < 0 ∨ slot > 16384 then ([], 3) else (layS r.Contacts (slotsS r.Contacts slot) t, 0)

theorem codegen_Tree_eq (n : Nat) (r : ApiRung) (t : TreeTree) (slot : Int) (hb : szT t ≤ 300000000) (hn : szT t < n) (hl : r.Contacts.length ≤ 1000000) (hln : r.Contacts.length < n) : codegen_Tree n r t slot = some (treeS r t slot) := by
  rw [codegen_Tree, treeS, tree_Check_eq t _ n (by omega) hn, Option.bind_some]
  by_cases hc : checkS t r.Contacts.length = 0
  · rw [if_neg (show ¬ (checkS t r.Contacts.length != 0) = true by simp [hc]), if_neg (show ¬ (checkS t r.Contacts.length ≠ 0) by simp [hc]), c36_eq n _ (by omega) hln, Option.bind_some]
    cases hbad : r.Contacts.any badK with
    | true => simp
    | false =>
      rw [if_neg (show ¬ false = true by simp), if_neg (show ¬ false = true by simp)]
      by_cases h0 : slot < 0
      · simp [h0]
      by_cases h1 : slot > 16384
      · simp [h0, h1]
      rw [if_neg (show ¬ (decide (slot < 0)) = true by simpa using h0), if_neg (show ¬ (decide (slot > 16384)) = true by simpa using h1), if_neg (show ¬ (slot < 0 ∨ slot > 16384) by omega), if_pos (by omega), Option.bind_some]
      have := slots_loop n r t hl n 0 slot [] (by omega) (by omega) rfl (by omega) (by omega)
      rw [List.nil_append, List.nil_append, Nat.sub_zero, List.drop_zero, show ((0 : Nat) : Int) = 0 from rfl] at this
      rw [this, codegen_Tree_J1]
      obtain ⟨g1, _, _⟩ := (checkS_iff t r.Contacts.length).1 hc
      have hk : KindsOk r.Contacts := fun c hc => by
        have := List.any_eq_false.1 hbad c hc
        simp only [badK, Bool.or_eq_true, decide_eq_true_eq, not_or] at this
        omega
      rw [lay_eq hk (slotsS_len _ _) _ _ _ t n [] g1 (by omega) (by simp; omega) hn, Option.bind_some, List.nil_append]
  · simp [hc]
end Go.G

namespace Go.G
open Go.Av

/-- An instruction, its slot shifted. -/
def shI (b : Int) (x : ApiIns) : ApiIns := ⟨x.Op, x.A, if x.Op = 6 ∨ x.Op = 7 then x.N + b else x.N⟩

theorem slotsS_shift (b : Int) : ∀ (cs : List ApiContact) (s : Int) (i : Nat) (c : ApiContact), cs[i]? = some c →
    ∃ v, (slotsS cs s)[i]? = some v ∧ (slotsS cs (s + b))[i]? = some (if seesS c then v + b else v)
  | [], s, i, c, h => by simp at h
  | c0 :: cs, s, 0, c, h => by
    simp only [List.getElem?_cons_zero, Option.some.injEq] at h
    subst h
    rw [slotsS, slotsS]
    cases seesS c0 with
    | true => exact ⟨s, by simp, by simp⟩
    | false => exact ⟨0, by simp, by simp⟩
  | c0 :: cs, s, i + 1, c, h => by
    rw [List.getElem?_cons_succ] at h
    rw [slotsS, slotsS]
    cases seesS c0 with
    | true =>
      obtain ⟨v, h1, h2⟩ := slotsS_shift b cs (s + 1) i c h
      refine ⟨v, by simpa using h1, ?_⟩
      have e : s + b + 1 = s + 1 + b := by omega
      simpa [e] using h2
    | false =>
      obtain ⟨v, h1, h2⟩ := slotsS_shift b cs s i c h
      exact ⟨v, by simpa using h1, by simpa using h2⟩

theorem ig_shift {cs : List ApiContact} (s b : Int) {N : Int} (h0 : 0 ≤ N) (h1 : N < cs.length) : ig (slotsS cs (s + b)) N = if seesS (cg cs N) then ig (slotsS cs s) N + b else ig (slotsS cs s) N := by
  obtain ⟨m, rfl⟩ := Int.eq_ofNat_of_zero_le h0
  have hm : m < cs.length := by omega
  obtain ⟨v, e1, e2⟩ := slotsS_shift b cs s m cs[m] (List.getElem?_eq_getElem hm)
  have e : cg cs (m : Int) = cs[m] := by rw [cg, Int.toNat_natCast, List.getElem?_eq_getElem hm]; rfl
  rw [e]
  simp only [ig, Int.toNat_natCast, e1, e2, Option.getD_some]

theorem jnOp_ne {K k : Int} : ¬ (jnOp K k = 6 ∨ jnOp K k = 7) := by
  unfold jnOp
  split <;> split <;> omega
theorem ppOp_ne {K : Int} : ¬ (ppOp K = 6 ∨ ppOp K = 7) := by
  unfold ppOp
  split <;> omega

theorem layT_shift {cs : List ApiContact} (s b K : Int) : ∀ ks : List TreeTree, (∀ k ∈ ks, layS cs (slotsS cs (s + b)) k = (layS cs (slotsS cs s) k).map (shI b)) →
    layT cs (slotsS cs (s + b)) K ks = (layT cs (slotsS cs s) K ks).map (shI b)
  | [], _ => by rw [layT, layT]; rfl
  | k :: ks, h => by
    rw [layT, layT, List.map_append, layT_shift s b K ks fun k hk => h k (by simp [hk]), h k (by simp)]
    congr 1
    split
    · simp [shI, jnOp_ne]
    · simp [shI, ppOp_ne]

theorem layS_shift {cs : List ApiContact} (hk : KindsOk cs) (s b : Int) : ∀ t : TreeTree, Ok cs.length t → layS cs (slotsS cs (s + b)) t = (layS cs (slotsS cs s) t).map (shI b) := by
  intro t
  induction t using tree_ind with
  | h K N ks ih =>
    intro hOk
    rw [layS, layS]
    rw [Ok] at hOk
    rcases hOk with ⟨rfl, rfl, n0, n1⟩ | ⟨hK, rfl, h2, hne, hks⟩
    · rw [if_pos rfl, if_pos rfl, ig_shift s b n0 n1]
      obtain ⟨c0, c1⟩ := hk.cg n0 n1
      have hkd : (cg cs N).Kind = 0 ∨ (cg cs N).Kind = 1 ∨ (cg cs N).Kind = 2 ∨ (cg cs N).Kind = 3 := by omega
      rcases hkd with hkd | hkd | hkd | hkd <;> simp [shI, ldOp, seesS, hkd]
    · rw [if_neg (by omega), if_neg (by omega)]
      rw [OkL_iff] at hks
      match ks, hks, ih with
      | [], _, _ => rw [layH, layH]; rfl
      | k :: ks, hks, ih =>
        rw [layH, layH, List.map_append, ih k (by simp) (hks k (by simp)), layT_shift s b K ks fun j hj => ih j (by simp [hj]) (hks j (by simp [hj]))]

/-- Shifting the first slot. -/
theorem treeS_shift (r : ApiRung) (t : TreeTree) (s b : Int) (hs : 0 ≤ s) (hb : 0 ≤ b) (hm : s + b ≤ 16384) : treeS r t (s + b) = ((treeS r t s).1.map (shI b), (treeS r t s).2) := by
  rw [treeS, treeS]
  split
  · rfl
  · rename_i hc
    cases hbad : r.Contacts.any badK with
    | true => rfl
    | false =>
      rw [if_neg (show ¬ false = true by simp), if_neg (show ¬ false = true by simp), if_neg (show ¬ (s + b < 0 ∨ s + b > 16384) by omega), if_neg (show ¬ (s < 0 ∨ s > 16384) by omega)]
      obtain ⟨g1, _, _⟩ := (checkS_iff t r.Contacts.length).1 (by simpa using hc)
      have hk : KindsOk r.Contacts := fun c hc => by
        have := List.any_eq_false.1 hbad c hc
        simp only [badK, Bool.or_eq_true, decide_eq_true_eq, not_or] at this
        omega
      rw [layS_shift hk s b t g1]
end Go.G

namespace Go.G
open Go.Av
set_option maxRecDepth 100000
theorem alive17 : law17_alive 2000000 = some true := by decide +kernel
end Go.G

namespace Go.G
open Go.Av

theorem tl12_loop (r : ApiRung) (hn : r.Contacts.length ≤ 1500000) : ∀ (k i : Nat) (p : Int), i ≤ r.Contacts.length → r.Contacts.length - i < k → ∃ b : Int, law12_TooLarge_L2 r k p i = some b
  | 0, i, p, h, hk => absurd hk (Nat.not_lt_zero _)
  | k + 1, i, p, h, hk => by
    rw [law12_TooLarge_L2]
    by_cases hi : i < r.Contacts.length
    · obtain ⟨x, hx⟩ := get_ex hi
      rw [if_pos (by simpa using hi), atI_nat, hx, Option.bind_some, wrapN (by omega)]
      exact tl12_loop r hn k (i + 1) _ (by omega) (by omega)
    · rw [if_neg (by simpa using hi), law12_TooLarge_J1]
      split
      · exact ⟨_, rfl⟩
      · split <;> exact ⟨_, rfl⟩
theorem tl12 (r : ApiRung) (n : Nat) (hn : r.Contacts.length ≤ 1500000) (hf : r.Contacts.length < n) : ∃ b : Int, law12_TooLarge n r = some b :=
  tl12_loop r hn n 0 0 (by omega) (by omega)

theorem shI_ok (y : Int) (x : ApiIns) : ((shI y x).Op == x.Op && ((shI y x).A.Space == x.A.Space && ((shI y x).A.N == x.A.N && (shI y x).N == (if x.Op = 6 ∨ x.Op = 7 then x.N + y else x.N)))) = true := by
  simp [shI]

theorem slot_loop (n : Nat) (y : Int) (hy : 0 ≤ y ∧ y ≤ 255) (l : List ApiIns) (hl : l.length ≤ 100000000) (hN : ∀ x ∈ l, -1000000000 ≤ x.N ∧ x.N ≤ 1000000000) (ha : law17_alive n = some true) : ∀ (q i : Nat), i ≤ l.length → l.length - i < q →
    law17_CodegenSlotOffset_L1 n y l (l.map (shI y)) q (i : Int) = some true
  | 0, i, h, hm => absurd hm (Nat.not_lt_zero _)
  | q + 1, i, h, hm => by
    rw [law17_CodegenSlotOffset_L1]
    by_cases hi : i < l.length
    · obtain ⟨x, hx⟩ := get_ex hi
      have hb : (l.map (shI y))[i]? = some (shI y x) := by simp [hx]
      obtain ⟨n0, n1⟩ := hN x (List.mem_of_getElem? hx)
      have ih := slot_loop n y hy l hl hN ha q (i + 1) (by omega) (by omega)
      have key : ∀ z : Int, z = (if x.Op = 6 ∨ x.Op = 7 then x.N + y else x.N) → law17_CodegenSlotOffset_J2 (l.map (shI y)) (i : Int) (law17_CodegenSlotOffset_L1 n y l (l.map (shI y)) q) x z = some true := by
        rintro z rfl
        rw [law17_CodegenSlotOffset_J2, atI_nat, hb, Option.bind_some, shI_ok, if_neg (by simp), wrapN (by omega)]
        exact ih
      rw [if_pos (by simpa using hi), atI_nat, hx, Option.bind_some, wrapI (i := y) (by omega) (by omega), wrapI (i := x.N + y) (by omega) (by omega)]
      by_cases h6 : x.Op = 6
      · rw [if_pos (by simpa using h6)]
        exact key _ (by rw [if_pos (.inl h6)])
      · rw [if_neg (by simpa using h6)]
        by_cases h7 : x.Op = 7
        · rw [if_pos (by simpa using h7)]
          exact key _ (by rw [if_pos (.inr h7)])
        · rw [if_neg (by simpa using h7)]
          exact key _ (by rw [if_neg (by omega)])
    · rw [if_neg (by simpa using hi), ha]; rfl

/-- Slots lie between the first one and the last one. -/
theorem slotsS_range : ∀ (cs : List ApiContact) (s : Int), 0 ≤ s → ∀ v ∈ slotsS cs s, 0 ≤ v ∧ v ≤ s + cs.length
  | [], s, _, v, h => by simp [slotsS] at h
  | c :: cs, s, h0, v, h => by
    rw [slotsS] at h
    split at h
    · rcases List.mem_cons.1 h with rfl | h
      · simp; omega
      · have := slotsS_range cs (s + 1) (by omega) v h
        simp; omega
    · rcases List.mem_cons.1 h with rfl | h
      · simp; omega
      · have := slotsS_range cs s h0 v h
        simp; omega

theorem layS_N (cs : List ApiContact) (sl : List Int) (M : Int) (h0 : 0 ≤ M) (hM : ∀ v ∈ sl, 0 ≤ v ∧ v ≤ M) : ∀ t : TreeTree, ∀ x ∈ layS cs sl t, 0 ≤ x.N ∧ x.N ≤ M := by
  have hig : ∀ N : Int, 0 ≤ ig sl N ∧ ig sl N ≤ M := fun N => by
    unfold ig
    cases h : sl[N.toNat]? with
    | none => exact ⟨by simp, by simpa using h0⟩
    | some v => exact hM v (List.mem_of_getElem? h)
  intro t
  induction t using tree_ind with
  | h K N ks ih =>
    intro x hx
    rw [layS] at hx
    split at hx
    · rw [List.mem_singleton] at hx; subst hx; exact hig N
    · have hT : ∀ js : List TreeTree, (∀ k ∈ js, ∀ x ∈ layS cs sl k, 0 ≤ x.N ∧ x.N ≤ M) → ∀ x ∈ layT cs sl K js, 0 ≤ x.N ∧ x.N ≤ M := by
        intro js
        induction js with
        | nil => intro _ x hx; simp [layT] at hx
        | cons k js ihj =>
          intro h x hx
          rw [layT] at hx
          rcases List.mem_append.1 hx with hx | hx
          · split at hx
            · rw [List.mem_singleton] at hx; subst hx; exact ⟨by simp, by simpa using h0⟩
            · rcases List.mem_cons.1 hx with rfl | hx
              · exact ⟨by simp, by simpa using h0⟩
              · rcases List.mem_append.1 hx with hx | hx
                · exact h k (by simp) x hx
                · rw [List.mem_singleton] at hx; subst hx; exact ⟨by simp, by simpa using h0⟩
          · exact ihj (fun j hj => h j (by simp [hj])) x hx
      cases ks with
      | nil => simp [layH] at hx
      | cons k ks =>
        rw [layH] at hx
        rcases List.mem_append.1 hx with hx | hx
        · exact ih k (by simp) x hx
        · exact hT ks (fun j hj => ih j (by simp [hj])) x hx

theorem slot_law0 (n : Nat) (ha : law17_alive n = some true) (r : ApiRung) (a b : Int) (h0 : 0 ≤ a ∧ a ≤ 255) (h1 : 0 ≤ b ∧ b ≤ 255) (hc : r.Contacts.length ≤ 1048576) (hn : 2000000 ≤ n) : law17_CodegenSlotOffset n r a b = some true := by
  have hal : ((law17_alive n).bind fun x => some x) = some true := by rw [ha]; rfl
  obtain ⟨t, ht⟩ := tl12 r n (by omega) (by omega)
  rw [law17_CodegenSlotOffset, ht, Option.bind_some]
  split
  · exact hal
  split
  · exact hal
  rename_i _ h40
  have h40 : r.Contacts.length ≤ 40 := by simp at h40; omega
  obtain ⟨e, he, hrk⟩ := flow_ex n r (by omega) (by omega)
  rcases Reduce_ex n r (by omega) (by omega) he hrk with ⟨hne, hR⟩ | ⟨h00, l, hl, hR⟩
  · rw [hR, Option.bind_some]
    dsimp only
    rw [if_pos (by simpa using hne)]
    exact hal
  · obtain ⟨rank, hrk⟩ := hrk h00
    have hinv := (RInv.start r.Contacts rank hrk).reds hl
    rw [hR, Option.bind_some]
    have hcase : (redS l).2 = 0 ∧ szT (redS l).1 ≤ 80 ∨ (redS l).2 = 14 := by
      unfold redS
      split
      · rename_i x
        split
        · left
          have := hinv.szT (e := x) (by simp)
          rw [sortedS_sz]
          exact ⟨rfl, by omega⟩
        · right; rfl
      · right; rfl
    generalize redS l = te at hcase ⊢
    obtain ⟨t, e2⟩ := te
    dsimp only at hcase ⊢
    rcases hcase with ⟨rfl, hsz⟩ | rfl
    · rw [if_neg (by simp), wrapI (i := a) (by omega) (by omega), wrapI (i := b) (by omega) (by omega), wrapI (i := a + b) (by omega) (by omega)]
      rw [codegen_Tree_eq n r t a (by omega) (by omega) (by omega) (by omega), Option.bind_some, codegen_Tree_eq n r t (a + b) (by omega) (by omega) (by omega) (by omega), Option.bind_some, treeS_shift r t a b h0.1 h1.1 (by omega)]
      dsimp only
      rw [if_neg (by simp), if_neg (by simp)]
      have hin : (treeS r t a).1.length ≤ 1000 ∧ ∀ x ∈ (treeS r t a).1, 0 ≤ x.N ∧ x.N ≤ 1000 := by
        rw [treeS]
        split
        · simp
        · split
          · simp
          · split
            · simp
            · have h2 := layS_len r.Contacts (slotsS r.Contacts a) t
              refine ⟨by dsimp only; omega, fun x hx => ?_⟩
              have := layS_N r.Contacts (slotsS r.Contacts a) (a + r.Contacts.length) (by omega) (slotsS_range r.Contacts a h0.1) t x hx
              omega
      have := slot_loop n b h1 (treeS r t a).1 (by omega) (fun x hx => by have := hin.2 x hx; omega) ha n 0 (by omega) (by omega)
      exact this
    · rw [if_pos (by decide)]
      exact hal

theorem slot_law (r : ApiRung) (a b : Int) (h0 : 0 ≤ a ∧ a ≤ 255) (h1 : 0 ≤ b ∧ b ≤ 255) (hc : r.Contacts.length ≤ 1048576) : law17_CodegenSlotOffset 2000000 r a b = some true :=
  slot_law0 2000000 alive17 r a b h0 h1 hc (Nat.le_refl _)
end Go.G

/- The law of the slot's offset on models. -/
import Derived.Test.YtgbgmijighbfbaaP4
set_option linter.unusedSimpArgs false
set_option linter.unusedVariables false
set_option linter.unusedSectionVars false
namespace Go.G
open Go.Av

theorem index_loop (l : List Bool) (v : Bool) (hl : l.length ≤ 1000000000) (hv : ∀ x ∈ l, x ≠ v) : ∀ (k i : Nat), i ≤ l.length → l.length - i < k → slices_Index_bool_L1 l v k i = some (-1)
  | 0, i, h1, h2 => by omega
  | k + 1, i, h1, h2 => by
    unfold slices_Index_bool_L1
    by_cases hi : i < l.length
    · obtain ⟨x, hx⟩ := get_ex hi
      have hlt : (i : Int) < l.length := by omega
      have hw := wrapN (i := i) (by omega)
      have hne := hv x (List.mem_of_getElem? hx)
      have ih := index_loop l v hl hv k (i + 1) (by omega) (by omega)
      simp only [atI_nat, hx, hlt, decide_true, if_true, Option.bind_some, hw]
      have hb : (v == x) = false := by simpa using Ne.symm hne
      have hb2 : (x == v) = false := by simpa using hne
      simp [hb, hb2]
      simpa using ih
    · have hge : ¬ (i : Int) < l.length := by omega
      simp [hge]

theorem contains_none (n : Nat) (l : List Bool) (v : Bool) (hl : l.length ≤ 1000000000) (hn : l.length < n) (hv : ∀ x ∈ l, x ≠ v) : slices_Contains_bool n l v = some false := by
  have := index_loop l v hl hv n 0 (Nat.zero_le _) (by omega)
  rw [Int.natCast_zero] at this
  unfold slices_Contains_bool slices_Index_bool
  rw [this]; rfl

theorem readS_E (ins : List Bool) (st : ApiState) (E : List Bool) (a : ApiAddr) : readS ins ⟨st.Q, st.M, E⟩ a = readS ins st a := rfl

def shiftQ (st : ApiState) (pre : List Bool) (q : List Bool × ApiState × Int) : List Bool × ApiState × Int := (q.1, (if q.2.2 = 0 then ⟨st.Q, st.M, pre ++ q.2.1.E⟩ else noState), q.2.2)

theorem contactsS_shift (ins : List Bool) (st : ApiState) (E0 pre : List Bool) : ∀ (cs : List ApiContact) (slot : Int) (e acc : List Bool), 0 ≤ slot →
    contactsS ins ⟨st.Q, st.M, E0⟩ cs (slot + pre.length) (pre ++ e) acc = shiftQ st pre (contactsS ins st cs slot e acc)
  | [], slot, e, acc, h => by simp [contactsS, shiftQ]
  | c :: cs, slot, e, acc, h => by
    simp only [contactsS, readS_E]
    by_cases hk : c.Kind < 0 ∨ 4 ≤ c.Kind
    · rw [if_pos hk, if_pos hk]; simp [shiftQ]
    · rw [if_neg hk, if_neg hk]
      by_cases her : (readS ins st c.A).2 = 0
      · simp only [her, ne_eq, not_true_eq_false, if_false]
        by_cases hse : seesS c = true
        · rw [if_pos hse, if_pos hse]
          by_cases hs : slot < 0 ∨ (e.length : Int) ≤ slot
          · have hs2 : slot + (pre.length : Int) < 0 ∨ ((pre ++ e).length : Int) ≤ slot + pre.length := by simp; omega
            rw [if_pos hs, if_pos hs2]; simp [shiftQ]
          · have hs2 : ¬ (slot + (pre.length : Int) < 0 ∨ ((pre ++ e).length : Int) ≤ slot + pre.length) := by simp; omega
            rw [if_neg hs, if_neg hs2]
            have hn : (slot + (pre.length : Int)).toNat = pre.length + slot.toNat := by omega
            have ih := contactsS_shift ins st E0 pre cs (slot + 1) (e.set slot.toNat (readS ins st c.A).1) (acc ++ [condS c.Kind (readS ins st c.A).1 (e[slot.toNat]?.getD false)]) (by omega)
            rw [hn, List.set_append_right _ _ (by omega), List.getElem?_append_right (by omega)]
            have e1 : pre.length + slot.toNat - pre.length = slot.toNat := by omega
            have e2 : slot + (pre.length : Int) + 1 = slot + 1 + pre.length := by omega
            rw [e1, e2]
            exact ih
        · rw [if_neg hse, if_neg hse]
          exact contactsS_shift ins st E0 pre cs slot e _ h
      · simp [her, shiftQ]

theorem contactsS_keep (ins : List Bool) (st : ApiState) : ∀ (cs : List ApiContact) (slot : Int) (e acc : List Bool), 0 ≤ slot → slot ≤ e.length → (contactsS ins st cs slot e acc).2.2 = 0 →
    slot + edges cs ≤ e.length ∧ (contactsS ins st cs slot e acc).2.1.Q = st.Q ∧ (contactsS ins st cs slot e acc).2.1.M = st.M ∧ (contactsS ins st cs slot e acc).2.1.E.length = e.length ∧
    ∀ j : Nat, slot + edges cs ≤ (j : Int) → (contactsS ins st cs slot e acc).2.1.E[j]? = e[j]?
  | [], slot, e, acc, h, hl, h0 => ⟨by simp [edges]; exact hl, rfl, rfl, rfl, fun _ _ => rfl⟩
  | c :: cs, slot, e, acc, h, hl, h0 => by
    simp only [contactsS] at h0 ⊢
    by_cases hk : c.Kind < 0 ∨ 4 ≤ c.Kind
    · rw [if_pos hk] at h0; simp at h0
    · rw [if_neg hk] at h0 ⊢
      by_cases her : (readS ins st c.A).2 = 0
      · have hne : ¬ ((readS ins st c.A).2 ≠ 0) := not_not_intro her
        rw [if_neg hne] at h0 ⊢
        by_cases hse : seesS c = true
        · rw [if_pos hse] at h0 ⊢
          by_cases hs : slot < 0 ∨ (e.length : Int) ≤ slot
          · rw [if_pos hs] at h0; simp at h0
          · rw [if_neg hs] at h0 ⊢
            have he : edges (c :: cs) = edges cs + 1 := by simp [edges, hse]; omega
            obtain ⟨g1, g2, g3, g4, g5⟩ := contactsS_keep ins st cs (slot + 1) _ _ (by omega) (by simp; omega) h0
            refine ⟨by rw [he]; simp at g1; omega, g2, g3, by simpa using g4, fun j hj => ?_⟩
            rw [he] at hj
            rw [g5 j (by omega), List.getElem?_set_ne (by omega)]
        · rw [if_neg hse] at h0 ⊢
          have he : edges (c :: cs) = edges cs := by simp [edges, hse]
          rw [he]
          exact contactsS_keep ins st cs slot e _ h hl h0
      · rw [if_pos her] at h0; exact absurd h0 her

theorem slot_law (r : ApiRung) (ins : List Bool) (st : ApiState) (hn : r.Contacts.length ≤ 1500000) : law16_RungevalSlotOffset 2000000 r ins st = some true := by
  obtain ⟨b, hb, hb2⟩ := tl16 r ins st hn
  unfold law16_RungevalSlotOffset
  rw [hb]
  cases b with
  | true => simp [alive16]
  | false =>
    obtain ⟨h1, h2, h3, h4⟩ := hb2 rfl
    have q0 : (st.E.length : Int) ≤ 1000 := by have := h4.2.2; omega
    have c1 := rungeval_Contacts_eq 2000000 r ins st 0 (by omega) (h4.small (by omega)) (by omega) (by omega)
    have hs2 : small ⟨st.Q, st.M, List.replicate ins.length false ++ st.E⟩ := ⟨by have := h4.1; simp; omega, by have := h4.2.1; simp; omega, by have := h4.2.2; simp; omega⟩
    have c2 := rungeval_Contacts_eq 2000000 r ins ⟨st.Q, st.M, List.replicate ins.length false ++ st.E⟩ (ins.length : Int) (by omega) hs2 (by omega) (by omega)
    have hsh := contactsS_shift ins st (List.replicate ins.length false ++ st.E) (List.replicate ins.length false) r.Contacts 0 st.E [] (by omega)
    rw [List.length_replicate, Int.zero_add] at hsh
    simp only at c2
    rw [hsh, shiftQ] at c2
    have hsm := contactsS_small ins st (h4.small (by omega)) r.Contacts 0 st.E [] (by omega)
    have hkp := contactsS_keep ins st r.Contacts 0 st.E [] (by omega) (by omega)
    have hec := rungeval_EdgeCount_eq 2000000 r (by omega) (by omega)
    have hle := edges_le r.Contacts
    generalize contactsS ins st r.Contacts 0 st.E [] = q at c1 c2 hsm hkp
    obtain ⟨on, s1, er⟩ := q
    simp only at c1 c2 hsm hkp
    have hlon := hsm.2.2
    simp only [List.length_nil, Nat.zero_add] at hlon
    have eon := slices_Equal_eq 2000000 on on (by omega) (by omega)
    have alive := alive16
    have p1 : 0 ≤ (ins.length : Int) ∧ (ins.length : Int) ≤ (ins.length : Int) ∧ (ins.length : Int) ≤ 1000000000 := by omega
    have p2 : ins.length + st.E.length ≤ 1000000000 := by omega
    simp only [Option.bind_some, Bool.false_eq_true, if_false]
    rw [c1]
    simp only [Option.bind_some]
    rw [if_pos p1, if_pos p2, c2]
    simp only [Option.bind_some, bne_self_eq_false, Bool.false_eq_true, if_false, eon, decide_true, Bool.not_true]
    by_cases her : er = 0
    · subst her
      obtain ⟨k1, k2, k3, k4, k5⟩ := hkp rfl
      rw [Int.zero_add] at k1 k5
      simp only [bne_self_eq_false, Bool.false_eq_true, if_false, if_true]
      rw [hec]
      have w1 : ((s1.E.length : Int) != (st.E.length : Int)) = false := by first | (simp; done) | (simp; omega)
      have w2 : (((List.replicate ins.length false ++ s1.E).length : Int) != IntKind.i64.wrap ((s1.E.length : Int) + (ins.length : Int))) = false := by
        rw [wrapI (by omega) (by omega)]; first | (simp; done) | (simp; omega)
      have w3 : decide ((edges r.Contacts : Int) < 0) = false := by first | (simp; done) | (simp; omega)
      have w4 : decide ((edges r.Contacts : Int) > (s1.E.length : Int)) = false := by first | (simp; done) | (simp; omega)
      have d1 : (List.replicate ins.length false ++ s1.E).drop ins.length = s1.E := by rw [List.drop_left' (by simp)]
      have d2 : (List.replicate ins.length false ++ s1.E).take ins.length = List.replicate ins.length false := by rw [List.take_left' (by simp)]
      have d3 : s1.E.drop (edges r.Contacts) = st.E.drop (edges r.Contacts) := by
        apply List.ext_getElem?
        intro j
        rw [List.getElem?_drop, List.getElem?_drop]
        exact k5 _ (by omega)
      have g1 : 0 ≤ (ins.length : Int) ∧ (ins.length : Int) ≤ ((List.replicate ins.length false ++ s1.E).length : Int) ∧ ((List.replicate ins.length false ++ s1.E).length : Int) ≤ ((List.replicate ins.length false ++ s1.E).length : Int) := by first | (simp; done) | (simp; omega)
      have g2 : (0 : Nat) ≤ 0 ∧ 0 ≤ (ins.length : Int) ∧ (ins.length : Int) ≤ ((List.replicate ins.length false ++ s1.E).length : Int) := by first | (simp; done) | (simp; omega)
      have g3 : 0 ≤ (edges r.Contacts : Int) ∧ (edges r.Contacts : Int) ≤ (s1.E.length : Int) ∧ (s1.E.length : Int) ≤ (s1.E.length : Int) := by omega
      have g4 : 0 ≤ (edges r.Contacts : Int) ∧ (edges r.Contacts : Int) ≤ (st.E.length : Int) ∧ (st.E.length : Int) ≤ (st.E.length : Int) := by omega
      have e1 := slices_Equal_eq 2000000 s1.E s1.E (by omega) (by omega)
      have e2 := contains_none 2000000 (List.replicate ins.length false) true (by simp; omega) (by simp; omega) (fun x hx => by rw [List.eq_of_mem_replicate hx]; simp)
      have e3 := slices_Equal_eq 2000000 (s1.E.drop (edges r.Contacts)) (st.E.drop (edges r.Contacts)) (by simp; omega) (by simp; omega)
      have e4 := slices_Equal_eq 2000000 s1.Q st.Q (by rw [k2]; have := h4.1; omega) (by have := h4.1; omega)
      have e5 := slices_Equal_eq 2000000 s1.M st.M (by rw [k3]; have := h4.2.1; omega) (by have := h4.2.1; omega)
      generalize (2000000 : Nat) = N at alive e1 e2 e3 e4 e5 ⊢
      simp only [Option.bind_some, w1, w2, w3, w4, Bool.false_eq_true, if_false, alive, if_true]
      rw [if_pos g1]
      simp only [Option.bind_some, d1]
      rw [e1]
      simp only [Option.bind_some, decide_true, if_true]
      rw [if_pos g2]
      simp only [Option.bind_some, d2]
      rw [e2]
      simp only [Option.bind_some, Bool.not_false, if_true]
      rw [if_pos g3]
      try simp only [Option.bind_some]
      rw [if_pos g4]
      simp only [Option.bind_some, Int.toNat_natCast]
      rw [e3, e4, e5, d3, k2, k3]
      simp
    · have hb : (er != 0) = true := by simpa using her
      simp only [hb, if_true, alive, Option.bind_some]
end Go.G

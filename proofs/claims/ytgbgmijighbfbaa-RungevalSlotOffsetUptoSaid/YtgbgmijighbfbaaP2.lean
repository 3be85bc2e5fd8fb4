/- What Contacts computes. -/
import Derived.Test.YtgbgmijighbfbaaP1
set_option linter.unusedSimpArgs false
set_option linter.unusedVariables false
set_option linter.unusedSectionVars false
namespace Go.G
open Go.Av

def condS (kind : Int) (v was : Bool) : Bool := if kind = 0 then v else if kind = 1 then !v else if kind = 2 then v && !was else !v && was

def contactsS (ins : List Bool) (st : ApiState) : List ApiContact → Int → List Bool → List Bool → List Bool × ApiState × Int
  | [], _, e, acc => (acc, ⟨st.Q, st.M, e⟩, 0)
  | c :: cs, slot, e, acc =>
    if c.Kind < 0 ∨ 4 ≤ c.Kind then ([], noState, 8)
    else if (readS ins st c.A).2 ≠ 0 then ([], noState, (readS ins st c.A).2)
    else if seesS c = true then
      if slot < 0 ∨ (e.length : Int) ≤ slot then ([], noState, 3)
      else contactsS ins st cs (slot + 1) (e.set slot.toNat (readS ins st c.A).1) (acc ++ [condS c.Kind (readS ins st c.A).1 (e[slot.toNat]?.getD false)])
    else contactsS ins st cs slot e (acc ++ [condS c.Kind (readS ins st c.A).1 false])

theorem conducting_eq (n : Nat) (k : Int) (v was : Bool) (h0 : 0 ≤ k) (h1 : k < 4) : rungeval_conducting n k v was = some (condS k v was) := by
  unfold rungeval_conducting condS
  rcases (show k = 0 ∨ k = 1 ∨ k = 2 ∨ k = 3 by omega) with h | h | h | h <;> cases v <;> cases was <;> simp [h]

theorem set_mid {α : Type} (acc : List α) (m : Nat) (z v : α) (hm : 0 < m) : (acc ++ List.replicate m z).set acc.length v = (acc ++ [v]) ++ List.replicate (m - 1) z := by
  obtain ⟨m', rfl⟩ : ∃ m', m = m' + 1 := ⟨m - 1, by omega⟩
  rw [List.set_append_right acc.length v (Nat.le_refl _), Nat.sub_self, List.replicate_succ, List.set_cons_zero]
  simp

theorem contacts_loop (n : Nat) (r : ApiRung) (ins : List Bool) (st : ApiState) (hn : r.Contacts.length ≤ 1000000000) : ∀ (k i : Nat) (slot : Int) (e acc : List Bool), i ≤ r.Contacts.length → acc.length = i → r.Contacts.length - i < k → slot ≤ 4611686018427387904 + i →
    rungeval_Contacts_L1 n r ins st st k slot e (acc ++ List.replicate (r.Contacts.length - i) false) i = some (contactsS ins st (r.Contacts.drop i) slot e acc)
  | 0, i, slot, e, acc, h1, h2, h3, h4 => by omega
  | k + 1, i, slot, e, acc, h1, h2, h3, h4 => by
    unfold rungeval_Contacts_L1
    by_cases hi : i < r.Contacts.length
    · obtain ⟨c, hc⟩ := get_ex hi
      have hlt : (i : Int) < r.Contacts.length := by omega
      have hw := wrapN (i := i) (by omega)
      rw [drop_cons hc]
      simp only [atI_nat, hc, hlt, decide_true, if_true, Option.bind_some, contactsS, state_Read_eq, sees_eq]
      generalize hrd : readS ins st c.A = rd
      obtain ⟨v, er⟩ := rd
      by_cases hk0 : c.Kind < 0
      · simp [hk0, noState]
      · by_cases hk4 : 4 ≤ c.Kind
        · simp [hk0, hk4, noState]
        · have hor : ¬ (c.Kind < 0 ∨ 4 ≤ c.Kind) := by omega
          have hJ : ∀ (e' : List Bool) (was : Bool) (slot' : Int), slot' ≤ 4611686018427387904 + ((i + 1 : Nat) : Int) →
              rungeval_Contacts_J2 n (acc ++ List.replicate (r.Contacts.length - i) false) i (rungeval_Contacts_L1 n r ins st st k) c v e' was slot' = some (contactsS ins st (r.Contacts.drop (i + 1)) slot' e' (acc ++ [condS c.Kind v was])) := by
            intro e' was slot' hs'
            unfold rungeval_Contacts_J2
            rw [conducting_eq _ _ _ _ (by omega) (by omega)]
            have hg : (acc ++ List.replicate (r.Contacts.length - i) false)[i]? = some false := by
              rw [List.getElem?_append_right (by omega), h2, Nat.sub_self, List.getElem?_replicate, if_pos (by omega)]
            have hset : (acc ++ List.replicate (r.Contacts.length - i) false).set i (condS c.Kind v was) = (acc ++ [condS c.Kind v was]) ++ List.replicate (r.Contacts.length - (i + 1)) false := by
              rw [← h2, set_mid _ _ _ _ (by omega)]; congr 2
            simp only [Option.bind_some, atI_nat, hg, Int.toNat_natCast, hset, hw]
            exact contacts_loop n r ins st hn k (i + 1) slot' e' _ (by omega) (by simp [h2]) (by omega) hs'
          rw [if_neg (by simpa using hk0), if_neg (by simpa using hk4), if_neg hor]
          by_cases her : er = 0
          · subst her
            simp only [bne_self_eq_false, Bool.false_eq_true, if_false, ne_eq, not_true]
            cases hse : seesS c with
            | false => simp only [Bool.false_eq_true, if_false]; exact hJ _ _ _ (by omega)
            | true =>
              simp only [if_true]
              by_cases hs0 : slot < 0
              · simp [hs0, noState]
              · by_cases hs1 : (e.length : Int) ≤ slot
                · simp [hs0, hs1, noState]
                · obtain ⟨x, hx1, hx2⟩ := atI_get (l := e) (k := slot) (by omega) (by omega)
                  have hor2 : ¬ (slot < 0 ∨ (e.length : Int) ≤ slot) := by omega
                  have hw2 : IntKind.i64.wrap (slot + 1) = slot + 1 := wrapI (by omega) (by omega)
                  rw [if_neg (by simpa using hs0), if_neg (by simpa using hs1), if_neg hor2, hx2]
                  simp only [Option.bind_some, hw2]
                  rw [hJ _ _ _ (by omega), hx1]; rfl
          · have hb : (er != 0) = true := by simpa using her
            simp only [hb, if_true, her, ne_eq, not_false_iff]; rfl
    · have hge : ¬ (i : Int) < r.Contacts.length := by omega
      have h0 : r.Contacts.length - i = 0 := by omega
      simp [hge, List.drop_eq_nil_of_le (show r.Contacts.length ≤ i by omega), contactsS, h0]

theorem rungeval_Contacts_eq (n : Nat) (r : ApiRung) (ins : List Bool) (st : ApiState) (slot : Int) (hn : r.Contacts.length ≤ 1000000000) (hs : small st) (h : r.Contacts.length < n) (h4 : slot ≤ 4611686018427387904) :
    rungeval_Contacts n r ins st slot = some (contactsS ins st r.Contacts slot st.E []) := by
  unfold rungeval_Contacts
  rw [state_Clone_o2_eq _ _ hs]
  have := contacts_loop n r ins st hn n 0 slot st.E [] (Nat.zero_le _) rfl (by omega) (by omega)
  have h9 : (r.Contacts.length : Int) ≤ 1000000000 := by omega
  simpa [h9] using this

theorem ref02_Set_eq (n : Nat) (l : List Bool) (i : Int) (v : Bool) (h : l.length ≤ 1000000000) (h0 : 0 ≤ i) (h1 : i < l.length) : ref02_Set n l i v = some (l.set i.toNat v) := by
  unfold ref02_Set
  obtain ⟨x, _, h4⟩ := atI_get h0 h1
  simp [h, h4]

theorem ref_contacts_loop (n : Nat) (r : ApiRung) (ins : List Bool) (st : ApiState) (base : Int) (hn : r.Contacts.length ≤ 1000000000) (hs : small st) (hb : -4611686018427387904 ≤ base) (hb1 : base ≤ 4611686018427387904) :
    ∀ (k i m : Nat) (e acc : List Bool), i ≤ r.Contacts.length → acc.length = i → m ≤ i → r.Contacts.length - i < k → (m = 0 ∨ 0 ≤ base) → e.length = st.E.length → (∀ j : Nat, base + m ≤ (j : Int) → e[j]? = st.E[j]?) →
    ref16_Contacts_L1 n r ins st base st k acc i e m = some (contactsS ins st (r.Contacts.drop i) (base + m) e acc)
  | 0, i, m, e, acc, h1, h2, h3, h4, h5, h6, h7 => by omega
  | k + 1, i, m, e, acc, h1, h2, h3, h4, h5, h6, h7 => by
    unfold ref16_Contacts_L1
    have hEs := hs.2.2
    by_cases hi : i < r.Contacts.length
    · obtain ⟨c, hc⟩ := get_ex hi
      have hlt : (i : Int) < r.Contacts.length := by omega
      have hw := wrapN (i := i) (by omega)
      have hwm := wrapN (i := m) (by omega)
      have hwl : IntKind.i64.wrap ((st.E.length : Int) - base) = (st.E.length : Int) - base := wrapI (by omega) (by omega)
      have hwb : IntKind.i64.wrap (base + (m : Int)) = base + m := wrapI (by omega) (by omega)
      rw [drop_cons hc]
      have hlen : ∀ b : Bool, acc.length + [b].length ≤ 1000000000 := fun b => by simp; omega
      simp only [atI_nat, hc, hlt, decide_true, if_true, Option.bind_some, contactsS, ref03_Read_eq, hw, hwm, hwl, hwb, hlen]
      generalize hrd : readS ins st c.A = rd
      obtain ⟨v, er⟩ := rd
      by_cases hk0 : c.Kind < 0
      · simp [hk0, noState]
      · by_cases hk4 : 3 < c.Kind
        · have : 4 ≤ c.Kind := by omega
          simp [hk0, hk4, noState, this]
        · have hor : ¬ (c.Kind < 0 ∨ 4 ≤ c.Kind) := by omega
          rw [if_neg (by simpa using hk0), if_neg (by simpa using hk4), if_neg hor]
          by_cases her : er = 0
          · subst her
            simp only [bne_self_eq_false, Bool.false_eq_true, if_false, ne_eq, not_true]
            by_cases hk2 : c.Kind < 2
            · have hse : seesS c = false := by unfold seesS; simp; omega
              have hcnd : (v == (c.Kind == 0)) = condS c.Kind v false := by
                unfold condS
                rcases (show c.Kind = 0 ∨ c.Kind = 1 by omega) with h | h <;> simp [h]
              have ih := ref_contacts_loop n r ins st base hn hs hb hb1 k (i + 1) m e (acc ++ [condS c.Kind v false]) (by omega) (by simp [h2]) (by omega) (by omega) h5 h6 h7
              rw [if_pos (by simpa using hk2), hse, hcnd]
              simpa using ih
            · have hse : seesS c = true := by unfold seesS; simp; omega
              rw [if_neg (by simpa using hk2), hse]
              simp only [if_true]
              by_cases hb0 : base < 0
              · have hm : m = 0 := by omega
                subst hm
                simp [hb0, noState]
              · by_cases hbl : (st.E.length : Int) ≤ base
                · have : (e.length : Int) ≤ base + m := by omega
                  simp [hb0, hbl, this, noState]
                · by_cases hml : (st.E.length : Int) - base ≤ m
                  · have : (e.length : Int) ≤ base + m := by omega
                    simp [hb0, hbl, this, hml, noState]
                  · have hor2 : ¬ (base + (m : Int) < 0 ∨ (e.length : Int) ≤ base + m) := by omega
                    obtain ⟨x, hx1, hx2⟩ := atI_get (l := st.E) (k := base + m) (by omega) (by omega)
                    have hex : e[(base + (m : Int)).toNat]? = some x := by rw [h7 _ (by omega)]; exact hx1
                    rw [if_neg (by simpa using hb0), if_neg (by simpa using hbl), if_neg (by simpa using hml), if_neg hor2, hx2]
                    have hset := ref02_Set_eq n e (base + m) v (by omega) (by omega) (by omega)
                    simp only [Option.bind_some, hset, hex, Option.getD_some]
                    have ih := fun b => ref_contacts_loop n r ins st base hn hs hb hb1 k (i + 1) (m + 1) (e.set (base + (m : Int)).toNat v) (acc ++ [b]) (by omega) (by simp [h2]) (by omega) (by omega) (.inr (by omega)) (by simpa using h6) (fun j hj => by
                      rw [List.getElem?_set_ne (by omega)]; exact h7 j (by omega))
                    have e1 : base + ((m + 1 : Nat) : Int) = base + m + 1 := by omega
                    rw [e1] at ih
                    rcases (show c.Kind = 2 ∨ c.Kind = 3 by omega) with h | h <;> cases v <;> cases x <;> simp [h, condS] at ih ⊢ <;> first | exact ih.1 | exact ih.2
          · have hb : (er != 0) = true := by simpa using her
            simp only [hb, if_true, her, ne_eq, not_false_iff]; rfl
    · have hge : ¬ (i : Int) < r.Contacts.length := by omega
      simp [hge, List.drop_eq_nil_of_le (show r.Contacts.length ≤ i by omega), contactsS]

theorem ref16_Contacts_eq (n : Nat) (r : ApiRung) (ins : List Bool) (st : ApiState) (slot : Int) (hn : r.Contacts.length ≤ 1000000000) (hs : small st) (h : r.Contacts.length < n) (hb : -4611686018427387904 ≤ slot) (h4 : slot ≤ 4611686018427387904) :
    ref16_Contacts n r ins st slot = some (contactsS ins st r.Contacts slot st.E []) := by
  unfold ref16_Contacts
  rw [ref03_Clone_eq _ _ hs]
  have := ref_contacts_loop n r ins st slot hn hs hb h4 n 0 0 st.E [] (Nat.zero_le _) rfl (Nat.le_refl _) (by omega) (.inl rfl) rfl (fun _ _ => rfl)
  simpa using this

theorem contactsS_small (ins : List Bool) (st : ApiState) (hs : small st) : ∀ (cs : List ApiContact) (slot : Int) (e acc : List Bool), e.length ≤ 1000000000 → small (contactsS ins st cs slot e acc).2.1 ∧ ((contactsS ins st cs slot e acc).2.2 = 0 → (contactsS ins st cs slot e acc).1.length = acc.length + cs.length) ∧ ((contactsS ins st cs slot e acc).1.length ≤ acc.length + cs.length)
  | [], slot, e, acc, h => ⟨⟨hs.1, hs.2.1, h⟩, fun _ => by simp [contactsS], by simp [contactsS]⟩
  | c :: cs, slot, e, acc, h => by
    have hno : small noState := by simp [small, noState]
    unfold contactsS
    split
    · exact ⟨hno, fun h => by simp at h, by simp⟩
    · split
      · rename_i h1; exact ⟨hno, fun h => absurd h h1, by simp⟩
      · split
        · split
          · exact ⟨hno, fun h => by simp at h, by simp⟩
          · obtain ⟨a, b, d⟩ := contactsS_small ins st hs cs (slot + 1) (e.set slot.toNat (readS ins st c.A).1) (acc ++ [condS c.Kind (readS ins st c.A).1 (e[slot.toNat]?.getD false)]) (by simpa using h)
            exact ⟨a, fun q => by rw [b q]; simp; omega, by simp at d ⊢; omega⟩
        · obtain ⟨a, b, d⟩ := contactsS_small ins st hs cs slot e (acc ++ [condS c.Kind (readS ins st c.A).1 false]) h
          exact ⟨a, fun q => by rw [b q]; simp; omega, by simp at d ⊢; omega⟩

end Go.G

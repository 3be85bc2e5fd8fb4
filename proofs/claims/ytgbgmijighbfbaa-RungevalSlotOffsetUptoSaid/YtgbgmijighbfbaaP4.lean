/- The laws of rungs on models. -/
import Derived.Test.YtgbgmijighbfbaaP3
set_option linter.unusedSimpArgs false
set_option linter.unusedVariables false
set_option linter.unusedSectionVars false
namespace Go.G
open Go.Av

theorem alive16 : law16_alive 2000000 = some true := by decide +kernel

theorem tl12_loop (r : ApiRung) (hn : r.Contacts.length ≤ 1500000) : ∀ (k i : Nat) (p : Int), i ≤ r.Contacts.length → r.Contacts.length - i < k → ∃ b : Int, law12_TooLarge_L2 r k p i = some b ∧ (¬ b > 0 → r.Contacts.length ≤ 60)
  | 0, i, p, h1, h2 => by omega
  | k + 1, i, p, h1, h2 => by
    unfold law12_TooLarge_L2
    by_cases hi : i < r.Contacts.length
    · obtain ⟨c, hc⟩ := get_ex hi
      have hlt : (i : Int) < r.Contacts.length := by omega
      have hw := wrapN (i := i) (by omega)
      simp only [atI_nat, hc, hlt, decide_true, if_true, Option.bind_some, hw]
      exact tl12_loop r hn k (i + 1) _ (by omega) (by omega)
    · have hge : ¬ (i : Int) < r.Contacts.length := by omega
      simp only [hge, decide_false, Bool.false_eq_true, if_false, law12_TooLarge_J1]
      by_cases h1 : p > 2000
      · exact ⟨1, by simp [h1], fun h => by simp at h⟩
      · by_cases h2 : (r.Contacts.length : Int) > 60
        · exact ⟨1, by simp [h2], fun h => by simp at h⟩
        · exact ⟨0, by simp [h1, h2], fun _ => by omega⟩

theorem tl12 (r : ApiRung) (hn : r.Contacts.length ≤ 1500000) : ∃ b : Int, law12_TooLarge 2000000 r = some b ∧ (¬ b > 0 → r.Contacts.length ≤ 60) :=
  tl12_loop r hn 2000000 0 0 (Nat.zero_le _) (by omega)

def leS (st : ApiState) (k : Nat) : Prop := st.Q.length ≤ k ∧ st.M.length ≤ k ∧ st.E.length ≤ k
theorem tl03 (st : ApiState) : ∃ b : Int, law03_TooLarge 2000000 [st] = some b ∧ (¬ b > 0 → leS st 1000) := by
  unfold law03_TooLarge
  rw [show (2000000 : Nat) = 1999998 + 1 + 1 from rfl]
  unfold law03_TooLarge_L1
  unfold law03_TooLarge_L1
  rw [show IntKind.i64.wrap ((0 : Int) + 1) = 1 from rfl]
  by_cases h1 : (st.Q.length : Int) > 1000
  · exact ⟨1, by simp [atI, h1], fun h => by simp at h⟩
  · by_cases h2 : (st.M.length : Int) > 1000
    · exact ⟨1, by simp [atI, h1, h2], fun h => by simp at h⟩
    · by_cases h3 : (st.E.length : Int) > 1000
      · exact ⟨1, by simp [atI, h1, h2, h3], fun h => by simp at h⟩
      · exact ⟨0, by simp [atI, h1, h2, h3], fun _ => ⟨by omega, by omega, by omega⟩⟩

theorem tl16 (r : ApiRung) (ins : List Bool) (st : ApiState) (hn : r.Contacts.length ≤ 1500000) : ∃ b : Bool, law16_tooLarge 2000000 r ins st = some b ∧ (b = false → r.Contacts.length ≤ 60 ∧ r.Coils.length ≤ 100 ∧ ins.length ≤ 500 ∧ leS st 1000) := by
  obtain ⟨a, ha, ha2⟩ := tl12 r hn
  obtain ⟨d, hd, hd2⟩ := tl03 st
  unfold law16_tooLarge
  rw [ha]
  simp only [Option.bind_some, hd]
  by_cases h1 : a > 0
  · exact ⟨true, by simp [h1], fun h => by simp at h⟩
  · by_cases h2 : (r.Coils.length : Int) > 100
    · exact ⟨true, by simp [h1, h2], fun h => by simp at h⟩
    · by_cases h3 : (ins.length : Int) > 500
      · exact ⟨true, by simp [h1, h2, h3], fun h => by simp at h⟩
      · refine ⟨decide (d > 0), by simp [h1, h2, h3], fun h => ⟨ha2 h1, by omega, by omega, hd2 (by simpa using h)⟩⟩

theorem leS.small {st : ApiState} {k : Nat} (h : leS st k) (hk : k ≤ 1000000000) : small st := ⟨by have := h.1; omega, by have := h.2.1; omega, by have := h.2.2; omega⟩

theorem contactsS_leS (ins : List Bool) (st : ApiState) (k : Nat) (hs : leS st k) : ∀ (cs : List ApiContact) (slot : Int) (e acc : List Bool), e.length ≤ k → leS (contactsS ins st cs slot e acc).2.1 k
  | [], slot, e, acc, h => ⟨hs.1, hs.2.1, h⟩
  | c :: cs, slot, e, acc, h => by
    have hno : leS noState k := by simp [leS, noState]
    unfold contactsS
    split
    · exact hno
    · split
      · exact hno
      · split
        · split
          · exact hno
          · exact contactsS_leS ins st k hs cs _ _ _ (by simpa using h)
        · exact contactsS_leS ins st k hs cs _ _ _ h

section
variable (r : ApiRung) (ins : List Bool) (st : ApiState) (h60 : r.Contacts.length ≤ 60) (hs : leS st 1000)
include h60 hs
theorem contacts_loop8 : ∀ (l : List Int) (k i : Nat), i ≤ l.length → l.length - i < k → l.length ≤ 100 → (∀ x ∈ l, -4611686018427387904 ≤ x ∧ x ≤ 4611686018427387904) →
    law16_RungevalContactsMatchReference_L2 2000000 r ins st l k i = some true
  | l, 0, i, h1, h2, h3, h4 => by omega
  | l, k + 1, i, h1, h2, h3, h4 => by
    unfold law16_RungevalContactsMatchReference_L2
    by_cases hi : i < l.length
    · obtain ⟨c, hc⟩ := get_ex hi
      have hlt : (i : Int) < l.length := by omega
      have hw := wrapN (i := i) (by omega)
      obtain ⟨b1, b2⟩ := h4 c (List.mem_of_getElem? hc)
      have ih := contacts_loop8 l k (i + 1) (by omega) (by omega) h3 h4
      have hsm := contactsS_small ins st (hs.small (by omega)) r.Contacts c st.E [] (by have := hs.2.2; omega)
      have hle := contactsS_leS ins st 1000 hs r.Contacts c st.E [] hs.2.2
      simp only [atI_nat, hc, hlt, decide_true, if_true, Option.bind_some, hw]
      rw [rungeval_Contacts_eq _ _ _ _ _ (by omega) (hs.small (by omega)) (by omega) b2, ref16_Contacts_eq _ _ _ _ _ (by omega) (hs.small (by omega)) (by omega) b1 b2]
      generalize contactsS ins st r.Contacts c st.E [] = q at hsm hle
      obtain ⟨q1, q2, q3⟩ := q
      simp only at hsm hle
      have hq1 := hsm.2.2
      simp only [List.length_nil, Nat.zero_add] at hq1
      simp only [Option.bind_some]
      rw [slices_Equal_eq _ _ _ (by omega) (by omega), ref03_Equal_eq _ _ _ (by have := hle.1; have := hle.2.1; have := hle.2.2; omega) hsm.1]
      simpa using ih
    · have hge : ¬ (i : Int) < l.length := by omega
      simp only [hge, decide_false, Bool.false_eq_true, if_false, law16_RungevalContactsMatchReference_J1, alive16, Option.bind_some, if_true]
      rw [rungeval_EdgeCount_eq _ _ (by omega) (by omega), ref16_EdgeCount_eq _ _ (by omega) (by omega)]
      simp
end

theorem contacts_law (r : ApiRung) (ins : List Bool) (st : ApiState) (hn : r.Contacts.length ≤ 1500000) : law16_RungevalContactsMatchReference 2000000 r ins st = some true := by
  obtain ⟨b, hb, hb2⟩ := tl16 r ins st hn
  unfold law16_RungevalContactsMatchReference
  rw [hb]
  cases b with
  | true => simp [alive16]
  | false =>
    obtain ⟨h1, h2, h3, h4⟩ := hb2 rfl
    have := contacts_loop8 r ins st h1 h4 [0, 1, -1, (st.E.length : Int), 4611686018427387904] 2000000 0 (by simp) (by simp) (by simp) (by
      have := h4.2.2
      intro x hx; simp at hx; rcases hx with h | h | h | h | h <;> omega)
    simpa using this

theorem conducts_law (r : ApiRung) (on : List Bool) (hn : r.Contacts.length ≤ 1500000) : law16_RungevalConductsMatchesReference 2000000 r on = some true := by
  obtain ⟨b, hb, hb2⟩ := tl12 r hn
  unfold law16_RungevalConductsMatchesReference
  rw [hb]
  simp only [Option.bind_some, alive16]
  by_cases h1 : b > 0
  · simp [h1]
  · have := hb2 h1
    by_cases h2 : (on.length : Int) > 500
    · simp [h1, h2]
    · rw [rungeval_Conducts_eq _ _ _ (by omega) (by omega), ref16_Conducts_eq _ _ _ (by omega) (by omega)]
      simp [h1, h2]

noncomputable def scanS (r : ApiRung) (ins : List Bool) (st : ApiState) (slot : Int) : ApiState × Bool × Int :=
  let q := contactsS ins st r.Contacts slot st.E []
  if q.2.2 ≠ 0 then (noState, false, q.2.2)
  else
    let w := coilsS r.Coils q.2.1 (condP r q.1).1
    if w.2 ≠ 0 then (noState, false, w.2) else (w.1, (condP r q.1).1, 0)

section
variable (r : ApiRung) (ins : List Bool) (st : ApiState) (h60 : r.Contacts.length ≤ 60) (hc : r.Coils.length ≤ 100) (hs : leS st 1000) (slot : Int) (h0 : -4611686018427387904 ≤ slot) (h1 : slot ≤ 4611686018427387904)
include h60 hc hs h0 h1
theorem rungeval_Scan_eq : rungeval_Scan 2000000 r ins st slot = some (scanS r ins st slot) := by
  have hsm := contactsS_small ins st (hs.small (by omega)) r.Contacts slot st.E [] (by have := hs.2.2; omega)
  unfold rungeval_Scan scanS
  rw [rungeval_Contacts_eq _ _ _ _ _ (by omega) (hs.small (by omega)) (by omega) h1]
  generalize contactsS ins st r.Contacts slot st.E [] = q at hsm
  obtain ⟨q1, q2, q3⟩ := q
  simp only at hsm
  simp only [Option.bind_some]
  by_cases hq : q3 = 0
  · subst hq
    have hl := hsm.2.1 rfl
    simp only [List.length_nil, Nat.zero_add] at hl
    rw [rungeval_Conducts_eq _ _ _ (by omega) (by omega)]
    have hcp : (condP r q1).2 = 0 := by unfold condP; rw [if_pos hl]
    generalize condP r q1 = cp at hcp
    obtain ⟨c1, c2⟩ := cp
    simp only at hcp
    subst hcp
    simp only [bne_self_eq_false, Bool.false_eq_true, if_false, ne_eq, not_true, Option.bind_some]
    rw [rungeval_Coils_eq _ _ _ _ (by omega) hsm.1 (by omega)]
    generalize coilsS r.Coils q2 c1 = w
    obtain ⟨w1, w2⟩ := w
    by_cases hw : w2 = 0 <;> simp [hw, noState]
  · have hb : (q3 != 0) = true := by simpa using hq
    simp [hb, hq, noState]
theorem ref16_Scan_eq : ref16_Scan 2000000 r ins st slot = some (scanS r ins st slot) := by
  have hsm := contactsS_small ins st (hs.small (by omega)) r.Contacts slot st.E [] (by have := hs.2.2; omega)
  unfold ref16_Scan scanS
  rw [ref16_Contacts_eq _ _ _ _ _ (by omega) (hs.small (by omega)) (by omega) h0 h1]
  generalize contactsS ins st r.Contacts slot st.E [] = q at hsm
  obtain ⟨q1, q2, q3⟩ := q
  simp only at hsm
  simp only [Option.bind_some]
  by_cases hq : q3 = 0
  · subst hq
    have hl := hsm.2.1 rfl
    simp only [List.length_nil, Nat.zero_add] at hl
    rw [ref16_Conducts_eq _ _ _ (by omega) (by omega)]
    generalize condP r q1 = cp
    obtain ⟨c1, c2⟩ := cp
    simp only [bne_self_eq_false, Bool.false_eq_true, if_false, ne_eq, not_true, Option.bind_some]
    rw [ref16_Coils_eq _ _ _ _ (by omega) hsm.1 (by omega)]
    generalize coilsS r.Coils q2 c1 = w
    obtain ⟨w1, w2⟩ := w
    by_cases hw : w2 = 0 <;> simp [hw, noState]
  · have hb : (q3 != 0) = true := by simpa using hq
    simp [hb, hq, noState]
end

theorem coilsS_leS (k : Nat) (on : Bool) : ∀ (cs : List ApiCoil) (st : ApiState), leS st k → leS (coilsS cs st on).1 k := by
  have hno : leS noState k := by simp [leS, noState]
  intro cs
  induction cs with
  | nil => intro st h; exact h
  | cons c cs ih =>
    intro st h
    have hw : ∀ v, leS (writeS st c.A v).1 k := by
      intro v; unfold writeS
      split
      · split
        · exact ⟨by simpa using h.1, h.2.1, h.2.2⟩
        · exact hno
      · split
        · split
          · exact ⟨h.1, by simpa using h.2.1, h.2.2⟩
          · exact hno
        · exact hno
    unfold coilsS
    simp only
    split
    · exact hno
    · generalize (if c.Kind = 0 then on else if c.Kind = 1 then !on else if c.Kind = 2 then true else false) = v
      generalize (if c.Kind = 0 ∨ c.Kind = 1 then true else on) = w
      split
      · exact hno
      · refine ih _ ?_
        split
        · exact hw _
        · exact h

theorem scanS_leS (r : ApiRung) (ins : List Bool) (st : ApiState) (slot : Int) (hs : leS st 1000) : leS (scanS r ins st slot).1 1000 := by
  have hno : leS noState 1000 := by simp [leS, noState]
  unfold scanS
  simp only
  split
  · exact hno
  · split
    · exact hno
    · exact coilsS_leS _ _ _ _ (contactsS_leS ins st 1000 hs _ _ _ _ hs.2.2)

section
variable (r : ApiRung) (ins : List Bool) (st : ApiState) (h60 : r.Contacts.length ≤ 60) (hc : r.Coils.length ≤ 100) (hs : leS st 1000)
include h60 hc hs
theorem scan_loop3 : ∀ (l : List Bool) (k i : Nat), i ≤ l.length → l.length - i < k → l.length ≤ 100 → law16_RungevalScanMatchesReference_L3 2000000 r st st l k i = some true
  | l, 0, i, h1, h2, h3 => by omega
  | l, k + 1, i, h1, h2, h3 => by
    unfold law16_RungevalScanMatchesReference_L3
    by_cases hi : i < l.length
    · obtain ⟨c, hcc⟩ := get_ex hi
      have hlt : (i : Int) < l.length := by omega
      have hw := wrapN (i := i) (by omega)
      have ih := scan_loop3 l k (i + 1) (by omega) (by omega) h3
      have hle := coilsS_leS 1000 c r.Coils st hs
      simp only [atI_nat, hcc, hlt, decide_true, if_true, Option.bind_some, hw]
      rw [rungeval_Coils_eq _ _ _ _ (by omega) (hs.small (by omega)) (by omega), ref16_Coils_eq _ _ _ _ (by omega) (hs.small (by omega)) (by omega)]
      generalize coilsS r.Coils st c = q at hle
      obtain ⟨q1, q2⟩ := q
      simp only at hle
      simp only [Option.bind_some]
      rw [ref03_Equal_eq _ _ _ (by have := hle.1; have := hle.2.1; have := hle.2.2; omega) (hle.small (by omega))]
      simpa using ih
    · have hge : ¬ (i : Int) < l.length := by omega
      simp only [hge, decide_false, Bool.false_eq_true, if_false, law16_RungevalScanMatchesReference_J2, alive16, Option.bind_some, if_true]
      rw [ref03_Equal_eq _ _ _ (by have := hs.1; have := hs.2.1; have := hs.2.2; omega) (hs.small (by omega))]
      simp
theorem scan_loop4 : ∀ (l : List Int) (k i : Nat), i ≤ l.length → l.length - i < k → l.length ≤ 100 → (∀ x ∈ l, -4611686018427387904 ≤ x ∧ x ≤ 4611686018427387904) → law16_RungevalScanMatchesReference_L4 2000000 r ins st st l k i = some true
  | l, 0, i, h1, h2, h3, h4 => by omega
  | l, k + 1, i, h1, h2, h3, h4 => by
    unfold law16_RungevalScanMatchesReference_L4
    by_cases hi : i < l.length
    · obtain ⟨c, hcc⟩ := get_ex hi
      have hlt : (i : Int) < l.length := by omega
      have hw := wrapN (i := i) (by omega)
      obtain ⟨b1, b2⟩ := h4 c (List.mem_of_getElem? hcc)
      have ih := scan_loop4 l k (i + 1) (by omega) (by omega) h3 h4
      have hle := scanS_leS r ins st c hs
      simp only [atI_nat, hcc, hlt, decide_true, if_true, Option.bind_some, hw]
      rw [rungeval_Scan_eq r ins st h60 hc hs c b1 b2, ref16_Scan_eq r ins st h60 hc hs c b1 b2]
      generalize scanS r ins st c = q at hle
      obtain ⟨q1, q2, q3⟩ := q
      simp only at hle
      simp only [Option.bind_some]
      rw [ref03_Equal_eq _ _ _ (by have := hle.1; have := hle.2.1; have := hle.2.2; omega) (hle.small (by omega))]
      simpa using ih
    · have hge : ¬ (i : Int) < l.length := by omega
      simp only [hge, decide_false, Bool.false_eq_true, if_false, law16_RungevalScanMatchesReference_J1, Option.bind_some]
      exact scan_loop3 r st h60 hc hs [false, true] 2000000 0 (by simp) (by simp) (by simp)
end

theorem scan_law (r : ApiRung) (ins : List Bool) (st : ApiState) (hn : r.Contacts.length ≤ 1500000) : law16_RungevalScanMatchesReference 2000000 r ins st = some true := by
  obtain ⟨b, hb, hb2⟩ := tl16 r ins st hn
  unfold law16_RungevalScanMatchesReference
  rw [hb]
  cases b with
  | true => simp [alive16]
  | false =>
    obtain ⟨h1, h2, h3, h4⟩ := hb2 rfl
    have := scan_loop4 r ins st h1 h2 h4 [0, 1, -1] 2000000 0 (by simp) (by simp) (by simp) (by
      intro x hx; simp at hx; rcases hx with h | h | h <;> omega)
    have hcl := ref03_Clone_eq 2000000 st (h4.small (by omega))
    generalize (2000000 : Nat) = N at this hcl ⊢
    simp only [Option.bind_some, Bool.false_eq_true, if_false]
    rw [hcl]
    simp only [Option.bind_some]
    rw [Int.natCast_zero] at this
    exact this

end Go.G

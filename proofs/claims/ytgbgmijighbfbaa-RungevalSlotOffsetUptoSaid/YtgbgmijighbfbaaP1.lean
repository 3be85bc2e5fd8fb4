/- What coils, contacts and edge counts compute. -/
import Derived.Test.YtgbgmijighbfbaaP0
set_option linter.unusedSimpArgs false
set_option linter.unusedVariables false
set_option linter.unusedSectionVars false
namespace Go.G
open Go.Av

def coilsS : List ApiCoil → ApiState → Bool → ApiState × Int
  | [], st, _ => (st, 0)
  | c :: cs, st, on =>
    if c.Kind < 0 ∨ 4 ≤ c.Kind then (noState, 8)
    else
      let v := if c.Kind = 0 then on else if c.Kind = 1 then !on else if c.Kind = 2 then true else false
      let w := if c.Kind = 0 ∨ c.Kind = 1 then true else on
      if (writeS st c.A v).2 ≠ 0 then (noState, (writeS st c.A v).2)
      else coilsS cs (if w then (writeS st c.A v).1 else st) on

theorem writes_eq (n : Nat) (k : Int) (on : Bool) (h0 : 0 ≤ k) (h1 : k < 4) : rungeval_writes n k on = some (if k = 0 then on else if k = 1 then !on else if k = 2 then true else false, if k = 0 ∨ k = 1 then true else on) := by
  unfold rungeval_writes
  rcases (show k = 0 ∨ k = 1 ∨ k = 2 ∨ k = 3 by omega) with h | h | h | h <;> simp [h]

theorem small_write {st : ApiState} (h : small st) (a : ApiAddr) (v : Bool) (he : (writeS st a v).2 = 0) : small (writeS st a v).1 := by
  unfold writeS at he ⊢
  split
  · split
    · exact ⟨by simpa using h.1, h.2.1, h.2.2⟩
    · rename_i h1 h2; simp [h1, h2] at he
  · split
    · split
      · exact ⟨h.1, by simpa using h.2.1, h.2.2⟩
      · rename_i h1 h2 h3; simp [h2, h3] at he
    · rename_i h1 h2; simp [h1, h2] at he

theorem coils_loop (n : Nat) (r : ApiRung) (on : Bool) (hn : r.Coils.length ≤ 1000000000) : ∀ (k i : Nat) (st : ApiState), small st → i ≤ r.Coils.length → r.Coils.length - i < k →
    rungeval_Coils_L1 n r on k st.Q st.M st.E i = some (coilsS (r.Coils.drop i) st on)
  | 0, i, st, hs, h1, h2 => by omega
  | k + 1, i, st, hs, h1, h2 => by
    unfold rungeval_Coils_L1
    by_cases hi : i < r.Coils.length
    · obtain ⟨c, hc⟩ := get_ex hi
      have hlt : (i : Int) < r.Coils.length := by omega
      have hw := wrapN (i := i) (by omega)
      rw [drop_cons hc]
      simp only [atI_nat, hc, hlt, decide_true, if_true, Option.bind_some, hw, coilsS]
      by_cases hk0 : c.Kind < 0
      · simp [hk0, noState]
      · by_cases hk4 : 4 ≤ c.Kind
        · simp [hk0, hk4, noState]
        · have hor : ¬ (c.Kind < 0 ∨ 4 ≤ c.Kind) := by omega
          rw [if_neg (by simpa using hk0), if_neg (by simpa using hk4), if_neg hor, writes_eq _ _ _ (by omega) (by omega), Option.bind_some, state_Write_eq _ _ _ _ hs]
          simp only [Option.bind_some]
          generalize hv : (if c.Kind = 0 then on else if c.Kind = 1 then !on else if c.Kind = 2 then true else false) = v
          generalize hw' : (if c.Kind = 0 ∨ c.Kind = 1 then true else on) = w
          by_cases he : (writeS st c.A v).2 = 0
          · have ih1 := coils_loop n r on hn k (i + 1) (writeS st c.A v).1 (small_write hs _ _ he) (by omega) (by omega)
            have ih2 := coils_loop n r on hn k (i + 1) st hs (by omega) (by omega)
            have hb : ((writeS st c.A v).2 != 0) = false := by simpa using he
            simp only [hb, he, ne_eq, not_true, if_false, Bool.false_eq_true]
            cases w
            · simpa using ih2
            · simpa using ih1
          · have hb : ((writeS st c.A v).2 != 0) = true := by simpa using he
            simp only [hb, he, ne_eq, not_false_iff, if_true]; rfl
    · have hge : ¬ (i : Int) < r.Coils.length := by omega
      simp [hge, List.drop_eq_nil_of_le (show r.Coils.length ≤ i by omega), coilsS]

theorem ref_coils_loop (n : Nat) (r : ApiRung) (on : Bool) (hn : r.Coils.length ≤ 1000000000) : ∀ (k i : Nat) (st : ApiState), small st → i ≤ r.Coils.length → r.Coils.length - i < k →
    ref16_Coils_L1 n r on k st.Q st.M st.E i = some (coilsS (r.Coils.drop i) st on)
  | 0, i, st, hs, h1, h2 => by omega
  | k + 1, i, st, hs, h1, h2 => by
    unfold ref16_Coils_L1
    by_cases hi : i < r.Coils.length
    · obtain ⟨c, hc⟩ := get_ex hi
      have hlt : (i : Int) < r.Coils.length := by omega
      have hw := wrapN (i := i) (by omega)
      rw [drop_cons hc]
      simp only [atI_nat, hc, hlt, decide_true, if_true, Option.bind_some, coilsS]
      by_cases hk0 : c.Kind < 0
      · simp [hk0, noState]
      · by_cases hk4 : 3 < c.Kind
        · have : 4 ≤ c.Kind := by omega
          simp [hk0, hk4, noState, this]
        · have hor : ¬ (c.Kind < 0 ∨ 4 ≤ c.Kind) := by omega
          rw [if_neg (by simpa using hk0), if_neg (by simpa using hk4), if_neg hor]
          generalize hv : (if c.Kind = 0 then on else if c.Kind = 1 then !on else if c.Kind = 2 then true else false) = v
          generalize hw' : (if c.Kind = 0 ∨ c.Kind = 1 then true else on) = w
          -- the value that the reference writes; where it is not the program's, nothing is written
          have hJ3 : ∀ u, (u = v ∨ (w = false ∧ ((writeS st c.A u).2 = (writeS st c.A v).2))) → ref16_Coils_J3 n on st.Q st.M st.E i (ref16_Coils_L1 n r on k) c u = some (if (writeS st c.A v).2 ≠ 0 then (noState, (writeS st c.A v).2) else coilsS (r.Coils.drop (i + 1)) (if w then (writeS st c.A v).1 else st) on) := by
            intro u hu
            have e2 : (writeS st c.A u).2 = (writeS st c.A v).2 := by rcases hu with rfl | hu; rfl; exact hu.2
            unfold ref16_Coils_J3
            rw [ref03_Write_eq _ _ _ _ hs]
            simp only [Option.bind_some, hw]
            by_cases he : (writeS st c.A v).2 = 0
            · have ih2 := ref_coils_loop n r on hn k (i + 1) st hs (by omega) (by omega)
              have hb : ((writeS st c.A u).2 != 0) = false := by rw [e2]; simpa using he
              simp only [hb, he, ne_eq, not_true, if_false, Bool.false_eq_true]
              rcases hu with rfl | ⟨hwf, _⟩
              · have ih1 := ref_coils_loop n r on hn k (i + 1) (writeS st c.A u).1 (small_write hs _ _ he) (by omega) (by omega)
                by_cases hk2 : c.Kind < 2
                · have : c.Kind = 0 ∨ c.Kind = 1 := by omega
                  have hwt : w = true := by rw [← hw']; simp [this]
                  simpa [hk2, hwt] using ih1
                · have hn01 : ¬ (c.Kind = 0 ∨ c.Kind = 1) := by omega
                  have hwt : w = on := by rw [← hw']; simp [hn01]
                  subst hwt
                  cases w
                  · simpa [hk2] using ih2
                  · simpa [hk2] using ih1
              · have hn01 : ¬ (c.Kind = 0 ∨ c.Kind = 1) := by intro h; rw [← hw'] at hwf; simp [h] at hwf
                have hk2 : ¬ c.Kind < 2 := by omega
                have hon : on = false := by rw [← hw'] at hwf; simpa [hn01] using hwf
                rw [hon] at ih2 ⊢
                simpa [hk2, hwf] using ih2
            · have hb : ((writeS st c.A v).2 != 0) = true := by simpa using he
              simp only [e2, hb, he, ne_eq, not_false_iff, if_true]; rfl
          have err : ∀ u u', (writeS st c.A u).2 = (writeS st c.A u').2 := by
            intro u u'; unfold writeS; split
            · split <;> rfl
            · split
              · split <;> rfl
              · rfl
          have key : ref16_Coils_J2 n on st.Q st.M st.E i (ref16_Coils_L1 n r on k) c (if c.Kind = 1 then !on else on) = some (if (writeS st c.A v).2 ≠ 0 then (noState, (writeS st c.A v).2) else coilsS (r.Coils.drop (i + 1)) (if w then (writeS st c.A v).1 else st) on) := by
            unfold ref16_Coils_J2
            rcases (show c.Kind = 0 ∨ c.Kind = 1 ∨ c.Kind = 2 ∨ c.Kind = 3 by omega) with h | h | h | h
            · rw [if_neg (by simp [h]), if_neg (by omega)]; exact hJ3 _ (.inl (by rw [← hv]; simp [h]))
            · rw [if_neg (by simp [h]), if_pos h]; exact hJ3 _ (.inl (by rw [← hv]; simp [h]))
            · rw [if_neg (by simp [h]), if_neg (by omega)]
              refine hJ3 _ ?_
              cases hon : on with
              | true => exact .inl (by rw [← hv]; simp [h])
              | false => exact .inr ⟨by rw [← hw', hon]; simp [h], err _ _⟩
            · rw [if_pos (by simp [h])]; exact hJ3 _ (.inl (by rw [← hv]; simp [h]))
          by_cases h1 : c.Kind = 1
          · rw [if_pos (by simpa using h1)]; rw [if_pos h1] at key; exact key
          · rw [if_neg (by simpa using h1)]; rw [if_neg h1] at key; exact key
    · have hge : ¬ (i : Int) < r.Coils.length := by omega
      simp [hge, List.drop_eq_nil_of_le (show r.Coils.length ≤ i by omega), coilsS]

theorem rungeval_Coils_eq (n : Nat) (r : ApiRung) (st : ApiState) (on : Bool) (hn : r.Coils.length ≤ 1000000000) (hs : small st) (h : r.Coils.length < n) : rungeval_Coils n r st on = some (coilsS r.Coils st on) := by
  unfold rungeval_Coils
  rw [state_Clone_eq _ _ hs]
  have := coils_loop n r on hn n 0 st hs (Nat.zero_le _) (by omega)
  simpa using this

theorem ref16_Coils_eq (n : Nat) (r : ApiRung) (st : ApiState) (on : Bool) (hn : r.Coils.length ≤ 1000000000) (hs : small st) (h : r.Coils.length < n) : ref16_Coils n r st on = some (coilsS r.Coils st on) := by
  unfold ref16_Coils
  rw [ref03_Clone_eq _ _ hs]
  have := ref_coils_loop n r on hn n 0 st hs (Nat.zero_le _) (by omega)
  simpa using this

/-! ### edges -/

def seesS (c : ApiContact) : Bool := decide (c.Kind = 2) || decide (c.Kind = 3)
def edges : List ApiContact → Nat
  | [] => 0
  | c :: cs => (if seesS c then 1 else 0) + edges cs

theorem sees_eq (n : Nat) (c : ApiContact) : rungeval_sees n c = some (seesS c) := by
  unfold rungeval_sees seesS
  by_cases h : c.Kind = 2
  · simp [h]
  · by_cases h3 : c.Kind = 3 <;> simp [h, h3]

theorem edges_le (cs : List ApiContact) : edges cs ≤ cs.length := by
  induction cs with
  | nil => exact Nat.le_refl _
  | cons c cs ih => simp only [edges, List.length_cons]; split <;> omega

theorem edge_loop (n : Nat) (r : ApiRung) (hn : r.Contacts.length ≤ 1000000000) : ∀ (k i m : Nat), i ≤ r.Contacts.length → m ≤ i → r.Contacts.length - i < k →
    rungeval_EdgeCount_L1 n r k m i = some ((m + edges (r.Contacts.drop i) : Nat) : Int) ∧ ref16_EdgeCount_L1 r k m i = some ((m + edges (r.Contacts.drop i) : Nat) : Int)
  | 0, i, m, h1, h2, h3 => by omega
  | k + 1, i, m, h1, h2, h3 => by
    unfold rungeval_EdgeCount_L1 ref16_EdgeCount_L1
    by_cases hi : i < r.Contacts.length
    · obtain ⟨c, hc⟩ := get_ex hi
      have hlt : (i : Int) < r.Contacts.length := by omega
      have hw := wrapN (i := i) (by omega)
      have hw2 := wrapN (i := m) (by omega)
      rw [drop_cons hc]
      simp only [atI_nat, hc, hlt, decide_true, if_true, Option.bind_some, hw, hw2, edges, sees_eq]
      have ih0 := edge_loop n r hn k (i + 1) m (by omega) (by omega) (by omega)
      have ih1 := edge_loop n r hn k (i + 1) (m + 1) (by omega) (by omega) (by omega)
      have e1 : ((m + 1 + edges (r.Contacts.drop (i + 1)) : Nat) : Int) = ((m + (1 + edges (r.Contacts.drop (i + 1))) : Nat) : Int) := by omega
      have e0 : ((m + edges (r.Contacts.drop (i + 1)) : Nat) : Int) = ((m + (0 + edges (r.Contacts.drop (i + 1))) : Nat) : Int) := by omega
      rw [e1] at ih1; rw [e0] at ih0
      by_cases h2 : c.Kind = 2
      · simp only [seesS, h2]; exact ⟨ih1.1, ih1.2⟩
      · by_cases h3 : c.Kind = 3
        · simp only [seesS, h3]; exact ⟨ih1.1, ih1.2⟩
        · have h2' : (c.Kind == 2) = false := by simpa using h2
          have h3' : (c.Kind == 3) = false := by simpa using h3
          simp only [seesS, h2, h3, h2', h3']; exact ⟨ih0.1, ih0.2⟩
    · have hge : ¬ (i : Int) < r.Contacts.length := by omega
      simp [hge, List.drop_eq_nil_of_le (show r.Contacts.length ≤ i by omega), edges]

theorem rungeval_EdgeCount_eq (n : Nat) (r : ApiRung) (hn : r.Contacts.length ≤ 1000000000) (h : r.Contacts.length < n) : rungeval_EdgeCount n r = some (edges r.Contacts : Int) := by
  unfold rungeval_EdgeCount
  have := (edge_loop n r hn n 0 0 (Nat.zero_le _) (Nat.le_refl _) (by omega)).1
  simpa using this
theorem ref16_EdgeCount_eq (n : Nat) (r : ApiRung) (hn : r.Contacts.length ≤ 1000000000) (h : r.Contacts.length < n) : ref16_EdgeCount n r = some (edges r.Contacts : Int) := by
  unfold ref16_EdgeCount
  have := (edge_loop n r hn n 0 0 (Nat.zero_le _) (Nat.le_refl _) (by omega)).2
  simpa using this

end Go.G

/- The law of edges on models. -/
import Derived.Test.YtgbgmijighbfbaaP5
set_option linter.unusedSimpArgs false
set_option linter.unusedVariables false
set_option linter.unusedSectionVars false
namespace Go.G
open Go.Av

section
variable (r : ApiRung) (ins : List Bool) (st : ApiState) (h60 : r.Contacts.length ≤ 60) (hc : r.Coils.length ≤ 100) (hs : leS st 1000)
include h60 hc hs

theorem edges_body (hfree : ∀ c ∈ r.Contacts, ∀ d ∈ r.Coils, ¬ (c.A.Space = d.A.Space ∧ c.A.N = d.A.N)) : law16_RungevalEdgesOnce_J1 2000000 r ins st = some true := by
  unfold law16_RungevalEdgesOnce_J1
  rw [rungeval_Scan_eq r ins st h60 hc hs 0 (by omega) (by omega)]
  have hsl := scanS_leS r ins st 0 hs
  by_cases hq : (contactsS ins st r.Contacts 0 st.E []).2.2 = 0
  · by_cases hw : (coilsS r.Coils (contactsS ins st r.Contacts 0 st.E []).2.1 (condP r (contactsS ins st r.Contacts 0 st.E []).1).1).2 = 0
    · have hq0 : (contactsS ins st r.Contacts 0 st.E []).2.1.Q = st.Q ∧ (contactsS ins st r.Contacts 0 st.E []).2.1.M = st.M := by
        have : ∀ (cs : List ApiContact) (slot : Int) (e acc : List Bool), (contactsS ins st cs slot e acc).2.2 = 0 → (contactsS ins st cs slot e acc).2.1.Q = st.Q ∧ (contactsS ins st cs slot e acc).2.1.M = st.M := by
          intro cs
          induction cs with
          | nil => intro _ _ _ _; exact ⟨rfl, rfl⟩
          | cons c cs ih =>
            intro slot e acc h
            unfold contactsS at h ⊢
            split at h
            · simp at h
            · rename_i h1
              split at h
              · rename_i h2; exact absurd h h2
              · rename_i h2
                split at h
                · rename_i h3
                  split at h
                  · simp at h
                  · rename_i h4
                    rw [if_neg h1, if_neg h2, if_pos h3, if_neg h4]; exact ih _ _ _ h
                · rename_i h3
                  rw [if_neg h1, if_neg h2, if_neg h3]; exact ih _ _ _ h
        exact this _ _ _ _ hq
      have hsc : scanS r ins st 0 = ((coilsS r.Coils (contactsS ins st r.Contacts 0 st.E []).2.1 (condP r (contactsS ins st r.Contacts 0 st.E []).1).1).1, (condP r (contactsS ins st r.Contacts 0 st.E []).1).1, 0) := by
        unfold scanS
        simp only
        rw [if_neg (not_not_intro hq), if_neg (not_not_intro hw)]
      have hag := contacts_again ins st
      generalize hE : contactsS ins st r.Contacts 0 st.E [] = q at *
      obtain ⟨on1, sa, e0⟩ := q
      simp only at hq hw hq0 hsc
      subst hq
      generalize hP : (condP r on1).1 = P at *
      obtain ⟨k1, k2, k3, k4⟩ := coilsS_ok P P r.Coils sa sa (same.refl _) hw
      generalize hst1 : (coilsS r.Coils sa P).1 = st1 at *
      rw [hsc] at hsl ⊢
      simp only [Option.bind_some, bne_self_eq_false, Bool.false_eq_true, if_false]
      -- what reads see
      have hnone : ∀ c ∈ r.Contacts, ∀ (sp : Int) (i : Nat) (on : Bool) (d : Option Bool), c.A.N = i → c.A.Space = sp → lastW on r.Coils sp i d = d := fun c hcm sp i on d h1 h2 =>
        lastW_none on sp i d r.Coils fun x hx g => hfree c hcm x hx ⟨h2.trans g.1.symm, h1.trans g.2.symm⟩
      have hbit : ∀ sp i, bit sa sp i = bit st sp i := fun sp i => by unfold bit; rw [hq0.1, hq0.2]
      have hr1 : ∀ c ∈ r.Contacts, readS ins st1 c.A = readS ins st c.A := fun c hcm => readS_same ins _ _ _ fun i h1 h2 => by
        rw [k4 _ i h2, hbit, hnone c hcm _ i _ _ h1 rfl]
      have ha1 := hag st1 r.Contacts 0 st.E [] [] (by omega) hr1 (by rw [hE])
      rw [hE] at ha1
      obtain ⟨a1, a2, a3, a4⟩ := ha1
      have hEE : sa.E = st1.E := k3.symm
      simp only [hEE] at a4
      rw [rungeval_Contacts_eq _ _ _ _ _ (by omega) (hsl.small (by omega)) (by omega) (by omega), a4]
      simp only [Option.bind_some, bne_self_eq_false, Bool.false_eq_true, if_false, List.nil_append]
      rw [ref03_Equal_eq _ _ _ (by have := hsl.1; have := hsl.2.1; have := hsl.2.2; simp only at *; omega) (hsl.small (by omega))]
      have hlen2 : (on2 ins st r.Contacts).length = r.Contacts.length := by simp [on2]
      simp only [Option.bind_some, decide_true, Bool.not_true, Bool.false_eq_true, if_false, hlen2, bne_self_eq_false]
      -- the tail: two more scans
      have htail : law16_RungevalEdgesOnce_J2 2000000 r ins st1 = some true := by
        unfold law16_RungevalEdgesOnce_J2
        rw [rungeval_Scan_eq r ins st1 h60 hc hsl 0 (by omega) (by omega)]
        generalize hP2 : (condP r (on2 ins st r.Contacts)).1 = P2
        have hsame1 : same sa ⟨st1.Q, st1.M, st1.E⟩ := k2
        obtain ⟨m1, _, _, _⟩ := coilsS_ok P P2 r.Coils sa st1 k2 hw
        obtain ⟨n1, n2, n3, n4⟩ := coilsS_ok P2 P2 r.Coils st1 st1 (same.refl _) m1
        have hsc2 : scanS r ins st1 0 = ((coilsS r.Coils st1 P2).1, P2, 0) := by
          unfold scanS
          rw [a4]
          simp only [List.nil_append, hP2, ne_eq, not_true, if_false]
          rw [if_neg (not_not_intro m1)]
        have hsl2 := scanS_leS r ins st1 0 hsl
        rw [hsc2] at hsl2 ⊢
        have hidem := coilsS_idem P2 r.Coils st1 m1
        generalize (coilsS r.Coils st1 P2).1 = st2 at *
        simp only [Option.bind_some]
        rw [rungeval_Scan_eq r ins st2 h60 hc hsl2 0 (by omega) (by omega)]
        have hr2 : ∀ c ∈ r.Contacts, readS ins st2 c.A = readS ins st c.A := fun c hcm => by
          rw [← hr1 c hcm]
          exact readS_same ins _ _ _ fun i h1 h2 => by rw [n4 _ i h2, hnone c hcm _ i _ _ h1 rfl]
        have hb := hag st2 r.Contacts 0 st.E [] [] (by omega) hr2 (by rw [hE])
        rw [hE] at hb
        obtain ⟨_, _, _, b4⟩ := hb
        have hEE2 : sa.E = st2.E := hEE.trans n3.symm
        simp only [hEE2] at b4
        have hsc3 : scanS r ins st2 0 = (st2, P2, 0) := by
          unfold scanS
          rw [b4]
          simp only [List.nil_append, hP2, ne_eq, not_true, if_false]
          show (if (coilsS r.Coils st2 P2).2 ≠ 0 then _ else _) = _
          rw [hidem]
          simp
        rw [hsc3]
        simp only [Option.bind_some, alive16, if_true, beq_self_eq_true]
        rw [ref03_Equal_eq _ _ _ (by have := hsl2.1; have := hsl2.2.1; have := hsl2.2.2; omega) (hsl2.small (by omega))]
        simp
      have hloop : ∀ (k i : Nat), i ≤ r.Contacts.length → r.Contacts.length - i < k → law16_RungevalEdgesOnce_L3 2000000 r ins st1 (on2 ins st r.Contacts) k i = some true := by
        intro k
        induction k with
        | zero => intro i h1 h2; omega
        | succ k ih =>
          intro i h1 h2
          unfold law16_RungevalEdgesOnce_L3
          by_cases hi : i < r.Contacts.length
          · obtain ⟨c, hcc⟩ := get_ex hi
            have hlt : (i : Int) < r.Contacts.length := by omega
            have hw := wrapN (i := i) (by omega)
            have hk := a3 c (List.mem_of_getElem? hcc)
            have ihh := ih (i + 1) (by omega) (by omega)
            simp only [atI_nat, hcc, hlt, decide_true, if_true, Option.bind_some, hw]
            by_cases h2k : c.Kind ≥ 2
            · have hon : (on2 ins st r.Contacts)[i]? = some false := by
                unfold on2
                rw [List.getElem?_map, hcc]
                have : seesS c = true := by unfold seesS; simp; omega
                simp [this]
              simp [h2k, hon]; simpa using ihh
            · simp [h2k]; simpa using ihh
          · have hge : ¬ (i : Int) < r.Contacts.length := by omega
            simp only [hge, decide_false, Bool.false_eq_true, if_false]
            exact htail
      have := hloop 2000000 0 (Nat.zero_le _) (by omega)
      rw [Int.natCast_zero] at this
      exact this
    · have hsc : (scanS r ins st 0).2.2 ≠ 0 := by
        unfold scanS
        simp only
        rw [if_neg (not_not_intro hq), if_pos hw]; exact hw
      generalize scanS r ins st 0 = q at *
      obtain ⟨q1, q2, q3⟩ := q
      have hb : (q3 != 0) = true := by simpa using hsc
      simp only [Option.bind_some, hb, if_true, alive16]
  · have hsc : (scanS r ins st 0).2.2 ≠ 0 := by
      unfold scanS
      simp only
      rw [if_pos hq]; exact hq
    generalize scanS r ins st 0 = q at *
    obtain ⟨q1, q2, q3⟩ := q
    have hb : (q3 != 0) = true := by simpa using hsc
    simp only [Option.bind_some, hb, if_true, alive16]

theorem edges_loop5 (R : Int → Option Bool) (pi : Int) (c : ApiContact) (hR : (∀ d ∈ r.Coils, ¬ (c.A.Space = d.A.Space ∧ c.A.N = d.A.N)) → R (IntKind.i64.wrap (pi + 1)) = some true) : ∀ (k i : Nat), i ≤ r.Coils.length → r.Coils.length - i < k →
    (∀ d ∈ r.Coils.take i, ¬ (c.A.Space = d.A.Space ∧ c.A.N = d.A.N)) → law16_RungevalEdgesOnce_L5 2000000 r pi R c k i = some true
  | 0, i, h1, h2, h3 => by omega
  | k + 1, i, h1, h2, h3 => by
    unfold law16_RungevalEdgesOnce_L5
    by_cases hi : i < r.Coils.length
    · obtain ⟨d, hd⟩ := get_ex hi
      have hlt : (i : Int) < r.Coils.length := by omega
      have hw := wrapN (i := i) (by omega)
      simp only [atI_nat, hd, hlt, decide_true, if_true, Option.bind_some, hw]
      by_cases he : c.A.Space = d.A.Space ∧ c.A.N = d.A.N
      · simp [he, alive16]
      · have hb : ((c.A.Space == d.A.Space) && (c.A.N == d.A.N)) = false := by
          rw [Bool.eq_false_iff]; simpa using he
        rw [hb]
        simp only [Bool.false_eq_true, if_false]
        refine edges_loop5 R pi c hR k (i + 1) (by omega) (by omega) fun x hx => ?_
        rw [List.take_add_one, hd] at hx
        simp at hx
        rcases hx with g | g
        · exact h3 x g
        · subst g; exact he
    · have hge : ¬ (i : Int) < r.Coils.length := by omega
      rw [List.take_of_length_le (by omega)] at h3
      simp only [hge, decide_false, Bool.false_eq_true, if_false]
      exact hR h3

theorem edges_loop4 : ∀ (k i : Nat), i ≤ r.Contacts.length → r.Contacts.length - i < k →
    (∀ c ∈ r.Contacts.take i, ∀ d ∈ r.Coils, ¬ (c.A.Space = d.A.Space ∧ c.A.N = d.A.N)) → law16_RungevalEdgesOnce_L4 2000000 r ins st k i = some true
  | 0, i, h1, h2, h3 => by omega
  | k + 1, i, h1, h2, h3 => by
    unfold law16_RungevalEdgesOnce_L4
    by_cases hi : i < r.Contacts.length
    · obtain ⟨c, hcc⟩ := get_ex hi
      have hlt : (i : Int) < r.Contacts.length := by omega
      have hw := wrapN (i := i) (by omega)
      simp only [atI_nat, hcc, hlt, decide_true, if_true, Option.bind_some]
      have := edges_loop5 r st h60 hc hs (law16_RungevalEdgesOnce_L4 2000000 r ins st k) i c (fun hd => by
        rw [hw]
        refine edges_loop4 k (i + 1) (by omega) (by omega) fun x hx => ?_
        rw [List.take_add_one, hcc] at hx
        simp at hx
        rcases hx with g | g
        · exact h3 x g
        · subst g; exact hd) 2000000 0 (Nat.zero_le _) (by omega) (by simp)
      rw [Int.natCast_zero] at this
      exact this
    · have hge : ¬ (i : Int) < r.Contacts.length := by omega
      rw [List.take_of_length_le (by omega)] at h3
      simp only [hge, decide_false, Bool.false_eq_true, if_false]
      exact edges_body r ins st h60 hc hs h3
end

theorem edges_law (r : ApiRung) (ins : List Bool) (st : ApiState) (hn : r.Contacts.length ≤ 1500000) : law16_RungevalEdgesOnce 2000000 r ins st = some true := by
  obtain ⟨b, hb, hb2⟩ := tl16 r ins st hn
  unfold law16_RungevalEdgesOnce
  rw [hb]
  cases b with
  | true => simp [alive16]
  | false =>
    obtain ⟨h1, h2, h3, h4⟩ := hb2 rfl
    have := edges_loop4 r ins st h1 h2 h4 2000000 0 (Nat.zero_le _) (by omega) (by simp)
    rw [Int.natCast_zero] at this
    simp only [Option.bind_some, Bool.false_eq_true, if_false]
    exact this

end Go.G

/- The law of the last coil on models. -/
import Derived.Test.YtgbgmijighbfbaaP5
set_option linter.unusedSimpArgs false
set_option linter.unusedVariables false
set_option linter.unusedSectionVars false
namespace Go.G
open Go.Av

theorem mGet_mPut {β : Type} (k k' : ApiAddr) (v : β) : ∀ m : List (ApiAddr × β), mGet (mPut m k v) k' = if k' = k then some v else mGet m k'
  | [] => by
    show (if (k' == k) = true then some v else mGet [] k') = _
    by_cases h : k' = k <;> simp [h]
  | p :: r => by
    have ih := mGet_mPut k k' v r
    show mGet (if (k == p.1) = true then (k, v) :: r else p :: mPut r k v) k' = if k' = k then some v else (if (k' == p.1) = true then some p.2 else mGet r k')
    by_cases h : k = p.1
    · rw [if_pos (by simpa using h)]
      show (if (k' == k) = true then some v else mGet r k') = _
      by_cases h2 : k' = k
      · simp [h2]
      · have h3 : ¬ k' = p.1 := fun e => h2 (e.trans h.symm)
        simp [h2, h3]
    · rw [if_neg (by simpa using h)]
      show (if (k' == p.1) = true then some p.2 else mGet (mPut r k v) k') = _
      rw [ih]
      by_cases h2 : k' = k
      · have h3 : ¬ k' = p.1 := fun e => h (h2.symm.trans e)
        simp [h2, h]
      · by_cases h3 : k' = p.1 <;> simp [h2, h3]
        intro e; exact absurd (h3.symm ▸ e) (fun e' => h2 (h3.trans e'))

def foldM (on : Bool) : List ApiCoil → List (ApiAddr × Bool) → List (ApiAddr × Bool)
  | [], m => m
  | c :: cs, m => foldM on cs (if wF c on = true then mPut m c.A (vF c on) else m)

theorem foldM_get (on : Bool) (sp : Int) (i : Nat) : ∀ (cs : List ApiCoil) (m : List (ApiAddr × Bool)), mGet (foldM on cs m) ⟨sp, i⟩ = lastW on cs sp i (mGet m ⟨sp, i⟩)
  | [], m => rfl
  | c :: cs, m => by
    simp only [foldM, lastW]
    rw [foldM_get on sp i cs]
    congr 1
    by_cases hw : wF c on = true
    · rw [if_pos hw, mGet_mPut]
      by_cases hk : c.A.Space = sp ∧ c.A.N = i
      · have e : (⟨sp, i⟩ : ApiAddr) = c.A := by cases h : c.A; rw [h] at hk; simp only at hk; simp [hk.1, hk.2]
        rw [if_pos e, if_pos ⟨hk.1, hk.2, hw⟩]
      · have e : ¬ (⟨sp, i⟩ : ApiAddr) = c.A := fun e => hk ⟨by rw [← e], by rw [← e]⟩
        rw [if_neg e, if_neg (fun g => hk ⟨g.1, g.2.1⟩)]
    · rw [if_neg hw, if_neg (fun g => hw g.2.2)]

theorem lastW_or (on : Bool) (sp : Int) (i : Nat) : ∀ (cs : List ApiCoil) (d : Option Bool), lastW on cs sp i d = (lastW on cs sp i none).or d
  | [], d => rfl
  | c :: cs, d => by
    simp only [lastW]
    by_cases h : c.A.Space = sp ∧ c.A.N = i ∧ wF c on = true
    · rw [if_pos h, if_pos h, lastW_or on sp i cs (some _)]
      cases lastW on cs sp i none <;> rfl
    · rw [if_neg h, if_neg h, lastW_or on sp i cs d]

section
variable (r : ApiRung) (st st2 : ApiState) (on : Bool) (hc : r.Coils.length ≤ 100) (hs : leS st 1000) (hs2 : leS st2 1000)

theorem last_loop4 (m : List (ApiAddr × Bool)) (sp : Nat) (hsp : sp ≤ 10) (a b : List Bool) (hl : a.length = b.length) (ha : a.length ≤ 1000) (R : Int → Option Bool) (hR : R ((sp + 1 : Nat) : Int) = some true)
    (hm : ∀ i : Nat, b[i]? = (mGet m ⟨((sp + 1 : Nat) : Int), i⟩).or a[i]?) : ∀ (k i : Nat), i ≤ a.length → a.length - i < k → law16_RungevalLastCoilWins_L4 m (sp : Int) R (a, b) k i = some true
  | 0, i, h1, h2 => by omega
  | k + 1, i, h1, h2 => by
    unfold law16_RungevalLastCoilWins_L4
    have hw := wrapN (i := i) (by omega)
    have hw2 := wrapN (i := sp) (by omega)
    have ih := fun h => last_loop4 m sp hsp a b hl ha R hR hm k (i + 1) h (by omega)
    by_cases hi : i < a.length
    · obtain ⟨x, hx⟩ := get_ex hi
      obtain ⟨y, hy⟩ := get_ex (l := b) (i := i) (by omega)
      have hlt : (i : Int) < a.length := by omega
      have hmi := hm i
      simp only [atI_nat, hx, hy, hlt, decide_true, if_true, Option.bind_some, hw, hw2]
      rw [hx, hy] at hmi
      cases hg : mGet m (⟨((sp + 1 : Nat) : Int), i⟩ : ApiAddr) with
      | none =>
        rw [hg] at hmi
        simp at hmi
        subst hmi
        simp
        simpa using ih (by omega)
      | some v =>
        rw [hg] at hmi
        simp at hmi
        subst hmi
        simp
        simpa using ih (by omega)
    · have hge : ¬ (i : Int) < a.length := by omega
      simp only [hge, decide_false, Bool.false_eq_true, if_false, hw2]
      exact hR

theorem last_loop3 (m : List (ApiAddr × Bool)) (hsm : same st st2) (hE : st2.E = st.E) (hs : leS st 1000) (hs2 : leS st2 1000)
    (hm : ∀ sp i, (sp = 1 ∨ sp = 2) → bit st2 sp i = (mGet m ⟨sp, i⟩).or (bit st sp i)) :
    law16_RungevalLastCoilWins_L3 2000000 st st2 m [(st.Q, st2.Q), (st.M, st2.M)] 2000000 0 = some true := by
  have alive := alive16
  have hE2 := slices_Equal_eq 2000000 st2.E st.E (by have := hs2.2.2; omega) (by have := hs.2.2; omega)
  obtain ⟨N, hN⟩ : ∃ N, (2000000 : Nat) = N + 3 := ⟨1999997, rfl⟩
  have hbig : 1000 < N := by omega
  rw [hN] at alive hE2 ⊢
  have h3 : ∀ k, law16_RungevalLastCoilWins_L3 (N + 3) st st2 m [(st.Q, st2.Q), (st.M, st2.M)] (k + 1) ((2 : Nat) : Int) = some true := by
    intro k
    unfold law16_RungevalLastCoilWins_L3
    simp only [law16_RungevalLastCoilWins_J2, alive, hE2]
    simp [hE]
  have h2 : ∀ k, law16_RungevalLastCoilWins_L3 (N + 3) st st2 m [(st.Q, st2.Q), (st.M, st2.M)] (k + 2) ((1 : Nat) : Int) = some true := by
    intro k
    unfold law16_RungevalLastCoilWins_L3
    have := last_loop4 m 1 (by omega) st.M st2.M hsm.2 (hs.2.1) _ (h3 k) (fun i => by simpa [bit] using hm 2 i (.inr rfl)) (N + 3) 0 (Nat.zero_le _) (by have := hs.2.1; omega)
    have e : ((st.M.length : Int) != (st2.M.length : Int)) = false := by have := hsm.2; simp; omega
    simp only [List.length_cons, List.length_nil, atI_nat, List.getElem?_cons_succ, List.getElem?_cons_zero, Option.bind_some, e, Bool.false_eq_true, if_false]
    rw [if_pos (by simp)]
    exact this
  have h1 : law16_RungevalLastCoilWins_L3 (N + 3) st st2 m [(st.Q, st2.Q), (st.M, st2.M)] (N + 3) ((0 : Nat) : Int) = some true := by
    unfold law16_RungevalLastCoilWins_L3
    have := last_loop4 m 0 (by omega) st.Q st2.Q hsm.1 (hs.1) _ (h2 N) (fun i => by simpa [bit] using hm 1 i (.inl rfl)) (N + 3) 0 (Nat.zero_le _) (by have := hs.1; omega)
    have e : ((st.Q.length : Int) != (st2.Q.length : Int)) = false := by have := hsm.1; simp; omega
    simp only [List.length_cons, List.length_nil, atI_nat, List.getElem?_cons_zero, Option.bind_some, e, Bool.false_eq_true, if_false]
    rw [if_pos (by simp)]
    exact this
  exact h1

theorem last_loop5 (n : Nat) (hfin : law16_RungevalLastCoilWins_J1 n st st2 (foldM on r.Coils []) = some true) (hc : r.Coils.length ≤ 100) : ∀ (k i : Nat) (m : List (ApiAddr × Bool)), i ≤ r.Coils.length → r.Coils.length - i < k → foldM on (r.Coils.drop i) m = foldM on r.Coils [] →
    law16_RungevalLastCoilWins_L5 n r st on st2 k m i = some true
  | 0, i, m, h1, h2, h3 => by omega
  | k + 1, i, m, h1, h2, h3 => by
    unfold law16_RungevalLastCoilWins_L5
    by_cases hi : i < r.Coils.length
    · obtain ⟨c, hcc⟩ := get_ex hi
      have hlt : (i : Int) < r.Coils.length := by omega
      have hw := wrapN (i := i) (by omega)
      rw [drop_cons hcc] at h3
      have ih := fun m' h => last_loop5 n hfin hc k (i + 1) m' (by omega) (by omega) h
      simp only [foldM] at h3
      simp only [atI_nat, hcc, hlt, decide_true, if_true, Option.bind_some, hw]
      by_cases h0 : c.Kind = 0
      · have e1 : wF c on = true := by simp [wF, h0]
        have e2 : vF c on = on := by simp [vF, h0]
        rw [if_pos e1, e2] at h3
        simp only [h0, beq_self_eq_true, if_true]
        exact ih _ h3
      · have b0 : (c.Kind == 0) = false := by simpa using h0
        rw [b0, if_neg (by simp)]
        by_cases h1k : c.Kind = 1
        · have e1 : wF c on = true := by simp [wF, h1k]
          have e2 : vF c on = !on := by simp [vF, h1k]
          rw [if_pos e1, e2] at h3
          have b1 : (c.Kind == 1) = true := by simpa using h1k
          have b2 : (c.Kind == 2) = false := by simp [h1k]
          have := ih _ h3
          cases on <;> simp only [b1, b2, if_true, Bool.false_eq_true, if_false] <;> exact this
        · have b1 : (c.Kind == 1) = false := by simpa using h1k
          have e1 : wF c on = on := by simp [wF, h0, h1k]
          rw [e1] at h3
          cases on with
          | false =>
            simp only [b1, Bool.false_eq_true, if_false] at h3 ⊢
            exact ih _ h3
          | true =>
            by_cases h2k : c.Kind = 2
            · have b2 : (c.Kind == 2) = true := by simpa using h2k
              have e2 : vF c true = true := by simp [vF, h2k]
              rw [if_pos rfl, e2] at h3
              simp only [b2, if_true]
              exact ih _ h3
            · have b2 : (c.Kind == 2) = false := by simpa using h2k
              have e2 : vF c true = false := by simp [vF, h0, h1k, h2k]
              rw [if_pos rfl, e2] at h3
              simp only [b1, b2, if_true, Bool.false_eq_true, if_false]
              exact ih _ h3
    · have hge : ¬ (i : Int) < r.Coils.length := by omega
      rw [List.drop_eq_nil_of_le (by omega)] at h3
      simp only [foldM] at h3
      subst h3
      simp only [hge, decide_false, Bool.false_eq_true, if_false]
      exact hfin
end

theorem last_law (r : ApiRung) (st : ApiState) (on : Bool) (hn : r.Contacts.length ≤ 1500000) : law16_RungevalLastCoilWins 2000000 r st on = some true := by
  obtain ⟨a, ha, ha2⟩ := tl12 r hn
  obtain ⟨d, hd, hd2⟩ := tl03 st
  unfold law16_RungevalLastCoilWins
  rw [ha]
  simp only [Option.bind_some, hd, alive16]
  by_cases h1 : a > 0
  · simp [h1]
  · by_cases h2 : (r.Coils.length : Int) > 100
    · simp [h1, h2]
    · by_cases h3 : d > 0
      · simp [h1, h2, h3]
      · have hs := hd2 h3
        have hC := rungeval_Coils_eq 2000000 r st on (by omega) (hs.small (by omega)) (by omega)
        have f1 : decide (a > 0) = false := by simpa using h1
        have f2 : decide ((r.Coils.length : Int) > 100) = false := by simpa using h2
        have f3 : decide (d > 0) = false := by simpa using h3
        rw [f1, f2, f3, hC]
        simp only [Bool.false_eq_true, if_false, Option.bind_some]
        by_cases he : (coilsS r.Coils st on).2 = 0
        · obtain ⟨_, g2, g3, g4⟩ := coilsS_ok on on r.Coils st st (same.refl _) he
          have hle := coilsS_leS 1000 on r.Coils st hs
          rw [he]
          simp only [bne_self_eq_false, Bool.false_eq_true, if_false]
          have h3' := last_loop3 st (coilsS r.Coils st on).1 (foldM on r.Coils []) g2 g3 hs hle (fun sp i h => by
            rw [g4 sp i h, foldM_get, lastW_or]; rfl)
          have := last_loop5 r st (coilsS r.Coils st on).1 on 2000000 (by
            unfold law16_RungevalLastCoilWins_J1
            simp only [Option.bind_some]
            exact h3') (by omega) 2000000 0 [] (Nat.zero_le _) (by omega) rfl
          rw [Int.natCast_zero] at this
          exact this
        · have hb : ((coilsS r.Coils st on).2 != 0) = true := by simpa using he
          simp only [hb, if_true]

end Go.G

/- The law of edges: a second scan finds no edge. -/
import Derived.Test.YtgbgmijighbfbaaP4
set_option linter.unusedSimpArgs false
set_option linter.unusedVariables false
set_option linter.unusedSectionVars false
namespace Go.G
open Go.Av

def same (a b : ApiState) : Prop := a.Q.length = b.Q.length ∧ a.M.length = b.M.length
def bit (st : ApiState) (sp : Int) (i : Nat) : Option Bool := if sp = 1 then st.Q[i]? else st.M[i]?
def vF (c : ApiCoil) (on : Bool) : Bool := if c.Kind = 0 then on else if c.Kind = 1 then !on else if c.Kind = 2 then true else false
def wF (c : ApiCoil) (on : Bool) : Bool := if c.Kind = 0 ∨ c.Kind = 1 then true else on
def lastW (on : Bool) : List ApiCoil → Int → Nat → Option Bool → Option Bool
  | [], _, _, d => d
  | c :: cs, sp, i, d => lastW on cs sp i (if c.A.Space = sp ∧ c.A.N = i ∧ wF c on = true then some (vF c on) else d)

theorem coilsS_cons (c : ApiCoil) (cs : List ApiCoil) (st : ApiState) (on : Bool) : coilsS (c :: cs) st on =
    if c.Kind < 0 ∨ 4 ≤ c.Kind then (noState, 8) else if (writeS st c.A (vF c on)).2 ≠ 0 then (noState, (writeS st c.A (vF c on)).2) else coilsS cs (if wF c on then (writeS st c.A (vF c on)).1 else st) on := rfl

theorem writeS_same {a b : ApiState} (h : same a b) (x : ApiAddr) (v w : Bool) (h0 : (writeS a x v).2 = 0) : (writeS b x w).2 = 0 ∧ same a (writeS a x v).1 ∧ (writeS a x v).1.E = a.E ∧
    (∀ sp i, (sp = 1 ∨ sp = 2) → bit (writeS a x v).1 sp i = if x.Space = sp ∧ x.N = i then some v else bit a sp i) := by
  unfold writeS at h0 ⊢
  by_cases h1 : x.Space = 1
  · simp only [h1, if_true] at h0 ⊢
    by_cases h2 : 0 ≤ x.N ∧ x.N < a.Q.length
    · have h3 : 0 ≤ x.N ∧ x.N < b.Q.length := by have := h.1; omega
      rw [if_pos h2, if_pos h3]
      refine ⟨rfl, ⟨by simp, rfl⟩, rfl, fun sp i hsp => ?_⟩
      unfold bit
      rcases hsp with e | e <;> subst e
      · simp only [if_true, true_and, List.getElem?_set]
        have : x.N.toNat < a.Q.length := by omega
        by_cases hn : x.N = i
        · have : x.N.toNat = i := by omega
          simp [hn, this]; omega
        · have : ¬ x.N.toNat = i := by omega
          simp [hn, this]
      · simp
    · simp [h2] at h0
  · by_cases h1 : x.Space = 2
    · simp only [h1, if_true] at h0 ⊢
      rw [if_neg (by omega)] at h0 ⊢
      by_cases h2 : 0 ≤ x.N ∧ x.N < a.M.length
      · have h3 : 0 ≤ x.N ∧ x.N < b.M.length := by have := h.2; omega
        rw [if_pos h2]
        simp only [if_neg (show ¬ (2 : Int) = 1 by omega), if_pos h3]
        refine ⟨trivial, ⟨rfl, by simp⟩, trivial, fun sp i hsp => ?_⟩
        unfold bit
        rcases hsp with e | e <;> subst e
        · simp
        · simp only [true_and, List.getElem?_set, if_neg (show ¬ (2 : Int) = 1 by omega)]
          by_cases hn : x.N = i
          · have : x.N.toNat = i := by omega
            simp [hn, this]; omega
          · have : ¬ x.N.toNat = i := by omega
            simp [hn, this]
      · simp [h2] at h0
    · simp [*] at h0

theorem same.refl (a : ApiState) : same a a := ⟨rfl, rfl⟩
theorem same.symm {a b : ApiState} (h : same a b) : same b a := ⟨h.1.symm, h.2.symm⟩
theorem same.trans {a b c : ApiState} (h : same a b) (g : same b c) : same a c := ⟨h.1.trans g.1, h.2.trans g.2⟩

theorem coilsS_ok (on on2 : Bool) : ∀ (cs : List ApiCoil) (a b : ApiState), same a b → (coilsS cs a on).2 = 0 →
    (coilsS cs b on2).2 = 0 ∧ same a (coilsS cs a on).1 ∧ (coilsS cs a on).1.E = a.E ∧ (∀ sp i, (sp = 1 ∨ sp = 2) → bit (coilsS cs a on).1 sp i = lastW on cs sp i (bit a sp i))
  | [], a, b, h, h0 => ⟨rfl, same.refl _, rfl, fun _ _ _ => rfl⟩
  | c :: cs, a, b, h, h0 => by
    rw [coilsS_cons] at h0 ⊢
    rw [coilsS_cons]
    by_cases hk : c.Kind < 0 ∨ 4 ≤ c.Kind
    · rw [if_pos hk] at h0; simp at h0
    · rw [if_neg hk] at h0
      rw [if_neg hk, if_neg hk]
      by_cases hw : (writeS a c.A (vF c on)).2 = 0
      · obtain ⟨g1, g2, g3, g4⟩ := writeS_same h c.A (vF c on) (vF c on2) hw
        obtain ⟨_, q2, q3, q4⟩ := writeS_same h.symm c.A (vF c on2) (vF c on2) g1
        rw [if_neg (by simp [hw])] at h0
        rw [if_neg (show ¬ (writeS a c.A (vF c on)).2 ≠ 0 from not_not_intro hw), if_neg (show ¬ (writeS b c.A (vF c on2)).2 ≠ 0 from not_not_intro g1)]
        have hs : same (if wF c on then (writeS a c.A (vF c on)).1 else a) (if wF c on2 then (writeS b c.A (vF c on2)).1 else b) := by
          split <;> split
          · exact g2.symm.trans (h.trans q2)
          · exact g2.symm.trans h
          · exact h.trans q2
          · exact h
        obtain ⟨r1, r2, r3, r4⟩ := coilsS_ok on on2 cs _ _ hs h0
        refine ⟨r1, ?_, ?_, fun sp i hsp => ?_⟩
        · refine same.trans ?_ r2
          split
          · exact g2
          · exact same.refl _
        · rw [r3]; split
          · exact g3
          · rfl
        · rw [r4 sp i hsp]
          show _ = lastW on cs sp i _
          congr 1
          by_cases hwf : wF c on = true
          · rw [if_pos hwf, g4 sp i hsp]; simp [hwf]
          · rw [if_neg hwf]; simp [hwf]
      · rw [if_pos hw] at h0; exact absurd h0 hw

theorem lastW_two (on : Bool) (sp : Int) (i : Nat) : ∀ cs : List ApiCoil, (∀ d, lastW on cs sp i d = d) ∨ (∀ d d', lastW on cs sp i d = lastW on cs sp i d')
  | [] => .inl fun _ => rfl
  | c :: cs => by
    rcases lastW_two on sp i cs with h | h
    · by_cases hc : c.A.Space = sp ∧ c.A.N = i ∧ wF c on = true
      · exact .inr fun d d' => by simp only [lastW, if_pos hc]
      · exact .inl fun d => by simp only [lastW, if_neg hc, h]
    · exact .inr fun d d' => h _ _
theorem lastW_idem (on : Bool) (sp : Int) (i : Nat) (cs : List ApiCoil) (d : Option Bool) : lastW on cs sp i (lastW on cs sp i d) = lastW on cs sp i d := by
  rcases lastW_two on sp i cs with h | h
  · exact h _
  · exact h _ _
theorem lastW_none (on : Bool) (sp : Int) (i : Nat) (d : Option Bool) : ∀ cs : List ApiCoil, (∀ c ∈ cs, ¬ (c.A.Space = sp ∧ c.A.N = i)) → lastW on cs sp i d = d
  | [], _ => rfl
  | c :: cs, h => by
    have := h c (by simp)
    simp only [lastW]
    rw [if_neg (fun g => this ⟨g.1, g.2.1⟩)]
    exact lastW_none on sp i d cs fun x hx => h x (by simp [hx])

theorem state_ext {a b : ApiState} (h1 : ∀ sp i, (sp = 1 ∨ sp = 2) → bit a sp i = bit b sp i) (h2 : a.E = b.E) : a = b := by
  cases a; cases b
  simp only at h2
  subst h2
  congr 1
  · exact List.ext_getElem? fun i => by simpa [bit] using h1 1 i (.inl rfl)
  · exact List.ext_getElem? fun i => by simpa [bit] using h1 2 i (.inr rfl)

theorem coilsS_idem (on : Bool) (cs : List ApiCoil) (a : ApiState) (h0 : (coilsS cs a on).2 = 0) : coilsS cs (coilsS cs a on).1 on = ((coilsS cs a on).1, 0) := by
  obtain ⟨_, g2, g3, g4⟩ := coilsS_ok on on cs a a (same.refl _) h0
  obtain ⟨k1, _, _, _⟩ := coilsS_ok on on cs a _ g2 h0
  obtain ⟨_, q2, q3, q4⟩ := coilsS_ok on on cs _ a g2.symm k1
  refine Prod.ext ?_ k1
  exact state_ext (fun sp i h => by rw [q4 sp i h, g4 sp i h, lastW_idem]) q3

theorem readS_same (ins : List Bool) (a b : ApiState) (x : ApiAddr) (h : ∀ i : Nat, x.N = i → (x.Space = 1 ∨ x.Space = 2) → bit a x.Space i = bit b x.Space i) : readS ins a x = readS ins b x := by
  unfold readS
  split
  · rfl
  · have key : ∀ l m : List Bool, (∀ i : Nat, x.N = i → l[i]? = m[i]?) → getS l x.N = getS m x.N := by
      intro l m hlm
      unfold getS atI
      by_cases hn : 0 ≤ x.N
      · rw [if_pos hn, if_pos hn, hlm x.N.toNat (by omega)]
      · rw [if_neg hn, if_neg hn]
    split
    · rename_i h1
      exact key _ _ fun i hi => by have := h i hi (.inl h1); simpa [bit, h1] using this
    · split
      · rename_i h1
        exact key _ _ fun i hi => by have := h i hi (.inr h1); simpa [bit, h1] using this
      · rfl

def on2 (ins : List Bool) (st : ApiState) (cs : List ApiContact) : List Bool := cs.map fun c => if seesS c then false else condS c.Kind (readS ins st c.A).1 false

theorem contacts_again (ins : List Bool) (st st2 : ApiState) : ∀ (cs : List ApiContact) (slot : Int) (e acc acc2 : List Bool), 0 ≤ slot → (∀ c ∈ cs, readS ins st2 c.A = readS ins st c.A) → (contactsS ins st cs slot e acc).2.2 = 0 →
    (contactsS ins st cs slot e acc).2.1.E.length = e.length ∧ (∀ j : Nat, (j : Int) < slot → (contactsS ins st cs slot e acc).2.1.E[j]? = e[j]?) ∧ (∀ c ∈ cs, 0 ≤ c.Kind ∧ c.Kind < 4) ∧
    contactsS ins st2 cs slot (contactsS ins st cs slot e acc).2.1.E acc2 = (acc2 ++ on2 ins st cs, ⟨st2.Q, st2.M, (contactsS ins st cs slot e acc).2.1.E⟩, 0)
  | [], slot, e, acc, acc2, h, hr, h0 => ⟨rfl, fun _ _ => rfl, fun c h => by simp at h, by simp [contactsS, on2]⟩
  | c :: cs, slot, e, acc, acc2, h, hr, h0 => by
    unfold contactsS at h0
    by_cases hk : c.Kind < 0 ∨ 4 ≤ c.Kind
    · rw [if_pos hk] at h0; simp at h0
    · rw [if_neg hk] at h0
      by_cases her : (readS ins st c.A).2 = 0
      · rw [if_neg (by simp [her])] at h0
        have hr2 := hr c (by simp)
        by_cases hse : seesS c = true
        · rw [if_pos hse] at h0
          by_cases hsl : slot < 0 ∨ (e.length : Int) ≤ slot
          · rw [if_pos hsl] at h0; simp at h0
          · rw [if_neg hsl] at h0
            obtain ⟨g1, g2, g3, g4⟩ := contacts_again ins st st2 cs (slot + 1) _ _ (acc2 ++ [false]) (by omega) (fun x hx => hr x (by simp [hx])) h0
            have hun : contactsS ins st (c :: cs) slot e acc = contactsS ins st cs (slot + 1) (e.set slot.toNat (readS ins st c.A).1) (acc ++ [condS c.Kind (readS ins st c.A).1 (e[slot.toNat]?.getD false)]) := by
              rw [contactsS, if_neg hk, if_neg (by simp [her]), if_pos hse, if_neg hsl]
            rw [hun]
            generalize (contactsS ins st cs (slot + 1) (e.set slot.toNat (readS ins st c.A).1) (acc ++ [condS c.Kind (readS ins st c.A).1 (e[slot.toNat]?.getD false)])).2.1.E = e' at g1 g2 g4 ⊢
            have hat : e'[slot.toNat]? = some (readS ins st c.A).1 := by
              rw [g2 _ (by omega), List.getElem?_set]
              have : slot.toNat < e.length := by omega
              simp [this]
            have hset : e'.set slot.toNat (readS ins st c.A).1 = e' := by
              apply List.ext_getElem?
              intro j
              rw [List.getElem?_set]
              by_cases hj : slot.toNat = j
              · subst hj
                have : slot.toNat < e'.length := get_lt hat
                rw [if_pos rfl, if_pos this, hat]
              · rw [if_neg hj]
            have hcond : condS c.Kind (readS ins st c.A).1 (readS ins st c.A).1 = false := by
              unfold condS
              unfold seesS at hse
              simp at hse
              rcases hse with q | q <;> simp [q]
            refine ⟨by simpa using g1, fun j hj => ?_, fun x hx => ?_, ?_⟩
            · rw [g2 j (by omega), List.getElem?_set_ne (by omega)]
            · rcases List.mem_cons.1 hx with q | q
              · subst q; omega
              · exact g3 x q
            · have hsl2 : ¬ (slot < 0 ∨ (e'.length : Int) ≤ slot) := by simp at g1; omega
              rw [contactsS, if_neg hk, hr2, if_neg (by simp [her]), if_pos hse, if_neg hsl2, hset, hat]
              simp only [Option.getD_some, hcond]
              rw [g4]
              simp [on2, hse]
        · rw [if_neg hse] at h0
          obtain ⟨g1, g2, g3, g4⟩ := contacts_again ins st st2 cs slot _ _ (acc2 ++ [condS c.Kind (readS ins st c.A).1 false]) h (fun x hx => hr x (by simp [hx])) h0
          have hun : contactsS ins st (c :: cs) slot e acc = contactsS ins st cs slot e (acc ++ [condS c.Kind (readS ins st c.A).1 false]) := by
            rw [contactsS, if_neg hk, if_neg (by simp [her]), if_neg hse]
          rw [hun]
          refine ⟨g1, g2, fun x hx => ?_, ?_⟩
          · rcases List.mem_cons.1 hx with q | q
            · subst q; omega
            · exact g3 x q
          · rw [contactsS, if_neg hk, hr2, if_neg (by simp [her]), if_neg hse, g4]
            simp [on2, hse]
      · rw [if_pos (by simpa using her)] at h0; exact absurd h0 her

end Go.G

/- Small lemmas on the words of models. -/
import Derived.Test.YtfghchpnolfllaaGMod
import Derived.Laws.RangeAny
set_option linter.unusedSimpArgs false
set_option linter.unusedVariables false
set_option linter.unusedSectionVars false
namespace Go.G
open Go.Av

theorem atI_nat {α : Type} (l : List α) (i : Nat) : atI l (i : Int) = l[i]? := by simp [atI]
theorem atI_get {α : Type} {l : List α} {k : Int} (h0 : 0 ≤ k) (h1 : k < l.length) : ∃ x, l[k.toNat]? = some x ∧ atI l k = some x := by
  have : k.toNat < l.length := by omega
  exact ⟨l[k.toNat], List.getElem?_eq_getElem this, by simp [atI, h0]⟩
theorem wrapN {i : Nat} (h : i ≤ 1000000000000) : IntKind.i64.wrap ((i : Int) + 1) = ((i + 1 : Nat) : Int) := by rw [IntKind.wrap_i64]; omega
theorem wrapI {i : Int} (h0 : -4611686018427387904 ≤ i) (h : i ≤ 9223372036854775807) : IntKind.i64.wrap i = i := by rw [IntKind.wrap_i64]; omega
theorem get_ex {α : Type} {l : List α} {i : Nat} (h : i < l.length) : ∃ x, l[i]? = some x := ⟨l[i], List.getElem?_eq_getElem h⟩
theorem drop_cons {α : Type} {l : List α} {i : Nat} {x : α} (h : l[i]? = some x) : l.drop i = x :: l.drop (i + 1) := by
  obtain ⟨hi, e⟩ := List.getElem?_eq_some_iff.1 h
  rw [List.drop_eq_getElem_cons hi, e]

/-- A bit of an image. -/
def getS (l : List Bool) (i : Int) : Bool × Int := match atI l i with | some x => (x, 0) | none => (false, 3)
theorem atI_none {α : Type} {l : List α} {k : Int} (h : ¬ (0 ≤ k ∧ k < l.length)) : atI l k = none := by
  unfold atI; split
  · rw [List.getElem?_eq_none]; omega
  · rfl
def readS (ins : List Bool) (st : ApiState) (a : ApiAddr) : Bool × Int :=
  if a.Space = 0 then getS ins a.N else if a.Space = 1 then getS st.Q a.N else if a.Space = 2 then getS st.M a.N else (false, 8)
def noState : ApiState := ⟨[], [], []⟩
def writeS (st : ApiState) (a : ApiAddr) (v : Bool) : ApiState × Int :=
  if a.Space = 1 then (if 0 ≤ a.N ∧ a.N < st.Q.length then (⟨st.Q.set a.N.toNat v, st.M, st.E⟩, 0) else (noState, 3))
  else if a.Space = 2 then (if 0 ≤ a.N ∧ a.N < st.M.length then (⟨st.Q, st.M.set a.N.toNat v, st.E⟩, 0) else (noState, 3))
  else (noState, 8)

def small (st : ApiState) : Prop := st.Q.length ≤ 1000000000 ∧ st.M.length ≤ 1000000000 ∧ st.E.length ≤ 1000000000

theorem image_is_eq (n : Nat) (l : List Bool) (i : Int) : image_is n l i = some (decide (0 ≤ i) && decide (i < l.length)) := by
  unfold image_is
  by_cases h : 0 ≤ i <;> simp [h]

theorem image_Get_eq (n : Nat) (l : List Bool) (i : Int) : image_Get n l i = some (getS l i) := by
  unfold image_Get getS
  rw [image_is_eq]
  by_cases h : 0 ≤ i ∧ i < l.length
  · obtain ⟨x, h1, h2⟩ := atI_get h.1 h.2
    simp [h, h2]
  · have : (decide (0 ≤ i) && decide (i < (l.length : Int))) = false := by simp; omega
    simp [this, atI_none h]

theorem clone_eq (n : Nat) (l : List Bool) (h : l.length ≤ 1000000000) : slices_Clone_bool n l = some l := by
  unfold slices_Clone_bool isnilM
  cases l <;> simp_all

theorem clone_o0_eq (n : Nat) (l : List Bool) (h : l.length ≤ 1000000000) : slices_Clone_bool_o0 n l = some l := by
  unfold slices_Clone_bool_o0 isnilM
  cases l <;> simp_all

theorem image_Set_eq (n : Nat) (l : List Bool) (i : Int) (v : Bool) (h : l.length ≤ 1000000000) : image_Set n l i v = some (if 0 ≤ i ∧ i < l.length then (l.set i.toNat v, 0) else ([], 3)) := by
  unfold image_Set
  rw [image_is_eq]
  by_cases hi : 0 ≤ i ∧ i < l.length
  · obtain ⟨x, h1, h2⟩ := atI_get hi.1 hi.2
    have h3 : (l.length : Int) ≤ 1000000000 := by omega
    simp [hi, h3, h2]
  · have : (decide (0 ≤ i) && decide (i < (l.length : Int))) = false := by simp; omega
    simp [this, hi]

theorem state_Read_eq (n : Nat) (ins : List Bool) (st : ApiState) (a : ApiAddr) : state_Read n ins st a = some (readS ins st a) := by
  unfold state_Read readS
  by_cases h0 : a.Space < 0
  · have : ¬ a.Space = 0 ∧ ¬ a.Space = 1 ∧ ¬ a.Space = 2 := by omega
    simp [h0, this]
  · by_cases h3 : 3 ≤ a.Space
    · have : ¬ a.Space = 0 ∧ ¬ a.Space = 1 ∧ ¬ a.Space = 2 := by omega
      simp [h0, h3, this]
    · rcases (show a.Space = 0 ∨ a.Space = 1 ∨ a.Space = 2 by omega) with h | h | h <;> simp [h, image_Get_eq]

theorem ref03_Read_eq (n : Nat) (ins : List Bool) (st : ApiState) (a : ApiAddr) : ref03_Read n ins st a = some (readS ins st a) := by
  have core : ∀ l, ref03_Read_J1 a l = some (getS l a.N) := by
    intro l
    unfold ref03_Read_J1 getS
    by_cases h : 0 ≤ a.N ∧ a.N < l.length
    · obtain ⟨x, h1, h2⟩ := atI_get h.1 h.2
      have : ¬ a.N < 0 ∧ ¬ (l.length : Int) ≤ a.N := by omega
      simp [h2, this]
    · by_cases h0 : a.N < 0
      · simp [h0, atI_none h]
      · have : (l.length : Int) ≤ a.N := by omega
        simp [h0, this, atI_none h]
  unfold ref03_Read readS
  simp only [core]
  by_cases h0 : a.Space = 0
  · simp [h0]
  · by_cases h1 : a.Space = 1
    · simp [h1]
    · by_cases h2 : a.Space = 2
      · simp [h2]
      · simp [h0, h1, h2]

theorem state_Clone_eq (n : Nat) (st : ApiState) (h : small st) : state_Clone n st = some st := by
  unfold state_Clone
  rw [clone_eq _ _ h.1, clone_eq _ _ h.2.1, clone_eq _ _ h.2.2]; rfl
theorem state_Clone_o2_eq (n : Nat) (st : ApiState) (h : small st) : state_Clone_o2 n st = some st := by
  unfold state_Clone_o2
  rw [clone_eq _ _ h.1, clone_eq _ _ h.2.1, clone_o0_eq _ _ h.2.2]; rfl
theorem ref03_Clone_eq (n : Nat) (st : ApiState) (h : small st) : ref03_Clone n st = some st := by
  unfold ref03_Clone; simp [h.1, h.2.1, h.2.2]
theorem ref03_Clone_o0_1_eq (n : Nat) (st : ApiState) (h : small st) : ref03_Clone_o0_1 n st = some st := by
  unfold ref03_Clone_o0_1; simp [h.1, h.2.1, h.2.2]

theorem state_Write_eq (n : Nat) (st : ApiState) (a : ApiAddr) (v : Bool) (h : small st) : state_Write n st a v = some (writeS st a v) := by
  unfold state_Write writeS noState
  rw [state_Clone_eq _ _ h, image_Set_eq _ _ _ _ h.1, image_Set_eq _ _ _ _ h.2.1]
  by_cases h1 : a.Space = 1
  · by_cases hi : 0 ≤ a.N ∧ a.N < st.Q.length
    · simp [h1, hi, state_Write_J1]
    · simp [h1, hi, state_Write_J1]
  · by_cases h2 : a.Space = 2
    · by_cases hi : 0 ≤ a.N ∧ a.N < st.M.length
      · simp [h2, hi, state_Write_J1]
      · simp [h2, hi, state_Write_J1]
    · simp [h1, h2, state_Write_J1]

theorem ref03_Write_eq (n : Nat) (st : ApiState) (a : ApiAddr) (v : Bool) (h : small st) : ref03_Write n st a v = some (writeS st a v) := by
  unfold ref03_Write writeS noState
  rw [ref03_Clone_o0_1_eq _ _ h]
  by_cases h1 : a.Space = 1
  · by_cases hi : 0 ≤ a.N ∧ a.N < st.Q.length
    · obtain ⟨x, _, h4⟩ := atI_get hi.1 hi.2
      have : ¬ a.N < 0 ∧ ¬ (st.Q.length : Int) ≤ a.N := by omega
      simp [h1, hi, h4, this]
    · by_cases h0 : a.N < 0
      · simp [h1, h0, hi]
      · have : (st.Q.length : Int) ≤ a.N := by omega
        simp [h1, h0, this, hi]
  · by_cases h2 : a.Space = 2
    · by_cases hi : 0 ≤ a.N ∧ a.N < st.M.length
      · obtain ⟨x, _, h4⟩ := atI_get hi.1 hi.2
        have : ¬ a.N < 0 ∧ ¬ (st.M.length : Int) ≤ a.N := by omega
        simp [h2, hi, h4, this]
      · by_cases h0 : a.N < 0
        · simp [h2, h0, hi]
        · have : (st.M.length : Int) ≤ a.N := by omega
          simp [h2, h0, this, hi]
    · simp [h1, h2]

/-! ### comparing -/

theorem eqL_bool (a b : List Bool) (hl : a.length = b.length) (hb : b.length ≤ 1000000000) : ∀ (k i : Nat), i ≤ a.length → a.length - i < k →
    ref02_Equal_L1 a b k i = some (decide (a.drop i = b.drop i)) ∧ slices_Equal_bool_L1 a b k i = some (decide (a.drop i = b.drop i))
  | 0, i, h1, h2 => by omega
  | k + 1, i, h1, h2 => by
    unfold ref02_Equal_L1 slices_Equal_bool_L1
    by_cases hi : i < a.length
    · obtain ⟨x, hx⟩ := get_ex hi
      obtain ⟨y, hy⟩ := get_ex (l := b) (i := i) (by omega)
      obtain ⟨ih1, ih2⟩ := eqL_bool a b hl hb k (i + 1) (by omega) (by omega)
      have hlt : (i : Int) < a.length := by omega
      have hw := wrapN (i := i) (by omega)
      simp only [atI_nat, hx, hy, hlt, decide_true, if_true, Option.bind_some, hw, ih1, ih2, drop_cons hx, drop_cons hy, List.cons.injEq]
      by_cases e : x = y <;> simp [e]
    · have hge : ¬ (i : Int) < a.length := by omega
      simp [hge, List.drop_eq_nil_of_le (show a.length ≤ i by omega), List.drop_eq_nil_of_le (show b.length ≤ i by omega)]

theorem ref02_Equal_eq (n : Nat) (a b : List Bool) (h : a.length < n) (hb : b.length ≤ 1000000000) : ref02_Equal n a b = some (decide (a = b)) := by
  unfold ref02_Equal
  by_cases hl : a.length = b.length
  · have := (eqL_bool a b hl hb n 0 (Nat.zero_le _) (by omega)).1
    simp [hl] at this ⊢
    exact this
  · have : a ≠ b := fun e => hl (by rw [e])
    have h2 : ((a.length : Int) != (b.length : Int)) = true := by simp; omega
    simp [this, h2]

theorem slices_Equal_eq (n : Nat) (a b : List Bool) (h : a.length < n) (hb : b.length ≤ 1000000000) : slices_Equal_bool n a b = some (decide (a = b)) := by
  unfold slices_Equal_bool
  by_cases hl : a.length = b.length
  · have := (eqL_bool a b hl hb n 0 (Nat.zero_le _) (by omega)).2
    simp [hl] at this ⊢
    exact this
  · have : a ≠ b := fun e => hl (by rw [e])
    have h2 : ((a.length : Int) != (b.length : Int)) = true := by simp; omega
    simp [this, h2]

theorem ref03_Equal_eq (n : Nat) (a b : ApiState) (h1 : a.Q.length < n ∧ a.M.length < n ∧ a.E.length < n) (hb : small b) : ref03_Equal n a b = some (decide (a = b)) := by
  unfold ref03_Equal
  rw [ref02_Equal_eq _ _ _ h1.1 hb.1, ref02_Equal_eq _ _ _ h1.2.1 hb.2.1, ref02_Equal_eq _ _ _ h1.2.2 hb.2.2]
  cases a; cases b
  simp only [ApiState.mk.injEq]
  simp only [Option.bind_some, decide_eq_true_eq]
  split
  · split
    · rename_i e1 e2; simp [e1, e2]
    · rename_i e1 e2; simp [e2]
  · rename_i e1; simp [e1]

end Go.G

namespace Go.G
open Go.Av

def coilsS : List ApiCoil → ApiState → Bool → ApiState × Int
  | [], st, _ => (st, 0)
  | c :: cs, st, on =>
    if c.Kind < 0 ∨ 4 ≤ c.Kind then (noState, 8)
    else
      let v := if c.Kind = 0 then on else if c.Kind = 1 then !on else if c.Kind = 2 then true else false
      let w := if c.Kind = 0 ∨ c.Kind = 1 then true else on
      if (writeS st c.A v).2 ≠ 0 then (noState, (writeS st c.A v).2)
      else coilsS cs (if w then (writeS st c.A v).1 else st) on

theorem writes_eq (n : Nat) (k : Int) (on : Bool) (h0 : 0 ≤ k) (h1 : k < 4) : rungeval_writes n k on = some (if k = 0 then on else if k = 1 then !on else if k = 2 then true else false, if k = 0 ∨ k = 1 then true else on) := by
  unfold rungeval_writes
  rcases (show k = 0 ∨ k = 1 ∨ k = 2 ∨ k = 3 by omega) with h | h | h | h <;> simp [h]

theorem small_write {st : ApiState} (h : small st) (a : ApiAddr) (v : Bool) (he : (writeS st a v).2 = 0) : small (writeS st a v).1 := by
  unfold writeS at he ⊢
  split
  · split
    · exact ⟨by simpa using h.1, h.2.1, h.2.2⟩
    · rename_i h1 h2; simp [h1, h2] at he
  · split
    · split
      · exact ⟨h.1, by simpa using h.2.1, h.2.2⟩
      · rename_i h1 h2 h3; simp [h2, h3] at he
    · rename_i h1 h2; simp [h1, h2] at he

theorem coils_loop (n : Nat) (r : ApiRung) (on : Bool) (hn : r.Coils.length ≤ 1000000000) : ∀ (k i : Nat) (st : ApiState), small st → i ≤ r.Coils.length → r.Coils.length - i < k →
    rungeval_Coils_L1 n r on k i st.Q st.M st.E = some (coilsS (r.Coils.drop i) st on)
  | 0, i, st, hs, h1, h2 => by omega
  | k + 1, i, st, hs, h1, h2 => by
    unfold rungeval_Coils_L1
    by_cases hi : i < r.Coils.length
    · obtain ⟨c, hc⟩ := get_ex hi
      have hlt : (i : Int) < r.Coils.length := by omega
      have hw := wrapN (i := i) (by omega)
      rw [drop_cons hc]
      simp only [atI_nat, hc, hlt, decide_true, if_true, Option.bind_some, hw, coilsS]
      by_cases hk0 : c.Kind < 0
      · simp [hk0, noState]
      · by_cases hk4 : 4 ≤ c.Kind
        · simp [hk0, hk4, noState]
        · have hor : ¬ (c.Kind < 0 ∨ 4 ≤ c.Kind) := by omega
          rw [if_neg (by simpa using hk0), if_neg (by simpa using hk4), if_neg hor, writes_eq _ _ _ (by omega) (by omega), Option.bind_some, state_Write_eq _ _ _ _ hs]
          simp only [Option.bind_some]
          generalize hv : (if c.Kind = 0 then on else if c.Kind = 1 then !on else if c.Kind = 2 then true else false) = v
          generalize hw' : (if c.Kind = 0 ∨ c.Kind = 1 then true else on) = w
          by_cases he : (writeS st c.A v).2 = 0
          · have ih1 := coils_loop n r on hn k (i + 1) (writeS st c.A v).1 (small_write hs _ _ he) (by omega) (by omega)
            have ih2 := coils_loop n r on hn k (i + 1) st hs (by omega) (by omega)
            have hb : ((writeS st c.A v).2 != 0) = false := by simpa using he
            simp only [hb, he, ne_eq, not_true, if_false, Bool.false_eq_true]
            cases w
            · simpa using ih2
            · simpa using ih1
          · have hb : ((writeS st c.A v).2 != 0) = true := by simpa using he
            simp only [hb, he, ne_eq, not_false_iff, if_true]; rfl
    · have hge : ¬ (i : Int) < r.Coils.length := by omega
      simp [hge, List.drop_eq_nil_of_le (show r.Coils.length ≤ i by omega), coilsS]

theorem ref_coils_loop (n : Nat) (r : ApiRung) (on : Bool) (hn : r.Coils.length ≤ 1000000000) : ∀ (k i : Nat) (st : ApiState), small st → i ≤ r.Coils.length → r.Coils.length - i < k →
    ref16_Coils_L1 n r on k st.Q st.M st.E i = some (coilsS (r.Coils.drop i) st on)
  | 0, i, st, hs, h1, h2 => by omega
  | k + 1, i, st, hs, h1, h2 => by
    unfold ref16_Coils_L1
    by_cases hi : i < r.Coils.length
    · obtain ⟨c, hc⟩ := get_ex hi
      have hlt : (i : Int) < r.Coils.length := by omega
      have hw := wrapN (i := i) (by omega)
      rw [drop_cons hc]
      simp only [atI_nat, hc, hlt, decide_true, if_true, Option.bind_some, coilsS]
      by_cases hk0 : c.Kind < 0
      · simp [hk0, noState]
      · by_cases hk4 : 3 < c.Kind
        · have : 4 ≤ c.Kind := by omega
          simp [hk0, hk4, noState, this]
        · have hor : ¬ (c.Kind < 0 ∨ 4 ≤ c.Kind) := by omega
          rw [if_neg (by simpa using hk0), if_neg (by simpa using hk4), if_neg hor]
          generalize hv : (if c.Kind = 0 then on else if c.Kind = 1 then !on else if c.Kind = 2 then true else false) = v
          generalize hw' : (if c.Kind = 0 ∨ c.Kind = 1 then true else on) = w
          -- the value that the reference writes; where it is not the program's, nothing is written
          have hJ3 : ∀ u, (u = v ∨ (w = false ∧ ((writeS st c.A u).2 = (writeS st c.A v).2))) → ref16_Coils_J3 n on st.Q st.M st.E i (ref16_Coils_L1 n r on k) c u = some (if (writeS st c.A v).2 ≠ 0 then (noState, (writeS st c.A v).2) else coilsS (r.Coils.drop (i + 1)) (if w then (writeS st c.A v).1 else st) on) := by
            intro u hu
            have e2 : (writeS st c.A u).2 = (writeS st c.A v).2 := by rcases hu with rfl | hu; rfl; exact hu.2
            unfold ref16_Coils_J3
            rw [ref03_Write_eq _ _ _ _ hs]
            simp only [Option.bind_some, hw]
            by_cases he : (writeS st c.A v).2 = 0
            · have ih2 := ref_coils_loop n r on hn k (i + 1) st hs (by omega) (by omega)
              have hb : ((writeS st c.A u).2 != 0) = false := by rw [e2]; simpa using he
              simp only [hb, he, ne_eq, not_true, if_false, Bool.false_eq_true]
              rcases hu with rfl | ⟨hwf, _⟩
              · have ih1 := ref_coils_loop n r on hn k (i + 1) (writeS st c.A u).1 (small_write hs _ _ he) (by omega) (by omega)
                by_cases hk2 : c.Kind < 2
                · have : c.Kind = 0 ∨ c.Kind = 1 := by omega
                  have hwt : w = true := by rw [← hw']; simp [this]
                  simpa [hk2, hwt] using ih1
                · have hn01 : ¬ (c.Kind = 0 ∨ c.Kind = 1) := by omega
                  have hwt : w = on := by rw [← hw']; simp [hn01]
                  subst hwt
                  cases w
                  · simpa [hk2] using ih2
                  · simpa [hk2] using ih1
              · have hn01 : ¬ (c.Kind = 0 ∨ c.Kind = 1) := by intro h; rw [← hw'] at hwf; simp [h] at hwf
                have hk2 : ¬ c.Kind < 2 := by omega
                have hon : on = false := by rw [← hw'] at hwf; simpa [hn01] using hwf
                rw [hon] at ih2 ⊢
                simpa [hk2, hwf] using ih2
            · have hb : ((writeS st c.A v).2 != 0) = true := by simpa using he
              simp only [e2, hb, he, ne_eq, not_false_iff, if_true]; rfl
          have err : ∀ u u', (writeS st c.A u).2 = (writeS st c.A u').2 := by
            intro u u'; unfold writeS; split
            · split <;> rfl
            · split
              · split <;> rfl
              · rfl
          have key : ref16_Coils_J2 n on st.Q st.M st.E i (ref16_Coils_L1 n r on k) c (if c.Kind = 1 then !on else on) = some (if (writeS st c.A v).2 ≠ 0 then (noState, (writeS st c.A v).2) else coilsS (r.Coils.drop (i + 1)) (if w then (writeS st c.A v).1 else st) on) := by
            unfold ref16_Coils_J2
            rcases (show c.Kind = 0 ∨ c.Kind = 1 ∨ c.Kind = 2 ∨ c.Kind = 3 by omega) with h | h | h | h
            · rw [if_neg (by simp [h]), if_neg (by omega)]; exact hJ3 _ (.inl (by rw [← hv]; simp [h]))
            · rw [if_neg (by simp [h]), if_pos h]; exact hJ3 _ (.inl (by rw [← hv]; simp [h]))
            · rw [if_neg (by simp [h]), if_neg (by omega)]
              refine hJ3 _ ?_
              cases hon : on with
              | true => exact .inl (by rw [← hv]; simp [h])
              | false => exact .inr ⟨by rw [← hw', hon]; simp [h], err _ _⟩
            · rw [if_pos (by simp [h])]; exact hJ3 _ (.inl (by rw [← hv]; simp [h]))
          by_cases h1 : c.Kind = 1
          · rw [if_pos (by simpa using h1)]; rw [if_pos h1] at key; exact key
          · rw [if_neg (by simpa using h1)]; rw [if_neg h1] at key; exact key
    · have hge : ¬ (i : Int) < r.Coils.length := by omega
      simp [hge, List.drop_eq_nil_of_le (show r.Coils.length ≤ i by omega), coilsS]

theorem rungeval_Coils_eq (n : Nat) (r : ApiRung) (st : ApiState) (on : Bool) (hn : r.Coils.length ≤ 1000000000) (hs : small st) (h : r.Coils.length < n) : rungeval_Coils n r st on = some (coilsS r.Coils st on) := by
  unfold rungeval_Coils
  rw [state_Clone_eq _ _ hs]
  have := coils_loop n r on hn n 0 st hs (Nat.zero_le _) (by omega)
  simpa using this

theorem ref16_Coils_eq (n : Nat) (r : ApiRung) (st : ApiState) (on : Bool) (hn : r.Coils.length ≤ 1000000000) (hs : small st) (h : r.Coils.length < n) : ref16_Coils n r st on = some (coilsS r.Coils st on) := by
  unfold ref16_Coils
  rw [ref03_Clone_eq _ _ hs]
  have := ref_coils_loop n r on hn n 0 st hs (Nat.zero_le _) (by omega)
  simpa using this

/-! ### edges -/

def seesS (c : ApiContact) : Bool := decide (c.Kind = 2) || decide (c.Kind = 3)
def edges : List ApiContact → Nat
  | [] => 0
  | c :: cs => (if seesS c then 1 else 0) + edges cs

theorem sees_eq (n : Nat) (c : ApiContact) : rungeval_sees n c = some (seesS c) := by
  unfold rungeval_sees seesS
  by_cases h : c.Kind = 2
  · simp [h]
  · by_cases h3 : c.Kind = 3 <;> simp [h, h3]

theorem edges_le (cs : List ApiContact) : edges cs ≤ cs.length := by
  induction cs with
  | nil => exact Nat.le_refl _
  | cons c cs ih => simp only [edges, List.length_cons]; split <;> omega

theorem edge_loop (n : Nat) (r : ApiRung) (hn : r.Contacts.length ≤ 1000000000) : ∀ (k i m : Nat), i ≤ r.Contacts.length → m ≤ i → r.Contacts.length - i < k →
    rungeval_EdgeCount_L1 n r k m i = some ((m + edges (r.Contacts.drop i) : Nat) : Int) ∧ ref16_EdgeCount_L1 r k m i = some ((m + edges (r.Contacts.drop i) : Nat) : Int)
  | 0, i, m, h1, h2, h3 => by omega
  | k + 1, i, m, h1, h2, h3 => by
    unfold rungeval_EdgeCount_L1 ref16_EdgeCount_L1
    by_cases hi : i < r.Contacts.length
    · obtain ⟨c, hc⟩ := get_ex hi
      have hlt : (i : Int) < r.Contacts.length := by omega
      have hw := wrapN (i := i) (by omega)
      have hw2 := wrapN (i := m) (by omega)
      rw [drop_cons hc]
      simp only [atI_nat, hc, hlt, decide_true, if_true, Option.bind_some, hw, hw2, edges, sees_eq]
      have ih0 := edge_loop n r hn k (i + 1) m (by omega) (by omega) (by omega)
      have ih1 := edge_loop n r hn k (i + 1) (m + 1) (by omega) (by omega) (by omega)
      have e1 : ((m + 1 + edges (r.Contacts.drop (i + 1)) : Nat) : Int) = ((m + (1 + edges (r.Contacts.drop (i + 1))) : Nat) : Int) := by omega
      have e0 : ((m + edges (r.Contacts.drop (i + 1)) : Nat) : Int) = ((m + (0 + edges (r.Contacts.drop (i + 1))) : Nat) : Int) := by omega
      rw [e1] at ih1; rw [e0] at ih0
      by_cases h2 : c.Kind = 2
      · simp only [seesS, h2]; exact ⟨ih1.1, ih1.2⟩
      · by_cases h3 : c.Kind = 3
        · simp only [seesS, h3]; exact ⟨ih1.1, ih1.2⟩
        · have h2' : (c.Kind == 2) = false := by simpa using h2
          have h3' : (c.Kind == 3) = false := by simpa using h3
          simp only [seesS, h2, h3, h2', h3']; exact ⟨ih0.1, ih0.2⟩
    · have hge : ¬ (i : Int) < r.Contacts.length := by omega
      simp [hge, List.drop_eq_nil_of_le (show r.Contacts.length ≤ i by omega), edges]

theorem rungeval_EdgeCount_eq (n : Nat) (r : ApiRung) (hn : r.Contacts.length ≤ 1000000000) (h : r.Contacts.length < n) : rungeval_EdgeCount n r = some (edges r.Contacts : Int) := by
  unfold rungeval_EdgeCount
  have := (edge_loop n r hn n 0 0 (Nat.zero_le _) (Nat.le_refl _) (by omega)).1
  simpa using this
theorem ref16_EdgeCount_eq (n : Nat) (r : ApiRung) (hn : r.Contacts.length ≤ 1000000000) (h : r.Contacts.length < n) : ref16_EdgeCount n r = some (edges r.Contacts : Int) := by
  unfold ref16_EdgeCount
  have := (edge_loop n r hn n 0 0 (Nat.zero_le _) (Nat.le_refl _) (by omega)).2
  simpa using this

end Go.G

namespace Go.G
open Go.Av

def condS (kind : Int) (v was : Bool) : Bool := if kind = 0 then v else if kind = 1 then !v else if kind = 2 then v && !was else !v && was

def contactsS (ins : List Bool) (st : ApiState) : List ApiContact → Int → List Bool → List Bool → List Bool × ApiState × Int
  | [], _, e, acc => (acc, ⟨st.Q, st.M, e⟩, 0)
  | c :: cs, slot, e, acc =>
    if c.Kind < 0 ∨ 4 ≤ c.Kind then ([], noState, 8)
    else if (readS ins st c.A).2 ≠ 0 then ([], noState, (readS ins st c.A).2)
    else if seesS c = true then
      if slot < 0 ∨ (e.length : Int) ≤ slot then ([], noState, 3)
      else contactsS ins st cs (slot + 1) (e.set slot.toNat (readS ins st c.A).1) (acc ++ [condS c.Kind (readS ins st c.A).1 (e[slot.toNat]?.getD false)])
    else contactsS ins st cs slot e (acc ++ [condS c.Kind (readS ins st c.A).1 false])

theorem conducting_eq (n : Nat) (k : Int) (v was : Bool) (h0 : 0 ≤ k) (h1 : k < 4) : rungeval_conducting n k v was = some (condS k v was) := by
  unfold rungeval_conducting condS
  rcases (show k = 0 ∨ k = 1 ∨ k = 2 ∨ k = 3 by omega) with h | h | h | h <;> cases v <;> cases was <;> simp [h]

theorem set_mid {α : Type} (acc : List α) (m : Nat) (z v : α) (hm : 0 < m) : (acc ++ List.replicate m z).set acc.length v = (acc ++ [v]) ++ List.replicate (m - 1) z := by
  obtain ⟨m', rfl⟩ : ∃ m', m = m' + 1 := ⟨m - 1, by omega⟩
  rw [List.set_append_right acc.length v (Nat.le_refl _), Nat.sub_self, List.replicate_succ, List.set_cons_zero]
  simp

theorem contacts_loop (n : Nat) (r : ApiRung) (ins : List Bool) (st : ApiState) (hn : r.Contacts.length ≤ 1000000000) : ∀ (k i : Nat) (slot : Int) (e acc : List Bool), i ≤ r.Contacts.length → acc.length = i → r.Contacts.length - i < k → slot ≤ 4611686018427387904 + i →
    rungeval_Contacts_L1 n r ins st st k e (acc ++ List.replicate (r.Contacts.length - i) false) i slot = some (contactsS ins st (r.Contacts.drop i) slot e acc)
  | 0, i, slot, e, acc, h1, h2, h3, h4 => by omega
  | k + 1, i, slot, e, acc, h1, h2, h3, h4 => by
    unfold rungeval_Contacts_L1
    by_cases hi : i < r.Contacts.length
    · obtain ⟨c, hc⟩ := get_ex hi
      have hlt : (i : Int) < r.Contacts.length := by omega
      have hw := wrapN (i := i) (by omega)
      rw [drop_cons hc]
      simp only [atI_nat, hc, hlt, decide_true, if_true, Option.bind_some, contactsS, state_Read_eq, sees_eq]
      generalize hrd : readS ins st c.A = rd
      obtain ⟨v, er⟩ := rd
      by_cases hk0 : c.Kind < 0
      · simp [hk0, noState]
      · by_cases hk4 : 4 ≤ c.Kind
        · simp [hk0, hk4, noState]
        · have hor : ¬ (c.Kind < 0 ∨ 4 ≤ c.Kind) := by omega
          have hJ : ∀ (e' : List Bool) (was : Bool) (slot' : Int), slot' ≤ 4611686018427387904 + ((i + 1 : Nat) : Int) →
              rungeval_Contacts_J2 n (acc ++ List.replicate (r.Contacts.length - i) false) i (rungeval_Contacts_L1 n r ins st st k) c v e' was slot' = some (contactsS ins st (r.Contacts.drop (i + 1)) slot' e' (acc ++ [condS c.Kind v was])) := by
            intro e' was slot' hs'
            unfold rungeval_Contacts_J2
            rw [conducting_eq _ _ _ _ (by omega) (by omega)]
            have hg : (acc ++ List.replicate (r.Contacts.length - i) false)[i]? = some false := by
              rw [List.getElem?_append_right (by omega), h2, Nat.sub_self, List.getElem?_replicate, if_pos (by omega)]
            have hset : (acc ++ List.replicate (r.Contacts.length - i) false).set i (condS c.Kind v was) = (acc ++ [condS c.Kind v was]) ++ List.replicate (r.Contacts.length - (i + 1)) false := by
              rw [← h2, set_mid _ _ _ _ (by omega)]; congr 2
            simp only [Option.bind_some, atI_nat, hg, Int.toNat_natCast, hset, hw]
            exact contacts_loop n r ins st hn k (i + 1) slot' e' _ (by omega) (by simp [h2]) (by omega) hs'
          rw [if_neg (by simpa using hk0), if_neg (by simpa using hk4), if_neg hor]
          by_cases her : er = 0
          · subst her
            simp only [bne_self_eq_false, Bool.false_eq_true, if_false, ne_eq, not_true]
            cases hse : seesS c with
            | false => simp only [Bool.false_eq_true, if_false]; exact hJ _ _ _ (by omega)
            | true =>
              simp only [if_true]
              by_cases hs0 : slot < 0
              · simp [hs0, noState]
              · by_cases hs1 : (e.length : Int) ≤ slot
                · simp [hs0, hs1, noState]
                · obtain ⟨x, hx1, hx2⟩ := atI_get (l := e) (k := slot) (by omega) (by omega)
                  have hor2 : ¬ (slot < 0 ∨ (e.length : Int) ≤ slot) := by omega
                  have hw2 : IntKind.i64.wrap (slot + 1) = slot + 1 := wrapI (by omega) (by omega)
                  rw [if_neg (by simpa using hs0), if_neg (by simpa using hs1), if_neg hor2, hx2]
                  simp only [Option.bind_some, hw2]
                  rw [hJ _ _ _ (by omega), hx1]; rfl
          · have hb : (er != 0) = true := by simpa using her
            simp only [hb, if_true, her, ne_eq, not_false_iff]; rfl
    · have hge : ¬ (i : Int) < r.Contacts.length := by omega
      have h0 : r.Contacts.length - i = 0 := by omega
      simp [hge, List.drop_eq_nil_of_le (show r.Contacts.length ≤ i by omega), contactsS, h0]

theorem rungeval_Contacts_eq (n : Nat) (r : ApiRung) (ins : List Bool) (st : ApiState) (slot : Int) (hn : r.Contacts.length ≤ 1000000000) (hs : small st) (h : r.Contacts.length < n) (h4 : slot ≤ 4611686018427387904) :
    rungeval_Contacts n r ins st slot = some (contactsS ins st r.Contacts slot st.E []) := by
  unfold rungeval_Contacts
  rw [state_Clone_o2_eq _ _ hs]
  have := contacts_loop n r ins st hn n 0 slot st.E [] (Nat.zero_le _) rfl (by omega) (by omega)
  have h9 : (r.Contacts.length : Int) ≤ 1000000000 := by omega
  simpa [h9] using this

theorem ref02_Set_eq (n : Nat) (l : List Bool) (i : Int) (v : Bool) (h : l.length ≤ 1000000000) (h0 : 0 ≤ i) (h1 : i < l.length) : ref02_Set n l i v = some (l.set i.toNat v) := by
  unfold ref02_Set
  obtain ⟨x, _, h4⟩ := atI_get h0 h1
  simp [h, h4]

theorem ref_contacts_loop (n : Nat) (r : ApiRung) (ins : List Bool) (st : ApiState) (base : Int) (hn : r.Contacts.length ≤ 1000000000) (hs : small st) (hb : -4611686018427387904 ≤ base) (hb1 : base ≤ 4611686018427387904) :
    ∀ (k i m : Nat) (e acc : List Bool), i ≤ r.Contacts.length → acc.length = i → m ≤ i → r.Contacts.length - i < k → (m = 0 ∨ 0 ≤ base) → e.length = st.E.length → (∀ j : Nat, base + m ≤ (j : Int) → e[j]? = st.E[j]?) →
    ref16_Contacts_L1 n r ins st base st k acc i e m = some (contactsS ins st (r.Contacts.drop i) (base + m) e acc)
  | 0, i, m, e, acc, h1, h2, h3, h4, h5, h6, h7 => by omega
  | k + 1, i, m, e, acc, h1, h2, h3, h4, h5, h6, h7 => by
    unfold ref16_Contacts_L1
    have hEs := hs.2.2
    by_cases hi : i < r.Contacts.length
    · obtain ⟨c, hc⟩ := get_ex hi
      have hlt : (i : Int) < r.Contacts.length := by omega
      have hw := wrapN (i := i) (by omega)
      have hwm := wrapN (i := m) (by omega)
      have hwl : IntKind.i64.wrap ((st.E.length : Int) - base) = (st.E.length : Int) - base := wrapI (by omega) (by omega)
      have hwb : IntKind.i64.wrap (base + (m : Int)) = base + m := wrapI (by omega) (by omega)
      rw [drop_cons hc]
      have hlen : ∀ b : Bool, acc.length + [b].length ≤ 1000000000 := fun b => by simp; omega
      simp only [atI_nat, hc, hlt, decide_true, if_true, Option.bind_some, contactsS, ref03_Read_eq, hw, hwm, hwl, hwb, hlen]
      generalize hrd : readS ins st c.A = rd
      obtain ⟨v, er⟩ := rd
      by_cases hk0 : c.Kind < 0
      · simp [hk0, noState]
      · by_cases hk4 : 3 < c.Kind
        · have : 4 ≤ c.Kind := by omega
          simp [hk0, hk4, noState, this]
        · have hor : ¬ (c.Kind < 0 ∨ 4 ≤ c.Kind) := by omega
          rw [if_neg (by simpa using hk0), if_neg (by simpa using hk4), if_neg hor]
          by_cases her : er = 0
          · subst her
            simp only [bne_self_eq_false, Bool.false_eq_true, if_false, ne_eq, not_true]
            by_cases hk2 : c.Kind < 2
            · have hse : seesS c = false := by unfold seesS; simp; omega
              have hcnd : (v == (c.Kind == 0)) = condS c.Kind v false := by
                unfold condS
                rcases (show c.Kind = 0 ∨ c.Kind = 1 by omega) with h | h <;> simp [h]
              have ih := ref_contacts_loop n r ins st base hn hs hb hb1 k (i + 1) m e (acc ++ [condS c.Kind v false]) (by omega) (by simp [h2]) (by omega) (by omega) h5 h6 h7
              rw [if_pos (by simpa using hk2), hse, hcnd]
              simpa using ih
            · have hse : seesS c = true := by unfold seesS; simp; omega
              rw [if_neg (by simpa using hk2), hse]
              simp only [if_true]
              by_cases hb0 : base < 0
              · have hm : m = 0 := by omega
                subst hm
                simp [hb0, noState]
              · by_cases hbl : (st.E.length : Int) ≤ base
                · have : (e.length : Int) ≤ base + m := by omega
                  simp [hb0, hbl, this, noState]
                · by_cases hml : (st.E.length : Int) - base ≤ m
                  · have : (e.length : Int) ≤ base + m := by omega
                    simp [hb0, hbl, this, hml, noState]
                  · have hor2 : ¬ (base + (m : Int) < 0 ∨ (e.length : Int) ≤ base + m) := by omega
                    obtain ⟨x, hx1, hx2⟩ := atI_get (l := st.E) (k := base + m) (by omega) (by omega)
                    have hex : e[(base + (m : Int)).toNat]? = some x := by rw [h7 _ (by omega)]; exact hx1
                    rw [if_neg (by simpa using hb0), if_neg (by simpa using hbl), if_neg (by simpa using hml), if_neg hor2, hx2]
                    have hset := ref02_Set_eq n e (base + m) v (by omega) (by omega) (by omega)
                    simp only [Option.bind_some, hset, hex, Option.getD_some]
                    have ih := fun b => ref_contacts_loop n r ins st base hn hs hb hb1 k (i + 1) (m + 1) (e.set (base + (m : Int)).toNat v) (acc ++ [b]) (by omega) (by simp [h2]) (by omega) (by omega) (.inr (by omega)) (by simpa using h6) (fun j hj => by
                      rw [List.getElem?_set_ne (by omega)]; exact h7 j (by omega))
                    have e1 : base + ((m + 1 : Nat) : Int) = base + m + 1 := by omega
                    rw [e1] at ih
                    rcases (show c.Kind = 2 ∨ c.Kind = 3 by omega) with h | h <;> cases v <;> cases x <;> simp [h, condS] at ih ⊢ <;> first | exact ih.1 | exact ih.2
          · have hb : (er != 0) = true := by simpa using her
            simp only [hb, if_true, her, ne_eq, not_false_iff]; rfl
    · have hge : ¬ (i : Int) < r.Contacts.length := by omega
      simp [hge, List.drop_eq_nil_of_le (show r.Contacts.length ≤ i by omega), contactsS]

theorem ref16_Contacts_eq (n : Nat) (r : ApiRung) (ins : List Bool) (st : ApiState) (slot : Int) (hn : r.Contacts.length ≤ 1000000000) (hs : small st) (h : r.Contacts.length < n) (hb : -4611686018427387904 ≤ slot) (h4 : slot ≤ 4611686018427387904) :
    ref16_Contacts n r ins st slot = some (contactsS ins st r.Contacts slot st.E []) := by
  unfold ref16_Contacts
  rw [ref03_Clone_eq _ _ hs]
  have := ref_contacts_loop n r ins st slot hn hs hb h4 n 0 0 st.E [] (Nat.zero_le _) rfl (Nat.le_refl _) (by omega) (.inl rfl) rfl (fun _ _ => rfl)
  simpa using this

theorem contactsS_small (ins : List Bool) (st : ApiState) (hs : small st) : ∀ (cs : List ApiContact) (slot : Int) (e acc : List Bool), e.length ≤ 1000000000 → small (contactsS ins st cs slot e acc).2.1 ∧ ((contactsS ins st cs slot e acc).2.2 = 0 → (contactsS ins st cs slot e acc).1.length = acc.length + cs.length) ∧ ((contactsS ins st cs slot e acc).1.length ≤ acc.length + cs.length)
  | [], slot, e, acc, h => ⟨⟨hs.1, hs.2.1, h⟩, fun _ => by simp [contactsS], by simp [contactsS]⟩
  | c :: cs, slot, e, acc, h => by
    have hno : small noState := by simp [small, noState]
    unfold contactsS
    split
    · exact ⟨hno, fun h => by simp at h, by simp⟩
    · split
      · rename_i h1; exact ⟨hno, fun h => absurd h h1, by simp⟩
      · split
        · split
          · exact ⟨hno, fun h => by simp at h, by simp⟩
          · obtain ⟨a, b, d⟩ := contactsS_small ins st hs cs (slot + 1) (e.set slot.toNat (readS ins st c.A).1) (acc ++ [condS c.Kind (readS ins st c.A).1 (e[slot.toNat]?.getD false)]) (by simpa using h)
            exact ⟨a, fun q => by rw [b q]; simp; omega, by simp at d ⊢; omega⟩
        · obtain ⟨a, b, d⟩ := contactsS_small ins st hs cs slot e (acc ++ [condS c.Kind (readS ins st c.A).1 false]) h
          exact ⟨a, fun q => by rw [b q]; simp; omega, by simp at d ⊢; omega⟩

end Go.G

namespace Go.G
open Go.Av

theorem get_lt {α : Type} {l : List α} {i : Nat} {x : α} (h : l[i]? = some x) : i < l.length := (List.getElem?_eq_some_iff.1 h).1
def strL : Str := ⟨#[76]⟩
def strR : Str := ⟨#[82]⟩

/-- What is reached from the left rail. -/
inductive Reach (cs : List ApiContact) (on : List Bool) : Str → Prop
  | left : Reach cs on strL
  | step (i : Nat) (c : ApiContact) (h1 : cs[i]? = some c) (h2 : on[i]? = some true) (h3 : Reach cs on c.From) : Reach cs on c.To

open Classical in
noncomputable def reachB (cs : List ApiContact) (on : List Bool) : Bool := decide (Reach cs on strR)

def cnt (cs : List ApiContact) (h : List Str) : Nat := (cs.filter fun c => !decide (c.To ∈ h)).length

theorem cnt_le (cs : List ApiContact) (h : List Str) : cnt cs h ≤ cs.length := List.length_filter_le _ _

theorem cnt_lt {c : ApiContact} {h : List Str} (hn : c.To ∉ h) : ∀ {cs : List ApiContact}, c ∈ cs → cnt cs (h ++ [c.To]) + 1 ≤ cnt cs h
  | [], hc => by simp at hc
  | d :: cs, hc => by
    have mono : ∀ cs : List ApiContact, cnt cs (h ++ [c.To]) ≤ cnt cs h := by
      intro cs
      induction cs with
      | nil => exact Nat.le_refl _
      | cons d cs ih =>
        simp only [cnt, List.filter_cons] at ih ⊢
        by_cases e : d.To ∈ h
        · simp [e]; simpa using ih
        · by_cases e2 : d.To = c.To
          · simp [e, e2, hn]; simp at ih; omega
          · simp [e, e2]; simpa using ih
    have hm := mono cs
    simp only [cnt, List.filter_cons] at hm ⊢
    rcases List.mem_cons.1 hc with e | e
    · subst e; simp [hn]; simp at hm; omega
    · have ih := cnt_lt hn e
      simp only [cnt] at ih
      by_cases e1 : d.To ∈ h
      · simp [e1]; simpa using ih
      · by_cases e2 : d.To = c.To
        · simp [e1, e2, hn]; simp at ih; omega
        · simp [e1, e2]; simpa using ih

def Shut (cs : List ApiContact) (on : List Bool) (h : List Str) (x : Str) (n : Nat) : Prop := ∀ i c, i < n → cs[i]? = some c → on[i]? = some true → c.From = x → c.To ∈ h

structure Inv (cs : List ApiContact) (on : List Bool) (h t : List Str) : Prop where
  reach : ∀ x ∈ h, Reach cs on x
  left : strL ∈ h
  shut : ∀ x ∈ h, x ∈ t ∨ Shut cs on h x cs.length
  sub : ∀ x ∈ t, x ∈ h
  small : cnt cs h + t.length ≤ cs.length + 1

structure Inv2 (cs : List ApiContact) (on : List Bool) (n : Str) (M i : Nat) (h t : List Str) : Prop where
  reach : ∀ x ∈ h, Reach cs on x
  left : strL ∈ h
  here : n ∈ h
  shut : ∀ x ∈ h, x ∈ t ∨ Shut cs on h x cs.length ∨ (x = n ∧ Shut cs on h x i)
  sub : ∀ x ∈ t, x ∈ h
  small : cnt cs h + t.length ≤ M
  bound : M ≤ cs.length

theorem Inv.start (cs : List ApiContact) (on : List Bool) : Inv cs on [strL] [strL] :=
  ⟨fun x hx => by simp at hx; subst hx; exact .left, by simp, fun x hx => .inl hx, fun x hx => hx, by have := cnt_le cs [strL]; simp; omega⟩

theorem Inv.pop {cs : List ApiContact} {on : List Bool} {h t : List Str} {n : Str} (hi : Inv cs on h (n :: t)) : Inv2 cs on n (cnt cs h + t.length) 0 h t :=
  ⟨hi.reach, hi.left, hi.sub n (by simp), fun x hx => by
    rcases hi.shut x hx with g | g
    · rcases List.mem_cons.1 g with e | e
      · exact .inr (.inr ⟨e, fun i c h0 => by omega⟩)
      · exact .inl e
    · exact .inr (.inl g), fun x hx => hi.sub x (by simp [hx]), Nat.le_refl _, by have := hi.small; simp at this; omega⟩

theorem Inv2.done {cs : List ApiContact} {on : List Bool} {h t : List Str} {n : Str} {M : Nat} (hi : Inv2 cs on n M cs.length h t) : Inv cs on h t :=
  ⟨hi.reach, hi.left, fun x hx => by
    rcases hi.shut x hx with g | g | ⟨e, g⟩
    · exact .inl g
    · exact .inr g
    · exact .inr g, hi.sub, by have := hi.small; have := hi.bound; omega⟩

theorem Inv2.skip {cs : List ApiContact} {on : List Bool} {h t : List Str} {n : Str} {M i : Nat} (hi : Inv2 cs on n M i h t) (hs : ∀ c, cs[i]? = some c → on[i]? = some true → c.From = n → c.To ∈ h) : Inv2 cs on n M (i + 1) h t :=
  ⟨hi.reach, hi.left, hi.here, fun x hx => by
    rcases hi.shut x hx with g | g | ⟨e, g⟩
    · exact .inl g
    · exact .inr (.inl g)
    · refine .inr (.inr ⟨e, fun k c hk h1 h2 h3 => ?_⟩)
      by_cases hki : k = i
      · subst hki; exact hs c h1 h2 (h3.trans e)
      · exact g k c (by omega) h1 h2 h3, hi.sub, hi.small, hi.bound⟩

theorem Inv2.push {cs : List ApiContact} {on : List Bool} {h t : List Str} {n : Str} {M i : Nat} (hi : Inv2 cs on n M i h t) {c : ApiContact} (h1 : cs[i]? = some c) (h2 : on[i]? = some true) (h3 : c.From = n) (h4 : c.To ∉ h) :
    Inv2 cs on n M (i + 1) (h ++ [c.To]) (t ++ [c.To]) :=
  ⟨fun x hx => by
    rcases List.mem_append.1 hx with g | g
    · exact hi.reach x g
    · simp at g; subst g; exact .step i c h1 h2 (h3 ▸ hi.reach n hi.here), by simp [hi.left], by simp [hi.here], fun x hx => by
    rcases List.mem_append.1 hx with g | g
    · rcases hi.shut x g with g | g | ⟨e, g⟩
      · exact .inl (by simp [g])
      · exact .inr (.inl fun k d hk a1 a2 a3 => by simp [g k d hk a1 a2 a3])
      · refine .inr (.inr ⟨e, fun k d hk a1 a2 a3 => ?_⟩)
        by_cases hki : k = i
        · subst hki; rw [h1] at a1; cases a1; simp
        · have := g k d (by omega) a1 a2 a3; simp [this]
    · exact .inl (by simp at g; simp [g]), fun x hx => by
    rcases List.mem_append.1 hx with g | g
    · simp [hi.sub x g]
    · simp at g; simp [g], by have := cnt_lt h4 (List.mem_of_getElem? h1); have := hi.small; simp; omega, hi.bound⟩

theorem Inv.ends {cs : List ApiContact} {on : List Bool} {h : List Str} (hi : Inv cs on h []) : decide (strR ∈ h) = reachB cs on := by
  have key : ∀ x, Reach cs on x → x ∈ h := by
    intro x hx
    induction hx with
    | left => exact hi.left
    | step i c h1 h2 _ ih =>
      rcases hi.shut c.From ih with g | g
      · simp at g
      · exact g i c (get_lt h1) h1 h2 rfl
  unfold reachB
  by_cases hr : strR ∈ h
  · simp [hr, hi.reach _ hr]
  · have : ¬ Reach cs on strR := fun g => hr (key _ g)
    simp [hr, this]

def ClosedR (cs : List ApiContact) (on : List Bool) (h : List Str) : Prop := ∀ (i : Nat) (c : ApiContact), cs[i]? = some c → on[i]? = some true → c.From ∈ h → c.To ∈ h
def Part (cs : List ApiContact) (on : List Bool) (h : List Str) (n : Nat) : Prop := ∀ (i : Nat) (c : ApiContact), i < n → cs[i]? = some c → on[i]? = some true → c.From ∈ h → c.To ∈ h

structure RInv (cs : List ApiContact) (on : List Bool) (r : Nat) (h : List Str) : Prop where
  reach : ∀ x ∈ h, Reach cs on x
  left : strL ∈ h
  done : ClosedR cs on h ∨ cnt cs h + r ≤ cs.length
  small : cnt cs h + h.length ≤ cs.length + 1

structure RInv2 (cs : List ApiContact) (on : List Bool) (h0 : List Str) (i : Nat) (h : List Str) : Prop where
  reach : ∀ x ∈ h, Reach cs on x
  left : strL ∈ h
  go : (h = h0 ∧ Part cs on h i) ∨ (cnt cs h + 1 ≤ cnt cs h0 ∧ ¬ ClosedR cs on h0)
  small : cnt cs h + h.length ≤ cs.length + 1

theorem RInv.start (cs : List ApiContact) (on : List Bool) : RInv cs on 0 [strL] :=
  ⟨fun x hx => by simp at hx; subst hx; exact .left, by simp, .inr (by have := cnt_le cs [strL]; omega), by have := cnt_le cs [strL]; simp; omega⟩

theorem RInv.pass {cs : List ApiContact} {on : List Bool} {r : Nat} {h : List Str} (hi : RInv cs on r h) : RInv2 cs on h 0 h :=
  ⟨hi.reach, hi.left, .inl ⟨rfl, fun i c h0 => by omega⟩, hi.small⟩

theorem RInv2.next {cs : List ApiContact} {on : List Bool} {r : Nat} {h0 h : List Str} (hr : RInv cs on r h0) (hi : RInv2 cs on h0 cs.length h) : RInv cs on (r + 1) h := by
  refine ⟨hi.reach, hi.left, ?_, hi.small⟩
  rcases hi.go with ⟨e, g⟩ | ⟨g, g2⟩
  · exact .inl fun i c h1 h2 h3 => g i c (get_lt h1) h1 h2 h3
  · rcases hr.done with q | q
    · exact absurd q g2
    · exact .inr (by omega)

theorem RInv2.skip {cs : List ApiContact} {on : List Bool} {i : Nat} {h0 h : List Str} (hi : RInv2 cs on h0 i h) (hs : ∀ c, cs[i]? = some c → on[i]? = some true → c.From ∈ h → c.To ∈ h) : RInv2 cs on h0 (i + 1) h := by
  refine ⟨hi.reach, hi.left, ?_, hi.small⟩
  rcases hi.go with ⟨e, g⟩ | g
  · refine .inl ⟨e, fun k c hk h1 h2 h3 => ?_⟩
    by_cases hki : k = i
    · subst hki; exact hs c h1 h2 h3
    · exact g k c (by omega) h1 h2 h3
  · exact .inr g

theorem RInv2.push {cs : List ApiContact} {on : List Bool} {i : Nat} {h0 h : List Str} (hi : RInv2 cs on h0 i h) {c : ApiContact} (h1 : cs[i]? = some c) (h2 : on[i]? = some true) (h3 : c.From ∈ h) (h4 : c.To ∉ h) : RInv2 cs on h0 (i + 1) (h ++ [c.To]) := by
  have hlt := cnt_lt h4 (List.mem_of_getElem? h1)
  refine ⟨fun x hx => ?_, by simp [hi.left], .inr ?_, by have := hi.small; simp; omega⟩
  · rcases List.mem_append.1 hx with g | g
    · exact hi.reach x g
    · simp at g; subst g; exact .step i c h1 h2 (hi.reach _ h3)
  · rcases hi.go with ⟨e, g⟩ | ⟨g, g2⟩
    · subst e; exact ⟨hlt, fun hc => h4 (hc i c h1 h2 h3)⟩
    · exact ⟨by omega, g2⟩

theorem RInv.ends {cs : List ApiContact} {on : List Bool} {h : List Str} (hi : RInv cs on (cs.length + 1) h) : decide (strR ∈ h) = reachB cs on := by
  have hc : ClosedR cs on h := by
    rcases hi.done with g | g
    · exact g
    · omega
  have hn : cnt cs h + 0 ≤ cs.length + 1 := by have := cnt_le cs h; omega
  exact Inv.ends (h := h) ⟨hi.reach, hi.left, fun x hx => .inr fun i c _ h1 h2 h3 => hc i c h1 h2 (h3 ▸ hx), fun x hx => by simp at hx, by simpa using hn⟩


theorem take_succ {h : List Str} {k : Nat} {x y : Str} (hk : h[k]? = some y) : (x ∈ h.take (k + 1)) ↔ (x ∈ h.take k ∨ y = x) := by
  rw [List.take_add_one, hk]; simp [eq_comm]

def esM (h : List Str) : List (Str × Bool) := h.map fun x => (x, true)
theorem mGet_es (k : Str) : ∀ h : List Str, (mGet (esM h) k).getD false = decide (k ∈ h)
  | [] => rfl
  | x :: h => by
    show (if (k == x) = true then some true else mGet (esM h) k).getD false = _
    by_cases e : k = x
    · subst e; simp
    · have := mGet_es k h; simp [e, this]
theorem mPut_es (k : Str) : ∀ h : List Str, k ∉ h → mPut (esM h) k true = esM (h ++ [k])
  | [], _ => rfl
  | x :: h, hk => by
    show (if (k == x) = true then (k, true) :: esM h else (x, true) :: mPut (esM h) k true) = _
    have e : k ≠ x := fun e => hk (by simp [e])
    have ih := mPut_es k h (fun e => hk (by simp [e]))
    rw [if_neg (by simpa using e), ih]; rfl

theorem cond_loop2 (n : Nat) (r : ApiRung) (on : List Bool) (nd : Str) (M : Nat) (R : Nat → List (Str × Bool) → List Str → Option (Bool × Int)) (hcs : r.Contacts.length ≤ 1000000) (hlen : on.length = r.Contacts.length)
    (hR : ∀ h l p, Inv r.Contacts on h (l.drop p) → p ≤ l.length → cnt r.Contacts h + (l.drop p).length ≤ M → R p (esM h) l = some (reachB r.Contacts on, 0)) :
    ∀ (k i : Nat) (h l : List Str) (p : Nat), i ≤ r.Contacts.length → Inv2 r.Contacts on nd M i h (l.drop p) → p ≤ l.length → r.Contacts.length - i < k →
      rungeval_Conducts_L2 r on R nd k i (esM h) l p = some (reachB r.Contacts on, 0)
  | 0, i, h, l, p, h1, h2, h3, h4 => by omega
  | k + 1, i, h, l, p, h1, h2, h3, h4 => by
    unfold rungeval_Conducts_L2
    by_cases hi : i < r.Contacts.length
    · obtain ⟨c, hc⟩ := get_ex hi
      obtain ⟨v, hv⟩ := get_ex (l := on) (i := i) (by omega)
      have hlt : (i : Int) < r.Contacts.length := by omega
      have hw := wrapN (i := i) (by omega)
      have hsm := h2.small
      have hbd := h2.bound
      simp only [atI_nat, hc, hv, hlt, decide_true, if_true, Option.bind_some, mGet_es, hw]
      have hskip : (∀ d, r.Contacts[i]? = some d → on[i]? = some true → d.From = nd → d.To ∈ h) → rungeval_Conducts_L2 r on R nd k ((i + 1 : Nat) : Int) (esM h) l p = some (reachB r.Contacts on, 0) := fun hs =>
        cond_loop2 n r on nd M R hcs hlen hR k (i + 1) h l p (by omega) (h2.skip hs) h3 (by omega)
      cases v with
      | false => simpa using hskip (fun d _ q => by rw [hv] at q; cases q)
      | true =>
        simp only [if_true]
        by_cases hf : c.From = nd
        · by_cases hm : c.To ∈ h
          · simpa [hf, hm] using hskip (fun d q _ _ => by rw [hc] at q; cases q; exact hm)
          · have hp := h2.push hc hv hf hm
            have hln : l.length - p + [c.To].length ≤ 1000000000 ∧ p ≤ l.length := by
              refine ⟨?_, h3⟩
              have : (l.drop p).length = l.length - p := by simp
              simp; omega
            simp only [hf, decide_true, if_true, hm, decide_false, Bool.not_false, hln, Option.bind_some]
            rw [mPut_es _ _ hm, if_pos ⟨trivial, trivial⟩]
            exact cond_loop2 n r on nd M R hcs hlen hR k (i + 1) (h ++ [c.To]) (l.drop p ++ [c.To]) 0 (by omega) (by simpa using hp) (Nat.zero_le _) (by omega)
        · simpa [hf] using hskip (fun d q _ q3 => by rw [hc] at q; cases q; exact absurd q3 hf)
    · have hge : ¬ (i : Int) < r.Contacts.length := by omega
      have hie : i = r.Contacts.length := by omega
      rw [hie] at h2
      simp only [hge, decide_false, Bool.false_eq_true, if_false]
      exact hR h l p h2.done h3 h2.small

theorem cond_loop1 (n : Nat) (r : ApiRung) (on : List Bool) (hcs : r.Contacts.length ≤ 1000000) (hlen : on.length = r.Contacts.length) (hn : r.Contacts.length < n) :
    ∀ (k : Nat) (h l : List Str) (p : Nat), Inv r.Contacts on h (l.drop p) → p ≤ l.length → cnt r.Contacts h + (l.drop p).length < k →
      rungeval_Conducts_L1 n r on k p (esM h) l = some (reachB r.Contacts on, 0)
  | 0, h, l, p, h1, h2, h3 => by omega
  | k + 1, h, l, p, h1, h2, h3 => by
    unfold rungeval_Conducts_L1
    by_cases hp : p < l.length
    · obtain ⟨nd, hnd⟩ := get_ex hp
      have hd := drop_cons hnd
      have hpos : (((l.length - p : Nat)) : Int) > 0 := by omega
      have h01 : (0 : Nat) ≤ 1 ∧ 1 ≤ (((l.length - p : Nat)) : Int) ∧ (((l.length - p : Nat)) : Int) ≤ (((l.length - p : Nat)) : Int) := by omega
      have ha : atI (l.drop p) 0 = some nd := by rw [hd]; rfl
      rw [hd] at h1 h3
      simp only [hpos, decide_true, if_true, ha, Option.bind_some]
      rw [if_pos h01]
      refine cond_loop2 n r on nd (cnt r.Contacts h + (l.drop (p + 1)).length) _ hcs hlen (fun h' l' p' a b c => ?_) n 0 h l (p + 1) (Nat.zero_le _) h1.pop (by omega) (by omega)
      exact cond_loop1 n r on hcs hlen hn k h' l' p' a b (by simp only [List.length_cons] at h3; omega)
    · have h0 : l.drop p = [] := List.drop_eq_nil_of_le (by omega)
      have hpos : ¬ (((l.length - p : Nat)) : Int) > 0 := by omega
      rw [h0] at h1
      simp only [hpos, decide_false, Bool.false_eq_true, if_false]
      rw [mGet_es, ← h1.ends]; rfl

noncomputable def condP (r : ApiRung) (on : List Bool) : Bool × Int := if on.length = r.Contacts.length then (reachB r.Contacts on, 0) else (false, 2)

theorem rungeval_Conducts_eq (n : Nat) (r : ApiRung) (on : List Bool) (hcs : r.Contacts.length ≤ 1000000) (hn : r.Contacts.length + 1 < n) : rungeval_Conducts n r on = some (condP r on) := by
  unfold rungeval_Conducts condP
  by_cases hlen : on.length = r.Contacts.length
  · have := cond_loop1 n r on hcs hlen (by omega) n [strL] [strL] 0 (by simpa using Inv.start r.Contacts on) (Nat.zero_le _) (by have := cnt_le r.Contacts [strL]; simp; omega)
    simp only [hlen, bne_self_eq_false, Bool.false_eq_true, if_false, if_true, Option.bind_some]
    exact this
  · have : ((on.length : Int) != (r.Contacts.length : Int)) = true := by simp; omega
    simp [this, hlen]

theorem ref_loop2 : ∀ (l : List Str) (k i : Nat), i ≤ l.length → l.length - i < k → l.length ≤ 1000000000 → ¬ strR ∈ l.take i → ref16_Conducts_L2 l k i = some (decide (strR ∈ l), 0)
  | l, 0, i, h1, h2, h3, h4 => by omega
  | l, k + 1, i, h1, h2, h3, h4 => by
    unfold ref16_Conducts_L2
    by_cases hi : i < l.length
    · obtain ⟨c, hc⟩ := get_ex hi
      have hlt : (i : Int) < l.length := by omega
      have hw := wrapN (i := i) (by omega)
      simp only [atI_nat, hc, hlt, decide_true, if_true, Option.bind_some, hw]
      by_cases he : c = strR
      · have hm : strR ∈ l := by rw [← he]; exact List.mem_of_getElem? hc
        have he' : c = (⟨#[82]⟩ : Str) := he
        simp [he', hm]
      · have he' : ¬ c = (⟨#[82]⟩ : Str) := he
        simp only [he', decide_false, Bool.false_eq_true, if_false]
        exact ref_loop2 l k (i + 1) (by omega) (by omega) h3 (fun hm => by
          rcases (take_succ hc).1 hm with g | g
          · exact h4 g
          · exact he g)
    · have hge : ¬ (i : Int) < l.length := by omega
      rw [List.take_of_length_le (by omega)] at h4
      simp [hge, h4]

theorem ref_loop6 (r : ApiRung) (pi : Nat) (c : ApiContact) (hc : r.Contacts[pi]? = some c) (l : List Str) (hl : l.length ≤ 1000000000) (R : Int → List Str → Option (Bool × Int)) :
    ∀ (k i : Nat), i ≤ l.length → l.length - i < k → ref16_Conducts_L6 r pi l R k (decide (c.To ∈ l.take i)) i (decide (c.From ∈ l.take i)) = ref16_Conducts_J5 r pi l R (decide (c.To ∈ l)) (decide (c.From ∈ l))
  | 0, i, h1, h2 => by omega
  | k + 1, i, h1, h2 => by
    unfold ref16_Conducts_L6
    by_cases hi : i < l.length
    · obtain ⟨y, hy⟩ := get_ex hi
      have hlt : (i : Int) < l.length := by omega
      have hw := wrapN (i := i) (by omega)
      have ih := ref_loop6 r pi c hc l hl R k (i + 1) (by omega) (by omega)
      have e1 : decide (c.From ∈ l.take (i + 1)) = (decide (c.From ∈ l.take i) || decide (y = c.From)) := by simp [take_succ hy]
      have e2 : decide (c.To ∈ l.take (i + 1)) = (decide (c.To ∈ l.take i) || decide (y = c.To)) := by simp [take_succ hy]
      rw [e1, e2] at ih
      simp only [atI_nat, hc, hy, hlt, decide_true, if_true, Option.bind_some, hw, ref16_Conducts_J7]
      clear e1 e2
      generalize decide (y = c.From) = bf at ih ⊢
      generalize decide (y = c.To) = bt at ih ⊢
      cases bf <;> cases bt <;> simpa using ih
    · have hge : ¬ (i : Int) < l.length := by omega
      rw [List.take_of_length_le (by omega)]
      simp [hge]

theorem ref_loop4 (n : Nat) (r : ApiRung) (on : List Bool) (pr : Nat) (h0 : List Str) (R : Int → List Str → Option (Bool × Int)) (hcs : r.Contacts.length ≤ 1000000) (hlen : on.length = r.Contacts.length) (hn : r.Contacts.length + 1 < n)
    (hpr : pr ≤ 1000000)
    (hR : ∀ h, RInv2 r.Contacts on h0 r.Contacts.length h → R ((pr + 1 : Nat) : Int) h = some (reachB r.Contacts on, 0)) :
    ∀ (k i : Nat) (h : List Str), i ≤ r.Contacts.length → RInv2 r.Contacts on h0 i h → r.Contacts.length - i < k →
      ref16_Conducts_L4 n r on pr R k i h = some (reachB r.Contacts on, 0)
  | 0, i, h, h1, h2, h3 => by omega
  | k + 1, i, h, h1, h2, h3 => by
    unfold ref16_Conducts_L4
    have hsm := h2.small
    by_cases hi : i < r.Contacts.length
    · obtain ⟨c, hc⟩ := get_ex hi
      obtain ⟨v, hv⟩ := get_ex (l := on) (i := i) (by omega)
      have hlt : (i : Int) < on.length := by omega
      have hw := wrapN (i := i) (by omega)
      have hskip : (∀ d, r.Contacts[i]? = some d → on[i]? = some true → d.From ∈ h → d.To ∈ h) → ref16_Conducts_L4 n r on pr R k ((i + 1 : Nat) : Int) h = some (reachB r.Contacts on, 0) := fun hs =>
        ref_loop4 n r on pr h0 R hcs hlen hn hpr hR k (i + 1) h (by omega) (h2.skip hs) (by omega)
      simp only [atI_nat, hv, hlt, decide_true, if_true, Option.bind_some, hw]
      cases v with
      | false => simpa using hskip (fun d _ q => by rw [hv] at q; cases q)
      | true =>
        simp only [Bool.not_true, Bool.false_eq_true, if_false]
        have h6 := ref_loop6 r i c hc h (by omega) (ref16_Conducts_L4 n r on pr R k) n 0 (Nat.zero_le _) (by omega)
        simp only [List.take_zero, List.not_mem_nil, decide_false, Int.natCast_zero] at h6
        refine Eq.trans h6 ?_
        unfold ref16_Conducts_J5
        simp only [atI_nat, hc, Option.bind_some, hw]
        by_cases hf : c.From ∈ h
        · by_cases ht : c.To ∈ h
          · simpa [hf, ht] using hskip (fun d q _ _ => by rw [hc] at q; cases q; exact ht)
          · have hln : h.length + [c.To].length ≤ 1000000000 := by simp; omega
            simp only [hf, ht, decide_true, decide_false, Bool.not_false, if_true, hln, Option.bind_some]
            exact ref_loop4 n r on pr h0 R hcs hlen hn hpr hR k (i + 1) (h ++ [c.To]) (by omega) (h2.push hc hv hf ht) (by omega)
        · simpa [hf] using hskip (fun d q _ q3 => by rw [hc] at q; cases q; exact absurd q3 hf)
    · have hge : ¬ (i : Int) < on.length := by omega
      have hie : i = r.Contacts.length := by omega
      rw [hie] at h2
      simp only [hge, decide_false, Bool.false_eq_true, if_false, wrapN (i := pr) (by omega)]
      exact hR h h2

theorem ref_loop3 (n : Nat) (r : ApiRung) (on : List Bool) (hcs : r.Contacts.length ≤ 1000000) (hlen : on.length = r.Contacts.length) (hn : r.Contacts.length + 1 < n) :
    ∀ (k pr : Nat) (h : List Str), pr ≤ r.Contacts.length + 1 → RInv r.Contacts on pr h → r.Contacts.length + 1 - pr < k → ref16_Conducts_L3 n r on k pr h = some (reachB r.Contacts on, 0)
  | 0, pr, h, h1, h2, h3 => by omega
  | k + 1, pr, h, h1, h2, h3 => by
    unfold ref16_Conducts_L3
    have hsm := h2.small
    by_cases hp : pr ≤ on.length
    · have hle : (pr : Int) ≤ on.length := by omega
      simp only [hle, decide_true, if_true]
      exact ref_loop4 n r on pr h _ hcs hlen hn (by omega) (fun h' q => ref_loop3 n r on hcs hlen hn k (pr + 1) h' (by omega) (RInv2.next h2 q) (by omega)) n 0 h (Nat.zero_le _) h2.pass (by omega)
    · have hle : ¬ (pr : Int) ≤ on.length := by omega
      have hpe : pr = r.Contacts.length + 1 := by omega
      rw [hpe] at h2
      simp only [hle, decide_false, Bool.false_eq_true, if_false, ref16_Conducts_J1]
      rw [← h2.ends]
      exact ref_loop2 h n 0 (Nat.zero_le _) (by omega) (by omega) (by simp)

theorem ref16_Conducts_eq (n : Nat) (r : ApiRung) (on : List Bool) (hcs : r.Contacts.length ≤ 1000000) (hn : r.Contacts.length + 1 < n) : ref16_Conducts n r on = some (condP r on) := by
  unfold ref16_Conducts condP
  by_cases hlen : on.length = r.Contacts.length
  · have := ref_loop3 n r on hcs hlen hn n 0 [strL] (Nat.zero_le _) (RInv.start r.Contacts on) (by omega)
    simp only [hlen, bne_self_eq_false, Bool.false_eq_true, if_false, if_true, Option.bind_some]
    exact this
  · have : ((on.length : Int) != (r.Contacts.length : Int)) = true := by simp; omega
    simp [this, hlen]

end Go.G

namespace Go.G
open Go.Av

def letS (b : Nat) : Bool := (decide (65 ≤ b) && decide (b ≤ 90)) || (decide (97 ≤ b) && decide (b ≤ 122))
def contS (b : Nat) : Bool := letS b || decide (b = 95) || (decide (48 ≤ b) && decide (b ≤ 57))
def nameS (w : Str) : Bool := decide (w ≠ (⟨#[]⟩ : Str)) && decide (w.size ≤ 16) && (match w.data.toList with | [] => true | b :: bs => letS b.toNat && bs.all fun c => contS c.toNat)

theorem lex_letter_eq (n : Nat) (b : Nat) : lex_letter n (b : Int) = some (letS b) := by
  unfold lex_letter letS
  simp only [ge_iff_le]
  rw [show decide ((97 : Int) ≤ (b : Int)) = decide (97 ≤ b) from decide_eq_decide.2 (by omega), show decide ((65 : Int) ≤ (b : Int)) = decide (65 ≤ b) from decide_eq_decide.2 (by omega), show decide ((b : Int) ≤ 122) = decide (b ≤ 122) from decide_eq_decide.2 (by omega), show decide ((b : Int) ≤ 90) = decide (b ≤ 90) from decide_eq_decide.2 (by omega)]
  generalize decide (97 ≤ b) = p1
  generalize decide (65 ≤ b) = p2
  generalize decide (b ≤ 122) = p3
  generalize decide (b ≤ 90) = p4
  revert p1 p2 p3 p4
  decide

theorem ref09_letter_eq (n : Nat) (b : Nat) : ref09_letter n (b : Int) = some (letS b) := by
  unfold ref09_letter letS
  simp only [ge_iff_le]
  rw [show decide ((97 : Int) ≤ (b : Int)) = decide (97 ≤ b) from decide_eq_decide.2 (by omega), show decide ((65 : Int) ≤ (b : Int)) = decide (65 ≤ b) from decide_eq_decide.2 (by omega), show decide ((b : Int) ≤ 122) = decide (b ≤ 122) from decide_eq_decide.2 (by omega), show decide ((b : Int) ≤ 90) = decide (b ≤ 90) from decide_eq_decide.2 (by omega)]
  generalize decide (97 ≤ b) = p1
  generalize decide (65 ≤ b) = p2
  generalize decide (b ≤ 122) = p3
  generalize decide (b ≤ 90) = p4
  revert p1 p2 p3 p4
  decide

theorem size_list (w : Str) : w.data.toList.length = w.size := Array.length_toList

theorem byte_at {w : Str} {i : Nat} {b : UInt8} (hb : w.data.toList[i]? = some b) : ∃ h : i < w.size, w[i]'h = b := by
  have h : i < w.data.toList.length := (List.getElem?_eq_some_iff.1 hb).1
  have h2 : i < w.size := by rw [← size_list]; exact h
  refine ⟨h2, ?_⟩
  have := (List.getElem?_eq_some_iff.1 hb).2
  rw [← this]
  show w.data[i] = _
  exact (Array.getElem_toList _).symm

theorem e95 {b : Nat} : ((b : Int) != 95) = !decide (b = 95) := by
  by_cases h : b = 95
  · simp [h]
  · have : ¬ ((b : Int) = 95) := by omega
    simp [h, this]
theorem e48 {b : Nat} : decide ((b : Int) < 48) = !decide (48 ≤ b) := by
  rw [← decide_not]; exact decide_eq_decide.2 (by omega)
theorem e57 {b : Nat} : decide ((b : Int) > 57) = !decide (b ≤ 57) := by
  rw [← decide_not]; exact decide_eq_decide.2 (by omega)

theorem lex_step (n : Nat) (w : Str) (k i : Nat) (b : UInt8) (hb : w.data.toList[i]? = some b) :
    lex_IsName_L1 n w (k + 1) i = if (letS b.toNat || (decide (i ≠ 0) && contS b.toNat)) = true then lex_IsName_L1 n w k (i + 1) else some false := by
  obtain ⟨h, hbb⟩ := byte_at hb
  conv => lhs; unfold lex_IsName_L1
  simp only [h, decide_true, if_true]
  by_cases ha : b.toNat < 128
  · have hd := decode_ascii w i h (by rw [hbb]; exact ha)
    rw [hbb] at hd
    rw [hd]
    simp only [lex_letter_eq, Option.bind_some]
    rw [e95, e48, e57]
    have hz : ((i : Int) == 0) = decide (i = 0) := by
      by_cases h : i = 0
      · simp [h]
      · have : ¬ ((i : Int) = 0) := by omega
        simp [h]
    rw [hz]
    unfold contS
    generalize letS b.toNat = q0
    generalize decide (b.toNat = 95) = q1
    generalize decide (48 ≤ b.toNat) = q2
    generalize decide (b.toNat ≤ 57) = q3
    by_cases hi : i = 0
    · simp only [hi, decide_true, ne_eq, not_true, decide_false]
      cases q0 <;> cases q1 <;> cases q2 <;> cases q3 <;> rfl
    · simp only [hi, decide_false, ne_eq, not_false_iff, decide_true]
      cases q0 <;> cases q1 <;> cases q2 <;> cases q3 <;> rfl
  · obtain ⟨hd, _⟩ := decode_high w i h (by rw [hbb]; omega)
    generalize hr : (Utf8.decode w i).1 = rr at hd
    have hl : letS rr = false := by simp [letS]; omega
    have hl2 : letS b.toNat = false := by simp [letS]; omega
    have hc : contS b.toNat = false := by simp [contS, hl2]; omega
    simp only [lex_letter_eq, Option.bind_some, hl, hl2, hc, Bool.and_false, Bool.or_false, Bool.not_false, if_true, Bool.false_eq_true, if_false]
    have h1 : ¬ ((rr : Int) < 48) := by omega
    have h2 : (57 < (rr : Int)) := by omega
    have h3 : ¬ ((rr : Int) = 95) := by omega
    by_cases hi : i = 0
    · subst hi; simp
    · simp [hi, h1, h2, h3]

theorem lex_loop (n : Nat) (w : Str) : ∀ (k i : Nat), i ≤ w.size → 0 < i → w.size - i < k → lex_IsName_L1 n w k i = some ((w.data.toList.drop i).all fun c => contS c.toNat)
  | 0, i, h1, h2, h3 => by omega
  | k + 1, i, h1, h2, h3 => by
    by_cases hi : i < w.size
    · obtain ⟨b, hb⟩ := get_ex (l := w.data.toList) (i := i) (by rw [size_list]; exact hi)
      rw [lex_step n w k i b hb, drop_cons hb, List.all_cons]
      have ih := lex_loop n w k (i + 1) (by omega) (by omega) (by omega)
      have hne : decide (i ≠ 0) = true := by simp; omega
      have hlc : letS b.toNat = true → contS b.toNat = true := fun h => by simp [contS, h]
      rw [hne, ih]
      cases hc : contS b.toNat with
      | true => simp
      | false =>
        cases hl : letS b.toNat with
        | true => rw [hlc hl] at hc; cases hc
        | false => simp
    · unfold lex_IsName_L1
      have : w.data.toList.drop i = [] := List.drop_eq_nil_of_le (by rw [size_list]; omega)
      simp [hi, this]

theorem lex_IsName_eq (n : Nat) (w : Str) (hn : 17 < n) : lex_IsName n w = some (nameS w) := by
  unfold lex_IsName nameS
  by_cases h0 : w = (⟨#[]⟩ : Str)
  · simp [h0]
  · by_cases h1 : w.size ≤ 16
    · have hs : ¬ ((w.size : Int) > 16) := by omega
      simp only [h0, hs, decide_false, Bool.false_eq_true, if_false, ne_eq, not_false_iff, decide_true, h1, Bool.true_and]
      obtain ⟨k, rfl⟩ : ∃ k, n = k + 1 := ⟨n - 1, by omega⟩
      cases hl : w.data.toList with
      | nil =>
        exfalso; apply h0
        have : w.data = #[] := by
          apply Array.ext'
          simpa using hl
        cases w; simp at this; subst this; rfl
      | cons b bs =>
        have hb : w.data.toList[0]? = some b := by rw [hl]; rfl
        rw [lex_step (k + 1) w k 0 b hb]
        have hsz : 0 < w.size := by rw [← size_list, hl]; simp
        have := lex_loop (k + 1) w k 1 (by omega) (by omega) (by omega)
        rw [hl] at this
        simp only [ne_eq, not_true, decide_false, Bool.false_and, Bool.or_false, Nat.zero_add, List.drop_one, List.tail_cons] at this ⊢
        rw [this]
        cases letS b.toNat <;> simp
    · have hs : ((w.size : Int) > 16) := by omega
      simp [h0, hs, h1]

theorem ref_loop (n : Nat) (w : Str) (hw : w.size ≤ 1000) : ∀ (k i : Nat), i ≤ w.size → w.size - i < k → ref09_IsName_L1 n w k i = some ((w.data.toList.drop i).all fun c => contS c.toNat)
  | 0, i, h1, h2 => by omega
  | k + 1, i, h1, h2 => by
    unfold ref09_IsName_L1
    by_cases hi : i < w.size
    · obtain ⟨b, hb⟩ := get_ex (l := w.data.toList) (i := i) (by rw [size_list]; exact hi)
      have hlt : (i : Int) < (w.size : Int) := by omega
      have hwr := wrapN (i := i) (by omega)
      have ih := ref_loop n w hw k (i + 1) (by omega) (by omega)
      rw [drop_cons hb, List.all_cons]
      simp only [hlt, decide_true, if_true, atI_nat, hb, Option.bind_some, ref09_letter_eq, hwr, ih]
      rw [e95, e48, e57]
      unfold contS
      generalize letS b.toNat = q0
      generalize decide (b.toNat = 95) = q1
      generalize decide (48 ≤ b.toNat) = q2
      generalize decide (b.toNat ≤ 57) = q3
      cases q0 <;> cases q1 <;> cases q2 <;> cases q3 <;> simp
    · have hge : ¬ (i : Int) < (w.size : Int) := by omega
      have : w.data.toList.drop i = [] := List.drop_eq_nil_of_le (by rw [size_list]; omega)
      simp [hge, this]

theorem ref09_IsName_eq (n : Nat) (w : Str) (hn : 17 < n) : ref09_IsName n w = some (nameS w) := by
  unfold ref09_IsName nameS
  by_cases h0 : w = (⟨#[]⟩ : Str)
  · simp [h0]
  · by_cases h1 : w.size ≤ 16
    · have hs : ¬ ((w.size : Int) > 16) := by omega
      simp only [h0, hs, decide_false, Bool.false_eq_true, if_false, ne_eq, not_false_iff, decide_true, h1, Bool.true_and]
      cases hl : w.data.toList with
      | nil =>
        exfalso; apply h0
        have : w.data = #[] := by
          apply Array.ext'
          simpa using hl
        cases w; simp at this; subst this; rfl
      | cons b bs =>
        have hb : atI (b :: bs) 0 = some b := by simp [atI]
        have hsz : 0 < w.size := by rw [← size_list, hl]; simp
        have := ref_loop n w (by omega) n 0 (by omega) (by omega)
        rw [hl] at this
        simp only [hb, Option.bind_some, ref09_letter_eq]
        cases hlb : letS b.toNat with
        | false => simp
        | true =>
          have hc : contS b.toNat = true := by simp [contS, hlb]
          simp only [Int.natCast_zero, List.drop_zero, List.all_cons, hc, Bool.true_and] at this
          simp [this]
    · have hs : ((w.size : Int) > 16) := by omega
      simp [h0, hs, h1]

end Go.G

namespace Go.G
open Go.Av

def widthS (s : ApiSize) (sp : Int) : Int := if sp = 0 then s.I else if sp = 1 then s.Q else if sp = 2 then s.M else 0
def addrS (s : ApiSize) (a : ApiAddr) : Int := if a.Space < 0 ∨ 2 < a.Space then 8 else if a.N < 0 ∨ widthS s a.Space ≤ a.N then 3 else 0
def partS (s : ApiSize) (k : Int) (a : ApiAddr) : Int := if k < 0 ∨ 4 ≤ k then 8 else addrS s a
def sizeOk (s : ApiSize) : Prop := (0 ≤ s.I ∧ s.I ≤ 256) ∧ (0 ≤ s.Q ∧ s.Q ≤ 256) ∧ (0 ≤ s.M ∧ s.M ≤ 256)
instance (s : ApiSize) : Decidable (sizeOk s) := by unfold sizeOk; infer_instance

theorem within_eq (n : Nat) (x m : Int) : addr_within n x m = some (decide (0 ≤ x ∧ x ≤ m)) := by
  unfold addr_within
  by_cases h : 0 ≤ x <;> simp [h]

theorem Width_eq (n : Nat) (s : ApiSize) (sp : Int) : addr_Width n s sp = some (widthS s sp) := by
  unfold addr_Width widthS
  by_cases h0 : sp = 0
  · simp [h0]
  · by_cases h1 : sp = 1
    · simp [h1]
    · by_cases h2 : sp = 2 <;> simp [h0, h1, h2]

theorem ref01_Width_eq (n : Nat) (s : ApiSize) (sp : Int) : ref01_Width n s sp = some (widthS s sp) := by
  unfold ref01_Width widthS
  by_cases h0 : sp = 0
  · simp [h0]
  · by_cases h1 : sp = 1
    · simp [h1]
    · by_cases h2 : sp = 2 <;> simp [h0, h1, h2]

theorem width_le {s : ApiSize} (h : sizeOk s) (sp : Int) : 0 ≤ widthS s sp ∧ widthS s sp ≤ 256 := by
  obtain ⟨h1, h2, h3⟩ := h
  unfold widthS
  repeat' split
  all_goals omega

theorem CheckAddr_eq (n : Nat) (s : ApiSize) (a : ApiAddr) (h : sizeOk s) : addr_CheckAddr n s a = some (addrS s a) := by
  unfold addr_CheckAddr addrS
  have hw := width_le h a.Space
  rw [within_eq, Width_eq]
  simp only [Option.bind_some, within_eq]
  rw [wrapI (by omega) (by omega)]
  by_cases h1 : 0 ≤ a.Space ∧ a.Space ≤ 2
  · have h2 : ¬ (a.Space < 0 ∨ 2 < a.Space) := by omega
    rw [if_neg h2]
    by_cases h3 : 0 ≤ a.N ∧ a.N ≤ widthS s a.Space - 1
    · have h4 : ¬ (a.N < 0 ∨ widthS s a.Space ≤ a.N) := by omega
      simp [h1, h3, h4]
    · have h4 : a.N < 0 ∨ widthS s a.Space ≤ a.N := by omega
      rw [if_pos h4]
      simp only [h1, h3, and_self, decide_true, decide_false, Bool.not_true, Bool.not_false, Bool.false_eq_true, if_true, if_false]
  · have h2 : a.Space < 0 ∨ 2 < a.Space := by omega
    rw [if_pos h2]
    simp only [h1, decide_false, Bool.not_false, if_true]

theorem ref01_CheckAddr_eq (n : Nat) (s : ApiSize) (a : ApiAddr) : ref01_CheckAddr n s a = some (addrS s a) := by
  unfold ref01_CheckAddr addrS
  rw [ref01_Width_eq]
  by_cases h1 : a.Space < 0
  · simp [h1]
  · by_cases h2 : 2 < a.Space
    · simp [h2]
    · by_cases h3 : a.N < 0
      · simp [h1, h2, h3]
      · by_cases h4 : widthS s a.Space ≤ a.N <;> simp [h1, h2, h3, h4]

theorem part_eq (n : Nat) (s : ApiSize) (k : Int) (a : ApiAddr) (h : sizeOk s) : printer_part n s k a = some (partS s k a) := by
  unfold printer_part partS
  rw [CheckAddr_eq n s a h]
  by_cases h1 : k < 0
  · simp [h1]
  · by_cases h2 : 4 ≤ k <;> simp [h1, h2]

def contactsC (s : ApiSize) : List ApiContact → Int
  | [] => 0
  | c :: cs => if partS s c.Kind c.A ≠ 0 then partS s c.Kind c.A else if nameS c.From = false then 6 else if nameS c.To = false then 6 else contactsC s cs
def coilsC (s : ApiSize) : List ApiCoil → Int
  | [] => 0
  | c :: cs => if partS s c.Kind c.A ≠ 0 then partS s c.Kind c.A else if c.A.Space = 0 then 2 else coilsC s cs
def jumpC (r : ApiRung) : Int := if r.Jump = (⟨#[]⟩ : Str) then 0 else if nameS r.Jump = false then 6 else 0
def coilsC2 (s : ApiSize) (r : ApiRung) : Int := if 16 < r.Coils.length then 10 else coilsC s r.Coils
def contactsC2 (s : ApiSize) (r : ApiRung) : Int := if 256 < r.Contacts.length then 10 else contactsC s r.Contacts
def restC (s : ApiSize) (r : ApiRung) : Int := if contactsC2 s r ≠ 0 then contactsC2 s r else if coilsC2 s r ≠ 0 then coilsC2 s r else jumpC r
def rungC (s : ApiSize) (before : List ApiRung) (r : ApiRung) : Int :=
  if r.Label = (⟨#[]⟩ : Str) then restC s r else if nameS r.Label = false then 6 else if (before.any fun x => decide (x.Label = r.Label)) = true then 9 else restC s r

theorem jump_eq (n : Nat) (r : ApiRung) (hn : 17 < n) : printer_rung_J3 n r = some (jumpC r) := by
  unfold printer_rung_J3 jumpC
  rw [lex_IsName_eq n _ hn]
  by_cases h : r.Jump = (⟨#[]⟩ : Str)
  · simp [h]
  · cases hs : nameS r.Jump <;> simp [h, hs]

theorem coils_eq (n : Nat) (s : ApiSize) (r : ApiRung) (hn : 17 < n) (hs : sizeOk s) (hl : r.Coils.length ≤ 1000000000) : ∀ (k i : Nat), i ≤ r.Coils.length → r.Coils.length - i < k →
    printer_rung_L4 n s r k i = some (if coilsC s (r.Coils.drop i) ≠ 0 then coilsC s (r.Coils.drop i) else jumpC r)
  | 0, i, h1, h2 => by omega
  | k + 1, i, h1, h2 => by
    unfold printer_rung_L4
    by_cases hi : i < r.Coils.length
    · obtain ⟨c, hc⟩ := get_ex hi
      have hlt : (i : Int) < r.Coils.length := by omega
      have hw := wrapN (i := i) (by omega)
      rw [drop_cons hc]
      have ih := coils_eq n s r hn hs hl k (i + 1) (by omega) (by omega)
      simp only [atI_nat, hc, hlt, decide_true, if_true, Option.bind_some, hw, part_eq n s _ _ hs, coilsC]
      by_cases hp : partS s c.Kind c.A = 0
      · by_cases h0 : c.A.Space = 0
        · simp [hp, h0]
        · simpa [hp, h0] using ih
      · simp [hp]
    · have hge : ¬ (i : Int) < r.Coils.length := by omega
      simp [hge, List.drop_eq_nil_of_le (show r.Coils.length ≤ i by omega), coilsC, jump_eq n r hn]

theorem contacts_eq (n : Nat) (s : ApiSize) (r : ApiRung) (hn : 17 < n) (hs : sizeOk s) (hl : r.Coils.length ≤ 1000000000) (hln : r.Coils.length < n) (hc : r.Contacts.length ≤ 1000000000) : ∀ (k i : Nat), i ≤ r.Contacts.length → r.Contacts.length - i < k →
    printer_rung_L5 n s r k i = some (if contactsC s (r.Contacts.drop i) ≠ 0 then contactsC s (r.Contacts.drop i) else if coilsC2 s r ≠ 0 then coilsC2 s r else jumpC r)
  | 0, i, h1, h2 => by omega
  | k + 1, i, h1, h2 => by
    unfold printer_rung_L5
    by_cases hi : i < r.Contacts.length
    · obtain ⟨c, hc'⟩ := get_ex hi
      have hlt : (i : Int) < r.Contacts.length := by omega
      have hw := wrapN (i := i) (by omega)
      rw [drop_cons hc']
      have ih := contacts_eq n s r hn hs hl hln hc k (i + 1) (by omega) (by omega)
      simp only [atI_nat, hc', hlt, decide_true, if_true, Option.bind_some, hw, part_eq n s _ _ hs, contactsC, lex_IsName_eq n _ hn]
      by_cases hp : partS s c.Kind c.A = 0
      · by_cases h0 : nameS c.From = true
        · by_cases h1 : nameS c.To = true
          · simpa [hp, h0, h1] using ih
          · simp [hp, h0, h1]
        · simp [hp, h0]
      · simp [hp]
    · have hge : ¬ (i : Int) < r.Contacts.length := by omega
      have h4 := coils_eq n s r hn hs hl n 0 (Nat.zero_le _) (by omega)
      simp only [Int.natCast_zero, List.drop_zero] at h4
      simp only [hge, decide_false, Bool.false_eq_true, if_false, List.drop_eq_nil_of_le (show r.Contacts.length ≤ i by omega), contactsC, ne_eq, not_true]
      unfold printer_rung_J2 coilsC2
      rw [h4]
      by_cases h16 : 16 < r.Coils.length
      · have : (r.Coils.length : Int) > 16 := by omega
        simp [h16, this]
      · have : ¬ ((r.Coils.length : Int) > 16) := by omega
        simp [h16, this]

/-- A rung's parts are fewer than a number. -/
def fewR (n : Nat) (r : ApiRung) : Prop := r.Coils.length < n ∧ r.Contacts.length < n

theorem rest_eq (n : Nat) (s : ApiSize) (r : ApiRung) (hn : 17 < n) (hb : n ≤ 1000000000) (hs : sizeOk s) (hf : fewR n r) : printer_rung_J1 n s r = some (restC s r) := by
  obtain ⟨hl, hc⟩ := hf
  have h4 := contacts_eq n s r (by omega) hs (by omega) (by omega) (by omega) n 0 (Nat.zero_le _) (by omega)
  simp only [Int.natCast_zero, List.drop_zero] at h4
  unfold printer_rung_J1 restC contactsC2
  rw [h4]
  by_cases h16 : 256 < r.Contacts.length
  · have : (r.Contacts.length : Int) > 256 := by omega
    simp [h16, this]
  · have : ¬ ((r.Contacts.length : Int) > 256) := by omega
    simp [h16, this]

def idxS (p : ApiRung → Bool) : List ApiRung → Nat → Int
  | [], _ => -1
  | x :: xs, i => if p x = true then i else idxS p xs (i + 1)

theorem idxS_any (p : ApiRung → Bool) : ∀ (l : List ApiRung) (i : Nat), decide (idxS p l i ≥ 0) = l.any p
  | [], i => by simp [idxS]
  | x :: xs, i => by
    unfold idxS
    cases h : p x with
    | true => simp [h]
    | false => simpa [h] using idxS_any p xs (i + 1)

theorem idx86 (n : Nat) (s : List ApiRung) (b : ApiRung) (hl : s.length ≤ 1000000000) : ∀ (k i : Nat), i ≤ s.length → s.length - i < k → slices_IndexFunc_api_Rung_c86_L1 n s b k i = some (idxS (fun x => decide (x.Label = b.Label)) (s.drop i) i)
  | 0, i, h1, h2 => by omega
  | k + 1, i, h1, h2 => by
    unfold slices_IndexFunc_api_Rung_c86_L1
    by_cases hi : i < s.length
    · obtain ⟨c, hc⟩ := get_ex hi
      have hlt : (i : Int) < s.length := by omega
      have hw := wrapN (i := i) (by omega)
      rw [drop_cons hc]
      have ih := idx86 n s b hl k (i + 1) (by omega) (by omega)
      simp only [atI_nat, hc, hlt, decide_true, if_true, Option.bind_some, hw, printer_rung_1, idxS]
      by_cases h : c.Label = b.Label
      · simp [h]
      · simpa [h] using ih
    · have hge : ¬ (i : Int) < s.length := by omega
      simp [hge, List.drop_eq_nil_of_le (show s.length ≤ i by omega), idxS]

theorem idx54 (n : Nat) (s : List ApiRung) (b : ApiRung) (hl : s.length ≤ 1000000000) : ∀ (k i : Nat), i ≤ s.length → s.length - i < k → slices_IndexFunc_api_Rung_c54_L1 n s b k i = some (idxS (fun x => decide (x.Label = b.Jump)) (s.drop i) i)
  | 0, i, h1, h2 => by omega
  | k + 1, i, h1, h2 => by
    unfold slices_IndexFunc_api_Rung_c54_L1
    by_cases hi : i < s.length
    · obtain ⟨c, hc⟩ := get_ex hi
      have hlt : (i : Int) < s.length := by omega
      have hw := wrapN (i := i) (by omega)
      rw [drop_cons hc]
      have ih := idx54 n s b hl k (i + 1) (by omega) (by omega)
      simp only [atI_nat, hc, hlt, decide_true, if_true, Option.bind_some, hw, printer_Check_1, idxS]
      by_cases h : c.Label = b.Jump
      · simp [h]
      · simpa [h] using ih
    · have hge : ¬ (i : Int) < s.length := by omega
      simp [hge, List.drop_eq_nil_of_le (show s.length ≤ i by omega), idxS]

theorem contains86 (n : Nat) (s : List ApiRung) (b : ApiRung) (hl : s.length < n) (hn : n ≤ 1000000000) : slices_ContainsFunc_api_Rung_c86 n s b = some (s.any fun x => decide (x.Label = b.Label)) := by
  unfold slices_ContainsFunc_api_Rung_c86 slices_IndexFunc_api_Rung_c86
  have := idx86 n s b (by omega) n 0 (Nat.zero_le _) (by omega)
  simp only [Int.natCast_zero, List.drop_zero] at this
  rw [this, Option.bind_some, idxS_any]

theorem contains54 (n : Nat) (s : List ApiRung) (b : ApiRung) (hl : s.length < n) (hn : n ≤ 1000000000) : slices_ContainsFunc_api_Rung_c54 n s b = some (s.any fun x => decide (x.Label = b.Jump)) := by
  unfold slices_ContainsFunc_api_Rung_c54 slices_IndexFunc_api_Rung_c54
  have := idx54 n s b (by omega) n 0 (Nat.zero_le _) (by omega)
  simp only [Int.natCast_zero, List.drop_zero] at this
  rw [this, Option.bind_some, idxS_any]

end Go.G

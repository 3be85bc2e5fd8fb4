/- Small lemmas on the words of models. -/
import Derived.Test.YtgbgmijighbfbaaGMod
set_option linter.unusedSimpArgs false
set_option linter.unusedVariables false
set_option linter.unusedSectionVars false
namespace Go.G
open Go.Av

theorem atI_nat {α : Type} (l : List α) (i : Nat) : atI l (i : Int) = l[i]? := by simp [atI]
theorem atI_get {α : Type} {l : List α} {k : Int} (h0 : 0 ≤ k) (h1 : k < l.length) : ∃ x, l[k.toNat]? = some x ∧ atI l k = some x := by
  have : k.toNat < l.length := by omega
  exact ⟨l[k.toNat], List.getElem?_eq_getElem this, by simp [atI, h0]⟩
theorem wrapN {i : Nat} (h : i ≤ 1000000000000) : IntKind.i64.wrap ((i : Int) + 1) = ((i + 1 : Nat) : Int) := by rw [IntKind.wrap_i64]; omega
theorem wrapI {i : Int} (h0 : -4611686018427387904 ≤ i) (h : i ≤ 9223372036854775807) : IntKind.i64.wrap i = i := by rw [IntKind.wrap_i64]; omega
theorem get_ex {α : Type} {l : List α} {i : Nat} (h : i < l.length) : ∃ x, l[i]? = some x := ⟨l[i], List.getElem?_eq_getElem h⟩
theorem drop_cons {α : Type} {l : List α} {i : Nat} {x : α} (h : l[i]? = some x) : l.drop i = x :: l.drop (i + 1) := by
  obtain ⟨hi, e⟩ := List.getElem?_eq_some_iff.1 h
  rw [List.drop_eq_getElem_cons hi, e]

/-- A bit of an image. -/
def getS (l : List Bool) (i : Int) : Bool × Int := match atI l i with | some x => (x, 0) | none => (false, 3)
theorem atI_none {α : Type} {l : List α} {k : Int} (h : ¬ (0 ≤ k ∧ k < l.length)) : atI l k = none := by
  unfold atI; split
  · rw [List.getElem?_eq_none]; omega
  · rfl
def readS (ins : List Bool) (st : ApiState) (a : ApiAddr) : Bool × Int :=
  if a.Space = 0 then getS ins a.N else if a.Space = 1 then getS st.Q a.N else if a.Space = 2 then getS st.M a.N else (false, 8)
def noState : ApiState := ⟨[], [], []⟩
def writeS (st : ApiState) (a : ApiAddr) (v : Bool) : ApiState × Int :=
  if a.Space = 1 then (if 0 ≤ a.N ∧ a.N < st.Q.length then (⟨st.Q.set a.N.toNat v, st.M, st.E⟩, 0) else (noState, 3))
  else if a.Space = 2 then (if 0 ≤ a.N ∧ a.N < st.M.length then (⟨st.Q, st.M.set a.N.toNat v, st.E⟩, 0) else (noState, 3))
  else (noState, 8)

def small (st : ApiState) : Prop := st.Q.length ≤ 1000000000 ∧ st.M.length ≤ 1000000000 ∧ st.E.length ≤ 1000000000

theorem image_is_eq (n : Nat) (l : List Bool) (i : Int) : image_is n l i = some (decide (0 ≤ i) && decide (i < l.length)) := by
  unfold image_is
  by_cases h : 0 ≤ i <;> simp [h]

theorem image_Get_eq (n : Nat) (l : List Bool) (i : Int) : image_Get n l i = some (getS l i) := by
  unfold image_Get getS
  rw [image_is_eq]
  by_cases h : 0 ≤ i ∧ i < l.length
  · obtain ⟨x, h1, h2⟩ := atI_get h.1 h.2
    simp [h, h2]
  · have : (decide (0 ≤ i) && decide (i < (l.length : Int))) = false := by simp; omega
    simp [this, atI_none h]

theorem clone_eq (n : Nat) (l : List Bool) (h : l.length ≤ 1000000000) : slices_Clone_bool n l = some l := by
  unfold slices_Clone_bool isnilM
  cases l <;> simp_all

theorem clone_o0_eq (n : Nat) (l : List Bool) (h : l.length ≤ 1000000000) : slices_Clone_bool_o0 n l = some l := by
  unfold slices_Clone_bool_o0 isnilM
  cases l <;> simp_all

theorem image_Set_eq (n : Nat) (l : List Bool) (i : Int) (v : Bool) (h : l.length ≤ 1000000000) : image_Set n l i v = some (if 0 ≤ i ∧ i < l.length then (l.set i.toNat v, 0) else ([], 3)) := by
  unfold image_Set
  rw [image_is_eq]
  by_cases hi : 0 ≤ i ∧ i < l.length
  · obtain ⟨x, h1, h2⟩ := atI_get hi.1 hi.2
    have h3 : (l.length : Int) ≤ 1000000000 := by omega
    simp [hi, h3, h2]
  · have : (decide (0 ≤ i) && decide (i < (l.length : Int))) = false := by simp; omega
    simp [this, hi]

theorem state_Read_eq (n : Nat) (ins : List Bool) (st : ApiState) (a : ApiAddr) : state_Read n ins st a = some (readS ins st a) := by
  unfold state_Read readS
  by_cases h0 : a.Space < 0
  · have : ¬ a.Space = 0 ∧ ¬ a.Space = 1 ∧ ¬ a.Space = 2 := by omega
    simp [h0, this]
  · by_cases h3 : 3 ≤ a.Space
    · have : ¬ a.Space = 0 ∧ ¬ a.Space = 1 ∧ ¬ a.Space = 2 := by omega
      simp [h0, h3, this]
    · rcases (show a.Space = 0 ∨ a.Space = 1 ∨ a.Space = 2 by omega) with h | h | h <;> simp [h, image_Get_eq]

theorem ref03_Read_eq (n : Nat) (ins : List Bool) (st : ApiState) (a : ApiAddr) : ref03_Read n ins st a = some (readS ins st a) := by
  have core : ∀ l, ref03_Read_J1 a l = some (getS l a.N) := by
    intro l
    unfold ref03_Read_J1 getS
    by_cases h : 0 ≤ a.N ∧ a.N < l.length
    · obtain ⟨x, h1, h2⟩ := atI_get h.1 h.2
      have : ¬ a.N < 0 ∧ ¬ (l.length : Int) ≤ a.N := by omega
      simp [h2, this]
    · by_cases h0 : a.N < 0
      · simp [h0, atI_none h]
      · have : (l.length : Int) ≤ a.N := by omega
        simp [h0, this, atI_none h]
  unfold ref03_Read readS
  simp only [core]
  by_cases h0 : a.Space = 0
  · simp [h0]
  · by_cases h1 : a.Space = 1
    · simp [h1]
    · by_cases h2 : a.Space = 2
      · simp [h2]
      · simp [h0, h1, h2]

theorem state_Clone_eq (n : Nat) (st : ApiState) (h : small st) : state_Clone n st = some st := by
  unfold state_Clone
  rw [clone_eq _ _ h.1, clone_eq _ _ h.2.1, clone_eq _ _ h.2.2]; rfl
theorem state_Clone_o2_eq (n : Nat) (st : ApiState) (h : small st) : state_Clone_o2 n st = some st := by
  unfold state_Clone_o2
  rw [clone_eq _ _ h.1, clone_eq _ _ h.2.1, clone_o0_eq _ _ h.2.2]; rfl
theorem ref03_Clone_eq (n : Nat) (st : ApiState) (h : small st) : ref03_Clone n st = some st := by
  unfold ref03_Clone; simp [h.1, h.2.1, h.2.2]
theorem ref03_Clone_o0_1_eq (n : Nat) (st : ApiState) (h : small st) : ref03_Clone_o0_1 n st = some st := by
  unfold ref03_Clone_o0_1; simp [h.1, h.2.1, h.2.2]

theorem state_Write_eq (n : Nat) (st : ApiState) (a : ApiAddr) (v : Bool) (h : small st) : state_Write n st a v = some (writeS st a v) := by
  unfold state_Write writeS noState
  rw [state_Clone_eq _ _ h, image_Set_eq _ _ _ _ h.1, image_Set_eq _ _ _ _ h.2.1]
  by_cases h1 : a.Space = 1
  · by_cases hi : 0 ≤ a.N ∧ a.N < st.Q.length
    · simp [h1, hi, state_Write_J1]
    · simp [h1, hi, state_Write_J1]
  · by_cases h2 : a.Space = 2
    · by_cases hi : 0 ≤ a.N ∧ a.N < st.M.length
      · simp [h2, hi, state_Write_J1]
      · simp [h2, hi, state_Write_J1]
    · simp [h1, h2, state_Write_J1]

theorem ref03_Write_eq (n : Nat) (st : ApiState) (a : ApiAddr) (v : Bool) (h : small st) : ref03_Write n st a v = some (writeS st a v) := by
  unfold ref03_Write writeS noState
  rw [ref03_Clone_o0_1_eq _ _ h]
  by_cases h1 : a.Space = 1
  · by_cases hi : 0 ≤ a.N ∧ a.N < st.Q.length
    · obtain ⟨x, _, h4⟩ := atI_get hi.1 hi.2
      have : ¬ a.N < 0 ∧ ¬ (st.Q.length : Int) ≤ a.N := by omega
      simp [h1, hi, h4, this]
    · by_cases h0 : a.N < 0
      · simp [h1, h0, hi]
      · have : (st.Q.length : Int) ≤ a.N := by omega
        simp [h1, h0, this, hi]
  · by_cases h2 : a.Space = 2
    · by_cases hi : 0 ≤ a.N ∧ a.N < st.M.length
      · obtain ⟨x, _, h4⟩ := atI_get hi.1 hi.2
        have : ¬ a.N < 0 ∧ ¬ (st.M.length : Int) ≤ a.N := by omega
        simp [h2, hi, h4, this]
      · by_cases h0 : a.N < 0
        · simp [h2, h0, hi]
        · have : (st.M.length : Int) ≤ a.N := by omega
          simp [h2, h0, this, hi]
    · simp [h1, h2]

/-! ### comparing -/

theorem eqL_bool (a b : List Bool) (hl : a.length = b.length) (hb : b.length ≤ 1000000000) : ∀ (k i : Nat), i ≤ a.length → a.length - i < k →
    ref02_Equal_L1 a b k i = some (decide (a.drop i = b.drop i)) ∧ slices_Equal_bool_L1 a b k i = some (decide (a.drop i = b.drop i))
  | 0, i, h1, h2 => by omega
  | k + 1, i, h1, h2 => by
    unfold ref02_Equal_L1 slices_Equal_bool_L1
    by_cases hi : i < a.length
    · obtain ⟨x, hx⟩ := get_ex hi
      obtain ⟨y, hy⟩ := get_ex (l := b) (i := i) (by omega)
      obtain ⟨ih1, ih2⟩ := eqL_bool a b hl hb k (i + 1) (by omega) (by omega)
      have hlt : (i : Int) < a.length := by omega
      have hw := wrapN (i := i) (by omega)
      simp only [atI_nat, hx, hy, hlt, decide_true, if_true, Option.bind_some, hw, ih1, ih2, drop_cons hx, drop_cons hy, List.cons.injEq]
      by_cases e : x = y <;> simp [e]
    · have hge : ¬ (i : Int) < a.length := by omega
      simp [hge, List.drop_eq_nil_of_le (show a.length ≤ i by omega), List.drop_eq_nil_of_le (show b.length ≤ i by omega)]

theorem ref02_Equal_eq (n : Nat) (a b : List Bool) (h : a.length < n) (hb : b.length ≤ 1000000000) : ref02_Equal n a b = some (decide (a = b)) := by
  unfold ref02_Equal
  by_cases hl : a.length = b.length
  · have := (eqL_bool a b hl hb n 0 (Nat.zero_le _) (by omega)).1
    simp [hl] at this ⊢
    exact this
  · have : a ≠ b := fun e => hl (by rw [e])
    have h2 : ((a.length : Int) != (b.length : Int)) = true := by simp; omega
    simp [this, h2]

theorem slices_Equal_eq (n : Nat) (a b : List Bool) (h : a.length < n) (hb : b.length ≤ 1000000000) : slices_Equal_bool n a b = some (decide (a = b)) := by
  unfold slices_Equal_bool
  by_cases hl : a.length = b.length
  · have := (eqL_bool a b hl hb n 0 (Nat.zero_le _) (by omega)).2
    simp [hl] at this ⊢
    exact this
  · have : a ≠ b := fun e => hl (by rw [e])
    have h2 : ((a.length : Int) != (b.length : Int)) = true := by simp; omega
    simp [this, h2]

theorem ref03_Equal_eq (n : Nat) (a b : ApiState) (h1 : a.Q.length < n ∧ a.M.length < n ∧ a.E.length < n) (hb : small b) : ref03_Equal n a b = some (decide (a = b)) := by
  unfold ref03_Equal
  rw [ref02_Equal_eq _ _ _ h1.1 hb.1, ref02_Equal_eq _ _ _ h1.2.1 hb.2.1, ref02_Equal_eq _ _ _ h1.2.2 hb.2.2]
  cases a; cases b
  simp only [ApiState.mk.injEq]
  simp only [Option.bind_some, decide_eq_true_eq]
  split
  · split
    · rename_i e1 e2; simp [e1, e2]
    · rename_i e1 e2; simp [e2]
  · rename_i e1; simp [e1]

end Go.G

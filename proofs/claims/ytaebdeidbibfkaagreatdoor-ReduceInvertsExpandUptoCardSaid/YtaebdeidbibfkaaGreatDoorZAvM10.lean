/- Sorting: what a sort answers, as a plain law over lists. No law of the program is proved here. -/
import Derived.Test.YtaebdeidbibfkaaGreatDoorZAvM9
set_option linter.unusedSimpArgs false
set_option linter.unusedVariables false
set_option linter.unusedSectionVars false
namespace Go.Av

/-- 'less' of a comparison that may fail. -/
def ltM {α : Type} (cf : α → α → Option Int) (a b : α) : Bool := match cf a b with | some c => decide (c < 0) | none => false

def pairB {α : Type} (p : α → α → Bool) : List α → Bool
  | [] => true
  | a :: l => l.all (p a) && pairB p l

/-- The comparison answers on the list's elements, and is a strict order there in which any two places differ. -/
def sortOk {α : Type} (cf : α → α → Option Int) (l : List α) : Bool :=
  (l.all fun a => l.all fun b => (cf a b).isSome) && ((l.all fun a => !ltM cf a a) && (pairB (fun a b => ltM cf a b || ltM cf b a) l && (l.all fun a => l.all fun b => l.all fun c => !(ltM cf a b && ltM cf b c) || ltM cf a c)))

def insM {α : Type} (lt : α → α → Bool) (a : α) : List α → List α
  | [] => [a]
  | b :: l => bif lt a b then a :: b :: l else b :: insM lt a l
def isortM {α : Type} (lt : α → α → Bool) : List α → List α
  | [] => []
  | a :: l => insM lt a (isortM lt l)

/-- slices.SortFunc on a list that is not empty, where the result is determined. -/
def sortM {α : Type} (cf : α → α → Option Int) (l : List α) : Option (List α) :=
  bif Nat.ble 1 l.length && (Nat.ble l.length 1000000000 && sortOk cf l) then some (isortM (ltM cf) l) else none

/-- What 'sortOk' says. -/
structure SortP {α : Type} (cf : α → α → Option Int) (l : List α) : Prop where
  tot : ∀ a ∈ l, ∀ b ∈ l, ∃ c, cf a b = some c
  irr : ∀ a ∈ l, ltM cf a a = false
  tri : l.Pairwise fun a b => ltM cf a b = true ∨ ltM cf b a = true
  tr : ∀ a ∈ l, ∀ b ∈ l, ∀ c ∈ l, ltM cf a b = true → ltM cf b c = true → ltM cf a c = true

theorem pairB_iff {α : Type} (p : α → α → Bool) : ∀ l : List α, pairB p l = true ↔ l.Pairwise fun a b => p a b = true
  | [] => by simp [pairB]
  | a :: l => by simp [pairB, pairB_iff p l]

theorem sortOk_iff {α : Type} (cf : α → α → Option Int) (l : List α) : sortOk cf l = true ↔ SortP cf l := by
  unfold sortOk
  rw [Bool.and_eq_true, Bool.and_eq_true, Bool.and_eq_true, pairB_iff]
  constructor
  · rintro ⟨h1, h2, h3, h4⟩
    refine ⟨?_, ?_, ?_, ?_⟩
    · intro a ha b hb
      have := List.all_eq_true.1 (List.all_eq_true.1 h1 a ha) b hb
      exact Option.isSome_iff_exists.1 this
    · intro a ha
      have := List.all_eq_true.1 h2 a ha
      simpa using this
    · exact h3.imp fun h => by simpa using h
    · intro a ha b hb c hc h h'
      have := List.all_eq_true.1 (List.all_eq_true.1 (List.all_eq_true.1 h4 a ha) b hb) c hc
      rw [h, h'] at this
      simpa using this
  · rintro ⟨h1, h2, h3, h4⟩
    refine ⟨?_, ?_, ?_, ?_⟩
    · refine List.all_eq_true.2 fun a ha => List.all_eq_true.2 fun b hb => ?_
      exact Option.isSome_iff_exists.2 (h1 a ha b hb)
    · refine List.all_eq_true.2 fun a ha => ?_
      simp [h2 a ha]
    · exact h3.imp fun h => by simpa using h
    · refine List.all_eq_true.2 fun a ha => List.all_eq_true.2 fun b hb => List.all_eq_true.2 fun c hc => ?_
      cases h : ltM cf a b with
      | false => simp
      | true =>
        cases h' : ltM cf b c with
        | false => simp
        | true => simp [h4 a ha b hb c hc h h']

section
variable {α : Type} {cf : α → α → Option Int} {l : List α}

/-- Two elements of which neither is less are one. -/
theorem SortP.eq_of (h : SortP cf l) {a b : α} (ha : a ∈ l) (hb : b ∈ l) (h1 : ltM cf a b = false) (h2 : ltM cf b a = false) : a = b := by
  by_cases e : a = b
  · exact e
  · exfalso
    have key : ∀ l : List α, (l.Pairwise fun a b => ltM cf a b = true ∨ ltM cf b a = true) → a ∈ l → b ∈ l → False := by
      intro l
      induction l with
      | nil => intro _ h; cases h
      | cons c l ih =>
        intro hp ha hb
        rw [List.pairwise_cons] at hp
        rcases List.mem_cons.1 ha with ea | ha'
        · rcases List.mem_cons.1 hb with eb | hb'
          · exact e (ea.trans eb.symm)
          · subst ea; have := hp.1 b hb'; simp [h1, h2] at this
        · rcases List.mem_cons.1 hb with eb | hb'
          · subst eb; have := hp.1 a ha'; simp [h1, h2] at this
          · exact ih hp.2 ha' hb'
    exact key l h.tri ha hb

theorem SortP.asym (h : SortP cf l) {a b : α} (ha : a ∈ l) (hb : b ∈ l) (h1 : ltM cf a b = true) : ltM cf b a = false := by
  cases h2 : ltM cf b a with
  | false => rfl
  | true => rw [← h.irr a ha]; exact (h.tr a ha b hb a ha h1 h2).symm

theorem SortP.ntr (h : SortP cf l) {a b c : α} (ha : a ∈ l) (hb : b ∈ l) (hc : c ∈ l) (h1 : ltM cf a b = false) (h2 : ltM cf b c = false) : ltM cf a c = false := by
  cases h3 : ltM cf a c with
  | false => rfl
  | true =>
    exfalso
    cases h4 : ltM cf b a with
    | false =>
      have e := h.eq_of ha hb h1 h4; subst e; rw [h3] at h2; cases h2
    | true =>
      have := h.tr b hb a ha c hc h4 h3; rw [this] at h2; cases h2

theorem SortP.perm {l' : List α} (h : SortP cf l) (hp : l'.Perm l) : SortP cf l' :=
  ⟨fun a ha b hb => h.tot a (hp.subset ha) b (hp.subset hb), fun a ha => h.irr a (hp.subset ha),
   h.tri.perm hp.symm (fun h => Or.symm h), fun a ha b hb c hc => h.tr a (hp.subset ha) b (hp.subset hb) c (hp.subset hc)⟩

theorem SortP.tail {a : α} (h : SortP cf (a :: l)) : SortP cf l :=
  ⟨fun a ha b hb => h.tot a (.tail _ ha) b (.tail _ hb), fun a ha => h.irr a (.tail _ ha), (List.pairwise_cons.1 h.tri).2,
   fun a ha b hb c hc => h.tr a (.tail _ ha) b (.tail _ hb) c (.tail _ hc)⟩

theorem insM_perm (lt : α → α → Bool) (a : α) : ∀ l : List α, (insM lt a l).Perm (a :: l)
  | [] => .refl _
  | b :: l => by
    simp only [insM]
    cases lt a b with
    | true => exact .refl _
    | false => exact ((insM_perm lt a l).cons b).trans (List.Perm.swap _ _ _)

theorem isortM_perm (lt : α → α → Bool) : ∀ l : List α, (isortM lt l).Perm l
  | [] => .refl _
  | a :: l => (insM_perm lt a _).trans ((isortM_perm lt l).cons a)

/-- Ascending: no later one is less than an earlier one. -/
def AscM (cf : α → α → Option Int) (l : List α) : Prop := l.Pairwise fun a b => ltM cf b a = false

theorem insM_asc (a : α) : ∀ l : List α, SortP cf (a :: l) → AscM cf l → AscM cf (insM (ltM cf) a l)
  | [], _, _ => by simp [insM, AscM]
  | b :: l, h, hs => by
    simp only [insM]
    have hs' := List.pairwise_cons.1 hs
    cases e : ltM cf a b with
    | true =>
      refine List.pairwise_cons.2 ⟨?_, hs⟩
      intro c hc
      rcases List.mem_cons.1 hc with rfl | hc
      · exact h.asym (.head _) (.tail _ (.head _)) e
      · refine h.ntr (.tail _ (.tail _ hc)) (.tail _ (.head _)) (.head _) (hs'.1 c hc) ?_
        exact h.asym (.head _) (.tail _ (.head _)) e
    | false =>
      have h2 : SortP cf (a :: l) := SortP.tail (a := b) (h.perm (List.Perm.swap _ _ _))
      refine List.pairwise_cons.2 ⟨?_, insM_asc a l h2 hs'.2⟩
      intro c hc
      rcases List.mem_cons.1 ((insM_perm _ a l).subset hc) with rfl | hc
      · exact e
      · exact hs'.1 c hc

theorem SortP.asc : ∀ {l : List α}, SortP cf l → AscM cf (isortM (ltM cf) l)
  | [], _ => by simp [isortM, AscM]
  | a :: l, h => insM_asc a _ (h.perm ((isortM_perm _ l).cons a)) (h.tail.asc)

/-- There is one sorted permutation. -/
theorem SortP.unique (h : SortP cf l) : ∀ {l1 l2 : List α}, (∀ x ∈ l1, x ∈ l) → l1.Perm l2 → AscM cf l1 → AscM cf l2 → l1 = l2
  | [], l2, _, hp, _, _ => by simpa using hp.symm
  | a :: l1, [], _, hp, _, _ => by simp at hp
  | a :: l1, b :: l2, hm, hp, h1, h2 => by
    have h1' := List.pairwise_cons.1 h1
    have h2' := List.pairwise_cons.1 h2
    have hbl : b ∈ l := hm b (hp.symm.subset (.head _))
    have e : a = b := by
      rcases List.mem_cons.1 (hp.subset (List.Mem.head l1)) with e | ha
      · exact e
      · rcases List.mem_cons.1 (hp.symm.subset (List.Mem.head l2)) with e | hb
        · exact e.symm
        · exact h.eq_of (hm a (.head _)) hbl (h2'.1 a ha) (h1'.1 b hb)
    subst e
    rw [h.unique (fun x hx => hm x (.tail _ hx)) ((List.perm_cons a).1 hp) h1'.2 h2'.2]

theorem sortM_ok {r : List α} (h : sortM cf l = some r) : 1 ≤ l.length ∧ SortP cf l ∧ r = isortM (ltM cf) l := by
  unfold sortM at h
  cases hb : (Nat.ble 1 l.length && (Nat.ble l.length 1000000000 && sortOk cf l)) with
  | false => rw [hb] at h; cases h
  | true =>
    rw [hb, cond_true, Option.some.injEq] at h
    rw [Bool.and_eq_true, Bool.and_eq_true, sortOk_iff] at hb
    exact ⟨Nat.le_of_ble_eq_true hb.1, hb.2.2, h.symm⟩

theorem sortM_length {r : List α} (h : sortM cf l = some r) : r.length = l.length := by
  obtain ⟨_, _, rfl⟩ := sortM_ok h
  exact (isortM_perm _ l).length_eq

theorem sortM_of (h1 : 1 ≤ l.length) (h2 : l.length ≤ 1000000000) (h : SortP cf l) : sortM cf l = some (isortM (ltM cf) l) := by
  unfold sortM
  rw [Nat.ble_eq_true_of_le h1, Nat.ble_eq_true_of_le h2, (sortOk_iff cf l).2 h]; rfl

/-- A comparison of keys, each key once. -/
theorem SortP.of_key (key : α → Int) (hc : ∀ a ∈ l, ∀ b ∈ l, ∃ c, cf a b = some c ∧ (c < 0 ↔ key a < key b)) (hd : (l.map key).Nodup) : SortP cf l := by
  have hl : ∀ a ∈ l, ∀ b ∈ l, (ltM cf a b = true ↔ key a < key b) := fun a ha b hb => by
    obtain ⟨c, e, h⟩ := hc a ha b hb
    simp [ltM, e, h]
  refine ⟨fun a ha b hb => (hc a ha b hb).imp fun _ h => h.1, fun a ha => ?_, ?_, fun a ha b hb c hc h1 h2 => ?_⟩
  · cases h : ltM cf a a with
    | false => rfl
    | true => have := (hl a ha a ha).1 h; omega
  · have : l.Pairwise fun a b => key a ≠ key b := List.pairwise_map.1 hd
    refine (List.pairwise_iff_forall_sublist.2 ?_)
    intro a b hs
    have hne := (List.pairwise_iff_forall_sublist.1 this) hs
    have ha : a ∈ l := hs.subset (.head _)
    have hb : b ∈ l := hs.subset (.tail _ (.head _))
    rcases Int.lt_or_gt_of_ne hne with h | h
    · exact .inl ((hl a ha b hb).2 h)
    · exact .inr ((hl b hb a ha).2 h)
  · have h1 := (hl a ha b hb).1 h1
    have h2 := (hl b hb c hc).1 h2
    exact (hl a ha c hc).2 (by omega)
end
end Go.Av

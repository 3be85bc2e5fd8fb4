/- The law of monotony on models. -/
import Derived.Test.YtgbgmijighbfbaaP4
set_option linter.unusedSimpArgs false
set_option linter.unusedVariables false
set_option linter.unusedSectionVars false
namespace Go.G
open Go.Av

theorem Reach.mono {cs cs' : List ApiContact} {on on' : List Bool} (h1 : ∀ (i : Nat) (c : ApiContact), cs[i]? = some c → on[i]? = some true → cs'[i]? = some c ∧ on'[i]? = some true) {x : Str} (h : Reach cs on x) : Reach cs' on' x := by
  induction h with
  | left => exact .left
  | step i c a b _ ih => exact .step i c (h1 i c a b).1 (h1 i c a b).2 ih

theorem reachB_true {cs : List ApiContact} {on : List Bool} : reachB cs on = true ↔ Reach cs on strR := by unfold reachB; simp

def wire : ApiContact := ⟨0, ⟨0, 0⟩, ⟨#[76]⟩, ⟨#[82]⟩⟩

theorem reach_wire {cs : List ApiContact} {on : List Bool} (hl : on.length = cs.length) : reachB (cs ++ [wire]) (on ++ [true]) = true := by
  rw [reachB_true]
  refine Reach.step cs.length wire ?_ ?_ .left
  · rw [List.getElem?_append_right (Nat.le_refl _)]; simp
  · rw [← hl, List.getElem?_append_right (Nat.le_refl _)]; simp

theorem reach_open {cs : List ApiContact} {on : List Bool} (hl : on.length = cs.length) : reachB (cs ++ [wire]) (on ++ [false]) = reachB cs on := by
  have h : reachB (cs ++ [wire]) (on ++ [false]) = true ↔ reachB cs on = true := by
    rw [reachB_true, reachB_true]
    constructor
    · refine Reach.mono fun i c a b => ?_
      have hi : i < on.length := by
        have := get_lt b
        simp only [List.length_append, List.length_cons, List.length_nil] at this
        by_cases hh : i < on.length
        · exact hh
        · have he : i = on.length := by omega
          subst he
          rw [List.getElem?_append_right (Nat.le_refl _)] at b
          simp at b
      rw [List.getElem?_append_left hi] at b
      rw [List.getElem?_append_left (by omega)] at a
      exact ⟨a, b⟩
    · exact Reach.mono fun i c a b => ⟨by rw [List.getElem?_append_left (get_lt a)]; exact a, by rw [List.getElem?_append_left (get_lt b)]; exact b⟩
  exact Bool.eq_iff_iff.2 h

theorem reach_set {cs : List ApiContact} {on : List Bool} (k : Nat) (h : reachB cs on = true) : reachB cs (on.set k true) = true := by
  rw [reachB_true] at h ⊢
  refine Reach.mono (fun i c a b => ⟨a, ?_⟩) h
  rw [List.getElem?_set]
  split
  · rename_i e; subst e; rw [if_pos (get_lt b)]
  · exact b

theorem mono_law (r : ApiRung) (on : List Bool) (a : Int) (hn : r.Contacts.length ≤ 1500000) (h0 : 0 ≤ a) (h1 : a ≤ 255) : law16_RungevalIsMonotone 2000000 r on a = some true := by
  obtain ⟨b, hb, hb2⟩ := tl12 r hn
  unfold law16_RungevalIsMonotone
  rw [hb]
  simp only [Option.bind_some, alive16]
  by_cases h2 : b > 0
  · simp [h2]
  · have h60 := hb2 h2
    by_cases h3 : on.length = r.Contacts.length
    · by_cases h4 : on.length = 0
      · simp [h4]
      · have hw : IntKind.i64.wrap a = a := wrapI (by omega) (by omega)
        have hk0 : 0 ≤ a.tmod (on.length : Int) := Int.tmod_nonneg _ h0
        have hk1 : a.tmod (on.length : Int) < on.length := Int.tmod_lt_of_pos _ (by omega)
        obtain ⟨x, hx1, hx2⟩ := atI_get (l := on) hk0 hk1
        have hset := reach_set (cs := r.Contacts) (on := on) (a.tmod (on.length : Int)).toNat
        have c1 := rungeval_Conducts_eq 2000000 r on (by omega) (by omega)
        have c2 := rungeval_Conducts_eq 2000000 r (on.set (a.tmod (on.length : Int)).toNat true) (by omega) (by omega)
        have c3 := rungeval_Conducts_eq 2000000 ⟨⟨#[]⟩, r.Contacts ++ [wire], [], ⟨#[]⟩⟩ (on ++ [true]) (by simp; omega) (by simp; omega)
        have c4 := rungeval_Conducts_eq 2000000 ⟨⟨#[]⟩, r.Contacts ++ [wire], [], ⟨#[]⟩⟩ (on ++ [false]) (by simp; omega) (by simp; omega)
        have e1 : condP r on = (reachB r.Contacts on, 0) := by unfold condP; rw [if_pos h3]
        have e2 : condP r (on.set (a.tmod (on.length : Int)).toNat true) = (reachB r.Contacts (on.set (a.tmod (on.length : Int)).toNat true), 0) := by unfold condP; rw [if_pos (by simpa using h3)]
        have e3 : condP ⟨⟨#[]⟩, r.Contacts ++ [wire], [], ⟨#[]⟩⟩ (on ++ [true]) = (true, 0) := by unfold condP; rw [if_pos (by simpa using h3), reach_wire h3]
        have e4 : condP ⟨⟨#[]⟩, r.Contacts ++ [wire], [], ⟨#[]⟩⟩ (on ++ [false]) = (reachB r.Contacts on, 0) := by unfold condP; rw [if_pos (by simpa using h3), reach_open h3]
        rw [e1] at c1; rw [e2] at c2; rw [e3] at c3; rw [e4] at c4
        have q1 : ((on.length : Int) != (r.Contacts.length : Int)) = false := by simp; omega
        have q2 : ((on.length : Int) == 0) = false := by simp; simpa using h4
        have q3 : (on.length : Int) ≠ 0 := by omega
        have q4 : on.length ≤ 1000000000 := by omega
        have q5 : r.Contacts.length ≤ 1000000000 := by omega
        have q6 : r.Contacts.length + ([(⟨0, (⟨0, 0⟩ : ApiAddr), (⟨#[76]⟩ : Str), (⟨#[82]⟩ : Str)⟩ : ApiContact)]).length ≤ 1000000000 := by simp; omega
        have q7 : ∀ b : Bool, on.length + [b].length ≤ 1000000000 := fun b => by simp; omega
        have hq : decide (b > 0) = false := by simpa using h2
        generalize (2000000 : Nat) = N at c1 c2 c3 c4 ⊢
        rw [hq, q1, q2]
        simp only [Bool.false_eq_true, if_false]
        rw [c1]
        try simp only [Option.bind_some]
        rw [if_pos q4, if_pos q3, hw, hx2]
        try simp only [Option.bind_some]
        rw [c2]
        try simp only [Option.bind_some]
        rw [if_pos q5, if_pos q6]
        try simp only [Option.bind_some]
        rw [if_pos q4, if_pos (q7 true)]
        try simp only [Option.bind_some]
        rw [show (⟨0, (⟨0, 0⟩ : ApiAddr), (⟨#[76]⟩ : Str), (⟨#[82]⟩ : Str)⟩ : ApiContact) = wire from rfl, c3]
        try simp only [Option.bind_some]
        rw [if_pos q4, if_pos (q7 false)]
        try simp only [Option.bind_some]
        rw [c4]
        cases hP : reachB r.Contacts on with
        | false => simp
        | true => simp [hset hP]
    · have q1 : ((on.length : Int) != (r.Contacts.length : Int)) = true := by simp; omega
      simp [q1]

end Go.G

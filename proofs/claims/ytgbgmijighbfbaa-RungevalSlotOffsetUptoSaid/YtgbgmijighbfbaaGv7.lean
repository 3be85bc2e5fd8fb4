/- The Av framework: operations that make memory. No law is proved here. -/
import Derived.Test.YtgbgmijighbfbaaGv6
set_option linter.unusedSimpArgs false
set_option linter.unusedVariables false
set_option linter.unusedSectionVars false
namespace Go.Av

section
variable {E0 : Env} {H0 : List AObj} {w0 : World} {E : Env} {s s' : St} {a : Act} {w : World} {P : Program} {T : TT} {o : Oper}

theorem Models.newF (h : Models E0 H0 w0 E s a w) {w' : World} (hs : Same w w') (g : Nat) (hg : w.heap.size ≤ g) (hg' : g < w'.heap.size) :
    Models E0 H0 w0 { E with F := fun b => E.F b ∨ b = g } s a w' := by
  have hle : E.Le { E with F := fun b => E.F b ∨ b = g } := ⟨fun b h => .inl h, Nat.le_refl _, fun _ _ => rfl, fun _ _ => rfl, fun _ _ => rfl, fun _ _ => rfl⟩
  have hF : ∀ b, E.F b → w'.heap[b]? = w.heap[b]? := fun b hb => hs.block b (h.heap.frz b hb)
  constructor
  · exact h.size
  · intro t; exact (h.tmps t).mono hle hF
  · refine ⟨h.heap.len, ?_, ?_, ?_, h.heap.inj, ?_⟩
    · intro id ob hid
      exact (h.heap.obj id ob hid).mono (by have := get_lt hid; have := h.heap.len; omega) hle hF (fun hne b hb => hs.block b (h.heap.lt id b ⟨ob, hid, hne⟩ hb))
    · intro id b hl hb; exact Nat.lt_of_lt_of_le (h.heap.lt id b hl hb) hs.size
    · intro id b hl hb hF'
      rcases hF' with hF' | e
      · exact h.heap.fr id b hl hb hF'
      · have := h.heap.lt id b hl hb; omega
    · intro b hb
      rcases hb with hb | e
      · exact Nat.lt_of_lt_of_le (h.heap.frz b hb) hs.size
      · subst e; exact hg'
  · exact h.base
  · exact h.old
  · exact h.new
  · exact fun b hb => .inl (h.F b hb)
  · intro b hb
    rcases hb with hb | e
    · exact h.Fnew b hb
    · subst e; exact .inr (Nat.le_trans h.keeps.size hg)
  · exact h.keeps.trans (O' := fun _ => False) hs.keeps (fun _ _ h => h.elim)

/-- An object is given up; a new one takes its block, or a new block. -/
theorem Models.moveObj (h : Models E0 H0 w0 E s a w) {id : Nat} {ob ob' : AObj} {w' : World} {r : Option Nat} {sg kp om : Nat} (hid : s.hp[id]? = some ob) (hne : ob ≠ .dead) (hb : s.base ≤ id)
    (hos : w'.os = w.os) (htape : w'.tape = w.tape) (hout : w'.output = w.output) (hfz : ∀ a, w'.frozen? a = w.frozen? a) (hsz : w.heap.size ≤ w'.heap.size)
    (hblk : ∀ b, b < w.heap.size → E.ρ id ≠ some b → w'.heap[b]? = w.heap[b]?)
    (hr : ∀ b, r = some b → b < w'.heap.size ∧ (E.ρ id = some b ∨ w.heap.size ≤ b)) (hob : ObjRep (E.new r sg kp om) w' s.hp.length ob') :
    Models E0 H0 w0 (E.new r sg kp om) { s with hp := s.hp.set id .dead ++ [ob'] } a w' := by
  have hlive : Live s.hp id := ⟨ob, hid, hne⟩
  have hN := h.heap.len
  have hle := E.new_le r sg kp om
  have hF : ∀ b, E.F b → w'.heap[b]? = w.heap[b]? := fun b hb' => hblk b (h.heap.frz b hb') (fun e => h.heap.fr id b hlive e hb')
  have hρn : (E.new r sg kp om).ρ s.hp.length = r := if_pos hN.symm
  -- what lives behind
  have hlv : ∀ i, Live (s.hp.set id .dead ++ [ob']) i → (i < s.hp.length ∧ Live s.hp i ∧ i ≠ id) ∨ i = s.hp.length := fun i hl => by
    rcases live_append hl with ⟨g, o, ho, hn⟩ | g
    · rw [List.length_set] at g
      rcases set_get ho with ⟨rfl, rfl⟩ | ⟨hij, ho⟩
      · exact absurd rfl hn
      · exact .inl ⟨g, ⟨o, ho, hn⟩, fun e => hij e.symm⟩
    · rw [List.length_set] at g; exact .inr g
  constructor
  · exact h.size
  · intro t; exact (h.tmps t).mono hle hF
  · refine ⟨by simp [Env.new, hN], ?_, ?_, ?_, ?_, ?_⟩
    · intro i oi hi
      rcases append_get hi with ⟨g, hi⟩ | ⟨g, e⟩
      · rcases set_get hi with ⟨rfl, rfl⟩ | ⟨hij, hi⟩
        · trivial
        · have hil := get_lt hi
          exact (h.heap.obj i oi hi).mono (by omega) hle hF (fun hne' b hb' => hblk b (h.heap.lt i b ⟨oi, hi, hne'⟩ hb') (fun e => hij (h.heap.inj id i b hlive ⟨oi, hi, hne'⟩ e hb')))
      · rw [List.length_set] at g; subst g; subst e; exact hob
    · intro i b hl hb'
      rcases hlv i hl with ⟨g, hl, _⟩ | g
      · rw [hle.ρ i (by omega)] at hb'; exact Nat.lt_of_lt_of_le (h.heap.lt i b hl hb') hsz
      · subst g; rw [hρn] at hb'; exact (hr b hb').1
    · intro i b hl hb' hF'
      rcases hlv i hl with ⟨g, hl, _⟩ | g
      · rw [hle.ρ i (by omega)] at hb'; exact h.heap.fr i b hl hb' hF'
      · subst g; rw [hρn] at hb'
        rcases (hr b hb').2 with q | q
        · exact h.heap.fr id b hlive q hF'
        · have := h.heap.frz b hF'; omega
    · intro i j b hi hj hbi hbj
      rcases hlv i hi with ⟨gi, hi, ni⟩ | gi <;> rcases hlv j hj with ⟨gj, hj, nj⟩ | gj
      · rw [hle.ρ i (by omega)] at hbi; rw [hle.ρ j (by omega)] at hbj; exact h.heap.inj i j b hi hj hbi hbj
      · subst gj; rw [hρn] at hbj; rw [hle.ρ i (by omega)] at hbi
        rcases (hr b hbj).2 with q | q
        · exact absurd (h.heap.inj i id b hi hlive hbi q) ni
        · have := h.heap.lt i b hi hbi; omega
      · subst gi; rw [hρn] at hbi; rw [hle.ρ j (by omega)] at hbj
        rcases (hr b hbi).2 with q | q
        · exact absurd (h.heap.inj j id b hj hlive hbj q) nj
        · have := h.heap.lt j b hj hbj; omega
      · omega
    · intro b hb'; exact Nat.lt_of_lt_of_le (h.heap.frz b hb') hsz
  · exact ⟨h.base.1, by rw [List.length_append, List.length_set]; have := h.base.2; omega⟩
  · intro i hi hl
    have hb' := h.base
    rcases hlv i hl with ⟨g, hl, _⟩ | g
    · obtain ⟨a1, a2, a3, a4, a5⟩ := h.old i hi hl
      exact ⟨a1, by rw [hle.ρ i (by omega)]; exact a2, by rw [hle.σ i (by omega)]; exact a3, by rw [hle.κ i (by omega)]; exact a4, by rw [hle.ω i (by omega)]; exact a5⟩
    · simp only at hi; omega
  · intro i b hi hl hb'
    rcases hlv i hl with ⟨g, hl, _⟩ | g
    · rw [hle.ρ i (by omega)] at hb'; exact h.new i b hi hl hb'
    · subst g; rw [hρn] at hb'
      rcases (hr b hb').2 with q | q
      · exact h.new id b hb hlive q
      · exact Nat.le_trans h.keeps.size q
  · exact h.F
  · exact h.Fnew
  · refine ⟨hos.trans h.keeps.os, htape.trans h.keeps.tape, hout.trans h.keeps.output, Nat.le_trans h.keeps.size hsz, fun b hb' hn => ?_, fun a => (hfz a).trans (h.keeps.frz a)⟩
    rw [hblk b (Nat.lt_of_lt_of_le hb' h.keeps.size) (fun e => by have := h.new id b hb hlive e; omega)]
    exact h.keeps.block b hb' hn

end
end Go.Av

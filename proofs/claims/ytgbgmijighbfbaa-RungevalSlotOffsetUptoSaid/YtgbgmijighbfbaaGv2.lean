/- The Av framework: states and the machine. No law is proved here. -/
import Derived.Test.YtgbgmijighbfbaaGv1
set_option linter.unusedSimpArgs false
set_option linter.unusedVariables false
set_option linter.unusedSectionVars false
namespace Go.Av

def Live (H : List AObj) (id : Nat) : Prop := ∃ o, H[id]? = some o ∧ o ≠ .dead

def Owned (E : Env) (H : List AObj) (b : Nat) : Prop := ∃ id, Live H id ∧ E.ρ id = some b

/-- An object that bears no mark. -/
def unf : Obj → Prop
  | .cells _ _ fr => fr = (0, 0)
  | _ => True

theorem frozen_alloc (w : World) (o : Obj) (ho : unf o) (a : Addr) : (w.alloc o).frozen? a = w.frozen? a := by
  unfold World.frozen?
  by_cases h : a.block = w.heap.size
  · have e1 : (w.alloc o).heap[a.block]? = some o := by show (w.heap.push o)[a.block]? = _; rw [h]; simp
    have e2 : w.heap[a.block]? = none := by rw [h]; simp
    rw [e1, e2]
    cases o with
    | cells c t fr => have : fr = (0, 0) := ho; subst this; simp
    | _ => rfl
  · have e1 : (w.alloc o).heap[a.block]? = w.heap[a.block]? := by show (w.heap.push o)[a.block]? = _; rw [Array.getElem?_push, if_neg h]
    rw [e1]

structure Keeps (O : Nat → Prop) (w w' : World) : Prop where
  os : w'.os = w.os
  tape : w'.tape = w.tape
  output : w'.output = w.output
  size : w.heap.size ≤ w'.heap.size
  block : ∀ b, b < w.heap.size → ¬ O b → w'.heap[b]? = w.heap[b]?
  frz : ∀ a, w'.frozen? a = w.frozen? a

theorem Keeps.refl (O : Nat → Prop) (w : World) : Keeps O w w := ⟨rfl, rfl, rfl, Nat.le_refl _, fun _ _ _ => rfl, fun _ => rfl⟩

theorem Keeps.trans {O O' : Nat → Prop} {w w1 w2 : World} (h : Keeps O w w1) (k : Keeps O' w1 w2) (hO : ∀ b, b < w.heap.size → O' b → O b) : Keeps O w w2 :=
  ⟨k.os.trans h.os, k.tape.trans h.tape, k.output.trans h.output, Nat.le_trans h.size k.size,
   fun b hb hn => (k.block b (Nat.lt_of_lt_of_le hb h.size) (fun hc => hn (hO b hb hc))).trans (h.block b hb hn), fun a => (k.frz a).trans (h.frz a)⟩

/-- All that was there stands as it stood. -/
structure Same (w w' : World) : Prop where
  os : w'.os = w.os
  tape : w'.tape = w.tape
  output : w'.output = w.output
  size : w.heap.size ≤ w'.heap.size
  block : ∀ b, b < w.heap.size → w'.heap[b]? = w.heap[b]?
  frz : ∀ a, w'.frozen? a = w.frozen? a

theorem Same.refl (w : World) : Same w w := ⟨rfl, rfl, rfl, Nat.le_refl _, fun _ _ => rfl, fun _ => rfl⟩
theorem Same.alloc (w : World) (o : Obj) (ho : unf o := by first | exact rfl | exact trivial) : Same w (w.alloc o) := ⟨rfl, rfl, rfl, by simp, fun b hb => by show (w.heap.push o)[b]? = _; rw [Array.getElem?_push, if_neg (by omega)], frozen_alloc w o ho⟩
theorem Same.drew (w : World) : Same w w.drew := ⟨rfl, rfl, rfl, Nat.le_refl _, fun _ _ => rfl, fun _ => rfl⟩
theorem Same.trans {w w1 w2 : World} (h : Same w w1) (k : Same w1 w2) : Same w w2 :=
  ⟨k.os.trans h.os, k.tape.trans h.tape, k.output.trans h.output, Nat.le_trans h.size k.size, fun b hb => (k.block b (Nat.lt_of_lt_of_le hb h.size)).trans (h.block b hb), fun a => (k.frz a).trans (h.frz a)⟩
theorem Same.keeps {O : Nat → Prop} {w w1 : World} (h : Same w w1) : Keeps O w w1 := ⟨h.os, h.tape, h.output, h.size, fun b hb _ => h.block b hb, h.frz⟩

def ArrRep (E : Env) (w : World) (id sz n : Nat) (row : Nat → List AV) : Prop :=
  E.σ id = sz ∧ 0 < sz ∧ n ≤ E.κ id ∧ E.κ id ≤ 9223372036854775807 ∧ (∀ i, i < n → (row i).length = sz) ∧
  match E.ρ id with
  | none => n = 0 ∧ E.κ id = 0
  | some b => ∃ arr ty, w.heap[b]? = some (.cells arr ty (0, 0)) ∧ (E.ω id + E.κ id) * sz ≤ arr.size ∧
      ∀ i j c, i < n → (row i)[j]? = some c → ∃ v, arr[(E.ω id + i) * sz + j]? = some v ∧ RepF E.F w c v

def VarRep (E : Env) (w : World) (id : Nat) (cs : List AV) : Prop :=
  E.ω id = 0 ∧ ∃ b arr ty, E.ρ id = some b ∧ w.heap[b]? = some (.cells arr ty (0, 0)) ∧ arr.size = cs.length ∧
    ∀ (j : Nat) c, cs[j]? = some c → isCell c = true ∧ ∃ v, arr[j]? = some v ∧ Rep E w c v

theorem fz_get {n i : Nat} {row : Nat → List AV} (h : i < n) : fz n row i = row i := if_pos h

theorem ArrRep.congr {E : Env} {w : World} {id sz n : Nat} {row row' : Nat → List AV} (h : ArrRep E w id sz n row) (hr : ∀ i, i < n → row i = row' i) : ArrRep E w id sz n row' := by
  obtain ⟨h1, h2, h3, h4, h5, h6⟩ := h
  refine ⟨h1, h2, h3, h4, fun i hi => by rw [← hr i hi]; exact h5 i hi, ?_⟩
  cases hρ : E.ρ id with
  | none => rw [hρ] at h6; exact h6
  | some b =>
    rw [hρ] at h6
    obtain ⟨arr, ty, g1, g2, g3⟩ := h6
    exact ⟨arr, ty, g1, g2, fun i j c hi hc => g3 i j c hi (by rw [hr i hi]; exact hc)⟩

theorem ArrRep.fz {E : Env} {w : World} {id sz n : Nat} {row : Nat → List AV} (h : ArrRep E w id sz n row) : ArrRep E w id sz n (fz n row) := h.congr fun _ hi => (fz_get hi).symm

theorem RepF.congr {F : Nat → Prop} {w : World} {n : Nat} {row row' : Nat → List AV} {x : Value} (h : RepF F w (.list n row) x) (hr : ∀ i, i < n → row i = row' i) : RepF F w (.list n row') x := by
  cases h with
  | empty => exact .empty _ _ _
  | list _ _ b o cap sz vs hF hcap hsz hc hf h =>
    exact .list n row' b o cap sz vs hF hcap (fun i hi => by rw [← hr i hi]; exact hsz i hi) (fun i j c hi hj => hc i j c hi (by rw [hr i hi]; exact hj))
      (fun i j c hi hj => hf i j c hi (by rw [hr i hi]; exact hj)) (fun i j c hi hj => h i j c hi (by rw [hr i hi]; exact hj))

theorem RepF.fz {F : Nat → Prop} {w : World} {n : Nat} {row : Nat → List AV} {x : Value} (h : RepF F w (.list n row) x) : RepF F w (.list n (fz n row)) x := h.congr fun _ hi => (fz_get hi).symm

def ObjRep (E : Env) (w : World) (id : Nat) : AObj → Prop
  | .dead => True
  | .slot => E.ρ id = none ∧ E.κ id = 0 ∧ E.ω id = 0
  | .var cs => VarRep E w id cs
  | .arr sz n row => ArrRep E w id sz n row
  | .map es => ∃ b mes clock, E.ρ id = some b ∧ w.heap[b]? = some (.map mes clock) ∧ mes.size = es.length ∧
      ∀ (i : Nat) e, es[i]? = some e → ∃ me, mes[i]? = some me ∧ RepP E.F w e.1 me.key ∧ RepF E.F w e.2 me.val

structure HeapOk (E : Env) (H : List AObj) (w : World) : Prop where
  len : E.N = H.length
  obj : ∀ (id : Nat) o, H[id]? = some o → ObjRep E w id o
  lt : ∀ id b, Live H id → E.ρ id = some b → b < w.heap.size
  fr : ∀ id b, Live H id → E.ρ id = some b → ¬ E.F b
  inj : ∀ i j b, Live H i → Live H j → E.ρ i = some b → E.ρ j = some b → i = j
  frz : ∀ b, E.F b → b < w.heap.size

structure Models (E0 : Env) (H0 : List AObj) (w0 : World) (E : Env) (s : St) (a : Act) (w : World) : Prop where
  size : a.tmps.size = s.n
  tmps : ∀ t, Rep E w (look s.ch t) (a.tmps.getD t undef)
  heap : HeapOk E s.hp w
  base : s.base = H0.length ∧ H0.length ≤ s.hp.length
  old : ∀ id, id < s.base → Live s.hp id → Live H0 id ∧ E.ρ id = E0.ρ id ∧ E.σ id = E0.σ id ∧ E.κ id = E0.κ id ∧ E.ω id = E0.ω id
  new : ∀ id b, s.base ≤ id → Live s.hp id → E.ρ id = some b → w0.heap.size ≤ b
  F : ∀ b, E0.F b → E.F b
  Fnew : ∀ b, E.F b → E0.F b ∨ w0.heap.size ≤ b
  keeps : Keeps (Owned E0 H0) w0 w

theorem Env.Le.refl (E : Env) : E.Le E := ⟨fun _ h => h, Nat.le_refl _, fun _ _ => rfl, fun _ _ => rfl, fun _ _ => rfl, fun _ _ => rfl⟩

theorem ObjRep.same {E : Env} {w w' : World} {id : Nat} {o : AObj} (h : ObjRep E w id o) (hF : ∀ b, E.F b → w'.heap[b]? = w.heap[b]?) (hb : o ≠ .dead → ∀ b, E.ρ id = some b → w'.heap[b]? = w.heap[b]?) : ObjRep E w' id o := by
  cases o with
  | dead => trivial
  | slot => exact h
  | var cs =>
    obtain ⟨h0, b, arr, ty, h1, h2, h3, h4⟩ := h
    refine ⟨h0, b, arr, ty, h1, by rw [hb (by simp) b h1]; exact h2, h3, fun j c hj => ?_⟩
    obtain ⟨g1, u, g2, g3⟩ := h4 j c hj
    exact ⟨g1, u, g2, g3.mono (Env.Le.refl E) hF⟩
  | arr sz n row =>
    obtain ⟨h1, h2, h3, h4, h5, h6⟩ := h
    refine ⟨h1, h2, h3, h4, h5, ?_⟩
    have hb' := hb (by simp)
    cases hρ : E.ρ id with
    | none => rw [hρ] at h6; exact h6
    | some b =>
      rw [hρ] at h6
      obtain ⟨arr, ty, g1, g2, g3⟩ := h6
      refine ⟨arr, ty, by rw [hb' b hρ]; exact g1, g2, fun i j c hi hc => ?_⟩
      obtain ⟨v, hv, hr⟩ := g3 i j c hi hc
      exact ⟨v, hv, hr.mono (fun _ h => h) hF⟩
  | map es =>
    obtain ⟨b, mes, clock, g0, g1, g2, g3⟩ := h
    refine ⟨b, mes, clock, g0, by rw [hb (by simp) b g0]; exact g1, g2, fun i e he => ?_⟩
    obtain ⟨me, h1, h2, h3⟩ := g3 i e he
    exact ⟨me, h1, h2.mono (fun _ h => h) hF, h3.mono (fun _ h => h) hF⟩

theorem HeapOk.same {E : Env} {H : List AObj} {w w' : World} (h : HeapOk E H w) (hs : Same w w') : HeapOk E H w' where
  len := h.len
  obj id o ho := (h.obj id o ho).same (fun b hb => hs.block b (h.frz b hb)) (fun hd b hb => hs.block b (h.lt id b ⟨o, ho, hd⟩ hb))
  lt id b hl hb := Nat.lt_of_lt_of_le (h.lt id b hl hb) hs.size
  fr := h.fr
  inj := h.inj
  frz b hb := Nat.lt_of_lt_of_le (h.frz b hb) hs.size

section
variable {E0 : Env} {H0 : List AObj} {w0 : World} {E : Env} {s s' : St} {a : Act} {w : World}

theorem Models.same (h : Models E0 H0 w0 E s a w) {w' : World} (hs : Same w w') : Models E0 H0 w0 E s a w' where
  size := h.size
  tmps t := (h.tmps t).mono (Env.Le.refl E) (fun b hb => hs.block b (h.heap.frz b hb))
  heap := h.heap.same hs
  base := h.base
  old := h.old
  new := h.new
  F := h.F
  Fnew := h.Fnew
  keeps := h.keeps.trans (O' := fun _ => False) hs.keeps (fun _ _ h => h.elim)

/-- The condition that has been gathered is no part of what a state says. -/
theorem Models.cond (h : Models E0 H0 w0 E s a w) (c : Prop) : Models E0 H0 w0 E { s with cond := c } a w :=
  ⟨h.size, h.tmps, h.heap, h.base, h.old, h.new, h.F, h.Fnew, h.keeps⟩

theorem getD_setIfInBounds {a : Array Value} {d t : Nat} {v z : Value} (hd : d < a.size) : (a.setIfInBounds d v).getD t z = if d = t then v else a.getD t z := by
  by_cases h : d = t
  · subst h; simp [Array.getD, hd]
  · simp only [Array.getD, Array.size_setIfInBounds, h, if_false]
    split
    · simp only [Array.getInternal_eq_getElem]; rw [Array.getElem_setIfInBounds_ne _ h]
    · rfl

theorem setd_some {d : Option Nat} {v : AV} {s' : St} (h : s.setd d v = some s') : s'.hp = s.hp ∧ s'.cond = s.cond ∧ s'.base = s.base ∧ s'.n = s.n ∧
    ((d = none ∧ s' = s) ∨ ∃ t, d = some t ∧ t < s.n ∧ s'.ch = (t, v) :: s.ch) := by
  cases d with
  | none => simp only [St.setd, Option.some.injEq] at h; subst h; simp
  | some t =>
    simp only [St.setd] at h
    cases hb : Nat.blt t s.n with
    | false => simp [hb] at h
    | true =>
      simp only [hb, cond_true, Option.some.injEq] at h
      subst h
      refine ⟨rfl, rfl, rfl, rfl, .inr ⟨t, rfl, ?_, rfl⟩⟩
      have : t + 1 ≤ s.n := by simpa [Nat.blt] using hb
      omega

theorem look_val (t : Nat) (v : AV) (r : List (Nat × AV)) (n : Nat) : look ((t, v) :: r) n = if t = n then v else look r n := by
  show (bif Nat.beq t n then v else look r n) = _
  by_cases h : t = n
  · subst h; simp
  · rw [if_neg h]
    have : Nat.beq t n = false := by
      cases hb : Nat.beq t n with
      | false => rfl
      | true => exact absurd (Nat.eq_of_beq_eq_true hb) h
    rw [this]; rfl

/-- A value laid into a temporary. -/
theorem Models.setd (h : Models E0 H0 w0 E s a w) {d : Option Nat} {v : AV} {x : Value} {s' : St} (hs : s.setd d v = some s') (hv : Rep E w v x) : Models E0 H0 w0 E s' (a.put d x) w := by
  obtain ⟨e1, e2, e3, e4, e5⟩ := setd_some hs
  rcases e5 with ⟨rfl, rfl⟩ | ⟨t, rfl, ht, e5⟩
  · exact h
  · constructor
    · simp only [Act.put, Array.size_setIfInBounds, e4]; exact h.size
    · intro n
      rw [e5, look_val]
      simp only [Act.put]
      rw [getD_setIfInBounds (by rw [h.size]; exact ht)]
      split
      · exact hv
      · exact h.tmps n
    · rw [e1]; exact h.heap
    · rw [e1, e3]; exact h.base
    · rw [e1, e3]; exact h.old
    · rw [e1, e3]; exact h.new
    · exact h.F
    · exact h.Fnew
    · exact h.keeps

end
end Go.Av
